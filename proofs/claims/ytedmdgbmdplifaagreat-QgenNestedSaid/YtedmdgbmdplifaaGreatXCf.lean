/-
  Part of the proof: the texts S2, S3, AE, AF, AG, AH, AV, AW, AX, AY, B0, C0, C1, C2, BY, C3, R5, R6, S4, D0, D1, V0, C4, C5, C6, V1, EK, PB, shortened. Conditions are with the theorems.
-/
import Derived.Test.YtedmdgbmdplifaaGreatXCa
import Derived.Test.YtedmdgbmdplifaaGreatXCb
import Derived.Test.YtedmdgbmdplifaaGreatXCc
import Derived.Test.YtedmdgbmdplifaaGreatXCd
import Derived.Test.YtedmdgbmdplifaaGreatXCe
set_option maxHeartbeats 32000000
set_option maxRecDepth 100000
namespace Go.Proofs.YtedmdgbmdplifaaGreat
set_option linter.unusedSimpArgs false
set_option linter.unusedVariables false
open Go.RowKit Tryz
structure Sb where
 fr:Vs
 vN:SV
 vV:SV
 done:Bool
 val:Int
 x:Sx
def li(e:Rn)(r:Re (Vs×Option Int))(y:Sb):Prop:=(∃vs ro s vo,r= .ok (vs,ro) s∧y.x=xS e s vo∧FrEq y.fr vs∧(y.fr.length:Int)+max s.fuel 0≤1000001000000∧y.done=ro.isSome∧y.val=ro.getD 0)∨(y.x.er≠0∧r= .err y.x.er)
abbrev LB(e:Rn)(b d:Nat)(y:Sb):List Asn:= [bj e.m 204 (j8 e y.x),own 41 1 eU (sv y.x.vo) y.x.out,bj b 232 (fC y.vN y.vV (d:Int) y.done y.val),own 9 1 eS (sv y.vN) (rE y.fr),own 41 1 eU (sv y.vV) (s5 y.fr)]
structure RkB(e:Rn)(fr vs:Vs)(s:Ms):Prop where
 k:RkE e s
 v:okVs vs
 f:FrEq fr vs
 n:(fr.length:Int)+max s.fuel 0≤1000001000000
def Of(e:Rn)(g:Nat):Prop:=∀(l:List Ty)(v:SV)(d b:Nat)(vN vV:SV)(fr vs:Vs)(s:Ms)(vo:SV)(r:Re (Vs×Option Int)),VYs e.fs l→l.length≤1000000→d≤12→RkB e fr vs s→fI g e.fs d vs l s=some r→
 Spec prog 146 [.pointer (some ⟨e.m,0,none⟩),.pointer (some ⟨b,0,none⟩),sv v] (LB e b d ⟨fr,vN,vV,false,0,xS e s vo⟩) [bF v l,cx e.vp e.fs,sl 1 eU (sv e.vin) e.ins] (X:=Sb) (li e r) (fun _=> .tuple #[]) (fun y=>LB e b d y) (fun _=> [])
def QY(e:Rn)(g:Nat):Prop:=∀(t:Ty)(d b:Nat)(vN vV:SV)(fr vs:Vs)(s:Ms)(vo:SV)(r:Re (Vs×Option Int)),VY e.fs t→d≤12→RkB e fr vs s→gK g e.fs d vs t s=some r→
 Spec prog 178 [.pointer (some ⟨e.m,0,none⟩),.pointer (some ⟨b,0,none⟩),yV t] (LB e b d ⟨fr,vN,vV,false,0,xS e s vo⟩) [bS t.ve t.es,bF t.vb t.body,bF t.vl t.els,cx e.vp e.fs,sl 1 eU (sv e.vin) e.ins] (X:=Sb) (li e r) (fun _=> .tuple #[]) (fun y=>LB e b d y) (fun _=> [])
theorem pl:∀(ps:List ByteArray)(al:List Int)(vs:Vs)(i:Nat)(p:ByteArray)(a:Int),ps[i]?=some p→al[i]?=some a→dM vs (ps.take (i+1)) (al.take (i+1))=d8 (dM vs (ps.take i) (al.take i)) p a
 | [],_,_,_,_,_,h,_=>by simp at h
 | _::_,[],_,_,_,_,_,h=>by simp at h
 | q::ps,c::al,vs,0,p,a,h1,h2=>by
  cases h1;cases h2;rfl
 | q::ps,c::al,vs,i+1,p,a,h1,h2=>by
  rw [List.take_succ_cons,List.take_succ_cons,List.take_succ_cons,List.take_succ_cons];show dM (d8 vs q c) _ _=d8 (dM (d8 vs q c) _ _) p a;exact pl ps al (d8 vs q c) i p a h1 h2
theorem r4:∀(ps:List ByteArray)(al:List Int)(vs:Vs),dM vs (ps.take al.length) al=dM vs ps al
 | [],[],_=>rfl
 | [],_::_,_=>rfl
 | q::ps,[],_=>rfl
 | q::ps,c::al,vs=>by
  rw [List.length_cons,List.take_succ_cons];show dM (d8 vs q c) _ _=dM (d8 vs q c) ps al;exact r4 ps al _
structure Yf where
 i:Nat
 fr:Vs
 vN:SV
 vV:SV
structure Yb where
 i:Nat
 g:Nat
 y:Sb
def BIn(e:Rn)(g d:Nat)(l:List Ty)(y:Sb)(r:Re (Vs×Option Int)):Prop:=(∃vs s vo,y.x=xS e s vo∧RkB e y.fr vs s∧y.done=false∧y.val=0∧fI g e.fs d vs l s=some r)∨((y.done=true∨y.x.er≠0)∧li e r y)
theorem BIn.done{e:Rn}{g d:Nat}{y:Sb}{r:Re (Vs×Option Int)}(h:BIn e g d [] y r):li e r y:=by
 rcases h with⟨vs,s,vo,h1,h2,h3,h4,h5⟩|h
 ·exact .inl ⟨vs,none,s,vo,G8 h5,h1,h2.f,h2.n,h3,h4⟩
 ·exact h.2
theorem BIn.stop{e:Rn}{g d:Nat}{l:List Ty}{y:Sb}{r:Re (Vs×Option Int)}(h:BIn e g d l y r)(hs:y.done=true∨y.x.er≠0):li e r y:=by
 rcases h with⟨vs,s,vo,h1,h2,h3,h4,h5⟩|h
 ·rcases hs with hs|hs
  ·rw [h3]at hs;cases hs
  ·rw [h1]at hs;exact absurd J hs
 ·exact h.2
theorem BIn.step{e:Rn}{g d:Nat}{t:Ty}{l:List Ty}{y:Sb}{r:Re (Vs×Option Int)}(hF:VF e.fs)(ht:VY e.fs t)(h:BIn e g d (t::l) y r)(hd:y.done=false)(he:y.x.er=0):
  ∃g2 q vs s vo,g=g2+1∧y.x=xS e s vo∧RkB e y.fr vs s∧y.val=0∧gK g2 e.fs d vs t s=some q∧∀z,li e q z→BIn e g2 d l z r:=by
 rcases h with⟨vs,s,vo,h1,h2,h3,h4,h5⟩|⟨h,_⟩
 ·obtain⟨g2,q,hg,hx,hre,hrs,hrn⟩:=D4 h5;refine⟨g2,q,vs,s,vo,hg,h1,h2,h4,hx,fun z hz=> ?_⟩;rcases hz with⟨vs1,ro,s1,vo1,z1,z2,z3,z4,z5,z6⟩|⟨z1,z2⟩
  ·rw [z1]at hx;obtain⟨k1,k2,k3⟩:=(eB hF g2).s d vs t s _ s1 ht h2.v h2.k.ok hx;cases ro with
   | none=>exact .inl ⟨vs1,s1,vo1,z2,⟨h2.k.kp k3,k1,z3,z4⟩,z5,z6,hrn vs1 s1 z1⟩
   | some x=>exact .inr ⟨.inl z5,.inl ⟨vs1,some x,s1,vo1,hrs vs1 x s1 z1,z2,z3,z4,z5,z6⟩⟩
  ·exact .inr ⟨.inr z1,.inr ⟨z1,hre _ z2⟩⟩
 ·rcases h with h|h
  ·rw [hd]at h;cases h
  ·exact absurd he h
theorem Hi(e:Rn)(g:Nat)(hF:VF e.fs)(hfl:e.fs.length≤1000000)(ihB:Of e g)(nm:ByteArray)(f:Tf)(d:Nat)(va:SV)(al:List Int)(s:Ms)(vo:SV)(r:Re Int)(hff:cm e.fs nm=some f)(hal:al.length≤f.ps.length)(hao:∀a∈al,oW a)(hd:d≤12)(hs:RkE e s)(hr:jR (g+1) e.fs d f al s=some r)(h12:d=12):
  Spec prog 114 [.pointer (some ⟨e.m,0,none⟩),.string nm,sv va,.int .i64 ((d:Int)+1)] (LX e (xS e s vo)) ([sl 1 eU (sv va) al,cx e.vp e.fs,sl 1 eU (sv e.vin) e.ins]) (X:=Int×Sx) (qU e r) (fun y=> .int .u32 y.1) (fun y=>LX e y.2) (fun _=> []):=by
 refine aI func114 J ntmps114 J fun w0 M H=> ?_
 unfold jR at hr;rw [if_pos h12]at hr;refine aj (ai J J (ac (aS (ad J J (ar J J dV J (ac (ae J (fun h1=> ?_) (fun h1=> ?_))))))))
 ·(try simp only [be]at h1)
  refine aj (ad J J (bG J J (az fp J J (aK (k:=0) nf J J J J J J (sY (by decide)) (ut) (aG J (ai J J (ac (au ?_))))))));refine aH (0,{xS e s vo with er:=26}) (.inr ⟨by show(26:Int)≠0;decide,(Option.some.inj hr).symm⟩) J (bE (aJ J)) J [0,1] [] J J J
 ·exact absurd (of_decide_eq_false h1) (by omega)
theorem NZ(e:Rn)(g:Nat)(hF:VF e.fs)(hfl:e.fs.length≤1000000)(ihB:Of e g)(nm:ByteArray)(f:Tf)(d:Nat)(va:SV)(al:List Int)(s:Ms)(vo:SV)(r:Re Int)(hff:cm e.fs nm=some f)(hal:al.length≤f.ps.length)(hao:∀a∈al,oW a)(hd:d≤12)(hs:RkE e s)(hr:jR (g+1) e.fs d f al s=some r)(h12:¬d=12):
  Spec prog 114 [.pointer (some ⟨e.m,0,none⟩),.string nm,sv va,.int .i64 ((d:Int)+1)] (LX e (xS e s vo)) ([sl 1 eU (sv va) al,cx e.vp e.fs,sl 1 eU (sv e.vin) e.ins]) (X:=Int×Sx) (qU e r) (fun y=> .int .u32 y.1) (fun y=>LX e y.2) (fun _=> []):=by
 refine aI func114 J ntmps114 J fun w0 M H=> ?_
 unfold jR at hr;rw [if_neg h12]at hr;obtain⟨rb,hb⟩:∃rb,fI g e.fs (d+1) (dM [] f.ps al) f.body s=some rb:=by
  cases h:fI g e.fs (d+1) (dM [] f.ps al) f.body s with
  | none=>rw [h]at hr;simp at hr
  | some q=>exact⟨q,rfl⟩
 rw [hb]at hr;obtain⟨m,hfx,hfm⟩:=dL.2 f hff;have hfm2:=List.mem_of_getElem? hfm;have hml:m<e.fs.length:=(List.getElem?_eq_some_iff.1 hfm).1;obtain⟨hF1,hF2,hF3⟩:=hF f hfm2;have hso:=hs.ok.out;refine aW 1 3 J jo (aW 1 4 J (ln hfm2) (aW 4 5 J lp (aW 4 6 J jp (aj (ai J J (ac (aS (ad J J (ar J J dV J (ac (ae J (fun h1=> ?_) (fun h1=> ?_))))))))))))
 ·exact absurd (of_decide_eq_true h1) (by omega)
 ·(try simp only [be]at h1)
  refine ax (br (X:=Nat) (fun _=>True) (fun b9=> [(0,.pointer (some ⟨e.m,0,none⟩)),(2,sv va),(3,.int .i64 ((d:Int)+1)),(9,.pointer (some ⟨b9,0,none⟩))]) (fun b9=> [(0,bj e.m 204 (j8 e (xS e s vo))),(1,own 41 1 eU (sv vo) s.out),(9,bj b9 66 (iW f))]) (fun b9=> [(0,sl 1 eU (sv va) al),(1,cx e.vp e.fs),(2,sl 1 eU (sv e.vin) e.ins),(3,sl 3 iW (sv e.vp) e.fs),(4,yL f),(5,sl 1 eS (sv f.vp) f.ps),(6,bF f.vb f.body)]) ?_ (fun b9 _=> ?_))
  ·refine bH [17,18,19,20,21,22,23,24,25,26,27,28,29,9] _ J (fZ (V:= [(0,17,_),(1,18,_),(2,19,_),(3,20,_),(4,21,_),(5,22,_),(6,23,_),(7,24,_),(8,25,_),(9,26,_)]) [0,1,2,3,4,5,6,7,8,9] J J (aa (aD J (am J)) (aa (aD J (aF J)) (aa (aD J (ag jE J)) (aa (aD J (ag de J)) (aa (aD J (ah mh J J (ay (k:=0) J J))) (aa (aD J (am J)) (aa (aD J (aF J)) (aa (aD J (ag jE J)) (aa (aD J (aL i7 J J J (jg (us:= [sv e.vp]) (k:=0) J J))) (aa (aD J (am J)) aw)))))))))) J [10,13] J J (dF (eF 10 [10,9,8,7,6,5] [11,12] (fun _=> [(11,28,_),(12,29,_)]) J J J J J J J J J (fun _ _=>J) J (bq (xs:= [.tmp 25,.tmp 26]) (iE nm e.vp e.fs hfl) Ep [] [(false,3)] [] J J J J J J J J (fun _ _=>J) (fun _ _ _=>J)) (fun _ _=>bk [11,12,0,1,2,3,4] 13 [13,10,9,8,7,6,5] [] (fun b9=> []) J J (aa (aD J (aR (j:=m) underlying25 ge J J (aN (k:=3) J) hfx hml)) (aa (aD J (aL ge J J J (bD (aN (k:=3) J) (by intro _;rfl) hfm (by rfl)))) (aa (aD J (am J)) (aa (aD J (aF J)) (aa (aD J (ag jE J)) (aa (aD J (ag de J)) (aa (aD J (ah mh J J (ay (k:=0) J J))) aw))))))) J J J J J J J J J J J (fun _ _=>J) J (eb ge J) (fun b9 _=>bI [11,12,0,1,2,3,4] 14 [14,13,12,11,10,9,8,7,6,5,4,3,2,1,0] [] (fun _=> []) J J (aa (aD J (aR (j:=m) underlying25 ge J J (aN (k:=3) J) hfx hml)) (aa (aD J (aL ge J J J (bD (aN (k:=3) J) (by intro _;rfl) hfm (by rfl)))) (aa (aD J (am J)) (aa (aD J (aF J)) (aa (aD J (ag jE J)) (aa (aD J (ag de J)) (aa (aD J (ah mh J J (ay (k:=0) J J))) aw))))))) J J J J J J J J J (fun _ _=>J) J (bM (k:=9) ge J J J J J J) (fun _ _=>bp [] J J aw J J J ?_)))) (dF (eF 13 [13] [] (fun b9=> []) J J J J J J J J J (fun _ _=>J) J (eb ge J) (fun b9 _=>bk [0,1,2,3,4,5,6,7,8,9] 10 [13,10,9,8,7,6,5] [11,12] (fun _=> [(11,28,_),(12,29,_)]) J J (aa (aD J (am J)) (aa (aD J (aF J)) (aa (aD J (ag jE J)) (aa (aD J (ag de J)) (aa (aD J (ah mh J J (ay (k:=0) J J))) (aa (aD J (am J)) (aa (aD J (aF J)) (aa (aD J (ag jE J)) (aa (aD J (aL i7 J J J (jg (us:= [sv e.vp]) (k:=0) J J))) (aa (aD J (am J)) aw)))))))))) J J J J J J J J J J J (fun _ _=>J) J (bq (xs:= [.tmp 25,.tmp 26]) (iE nm e.vp e.fs hfl) Ep [] [(false,3)] [] J J J J J J J J (fun _ _=>J) (fun _ _ _=>J)) (fun _ _=>bI [11,12,0,1,2,3,4] 14 [14,13,12,11,10,9,8,7,6,5,4,3,2,1,0] [] (fun _=> []) J J (aa (aD J (aR (j:=m) underlying25 ge J J (aN (k:=3) J) hfx hml)) (aa (aD J (aL ge J J J (bD (aN (k:=3) J) (by intro _;rfl) hfm (by rfl)))) (aa (aD J (am J)) (aa (aD J (aF J)) (aa (aD J (ag jE J)) (aa (aD J (ag de J)) (aa (aD J (ah mh J J (ay (k:=0) J J))) aw))))))) J J J J J J J J J (fun _ _=>J) J (bM (k:=9) ge J J J J J J) (fun _ _=>bp [] J J aw J J J ?_)))) jv)))
   ·refine aM b9 O J J J
   ·refine aM b9 O J J J
  ·refine aj (ad J J (aO (aV (parts:= [(2,.tmp 30)]) OR L9 J J) J (bU J J fun b32=>ai J J (ac (aS (ai J J (ac (aB (cJ 33 (α:=ByteArray) (S:=9) (s:=1) (enc:=eS) (cJ 34 (α:=Int) (S:=41) (s:=1) (enc:=eU) (bv (X:=Yf) (fun z=>z.i≤al.length∧FrEq z.fr (dM [] (f.ps.take z.i) (al.take z.i))∧z.fr.length≤z.i) (fun z=> [(0,.pointer (some ⟨e.m,0,none⟩)),(2,sv va),(3,.int .i64 ((d:Int)+1)),(9,.pointer (some ⟨b9,0,none⟩)),(10,.pointer (some ⟨b32,0,none⟩)),(11,.int .i64 (z.i:Int))]) (fun z=> [(0,bj e.m 204 (j8 e (xS e s vo))),(1,own 41 1 eU (sv vo) s.out),(9,bj b9 66 (iW f)),(32,bj b32 232 (fC z.vN z.vV ((d:Int)+1) false 0)),(33,own 9 1 eS (sv z.vN) (rE z.fr)),(34,own 41 1 eU (sv z.vV) (s5 z.fr))]) (fun z=> [(0,sl 1 eU (sv va) al),(1,cx e.vp e.fs),(2,sl 1 eU (sv e.vin) e.ins),(3,sl 3 iW (sv e.vp) e.fs),(4,yL f),(5,sl 1 eS (sv f.vp) f.ps),(6,bF f.vb f.body)]) (fun z=>al.length-z.i) ⟨0,[],bJ,bJ⟩ ⟨Nat.zero_le _,fun _=>J,Nat.le_refl _⟩ J J J (fun z hz0=> ?_))))))))))));obtain⟨i,fr,vN,vV⟩:=z;obtain⟨n1,n2,n3⟩:=hz0;dsimp only at n1 n2 n3 ⊢;refine aS (ad J J (ad J J (aO (aU underlying48 J (aN (k:=0) J)) J (ar J J ci J (ac (ae J (fun h2=> ?_) (fun h2=> ?_)))))))
   ·(try simp only [be]at h2)
    have hi:i<al.length:=by omega
    obtain⟨a,ha⟩:∃a,al[i]?=some a:=⟨_,List.getElem?_eq_getElem hi⟩
    obtain⟨p,hp⟩:∃p,f.ps[i]?=some p:=⟨_,List.getElem?_eq_getElem (by omega)⟩
    refine ax (a_ (aB ?_));refine bH [39,40,41,42,43,44,45,46,47,48,49] _ J (bk (V:= [(0,39,_),(1,40,_),(2,41,_),(3,42,_),(4,43,_),(5,44,_),(6,45,_),(7,46,_),(8,47,_),(9,48,_)]) [0,1,2,3,4,5,6,7,8,9] 10 [10,9,8,7,6,5,4,3,2,1,0] [] (fun y=> []) J J (aa (aD J (am J)) (aa (aD J (ag dA J)) (aa (aD J (ah gu J J (ay (k:=9) J J))) (aa (aD J (am J)) (aa (aD J (aR (j:=i) underlying46 t9 J J (aN (k:=5) J) (by first|rfl|omega) (by first|omega|(simp;done)|(simp;omega)))) (aa (aD J (ah t9 J J (bD (aN (k:=5) J) (by intro _;rfl) hp (by rfl)))) (aa (aD J (am J)) (aa (aD J (am J)) (aa (aD J (aR (j:=i) underlying48 cB J J (aN (k:=0) J) (by first|rfl|omega) (by first|omega|(simp;done)|(simp;omega)))) (aa (aD J (ah cB J J (bD (aN (k:=0) J) (by intro _;rfl) ha (by rfl)))) aw)))))))))) J J J J J J J J J J J (fun _ _=>J) J (bq (xs:= [.tmp 39,.tmp 44,.tmp 48]) (ny b32 vN vV ((d:Int)+1) false 0 fr (by omega) p a) Ew [32,33,34] [] [32,33,34] J J J J J J J J (fun _ _=>J) (fun _ _ _=>J)) (fun y _=>bp [] J J aw J J J ?_));refine ap (ad J J (ar J J (bi (by first|exact bc (by omega) (by omega)|rfl)) J (ai J J (ac ?_))));refine aM ⟨i+1,kB fr p a,y.1,y.2⟩ ⟨⟨by dsimp only;omega,by dsimp only;rw [pl _ _ _ _ _ _ hp ha];exact n2.put p a,by dsimp only;have:=qt fr p a;omega⟩,by dsimp only;omega⟩ J J J
   ·(try simp only [be]at h2)
    have hi:i=al.length:=by omega
    subst hi;rw [List.take_length,r4]at n2;have hk2:RkB e fr (dM [] f.ps al) s:=⟨hs,okVs.bind _ _ (fun p hp=>by simp at hp) hao,n2,by omega⟩
    refine bx (aj (ad J J (ad J J (az iB J J (aP 9 hQ J J J J J (ak (xs:= [.tmp 50,.tmp 51,.tmp 53]) (ihB f.body f.vb (d+1) b32 vN vV fr (dM [] f.ps al) s vo rb hF3 hF2 (by omega) hk2 hb) Al [0,1,32,33,34] [(false,6),(false,1),(false,2)] [0,1,32,33,34] (fun y hy=>aG J (ad J J (bG J J (az zK J J (aP 32 cB J J J J J (ai J J (ac (au ?_))))))))))))));have hfin:qU e r (y.val,y.x):=by
     rcases hy with⟨vs1,ro,s1,vo1,z1,z2,z3,z4,z5,z6⟩|⟨z1,z2⟩
     ·rw [z1]at hr;refine .inl ⟨s1,vo1,?_,z2⟩;rw [←Option.some.inj hr,z6]
     ·rw [z2]at hr;exact .inr ⟨z1,(Option.some.inj hr).symm⟩
    refine aH (y.val,y.x) hfin J (bE (aJ J)) J [0,1] [] J J J
theorem Hk(e:Rn)(g:Nat)(hF:VF e.fs)(ihS:∀k,k≤g→QY e k)(l:List Ty)(v:SV)(d b:Nat)(vN vV:SV)(fr vs:Vs)(s:Ms)(vo:SV)(r:Re (Vs×Option Int))(hl:VYs e.fs l)(hll:l.length≤1000000)(hd:d≤12)(hk:RkB e fr vs s)(hr:fI (g+1) e.fs d vs l s=some r):
  Spec prog 146 [.pointer (some ⟨e.m,0,none⟩),.pointer (some ⟨b,0,none⟩),sv v] (LB e b d ⟨fr,vN,vV,false,0,xS e s vo⟩) ([bF v l,cx e.vp e.fs,sl 1 eU (sv e.vin) e.ins]) (X:=Sb) (li e r) (fun _=> .tuple #[]) (fun y=>LB e b d y) (fun _=> []):=by
 refine aI func146 J ntmps146 J fun w0 M H=>aW 0 7 J fQ (aj (ai J J (ac (aB (bv (X:=Yb) (fun z=>z.i≤l.length∧z.g≤g+1∧BIn e z.g d (l.drop z.i) z.y r) (fun z=> [(0,.pointer (some ⟨e.m,0,none⟩)),(1,.pointer (some ⟨b,0,none⟩)),(2,sv v),(6,.int .i64 (z.i:Int))]) (fun z=> [(0,bj e.m 204 (j8 e z.y.x)),(1,own 41 1 eU (sv z.y.x.vo) z.y.x.out),(2,bj b 232 (fC z.y.vN z.y.vV (d:Int) z.y.done z.y.val)),(3,own 9 1 eS (sv z.y.vN) (rE z.y.fr)),(4,own 41 1 eU (sv z.y.vV) (s5 z.y.fr))]) (fun z=> [(0,bF v l),(1,cx e.vp e.fs),(2,sl 1 eU (sv e.vin) e.ins),(7,sl 5 eu (sv v) l)]) (fun z=>l.length-z.i) ⟨0,g+1,⟨fr,vN,vV,false,0,xS e s vo⟩⟩ ⟨Nat.zero_le _,Nat.le_refl _,.inl ⟨vs,s,vo,J,hk,J,J,hr⟩⟩ J J J (fun z hz0=> ?_))))))
 obtain⟨i,gz,y⟩:=z;obtain⟨n1,n2,n3⟩:=hz0;dsimp only at n1 n2 n3 ⊢;refine aS (ad J J (ad J J (aO (aU underlying62 J (aN (k:=7) J)) J (ar J J ci J (ad J J (aA [] J J O (fun hg1=>am J) J (aA [(12,_)] J J ⟨J,O⟩ (fun hg2=>aF J) J (aA [(12,_),(13,_)] J J ⟨J,J,O⟩ (fun hg3=>ag fp J) J (aA [(12,_),(13,_),(14,_)] J J ⟨J,J,J,O⟩ (fun hg4=>ah nf J J (ay (k:=0) J j9)) J (aA [(12,_),(13,_),(14,_),(15,_)] J J ⟨J,J,J,J,O⟩ (fun hg5=>aT J J aY) J (aO (aQ J J J (by first|exact av|exact aC|rfl)) J (ad J J (aA [] J J O (fun hg6=>am J) J (aA [(19,_)] J J ⟨J,O⟩ (fun hg7=>aF J) J (aA [(19,_),(20,_)] J J ⟨J,J,O⟩ (fun hg8=>ag oS J) J (aA [(19,_),(20,_),(21,_)] J J ⟨J,J,J,O⟩ (fun hg9=>ah t4 J J (ay (k:=2) J J)) J (aA [(19,_),(20,_),(21,_),(22,_)] J J ⟨J,J,J,J,O⟩ (fun hg10=>ch J) J ?_)))))))))))))))));refine aO (aQ J J J (by first|exact av|exact aC|rfl)) J (ac (ae J (fun h11=> ?_) (fun h11=> ?_)))
 ·(try simp only [be]at h11)
  obtain⟨fr1,vN1,vV1,dn,val,x1⟩:=y;obtain⟨⟨hi0,he0⟩,hd0⟩:=h11;have hi:i<l.length:=by omega
  obtain⟨st,hst⟩:∃k,l[i]?=some k:=⟨_,List.getElem?_eq_getElem hi⟩
  have hm:=List.mem_of_getElem? hst;have hvy:=hl.mem st hm;rw [wa hst]at n3;obtain⟨g2,q,vs1,sx,vox,rfl,hx1,hk1,hval,hx,hstep⟩:=n3.step hF hvy hd0 he0;dsimp only at hx1 hk1 hval hd0;subst hx1 hval hd0;refine ax (a_ (aB (ap (ad J J (ad J J (ad J J (ad J J (aO (aR (j:=i) underlying62 dJ J J (aN (k:=7) J) (by first|rfl|omega) (by first|omega|(simp;done)|(simp;omega))) J (aO (aL dJ J J J (bD (aN (k:=7) J) (by intro _;rfl) hst (by rfl))) J (aW 0 20 J (jn hm) (aW 0 21 J (fF hm) (aW 0 22 J (gt hm) (ak (xs:= [.tmp 27,.tmp 28,.tmp 32]) (ihS g2 (by omega) st d b vN1 vV1 fr1 vs1 sx vox q hvy hd hk1 hx) Nr [0,1,2,3,4] [(false,20),(false,21),(false,22),(false,1),(false,2)] [0,1,2,3,4] (fun y hy=>ac (ap (ad J J (ar J J (bi (by first|exact bc (by omega) (by omega)|rfl)) J (ai J J (ac ?_)))))))))))))))))));refine aM ⟨i+1,g2,y⟩ ⟨⟨by dsimp only;omega,by dsimp only;omega,hstep y hy⟩,by dsimp only;omega⟩ J J J
 ·(try simp only [be]at h11)
  have hfin:li e r y:=by
   rcases h11 with(h|h)|h
   ·have hi:i=l.length:=by omega
    rw [List.drop_of_length_le (by omega)]at n3;exact n3.done
   ·exact n3.stop (.inr h)
   ·exact n3.stop (.inl h)
  refine bx (bW y hfin J ff J [0,1,2,3,4] [] J J J)
def WIn(e:Rn)(g d:Nat)(t:Tx)(l:List Ty)(v:Int)(y:Sb)(r:Re (Vs×Option Int)):Prop:=(∃vs s vo,y.x=xS e s vo∧RkB e y.fr vs s∧y.done=false∧y.val=0∧i9 g e.fs d vs t l v s=some r)∨((y.done=true∨y.x.er≠0)∧li e r y)
def WMid(e:Rn)(g d:Nat)(t:Tx)(l:List Ty)(y:Sb)(r:Re (Vs×Option Int)):Prop:=(∃vs s vo rx,y.x=xS e s vo∧RkB e y.fr vs s∧y.done=false∧y.val=0∧eo g e.fs d vs t s=some rx∧∀w,qU e rx w→WIn e g d t l w.1 {y with x:=w.2} r)∨((y.done=true∨y.x.er≠0)∧li e r y)
theorem WIn.out{e:Rn}{g d:Nat}{t:Tx}{l:List Ty}{v:Int}{y:Sb}{r:Re (Vs×Option Int)}(h:WIn e g d t l v y r)(hv:v=0):li e r y:=by
 rcases h with⟨vs,s,vo,h1,h2,h3,h4,h5⟩|h
 ·exact .inl ⟨vs,none,s,vo,G5 h5 hv,h1,h2.f,h2.n,h3,h4⟩
 ·exact h.2
theorem WIn.stop{e:Rn}{g d:Nat}{t:Tx}{l:List Ty}{v:Int}{y:Sb}{r:Re (Vs×Option Int)}(h:WIn e g d t l v y r)(hs:y.done=true∨y.x.er≠0):li e r y:=by
 rcases h with⟨vs,s,vo,h1,h2,h3,h4,h5⟩|h
 ·rcases hs with hs|hs
  ·rw [h3]at hs;cases hs
  ·rw [h1]at hs;exact absurd J hs
 ·exact h.2
theorem WIn.step{e:Rn}{g d:Nat}{t:Tx}{l:List Ty}{v:Int}{y:Sb}{r:Re (Vs×Option Int)}(hF:VF e.fs)(ht:VX e.fs t)(hl:VYs e.fs l)(h:WIn e g d t l v y r)(hv:¬v=0)(hd:y.done=false)(he:y.x.er=0):
  ∃g2 q vs s vo,g=g2+1∧y.x=xS e s vo∧RkB e y.fr vs s∧y.val=0∧fI g2 e.fs d vs l s=some q∧∀z,li e q z→WMid e g2 d t l z r:=by
 rcases h with⟨vs,s,vo,h1,h2,h3,h4,h5⟩|⟨h,_⟩
 ·obtain⟨g2,q,hg,hx,hre,hrs,hrn⟩:=Kj h5 hv;refine⟨g2,q,vs,s,vo,hg,h1,h2,h4,hx,fun z hz=> ?_⟩;rcases hz with⟨vs1,ro,s1,vo1,z1,z2,z3,z4,z5,z6⟩|⟨z1,z2⟩
  ·rw [z1]at hx;obtain⟨k1,k2,k3⟩:=(eB hF g2).b d vs l s _ s1 hl h2.v h2.k.ok hx;have k4:RkB e z.fr vs1 s1:=⟨h2.k.kp k3,k1,z3,z4⟩
   cases ro with
   | none=>
    obtain⟨rx,r1,r2,r3⟩:=hrn vs1 s1 z1;refine .inl ⟨vs1,s1,vo1,rx,z2,k4,z5,z6,r1,fun w hw=> ?_⟩;rcases hw with⟨s2,vo2,w1,w2⟩|⟨w1,w2⟩
    ·rw [w1]at r1;obtain⟨x1,x2⟩:=(eB hF g2).x d vs1 t s1 w.1 s2 ht k1 k4.k.ok r1;refine .inl ⟨vs1,s2,vo2,w2,⟨k4.k.kp x2,k1,z3,?_⟩,z5,z6,r3 w.1 s2 w1⟩;have h8:=x2.fl;show(z.fr.length:Int)+_≤_;omega
    ·exact .inr ⟨.inr w1,.inr ⟨w1,r2 _ w2⟩⟩
   | some x=>exact .inr ⟨.inl z5,.inl ⟨vs1,some x,s1,vo1,hrs vs1 x s1 z1,z2,z3,z4,z5,z6⟩⟩
  ·exact .inr ⟨.inr z1,.inr ⟨z1,hre _ z2⟩⟩
 ·rcases h with h|h
  ·rw [hd]at h;cases h
  ·exact absurd he h
theorem WMid.go{e:Rn}{g d:Nat}{t:Tx}{l:List Ty}{y:Sb}{r:Re (Vs×Option Int)}(h:WMid e g d t l y r)(hd:y.done=false)(he:y.x.er=0):∃vs s vo rx,y.x=xS e s vo∧RkB e y.fr vs s∧y.val=0∧eo g e.fs d vs t s=some rx∧∀w,qU e rx w→WIn e g d t l w.1 {y with x:=w.2} r:=by
 rcases h with⟨vs,s,vo,rx,h1,h2,h3,h4,h5,h6⟩|⟨h,_⟩
 ·exact⟨vs,s,vo,rx,h1,h2,h4,h5,h6⟩
 ·rcases h with h|h
  ·rw [hd]at h;cases h
  ·exact absurd he h
theorem WMid.stop{e:Rn}{g d:Nat}{t:Tx}{l:List Ty}{y:Sb}{r:Re (Vs×Option Int)}(h:WMid e g d t l y r)(hs:y.done=true∨y.x.er≠0)(v:Int):WIn e g d t l v y r:=by
 rcases h with⟨vs,s,vo,rx,h1,h2,h3,h4,h5,h6⟩|h
 ·rcases hs with hs|hs
  ·rw [h3]at hs;cases hs
  ·rw [h1]at hs;exact absurd J hs
 ·exact .inr h
structure Yw where
 g:Nat
 v:Int
 y:Sb
theorem LT(e:Rn)(g:Nat)(hF:VF e.fs)(hfu1: -1000000000000000000≤e.fu)(hfu2:e.fu≤1000000000000000000)(ihX:∀k,k≤g→KW e k)(ihB:∀k,k≤g→Of e k)(t:Ty)(d b:Nat)(vN vV:SV)(fr vs:Vs)(s:Ms)(vo:SV)(r:Re (Vs×Option Int))(ht:VY e.fs t)(hd:d≤12)(hk:RkB e fr vs s)(hr:gK (g+1) e.fs d vs t s=some r)(hfu:s.fuel≤0):
  Spec prog 178 [.pointer (some ⟨e.m,0,none⟩),.pointer (some ⟨b,0,none⟩),yV t] (LB e b d ⟨fr,vN,vV,false,0,xS e s vo⟩) ([bS t.ve t.es,bF t.vb t.body,bF t.vl t.els,cx e.vp e.fs,sl 1 eU (sv e.vin) e.ins]) (X:=Sb) (li e r) (fun _=> .tuple #[]) (fun y=>LB e b d y) (fun _=> []):=by
 refine aI func178 J ntmps178 J fun w0 M H=> ?_
 unfold gK at hr;rw [if_pos hfu]at hr;refine aj (bU J J fun b5=>aG J (ad J J (ak (xs:= [.tmp 9]) (y9 e.m e.vp (BM e.vin (e.ins.length-s.inp.length)) vo s.mem e.fu (e.fu-s.fuel) (by omega)) wn [0] [] [0] (fun _ _=>ai J J (ac (aS (ad J J (aO (ch J) J (ac (ae J (fun h1=> ?_) (fun h1=> ?_)))))))))))
 ·(try simp only [be]at h1)
  refine au ?_;refine aH ⟨fr,vN,vV,false,0,{xS e s vo with er:=25}⟩ (.inr ⟨by show(25:Int)≠0;decide,(Option.some.inj hr).symm⟩) J ff J [0,1,2,3,4] [] J J J
 ·exact absurd h1 (by simp)
theorem LS(e:Rn)(g:Nat)(hF:VF e.fs)(hfu1: -1000000000000000000≤e.fu)(hfu2:e.fu≤1000000000000000000)(ihX:∀k,k≤g→KW e k)(ihB:∀k,k≤g→Of e k)(t:Ty)(d b:Nat)(vN vV:SV)(fr vs:Vs)(s:Ms)(vo:SV)(r:Re (Vs×Option Int))(ht:VY e.fs t)(hd:d≤12)(hk:RkB e fr vs s)(hr:gK (g+1) e.fs d vs t s=some r)(hfu:¬s.fuel≤0):
  Spec prog 178 [.pointer (some ⟨e.m,0,none⟩),.pointer (some ⟨b,0,none⟩),yV t] (LB e b d ⟨fr,vN,vV,false,0,xS e s vo⟩) ([bS t.ve t.es,bF t.vb t.body,bF t.vl t.els,cx e.vp e.fs,sl 1 eU (sv e.vin) e.ins]) (X:=Sb) (li e r) (fun _=> .tuple #[]) (fun y=>LB e b d y) (fun _=> []):=by
 refine aI func178 J ntmps178 J fun w0 M H=> ?_
 unfold gK at hr;rw [if_neg hfu]at hr;obtain⟨s1,hs1⟩:∃s1:Ms,({s with fuel:=s.fuel-1}:Ms)=s1:=⟨_,J⟩
 have hp:=Kp.pay hk.k.ok hfu;have hmR:xC e.vp (BM e.vin (e.ins.length-s.inp.length)) vo s.mem e.fu (e.fu-s.fuel+1) 0=j8 e (xS e s1 vo):=by
  rw [←hs1];unfold j8 xS;dsimp only
  congr 1
  omega
 have hso:s.out=s1.out:=by rw [←hs1]
 have hsf:(s1.out.length:Int)+max s1.fuel 0+1≤1000000000000:=by
  have:=hk.k.ok.out;rw [←hs1];dsimp only;omega
 have hfub:=hk.k.ok.out;have hfrn:=hk.n;have hs1f:s1.fuel=s.fuel-1:=by rw [←hs1]
 rw [hs1]at hr hp;have h51:=hk.k.kp hp;obtain⟨ve1,ve2,ve3,ve4⟩:=IQ ht;obtain⟨e1,er,hes⟩:∃a b,t.es=a::b:=by
  cases h:t.es with
  | nil=>rw [h]at ve1;simp at ve1
  | cons a b=>exact⟨a,b,rfl⟩
 rw [hes]at hr;dsimp only at hr;obtain⟨rx,hx⟩:∃rx,eo g e.fs d vs e1 s1=some rx:=by
  cases h:eo g e.fs d vs e1 s1 with
  | none=>rw [h]at hr;simp at hr
  | some q=>exact⟨q,rfl⟩
 rw [hx]at hr;have hm1:e1∈t.es:=by rw [hes];simp
 have hes0:t.es[0]?=some e1:=by rw [hes];rfl
 have hv1:=ve4.mem e1 hm1;refine aW 0 20 J eW (aW 0 21 J (cS hm1) (aj (bU J J fun b5=>aG J (ad J J ?_))));refine d9 (xs:= [.tmp 9]) (y8 e.m e.vp (BM e.vin (e.ins.length-s.inp.length)) vo s.mem e.fu (e.fu-s.fuel) (by omega) ⟨by omega,by omega⟩) wn [0] [] [0] J J J J J J J J (fun _ _=>J) (fun _ _ _=>J) J (fun _ _=> ?_);rw [hmR];refine dD (k:=1) (A':=own 41 1 eU (sv vo) s1.out) J (fun _ _ h=>by rw [←hso];exact h) ?_;refine ai J J (ac (aS (ad J J (aO (ch J) J (ac (ae J (fun h1=> ?_) (fun h1=> ?_)))))))
 ·exact absurd h1 (by simp)
 ·(try simp only [be]at h1)
  refine ax (aj (ad J J (ad J J (az e9 J J (aP 5 ij J J J J J (aO (aR (j:=0) underlying59 co J J (aN (k:=20) J) J (by omega)) J (aO (aL co J J J (bD (aN (k:=20) J) (by intro _;rfl) hes0 (by rfl))) J (ak (xs:= [.tmp 13,.tmp 14,.tmp 18]) (ihX g (Nat.le_refl g) e1 d b vN vV fr vs (xS e s1 vo) rx hv1 hd hk.v hk.f (by omega) (.inl ⟨s1,vo,J,h51,hx⟩)) Aj [0,1] [(true,2),(true,3),(true,4),(false,21),(false,3),(false,4)] [0,1] (fun y1 hy1=> ?_)))))))));obtain⟨v,x1⟩:=y1;dsimp only at hy1 ⊢;refine ai J J (ac (aS (ad J J (bG J J (az fp J J (aP 0 nf J J J j9 J (ar J J df J (ac (ae J (fun h2=> ?_) (fun h2=> ?_))))))))))
  ·have q2e:x1.er≠0:=by simpa using h2
   have hz:rx= .err x1.er:=by
    rcases hy1 with⟨s2,vo2,z1,z2⟩|⟨z1,z2⟩
    ·dsimp only at z2;rw [z2]at q2e;exact absurd J q2e
    ·exact z2
   subst hz;refine au (aH (⟨fr,vN,vV,false,0,x1⟩) (.inr ⟨q2e,(Option.some.inj hr).symm⟩) J ff J [0,1,2,3,4] [] J J J)
  ·have q2e:x1.er=0:=by simpa using h2
   obtain⟨s2,vo2,hz,hx1⟩:∃s2 vo2,rx= .ok v s2∧x1=xS e s2 vo2:=by
    rcases hy1 with h|⟨z1,z2⟩
    ·exact h
    ·exact absurd q2e z1
   subst hz hx1;dsimp only at hr;obtain⟨hw1,hw2⟩:=(eB hF g).x d vs e1 s1 v s2 hv1 hk.v h51.ok hx;have hk2:=h51.kp hw2;have hsum:=hw2.sum;have hfl2:=hw2.fl;have hkb2:RkB e fr vs s2:=⟨hk2,hk.v,hk.f,by omega⟩
   refine ax (aj (az dT J J (aP 5 t3 J J J J J (ac (aB (aS (ar J J aY J (ai J J (ac (ae J (fun h3=> ?_) (fun h3=> ?_)))))))))))
   ·have q1:t.kind=1:=of_decide_eq_true h3;rw [if_pos (.inl q1)]at hr;refine ax (ae J (fun h4=> ?_) (fun h4=> ?_))
    ·(try simp only [be]at h4)
     refine ap (ad J J (az gn J J (aP 5 t9 J J J J J (ad J J (ak (xs:= [.tmp 30,.tmp 32,.tmp 33]) (ny b vN vV (d:Int) false 0 fr (by omega) t.name v) Ew [2,3,4] [] [2,3,4] (fun y2 _=>ac ?_))))));refine bW (⟨kB fr t.name v,y2.1,y2.2,false,0,xS e s2 vo2⟩) (.inl ⟨d8 vs t.name v,none,s2,vo2,(Option.some.inj hr).symm,J,hk.f.put _ _,by dsimp only;have:=qt fr t.name v;omega,rfl,rfl⟩) J ff J [0,1,2,3,4] [] J J J
    ·exact absurd (decide_eq_true q1) (by rw [h4];simp)
   ·have q1:¬t.kind=1:=of_decide_eq_false h3;refine ap (ar J J aY J (ai J J (ac (ae J (fun h5=> ?_) (fun h5=> ?_)))))
    ·have q2:t.kind=2:=of_decide_eq_true h5;rw [if_pos (.inr q2)]at hr;refine ap (ad J J (az gn J J (aP 5 t9 J J J J J (ad J J (ak (xs:= [.tmp 30,.tmp 32,.tmp 33]) (ny b vN vV (d:Int) false 0 fr (by omega) t.name v) Ew [2,3,4] [] [2,3,4] (fun y2 _=>ac ?_))))));refine bW (⟨kB fr t.name v,y2.1,y2.2,false,0,xS e s2 vo2⟩) (.inl ⟨d8 vs t.name v,none,s2,vo2,(Option.some.inj hr).symm,J,hk.f.put _ _,by dsimp only;have:=qt fr t.name v;omega,rfl,rfl⟩) J ff J [0,1,2,3,4] [] J J J
    ·have q2:¬t.kind=2:=of_decide_eq_false h5;rw [if_neg (fun h=>h.elim q1 q2)]at hr;refine aj (ar J J aY J (ai J J (ac (ae J (fun h6=> ?_) (fun h6=> ?_)))))
     ·have q3:t.kind=3:=of_decide_eq_true h6;rw [if_pos q3]at hr;have ve5:=ve3 q3;obtain⟨e2,er2,her⟩:∃a b,er=a::b:=by
       cases h:er with
       | nil=>rw [hes,h]at ve5;simp at ve5
       | cons a b=>exact⟨a,b,rfl⟩
      rw [her]at hr;dsimp only at hr;obtain⟨ry,hy⟩:∃ry,eo g e.fs d vs e2 s2=some ry:=by
       cases h:eo g e.fs d vs e2 s2 with
       | none=>rw [h]at hr;simp at hr
       | some q=>exact⟨q,rfl⟩
      rw [hy]at hr;have hm2:e2∈t.es:=by rw [hes,her];simp
      have hv2:=ve4.mem e2 hm2;have hes2:t.es[1]?=some e2:=by rw [hes,her];rfl
      have hel2:1<t.es.length:=by rw [hes,her];simp
      have hwm:=pw (b:=256) hw1;refine aW 0 22 J (cS hm2) (aj (ad J J (ad J J (az e9 J J (aP 5 ij J J J J J (aO (aR (j:=1) underlying59 co J J (aN (k:=20) J) J hel2) J (aO (aL co J J J (bD (aN (k:=20) J) (by intro _;rfl) hes2 (by rfl))) J (ak (xs:= [.tmp 37,.tmp 38,.tmp 42]) (ihX g (Nat.le_refl g) e2 d b vN vV fr vs (xS e s2 vo2) ry hv2 hd hk.v hk.f (by omega) (.inl ⟨s2,vo2,J,hk2,hy⟩)) Aj [0,1] [(true,2),(true,3),(true,4),(false,22),(false,3),(false,4)] [0,1] (fun y3 hy3=> ?_)))))))));obtain⟨w5,x3⟩:=y3;dsimp only at hy3 ⊢;refine ai J J (aG J (ad J J (bG J J (az fp J J (aP 0 nf J J J j9 J (ar J J aY J (ac (ae J (fun h7=> ?_) (fun h7=> ?_)))))))))
      ·have q6e:x3.er=0:=by simpa using h7
       obtain⟨s3,vo3,hz,hx3⟩:∃s3 vo3,ry= .ok w5 s3∧x3=xS e s3 vo3:=by
        rcases hy3 with h|⟨z1,z2⟩
        ·exact h
        ·exact absurd q6e z1
       subst hz hx3;dsimp only at hr;have hw3:=((eB hF g).x d vs e2 s2 w5 s3 hv2 hk.v hk2.ok hy).2;have hfl3:=hw3.fl;refine ap (ad J J (ad J J (ar J J (gd (by decide) hwm) J (ad J J (bG J J (az tW J J (aO (cO (j:=(v%256).toNat) underlying202 cB J J (by have:=hw1.1;omega) (by omega)) J (aK (k:=0) cB J J J J J J (sY (by omega)) (AC (by omega)) (ac ?_)))))))));refine bW (⟨fr,vN,vV,false,0,xS e {s3 with mem:=rG s3.mem (v%256).toNat w5} vo3⟩) (.inl ⟨vs,none,_,vo3,(Option.some.inj hr).symm,J,hk.f,by dsimp only;omega,rfl,rfl⟩) J ff J [0,1,2,3,4] [] J J J
      ·have q6e:x3.er≠0:=by simpa using h7
       have hz:ry= .err x3.er:=by
        rcases hy3 with⟨s3,vo3,z1,z2⟩|⟨z1,z2⟩
        ·dsimp only at z2;rw [z2]at q6e;exact absurd J q6e
        ·exact z2
       subst hz;refine ax (bW (⟨fr,vN,vV,false,0,x3⟩) (.inr ⟨q6e,(Option.some.inj hr).symm⟩) J ff J [0,1,2,3,4] [] J J J)
     ·have q3:¬t.kind=3:=of_decide_eq_false h6;rw [if_neg q3]at hr;refine aj (ar J J aY J (ai J J (ac (ae J (fun h8=> ?_) (fun h8=> ?_)))))
      ·have q4:t.kind=4:=of_decide_eq_true h8;rw [if_pos q4]at hr;refine aj (ad J J (ar J J df J (ac (ae J (fun h9=> ?_) (fun h9=> ?_)))))
       ·have qv:¬v=0:=by simpa using h9
        rw [if_neg qv]at hr;refine ap (ad J J (ad J J (az fi J J (aP 5 hQ J J J J J (ak (xs:= [.tmp 60,.tmp 61,.tmp 63]) (ihB g (Nat.le_refl g) t.body t.vb d b vN vV fr vs s2 vo2 r (jP ht).2 (jP ht).1 hd hkb2 hr) Al [0,1,2,3,4] [(false,1),(false,3),(false,4)] [0,1,2,3,4] (fun y4 hy4=>ac (bW (y4) hy4 J ff J [0,1,2,3,4] [] J J J)))))))
       ·have qv:v=0:=by simpa using h9
        rw [if_pos qv]at hr;refine ap (ad J J (ad J J (az ez J J (aP 5 hQ J J J J J (ak (xs:= [.tmp 65,.tmp 66,.tmp 68]) (ihB g (Nat.le_refl g) t.els t.vl d b vN vV fr vs s2 vo2 r (yw ht).2 (yw ht).1 hd hkb2 hr) Al [0,1,2,3,4] [(false,2),(false,3),(false,4)] [0,1,2,3,4] (fun y4 hy4=>ac (bW (y4) hy4 J ff J [0,1,2,3,4] [] J J J)))))))
      ·have q4:¬t.kind=4:=of_decide_eq_false h8;rw [if_neg q4]at hr;refine aj (ar J J aY J (ai J J (ac (ae J (fun h10=> ?_) (fun h10=> ?_)))))
       ·have q5:t.kind=5:=of_decide_eq_true h10;rw [if_pos q5]at hr;refine aB (bv (X:=Yw) (fun z=>z.g≤g∧WIn e z.g d e1 t.body z.v z.y r) (fun z=> [(0,.pointer (some ⟨e.m,0,none⟩)),(1,.pointer (some ⟨b,0,none⟩)),(5,.pointer (some ⟨b5,0,none⟩)),(7,.int .u32 z.v)]) (fun z=> [(0,bj e.m 204 (j8 e z.y.x)),(1,own 41 1 eU (sv z.y.x.vo) z.y.x.out),(2,bj b 232 (fC z.y.vN z.y.vV (d:Int) z.y.done z.y.val)),(3,own 9 1 eS (sv z.y.vN) (rE z.y.fr)),(4,own 41 1 eU (sv z.y.vV) (s5 z.y.fr)),(5,bj b5 64 (eu t))]) (fun z=> [(0,bS t.ve t.es),(1,bF t.vb t.body),(2,bF t.vl t.els),(3,cx e.vp e.fs),(4,sl 1 eU (sv e.vin) e.ins),(20,sl 4 dt (sv t.ve) t.es),(21,bS e1.v e1.kids)]) (fun z=>z.g) ⟨g,v,⟨fr,vN,vV,false,0,xS e s2 vo2⟩⟩ ⟨Nat.le_refl _,.inl ⟨vs,s2,vo2,J,hkb2,J,J,hr⟩⟩ J J J (fun z hz0=> ?_));obtain⟨gx,vx,y⟩:=z;obtain⟨n1,n2⟩:=hz0;dsimp only at n1 n2 ⊢;refine aS (ad J J (ar J J df J (ad J J (aA [] J J O (fun hg11=>am J) J (aA [(75,_)] J J ⟨J,O⟩ (fun hg12=>aF J) J (aA [(75,_),(76,_)] J J ⟨J,J,O⟩ (fun hg13=>ag fp J) J (aA [(75,_),(76,_),(77,_)] J J ⟨J,J,J,O⟩ (fun hg14=>ah nf J J (ay (k:=0) J j9)) J (aA [(75,_),(76,_),(77,_),(78,_)] J J ⟨J,J,J,J,O⟩ (fun hg15=>aT J J aY) J (aO (aQ J J J (by first|exact av|exact aC|rfl)) J (ad J J (aA [] J J O (fun hg16=>am J) J (aA [(82,_)] J J ⟨J,O⟩ (fun hg17=>aF J) J (aA [(82,_),(83,_)] J J ⟨J,J,O⟩ (fun hg18=>ag oS J) J (aA [(82,_),(83,_),(84,_)] J J ⟨J,J,J,O⟩ (fun hg19=>ah t4 J J (ay (k:=2) J J)) J (aA [(82,_),(83,_),(84,_),(85,_)] J J ⟨J,J,J,J,O⟩ (fun hg20=>ch J) J (aO (aQ J J J (by first|exact av|exact aC|rfl)) J (ac ?_)))))))))))))))));refine ae J (fun h21=> ?_) (fun h21=> ?_)
        ·(try simp only [be]at h21)
         obtain⟨fr1,vN1,vV1,dn,val,xx⟩:=y;obtain⟨⟨qv,he0⟩,hd0⟩:=h21;obtain⟨g2,q,vs1,sx,vox,rfl,hx1,hk1,hval,hwb,hstep⟩:=n2.step hF hv1 (jP ht).2 qv hd0 he0;dsimp only at hx1 hk1 hval hd0;subst hx1 hval hd0;refine ax (aB (aj (ad J J (ad J J (az fi J J (aP 5 hQ J J J J J (ak (xs:= [.tmp 88,.tmp 89,.tmp 91]) (ihB g2 (by omega) t.body t.vb d b vN1 vV1 fr1 vs1 sx vox q (jP ht).2 (jP ht).1 hd hk1 hwb) Al [0,1,2,3,4] [(false,1),(false,3),(false,4)] [0,1,2,3,4] (fun y hy=> ?_))))))));have hmid:=hstep y hy;refine aG J (ad J J (bG J J (az fp J J (aP 0 nf J J J j9 J (ar J J aY J (ad J J (aA [] J J O (fun hg22=>am J) J (aA [(99,_)] J J ⟨J,O⟩ (fun hg23=>aF J) J (aA [(99,_),(100,_)] J J ⟨J,J,O⟩ (fun hg24=>ag oS J) J (aA [(99,_),(100,_),(101,_)] J J ⟨J,J,J,O⟩ (fun hg25=>ah t4 J J (ay (k:=2) J J)) J (aA [(99,_),(100,_),(101,_),(102,_)] J J ⟨J,J,J,J,O⟩ (fun hg26=>ch J) J (aO (aQ J J J (by first|exact av|exact aC|rfl)) J (ac (ae J (fun h27=> ?_) (fun h27=> ?_)))))))))))))))
         ·(try simp only [be]at h27)
          obtain⟨fr2,vN2,vV2,dn2,val2,xx2⟩:=y;obtain⟨he1,hd1⟩:=h27;obtain⟨vs2,sy,voy,rz,hx2,hk3,hval2,hrz,hwn⟩:=hmid.go hd1 he1;dsimp only at hx2 hk3 hval2 hd1;subst hx2 hval2 hd1;refine ap (ad J J (ad J J (az e9 J J (aP 5 ij J J J J J (aO (aR (j:=0) underlying59 co J J (aN (k:=20) J) J (by omega)) J (aO (aL co J J J (bD (aN (k:=20) J) (by intro _;rfl) hes0 (by rfl))) J (ak (xs:= [.tmp 105,.tmp 106,.tmp 110]) (ihX g2 (by omega) e1 d b vN2 vV2 fr2 vs2 (xS e sy voy) rz hv1 hd hk3.v hk3.f (by have:=hk3.n;omega) (.inl ⟨sy,voy,J,hk3.k,hrz⟩)) Aj [0,1] [(true,2),(true,3),(true,4),(false,21),(false,3),(false,4)] [0,1] (fun w hw=> ?_))))))));have hnext:=hwn w hw;refine ai J J (ac ?_);refine aM ⟨g2,w.1,⟨fr2,vN2,vV2,false,0,w.2⟩⟩ ⟨⟨by dsimp only;omega,hnext⟩,by dsimp only;omega⟩ J J J
         ·(try simp only [be]at h27)
          have hstop:y.done=true∨y.x.er≠0:=by
           rcases h27 with h|h
           ·exact .inr h
           ·exact .inl h
          refine ax ?_;refine aM ⟨g2,vx,y⟩ ⟨⟨by dsimp only;omega,hmid.stop hstop vx⟩,by dsimp only;omega⟩ J J J
        ·(try simp only [be]at h21)
         have hfin:li e r y:=by
          rcases h21 with(h|h)|h
          ·exact n2.out (by simpa using h)
          ·exact n2.stop (.inr h)
          ·exact n2.stop (.inl h)
         refine bx (bW (y) hfin J ff J [0,1,2,3,4] [] J J J)
       ·have q5:¬t.kind=5:=of_decide_eq_false h10;rw [if_neg q5]at hr;refine aj (ar J J aY J (ai J J (ac (ae J (fun h28=> ?_) (fun h28=> ?_)))))
        ·have q6:t.kind=6:=of_decide_eq_true h28;rw [if_pos q6]at hr;refine aj (ad J J (bG J J (az oS J J (aK (k:=2) t4 J J J J J J J J (ac (ap (ad J J (ad J J (bG J J (az zK J J (aK (k:=2) cB J J J J J J J J (ac ?_))))))))))));refine bW (⟨fr,vN,vV,true,v,xS e s2 vo2⟩) (.inl ⟨vs,some v,s2,vo2,(Option.some.inj hr).symm,J,hk.f,by dsimp only;omega,rfl,rfl⟩) J ff J [0,1,2,3,4] [] J J J
        ·have q6:¬t.kind=6:=of_decide_eq_false h28;rw [if_neg q6]at hr;refine aj (ar J J aY J (ai J J (ac (ae J (fun h29=> ?_) (fun h29=> ?_)))))
         ·have q7:t.kind=7:=of_decide_eq_true h29;rw [if_pos q7]at hr;refine ap (ad J J (ad J J (bG J J (az tX J J (aP 0 oo J J J J J (ad J J (bA eU _ underlying48 cB J (by decide) (by decide) J J J J fun v129=>eO 1 underlying48 cB J (by decide) (fun _=>J) (fun _=>J) J J J (bs (k:=129) J) (by have hn:(xS e s2 vo2).out.length=s2.out.length:=J;rw [List.length_singleton,hn];omega) (by have hn:(xS e s2 vo2).out.length=s2.out.length:=J;unfold maxLen;rw [List.length_singleton,hn];omega) J fun v130=>bG J J (az tX J J (aK (k:=0) oo J J J J J J J AB (ac ?_))))))))));refine bW (⟨fr,vN,vV,false,0,xS e {s2 with out:=s2.out++ [v]} v130⟩) (.inl ⟨vs,none,_,v130,(Option.some.inj hr).symm,J,hk.f,by dsimp only;omega,rfl,rfl⟩) J ff J [0,1,2,3,4] [] J J J
         ·have q7:¬t.kind=7:=of_decide_eq_false h29;rw [if_neg q7]at hr;refine ax ?_;refine bW (⟨fr,vN,vV,false,0,xS e s2 vo2⟩) (.inl ⟨vs,none,s2,vo2,(Option.some.inj hr).symm,J,hk.f,by dsimp only;omega,rfl,rfl⟩) J ff J [0,1,2,3,4] [] J J J
theorem Dz{e:Rn}(hF:VF e.fs)(hfu1: -1000000000000000000≤e.fu)(hfu2:e.fu≤1000000000000000000)(hfl:e.fs.length≤1000000):∀g,∀k,k≤g→KW e k∧OB e k∧Of e k∧QY e k
 | 0,k,hk=>by
  obtain rfl:k=0:=by omega
  exact⟨E6,fun nm f d va al s vo r _ _ _ _ _ hr=>by simp [jR]at hr,fun l v d b vN vV fr vs s vo r _ _ _ _ hr=>by simp [fI]at hr,fun t d b vN vV fr vs s vo r _ _ _ hr=>by simp [gK]at hr⟩
 | g+1,k,hk=>by
  have ih:=Dz hF hfu1 hfu2 hfl g;by_cases h:k≤g
  ·exact ih k h
  ·obtain rfl:k=g+1:=by omega
   refine⟨E7 hF hfu1 hfu2 hfl (fun j hj=>(ih j hj).1) (fun j hj=>(ih j hj).2.1),fun nm f d va al s vo r h1 h2 h3 h4 h5 hr=> ?_,fun l v d b vN vV fr vs s vo r h1 h2 h3 h4 hr=>Hk e g hF (fun j hj=>(ih j hj).2.2.2) l v d b vN vV fr vs s vo r h1 h2 h3 h4 hr,fun t d b vN vV fr vs s vo r h1 h2 h3 hr=> ?_⟩
   ·by_cases h12:d=12
    ·exact Hi e g hF hfl (ih g (Nat.le_refl g)).2.2.1 nm f d va al s vo r h1 h2 h3 h4 h5 hr h12
    ·exact NZ e g hF hfl (ih g (Nat.le_refl g)).2.2.1 nm f d va al s vo r h1 h2 h3 h4 h5 hr h12
   ·by_cases hfu:s.fuel≤0
    ·exact LT e g hF hfu1 hfu2 (fun j hj=>(ih j hj).1) (fun j hj=>(ih j hj).2.2.1) t d b vN vV fr vs s vo r h1 h2 h3 hr hfu
    ·exact LS e g hF hfu1 hfu2 (fun j hj=>(ih j hj).1) (fun j hj=>(ih j hj).2.2.1) t d b vN vV fr vs s vo r h1 h2 h3 hr hfu
theorem Gt{e:Rn}(hF:VF e.fs)(hfu1: -1000000000000000000≤e.fu)(hfu2:e.fu≤1000000000000000000)(hfl:e.fs.length≤1000000)(g:Nat):OB e g:=(Dz hF hfu1 hfu2 hfl g g (Nat.le_refl g)).2.1
structure Mono(fs:List Tf)(g:Nat):Prop where
 x:∀d vs t s r,eo g fs d vs t s=some r→eo (g+1) fs d vs t s=some r
 k:∀d vs acc l s r,fY g fs d vs acc l s=some r→fY (g+1) fs d vs acc l s=some r
 c:∀d f al s r,jR g fs d f al s=some r→jR (g+1) fs d f al s=some r
 b:∀d vs l s r,fI g fs d vs l s=some r→fI (g+1) fs d vs l s=some r
 s:∀d vs t s r,gK g fs d vs t s=some r→gK (g+1) fs d vs t s=some r
 w:∀d vs e l v s r,i9 g fs d vs e l v s=some r→i9 (g+1) fs d vs e l v s=some r
theorem mono(fs:List Tf):∀g,Mono fs g
 | 0=>⟨fun _ _ _ _ _ h=>by simp [eo]at h,fun _ _ _ _ _ _ h=>by simp [fY]at h,fun _ _ _ _ _ h=>by simp [jR]at h,fun _ _ _ _ _ h=>by simp [fI]at h,fun _ _ _ _ _ h=>by simp [gK]at h,fun _ _ _ _ _ _ _ h=>by simp [i9]at h⟩
 | g+1=>by
  have ih:=mono fs g;refine⟨fun d vs t s r h=> ?_,fun d vs acc l s r h=> ?_,fun d f al s r h=> ?_,fun d vs l s r h=> ?_,fun d vs t s r h=> ?_,fun d vs e l v s r h=> ?_⟩
  ·rw [eo]at h ⊢;by_cases hf:s.fuel≤0
   ·rw [if_pos hf]at h ⊢;exact h
   ·rw [if_neg hf]at h ⊢;cases hk:fY g fs d vs [] t.kids {s with fuel:=s.fuel-1}with
    | none=>rw [hk]at h;simp at h
    | some q=>
     rw [hk]at h;rw [ih.k _ _ _ _ _ _ hk];cases q with
     | err z=>exact h
     | ok ks s1=>
      dsimp only at h ⊢;by_cases q1:t.kind=1
      ·rw [if_pos q1]at h ⊢;exact h
      rw [if_neg q1]at h ⊢;by_cases q2:t.kind=2
      ·rw [if_pos q2]at h ⊢;exact h
      rw [if_neg q2]at h ⊢;by_cases q4:t.kind=4
      ·rw [if_pos q4]at h ⊢;exact h
      rw [if_neg q4]at h ⊢;by_cases q5:t.kind=5
      ·rw [if_pos q5]at h ⊢;exact h
      rw [if_neg q5]at h ⊢;by_cases q6:t.kind=6
      ·rw [if_pos q6]at h ⊢;exact h
      rw [if_neg q6]at h ⊢;by_cases q7:t.kind=7
      ·rw [if_pos q7]at h ⊢;exact h
      rw [if_neg q7]at h ⊢;cases hf:cm fs t.name with
      | none=>rw [hf]at h;simp at h
      | some f=>rw [hf]at h;exact ih.c _ _ _ _ _ h
  ·cases l with
   | nil=>rw [fY]at h ⊢;exact h
   | cons t l=>
    rw [fY]at h ⊢;cases hx:eo g fs d vs t s with
    | none=>rw [hx]at h;simp at h
    | some q=>
     rw [hx]at h;rw [ih.x _ _ _ _ _ hx];cases q with
     | err z=>exact h
     | ok v s1=>exact ih.k _ _ _ _ _ _ h
  ·rw [jR]at h ⊢;by_cases hd:d=12
   ·rw [if_pos hd]at h ⊢;exact h
   ·rw [if_neg hd]at h ⊢;cases hb:fI g fs (d+1) (dM [] f.ps al) f.body s with
    | none=>rw [hb]at h;simp at h
    | some q=>rw [hb]at h;rw [ih.b _ _ _ _ _ hb];exact h
  ·cases l with
   | nil=>rw [fI]at h ⊢;exact h
   | cons t l=>
    rw [fI]at h ⊢;cases hx:gK g fs d vs t s with
    | none=>rw [hx]at h;simp at h
    | some q=>
     rw [hx]at h;rw [ih.s _ _ _ _ _ hx];cases q with
     | err z=>exact h
     | ok p s1=>
      obtain⟨vs1,ro⟩:=p;cases ro with
      | some y=>exact h
      | none=>exact ih.b _ _ _ _ _ h
  ·rw [gK]at h ⊢;by_cases hf:s.fuel≤0
   ·rw [if_pos hf]at h ⊢;exact h
   ·rw [if_neg hf]at h ⊢;cases he:t.es with
    | nil=>rw [he]at h;simp at h
    | cons e es=>
     rw [he]at h;dsimp only at h ⊢;cases hx:eo g fs d vs e {s with fuel:=s.fuel-1}with
     | none=>rw [hx]at h;simp at h
     | some q=>
      rw [hx]at h;rw [ih.x _ _ _ _ _ hx];cases q with
      | err z=>exact h
      | ok v s1=>
       dsimp only at h ⊢;by_cases q1:t.kind=1∨t.kind=2
       ·rw [if_pos q1]at h ⊢;exact h
       rw [if_neg q1]at h ⊢;by_cases q3:t.kind=3
       ·rw [if_pos q3]at h ⊢;cases es with
        | nil=>simp at h
        | cons e2 es=>
         dsimp only at h ⊢;cases hy:eo g fs d vs e2 s1 with
         | none=>rw [hy]at h;simp at h
         | some q=>rw [hy]at h;rw [ih.x _ _ _ _ _ hy];exact h
       rw [if_neg q3]at h ⊢;by_cases q4:t.kind=4
       ·rw [if_pos q4]at h ⊢;exact ih.b _ _ _ _ _ h
       rw [if_neg q4]at h ⊢;by_cases q5:t.kind=5
       ·rw [if_pos q5]at h ⊢;exact ih.w _ _ _ _ _ _ _ h
       rw [if_neg q5]at h ⊢;exact h
  ·rw [i9]at h ⊢;by_cases hv:v=0
   ·rw [if_pos hv]at h ⊢;exact h
   ·rw [if_neg hv]at h ⊢;cases hb:fI g fs d vs l s with
    | none=>rw [hb]at h;simp at h
    | some q=>
     rw [hb]at h;rw [ih.b _ _ _ _ _ hb];cases q with
     | err z=>exact h
     | ok p s1=>
      obtain⟨vs1,ro⟩:=p;cases ro with
      | some y=>exact h
      | none=>
       dsimp only at h ⊢;cases hx:eo g fs d vs1 e s1 with
       | none=>rw [hx]at h;simp at h
       | some q=>
        rw [hx]at h;rw [ih.x _ _ _ _ _ hx];cases q with
        | err z=>exact h
        | ok w s2=>exact ih.w _ _ _ _ _ _ _ h
theorem jx{fs:List Tf}{g g':Nat}(h:g≤g'){d vs t s r}(hr:eo g fs d vs t s=some r):eo g' fs d vs t s=some r:=by
 induction h with
 | refl=>exact hr
 | step _ ih=>exact(mono fs _).x _ _ _ _ _ ih
theorem Dc{fs:List Tf}{g g':Nat}(h:g≤g'){d vs acc l s r}(hr:fY g fs d vs acc l s=some r):fY g' fs d vs acc l s=some r:=by
 induction h with
 | refl=>exact hr
 | step _ ih=>exact(mono fs _).k _ _ _ _ _ _ ih
theorem JS{fs:List Tf}{g g':Nat}(h:g≤g'){d f al s r}(hr:jR g fs d f al s=some r):jR g' fs d f al s=some r:=by
 induction h with
 | refl=>exact hr
 | step _ ih=>exact(mono fs _).c _ _ _ _ _ ih
theorem tH{fs:List Tf}{g g':Nat}(h:g≤g'){d vs l s r}(hr:fI g fs d vs l s=some r):fI g' fs d vs l s=some r:=by
 induction h with
 | refl=>exact hr
 | step _ ih=>exact(mono fs _).b _ _ _ _ _ ih
theorem JR{fs:List Tf}{g g':Nat}(h:g≤g'){d vs t s r}(hr:gK g fs d vs t s=some r):gK g' fs d vs t s=some r:=by
 induction h with
 | refl=>exact hr
 | step _ ih=>exact(mono fs _).s _ _ _ _ _ ih
theorem Db{fs:List Tf}{g g':Nat}(h:g≤g'){d vs e l v s r}(hr:i9 g fs d vs e l v s=some r):i9 g' fs d vs e l v s=some r:=by
 induction h with
 | refl=>exact hr
 | step _ ih=>exact(mono fs _).w _ _ _ _ _ _ _ ih
theorem D1{fs:List Tf}(hF:VF fs){g d vs t s v s'}(ht:VX fs t)(hv:okVs vs)(hs:okMs s)(h:eo g fs d vs t s=some (.ok v s')):s'.fuel+1≤s.fuel:=by
 cases g with
 | zero=>simp [eo]at h
 | succ g=>
  rw [eo]at h;by_cases hf:s.fuel≤0
  ·rw [if_pos hf]at h;simp at h
  ·rw [if_neg hf]at h;have hp:=Kp.pay hs hf;cases hk:fY g fs d vs [] t.kids {s with fuel:=s.fuel-1}with
   | none=>rw [hk]at h;simp at h
   | some q=>
    rw [hk]at h;cases q with
    | err z=>simp at h
    | ok ks s1=>
     obtain⟨k1,_,k3⟩:=(eB hF g).k d vs [] t.kids _ ks s1 (by cases t;exact ht.2.2.2.2.2.2) hv hp.ok (by simp) hk;have h3:=k3.fl;dsimp only at h3 h;have fin:∀{a:Int}{s2:Ms},some (Re.ok a s2)=some (Re.ok v s')→s2.fuel=s1.fuel→s'.fuel+1≤s.fuel:=fun h hs2=>by
      simp only [Option.some.injEq,Re.ok.injEq]at h;obtain⟨-,rfl⟩:=h;omega
     split at h
     ·exact fin h J
     ·split at h
      ·exact fin h J
      ·split at h
       ·exact fin h J
       ·split at h
        ·split at h
         ·exact fin h J
         ·exact fin h J
        ·split at h
         ·exact fin h J
         ·split at h
          ·exact fin h J
          ·split at h
           ·simp at h
           ·rename_i f hff;have:=((eB hF g).c d f ks s1 v s' (fW hff) k1 k3.ok h).2.fl;omega
structure Tot(fs:List Tf)(n:Nat):Prop where
 x:∀d vs t s,VX fs t→okVs vs→okMs s→s.fuel≤(n:Int)→∃g r,eo g fs d vs t s=some r
 k:∀d vs l acc s,VXs fs l→okVs vs→okMs s→s.fuel≤(n:Int)→∃g r,fY g fs d vs acc l s=some r
 b:∀d vs l s,VYs fs l→okVs vs→okMs s→s.fuel≤(n:Int)→∃g r,fI g fs d vs l s=some r
 c:∀d f al s,f∈fs→(∀a∈al,oW a)→okMs s→s.fuel≤(n:Int)→∃g r,jR g fs d f al s=some r
 w:∀d vs e l v s,VX fs e→VYs fs l→okVs vs→okMs s→s.fuel≤(n:Int)→∃g r,i9 g fs d vs e l v s=some r
theorem Hy{fs:List Tf}(hF:VF fs){n:Nat}(hx:∀d vs t s,VX fs t→okVs vs→okMs s→s.fuel≤(n:Int)→∃g r,eo g fs d vs t s=some r):
  ∀d vs l acc s,VXs fs l→okVs vs→okMs s→s.fuel≤(n:Int)→∃g r,fY g fs d vs acc l s=some r
 | d,vs,[],acc,s,_,_,_,_=>⟨1,.ok acc s,by rw [fY]⟩
 | d,vs,t::l,acc,s,hl,hv,hs,hn=>by
  obtain⟨g1,r1,h1⟩:=hx d vs t s hl.1 hv hs hn;cases r1 with
  | err z=>exact⟨g1+1,.err z,by rw [fY,h1]⟩
  | ok v s1=>
   have hk:=((eB hF g1).x d vs t s v s1 hl.1 hv hs h1).2;obtain⟨g2,r2,h2⟩:=Hy hF hx d vs l (acc++ [v]) s1 hl.2 hv hk.ok (Int.le_trans hk.fl hn);refine⟨g1+g2+1,r2,?_⟩;rw [fY,jx (by omega:g1≤g1+g2) h1];exact Dc (by omega:g2≤g1+g2) h2
theorem Hz{fs:List Tf}(hF:VF fs){n:Nat}(hx:∀d vs t s,VY fs t→okVs vs→okMs s→s.fuel≤(n:Int)→∃g r,gK g fs d vs t s=some r):
  ∀d vs l s,VYs fs l→okVs vs→okMs s→s.fuel≤(n:Int)→∃g r,fI g fs d vs l s=some r
 | d,vs,[],s,_,_,_,_=>⟨1,.ok (vs,none) s,by rw [fI]⟩
 | d,vs,t::l,s,hl,hv,hs,hn=>by
  obtain⟨g1,r1,h1⟩:=hx d vs t s hl.1 hv hs hn;cases r1 with
  | err z=>exact⟨g1+1,.err z,by rw [fI,h1]⟩
  | ok p s1=>
   obtain⟨vs1,ro⟩:=p;obtain⟨k1,_,hk⟩:=(eB hF g1).s d vs t s _ s1 hl.1 hv hs h1;cases ro with
   | some y=>exact⟨g1+1,.ok (vs1,some y) s1,by rw [fI,h1]⟩
   | none=>
    obtain⟨g2,r2,h2⟩:=Hz hF hx d vs1 l s1 hl.2 k1 hk.ok (Int.le_trans hk.fl hn);refine⟨g1+g2+1,r2,?_⟩;rw [fI,JR (by omega:g1≤g1+g2) h1];exact tH (by omega:g2≤g1+g2) h2
theorem Hx{fs:List Tf}(hF:VF fs){n:Nat}(hT:∀k,n=k+1→Tot fs k)(d:Nat)(vs:Vs)(t:Tx)(s:Ms)(ht:VX fs t)(hv:okVs vs)(hs:okMs s)(hn:s.fuel≤(n:Int)):∃g r,eo g fs d vs t s=some r:=by
 by_cases hf:s.fuel≤0
 ·exact⟨1,.err 25,by rw [eo,if_pos hf]⟩
 ·obtain⟨k,rfl⟩:∃k,n=k+1:=⟨n-1,by omega⟩
  have T:=hT k J;have hp:=Kp.pay hs hf;obtain⟨g1,r1,h1⟩:=T.k d vs t.kids [] _ (ul ht) hv hp.ok (by dsimp only;omega);cases r1 with
  | err z=>exact⟨g1+1,.err z,by rw [eo,if_neg hf,h1]⟩
  | ok ks s1=>
   obtain⟨k1,_,k3⟩:=(eB hF g1).k d vs [] t.kids _ ks s1 (ul ht) hv hp.ok (by simp) h1;have k4:=k3.fl;dsimp only at k4;by_cases q1:t.kind=1
   ·exact⟨g1+1,_,by rw [eo,if_neg hf,h1];dsimp only;rw [if_pos q1]⟩
   by_cases q2:t.kind=2
   ·exact⟨g1+1,_,by rw [eo,if_neg hf,h1];dsimp only;rw [if_neg q1,if_pos q2]⟩
   by_cases q4:t.kind=4
   ·exact⟨g1+1,_,by rw [eo,if_neg hf,h1];dsimp only;rw [if_neg q1,if_neg q2,if_pos q4]⟩
   by_cases q5:t.kind=5
   ·cases hi:s1.inp with
    | nil=>exact⟨g1+1,_,by rw [eo,if_neg hf,h1];dsimp only;rw [if_neg q1,if_neg q2,if_neg q4,if_pos q5,hi]⟩
    | cons a r=>exact⟨g1+1,_,by rw [eo,if_neg hf,h1];dsimp only;rw [if_neg q1,if_neg q2,if_neg q4,if_pos q5,hi]⟩
   by_cases q6:t.kind=6
   ·exact⟨g1+1,_,by rw [eo,if_neg hf,h1];dsimp only;rw [if_neg q1,if_neg q2,if_neg q4,if_neg q5,if_pos q6]⟩
   by_cases q7:t.kind=7
   ·exact⟨g1+1,_,by rw [eo,if_neg hf,h1];dsimp only;rw [if_neg q1,if_neg q2,if_neg q4,if_neg q5,if_neg q6,if_pos q7]⟩
   obtain⟨f,hff,_⟩:=Ay ht q1 q2 q4 q5 q6 q7;obtain⟨g2,r2,h2⟩:=T.c d f ks s1 (fW hff) k1 k3.ok (by omega);refine⟨g1+g2+1,r2,?_⟩;rw [eo,if_neg hf,Dc (by omega:g1≤g1+g2) h1];dsimp only;rw [if_neg q1,if_neg q2,if_neg q4,if_neg q5,if_neg q6,if_neg q7,hff];exact JS (by omega:g2≤g1+g2) h2
theorem LH{fs:List Tf}(hF:VF fs){n:Nat}(hT:∀k,n=k+1→Tot fs k)(d:Nat)(vs:Vs)(t:Ty)(s:Ms)(ht:VY fs t)(hv:okVs vs)(hs:okMs s)(hn:s.fuel≤(n:Int)):∃g r,gK g fs d vs t s=some r:=by
 by_cases hf:s.fuel≤0
 ·exact⟨1,.err 25,by rw [gK,if_pos hf]⟩
 ·obtain⟨k,rfl⟩:∃k,n=k+1:=⟨n-1,by omega⟩
  have T:=hT k J;have hp:=Kp.pay hs hf;obtain⟨v1,v2,v3,v4⟩:=IQ ht;cases hes:t.es with
  | nil=>rw [hes]at v1;simp at v1
  | cons e es=>
   rw [hes]at v4 v3;obtain⟨g1,r1,h1⟩:=T.x d vs e _ v4.1 hv hp.ok (by dsimp only;omega);cases r1 with
   | err z=>exact⟨g1+1,.err z,by rw [gK,if_neg hf,hes];dsimp only;rw [h1]⟩
   | ok v s1=>
    obtain⟨k1,k3⟩:=(eB hF g1).x d vs e _ v s1 v4.1 hv hp.ok h1;have k4:=k3.fl;dsimp only at k4;by_cases q1:t.kind=1∨t.kind=2
    ·exact⟨g1+1,_,by rw [gK,if_neg hf,hes];dsimp only;rw [h1];dsimp only;rw [if_pos q1]⟩
    by_cases q3:t.kind=3
    ·cases es with
     | nil=>have:=v3 q3;simp at this
     | cons e2 es=>
      obtain⟨g2,r2,h2⟩:=T.x d vs e2 s1 v4.2.1 hv k3.ok (by omega);cases r2 with
      | err z=>exact⟨g1+g2+1,.err z,by rw [gK,if_neg hf,hes];dsimp only;rw [jx (by omega:g1≤g1+g2) h1];dsimp only;rw [if_neg q1,if_pos q3,jx (by omega:g2≤g1+g2) h2]⟩
      | ok w s2=>exact⟨g1+g2+1,_,by rw [gK,if_neg hf,hes];dsimp only;rw [jx (by omega:g1≤g1+g2) h1];dsimp only;rw [if_neg q1,if_pos q3,jx (by omega:g2≤g1+g2) h2]⟩
    by_cases q4:t.kind=4
    ·obtain⟨g2,r2,h2⟩:=T.b d vs (if v=0 then t.els else t.body) s1 (by split;exact(yw ht).2;exact(jP ht).2) hv k3.ok (by omega);refine⟨g1+g2+1,r2,?_⟩;rw [gK,if_neg hf,hes];dsimp only;rw [jx (by omega:g1≤g1+g2) h1];dsimp only;rw [if_neg q1,if_neg q3,if_pos q4];exact tH (by omega:g2≤g1+g2) h2
    by_cases q5:t.kind=5
    ·obtain⟨g2,r2,h2⟩:=T.w d vs e t.body v s1 v4.1 (jP ht).2 hv k3.ok (by omega);refine⟨g1+g2+1,r2,?_⟩;rw [gK,if_neg hf,hes];dsimp only;rw [jx (by omega:g1≤g1+g2) h1];dsimp only;rw [if_neg q1,if_neg q3,if_neg q4,if_pos q5];exact Db (by omega:g2≤g1+g2) h2
    by_cases q6:t.kind=6
    ·exact⟨g1+1,_,by rw [gK,if_neg hf,hes];dsimp only;rw [h1];dsimp only;rw [if_neg q1,if_neg q3,if_neg q4,if_neg q5,if_pos q6]⟩
    by_cases q7:t.kind=7
    ·exact⟨g1+1,_,by rw [gK,if_neg hf,hes];dsimp only;rw [h1];dsimp only;rw [if_neg q1,if_neg q3,if_neg q4,if_neg q5,if_neg q6,if_pos q7]⟩
    exact⟨g1+1,_,by rw [gK,if_neg hf,hes];dsimp only;rw [h1];dsimp only;rw [if_neg q1,if_neg q3,if_neg q4,if_neg q5,if_neg q6,if_neg q7]⟩
theorem LG{fs:List Tf}(hF:VF fs){n:Nat}(hT:∀k,n=k+1→Tot fs k)(hb:∀d vs l s,VYs fs l→okVs vs→okMs s→s.fuel≤(n:Int)→∃g r,fI g fs d vs l s=some r)(d:Nat)(vs:Vs)(e:Tx)(l:List Ty)(v:Int)(s:Ms)(he:VX fs e)(hl:VYs fs l)(hv:okVs vs)(hs:okMs s)(hn:s.fuel≤(n:Int)):∃g r,i9 g fs d vs e l v s=some r:=by
 by_cases q:v=0
 ·exact⟨1,_,by rw [i9,if_pos q]⟩
 ·obtain⟨g1,r1,h1⟩:=hb d vs l s hl hv hs hn;cases r1 with
  | err z=>exact⟨g1+1,.err z,by rw [i9,if_neg q,h1]⟩
  | ok p s1=>
   obtain⟨vs1,ro⟩:=p;obtain⟨k1,_,k3⟩:=(eB hF g1).b d vs l s _ s1 hl hv hs h1;cases ro with
   | some y=>exact⟨g1+1,.ok (vs1,some y) s1,by rw [i9,if_neg q,h1]⟩
   | none=>
    obtain⟨g2,r2,h2⟩:=Hx hF hT d vs1 e s1 he k1 k3.ok (Int.le_trans k3.fl hn);cases r2 with
    | err z=>exact⟨g1+g2+1,.err z,by rw [i9,if_neg q,tH (by omega:g1≤g1+g2) h1];dsimp only;rw [jx (by omega:g2≤g1+g2) h2]⟩
    | ok w s2=>
     have hc:=D1 hF he k1 k3.ok h2;have k5:=k3.fl;by_cases hz:s2.fuel≤0∧n=0
     ·exfalso;have h3:=hz.2
      -- with no units left the condition would have failed
      cases g2 with
      | zero=>simp [eo]at h2
      | succ g2=>rw [eo,if_pos (by omega)]at h2;simp at h2
     ·by_cases hn0:n=0
      ·exfalso;cases g2 with
       | zero=>simp [eo]at h2
       | succ g2=>rw [eo,if_pos (by omega)]at h2;simp at h2
      ·obtain⟨k,rfl⟩:∃k,n=k+1:=⟨n-1,by omega⟩
       obtain⟨g3,r3,h3⟩:=(hT k J).w d vs1 e l w s2 he hl k1 ((eB hF g2).x d vs1 e s1 w s2 he k1 k3.ok h2).2.ok (by omega);refine⟨g1+g2+g3+1,r3,?_⟩;rw [i9,if_neg q,tH (by omega:g1≤g1+g2+g3) h1];dsimp only;rw [jx (by omega:g2≤g1+g2+g3) h2];exact Db (by omega:g3≤g1+g2+g3) h3
theorem B_{fs:List Tf}(hF:VF fs){n:Nat}(hT:∀k,n=k+1→Tot fs k):Tot fs n:=by
 have hx:=Hx hF hT;have hb:=Hz hF (n:=n) (LH hF hT);refine⟨hx,Hy hF hx,hb,fun d f al s hf ha hs hn=> ?_,LG hF hT hb⟩;by_cases hd:d=12
 ·exact⟨1,.err 26,by rw [jR,if_pos hd]⟩
 ·obtain⟨g1,r1,h1⟩:=hb (d+1) (dM [] f.ps al) f.body s (hF f hf).2.2 (okVs.bind _ _ (fun p hp=>by simp at hp) ha) hs hn;cases r1 with
  | err z=>exact⟨g1+1,.err z,by rw [jR,if_neg hd,h1]⟩
  | ok p s1=>exact⟨g1+1,_,by rw [jR,if_neg hd,h1]⟩
theorem QK{fs:List Tf}(hF:VF fs):∀n,Tot fs n
 | 0=>B_ hF fun k h=>by omega
 | n+1=>B_ hF fun k h=>by
  obtain rfl:k=n:=by omega
  exact QK hF k
section
end
section
end
theorem EK{nm:ByteArray}(h:gI nm=true)(a b:Int):(nn nm a b).isSome=true:=by
 unfold gI at h;obtain⟨p,hp⟩:=Option.isSome_iff_exists.1 h;have h1:=List.mem_of_find?_eq_some hp;have h2:=List.find?_some hp;have h2:p.1=nm:=by simpa using h2
 subst h2;simp only [lvL,List.mem_cons,List.not_mem_nil,or_false]at h1;rcases h1 with rfl|rfl|rfl|rfl|rfl|rfl|rfl|rfl|rfl|rfl|rfl|rfl|rfl|rfl|rfl|rfl<;>rfl
theorem Fc{nm:ByteArray}(h:cg nm AG=true)(a:Int):(BJ nm a).isSome=true:=by
 unfold cg at h;obtain⟨p,h1,h2⟩:=List.any_eq_true.1 h;have h2:nm=p:=by simpa using h2
 subst h2;simp only [AG,List.mem_cons,List.not_mem_nil,or_false]at h1;rcases h1 with rfl|rfl|rfl<;>rfl
theorem sb{k:Int}{nm:ByteArray}{n:Nat}(h:oK k nm n=true):(k=1∧n=0)∨(k=5∧n=0)∨(k=2∧n=0)∨k=3∨(k=4∧n=1)∨(k=6∧cg nm AG=true∧n=1)∨(k=7∧gI nm=true∧n=2):=by
 unfold oK at h;split at h
 ·rename_i hk;simp only [Bool.and_eq_true,decide_eq_true_eq]at h;rcases hk with hk|hk
  ·exact .inl ⟨hk,h.2⟩
  ·exact .inr (.inl ⟨hk,h.2⟩)
 ·split at h
  ·rename_i hk;simp only [Bool.and_eq_true,decide_eq_true_eq]at h;exact .inr (.inr (.inl ⟨hk,h.2⟩))
  ·split at h
   ·rename_i hk;exact .inr (.inr (.inr (.inl hk)))
   ·split at h
    ·rename_i hk;simp only [Bool.and_eq_true,decide_eq_true_eq]at h;exact .inr (.inr (.inr (.inr (.inl ⟨hk,h.2⟩))))
    ·split at h
     ·rename_i hk;simp only [Bool.and_eq_true,decide_eq_true_eq]at h;exact .inr (.inr (.inr (.inr (.inr (.inl ⟨hk,h.1,h.2⟩)))))
     ·split at h
      ·rename_i hk;simp only [Bool.and_eq_true,decide_eq_true_eq]at h;exact .inr (.inr (.inr (.inr (.inr (.inr ⟨hk,h.1,h.2⟩)))))
      ·cases h
theorem BE{fs:List Tf}{ns:List ByteArray}{t:Tx}(h:nE fs ns t=0)(hk:t.kind=3):∃f,cm fs t.name=some f∧f.ps.length=t.kids.length:=by
 cases hf:cm fs t.name with
 | none=>rw [tG hk hf]at h;cases h
 | some f=>
  rw [mG hk hf]at h;refine⟨f,J,?_⟩;split at h
  ·assumption
  ·cases h
mutual
theorem Hv{fs:List Tf}{ns:List ByteArray}:∀t:Tx,GX t→rX t=true→eX fs ns t=0→VX fs t
 | .mk k n nm v kids,hg,hr,he=>by
  have hr2:(oK k nm kids.length&&(decide (k=1) || decide (n=0))&&oI kids)=true:=hr;simp only [Bool.and_eq_true]at hr2;obtain⟨⟨h1,_⟩,h3⟩:=hr2;have he2:=Ac fs ns (.mk k n nm v kids);rw [he]at he2;obtain⟨e1,e2⟩:=bw.1 he2.symm;have hc:=sb h1;refine⟨hg.1,hg.2.2.1,fun hk=>by omega,fun hk=> ?_,fun hk=> ?_,fun k1 k2 k4 k5 k6 k7=> ?_,wQ kids hg.2.2.2 h3 e2⟩
  ·have:cg nm AG=true∧kids.length=1:=by
    rcases hc with hc|hc|hc|hc|hc|⟨_,hc,hn⟩|hc
    ·omega
    ·omega
    ·omega
    ·omega
    ·omega
    ·exact⟨hc,hn⟩
    ·omega
   exact⟨by omega,Fc this.1⟩
  ·have:gI nm=true∧kids.length=2:=by
    rcases hc with hc|hc|hc|hc|hc|hc|⟨_,hc,hn⟩
    ·omega
    ·omega
    ·omega
    ·omega
    ·omega
    ·omega
    ·exact⟨hc,hn⟩
   exact⟨by omega,EK this.1⟩
  ·have hk:k=3:=by omega
   obtain⟨f,hf1,hf2⟩:=BE e1 hk;exact⟨f,hf1,by rw [hf2];exact Nat.le_refl _⟩
theorem wQ{fs:List Tf}{ns:List ByteArray}:∀l:List Tx,GXs l→oI l=true→iF fs ns l=0→VXs fs l
 | [],_,_,_=>trivial
 | t::r,hg,hr,he=>by
  have hr2:(rX t&&oI r)=true:=hr;rw [Bool.and_eq_true]at hr2;obtain⟨e1,e2⟩:=bw.1 he;exact⟨Hv t hg.1 hr2.1 e1,wQ r hg.2 hr2.2 e2⟩
end
theorem xo{k:Int}{nm:ByteArray}{ne nb nl:Nat}(h:ze k nm ne nb nl=true):1≤k∧k≤8∧ne=(if k=3 then 2 else 1)∧(k=4∨k=5∨nb=0)∧(k=4∨nl=0):=by
 unfold ze at h;simp only [Bool.and_eq_true,Bool.or_eq_true,decide_eq_true_eq]at h;obtain⟨⟨⟨⟨⟨h1,h2⟩,h3⟩,h4⟩,h5⟩,h6⟩:=h;exact⟨h1,h2,h3,by rcases h5 with(h|h)|h;exact .inl h;exact .inr (.inl h);exact .inr (.inr h),h6⟩
mutual
theorem LA{fs:List Tf}:∀(ns:List ByteArray)(t:Ty),GY t→rY t=true→(bY fs ns t).2=0→VY fs t
 | ns,.mk k nm ve es vb body vl els,hg,hr,he=>by
  have hr2:(ze k nm es.length body.length els.length&&oI es&&lu body&&lu els)=true:=hr;simp only [Bool.and_eq_true]at hr2;obtain⟨⟨⟨h1,h2⟩,h3⟩,h4⟩:=hr2;have hk:=xo h1;rw [sT]at he;obtain⟨e1,he⟩:=bw.1 he;obtain⟨e2,he⟩:=bw.1 he;obtain⟨e3,he⟩:=bw.1 he;obtain⟨e4,e5⟩:=bw.1 he;have hes:es.length=if k=3 then 2 else 1:=hk.2.2.1
  exact⟨⟨by rw [hes];split<;>omega,hg.2.1.1,fun h3=>by rw [hes,if_pos h3];exact Nat.le_refl _,wQ es hg.2.1.2 h2 e2⟩,⟨hg.2.2.1.1,s4 _ body hg.2.2.1.2 h3 e4⟩,hg.2.2.2.1,s4 _ els hg.2.2.2.2 h4 e5⟩
theorem s4{fs:List Tf}:∀(ns:List ByteArray)(l:List Ty),GYs l→lu l=true→(cA fs ns l).2=0→VYs fs l
 | _,[],_,_,_=>trivial
 | ns,t::r,hg,hr,he=>by
  have hr2:(rY t&&lu r)=true:=hr;rw [Bool.and_eq_true]at hr2;obtain⟨e1,e2⟩:=bw.1 he;exact⟨LA ns t hg.1 hr2.1 e1,s4 _ r hg.2 hr2.2 e2⟩
end
theorem sM{fs:List Tf}:∀{l:List Tf},fJ fs l=0→∀f∈l,jI fs f=0
 | [],_,f,hf=>by simp at hf
 | g::r,h,f,hf=>by
  obtain⟨h1,h2⟩:=bw.1 h;rcases List.mem_cons.1 hf with rfl|hf
  ·exact h1
  ·exact sM h2 f hf
structure Fine(fs:List Tf)(f:Tf):Prop where
 vf:VF fs
 main:cm fs cN=some f
 noP:f.ps= []
 len:fs.length≤16
 once:∀(i:Nat)(f:Tf),fs[i]?=some f→qy fs f.name=(i:Int)
 each:∀f∈fs,jI fs f=0
theorem ji{fs:List Tf}(hg:GP fs)(h:fT fs=0):∃f,Fine fs f:=by
 unfold fT at h;split at h
 ·cases h
 ·rename_i h1;split at h
  ·cases h
  ·rename_i h2;split at h
   ·cases h
   ·rename_i h3;split at h
    ·cases h
    ·rename_i f hf;split at h
     ·cases h
     ·rename_i h4;have h1:rP fs=true:=by simpa using h1
      have h3:once fs=true:=by simpa using h3
      have hr:=List.all_eq_true.1 h1;have he:=sM h;refine⟨f,fun g hgm=> ?_,hf,List.eq_nil_of_length_eq_zero (by omega),by omega,mD.1 h3,he⟩;obtain⟨g1,g2,g3,g4,g5,g6⟩:=hg.2 g hgm;have hrg:=hr g hgm;unfold rF at hrg;simp only [Bool.and_eq_true]at hrg;have heg:=he g hgm;rw [k9]at heg;have h6:=(bw.1 (bw.1 heg).2).2;exact⟨g3,g4,s4 _ g.body g5 hrg.2 h6⟩
def zl(ins:List Int)(fuel:Int):Ms:=⟨ins,[],fun _=>0,fuel⟩
theorem xz{ins:List Int}{fuel:Int}(hi:∀x∈ins,oW x)(hf:fuel≤1000000000000):okMs (zl ins fuel):=⟨hi,fun _=>pZ,by show fuel<_;omega,by show((0:Nat):Int)+max fuel 0≤_;omega⟩
structure Ru where
 err:Int
 out:List Int
 mem:List Int
def AW:Re Int→Ru
 | .ok _ s=>⟨0,s.out,(List.range 256).map s.mem⟩
 | .err z=>⟨z,[],[]⟩
inductive RunIs(fs:List Tf)(ins:List Int)(fuel:Int):Ru→Prop where
 | bad (h:fT fs≠0):RunIs fs ins fuel ⟨fT fs,[],[]⟩
 | run (f:Tf) (g:Nat) (r:Re Int) (h:fT fs=0) (hf:cm fs cN=some f) (he:jR g fs 0 f [] (zl ins fuel)=some r):RunIs fs ins fuel (AW r)
theorem CB{fs:List Tf}(hg:GP fs){ins:List Int}{fuel:Int}(hi:∀x∈ins,oW x)(hf:fuel≤1000000000000):∃r,RunIs fs ins fuel r:=by
 by_cases h:fT fs=0
 ·obtain⟨f,hfn⟩:=ji hg h;have ht:=QK hfn.vf fuel.toNat
  obtain⟨g,r,hr⟩:=ht.c 0 f [] (zl ins fuel) (fW hfn.main) (by simp) (xz hi hf) (by show fuel≤_;omega);exact⟨_,.run f g r h hfn.main hr⟩
 ·exact⟨_,.bad h⟩
section
end
theorem z_:∀l:List Int,l.flatMap eU=l.map fun x=>Value.int .u32 x
 | []=>rfl
 | a::r=>by rw [List.flatMap_cons,z_ r];rfl
section
end
inductive Px where
 | mk (kind n:Int) (name:ByteArray) (kids:List Px)
inductive Py where
 | mk (kind:Int) (name:ByteArray) (es:List Px) (body els:List Py)
structure Pf where
 name:ByteArray
 ps:List ByteArray
 body:List Py
mutual
def qZ:Tx→Px
 | .mk k n nm _ kids=> .mk k n nm (jW kids)
def jW:List Tx→List Px
 | []=> []
 | t::r=>qZ t::jW r
end
mutual
def Kn:Ty→Py
 | .mk k nm _ es _ body _ els=> .mk k nm (jW es) (lh body) (lh els)
def lh:List Ty→List Py
 | []=> []
 | t::r=>Kn t::lh r
end
def uo(f:Tf):Pf:=⟨f.name,f.ps,lh f.body⟩
theorem qB:∀a b:List Tx,jW (a++b)=jW a++jW b
 | [],b=>by simp [jW]
 | t::r,b=>by simp [jW,qB r b]
theorem vW:∀a b:List Ty,lh (a++b)=lh a++lh b
 | [],b=>by simp [lh]
 | t::r,b=>by simp [lh,vW r b]
def tK(n m:Int):Int:=((n.tmod m)+m).tmod m
theorem oO{x n:Int}(hn:0<n):0≤tK x n∧tK x n<n:=by
 unfold tK;have h1:=Int.tmod_lt_of_pos x hn;have h2:=Int.tmod_lt_of_pos (-x) hn;rw [Int.neg_tmod]at h2;have h3:0≤x.tmod n+n:=by omega
 rw [Int.tmod_eq_emod_of_nonneg h3];exact⟨Int.emod_nonneg _ (by omega),Int.emod_lt_of_pos _ hn⟩
theorem LJ(x:Int){m:Int}(hm:0<m): -m<x.tmod m∧x.tmod m<m:=by
 have h1:=Int.tmod_lt_of_pos x hm;have h2:=Int.tmod_lt_of_pos (-x) hm;rw [Int.neg_tmod]at h2;omega
theorem mK(n m:Int)(hm:0<m∧m≤1000000):
  Spec prog 24 [.int .i64 n,.int .i64 m] [] [] (X:=Unit) (fun _=>True) (fun _=> .int .i64 (tK n m)) (fun _=> []) (fun _=> []):=by
 refine aI func24 J ntmps24 J fun w0 M H=>aj (ai J J (aG J (ad J J (ad J J (ar J J (gd (by omega) J) J (ad J J (ar J J (bi (by have:=LJ n hm.1;exact bc (by omega) (by omega))) J (ad J J (ar J J (gd (by omega) J) J (ai J J (ac (au (aH () O J (bE (aJ J)) J [] [] J J J)))))))))))))
theorem nT{w:World}{F G:Nat→Prop}{t:Tx}(h:(bS t.v t.kids).pred w G)(hs:∀b,G b→F b):TxIn w F t:=by
 have h2:TxIn w G t:=by
  cases t;exact h
 exact TxIn.mono hs (fun _ _=>J) t h2
def KY(l:List Tx):Asn:=⟨fun w F=>TxsIn w F l,fun h hs=>TxsIn.mono (fun _ hb=>hb) hs _ h⟩
theorem yC{w:World}{F:Nat→Prop}:∀{l:List Tx}{t:Tx},TxsIn w F l→TxIn w F t→TxsIn w F (l++ [t])
 | [],t,_,ht=>⟨ht,trivial⟩
 | a::r,t,h,ht=>⟨h.1,yC h.2 ht⟩
theorem Hr{w:World}{F G:Nat→Prop}{l:List Tx}(h:(KY l).pred w G)(hs:∀b,G b→F b):TxsIn w F l:=TxsIn.mono hs (fun _ _=>rfl) l h
theorem qe(w:World)(F:Nat→Prop)(_:AllIn w F []):(bS bJ []).pred w F:=⟨jw,trivial⟩
theorem zb{v:SV}{t:Tx}(w:World)(F:Nat→Prop)(h:AllIn w F [own 61 4 dt (sv v) [t],bS t.v t.kids]):(bS v [t]).pred w F:=by
 obtain⟨⟨_,a0,b0⟩,⟨_,a1,b1⟩,_⟩:=h;exact⟨cW a0 b0,nT a1 b1,O⟩
theorem Fg{v:SV}{t u:Tx}(w:World)(F:Nat→Prop)(h:AllIn w F [own 61 4 dt (sv v) [t,u],bS t.v t.kids,bS u.v u.kids]):(bS v [t,u]).pred w F:=by
 obtain⟨⟨_,a0,b0⟩,⟨_,a1,b1⟩,⟨_,a2,b2⟩,_⟩:=h;exact⟨cW a0 b0,nT a1 b1,nT a2 b2,O⟩
theorem Gi{l:List Tx}{t:Tx}(w:World)(F:Nat→Prop)(h:AllIn w F [KY l,bS t.v t.kids]):(KY (l++ [t])).pred w F:=by
 obtain⟨⟨_,a0,b0⟩,⟨_,a1,b1⟩,_⟩:=h;exact yC (Hr a0 b0) (nT a1 b1)
theorem Do{v:SV}{l:List Tx}(w:World)(F:Nat→Prop)(h:AllIn w F [own 61 4 dt (sv v) l,KY l]):(bS v l).pred w F:=by
 obtain⟨⟨_,a0,b0⟩,⟨_,a1,b1⟩,_⟩:=h;exact⟨cW a0 b0,Hr a1 b1⟩
def KX(l:List Ty):Asn:=⟨fun w F=>TysIn w F l,fun h hs=>TysIn.mono (fun _ hb=>hb) hs _ h⟩
theorem yB{w:World}{F:Nat→Prop}:∀{l:List Ty}{t:Ty},TysIn w F l→TyIn w F t→TysIn w F (l++ [t])
 | [],t,_,ht=>⟨ht,trivial⟩
 | a::r,t,h,ht=>⟨h.1,yB h.2 ht⟩
theorem Hq{w:World}{F G:Nat→Prop}{l:List Ty}(h:(KX l).pred w G)(hs:∀b,G b→F b):TysIn w F l:=TysIn.mono hs (fun _ _=>rfl) l h
theorem Spec.roAll{P:Program}{n:Nat}{vs:List Value}{L R0 R1:List Asn}{X:Type}{φ:X→Prop}{v:X→Value}{L' R':X→List Asn}(h:Spec P n vs L R0 φ v L' R')(hAB:∀(i:Nat)(A:Asn),R0[i]?=some A→∃B:Asn,R1[i]?=some B∧∀w G,B.pred w G→A.pred w G):Spec P n vs L R1 φ v L' R':=fun w M H ⟨F,hF⟩=>
 h w M H ⟨F,hF.touch,hF.has,hF.lt,hF.mine,hF.apart,fun k C hk=>by
  obtain⟨B,h1,h2⟩:=hAB k C hk;obtain⟨G,g1,g2⟩:=hF.ro k B h1;exact⟨G,h2 _ _ g1,g2⟩⟩
def Oy(c:Nat)(vp:SV)(fs:List Tf)(v:SV)(l:List Ty):Prop:=∀(vn:SV)(ns:List ByteArray),ns.length+cL l≤1000000→Spec prog 60 [.pointer (some ⟨c,0,none⟩),sv v] [bj c 128 [sv vp,sv vn],own 9 1 eS (sv vn) ns] [bF v l,cx vp fs] (X:=SV×List ByteArray) (fun x=>(cA fs ns l).2=0→x.2=(cA fs ns l).1) (fun _=> .int .i64 (cA fs ns l).2) (fun x=> [bj c 128 [sv vp,sv x.1],own 9 1 eS (sv x.1) x.2]) (fun _=> [])
theorem F6{A B C D D':Asn}(h:∀w G,D.pred w G→D'.pred w G):∀(i:Nat)(X:Asn),([A,D',B,C]:List Asn)[i]?=some X→∃Y,([A,D,B,C]:List Asn)[i]?=some Y∧∀w G,Y.pred w G→X.pred w G
 | 0,X,hX=>⟨A,rfl,by cases hX;exact fun _ _ h=>h⟩
 | 1,X,hX=>⟨D,rfl,by cases hX;exact h⟩
 | 2,X,hX=>⟨B,rfl,by cases hX;exact fun _ _ h=>h⟩
 | 3,X,hX=>⟨C,rfl,by cases hX;exact fun _ _ h=>h⟩
 | i+4,X,hX=>by simp at hX
theorem Cp(c:Nat)(vp vn:SV)(fs:List Tf)(ns:List ByteArray)(hfl:fs.length≤1000000)(hns:ns.length≤1000000)(t:Tx)(ht:GX t):Spec prog 106 [.pointer (some ⟨c,0,none⟩),xV t] [] [bj c 128 [sv vp,sv vn],own 9 1 eS (sv vn) ns,cx vp fs,bS t.v t.kids] (X:=Unit) (fun _=>True) (fun _=> .int .i64 (eX fs ns t)) (fun _=> []) (fun _=> []):=
 Spec.roAll (FC c vp vn fs ns hfl hns t ht) (F6 bB)
theorem fM{fs:List Tf}{ns ns2:List ByteArray}{l:List Ty}{i:Nat}{st:Ty}{z:Int}(hst:l[i]?=some st)(h:cA fs ns (l.take i)=(ns2,0))(hz:(bY fs ns2 st).2=z)(hz0:z≠0):(cA fs ns l).2=z:=by
 have h1:=uj fs ns (l.take (i+1)) (l.drop (i+1));rw [List.take_append_drop,qS hst,h]at h1;rw [h1];show fst (fst 0 (bY fs ns2 st).2) _=z;rw [ic,hz,jC hz0]
theorem KK{fs:List Tf}{ns ns2 ns3:List ByteArray}{l:List Ty}{i:Nat}{st:Ty}(hst:l[i]?=some st)(h:cA fs ns (l.take i)=(ns2,0))(hz:bY fs ns2 st=(ns3,0)):cA fs ns (l.take (i+1))=(ns3,0):=by
 rw [qS hst,h];show((bY fs ns2 st).1,fst 0 (bY fs ns2 st).2)=_;rw [hz];rfl
theorem N5{fs:List Tf}{ns:List ByteArray}{st:Ty}(h2:st.kind=2)(hm:cg st.name ns=false):(bY fs ns st).2=21:=by
 rw [sT];show fst (aE ns st) _=21;have h:aE ns st=21:=by unfold aE;rw [if_pos h2,hm];rfl
 rw [h];rfl
theorem KS{ns:List ByteArray}{st:Ty}(h:¬(st.kind=2∧cg st.name ns=false)):aE ns st=0:=by
 unfold aE;by_cases h2:st.kind=2
 ·rw [if_pos h2];by_cases hm:cg st.name ns=true
  ·rw [if_pos hm]
  ·exact absurd ⟨h2,by simpa using hm⟩ h
 ·rw [if_neg h2]
theorem P5{ns:List ByteArray}{st:Ty}(h:¬(st.kind=1∧cg st.name ns=true)):dE ns st=0:=by
 unfold dE;by_cases h2:st.kind=1
 ·rw [if_pos h2];by_cases hm:cg st.name ns=true
  ·exact absurd ⟨h2,hm⟩ h
  ·rw [if_neg hm]
 ·rw [if_neg h2]
theorem Hj{fs:List Tf}{ns:List ByteArray}{st:Ty}{e:Tx}(h1:st.kind=1)(hm:cg st.name ns=true)(he:st.es= [e]):(bY fs ns st).2=fst (eX fs ns e) 22:=by
 rw [sT];show fst (aE ns st) (fst (iF fs ns st.es) (fst (dE ns st) _))=_;rw [KS (fun h=>by rw [h1]at h;exact absurd h.1 (by decide)),he];have h:dE ns st=22:=by unfold dE;rw [if_pos h1,if_pos hm]
 rw [h];show fst 0 (fst (fst (eX fs ns e) 0) (fst 22 _))=_;rw [ic,dm];rfl
theorem N4{fs:List Tf}{ns:List ByteArray}{st:Ty}(ha:¬(st.kind=2∧cg st.name ns=false)){z:Int}(hz:iF fs ns st.es=z)(h0:z≠0):(bY fs ns st).2=z:=by
 rw [sT];show fst (aE ns st) (fst (iF fs ns st.es) _)=_;rw [KS ha,ic,hz,jC h0]
theorem KM{fs:List Tf}{ns:List ByteArray}{st:Ty}(ha:¬(st.kind=2∧cg st.name ns=false))(hd:¬(st.kind=1∧cg st.name ns=true))(hz:iF fs ns st.es=0):bY fs ns st=((cA fs (cA fs (dN ns st) st.body).1 st.els).1,fst (cA fs (dN ns st) st.body).2 (cA fs (cA fs (dN ns st) st.body).1 st.els).2):=by
 rw [sT,KS ha,P5 hd,hz];rfl
theorem JI{t:Ty}(h:rY t=true)(hk:t.kind≠3):∃e,t.es= [e]:=by
 rw [ko]at h;simp only [Bool.and_eq_true]at h;have h2:=h.1.1.1;unfold ze at h2;simp only [Bool.and_eq_true,decide_eq_true_eq]at h2;have h3:=h2.1.1.1.2;rw [if_neg hk]at h3;exact List.length_eq_one_iff.1 h3
structure Xn where
 i:Nat
 vn:SV
 ns:List ByteArray
theorem Ft(c:Nat)(vp:SV)(fs:List Tf)(hfl:fs.length≤1000000)(v:SV)(l:List Ty)(hl:l.length≤1000000)(hg:GYs l)(hr:l.all rY=true)(ih:∀u∈l,Oy c vp fs u.vb u.body∧Oy c vp fs u.vl u.els)(vn:SV)(ns:List ByteArray)(hb:ns.length+cL l≤1000000):
  Spec prog 60 [.pointer (some ⟨c,0,none⟩),sv v] [bj c 128 [sv vp,sv vn],own 9 1 eS (sv vn) ns] [bF v l,cx vp fs] (X:=SV×List ByteArray) (fun x=>(cA fs ns l).2=0→x.2=(cA fs ns l).1) (fun _=> .int .i64 (cA fs ns l).2) (fun x=> [bj c 128 [sv vp,sv x.1],own 9 1 eS (sv x.1) x.2]) (fun _=> []):=by
 refine aI func60 J ntmps60 J fun w0 M H=>aW 0 2 J fQ (aj (ai J J (ac (aS (ai J J (ac (aB (bv (X:=Xn) (fun x=>x.i≤l.length∧cA fs ns (l.take x.i)=(x.ns,0)) (fun x=> [(0,.pointer (some ⟨c,0,none⟩)),(1,sv v),(5,.int .i64 (x.i:Int))]) (fun x=> [(0,bj c 128 [sv vp,sv x.vn]),(1,own 9 1 eS (sv x.vn) x.ns)]) (fun x=> [(0,bF v l),(2,sl 5 eu (sv v) l),(1,cx vp fs)]) (fun x=>l.length-x.i) ⟨0,vn,ns⟩ ⟨Nat.zero_le _,J⟩ J J J (fun x hx0=> ?_)))))))))
 obtain⟨i,vn2,ns2⟩:=x;obtain⟨n1,n2⟩:=hx0;dsimp only at n1 n2 ⊢;have hnl2:ns2.length=ns.length+cL (l.take i):=by have h:=jL fs ns (l.take i);rw [n2]at h;exact h
 have hvl2:=kH (l.take i) (l.drop i);rw [List.take_append_drop]at hvl2;refine aS (ad J J (ad J J (aO (aU underlying62 J (aN (k:=2) J)) J (ar J J ci J (ac (ae J (fun h1=> ?_) (fun h1=> ?_)))))))
 ·(try simp only [be]at h1)
  have hi:i<l.length:=by omega
  obtain⟨st,hst⟩:∃k,l[i]?=some k:=⟨_,List.getElem?_eq_getElem hi⟩
  have hsm:=List.mem_of_getElem? hst;have hsg:=na (hg.mem st hsm);have hry:rY st=true:=List.all_eq_true.1 hr st hsm;have hvb:=kH (l.take (i+1)) (l.drop (i+1));rw [List.take_append_drop,i_ hst]at hvb;have hvs:=B8 st;refine aW 0 7 J (jn hsm) (aW 0 8 J (fF hsm) (aW 0 9 J (gt hsm) (aW 7 10 J eW (ax (a_ (aB (aj (ad J J (ad J J (aO (aR (j:=i) underlying62 dJ J J (aN (k:=2) J) (by first|rfl|omega) (by first|omega|(simp;done)|(simp;omega))) J (aO (aL dJ J J J (bD (aN (k:=2) J) (by intro _;rfl) hst (by rfl))) J (aZ dJ J J fun b6=>aq (k:=6) dJ J J J J J J (ac (a_ (bH [22,23,24,25,26,27,28,7] _ J (bk (V:= [(0,22,_),(1,23,_),(2,24,_),(3,25,_),(4,26,_),(5,27,_)]) [0,1,2,3,4,5] 6 [6,5,4,3,2,1,0] [7] (fun _=> [(7,7,_)]) J J (aa (aD J (ag gn J)) (aa (aD J (ah t9 J J (ay (k:=6) J J))) (aa (aD J (am J)) (aa (aD J (aF J)) (aa (aD J (ag g_ J)) (aa (aD J (ah gu J J (ay (k:=0) J J))) aw)))))) J J J J J J J J J J J (fun _ _=>J) J (bq (xs:= [.tmp 23,.tmp 27]) (ld st.name vn2 ns2 (by omega)) yr [] [(true,1)] [] J J J J J J J J (fun _ _=>J) (fun _ _ _=>J)) (fun _ _=>bp [7] J J (aa (aD J (ct J)) aw) J J J (a_ (a_ ?_)))))))))))))))))));refine ap (az dT J J (aP 6 t3 J J J J J (ar J J aY J (ad J J (aA [] J J O (fun hg2=>am J) J (aA [(33,_)] J J ⟨J,O⟩ (fun hg3=>ch J) J (aO (aQ J J J (by first|exact av|exact aC|rfl)) J (ac (ae J (fun h4=> ?_) (fun h4=> ?_))))))))))
  ·have q2:st.kind=2∧cg st.name ns2=false:=by simpa using h4
   refine aj (ai J J (ac (au (aH (vn2,ns2) (fun h=>absurd h (by rw [fM hst n2 (N5 q2.1 q2.2) (by decide)];exact(by decide))) J (bE (aJ J)) (by rw [fM hst n2 (N5 q2.1 q2.2) (by decide)]) [0,1] [] J J J))))
  ·have q2:¬(st.kind=2∧cg st.name ns2=false):=by rintro ⟨a,b⟩;rw [decide_eq_true a,b]at h4;exact absurd h4 (by simp)
   refine ax (aS (az dT J J (aP 6 t3 J J J J J (ar J J aY J (ad J J (aA [] J J O (fun hg5=>am J) J (aO (aQ J J J (by first|exact av|exact aC|rfl)) J (ac (ae J (fun h6=> ?_) (fun h6=> ?_))))))))))
   ·have q3:st.kind=1∧cg st.name ns2=true:=by simpa using h6
    obtain⟨e,hes⟩:=JI hry (by rw [q3.1];decide);have he0:st.es[0]?=some e:=by rw [hes];rfl
    refine aj (ad J J (az e9 J J (aP 6 ij J J J J J (aO (aR (j:=0) underlying59 co J J (aN (k:=10) J) J (by rw [hes];exact Nat.zero_lt_one)) J (aO (aL co J J J (bD (aN (k:=10) J) (by intro _;rfl) he0 (by rfl))) J ?_)))));have hum:e∈st.es:=List.mem_of_getElem? he0;refine aW 7 11 J (cS hum) (ak (xs:= [.tmp 42,.tmp 46]) (Cp c vp vn2 fs ns2 hfl (by omega) e (hsg.2.mem e hum)) EC [] [(true,0),(true,1),(false,1),(false,11)] [] (fun _ _=>ai J J (ac (aS (ad J J (ar J J df J (ac (ae J (fun h7=> ?_) (fun h7=> ?_)))))))))
    ·(try simp only [be]at h7)
     have q4:eX fs ns2 e≠0:=h7;refine aj (ad J J (ai J J (ac (au (aH (vn2,ns2) (fun h=>absurd h (by rw [fM hst n2 (z:=eX fs ns2 e) (by rw [Hj q3.1 q3.2 hes,jC q4]) q4];exact q4)) J (bE (aJ J)) (by rw [fM hst n2 (z:=eX fs ns2 e) (by rw [Hj q3.1 q3.2 hes,jC q4]) q4]) [0,1] [] J J J)))))
    ·(try simp only [be]at h7)
     have q4:eX fs ns2 e=0:=h7;refine ax (aj (ai J J (ac (au (aH (vn2,ns2) (fun h=>absurd h (by rw [fM hst n2 (z:=22) (by rw [Hj q3.1 q3.2 hes,q4];rfl) (by decide)];exact(by decide))) J (bE (aJ J)) (by rw [fM hst n2 (z:=22) (by rw [Hj q3.1 q3.2 hes,q4];rfl) (by decide)]) [0,1] [] J J J)))))
   ·have q3:¬(st.kind=1∧cg st.name ns2=true):=by rintro ⟨a,b⟩;rw [decide_eq_true a,b]at h6;exact absurd h6 (by simp)
    refine ax (aS (ai J J (ac (aB (bv (X:=Nat) (fun j=>j≤st.es.length∧iF fs ns2 (st.es.take j)=0) (fun j=> [(0,.pointer (some ⟨c,0,none⟩)),(1,sv v),(5,.int .i64 (i:Int)),(6,.pointer (some ⟨b6,0,none⟩)),(7,.bool (cg st.name ns2)),(9,.int .i64 (j:Int))]) (fun j=> [(0,bj c 128 [sv vp,sv vn2]),(1,own 9 1 eS (sv vn2) ns2),(6,bj b6 64 (eu st))]) (fun j=> [(0,bF v l),(2,sl 5 eu (sv v) l),(1,cx vp fs),(7,bS st.ve st.es),(8,bF st.vb st.body),(9,bF st.vl st.els),(10,sl 4 dt (sv st.ve) st.es)]) (fun j=>st.es.length-j) 0 ⟨Nat.zero_le _,J⟩ J J J (fun j hy0=> ?_))))));obtain⟨n3,n4⟩:=hy0;refine aS (ad J J (az e9 J J (aP 6 ij J J J J J (aO (aU underlying59 J (aN (k:=10) J)) J (ar J J ci J (ac (ae J (fun h8=> ?_) (fun h8=> ?_))))))))
    ·(try simp only [be]at h8)
     have hj:j<st.es.length:=by omega
     obtain⟨u,hu⟩:∃k,st.es[j]?=some k:=⟨_,List.getElem?_eq_getElem hj⟩
     have hum:=List.mem_of_getElem? hu;refine ax (a_ (aB (aj (ad J J (az e9 J J (aP 6 ij J J J J J (ad J J (aO (aR (j:=j) underlying59 co J J (aN (k:=10) J) (by first|rfl|omega) (by first|omega|(simp;done)|(simp;omega))) J (aO (aL co J J J (bD (aN (k:=10) J) (by intro _;rfl) hu (by rfl))) J (aW 7 11 J (cS hum) (ak (xs:= [.tmp 58,.tmp 63]) (Cp c vp vn2 fs ns2 hfl (by omega) u (hsg.2.mem u hum)) EC [] [(true,0),(true,1),(false,1),(false,11)] [] (fun _ _=>ai J J (aG J (ad J J (ar J J df J (ac ?_))))))))))))))));refine ae J (fun h9=> ?_) (fun h9=> ?_)
     ·(try simp only [be]at h9)
      have q6:eX fs ns2 u≠0:=h9;refine aj (ad J J (ai J J (ac (au (aH (vn2,ns2) (fun h=>absurd h (by rw [fM hst n2 (N4 q2 (ua hu n4 q6) q6) q6];exact q6)) J (bE (aJ J)) (by rw [fM hst n2 (N4 q2 (ua hu n4 q6) q6) q6]) [0,1] [] J J J)))))
     ·(try simp only [be]at h9)
      have q6:eX fs ns2 u=0:=h9;refine ax (ap (ad J J (ar J J (bi (by first|exact bc (by omega) (by omega)|rfl)) J (ai J J (ac ?_)))));refine aM (j+1) ⟨⟨by omega,by rw [kC hu,n4,q6];rfl⟩,by omega⟩ J J J
    ·(try simp only [be]at h8)
     have hj:j=st.es.length:=by omega
     subst hj;rw [List.take_length]at n4;refine bx (br (X:=SV) (fun _=>True) (fun y=> [(0,.pointer (some ⟨c,0,none⟩)),(1,sv v),(5,.int .i64 (i:Int)),(6,.pointer (some ⟨b6,0,none⟩))]) (fun y=> [(0,bj c 128 [sv vp,sv y]),(1,own 9 1 eS (sv y) (dN ns2 st)),(6,bj b6 64 (eu st))]) (fun y=> [(0,bF v l),(2,sl 5 eu (sv v) l),(1,cx vp fs),(7,bS st.ve st.es),(8,bF st.vb st.body),(9,bF st.vl st.els),(10,sl 4 dt (sv st.ve) st.es)]) ?_ (fun vn3 _=> ?_))
     ·refine aj (az dT J J (aP 6 t3 J J J J J (ar J J aY J (ac (ae J (fun h10=> ?_) (fun h10=> ?_))))))
      ·have q7:st.kind=1:=of_decide_eq_true h10;refine bH [71,72,73,74,75,76,77,78,79,80,81] _ J (bk (V:= [(0,71,_),(1,72,_),(2,73,_),(3,74,_),(4,75,_),(5,76,_),(6,77,_)]) [0,1,2,3,4,5,6] 7 [7,6,5] [] (fun v78=> []) J J (aa (aD J (am J)) (aa (aD J (am J)) (aa (aD J (aF J)) (aa (aD J (ag g_ J)) (aa (aD J (ah gu J J (ay (k:=0) J J))) (aa (aD J (ag gn J)) (aa (aD J (ah t9 J J (ay (k:=6) J J))) aw))))))) J J J J J J J J J J J (fun _ _=>J) J (ef eS st.name underlying46 t9 J (by decide) (by decide) J J J) (fun v78 _=>bk [0,1,2,3,4] 8 [8,7,6,5,4,3,2,1] [9,10] (fun v79=> [(9,80,_),(10,81,_)]) J J (aa (aD J (am J)) (aa (aD J (am J)) (aa (aD J (aF J)) (aa (aD J (ag g_ J)) (aa (aD J (ah gu J J (ay (k:=0) J J))) aw))))) J J J J J J J J J J J (fun _ _=>J) J (ia 1 underlying46 t9 J (by decide) (fun _=>J) (fun _=>J) J J J (bs (k:=78) J) (by simp only [List.length_singleton];omega) (by unfold maxLen;simp only [List.length_singleton];omega)) (fun v79 _=>bI [9,10,0] 11 [11,10,9,8,7,6,5,4,3,2,1,0] [] (fun _=> []) J J (aa (aD J (aF J)) (aa (aD J (ag g_ J)) (aa (aD J (am J)) aw))) J J J J J J J J J (fun _ _=>J) J (cH (k:=0) gu J J J J J J J J) (fun _ _=>bp [] J J aw J J J ?_))));refine aM v79 O J (by rw [show dN ns2 st=ns2++ [st.name]from if_pos q7];rfl) J
      ·have q7:¬st.kind=1:=of_decide_eq_false h10;refine ax (aM vn2 O J (by rw [show dN ns2 st=ns2 from if_neg q7];rfl) J)
     ·refine aj (ad J J (az fi J J (aP 6 hQ J J J J J (ak (xs:= [.tmp 82,.tmp 84]) ((ih st hsm).1 vn3 (dN ns2 st) (by rw [ue];omega)) KG [0,1] [(false,8),(false,1)] [0,1] (fun⟨vn4,ns4⟩ h4=> ?_)))));dsimp only at h4 ⊢;refine ai J J (ac (br (X:=SV×List ByteArray) (fun y=>fst (cA fs (dN ns2 st) st.body).2 (cA fs (cA fs (dN ns2 st) st.body).1 st.els).2=0→y.2=(cA fs (cA fs (dN ns2 st) st.body).1 st.els).1) (fun y=> [(0,.pointer (some ⟨c,0,none⟩)),(1,sv v),(5,.int .i64 (i:Int)),(6,.pointer (some ⟨b6,0,none⟩)),(11,.int .i64 (fst (cA fs (dN ns2 st) st.body).2 (cA fs (cA fs (dN ns2 st) st.body).1 st.els).2))]) (fun y=> [(0,bj c 128 [sv vp,sv y.1]),(1,own 9 1 eS (sv y.1) y.2),(6,bj b6 64 (eu st))]) (fun y=> [(0,bF v l),(2,sl 5 eu (sv v) l),(1,cx vp fs),(7,bS st.ve st.es),(8,bF st.vb st.body),(9,bF st.vl st.els),(10,sl 4 dt (sv st.ve) st.es)]) ?_ (fun y hy=> ?_)))
      ·refine aj (ad J J (ar J J aY J (ac (ae J (fun h11=> ?_) (fun h11=> ?_)))))
       ·(try simp only [be]at h11)
        have q8:(cA fs (dN ns2 st) st.body).2=0:=h11;refine ap (ad J J (az ez J J (aP 6 hQ J J J J J (ak (xs:= [.tmp 88,.tmp 90]) ((ih st hsm).2 vn4 ns4 (by rw [h4 q8,jL,ue];omega)) KG [0,1] [(false,9),(false,1)] [0,1] (fun⟨vn5,ns5⟩ h5=> ?_)))));dsimp only at h5 ⊢;rw [h4 q8]at h5 ⊢;refine ai J J (ac (aM (vn5,ns5) (fun h=>h5 (by rw [q8]at h;exact h)) (by rw [q8,ic];rfl) J J))
       ·(try simp only [be]at h11)
        have q8:(cA fs (dN ns2 st) st.body).2≠0:=h11;refine ax (aM (vn4,ns4) (fun h=>absurd h (by rw [jC q8];exact q8)) (by rw [jC q8];rfl) J J)
      ·refine aj (ad J J (ar J J df J (ac (ae J (fun h12=> ?_) (fun h12=> ?_)))))
       ·(try simp only [be]at h12)
        have q9:fst (cA fs (dN ns2 st) st.body).2 (cA fs (cA fs (dN ns2 st) st.body).1 st.els).2≠0:=h12;refine aj (ad J J (ai J J (ac (au (aH y (fun h=>absurd h (by rw [fM hst n2 (z:=fst (cA fs (dN ns2 st) st.body).2 (cA fs (cA fs (dN ns2 st) st.body).1 st.els).2) (by rw [KM q2 q3 n4]) q9];exact q9)) J (bE (aJ J)) (by rw [fM hst n2 (z:=fst (cA fs (dN ns2 st) st.body).2 (cA fs (cA fs (dN ns2 st) st.body).1 st.els).2) (by rw [KM q2 q3 n4]) q9]) [0,1] [] J J J)))))
       ·(try simp only [be]at h12)
        have q9:fst (cA fs (dN ns2 st) st.body).2 (cA fs (cA fs (dN ns2 st) st.body).1 st.els).2=0:=h12;refine ax (ap (ad J J (ar J J (bi (by first|exact bc (by omega) (by omega)|rfl)) J (ai J J (ac ?_)))));refine aM ⟨i+1,y.1,y.2⟩ ⟨⟨by dsimp only;omega,KK hst n2 (by rw [KM q2 q3 n4,hy q9,q9])⟩,by dsimp only;omega⟩ J J J
 ·(try simp only [be]at h1)
  have hi:i=l.length:=by omega
  subst hi;rw [List.take_length]at n2;refine bx (aj (ai J J (ac (au ?_))));refine aH (vn2,ns2) (fun _=>by rw [n2]) J (bE (aJ J)) (by rw [n2]) [0,1] [] J J J
theorem w6(c:Nat)(vp:SV)(fs:List Tf)(hfl:fs.length≤1000000):∀(n:Nat)(v:SV)(l:List Ty),SizeOf.sizeOf l<n→l.length≤1000000→GYs l→l.all rY=true→Oy c vp fs v l
 | 0,_,_,h,_,_,_=>absurd h (Nat.not_lt_zero _)
 | n+1,v,l,h,hl,hg,hr=>fun vn ns hb=>Ft c vp fs hfl v l hl hg hr (fun u hu=>by
  have h1:=List.sizeOf_lt_of_mem hu;have h2:SizeOf.sizeOf u.body<SizeOf.sizeOf u∧SizeOf.sizeOf u.els<SizeOf.sizeOf u:=by
   cases u;simp only [Ty.mk.sizeOf_spec,Ty.body,Ty.els];omega
  have h3:=hg.mem u hu;have h4:=List.all_eq_true.1 hr u hu;rw [ko]at h4;simp only [Bool.and_eq_true]at h4;exact⟨w6 c vp fs hfl n u.vb u.body (by omega) (dY h3).1 (dY h3).2 h4.1.2,w6 c vp fs hfl n u.vl u.els (by omega) (e_ h3).1 (e_ h3).2 h4.2⟩) vn ns hb
theorem Fu(c:Nat)(vp:SV)(fs:List Tf)(hfl:fs.length≤1000000)(v:SV)(l:List Ty)(hl:l.length≤1000000)(hg:GYs l)(hr:l.all rY=true):Oy c vp fs v l:=w6 c vp fs hfl _ v l (Nat.lt_succ_self _) hl hg hr
theorem nP{fs l:List Tf}{i:Nat}{f:Tf}{z:Int}(hf:l[i]?=some f)(h0:fJ fs (l.take i)=0)(h:jI fs f=z)(hz:z≠0):fJ fs l=z:=by
 have h1:=nQ fs (l.take (i+1)) (l.drop (i+1));rw [List.take_append_drop,jH hf,h0,ic,h,jC hz]at h1;exact h1
theorem KA{fs:List Tf}{f:Tf}(h:pe f):jI fs f=2:=by rw [k9,if_pos h];rfl
theorem Hb{l:List ByteArray}{i:Nat}{x:ByteArray}(hx:l[i]?=some x)(h0:qG [] (l.take i)=0)(h:cg x (l.take i)=true):qG [] l=22:=by
 have h1:=ud [] (l.take (i+1)) (l.drop (i+1));rw [List.take_append_drop,qF hx,h0,ic,if_pos h]at h1;exact h1
theorem Ky{fs:List Tf}{f:Tf}(h:¬pe f)(h2:qG [] f.ps=22):jI fs f=22:=by rw [k9,if_neg h,h2];rfl
theorem Ek{fs:List Tf}{f:Tf}(h:¬pe f)(h2:qG [] f.ps=0):jI fs f=(cA fs f.ps f.body).2:=by rw [k9,if_neg h,h2];rfl
theorem Kx{fs:List Tf}(h:rP fs=false):fT fs=1:=by unfold fT;rw [if_pos h]
theorem Kw{fs:List Tf}(h:rP fs=true)(h2:fs.length>16):fT fs=2:=by unfold fT;rw [if_neg (by rw [h];simp),if_pos h2]
theorem og(vp:SV)(fs:List Tf)(hg:GP fs):
  Spec prog 16 [.agg #[sv vp]] [] [cx vp fs] (X:=Unit) (fun _=>True) (fun _=> .int .i64 (fT fs)) (fun _=> []) (fun _=> []):=by
 refine aI func16 J ntmps16 J fun w0 M H=>aW 0 1 J jo ?_
 have hgl:=hg.1;refine aj (bU J J fun b1=>ai J J (aG J (aO (aL i7 J J J (aX (k:=1) J)) J (ak (xs:= [.tmp 13]) (uT vp fs hg) Qk [] [(false,0)] [] (fun _ _=>ai J J (ac (aS (ad J J (aO (ch J) J (ac (ae J (fun h1=> ?_) (fun h1=> ?_))))))))))))
 ·have q1:rP fs=false:=by simpa using h1
  refine aj (ai J J (ac (au (aH () O J (bE (aJ J)) (by rw [Kx q1]) [] [] J J J))))
 ·have q1:rP fs=true:=by simpa using h1
  refine ax (aS (az de J J (aP 1 mh J J J J J (aO (aU underlying25 J (aN (k:=1) J)) J (ar J J dV J (ac (ae J (fun h2=> ?_) (fun h2=> ?_))))))))
  ·(try simp only [be]at h2)
   have q2:fs.length>16:=by omega
   refine aj (ai J J (ac (au (aH () O J (bE (aJ J)) (by rw [Kw q1 q2]) [] [] J J J))))
  ·(try simp only [be]at h2)
   have q2:¬fs.length>16:=by omega
   refine ax (aS (ai J J (ac (aB (bv (X:=Nat) (fun i=>i≤fs.length∧∀j f,j<i→fs[j]?=some f→qy fs f.name=(j:Int)) (fun i=> [(1,.pointer (some ⟨b1,0,none⟩)),(4,.int .i64 (i:Int))]) (fun i=> [(1,bj b1 27 [sv vp])]) (fun i=> [(0,cx vp fs),(1,sl 3 iW (sv vp) fs)]) (fun i=>fs.length-i) 0 ⟨Nat.zero_le _,fun j f h=>absurd h (Nat.not_lt_zero _)⟩ J J J (fun i hx0=> ?_))))));obtain⟨n1,n2⟩:=hx0;refine aS (ad J J (az de J J (aP 1 mh J J J J J (aO (aU underlying25 J (aN (k:=1) J)) J (ar J J ci J (ac (ae J (fun h3=> ?_) (fun h3=> ?_))))))))
   ·(try simp only [be]at h3)
    have hi:i<fs.length:=by omega
    obtain⟨f,hf⟩:∃k,fs[i]?=some k:=⟨_,List.getElem?_eq_getElem hi⟩
    have hfm:=List.mem_of_getElem? hf;refine ax (a_ (aB (a_ (bH [28,29,30,31,32,33,34,35,36,37] _ J (bk (V:= [(0,28,_),(1,29,_),(2,30,_),(3,31,_),(4,32,_),(5,33,_),(6,34,_),(8,36,_)]) [0,1,2,3,4,5,6,8] 7 [7,6,5,4,3,2,1,0] [9] (fun _=> [(9,37,_)]) J J (aa (aD J (aL i7 J J J (aX (k:=1) J))) (aa (aD J (ag de J)) (aa (aD J (ah mh J J (ay (k:=1) J J))) (aa (aD J (am J)) (aa (aD J (aR (j:=i) underlying25 ge J J (aN (k:=1) J) (by first|rfl|omega) (by first|omega|(simp;done)|(simp;omega)))) (aa (aD J (dw jD J)) (aa (aD J (ah t9 J J (iT (aN (k:=1) J) (by intro _;rfl) hf J))) (aa (aD J (am J)) aw)))))))) J J J J J J J J J J J (fun _ _=>J) J (bq (xs:= [.tmp 28,.tmp 34]) (iE f.name vp fs hg.1) Ep [] [(false,1)] [] J J J J J J J J (fun _ _=>J) (fun _ _ _=>J)) (fun _ _=>bp [9,8] J J (aa (aD J (aT J J df)) (aa (aD J (am J)) aw)) J J J (ae J (fun h4=> ?_) (fun h4=> ?_))))))))
    ·(try simp only [be]at h4)
     have q4:¬qy fs f.name=(i:Int):=h4;refine aj (ai J J (ac (au (aH () O J (bE (aJ J)) (by rw [Eh q1 q2 (zc hf q4)]) [] [] J J J))))
    ·(try simp only [be]at h4)
     have q4:qy fs f.name=(i:Int):=h4;refine ax (ap (ad J J (ar J J (bi (by first|exact bc (by omega) (by omega)|rfl)) J (ai J J (ac ?_)))));refine aM (i+1) ⟨⟨by omega,fun j g hj hgj=>by
      by_cases h:j=i
      ·subst h;rw [hf]at hgj;cases hgj;exact q4
      ·exact n2 j g (by omega) hgj⟩,by omega⟩ rfl rfl rfl
   ·(try simp only [be]at h3)
    have hi:i=fs.length:=by omega
    subst hi;have q3:once fs=true:=mD.2 fun j g hgj=>n2 j g (List.getElem?_eq_some_iff.1 hgj).1 hgj
    refine bx (aj (aO (aL i7 J J J (aX (k:=1) J)) J (ak (xs:= [.tmp 38,.const (.string (ByteArray.mk #[109,97,105,110]))]) (iE cN vp fs hg.1) Ep [] [(false,1)] [] (fun _ _=>ai J J (ac (aS (ad J J (ar J J ci J (ac (ae J (fun h5=> ?_) (fun h5=> ?_)))))))))))
    ·have hff:cm fs cN=none:=dL.1.1 (of_decide_eq_true h5);refine aj (ai J J (ac (au (aH () O J (bE (aJ J)) (by rw [Ej q1 q2 q3 hff]) [] [] J J J))))
    ·have hq1:¬qy fs cN<0:=of_decide_eq_false h5;obtain⟨fm,hff⟩:∃f,cm fs cN=some f:=by
      cases hf:cm fs cN with
      | none=>exact absurd (dL.1.2 hf) hq1
      | some f=>exact⟨f,rfl⟩
     obtain⟨m,hxm,hfx⟩:=dL.2 fm hff;have hfmm:=List.mem_of_getElem? hfx;have hml:m<fs.length:=(List.getElem?_eq_some_iff.1 hfx).1;rw [hxm];refine aW 0 11 J (ln hfmm) (aW 11 12 J lp (ax (aS (az de J J (aP 1 mh J J J J J (ad J J (aO (aR (j:=m) underlying25 ge J J (aN (k:=1) J) J hml) J (aO (dw dA J) J (aO (ah gu J J (iT (aN (k:=1) J) (by intro _;rfl) hfx J)) J (aO (aU underlying46 J (aN (k:=12) J)) J (ar J J dV J (ac (ae J (fun h6=> ?_) (fun h6=> ?_))))))))))))))
     ·(try simp only [be]at h6)
      have q6:fm.ps.length>0:=by omega
      refine aj (ai J J (ac (au (aH () O J (bE (aJ J)) (by rw [Ef q1 q2 q3 hff q6]) [] [] J J J))))
     ·(try simp only [be]at h6)
      have q6:¬fm.ps.length>0:=by omega
      refine ax (aS (ai J J (ac (aB (bv (X:=Nat) (fun i=>i≤fs.length∧fJ fs (fs.take i)=0) (fun i=> [(1,.pointer (some ⟨b1,0,none⟩)),(6,.int .i64 (i:Int))]) (fun i=> [(1,bj b1 27 [sv vp])]) (fun i=> [(0,cx vp fs),(1,sl 3 iW (sv vp) fs)]) (fun i=>fs.length-i) 0 ⟨Nat.zero_le _,J⟩ J J J (fun i hx0=> ?_))))));obtain⟨n1,n2⟩:=hx0;refine aS (ad J J (az de J J (aP 1 mh J J J J J (aO (aU underlying25 J (aN (k:=1) J)) J (ar J J ci J (ac (ae J (fun h7=> ?_) (fun h7=> ?_))))))))
      ·(try simp only [be]at h7)
       have hi:i<fs.length:=by omega
       obtain⟨f,hf⟩:∃k,fs[i]?=some k:=⟨_,List.getElem?_eq_getElem hi⟩
       have hfm:=List.mem_of_getElem? hf;have hgf:=hg.2 f hfm;have hpl:=hgf.2.2.1;have hsum:=hgf.2.2.2.2.2;have hvn:=gN f.body;have hdn:=lW f.body;have hbr:f.body.all rY=true:=by
        have h:=List.all_eq_true.1 q1 f hfm;rw [tq]at h;simp only [Bool.and_eq_true]at h;exact h.2
       refine aW 0 7 J (ln hfm) (aW 7 8 J lp (aW 7 9 J jp (ax (a_ (aB (aj (az de J J (aP 1 mh J J J J J (ad J J (aO (aR (j:=i) underlying25 ge J J (aN (k:=1) J) (by first|rfl|omega) (by first|omega|(simp;done)|(simp;omega))) J (aO (aL ge J J J (bD (aN (k:=1) J) (by intro _;rfl) hf (by rfl))) J (aZ ge J J fun b7=>aq (k:=7) ge J J J J J J (aG J (az iB J J (aP 7 hQ J J J J J ?_)))))))))))))));refine ak (xs:= [.tmp 63]) (re f.vb f.body hgf.2.2.2.1 hgf.2.2.2.2.1 (by omega)) BB [] [(false,9)] [] (fun _ _=>aZ eY J J fun b8=>aq (k:=8) eY J J J J J J (ac (aS (az dA J J (aP 7 gu J J J J J (aO (aU underlying46 J (aN (k:=8) J)) J (ar J J dV J (ad J J (aA [] J J O (fun hg8=>ag dA J) J (aA [(70,_)] J J ⟨J,O⟩ (fun hg9=>ah gu J J (ay (k:=7) J J)) J (aA [(70,_),(71,_)] J J ⟨J,J,O⟩ (fun hg10=>aU underlying46 J (aN (k:=8) J)) J (aA [(70,_),(71,_),(72,_)] J J ⟨J,J,J,O⟩ (fun hg11=>ag mZ J) J (aA [(70,_),(71,_),(72,_),(73,_)] J J ⟨J,J,J,J,O⟩ (fun hg12=>ah t3 J J (ay (k:=8) J J)) J (aA [(70,_),(71,_),(72,_),(73,_),(74,_)] J J ⟨J,J,J,J,J,O⟩ (fun hg13=>aT J J (bi (by first|exact bc (by omega) (by omega)|rfl))) J (aA [(70,_),(71,_),(72,_),(73,_),(74,_),(75,_)] J J ⟨J,J,J,J,J,J,O⟩ (fun hg14=>aT J J dV) J (aO (aQ J J J (by first|exact av|exact aC|rfl)) J ?_))))))))))))))));refine ad J J (aA [] J J O (fun hg15=>ag jF J) J (aA [(79,_)] J J ⟨J,O⟩ (fun hg16=>ah t3 J J (ay (k:=8) J J)) J (aA [(79,_),(80,_)] J J ⟨J,J,O⟩ (fun hg17=>aT J J dV) J (aO (aQ J J J (by first|exact av|exact aC|rfl)) J (ad J J (aA [] J J O (fun hg18=>ag mY J) J (aA [(84,_)] J J ⟨J,O⟩ (fun hg19=>ah t3 J J (ay (k:=8) J J)) J (aA [(84,_),(85,_)] J J ⟨J,J,O⟩ (fun hg20=>aT J J dV) J (aO (aQ J J J (by first|exact av|exact aC|rfl)) J (ad J J (aA [] J J O (fun hg21=>ag mX J) J (aA [(89,_)] J J ⟨J,O⟩ (fun hg22=>ah t3 J J (ay (k:=8) J J)) J (aA [(89,_),(90,_)] J J ⟨J,J,O⟩ (fun hg23=>aT J J dV) J (aO (aQ J J J (by first|exact av|exact aC|rfl)) J (ac (ae J (fun h24=> ?_) (fun h24=> ?_)))))))))))))))))
       ·(try simp only [be]at h24)
        have q8:pe f:=by rw [Ar];omega
        refine aj (ai J J (ac (au (aH () O J (bE (aJ J)) (by rw [wh q1 q2 q3 hff q6,nP hf n2 (KA q8) (by decide)]) [] [] J J J))))
       ·(try simp only [be]at h24)
        have q8:¬pe f:=by rw [Ar];omega
        refine ax (aj (aO (aL i7 J J J (aX (k:=1) J)) J (aO (aV (parts:= [(0,.tmp 93)]) OV Md J J) J (bU J J fun b95=>ai J J (ac (aS (ai J J (ac (aB (cJ 20 (α:=ByteArray) (S:=9) (s:=1) (enc:=eS) (bv (X:=Nat×SV) (fun x=>x.1≤f.ps.length∧qG [] (f.ps.take x.1)=0) (fun x=> [(1,.pointer (some ⟨b1,0,none⟩)),(6,.int .i64 (i:Int)),(7,.pointer (some ⟨b7,0,none⟩)),(9,.pointer (some ⟨b95,0,none⟩)),(10,.int .i64 (x.1:Int))]) (fun x=> [(1,bj b1 27 [sv vp]),(7,bj b7 66 (iW f)),(95,bj b95 128 [sv vp,sv x.2]),(20,own 9 1 eS (sv x.2) (f.ps.take x.1))]) (fun x=> [(0,cx vp fs),(1,sl 3 iW (sv vp) fs),(7,yL f),(8,sl 1 eS (sv f.vp) f.ps),(9,bF f.vb f.body)]) (fun x=>f.ps.length-x.1) (0,bJ) ⟨Nat.zero_le _,J⟩ J J J (fun x hy0=> ?_))))))))))));obtain⟨j,vn⟩:=x;obtain⟨n3,n4⟩:=hy0;dsimp only at n3 n4 ⊢;refine aS (ad J J (az dA J J (aP 7 gu J J J J J (aO (aU underlying46 J (aN (k:=8) J)) J (ar J J ci J (ac (ae J (fun h25=> ?_) (fun h25=> ?_))))))))
        ·(try simp only [be]at h25)
         have hj:j<f.ps.length:=by omega
         obtain⟨x,hx⟩:∃k,f.ps[j]?=some k:=⟨_,List.getElem?_eq_getElem hj⟩
         refine ax (a_ (aB (a_ ?_)));refine bH [103,104,105,106,107,108,109,110,111,112,11] _ J (bk (V:= [(0,103,_),(1,104,_),(2,105,_),(3,106,_),(4,107,_),(5,108,_),(6,109,_),(7,110,_),(8,111,_)]) [0,1,2,3,4,5,6,7,8] 9 [9,8,7,6,5,4,3,2,1,0] [10] (fun _=> [(10,11,_)]) J J (aa (aD J (ag dA J)) (aa (aD J (ah gu J J (ay (k:=7) J J))) (aa (aD J (am J)) (aa (aD J (aR (j:=j) underlying46 t9 J J (aN (k:=8) J) (by first|rfl|omega) (by first|omega|(simp;done)|(simp;omega)))) (aa (aD J (ah t9 J J (bD (aN (k:=8) J) (by intro _;rfl) hx (by rfl)))) (aa (aD J (am J)) (aa (aD J (aF J)) (aa (aD J (ag g_ J)) (aa (aD J (ah gu J J (ay (k:=95) J J))) aw))))))))) J J J J J J J J J J J (fun _ _=>J) J (bq (xs:= [.tmp 107,.tmp 111]) (ld x vn (f.ps.take j) (by rw [List.length_take];omega)) yr [] [(true,20)] [] J J J J J J J J (fun _ _=>J) (fun _ _ _=>J)) (fun _ _=>bp [10] J J (aa (aD J (ct J)) aw) J J J ?_));refine aS (ad J J (ac (ae J (fun h26=> ?_) (fun h26=> ?_))))
         ·have q10:cg x (f.ps.take j)=true:=h26;refine aj (ai J J (ac (au (aH () O J (bE (aJ J)) (by rw [wh q1 q2 q3 hff q6,nP hf n2 (Ky q8 (Hb hx n4 q10)) (by decide)]) [] [] J J J))))
         ·have q10:cg x (f.ps.take j)=false:=h26;refine ax ?_;refine bH [114,115,116,117,118,119,120,121,122,123,124,125,126,127] _ J (bk (V:= [(0,114,_),(1,115,_),(2,116,_),(3,117,_),(4,118,_),(5,119,_),(6,120,_),(7,121,_),(8,122,_),(9,123,_)]) [0,1,2,3,4,5,6,7,8,9] 10 [10,9,8,7,6,5] [] (fun v124=> []) J J (aa (aD J (am J)) (aa (aD J (am J)) (aa (aD J (aF J)) (aa (aD J (ag g_ J)) (aa (aD J (ah gu J J (ay (k:=95) J J))) (aa (aD J (ag dA J)) (aa (aD J (ah gu J J (ay (k:=7) J J))) (aa (aD J (am J)) (aa (aD J (aR (j:=j) underlying46 t9 J J (aN (k:=8) J) (by first|rfl|omega) (by first|omega|(simp;done)|(simp;omega)))) (aa (aD J (ah t9 J J (bD (aN (k:=8) J) (by intro _;rfl) hx (by rfl)))) aw)))))))))) J J J J J J J J J J J (fun _ _=>J) J (ef eS x underlying46 t9 J (by decide) (by decide) J J J) (fun v124 _=>bk [0,1,2,3,4] 11 [11,10,9,8,7,6,5,4,3,2,1] [12,13] (fun v125=> [(12,126,_),(13,127,_)]) J J (aa (aD J (am J)) (aa (aD J (am J)) (aa (aD J (aF J)) (aa (aD J (ag g_ J)) (aa (aD J (ah gu J J (ay (k:=95) J J))) aw))))) J J J J J J J J J J J (fun _ _=>J) J (ia 20 underlying46 t9 J (by decide) (fun _=>J) (fun _=>J) J J J (bs (k:=124) J) (by rw [List.length_take];simp only [List.length_singleton];omega) (by unfold maxLen;rw [List.length_take];simp only [List.length_singleton];omega)) (fun v125 _=>bI [12,13,0] 14 [14,13,12,11,10,9,8,7,6,5,4,3,2,1,0] [] (fun _=> []) J J (aa (aD J (aF J)) (aa (aD J (ag g_ J)) (aa (aD J (am J)) aw))) J J J J J J J J J (fun _ _=>J) J (cH (k:=95) gu J J J J J J J J) (fun _ _=>bp [] J J aw J J J ?_))));refine ap (ad J J (ar J J (bi (by first|exact bc (by omega) (by omega)|rfl)) J (ai J J (ac ?_))));refine aM (j+1,v125) ⟨⟨by dsimp only;omega,by dsimp only;rw [qF hx,n4,if_neg (by rw [q10];simp)];rfl⟩,by dsimp only;omega⟩ J (by dsimp only;rw [bT hx];rfl) J
        ·(try simp only [be]at h25)
         have hj:j=f.ps.length:=by omega
         subst hj;rw [List.take_length]at n4;rw [List.take_length];refine bx (aj (ad J J (az iB J J (aP 7 hQ J J J J J (ak (xs:= [.tmp 128,.tmp 130]) (Fu b95 vp fs hg.1 f.vb f.body hgf.2.2.2.1 hgf.2.2.2.2.1 hbr vn f.ps (by omega)) KG [95,20] [(false,9),(false,0)] [95,20] (fun⟨vn2,ns2⟩ _=> ?_))))));dsimp only;refine ai J J (aG J (ad J J (ar J J df J (ac (ae J (fun h27=> ?_) (fun h27=> ?_))))))
         ·(try simp only [be]at h27)
          have q11:(cA fs f.ps f.body).2≠0:=h27;refine aj (ad J J (ai J J (ac (au (aH () O J (bE (aJ J)) (by rw [wh q1 q2 q3 hff q6,nP hf n2 (Ek q8 n4) q11]) [] [] J J J)))))
         ·(try simp only [be]at h27)
          have q11:(cA fs f.ps f.body).2=0:=h27;refine ax (ap (ad J J (ar J J (bi (by first|exact bc (by omega) (by omega)|rfl)) J (ai J J (ac ?_)))));refine aM (i+1) ⟨⟨by omega,by rw [jH hf,n2,Ek q8 n4,q11];rfl⟩,by omega⟩ J J J
      ·(try simp only [be]at h7)
       have hi:i=fs.length:=by omega
       subst hi;rw [List.take_length]at n2;refine bx (aj (ai J J (ac (au (aH () O J (bE (aJ J)) (by rw [wh q1 q2 q3 hff q6,n2]) [] [] J J J)))))
theorem Ls{vp vi vo:SV}{mem:Nat→Int}{fuel used er:Int}:((xC vp vi vo mem fuel used er).drop 3).take (((List.range 256).map mem).flatMap eU).length=((List.range 256).map mem).flatMap eU:=by
 rw [z_,List.map_map];show List.take _ ((List.range 256).map (fun i=>Value.int .u32 (mem i))++_)=_;rw [List.take_append_of_le_length (by simp),List.take_of_length_le (by simp)];rfl
theorem FM{α:Type}{b o n:Nat}{S:TypeId}{c:List Value}{enc:α→List Value}{s:Nat}{l:List α}(hl:l.length=n)(hn:n≤maxLen)(hc:(c.drop o).take (l.flatMap enc).length=l.flatMap enc):∀w G,(bj b S c).pred w G→(sl s enc (sv ⟨some ⟨b,o,none⟩,n,n⟩) l).pred w G:=fun w G h=>by
 refine⟨n,by omega,hn,.inr ⟨b,o,by rw [hl];rfl,(h.1 b).2 rfl,fun j u hj=> ?_⟩⟩;simp only [World.cell?,h.2];rw [←hc,List.getElem?_take]at hj;split at hj
 ·rw [List.getElem?_drop]at hj;simpa using hj
 ·simp at hj
theorem IW(m:Nat)(vin vp:SV)(ins:List Int)(fs:List Tf)(fuel:Int):j8 ⟨⟨m,0,0,0,vin,ins,fs⟩,vp,fuel⟩ (xS ⟨⟨m,0,0,0,vin,ins,fs⟩,vp,fuel⟩ (zl ins fuel) bJ)=xC vp vin bJ (fun _=>0) fuel 0 0:=by
 unfold j8 xS zl;dsimp only;rw [Nat.sub_self,Int.sub_self];rfl
theorem CC(vp vin:SV)(fs:List Tf)(ins:List Int)(fuel:Int)(hg:GP fs)(hi:∀x∈ins,oW x)(hil:ins.length≤1000000)(hf: -1000000000000000000≤fuel∧fuel≤1000000000000)(hc:fT fs≠0):
  Spec prog 64 [.agg #[sv vp],sv vin,.int .i64 fuel] [] [cx vp fs,sl 1 eU (sv vin) ins] (X:=SV×SV) (fun _=>True) (fun x=> .agg #[sv x.1,sv x.2,.int .i64 (⟨fT fs,[],[]⟩:Ru).err]) (fun x=> [sl 1 eU (sv x.1) (⟨fT fs,[],[]⟩:Ru).out,sl 1 eU (sv x.2) (⟨fT fs,[],[]⟩:Ru).mem]) (fun _=> []):=by
 refine aI func64 J ntmps64 J fun w0 M H=>aj (bU J J fun b3=>aZ nu J J fun b6=>aG J (aO (aL i7 J J J (aX (k:=3) J)) J (ak (xs:= [.tmp 9]) (og vp fs hg) NB [] [(false,0)] [] (fun _ _=>ai J J (ac (aS (ad J J (ar J J df J (ac (ae J (fun h1=> ?_) (fun h1=> ?_)))))))))))
 ·(try simp only [be]at h1)
  refine aj (ad J J (aO (aV (parts:= [(2,.tmp 13)]) nu CQ J J) J (aq (k:=6) nu J J J J J J (ac (au (cJ 20 (α:=Int) (S:=41) (s:=1) (enc:=eU) (cJ 21 (α:=Int) (S:=41) (s:=1) (enc:=eU) (dD (k:=20) (A':=sl 1 eU (sv bJ) []) J bB (dD (k:=21) (A':=sl 1 eU (sv bJ) []) J bB (aH (bJ,bJ) O J (bE (bh nu J J J (aX (k:=6) J))) J [20,21] [] J J J))))))))))
 ·exact absurd (by simpa using h1) hc
theorem FK(vp vin:SV)(fs:List Tf)(ins:List Int)(fuel:Int)(hg:GP fs)(hi:∀x∈ins,oW x)(hil:ins.length≤1000000)(hf: -1000000000000000000≤fuel∧fuel≤1000000000000)(hc:fT fs=0)(f:Tf)(hm:Fine fs f)(g:Nat)(r:Re Int)(hr:jR g fs 0 f [] (zl ins fuel)=some r):
  Spec prog 64 [.agg #[sv vp],sv vin,.int .i64 fuel] [] [cx vp fs,sl 1 eU (sv vin) ins] (X:=SV×SV) (fun _=>True) (fun x=> .agg #[sv x.1,sv x.2,.int .i64 (AW r).err]) (fun x=> [sl 1 eU (sv x.1) (AW r).out,sl 1 eU (sv x.2) (AW r).mem]) (fun _=> []):=by
 refine aI func64 J ntmps64 J fun w0 M H=>aj (bU J J fun b3=>aZ nu J J fun b6=>aG J (aO (aL i7 J J J (aX (k:=3) J)) J (ak (xs:= [.tmp 9]) (og vp fs hg) NB [] [(false,0)] [] (fun _ _=>ai J J (ac (aS (ad J J (ar J J df J (ac (ae J (fun h1=> ?_) (fun h1=> ?_)))))))))))
 ·exact absurd hc (by simpa using h1)
 ·(try simp only [be]at h1)
  refine ax (aj (aO (aL i7 J J J (aX (k:=3) J)) J (ad J J (ad J J (aO (aV (cs:=(xC vp vin bJ (fun _=>0) fuel 0 0).toArray) (parts:= [(0,.tmp 15),(1,.tmp 16),(4,.tmp 17)]) OS L_ J (by kernel_rfl)) J (bU J J fun b19=>ai J J (aG J (ad J J (cJ 1 (α:=Int) (S:=41) (s:=1) (enc:=eU) (FQ 3 (α:=Int) (s:=1) (enc:=eU) ?_))))))))));refine dD (k:=19) (A':=bj b19 204 (j8 (⟨⟨b19,0,0,0,vin,ins,fs⟩,vp,fuel⟩:Rn) (xS (⟨⟨b19,0,0,0,vin,ins,fs⟩,vp,fuel⟩:Rn) (zl ins fuel) bJ))) J (fun _ _ h=>by rw [IW];exact h) ?_;refine ak (xs:= [.tmp 20,.const (.string (ByteArray.mk #[109,97,105,110])),.const (.slice Option.none 0 0),.const (.int .i64 1)]) (Gt (e:=(⟨⟨b19,0,0,0,vin,ins,fs⟩,vp,fuel⟩:Rn)) hm.vf hf.1 (by show fuel≤_;omega) (by have:=hm.len;show fs.length≤_;omega) g cN f 0 bJ [] (zl ins fuel) bJ r hm.main (by simp) (by simp) (by omega) ⟨xz hi hf.2,⟨0,Nat.zero_le _,J⟩⟩ hr) IK [19,1] [(false,3),(false,0),(false,1)] [19,1] (fun y hy=> ?_);obtain⟨a,x⟩:=y;dsimp only at hy ⊢;refine ac (aS (ad J J (bG J J (az fp J J (aP 19 nf J J J j9 J (ar J J df J (ac (ae J (fun h2=> ?_) (fun h2=> ?_)))))))))
  ·(try simp only [be]at h2)
   have hz:r= .err x.er:=by
    rcases hy with⟨s2,vo2,z1,z2⟩|⟨z1,z2⟩
    ·dsimp only at z2;rw [z2]at h2;exact absurd J h2
    ·exact z2
   subst hz;refine aj (ad J J (bG J J (az fp J J (aP 19 nf J J J j9 J (aO (aV (parts:= [(2,.tmp 30)]) nu CQ J J) J (aq (k:=6) nu J J J J J J (ac (au (cJ 20 (α:=Int) (S:=41) (s:=1) (enc:=eU) (cJ 21 (α:=Int) (S:=41) (s:=1) (enc:=eU) (dD (k:=20) (A':=sl 1 eU (sv bJ) []) J bB (dD (k:=21) (A':=sl 1 eU (sv bJ) []) J bB (aH (bJ,bJ) O J (bE (bh nu J J J (aX (k:=6) J))) J [20,21] [] J J J)))))))))))))
  ·(try simp only [be]at h2)
   obtain⟨s2,vo2,hz,hx1⟩:∃s2 vo2,r= .ok a s2∧x=xS (⟨⟨b19,0,0,0,vin,ins,fs⟩,vp,fuel⟩:Rn) s2 vo2:=by
    rcases hy with h|⟨z1,z2⟩
    ·exact h
    ·exact absurd h2 z1
   subst hz hx1;refine ax (a_ (bH [32,33,34,35,36,37,38,39,40] _ J (bI (V:= [(0,32,_),(1,33,_),(2,34,_),(3,35,_),(4,36,_),(5,37,_),(6,38,_),(7,39,_),(8,40,_)]) [0,1,2,3,4,5,6,7,8] 9 [9,8,7,6,5,4,3,2,1,0] [] (fun _=> []) J J (aa (aD J (am J)) (aa (aD J (aF J)) (aa (aD J (ag tX J)) (aa (aD J (ah oo J J (ay (k:=19) J J))) (aa (aD J (am J)) (aa (aD J (aF J)) (aa (aD J (ag tW J)) (aa (aD J (n8 underlying202 cB J (by decide))) (aa (aD J (aV (parts:= [(0,.tmp 35),(1,.tmp 39)]) nu CQ J J)) aw))))))))) J J J J J J J J J (fun _ _=>J) J (bM (k:=6) nu J J J J J J) (fun _ _=>bp [] J J aw J J J (au (dD (k:=19) (A':=sl 1 eU (sv ⟨some ⟨b19,3,none⟩,256,256⟩) ((List.range 256).map s2.mem)) J (FM (by simp) (by unfold maxLen;omega) Ls) (dD (k:=1) (A':=sl 1 eU (sv vo2) s2.out) J bB (aH (vo2,⟨some ⟨b19,3,none⟩,256,256⟩) O J (bE (bh nu J J J (aX (k:=6) J))) J [1,19] [] J J J))))))))
theorem AV(vp vin:SV)(fs:List Tf)(ins:List Int)(fuel:Int)(hg:GP fs)(hi:∀x∈ins,oW x)(hil:ins.length≤1000000)(hf: -1000000000000000000≤fuel∧fuel≤1000000000000)(ru:Ru)(hru:RunIs fs ins fuel ru):
  Spec prog 64 [.agg #[sv vp],sv vin,.int .i64 fuel] [] [cx vp fs,sl 1 eU (sv vin) ins] (X:=SV×SV) (fun _=>True) (fun x=> .agg #[sv x.1,sv x.2,.int .i64 ru.err]) (fun x=> [sl 1 eU (sv x.1) ru.out,sl 1 eU (sv x.2) ru.mem]) (fun _=> []):=by
 cases hru with
 | bad h=>exact CC vp vin fs ins fuel hg hi hil hf h
 | run f g r h hfm he=>
  obtain⟨f2,hf2⟩:=ji hg h;have:f2=f:=by
   have:=hf2.main;rw [hfm]at this;exact(Option.some.inj this).symm
  subst this;exact FK vp vin fs ins fuel hg hi hil hf h f2 hf2 g r he
section
end
theorem TfIn.up{w:World}{F G:Nat→Prop}{f:Tf}(h:TfIn w G f)(hs:∀b,G b→F b):TfIn w F f:=by
 obtain⟨⟨A,a1,a2⟩,⟨⟨B,b1,b2⟩,b3⟩⟩:=h;exact⟨⟨A,a1,fun b hb=>hs b (a2 b hb)⟩,⟨⟨B,b1,fun b hb=>hs b (b2 b hb)⟩,TysIn.mono hs (fun _ _=>J) _ b3⟩⟩
theorem COk.mv{w0:World}{M H:Nat→Prop}{Γ R:dZ}{w:World}{k k':Nat}{A:Asn}(h:COk w0 M H Γ R w)(hk:bV Γ k=some A)(hne:Nat.beq k' k=false):COk w0 M H ((k',A)::(k,G_)::Γ) R w:=by
 obtain⟨F,hF⟩:=h;have hne':k'≠k:=fun e=>by subst e;simp at hne
 have hsub:∀j b,(if j=k' then F k else if j=k then fun _=>False else F j) b→(j=k'∧F k b)∨(j≠k'∧j≠k∧F j b):=by
  intro j b hb;split at hb
  ·exact .inl ⟨by assumption,hb⟩
  ·split at hb
   ·exact hb.elim
   ·exact .inr ⟨by assumption,by assumption,hb⟩
 refine⟨fun j=>if j=k' then F k else if j=k then fun _=>False else F j,hF.touch,?_,?_,?_,?_,?_⟩
 ·intro j B hj;simp only [bV]at hj;cases h1:Nat.beq k' j with
  | true=>
   rw [h1]at hj;simp at hj;subst hj;have:=Nat.eq_of_beq_eq_true h1;subst this;simp only [if_true];exact hF.has k A hk
  | false=>
   rw [h1]at hj;have hj1:j≠k':=fun e=>by subst e;simp at h1
   cases h2:Nat.beq k j with
   | true=>
    rw [h2]at hj;simp at hj;subst hj;have:=Nat.eq_of_beq_eq_true h2;subst this;simp only [hj1,if_false,if_true];exact fun b hb=>hb
   | false=>
    rw [h2]at hj;have hj2:j≠k:=fun e=>by subst e;simp at h2
    simp only [hj1,hj2,if_false];exact hF.has j B hj
 ·intro j b hb;rcases hsub j b hb with⟨_,hb⟩|⟨_,_,hb⟩<;>exact hF.lt _ b hb
 ·intro j b hb hlt;rcases hsub j b hb with⟨_,hb⟩|⟨_,_,hb⟩<;>exact hF.mine _ b hb hlt
 ·intro i j b hi hj;rcases hsub i b hi with⟨e1,h1⟩|⟨e1,e2,h1⟩<;>rcases hsub j b hj with⟨f1,h2⟩|⟨f1,f2,h2⟩
  ·rw [e1,f1]
  ·exact absurd (hF.apart k j b h1 h2).symm f2
  ·exact absurd (hF.apart i k b h1 h2) e2
  ·exact hF.apart i j b h1 h2
 ·intro j B hj;obtain⟨G,g1,g2⟩:=hF.ro j B hj;refine⟨G,g1,fun b hb=>⟨(g2 b hb).1,fun i hi=> ?_,(g2 b hb).2.2⟩⟩;rcases hsub i b hi with⟨_,hb'⟩|⟨_,_,hb'⟩<;>exact(g2 b hb).2.1 _ hb'
theorem tk{N:Nat}{w0:World}{M H:Nat→Prop}{E:eA}{Γ R:dZ}(k k':Nat){A:Asn}{Rel:Act→World→Prop}(hk:bV Γ k=some A)(hne:Nat.beq k' k=false)(h:At N w0 M H E ((k',A)::(k,G_)::Γ) R Rel):At N w0 M H E Γ R Rel:=
 h.weak (fun _ h=>h) fun w hC=>hC.mv hk hne
def rs(r:Int→Int)(d v:Int):Int→Int:=fun k=>if k=d then v else r k
theorem w_{pc:Int}{r:Int→Int}{st x:Int}(hx:0≤x∧x<16):(sR pc r st)[1+x.toNat*1]?=some (.int .u32 (r x)):=by
 obtain⟨k,rfl⟩:=Int.eq_ofNat_of_zero_le hx.1;have hk:k<16:=by omega
 show(sR pc r st)[1+k*1]?=_
 match k,hk with
 | 0,_=>rfl
 | 1,_=>rfl
 | 2,_=>rfl
 | 3,_=>rfl
 | 4,_=>rfl
 | 5,_=>rfl
 | 6,_=>rfl
 | 7,_=>rfl
 | 8,_=>rfl
 | 9,_=>rfl
 | 10,_=>rfl
 | 11,_=>rfl
 | 12,_=>rfl
 | 13,_=>rfl
 | 14,_=>rfl
 | 15,_=>rfl
theorem lG{pc:Int}{r:Int→Int}{st x v:Int}(hx:0≤x∧x<16):(sR pc r st).take (1+x.toNat*1)++ [Value.int .u32 v]++(sR pc r st).drop (1+x.toNat*1+1)=sR pc (rs r x v) st:=by
 obtain⟨k,rfl⟩:=Int.eq_ofNat_of_zero_le hx.1;have hk:k<16:=by omega
 show(sR pc r st).take (1+k*1)++ [Value.int .u32 v]++(sR pc r st).drop (1+k*1+1)=_
 match k,hk with
 | 0,_=>rfl
 | 1,_=>rfl
 | 2,_=>rfl
 | 3,_=>rfl
 | 4,_=>rfl
 | 5,_=>rfl
 | 6,_=>rfl
 | 7,_=>rfl
 | 8,_=>rfl
 | 9,_=>rfl
 | 10,_=>rfl
 | 11,_=>rfl
 | 12,_=>rfl
 | 13,_=>rfl
 | 14,_=>rfl
 | 15,_=>rfl
theorem OZ{r:Int→Int}(h0:r 0=0):rs r 0 0=r:=by
 funext k;unfold rs;split
 ·rename_i h;rw [h,h0]
 ·rfl
theorem LV{r:Int→Int}{d v:Int}(h0:r 0=0):rs (rs r d v) 0 0=rp r d v:=by
 funext k;unfold rs rp;by_cases h:k=0
 ·rw [if_pos h];by_cases h2:k=d∧d≠0
  ·exact absurd (h2.1.symm.trans h) h2.2
  ·rw [if_neg h2,h,h0]
 ·rw [if_neg h];by_cases h2:k=d
  ·rw [if_pos h2,if_pos ⟨h2,fun h3=>h (h2.trans h3)⟩]
  ·rw [if_neg h2,if_neg (fun h3=>h2 h3.1)]
theorem pG{pc:Int}{r:Int→Int}{st x:Int}{u:Value}(hx:0≤x∧x<16):(1+x.toNat*1+ [u].length).ble (sR pc r st).length=true:=by
 rw [Nat.ble_eq];show 1+x.toNat*1+1≤24;omega
theorem FD{pc:Int}{r:Int→Int}{st:Int}(h0:r 0=0):(sR pc r st).take 1++ [Value.int .u32 0]++(sR pc r st).drop 2=sR pc r st:=(lG (x:=0) (by decide)).trans (by rw [OZ h0])
theorem uM{pc:Int}{r:Int→Int}{st d v:Int}(h0:r 0=0):(sR pc (rs r d v) st).take 1++ [Value.int .u32 0]++(sR pc (rs r d v) st).drop 2=sR pc (rp r d v) st:=(lG (x:=0) (by decide)).trans (by rw [LV h0])
theorem ka(n:Int):0≤wU n∧wU n<4294967296:=by
 show 0≤n%4294967296∧n%4294967296<4294967296;omega
theorem wO(a b:Int):wU (a+wU b)=wU (a+b):=by
 show(a+b%4294967296)%4294967296=(a+b)%4294967296;omega
theorem Ly(n:Int):IntKind.u32.wrap (IntKind.u32.wrap n/4*4)=IntKind.u32.wrap n/4*4:=by
 have:=ka n;have e:IntKind.u32.wrap n=wU n:=J;exact bK (by omega) (by omega)
structure Stx(s:Mm)(i:Qi)(pc:Int)(r:Int→Int)(st:Int):Prop where
 f:Fx s i pc
 p:pc<1000000
 h0:r 0=0
 hr:∀k,0≤r k∧r k<4294967296
 hst:0≤st∧st<1000000000000000
def oC(pc:Int)(r:Int→Int)(st k x:Int):List Value:=sR pc r st++ [.int .i64 k,.int .u32 x]
theorem mg(pc:Int)(r:Int→Int)(st k x:Int):
  Spec prog 149 [.agg (sR pc r st).toArray,.int .i64 k,.int .u32 x] [] [] (X:=Unit) (fun _=>True) (fun _=> .agg (oC pc r st k x).toArray) (fun _=> []) (fun _=> []):=by
 refine aI func149 J ntmps149 J fun w0 M H=>aj (bU J J fun b3=>aZ lf J J fun b6=>aG J (aO (aL wA J J J (aX (k:=3) J)) J (ad J J (ad J J (aO (aV (parts:= [(0,.tmp 8),(1,.tmp 9)]) wB Jn J J) J (aO (aV (cs:=(oC pc r st k x).toArray) (parts:= [(0,.tmp 7),(1,.tmp 10)]) lf HJ J (by kernel_rfl)) J (aq (k:=6) lf J J J J J J (ac (au (aH () O J (bE (bh lf J J J (aX (k:=6) J))) J [] [] J J J))))))))))
def OX:Nat→Code→Code
 | 0,c=>c
 | n+1,.seq _ b=>OX n b
 | _+1,c=>c
def EJ(f:Func):Code:=match f.body with
 | some c=>c
 | none=> .skip
theorem fG(e:Me)(s:Mm)(n:Nat)(hs:MO s n)(i:Qi)(pc:Int)(r:Int→Int)(st:Int)(hx:Stx s i pc r st){X:Type}{φ:X→Prop}{v:X→Value}{L1 R1:X→List Asn}
  (k:∀(w0:World)(M H:Nat→Prop)(b2 b4 b6 b7:Nat),At 301 w0 M H [(1,.pointer (some ⟨e.m,0,none⟩)),(2,.pointer (some ⟨b2,0,none⟩)),(4,.pointer (some ⟨b4,0,none⟩)),(6,.pointer (some ⟨b6,0,none⟩)),(7,.pointer (some ⟨b7,0,none⟩)),(8,.int .u32 (r i.d)),(9,.int .u32 (r i.a)),(10,.int .u32 (if i.op<16 then r i.b else i.imm)),(11,.int .u32 (pc+4)),(12,.int .i64 (iQ i.op))] [(20,bj e.m 157 (mR e)),(21,own 5 1 bZ (sv e.vd) s.d),(22,own 5 1 bZ (sv e.vi) s.i),(23,own 3 1 eI (sv e.vr) s.r),(2,bj b2 78 (sR pc r st)),(4,bj b4 207 (oC 0 oJ 0 0 0)),(6,bj b6 118 (gL i)),(7,bj b7 78 (sR pc r st))] [] ((OX 12 (EJ f115)).wp prog (bodyPost prog f115 (Li w0 M H φ v L1 R1)))):
  Spec prog 115 [.agg (sR pc r st).toArray,.pointer (some ⟨e.m,0,none⟩)] [bj e.m 157 (mR e),own 5 1 bZ (sv e.vd) (s).d,own 5 1 bZ (sv e.vi) (s).i,own 3 1 eI (sv e.vr) (s).r] [] φ v L1 R1:=by
 refine aI func115 J ntmps115 J fun w0 M H=>tk 0 20 J J (tk 1 21 J J (tk 2 22 J J (tk 3 23 J J ?_)))
 have hdd:=hx.f.hv.d;have haa:=hx.f.hv.a;have hbb:=hx.f.hv.b;have him:=hx.f.imm;have hpp:=hx.f.p;have hp2:=hx.p;have hst:=hx.hst;refine aj (bU J J fun b2=>aZ lf J J fun b4=>aG J (az gS J J (aP 2 cB J J J J J (ad J J (ak (xs:= [.tmp 20,.tmp 21]) (uV e s n hs i pc hx.f) NK [20,21,22,23] [] [20,21,22,23] (fun _ _=>aZ AJ J J fun b5=>aq (k:=5) AJ J J J J J J (ac (aS (az GM J J (aO (dw lS J) J (aP 5 t3 J J J J J ?_)))))))))));refine ar J J df J (ac (ae J (fun h1=> ?_) (fun h1=> ?_)))
 ·cases h1
 ·(try simp only [be]at h1)
  refine ax (aj (az GN J J (aO (aL (us:=gL i) ew J J J (jg (k:=5) J J)) J (aZ ew J J fun b6=>aq (k:=6) ew J J J J J J (aG J (aO (aL wA J J J (aX (k:=2) J)) J (aZ wA J J fun b7=>aq (k:=7) wA J J J J J J (aG J (az fS J J (aO (cO (j:=0) underlying75 cB J J (by rfl) (by decide)) J (aK (k:=7) (us:= [.int .u32 0]) (c':=sR pc r st) cB J J J J J J J (FD hx.h0) (ac ?_))))))))))));refine aj (az fN J J (aP 6 t3 J J J J J (az fS J J (aO (cO (j:=i.d.toNat) underlying75 cB J J (by omega) (by omega)) J (aP 7 cB J J J (w_ hx.f.hv.d) J (ai J J (aG J (az kW J J (aP 6 t3 J J J J J (az fS J J (aO (cO (j:=i.a.toNat) underlying75 cB J J (by omega) (by omega)) J (aP 7 cB J J J (w_ hx.f.hv.a) J (ai J J (aG J ?_))))))))))))));refine az kV J J (aP 6 t3 J J J J J (az fS J J (aO (cO (j:=i.b.toNat) underlying75 cB J J (by omega) (by omega)) J (aP 7 cB J J J (w_ hx.f.hv.b) J (ai J J (aG J (az gS J J (aP 7 cB J J J J J (ar J J (bi (c:=pc+4) (bK (by omega) (by omega))) J (ai J J (aG J (az bl J J (aP 6 t3 J J J J J (ak (xs:= [.tmp 55]) (xd i.op) NJ [] [] [] (fun _ _=>ai J J ?_)))))))))))))));refine ac (br (X:=Nat×Nat×Nat×Nat) (fun _=>True) (fun z=> [(1,.pointer (some ⟨e.m,0,none⟩)),(2,.pointer (some ⟨z.1,0,none⟩)),(4,.pointer (some ⟨z.2.1,0,none⟩)),(6,.pointer (some ⟨z.2.2.1,0,none⟩)),(7,.pointer (some ⟨z.2.2.2,0,none⟩)),(8,.int .u32 (r i.d)),(9,.int .u32 (r i.a)),(10,.int .u32 (if i.op<16 then r i.b else i.imm)),(11,.int .u32 (pc+4)),(12,.int .i64 (iQ i.op))]) (fun z=> [(20,bj e.m 157 (mR e)),(21,own 5 1 bZ (sv e.vd) s.d),(22,own 5 1 bZ (sv e.vi) s.i),(23,own 3 1 eI (sv e.vr) s.r),(2,bj z.1 78 (sR pc r st)),(4,bj z.2.1 207 (oC 0 oJ 0 0 0)),(6,bj z.2.2.1 118 (gL i)),(7,bj z.2.2.2 78 (sR pc r st))]) (fun z=> []) ?_ (fun⟨b2,b4,b6,b7⟩ _=> ?_))
  ·refine aj (az bl J J (aP 6 t3 J J J J J (ar J J fe J (ac (ae J (fun h2=> ?_) (fun h2=> ?_))))))
   ·(try simp only [be]at h2)
    refine ap (az dk J J (aP 6 cB J J J J J (ai J J (ac ?_))));refine aM (b2,b4,b6,b7) O (by rw [if_neg (show ¬i.op<16 by omega)];rfl) J J
   ·(try simp only [be]at h2)
    refine ax ?_;refine aM (b2,b4,b6,b7) O (by rw [if_pos (show i.op<16 by omega)];rfl) J J
  ·exact k w0 M H b2 b4 b6 b7
theorem fU(e:Me)(s:Mm)(pc:Int)(r1 r2:Int→Int)(st npc:Int)(hst:0≤st∧st<1000000000000000)(hz:(sR pc r1 st).take 1++ [Value.int .u32 0]++(sR pc r1 st).drop 2=sR pc r2 st){w0:World}{M H:Nat→Prop}{b4 b7:Nat}:
  At 301 w0 M H [(4,.pointer (some ⟨b4,0,none⟩)),(7,.pointer (some ⟨b7,0,none⟩)),(11,.int .u32 npc)] [(20,bj e.m 157 (mR e)),(21,own 5 1 bZ (sv e.vd) (s).d),(22,own 5 1 bZ (sv e.vi) (s).i),(23,own 3 1 eI (sv e.vr) (s).r),(4,bj b4 207 (oC 0 oJ 0 0 0)),(7,bj b7 78 (sR pc r1 st))] [] ((OX 13 (EJ f115)).wp prog (bodyPost prog f115 (Li w0 M H (X:=Unit) (fun _=>True) (fun _=> .agg (oC npc r2 (st+1) 0 0).toArray) (fun _=> [bj e.m 157 (mR e),own 5 1 bZ (sv e.vd) (s).d,own 5 1 bZ (sv e.vi) (s).i,own 3 1 eI (sv e.vr) (s).r]) (fun _=> [])))):=by
 skip;refine aj (az fS J J (aO (cO (j:=0) underlying75 cB J J (by rfl) (by decide)) J (aK (k:=7) (us:= [.int .u32 0]) (c':=sR pc r2 st) cB J J J J J J J hz (aG J (ad J J (az gS J J (aK (k:=7) (us:= [.int .u32 npc]) (c':=sR npc r2 st) cB J J J J J J J J (aG J (az gQ J J (aP 7 t3 J J J J J (ar J J (bi (c:=st+1) (bc (by omega) (by omega))) J (az gQ J J (aK (k:=7) (us:= [.int .i64 (st+1)]) (c':=sR npc r2 (st+1)) t3 J J J J J J J J (ac ?_))))))))))))));refine aj (aO (aL wA J J J (aX (k:=7) J)) J (aO (aV (cs:=(oC npc r2 (st+1) 0 0).toArray) (parts:= [(0,.tmp 299)]) lf HJ J (by kernel_rfl)) J (aq (k:=4) lf J J J J J J (ac (au (aH () O J (bE (bh lf J J J (aX (k:=4) J))) J [20,21,22,23] [] J J J))))))
theorem Cn(e:Me)(s:Mm)(n:Nat)(hs:MO s n)(i:Qi)(pc:Int)(r:Int→Int)(st:Int)(hx:Stx s i pc r st)(v:Int)(hu:ww i.op (r i.a) (if i.op<16 then r i.b else i.imm)=some v):
  Spec prog 115 [.agg (sR pc r st).toArray,.pointer (some ⟨e.m,0,none⟩)] [bj e.m 157 (mR e),own 5 1 bZ (sv e.vd) (s).d,own 5 1 bZ (sv e.vi) (s).i,own 3 1 eI (sv e.vr) (s).r] [] (X:=Unit) (fun _=>True) (fun _=> .agg (oC (pc+4) (rp r i.d v) (st+1) 0 0).toArray) (fun _=> [bj e.m 157 (mR e),own 5 1 bZ (sv e.vd) (s).d,own 5 1 bZ (sv e.vi) (s).i,own 3 1 eI (sv e.vr) (s).r]) (fun _=> []):=by
 have hdd:=hx.f.hv.d;have haa:=hx.f.hv.a;have hbb:=hx.f.hv.b;have him:=hx.f.imm;have hpp:=hx.f.p;have hp2:=hx.p;have hst:=hx.hst;obtain⟨ho,hz,hk⟩:=KP hu;refine fG e s n hs i pc r st hx fun w0 M H b2 b4 b6 b7=> ?_
 refine br (X:=Unit) (fun _=>True) (fun _=> [(4,.pointer (some ⟨b4,0,none⟩)),(7,.pointer (some ⟨b7,0,none⟩)),(11,.int .u32 (pc+4))]) (fun _=> [(20,bj e.m 157 (mR e)),(21,own 5 1 bZ (sv e.vd) (s).d),(22,own 5 1 bZ (sv e.vi) (s).i),(23,own 3 1 eI (sv e.vr) (s).r),(4,bj b4 207 (oC 0 oJ 0 0 0)),(7,bj b7 78 (sR pc (rs r i.d v) st))]) (fun _=> []) ?_ (fun _ _=> ?_)
 ·refine aB (aj (az bl J J (aP 6 t3 J J J J J (ar J J aY J (ad J J (aA [] J J O (fun hg1=>am J) J (aA [(67,_)] J J ⟨J,O⟩ (fun hg2=>aT J J aY) J (aO (aQ J J J (by first|exact av|exact aC|rfl)) J (ai J J (ac (ae J (fun h3=> ?_) (fun h3=> ?_))))))))))))
  ·(exfalso;have h0:=h3;revert h0;simp;try omega)
  ·(try simp only [be]at h3)
   refine aj (ad J J (ar J J df J (ai J J (ac (ae J (fun h4=> ?_) (fun h4=> ?_))))))
   ·(try simp only [be]at h4)
    refine bH [75,76,77,78,79,80,81,82] _ J (bk (V:= [(0,75,_),(1,76,_),(2,77,_),(3,78,_),(4,79,_),(6,81,_)]) [0,1,2,3,4,6] 5 [5,4,3,2] [7] (fun _=> [(7,82,_)]) J J (aa (aD J (ag fN J)) (aa (aD J (ah t3 J J (ay (k:=6) J J))) (aa (aD J (am J)) (aa (aD J (am J)) (aa (aD J (am J)) (aa (aD J (ag fS J)) aw)))))) J J J J J J J J J J J (fun _ _=>J) J (bq (xs:= [.tmp 77,.tmp 78,.tmp 79]) (CE (iQ i.op) (r i.a) (if i.op<16 then r i.b else i.imm) v (hx.hr _) (by split;exact hx.hr _;exact him) (KQ hu)) NI [] [] [] J J J J J J J J (fun _ _=>J) (fun _ _ _=>J)) (fun _ _=>bI [7,0,1,6] 8 [8,7,6,5,4,3,2,1,0] [] (fun _=> []) J J (aa (aD J (cO (j:=i.d.toNat) underlying75 cB J J (by omega) (by omega))) (aa (aD J (ag fN J)) (aa (aD J (ah t3 J J (ay (k:=6) J J))) (aa (aD J (ag fS J)) aw)))) J J J J J J J J J (fun _ _=>J) J (cH (k:=7) (us:= [.int .u32 v]) (c':=sR pc (rs r i.d v) st) cB J J J J J J (pG hx.f.hv.d) (lG hx.f.hv.d)) (fun _ _=>bp [] J J aw J J J ?_)));refine aM () O J J J
   ·(exfalso;have h0:=h4;revert h0;simp;exact hk)
 ·exact fU e s pc (rs r i.d v) (rp r i.d v) st (pc+4) hst (uM hx.h0)
theorem Cj(e:Me)(s:Mm)(n:Nat)(hs:MO s n)(i:Qi)(pc:Int)(r:Int→Int)(st:Int)(hx:Stx s i pc r st)(hb:byL s.d)(ho:i.op=23)(hq4:(wU (r i.a+i.imm))+4≤s.d.length)(hok:∀k:Int,0≤k→k<4→wD s (IntKind.u32.wrap ((wU (r i.a+i.imm))+k)) 1=true):
  Spec prog 115 [.agg (sR pc r st).toArray,.pointer (some ⟨e.m,0,none⟩)] [bj e.m 157 (mR e),own 5 1 bZ (sv e.vd) (s).d,own 5 1 bZ (sv e.vi) (s).i,own 3 1 eI (sv e.vr) (s).r] [] (X:=Unit) (fun _=>True) (fun _=> .agg (oC (pc+4) (rp r i.d (zo s.d (wU (r i.a+i.imm)).toNat)) (st+1) 0 0).toArray) (fun _=> [bj e.m 157 (mR e),own 5 1 bZ (sv e.vd) (s).d,own 5 1 bZ (sv e.vi) (s).i,own 3 1 eI (sv e.vr) (s).r]) (fun _=> []):=by
 have hdd:=hx.f.hv.d;have haa:=hx.f.hv.a;have hbb:=hx.f.hv.b;have him:=hx.f.imm;have hpp:=hx.f.p;have hp2:=hx.p;have hst:=hx.hst;have hk:iQ i.op=0:=by rw [ho];rfl
 refine fG e s n hs i pc r st hx fun w0 M H b2 b4 b6 b7=> ?_
 refine br (X:=Unit) (fun _=>True) (fun _=> [(4,.pointer (some ⟨b4,0,none⟩)),(7,.pointer (some ⟨b7,0,none⟩)),(11,.int .u32 (pc+4))]) (fun _=> [(20,bj e.m 157 (mR e)),(21,own 5 1 bZ (sv e.vd) (s).d),(22,own 5 1 bZ (sv e.vi) (s).i),(23,own 3 1 eI (sv e.vr) (s).r),(4,bj b4 207 (oC 0 oJ 0 0 0)),(7,bj b7 78 (sR pc (rs r i.d (zo s.d (wU (r i.a+i.imm)).toNat)) st))]) (fun _=> []) ?_ (fun _ _=> ?_)
 ·refine aB (aj (az bl J J (aP 6 t3 J J J J J (ar J J aY J (ad J J (aA [] J J O (fun hg1=>am J) J (aA [(67,_)] J J ⟨J,O⟩ (fun hg2=>aT J J aY) J (aO (aQ J J J (by first|exact av|exact aC|rfl)) J (ai J J (ac (ae J (fun h3=> ?_) (fun h3=> ?_))))))))))))
  ·(exfalso;have h0:=h3;revert h0;simp;try omega)
  ·(try simp only [be]at h3)
   refine aj (ad J J (ar J J df J (ai J J (ac (ae J (fun h4=> ?_) (fun h4=> ?_))))))
   ·(exfalso;have h0:=h4;revert h0;simp;exact hk)
   ·(try simp only [be]at h4)
    refine aj (az bl J J (aP 6 t3 J J J J J (ar J J aY J (ad J J (aA [] J J O (fun hg5=>ag bl J) J (aA [(88,_)] J J ⟨J,O⟩ (fun hg6=>ah t3 J J (ay (k:=6) J J)) J (aA [(88,_),(89,_)] J J ⟨J,J,O⟩ (fun hg7=>aT J J aY) J (aO (aQ J J J (by first|exact av|exact aC|rfl)) J (ai J J (ac (ae J (fun h8=> ?_) (fun h8=> ?_))))))))))))
    ·(try simp only [be]at h8)
     refine aj (ai J J (ac (aS (az bl J J (aP 6 t3 J J J J J (ar J J aY J (ac (ae J (fun h9=> ?_) (fun h9=> ?_)))))))))
     ·(exfalso;have h0:=h9;revert h0;simp;try omega)
     ·(try simp only [be]at h9)
      refine ax (aj (ad J J (ad J J (az dk J J (aP 6 cB J J J J J (ar J J (bi J) J (ad J J (ak (xs:= [.tmp 95,.tmp 99,.tmp 100]) (Dk e s n hs (wU (r i.a+i.imm)) (ka _) hb hq4 hok) NH [20,21,22,23] [] [20,21,22,23] (fun _ _=>aZ gC J J fun b14=>aq (k:=14) gC J J J J J J (ac (aS (az mU J J (aP 14 t4 J J J J J (aO (ch J) J (ac ?_)))))))))))))));refine ae J (fun h10=> ?_) (fun h10=> ?_)
      ·cases h10
      ·(try simp only [be]at h10)
       refine ax (ap (az fN J J (aP 6 t3 J J J J J (az oR J J (aP 14 cB J J J J J (az fS J J (aO (cO (j:=i.d.toNat) underlying75 cB J J (by omega) (by omega)) J (aK (k:=7) (us:= [.int .u32 (zo s.d (wU (r i.a+i.imm)).toNat)]) (c':=sR pc (rs r i.d (zo s.d (wU (r i.a+i.imm)).toNat)) st) cB J J J J J J (pG hx.f.hv.d) (lG hx.f.hv.d) (ac (aM () O J J J))))))))))
    ·(exfalso;have h0:=h8;revert h0;simp;try omega)
 ·exact fU e s pc (rs r i.d (zo s.d (wU (r i.a+i.imm)).toNat)) (rp r i.d (zo s.d (wU (r i.a+i.imm)).toNat)) st (pc+4) hst (uM hx.h0)
theorem Ch(e:Me)(s:Mm)(n:Nat)(hs:MO s n)(i:Qi)(pc:Int)(r:Int→Int)(st:Int)(hx:Stx s i pc r st)(ho:i.op=25)(hq4:(wU (r i.a+i.imm))+4≤s.d.length)(hok:∀k:Int,0≤k→k<4→wD s (IntKind.u32.wrap ((wU (r i.a+i.imm))+k)) 2=true):
  Spec prog 115 [.agg (sR pc r st).toArray,.pointer (some ⟨e.m,0,none⟩)] [bj e.m 157 (mR e),own 5 1 bZ (sv e.vd) (s).d,own 5 1 bZ (sv e.vi) (s).i,own 3 1 eI (sv e.vr) (s).r] [] (X:=Unit) (fun _=>True) (fun _=> .agg (oC (pc+4) r (st+1) 0 0).toArray) (fun _=> [bj e.m 157 (mR e),own 5 1 bZ (sv e.vd) ({s with d:=pk s.d (wU (r i.a+i.imm)).toNat (eD (r i.d))}).d,own 5 1 bZ (sv e.vi) ({s with d:=pk s.d (wU (r i.a+i.imm)).toNat (eD (r i.d))}).i,own 3 1 eI (sv e.vr) ({s with d:=pk s.d (wU (r i.a+i.imm)).toNat (eD (r i.d))}).r]) (fun _=> []):=by
 have hdd:=hx.f.hv.d;have haa:=hx.f.hv.a;have hbb:=hx.f.hv.b;have him:=hx.f.imm;have hpp:=hx.f.p;have hp2:=hx.p;have hst:=hx.hst;have hk:iQ i.op=0:=by rw [ho];rfl
 refine fG e s n hs i pc r st hx fun w0 M H b2 b4 b6 b7=> ?_
 refine br (X:=Unit) (fun _=>True) (fun _=> [(4,.pointer (some ⟨b4,0,none⟩)),(7,.pointer (some ⟨b7,0,none⟩)),(11,.int .u32 (pc+4))]) (fun _=> [(20,bj e.m 157 (mR e)),(21,own 5 1 bZ (sv e.vd) ({s with d:=pk s.d (wU (r i.a+i.imm)).toNat (eD (r i.d))}).d),(22,own 5 1 bZ (sv e.vi) ({s with d:=pk s.d (wU (r i.a+i.imm)).toNat (eD (r i.d))}).i),(23,own 3 1 eI (sv e.vr) ({s with d:=pk s.d (wU (r i.a+i.imm)).toNat (eD (r i.d))}).r),(4,bj b4 207 (oC 0 oJ 0 0 0)),(7,bj b7 78 (sR pc r st))]) (fun _=> []) ?_ (fun _ _=> ?_)
 ·refine aB (aj (az bl J J (aP 6 t3 J J J J J (ar J J aY J (ad J J (aA [] J J O (fun hg1=>am J) J (aA [(67,_)] J J ⟨J,O⟩ (fun hg2=>aT J J aY) J (aO (aQ J J J (by first|exact av|exact aC|rfl)) J (ai J J (ac (ae J (fun h3=> ?_) (fun h3=> ?_))))))))))))
  ·(exfalso;have h0:=h3;revert h0;simp;try omega)
  ·(try simp only [be]at h3)
   refine aj (ad J J (ar J J df J (ai J J (ac (ae J (fun h4=> ?_) (fun h4=> ?_))))))
   ·(exfalso;have h0:=h4;revert h0;simp;exact hk)
   ·(try simp only [be]at h4)
    refine aj (az bl J J (aP 6 t3 J J J J J (ar J J aY J (ad J J (aA [] J J O (fun hg5=>ag bl J) J (aA [(88,_)] J J ⟨J,O⟩ (fun hg6=>ah t3 J J (ay (k:=6) J J)) J (aA [(88,_),(89,_)] J J ⟨J,J,O⟩ (fun hg7=>aT J J aY) J (aO (aQ J J J (by first|exact av|exact aC|rfl)) J (ai J J (ac (ae J (fun h8=> ?_) (fun h8=> ?_))))))))))))
    ·(exfalso;have h0:=h8;revert h0;simp;try omega)
    ·(try simp only [be]at h8)
     refine aj (az bl J J (aP 6 t3 J J J J J (ar J J aY J (ad J J (aA [] J J O (fun hg9=>ag bl J) J (aA [(120,_)] J J ⟨J,O⟩ (fun hg10=>ah t3 J J (ay (k:=6) J J)) J (aA [(120,_),(121,_)] J J ⟨J,J,O⟩ (fun hg11=>aT J J aY) J (aO (aQ J J J (by first|exact av|exact aC|rfl)) J (ai J J (ac (ae J (fun h12=> ?_) (fun h12=> ?_))))))))))))
     ·(try simp only [be]at h12)
      refine aj (ai J J (ac (aS (az bl J J (aP 6 t3 J J J J J (ar J J aY J (ac (ae J (fun h13=> ?_) (fun h13=> ?_)))))))))
      ·(exfalso;have h0:=h13;revert h0;simp;try omega)
      ·(try simp only [be]at h13)
       refine ax (aj (ad J J (ad J J (az dk J J (aP 6 cB J J J J J (ar J J (bi J) J (ad J J (ad J J (ak (xs:= [.tmp 127,.tmp 131,.tmp 132,.tmp 133]) (AN e s n hs (wU (r i.a+i.imm)) (ka _) (r i.d) (hx.hr _) hq4 hok) NG [20,21,22,23] [] [20,21,22,23] (fun _ _=>aZ gC J J fun b16=>aq (k:=16) gC J J J J J J (aG J (az mU J J (aP 16 t4 J J J J J (aO (ch J) J (ac ?_)))))))))))))));refine ae J (fun h14=> ?_) (fun h14=> ?_)
       ·cases h14
       ·(try simp only [be]at h14)
        refine ax (aM () O J J J)
     ·(exfalso;have h0:=h12;revert h0;simp;try omega)
 ·exact fU e {s with d:=pk s.d (wU (r i.a+i.imm)).toNat (eD (r i.d))} pc r r st (pc+4) hst (FD hx.h0)
theorem AO(e:Me)(s:Mm)(n:Nat)(hs:MO s n)(i:Qi)(pc:Int)(r:Int→Int)(st:Int)(hx:Stx s i pc r st)(ho:i.op=27):
  Spec prog 115 [.agg (sR pc r st).toArray,.pointer (some ⟨e.m,0,none⟩)] [bj e.m 157 (mR e),own 5 1 bZ (sv e.vd) (s).d,own 5 1 bZ (sv e.vi) (s).i,own 3 1 eI (sv e.vr) (s).r] [] (X:=Unit) (fun _=>True) (fun _=> .agg (oC ((wU (r i.a+i.imm))/4*4) (rp r i.d (pc+4)) (st+1) 0 0).toArray) (fun _=> [bj e.m 157 (mR e),own 5 1 bZ (sv e.vd) (s).d,own 5 1 bZ (sv e.vi) (s).i,own 3 1 eI (sv e.vr) (s).r]) (fun _=> []):=by
 have hdd:=hx.f.hv.d;have haa:=hx.f.hv.a;have hbb:=hx.f.hv.b;have him:=hx.f.imm;have hpp:=hx.f.p;have hp2:=hx.p;have hst:=hx.hst;have hk:iQ i.op=0:=by rw [ho];rfl
 refine fG e s n hs i pc r st hx fun w0 M H b2 b4 b6 b7=> ?_
 refine br (X:=Unit) (fun _=>True) (fun _=> [(4,.pointer (some ⟨b4,0,none⟩)),(7,.pointer (some ⟨b7,0,none⟩)),(11,.int .u32 ((wU (r i.a+i.imm))/4*4))]) (fun _=> [(20,bj e.m 157 (mR e)),(21,own 5 1 bZ (sv e.vd) (s).d),(22,own 5 1 bZ (sv e.vi) (s).i),(23,own 3 1 eI (sv e.vr) (s).r),(4,bj b4 207 (oC 0 oJ 0 0 0)),(7,bj b7 78 (sR pc (rs r i.d (pc+4)) st))]) (fun _=> []) ?_ (fun _ _=> ?_)
 ·refine aB (aj (az bl J J (aP 6 t3 J J J J J (ar J J aY J (ad J J (aA [] J J O (fun hg1=>am J) J (aA [(67,_)] J J ⟨J,O⟩ (fun hg2=>aT J J aY) J (aO (aQ J J J (by first|exact av|exact aC|rfl)) J (ai J J (ac (ae J (fun h3=> ?_) (fun h3=> ?_))))))))))))
  ·(exfalso;have h0:=h3;revert h0;simp;try omega)
  ·(try simp only [be]at h3)
   refine aj (ad J J (ar J J df J (ai J J (ac (ae J (fun h4=> ?_) (fun h4=> ?_))))))
   ·(exfalso;have h0:=h4;revert h0;simp;exact hk)
   ·(try simp only [be]at h4)
    refine aj (az bl J J (aP 6 t3 J J J J J (ar J J aY J (ad J J (aA [] J J O (fun hg5=>ag bl J) J (aA [(88,_)] J J ⟨J,O⟩ (fun hg6=>ah t3 J J (ay (k:=6) J J)) J (aA [(88,_),(89,_)] J J ⟨J,J,O⟩ (fun hg7=>aT J J aY) J (aO (aQ J J J (by first|exact av|exact aC|rfl)) J (ai J J (ac (ae J (fun h8=> ?_) (fun h8=> ?_))))))))))))
    ·(exfalso;have h0:=h8;revert h0;simp;try omega)
    ·(try simp only [be]at h8)
     refine aj (az bl J J (aP 6 t3 J J J J J (ar J J aY J (ad J J (aA [] J J O (fun hg9=>ag bl J) J (aA [(120,_)] J J ⟨J,O⟩ (fun hg10=>ah t3 J J (ay (k:=6) J J)) J (aA [(120,_),(121,_)] J J ⟨J,J,O⟩ (fun hg11=>aT J J aY) J (aO (aQ J J J (by first|exact av|exact aC|rfl)) J (ai J J (ac (ae J (fun h12=> ?_) (fun h12=> ?_))))))))))))
     ·(exfalso;have h0:=h12;revert h0;simp;try omega)
     ·(try simp only [be]at h12)
      refine aj (az bl J J (aP 6 t3 J J J J J (ar J J aY J (ai J J (ac (ae J (fun h13=> ?_) (fun h13=> ?_)))))))
      ·(try simp only [be]at h13)
       refine aj (az fN J J (aP 6 t3 J J J J J (ad J J (az fS J J (aO (cO (j:=i.d.toNat) underlying75 cB J J (by omega) (by omega)) J (aK (k:=7) (us:= [.int .u32 (pc+4)]) (c':=sR pc (rs r i.d (pc+4)) st) cB J J J J J J (pG hx.f.hv.d) (lG hx.f.hv.d) (ac (ap (ad J J (az dk J J (aP 6 cB J J J J J (ar J J (bi J) J (ar J J (jT (by decide) (nZ (ka _) (by decide))) J (ar J J (dr (Ly _)) J (ai J J (ac (aM () O J J J)))))))))))))))))
      ·(exfalso;have h0:=h13;revert h0;simp;try omega)
 ·exact fU e s pc (rs r i.d (pc+4)) (rp r i.d (pc+4)) st ((wU (r i.a+i.imm))/4*4) hst (uM hx.h0)
theorem Cm(e:Me)(s:Mm)(n:Nat)(hs:MO s n)(i:Qi)(pc:Int)(r:Int→Int)(st:Int)(hx:Stx s i pc r st)(ho:i.op=32):
  Spec prog 115 [.agg (sR pc r st).toArray,.pointer (some ⟨e.m,0,none⟩)] [bj e.m 157 (mR e),own 5 1 bZ (sv e.vd) (s).d,own 5 1 bZ (sv e.vi) (s).i,own 3 1 eI (sv e.vr) (s).r] [] (X:=Unit) (fun _=>True) (fun _=> .agg (oC (if r i.d=r i.a then wU (pc+4*i.imm)else pc+4) r (st+1) 0 0).toArray) (fun _=> [bj e.m 157 (mR e),own 5 1 bZ (sv e.vd) (s).d,own 5 1 bZ (sv e.vi) (s).i,own 3 1 eI (sv e.vr) (s).r]) (fun _=> []):=by
 have hdd:=hx.f.hv.d;have haa:=hx.f.hv.a;have hbb:=hx.f.hv.b;have him:=hx.f.imm;have hpp:=hx.f.p;have hp2:=hx.p;have hst:=hx.hst;have hk:iQ i.op=0:=by rw [ho];rfl
 refine fG e s n hs i pc r st hx fun w0 M H b2 b4 b6 b7=> ?_
 refine br (X:=Unit) (fun _=>True) (fun _=> [(4,.pointer (some ⟨b4,0,none⟩)),(7,.pointer (some ⟨b7,0,none⟩)),(11,.int .u32 (if r i.d=r i.a then wU (pc+4*i.imm)else pc+4))]) (fun _=> [(20,bj e.m 157 (mR e)),(21,own 5 1 bZ (sv e.vd) (s).d),(22,own 5 1 bZ (sv e.vi) (s).i),(23,own 3 1 eI (sv e.vr) (s).r),(4,bj b4 207 (oC 0 oJ 0 0 0)),(7,bj b7 78 (sR pc r st))]) (fun _=> []) ?_ (fun _ _=> ?_)
 ·refine aB (aj (az bl J J (aP 6 t3 J J J J J (ar J J aY J (ad J J (aA [] J J O (fun hg1=>am J) J (aA [(67,_)] J J ⟨J,O⟩ (fun hg2=>aT J J aY) J (aO (aQ J J J (by first|exact av|exact aC|rfl)) J (ai J J (ac (ae J (fun h3=> ?_) (fun h3=> ?_))))))))))))
  ·(exfalso;have h0:=h3;revert h0;simp;try omega)
  ·(try simp only [be]at h3)
   refine aj (ad J J (ar J J df J (ai J J (ac (ae J (fun h4=> ?_) (fun h4=> ?_))))))
   ·(exfalso;have h0:=h4;revert h0;simp;exact hk)
   ·(try simp only [be]at h4)
    refine aj (az bl J J (aP 6 t3 J J J J J (ar J J aY J (ad J J (aA [] J J O (fun hg5=>ag bl J) J (aA [(88,_)] J J ⟨J,O⟩ (fun hg6=>ah t3 J J (ay (k:=6) J J)) J (aA [(88,_),(89,_)] J J ⟨J,J,O⟩ (fun hg7=>aT J J aY) J (aO (aQ J J J (by first|exact av|exact aC|rfl)) J (ai J J (ac (ae J (fun h8=> ?_) (fun h8=> ?_))))))))))))
    ·(exfalso;have h0:=h8;revert h0;simp;try omega)
    ·(try simp only [be]at h8)
     refine aj (az bl J J (aP 6 t3 J J J J J (ar J J aY J (ad J J (aA [] J J O (fun hg9=>ag bl J) J (aA [(120,_)] J J ⟨J,O⟩ (fun hg10=>ah t3 J J (ay (k:=6) J J)) J (aA [(120,_),(121,_)] J J ⟨J,J,O⟩ (fun hg11=>aT J J aY) J (aO (aQ J J J (by first|exact av|exact aC|rfl)) J (ai J J (ac (ae J (fun h12=> ?_) (fun h12=> ?_))))))))))))
     ·(exfalso;have h0:=h12;revert h0;simp;try omega)
     ·(try simp only [be]at h12)
      refine aj (az bl J J (aP 6 t3 J J J J J (ar J J aY J (ai J J (ac (ae J (fun h13=> ?_) (fun h13=> ?_)))))))
      ·(exfalso;have h0:=h13;revert h0;simp;try omega)
      ·(try simp only [be]at h13)
       refine aj (az bl J J (aP 6 t3 J J J J J (ar J J fe J (ad J J (aA [] J J O (fun hg14=>ag bl J) J (aA [(162,_)] J J ⟨J,O⟩ (fun hg15=>ah t3 J J (ay (k:=6) J J)) J (aA [(162,_),(163,_)] J J ⟨J,J,O⟩ (fun hg16=>aT J J jl) J (aO (aQ J J J (by first|exact av|exact aC|rfl)) J (ai J J (ac (ae J (fun h17=> ?_) (fun h17=> ?_))))))))))))
       ·(try simp only [be]at h17)
        refine aj (az bl J J (aP 6 t3 J J J J J (ad J J (ad J J ?_))));rw [ho];refine ak (xs:= [.tmp 167,.tmp 168,.tmp 169]) (ri (r i.d) (r i.a)) IB [] [] [] (fun _ _=>ai J J (aG J (ad J J (ac (ae J (fun h18=> ?_) (fun h18=> ?_))))))
        ·(try simp only [be]at h18)
         rw [if_pos h18];refine ap (az gS J J (aP 7 cB J J J J J (az dk J J (aP 6 cB J J J J J (ar J J (dr J) J (ar J J (bi (c:=wU (pc+4*i.imm)) (wO _ _)) J (ai J J (ac (aM () O J J J)))))))))
        ·(try simp only [be]at h18)
         rw [if_neg h18];refine ax (aM () O J J J)
       ·(exfalso;have h0:=h17;revert h0;simp;try omega)
 ·exact fU e s pc r r st (if r i.d=r i.a then wU (pc+4*i.imm)else pc+4) hst (FD hx.h0)
theorem AP(e:Me)(s:Mm)(n:Nat)(hs:MO s n)(i:Qi)(pc:Int)(r:Int→Int)(st:Int)(hx:Stx s i pc r st)(ho:i.op=35):
  Spec prog 115 [.agg (sR pc r st).toArray,.pointer (some ⟨e.m,0,none⟩)] [bj e.m 157 (mR e),own 5 1 bZ (sv e.vd) (s).d,own 5 1 bZ (sv e.vi) (s).i,own 3 1 eI (sv e.vr) (s).r] [] (X:=Unit) (fun _=>True) (fun _=> .agg (oC (if r i.d≥r i.a then wU (pc+4*i.imm)else pc+4) r (st+1) 0 0).toArray) (fun _=> [bj e.m 157 (mR e),own 5 1 bZ (sv e.vd) (s).d,own 5 1 bZ (sv e.vi) (s).i,own 3 1 eI (sv e.vr) (s).r]) (fun _=> []):=by
 have hdd:=hx.f.hv.d;have haa:=hx.f.hv.a;have hbb:=hx.f.hv.b;have him:=hx.f.imm;have hpp:=hx.f.p;have hp2:=hx.p;have hst:=hx.hst;have hk:iQ i.op=0:=by rw [ho];rfl
 refine fG e s n hs i pc r st hx fun w0 M H b2 b4 b6 b7=> ?_
 refine br (X:=Unit) (fun _=>True) (fun _=> [(4,.pointer (some ⟨b4,0,none⟩)),(7,.pointer (some ⟨b7,0,none⟩)),(11,.int .u32 (if r i.d≥r i.a then wU (pc+4*i.imm)else pc+4))]) (fun _=> [(20,bj e.m 157 (mR e)),(21,own 5 1 bZ (sv e.vd) (s).d),(22,own 5 1 bZ (sv e.vi) (s).i),(23,own 3 1 eI (sv e.vr) (s).r),(4,bj b4 207 (oC 0 oJ 0 0 0)),(7,bj b7 78 (sR pc r st))]) (fun _=> []) ?_ (fun _ _=> ?_)
 ·refine aB (aj (az bl J J (aP 6 t3 J J J J J (ar J J aY J (ad J J (aA [] J J O (fun hg1=>am J) J (aA [(67,_)] J J ⟨J,O⟩ (fun hg2=>aT J J aY) J (aO (aQ J J J (by first|exact av|exact aC|rfl)) J (ai J J (ac (ae J (fun h3=> ?_) (fun h3=> ?_))))))))))))
  ·(exfalso;have h0:=h3;revert h0;simp;try omega)
  ·(try simp only [be]at h3)
   refine aj (ad J J (ar J J df J (ai J J (ac (ae J (fun h4=> ?_) (fun h4=> ?_))))))
   ·(exfalso;have h0:=h4;revert h0;simp;exact hk)
   ·(try simp only [be]at h4)
    refine aj (az bl J J (aP 6 t3 J J J J J (ar J J aY J (ad J J (aA [] J J O (fun hg5=>ag bl J) J (aA [(88,_)] J J ⟨J,O⟩ (fun hg6=>ah t3 J J (ay (k:=6) J J)) J (aA [(88,_),(89,_)] J J ⟨J,J,O⟩ (fun hg7=>aT J J aY) J (aO (aQ J J J (by first|exact av|exact aC|rfl)) J (ai J J (ac (ae J (fun h8=> ?_) (fun h8=> ?_))))))))))))
    ·(exfalso;have h0:=h8;revert h0;simp;try omega)
    ·(try simp only [be]at h8)
     refine aj (az bl J J (aP 6 t3 J J J J J (ar J J aY J (ad J J (aA [] J J O (fun hg9=>ag bl J) J (aA [(120,_)] J J ⟨J,O⟩ (fun hg10=>ah t3 J J (ay (k:=6) J J)) J (aA [(120,_),(121,_)] J J ⟨J,J,O⟩ (fun hg11=>aT J J aY) J (aO (aQ J J J (by first|exact av|exact aC|rfl)) J (ai J J (ac (ae J (fun h12=> ?_) (fun h12=> ?_))))))))))))
     ·(exfalso;have h0:=h12;revert h0;simp;try omega)
     ·(try simp only [be]at h12)
      refine aj (az bl J J (aP 6 t3 J J J J J (ar J J aY J (ai J J (ac (ae J (fun h13=> ?_) (fun h13=> ?_)))))))
      ·(exfalso;have h0:=h13;revert h0;simp;try omega)
      ·(try simp only [be]at h13)
       refine aj (az bl J J (aP 6 t3 J J J J J (ar J J fe J (ad J J (aA [] J J O (fun hg14=>ag bl J) J (aA [(162,_)] J J ⟨J,O⟩ (fun hg15=>ah t3 J J (ay (k:=6) J J)) J (aA [(162,_),(163,_)] J J ⟨J,J,O⟩ (fun hg16=>aT J J jl) J (aO (aQ J J J (by first|exact av|exact aC|rfl)) J (ai J J (ac (ae J (fun h17=> ?_) (fun h17=> ?_))))))))))))
       ·(try simp only [be]at h17)
        refine aj (az bl J J (aP 6 t3 J J J J J (ad J J (ad J J ?_))));rw [ho];refine ak (xs:= [.tmp 167,.tmp 168,.tmp 169]) (rh (r i.d) (r i.a)) IB [] [] [] (fun _ _=>ai J J (aG J (ad J J (ac (ae J (fun h18=> ?_) (fun h18=> ?_))))))
        ·(try simp only [be]at h18)
         rw [if_pos h18];refine ap (az gS J J (aP 7 cB J J J J J (az dk J J (aP 6 cB J J J J J (ar J J (dr J) J (ar J J (bi (c:=wU (pc+4*i.imm)) (wO _ _)) J (ai J J (ac (aM () O J J J)))))))))
        ·(try simp only [be]at h18)
         rw [if_neg h18];refine ax (aM () O J J J)
       ·(exfalso;have h0:=h17;revert h0;simp;try omega)
 ·exact fU e s pc r r st (if r i.d≥r i.a then wU (pc+4*i.imm)else pc+4) hst (FD hx.h0)
theorem Ck(e:Me)(s:Mm)(n:Nat)(hs:MO s n)(i:Qi)(pc:Int)(r:Int→Int)(st:Int)(hx:Stx s i pc r st)(ho:i.op=40):
  Spec prog 115 [.agg (sR pc r st).toArray,.pointer (some ⟨e.m,0,none⟩)] [bj e.m 157 (mR e),own 5 1 bZ (sv e.vd) (s).d,own 5 1 bZ (sv e.vi) (s).i,own 3 1 eI (sv e.vr) (s).r] [] (X:=Unit) (fun _=>True) (fun _=> .agg (oC (wU (pc+4*i.imm)) (rp r i.d (pc+4)) (st+1) 0 0).toArray) (fun _=> [bj e.m 157 (mR e),own 5 1 bZ (sv e.vd) (s).d,own 5 1 bZ (sv e.vi) (s).i,own 3 1 eI (sv e.vr) (s).r]) (fun _=> []):=by
 have hdd:=hx.f.hv.d;have haa:=hx.f.hv.a;have hbb:=hx.f.hv.b;have him:=hx.f.imm;have hpp:=hx.f.p;have hp2:=hx.p;have hst:=hx.hst;have hk:iQ i.op=0:=by rw [ho];rfl
 refine fG e s n hs i pc r st hx fun w0 M H b2 b4 b6 b7=> ?_
 refine br (X:=Unit) (fun _=>True) (fun _=> [(4,.pointer (some ⟨b4,0,none⟩)),(7,.pointer (some ⟨b7,0,none⟩)),(11,.int .u32 (wU (pc+4*i.imm)))]) (fun _=> [(20,bj e.m 157 (mR e)),(21,own 5 1 bZ (sv e.vd) (s).d),(22,own 5 1 bZ (sv e.vi) (s).i),(23,own 3 1 eI (sv e.vr) (s).r),(4,bj b4 207 (oC 0 oJ 0 0 0)),(7,bj b7 78 (sR pc (rs r i.d (pc+4)) st))]) (fun _=> []) ?_ (fun _ _=> ?_)
 ·refine aB (aj (az bl J J (aP 6 t3 J J J J J (ar J J aY J (ad J J (aA [] J J O (fun hg1=>am J) J (aA [(67,_)] J J ⟨J,O⟩ (fun hg2=>aT J J aY) J (aO (aQ J J J (by first|exact av|exact aC|rfl)) J (ai J J (ac (ae J (fun h3=> ?_) (fun h3=> ?_))))))))))))
  ·(exfalso;have h0:=h3;revert h0;simp;try omega)
  ·(try simp only [be]at h3)
   refine aj (ad J J (ar J J df J (ai J J (ac (ae J (fun h4=> ?_) (fun h4=> ?_))))))
   ·(exfalso;have h0:=h4;revert h0;simp;exact hk)
   ·(try simp only [be]at h4)
    refine aj (az bl J J (aP 6 t3 J J J J J (ar J J aY J (ad J J (aA [] J J O (fun hg5=>ag bl J) J (aA [(88,_)] J J ⟨J,O⟩ (fun hg6=>ah t3 J J (ay (k:=6) J J)) J (aA [(88,_),(89,_)] J J ⟨J,J,O⟩ (fun hg7=>aT J J aY) J (aO (aQ J J J (by first|exact av|exact aC|rfl)) J (ai J J (ac (ae J (fun h8=> ?_) (fun h8=> ?_))))))))))))
    ·(exfalso;have h0:=h8;revert h0;simp;try omega)
    ·(try simp only [be]at h8)
     refine aj (az bl J J (aP 6 t3 J J J J J (ar J J aY J (ad J J (aA [] J J O (fun hg9=>ag bl J) J (aA [(120,_)] J J ⟨J,O⟩ (fun hg10=>ah t3 J J (ay (k:=6) J J)) J (aA [(120,_),(121,_)] J J ⟨J,J,O⟩ (fun hg11=>aT J J aY) J (aO (aQ J J J (by first|exact av|exact aC|rfl)) J (ai J J (ac (ae J (fun h12=> ?_) (fun h12=> ?_))))))))))))
     ·(exfalso;have h0:=h12;revert h0;simp;try omega)
     ·(try simp only [be]at h12)
      refine aj (az bl J J (aP 6 t3 J J J J J (ar J J aY J (ai J J (ac (ae J (fun h13=> ?_) (fun h13=> ?_)))))))
      ·(exfalso;have h0:=h13;revert h0;simp;try omega)
      ·(try simp only [be]at h13)
       refine aj (az bl J J (aP 6 t3 J J J J J (ar J J fe J (ad J J (aA [] J J O (fun hg14=>ag bl J) J (aA [(162,_)] J J ⟨J,O⟩ (fun hg15=>ah t3 J J (ay (k:=6) J J)) J (aA [(162,_),(163,_)] J J ⟨J,J,O⟩ (fun hg16=>aT J J jl) J (aO (aQ J J J (by first|exact av|exact aC|rfl)) J (ai J J (ac (ae J (fun h17=> ?_) (fun h17=> ?_))))))))))))
       ·(exfalso;have h0:=h17;revert h0;simp;try omega)
       ·(try simp only [be]at h17)
        refine aj (az bl J J (aP 6 t3 J J J J J (ar J J aY J (ai J J (ac (ae J (fun h18=> ?_) (fun h18=> ?_)))))))
        ·(try simp only [be]at h18)
         refine aj (az fN J J (aP 6 t3 J J J J J (ad J J (az fS J J (aO (cO (j:=i.d.toNat) underlying75 cB J J (by omega) (by omega)) J (aK (k:=7) (us:= [.int .u32 (pc+4)]) (c':=sR pc (rs r i.d (pc+4)) st) cB J J J J J J (pG hx.f.hv.d) (lG hx.f.hv.d) (ac (ap (az gS J J (aP 7 cB J J J J J (az dk J J (aP 6 cB J J J J J (ar J J (dr J) J (ar J J (bi (c:=wU (pc+4*i.imm)) (wO _ _)) J (ai J J (ac (aM () O J J J)))))))))))))))))
        ·(exfalso;have h0:=h18;revert h0;simp;try omega)
 ·exact fU e s pc (rs r i.d (pc+4)) (rp r i.d (pc+4)) st (wU (pc+4*i.imm)) hst (uM hx.h0)
theorem Ci(e:Me)(s:Mm)(n:Nat)(hs:MO s n)(i:Qi)(pc:Int)(r:Int→Int)(st:Int)(hx:Stx s i pc r st)(ho:i.op=41):
  Spec prog 115 [.agg (sR pc r st).toArray,.pointer (some ⟨e.m,0,none⟩)] [bj e.m 157 (mR e),own 5 1 bZ (sv e.vd) (s).d,own 5 1 bZ (sv e.vi) (s).i,own 3 1 eI (sv e.vr) (s).r] [] (X:=Unit) (fun _=>True) (fun _=> .agg (oC (pc+4) (rp r i.d (wU (i.imm*1024))) (st+1) 0 0).toArray) (fun _=> [bj e.m 157 (mR e),own 5 1 bZ (sv e.vd) (s).d,own 5 1 bZ (sv e.vi) (s).i,own 3 1 eI (sv e.vr) (s).r]) (fun _=> []):=by
 have hdd:=hx.f.hv.d;have haa:=hx.f.hv.a;have hbb:=hx.f.hv.b;have him:=hx.f.imm;have hpp:=hx.f.p;have hp2:=hx.p;have hst:=hx.hst;have hk:iQ i.op=0:=by rw [ho];rfl
 refine fG e s n hs i pc r st hx fun w0 M H b2 b4 b6 b7=> ?_
 refine br (X:=Unit) (fun _=>True) (fun _=> [(4,.pointer (some ⟨b4,0,none⟩)),(7,.pointer (some ⟨b7,0,none⟩)),(11,.int .u32 (pc+4))]) (fun _=> [(20,bj e.m 157 (mR e)),(21,own 5 1 bZ (sv e.vd) (s).d),(22,own 5 1 bZ (sv e.vi) (s).i),(23,own 3 1 eI (sv e.vr) (s).r),(4,bj b4 207 (oC 0 oJ 0 0 0)),(7,bj b7 78 (sR pc (rs r i.d (wU (i.imm*1024))) st))]) (fun _=> []) ?_ (fun _ _=> ?_)
 ·refine aB (aj (az bl J J (aP 6 t3 J J J J J (ar J J aY J (ad J J (aA [] J J O (fun hg1=>am J) J (aA [(67,_)] J J ⟨J,O⟩ (fun hg2=>aT J J aY) J (aO (aQ J J J (by first|exact av|exact aC|rfl)) J (ai J J (ac (ae J (fun h3=> ?_) (fun h3=> ?_))))))))))))
  ·(exfalso;have h0:=h3;revert h0;simp;try omega)
  ·(try simp only [be]at h3)
   refine aj (ad J J (ar J J df J (ai J J (ac (ae J (fun h4=> ?_) (fun h4=> ?_))))))
   ·(exfalso;have h0:=h4;revert h0;simp;exact hk)
   ·(try simp only [be]at h4)
    refine aj (az bl J J (aP 6 t3 J J J J J (ar J J aY J (ad J J (aA [] J J O (fun hg5=>ag bl J) J (aA [(88,_)] J J ⟨J,O⟩ (fun hg6=>ah t3 J J (ay (k:=6) J J)) J (aA [(88,_),(89,_)] J J ⟨J,J,O⟩ (fun hg7=>aT J J aY) J (aO (aQ J J J (by first|exact av|exact aC|rfl)) J (ai J J (ac (ae J (fun h8=> ?_) (fun h8=> ?_))))))))))))
    ·(exfalso;have h0:=h8;revert h0;simp;try omega)
    ·(try simp only [be]at h8)
     refine aj (az bl J J (aP 6 t3 J J J J J (ar J J aY J (ad J J (aA [] J J O (fun hg9=>ag bl J) J (aA [(120,_)] J J ⟨J,O⟩ (fun hg10=>ah t3 J J (ay (k:=6) J J)) J (aA [(120,_),(121,_)] J J ⟨J,J,O⟩ (fun hg11=>aT J J aY) J (aO (aQ J J J (by first|exact av|exact aC|rfl)) J (ai J J (ac (ae J (fun h12=> ?_) (fun h12=> ?_))))))))))))
     ·(exfalso;have h0:=h12;revert h0;simp;try omega)
     ·(try simp only [be]at h12)
      refine aj (az bl J J (aP 6 t3 J J J J J (ar J J aY J (ai J J (ac (ae J (fun h13=> ?_) (fun h13=> ?_)))))))
      ·(exfalso;have h0:=h13;revert h0;simp;try omega)
      ·(try simp only [be]at h13)
       refine aj (az bl J J (aP 6 t3 J J J J J (ar J J fe J (ad J J (aA [] J J O (fun hg14=>ag bl J) J (aA [(162,_)] J J ⟨J,O⟩ (fun hg15=>ah t3 J J (ay (k:=6) J J)) J (aA [(162,_),(163,_)] J J ⟨J,J,O⟩ (fun hg16=>aT J J jl) J (aO (aQ J J J (by first|exact av|exact aC|rfl)) J (ai J J (ac (ae J (fun h17=> ?_) (fun h17=> ?_))))))))))))
       ·(exfalso;have h0:=h17;revert h0;simp;try omega)
       ·(try simp only [be]at h17)
        refine aj (az bl J J (aP 6 t3 J J J J J (ar J J aY J (ai J J (ac (ae J (fun h18=> ?_) (fun h18=> ?_)))))))
        ·(exfalso;have h0:=h18;revert h0;simp;try omega)
        ·(try simp only [be]at h18)
         refine aj (az bl J J (aP 6 t3 J J J J J (ar J J aY J (ai J J (ac (ae J (fun h19=> ?_) (fun h19=> ?_)))))))
         ·(try simp only [be]at h19)
          refine ap (az fN J J (aP 6 t3 J J J J J (az dk J J (aP 6 cB J J J J J (ar J J (gj (by decide) (by decide) J) J (az fS J J (aO (cO (j:=i.d.toNat) underlying75 cB J J (by omega) (by omega)) J (aK (k:=7) (us:= [.int .u32 (wU (i.imm*1024))]) (c':=sR pc (rs r i.d (wU (i.imm*1024))) st) cB J J J J J J (pG hx.f.hv.d) (lG hx.f.hv.d) (ac (aM () O J J J))))))))))
         ·(exfalso;have h0:=h19;revert h0;simp;try omega)
 ·exact fU e s pc (rs r i.d (wU (i.imm*1024))) (rp r i.d (wU (i.imm*1024))) st (pc+4) hst (uM hx.h0)
theorem Cg(e:Me)(s:Mm)(n:Nat)(hs:MO s n)(i:Qi)(pc:Int)(r:Int→Int)(st:Int)(hx:Stx s i pc r st)(ho:i.op=48):
  Spec prog 115 [.agg (sR pc r st).toArray,.pointer (some ⟨e.m,0,none⟩)] [bj e.m 157 (mR e),own 5 1 bZ (sv e.vd) (s).d,own 5 1 bZ (sv e.vi) (s).i,own 3 1 eI (sv e.vr) (s).r] [] (X:=Unit) (fun _=>True) (fun _=> .agg (oC pc r st 4 i.imm).toArray) (fun _=> [bj e.m 157 (mR e),own 5 1 bZ (sv e.vd) (s).d,own 5 1 bZ (sv e.vi) (s).i,own 3 1 eI (sv e.vr) (s).r]) (fun _=> []):=by
 have hdd:=hx.f.hv.d;have haa:=hx.f.hv.a;have hbb:=hx.f.hv.b;have him:=hx.f.imm;have hpp:=hx.f.p;have hp2:=hx.p;have hst:=hx.hst;have hk:iQ i.op=0:=by rw [ho];rfl
 refine fG e s n hs i pc r st hx fun w0 M H b2 b4 b6 b7=> ?_
 refine br (X:=Unit) (fun _=>False) (fun _=> []) (fun _=> []) (fun _=> []) ?_ (fun _ hF=> ?_)
 ·refine aB (aj (az bl J J (aP 6 t3 J J J J J (ar J J aY J (ad J J (aA [] J J O (fun hg1=>am J) J (aA [(67,_)] J J ⟨J,O⟩ (fun hg2=>aT J J aY) J (aO (aQ J J J (by first|exact av|exact aC|rfl)) J (ai J J (ac (ae J (fun h3=> ?_) (fun h3=> ?_))))))))))))
  ·(exfalso;have h0:=h3;revert h0;simp;try omega)
  ·(try simp only [be]at h3)
   refine aj (ad J J (ar J J df J (ai J J (ac (ae J (fun h4=> ?_) (fun h4=> ?_))))))
   ·(exfalso;have h0:=h4;revert h0;simp;exact hk)
   ·(try simp only [be]at h4)
    refine aj (az bl J J (aP 6 t3 J J J J J (ar J J aY J (ad J J (aA [] J J O (fun hg5=>ag bl J) J (aA [(88,_)] J J ⟨J,O⟩ (fun hg6=>ah t3 J J (ay (k:=6) J J)) J (aA [(88,_),(89,_)] J J ⟨J,J,O⟩ (fun hg7=>aT J J aY) J (aO (aQ J J J (by first|exact av|exact aC|rfl)) J (ai J J (ac (ae J (fun h8=> ?_) (fun h8=> ?_))))))))))))
    ·(exfalso;have h0:=h8;revert h0;simp;try omega)
    ·(try simp only [be]at h8)
     refine aj (az bl J J (aP 6 t3 J J J J J (ar J J aY J (ad J J (aA [] J J O (fun hg9=>ag bl J) J (aA [(120,_)] J J ⟨J,O⟩ (fun hg10=>ah t3 J J (ay (k:=6) J J)) J (aA [(120,_),(121,_)] J J ⟨J,J,O⟩ (fun hg11=>aT J J aY) J (aO (aQ J J J (by first|exact av|exact aC|rfl)) J (ai J J (ac (ae J (fun h12=> ?_) (fun h12=> ?_))))))))))))
     ·(exfalso;have h0:=h12;revert h0;simp;try omega)
     ·(try simp only [be]at h12)
      refine aj (az bl J J (aP 6 t3 J J J J J (ar J J aY J (ai J J (ac (ae J (fun h13=> ?_) (fun h13=> ?_)))))))
      ·(exfalso;have h0:=h13;revert h0;simp;try omega)
      ·(try simp only [be]at h13)
       refine aj (az bl J J (aP 6 t3 J J J J J (ar J J fe J (ad J J (aA [] J J O (fun hg14=>ag bl J) J (aA [(162,_)] J J ⟨J,O⟩ (fun hg15=>ah t3 J J (ay (k:=6) J J)) J (aA [(162,_),(163,_)] J J ⟨J,J,O⟩ (fun hg16=>aT J J jl) J (aO (aQ J J J (by first|exact av|exact aC|rfl)) J (ai J J (ac (ae J (fun h17=> ?_) (fun h17=> ?_))))))))))))
       ·(exfalso;have h0:=h17;revert h0;simp;try omega)
       ·(try simp only [be]at h17)
        refine aj (az bl J J (aP 6 t3 J J J J J (ar J J aY J (ai J J (ac (ae J (fun h18=> ?_) (fun h18=> ?_)))))))
        ·(exfalso;have h0:=h18;revert h0;simp;try omega)
        ·(try simp only [be]at h18)
         refine aj (az bl J J (aP 6 t3 J J J J J (ar J J aY J (ai J J (ac (ae J (fun h19=> ?_) (fun h19=> ?_)))))))
         ·(exfalso;have h0:=h19;revert h0;simp;try omega)
         ·(try simp only [be]at h19)
          refine aj (az bl J J (aP 6 t3 J J J J J (ar J J aY J (ai J J (ac (ae J (fun h20=> ?_) (fun h20=> ?_)))))))
          ·(try simp only [be]at h20)
           refine aj (aO (aL wA J J J (aX (k:=2) J)) J (az dk J J (aP 6 cB J J J J J (ak (xs:= [.tmp 208,.const (.int .i64 4),.tmp 210]) (mg pc r st 4 i.imm) IC [] [] [] (fun _ _=>aq (k:=4) lf J J J J J J (ac (au (aH () O J (bE (bh lf J J J (aX (k:=4) J))) J [20,21,22,23] [] J J J))))))))
          ·(exfalso;have h0:=h20;revert h0;simp;try omega)
 ·exact hF.elim
theorem Cl(e:Me)(s:Mm)(n:Nat)(hs:MO s n)(i:Qi)(pc:Int)(r:Int→Int)(st:Int)(hx:Stx s i pc r st)(ho:i.op=49):
  Spec prog 115 [.agg (sR pc r st).toArray,.pointer (some ⟨e.m,0,none⟩)] [bj e.m 157 (mR e),own 5 1 bZ (sv e.vd) (s).d,own 5 1 bZ (sv e.vi) (s).i,own 3 1 eI (sv e.vr) (s).r] [] (X:=Unit) (fun _=>True) (fun _=> .agg (oC pc r st 3 0).toArray) (fun _=> [bj e.m 157 (mR e),own 5 1 bZ (sv e.vd) (s).d,own 5 1 bZ (sv e.vi) (s).i,own 3 1 eI (sv e.vr) (s).r]) (fun _=> []):=by
 have hdd:=hx.f.hv.d;have haa:=hx.f.hv.a;have hbb:=hx.f.hv.b;have him:=hx.f.imm;have hpp:=hx.f.p;have hp2:=hx.p;have hst:=hx.hst;have hk:iQ i.op=0:=by rw [ho];rfl
 refine fG e s n hs i pc r st hx fun w0 M H b2 b4 b6 b7=> ?_
 refine br (X:=Unit) (fun _=>False) (fun _=> []) (fun _=> []) (fun _=> []) ?_ (fun _ hF=> ?_)
 ·refine aB (aj (az bl J J (aP 6 t3 J J J J J (ar J J aY J (ad J J (aA [] J J O (fun hg1=>am J) J (aA [(67,_)] J J ⟨J,O⟩ (fun hg2=>aT J J aY) J (aO (aQ J J J (by first|exact av|exact aC|rfl)) J (ai J J (ac (ae J (fun h3=> ?_) (fun h3=> ?_))))))))))))
  ·(exfalso;have h0:=h3;revert h0;simp;try omega)
  ·(try simp only [be]at h3)
   refine aj (ad J J (ar J J df J (ai J J (ac (ae J (fun h4=> ?_) (fun h4=> ?_))))))
   ·(exfalso;have h0:=h4;revert h0;simp;exact hk)
   ·(try simp only [be]at h4)
    refine aj (az bl J J (aP 6 t3 J J J J J (ar J J aY J (ad J J (aA [] J J O (fun hg5=>ag bl J) J (aA [(88,_)] J J ⟨J,O⟩ (fun hg6=>ah t3 J J (ay (k:=6) J J)) J (aA [(88,_),(89,_)] J J ⟨J,J,O⟩ (fun hg7=>aT J J aY) J (aO (aQ J J J (by first|exact av|exact aC|rfl)) J (ai J J (ac (ae J (fun h8=> ?_) (fun h8=> ?_))))))))))))
    ·(exfalso;have h0:=h8;revert h0;simp;try omega)
    ·(try simp only [be]at h8)
     refine aj (az bl J J (aP 6 t3 J J J J J (ar J J aY J (ad J J (aA [] J J O (fun hg9=>ag bl J) J (aA [(120,_)] J J ⟨J,O⟩ (fun hg10=>ah t3 J J (ay (k:=6) J J)) J (aA [(120,_),(121,_)] J J ⟨J,J,O⟩ (fun hg11=>aT J J aY) J (aO (aQ J J J (by first|exact av|exact aC|rfl)) J (ai J J (ac (ae J (fun h12=> ?_) (fun h12=> ?_))))))))))))
     ·(exfalso;have h0:=h12;revert h0;simp;try omega)
     ·(try simp only [be]at h12)
      refine aj (az bl J J (aP 6 t3 J J J J J (ar J J aY J (ai J J (ac (ae J (fun h13=> ?_) (fun h13=> ?_)))))))
      ·(exfalso;have h0:=h13;revert h0;simp;try omega)
      ·(try simp only [be]at h13)
       refine aj (az bl J J (aP 6 t3 J J J J J (ar J J fe J (ad J J (aA [] J J O (fun hg14=>ag bl J) J (aA [(162,_)] J J ⟨J,O⟩ (fun hg15=>ah t3 J J (ay (k:=6) J J)) J (aA [(162,_),(163,_)] J J ⟨J,J,O⟩ (fun hg16=>aT J J jl) J (aO (aQ J J J (by first|exact av|exact aC|rfl)) J (ai J J (ac (ae J (fun h17=> ?_) (fun h17=> ?_))))))))))))
       ·(exfalso;have h0:=h17;revert h0;simp;try omega)
       ·(try simp only [be]at h17)
        refine aj (az bl J J (aP 6 t3 J J J J J (ar J J aY J (ai J J (ac (ae J (fun h18=> ?_) (fun h18=> ?_)))))))
        ·(exfalso;have h0:=h18;revert h0;simp;try omega)
        ·(try simp only [be]at h18)
         refine aj (az bl J J (aP 6 t3 J J J J J (ar J J aY J (ai J J (ac (ae J (fun h19=> ?_) (fun h19=> ?_)))))))
         ·(exfalso;have h0:=h19;revert h0;simp;try omega)
         ·(try simp only [be]at h19)
          refine aj (az bl J J (aP 6 t3 J J J J J (ar J J aY J (ai J J (ac (ae J (fun h20=> ?_) (fun h20=> ?_)))))))
          ·(exfalso;have h0:=h20;revert h0;simp;try omega)
          ·(try simp only [be]at h20)
           refine aj (az bl J J (aP 6 t3 J J J J J (ar J J aY J (ai J J (ac (ae J (fun h21=> ?_) (fun h21=> ?_)))))))
           ·(try simp only [be]at h21)
            refine aj (aO (aL wA J J J (aX (k:=2) J)) J (ak (xs:= [.tmp 216,.const (.int .i64 3),.const (.int .u32 0)]) (mg pc r st 3 0) IC [] [] [] (fun _ _=>aq (k:=4) lf J J J J J J (ac (au (aH () O J (bE (bh lf J J J (aX (k:=4) J))) J [20,21,22,23] [] J J J))))))
           ·(exfalso;have h0:=h21;revert h0;simp;try omega)
 ·exact hF.elim
theorem nR(n:Int):wU n=n%4294967296:=by
 unfold wU;simp [IntKind.wrap,IntKind.signed,IntKind.bits]
theorem OC{a b:Int}(ha:oW a)(hb:oW b):bits .xor .u32 a b=((a.toNat^^^b.toNat:Nat):Int):=by
 have h1:bits .xor .u32 a b=IntKind.u32.wrap (((BitVec.ofInt 32 a^^^BitVec.ofInt 32 b).toNat:Nat):Int):=J;have h2:∀x:Int,oW x→(BitVec.ofInt 32 x).toNat=x.toNat:=fun x hx=>by
  rw [BitVec.toNat_ofInt,Int.emod_eq_of_lt hx.1 (by have:=hx.2;omega)]
 have h3:=(BitVec.ofInt 32 a^^^BitVec.ofInt 32 b).isLt;rw [h1,bK (by omega) (by omega),BitVec.toNat_xor,h2 a ha,h2 b hb]
theorem E4{a b:Int}(ha:oW a)(hb:oW b):0<bits .xor .u32 a b↔¬a=b:=by
 rw [OC ha hb];have h:a.toNat^^^b.toNat=0→a.toNat=b.toNat:=fun h=>by
  have h2:(a.toNat^^^b.toNat)^^^b.toNat=a.toNat:=by rw [Nat.xor_assoc,Nat.xor_self,Nat.xor_zero]
  rw [h,Nat.zero_xor]at h2;exact h2.symm
 have h1:=ha.1;have h2:=hb.1;constructor
 ·intro hx e;subst e;rw [Nat.xor_self]at hx;omega
 ·intro hn;have:¬(a.toNat^^^b.toNat=0):=fun e=>hn (by have:=h e;omega)
  omega
theorem E5{a:Int}(ha:oW a):bits .xor .u32 a 4294967295=4294967295-a:=by
 have h1:bits .xor .u32 a 4294967295=IntKind.u32.wrap (((BitVec.ofInt 32 a^^^BitVec.ofInt 32 4294967295).toNat:Nat):Int):=J;have h2:BitVec.ofInt 32 4294967295=BitVec.allOnes 32:=by decide
 rw [h1,h2,BitVec.xor_allOnes,BitVec.toNat_not,BitVec.toNat_ofInt];have h4:=ha.1;have h5:=ha.2;have h3:(a%((2^32:Nat):Int)).toNat=a.toNat:=by
  rw [Int.emod_eq_of_lt ha.1 (by omega)]
 rw [h3,bK (by omega) (by omega)];omega
theorem Pe{x y:Int}(hx:oW x)(hx2:x%1024=0)(hy:0≤y∧y<1024):bits .or .u32 x y=x+y:=by
 have h1:bits .or .u32 x y=IntKind.u32.wrap (((BitVec.ofInt 32 x ||| BitVec.ofInt 32 y).toNat:Nat):Int):=J;have h2:∀x:Int,oW x→(BitVec.ofInt 32 x).toNat=x.toNat:=fun x hx=>by
  rw [BitVec.toNat_ofInt,Int.emod_eq_of_lt hx.1 (by have:=hx.2;omega)]
 have h3:=(BitVec.ofInt 32 x ||| BitVec.ofInt 32 y).isLt;have h4:=hx.1;have h5:=hx.2;rw [h1,bK (by omega) (by omega),BitVec.toNat_or,h2 x hx,h2 y ⟨hy.1,by omega⟩];have e:x.toNat=2^10*(x.toNat/2^10):=by omega
 rw [e,←Nat.two_pow_add_eq_or_of_lt (show y.toNat<2^10 by omega)];omega
theorem Ln(b:Bool):bits .xor .u32 (tr b) 1=tr (!b):=by cases b<;>rfl
structure Kr(ks:List Int)(c c':Qs):Prop where
 m:c'.m=c.m
 i:c'.inp=c.inp
 o:c'.out=c.out
 r:∀k,k∉ks→c'.r k=c.r k
theorem dl{r:Int→Int}{d v:Int}(h:d≠0):rp r d v d=v:=if_pos ⟨rfl,h⟩
theorem cj{r:Int→Int}{d v k:Int}(h:k≠d):rp r d v k=r k:=if_neg fun e=>h e.1
theorem dC{r:Int→Int}{d v:Int}{ks:List Int}(h:d∈ks):∀k,k∉ks→rp r d v k=r k:=fun k hk=>cj fun e=>hk (e▸h)
section
variable{code:List Qi}
theorem iy{n:Int}{c:Qs}{P:Qs→Prop}{op d a b:Int}{p:Nat}{v:Int}(hpc:c.pc=p)(h:code[p]?=some (q3 op d a b))(h2:ww op (c.r a) (c.r b)=some v)
  (h3:∀c',c'.pc=p+1→c'.r=rp c.r d v→c'.m=c.m→c'.inp=c.inp→c'.out=c.out→Go code (n-1) c' P) (ho:op<16:=by decide):Go code n c P:=
 DC (i:=q3 op d a b) (hpc▸h) (by rw [if_pos (show(q3 op d a b).op<16 from ho)];exact h2) (h3 _ (by rw [←hpc]) rfl rfl rfl rfl)
theorem iS{n:Int}{c:Qs}{P:Qs→Prop}{op d a x:Int}{p:Nat}{v:Int}(hpc:c.pc=p)(h:code[p]?=some (qi op d a x))(h2:ww op (c.r a) x=some v)
  (h3:∀c',c'.pc=p+1→c'.r=rp c.r d v→c'.m=c.m→c'.inp=c.inp→c'.out=c.out→Go code (n-1) c' P) (ho:¬op<16:=by decide):Go code n c P:=
 DC (i:=qi op d a x) (hpc▸h) (by rw [if_neg (show ¬(qi op d a x).op<16 from ho)];exact h2) (h3 _ (by rw [←hpc]) rfl rfl rfl rfl)
theorem Mk{p:Nat}{c:Qs}{o:ByteArray}{a b:Int}(hb:gI o=true)(hc:cAt code p (AA o))(hl:p<9000)(hpc:c.pc=p)(h0:c.r 0=0)(h2:c.r 2=a)(h1:c.r 1=b)(ha:oW a)(hw:oW b):
  Go code 5 c fun c'=>c'.pc=p+(AA o).length∧c'.r 1=(nn o a b).getD 0∧Kr [1,3] c c':=by
 have one:∀{op x y:Int}{v:Int},cAt code p [q3 op 1 x y]→op<16→ww op (c.r x) (c.r y)=some v→Go code 5 c fun c'=>c'.pc=p+1∧c'.r 1=v∧Kr [1,3] c c':=fun{op x y v} hc ho hv=>
  iy hpc hc.head.1 (v:=v) hv (fun c' e1 e2 e3 e4 e5=>Go.done (by decide) ⟨e1,by rw [e2];exact dl (by decide),e3,e4,e5,by rw [e2];exact dC (by decide)⟩) ho
 have two:∀{op x y:Int}{v:Bool},cAt code p [q3 op 1 x y,qi 19 1 1 1]→op<16→ww op (c.r x) (c.r y)=some (tr v)→Go code 5 c fun c'=>c'.pc=p+2∧c'.r 1=tr (!v)∧Kr [1,3] c c':=fun{op x y v} hc ho hv=>
  iy hpc hc.head.1 (v:=tr v) hv (fun c' e1 e2 e3 e4 e5=>
   iS e1 hc.head.2.head.1 (v:=tr (!v)) (by rw [←Ln v,e2];rfl) fun c2 f1 f2 f3 f4 f5=>Go.done (by decide) ⟨by rw [f1],by rw [f2];exact dl (by decide),f3.trans e3,f4.trans e4,f5.trans e5,fun k hk=>by rw [f2,dC (by decide) k hk,e2];exact dC (by decide) k hk⟩) ho
 have ne:∀{l:List Qi},cAt code p (q3 5 1 2 1::q3 11 1 0 1::l)→∀{P:Qs→Prop},(∀c',c'.pc=p+2→c'.r 1=tr (!decide (a=b))→Kr [1,3] c c'→Go code 3 c' P)→Go code 5 c P:=fun{l} hc{P} hP=>
  iy hpc hc.head.1 (v:=bits .xor .u32 a b) (by rw [←h2,←h1];rfl) fun c' e1 e2 e3 e4 e5=>
   iy e1 hc.head.2.head.1 (v:=tr (!decide (a=b))) (by
    show some (tr (decide (c'.r 0<c'.r 1)))=_;rw [e2,cj (by decide),h0,dl (by decide)];have:=E4 ha hw;by_cases h:a=b
    ·rw [decide_eq_false (fun x=>this.1 x h),decide_eq_true h];rfl
    ·rw [decide_eq_true (this.2 h),decide_eq_false h];rfl) fun c2 f1 f2 f3 f4 f5=>
   hP c2 f1 (by rw [f2];exact dl (by decide)) ⟨f3.trans e3,f4.trans e4,f5.trans e5,fun k hk=>by rw [f2,dC (by decide) k hk,e2];exact dC (by decide) k hk⟩
 unfold gI at hb;obtain⟨q,hq⟩:=Option.isSome_iff_exists.1 hb;have hm:=List.mem_of_find?_eq_some hq;have he:=List.find?_some hq;have he:q.1=o:=by simpa using he
 subst he;simp only [lvL,List.mem_cons,List.not_mem_nil,or_false]at hm;rcases hm with rfl|rfl|rfl|rfl|rfl|rfl|rfl|rfl|rfl|rfl|rfl|rfl|rfl|rfl|rfl|rfl
 · -- remainder
  have hc':cAt code p [q3 1 3 1 0,qi 32 1 0 3,q3 10 3 2 1,q3 9 3 3 1,q3 2 1 2 3]:=hc;show Go code 5 c fun c'=>c'.pc=p+5∧c'.r 1=(if b=0 then a else a%b)∧Kr [1,3] c c'
  refine iy hpc hc'.head.1 (v:=b) (by
   show some (wU (c.r 1+c.r 0))=_;rw [h1,h0,Int.add_zero,fE hw]) fun c1 e1 e2 e3 e4 e5=> ?_
  refine tM (d:=1) (a:=0) (x:=3) (by rw [e1];exact hc'.head.2.head.1) ?_;rw [e2,cj (by decide),cj (by decide),h1,h0,e1];by_cases hz:b=0
  ·rw [if_pos hz,if_pos hz,lx (q:=p+4) (by rw [show((p+4:Nat):Int)-((p+1:Nat):Int)=3 by omega];rfl) (by omega) (by omega)];refine iy (p:=p+4) J hc'.head.2.head.2.head.2.head.2.head.1 (v:=a) (by
    show some (wU (rp c.r 3 b 2-rp c.r 3 b 3))=_;rw [cj (by decide),dl (by decide),h2,hz,Int.sub_zero,fE ha]) fun c2 f1 f2 f3 f4 f5=> ?_
   refine Go.done (by decide) ⟨f1,by rw [f2];exact dl (by decide),f3.trans e3,f4.trans e4,f5.trans e5,fun k hk=> ?_⟩;rw [f2,dC (by decide) k hk];exact dC (by decide) k hk
  ·rw [if_neg hz,if_neg hz];have hq1:a/b*b+a%b=a:=Int.ediv_mul_add_emod a b;have hq2:=Int.emod_nonneg a hz;have hq3:=Int.emod_lt_of_pos a (b:=b) (by have:=hw.1;omega);have hq4:0≤a/b:=Int.ediv_nonneg ha.1 hw.1;have hq5:0≤a/b*b:=Int.mul_nonneg hq4 hw.1;have ha2:=ha.2;have hw2:=hw.2;refine iy (p:=p+2) J hc'.head.2.head.2.head.1 (v:=a/b) (by
    show(if rp c.r 3 b 1=0 then none else some (rp c.r 3 b 2/rp c.r 3 b 1))=_;rw [cj (by decide),cj (by decide),h1,h2,if_neg hz]) fun c2 f1 f2 f3 f4 f5=> ?_
   refine iy f1 hc'.head.2.head.2.head.2.head.1 (v:=a/b*b) (by
    show some (wU (c2.r 3*c2.r 1))=_;rw [f2];show some (wU (rp (rp c.r 3 b) 3 (a/b) 3*rp (rp c.r 3 b) 3 (a/b) 1))=_;rw [dl (by decide),cj (by decide),cj (by decide),h1,fE ⟨hq5,by omega⟩]) fun c3 g1 g2 g3 g4 g5=> ?_
   refine iy g1 hc'.head.2.head.2.head.2.head.2.head.1 (v:=a%b) (by
    show some (wU (c3.r 2-c3.r 3))=_;rw [g2,f2];show some (wU (rp (rp (rp c.r 3 b) 3 (a/b)) 3 (a/b*b) 2-rp (rp (rp c.r 3 b) 3 (a/b)) 3 (a/b*b) 3))=_;rw [dl (by decide),cj (by decide),cj (by decide),cj (by decide),h2,fE (by omega)];exact congrArg some (by omega)) fun c4 k1 k2 k3 k4 k5=> ?_
   refine Go.done (by decide) ⟨k1,by rw [k2];exact dl (by decide),((k3.trans g3).trans f3).trans e3,((k4.trans g4).trans f4).trans e4,((k5.trans g5).trans f5).trans e5,fun k hk=> ?_⟩;rw [k2,dC (by decide) k hk,g2,dC (by decide) k hk,f2,dC (by decide) k hk];exact dC (by decide) k hk
 · -- quotient
  have hc':cAt code p [qi 32 1 0 2,q3 10 1 2 1]:=hc;show Go code 5 c fun c'=>c'.pc=p+2∧c'.r 1=(if b=0 then 0 else a/b)∧Kr [1,3] c c'
  refine tM (d:=1) (a:=0) (x:=2) (by rw [hpc];exact hc'.head.1) ?_;rw [h1,h0,hpc];by_cases hz:b=0
  ·rw [if_pos hz,if_pos hz,lx (q:=p+2) (by rw [show((p+2:Nat):Int)-(p:Int)=2 by omega];rfl) (by omega) (by omega)];exact Go.done (by decide) ⟨J,h1.trans hz,J,J,J,fun _ _=>J⟩
  ·rw [if_neg hz,if_neg hz];refine iy (p:=p+1) J hc'.head.2.head.1 (v:=a/b) (by
    show(if c.r 1=0 then none else some (c.r 2/c.r 1))=_;rw [h1,h2,if_neg hz]) fun c2 f1 f2 f3 f4 f5=> ?_
   exact Go.done (by decide) ⟨f1,by rw [f2];exact dl (by decide),f3,f4,f5,by rw [f2];exact dC (by decide)⟩
 ·exact one (op:=9) hc (by decide) (by rw [h2,h1];rfl)
 ·exact one (op:=2) hc (by decide) (by rw [h2,h1];rfl)
 ·exact one (op:=1) hc (by decide) (by rw [h2,h1];rfl)
 ·exact one (op:=7) hc (by decide) (by rw [h2,h1];rfl)
 ·exact one (op:=6) hc (by decide) (by rw [h2,h1];rfl)
 · -- at least
  have:=two (op:=11) (x:=2) (y:=1) (v:=decide (a<b)) hc (by decide) (by rw [h2,h1];rfl);show Go code 5 c fun c'=>c'.pc=p+2∧c'.r 1=tr (decide (a≥b))∧Kr [1,3] c c'
  rw [show decide (a≥b)= !decide (a<b) by rw [←decide_not];exact decide_eq_decide.2 (by omega)];exact this
 ·exact one (op:=11) (v:=tr (decide (b<a))) hc (by decide) (by rw [h2,h1];rfl)
 · -- at most
  have:=two (op:=11) (x:=1) (y:=2) (v:=decide (b<a)) hc (by decide) (by rw [h2,h1];rfl);show Go code 5 c fun c'=>c'.pc=p+2∧c'.r 1=tr (decide (a≤b))∧Kr [1,3] c c'
  rw [show decide (a≤b)= !decide (b<a) by rw [←decide_not];exact decide_eq_decide.2 (by omega)];exact this
 ·exact one (op:=11) hc (by decide) (by rw [h2,h1];rfl)
 ·exact ne (l:= []) hc fun c' e1 e2 e3=>Go.done (by decide) ⟨e1,e2,e3⟩
 · -- equal
  have hc':cAt code p [q3 5 1 2 1,q3 11 1 0 1,qi 19 1 1 1]:=hc;refine ne hc' fun c' e1 e2 e3=>iS e1 hc'.head.2.head.2.head.1 (v:=tr (decide (a=b))) (by
   show some (bits .xor .u32 (c'.r 1) 1)=_;rw [e2,Ln,Bool.not_not]) fun c2 f1 f2 f3 f4 f5=> ?_
  exact Go.done (by decide) ⟨f1,by rw [f2];exact dl (by decide),f3.trans e3.m,f4.trans e3.i,f5.trans e3.o,fun k hk=>by rw [f2,dC (by decide) k hk];exact e3.r k hk⟩
 ·exact one (op:=3) hc (by decide) (by rw [h2,h1];rfl)
 ·exact one (op:=5) hc (by decide) (by rw [h2,h1];rfl)
 ·exact one (op:=4) hc (by decide) (by rw [h2,h1];rfl)
theorem LE{p:Nat}{c:Qs}{o:ByteArray}{a:Int}(hb:cg o AG=true)(hc:cAt code p (BI o))(hpc:c.pc=p)(h0:c.r 0=0)(h1:c.r 1=a)(ha:oW a):
  Go code 2 c fun c'=>c'.pc=p+(BI o).length∧c'.r 1=(BJ o a).getD 0∧Kr [1,2] c c':=by
 have two:∀{op x v:Int},cAt code p [qi 16 2 0 x,q3 op 1 1 2]→oW x→op<16→ww op a x=some v→Go code 2 c fun c'=>c'.pc=p+2∧c'.r 1=v∧Kr [1,2] c c':=fun{op x v} hc hx ho hv=>
  iS hpc hc.head.1 (v:=x) (by
   show some (wU (c.r 0+x))=_;rw [h0,Int.zero_add,fE hx]) fun c' e1 e2 e3 e4 e5=>
   iy e1 hc.head.2.head.1 (v:=v) (by
    rw [e2];show ww op (rp c.r 2 x 1) (rp c.r 2 x 2)=_;rw [cj (by decide),dl (by decide),h1];exact hv) (fun c2 f1 f2 f3 f4 f5=>Go.done (by decide) ⟨f1,by rw [f2];exact dl (by decide),f3.trans e3,f4.trans e4,f5.trans e5,fun k hk=>by rw [f2,dC (by decide) k hk,e2];exact dC (by decide) k hk⟩) ho
 unfold cg at hb;obtain⟨q,hm,he⟩:=List.any_eq_true.1 hb;have he:o=q:=by simpa using he
 subst he;simp only [AG,List.mem_cons,List.not_mem_nil,or_false]at hm;rcases hm with rfl|rfl|rfl
 ·have hc':cAt code p [q3 2 1 0 1]:=hc;refine iy hpc hc'.head.1 (v:=wU (-a)) (by
   show some (wU (c.r 0-c.r 1))=_;rw [h0,h1,Int.zero_sub]) fun c' e1 e2 e3 e4 e5=>Go.done (by decide) ⟨e1,by rw [e2];exact dl (by decide),e3,e4,e5,by rw [e2];exact dC (by decide)⟩
 ·exact two (op:=5) hc (by decide) (by decide) (show some (bits .xor .u32 a 4294967295)=some (4294967295-a) by rw [E5 ha])
 ·refine two (op:=11) hc (by decide) (by decide) ?_;show some (tr (decide (a<1)))=some (tr (decide (a=0)));have:=ha.1;rw [show decide (a<1)=decide (a=0)from decide_eq_decide.2 (by omega)]
theorem JN{p:Nat}{c:Qs}{n:Int}(hc:cAt code p (oi n))(hpc:c.pc=p)(h0:c.r 0=0)(ha:oW n):
  Go code 2 c fun c'=>c'.pc=p+(oi n).length∧c'.r 1=n∧Kr [1] c c':=by
 unfold oi at hc ⊢;by_cases h:gV n=true
 ·rw [if_pos h]at hc ⊢;exact iS hpc hc.head.1 (v:=n) (by
   show some (wU (c.r 0+n))=_;rw [h0,Int.zero_add,fE ha]) fun c' e1 e2 e3 e4 e5=>Go.done (by decide) ⟨e1,by rw [e2];exact dl (by decide),e3,e4,e5,by rw [e2];exact dC (by decide)⟩
 ·rw [if_neg h]at hc ⊢;have h1:=ha.1;have h2:=ha.2;refine J6 (d:=1) (a:=0) (x:=n/1024) (by rw [hpc];exact hc.head.1) ?_;rw [fE (by omega)];refine iS (p:=p+1) (by rw [←hpc]) hc.head.2.head.1 (v:=n) (by
   show some (bits .or .u32 (rp c.r 1 (n/1024*1024) 1) (n%1024))=_;rw [dl (by decide),Pe ⟨by omega,by omega⟩ (by omega) (by omega)];exact congrArg some (by omega)) fun c' e1 e2 e3 e4 e5=>Go.done (by decide) ⟨e1,by rw [e2];exact dl (by decide),e3,e4,e5,fun k hk=>by
    rw [e2,dC (by decide) k hk];exact dC (by decide) k hk⟩
end
end Go.Proofs.YtedmdgbmdplifaaGreat
