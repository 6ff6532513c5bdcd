/-
  A part of the proof. Conditions are with the theorems.
-/
import Derived.Laws.BitsAllLaws
import Derived.Test.YtedmdgbmdplifaaGreatXLa
import Derived.Test.YtedmdgbmdplifaaGreatXLb
set_option maxHeartbeats 32000000
set_option maxRecDepth 100000
set_option linter.unusedSimpArgs false
set_option linter.unusedVariables false
namespace Go.Proofs.YtedmdgbmdplifaaGreat
open Go.RowKit Tryz
theorem zi:∀(ns a b:List Ba),tP ns (a++b)=fst (tP ns a) (tP (ns++a) b)
 | ns,[],b=>by simp [tP,fst]
 | ns,x::r,b=>by
  rw [List.cons_append,tP,zi (ns++ [x]) r b,tP,fz,List.append_assoc];rfl
theorem C3{l:List Ba}{i:Nat}{x:Ba}(h:l[i]?=some x):tP [] (l.take (i+1))=fst (tP [] (l.take i)) (if cU x (l.take i)=true then 22 else 0):=by
 rw [cm h,zi];show fst _ (fst (if cU x ([]++l.take i)=true then 22 else 0) 0)=_;rw [dJ,List.nil_append]
def vH(f:Tf):Prop:=f.ps.length>4∨f.ps.length+dF f.body>12∨ef f.body>400∨de 1 f.body=true
instance(f:Tf):Decidable (vH f):=by unfold vH;exact inferInstance
theorem tF(fs:List Tf)(f:Tf):lF fs f=fst (if vH f then 2 else 0) (fst (tP [] f.ps) (dA fs f.ps f.body).2):=rfl
theorem L6{f:Tf}{er:Int}{dp:Bool}(hdp:dp=true→er≠0)(h:(decide ((f.ps.length:Int)>4) || decide ((f.ps.length:Int)+(dF f.body:Int)>12) || decide (0+(ef f.body:Int)>400) || (dp || de 1 f.body))=true):fst er 2=fst er (if vH f then 2 else 0):=by
 by_cases hb:vH f
 ·rw [ak hb]
 ·rw [ac hb,dJ];unfold vH at hb;have hd:dp=true:=by
   cases hd:dp with
   | true=>rfl
   | false=>
    exfalso;apply hb;rw [hd,Bool.false_or]at h;simp only [Bool.or_eq_true,decide_eq_true_eq]at h;rcases h with((h|h)|h)|h
    ·exact .inl (by omega)
    ·exact .inr (.inl (by omega))
    ·exact .inr (.inr (.inl (by omega)))
    ·exact .inr (.inr (.inr h))
  exact ac (hdp hd)
theorem L7{f:Tf}{er:Int}{dp:Bool}(h:(decide ((f.ps.length:Int)>4) || decide ((f.ps.length:Int)+(dF f.body:Int)>12) || decide (0+(ef f.body:Int)>400) || (dp || de 1 f.body))=false):er=fst er (if vH f then 2 else 0):=by
 simp only [Bool.or_eq_false_iff,decide_eq_false_iff_not]at h;have hb:¬vH f:=by
  unfold vH;rintro (h1|h1|h1|h1)
  ·omega
  ·omega
  ·omega
  ·rw [h.2.2]at h1;cases h1
 rw [ac hb,dJ]
theorem C2{fs:List Tf}{f:Tf}{er:Int}{dp:Bool}(hdp:dp=true→er≠0)(h:(dp || de 1 f.body)=true):fst er (lF fs f)≠0:=by
 intro h2;obtain⟨h3,h4⟩:=bc.1 h2;rw [tF]at h4;have h5:=(bc.1 h4).1;have hb:¬vH f:=fun hb=>by rw [ak hb]at h5;cases h5
 cases hd:dp with
 | true=>exact hdp hd h3
 | false=>
  rw [hd,Bool.false_or]at h;exact hb (.inr (.inr (.inr h)))
theorem r9(fs:List Tf):∀a b:List Tf,gl fs (a++b)=fst (gl fs a) (gl fs b)
 | [],b=>rfl
 | t::r,b=>by rw [List.cons_append,gl,r9 fs r b,gl,fz]
theorem qw{fs l:List Tf}{i:Nat}{f:Tf}(h:l[i]?=some f):gl fs (l.take (i+1))=fst (gl fs (l.take i)) (lF fs f):=by
 rw [cm h,r9];show fst _ (fst (lF fs f) 0)=_;rw [dJ]
theorem pe{fs:List Tf}:once fs=true↔∀(i:Nat)(f:Tf),fs[i]?=some f→xu fs f.name=(i:Int):=by
 unfold once;rw [List.all_eq_true];constructor
 ·intro h i f hf;obtain⟨hi,hf2⟩:=cA.1 hf;have:=h i (List.mem_range.2 hi);rw [List.getD_eq_getElem?_getD,hf]at this;simpa using this
 ·intro h i hi;have hi:=List.mem_range.1 hi;have h2:=bO hi;have:=h i _ h2;rw [List.getD_eq_getElem?_getD,h2];simpa using this
theorem EG{fs:List Tf}{i:Nat}{f:Tf}(hf:fs[i]?=some f)(h:¬xu fs f.name=(i:Int)):once fs=false:=by
 rw [Bool.eq_false_iff];exact fun h2=>h (pe.1 h2 i f hf)
theorem KT{fs:List Tf}(h:rP fs=false):jx fs=1:=ak h
theorem KS{fs:List Tf}(h:rP fs=true)(h2:fs.length>16):jx fs=2:=by
 unfold jx;rw [ac (by rw [h];simp),ak h2]
theorem IC{fs:List Tf}(h:rP fs=true)(h2:¬fs.length>16)(h3:once fs=false):jx fs=22:=by
 unfold jx;rw [ac (by rw [h];simp),ac h2,ak h3]
theorem ID{fs:List Tf}(h:rP fs=true)(h2:¬fs.length>16)(h3:once fs=true)(h4:cK fs d9=none):jx fs=21:=by
 unfold jx;rw [ac (by rw [h];simp),ac h2,ac (by rw [h3];simp),h4]
theorem IB{fs:List Tf}{f:Tf}(h:rP fs=true)(h2:¬fs.length>16)(h3:once fs=true)(h4:cK fs d9=some f)(h5:f.ps.length>0):jx fs=23:=by
 unfold jx;rw [ac (by rw [h];simp),ac h2,ac (by rw [h3];simp),h4];exact ak h5
theorem KU{fs:List Tf}{f:Tf}(h:rP fs=true)(h2:¬fs.length>16)(h3:once fs=true)(h4:cK fs d9=some f)(h5:¬f.ps.length>0):jx fs=gl fs fs:=by
 unfold jx;rw [ac (by rw [h];simp),ac h2,ac (by rw [h3];simp),h4];exact ac h5
theorem xM(c:Nat)(vp vn:SV)(nd va:Int)(dp:Bool)(er:Int)(ns:List Ba)(fs:List Tf)(hfl:fs.length≤1000000)(f:Tf)(hg:GF f)(hdp:dp=true→er≠0):
  Spec prog 83 [Pt c,Ja f] [aO c 165 (cR vp (vn) (nd) (va) (dp) (er)),own 9 1 eS (sv vn) (ns)] [DK f,fD vp fs] (X:=SV) (fun _=>True) (fun _=> .tuple #[]) (fun x=> [aO c 165 (cR vp (x) (0+(ef f.body:Int)) ((f.ps.length:Int)+(dF f.body:Int)) (dp || de 1 f.body) (fst er (lF fs f))),own 9 1 eS (sv x) ((dA fs f.ps f.body).1)]) (fun _=> []):=by
 refine ay func83 J ntmps83 J fun w0 M H=> ?_
 obtain⟨g1,g2,g3,g4,g5,g6⟩:=hg;have hvl:=jR f.body;refine bx 0 2 J tX (bx 0 3 J sk (am (cB J J fun b3=>aa (aT ?_))));refine sK [0,1,2,3,4,5,6,7,8,9,10,11,12,13,14] [0,7,11,1,2,3,4,5,6,8,9,10,12,13,14] [6,7,8,9,10,11,12,13,14,15,16,17] _ J J J (bR (V:= [(0,6,_),(1,7,_),(2,8,_),(3,9,_),(4,10,_),(5,11,_),(6,12,_),(7,13,_)]) [0,1,2,3,4,5,6,7] 8 [8,7,6,0] [9,10] (fun _=> [(9,14,_),(10,15,_)]) J J (aK J J (aK J J (aK J J (ad J (ah fR J) (ad J (ag oO J J (aB (k:=3) J J)) (ad J (aZ underlying46 J (aP (k:=2) J)) (ad J (av J) (ad J (ah mx J) au)))))))) J J J J J J J J J (fun _ _=>J) J (db (k:=0) oO J J J J J J J J) (fun _ _=>bR [9,10,1,2,3,4,5] 11 [11,10,9,8,7,6,1,0] [12,13] (fun _=> [(12,16,_),(13,17,_)]) J J (ad J (av J) (ad J (ah kA J) (aK J J (aK J J (ad J (ah fR J) (ad J (ag oO J J (aB (k:=3) J J)) (ad J (aZ underlying46 J (aP (k:=2) J)) au))))))) J J J J J J J J J (fun _ _=>J) J (db (k:=0) t3 J J J J J J J J) (fun _ _=>bR [12,13,2,3,4,5] 14 [14,13,12,11,10,9,8,7,6,5,4,3,2,1,0] [] (fun _=> []) J J (ad J (av J) (ad J (ah oy J) (aK J J (ad J (ah fR J) (ad J (ag oO J J (aB (k:=3) J J)) (ad J (aZ underlying46 J (aP (k:=2) J)) au)))))) J J J J J J J J J (fun _ _=>J) J (db (k:=0) t3 J J J J J J J J) (fun _ _=>br [] J J au J J J ?_))));refine ez 1 (α:=Ba) (S:=9) (s:=1) (enc:=eS) (am (ab J (aA m_ J (aL 3 n8 J J J J (ae (xs:= [.tmp 18,.tmp 20,.const (I6 1)]) (xG c vp bT er f.vb f.body g4 g5 1 0 (f.ps.length:Int) dp (by omega) (by omega) (by omega) (by omega) (by omega)) Do [0] [(false,3)] [0] (fun _ _=>aa (bv (X:=Unit) (fun _=>True) (fun _=> [(0,Pt c),(3,Pt b3)]) (fun _=> [(0,aO c 165 (cR vp (bT) (0+(ef f.body:Int)) ((f.ps.length:Int)+(dF f.body:Int)) (dp || de 1 f.body) (fst er (if vH f then 2 else 0)))),(1,own 9 1 eS (sv bT) ([])),(3,aO b3 66 (oE f))]) (fun _=> [(0,DK f),(1,fD vp fs),(2,sl 1 eS (sv f.vp) f.ps),(3,ck f.vb f.body)]) ?_ (fun _ _=> ?_))))))))
 ·refine am (aA fR J (aL 3 oO J J J J (aJ (aZ underlying46 J (aP (k:=2) J)) (ap J J ge (ab J (aF [] J J O (fun hg1=>aV J) J (aF [(27,_)] J J ⟨J,O⟩ (fun hg2=>av J) J (aF [(27,_),(28,_)] J J ⟨J,J,O⟩ (fun hg3=>ah oy J) J (aF [(27,_),(28,_),(29,_)] J J ⟨J,J,J,O⟩ (fun hg4=>ag t3 J J (aB (k:=0) J J)) J (aF [(27,_),(28,_),(29,_),(30,_)] J J ⟨J,J,J,J,O⟩ (fun hg5=>aS J J ge) J (aJ (bD J J J) (ab J (aF [] J J O (fun hg6=>aV J) J (aF [(34,_)] J J ⟨J,O⟩ (fun hg7=>av J) J (aF [(34,_),(35,_)] J J ⟨J,J,O⟩ (fun hg8=>ah kA J) J (aF [(34,_),(35,_),(36,_)] J J ⟨J,J,J,O⟩ (fun hg9=>ag t3 J J (aB (k:=0) J J)) J (aF [(34,_),(35,_),(36,_),(37,_)] J J ⟨J,J,J,J,O⟩ (fun hg10=>aS J J ge) J (aJ (bD J J J) ?_))))))))))))))))));refine ab J (aF [] J J O (fun hg11=>aV J) J (aF [(41,_)] J J ⟨J,O⟩ (fun hg12=>av J) J (aF [(41,_),(42,_)] J J ⟨J,J,O⟩ (fun hg13=>ah mu J) J (aF [(41,_),(42,_),(43,_)] J J ⟨J,J,J,O⟩ (fun hg14=>ag t4 J J (aB (k:=0) J J)) J (aJ (bD J J J) (aa (ai J (fun h15=> ?_) (fun h15=> ?_))))))))
  ·have hq:=h15;refine aj (ab J (ae (xs:= [.tmp 46,.const (I6 2)]) (iD c vp bT (0+(ef f.body:Int)) ((f.ps.length:Int)+(dF f.body:Int)) (dp || de 1 f.body) er 2) vD [0] [] [0] (fun _ _=>aa (aI () O J (by rw [←L6 hdp hq];rfl) J))))
  ·have hq:=h15;refine az (aI () O J (by rw [←L7 hq];rfl) J)
 ·refine aR (aA fR J (aL 3 oO J J J J (aJ (aZ underlying46 J (aP (k:=2) J)) (ab J (aa (aC (bC (X:=Nat×SV) (fun x=>x.1≤f.ps.length) (fun x=> [(0,Pt c),(3,Pt b3),(49,sv f.vp),(50,I6 (f.ps.length:Int)),(51,I6 (x.1:Int))]) (fun x=> [(0,aO c 165 (cR vp (x.2) (0+(ef f.body:Int)) ((f.ps.length:Int)+(dF f.body:Int)) (dp || de 1 f.body) (fst (fst er (if vH f then 2 else 0)) (tP [] (f.ps.take x.1))))),(1,own 9 1 eS (sv x.2) (f.ps.take x.1)),(3,aO b3 66 (oE f))]) (fun x=> [(0,DK f),(1,fD vp fs),(2,sl 1 eS (sv f.vp) f.ps),(3,ck f.vb f.body)]) (fun x=>f.ps.length-x.1) (0,bT) (bE _) J (by rw [show fst (fst er (if vH f then 2 else 0)) (tP [] (f.ps.take (0,bT).1))=fst er (if vH f then 2 else 0)from dJ _];rfl) J (fun x n1=> ?_))))))));obtain⟨i,v⟩:=x;dsimp only at n1 ⊢;refine am (ap J J cG (aa (aT (ai J (fun h16=> ?_) (fun h16=> ?_)))))
  ·(try simp only [aX]at h16);have hi:i<f.ps.length:=by omega
   obtain⟨x,hx⟩:∃k,f.ps[i]?=some k:=⟨_,bO hi⟩
   refine az (aT (aC (am (aJ (aQ (j:=i) underlying46 t9 J J (aP (k:=2) J) (by first|rfl|omega) (by first|omega|(simp;done)|(simp;omega))) (aJ (ag t9 J J (ci (aP (k:=2) J) (by intro _;rfl) hx (by rfl))) (ao J (aa (aj (ab J (ab J (ae (xs:= [.tmp 55,.tmp 56]) (qy c vp v (0+(ef f.body:Int)) ((f.ps.length:Int)+(dF f.body:Int)) (dp || de 1 f.body) (fst (fst er (if vH f then 2 else 0)) (tP [] (f.ps.take i))) (f.ps.take i) (by rw [List.length_take];omega) x) GE [0,1] [] [0,1] (fun v2 _=>aa (aj (ap J J aY (ab J (aa ?_))))))))))))))));refine aI (i+1,v2) ⟨by dsimp only;omega,by dsimp only;omega⟩ J (by dsimp only;rw [C3 hx,cm hx];simp only [fz];rfl) J
  ·(try simp only [aX]at h16);have hi:i=f.ps.length:=by omega
   subst hi;rw [eA];refine bF (aj (ab J (aA m_ J (aL 3 n8 J J J J (ae (xs:= [.tmp 59,.tmp 61]) (vB c vp (0+(ef f.body:Int)) ((f.ps.length:Int)+(dF f.body:Int)) (dp || de 1 f.body) fs hfl f.vb f.body g4 g5 v f.ps (fst (fst er (if vH f then 2 else 0)) (tP [] f.ps)) (by omega)) Dn [0,1] [(false,3),(false,1)] [0,1] (fun v3 _=>aa ?_))))));rw [show fst er (lF fs f)=fst (fst (fst er (if vH f then 2 else 0)) (tP [] f.ps)) (dA fs f.ps f.body).2 by rw [tF];simp only [fz]];refine bP v3 O J fw J [0,1] [] J J J
theorem xL(vp:SV)(fs:List Tf)(hg:GP fs):
  aN prog 48 [.agg #[sv vp]] [] [fD vp fs] (I6 (jx fs)) []:=by
 refine ay func48 J ntmps48 J fun w0 M H=>bx 0 1 J sj ?_
 have hfl:=hg.1;refine am (cB J J fun b1=>ao J (aa (aR (aJ (aM wm J J J (bh (k:=1) J)) (ae (xs:= [.tmp 9]) (wA vp fs hg) NA [] [(false,0)] [] (fun _ _=>aJ (cZ J) (aa (ai J (fun h1=> ?_) (fun h1=> ?_)))))))))
 ·have hr:rP fs=false:=by simpa using h1
  refine am (ao J (aa (ar (aG () O J (bU (aD J)) (by rw [KT hr]) [] [] J J J))))
 ·have hr:rP fs=true:=by simpa using h1
  refine az (aR (aA iB J (aL 1 Bb J J J J (aJ (aZ underlying25 J (aP (k:=1) J)) (ap J J ge (aa (ai J (fun h2=> ?_) (fun h2=> ?_))))))))
  ·(try simp only [aX]at h2);refine am (ao J (aa (ar (aG () O J (bU (aD J)) (by rw [KS hr (by omega)]) [] [] J J J))))
  ·(try simp only [aX]at h2);refine az (am (aJ (aM wm J J J (bh (k:=1) J)) (aJ (aW (parts:= [(0,.tmp 16)]) Mx JY J J) (cB J J fun b18=>ao J (aa (aR (aA iB J (aL 1 Bb J J J J (aJ (aZ underlying25 J (aP (k:=1) J)) (ab J (aa (aC ?_))))))))))));refine bC (X:=Nat) (fun i=>i≤fs.length∧∀j f,j<i→fs[j]?=some f→xu fs f.name=(j:Int)) (fun i=> [(1,Pt b1),(2,I6 0),(3,Pt b18),(20,sv vp),(21,I6 (fs.length:Int)),(22,I6 (i:Int))]) (fun i=> [(1,aO b1 27 [sv vp]),(18,aO b18 165 (cR vp bT 0 0 false 0))]) (fun i=> [(0,fD vp fs),(1,sl 3 oE (sv vp) fs)]) (fun i=>fs.length-i) 0 ⟨bE _,fun j f hj=>by omega⟩ J J J (fun i hx0=> ?_);obtain⟨n1,n2⟩:=hx0;refine am (ap J J cG (aa (aT (ai J (fun h3=> ?_) (fun h3=> ?_)))))
   ·(try simp only [aX]at h3);have hi:i<fs.length:=by omega
    obtain⟨f,hst⟩:∃k,fs[i]?=some k:=⟨_,bO hi⟩
    refine az (aT (aC (am (ab J (aJ (aQ (j:=i) underlying25 mI J J (aP (k:=1) J) (by first|rfl|omega) (by first|omega|(simp;done)|(simp;omega))) (aJ (aM mI J J J (ci (aP (k:=1) J) (by intro _;rfl) hst (by rfl))) (aU mI J J fun b5=>ao J (aq (k:=5) mI J J J J J J (aw J (ab J (aA na J (aL 5 t9 J J J J (ae (xs:= [.tmp 27,.tmp 29]) (lI b18 vp bT 0 0 false 0 f.name fs hfl) II [18] [(false,1)] [18] (fun _ _=>ab J (ap J J fW ?_)))))))))))))));refine aa (ai J (fun h4=> ?_) (fun h4=> ?_))
    ·have hne:¬xu fs f.name=(i:Int):=by simpa using h4
     refine am (ao J (aa (ar (aG () O J (bU (aD J)) (by rw [IC hr (by omega) (EG hst hne)]) [] [] J J J))))
    ·have hne:xu fs f.name=(i:Int):=by simpa using h4
     refine az (aj (ap J J aY (ab J (aa ?_))));refine aI (i+1) ⟨⟨by omega,fun j f2 hj hf2=>by rcases Nat.lt_succ_iff_lt_or_eq.1 hj with h|h;exact n2 j f2 h hf2;subst h;rw [hst]at hf2;cases hf2;exact hne⟩,by omega⟩ J J J
   ·(try simp only [aX]at h3);have hi:i=fs.length:=by omega
    subst hi;have ho:once fs=true:=pe.2 fun j f hf=>n2 j f (cA.1 hf).1 hf
    refine bF (am (ab J (ae (xs:= [.tmp 34,.const (Sg (ByteArray.mk #[109,97,105,110]))]) (lI b18 vp bT 0 0 false 0 d9 fs hfl) II [18] [(false,1)] [18] (fun _ _=>ao J (aa (aR (ab J (ap J J cG (aa (ai J (fun h5=> ?_) (fun h5=> ?_)))))))))))
    ·(try simp only [aX]at h5);have hm:cK fs d9=none:=ic.1.1 h5;refine am (ao J (aa (ar (aG () O J (bU (aD J)) (by rw [ID hr (by omega) ho hm]) [] [] J J J))))
    ·(try simp only [aX]at h5);obtain⟨f,hm⟩:∃f,cK fs d9=some f:=by
      cases hf:cK fs d9 with
      | none=>exact absurd (ic.1.2 hf) (by omega)
      | some f=>exact⟨f,rfl⟩
     obtain⟨j,hj1,hj2⟩:=ic.2 f hm;have hjl:=(cA.1 hj2).1;rw [hj1];refine bx 0 7 J (x_ (jc hm)) (bx 7 9 J tX (az (aR (aA iB J (aL 1 Bb J J J J (ab J (aJ (aQ (j:=j) underlying25 mI J J (aP (k:=1) J) J hjl) (aJ (cy fR J) (aJ (ag oO J J (gh (aP (k:=1) J) (by intro _;rfl) hj2 J)) (aJ (aZ underlying46 J (aP (k:=9) J)) (ap J J ge (aa (ai J (fun h6=> ?_) (fun h6=> ?_))))))))))))))
     ·(try simp only [aX]at h6);refine am (ao J (aa (ar (aG () O J (bU (aD J)) (by rw [IB hr (by omega) ho hm (by omega)]) [] [] J J J))))
     ·(try simp only [aX]at h6);refine az (aR (aA iB J (aL 1 Bb J J J J (aJ (aZ underlying25 J (aP (k:=1) J)) (ab J (aa (aC (ez 19 (α:=Ba) (S:=9) (s:=1) (enc:=eS) ?_))))))));refine bC (X:=Nat×SV×List Ba×Int×Int×Bool) (fun x=>x.1≤fs.length∧(x.2.2.2.2.2=true→gl fs (fs.take x.1)≠0)) (fun x=> [(1,Pt b1),(2,I6 0),(3,Pt b18),(47,sv vp),(48,I6 (fs.length:Int)),(49,I6 (x.1:Int))]) (fun x=> [(18,aO b18 165 (cR vp x.2.1 x.2.2.2.1 x.2.2.2.2.1 x.2.2.2.2.2 (gl fs (fs.take x.1)))),(19,own 9 1 eS (sv x.2.1) x.2.2.1)]) (fun x=> [(0,fD vp fs),(1,sl 3 oE (sv vp) fs)]) (fun x=>fs.length-x.1) (0,bT,[],0,0,false) ⟨bE _,fun h=>by cases h⟩ J J J (fun x hx0=> ?_);obtain⟨i,v,ns,nd,va,dp⟩:=x;obtain⟨n1,n2⟩:=hx0;dsimp only at n1 n2 ⊢;refine am (ap J J cG (aa (aT (ai J (fun h7=> ?_) (fun h7=> ?_)))))
      ·(try simp only [aX]at h7);have hi:i<fs.length:=by omega
       obtain⟨f,hst⟩:∃k,fs[i]?=some k:=⟨_,bO hi⟩
       refine az (aT (aC (am (aJ (aQ (j:=i) underlying25 mI J J (aP (k:=1) J) (by first|rfl|omega) (by first|omega|(simp;done)|(simp;omega))) (aJ (aM mI J J J (ci (aP (k:=1) J) (by intro _;rfl) hst (by rfl))) (aU mI J J fun b8=>aq (k:=8) mI J J J J J J (aa (aj (ab J (aJ (aM mI J J J (bh (k:=8) J)) (bx 0 11 J (x_ (cO hst)) (ae (xs:= [.tmp 53,.tmp 54]) (xM b18 vp v nd va dp (gl fs (fs.take i)) ns fs hfl f (hg.2 f (cO hst)) n2) Nz [18,19] [(false,11),(false,0)] [18,19] (fun v2 _=>aa (aj (ap J J aY (ab J (aa ?_)))))))))))))))));refine aI (i+1,v2,(dA fs f.ps f.body).1,0+(ef f.body:Int),(f.ps.length:Int)+(dF f.body:Int),dp || de 1 f.body) ⟨⟨by dsimp only;omega,fun h=>by dsimp only;rw [qw hst];exact C2 n2 h⟩,by dsimp only;omega⟩ J (by dsimp only;rw [qw hst];rfl) J
      ·(try simp only [aX]at h7);have hi:i=fs.length:=by omega
       subst hi;rw [eA];refine bF (am (ab J (bq J (aA tv J (aL 18 zA J J J J (ao J (aa (ar (aG () O J (bU (aD J)) (by rw [KU hr (by omega) ho hm (by omega)]) [] [] J J J)))))))))
theorem Ae{s x:Ba}{l:List Ba}{i:Nat}(h:l[i]?=some x):cU s (l.take (i+1))=(cU s (l.take i) || (x==s)):=by
 unfold cU;rw [cm h,List.any_append,gn];simp only [List.any_cons,List.any_nil,Bool.or_false]
 congr 1
 exact decide_eq_decide.2 ⟨fun h=>h.symm,fun h=>h.symm⟩
theorem B5{s x:Ba}{l:List Ba}(hm:x∈l)(h:(x==s)=true):cU s l=true:=by
 rw [gn]at h;exact List.any_eq_true.2 ⟨x,hm,by simpa using(df h).symm⟩
def rlv:List (List Ba):= [[iW],[eD],[eB],[lQ,lN],[kP,lO,lP,mZ],[fM,fY],[fh,ep],[fN,jI,kO]]
theorem rK(c:Int):
  aN prog 135 [.int .u8 c] [] [] (.bool (qS c)) []:=by
 refine ay func135 J ntmps135 J fun w0 M H=>am (ao J (aw J (ab J (ap J J fp (ab J (aF [] J J O (fun hg1=>aV J) J (aF [(6,_)] J J ⟨J,O⟩ (fun hg2=>aS J J ki) J (aJ (bD J J J) (ao J (aa (ar (aG () O J (bU (aD J)) J [] [] J J J))))))))))))
theorem nk(c:Int):
  aN prog 136 [.int .u8 c] [] [] (.bool (mC c)) []:=by
 refine ay func136 J ntmps136 J fun w0 M H=>am (ao J (aw J (ab J (ap J J fp (ab J (aF [] J J O (fun hg1=>aV J) J (aF [(6,_)] J J ⟨J,O⟩ (fun hg2=>aS J J ki) J (aJ (bD J J J) (ao J (aa (ar (aG () O J (bU (aD J)) J [] [] J J J))))))))))))
theorem Cf:
  Spec prog 134 [] [] [] (X:=SV) (fun _=>True) (fun u=>sv u) (fun u=> [own 9 1 eS (sv u) vV]) (fun _=> []):=by
 refine ay func134 J ntmps134 J fun w0 M H=>am (ao J (aw J (dG eS vV (parts:= [(0,.const (Sg (ByteArray.mk #[101,108,115,101]))),(1,.const (Sg (ByteArray.mk #[102,110]))),(2,.const (Sg (ByteArray.mk #[105,102]))),(3,.const (Sg (ByteArray.mk #[105,110]))),(4,.const (Sg (ByteArray.mk #[109,101,109]))),(5,.const (Sg (ByteArray.mk #[111,117,116]))),(6,.const (Sg (ByteArray.mk #[114,101,116,117,114,110]))),(7,.const (Sg (ByteArray.mk #[118,97,114]))),(8,.const (Sg (ByteArray.mk #[119,104,105,108,101])))]) underlying46 t9 J (by decide) (by intro _;rfl) J (by decide) (by decide) J J J J fun v1=>ao J (aa (ar (aG v1 O J (bU (aD J)) J [1] [] J J J))))))
theorem qF(s:Ba)(v:SV)(l:List Ba)(hl:l.length≤1000000):
  aN prog 59 [Sg s,sv v] [] [sl 1 eS (sv v) l] (.bool (cU s l)) []:=by
 refine ay func59 J ntmps59 J fun w0 M H=>am (ao J (aa (aR (ao J (aa (aC (bC (X:=Nat) (fun i=>i≤l.length∧cU s (l.take i)=false) (fun i=> [(0,Sg s),(1,sv v),(5,I6 (i:Int))]) (fun i=> []) (fun i=> [(0,sl 1 eS (sv v) l)]) (fun i=>l.length-i) 0 ⟨bE _,J⟩ J J J (fun i hx0=> ?_))))))))
 obtain⟨n1,n2⟩:=hx0;refine aR (ab J (ab J (aJ (aZ underlying46 J (aP (k:=0) J)) (ap J J cG (aa (ai J (fun h1=> ?_) (fun h1=> ?_)))))))
 ·(try simp only [aX]at h1);have hi:i<l.length:=by omega
  obtain⟨x,hx⟩:∃k,l[i]?=some k:=⟨_,bO hi⟩
  refine az (aT (aC (am (ab J (ab J (aJ (aQ (j:=i) underlying46 t9 J J (aP (k:=0) J) (by first|rfl|omega) (by first|omega|(simp;done)|(simp;omega))) (aJ (ag t9 J J (ci (aP (k:=0) J) (by intro _;rfl) hx (by rfl))) (ab J (ap J J eV (aa (ai J (fun h2=> ?_) (fun h2=> ?_))))))))))))
  ·have hct:(x==s)=true:=h2;refine am (ao J (aa (ar (aG () O J (bU (aD J)) (congrArg Value.bool (B5 (cO hx) hct).symm) [] [] J J J))))
  ·have hcf:(x==s)=false:=h2;refine az (aj (ab J (ap J J aY (ao J (aa ?_)))));refine aI (i+1) ⟨⟨by omega,by rw [Ae hx,n2,hcf];rfl⟩,by omega⟩ J J J
 ·(try simp only [aX]at h1);have hi:i=l.length:=by omega
  subst hi;rw [eA]at n2;refine bF (am (ao J (aa (ar (aG () O J (bU (aD J)) (congrArg Value.bool n2.symm) [] [] J J J)))))
theorem AL(s:Ba)(v:SV)(l:List Ba)(hl:l.length≤1000000):aN prog 59 [Sg s,sv v] [] [own 9 1 eS (sv v) l] (.bool (cU s l)) []:=(qF s v l hl).ro1 bI
structure Qi where
 op:Int
 d:Int
 a:Int
 b:Int
 imm:Int
deriving DecidableEq
def gM(i:Qi):List Value:= [I6 i.op,I6 i.d,I6 i.a,I6 i.b,I3 i.imm]
def q3(op d a b:Int):Qi:=⟨op,d,a,b,0⟩
def qi(op d a n:Int):Qi:=⟨op,d,a,0,n⟩
structure Qg where
 code:List Qi
 fixes:List (Int×Int)
 labs:List Int
def tO(p:Int×Int):List Value:= [I6 p.1,I6 p.2]
def Qg.emit(s:Qg)(l:List Qi):Qg:={s with code:=s.code++l}
def Qg.lab(s:Qg):Qg:={s with labs:=s.labs++ [0]}
def Qg.place(s:Qg)(l:Int):Qg:={s with labs:=s.labs.set l.toNat s.code.length}
def Qg.jump(s:Qg)(op d a l:Int):Qg:={s with fixes:=s.fixes++ [((s.code.length:Int),l)],code:=s.code++ [qi op d a 0]}
def Qg.push(s:Qg)(r:Int):Qg:=(s.emit [qi 16 14 14 4294967292]).emit [qi 25 r 14 0]
def Qg.pop(s:Qg)(r:Int):Qg:=(s.emit [qi 23 r 14 0]).emit [qi 16 14 14 4]
def Qg.elem(s:Qg)(r:Int):Qg:=(s.emit [qi 17 r r 255]).emit [qi 20 r r 2]
def nP(o:Ba)(s:Qg):Qg:=
 if o=fh then s.emit [q3 1 1 2 1]else if o=ep then s.emit [q3 2 1 2 1]else if o=fN then s.emit [q3 9 1 2 1]else
 if o=eB then s.emit [q3 3 1 2 1]else if o=iW then s.emit [q3 4 1 2 1]else if o=eD then s.emit [q3 5 1 2 1]else
 if o=fM then s.emit [q3 6 1 2 1]else if o=fY then s.emit [q3 7 1 2 1]else if o=kP then s.emit [q3 11 1 2 1]else
 if o=lP then s.emit [q3 11 1 1 2]else if o=lO then(s.emit [q3 11 1 1 2]).emit [qi 19 1 1 1]else if o=mZ then(s.emit [q3 11 1 2 1]).emit [qi 19 1 1 1]else
 if o=lN then(s.emit [q3 5 1 2 1]).emit [q3 11 1 0 1]else if o=lQ then((s.emit [q3 5 1 2 1]).emit [q3 11 1 0 1]).emit [qi 19 1 1 1]else
 if o=jI then((s.lab.jump 32 1 0 s.labs.length).emit [q3 10 1 2 1]).place s.labs.length else
 if o=kO then((((((s.lab.emit [q3 1 3 1 0]).jump 32 1 0 s.labs.length).emit [q3 10 3 2 1]).emit [q3 9 3 3 1]).place s.labs.length)).emit [q3 2 1 2 3]else s
def CE(o:Ba)(s:Qg):Qg:=
 if o=ep then s.emit [q3 2 1 0 1]else if o=s5 then(s.emit [qi 16 2 0 4294967295]).emit [q3 5 1 1 2]else
 if o=uC then(s.emit [qi 16 2 0 1]).emit [q3 11 1 1 2]else s
def gU(n:Int):Bool:=decide (n<131072) || decide (4294967296-131072≤n)
def pZ(n:Int)(s:Qg):Qg:=if gU n=true then s.emit [qi 16 1 0 n]else s.emit [qi 41 1 0 (n/1024),qi 18 1 1 (n%1024)]
abbrev Om:=List (Ba×Int)
def bn(o:Om)(x:Ba):Int:=match o.find? (fun p=>decide (p.1=x))with
 | some p=>p.2
 | none=>0
mutual
def gX(o st:Om):Tx→Qg→Qg
 | .mk k n nm _ kids,s=>
  if k=1 then pZ n s else if k=2 then s.emit [qi 23 1 13 (bn o nm)]else
  if k=5 then s.emit [⟨48,0,0,0,2⟩]else
  if k=4 then((ky o st kids s).elem 1).emit [qi 23 1 1 8192]else
  if k=6 then CE nm (ky o st kids s)else
  if k=7 then nP nm ((Jk o st kids ((ky o st kids s).push 1)).pop 2)else
  if k=3 then(let s1:=(rM o st kids s).jump 40 15 0 (bn st nm)
   if kids.length>0 then s1.emit [qi 16 14 14 (4*kids.length)]else s1)else s
def ky(o st:Om):List Tx→Qg→Qg
 | [],s=>s
 | t::_,s=>gX o st t s
def Jk(o st:Om):List Tx→Qg→Qg
 | [],s=>s
 | _::r,s=>ky o st r s
def rM(o st:Om):List Tx→Qg→Qg
 | [],s=>s
 | t::r,s=>rM o st r ((gX o st t s).push 1)
end
mutual
def gY(o st:Om)(en:Int):Ty→Qg→Qg
 | .mk k nm _ es _ body _ els,s=>
  let s0:=s.lab.place s.labs.length
  let s1:=ky o st es s0
  if k=1∨k=2 then s1.emit [qi 25 1 13 (bn o nm)]else
  if k=3 then(((Jk o st es (s1.push 1)).pop 2).elem 2).emit [qi 25 1 2 8192]else
  if k=7 then s1.emit [⟨48,0,0,0,1⟩]else
  if k=6 then s1.jump 40 0 0 en else
  if k=4 then(let lb:Int:=s1.labs.length
   let s2:=gj o st en body ((s1.lab.lab).jump 32 1 0 lb)
   let s3:=if els.length>0 then s2.jump 40 0 0 (lb+1)else s2
   (gj o st en els (s3.place lb)).place (lb+1))else
  if k=5 then(let lb:Int:=s1.labs.length
   ((gj o st en body (s1.lab.jump 32 1 0 lb)).jump 40 0 0 s.labs.length).place lb)else s1
def gj(o st:Om)(en:Int):List Ty→Qg→Qg
 | [],s=>s
 | t::r,s=>gj o st en r (gY o st en t s)
end
mutual
def gD:Ty→Om×Int→Om×Int
 | .mk k nm _ _ _ body _ els,p=>gDs els (gDs body (if k=1 then(fC p.1 nm (wU (-(4*(p.2+1)))),p.2+1)else p))
def gDs:List Ty→Om×Int→Om×Int
 | [],p=>p
 | t::r,p=>gDs r (gD t p)
end
def gP(n:Int):Int→List Ba→Om→Om
 | _,[],o=>o
 | k,p::r,o=>gP n (k+1) r (fC o p (8+4*(n-1-k)))
def cQ(f:Tf):Om×Int:=gDs f.body (gP f.ps.length 0 f.ps [],0)
def dn:Nat→Qg→Qg
 | 0,s=>s
 | n+1,s=>dn n (s.push 0)
def gF(st:Om)(f:Tf)(s:Qg):Qg:=
 let lb:Int:=s.labs.length
 let ov:=cQ f
 let s1:=((((((s.lab.lab).place (bn st f.name)).emit [qi 16 12 12 1]).emit [qi 16 2 0 12]).jump 35 2 12 lb).emit [⟨49,0,0,0,0⟩]).place lb
 let s2:=dn ov.2.toNat (((s1.push 15).push 13).emit [q3 1 13 14 0])
 let s3:=((gj ov.1 st (lb+1) f.body s2).emit [q3 1 1 0 0]).place (lb+1)
 ((((s3.emit [q3 1 14 13 0]).pop 13).pop 15).emit [qi 16 12 12 4294967295]).emit [qi 27 0 15 0]
def p_(st:Om):List Tf→Qg→Qg
 | [],s=>s
 | f::r,s=>p_ st r (gF st f s)
def mN:List Tf→Om×Qg→Om×Qg
 | [],p=>p
 | f::r,p=>mN r (fC p.1 f.name p.2.labs.length,p.2.lab)
def xo(fs:List Tf):Qg:=
 let p:=mN fs ([],⟨[],[],[]⟩)
 p_ p.1 fs (((p.2.emit [qi 16 14 0 16384]).jump 40 15 0 (bn p.1 d9)).emit [⟨48,0,0,0,0⟩])
def gp:List Qi→Nat→Int→List Qi
 | [],_,_=> []
 | i::l,0,n=>{i with imm:=n}::l
 | i::l,k+1,n=>i::gp l k n
def mn(labs:List Int):List (Int×Int)→List Qi→List Qi
 | [],l=>l
 | p::r,l=>mn labs r (gp l p.1.toNat (wU (labs.getD p.2.toNat 0-p.1)))
def iz(fs:List Tf):List Qi:=mn (xo fs).labs (xo fs).fixes (xo fs).code
def qE(L:Int→Int)(p:Nat):List (Int×Int)→List Qi→List Qi
 | [],l=>l
 | f::r,l=>qE L p r (gp l (f.1.toNat-p) (wU (L f.2-f.1)))
def Kt(p n:Nat)(fs:List (Int×Int)):Prop:=∀f∈fs,(p:Int)≤f.1∧f.1<p+n
theorem ik:∀(l:List Qi)(k:Nat)(n:Int),(gp l k n).length=l.length
 | [],_,_=>rfl
 | _::_,0,_=>rfl
 | _::l,k+1,n=>congrArg (· +1) (ik l k n)
theorem tK(L:Int→Int)(p:Nat):∀(fs:List (Int×Int))(l:List Qi),(qE L p fs l).length=l.length
 | [],l=>rfl
 | f::r,l=>by unfold qE;rw [tK L p r,ik]
theorem nu:∀(a b:List Qi)(k:Nat)(n:Int),k<a.length→gp (a++b) k n=gp a k n++b
 | [],_,_,_,h=>absurd h (Nat.not_lt_zero _)
 | _::_,_,0,_,_=>rfl
 | x::a,b,k+1,n,h=>congrArg (x:: ·) (nu a b k n (Nat.lt_of_succ_lt_succ h))
theorem l7:∀(a b:List Qi)(k:Nat)(n:Int),a.length≤k→gp (a++b) k n=a++gp b (k-a.length) n
 | [],_,_,_,_=>rfl
 | _::_,_,0,_,h=>absurd h (Nat.not_succ_le_zero _)
 | x::a,b,k+1,n,h=>by
  rw [ca,Nat.add_sub_add_right];exact congrArg (x:: ·) (l7 a b k n (Nat.le_of_succ_le_succ h))
theorem vK(L:Int→Int)(p:Nat):∀(fs:List (Int×Int))(a b:List Qi),Kt p a.length fs→qE L p fs (a++b)=qE L p fs a++b
 | [],a,b,_=>rfl
 | f::r,a,b,h=>by
  have hf:=h f (by simp);unfold qE;rw [nu a b _ _ (by omega),vK L p r _ b (fun g hg=>by rw [ik];exact h g (by simp [hg]))]
theorem sb(L:Int→Int)(p:Nat):∀(fs:List (Int×Int))(a b:List Qi),Kt (p+a.length) b.length fs→qE L p fs (a++b)=a++qE L (p+a.length) fs b
 | [],a,b,_=>rfl
 | f::r,a,b,h=>by
  have hf:=h f (by simp);unfold qE;rw [l7 a b _ _ (by omega),sb L p r a _ (fun g hg=>by rw [ik];exact h g (by simp [hg]))]
  congr 3
  omega
theorem zr(L:Int→Int)(p:Nat):∀(f1 f2:List (Int×Int))(l:List Qi),qE L p (f1++f2) l=qE L p f2 (qE L p f1 l)
 | [],f2,l=>rfl
 | f::r,f2,l=>by
  show qE L p (r++f2) _=qE L p f2 (qE L p r _);exact zr L p r f2 _
theorem FE(L:Int→Int)(p:Nat)(f1 f2:List (Int×Int))(a b:List Qi)(h1:Kt p a.length f1)(h2:Kt (p+a.length) b.length f2):
  qE L p (f1++f2) (a++b)=qE L p f1 a++qE L (p+a.length) f2 b:=by
 rw [zr,vK L p f1 a b h1,sb L p f2 _ b (by rw [tK];exact h2),tK]
structure Res(K:(Int→Int)→Prop)(s s':Qg)(r:List Qi):Prop where
 ex:∃raw fs ls,s'.code=s.code++raw∧raw.length=r.length∧s'.fixes=s.fixes++fs∧s'.labs=s.labs++ls∧Kt s.code.length raw.length fs∧
  ∀L:Int→Int,K L→(∀(i:Nat)(n:Int),ls[i]?=some n→L ((s.labs.length+i:Nat):Int)=n)→qE L s.code.length fs raw=r
theorem Res.nil{K:(Int→Int)→Prop}(s:Qg):Res K s s []:=⟨⟨[],[],[],by simp,rfl,by simp,by simp,fun _ h=>by simp at h,fun _ _ _=>rfl⟩⟩
theorem Res.seq{K:(Int→Int)→Prop}{s s1 s2:Qg}{r1 r2:List Qi}(h1:Res K s s1 r1)(h2:Res K s1 s2 r2):Res K s s2 (r1++r2):=by
 obtain⟨raw1,fs1,ls1,a1,a2,a3,a4,a5,a6⟩:=h1.ex;obtain⟨raw2,fs2,ls2,b1,b2,b3,b4,b5,b6⟩:=h2.ex;have hl:s1.code.length=s.code.length+raw1.length:=by rw [a1,bQ]
 have hm:s1.labs.length=s.labs.length+ls1.length:=by rw [a4,bQ]
 refine⟨⟨raw1++raw2,fs1++fs2,ls1++ls2,by rw [b1,a1,List.append_assoc],by simp [a2,b2],by rw [b3,a3,List.append_assoc],by rw [b4,a4,List.append_assoc],fun f hf=> ?_,fun L hK hL=> ?_⟩⟩
 ·rw [bQ];rcases List.mem_append.1 hf with hf|hf
  ·have:=a5 f hf;omega
  ·have:=b5 f hf;omega
 ·rw [FE L _ _ _ _ _ a5 (by rw [←hl];exact b5),←hl,a6 L hK fun i n h=>hL i n (by
   rw [List.getElem?_append_left (by obtain⟨h,-⟩:=cA.1 h;exact h)];exact h),b6 L hK fun i n h=> ?_]
  rw [hm];have:=hL (ls1.length+i) n (by rw [List.getElem?_append_right (by omega),show ls1.length+i-ls1.length=i by omega];exact h);rw [show s.labs.length+ls1.length+i=s.labs.length+(ls1.length+i) by omega];exact this
theorem Res.emit{K:(Int→Int)→Prop}(s:Qg)(l:List Qi):Res K s (s.emit l) l:=
 ⟨⟨l,[],[],rfl,rfl,by simp [Qg.emit],by simp [Qg.emit],fun _ h=>by simp at h,fun _ _ _=>rfl⟩⟩
theorem Res.jump{K:(Int→Int)→Prop}(s:Qg)(op d a l:Int)(n:Int)(h:∀L,K L→wU (L l-s.code.length)=n):Res K s (s.jump op d a l) [qi op d a n]:=
 ⟨⟨[qi op d a 0],[((s.code.length:Int),l)],[],rfl,rfl,rfl,by simp [Qg.jump],fun f hf=>by
  have:=List.mem_singleton.1 hf;subst this;simp only [dP];omega,fun L hK _=>by
  have:=h L hK;simp only [qE,gp,Int.toNat_natCast,Nat.sub_self,this];rfl⟩⟩
theorem Res.push{K:(Int→Int)→Prop}(s:Qg)(r:Int):Res K s (s.push r) [qi 16 14 14 4294967292,qi 25 r 14 0]:=(Res.emit s _).seq (Res.emit _ _)
theorem Res.pop{K:(Int→Int)→Prop}(s:Qg)(r:Int):Res K s (s.pop r) [qi 23 r 14 0,qi 16 14 14 4]:=(Res.emit s _).seq (Res.emit _ _)
theorem Res.elem{K:(Int→Int)→Prop}(s:Qg)(r:Int):Res K s (s.elem r) [qi 17 r r 255,qi 20 r r 2]:=(Res.emit s _).seq (Res.emit _ _)
theorem Res.weaken{K K':(Int→Int)→Prop}{s s':Qg}{r:List Qi}(h:Res K s s' r)(hk:∀L,K' L→K L):Res K' s s' r:=by
 obtain⟨raw,fs,ls,a1,a2,a3,a4,a5,a6⟩:=h.ex;exact⟨⟨raw,fs,ls,a1,a2,a3,a4,a5,fun L hK=>a6 L (hk L hK)⟩⟩
theorem Res.labels{K:(Int→Int)→Prop}{s s' s'':Qg}{r:List Qi}(ns ms:List Int)(hl:ns.length=ms.length)
  (h:Res (fun L=>K L∧∀(i:Nat)(n:Int),ms[i]?=some n→L ((s.labs.length+i:Nat):Int)=n) {s with labs:=s.labs++ns} s' r)
  (hc:s''.code=s'.code) (hf:s''.fixes=s'.fixes) (hs:∀ls,s'.labs=(s.labs++ns)++ls→s''.labs=(s.labs++ms)++ls):Res K s s'' r:=by
 obtain⟨raw,fs,ls,a1,a2,a3,a4,a5,a6⟩:=h.ex;refine⟨⟨raw,fs,ms++ls,hc.trans a1,a2,hf.trans a3,by rw [hs ls a4,List.append_assoc],a5,fun L hK hL=>a6 L ⟨hK,fun i n hi=>hL i n ?_⟩ fun i n hi=> ?_⟩⟩
 ·rw [List.getElem?_append_left (by obtain⟨h,-⟩:=cA.1 hi;exact h)];exact hi
 ·have:=hL (ms.length+i) n (by rw [List.getElem?_append_right (by omega),show ms.length+i-ms.length=i by omega];exact hi);show L (((s.labs++ns).length+i:Nat):Int)=n;rw [bQ,hl,show s.labs.length+ms.length+i=s.labs.length+(ms.length+i) by omega];exact this
def eO(r:Int):List Qi:= [qi 16 14 14 4294967292,qi 25 r 14 0]
def jN(r:Int):List Qi:= [qi 23 r 14 0,qi 16 14 14 4]
def rf(r:Int):List Qi:= [qi 17 r r 255,qi 20 r r 2]
def zv(o:Ba):List Qi:=
 if o=fh then [q3 1 1 2 1]else if o=ep then [q3 2 1 2 1]else if o=fN then [q3 9 1 2 1]else
 if o=eB then [q3 3 1 2 1]else if o=iW then [q3 4 1 2 1]else if o=eD then [q3 5 1 2 1]else
 if o=fM then [q3 6 1 2 1]else if o=fY then [q3 7 1 2 1]else if o=kP then [q3 11 1 2 1]else
 if o=lP then [q3 11 1 1 2]else if o=lO then [q3 11 1 1 2,qi 19 1 1 1]else if o=mZ then [q3 11 1 2 1,qi 19 1 1 1]else
 if o=lN then [q3 5 1 2 1,q3 11 1 0 1]else if o=lQ then [q3 5 1 2 1,q3 11 1 0 1,qi 19 1 1 1]else
 if o=jI then [qi 32 1 0 2,q3 10 1 2 1]else
 if o=kO then [q3 1 3 1 0,qi 32 1 0 3,q3 10 3 2 1,q3 9 3 3 1,q3 2 1 2 3]else []
def AN(o:Ba):List Qi:=
 if o=ep then [q3 2 1 0 1]else if o=s5 then [qi 16 2 0 4294967295,q3 5 1 1 2]else
 if o=uC then [qi 16 2 0 1,q3 11 1 1 2]else []
def nM(n:Int):List Qi:=if gU n=true then [qi 16 1 0 n]else [qi 41 1 0 (n/1024),qi 18 1 1 (n%1024)]
mutual
def zX(o:Om)(S:Ba→Int):Tx→Nat→List Qi
 | .mk k n nm _ kids,p=>
  if k=1 then nM n else if k=2 then [qi 23 1 13 (bn o nm)]else
  if k=5 then [⟨48,0,0,0,2⟩]else
  if k=4 then vR o S kids p++(rf 1++ [qi 23 1 1 8192])else
  if k=6 then vR o S kids p++AN nm else
  if k=7 then vR o S kids p++(eO 1++(Jr o S kids (p+(vR o S kids p).length+2)++(jN 2++zv nm)))else
  if k=3 then wa o S kids p++([qi 40 15 0 (wU (S nm-((p+(wa o S kids p).length:Nat):Int)))]++if kids.length>0 then [qi 16 14 14 (4*kids.length)]else [])else []
def vR(o:Om)(S:Ba→Int):List Tx→Nat→List Qi
 | [],p=> []
 | t::_,p=>zX o S t p
def Jr(o:Om)(S:Ba→Int):List Tx→Nat→List Qi
 | [],p=> []
 | _::r,p=>vR o S r p
def wa(o:Om)(S:Ba→Int):List Tx→Nat→List Qi
 | [],p=> []
 | t::r,p=>zX o S t p++(eO 1++wa o S r (p+(zX o S t p).length+2))
end
mutual
def wX:Tx→Nat
 | .mk k n nm _ kids=>
  if k=1 then(nM n).length else if k=2 then 1 else if k=5 then 1 else
  if k=4 then iK kids+3 else if k=6 then iK kids+(AN nm).length else
  if k=7 then iK kids+(Jw kids+(4+(zv nm).length))else
  if k=3 then qG kids+(1+if kids.length>0 then 1 else 0)else 0
def iK:List Tx→Nat
 | []=>0
 | t::_=>wX t
def Jw:List Tx→Nat
 | []=>0
 | _::r=>iK r
def qG:List Tx→Nat
 | []=>0
 | t::r=>wX t+(2+qG r)
end
mutual
theorem fK(o:Om)(S:Ba→Int):∀(t:Tx)(p:Nat),(zX o S t p).length=wX t
 | .mk k n nm _ kids,p=>by
  have h0:=lS o S kids;have h1:=xS o S kids;have hs:=nR o S kids;unfold zX wX;split
  ·rfl
  split
  ·rfl
  split
  ·rfl
  split
  ·rw [bQ,h0];rfl
  split
  ·rw [bQ,h0]
  split
  ·simp only [bQ,h0,h1];simp only [eO,jN,ca,cj];omega
  split
  ·simp only [bQ,hs,ca,cj];split<;>rfl
  ·rfl
theorem lS(o:Om)(S:Ba→Int):∀(l:List Tx)(p:Nat),(vR o S l p).length=iK l
 | [],p=>rfl
 | t::_,p=>fK o S t p
theorem xS(o:Om)(S:Ba→Int):∀(l:List Tx)(p:Nat),(Jr o S l p).length=Jw l
 | [],p=>rfl
 | _::r,p=>lS o S r p
theorem nR(o:Om)(S:Ba→Int):∀(l:List Tx)(p:Nat),(wa o S l p).length=qG l
 | [],p=>rfl
 | t::r,p=>by
  unfold wa qG;rw [bQ,bQ,fK o S t,nR o S r];rfl
end
mutual
def zY(o:Om)(S:Ba→Int)(E:Int):Ty→Nat→List Qi
 | .mk k nm _ es _ body _ els,p=>
  if k=1∨k=2 then vR o S es p++ [qi 25 1 13 (bn o nm)]else
  if k=3 then vR o S es p++(eO 1++(Jr o S es (p+iK es+2)++(jN 2++(rf 2++ [qi 25 1 2 8192]))))else
  if k=7 then vR o S es p++ [⟨48,0,0,0,1⟩]else
  if k=6 then vR o S es p++ [qi 40 0 0 (wU (E-((p+iK es:Nat):Int)))]else
  if k=4 then vR o S es p++([qi 32 1 0 (wU (((jK o S E body (p+iK es+1)).length+(if els.length>0 then 1 else 0)+1:Nat):Int))]++(jK o S E body (p+iK es+1)++
   ((if els.length>0 then [qi 40 0 0 (wU (((jK o S E els (p+iK es+1+(jK o S E body (p+iK es+1)).length+(if els.length>0 then 1 else 0))).length+1:Nat):Int))]else [])++
    jK o S E els (p+iK es+1+(jK o S E body (p+iK es+1)).length+(if els.length>0 then 1 else 0)))))else
  if k=5 then vR o S es p++([qi 32 1 0 (wU (((jK o S E body (p+iK es+1)).length+2:Nat):Int))]++(jK o S E body (p+iK es+1)++
   [qi 40 0 0 (wU (-(((jK o S E body (p+iK es+1)).length+iK es+1:Nat):Int)))]))else vR o S es p
def jK(o:Om)(S:Ba→Int)(E:Int):List Ty→Nat→List Qi
 | [],p=> []
 | t::r,p=>zY o S E t p++jK o S E r (p+(zY o S E t p).length)
end
mutual
def wY:Ty→Nat
 | .mk k _ _ es _ body _ els=>
  if k=1∨k=2 then iK es+1 else if k=3 then iK es+(Jw es+7)else if k=7 then iK es+1 else if k=6 then iK es+1 else
  if k=4 then iK es+(eR body+(eR els+(if els.length>0 then 2 else 1)))else
  if k=5 then iK es+(eR body+2)else iK es
def eR:List Ty→Nat
 | []=>0
 | t::r=>wY t+eR r
end
mutual
theorem v_(o:Om)(S:Ba→Int)(E:Int):∀(t:Ty)(p:Nat),(zY o S E t p).length=wY t
 | .mk k nm _ es _ body _ els,p=>by
  have h0:=lS o S es;have h1:=xS o S es;have hb:=eG o S E body;have he:=eG o S E els;unfold zY wY;split
  ·simp only [bQ,h0];rfl
  split
  ·simp only [bQ,h0,h1,eO,jN,rf,ca,cj];omega
  split
  ·simp only [bQ,h0];rfl
  split
  ·simp only [bQ,h0];rfl
  split
  ·simp only [bQ,h0,hb,he,ca,cj];split
   ·simp only [ca,cj];omega
   ·simp only [ca,cj];omega
  split
  ·simp only [bQ,h0,hb,ca,cj];omega
  ·exact h0 p
theorem eG(o:Om)(S:Ba→Int)(E:Int):∀(l:List Ty)(p:Nat),(jK o S E l p).length=eR l
 | [],p=>rfl
 | t::r,p=>by
  unfold jK eR;rw [bQ,v_ o S E t,eG o S E r]
end
def ig:Nat→List Qi
 | 0=> []
 | n+1=>eO 0++ig n
theorem jj:∀n,(ig n).length=2*n
 | 0=>rfl
 | n+1=>by
  unfold ig;rw [bQ,jj n];show 2+2*n=_;omega
def zF(S:Ba→Int)(f:Tf)(p:Nat):List Qi:=
 let ov:=cQ f
 [qi 16 12 12 1,qi 16 2 0 12,qi 35 2 12 2,⟨49,0,0,0,0⟩]++(eO 15++(eO 13++([q3 1 13 14 0]++(ig ov.2.toNat++
  (jK ov.1 S ((p+10+2*ov.2.toNat+eR f.body:Nat):Int) f.body (p+9+2*ov.2.toNat)++
  ([q3 1 1 0 0,q3 1 14 13 0]++(jN 13++(jN 15++ [qi 16 12 12 4294967295,qi 27 0 15 0]))))))))
def wF(f:Tf):Nat:=17+2*(cQ f).2.toNat+eR f.body
theorem wc(S:Ba→Int)(f:Tf)(p:Nat):(zF S f p).length=wF f:=by
 unfold zF wF;simp only [bQ,jj,eG,eO,jN,ca,cj];omega
def AX(S:Ba→Int):List Tf→Nat→List Qi
 | [],p=> []
 | f::r,p=>zF S f p++AX S r (p+wF f)
def wh:List Tf→Nat
 | []=>0
 | f::r=>wF f+wh r
theorem nT(S:Ba→Int):∀(l:List Tf)(p:Nat),(AX S l p).length=wh l
 | [],p=>rfl
 | f::r,p=>by
  unfold AX wh;rw [bQ,wc,nT S r]
def gx:List Tf→Nat→Ba→Int
 | [],_,_=>3
 | f::r,p,x=>if f.name=x then(p:Int)else gx r (p+wF f) x
def iJ(fs:List Tf):List Qi:= [qi 16 14 0 16384,qi 40 15 0 (wU (gx fs 3 d9-1)),⟨48,0,0,0,0⟩]++AX (gx fs 3) fs 3
def gR(vp vc vf vl:SV)(ms:Nat)(mo:Option Nat)(mp:Nat)(en:Int):List Value:= [sv vp,sv vc,sv vf,sv vl,.map (some ms),.map mo,.map (some mp),I6 en]
structure Ga where
 g:Nat
 vp:SV
 ms:Nat
 mo:Option Nat
 mp:Nat
 en:Int
def gA(e:Ga)(s:Qg):Asn:=Ax (α:=SV×SV×SV) fun x=> [aO e.g 111 (gR e.vp x.1 x.2.1 x.2.2 e.ms e.mo e.mp e.en),own 118 5 gM (sv x.1) s.code,own 171 2 tO (sv x.2.1) s.fixes,own 3 1 eI (sv x.2.2) s.labs]
theorem Kw{α:Type}{l:List α}{i:Nat}(h:i<l.length):l[i]?=some (l[i]'h):=bO h
def Qg.sz(s:Qg):Nat:=s.code.length+s.fixes.length+s.labs.length
theorem yH{n:Nat}{vs:List Value}{R0:List Asn}{L L1:List Asn}{X:Type}{φ:X→Prop}{v:X→Value}{e e':Ga}{s s':Qg}(c:SV×SV×SV→X→SV×SV×SV)
  (h:∀vc vf vl,Spec prog n vs ([aO e.g 111 (gR e.vp vc vf vl e.ms e.mo e.mp e.en),own 118 5 gM (sv vc) s.code,own 171 2 tO (sv vf) s.fixes,own 3 1 eI (sv vl) s.labs]++L) R0 φ v
   (fun x=> [aO e'.g 111 (gR e'.vp (c (vc,vf,vl) x).1 (c (vc,vf,vl) x).2.1 (c (vc,vf,vl) x).2.2 e'.ms e'.mo e'.mp e'.en),own 118 5 gM (sv (c (vc,vf,vl) x).1) s'.code,own 171 2 tO (sv (c (vc,vf,vl) x).2.1) s'.fixes,own 3 1 eI (sv (c (vc,vf,vl) x).2.2) s'.labs]++L1) (fun _=> [])):
  Spec prog n vs (gA e s::L) R0 φ v (fun _=>gA e' s'::L1) (fun _=> []):=
 Spec.pack (fun _(x:SV×SV×SV)=> [aO e'.g 111 (gR e'.vp x.1 x.2.1 x.2.2 e'.ms e'.mo e'.mp e'.en),own 118 5 gM (sv x.1) s'.code,own 171 2 tO (sv x.2.1) s'.fixes,own 3 1 eI (sv x.2.2) s'.labs]) c (fun x=>h x.1 x.2.1 x.2.2)
theorem ql(g:Nat)(vp vc vf vl:SV)(ms:Nat)(mo:Option Nat)(mp:Nat)(en:Int)(s:Qg)(hz:s.sz≤950000)(w:SV)(l:List Qi)(hl:l.length≤1000):
  Spec prog 53 [Pt g,sv w] [aO g 111 (gR vp vc vf vl ms mo mp en),own 118 5 gM (sv vc) s.code,own 171 2 tO (sv vf) s.fixes,own 3 1 eI (sv vl) s.labs] [sl 5 gM (sv w) l] (X:=SV) (fun _=>True) (fun _=> .tuple #[]) (fun v=> [aO g 111 (gR vp v vf vl ms mo mp en),own 118 5 gM (sv v) (s.emit l).code,own 171 2 tO (sv vf) (s.emit l).fixes,own 3 1 eI (sv vl) (s.emit l).labs]) (fun _=> []):=by
 refine ay func53 J ntmps53 J fun w0 M H=> ?_
 unfold Qg.sz at hz;refine aj (ab J (ab J (bq J (aA kJ J (aL 0 zG J J J J (ab J (gB 1 underlying106 ey J (by decide) (fun _=>J) (fun _=>J) J J J (aP (k:=0) J) (by first|omega|(simp;done)|(simp;omega)) (by unfold maxLen;first|omega|(simp;done)|(simp;omega)) J fun v10=>bq J (aA kJ J (ax (k:=0) zG J J J J J J J J (aa (bP v10 O J fw J [0,1,2,3] [] J J J)))))))))))
theorem gr(e:Ga)(s:Qg)(hz:s.sz≤940000)(w:SV)(l:List Qi)(hl:l.length≤1000):
  aN prog 53 [Pt e.g,sv w] [gA e s] [sl 5 gM (sv w) l] (.tuple #[]) [gA e (s.emit l)]:=by
 exact Spec.map (fun _=>()) (fun _ _=>O) (fun _=>J) (fun _=>J) (fun _=>J) (yH (L:= []) (L1:= []) (fun a(x:SV)=>(x,a.2.1,a.2.2)) fun vc vf vl=>ql e.g e.vp vc vf vl e.ms e.mo e.mp e.en s (by omega) w l hl)
theorem uN(g:Nat)(vp vc vf vl:SV)(ms:Nat)(mo:Option Nat)(mp:Nat)(en:Int)(s:Qg)(hz:s.sz≤950000):
  Spec prog 50 [Pt g] [aO g 111 (gR vp vc vf vl ms mo mp en),own 118 5 gM (sv vc) s.code,own 171 2 tO (sv vf) s.fixes,own 3 1 eI (sv vl) s.labs] [] (X:=SV) (fun _=>True) (fun _=>I6 (s.labs.length:Int)) (fun v=> [aO g 111 (gR vp vc vf v ms mo mp en),own 118 5 gM (sv vc) (s.lab).code,own 171 2 tO (sv vf) (s.lab).fixes,own 3 1 eI (sv v) (s.lab).labs]) (fun _=> []):=by
 refine ay func50 J ntmps50 J fun w0 M H=> ?_
 unfold Qg.sz at hz;refine am (ao J (aw J (ab J (ab J (bq J (aA mz J (aL 0 Bc J J J J (bH eI 0 underlying22 t3 J (by decide) (by decide) J J J J fun v8=>gB 3 underlying22 t3 J (by decide) (fun _=>J) (fun _=>J) J J J (bp (k:=8) J) (by first|omega|(simp;done)|(simp;omega)) (by unfold maxLen;first|omega|(simp;done)|(simp;omega)) J fun v9=>bq J (aA mz J (ax (k:=0) Bc J J J J J J J J (aw J (ab J ?_))))))))))));refine bq J (aA mz J (aL 0 Bc J J J J (aJ (aZ underlying22 J (bp (k:=3) J)) (ap J J iF (ao J (aa (ar (aG v9 O J (bU (aD J)) (congrArg (Value.int .i64) (by rw [bQ,dP,bs (by omega)];omega)) [0,1,2,3] [] J J J))))))))
theorem eM(e:Ga)(s:Qg)(hz:s.sz≤940000):
  aN prog 50 [Pt e.g] [gA e s] [] (I6 (s.labs.length:Int)) [gA e s.lab]:=by
 exact Spec.map (fun _=>()) (fun _ _=>O) (fun _=>J) (fun _=>J) (fun _=>J) (yH (L:= []) (L1:= []) (fun a(x:SV)=>(a.1,a.2.1,x)) fun vc vf vl=>uN e.g e.vp vc vf vl e.ms e.mo e.mp e.en s (by omega))
theorem ut(g:Nat)(vp vc vf vl:SV)(ms:Nat)(mo:Option Nat)(mp:Nat)(en:Int)(s:Qg)(hz:s.sz≤950000)(l:Int)(hl:0≤l∧l<s.labs.length):
  aN prog 92 [Pt g,I6 l] [aO g 111 (gR vp vc vf vl ms mo mp en),own 118 5 gM (sv vc) s.code,own 171 2 tO (sv vf) s.fixes,own 3 1 eI (sv vl) s.labs] [] (.tuple #[]) [aO g 111 (gR vp vc vf vl ms mo mp en),own 118 5 gM (sv vc) (s.place l).code,own 171 2 tO (sv vf) (s.place l).fixes,own 3 1 eI (sv vl) (s.place l).labs]:=by
 refine ay func92 J ntmps92 J fun w0 M H=> ?_
 unfold Qg.sz at hz;refine bV [4,5,6,7,8,9,10,11,12,13,14] _ J (bR (V:= [(0,4,_),(1,5,_),(2,6,_),(3,7,_),(4,8,_),(5,9,_),(6,10,_),(7,11,_),(8,12,_),(9,13,_),(10,14,_)]) [0,1,2,3,4,5,6,7,8,9,10] 11 [11,10,9,8,7,6,5,4,3,2,1,0] [] (fun _=> []) J J (aK J J (ad J (av J) (ad J (ah mz J) (ad J (ag Bc J J (aB (k:=0) J J)) (aK J J (aK J J (ad J (av J) (ad J (ah kJ J) (ad J (ag zG J J (aB (k:=0) J J)) (ad J (aZ underlying106 J (bp (k:=1) J)) (ad J (aQ (j:=l.toNat) underlying22 t3 J J (bp (k:=3) J) (by first|rfl|omega) (by first|omega|(simp;done)|(simp;omega))) au))))))))))) J J J J J J J J J (fun _ _=>J) J (gE (k:=3) t3 J J J (by intro _;rfl) (Kw (by omega)) J J) (fun _ _=>br [] J J au J J J (bP () O J fw J [0,1,2,3] [] J J J)))
theorem dW(e:Ga)(s:Qg)(hz:s.sz≤940000)(l:Int)(hl:0≤l∧l<s.labs.length):
  aN prog 92 [Pt e.g,I6 l] [gA e s] [] (.tuple #[]) [gA e (s.place l)]:=by
 exact Spec.map (fun _=>()) (fun _ _=>O) (fun _=>J) (fun _=>J) (fun _=>J) (yH (L:= []) (L1:= []) (fun a(_:Unit)=>a) fun vc vf vl=>ut e.g e.vp vc vf vl e.ms e.mo e.mp e.en s (by omega) l hl)
theorem xd(g:Nat)(vp vc vf vl:SV)(ms:Nat)(mo:Option Nat)(mp:Nat)(en:Int)(s:Qg)(hz:s.sz≤940000)(op d a l:Int):
  Spec prog 52 [Pt g,I6 op,I6 d,I6 a,I6 l] [aO g 111 (gR vp vc vf vl ms mo mp en),own 118 5 gM (sv vc) s.code,own 171 2 tO (sv vf) s.fixes,own 3 1 eI (sv vl) s.labs] [] (X:=SV×SV) (fun _=>True) (fun _=> .tuple #[]) (fun v=> [aO g 111 (gR vp v.1 v.2 vl ms mo mp en),own 118 5 gM (sv v.1) (s.jump op d a l).code,own 171 2 tO (sv v.2) (s.jump op d a l).fixes,own 3 1 eI (sv vl) (s.jump op d a l).labs]) (fun _=> []):=by
 refine ay func52 J ntmps52 J fun w0 M H=> ?_
 unfold Qg.sz at hz;refine aT ?_;refine bV [10,11,12,13,14,15,16,17,18,19,20,21,22,23,24,25] _ J (bk (V:= [(0,10,_),(1,11,_),(2,12,_),(3,13,_),(4,14,_),(5,15,_),(6,16,_),(7,17,_),(8,18,_),(9,19,_),(10,20,_),(11,21,_)]) [0,1,2,3,4,5,6,7,8,9,10,11] 12 [12,11,10,9,8,7,6,5] [] (fun v22=> []) J J (aK J J (aK J J (ad J (av J) (ad J (ah oA J) (ad J (ag Ec J J (aB (k:=0) J J)) (aK J J (ad J (av J) (ad J (ah kJ J) (ad J (ag zG J J (aB (k:=0) J J)) (ad J (aZ underlying106 J (bp (k:=1) J)) (aK J J (ad J (aW (parts:= [(0,.tmp 19),(1,.tmp 20)]) wo JX J J) au)))))))))))) J J J J J J J J J J J (fun _ _=>J) J (gq tO (((s.code.length:Nat):Int),l) underlying107 wo J (by decide) (by decide) J J J) (fun v22 _=>bk [0,1,2,3,4] 13 [13,12,11,10,9,8,7,6,5,4,3,2,1] [14,15] (fun v23=> [(14,24,_),(15,25,_)]) J J (aK J J (aK J J (ad J (av J) (ad J (ah oA J) (ad J (ag Ec J J (aB (k:=0) J J)) au))))) J J J J J J J J J J J (fun _ _=>J) J (kv 2 underlying107 wo J (by decide) (fun _=>J) (fun _=>J) J J J (bp (k:=22) J) (by first|omega|(simp;done)|(simp;omega)) (by unfold maxLen;first|omega|(simp;done)|(simp;omega))) (fun v23 _=>bR [14,15,0] 16 [16,15,14,13,12,11,10,9,8,7,6,5,4,3,2,1,0] [] (fun _=> []) J J (ad J (av J) (ad J (ah oA J) (aK J J au))) J J J J J J J J J (fun _ _=>J) J (db (k:=0) Ec J J J J J J J J) (fun _ _=>br [] J J au J J J ?_))));refine aj (ab J (ab J (ab J (ab J (aJ (aW (parts:= [(0,.tmp 27),(1,.tmp 28),(2,.tmp 29)]) ey k8 J J) (bH gM (qi op d a 0) underlying106 ey J (by decide) (by decide) J J J J fun v31=>cq 31 7 J bI (ae (xs:= [.tmp 26,.tmp 31]) (ql g vp vc v23 vl ms mo mp en {s with fixes:=s.fixes++ [((s.code.length:Int),l)]} (by unfold Qg.sz;simp;omega) v31 [qi op d a 0] (by simp)) vC [0,1,2,3] [(false,7)] [0,1,2,3] (fun vd _=>aa (bP (vd,v23) O J fw J [0,1,2,3] [] J J J)))))))))
theorem eY(e:Ga)(s:Qg)(hz:s.sz≤940000)(op d a l:Int):
  aN prog 52 [Pt e.g,I6 op,I6 d,I6 a,I6 l] [gA e s] [] (.tuple #[]) [gA e (s.jump op d a l)]:=by
 exact Spec.map (fun _=>()) (fun _ _=>O) (fun _=>J) (fun _=>J) (fun _=>J) (yH (L:= []) (L1:= []) (fun a(x:SV×SV)=>(x.1,x.2,a.2.2)) fun vc vf vl=>xd e.g e.vp vc vf vl e.ms e.mo e.mp e.en s (by omega) op d a l)
theorem cJ(e:Ga)(s:Qg)(hz:s.sz≤940000)(op d a n:Int):
  aN prog 51 [Pt e.g,I6 op,I6 d,I6 a,I3 n] [gA e s] [] (.tuple #[]) [gA e (s.emit [qi op d a n])]:=by
 refine ay func51 J ntmps51 J fun w0 M H=>aj (ab J (ab J (ab J (ab J (ab J (aJ (aW (parts:= [(0,.tmp 11),(1,.tmp 12),(2,.tmp 13),(4,.tmp 14)]) ey k8 J J) (bH gM (qi op d a n) underlying106 ey J (by decide) (by decide) J J J J fun v16=>cq 16 7 J bI (ae (xs:= [.tmp 10,.tmp 16]) (gr e (s) (hz) v16 [qi op d a n] (by simp)) vC [0] [(false,7)] [0] (fun _ _=>aa (bP () O J fw J [0] [] J J J))))))))))
theorem cS(e:Ga)(s:Qg)(hz:s.sz≤940000)(op d a b:Int):
  aN prog 86 [Pt e.g,I6 op,I6 d,I6 a,I6 b] [gA e s] [] (.tuple #[]) [gA e (s.emit [q3 op d a b])]:=by
 refine ay func86 J ntmps86 J fun w0 M H=>aj (ab J (ab J (ab J (ab J (ab J (aJ (aW (parts:= [(0,.tmp 11),(1,.tmp 12),(2,.tmp 13),(3,.tmp 14)]) ey k8 J J) (bH gM (q3 op d a b) underlying106 ey J (by decide) (by decide) J J J J fun v16=>cq 16 7 J bI (ae (xs:= [.tmp 10,.tmp 16]) (gr e (s) (hz) v16 [q3 op d a b] (by simp)) vC [0] [(false,7)] [0] (fun _ _=>aa (bP () O J fw J [0] [] J J J))))))))))
theorem bl(s:Qg)(l:List Qi):(s.emit l).sz=s.sz+l.length:=by
 unfold Qg.sz Qg.emit;simp only [bQ];omega
theorem cr(s:Qg)(r:Int):(s.push r).sz=s.sz+2:=by
 unfold Qg.push;rw [bl,bl];rfl
theorem dj(s:Qg)(r:Int):(s.pop r).sz=s.sz+2:=by
 unfold Qg.pop;rw [bl,bl];rfl
theorem cV(s:Qg)(r:Int):(s.elem r).sz=s.sz+2:=by
 unfold Qg.elem;rw [bl,bl];rfl
theorem bZ(s:Qg):s.lab.sz=s.sz+1:=by
 unfold Qg.sz Qg.lab;simp only [bQ,dP];omega
theorem bz(s:Qg)(l:Int):(s.place l).sz=s.sz:=by
 unfold Qg.sz Qg.place;rw [List.length_set]
theorem bA(s:Qg)(op d a l:Int):(s.jump op d a l).sz=s.sz+2:=by
 unfold Qg.sz Qg.jump;simp only [bQ,dP];omega
theorem ib(e:Ga)(s:Qg)(hz:s.sz≤800000)(r:Int):
  aN prog 95 [Pt e.g,I6 r] [gA e s] [] (.tuple #[]) [gA e (s.push r)]:=by
 refine ay func95 J ntmps95 J fun w0 M H=>am (ab J (ae (xs:= [.tmp 4,.const (I6 16),.const (I6 14),.const (I6 14),.const (I3 4294967292)]) (cJ e (s) (by omega) 16 14 14 4294967292) iM [0] [] [0] (fun _ _=>aa (aj (ab J (ab J (ae (xs:= [.tmp 6,.const (I6 25),.tmp 7,.const (I6 14),.const (I3 0)]) (cJ e (s.emit [qi 16 14 14 4294967292]) (by rw [bl];simp;omega) 25 r 14 0) iM [0] [] [0] (fun _ _=>aa (bP () O J fw J [0] [] J J J)))))))))
theorem mb(e:Ga)(s:Qg)(hz:s.sz≤800000)(r:Int):
  aN prog 97 [Pt e.g,I6 r] [gA e s] [] (.tuple #[]) [gA e (s.pop r)]:=by
 refine ay func97 J ntmps97 J fun w0 M H=>am (ab J (ab J (ae (xs:= [.tmp 4,.const (I6 23),.tmp 5,.const (I6 14),.const (I3 0)]) (cJ e (s) (by omega) 23 r 14 0) iM [0] [] [0] (fun _ _=>aa (aj (ab J (ae (xs:= [.tmp 7,.const (I6 16),.const (I6 14),.const (I6 14),.const (I3 4)]) (cJ e (s.emit [qi 23 r 14 0]) (by rw [bl];simp;omega) 16 14 14 4) iM [0] [] [0] (fun _ _=>aa (bP () O J fw J [0] [] J J J)))))))))
theorem rU(e:Ga)(s:Qg)(hz:s.sz≤800000)(r:Int):
  aN prog 168 [Pt e.g,I6 r] [gA e s] [] (.tuple #[]) [gA e (s.elem r)]:=by
 refine ay func168 J ntmps168 J fun w0 M H=>am (ab J (ab J (ab J (ae (xs:= [.tmp 4,.const (I6 17),.tmp 5,.tmp 6,.const (I3 255)]) (cJ e (s) (by omega) 17 r r 255) iM [0] [] [0] (fun _ _=>aa (aj (ab J (ab J (ab J (ae (xs:= [.tmp 8,.const (I6 20),.tmp 9,.tmp 10,.const (I3 2)]) (cJ e (s.emit [qi 17 r r 255]) (by rw [bl];simp;omega) 20 r r 2) iM [0] [] [0] (fun _ _=>aa (bP () O J fw J [0] [] J J J))))))))))))
abbrev cf(n:Nat)(l:List Nat):Value:= .func (.func n) #[] (l.map fun b=>Value.pointer (some ⟨b,0,none⟩)).toArray
theorem fH(e:Ga)(s:Qg)(hz:s.sz≤900000)(bg:Nat)(bo:Nat)(op:Int):
  aN prog 85 [Pt bg,Pt bo] [gA e s] [aO bg 104 [Pt e.g],aO bo 3 [I6 op]] (.tuple #[]) [gA e (s.emit [q3 op 1 2 1])]:=by
 refine ay func85 J ntmps85 J fun w0 M H=>aj (aJ (ag jW J J (cM (k:=0) J J)) (aJ (ag t3 J J (cM (k:=1) J J)) (ae (xs:= [.tmp 2,.tmp 3,.const (I6 1),.const (I6 2),.const (I6 1)]) (cS e (s) (by omega) op 1 2 1) lK [0] [] [0] (fun _ _=>aa (bP () O J fw J [0] [] J J J)))))
theorem vG(e:Ga)(s:Qg)(hz:s.sz≤900000)(bg:Nat):
  aN prog 87 [Pt bg] [gA e s] [aO bg 104 [Pt e.g]] (.tuple #[]) [gA e (s.emit [q3 11 1 1 2])]:=by
 refine ay func87 J ntmps87 J fun w0 M H=>aj (aJ (ag jW J J (cM (k:=0) J J)) (ae (xs:= [.tmp 1,.const (I6 11),.const (I6 1),.const (I6 1),.const (I6 2)]) (cS e (s) (by omega) 11 1 1 2) lK [0] [] [0] (fun _ _=>aa (bP () O J fw J [0] [] J J J))))
theorem vF(e:Ga)(s:Qg)(hz:s.sz≤900000)(bg:Nat):
  aN prog 90 [Pt bg] [gA e s] [aO bg 104 [Pt e.g]] (.tuple #[]) [gA e ((s.emit [q3 5 1 2 1]).emit [q3 11 1 0 1])]:=by
 refine ay func90 J ntmps90 J fun w0 M H=>am (aJ (ag jW J J (cM (k:=0) J J)) (ae (xs:= [.tmp 1,.const (I6 5),.const (I6 1),.const (I6 2),.const (I6 1)]) (cS e (s) (by omega) 5 1 2 1) lK [0] [] [0] (fun _ _=>aa (aj (aJ (ag jW J J (cM (k:=0) J J)) (ae (xs:= [.tmp 3,.const (I6 11),.const (I6 1),.const (I6 0),.const (I6 1)]) (cS e (s.emit [q3 5 1 2 1]) (by rw [bl];simp;omega) 11 1 0 1) lK [0] [] [0] (fun _ _=>aa (bP () O J fw J [0] [] J J J))))))))
theorem Dv(e:Ga)(s:Qg)(hz:s.sz≤900000)(bg:Nat):
  aN prog 91 [Pt bg] [gA e s] [aO bg 104 [Pt e.g]] (.tuple #[]) [gA e (((s.lab.jump 32 1 0 s.labs.length).emit [q3 10 1 2 1]).place s.labs.length)]:=by
 refine ay func91 J ntmps91 J fun w0 M H=>am (aJ (ag jW J J (cM (k:=0) J J)) (ae (xs:= [.tmp 2]) (eM e s (by omega)) tG [0] [] [0] (fun _ _=>ao J (aw J (aJ (ag jW J J (cM (k:=0) J J)) (ab J (ae (xs:= [.tmp 4,.const (I6 32),.const (I6 1),.const (I6 0),.tmp 5]) (eY e (s.lab) (by simp only [bl,bZ,bA,bz,dP];omega) 32 1 0 (s.labs.length:Int)) q_ [0] [] [0] (fun _ _=>aw J (aJ (ag jW J J (cM (k:=0) J J)) (ae (xs:= [.tmp 7,.const (I6 10),.const (I6 1),.const (I6 2),.const (I6 1)]) (cS e (s.lab.jump 32 1 0 s.labs.length) (by simp only [bl,bZ,bA,bz,dP];omega) 10 1 2 1) lK [0] [] [0] (fun _ _=>aa (aj (aJ (ag jW J J (cM (k:=0) J J)) ?_)))))))))))))
 refine ab J (ae (xs:= [.tmp 9,.tmp 10]) (dW e ((s.lab.jump 32 1 0 s.labs.length).emit [q3 10 1 2 1]) (by simp only [bl,bZ,bA,bz,dP];omega) (s.labs.length:Int) (by simp [Qg.lab,Qg.jump,Qg.emit];omega)) qz [0] [] [0] (fun _ _=>aa (bP () O J fw J [0] [] J J J)))
theorem Du(e:Ga)(s:Qg)(hz:s.sz≤900000)(bg:Nat):
  aN prog 93 [Pt bg] [gA e s] [aO bg 104 [Pt e.g]] (.tuple #[]) [gA e ((((((s.lab.emit [q3 1 3 1 0]).jump 32 1 0 s.labs.length).emit [q3 10 3 2 1]).emit [q3 9 3 3 1]).place s.labs.length).emit [q3 2 1 2 3])]:=by
 refine ay func93 J ntmps93 J fun w0 M H=>am (aJ (ag jW J J (cM (k:=0) J J)) (ae (xs:= [.tmp 2]) (eM e s (by omega)) tG [0] [] [0] (fun _ _=>ao J (aw J (aJ (ag jW J J (cM (k:=0) J J)) (ae (xs:= [.tmp 4,.const (I6 1),.const (I6 3),.const (I6 1),.const (I6 0)]) (cS e (s.lab) (by simp only [bl,bZ,bA,bz,dP];omega) 1 3 1 0) lK [0] [] [0] (fun _ _=>aw J (aJ (ag jW J J (cM (k:=0) J J)) (ab J (ae (xs:= [.tmp 6,.const (I6 32),.const (I6 1),.const (I6 0),.tmp 7]) (eY e (s.lab.emit [q3 1 3 1 0]) (by simp only [bl,bZ,bA,bz,dP];omega) 32 1 0 (s.labs.length:Int)) q_ [0] [] [0] (fun _ _=>aw J ?_)))))))))))
 refine aJ (ag jW J J (cM (k:=0) J J)) (ae (xs:= [.tmp 9,.const (I6 10),.const (I6 3),.const (I6 2),.const (I6 1)]) (cS e ((s.lab.emit [q3 1 3 1 0]).jump 32 1 0 s.labs.length) (by simp only [bl,bZ,bA,bz,dP];omega) 10 3 2 1) lK [0] [] [0] (fun _ _=>aw J (aJ (ag jW J J (cM (k:=0) J J)) (ae (xs:= [.tmp 11,.const (I6 9),.const (I6 3),.const (I6 3),.const (I6 1)]) (cS e (((s.lab.emit [q3 1 3 1 0]).jump 32 1 0 s.labs.length).emit [q3 10 3 2 1]) (by simp only [bl,bZ,bA,bz,dP];omega) 9 3 3 1) lK [0] [] [0] (fun _ _=>aw J (aJ (ag jW J J (cM (k:=0) J J)) (ab J (ae (xs:= [.tmp 13,.tmp 14]) (dW e ((((s.lab.emit [q3 1 3 1 0]).jump 32 1 0 s.labs.length).emit [q3 10 3 2 1]).emit [q3 9 3 3 1]) (by simp only [bl,bZ,bA,bz,dP];omega) (s.labs.length:Int) (by simp [Qg.lab,Qg.jump,Qg.emit];omega)) qz [0] [] [0] (fun _ _=>aa (aj (aJ (ag jW J J (cM (k:=0) J J)) (ae (xs:= [.tmp 16,.const (I6 2),.const (I6 1),.const (I6 2),.const (I6 3)]) (cS e (((((s.lab.emit [q3 1 3 1 0]).jump 32 1 0 s.labs.length).emit [q3 10 3 2 1]).emit [q3 9 3 3 1]).place s.labs.length) (by simp only [bl,bZ,bA,bz,dP];omega) 2 1 2 3) lK [0] [] [0] (fun _ _=>aa (bP () O J fw J [0] [] J J J))))))))))))))
theorem sa(e:Ga)(s:Qg)(hz:s.sz≤900000)(bg:Nat)(bf n:Nat)(s1:Qg)(hz1:s1.sz≤910000)(hcb:Cb prog n)(hs:Spec prog n ([bg].map fun b=>Value.pointer (some ⟨b,0,none⟩)) [gA e s] [aO bg 104 [Pt e.g]] (X:=Unit) (fun _=>True) (fun _=> .tuple #[]) (fun _=> [gA e s1]) (fun _=> [])):
  aN prog 89 [Pt bf,Pt bg] [gA e s] [aO bf 1 [cf n [bg]],aO bg 104 [Pt e.g]] (.tuple #[]) [gA e (s1.emit [qi 19 1 1 1])]:=by
 refine ay func89 J ntmps89 J fun w0 M H=>am (aJ (ag t1 J J (cM (k:=0) J J)) (ae (xs:= []) hs hcb [0] [(false,1)] [0] (fun _ _=>aa (aj (aJ (ag jW J J (cM (k:=1) J J)) (ae (xs:= [.tmp 4,.const (I6 19),.const (I6 1),.const (I6 1),.const (I3 1)]) (cJ e s1 (by omega) 19 1 1 1) iM [0] [] [0] (fun _ _=>aa (bP () O J fw J [0] [] J J J))))))))
theorem AJ(e:Ga)(s:Qg)(hz:s.sz≤900000)(bg:Nat)(bo:Nat)(bf n:Nat)(s1:Qg)(hz1:s1.sz≤910000)(hcb:Cb prog n)(hs:Spec prog n ([bg,bo].map fun b=>Value.pointer (some ⟨b,0,none⟩)) [gA e s] [aO bg 104 [Pt e.g],aO bo 3 [I6 11]] (X:=Unit) (fun _=>True) (fun _=> .tuple #[]) (fun _=> [gA e s1]) (fun _=> [])):
  aN prog 89 [Pt bf,Pt bg] [gA e s] [aO bf 1 [cf n [bg,bo]],aO bg 104 [Pt e.g],aO bo 3 [I6 11]] (.tuple #[]) [gA e (s1.emit [qi 19 1 1 1])]:=by
 refine ay func89 J ntmps89 J fun w0 M H=>am (aJ (ag t1 J J (cM (k:=0) J J)) (ae (xs:= []) hs hcb [0] [(false,1),(false,2)] [0] (fun _ _=>aa (aj (aJ (ag jW J J (cM (k:=1) J J)) (ae (xs:= [.tmp 4,.const (I6 19),.const (I6 1),.const (I6 1),.const (I3 1)]) (cJ e s1 (by omega) 19 1 1 1) iM [0] [] [0] (fun _ _=>aa (bP () O J fw J [0] [] J J J))))))))
structure Oq where
 m:Nat
 bg:Nat
 b0:Nat
 b1:Nat
 b2:Nat
 b3:Nat
 b4:Nat
 b5:Nat
 b6:Nat
 b7:Nat
 b8:Nat
 b9:Nat
 f0:Nat
 f1:Nat
 f2:Nat
def Od(c:Oq):List (Ba×Value):= [(kO,cf 93 [c.bg]),(jI,cf 91 [c.bg]),(lQ,cf 89 [c.f2,c.bg]),(lN,cf 90 [c.bg]),(mZ,cf 89 [c.f1,c.bg]),(lO,cf 89 [c.f0,c.bg]),(lP,cf 87 [c.bg]),(kP,cf 85 [c.bg,c.b8]),(fY,cf 85 [c.bg,c.b7]),(fM,cf 85 [c.bg,c.b6]),(eD,cf 85 [c.bg,c.b5]),(iW,cf 85 [c.bg,c.b4]),(eB,cf 85 [c.bg,c.b3]),(fN,cf 85 [c.bg,c.b2]),(ep,cf 85 [c.bg,c.b1]),(fh,cf 85 [c.bg,c.b0])]
def J6(g:Nat)(c:Oq):List Asn:= [mp fG Prod.fst Prod.snd (some c.m) (Od c),aO c.bg 104 [Pt g],aO c.b0 3 [I6 1],aO c.b1 3 [I6 2],aO c.b2 3 [I6 9],aO c.b3 3 [I6 3],aO c.b4 3 [I6 4],aO c.b5 3 [I6 5],aO c.b6 3 [I6 6],aO c.b7 3 [I6 7],aO c.b8 3 [I6 11],aO c.b9 3 [I6 11],aO c.f0 1 [cf 87 [c.bg]],aO c.f1 1 [cf 85 [c.bg,c.b9]],aO c.f2 1 [cf 90 [c.bg]]]
theorem AllIn.stable{w w':World}{F:Nat→Prop}(hs:∀b,F b→w'.heap[b]?=w.heap[b]?):∀{L:List Asn},AllIn w F L→AllIn w' F L
 | [],_=>trivial
 | A::r,h=>⟨h.1.elim fun G hG=>⟨G,A.stable hG.1 fun b hb=>hs b (hG.2 b hb),hG.2⟩,AllIn.stable hs h.2⟩
theorem AllIn.get{w:World}{F:Nat→Prop}:∀{L:List Asn}{i:Nat}{A:Asn},AllIn w F L→L[i]?=some A→∃G:Nat→Prop,A.pred w G∧∀b,G b→F b
 | [],i,A,_,h=>by simp at h
 | B::r,0,A,h,hi=>by cases hi;exact h.1
 | B::r,i+1,A,h,hi=>AllIn.get h.2 hi
def g9(g:Nat)(c:Oq):Asn:=⟨fun w F=>AllIn w F (J6 g c),fun h hs=>h.stable hs⟩
theorem BQ{g:Nat}{c:Oq}{A:Asn}(i:Nat)(h:(J6 g c)[i]?=some A):∀w G,(g9 g c).pred w G→(∀b,G b→b<w.heap.size)→∃G',A.pred w G'∧∀b,G' b→G b:=fun w G h2 _=>h2.get h
theorem Hz{g:Nat}{c:Oq}:∀w F,AllIn w F (J6 g c)→(g9 g c).pred w F:=fun _ _ h=>h
theorem fI(bg:Nat)(op:Int):
  Spec prog 84 [I6 op,Pt bg] [] [] (X:=Nat) (fun _=>True) (fun b=>cf 85 [bg,b]) (fun b=> [aO b 3 [I6 op]]) (fun _=> []):=by
 refine ay func84 J ntmps84 J fun w0 M H=>am (mU J J J fun b2=>ao J (aw J (aJ (d5 (first:= []) (cap:= [.tmp 1,.tmp 2]) J J) (ao J (aa (ar (aG b2 O J (bU (aD J)) J [2] [] J J J)))))))
theorem qC(bg:Nat)(n:Nat)(l:List Nat):
  Spec prog 88 [cf n l,Pt bg] [] [] (X:=Nat) (fun _=>True) (fun b=>cf 89 [b,bg]) (fun b=> [aO b 1 [cf n l]]) (fun _=> []):=by
 refine ay func88 J ntmps88 J fun w0 M H=>am (mU J J J fun b2=>ao J (aw J (aJ (d5 (first:= []) (cap:= [.tmp 2,.tmp 1]) J J) (ao J (aa (ar (aG b2 O J (bU (aD J)) J [2] [] J J J)))))))
theorem BP(g:Nat):
  Spec prog 49 [Pt g] [] [] (X:=Oq) (fun _=>True) (fun c=> .map (some c.m)) (fun c=> [g9 g c]) (fun _=> []):=by
 refine ay func49 J ntmps49 J fun w0 M H=>am (mU J J J fun b1=>ao J (aw J (aJ (d5 (first:= []) (cap:= [.tmp 1]) J J) (ao J (aw J (aJ (d5 (first:= []) (cap:= [.tmp 1]) J J) (ao J (aw J (aJ (d5 (first:= []) (cap:= [.tmp 1]) J J) (ao J ?_))))))))))
 refine aw J (aJ (d5 (first:= []) (cap:= [.tmp 1]) J J) (ao J (aw J (ko (Prod.fst:Ba×Value→Ba) fG Prod.snd J fun b11=>ab J (ae (xs:= [.const (I6 1)]) (fI b1 1) qZ [] [] [60] (fun p0 _=>bW (k:=11) (α:=Ba×Value) (kf:=Prod.fst) (vf:=Prod.snd) (fh,cf 85 [b1,p0]) [(fh,cf 85 [b1,p0])] underlying109 eo J J J J (List.Perm.of_eq J) (ab J (ae (xs:= [.const (I6 2)]) (fI b1 2) qZ [] [] [61] (fun p1 _=>bW (k:=11) (α:=Ba×Value) (kf:=Prod.fst) (vf:=Prod.snd) (ep,cf 85 [b1,p1]) [(ep,cf 85 [b1,p1]),(fh,cf 85 [b1,p0])] underlying109 eo J J J J (List.Perm.of_eq J) (ab J (ae (xs:= [.const (I6 9)]) (fI b1 9) qZ [] [] [62] (fun p2 _=>bW (k:=11) (α:=Ba×Value) (kf:=Prod.fst) (vf:=Prod.snd) (fN,cf 85 [b1,p2]) [(fN,cf 85 [b1,p2]),(ep,cf 85 [b1,p1]),(fh,cf 85 [b1,p0])] underlying109 eo J J J J (List.Perm.of_eq J) (ab J (ae (xs:= [.const (I6 3)]) (fI b1 3) qZ [] [] [63] (fun p3 _=> ?_)))))))))))))))
 refine bW (k:=11) (α:=Ba×Value) (kf:=Prod.fst) (vf:=Prod.snd) (eB,cf 85 [b1,p3]) [(eB,cf 85 [b1,p3]),(fN,cf 85 [b1,p2]),(ep,cf 85 [b1,p1]),(fh,cf 85 [b1,p0])] underlying109 eo J J J J (List.Perm.of_eq J) (ab J (ae (xs:= [.const (I6 4)]) (fI b1 4) qZ [] [] [64] (fun p4 _=>bW (k:=11) (α:=Ba×Value) (kf:=Prod.fst) (vf:=Prod.snd) (iW,cf 85 [b1,p4]) [(iW,cf 85 [b1,p4]),(eB,cf 85 [b1,p3]),(fN,cf 85 [b1,p2]),(ep,cf 85 [b1,p1]),(fh,cf 85 [b1,p0])] underlying109 eo J J J J (List.Perm.of_eq J) (ab J (ae (xs:= [.const (I6 5)]) (fI b1 5) qZ [] [] [65] (fun p5 _=>bW (k:=11) (α:=Ba×Value) (kf:=Prod.fst) (vf:=Prod.snd) (eD,cf 85 [b1,p5]) [(eD,cf 85 [b1,p5]),(iW,cf 85 [b1,p4]),(eB,cf 85 [b1,p3]),(fN,cf 85 [b1,p2]),(ep,cf 85 [b1,p1]),(fh,cf 85 [b1,p0])] underlying109 eo J J J J (List.Perm.of_eq J) (ab J (ae (xs:= [.const (I6 6)]) (fI b1 6) qZ [] [] [66] (fun p6 _=>bW (k:=11) (α:=Ba×Value) (kf:=Prod.fst) (vf:=Prod.snd) (fM,cf 85 [b1,p6]) [(fM,cf 85 [b1,p6]),(eD,cf 85 [b1,p5]),(iW,cf 85 [b1,p4]),(eB,cf 85 [b1,p3]),(fN,cf 85 [b1,p2]),(ep,cf 85 [b1,p1]),(fh,cf 85 [b1,p0])] underlying109 eo J J J J (List.Perm.of_eq J) (ab J (ae (xs:= [.const (I6 7)]) (fI b1 7) qZ [] [] [67] (fun p7 _=>bW (k:=11) (α:=Ba×Value) (kf:=Prod.fst) (vf:=Prod.snd) (fY,cf 85 [b1,p7]) [(fY,cf 85 [b1,p7]),(fM,cf 85 [b1,p6]),(eD,cf 85 [b1,p5]),(iW,cf 85 [b1,p4]),(eB,cf 85 [b1,p3]),(fN,cf 85 [b1,p2]),(ep,cf 85 [b1,p1]),(fh,cf 85 [b1,p0])] underlying109 eo J J J J (List.Perm.of_eq J) (ab J (ae (xs:= [.const (I6 11)]) (fI b1 11) qZ [] [] [68] (fun p8 _=>bW (k:=11) (α:=Ba×Value) (kf:=Prod.fst) (vf:=Prod.snd) (kP,cf 85 [b1,p8]) [(kP,cf 85 [b1,p8]),(fY,cf 85 [b1,p7]),(fM,cf 85 [b1,p6]),(eD,cf 85 [b1,p5]),(iW,cf 85 [b1,p4]),(eB,cf 85 [b1,p3]),(fN,cf 85 [b1,p2]),(ep,cf 85 [b1,p1]),(fh,cf 85 [b1,p0])] underlying109 eo J J J J (List.Perm.of_eq J) ?_)))))))))))))))
 refine ab J (bW (k:=11) (α:=Ba×Value) (kf:=Prod.fst) (vf:=Prod.snd) (lP,cf 87 [b1]) [(lP,cf 87 [b1]),(kP,cf 85 [b1,p8]),(fY,cf 85 [b1,p7]),(fM,cf 85 [b1,p6]),(eD,cf 85 [b1,p5]),(iW,cf 85 [b1,p4]),(eB,cf 85 [b1,p3]),(fN,cf 85 [b1,p2]),(ep,cf 85 [b1,p1]),(fh,cf 85 [b1,p0])] underlying109 eo J J J J (List.Perm.of_eq J) (ab J (ab J (ae (xs:= [.tmp 32]) (qC b1 87 [b1]) IH [] [] [70] (fun q0 _=>bW (k:=11) (α:=Ba×Value) (kf:=Prod.fst) (vf:=Prod.snd) (lO,cf 89 [q0,b1]) [(lO,cf 89 [q0,b1]),(lP,cf 87 [b1]),(kP,cf 85 [b1,p8]),(fY,cf 85 [b1,p7]),(fM,cf 85 [b1,p6]),(eD,cf 85 [b1,p5]),(iW,cf 85 [b1,p4]),(eB,cf 85 [b1,p3]),(fN,cf 85 [b1,p2]),(ep,cf 85 [b1,p1]),(fh,cf 85 [b1,p0])] underlying109 eo J J J J (List.Perm.of_eq J) (ab J (ab J (ae (xs:= [.const (I6 11)]) (fI b1 11) qZ [] [] [69] (fun p9 _=>ae (xs:= [.tmp 36]) (qC b1 85 [b1,p9]) IH [] [] [71] (fun q1 _=>bW (k:=11) (α:=Ba×Value) (kf:=Prod.fst) (vf:=Prod.snd) (mZ,cf 89 [q1,b1]) [(mZ,cf 89 [q1,b1]),(lO,cf 89 [q0,b1]),(lP,cf 87 [b1]),(kP,cf 85 [b1,p8]),(fY,cf 85 [b1,p7]),(fM,cf 85 [b1,p6]),(eD,cf 85 [b1,p5]),(iW,cf 85 [b1,p4]),(eB,cf 85 [b1,p3]),(fN,cf 85 [b1,p2]),(ep,cf 85 [b1,p1]),(fh,cf 85 [b1,p0])] underlying109 eo J J J J (List.Perm.of_eq J) (ab J (bW (k:=11) (α:=Ba×Value) (kf:=Prod.fst) (vf:=Prod.snd) (lN,cf 90 [b1]) [(lN,cf 90 [b1]),(mZ,cf 89 [q1,b1]),(lO,cf 89 [q0,b1]),(lP,cf 87 [b1]),(kP,cf 85 [b1,p8]),(fY,cf 85 [b1,p7]),(fM,cf 85 [b1,p6]),(eD,cf 85 [b1,p5]),(iW,cf 85 [b1,p4]),(eB,cf 85 [b1,p3]),(fN,cf 85 [b1,p2]),(ep,cf 85 [b1,p1]),(fh,cf 85 [b1,p0])] underlying109 eo J J J J (List.Perm.of_eq J) (ab J (ab J (ae (xs:= [.tmp 40]) (qC b1 90 [b1]) IH [] [] [72] (fun q2 _=> ?_))))))))))))))))
 refine bW (k:=11) (α:=Ba×Value) (kf:=Prod.fst) (vf:=Prod.snd) (lQ,cf 89 [q2,b1]) [(lQ,cf 89 [q2,b1]),(lN,cf 90 [b1]),(mZ,cf 89 [q1,b1]),(lO,cf 89 [q0,b1]),(lP,cf 87 [b1]),(kP,cf 85 [b1,p8]),(fY,cf 85 [b1,p7]),(fM,cf 85 [b1,p6]),(eD,cf 85 [b1,p5]),(iW,cf 85 [b1,p4]),(eB,cf 85 [b1,p3]),(fN,cf 85 [b1,p2]),(ep,cf 85 [b1,p1]),(fh,cf 85 [b1,p0])] underlying109 eo J J J J (List.Perm.of_eq J) (aJ (d5 (first:= []) (cap:= [.tmp 1]) J J) (bW (k:=11) (α:=Ba×Value) (kf:=Prod.fst) (vf:=Prod.snd) (jI,cf 91 [b1]) [(jI,cf 91 [b1]),(lQ,cf 89 [q2,b1]),(lN,cf 90 [b1]),(mZ,cf 89 [q1,b1]),(lO,cf 89 [q0,b1]),(lP,cf 87 [b1]),(kP,cf 85 [b1,p8]),(fY,cf 85 [b1,p7]),(fM,cf 85 [b1,p6]),(eD,cf 85 [b1,p5]),(iW,cf 85 [b1,p4]),(eB,cf 85 [b1,p3]),(fN,cf 85 [b1,p2]),(ep,cf 85 [b1,p1]),(fh,cf 85 [b1,p0])] underlying109 eo J J J J (List.Perm.of_eq J) (aJ (d5 (first:= []) (cap:= [.tmp 1]) J J) (bW (k:=11) (α:=Ba×Value) (kf:=Prod.fst) (vf:=Prod.snd) (kO,cf 93 [b1]) [(kO,cf 93 [b1]),(jI,cf 91 [b1]),(lQ,cf 89 [q2,b1]),(lN,cf 90 [b1]),(mZ,cf 89 [q1,b1]),(lO,cf 89 [q0,b1]),(lP,cf 87 [b1]),(kP,cf 85 [b1,p8]),(fY,cf 85 [b1,p7]),(fM,cf 85 [b1,p6]),(eD,cf 85 [b1,p5]),(iW,cf 85 [b1,p4]),(eB,cf 85 [b1,p3]),(fN,cf 85 [b1,p2]),(ep,cf 85 [b1,p1]),(fh,cf 85 [b1,p0])] underlying109 eo J J J J (List.Perm.of_eq J) (ab J (ao J (aa (ar (bL 90 [11,1,60,61,62,63,64,65,66,67,68,69,70,71,72] (L:=J6 g ⟨b11,b1,p0,p1,p2,p3,p4,p5,p6,p7,p8,p9,q0,q1,q2⟩) (C:=g9 g ⟨b11,b1,p0,p1,p2,p3,p4,p5,p6,p7,p8,p9,q0,q1,q2⟩) J Hz (aG ⟨b11,b1,p0,p1,p2,p3,p4,p5,p6,p7,p8,p9,q0,q1,q2⟩ O J (bU (aD J)) J [90] [] J J J))))))))))
def vS(z n:Int):Int:=IntKind.u32.wrap (IntKind.i32.wrap (wU (n*2^(32-z).toNat))/2^(32-z).toNat)
theorem Bo{n:Int}(h:0≤n∧n<4294967296):decide (vS 18 n=n)=gU n:=by
 unfold vS gU wU;rw [show((32:Int)-18).toNat=14 from J,←Bool.decide_or];simp only [IntKind.wrap_u32,IntKind.wrap_i32];refine decide_eq_decide.2 ?_;omega
theorem Hb{α:Type}{b o n:Nat}{S:TypeId}{c:List Value}{enc:α→List Value}{s:Nat}{l:List α}(hl:l.length=n)(hn:n≤maxLen)(hc:(c.drop o).take (l.flatMap enc).length=l.flatMap enc):∀w G,(aO b S c).pred w G→(sl s enc (sv ⟨some ⟨b,o,none⟩,n,n⟩) l).pred w G:=fun w G h=>by
 refine⟨n,by omega,hn,.inr ⟨b,o,by rw [hl];rfl,(h.1 b).2 rfl,fun j u hj=> ?_⟩⟩;simp only [World.cell?,h.2];rw [←hc,List.getElem?_take]at hj;split at hj
 ·rw [List.getElem?_drop]at hj;simpa using hj
 ·simp at hj
theorem Mc{b:Int}(hb:0≤b∧b<4294967296):bits .and .u32 b 1023=b%1024:=by
 have h1:bits .and .u32 b 1023=IntKind.u32.wrap (((BitVec.ofInt 32 b&&&BitVec.ofInt 32 1023).toNat:Nat):Int):=J;have h2:(BitVec.ofInt 32 b).toNat=b.toNat:=by
  rw [BitVec.toNat_ofInt,Int.emod_eq_of_lt hb.1 (by omega)]
 have h3:(BitVec.ofInt 32 1023).toNat=2^10-1:=by decide
 rw [h1,BitVec.toNat_and,h2,h3,Nat.and_two_pow_sub_one_eq_mod,bw (by omega)];omega
theorem Mb{b:Int}(hb:0≤b∧b<4294967296):bits .and .u32 b 262143=b%262144:=by
 have h1:bits .and .u32 b 262143=IntKind.u32.wrap (((BitVec.ofInt 32 b&&&BitVec.ofInt 32 262143).toNat:Nat):Int):=J;have h2:(BitVec.ofInt 32 b).toNat=b.toNat:=by
  rw [BitVec.toNat_ofInt,Int.emod_eq_of_lt hb.1 (by omega)]
 have h3:(BitVec.ofInt 32 262143).toNat=2^18-1:=by decide
 rw [h1,BitVec.toNat_and,h2,h3,Nat.and_two_pow_sub_one_eq_mod,bw (by omega)];omega
theorem Ma{b:Int}(hb:0≤b∧b<4294967296):bits .and .u32 b 4194303=b%4194304:=by
 have h1:bits .and .u32 b 4194303=IntKind.u32.wrap (((BitVec.ofInt 32 b&&&BitVec.ofInt 32 4194303).toNat:Nat):Int):=J;have h2:(BitVec.ofInt 32 b).toNat=b.toNat:=by
  rw [BitVec.toNat_ofInt,Int.emod_eq_of_lt hb.1 (by omega)]
 have h3:(BitVec.ofInt 32 4194303).toNat=2^22-1:=by decide
 rw [h1,BitVec.toNat_and,h2,h3,Nat.and_two_pow_sub_one_eq_mod,bw (by omega)];omega
theorem zL(n z:Int)(hn:0≤n∧n<4294967296)(hz:z=18∨z=22):
  aN prog 204 [I3 n,I6 z] [] [] (I3 (vS z n)) []:=by
 refine ay func204 J ntmps204 J fun w0 M H=>am (ao J (aa (aT (aC (am (ab J (ap J J cG (ao J (aa (ai J (fun h1=> ?_) (fun h1=> ?_)))))))))))
 ·exact absurd h1 (by simp;omega)
 ·(try simp only [aX]at h1);refine am (ab J (ap J J fp (ao J (aa (ai J (fun h2=> ?_) (fun h2=> ?_))))))
  ·exact absurd h2 (by simp;omega)
  ·(try simp only [aX]at h2);refine az (am (ab J (ab J (ap J J iF (ap J J (gV (by omega) (by first|decide|(simp [IntKind.bits];omega)) J) (aJ (bK underlying41 underlying21 J (by first|exact A0 (by omega) (by omega)|rfl)) (ab J (ap J J iF (ap J J (qD (by omega) (by first|decide|(simp [IntKind.bits];omega)) J) (aJ (bK underlying21 underlying41 J (by first|exact bw (by omega)|rfl)) (ao J (aa (ar (aG () O J (bU (aD J)) J [] [] J J J))))))))))))))
theorem rS(n z:Int)(hn:0≤n∧n<4294967296)(hz:z=18∨z=22):
  aN prog 190 [I3 n,I6 z] [] [] (.bool (decide (vS z n=n))) []:=by
 refine ay func190 J ntmps190 J fun w0 M H=>am (ao J (aw J (ab J (ab J (ae (xs:= [.tmp 5,.tmp 6]) (zL n z hn hz) Lf [] [] [] (fun _ _=>ab J (ap J J bj (ao J (aa (ar (aG () O J (bU (aD J)) J [] [] J J J)))))))))))
theorem xH(d n:Int)(hn:0≤n∧n<4294967296):
  aN prog 203 [I6 d,I3 n] [] [] (.agg (gM (qi 41 d 0 (n/1024))++gM (qi 18 d d (n%1024))).toArray) []:=by
 refine ay func203 J ntmps203 J fun w0 M H=>am (aU zB J J fun b4=>aw J (ab J (ab J (ap J J (qD (by decide) (by decide) (show n/2^(10:Int).toNat=n/1024 from J)) (aJ (aW (parts:= [(0,.const (I6 41)),(1,.tmp 5),(4,.tmp 7)]) ey k8 J J) (ab J (ab J (ab J (ap J J (vJ (Mc hn)) (aJ (aW (parts:= [(0,.const (I6 18)),(1,.tmp 9),(2,.tmp 10),(4,.tmp 12)]) ey k8 J J) (aJ (uy (D:= .bool) (vs:= [(0,.agg (gM (qi 41 d 0 (n/1024))).toArray),(1,.agg (gM (qi 18 d d (n%1024))).toArray)]) (cs:=(gM (qi 41 d 0 (n/1024))++gM (qi 18 d d (n%1024))).toArray) (parts:= [(0,.tmp 8),(1,.tmp 13)]) zB ey J (by kernel_rfl)) (aq (k:=4) zB J J J J J J (aa (ar ?_))))))))))))))
 refine aG () O J (bU (be zB J J J (bh (k:=4) J))) J [] [] J J J
theorem BS(e:Ga)(s:Qg)(hz:s.sz≤900000)(n:Int)(hn:0≤n∧n<4294967296):
  aN prog 189 [Pt e.g,I3 n] [gA e s] [] (.tuple #[]) [gA e (pZ n s)]:=by
 refine ay func189 J ntmps189 J fun w0 M H=>aR (ab J (ae (xs:= [.tmp 5,.const (I6 18)]) (rS n 18 hn (.inl J)) Gp [] [] [] (fun _ _=>aa (ai J (fun h1=> ?_) (fun h1=> ?_)))))
 ·have hf:gU n=true:=by rw [←Bo hn];exact h1
  rw [show pZ n s=s.emit [qi 16 1 0 n]from ak hf];refine am (ab J (ab J (ae (xs:= [.tmp 7,.const (I6 16),.const (I6 1),.const (I6 0),.tmp 8]) (cJ e s (by omega) 16 1 0 n) iM [0] [] [0] (fun _ _=>aa (ar (aG () O J fw J [0] [] J J J))))))
 ·have hf:gU n=false:=by rw [←Bo hn];exact h1
  rw [show pZ n s=s.emit [qi 41 1 0 (n/1024),qi 18 1 1 (n%1024)]from ac (by rw [hf];simp)];refine az (am (ab J (ae (xs:= [.const (I6 1),.tmp 10]) (xH 1 n hn) Lg [] [] [] (fun _ _=>aU zB J J fun b4=>aq (k:=4) zB J J J J J J (aa (aj (ab J (aJ (ka underlying281 ey J (by decide)) (cq 4 7 J (Hb (o:=0) (n:=2) (s:=5) (enc:=gM) (l:= [qi 41 1 0 (n/1024),qi 18 1 1 (n%1024)]) J (by decide) J) (ae (xs:= [.tmp 12,.tmp 13]) (gr e s (by omega) ⟨some ⟨b4,0,none⟩,2,2⟩ [qi 41 1 0 (n/1024),qi 18 1 1 (n%1024)] (by simp)) vC [0] [(false,7)] [0] (fun _ _=>aa (bP () O J fw J [0] [] J J J))))))))))))
structure Sh where
 k:Bool
 d:Bool
 a:Bool
 b:Bool
 kd:Int
 bt:Int
 mo:Int
deriving DecidableEq
def mJ:Sh:=⟨false,false,false,false,0,0,0⟩
def ni(s:Sh):List Value:= [.bool s.k,.bool s.d,.bool s.a,.bool s.b,I6 s.kd,I6 s.bt,I3 s.mo]
def lM(l:List Sh):List Value:=l.flatMap ni
theorem sr:∀l:List Sh,(lM l).length=l.length*7
 | []=>rfl
 | a::r=>by
  show(ni a++lM r).length=_;rw [bQ,sr r,ca,show(ni a).length=7 from J];omega
theorem yg:∀(l:List Sh)(j:Nat)(x:Sh),l[j]?=some x→((lM l).drop (j*7)).take 7=ni x
 | [],j,x,h=>by simp at h
 | a::r,0,x,h=>by cases h;rfl
 | a::r,j+1,x,h=>by
  show((ni a++lM r).drop ((j+1)*7)).take 7=_;rw [show(j+1)*7=(ni a).length+j*7 by rw [show(ni a).length=7 from J];omega,List.drop_append,List.drop_eq_nil_of_le (by omega),List.nil_append,Nat.add_sub_cancel_left];exact yg r j x h
theorem yf:∀(l:List Sh)(j:Nat)(x:Sh),j<l.length→(lM l).take (j*7)++ni x++(lM l).drop (j*7+7)=lM (l.set j x)
 | [],j,x,h=>absurd h (Nat.not_lt_zero _)
 | a::r,0,x,h=>by
  show(lM (a::r)).take 0++ni x++(ni a++lM r).drop 7=ni x++lM r;rfl
 | a::r,j+1,x,h=>by
  have ih:=yf r j x (Nat.lt_of_succ_lt_succ h);show(ni a++lM r).take ((j+1)*7)++ni x++(ni a++lM r).drop ((j+1)*7+7)=ni a++lM (r.set j x);have e7:(ni a).length=7:=J;rw [show(j+1)*7=(ni a).length+j*7 by omega,List.take_append,List.take_of_length_le (by omega),Nat.add_sub_cancel_left,show(ni a).length+j*7+7=(ni a).length+(j*7+7) by omega,List.drop_append,List.drop_eq_nil_of_le (by omega),List.nil_append,Nat.add_sub_cancel_left,←ih];simp only [List.append_assoc]
def bB(s:Sh):List Sh→List Int→List Sh
 | l,[]=>l
 | l,o::r=>bB s (l.set o.toNat {s with k:=true}) r
theorem dk(s:Sh):∀(l:List Sh)(r:List Int),(bB s l r).length=l.length
 | l,[]=>rfl
 | l,o::r=>by unfold bB;rw [dk s _ r,List.length_set]
theorem kn(s:Sh):∀(l:List Sh)(a b:List Int),bB s l (a++b)=bB s (bB s l a) b
 | l,[],b=>rfl
 | l,o::a,b=>kn s _ a b
def mj(lo n:Nat):List Int:=(List.range n).map fun i=>((lo+i:Nat):Int)
theorem uQ(lo n:Nat):mj lo (n+1)=mj lo n++ [((lo+n:Nat):Int)]:=by
 unfold mj;rw [List.range_succ,List.map_append];rfl
def wt:Sh:=⟨false,true,true,true,0,0,0⟩
def qH:Sh:=⟨false,true,true,false,1,18,0⟩
def DM:Sh:=⟨false,true,true,false,2,18,0⟩
def shL:List Sh:=
 bB ⟨false,false,true,false,2,18,4⟩ (bB ⟨false,true,false,false,2,18,3⟩ (bB ⟨false,false,true,false,0,0,0⟩ (bB mJ (bB ⟨false,false,false,false,2,18,0⟩ (bB ⟨false,true,false,false,2,22,0⟩ (bB ⟨false,true,false,false,1,22,0⟩
  (bB qH (bB DM (bB qH (bB wt (List.replicate 64 mJ) (mj 1 12)) (mj 16 12)) [17,18,19]) [32,33,34,35,36,37]) [40]) [41]) [48]) [49,50,51]) [52]) [53]) [54]
def cE(op:Int):Sh:=if 0≤op∧op<64 then shL.getD op.toNat mJ else mJ
theorem wn:TI prog 253 (.array 64 219) (.agg (lM (List.replicate 64 mJ)).toArray) 448 2048:=⟨underlying253,by kernel_rfl⟩
def fo(n:Int)(u:Bool):Bool:=decide (n=0) || (u&&decide (n>0)&&decide (n<16))
def jo(s:Sh)(n:Int):Bool:=if s.kd=0 then decide (n=0)else if s.kd=1 then decide (vS s.bt n=n)else if s.mo>0 then decide (n≤s.mo)else decide (n/2^s.bt.toNat=0)
def nN(i:Qi):Bool:=(cE i.op).k&&fo i.d (cE i.op).d&&fo i.a (cE i.op).a&&fo i.b (cE i.op).b&&jo (cE i.op) i.imm
theorem dV(ba:Nat)(s:Sh)(v:SV)(ops:List Int)(l:List Sh)(hb:∀o∈ops,0≤o∧o<64)(hl:l.length=64)(hol:ops.length≤100):
  aN prog 191 [.agg (ni s).toArray,sv v,Pt ba] [aO ba 253 (lM l)] [sl 1 eI (sv v) ops] (.tuple #[]) [aO ba 253 (lM (bB s l ops))]:=by
 refine ay func191 J ntmps191 J fun w0 M H=>am (cB J J fun b3=>aw J (aA y4 J (ax (k:=3) t4 J J J J J J J J (aw J (ab J (aJ (aZ underlying22 J (aP (k:=0) J)) (ab J (aa (aC (bC (X:=Nat) (fun i=>i≤ops.length) (fun i=> [(2,Pt ba),(3,Pt b3),(8,sv v),(9,I6 (ops.length:Int)),(10,I6 (i:Int))]) (fun i=> [(0,aO ba 253 (lM (bB s l (ops.take i)))),(3,aO b3 219 (ni {s with k:=true}))]) (fun i=> [(0,sl 1 eI (sv v) ops)]) (fun i=>ops.length-i) 0 (bE _) J J J (fun i n1=>am ?_)))))))))))
 refine ap J J cG (aa (aT (ai J (fun h1=> ?_) (fun h1=> ?_))))
 ·(try simp only [aX]at h1);have hi:i<ops.length:=by omega
  obtain⟨o,hx⟩:∃o,ops[i]?=some o:=⟨_,bO hi⟩
  have ho:=hb o (cO hx);refine az (aT (aC (am (aJ (aQ (j:=i) underlying22 t3 J J (aP (k:=0) J) (by first|rfl|omega) (by first|omega|(simp;done)|(simp;omega))) (aJ (ag t3 J J (ci (aP (k:=0) J) (by intro _;rfl) hx (by rfl))) (ao J (aa (aj (ab J (aJ (aM gO J J J (bh (k:=3) J)) (aJ (cH (j:=o.toNat) underlying253 gO J J (by omega) (by omega)) ?_)))))))))));refine ax (k:=0) (us:=ni {s with k:=true}) (c':=lM ((bB s l (ops.take i)).set o.toNat {s with k:=true})) gO J J J J J J (by rw [sr,dk,hl,show(ni {s with k:=true}).length=7 from J,Nat.ble_eq];omega) (by rw [show(0:Nat)+o.toNat*7=o.toNat*7 by omega];exact yf _ _ {s with k:=true} (by rw [dk,hl];omega)) ?_;refine aa (aj (ap J J aY (ab J (aa ?_))));refine aI (i+1) ⟨by omega,by omega⟩ J (by rw [cm hx,kn];rfl) J
 ·(try simp only [aX]at h1);have hi:i=ops.length:=by omega
  subst hi;refine bF (bP () O J fw J [0] [] J (by rw [eA];rfl) J)
theorem t8:
  aN prog 171 [] [] [] (.agg (lM shL).toArray) []:=by
 refine ay func171 J ntmps171 J fun w0 M H=>am (aU wn (c:=lM (List.replicate 64 mJ)) (by kernel_rfl) J fun b0=>aw J (aU wn (c:=lM (List.replicate 64 mJ)) (by kernel_rfl) J fun b1=>aw J (aJ (d5 (first:= []) (cap:= [.tmp 1]) J J) (ao J (aa (aR (ao J (aa (aC ?_)))))))))
 refine bC (X:=Nat) (fun i=>i≤12) (fun i=> [(0,Pt b0),(1,Pt b1),(2,.func (.func 191) #[] #[Pt b1]),(3,I6 ((1+i:Nat):Int))]) (fun i=> [(0,aO b0 253 (lM (List.replicate 64 mJ))),(1,aO b1 253 (lM (bB wt (List.replicate 64 mJ) (mj 1 i))))]) (fun i=> []) (fun i=>12-i) 0 (bE _) J J J (fun i n1=>aR (ab J (ap J J ki (aa (ai J (fun h1=> ?_) (fun h1=> ?_))))))
 ·(try simp only [aX]at h1);have hi:i<12:=by omega
  refine az (aT (aC (aj (ab J (aJ (aW (parts:= [(1,.const (.bool Bool.true)),(2,.const (.bool Bool.true)),(3,.const (.bool Bool.true))]) gO jB J J) (ab J (bH eI ((1+i:Nat):Int) underlying22 t3 J (by decide) (by decide) J J J J fun v13=>cq 13 9 J bI (ae (xs:= [.tmp 11,.tmp 13]) (dV b1 wt v13 [((1+i:Nat):Int)] (bB wt (List.replicate 64 mJ) (mj 1 i)) (by intro o ho;rw [List.mem_singleton.1 ho];omega) (by simp only [dk,List.length_replicate]) (by simp)) kg [1] [(false,9)] [1] (fun _ _=>aa (aj (ab J (ap J J (bX (c:=((1+(i+1):Nat):Int)) (by rw [bs (by omega)];omega)) (ao J (aa ?_))))))))))))));refine aI (i+1) ⟨by omega,by omega⟩ J (by rw [uQ 1 i,kn];rfl) J
 ·(try simp only [aX]at h1);have hi:i=12:=by omega
  subst hi;refine bF (aR (ao J (aa (aC (bC (X:=Nat) (fun i=>i≤12) (fun i=> [(0,Pt b0),(1,Pt b1),(2,.func (.func 191) #[] #[Pt b1]),(4,I6 ((16+i:Nat):Int))]) (fun i=> [(0,aO b0 253 (lM (List.replicate 64 mJ))),(1,aO b1 253 (lM (bB qH (bB wt (List.replicate 64 mJ) (mj 1 12)) (mj 16 i))))]) (fun i=> []) (fun i=>12-i) 0 (bE _) J J J (fun i n1=>aR (ab J (ap J J ki (aa (ai J (fun h2=> ?_) (fun h2=> ?_)))))))))))
  ·(try simp only [aX]at h2);have hi:i<12:=by omega
   refine az (aT (aC (aj (ab J (aJ (aW (parts:= [(1,.const (.bool Bool.true)),(2,.const (.bool Bool.true)),(4,.const (I6 1)),(5,.const (I6 18))]) gO jB J J) (ab J (bH eI ((16+i:Nat):Int) underlying22 t3 J (by decide) (by decide) J J J J fun v22=>cq 22 9 J bI (ae (xs:= [.tmp 20,.tmp 22]) (dV b1 qH v22 [((16+i:Nat):Int)] (bB qH (bB wt (List.replicate 64 mJ) (mj 1 12)) (mj 16 i)) (by intro o ho;rw [List.mem_singleton.1 ho];omega) (by simp only [dk,List.length_replicate]) (by simp)) kg [1] [(false,9)] [1] (fun _ _=>aa (aj (ab J (ap J J (bX (c:=((16+(i+1):Nat):Int)) (by rw [bs (by omega)];omega)) (ao J (aa ?_))))))))))))));refine aI (i+1) ⟨by omega,by omega⟩ J (by rw [uQ 16 i,kn];rfl) J
  ·(try simp only [aX]at h2);have hi:i=12:=by omega
   subst hi;refine bF (am (ab J (aJ (aW (parts:= [(1,.const (.bool Bool.true)),(2,.const (.bool Bool.true)),(4,.const (I6 2)),(5,.const (I6 18))]) gO jB J J) (dG eI [17,18,19] (parts:= [(0,.const (I6 17)),(1,.const (I6 18)),(2,.const (I6 19))]) underlying22 t3 J (by decide) (by intro _;rfl) J (by decide) (by decide) J J J J fun v26=>cq 26 9 J bI (ae (xs:= [.tmp 25,.tmp 26]) (dV b1 DM v26 [17,18,19] (bB qH (bB wt (List.replicate 64 mJ) (mj 1 12)) (mj 16 12)) (by decide) (by simp only [dk,List.length_replicate]) (by decide)) kg [1] [(false,9)] [1] (fun _ _=>aw J (ab J (aJ (aW (parts:= [(1,.const (.bool Bool.true)),(2,.const (.bool Bool.true)),(4,.const (I6 1)),(5,.const (I6 18))]) gO jB J J) (dG eI [32,33,34,35,36,37] (parts:= [(0,.const (I6 32)),(1,.const (I6 33)),(2,.const (I6 34)),(3,.const (I6 35)),(4,.const (I6 36)),(5,.const (I6 37))]) underlying22 t3 J (by decide) (by intro _;rfl) J (by decide) (by decide) J J J J fun v30=>cq 30 9 J bI (ae (xs:= [.tmp 29,.tmp 30]) (dV b1 qH v30 [32,33,34,35,36,37] (bB DM (bB qH (bB wt (List.replicate 64 mJ) (mj 1 12)) (mj 16 12)) [17,18,19]) (by decide) (by simp only [dk,List.length_replicate]) (by decide)) kg [1] [(false,9)] [1] (fun _ _=>aw J (ab J ?_))))))))))))
   refine aJ (aW (parts:= [(1,.const (.bool Bool.true)),(4,.const (I6 1)),(5,.const (I6 22))]) gO jB J J) (bH eI 40 underlying22 t3 J (by decide) (by decide) J J J J fun v34=>cq 34 9 J bI (ae (xs:= [.tmp 33,.tmp 34]) (dV b1 ⟨false,true,false,false,1,22,0⟩ v34 [40] (bB qH (bB DM (bB qH (bB wt (List.replicate 64 mJ) (mj 1 12)) (mj 16 12)) [17,18,19]) [32,33,34,35,36,37]) (by decide) (by simp only [dk,List.length_replicate]) (by decide)) kg [1] [(false,9)] [1] (fun _ _=>aw J (ab J (aJ (aW (parts:= [(1,.const (.bool Bool.true)),(4,.const (I6 2)),(5,.const (I6 22))]) gO jB J J) (bH eI 41 underlying22 t3 J (by decide) (by decide) J J J J fun v38=>cq 38 9 J bI (ae (xs:= [.tmp 37,.tmp 38]) (dV b1 ⟨false,true,false,false,2,22,0⟩ v38 [41] (bB ⟨false,true,false,false,1,22,0⟩ (bB qH (bB DM (bB qH (bB wt (List.replicate 64 mJ) (mj 1 12)) (mj 16 12)) [17,18,19]) [32,33,34,35,36,37]) [40]) (by decide) (by simp only [dk,List.length_replicate]) (by decide)) kg [1] [(false,9)] [1] (fun _ _=>aw J (ab J (aJ (aW (parts:= [(4,.const (I6 2)),(5,.const (I6 18))]) gO jB J J) (bH eI 48 underlying22 t3 J (by decide) (by decide) J J J J fun v42=>cq 42 9 J bI (ae (xs:= [.tmp 41,.tmp 42]) (dV b1 ⟨false,false,false,false,2,18,0⟩ v42 [48] (bB ⟨false,true,false,false,2,22,0⟩ (bB ⟨false,true,false,false,1,22,0⟩ (bB qH (bB DM (bB qH (bB wt (List.replicate 64 mJ) (mj 1 12)) (mj 16 12)) [17,18,19]) [32,33,34,35,36,37]) [40]) [41]) (by decide) (by simp only [dk,List.length_replicate]) (by decide)) kg [1] [(false,9)] [1] (fun _ _=> ?_)))))))))))))
   refine aw J (ab J (aJ (aW (parts:= []) gO jB J J) (dG eI [49,50,51] (parts:= [(0,.const (I6 49)),(1,.const (I6 50)),(2,.const (I6 51))]) underlying22 t3 J (by decide) (by intro _;rfl) J (by decide) (by decide) J J J J fun v46=>cq 46 9 J bI (ae (xs:= [.tmp 45,.tmp 46]) (dV b1 mJ v46 [49,50,51] (bB ⟨false,false,false,false,2,18,0⟩ (bB ⟨false,true,false,false,2,22,0⟩ (bB ⟨false,true,false,false,1,22,0⟩ (bB qH (bB DM (bB qH (bB wt (List.replicate 64 mJ) (mj 1 12)) (mj 16 12)) [17,18,19]) [32,33,34,35,36,37]) [40]) [41]) [48]) (by decide) (by simp only [dk,List.length_replicate]) (by decide)) kg [1] [(false,9)] [1] (fun _ _=>aw J (ab J (aJ (aW (parts:= [(2,.const (.bool Bool.true))]) gO jB J J) (bH eI 52 underlying22 t3 J (by decide) (by decide) J J J J fun v50=>cq 50 9 J bI (ae (xs:= [.tmp 49,.tmp 50]) (dV b1 ⟨false,false,true,false,0,0,0⟩ v50 [52] (bB mJ (bB ⟨false,false,false,false,2,18,0⟩ (bB ⟨false,true,false,false,2,22,0⟩ (bB ⟨false,true,false,false,1,22,0⟩ (bB qH (bB DM (bB qH (bB wt (List.replicate 64 mJ) (mj 1 12)) (mj 16 12)) [17,18,19]) [32,33,34,35,36,37]) [40]) [41]) [48]) [49,50,51]) (by decide) (by simp only [dk,List.length_replicate]) (by decide)) kg [1] [(false,9)] [1] (fun _ _=>aw J (ab J ?_)))))))))))
   refine aJ (aW (parts:= [(1,.const (.bool Bool.true)),(4,.const (I6 2)),(5,.const (I6 18)),(6,.const (I3 3))]) gO jB J J) (bH eI 53 underlying22 t3 J (by decide) (by decide) J J J J fun v54=>cq 54 9 J bI (ae (xs:= [.tmp 53,.tmp 54]) (dV b1 ⟨false,true,false,false,2,18,3⟩ v54 [53] (bB ⟨false,false,true,false,0,0,0⟩ (bB mJ (bB ⟨false,false,false,false,2,18,0⟩ (bB ⟨false,true,false,false,2,22,0⟩ (bB ⟨false,true,false,false,1,22,0⟩ (bB qH (bB DM (bB qH (bB wt (List.replicate 64 mJ) (mj 1 12)) (mj 16 12)) [17,18,19]) [32,33,34,35,36,37]) [40]) [41]) [48]) [49,50,51]) [52]) (by decide) (by simp only [dk,List.length_replicate]) (by decide)) kg [1] [(false,9)] [1] (fun _ _=>aw J (ab J (aJ (aW (parts:= [(2,.const (.bool Bool.true)),(4,.const (I6 2)),(5,.const (I6 18)),(6,.const (I3 4))]) gO jB J J) (bH eI 54 underlying22 t3 J (by decide) (by decide) J J J J fun v58=>cq 58 9 J bI (ae (xs:= [.tmp 57,.tmp 58]) (dV b1 ⟨false,false,true,false,2,18,4⟩ v58 [54] (bB ⟨false,true,false,false,2,18,3⟩ (bB ⟨false,false,true,false,0,0,0⟩ (bB mJ (bB ⟨false,false,false,false,2,18,0⟩ (bB ⟨false,true,false,false,2,22,0⟩ (bB ⟨false,true,false,false,1,22,0⟩ (bB qH (bB DM (bB qH (bB wt (List.replicate 64 mJ) (mj 1 12)) (mj 16 12)) [17,18,19]) [32,33,34,35,36,37]) [40]) [41]) [48]) [49,50,51]) [52]) [53]) (by decide) (by simp only [dk,List.length_replicate]) (by decide)) kg [1] [(false,9)] [1] (fun _ _=>aw J (aJ (aM wn J J (by rw [sr];simp only [dk,List.length_replicate]) (bh (k:=1) J)) (ax (k:=0) (us:=lM shL) (c':=lM shL) wn J J (by kernel_rfl) (by kernel_rfl) (by kernel_rfl) J (by kernel_rfl) (by kernel_rfl) (aa (ar (aG () O J (bU (be wn J J (by kernel_rfl) (bh (k:=0) J))) J [] [] J J J)))))))))))))
theorem rj(op:Int):
  aN prog 132 [I6 op] [] [] (.agg (ni (cE op)).toArray) []:=by
 refine ay func132 J ntmps132 J fun w0 M H=>am (aU gO J J fun b2=>aw J (ae (xs:= []) t8 Lw [] [] [] (fun _ _=>aU wn (c:=lM (List.replicate 64 mJ)) (by kernel_rfl) J fun b3=>ax (k:=3) (us:=lM shL) (c':=lM shL) wn J J (by kernel_rfl) (by kernel_rfl) (by kernel_rfl) J (by kernel_rfl) (by kernel_rfl) (aa (aR (ab J (ap J J cG (ab J (aF [] J J O (fun hg1=>aV J) J (aF [(8,_)] J J ⟨J,O⟩ (fun hg2=>aS J J fp) J (aJ (bD J J J) ?_)))))))))))
 refine aa (ai J (fun h3=> ?_) (fun h3=> ?_))
 ·(try simp only [aX]at h3);have hg:cE op=mJ:=ac (by omega);rw [hg];refine am (aJ (aW (parts:= []) gO jB J J) (aq (k:=2) gO J J J J J J (aa (ar (aG () O J (bU (be gO J J J (bh (k:=2) J))) J [] [] J J J)))))
 ·(try simp only [aX]at h3);have hn:0≤op∧op<64:=by omega
  have hg:shL[op.toNat]?=some (cE op):=by
   have hl:shL.length=64:=by decide
   unfold cE;rw [ak hn,List.getD_eq_getElem?_getD,bO (by omega)];rfl
  refine az (am (ab J (aJ (cH (j:=op.toNat) underlying253 gO J J (by omega) (by omega)) ?_)));refine vU (aM gO J J J (jC (us:=ni (cE op)) (k:=3) J (by rw [show(0:Nat)+op.toNat*7=op.toNat*7 by omega,show(ni (cE op)).length=7 from rfl];exact yg shL _ _ hg))) J ?_;refine aq (k:=2) gO J J J J J J (aa (ar (aG () O J (bU (be gO J J J (bh (k:=2) J))) J [] [] J J J)))
theorem nh(n:Int)(u:Bool):
  aN prog 169 [I6 n,.bool u] [] [] (.bool (fo n u)) []:=by
 refine ay func169 J ntmps169 J fun w0 M H=>am (ao J (aw J (ab J (ap J J bj (ab J (aF [] J J O (fun hg1=>aV J) J (aF [(8,_)] J J ⟨J,O⟩ (fun hg2=>aV J) J (c_ [] [(8,_),(9,_)] J J O ⟨J,J,O⟩ (fun hg3 hg3'=>aV J) J (c_ [(10,_)] [(8,_),(9,_)] J J ⟨J,O⟩ ⟨J,J,O⟩ (fun hg4 hg4'=>aS J J ge) J (aF [(8,_),(9,_)] J J ⟨J,J,O⟩ (fun hg5=>em J J J (by first|exact dZ|exact eK|exact dm hg5|exact dY hg5|rfl)) J (aF [(8,_),(9,_),(12,_)] J J ⟨J,J,J,O⟩ (fun hg6=>aV J) J (c_ [] [(8,_),(9,_),(12,_),(13,_)] J J O ⟨J,J,J,J,O⟩ (fun hg7 hg7'=>aV J) J (c_ [(14,_)] [(8,_),(9,_),(12,_),(13,_)] J J ⟨J,O⟩ ⟨J,J,J,J,O⟩ (fun hg8 hg8'=>aS J J cG) J (aF [(8,_),(9,_),(12,_),(13,_)] J J ⟨J,J,J,J,O⟩ (fun hg9=>em J J J (by first|exact dZ|exact eK|exact dm hg9|exact dY hg9|rfl)) J (aJ (bD J J J) ?_)))))))))))))))
 refine ao J (aa (ar (aG () O J (bU (aD J)) J [] [] J J J)))
theorem Am(s:Sh)(n:Int)(hn:0≤n∧n<4294967296)(hs:s.kd=1→s.bt=18∨s.bt=22)(hb:0≤s.bt∧s.bt<32):
  aN prog 170 [.agg (ni s).toArray,I3 n] [] [] (.bool (jo s n)) []:=by
 refine ay func170 J ntmps170 J fun w0 M H=>am (cB J J fun b2=>ao J (aa (aT (aC (am (aA y0 J (aL 2 t3 J J J J (ap J J bj (ao J (aa (ai J (fun h1=> ?_) (fun h1=> ?_))))))))))))
 ·(try simp only [aX]at h1);have k0:s.kd=0:=h1;refine am (ab J (ap J J bj (ao J (aa (ar (aG () O J (bU (aD J)) (by unfold jo;rw [ak k0]) [] [] J J J))))))
 ·(try simp only [aX]at h1);have k0:¬s.kd=0:=h1;refine am (aA y0 J (aL 2 t3 J J J J (ap J J bj (ao J (aa (ai J (fun h2=> ?_) (fun h2=> ?_)))))))
  ·(try simp only [aX]at h2);have k1:s.kd=1:=h2;refine am (ab J (aA yZ J (aL 2 t3 J J J J (ae (xs:= [.tmp 15,.tmp 17]) (rS n s.bt hn (hs k1)) Gp [] [] [] (fun _ _=>ao J (aa (ar (aG () O J (bU (aD J)) (by unfold jo;rw [ac k0,ak k1]) [] [] J J J))))))))
  ·(try simp only [aX]at h2);have k1:¬s.kd=1:=h2;refine am (aA yY J (aL 2 dy J J J J (ap J J ge (ao J (aa (ai J (fun h3=> ?_) (fun h3=> ?_)))))))
   ·(try simp only [aX]at h3);have k2:s.mo>0:=h3;refine am (ab J (aA yY J (aL 2 dy J J J J (ap J J ki (ao J (aa (ar (aG () O J (bU (aD J)) (by unfold jo;rw [ac k0,ac k1,ak k2]) [] [] J J J))))))))
   ·(try simp only [aX]at h3);have k2:¬s.mo>0:=by omega
    refine az (am (ab J (aA yZ J (aL 2 t3 J J J J (ap J J (qD (by omega) (by first|decide|(simp [IntKind.bits];omega)) J) (ap J J bj (ao J (aa (ar (aG () O J (bU (aD J)) (by unfold jo;rw [ac k0,ac k1,ac k2]) [] [] J J J))))))))))
theorem G9:∀s∈shL,(s.kd=1→s.bt=18∨s.bt=22)∧0≤s.bt∧s.bt<32∧(s.bt=0∨s.bt=18∨s.bt=22)∧(s.bt=18→s.b=false)∧(s.bt=22→s.a=false∧s.b=false):=by decide
theorem iq(op:Int):((cE op).kd=1→(cE op).bt=18∨(cE op).bt=22)∧0≤(cE op).bt∧(cE op).bt<32∧((cE op).bt=0∨(cE op).bt=18∨(cE op).bt=22)∧((cE op).bt=18→(cE op).b=false)∧((cE op).bt=22→(cE op).a=false∧(cE op).b=false):=by
 unfold cE;split
 ·rename_i h;have hl:shL.length=64:=by decide
  rw [List.getD_eq_getElem?_getD,bO (by omega)];exact G9 _ (List.getElem_mem _)
 ·decide
theorem Ke{op:Int}(h:(cE op).k=true):0≤op∧op<64:=by
 unfold cE at h;by_cases hc:0≤op∧op<64
 ·exact hc
 ·rw [ac hc]at h;cases h
theorem tz{n:Int}{u:Bool}(h:fo n u=true):0≤n∧n<16:=by
 unfold fo at h;simp only [Bool.or_eq_true,Bool.and_eq_true,decide_eq_true_eq]at h;omega
theorem sf{i:Qi}(h:nN i=true):(0≤i.op∧i.op<64)∧(0≤i.d∧i.d<16)∧(0≤i.a∧i.a<16)∧(0≤i.b∧i.b<16):=by
 unfold nN at h;simp only [Bool.and_eq_true]at h;obtain⟨⟨⟨⟨h1,h2⟩,h3⟩,h4⟩,h5⟩:=h;exact⟨Ke h1,tz h2,tz h3,tz h4⟩
def lf(i:Qi):Int:=i.op*67108864+i.d*4194304+i.a*262144+i.b*16384+i.imm%2^(cE i.op).bt.toNat
def qX(i:Qi):Int:=if nN i=true then lf i else 0
theorem Jc{x y:Int}(k:Nat)(hx:0≤x∧x<4294967296)(hx2:x%((2^k:Nat):Int)=0)(hy:0≤y∧y<((2^k:Nat):Int))(hy2:y<4294967296):bits .or .u32 x y=x+y:=by
 obtain⟨a,rfl⟩:=Int.eq_ofNat_of_zero_le hx.1;obtain⟨b,rfl⟩:=Int.eq_ofNat_of_zero_le hy.1;rw [u32_or _ _ hx.1 hx.2 hy.1 hy2];simp only [Int.toNat_natCast];rw [nat_join k a b (by exact_mod_cast hx2) (by exact_mod_cast hy.2)];omega
theorem eN{n:Int}(h:fo n false=true):n=0:=by
 unfold fo at h;simp only [Bool.or_eq_true,Bool.and_eq_true,decide_eq_true_eq,Bool.false_and]at h;simpa using h
theorem KN{i:Qi}(h:nN i=true)(hi:0≤i.imm∧i.imm<4294967296):
  bits .or .u32 (bits .or .u32 (bits .or .u32 (bits .or .u32 (IntKind.u32.wrap (i.op*2^(26:Int).toNat)) (IntKind.u32.wrap (i.d*2^(22:Int).toNat))) (IntKind.u32.wrap (i.a*2^(18:Int).toNat))) (IntKind.u32.wrap (i.b*2^(14:Int).toNat))) (bits .and .u32 i.imm (IntKind.u32.wrap (IntKind.u32.wrap (1*2^(cE i.op).bt.toNat)-1)))=lf i:=by
 obtain⟨b1,b2,b3,b4⟩:=sf h;unfold nN at h;simp only [Bool.and_eq_true]at h;obtain⟨⟨⟨⟨h1,h2⟩,h3⟩,h4⟩,h5⟩:=h;obtain⟨_,_,_,k1,k2,k3⟩:=iq i.op;rw [show((2:Int)^(26:Int).toNat)=67108864 from J,show((2:Int)^(22:Int).toNat)=4194304 from J,show((2:Int)^(18:Int).toNat)=262144 from J,show((2:Int)^(14:Int).toNat)=16384 from J];rw [jA (n:=i.op*67108864) (by omega) (by omega),jA (n:=i.d*4194304) (by omega) (by omega),jA (n:=i.a*262144) (by omega) (by omega),jA (n:=i.b*16384) (by omega) (by omega)];rw [Jc (x:=i.op*67108864) (y:=i.d*4194304) 26 ⟨by omega,by omega⟩ (by omega) ⟨by omega,by omega⟩ (by omega),Jc (x:=i.op*67108864+i.d*4194304) (y:=i.a*262144) 22 ⟨by omega,by omega⟩ (by omega) ⟨by omega,by omega⟩ (by omega),Jc (x:=i.op*67108864+i.d*4194304+i.a*262144) (y:=i.b*16384) 18 ⟨by omega,by omega⟩ (by omega) ⟨by omega,by omega⟩ (by omega)];unfold lf;rcases k1 with k|k|k
 ·rw [k,show IntKind.u32.wrap (IntKind.u32.wrap (1*2^(0:Int).toNat)-1)=0 from J,show((2:Int)^(0:Int).toNat)=1 from J];have h0:bits .and .u32 i.imm 0=0:=by
   rw [u32_and _ _ hi.1 hi.2 (by omega) (by omega)];simp
  rw [h0,Jc 0 ⟨by omega,by omega⟩ (by omega) ⟨by omega,by omega⟩ (by omega)];omega
 ·have hb:i.b=0:=eN (by rw [←k2 k];exact h4);rw [k,show IntKind.u32.wrap (IntKind.u32.wrap (1*2^(18:Int).toNat)-1)=262143 from J,show((2:Int)^(18:Int).toNat)=262144 from J,Mb hi,hb];rw [Jc 18 ⟨by omega,by omega⟩ (by omega) ⟨by omega,by omega⟩ (by omega)]
 ·have hb:i.b=0:=eN (by rw [←(k3 k).2];exact h4);have ha:i.a=0:=eN (by rw [←(k3 k).1];exact h3);rw [k,show IntKind.u32.wrap (IntKind.u32.wrap (1*2^(22:Int).toNat)-1)=4194303 from J,show((2:Int)^(22:Int).toNat)=4194304 from J,Ma hi,hb,ha];rw [Jc 22 ⟨by omega,by omega⟩ (by omega) ⟨by omega,by omega⟩ (by omega)]
theorem xy{i:Qi}(h:nN i=true):0≤lf i∧lf i<4294967296:=by
 obtain⟨b1,b2,b3,b4⟩:=sf h;unfold nN at h;simp only [Bool.and_eq_true]at h;obtain⟨⟨⟨⟨h1,h2⟩,h3⟩,h4⟩,h5⟩:=h;obtain⟨_,_,_,k1,k2,k3⟩:=iq i.op;unfold lf;rcases k1 with k|k|k
 ·rw [k,show((2:Int)^(0:Int).toNat)=1 from J];omega
 ·have hb:i.b=0:=eN (by rw [←k2 k];exact h4);rw [k,show((2:Int)^(18:Int).toNat)=262144 from J];omega
 ·have hb:i.b=0:=eN (by rw [←(k3 k).2];exact h4);have ha:i.a=0:=eN (by rw [←(k3 k).1];exact h3);rw [k,show((2:Int)^(22:Int).toNat)=4194304 from J];omega
theorem Iw(i:Qi):0≤qX i∧qX i<4294967296:=by
 unfold qX;split
 ·rename_i h;exact xy h
 ·omega
def eJ(n:Int):List Int:= [n%256,n/256%256,n/65536%256,n/16777216%256]
def Iu(i:Qi):Int:=if nN i=true then 0 else 12
theorem wj(i:Qi)(hi:0≤i.imm∧i.imm<4294967296):
  aN prog 131 [.agg (gM i).toArray] [] [] (.bool (nN i)) []:=by
 refine ay func131 J ntmps131 J fun w0 M H=>am (cB J J fun b1=>ao J (aw J (aA b_ J (aL 1 t3 J J J J (ae (xs:= [.tmp 5]) (rj i.op) GD [] [] [] (fun _ _=>aU gO J J fun b3=>aq (k:=3) gO J J J J J J (aw J (aA y4 J (aL 3 t4 J J J J (ab J (aF [] J J O (fun hg1=>ah fJ J) J ?_)))))))))))
 refine aF [(10,_)] J J ⟨J,O⟩ (fun hg2=>ag t3 J J (aB (k:=1) J J)) J (aF [(10,_),(11,_)] J J ⟨J,J,O⟩ (fun hg3=>ah Fm J) J (aF [(10,_),(11,_),(12,_)] J J ⟨J,J,J,O⟩ (fun hg4=>ag t4 J J (aB (k:=3) J J)) J (i7 [(10,_),(11,_),(12,_),(13,_)] J J ⟨J,J,J,J,O⟩ (fun hg5=>bS (xs:= [.tmp 11,.tmp 13]) (nh i.d (cE i.op).d) Dl [] [] []) J (aJ (bD J J J) (ab J (aF [] J J O (fun hg6=>ah kH J) J (aF [(17,_)] J J ⟨J,O⟩ (fun hg7=>ag t3 J J (aB (k:=1) J J)) J (aF [(17,_),(18,_)] J J ⟨J,J,O⟩ (fun hg8=>ah Fl J) J (aF [(17,_),(18,_),(19,_)] J J ⟨J,J,J,O⟩ (fun hg9=>ag t4 J J (aB (k:=3) J J)) J (i7 [(17,_),(18,_),(19,_),(20,_)] J J ⟨J,J,J,J,O⟩ (fun hg10=>bS (xs:= [.tmp 18,.tmp 20]) (nh i.a (cE i.op).a) Dl [] [] []) J (aJ (bD J J J) (ab J (aF [] J J O (fun hg11=>ah kF J) J (aF [(24,_)] J J ⟨J,O⟩ (fun hg12=>ag t3 J J (aB (k:=1) J J)) J (aF [(24,_),(25,_)] J J ⟨J,J,O⟩ (fun hg13=>ah Fk J) J (aF [(24,_),(25,_),(26,_)] J J ⟨J,J,J,O⟩ (fun hg14=>ag t4 J J (aB (k:=3) J J)) J (i7 [(24,_),(25,_),(26,_),(27,_)] J J ⟨J,J,J,J,O⟩ (fun hg15=>bS (xs:= [.tmp 25,.tmp 27]) (nh i.b (cE i.op).b) Dl [] [] []) J (aJ (bD J J J) (ab J ?_)))))))))))))))))));refine aF [] J J O (fun hg16=>aM gO J J J (bh (k:=3) J)) J (aF [(31,_)] J J ⟨J,O⟩ (fun hg17=>ah dq J) J (aF [(31,_),(32,_)] J J ⟨J,J,O⟩ (fun hg18=>ag dy J J (aB (k:=1) J J)) J (i7 [(31,_),(32,_),(33,_)] J J ⟨J,J,J,O⟩ (fun hg19=>bS (xs:= [.tmp 31,.tmp 33]) (Am (cE i.op) i.imm hi (iq i.op).1 ⟨(iq i.op).2.1,(iq i.op).2.2.1⟩) Ly [] [] []) J (aJ (bD J J J) (ao J (aa (ar (aG () O J (bU (aD J)) J [] [] J J J))))))))
theorem vh(i:Qi)(hi:0≤i.imm∧i.imm<4294967296):
  aN prog 98 [.agg (gM i).toArray] [] [] (.tuple #[I3 (qX i),I6 (Iu i)]) []:=by
 refine ay func98 J ntmps98 J fun w0 M H=>am (cB J J fun b1=>ao J (ao J (aa (aR (aJ (aM ey J J J (bh (k:=1) J)) (ae (xs:= [.tmp 5]) (wj i hi) LR [] [] [] (fun _ _=>aJ (cZ J) (aa (ai J (fun h1=> ?_) (fun h1=> ?_))))))))))
 ·have hv:nN i=false:=by simpa using h1
  rw [show qX i=0 from ac (by rw [hv];simp),show Iu i=12 from ac (by rw [hv];simp)];refine am (ao J (ao J (aa (ar (aG () O J (Ep (aD J) (aD J)) J [] [] J J J)))))
 ·have hv:nN i=true:=by simpa using h1
  rw [show qX i=lf i from ak hv,show Iu i=0 from ak hv];obtain⟨b1,b2,b3,b4⟩:=sf hv;obtain⟨_,c1,c2,_⟩:=iq i.op;refine az (am (aA b_ J (aL 1 t3 J J J J (aJ (bK underlying3 underlying41 J (by first|exact bw (by omega)|rfl)) (ap J J (gV (by omega) (by first|decide|(simp [IntKind.bits];omega)) J) (aA fJ J (aL 1 t3 J J J J (aJ (bK underlying3 underlying41 J (by first|exact bw (by omega)|rfl)) (ap J J (gV (by omega) (by first|decide|(simp [IntKind.bits];omega)) J) (ap J J (DC J) (aA kH J (aL 1 t3 J J J J (aJ (bK underlying3 underlying41 J (by first|exact bw (by omega)|rfl)) (ap J J (gV (by omega) (by first|decide|(simp [IntKind.bits];omega)) J) (ap J J (DC J) (aA kF J (aL 1 t3 J J J J (aJ (bK underlying3 underlying41 J (by first|exact bw (by omega)|rfl)) ?_))))))))))))))))));refine ap J J (gV (by omega) (by first|decide|(simp [IntKind.bits];omega)) J) (ap J J (DC J) (ao J (aa (aT ?_))));refine bV [27,28,29,30,31,32,33,34,35,36,37,2,3] _ J (bk (V:= [(0,27,_),(1,28,_),(2,29,_),(3,30,_),(4,31,_)]) [0,1,2,3,4] 5 [5,4,3] [6,7,8,9,10,11,12] (fun _=> [(6,33,_),(7,34,_),(8,35,_),(9,36,_),(10,37,_),(11,2,_),(12,3,_)]) J J (aK J J (ad J (ah dq J) (ad J (ag dy J J (aB (k:=1) J J)) (ad J (ah b_ J) (ad J (ag t3 J J (aB (k:=1) J J)) au))))) J J J J J J J J J J J (fun _ _=>J) J (bS (xs:= [.tmp 31]) (rj i.op) GD [] [] []) (fun _ _=>br [6,7,8,9,10,11,12,0,1,2] J J (ad J (ux Fc t3 J J) (ad J (aS J J (gV (by omega) (by first|decide|(simp [IntKind.bits];omega)) J)) (ad J (aS J J DB) (ad J (aS J J (vJ J)) (ad J (aS J J (DC J)) (ad J (d7 J) (ad J (d7 J) (aK J J (ad J (ah dq J) (ad J (ag dy J J (aB (k:=1) J J)) au)))))))))) J J J ?_));refine ar (aG () O J (Ep (aD J) (aD J)) (congrArg (fun z=>Value.tuple #[Value.int .u32 z,Value.int .i64 0]) (KN hv hi)) [] [] J J J)
theorem BE(n:Int)(hn:0≤n∧n<4294967296):
  aN prog 100 [I3 n,I6 4] [] [] (Sg (jm (eJ n))) []:=by
 refine ay func100 J ntmps100 J fun w0 M H=>am (ao J (aw J (ab J (aJ (bK underlying41 underlying5 J (by first|exact AZ (by omega) (by omega)|rfl)) (ab J (ap J J (qD (by omega) (by first|decide|(simp [IntKind.bits];omega)) J) (aJ (bK underlying41 underlying5 J (by first|exact AZ (by omega) (by omega)|rfl)) (ab J (ap J J (qD (by omega) (by first|decide|(simp [IntKind.bits];omega)) J) (aJ (bK underlying41 underlying5 J (by first|exact AZ (by omega) (by omega)|rfl)) (ab J (ap J J (qD (by omega) (by first|decide|(simp [IntKind.bits];omega)) J) (aJ (bK underlying41 underlying5 J (by first|exact AZ (by omega) (by omega)|rfl)) (dG bJ (eJ n) (parts:= [(0,.tmp 7),(1,.tmp 10),(2,.tmp 13),(3,.tmp 16)]) underlying84 t5 J (by decide) (by intro _;rfl) J (by decide) (by decide) J J J J fun v17=>ao J ?_))))))))))))))
 refine aw J (ab J (ab J (aJ (BM J J J) (aJ (nC J J J) (aJ (wM (j:=4) underlying84 t5 J J (bp (k:=17) J) J (bM 4)) (cq 17 17 J bI (MC 17 18 4 J (bM 4) (aJ (uz underlying84 underlying5 underlying9 J (aP (k:=18) J) (by simp [eJ])) (ao J (aa (ar (aG () O J (bU (aD J)) J [] [] J J J))))))))))))
theorem vz(b:Nat)(p:Option Addr)(hp:p=none∨p=some ⟨b,0,none⟩)(v:SV):
  aN prog 133 [Pt b] [aO b 177 [.pointer p,sv v]] [] (.tuple #[]) [aO b 177 [Pt b,sv v]]:=by
 refine ay func133 J ntmps133 J fun w0 M H=>am (ab J (bq J (aA tu J (aL 0 G3 J J J J (ap J J (iI underlying175) (aa (ai J (fun h1=> ?_) (fun h1=> ?_))))))))
 ·obtain rfl:p=none:=by cases p with|none=>rfl|some _=>cases h1
  refine aj (ab J (ab J (aJ (J3 (k:=0) underlying175 underlying255 Eb (by decide) J J (by simp)) (aJ (Ez func172 (by kernel_rfl) (by kernel_rfl) (by kernel_rfl) (by kernel_rfl) J) (aJ (EB (k:=0) underlying255 underlying175 Eb J J (by kernel_rfl)) (bq J (aA tu J (ax (k:=0) G3 J J J J J J J J (aa (bP () O J fw J [0] [] J J J))))))))))
 ·obtain rfl:p=some ⟨b,0,none⟩:=hp.resolve_left (fun e=>by subst e;cases h1);refine am (ab J (bq J (aA tu J (aL 0 G3 J J J J (ab J (aJ (EA underlying175 Eb J J) (aa (ai J (fun h2=> ?_) (fun h2=> ?_)))))))))
  ·cases h2
  ·refine az (bP () O J fw J [0] [] J J J)
theorem zw(b:Nat)(p:Option Addr)(hp:p=none∨p=some ⟨b,0,none⟩)(v:SV)(l:List Int)(s:Ba)(hl:l.length+s.size≤1000000):
  Spec prog 99 [Pt b,Sg s] [aO b 177 [.pointer p,sv v],own 5 1 bJ (sv v) l] [] (X:=SV) (fun _=>True) (fun _=> .tuple #[I6 (s.size:Int),.nilIface]) (fun v=> [aO b 177 [Pt b,sv v],own 5 1 bJ (sv v) (l++aH s)]) (fun _=> []):=by
 refine ay func99 J ntmps99 J fun w0 M H=>am (ao J (ao J (aw J (ab J (ae (xs:= [.tmp 6]) (vz b p hp v) LQ [0] [] [0] (fun _ _=>aw J (ab J (ab J (bq J (aA ox J (aL 0 wl J J J J (ab J (z5 1 underlying84 underlying9 t5 J J J J (by omega) J fun v14=> ?_)))))))))))))
 refine bq J (aA ox J (ax (k:=0) wl J J J J J J J J (aw J (ab J (aJ (ch underlying9 J) (ao J (ao J (aa (ar (aG v14 O J (Ep (aD J) (aD J)) J [0,1] [] J J J))))))))))
theorem AK(b:Nat)(p:Option Addr)(v:SV)(l:List Int)(hl:l≠ [])(hb:∀n∈l,0≤n∧n<256):
  aN prog 101 [Pt b] [aO b 177 [.pointer p,sv v],own 5 1 bJ (sv v) l] [] (Sg (jm l)) [aO b 177 [.pointer p,sv v]]:=by
 refine ay func101 J ntmps101 J fun w0 M H=>am (ao J (aa (aT (bV [3,4,5,6,7,8,9,10,11,12,13,2] _ J (bk (V:= [(0,3,_),(1,4,_),(2,5,_),(3,6,_),(4,7,_),(5,8,_),(6,9,_),(7,10,_),(8,11,_),(9,12,_)]) [0,1,2,3,4,5,6,7,8,9] 10 [10,9,8,7,6,5,4,3,2,1,0] [11] (fun _=> [(11,2,_)]) J J (aK J J (ad J (av J) (ad J (ah ox J) (ad J (ag wl J J (aB (k:=0) J J)) (ad J (J2 (k:=1) J J hl) (aK J J (ad J (av J) (ad J (ah ox J) (ad J (ag wl J J (aB (k:=0) J J)) (ad J (aZ underlying84 J (bp (k:=1) J)) au)))))))))) J J J J J J J J J J J (fun _ _=>J) J (EM (k:=1) underlying221 (by kernel_rfl) J J J hl hb) (fun _ _=>br [11] J J (ad J (d7 J) au) J J J (ar (aG () O J (bU (aD J)) J [0] [] J J J))))))))
structure Fo where
 is:Bool
 d:Bool
 a:Bool
 b:Bool
 sg:Bool
 bt:Int
 mo:Int
deriving DecidableEq
def Jn(f:Fo):List Value:= [.bool f.is,.bool f.d,.bool f.a,.bool f.b,.bool f.sg,I6 f.bt,I3 f.mo]
def xp(op:Int):Fo:=⟨(cE op).k,(cE op).d,(cE op).a,(cE op).b,decide ((cE op).kd=1),(cE op).bt,(cE op).mo⟩
def yy(op:Int):Fo:=
 if 1≤op∧op≤12 then⟨true,true,true,true,false,0,0⟩else if op=17∨op=18∨op=19 then⟨true,true,true,false,false,18,0⟩else if(16≤op∧op≤27)∨(32≤op∧op≤37)then⟨true,true,true,false,true,18,0⟩else if op=40 then⟨true,true,false,false,true,22,0⟩else if op=41 then⟨true,true,false,false,false,22,0⟩else if op=48 then⟨true,false,false,false,false,18,0⟩else if op=49∨op=50∨op=51 then⟨true,false,false,false,false,0,0⟩else if op=52 then⟨true,false,true,false,false,0,0⟩else if op=53 then⟨true,true,false,false,false,18,3⟩else if op=54 then⟨true,false,true,false,false,18,4⟩else⟨false,false,false,false,false,0,0⟩
theorem EH:∀n,n<64→yy ((n:Nat):Int)=xp ((n:Nat):Int):=by decide
theorem wP{op:Int}(h:0≤op∧op<64):yy op=xp op:=by
 have:=EH op.toNat (by omega)
 rw [show((op.toNat:Nat):Int)=op by omega]at this;exact this
theorem sY(op:Int):
  aN prog 197 [I6 op] [] [] (.agg (Jn (yy op)).toArray) []:=by
 refine ay func197 J ntmps197 J fun w0 M H=>am (aU eT J J fun b2=>aa (aT (aC (am (ab J (ap J J fp (ab J (aF [] J J O (fun hg1=>aV J) J (aF [(7,_)] J J ⟨J,O⟩ (fun hg2=>aS J J ki) J (aJ (bD J J J) (ao J (aa (ai J (fun h3=> ?_) (fun h3=> ?_))))))))))))))
 ·(try simp only [aX]at h3);have q1:1≤op∧op≤12:=by omega
  refine am (aJ (aW (parts:= [(0,.const (.bool Bool.true)),(1,.const (.bool Bool.true)),(2,.const (.bool Bool.true)),(3,.const (.bool Bool.true))]) eT j9 J J) (aq (k:=2) eT J J J J J J (aa (ar (aG () O J (bU (be eT J J J (bh (k:=2) J))) (by unfold yy;rw [ak q1];rfl) [] [] J J J)))))
 ·(try simp only [aX]at h3);have q1:¬(1≤op∧op≤12):=by omega
  refine am (ab J (ap J J bj (ab J (aF [] J J O (fun hg4=>aV J) J (aF [(15,_)] J J ⟨J,O⟩ (fun hg5=>aS J J bj) J (aJ (bD J J J) (ab J (aF [] J J O (fun hg6=>aV J) J (aF [(19,_)] J J ⟨J,O⟩ (fun hg7=>aS J J bj) J (aJ (bD J J J) (ao J (aa (ai J (fun h8=> ?_) (fun h8=> ?_))))))))))))))
  ·(try simp only [aX]at h8);have q2:op=17∨op=18∨op=19:=by omega
   refine am (aJ (aW (parts:= [(0,.const (.bool Bool.true)),(1,.const (.bool Bool.true)),(2,.const (.bool Bool.true)),(5,.const (I6 18))]) eT j9 J J) (aq (k:=2) eT J J J J J J (aa (ar (aG () O J (bU (be eT J J J (bh (k:=2) J))) (by unfold yy;rw [ac q1,ak q2];rfl) [] [] J J J)))))
  ·(try simp only [aX]at h8);have q2:¬(op=17∨op=18∨op=19):=by omega
   refine am (ab J (ap J J fp (ab J (aF [] J J O (fun hg9=>aV J) J (aF [(27,_)] J J ⟨J,O⟩ (fun hg10=>aS J J ki) J (aJ (bD J J J) (ab J (aF [] J J O (fun hg11=>aV J) J (aF [(31,_)] J J ⟨J,O⟩ (fun hg12=>aS J J fp) J (aF [(31,_),(32,_)] J J ⟨J,J,O⟩ (fun hg13=>aV J) J (c_ [] [(31,_),(32,_),(33,_)] J J O ⟨J,J,J,O⟩ (fun hg14 hg14'=>aV J) J (c_ [(34,_)] [(31,_),(32,_),(33,_)] J J ⟨J,O⟩ ⟨J,J,J,O⟩ (fun hg15 hg15'=>aS J J ki) J (aF [(31,_),(32,_),(33,_)] J J ⟨J,J,J,O⟩ (fun hg16=>em J J J (by first|exact dZ|exact eK|exact dm hg16|exact dY hg16|rfl)) J (aJ (bD J J J) (ao J (aa (ai J (fun h17=> ?_) (fun h17=> ?_))))))))))))))))))
   ·(try simp only [aX]at h17);have q3:(16≤op∧op≤27)∨(32≤op∧op≤37):=by omega
    refine am (aJ (aW (parts:= [(0,.const (.bool Bool.true)),(1,.const (.bool Bool.true)),(2,.const (.bool Bool.true)),(4,.const (.bool Bool.true)),(5,.const (I6 18))]) eT j9 J J) (aq (k:=2) eT J J J J J J (aa (ar (aG () O J (bU (be eT J J J (bh (k:=2) J))) (by unfold yy;rw [ac q1,ac q2,ak q3];rfl) [] [] J J J)))))
   ·(try simp only [aX]at h17);have q3:¬((16≤op∧op≤27)∨(32≤op∧op≤37)):=by omega
    refine am (ab J (ap J J bj (ao J (aa (ai J (fun h18=> ?_) (fun h18=> ?_))))))
    ·(try simp only [aX]at h18);have q4:op=40:=by omega
     refine am (aJ (aW (parts:= [(0,.const (.bool Bool.true)),(1,.const (.bool Bool.true)),(4,.const (.bool Bool.true)),(5,.const (I6 22))]) eT j9 J J) (aq (k:=2) eT J J J J J J (aa (ar (aG () O J (bU (be eT J J J (bh (k:=2) J))) (by unfold yy;rw [ac q1,ac q2,ac q3,ak q4];rfl) [] [] J J J)))))
    ·(try simp only [aX]at h18);have q4:¬(op=40):=by omega
     refine am (ab J (ap J J bj (ao J (aa (ai J (fun h19=> ?_) (fun h19=> ?_))))))
     ·(try simp only [aX]at h19);have q5:op=41:=by omega
      refine am (aJ (aW (parts:= [(0,.const (.bool Bool.true)),(1,.const (.bool Bool.true)),(5,.const (I6 22))]) eT j9 J J) (aq (k:=2) eT J J J J J J (aa (ar (aG () O J (bU (be eT J J J (bh (k:=2) J))) (by unfold yy;rw [ac q1,ac q2,ac q3,ac q4,ak q5];rfl) [] [] J J J)))))
     ·(try simp only [aX]at h19);have q5:¬(op=41):=by omega
      refine am (ab J (ap J J bj (ao J (aa (ai J (fun h20=> ?_) (fun h20=> ?_))))))
      ·(try simp only [aX]at h20);have q6:op=48:=by omega
       refine am (aJ (aW (parts:= [(0,.const (.bool Bool.true)),(5,.const (I6 18))]) eT j9 J J) (aq (k:=2) eT J J J J J J (aa (ar (aG () O J (bU (be eT J J J (bh (k:=2) J))) (by unfold yy;rw [ac q1,ac q2,ac q3,ac q4,ac q5,ak q6];rfl) [] [] J J J)))))
      ·(try simp only [aX]at h20);have q6:¬(op=48):=by omega
       refine am (ab J (ap J J bj (ab J (aF [] J J O (fun hg21=>aV J) J (aF [(55,_)] J J ⟨J,O⟩ (fun hg22=>aS J J bj) J (aJ (bD J J J) (ab J (aF [] J J O (fun hg23=>aV J) J (aF [(59,_)] J J ⟨J,O⟩ (fun hg24=>aS J J bj) J (aJ (bD J J J) (ao J (aa (ai J (fun h25=> ?_) (fun h25=> ?_))))))))))))))
       ·(try simp only [aX]at h25);have q7:op=49∨op=50∨op=51:=by omega
        refine am (aJ (aW (parts:= [(0,.const (.bool Bool.true))]) eT j9 J J) (aq (k:=2) eT J J J J J J (aa (ar (aG () O J (bU (be eT J J J (bh (k:=2) J))) (by unfold yy;rw [ac q1,ac q2,ac q3,ac q4,ac q5,ac q6,ak q7];rfl) [] [] J J J)))))
       ·(try simp only [aX]at h25);have q7:¬(op=49∨op=50∨op=51):=by omega
        refine am (ab J (ap J J bj (ao J (aa (ai J (fun h26=> ?_) (fun h26=> ?_))))))
        ·(try simp only [aX]at h26);have q8:op=52:=by omega
         refine am (aJ (aW (parts:= [(0,.const (.bool Bool.true)),(2,.const (.bool Bool.true))]) eT j9 J J) (aq (k:=2) eT J J J J J J (aa (ar (aG () O J (bU (be eT J J J (bh (k:=2) J))) (by unfold yy;rw [ac q1,ac q2,ac q3,ac q4,ac q5,ac q6,ac q7,ak q8];rfl) [] [] J J J)))))
        ·(try simp only [aX]at h26);have q8:¬(op=52):=by omega
         refine am (ab J (ap J J bj (ao J (aa (ai J (fun h27=> ?_) (fun h27=> ?_))))))
         ·(try simp only [aX]at h27);have q9:op=53:=by omega
          refine am (aJ (aW (parts:= [(0,.const (.bool Bool.true)),(1,.const (.bool Bool.true)),(5,.const (I6 18)),(6,.const (I3 3))]) eT j9 J J) (aq (k:=2) eT J J J J J J (aa (ar (aG () O J (bU (be eT J J J (bh (k:=2) J))) (by unfold yy;rw [ac q1,ac q2,ac q3,ac q4,ac q5,ac q6,ac q7,ac q8,ak q9];rfl) [] [] J J J)))))
         ·(try simp only [aX]at h27);have q9:¬(op=53):=by omega
          refine am (ab J (ap J J bj (ao J (aa (ai J (fun h28=> ?_) (fun h28=> ?_))))))
          ·(try simp only [aX]at h28);have q10:op=54:=by omega
           refine am (aJ (aW (parts:= [(0,.const (.bool Bool.true)),(2,.const (.bool Bool.true)),(5,.const (I6 18)),(6,.const (I3 4))]) eT j9 J J) (aq (k:=2) eT J J J J J J (aa (ar (aG () O J (bU (be eT J J J (bh (k:=2) J))) (by unfold yy;rw [ac q1,ac q2,ac q3,ac q4,ac q5,ac q6,ac q7,ac q8,ac q9,ak q10];rfl) [] [] J J J)))))
          ·(try simp only [aX]at h28);have q10:¬(op=54):=by omega
           refine az (am (aJ (aW (parts:= []) eT j9 J J) (aq (k:=2) eT J J J J J J (aa (ar (aG () O J (bU (be eT J J J (bh (k:=2) J))) (by unfold yy;rw [ac q1,ac q2,ac q3,ac q4,ac q5,ac q6,ac q7,ac q8,ac q9,ac q10];rfl) [] [] J J J))))))
theorem o9(n:Int)(u:Bool):
  aN prog 212 [I6 n,.bool u] [] [] (.bool (fo n u)) []:=by
 refine ay func212 J ntmps212 J fun w0 M H=>am (ao J (aw J (ab J (ap J J bj (ab J (aF [] J J O (fun hg1=>aV J) J (aF [(8,_)] J J ⟨J,O⟩ (fun hg2=>aV J) J (c_ [] [(8,_),(9,_)] J J O ⟨J,J,O⟩ (fun hg3 hg3'=>aV J) J (c_ [(10,_)] [(8,_),(9,_)] J J ⟨J,O⟩ ⟨J,J,O⟩ (fun hg4 hg4'=>aS J J ge) J (aF [(8,_),(9,_)] J J ⟨J,J,O⟩ (fun hg5=>em J J J (by first|exact dZ|exact eK|exact dm hg5|exact dY hg5|rfl)) J (aF [(8,_),(9,_),(12,_)] J J ⟨J,J,J,O⟩ (fun hg6=>aV J) J (c_ [] [(8,_),(9,_),(12,_),(13,_)] J J O ⟨J,J,J,J,O⟩ (fun hg7 hg7'=>aV J) J (c_ [(14,_)] [(8,_),(9,_),(12,_),(13,_)] J J ⟨J,O⟩ ⟨J,J,J,J,O⟩ (fun hg8 hg8'=>aS J J cG) J (aF [(8,_),(9,_),(12,_),(13,_)] J J ⟨J,J,J,J,O⟩ (fun hg9=>em J J J (by first|exact dZ|exact eK|exact dm hg9|exact dY hg9|rfl)) J (aJ (bD J J J) ?_)))))))))))))))
 refine ao J (aa (ar (aG () O J (bU (aD J)) J [] [] J J J)))
theorem G_{n:Int}{z:Int}(hn:0≤n∧n<4294967296)(hz:z=18∨z=22):vS z n=if n%2^z.toNat≥2^(z-1).toNat then IntKind.u32.wrap (n%2^z.toNat-2^z.toNat)else n%2^z.toNat:=by
 have e32:∀x:Int,IntKind.u32.wrap x=x%4294967296:=fun x=>IntKind.wrap_u32 x
 unfold vS wU;rcases hz with rfl|rfl
 ·rw [show((32:Int)-18).toNat=14 from J,show(18:Int).toNat=18 from J,show((18:Int)-1).toNat=17 from J,show(2:Int)^14=16384 from J,show(2:Int)^18=262144 from J,show(2:Int)^17=131072 from J];simp only [e32,IntKind.wrap_i32];split<;>omega
 ·rw [show((32:Int)-22).toNat=10 from J,show(22:Int).toNat=22 from J,show((22:Int)-1).toNat=21 from J,show(2:Int)^10=1024 from J,show(2:Int)^22=4194304 from J,show(2:Int)^21=2097152 from J];simp only [e32,IntKind.wrap_i32];split<;>omega
theorem Mk{z:Int}(hz:z=18∨z=22):IntKind.u32.wrap (1*2^z.toNat)=2^z.toNat∧IntKind.u32.wrap (1*2^(z-1).toNat)=2^(z-1).toNat∧¬(2:Int)^z.toNat=0:=by
 rcases hz with rfl|rfl<;>exact⟨J,J,by decide⟩
theorem oY(n z:Int)(hn:0≤n∧n<4294967296)(hz:z=18∨z=22):
  aN prog 198 [I3 n,I6 z] [] [] (I3 (vS z n)) []:=by
 refine ay func198 J ntmps198 J fun w0 M H=> ?_
 rw [G_ hn hz];refine am (ao J (aa (aR (ab J (ap J J cG (aa (ai J (fun h1=> ?_) (fun h1=> ?_))))))))
 ·exact absurd h1 (by simp;omega)
 ·(try simp only [aX]at h1);refine az (aR (ab J (ap J J fp (aa (ai J (fun h2=> ?_) (fun h2=> ?_))))))
  ·exact absurd h2 (by simp;omega)
  ·(try simp only [aX]at h2);refine az (am (ab J (ab J (ap J J (gV (by omega) (by simp [IntKind.bits];omega) (Mk hz).1) (ap J J (gW (Mk hz).2.2 (Int.tmod_eq_emod_of_nonneg hn.1)) (ao J (aa (aR (ab J (ab J (ap J J (lg (bs (by omega))) (ap J J (gV (by omega) (by simp [IntKind.bits];omega) (Mk hz).2.1) (ap J J fp (aa (ai J (fun h3=> ?_) (fun h3=> ?_))))))))))))))))
   ·rw [ak (df h3)];refine am (ab J (ab J (ap J J (gV (by omega) (by simp [IntKind.bits];omega) (Mk hz).1) (ap J J (lg J) (ao J (aa (ar (aG () O J (bU (aD J)) J [] [] J J J))))))))
   ·rw [ac (e9 h3)];refine az (am (ab J (ao J (aa (ar (aG () O J (bU (aD J)) J [] [] J J J))))))
theorem wC(n z:Int)(hn:0≤n∧n<4294967296)(hz:z=18∨z=22):
  aN prog 213 [I3 n,I6 z] [] [] (.bool (decide (vS z n=n))) []:=by
 refine ay func213 J ntmps213 J fun w0 M H=>am (ao J (aw J (ab J (ab J (ae (xs:= [.tmp 5,.tmp 6]) (oY n z hn hz) Gl [] [] [] (fun _ _=>ab J (ap J J bj (ao J (aa (ar (aG () O J (bU (aD J)) J [] [] J J J)))))))))))
theorem Ee:∀s∈shL,(s.kd=0↔s.bt=0)∧(s.kd=0∨s.kd=1∨s.kd=2)∧0≤s.mo∧s.mo<262144:=by decide
theorem oj(op:Int):((cE op).kd=0↔(cE op).bt=0)∧((cE op).kd=0∨(cE op).kd=1∨(cE op).kd=2)∧0≤(cE op).mo∧(cE op).mo<262144:=by
 unfold cE;split
 ·rename_i h;have hl:shL.length=64:=by decide
  rw [List.getD_eq_getElem?_getD,bO (by omega)];exact Ee _ (List.getElem_mem _)
 ·decide
structure VQ(i:Qi):Prop where
 op:0≤i.op∧i.op<64
 d:0≤i.d∧i.d<16
 a:0≤i.a∧i.a<16
 b:0≤i.b∧i.b<16
 k:(cE i.op).k=true
 fd:fo i.d (cE i.op).d=true
 fa:fo i.a (cE i.op).a=true
 fb:fo i.b (cE i.op).b=true
 im:jo (cE i.op) i.imm=true
theorem VQ.of{i:Qi}(h:nN i=true):VQ i:=by
 obtain⟨b1,b2,b3,b4⟩:=sf h;unfold nN at h;simp only [Bool.and_eq_true]at h;obtain⟨⟨⟨⟨h1,h2⟩,h3⟩,h4⟩,h5⟩:=h;exact⟨b1,b2,b3,b4,h1,h2,h3,h4,h5⟩
theorem nz{a b:Int}(ha:0≤a∧a<4294967296)(hb:0<b):IntKind.u32.wrap (a.tdiv b)=a/b:=by
 rw [Int.tdiv_eq_ediv_of_nonneg ha.1];exact jA (Int.ediv_nonneg ha.1 (by omega)) (Int.lt_of_le_of_lt (Int.ediv_le_self _ ha.1) ha.2)
theorem Gg{s:Sh}{n:Int}(h:jo s n=true)(hk:s.kd=0):n=0:=by
 unfold jo at h;rw [ak hk]at h;exact df h
theorem Gf{s:Sh}{n:Int}(h:jo s n=true)(hk:s.kd=1):vS s.bt n=n:=by
 unfold jo at h;rw [ac (by omega),ak hk]at h;exact df h
theorem Ge{s:Sh}{n:Int}(h:jo s n=true)(hk:s.kd=2)(hm:s.mo>0):n≤s.mo:=by
 unfold jo at h;rw [ac (by omega),ac (by omega),ak hm]at h;exact df h
theorem Gd{s:Sh}{n:Int}(h:jo s n=true)(hk:s.kd=2)(hm:¬s.mo>0):n/2^s.bt.toNat=0:=by
 unfold jo at h;rw [ac (by omega),ac (by omega),ac hm]at h;exact df h
theorem Hh{z:Int}(hz:z=18∨z=22):IntKind.u32.wrap (1*2^z.toNat)=2^z.toNat∧0<(2:Int)^z.toNat∧(2:Int)^z.toNat≤4194304:=by
 rcases hz with rfl|rfl<;>exact⟨J,by decide,by decide⟩
theorem rI{n m:Int}(hn:0≤n)(hm:0<m)(h:n/m=0):n<m:=by
 have:=Int.emod_lt_of_pos n hm;have h2:=Int.ediv_mul_add_emod n m;rw [h]at h2;omega
theorem ud(i:Qi)(hi:0≤i.imm∧i.imm<4294967296)(hv:VQ i):
  aN prog 209 [.agg (gM i).toArray] [] [] (.bool true) []:=by
 refine ay func209 J ntmps209 J fun w0 M H=> ?_
 have hof:=wP hv.op;have k1:=iq i.op;have k2:=oj i.op;refine am (cB J J fun b1=>ao J (aw J (aA b_ J (aL 1 t3 J J J J (ae (xs:= [.tmp 8]) (sY i.op) Dk [] [] [] (fun _ _=> ?_))))));rw [hof];refine aU eT J J fun b3=>aq (k:=3) eT J J J J J J (aa (aR (aA Fh J (aL 3 t4 J J J J (aJ (cZ J) (aa (ai J (fun h1=> ?_) (fun h1=> ?_))))))))
 ·exact absurd h1 (by show ¬(!(cE i.op).k)=true;rw [hv.k];decide)
 ·refine az (am (aA fJ J (aL 1 t3 J J J J (aA yX J (aL 3 t4 J J J J (ae (xs:= [.tmp 14,.tmp 16]) (o9 i.d (xp i.op).d) Dj [] [] [] (fun _ _=>ao J (aw J (aA kH J (aL 1 t3 J J J J (aA yW J (aL 3 t4 J J J J (ae (xs:= [.tmp 19,.tmp 21]) (o9 i.a (xp i.op).a) Dj [] [] [] (fun _ _=>ao J (aa (aT ?_))))))))))))))));refine aj (aA kF J (aL 1 t3 J J J J (aA yU J (aL 3 t4 J J J J (ae (xs:= [.tmp 24,.tmp 26]) (o9 i.b (xp i.op).b) Dj [] [] [] (fun _ _=>ao J (aa (aR (ab J (aJ (cZ J) (ab J (aF [] J J O (fun hg2=>aV J) J (aF [(31,_)] J J ⟨J,O⟩ (fun hg3=>cZ J) J (aJ (bD J J J) (ab J (aF [] J J O (fun hg4=>aV J) J (aF [(35,_)] J J ⟨J,O⟩ (fun hg5=>cZ J) J ?_)))))))))))))))));refine aJ (bD J J J) (aa (ai J (fun h6=> ?_) (fun h6=> ?_)))
  ·exact absurd h6 (by show ¬((!fo i.d (cE i.op).d) || (!fo i.a (cE i.op).a) || (!fo i.b (cE i.op).b))=true;rw [hv.fd,hv.fa,hv.fb];decide)
  ·refine az (aR (aA kz J (aL 3 t3 J J J J (ap J J bj (aa (ai J (fun h7=> ?_) (fun h7=> ?_)))))))
   ·(try simp only [aX]at h7);have q3:(cE i.op).bt=0:=h7;refine am (aA dq J (aL 1 dy J J J J (ap J J bj (ao J (aa (ar (aG () O J (bU (aD J)) (congrArg Value.bool (by rw [Gg hv.im (k2.1.2 q3)];rfl)) [] [] J J J)))))))
   ·(try simp only [aX]at h7);have q3:¬(cE i.op).bt=0:=h7;have hb:(cE i.op).bt=18∨(cE i.op).bt=22:=by have:=k1.2.2.2.1;omega
    refine az (aR (aA yT J (aL 3 t4 J J J J (aa (ai J (fun h8=> ?_) (fun h8=> ?_))))))
    ·have q4:(cE i.op).kd=1:=df h8;refine am (aA dq J (aL 1 dy J J J J (aA kz J (aL 3 t3 J J J J (ae (xs:= [.tmp 47,.tmp 49]) (wC i.imm (cE i.op).bt hi (by have:=k1.2.2.2.1;omega)) K_ [] [] [] (fun _ _=>ao J (aa (ar (aG () O J (bU (aD J)) (congrArg Value.bool (decide_eq_true (Gf hv.im q4))) [] [] J J J)))))))))
    ·have q4:¬(cE i.op).kd=1:=e9 h8;have q5:(cE i.op).kd=2:=by have:=k2.2.1;have:=k2.1;omega
     refine az (aR (aA yS J (aL 3 dy J J J J (ap J J ge (aa (ai J (fun h9=> ?_) (fun h9=> ?_)))))))
     ·(try simp only [aX]at h9);have q6:(cE i.op).mo>0:=h9;refine am (aA dq J (aL 1 dy J J J J (aA yS J (aL 3 dy J J J J (ap J J ki (ao J (aa (ar (aG () O J (bU (aD J)) (congrArg Value.bool (decide_eq_true (Ge hv.im q5 q6))) [] [] J J J)))))))))
     ·(try simp only [aX]at h9);have q6:¬(xp i.op).mo>0:=by omega
      refine az (am (aA dq J (aL 1 dy J J J J (aA kz J (aL 3 t3 J J J J (aJ (bK underlying3 underlying138 J (c:=(cE i.op).bt) (by rcases hb with hb|hb<;>rw [show(xp i.op).bt=(cE i.op).bt from J,hb]<;>rfl)) (ap J J (gV (by omega) (by simp [IntKind.bits];omega) (Hh hb).1) (ap J J cG (ao J (aa (ar (aG () O J (bU (aD J)) (congrArg Value.bool (decide_eq_true (rI hi.1 (Hh hb).2.1 (Gd hv.im q5 q6)))) [] [] J J J))))))))))))
theorem Iv{i:Qi}(hv:VQ i)(hb:(cE i.op).bt=18∨(cE i.op).bt=22):IntKind.u32.wrap (i.op*67108864+i.d*4194304+i.a*262144+i.b*16384+i.imm%2^(cE i.op).bt.toNat)=lf i:=by
 have b1:=hv.op;have b2:=hv.d;have b3:=hv.a;have b4:=hv.b;have k:=iq i.op;unfold lf;rcases hb with h|h
 ·have hb0:i.b=0:=eN (by rw [←k.2.2.2.2.1 h];exact hv.fb);rw [h,show((2:Int)^(18:Int).toNat)=262144 from J];exact bw (by omega)
 ·have hb0:i.b=0:=eN (by rw [←(k.2.2.2.2.2 h).2];exact hv.fb);have ha0:i.a=0:=eN (by rw [←(k.2.2.2.2.2 h).1];exact hv.fa);rw [h,show((2:Int)^(22:Int).toNat)=4194304 from J];exact bw (by omega)
theorem sF(i:Qi)(hi:0≤i.imm∧i.imm<4294967296)(hv:VQ i):
  aN prog 199 [.agg (gM i).toArray] [] [] (.tuple #[I3 (lf i),I6 0]) []:=by
 refine ay func199 J ntmps199 J fun w0 M H=> ?_
 have hof:=wP hv.op;have k1:=iq i.op;have k2:=oj i.op;obtain⟨o1,o2⟩:=hv.op;obtain⟨d1,d2⟩:=hv.d;obtain⟨a1,a2⟩:=hv.a;obtain⟨e1,e2⟩:=hv.b;have hfb:=hv.fb;have hfa:=hv.fa;refine am (cB J J fun b1=>ao J (ao J (aw J (aJ (aM ey J J J (bh (k:=1) J)) (ae (xs:= [.tmp 7]) (ud i hi hv) Ld [] [] [] (fun _ _=>ao J (aa (aR (ab J (aJ (cZ J) (aa (ai J (fun h1=> ?_) (fun h1=> ?_)))))))))))))
 ·cases h1
 ·(try simp only [aX]at h1);refine az (am (aA b_ J (aL 1 t3 J J J J (aJ (bK underlying3 underlying41 J (by first|exact bw (by omega)|rfl)) (ap J J mF (aA fJ J (aL 1 t3 J J J J (aJ (bK underlying3 underlying41 J (by first|exact bw (by omega)|rfl)) (ap J J mF (ap J J mG (aA kH J (aL 1 t3 J J J J (aJ (bK underlying3 underlying41 J (by first|exact bw (by omega)|rfl)) (ap J J mF (ap J J mG (aA kF J (aL 1 t3 J J J J (aJ (bK underlying3 underlying41 J (by first|exact bw (by omega)|rfl)) ?_))))))))))))))))));refine ap J J mF (ap J J mG (ao J (aw J (aA b_ J (aL 1 t3 J J J J (ae (xs:= [.tmp 31]) (sY i.op) Dk [] [] [] (fun _ _=> ?_)))))));rw [hof];refine aJ (ux Fb t3 J J) (ao J (aa (aR (ab J (ap J J bj (aa (ai J (fun h2=> ?_) (fun h2=> ?_))))))))
  ·(try simp only [aX]at h2);have q3:(cE i.op).bt=0:=h2;refine am (ab J (ao J (ao J (aa (ar (aG () O J (Ep (aD J) (aD J)) (congrArg (fun z=>Value.tuple #[Value.int .u32 z,Value.int .i64 0]) (by unfold lf;rw [q3,show((2:Int)^(0:Int).toNat)=1 from J];omega)) [] [] J J J))))))
  ·(try simp only [aX]at h2);have q3:¬(cE i.op).bt=0:=h2;have hb:(cE i.op).bt=18∨(cE i.op).bt=22:=by have:=k1.2.2.2.1;omega
   have hp:=Hh hb;have hrm:=Int.emod_lt_of_pos i.imm hp.2.1;have hrn:=Int.emod_nonneg i.imm (show(2:Int)^(cE i.op).bt.toNat≠0 by omega);refine az (am (ab J (aA dq J (aL 1 dy J J J J (ab J (aJ (bK underlying3 underlying138 J (c:=(cE i.op).bt) (by rcases hb with hb|hb<;>rw [show(xp i.op).bt=(cE i.op).bt from J,hb]<;>rfl)) (ap J J (gV (by omega) (by simp [IntKind.bits];omega) hp.1) (ap J J (gW (by omega) (Int.tmod_eq_emod_of_nonneg hi.1)) (ap J J (bX (c:=lf i) (Iv hv hb)) (ao J (ao J (aa (ar (aG () O J (Ep (aD J) (aD J)) J [] [] J J J))))))))))))))
theorem KM{i:Qi}(hv:VQ i):lf i/67108864=i.op∧lf i/4194304%16=i.d∧((cE i.op).a=true→lf i/262144%16=i.a)∧((cE i.op).b=true→lf i/16384%16=i.b)∧((cE i.op).bt=18∨(cE i.op).bt=22→lf i%2^(cE i.op).bt.toNat=i.imm%2^(cE i.op).bt.toNat):=by
 have b1:=hv.op;have b2:=hv.d;have b3:=hv.a;have b4:=hv.b;have k:=iq i.op;unfold lf;rcases k.2.2.2.1 with h|h|h
 ·rw [h,show((2:Int)^(0:Int).toNat)=1 from J];refine⟨by omega,by omega,fun _=>by omega,fun _=>by omega,fun h=>by omega⟩
 ·have hb0:i.b=0:=eN (by rw [←k.2.2.2.2.1 h];exact hv.fb);rw [h,show((2:Int)^(18:Int).toNat)=262144 from J];refine⟨by omega,by omega,fun _=>by omega,fun hb=> ?_,fun h=>by omega⟩;rw [k.2.2.2.2.1 h]at hb;cases hb
 ·have hb0:i.b=0:=eN (by rw [←(k.2.2.2.2.2 h).2];exact hv.fb);have ha0:i.a=0:=eN (by rw [←(k.2.2.2.2.2 h).1];exact hv.fa);rw [h,show((2:Int)^(22:Int).toNat)=4194304 from J];refine⟨by omega,by omega,fun ha=> ?_,fun hb=> ?_,fun h=>by omega⟩
  ·rw [(k.2.2.2.2.2 h).1]at ha;cases ha
  ·rw [(k.2.2.2.2.2 h).2]at hb;cases hb
theorem Ef{n z:Int}(hn:0≤n∧n<4294967296)(hz:z=18∨z=22):vS z (n%2^z.toNat)=vS z n:=by
 have hp:=Hh hz;have h1:=Int.emod_nonneg n (show(2:Int)^z.toNat≠0 by omega);have h2:=Int.emod_lt_of_pos n hp.2.1;rw [G_ hn hz,G_ ⟨h1,by omega⟩ hz,Int.emod_emod_of_dvd _ (Int.dvd_refl _)]
theorem HY{i:Qi}(hi:0≤i.imm∧i.imm<4294967296)(hv:VQ i)(hk:(cE i.op).kd=2)(hb:(cE i.op).bt=18∨(cE i.op).bt=22):i.imm<2^(cE i.op).bt.toNat:=by
 have hp:=Hh hb;by_cases hm:(cE i.op).mo>0
 ·have h1:=Ge hv.im hk hm;have h2:=oj i.op;have h3:(262144:Int)≤2^(cE i.op).bt.toNat:=by rcases hb with h|h<;>rw [h]<;>decide
  omega
 ·exact rI hi.1 hp.2.1 (Gd hv.im hk hm)
theorem sG(i:Qi)(hi:0≤i.imm∧i.imm<4294967296)(hv:VQ i):
  aN prog 180 [I3 (lf i)] [] [] (.tuple #[.agg (gM i).toArray,I6 0]) []:=by
 refine ay func180 J ntmps180 J fun w0 M H=> ?_
 have hof:=wP hv.op;have k1:=iq i.op;have k2:=oj i.op;have hwb:=xy (i:=i) (by unfold nN;simp only [Bool.and_eq_true];exact⟨⟨⟨⟨hv.k,hv.fd⟩,hv.fa⟩,hv.fb⟩,hv.im⟩);obtain⟨f0,f1,f2,f3,f4⟩:=KM hv;refine am (aU ey J J fun b2=>ao J (aw J (ab J (ap J J (iG (by decide) (nz hwb (by decide))) (aJ (bK underlying41 underlying3 J (c:=i.op) (by rw [f0];exact rh (by have:=hv.op;omega) (by have:=hv.op;omega))) (aJ (aW (parts:= [(0,.tmp 10)]) ey k8 J J) (aU ey J J fun b4=>aq (k:=4) ey J J J J J J (aw J (aA b_ J (aL 4 t3 J J J J (ae (xs:= [.tmp 13]) (sY i.op) Dk [] [] [] (fun _ _=> ?_))))))))))));rw [hof];refine aU eT J J fun b5=>aq (k:=5) eT J J J J J J (aa (bv (X:=Unit) (fun _=>True) (fun _=> [(0,I3 (lf i)),(2,Pt b2),(3,I6 0),(4,Pt b4),(5,Pt b5)]) (fun _=> [(2,aO b2 118 (gM ⟨0,0,0,0,0⟩)),(4,aO b4 118 (gM ⟨i.op,i.d,0,0,0⟩)),(5,aO b5 275 (Jn (xp i.op)))]) (fun _=> []) ?_ (fun _ _=> ?_)))
 ·refine am (aA yX J (aL 5 t4 J J J J (aa (ai J (fun h1=> ?_) (fun h1=> ?_)))))
  ·have q1:(cE i.op).d=true:=h1;refine aj (ab J (ap J J (iG (by decide) (nz hwb (by decide))) (ap J J (gW (by decide) (Int.tmod_eq_emod_of_nonneg (Int.ediv_nonneg hwb.1 (by decide)))) (aJ (bK underlying41 underlying3 J (c:=i.d) (by rw [f1];exact rh (by have:=hv.d;omega) (by have:=hv.d;omega))) (aA fJ J (ax (k:=4) t3 J J J J J J J J (aa (aI () O J (by rfl) J))))))))
  ·have q1:(cE i.op).d=false:=by
    have:=h1;exact this
   have hd0:(0:Int)=i.d:=(eN (by rw [←q1];exact hv.fd)).symm;refine az (aI () O J (by rw [hd0];rfl) J)
 ·refine bv (X:=Unit) (fun _=>True) (fun _=> [(0,I3 (lf i)),(2,Pt b2),(3,I6 0),(4,Pt b4),(5,Pt b5)]) (fun _=> [(2,aO b2 118 (gM ⟨0,0,0,0,0⟩)),(4,aO b4 118 (gM ⟨i.op,i.d,i.a,0,0⟩)),(5,aO b5 275 (Jn (xp i.op)))]) (fun _=> []) ?_ (fun _ _=> ?_)
  ·refine am (aA yW J (aL 5 t4 J J J J (aa (ai J (fun h2=> ?_) (fun h2=> ?_)))))
   ·have q2:(cE i.op).a=true:=h2;refine aj (ab J (ap J J (iG (by decide) (nz hwb (by decide))) (ap J J (gW (by decide) (Int.tmod_eq_emod_of_nonneg (Int.ediv_nonneg hwb.1 (by decide)))) (aJ (bK underlying41 underlying3 J (c:=i.a) (by rw [f2 q2];exact rh (by have:=hv.a;omega) (by have:=hv.a;omega))) (aA kH J (ax (k:=4) t3 J J J J J J J J (aa (aI () O J (by rfl) J))))))))
   ·have q2:(cE i.op).a=false:=by
     have:=h2;exact this
    have ha0:(0:Int)=i.a:=(eN (by rw [←q2];exact hv.fa)).symm;refine az (aI () O J (by rw [ha0];rfl) J)
  ·refine bv (X:=Unit) (fun _=>True) (fun _=> [(0,I3 (lf i)),(2,Pt b2),(3,I6 0),(4,Pt b4),(5,Pt b5)]) (fun _=> [(2,aO b2 118 (gM ⟨0,0,0,0,0⟩)),(4,aO b4 118 (gM ⟨i.op,i.d,i.a,i.b,0⟩)),(5,aO b5 275 (Jn (xp i.op)))]) (fun _=> []) ?_ (fun _ _=> ?_)
   ·refine am (aA yU J (aL 5 t4 J J J J (aa (ai J (fun h3=> ?_) (fun h3=> ?_)))))
    ·have q3:(cE i.op).b=true:=h3;refine aj (ab J (ap J J (iG (by decide) (nz hwb (by decide))) (ap J J (gW (by decide) (Int.tmod_eq_emod_of_nonneg (Int.ediv_nonneg hwb.1 (by decide)))) (aJ (bK underlying41 underlying3 J (c:=i.b) (by rw [f3 q3];exact rh (by have:=hv.b;omega) (by have:=hv.b;omega))) (aA kF J (ax (k:=4) t3 J J J J J J J J (aa (aI () O J (by rfl) J))))))))
    ·have q3:(cE i.op).b=false:=by
      have:=h3;exact this
     have hb0:(0:Int)=i.b:=(eN (by rw [←q3];exact hv.fb)).symm;refine az (aI () O J (by rw [hb0];rfl) J)
   ·refine bv (X:=Unit) (fun _=>True) (fun _=> [(0,I3 (lf i)),(2,Pt b2),(3,I6 0),(4,Pt b4),(5,Pt b5)]) (fun _=> [(2,aO b2 118 (gM ⟨0,0,0,0,0⟩)),(4,aO b4 118 (gM ⟨i.op,i.d,i.a,i.b,i.imm%2^(cE i.op).bt.toNat⟩)),(5,aO b5 275 (Jn (xp i.op)))]) (fun _=> []) ?_ (fun _ _=> ?_)
    ·refine am (aA kz J (aL 5 t3 J J J J (ap J J ge (aa (ai J (fun h4=> ?_) (fun h4=> ?_))))))
     ·(try simp only [aX]at h4);have q4:(cE i.op).bt>0:=h4;have hb:(cE i.op).bt=18∨(cE i.op).bt=22:=by have:=k1.2.2.2.1;omega
      have hp:=Hh hb;refine aj (ab J (aA kz J (aL 5 t3 J J J J (aJ (bK underlying3 underlying138 J (c:=(cE i.op).bt) (by rcases hb with hb|hb<;>rw [show(xp i.op).bt=(cE i.op).bt from J,hb]<;>rfl)) (ap J J (gV (by omega) (by simp [IntKind.bits];omega) hp.1) (ap J J (gW (by omega) ((Int.tmod_eq_emod_of_nonneg hwb.1).trans (f4 hb))) (aA dq J (ax (k:=4) dy J J J J J J J J (aa (aI () O J (by rfl) J))))))))))
     ·(try simp only [aX]at h4);have h4:¬(xp i.op).bt>0:=by omega
      have h4:¬(cE i.op).bt>0:=h4;have q4:(cE i.op).bt=0:=by have:=k1.2.1;omega
      have hm0:(0:Int)=i.imm%2^(cE i.op).bt.toNat:=by
       rw [q4,show((2:Int)^(0:Int).toNat)=1 from J];omega
      refine az (aI () O J (by rw [hm0];rfl) J)
    ·refine bv (X:=Unit) (fun _=>True) (fun _=> [(0,I3 (lf i)),(2,Pt b2),(3,I6 0),(4,Pt b4),(5,Pt b5)]) (fun _=> [(2,aO b2 118 (gM ⟨0,0,0,0,0⟩)),(4,aO b4 118 (gM i)),(5,aO b5 275 (Jn (xp i.op)))]) (fun _=> []) ?_ (fun _ _=> ?_)
     ·refine am (aA yT J (aL 5 t4 J J J J (aa (ai J (fun h5=> ?_) (fun h5=> ?_)))))
      ·have q5:(cE i.op).kd=1:=df h5;have hb:=k1.1 q5;have hp:=Hh hb;have h1:=Int.emod_nonneg i.imm (show(2:Int)^(cE i.op).bt.toNat≠0 by omega);have h2:=Int.emod_lt_of_pos i.imm hp.2.1;refine aj (aA dq J (aL 4 dy J J J J (aA kz J (aL 5 t3 J J J J ?_))));refine fy (xs:= [.tmp 49,.tmp 51]) (oY (i.imm%2^(cE i.op).bt.toNat) (cE i.op).bt ⟨h1,by omega⟩ hb) Gl [] [] [] J J J J J J J J (fun _ _=>J) (fun _ _ _=>J) J (fun _ _=> ?_);rw [Ef hi hb,Gf hv.im q5];refine aA dq J (ax (k:=4) dy J J J J J J J J (aa (aI () O J (by rfl) J)))
      ·have q5:¬(cE i.op).kd=1:=e9 h5;have hm1:(⟨i.op,i.d,i.a,i.b,i.imm%2^(cE i.op).bt.toNat⟩:Qi)=i:=by
        have:i.imm%2^(cE i.op).bt.toNat=i.imm:=by
         by_cases h0:(cE i.op).kd=0
         ·rw [Gg hv.im h0];simp
         ·have h2:(cE i.op).kd=2:=by have:=k2.2.1;omega
          exact Int.emod_eq_of_lt hi.1 (HY hi hv h2 (by have:=k1.2.2.2.1;have:=k2.1;omega))
        rw [this]
       refine az (aI () O J (by rw [hm1];rfl) J)
     ·refine am (aJ (aM ey J J J (bh (k:=4) J)) (ae (xs:= [.tmp 55]) (sF i hi hv) Lk [] [] [] (fun _ _=>ab J (aJ (cv J J) (aJ (cv J J) (ao J (ao J (aa (aR (ab J (ap J J fW (ab J (aF [] J J O (fun hg6=>aV J) J (aF [(62,_)] J J ⟨J,O⟩ (fun hg7=>aV J) J (aF [(62,_),(63,_)] J J ⟨J,J,O⟩ (fun hg8=>aS J J fW) J (aJ (bD J J J) ?_))))))))))))))));refine aa (ai J (fun h9=> ?_) (fun h9=> ?_))
      ·exfalso;simp at h9
      ·(try simp only [aX]at h9);refine az (am (aJ (aM ey J J J (bh (k:=4) J)) (aq (k:=2) ey J J J J J J (ao J (aa (ar (aG () O J (Ep (be ey J J J (bh (k:=2) J)) (aD J)) J [] [] J J J)))))))
structure Me where
 m:Nat
 vd:SV
 vi:SV
 vo:SV
 vp:SV
 vr:SV
structure Mm where
 d:List Int
 i:List Int
 r:List Int
def mR(e:Me):List Value:= [sv e.vd,sv e.vi,sv e.vo,sv e.vp,sv e.vr,.bool false]
structure MO(s:Mm)(n:Nat):Prop where
 d:s.d.length=n*256
 i:s.i.length=n*256
 r:s.r.length=n
 n:n≤5000
 rb:∀x∈s.r,0≤x∧x<8
def vT(s:Mm)(a r:Int):Bool:=decide (a<s.d.length)&&decide (s.r.getD (a/256).toNat 0/r%2=1)
def pk:List Int→Nat→List Int→List Int
 | d,_,[]=>d
 | d,a,x::l=>pk (d.set a x) (a+1) l
theorem da:∀(l:List Int)(d:List Int)(a:Nat),(pk d a l).length=d.length
 | [],d,a=>rfl
 | x::l,d,a=>by unfold pk;rw [da l,List.length_set]
theorem kq:∀(l:List Int)(d:List Int)(a:Nat)(x:Int),pk d a (l++ [x])=(pk d a l).set (a+l.length) x
 | [],d,a,x=>rfl
 | y::l,d,a,x=>by
  show pk (d.set a y) (a+1) (l++ [x])=(pk (d.set a y) (a+1) l).set (a+(l.length+1)) x;rw [kq l,show a+1+l.length=a+(l.length+1) by omega]
theorem mY:∀(l:List Int)(d:List Int)(a k:Nat),(pk d a l)[k]?=if a≤k∧k<a+l.length∧k<d.length then l[k-a]? else d[k]?
 | [],d,a,k=>by
  rw [ac (by simp only [cj];omega)];rfl
 | x::l,d,a,k=>by
  show(pk (d.set a x) (a+1) l)[k]?=_;rw [mY l,List.length_set,ca];by_cases h:a+1≤k∧k<a+1+l.length∧k<d.length
  ·rw [ak h,ak (by omega),show k-a=(k-(a+1))+1 by omega];rfl
  ·rw [ac h,List.getElem?_set];by_cases h2:a=k
   ·subst h2;rw [ak J];by_cases h3:a<d.length
    ·rw [ak h3,ak (by omega),Nat.sub_self];rfl
    ·rw [ac h3,ac (by omega),List.getElem?_eq_none (by omega)]
   ·rw [ac h2,ac (by omega)]
def Cd(d:List Int)(a:Nat):Nat→Int
 | 0=>0
 | m+1=>Cd d a m*256+d.getD (a+(3-m)) 0
def yF(d:List Int)(a:Nat):Int:=Cd d a 4
def byL(d:List Int):Prop:=∀x∈d,0≤x∧x<256
theorem byL.get{d:List Int}(h:byL d)(k:Nat):0≤d.getD k 0∧d.getD k 0<256:=by
 rw [List.getD_eq_getElem?_getD];cases hk:d[k]? with
 | none=>decide
 | some x=>exact h x (cO hk)
theorem xa{d:List Int}(h:byL d)(a:Nat):∀m,0≤Cd d a m∧Cd d a m<256^m
 | 0=>⟨Int.le_refl _,by show(0:Int)<1;decide⟩
 | m+1=>by
  have h1:=xa h a m;have h2:=h.get (a+(3-m));show 0≤Cd d a m*256+_∧Cd d a m*256+_<256^(m+1);rw [Int.pow_succ];omega
theorem HT{d:List Int}(h:byL d)(a:Nat){m:Nat}(hm:m≤3):0≤Cd d a m∧Cd d a m<16777216:=by
 have h1:=xa h a m;have h2:(256:Int)^m≤16777216:=by
  have:m=0∨m=1∨m=2∨m=3:=by omega
  rcases this with rfl|rfl|rfl|rfl<;>decide
 omega
theorem Cv{l:List Int}{k:Nat}{x:Int}(h:l[k]?=some x):l.getD k 0=x:=by rw [List.getD_eq_getElem?_getD,h];rfl
theorem ml(e:Me)(s:Mm)(n:Nat)(hs:MO s n)(a:Int)(ha:0≤a∧a<4294967296):
  aN prog 75 [Pt e.m,I3 a] [aO e.m 157 (mR e),own 5 1 bJ (sv e.vd) (s).d,own 5 1 bJ (sv e.vi) (s).i,own 3 1 eI (sv e.vr) (s).r] [] (.bool (decide (a<s.d.length))) [aO e.m 157 (mR e),own 5 1 bJ (sv e.vd) (s).d,own 5 1 bJ (sv e.vi) (s).i,own 3 1 eI (sv e.vr) (s).r]:=by
 refine ay func75 J ntmps75 J fun w0 M H=>am (ao J (aw J (ab J (aJ (bK underlying41 underlying3 J (by first|exact bs (by omega)|rfl)) (ab J (bq J (aA kC J (aL 0 wl J J J J (aJ (aZ underlying84 J (bp (k:=1) J)) (ap J J cG (ao J (aa (ar (aG () O J (bU (aD J)) J [0,1,2,3] [] J J J))))))))))))))
theorem nF(e:Me)(s:Mm)(n:Nat)(hs:MO s n)(a:Int)(ha:0≤a∧a<4294967296)(r:Int)(hr:r=1∨r=2∨r=4):
  aN prog 196 [Pt e.m,I3 a,I6 r] [aO e.m 157 (mR e),own 5 1 bJ (sv e.vd) (s).d,own 5 1 bJ (sv e.vi) (s).i,own 3 1 eI (sv e.vr) (s).r] [] (.bool (vT s a r)) [aO e.m 157 (mR e),own 5 1 bJ (sv e.vd) (s).d,own 5 1 bJ (sv e.vi) (s).i,own 3 1 eI (sv e.vr) (s).r]:=by
 refine ay func196 J ntmps196 J fun w0 M H=>am (ao J (aw J (ab J (ab J (ae (xs:= [.tmp 8,.tmp 9]) (ml e s n hs a ha) Dg [0,1,2,3] [] [0,1,2,3] (fun _ _=>ao J (aw J (ab J (ab J (eH (t:=12) J (fun h1=> ?_) (fun h1=> ?_)))))))))))
 ·(try simp only [aX]at h1);have hq:a<s.d.length:=by simpa using h1
  have hd:=hs.d;have hrl:=hs.r;obtain⟨x,hx⟩:∃x,s.r[(a/256).toNat]?=some x:=⟨_,bO (by omega)⟩
  have hxb:=hs.rb x (cO hx);have hrt:vT s a r=decide (x/r%2=1):=by
   unfold vT;rw [decide_eq_true hq,Bool.true_and,Cv hx]
  rw [hrt];refine bi J J (ab J (bi J J (bq J (bi J J (aA kB J (bi J J (aL 0 Bc J J J J (bi J J (ab J (bi J J (ap J J (iG (by decide) (nz ha (by decide))) (bi J J (aJ (aQ (j:=(a/256).toNat) underlying22 t3 J J (bp (k:=3) J) (by omega) (by omega)) (bi J J (aJ (ag t3 J J (ci (bp (k:=3) J) (by intro _;rfl) hx (by rfl))) (bi J J (ab J (bi J J ?_))))))))))))))))));refine vU (aS J J (iG (by omega) (show IntKind.i64.wrap (x.tdiv r)=x/r from(by rw [Int.tdiv_eq_ediv_of_nonneg hxb.1];exact rh (by have:=Int.ediv_nonneg hxb.1 (show 0≤r by omega);omega) (by have:=Int.ediv_le_self r hxb.1;omega))))) J ?_;refine bi J J (ap J J (gW (by decide) (Int.tmod_eq_emod_of_nonneg (Int.ediv_nonneg hxb.1 (by omega)))) (bi J J (ap J J bj (aJ (bD J J J) (ao J (aa (ar (aG () O J (bU (aD J)) J [0,1,2,3] [] J J J))))))))
 ·(try simp only [aX]at h1);have hrt:vT s a r=false:=by
   unfold vT;rw [decide_eq_false (by omega),Bool.false_and]
  rw [hrt];refine cN J J J J (cN J J J J (cN J J J J (cN J J J J (cN J J J J (cN J J J J (cN J J J J (cN J J J J (cN J J J J (cN J J J J (cN J J J J (cN J J J J (aJ (bD J J J) (ao J (aa (ar (aG () O J (bU (aD J)) J [0,1,2,3] [] J J J))))))))))))))))
theorem vw(e:Me)(s:Mm)(n:Nat)(hs:MO s n)(a:Int)(ha:0≤a∧a<4294967296)(c r:Int)(hc:1≤c∧c≤4)(hr:r=1∨r=2∨r=4)(hok:∀k:Int,0≤k→k<c→vT s (IntKind.u32.wrap (a+k)) r=true):
  aN prog 183 [Pt e.m,I3 a,I6 c,I6 r] [aO e.m 157 (mR e),own 5 1 bJ (sv e.vd) (s).d,own 5 1 bJ (sv e.vi) (s).i,own 3 1 eI (sv e.vr) (s).r] [] (.agg #[I3 0,I3 0,.bool true]) [aO e.m 157 (mR e),own 5 1 bJ (sv e.vd) (s).d,own 5 1 bJ (sv e.vi) (s).i,own 3 1 eI (sv e.vr) (s).r]:=by
 refine ay func183 J ntmps183 J fun w0 M H=>am (aU gy J J fun b8=>aa (aR (ab J (ap J J cG (ab J (aF [] J J O (fun hg1=>aV J) J (aF [(14,_)] J J ⟨J,O⟩ (fun hg2=>aS J J ge) J (aJ (bD J J J) (aa (ai J (fun h3=> ?_) (fun h3=> ?_)))))))))))
 ·exact absurd h3 (by simp;omega)
 ·refine az (aR (ao J (aa (aC (bC (X:=Nat) (fun i=>(i:Int)≤c) (fun i=> [(0,Pt e.m),(1,I3 a),(2,I6 c),(3,I6 r),(8,Pt b8),(9,I6 (i:Int))]) (fun i=> [(0,aO e.m 157 (mR e)),(1,own 5 1 bJ (sv e.vd) s.d),(2,own 5 1 bJ (sv e.vi) s.i),(3,own 3 1 eI (sv e.vr) s.r),(8,aO b8 241 [I3 0,I3 0,.bool false])]) (fun i=> []) (fun i=>c.toNat-i) 0 (by omega) J J J (fun i n1=>aR (ab J (ab J (ap J J cG (aa (ai J (fun h4=> ?_) (fun h4=> ?_))))))))))))
  ·(try simp only [aX]at h4);have hi:(i:Int)<c:=by omega
   refine az (aT (aC (am (ab J (ab J (ab J (aJ (bK underlying3 underlying41 J (c:=(i:Int)) (bw (by omega))) (ap J J (bX J) (ab J (ct (xs:= [.tmp 24,.tmp 28,.tmp 29]) (nF e s n hs (IntKind.u32.wrap (a+i)) (jO _) r hr) Gm [0,1,2,3] [] [0,1,2,3] J J J (fun _ _=> ?_)))))))))));rw [hok i (by omega) (by omega)];refine ao J (aw J (ab J (aJ (cZ J) (aa (ai J (fun h5=> ?_) (fun h5=> ?_))))))
   ·cases h5
   ·(try simp only [aX]at h5);refine az (aj (ab J (ap J J aY (ao J (aa ?_)))));refine aI (i+1) ⟨by omega,by omega⟩ J J J
  ·(try simp only [aX]at h4);have hi:(i:Int)=c:=by omega
   refine bF (am (aJ (aW (parts:= [(2,.const (.bool Bool.true))]) gy FX J J) (aq (k:=8) gy J J J J J J (aa (ar (aG () O J (bU (be gy J J J (bh (k:=8) J))) J [0,1,2,3] [] J J J))))))
theorem r7(e:Me)(s:Mm)(n:Nat)(hs:MO s n)(a:Int)(ha:0≤a∧a<4294967296):
  aN prog 43 [Pt e.m,I3 a] [aO e.m 157 (mR e),own 5 1 bJ (sv e.vd) (s).d,own 5 1 bJ (sv e.vi) (s).i,own 3 1 eI (sv e.vr) (s).r] [] (.int .u8 (if a<s.d.length then s.i.getD a.toNat 0 else 0)) [aO e.m 157 (mR e),own 5 1 bJ (sv e.vd) (s).d,own 5 1 bJ (sv e.vi) (s).i,own 3 1 eI (sv e.vr) (s).r]:=by
 refine ay func43 J ntmps43 J fun w0 M H=>am (ao J (aw J (ab J (ab J (ae (xs:= [.tmp 6,.tmp 7]) (ml e s n hs a ha) Dg [0,1,2,3] [] [0,1,2,3] (fun _ _=>ao J (aa (aR (ab J (aJ (cZ J) (aa (ai J (fun h1=> ?_) (fun h1=> ?_)))))))))))))
 ·(try simp only [aX]at h1);have hq:¬a<s.d.length:=by simpa using h1
  rw [ac hq];refine am (ao J (aa (ar (aG () O J (bU (aD J)) J [0,1,2,3] [] J J J))))
 ·(try simp only [aX]at h1);have hq:a<s.d.length:=by simpa using h1
  have hd:=hs.d;have hil:=hs.i;have hrl:=hs.r;have hnn:=hs.n;obtain⟨x,hx⟩:∃x,s.i[a.toNat]?=some x:=⟨_,bO (by omega)⟩
  rw [ak hq,Cv hx];refine az (aR (ab J (bq J (aA tw J (aL 0 t4 J J J J (aa (ai J (fun h2=> ?_) (fun h2=> ?_))))))))
  ·cases h2
  ·(try simp only [aX]at h2);refine az (am (ab J (bq J (aA oz J (aL 0 wl J J J J (ab J (aJ (aQ (j:=a.toNat) underlying84 t5 J J (bp (k:=2) J) (by omega) (by omega)) (aJ (ag t5 J J (ci (bp (k:=2) J) (by intro _;rfl) hx (by rfl))) (ao J (aa (ar (aG () O J (bU (aD J)) J [0,1,2,3] [] J J J))))))))))))
theorem pu(e:Me)(s:Mm)(n:Nat)(hs:MO s n)(a:Int)(ha:0≤a∧a<4294967296):
  aN prog 41 [Pt e.m,I3 a] [aO e.m 157 (mR e),own 5 1 bJ (sv e.vd) (s).d,own 5 1 bJ (sv e.vi) (s).i,own 3 1 eI (sv e.vr) (s).r] [] (.int .u8 (if a<s.d.length then s.d.getD a.toNat 0 else 0)) [aO e.m 157 (mR e),own 5 1 bJ (sv e.vd) (s).d,own 5 1 bJ (sv e.vi) (s).i,own 3 1 eI (sv e.vr) (s).r]:=by
 refine ay func41 J ntmps41 J fun w0 M H=>am (ao J (aw J (ab J (ab J (ae (xs:= [.tmp 6,.tmp 7]) (ml e s n hs a ha) Dg [0,1,2,3] [] [0,1,2,3] (fun _ _=>ao J (aa (aR (ab J (aJ (cZ J) (aa (ai J (fun h1=> ?_) (fun h1=> ?_)))))))))))))
 ·(try simp only [aX]at h1);have hq:¬a<s.d.length:=by simpa using h1
  rw [ac hq];refine am (ao J (aa (ar (aG () O J (bU (aD J)) J [0,1,2,3] [] J J J))))
 ·(try simp only [aX]at h1);have hq:a<s.d.length:=by simpa using h1
  have hd:=hs.d;have hil:=hs.i;have hrl:=hs.r;have hnn:=hs.n;obtain⟨x,hx⟩:∃x,s.d[a.toNat]?=some x:=⟨_,bO (by omega)⟩
  rw [ak hq,Cv hx];refine az (am (ab J (bq J (aA kC J (aL 0 wl J J J J (ab J (aJ (aQ (j:=a.toNat) underlying84 t5 J J (bp (k:=1) J) (by omega) (by omega)) (aJ (ag t5 J J (ci (bp (k:=1) J) (by intro _;rfl) hx (by rfl))) (ao J (aa (ar (aG () O J (bU (aD J)) J [0,1,2,3] [] J J J))))))))))))
theorem Aw(e:Me)(s:Mm)(n:Nat)(hs:MO s n)(a:Int)(ha:0≤a∧a<4294967296)(hok:vT s a 4=true)(x:Int)(hx:s.i[a.toNat]?=some x)(hxb:0≤x∧x<256):
  aN prog 179 [Pt e.m,I3 a] [aO e.m 157 (mR e),own 5 1 bJ (sv e.vd) (s).d,own 5 1 bJ (sv e.vi) (s).i,own 3 1 eI (sv e.vr) (s).r] [] (.agg #[I3 x,I3 0,.bool true]) [aO e.m 157 (mR e),own 5 1 bJ (sv e.vd) (s).d,own 5 1 bJ (sv e.vi) (s).i,own 3 1 eI (sv e.vr) (s).r]:=by
 refine ay func179 J ntmps179 J fun w0 M H=> ?_
 have hq:a<s.d.length:=by
  unfold vT at hok;simp only [Bool.and_eq_true,decide_eq_true_eq]at hok;exact hok.1
 refine am (aU gy J J fun b4=>aw J (ab J (ab J (ae (xs:= [.tmp 6,.tmp 7,.const (I6 4)]) (nF e s n hs a ha 4 (by decide)) Gm [0,1,2,3] [] [0,1,2,3] (fun _ _=> ?_)))));rw [hok];refine ao J (aa (aR (ab J (aJ (cZ J) (aa (ai J (fun h1=> ?_) (fun h1=> ?_)))))))
 ·cases h1
 ·(try simp only [aX]at h1);refine az (am (ab J (ab J (ae (xs:= [.tmp 13,.tmp 14]) (r7 e s n hs a ha) K0 [0,1,2,3] [] [0,1,2,3] (fun _ _=> ?_)))));rw [ak hq,Cv hx];refine aJ (bK underlying5 underlying41 J (c:=x) (bw (by omega))) (aJ (aW (parts:= [(0,.tmp 16),(2,.const (.bool Bool.true))]) gy FX J J) (aq (k:=4) gy J J J J J J (aa (ar (aG () O J (bU (be gy J J J (bh (k:=4) J))) J [0,1,2,3] [] J J J)))))
theorem B8(e:Me)(s:Mm)(n:Nat)(hs:MO s n)(a:Int)(ha:0≤a∧a<4294967296)(hb:byL s.d)(h4:a+4≤s.d.length)(hok:∀k:Int,0≤k→k<4→vT s (IntKind.u32.wrap (a+k)) 1=true):
  aN prog 151 [Pt e.m,I3 a,I6 4] [aO e.m 157 (mR e),own 5 1 bJ (sv e.vd) (s).d,own 5 1 bJ (sv e.vi) (s).i,own 3 1 eI (sv e.vr) (s).r] [] (.agg #[I3 (yF s.d a.toNat),I3 0,.bool true]) [aO e.m 157 (mR e),own 5 1 bJ (sv e.vd) (s).d,own 5 1 bJ (sv e.vi) (s).i,own 3 1 eI (sv e.vr) (s).r]:=by
 refine ay func151 J ntmps151 J fun w0 M H=> ?_
 have hd:=hs.d;have hil:=hs.i;have hrl:=hs.r;have hnn:=hs.n;refine am (aU gy J J fun b6=>aw J (ab J (ab J (ab J (ae (xs:= [.tmp 9,.tmp 10,.tmp 11,.const (I6 1)]) (vw e s n hs a ha 4 1 (by decide) (by decide) hok) Gs [0,1,2,3] [] [0,1,2,3] (fun _ _=>aU gy J J fun b7=>aq (k:=7) gy J J J J J J (aa (aR (aA mt J (aL 7 t4 J J J J (aa (ai J (fun h1=> ?_) (fun h1=> ?_)))))))))))))
 ·(try simp only [aX]at h1);refine am (ab J (ap J J iF (ao J (aa (aC (bC (X:=Nat) (fun m=>m≤4) (fun m=> [(0,Pt e.m),(1,I3 a),(6,Pt b6),(7,Pt b7),(8,I6 (3-(m:Int)))]) (fun m=> [(0,aO e.m 157 (mR e)),(1,own 5 1 bJ (sv e.vd) s.d),(2,own 5 1 bJ (sv e.vi) s.i),(3,own 3 1 eI (sv e.vr) s.r),(6,aO b6 241 [I3 0,I3 0,.bool false]),(7,aO b7 241 [I3 (Cd s.d a.toNat m),I3 0,.bool true])]) (fun m=> []) (fun m=>4-m) 0 (by omega) J J J (fun m n1=>aR (ab J (ap J J fp (aa (ai J (fun h2=> ?_) (fun h2=> ?_))))))))))))
  ·(try simp only [aX]at h2);have hi:m<4:=by omega
   obtain⟨x,hx⟩:∃x,s.d[a.toNat+(3-m)]?=some x:=⟨_,bO (by omega)⟩
   have hxb:=hb x (cO hx);have hlb:=HT hb a.toNat (m:=m) (by omega)
   refine az (aT (aC ?_));refine bV [21,22,23,24,25,26,27,28,29,30,31,32,33,34,35,36] _ J (bR (V:= [(0,21,_),(1,22,_),(2,23,_),(3,24,_),(4,25,_),(5,26,_),(6,27,_),(7,28,_),(8,29,_),(9,30,_),(10,31,_),(11,32,_),(12,33,_),(13,34,_),(14,35,_),(15,36,_)]) [0,1,2,3,4,5,6,7,8,9,10,11,12,13,14,15] 16 [16,15,14,13,12,11,10,9,8,7,6,5,4,3,2,1,0] [] (fun _=> []) J J (ad J (ah ou J) (ad J (ag dy J J (aB (k:=7) J J)) (ad J (aS J J (ek (bw (by omega)))) (aK J J (ad J (av J) (ad J (ah kC J) (ad J (ag wl J J (aB (k:=0) J J)) (aK J J (aK J J (ad J (bK underlying3 underlying41 J (c:=3-(m:Int)) (bw (by omega))) (a_ (MI J (aS J J (bX (c:=((a.toNat+(3-m):Nat):Int)) (by rw [bw (by omega)];omega)))) (ad J (aQ (j:=a.toNat+(3-m)) underlying84 t5 J J (bp (k:=1) J) J (by omega)) (ad J (ag t5 J J (ci (bp (k:=1) J) (by intro _;rfl) hx (by rfl))) (ad J (bK underlying5 underlying41 J (c:=x) (bw (by omega))) (ad J (aS J J (bX (c:=Cd s.d a.toNat (m+1)) (by rw [bw (by omega)];show _=Cd s.d a.toNat m*256+s.d.getD (a.toNat+(3-m)) 0;rw [Cv hx]))) (ad J (ah ou J) au)))))))))))))))) J J J J J J J J J (fun _ _=>J) J (db (k:=7) dy J J J J J J J J) (fun _ _=>br [] J J au J J J ?_));refine aj (ab J (ap J J (lg (c:=3-((m+1:Nat):Int)) (by rw [bs (by omega)];omega)) (ao J (aa ?_))));refine aI (m+1) ⟨by omega,by omega⟩ J J J
  ·(try simp only [aX]at h2);have hi:m=4:=by omega
   subst hi;refine bF (am (aJ (aM gy J J J (bh (k:=7) J)) (aq (k:=6) gy J J J J J J (aa (ar (aG () O J (bU (be gy J J J (bh (k:=6) J))) J [0,1,2,3] [] J J J))))))
 ·cases h1
def kN(x:Int):Nat→Int
 | 0=>x
 | k+1=>kN x k/256
theorem yd{x:Int}(hx:0≤x∧x<4294967296):∀k,0≤kN x k∧kN x k<4294967296
 | 0=>hx
 | k+1=>by
  have:=yd hx k;show 0≤kN x k/256∧kN x k/256<_;omega
theorem yp{x:Int}(hx:0≤x∧x<4294967296){k:Nat}(hk:k<4):(eJ x)[k]?=some (kN x k%256):=by
 have:k=0∨k=1∨k=2∨k=3:=by omega
 rcases this with rfl|rfl|rfl|rfl
 ·rfl
 ·rfl
 ·show some (x/65536%256)=some (x/256/256%256);rw [Int.ediv_ediv_of_nonneg (by decide)];rfl
 ·show some (x/16777216%256)=some (x/256/256/256%256);rw [Int.ediv_ediv_of_nonneg (by decide),Int.ediv_ediv_of_nonneg (by decide)];rfl
theorem zH(e:Me)(s:Mm)(n:Nat)(hs:MO s n)(a:Int)(ha:0≤a∧a<4294967296)(x:Int)(hx:0≤x∧x<4294967296)(h4:a+4≤s.d.length)(hok:∀k:Int,0≤k→k<4→vT s (IntKind.u32.wrap (a+k)) 2=true):
  aN prog 152 [Pt e.m,I3 a,I6 4,I3 x] [aO e.m 157 (mR e),own 5 1 bJ (sv e.vd) (s).d,own 5 1 bJ (sv e.vi) (s).i,own 3 1 eI (sv e.vr) (s).r] [] (.agg #[I3 0,I3 0,.bool true]) [aO e.m 157 (mR e),own 5 1 bJ (sv e.vd) ({s with d:=pk s.d a.toNat (eJ x)}).d,own 5 1 bJ (sv e.vi) ({s with d:=pk s.d a.toNat (eJ x)}).i,own 3 1 eI (sv e.vr) ({s with d:=pk s.d a.toNat (eJ x)}).r]:=by
 refine ay func152 J ntmps152 J fun w0 M H=> ?_
 have hd:=hs.d;have hil:=hs.i;have hrl:=hs.r;have hnn:=hs.n;refine am (aU gy J J fun b8=>aw J (ab J (ab J (ab J (ae (xs:= [.tmp 11,.tmp 12,.tmp 13,.const (I6 2)]) (vw e s n hs a ha 4 2 (by decide) (by decide) hok) Gs [0,1,2,3] [] [0,1,2,3] (fun _ _=>aU gy J J fun b9=>aq (k:=9) gy J J J J J J (aa (aR (aA mt J (aL 9 t4 J J J J (aa (ai J (fun h1=> ?_) (fun h1=> ?_)))))))))))))
 ·(try simp only [aX]at h1);refine am (ao J (aa (aC (bC (X:=Nat) (fun i=>i≤4) (fun i=> [(0,Pt e.m),(1,I3 a),(2,I6 4),(3,I3 (kN x i)),(8,Pt b8),(9,Pt b9),(10,I6 (i:Int))]) (fun i=> [(0,aO e.m 157 (mR e)),(1,own 5 1 bJ (sv e.vd) (pk s.d a.toNat ((eJ x).take i))),(2,own 5 1 bJ (sv e.vi) s.i),(3,own 3 1 eI (sv e.vr) s.r),(8,aO b8 241 [I3 0,I3 0,.bool false]),(9,aO b9 241 [I3 0,I3 0,.bool true])]) (fun i=> []) (fun i=>4-i) 0 (by omega) J J J (fun i n1=>aR (ab J (ab J (ap J J cG (aa (ai J (fun h2=> ?_) (fun h2=> ?_)))))))))))
  ·(try simp only [aX]at h2);have hi:i<4:=by omega
   have hpl:=da ((eJ x).take i) s.d a.toNat
   have hsb:=yd hx i;obtain⟨y,hy⟩:∃y,(pk s.d a.toNat ((eJ x).take i))[a.toNat+i]?=some y:=⟨_,bO (by omega)⟩
   refine az (aT (aC (am (ab J (bq J (aA kC J (aL 0 wl J J J J (ab J (ab J (aJ (bK underlying3 underlying41 J (c:=(i:Int)) (bw (by omega))) (ap J J (bX (c:=((a.toNat+i:Nat):Int)) (by rw [bw (by omega)];omega)) (ab J (aJ (bK underlying41 underlying5 J (c:=kN x i%256) (IntKind.wrap_u8 _)) (aJ (aQ (j:=a.toNat+i) underlying84 t5 J J (bp (k:=1) J) J (by omega)) (lx (k:=1) (e':=(kN x i%256)) t5 J J J (by intro _;rfl) hy J J (aa (aj (ab J ?_))))))))))))))))));refine ap J J (iG (by decide) (nz hsb (by decide))) (ao J (aa (aj (ab J (ap J J aY (ao J (aa ?_)))))));refine aI (i+1) ⟨by omega,by omega⟩ J (by rw [cm (yp hx hi),kq,List.length_take,Nat.min_eq_left (by show i≤4;omega)];rfl) J
  ·(try simp only [aX]at h2);have hi:i=4:=by omega
   subst hi;refine bF (am (aJ (aM gy J J J (bh (k:=9) J)) (aq (k:=8) gy J J J J J J (aa (ar (aG () O J (bU (be gy J J J (bh (k:=8) J))) J [0,1,2,3] [] J J J))))))
 ·cases h1
end Go.Proofs.YtedmdgbmdplifaaGreat
