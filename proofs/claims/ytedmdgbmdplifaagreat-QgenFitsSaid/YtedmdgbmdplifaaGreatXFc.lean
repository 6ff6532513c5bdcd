/-
  A part of the proof. Conditions are with the theorems.
-/
import Derived.Laws.BitsAllLaws
import Derived.Test.YtedmdgbmdplifaaGreatXFa
import Derived.Test.YtedmdgbmdplifaaGreatXFb
set_option maxHeartbeats 32000000
set_option maxRecDepth 100000
set_option linter.unusedSimpArgs false
set_option linter.unusedVariables false
namespace Go.Proofs.YtedmdgbmdplifaaGreat
open Go.RowKit Tryz
theorem Da:∀(ns a b:List Ba),vW ns (a++b)=fst (vW ns a) (vW (ns++a) b)
 | ns,[],b=>by simp [vW,fst]
 | ns,x::r,b=>by
  rw [List.cons_append,vW,Da (ns++ [x]) r b,vW,gU,List.append_assoc];rfl
theorem Hy{l:List Ba}{i:Nat}{x:Ba}(h:l[i]?=some x):vW [] (l.take (i+1))=fst (vW [] (l.take i)) (if cx x (l.take i)=true then 22 else 0):=by
 rw [cj h,Da];show fst _ (fst (if cx x ([]++l.take i)=true then 22 else 0) 0)=_;rw [cO,List.nil_append]
def zC(f:Tf):Prop:=f.ps.length>4∨f.ps.length+dW f.body>12∨cv f.body>400∨cG 1 f.body=true
instance(f:Tf):Decidable (zC f):=by unfold zC;exact inferInstance
theorem xI(fs:List Tf)(f:Tf):mW fs f=fst (if zC f then 2 else 0) (fst (vW [] f.ps) (dK fs f.ps f.body).2):=rfl
theorem RP{f:Tf}{er:Int}{dp:Bool}(hdp:dp=true→er≠0)(h:(decide ((f.ps.length:Int)>4) || decide ((f.ps.length:Int)+(dW f.body:Int)>12) || decide (0+(cv f.body:Int)>400) || (dp || cG 1 f.body))=true):fst er 2=fst er (if zC f then 2 else 0):=by
 by_cases hb:zC f
 ·rw [aj hb]
 ·rw [ac hb,cO];unfold zC at hb;have hd:dp=true:=by
   cases hd:dp with
   | true=>rfl
   | false=>
    exfalso;apply hb;rw [hd,Bool.false_or]at h;simp only [Bool.or_eq_true,decide_eq_true_eq]at h;rcases h with((h|h)|h)|h
    ·exact .inl (by omega)
    ·exact .inr (.inl (by omega))
    ·exact .inr (.inr (.inl (by omega)))
    ·exact .inr (.inr (.inr h))
  exact ac (hdp hd)
theorem RQ{f:Tf}{er:Int}{dp:Bool}(h:(decide ((f.ps.length:Int)>4) || decide ((f.ps.length:Int)+(dW f.body:Int)>12) || decide (0+(cv f.body:Int)>400) || (dp || cG 1 f.body))=false):er=fst er (if zC f then 2 else 0):=by
 simp only [Bool.or_eq_false_iff,decide_eq_false_iff_not]at h;have hb:¬zC f:=by
  unfold zC;rintro (h1|h1|h1|h1)
  ·omega
  ·omega
  ·omega
  ·rw [h.2.2]at h1;cases h1
 rw [ac hb,cO]
theorem Hu{fs:List Tf}{f:Tf}{er:Int}{dp:Bool}(hdp:dp=true→er≠0)(h:(dp || cG 1 f.body)=true):fst er (mW fs f)≠0:=by
 intro h2;obtain⟨h3,h4⟩:=bx.1 h2;rw [xI]at h4;have h5:=(bx.1 h4).1;have hb:¬zC f:=fun hb=>by rw [aj hb]at h5;cases h5
 cases hd:dp with
 | true=>exact hdp hd h3
 | false=>
  rw [hd,Bool.false_or]at h;exact hb (.inr (.inr (.inr h)))
theorem wd(fs:List Tf):∀a b:List Tf,iE fs (a++b)=fst (iE fs a) (iE fs b)
 | [],b=>rfl
 | t::r,b=>by rw [List.cons_append,iE,wd fs r b,iE,gU]
theorem ug{fs l:List Tf}{i:Nat}{f:Tf}(h:l[i]?=some f):iE fs (l.take (i+1))=fst (iE fs (l.take i)) (mW fs f):=by
 rw [cj h,wd];show fst _ (fst (mW fs f) 0)=_;rw [cO]
theorem tm{fs:List Tf}:once fs=true↔∀(i:Nat)(f:Tf),fs[i]?=some f→Bd fs f.name=(i:Int):=by
 unfold once;rw [List.all_eq_true];constructor
 ·intro h i f hf;obtain⟨hi,hf2⟩:=cU.1 hf;have:=h i (List.mem_range.2 hi);rw [List.getD_eq_getElem?_getD,hf]at this;simpa using this
 ·intro h i hi;have hi:=List.mem_range.1 hi;have h2:=bQ hi;have:=h i _ h2;rw [List.getD_eq_getElem?_getD,h2];simpa using this
theorem JD{fs:List Tf}{i:Nat}{f:Tf}(hf:fs[i]?=some f)(h:¬Bd fs f.name=(i:Int)):once fs=false:=by
 rw [Bool.eq_false_iff];exact fun h2=>h (tm.1 h2 i f hf)
theorem QO{fs:List Tf}(h:rP fs=false):jP fs=1:=aj h
theorem QN{fs:List Tf}(h:rP fs=true)(h2:fs.length>16):jP fs=2:=by
 unfold jP;rw [ac (by rw [h];simp),aj h2]
theorem Od{fs:List Tf}(h:rP fs=true)(h2:¬fs.length>16)(h3:once fs=false):jP fs=22:=by
 unfold jP;rw [ac (by rw [h];simp),ac h2,aj h3]
theorem Oe{fs:List Tf}(h:rP fs=true)(h2:¬fs.length>16)(h3:once fs=true)(h4:cV fs eq=none):jP fs=21:=by
 unfold jP;rw [ac (by rw [h];simp),ac h2,ac (by rw [h3];simp),h4]
theorem Oc{fs:List Tf}{f:Tf}(h:rP fs=true)(h2:¬fs.length>16)(h3:once fs=true)(h4:cV fs eq=some f)(h5:f.ps.length>0):jP fs=23:=by
 unfold jP;rw [ac (by rw [h];simp),ac h2,ac (by rw [h3];simp),h4];exact aj h5
theorem QP{fs:List Tf}{f:Tf}(h:rP fs=true)(h2:¬fs.length>16)(h3:once fs=true)(h4:cV fs eq=some f)(h5:¬f.ps.length>0):jP fs=iE fs fs:=by
 unfold jP;rw [ac (by rw [h];simp),ac h2,ac (by rw [h3];simp),h4];exact ac h5
theorem Bw(c:Nat)(vp vn:SV)(nd va:Int)(dp:Bool)(er:Int)(ns:List Ba)(fs:List Tf)(hfl:fs.length≤1000000)(f:Tf)(hg:GF f)(hdp:dp=true→er≠0):
  Spec prog 83 [Pt c,IW f] [bj c 165 (cR vp (vn) (nd) (va) (dp) (er)),own 9 1 eS (sv vn) (ns)] [EK f,dO vp fs] (X:=SV) (fun _=>True) (fun _=> .tuple #[]) (fun x=> [bj c 165 (cR vp (x) (0+(cv f.body:Int)) ((f.ps.length:Int)+(dW f.body:Int)) (dp || cG 1 f.body) (fst er (mW fs f))),own 9 1 eS (sv x) ((dK fs f.ps f.body).1)]) (fun _=> []):=by
 refine aI func83 J ntmps83 J fun w0 M H=> ?_
 obtain⟨g1,g2,g3,g4,g5,g6⟩:=hg;have hvl:=mD f.body;refine a_ 0 2 J ri (a_ 0 3 J m_ (aq (cM J J fun b3=>aa (be ?_))));refine B2 [0,1,2,3,4,5,6,7,8,9,10,11,12,13,14] [0,7,11,1,2,3,4,5,6,8,9,10,12,13,14] [6,7,8,9,10,11,12,13,14,15,16,17] _ J J J (bP (V:= [(0,6,_),(1,7,_),(2,8,_),(3,9,_),(4,10,_),(5,11,_),(6,12,_),(7,13,_)]) [0,1,2,3,4,5,6,7] 8 [8,7,6,0] [9,10] (fun _=> [(9,14,_),(10,15,_)]) J J (aF J J (aF J J (aF J J (ae J (ah fj J) (ae J (ag jT J J (ax (k:=3) J J)) (ae J (aT underlying46 J (aJ (k:=2) J)) (ae J (au J) (ae J (ah qf J) aw)))))))) J J J J J J J J J (fun _ _=>J) J (dw (k:=0) jT J J J J J J J J) (fun _ _=>bP [9,10,1,2,3,4,5] 11 [11,10,9,8,7,6,1,0] [12,13] (fun _=> [(12,16,_),(13,17,_)]) J J (ae J (au J) (ae J (ah ny J) (aF J J (aF J J (ae J (ah fj J) (ae J (ag jT J J (ax (k:=3) J J)) (ae J (aT underlying46 J (aJ (k:=2) J)) aw))))))) J J J J J J J J J (fun _ _=>J) J (dw (k:=0) t3 J J J J J J J J) (fun _ _=>bP [12,13,2,3,4,5] 14 [14,13,12,11,10,9,8,7,6,5,4,3,2,1,0] [] (fun _=> []) J J (ae J (au J) (ae J (ah sE J) (aF J J (ae J (ah fj J) (ae J (ag jT J J (ax (k:=3) J J)) (ae J (aT underlying46 J (aJ (k:=2) J)) aw)))))) J J J J J J J J J (fun _ _=>J) J (dw (k:=0) t3 J J J J J J J J) (fun _ _=>bA [] J J aw J J J ?_))));refine eo 1 (α:=Ba) (S:=9) (s:=1) (enc:=eS) (aq (ad J (aD li J (aR 3 kO J J J J (ai (xs:= [.tmp 18,.tmp 20,.const (I6 1)]) (Bq c vp bc er f.vb f.body g4 g5 1 0 (f.ps.length:Int) dp (by omega) (by omega) (by omega) (by omega) (by omega)) HZ [0] [(false,3)] [0] (fun _ _=>aa (bC (X:=Unit) (fun _=>True) (fun _=> [(0,Pt c),(3,Pt b3)]) (fun _=> [(0,bj c 165 (cR vp (bc) (0+(cv f.body:Int)) ((f.ps.length:Int)+(dW f.body:Int)) (dp || cG 1 f.body) (fst er (if zC f then 2 else 0)))),(1,own 9 1 eS (sv bc) ([])),(3,bj b3 66 (jI f))]) (fun _=> [(0,EK f),(1,dO vp fs),(2,sl 1 eS (sv f.vp) f.ps),(3,cm f.vb f.body)]) ?_ (fun _ _=> ?_))))))))
 ·refine aq (aD fj J (aR 3 jT J J J J (aP (aT underlying46 J (aJ (k:=2) J)) (ar J J fA (ad J (aH [] J J O (fun hg1=>aV J) J (aH [(27,_)] J J ⟨J,O⟩ (fun hg2=>au J) J (aH [(27,_),(28,_)] J J ⟨J,J,O⟩ (fun hg3=>ah sE J) J (aH [(27,_),(28,_),(29,_)] J J ⟨J,J,J,O⟩ (fun hg4=>ag t3 J J (ax (k:=0) J J)) J (aH [(27,_),(28,_),(29,_),(30,_)] J J ⟨J,J,J,J,O⟩ (fun hg5=>aQ J J fA) J (aP (bH J J J) (ad J (aH [] J J O (fun hg6=>aV J) J (aH [(34,_)] J J ⟨J,O⟩ (fun hg7=>au J) J (aH [(34,_),(35,_)] J J ⟨J,J,O⟩ (fun hg8=>ah ny J) J (aH [(34,_),(35,_),(36,_)] J J ⟨J,J,J,O⟩ (fun hg9=>ag t3 J J (ax (k:=0) J J)) J (aH [(34,_),(35,_),(36,_),(37,_)] J J ⟨J,J,J,J,O⟩ (fun hg10=>aQ J J fA) J (aP (bH J J J) ?_))))))))))))))))));refine ad J (aH [] J J O (fun hg11=>aV J) J (aH [(41,_)] J J ⟨J,O⟩ (fun hg12=>au J) J (aH [(41,_),(42,_)] J J ⟨J,J,O⟩ (fun hg13=>ah qe J) J (aH [(41,_),(42,_),(43,_)] J J ⟨J,J,J,O⟩ (fun hg14=>ag t4 J J (ax (k:=0) J J)) J (aP (bH J J J) (aa (ap J (fun h15=> ?_) (fun h15=> ?_))))))))
  ·have hq:=h15;refine ak (ad J (ai (xs:= [.tmp 46,.const (I6 2)]) (kH c vp bc (0+(cv f.body:Int)) ((f.ps.length:Int)+(dW f.body:Int)) (dp || cG 1 f.body) er 2) zx [0] [] [0] (fun _ _=>aa (aG () O J (by rw [←RP hdp hq];rfl) J))))
  ·have hq:=h15;refine aC (aG () O J (by rw [←RQ hq];rfl) J)
 ·refine aU (aD fj J (aR 3 jT J J J J (aP (aT underlying46 J (aJ (k:=2) J)) (ad J (aa (aA (bJ (X:=Nat×SV) (fun x=>x.1≤f.ps.length) (fun x=> [(0,Pt c),(3,Pt b3),(49,sv f.vp),(50,I6 (f.ps.length:Int)),(51,I6 (x.1:Int))]) (fun x=> [(0,bj c 165 (cR vp (x.2) (0+(cv f.body:Int)) ((f.ps.length:Int)+(dW f.body:Int)) (dp || cG 1 f.body) (fst (fst er (if zC f then 2 else 0)) (vW [] (f.ps.take x.1))))),(1,own 9 1 eS (sv x.2) (f.ps.take x.1)),(3,bj b3 66 (jI f))]) (fun x=> [(0,EK f),(1,dO vp fs),(2,sl 1 eS (sv f.vp) f.ps),(3,cm f.vb f.body)]) (fun x=>f.ps.length-x.1) (0,bc) (bn _) J (by rw [show fst (fst er (if zC f then 2 else 0)) (vW [] (f.ps.take (0,bc).1))=fst er (if zC f then 2 else 0)from cO _];rfl) J (fun x n1=> ?_))))))));obtain⟨i,v⟩:=x;dsimp only at n1 ⊢;refine aq (ar J J cy (aa (be (ap J (fun h16=> ?_) (fun h16=> ?_)))))
  ·(try simp only [bl]at h16);have hi:i<f.ps.length:=by omega
   obtain⟨x,hx⟩:∃k,f.ps[i]?=some k:=⟨_,bQ hi⟩
   refine aC (be (aA (aq (aP (aO (j:=i) underlying46 t9 J J (aJ (k:=2) J) (by first|rfl|omega) (by first|omega|(simp;done)|(simp;omega))) (aP (ag t9 J J (bF (aJ (k:=2) J) (by intro _;rfl) hx (by rfl))) (am J (aa (ak (ad J (ad J (ai (xs:= [.tmp 55,.tmp 56]) (ui c vp v (0+(cv f.body:Int)) ((f.ps.length:Int)+(dW f.body:Int)) (dp || cG 1 f.body) (fst (fst er (if zC f then 2 else 0)) (vW [] (f.ps.take i))) (f.ps.take i) (by rw [List.length_take];omega) x) L5 [0,1] [] [0,1] (fun v2 _=>aa (ak (ar J J aK (ad J (aa ?_))))))))))))))));refine aG (i+1,v2) ⟨by dsimp only;omega,by dsimp only;omega⟩ J (by dsimp only;rw [Hy hx,cj hx];simp only [gU];rfl) J
  ·(try simp only [bl]at h16);have hi:i=f.ps.length:=by omega
   subst hi;rw [cQ];refine bL (ak (ad J (aD li J (aR 3 kO J J J J (ai (xs:= [.tmp 59,.tmp 61]) (zv c vp (0+(cv f.body:Int)) ((f.ps.length:Int)+(dW f.body:Int)) (dp || cG 1 f.body) fs hfl f.vb f.body g4 g5 v f.ps (fst (fst er (if zC f then 2 else 0)) (vW [] f.ps)) (by omega)) HY [0,1] [(false,3),(false,1)] [0,1] (fun v3 _=>aa ?_))))));rw [show fst er (mW fs f)=fst (fst (fst er (if zC f then 2 else 0)) (vW [] f.ps)) (dK fs f.ps f.body).2 by rw [xI];simp only [gU]];refine cJ v3 O J iU J [0,1] [] J J J
theorem Bv(vp:SV)(fs:List Tf)(hg:GP fs):
  aW prog 48 [.agg #[sv vp]] [] [dO vp fs] (I6 (jP fs)) []:=by
 refine aI func48 J ntmps48 J fun w0 M H=>a_ 0 1 J lL ?_
 have hfl:=hg.1;refine aq (cM J J fun b1=>am J (aa (aU (aP (aM mu J J J (bp (k:=1) J)) (ai (xs:= [.tmp 9]) (Ar vp fs hg) Uc [] [(false,0)] [] (fun _ _=>aP (cZ J) (aa (ap J (fun h1=> ?_) (fun h1=> ?_)))))))))
 ·have hr:rP fs=false:=by simpa using h1
  refine aq (am J (aa (ay (aN () O J (ce (aL J)) (by rw [QO hr]) [] [] J J J))))
 ·have hr:rP fs=true:=by simpa using h1
  refine aC (aU (aD fW J (aR 1 kJ J J J J (aP (aT underlying25 J (aJ (k:=1) J)) (ar J J fA (aa (ap J (fun h2=> ?_) (fun h2=> ?_))))))))
  ·(try simp only [bl]at h2);refine aq (am J (aa (ay (aN () O J (ce (aL J)) (by rw [QN hr (by omega)]) [] [] J J J))))
  ·(try simp only [bl]at h2);refine aC (aq (aP (aM mu J J J (bp (k:=1) J)) (aP (aX (parts:= [(0,.tmp 16)]) SG PP J J) (cM J J fun b18=>am J (aa (aU (aD fW J (aR 1 kJ J J J J (aP (aT underlying25 J (aJ (k:=1) J)) (ad J (aa (aA ?_))))))))))));refine bJ (X:=Nat) (fun i=>i≤fs.length∧∀j f,j<i→fs[j]?=some f→Bd fs f.name=(j:Int)) (fun i=> [(1,Pt b1),(2,I6 0),(3,Pt b18),(20,sv vp),(21,I6 (fs.length:Int)),(22,I6 (i:Int))]) (fun i=> [(1,bj b1 27 [sv vp]),(18,bj b18 165 (cR vp bc 0 0 false 0))]) (fun i=> [(0,dO vp fs),(1,sl 3 jI (sv vp) fs)]) (fun i=>fs.length-i) 0 ⟨bn _,fun j f hj=>by omega⟩ J J J (fun i hx0=> ?_);obtain⟨n1,n2⟩:=hx0;refine aq (ar J J cy (aa (be (ap J (fun h3=> ?_) (fun h3=> ?_)))))
   ·(try simp only [bl]at h3);have hi:i<fs.length:=by omega
    obtain⟨f,hst⟩:∃k,fs[i]?=some k:=⟨_,bQ hi⟩
    refine aC (be (aA (aq (ad J (aP (aO (j:=i) underlying25 gC J J (aJ (k:=1) J) (by first|rfl|omega) (by first|omega|(simp;done)|(simp;omega))) (aP (aM gC J J J (bF (aJ (k:=1) J) (by intro _;rfl) hst (by rfl))) (aZ gC J J fun b5=>am J (av (k:=5) gC J J J J J J (az J (ad J (aD lW J (aR 5 t9 J J J J (ai (xs:= [.tmp 27,.tmp 29]) (oO b18 vp bc 0 0 false 0 f.name fs hfl) Oj [18] [(false,1)] [18] (fun _ _=>ad J (ar J J iT ?_)))))))))))))));refine aa (ap J (fun h4=> ?_) (fun h4=> ?_))
    ·have hne:¬Bd fs f.name=(i:Int):=by simpa using h4
     refine aq (am J (aa (ay (aN () O J (ce (aL J)) (by rw [Od hr (by omega) (JD hst hne)]) [] [] J J J))))
    ·have hne:Bd fs f.name=(i:Int):=by simpa using h4
     refine aC (ak (ar J J aK (ad J (aa ?_))));refine aG (i+1) ⟨⟨by omega,fun j f2 hj hf2=>by rcases Nat.lt_succ_iff_lt_or_eq.1 hj with h|h;exact n2 j f2 h hf2;subst h;rw [hst]at hf2;cases hf2;exact hne⟩,by omega⟩ J J J
   ·(try simp only [bl]at h3);have hi:i=fs.length:=by omega
    subst hi;have ho:once fs=true:=tm.2 fun j f hf=>n2 j f (cU.1 hf).1 hf
    refine bL (aq (ad J (ai (xs:= [.tmp 34,.const (Sg (ByteArray.mk #[109,97,105,110]))]) (oO b18 vp bc 0 0 false 0 eq fs hfl) Oj [18] [(false,1)] [18] (fun _ _=>am J (aa (aU (ad J (ar J J cy (aa (ap J (fun h5=> ?_) (fun h5=> ?_)))))))))))
    ·(try simp only [bl]at h5);have hm:cV fs eq=none:=jb.1.1 h5;refine aq (am J (aa (ay (aN () O J (ce (aL J)) (by rw [Oe hr (by omega) ho hm]) [] [] J J J))))
    ·(try simp only [bl]at h5);obtain⟨f,hm⟩:∃f,cV fs eq=some f:=by
      cases hf:cV fs eq with
      | none=>exact absurd (jb.1.2 hf) (by omega)
      | some f=>exact⟨f,rfl⟩
     obtain⟨j,hj1,hj2⟩:=jb.2 f hm;have hjl:=(cU.1 hj2).1;rw [hj1];refine a_ 0 7 J (rh (lA hm)) (a_ 7 9 J ri (aC (aU (aD fW J (aR 1 kJ J J J J (ad J (aP (aO (j:=j) underlying25 gC J J (aJ (k:=1) J) J hjl) (aP (fR fj J) (aP (ag jT J J (oe (aJ (k:=1) J) (by intro _;rfl) hj2 J)) (aP (aT underlying46 J (aJ (k:=9) J)) (ar J J fA (aa (ap J (fun h6=> ?_) (fun h6=> ?_))))))))))))))
     ·(try simp only [bl]at h6);refine aq (am J (aa (ay (aN () O J (ce (aL J)) (by rw [Oc hr (by omega) ho hm (by omega)]) [] [] J J J))))
     ·(try simp only [bl]at h6);refine aC (aU (aD fW J (aR 1 kJ J J J J (aP (aT underlying25 J (aJ (k:=1) J)) (ad J (aa (aA (eo 19 (α:=Ba) (S:=9) (s:=1) (enc:=eS) ?_))))))));refine bJ (X:=Nat×SV×List Ba×Int×Int×Bool) (fun x=>x.1≤fs.length∧(x.2.2.2.2.2=true→iE fs (fs.take x.1)≠0)) (fun x=> [(1,Pt b1),(2,I6 0),(3,Pt b18),(47,sv vp),(48,I6 (fs.length:Int)),(49,I6 (x.1:Int))]) (fun x=> [(18,bj b18 165 (cR vp x.2.1 x.2.2.2.1 x.2.2.2.2.1 x.2.2.2.2.2 (iE fs (fs.take x.1)))),(19,own 9 1 eS (sv x.2.1) x.2.2.1)]) (fun x=> [(0,dO vp fs),(1,sl 3 jI (sv vp) fs)]) (fun x=>fs.length-x.1) (0,bc,[],0,0,false) ⟨bn _,fun h=>by cases h⟩ J J J (fun x hx0=> ?_);obtain⟨i,v,ns,nd,va,dp⟩:=x;obtain⟨n1,n2⟩:=hx0;dsimp only at n1 n2 ⊢;refine aq (ar J J cy (aa (be (ap J (fun h7=> ?_) (fun h7=> ?_)))))
      ·(try simp only [bl]at h7);have hi:i<fs.length:=by omega
       obtain⟨f,hst⟩:∃k,fs[i]?=some k:=⟨_,bQ hi⟩
       refine aC (be (aA (aq (aP (aO (j:=i) underlying25 gC J J (aJ (k:=1) J) (by first|rfl|omega) (by first|omega|(simp;done)|(simp;omega))) (aP (aM gC J J J (bF (aJ (k:=1) J) (by intro _;rfl) hst (by rfl))) (aZ gC J J fun b8=>av (k:=8) gC J J J J J J (aa (ak (ad J (aP (aM gC J J J (bp (k:=8) J)) (a_ 0 11 J (rh (bV hst)) (ai (xs:= [.tmp 53,.tmp 54]) (Bw b18 vp v nd va dp (iE fs (fs.take i)) ns fs hfl f (hg.2 f (bV hst)) n2) Ub [18,19] [(false,11),(false,0)] [18,19] (fun v2 _=>aa (ak (ar J J aK (ad J (aa ?_)))))))))))))))));refine aG (i+1,v2,(dK fs f.ps f.body).1,0+(cv f.body:Int),(f.ps.length:Int)+(dW f.body:Int),dp || cG 1 f.body) ⟨⟨by dsimp only;omega,fun h=>by dsimp only;rw [ug hst];exact Hu n2 h⟩,by dsimp only;omega⟩ J (by dsimp only;rw [ug hst];rfl) J
      ·(try simp only [bl]at h7);have hi:i=fs.length:=by omega
       subst hi;rw [cQ];refine bL (aq (ad J (bS J (aD xA J (aR 18 DE J J J J (am J (aa (ay (aN () O J (ce (aL J)) (by rw [QP hr (by omega) ho hm (by omega)]) [] [] J J J)))))))))
theorem Ed{s x:Ba}{l:List Ba}{i:Nat}(h:l[i]?=some x):cx s (l.take (i+1))=(cx s (l.take i) || (x==s)):=by
 unfold cx;rw [cj h,List.any_append,eT];simp only [List.any_cons,List.any_nil,Bool.or_false]
 congr 1
 exact decide_eq_decide.2 ⟨fun h=>h.symm,fun h=>h.symm⟩
theorem Gu{s x:Ba}{l:List Ba}(hm:x∈l)(h:(x==s)=true):cx s l=true:=by
 rw [eT]at h;exact List.any_eq_true.2 ⟨x,hm,by simpa using(cB h).symm⟩
theorem Qe{a b:Bool}(h:(!a&& !b)=false):(a || b)=true:=by cases a<;>cases b<;>simp_all
theorem Qf{a b:Bool}(h:(!a&& !b)=true):(a || b)=false:=by cases a<;>cases b<;>simp_all
theorem Ej{s:Ba}(h:(s.size:Int)<1∨(s.size:Int)>12):bE s=false:=by
 unfold bE;rcases h with h|h
 ·rw [decide_eq_false (show ¬s.size≠0 by omega)];rfl
 ·rw [decide_eq_false (show ¬s.size≤12 by omega)];simp
theorem Do{s:Ba}:(br s).getD 0 0=uo s:=by
 unfold uo br;cases s.data.toList<;>rfl
theorem Ek{s:Ba}(h:mQ ((br s).getD 0 0)=false):bE s=false:=by
 unfold bE;rw [←Do,h];simp
theorem JT{s:Ba}(h:cx s uV=true):bE s=false:=by
 unfold bE;rw [h];simp
theorem zB{s:Ba}{i:Nat}(h:i<s.size):(br s).getD i 0=(((s[i]'h).toNat:Nat):Int):=by
 have hi:i<s.data.toList.length:=by simpa using h
 unfold br;rw [List.getD_eq_getElem?_getD,List.getElem?_map,bQ hi];rfl
theorem NA{s:Ba}{i:Nat}(h:i<s.size)(hb:(mQ ((br s).getD i 0) || kB ((br s).getD i 0))=false):bE s=false:=by
 unfold bE;have h2:zI (fun c=>mQ c || kB c) s=false:=by
  rw [Bool.eq_false_iff];intro h3;have h4:=qw.1 h3 i h;rw [zB h]at hb;rw [hb]at h4;cases h4
 rw [h2];simp
theorem JS{s:Ba}(h1:¬(s.size:Int)<1)(h2:¬(s.size:Int)>12)(h3:mQ ((br s).getD 0 0)=true)(h4:cx s uV=false)(h5:∀j,j<s.size→(mQ ((br s).getD j 0) || kB ((br s).getD j 0))=true):bE s=true:=by
 unfold bE;rw [←Do,h3,h4,decide_eq_true (show s.size≠0 by omega),decide_eq_true (show s.size≤12 by omega)];simp only [Bool.not_false,Bool.and_true,Bool.true_and];exact qw.2 fun i h=>by rw [←zB h];exact h5 i h
def rlv:List (List Ba):= [[kK],[fw],[fo],[nR,nO],[mx,nP,nQ,oU],[gQ,ib],[gg,dU],[gT,la,lR]]
theorem Jf(s:Ba):(rlv.any fun l=>cx s l)=gJ s:=by
 have h:∀o:Ba,decide (s=o)=decide (o=s):=fun o=>decide_eq_decide.2 ⟨fun h=>h.symm,fun h=>h.symm⟩
 unfold gJ;rw [List.isSome_find?];simp only [rlv,lvL,cx,List.any_cons,List.any_nil,Bool.or_false,h]
 ac_rfl
theorem nr(c:Int):
  aW prog 135 [.int .u8 c] [] [] (.bool (mQ c)) []:=by
 refine aI func135 J ntmps135 J fun w0 M H=>aq (am J (az J (ad J (ar J J iz (ad J (aH [] J J O (fun hg1=>aV J) J (aH [(6,_)] J J ⟨J,O⟩ (fun hg2=>aQ J J mt) J (aP (bH J J J) (am J (aa (ay (aN () O J (ce (aL J)) J [] [] J J J))))))))))))
theorem nG(c:Int):
  aW prog 136 [.int .u8 c] [] [] (.bool (kB c)) []:=by
 refine aI func136 J ntmps136 J fun w0 M H=>aq (am J (az J (ad J (ar J J iz (ad J (aH [] J J O (fun hg1=>aV J) J (aH [(6,_)] J J ⟨J,O⟩ (fun hg2=>aQ J J mt) J (aP (bH J J J) (am J (aa (ay (aN () O J (ce (aL J)) J [] [] J J J))))))))))))
theorem yX:
  Spec prog 134 [] [] [] (X:=SV) (fun _=>True) (fun u=>sv u) (fun u=> [own 9 1 eS (sv u) uV]) (fun _=> []):=by
 refine aI func134 J ntmps134 J fun w0 M H=>aq (am J (az J (cI eS uV (parts:= [(0,.const (Sg (ByteArray.mk #[101,108,115,101]))),(1,.const (Sg (ByteArray.mk #[102,110]))),(2,.const (Sg (ByteArray.mk #[105,102]))),(3,.const (Sg (ByteArray.mk #[105,110]))),(4,.const (Sg (ByteArray.mk #[109,101,109]))),(5,.const (Sg (ByteArray.mk #[111,117,116]))),(6,.const (Sg (ByteArray.mk #[114,101,116,117,114,110]))),(7,.const (Sg (ByteArray.mk #[118,97,114]))),(8,.const (Sg (ByteArray.mk #[119,104,105,108,101])))]) underlying46 t9 J (by decide) (by intro _;rfl) J (by decide) (by decide) J J J J fun v1=>am J (aa (ay (aN v1 O J (ce (aL J)) J [1] [] J J J))))))
theorem l7(s:Ba)(v:SV)(l:List Ba)(hl:l.length≤1000000):
  aW prog 59 [Sg s,sv v] [] [sl 1 eS (sv v) l] (.bool (cx s l)) []:=by
 refine aI func59 J ntmps59 J fun w0 M H=>aq (am J (aa (aU (am J (aa (aA (bJ (X:=Nat) (fun i=>i≤l.length∧cx s (l.take i)=false) (fun i=> [(0,Sg s),(1,sv v),(5,I6 (i:Int))]) (fun i=> []) (fun i=> [(0,sl 1 eS (sv v) l)]) (fun i=>l.length-i) 0 ⟨bn _,J⟩ J J J (fun i hx0=> ?_))))))))
 obtain⟨n1,n2⟩:=hx0;refine aU (ad J (ad J (aP (aT underlying46 J (aJ (k:=0) J)) (ar J J cy (aa (ap J (fun h1=> ?_) (fun h1=> ?_)))))))
 ·(try simp only [bl]at h1);have hi:i<l.length:=by omega
  obtain⟨x,hx⟩:∃k,l[i]?=some k:=⟨_,bQ hi⟩
  refine aC (be (aA (aq (ad J (ad J (aP (aO (j:=i) underlying46 t9 J J (aJ (k:=0) J) (by first|rfl|omega) (by first|omega|(simp;done)|(simp;omega))) (aP (ag t9 J J (bF (aJ (k:=0) J) (by intro _;rfl) hx (by rfl))) (ad J (ar J J e_ (aa (ap J (fun h2=> ?_) (fun h2=> ?_))))))))))))
  ·have hct:(x==s)=true:=h2;refine aq (am J (aa (ay (aN () O J (ce (aL J)) (congrArg Value.bool (Gu (bV hx) hct).symm) [] [] J J J))))
  ·have hcf:(x==s)=false:=h2;refine aC (ak (ad J (ar J J aK (am J (aa ?_)))));refine aG (i+1) ⟨⟨by omega,by rw [Ed hx,n2,hcf];rfl⟩,by omega⟩ J J J
 ·(try simp only [bl]at h1);have hi:i=l.length:=by omega
  subst hi;rw [cQ]at n2;refine bL (aq (am J (aa (ay (aN () O J (ce (aL J)) (congrArg Value.bool n2.symm) [] [] J J J)))))
theorem wj(s:Ba)(v:SV)(l:List Ba)(hl:l.length≤1000000):aW prog 59 [Sg s,sv v] [] [own 9 1 eS (sv v) l] (.bool (cx s l)) []:=(l7 s v l hl).ro1 cf
theorem kT(s:Ba):
  aW prog 102 [Sg s] [] [] (.bool (bE s)) []:=by
 refine aI func102 J ntmps102 J fun w0 M H=>aq (am J (az J (ad J (ai (xs:= []) yX L3 [] [] [6] (fun v6 _=>ai (xs:= [.tmp 5,.tmp 6]) (wj s v6 uV (by decide)) HP [] [(true,6)] [] (fun _ _=>am J (aa (aU (ad J (aP (cH underlying9 J) (ar J J cy (ad J (aH [] J J O (fun hg1=>aV J) J ?_)))))))))))))
 refine aH [(12,_)] J J ⟨J,O⟩ (fun hg2=>cH underlying9 J) J (aH [(12,_),(13,_)] J J ⟨J,J,O⟩ (fun hg3=>aQ J J fA) J (aP (bH J J J) (ad J (fB (t:=16) J (fun h4=> ?_) (fun h4=> ?_)))))
 ·(try simp only [bl]at h4);have q8:=h4;refine dj J J J J (dj J J J J (dj J J J J (dj J J J J (aP (bH J J J) (ad J (aH [] J J O (fun hg5=>aV J) J (aP (bH J J J) (aa (ap J (fun h6=> ?_) (fun h6=> ?_))))))))))
  ·(try simp only [bl]at h6);refine aq (am J (aa (ay (aN () O J (ce (aL J)) (congrArg Value.bool (Ej q8).symm) [] [] J J J))))
  ·exact absurd h6 (by simp)
 ·(try simp only [bl]at h4);have q8:=h4;have hs0:0<s.size:=by omega
  refine bK J J (ad J (bK J J (aP (ew (j:=0) underlying9 J J J hs0) (bK J J (c_ (xs:= [.tmp 18]) (nr _) Dk [] [] [] J J J (fun _ _=>bK J J (aP (cZ J) (aP (bH J J J) (ad J (aH [] J J O (fun hg7=>aV J) J (aP (bH J J J) (aa (ap J (fun h8=> ?_) (fun h8=> ?_))))))))))))))
  ·(try simp only [bl]at h8);have qc:=h8;refine aq (am J (aa (ay ?_)));have hno:bE s=false:=by
    rcases qc with(q|q)|q
    ·cases q
    ·exact Ek q
    ·exact JT q
   refine aN () O J (ce (aL J)) (congrArg Value.bool hno.symm) [] [] J J J
  ·(try simp only [bl]at h8);have qc:=h8;refine aC (aU (am J (aa (aA (bJ (X:=Nat) (fun i=>i≤s.size∧∀j,j<i→(mQ ((br s).getD j 0) || kB ((br s).getD j 0))=true) (fun i=> [(0,Sg s),(4,I6 (i:Int))]) (fun i=> []) (fun i=> []) (fun i=>s.size-i) 0 ⟨bn _,fun j h=>absurd h (Nat.not_lt_zero _)⟩ J J J (fun i hx0=> ?_))))));obtain⟨n1,n2⟩:=hx0;refine aU (ad J (ad J (aP (cH underlying9 J) (ar J J cy (aa (ap J (fun h9=> ?_) (fun h9=> ?_)))))))
   ·(try simp only [bl]at h9);have hi:i<s.size:=by omega
    refine aC (be (aA (aq (ad J (ad J (aP (ew (j:=i) underlying9 J J J hi) (c_ (xs:= [.tmp 33]) (nr _) Dk [] [] [] J J J (fun _ _=>aP (cZ J) (ad J (aH [] J J O (fun hg10=>aV J) J (aH [(37,_)] J J ⟨J,O⟩ (fun hg11=>aV J) J (aH [(37,_),(38,_)] J J ⟨J,J,O⟩ (fun hg12=>ew (j:=i) underlying9 J J J hi) J (kP [(37,_),(38,_),(39,_)] J J ⟨J,J,J,O⟩ (fun hg13=>ic (xs:= [.tmp 39]) (nG _) Dj [] [] [] J J J) J (aH [(37,_),(38,_),(39,_),(40,_)] J J ⟨J,J,J,J,O⟩ (fun hg14=>cZ J) J (aP (bH J J J) (aa (ap J (fun h15=> ?_) (fun h15=> ?_))))))))))))))))))
    ·have hct:=h15;refine aq (am J (aa (ay (aN () O J (ce (aL J)) (congrArg Value.bool (NA hi (Qf hct)).symm) [] [] J J J))))
    ·have hcf:=h15;refine aC (ak (ad J (ar J J aK (am J (aa ?_)))));refine aG (i+1) ⟨⟨by omega,fun j hj=>by
      by_cases h:j=i
      ·subst h;exact Qe hcf
      ·exact n2 j (by omega)⟩,by omega⟩ rfl rfl rfl
   ·(try simp only [bl]at h9);have hi:i=s.size:=by omega
    subst hi;refine bL (aq (am J (aa (ay (aN () O J (ce (aL J)) (congrArg Value.bool (JS q8.1 q8.2 qc.1.2 qc.2 n2).symm) [] [] J J J)))))
structure Qi where
 op:Int
 d:Int
 a:Int
 b:Int
 imm:Int
deriving DecidableEq
def jw(i:Qi):List Value:= [I6 i.op,I6 i.d,I6 i.a,I6 i.b,I3 i.imm]
def q3(op d a b:Int):Qi:=⟨op,d,a,b,0⟩
def qi(op d a n:Int):Qi:=⟨op,d,a,0,n⟩
structure Qg where
 code:List Qi
 fixes:List (Int×Int)
 labs:List Int
def xT(p:Int×Int):List Value:= [I6 p.1,I6 p.2]
def Qg.emit(s:Qg)(l:List Qi):Qg:={s with code:=s.code++l}
def Qg.lab(s:Qg):Qg:={s with labs:=s.labs++ [0]}
def Qg.place(s:Qg)(l:Int):Qg:={s with labs:=s.labs.set l.toNat s.code.length}
def Qg.jump(s:Qg)(op d a l:Int):Qg:={s with fixes:=s.fixes++ [((s.code.length:Int),l)],code:=s.code++ [qi op d a 0]}
def Qg.push(s:Qg)(r:Int):Qg:=(s.emit [qi 16 14 14 4294967292]).emit [qi 25 r 14 0]
def Qg.pop(s:Qg)(r:Int):Qg:=(s.emit [qi 23 r 14 0]).emit [qi 16 14 14 4]
def Qg.elem(s:Qg)(r:Int):Qg:=(s.emit [qi 17 r r 255]).emit [qi 20 r r 2]
def rS(o:Ba)(s:Qg):Qg:=
 if o=gg then s.emit [q3 1 1 2 1]else if o=dU then s.emit [q3 2 1 2 1]else if o=gT then s.emit [q3 9 1 2 1]else
 if o=fo then s.emit [q3 3 1 2 1]else if o=kK then s.emit [q3 4 1 2 1]else if o=fw then s.emit [q3 5 1 2 1]else
 if o=gQ then s.emit [q3 6 1 2 1]else if o=ib then s.emit [q3 7 1 2 1]else if o=mx then s.emit [q3 11 1 2 1]else
 if o=nQ then s.emit [q3 11 1 1 2]else if o=nP then(s.emit [q3 11 1 1 2]).emit [qi 19 1 1 1]else if o=oU then(s.emit [q3 11 1 2 1]).emit [qi 19 1 1 1]else
 if o=nO then(s.emit [q3 5 1 2 1]).emit [q3 11 1 0 1]else if o=nR then((s.emit [q3 5 1 2 1]).emit [q3 11 1 0 1]).emit [qi 19 1 1 1]else
 if o=la then((s.lab.jump 32 1 0 s.labs.length).emit [q3 10 1 2 1]).place s.labs.length else
 if o=lR then((((((s.lab.emit [q3 1 3 1 0]).jump 32 1 0 s.labs.length).emit [q3 10 3 2 1]).emit [q3 9 3 3 1]).place s.labs.length)).emit [q3 2 1 2 3]else s
def Hb(o:Ba)(s:Qg):Qg:=
 if o=dU then s.emit [q3 2 1 0 1]else if o=rQ then(s.emit [qi 16 2 0 4294967295]).emit [q3 5 1 1 2]else
 if o=tt then(s.emit [qi 16 2 0 1]).emit [q3 11 1 1 2]else s
def jO(n:Int):Bool:=decide (n<131072) || decide (4294967296-131072≤n)
def tM(n:Int)(s:Qg):Qg:=if jO n=true then s.emit [qi 16 1 0 n]else s.emit [qi 41 1 0 (n/1024),qi 18 1 1 (n%1024)]
abbrev Om:=List (Ba×Int)
def bI(o:Om)(x:Ba):Int:=match o.find? (fun p=>decide (p.1=x))with
 | some p=>p.2
 | none=>0
mutual
def gX(o st:Om):Tx→Qg→Qg
 | .mk k n nm _ kids,s=>
  if k=1 then tM n s else if k=2 then s.emit [qi 23 1 13 (bI o nm)]else
  if k=5 then s.emit [⟨48,0,0,0,2⟩]else
  if k=4 then((nu o st kids s).elem 1).emit [qi 23 1 1 8192]else
  if k=6 then Hb nm (nu o st kids s)else
  if k=7 then rS nm ((OR o st kids ((nu o st kids s).push 1)).pop 2)else
  if k=3 then(let s1:=(vL o st kids s).jump 40 15 0 (bI st nm)
   if kids.length>0 then s1.emit [qi 16 14 14 (4*kids.length)]else s1)else s
def nu(o st:Om):List Tx→Qg→Qg
 | [],s=>s
 | t::_,s=>gX o st t s
def OR(o st:Om):List Tx→Qg→Qg
 | [],s=>s
 | _::r,s=>nu o st r s
def vL(o st:Om):List Tx→Qg→Qg
 | [],s=>s
 | t::r,s=>vL o st r ((gX o st t s).push 1)
end
mutual
def gY(o st:Om)(en:Int):Ty→Qg→Qg
 | .mk k nm _ es _ body _ els,s=>
  let s0:=s.lab.place s.labs.length
  let s1:=nu o st es s0
  if k=1∨k=2 then s1.emit [qi 25 1 13 (bI o nm)]else
  if k=3 then(((OR o st es (s1.push 1)).pop 2).elem 2).emit [qi 25 1 2 8192]else
  if k=7 then s1.emit [⟨48,0,0,0,1⟩]else
  if k=6 then s1.jump 40 0 0 en else
  if k=4 then(let lb:Int:=s1.labs.length
   let s2:=iX o st en body ((s1.lab.lab).jump 32 1 0 lb)
   let s3:=if els.length>0 then s2.jump 40 0 0 (lb+1)else s2
   (iX o st en els (s3.place lb)).place (lb+1))else
  if k=5 then(let lb:Int:=s1.labs.length
   ((iX o st en body (s1.lab.jump 32 1 0 lb)).jump 40 0 0 s.labs.length).place lb)else s1
def iX(o st:Om)(en:Int):List Ty→Qg→Qg
 | [],s=>s
 | t::r,s=>iX o st en r (gY o st en t s)
end
mutual
def gD:Ty→Om×Int→Om×Int
 | .mk k nm _ _ _ body _ els,p=>gDs els (gDs body (if k=1 then(g_ p.1 nm (wU (-(4*(p.2+1)))),p.2+1)else p))
def gDs:List Ty→Om×Int→Om×Int
 | [],p=>p
 | t::r,p=>gDs r (gD t p)
end
def gP(n:Int):Int→List Ba→Om→Om
 | _,[],o=>o
 | k,p::r,o=>gP n (k+1) r (g_ o p (8+4*(n-1-k)))
def dB(f:Tf):Om×Int:=gDs f.body (gP f.ps.length 0 f.ps [],0)
def d_:Nat→Qg→Qg
 | 0,s=>s
 | n+1,s=>d_ n (s.push 0)
def gF(st:Om)(f:Tf)(s:Qg):Qg:=
 let lb:Int:=s.labs.length
 let ov:=dB f
 let s1:=((((((s.lab.lab).place (bI st f.name)).emit [qi 16 12 12 1]).emit [qi 16 2 0 12]).jump 35 2 12 lb).emit [⟨49,0,0,0,0⟩]).place lb
 let s2:=d_ ov.2.toNat (((s1.push 15).push 13).emit [q3 1 13 14 0])
 let s3:=((iX ov.1 st (lb+1) f.body s2).emit [q3 1 1 0 0]).place (lb+1)
 ((((s3.emit [q3 1 14 13 0]).pop 13).pop 15).emit [qi 16 12 12 4294967295]).emit [qi 27 0 15 0]
def tQ(st:Om):List Tf→Qg→Qg
 | [],s=>s
 | f::r,s=>tQ st r (gF st f s)
def qB:List Tf→Om×Qg→Om×Qg
 | [],p=>p
 | f::r,p=>qB r (g_ p.1 f.name p.2.labs.length,p.2.lab)
def A8(fs:List Tf):Qg:=
 let p:=qB fs ([],⟨[],[],[]⟩)
 tQ p.1 fs (((p.2.emit [qi 16 14 0 16384]).jump 40 15 0 (bI p.1 eq)).emit [⟨48,0,0,0,0⟩])
def i7:List Qi→Nat→Int→List Qi
 | [],_,_=> []
 | i::l,0,n=>{i with imm:=n}::l
 | i::l,k+1,n=>i::i7 l k n
def p_(labs:List Int):List (Int×Int)→List Qi→List Qi
 | [],l=>l
 | p::r,l=>p_ labs r (i7 l p.1.toNat (wU (labs.getD p.2.toNat 0-p.1)))
def ig(fs:List Tf):List Qi:=p_ (A8 fs).labs (A8 fs).fixes (A8 fs).code
def ut(L:Int→Int)(p:Nat):List (Int×Int)→List Qi→List Qi
 | [],l=>l
 | f::r,l=>ut L p r (i7 l (f.1.toNat-p) (wU (L f.2-f.1)))
def Qo(p n:Nat)(fs:List (Int×Int)):Prop:=∀f∈fs,(p:Int)≤f.1∧f.1<p+n
theorem ke:∀(l:List Qi)(k:Nat)(n:Int),(i7 l k n).length=l.length
 | [],_,_=>rfl
 | _::_,0,_=>rfl
 | _::l,k+1,n=>congrArg (· +1) (ke l k n)
theorem xL(L:Int→Int)(p:Nat):∀(fs:List (Int×Int))(l:List Qi),(ut L p fs l).length=l.length
 | [],l=>rfl
 | f::r,l=>by unfold ut;rw [xL L p r,ke]
theorem rj:∀(a b:List Qi)(k:Nat)(n:Int),k<a.length→i7 (a++b) k n=i7 a k n++b
 | [],_,_,_,h=>absurd h (Nat.not_lt_zero _)
 | _::_,_,0,_,_=>rfl
 | x::a,b,k+1,n,h=>congrArg (x:: ·) (rj a b k n (Nat.lt_of_succ_lt_succ h))
theorem pd:∀(a b:List Qi)(k:Nat)(n:Int),a.length≤k→i7 (a++b) k n=a++i7 b (k-a.length) n
 | [],_,_,_,_=>rfl
 | _::_,_,0,_,h=>absurd h (Nat.not_succ_le_zero _)
 | x::a,b,k+1,n,h=>by
  rw [aY,Nat.add_sub_add_right];exact congrArg (x:: ·) (pd a b k n (Nat.le_of_succ_le_succ h))
theorem zD(L:Int→Int)(p:Nat):∀(fs:List (Int×Int))(a b:List Qi),Qo p a.length fs→ut L p fs (a++b)=ut L p fs a++b
 | [],a,b,_=>rfl
 | f::r,a,b,h=>by
  have hf:=h f (by simp);unfold ut;rw [rj a b _ _ (by omega),zD L p r _ b (fun g hg=>by rw [ke];exact h g (by simp [hg]))]
theorem wi(L:Int→Int)(p:Nat):∀(fs:List (Int×Int))(a b:List Qi),Qo (p+a.length) b.length fs→ut L p fs (a++b)=a++ut L (p+a.length) fs b
 | [],a,b,_=>rfl
 | f::r,a,b,h=>by
  have hf:=h f (by simp);unfold ut;rw [pd a b _ _ (by omega),wi L p r a _ (fun g hg=>by rw [ke];exact h g (by simp [hg]))]
  congr 3
  omega
theorem Ds(L:Int→Int)(p:Nat):∀(f1 f2:List (Int×Int))(l:List Qi),ut L p (f1++f2) l=ut L p f2 (ut L p f1 l)
 | [],f2,l=>rfl
 | f::r,f2,l=>by
  show ut L p (r++f2) _=ut L p f2 (ut L p r _);exact Ds L p r f2 _
theorem KK(L:Int→Int)(p:Nat)(f1 f2:List (Int×Int))(a b:List Qi)(h1:Qo p a.length f1)(h2:Qo (p+a.length) b.length f2):
  ut L p (f1++f2) (a++b)=ut L p f1 a++ut L (p+a.length) f2 b:=by
 rw [Ds,zD L p f1 a b h1,wi L p f2 _ b (by rw [xL];exact h2),xL]
structure Res(K:(Int→Int)→Prop)(s s':Qg)(r:List Qi):Prop where
 ex:∃raw fs ls,s'.code=s.code++raw∧raw.length=r.length∧s'.fixes=s.fixes++fs∧s'.labs=s.labs++ls∧Qo s.code.length raw.length fs∧
  ∀L:Int→Int,K L→(∀(i:Nat)(n:Int),ls[i]?=some n→L ((s.labs.length+i:Nat):Int)=n)→ut L s.code.length fs raw=r
theorem Res.nil{K:(Int→Int)→Prop}(s:Qg):Res K s s []:=⟨⟨[],[],[],by simp,rfl,by simp,by simp,fun _ h=>by simp at h,fun _ _ _=>rfl⟩⟩
theorem Res.seq{K:(Int→Int)→Prop}{s s1 s2:Qg}{r1 r2:List Qi}(h1:Res K s s1 r1)(h2:Res K s1 s2 r2):Res K s s2 (r1++r2):=by
 obtain⟨raw1,fs1,ls1,a1,a2,a3,a4,a5,a6⟩:=h1.ex;obtain⟨raw2,fs2,ls2,b1,b2,b3,b4,b5,b6⟩:=h2.ex;have hl:s1.code.length=s.code.length+raw1.length:=by rw [a1,bD]
 have hm:s1.labs.length=s.labs.length+ls1.length:=by rw [a4,bD]
 refine⟨⟨raw1++raw2,fs1++fs2,ls1++ls2,by rw [b1,a1,List.append_assoc],by simp [a2,b2],by rw [b3,a3,List.append_assoc],by rw [b4,a4,List.append_assoc],fun f hf=> ?_,fun L hK hL=> ?_⟩⟩
 ·rw [bD];rcases List.mem_append.1 hf with hf|hf
  ·have:=a5 f hf;omega
  ·have:=b5 f hf;omega
 ·rw [KK L _ _ _ _ _ a5 (by rw [←hl];exact b5),←hl,a6 L hK fun i n h=>hL i n (by
   rw [List.getElem?_append_left (by obtain⟨h,-⟩:=cU.1 h;exact h)];exact h),b6 L hK fun i n h=> ?_]
  rw [hm];have:=hL (ls1.length+i) n (by rw [List.getElem?_append_right (by omega),show ls1.length+i-ls1.length=i by omega];exact h);rw [show s.labs.length+ls1.length+i=s.labs.length+(ls1.length+i) by omega];exact this
theorem Res.emit{K:(Int→Int)→Prop}(s:Qg)(l:List Qi):Res K s (s.emit l) l:=
 ⟨⟨l,[],[],rfl,rfl,by simp [Qg.emit],by simp [Qg.emit],fun _ h=>by simp at h,fun _ _ _=>rfl⟩⟩
theorem Res.jump{K:(Int→Int)→Prop}(s:Qg)(op d a l:Int)(n:Int)(h:∀L,K L→wU (L l-s.code.length)=n):Res K s (s.jump op d a l) [qi op d a n]:=
 ⟨⟨[qi op d a 0],[((s.code.length:Int),l)],[],rfl,rfl,rfl,by simp [Qg.jump],fun f hf=>by
  have:=List.mem_singleton.1 hf;subst this;simp only [dk];omega,fun L hK _=>by
  have:=h L hK;simp only [ut,i7,Int.toNat_natCast,Nat.sub_self,this];rfl⟩⟩
theorem Res.push{K:(Int→Int)→Prop}(s:Qg)(r:Int):Res K s (s.push r) [qi 16 14 14 4294967292,qi 25 r 14 0]:=(Res.emit s _).seq (Res.emit _ _)
theorem Res.pop{K:(Int→Int)→Prop}(s:Qg)(r:Int):Res K s (s.pop r) [qi 23 r 14 0,qi 16 14 14 4]:=(Res.emit s _).seq (Res.emit _ _)
theorem Res.elem{K:(Int→Int)→Prop}(s:Qg)(r:Int):Res K s (s.elem r) [qi 17 r r 255,qi 20 r r 2]:=(Res.emit s _).seq (Res.emit _ _)
theorem Res.weaken{K K':(Int→Int)→Prop}{s s':Qg}{r:List Qi}(h:Res K s s' r)(hk:∀L,K' L→K L):Res K' s s' r:=by
 obtain⟨raw,fs,ls,a1,a2,a3,a4,a5,a6⟩:=h.ex;exact⟨⟨raw,fs,ls,a1,a2,a3,a4,a5,fun L hK=>a6 L (hk L hK)⟩⟩
theorem Res.labels{K:(Int→Int)→Prop}{s s' s'':Qg}{r:List Qi}(ns ms:List Int)(hl:ns.length=ms.length)
  (h:Res (fun L=>K L∧∀(i:Nat)(n:Int),ms[i]?=some n→L ((s.labs.length+i:Nat):Int)=n) {s with labs:=s.labs++ns} s' r)
  (hc:s''.code=s'.code) (hf:s''.fixes=s'.fixes) (hs:∀ls,s'.labs=(s.labs++ns)++ls→s''.labs=(s.labs++ms)++ls):Res K s s'' r:=by
 obtain⟨raw,fs,ls,a1,a2,a3,a4,a5,a6⟩:=h.ex;refine⟨⟨raw,fs,ms++ls,hc.trans a1,a2,hf.trans a3,by rw [hs ls a4,List.append_assoc],a5,fun L hK hL=>a6 L ⟨hK,fun i n hi=>hL i n ?_⟩ fun i n hi=> ?_⟩⟩
 ·rw [List.getElem?_append_left (by obtain⟨h,-⟩:=cU.1 hi;exact h)];exact hi
 ·have:=hL (ms.length+i) n (by rw [List.getElem?_append_right (by omega),show ms.length+i-ms.length=i by omega];exact hi);show L (((s.labs++ns).length+i:Nat):Int)=n;rw [bD,hl,show s.labs.length+ms.length+i=s.labs.length+(ms.length+i) by omega];exact this
def ga(r:Int):List Qi:= [qi 16 14 14 4294967292,qi 25 r 14 0]
def mA(r:Int):List Qi:= [qi 23 r 14 0,qi 16 14 14 4]
def vh(r:Int):List Qi:= [qi 17 r r 255,qi 20 r r 2]
def Dx(o:Ba):List Qi:=
 if o=gg then [q3 1 1 2 1]else if o=dU then [q3 2 1 2 1]else if o=gT then [q3 9 1 2 1]else
 if o=fo then [q3 3 1 2 1]else if o=kK then [q3 4 1 2 1]else if o=fw then [q3 5 1 2 1]else
 if o=gQ then [q3 6 1 2 1]else if o=ib then [q3 7 1 2 1]else if o=mx then [q3 11 1 2 1]else
 if o=nQ then [q3 11 1 1 2]else if o=nP then [q3 11 1 1 2,qi 19 1 1 1]else if o=oU then [q3 11 1 2 1,qi 19 1 1 1]else
 if o=nO then [q3 5 1 2 1,q3 11 1 0 1]else if o=nR then [q3 5 1 2 1,q3 11 1 0 1,qi 19 1 1 1]else
 if o=la then [qi 32 1 0 2,q3 10 1 2 1]else
 if o=lR then [q3 1 3 1 0,qi 32 1 0 3,q3 10 3 2 1,q3 9 3 3 1,q3 2 1 2 3]else []
def EI(o:Ba):List Qi:=
 if o=dU then [q3 2 1 0 1]else if o=rQ then [qi 16 2 0 4294967295,q3 5 1 1 2]else
 if o=tt then [qi 16 2 0 1,q3 11 1 1 2]else []
def rK(n:Int):List Qi:=if jO n=true then [qi 16 1 0 n]else [qi 41 1 0 (n/1024),qi 18 1 1 (n%1024)]
mutual
def zX(o:Om)(S:Ba→Int):Tx→Nat→List Qi
 | .mk k n nm _ kids,p=>
  if k=1 then rK n else if k=2 then [qi 23 1 13 (bI o nm)]else
  if k=5 then [⟨48,0,0,0,2⟩]else
  if k=4 then u_ o S kids p++(vh 1++ [qi 23 1 1 8192])else
  if k=6 then u_ o S kids p++EI nm else
  if k=7 then u_ o S kids p++(ga 1++(Md o S kids (p+(u_ o S kids p).length+2)++(mA 2++Dx nm)))else
  if k=3 then wl o S kids p++([qi 40 15 0 (wU (S nm-((p+(wl o S kids p).length:Nat):Int)))]++if kids.length>0 then [qi 16 14 14 (4*kids.length)]else [])else []
def u_(o:Om)(S:Ba→Int):List Tx→Nat→List Qi
 | [],p=> []
 | t::_,p=>zX o S t p
def Md(o:Om)(S:Ba→Int):List Tx→Nat→List Qi
 | [],p=> []
 | _::r,p=>u_ o S r p
def wl(o:Om)(S:Ba→Int):List Tx→Nat→List Qi
 | [],p=> []
 | t::r,p=>zX o S t p++(ga 1++wl o S r (p+(zX o S t p).length+2))
end
mutual
def wX:Tx→Nat
 | .mk k n nm _ kids=>
  if k=1 then(rK n).length else if k=2 then 1 else if k=5 then 1 else
  if k=4 then j_ kids+3 else if k=6 then j_ kids+(EI nm).length else
  if k=7 then j_ kids+(O8 kids+(4+(Dx nm).length))else
  if k=3 then uA kids+(1+if kids.length>0 then 1 else 0)else 0
def j_:List Tx→Nat
 | []=>0
 | t::_=>wX t
def O8:List Tx→Nat
 | []=>0
 | _::r=>j_ r
def uA:List Tx→Nat
 | []=>0
 | t::r=>wX t+(2+uA r)
end
mutual
theorem ir(o:Om)(S:Ba→Int):∀(t:Tx)(p:Nat),(zX o S t p).length=wX t
 | .mk k n nm _ kids,p=>by
  have h0:=lH o S kids;have h1:=BE o S kids;have hs:=rV o S kids;unfold zX wX;split
  ·rfl
  split
  ·rfl
  split
  ·rfl
  split
  ·rw [bD,h0];rfl
  split
  ·rw [bD,h0]
  split
  ·simp only [bD,h0,h1];simp only [ga,mA,aY,aS];omega
  split
  ·simp only [bD,hs,aY,aS];split<;>rfl
  ·rfl
theorem lH(o:Om)(S:Ba→Int):∀(l:List Tx)(p:Nat),(u_ o S l p).length=j_ l
 | [],p=>rfl
 | t::_,p=>ir o S t p
theorem BE(o:Om)(S:Ba→Int):∀(l:List Tx)(p:Nat),(Md o S l p).length=O8 l
 | [],p=>rfl
 | _::r,p=>lH o S r p
theorem rV(o:Om)(S:Ba→Int):∀(l:List Tx)(p:Nat),(wl o S l p).length=uA l
 | [],p=>rfl
 | t::r,p=>by
  unfold wl uA;rw [bD,bD,ir o S t,rV o S r];rfl
end
mutual
def zY(o:Om)(S:Ba→Int)(E:Int):Ty→Nat→List Qi
 | .mk k nm _ es _ body _ els,p=>
  if k=1∨k=2 then u_ o S es p++ [qi 25 1 13 (bI o nm)]else
  if k=3 then u_ o S es p++(ga 1++(Md o S es (p+j_ es+2)++(mA 2++(vh 2++ [qi 25 1 2 8192]))))else
  if k=7 then u_ o S es p++ [⟨48,0,0,0,1⟩]else
  if k=6 then u_ o S es p++ [qi 40 0 0 (wU (E-((p+j_ es:Nat):Int)))]else
  if k=4 then u_ o S es p++([qi 32 1 0 (wU (((lG o S E body (p+j_ es+1)).length+(if els.length>0 then 1 else 0)+1:Nat):Int))]++(lG o S E body (p+j_ es+1)++
   ((if els.length>0 then [qi 40 0 0 (wU (((lG o S E els (p+j_ es+1+(lG o S E body (p+j_ es+1)).length+(if els.length>0 then 1 else 0))).length+1:Nat):Int))]else [])++
    lG o S E els (p+j_ es+1+(lG o S E body (p+j_ es+1)).length+(if els.length>0 then 1 else 0)))))else
  if k=5 then u_ o S es p++([qi 32 1 0 (wU (((lG o S E body (p+j_ es+1)).length+2:Nat):Int))]++(lG o S E body (p+j_ es+1)++
   [qi 40 0 0 (wU (-(((lG o S E body (p+j_ es+1)).length+j_ es+1:Nat):Int)))]))else u_ o S es p
def lG(o:Om)(S:Ba→Int)(E:Int):List Ty→Nat→List Qi
 | [],p=> []
 | t::r,p=>zY o S E t p++lG o S E r (p+(zY o S E t p).length)
end
mutual
def wY:Ty→Nat
 | .mk k _ _ es _ body _ els=>
  if k=1∨k=2 then j_ es+1 else if k=3 then j_ es+(O8 es+7)else if k=7 then j_ es+1 else if k=6 then j_ es+1 else
  if k=4 then j_ es+(fO body+(fO els+(if els.length>0 then 2 else 1)))else
  if k=5 then j_ es+(fO body+2)else j_ es
def fO:List Ty→Nat
 | []=>0
 | t::r=>wY t+fO r
end
mutual
theorem zP(o:Om)(S:Ba→Int)(E:Int):∀(t:Ty)(p:Nat),(zY o S E t p).length=wY t
 | .mk k nm _ es _ body _ els,p=>by
  have h0:=lH o S es;have h1:=BE o S es;have hb:=fk o S E body;have he:=fk o S E els;unfold zY wY;split
  ·simp only [bD,h0];rfl
  split
  ·simp only [bD,h0,h1,ga,mA,vh,aY,aS];omega
  split
  ·simp only [bD,h0];rfl
  split
  ·simp only [bD,h0];rfl
  split
  ·simp only [bD,h0,hb,he,aY,aS];split
   ·simp only [aY,aS];omega
   ·simp only [aY,aS];omega
  split
  ·simp only [bD,h0,hb,aY,aS];omega
  ·exact h0 p
theorem fk(o:Om)(S:Ba→Int)(E:Int):∀(l:List Ty)(p:Nat),(lG o S E l p).length=fO l
 | [],p=>rfl
 | t::r,p=>by
  unfold lG fO;rw [bD,zP o S E t,fk o S E r]
end
def j9:Nat→List Qi
 | 0=> []
 | n+1=>ga 0++j9 n
theorem lI:∀n,(j9 n).length=2*n
 | 0=>rfl
 | n+1=>by
  unfold j9;rw [bD,lI n];show 2+2*n=_;omega
def zF(S:Ba→Int)(f:Tf)(p:Nat):List Qi:=
 let ov:=dB f
 [qi 16 12 12 1,qi 16 2 0 12,qi 35 2 12 2,⟨49,0,0,0,0⟩]++(ga 15++(ga 13++([q3 1 13 14 0]++(j9 ov.2.toNat++
  (lG ov.1 S ((p+10+2*ov.2.toNat+fO f.body:Nat):Int) f.body (p+9+2*ov.2.toNat)++
  ([q3 1 1 0 0,q3 1 14 13 0]++(mA 13++(mA 15++ [qi 16 12 12 4294967295,qi 27 0 15 0]))))))))
def wF(f:Tf):Nat:=17+2*(dB f).2.toNat+fO f.body
theorem sS(S:Ba→Int)(f:Tf)(p:Nat):(zF S f p).length=wF f:=by
 unfold zF wF;simp only [bD,lI,fk,ga,mA,aY,aS];omega
def zR(S:Ba→Int):List Tf→Nat→List Qi
 | [],p=> []
 | f::r,p=>zF S f p++zR S r (p+wF f)
def z5:List Tf→Nat
 | []=>0
 | f::r=>wF f+z5 r
theorem rW(S:Ba→Int):∀(l:List Tf)(p:Nat),(zR S l p).length=z5 l
 | [],p=>rfl
 | f::r,p=>by
  unfold zR z5;rw [bD,sS,rW S r]
def iF:List Tf→Nat→Ba→Int
 | [],_,_=>3
 | f::r,p,x=>if f.name=x then(p:Int)else iF r (p+wF f) x
def jz(fs:List Tf):List Qi:= [qi 16 14 0 16384,qi 40 15 0 (wU (iF fs 3 eq-1)),⟨48,0,0,0,0⟩]++zR (iF fs 3) fs 3
def gR(vp vc vf vl:SV)(ms:Nat)(mo:Option Nat)(mp:Nat)(en:Int):List Value:= [sv vp,sv vc,sv vf,sv vl,.map (some ms),.map mo,.map (some mp),I6 en]
structure Ga where
 g:Nat
 vp:SV
 ms:Nat
 mo:Option Nat
 mp:Nat
 en:Int
def gA(e:Ga)(s:Qg):Asn:=Hn (α:=SV×SV×SV) fun x=> [bj e.g 111 (gR e.vp x.1 x.2.1 x.2.2 e.ms e.mo e.mp e.en),own 118 5 jw (sv x.1) s.code,own 171 2 xT (sv x.2.1) s.fixes,own 3 1 eI (sv x.2.2) s.labs]
theorem Qq{α:Type}{l:List α}{i:Nat}(h:i<l.length):l[i]?=some (l[i]'h):=bQ h
def Qg.sz(s:Qg):Nat:=s.code.length+s.fixes.length+s.labs.length
theorem CA{n:Nat}{vs:List Value}{R0:List Asn}{L L1:List Asn}{X:Type}{φ:X→Prop}{v:X→Value}{e e':Ga}{s s':Qg}(c:SV×SV×SV→X→SV×SV×SV)
  (h:∀vc vf vl,Spec prog n vs ([bj e.g 111 (gR e.vp vc vf vl e.ms e.mo e.mp e.en),own 118 5 jw (sv vc) s.code,own 171 2 xT (sv vf) s.fixes,own 3 1 eI (sv vl) s.labs]++L) R0 φ v
   (fun x=> [bj e'.g 111 (gR e'.vp (c (vc,vf,vl) x).1 (c (vc,vf,vl) x).2.1 (c (vc,vf,vl) x).2.2 e'.ms e'.mo e'.mp e'.en),own 118 5 jw (sv (c (vc,vf,vl) x).1) s'.code,own 171 2 xT (sv (c (vc,vf,vl) x).2.1) s'.fixes,own 3 1 eI (sv (c (vc,vf,vl) x).2.2) s'.labs]++L1) (fun _=> [])):
  Spec prog n vs (gA e s::L) R0 φ v (fun _=>gA e' s'::L1) (fun _=> []):=
 Spec.pack (fun _(x:SV×SV×SV)=> [bj e'.g 111 (gR e'.vp x.1 x.2.1 x.2.2 e'.ms e'.mo e'.mp e'.en),own 118 5 jw (sv x.1) s'.code,own 171 2 xT (sv x.2.1) s'.fixes,own 3 1 eI (sv x.2.2) s'.labs]) c (fun x=>h x.1 x.2.1 x.2.2)
theorem t_(g:Nat)(vp vc vf vl:SV)(ms:Nat)(mo:Option Nat)(mp:Nat)(en:Int)(s:Qg)(hz:s.sz≤950000)(w:SV)(l:List Qi)(hl:l.length≤1000):
  Spec prog 53 [Pt g,sv w] [bj g 111 (gR vp vc vf vl ms mo mp en),own 118 5 jw (sv vc) s.code,own 171 2 xT (sv vf) s.fixes,own 3 1 eI (sv vl) s.labs] [sl 5 jw (sv w) l] (X:=SV) (fun _=>True) (fun _=> .tuple #[]) (fun v=> [bj g 111 (gR vp v vf vl ms mo mp en),own 118 5 jw (sv v) (s.emit l).code,own 171 2 xT (sv vf) (s.emit l).fixes,own 3 1 eI (sv vl) (s.emit l).labs]) (fun _=> []):=by
 refine aI func53 J ntmps53 J fun w0 M H=> ?_
 unfold Qg.sz at hz;refine ak (ad J (ad J (bS J (aD nF J (aR 0 DJ J J J J (ad J (dy 1 underlying106 fF J (by decide) (fun _=>J) (fun _=>J) J J J (aJ (k:=0) J) (by first|omega|(simp;done)|(simp;omega)) (by unfold maxLen;first|omega|(simp;done)|(simp;omega)) J fun v10=>bS J (aD nF J (aB (k:=0) DJ J J J J J J J J (aa (cJ v10 O J iU J [0,1,2,3] [] J J J)))))))))))
theorem jd(e:Ga)(s:Qg)(hz:s.sz≤940000)(w:SV)(l:List Qi)(hl:l.length≤1000):
  aW prog 53 [Pt e.g,sv w] [gA e s] [sl 5 jw (sv w) l] (.tuple #[]) [gA e (s.emit l)]:=by
 exact Spec.map (fun _=>()) (fun _ _=>O) (fun _=>J) (fun _=>J) (fun _=>J) (CA (L:= []) (L1:= []) (fun a(x:SV)=>(x,a.2.1,a.2.2)) fun vc vf vl=>t_ e.g e.vp vc vf vl e.ms e.mo e.mp e.en s (by omega) w l hl)
theorem yW(g:Nat)(vp vc vf vl:SV)(ms:Nat)(mo:Option Nat)(mp:Nat)(en:Int)(s:Qg)(hz:s.sz≤950000):
  Spec prog 50 [Pt g] [bj g 111 (gR vp vc vf vl ms mo mp en),own 118 5 jw (sv vc) s.code,own 171 2 xT (sv vf) s.fixes,own 3 1 eI (sv vl) s.labs] [] (X:=SV) (fun _=>True) (fun _=>I6 (s.labs.length:Int)) (fun v=> [bj g 111 (gR vp vc vf v ms mo mp en),own 118 5 jw (sv vc) (s.lab).code,own 171 2 xT (sv vf) (s.lab).fixes,own 3 1 eI (sv v) (s.lab).labs]) (fun _=> []):=by
 refine aI func50 J ntmps50 J fun w0 M H=> ?_
 unfold Qg.sz at hz;refine aq (am J (az J (ad J (ad J (bS J (aD qh J (aR 0 Fa J J J J (bq eI 0 underlying22 t3 J (by decide) (by decide) J J J J fun v8=>dy 3 underlying22 t3 J (by decide) (fun _=>J) (fun _=>J) J J J (bh (k:=8) J) (by first|omega|(simp;done)|(simp;omega)) (by unfold maxLen;first|omega|(simp;done)|(simp;omega)) J fun v9=>bS J (aD qh J (aB (k:=0) Fa J J J J J J J J (az J (ad J ?_))))))))))));refine bS J (aD qh J (aR 0 Fa J J J J (aP (aT underlying22 J (bh (k:=3) J)) (ar J J eG (am J (aa (ay (aN v9 O J (ce (aL J)) (congrArg (Value.int .i64) (by rw [bD,dk,bM (by omega)];omega)) [0,1,2,3] [] J J J))))))))
theorem fU(e:Ga)(s:Qg)(hz:s.sz≤940000):
  aW prog 50 [Pt e.g] [gA e s] [] (I6 (s.labs.length:Int)) [gA e s.lab]:=by
 exact Spec.map (fun _=>()) (fun _ _=>O) (fun _=>J) (fun _=>J) (fun _=>J) (CA (L:= []) (L1:= []) (fun a(x:SV)=>(a.1,a.2.1,x)) fun vc vf vl=>yW e.g e.vp vc vf vl e.ms e.mo e.mp e.en s (by omega))
theorem yE(g:Nat)(vp vc vf vl:SV)(ms:Nat)(mo:Option Nat)(mp:Nat)(en:Int)(s:Qg)(hz:s.sz≤950000)(l:Int)(hl:0≤l∧l<s.labs.length):
  aW prog 92 [Pt g,I6 l] [bj g 111 (gR vp vc vf vl ms mo mp en),own 118 5 jw (sv vc) s.code,own 171 2 xT (sv vf) s.fixes,own 3 1 eI (sv vl) s.labs] [] (.tuple #[]) [bj g 111 (gR vp vc vf vl ms mo mp en),own 118 5 jw (sv vc) (s.place l).code,own 171 2 xT (sv vf) (s.place l).fixes,own 3 1 eI (sv vl) (s.place l).labs]:=by
 refine aI func92 J ntmps92 J fun w0 M H=> ?_
 unfold Qg.sz at hz;refine bX [4,5,6,7,8,9,10,11,12,13,14] _ J (bP (V:= [(0,4,_),(1,5,_),(2,6,_),(3,7,_),(4,8,_),(5,9,_),(6,10,_),(7,11,_),(8,12,_),(9,13,_),(10,14,_)]) [0,1,2,3,4,5,6,7,8,9,10] 11 [11,10,9,8,7,6,5,4,3,2,1,0] [] (fun _=> []) J J (aF J J (ae J (au J) (ae J (ah qh J) (ae J (ag Fa J J (ax (k:=0) J J)) (aF J J (aF J J (ae J (au J) (ae J (ah nF J) (ae J (ag DJ J J (ax (k:=0) J J)) (ae J (aT underlying106 J (bh (k:=1) J)) (ae J (aO (j:=l.toNat) underlying22 t3 J J (bh (k:=3) J) (by first|rfl|omega) (by first|omega|(simp;done)|(simp;omega))) aw))))))))))) J J J J J J J J J (fun _ _=>J) J (jp (k:=3) t3 J J J (by intro _;rfl) (Qq (by omega)) J J) (fun _ _=>bA [] J J aw J J J (cJ () O J iU J [0,1,2,3] [] J J J)))
theorem eY(e:Ga)(s:Qg)(hz:s.sz≤940000)(l:Int)(hl:0≤l∧l<s.labs.length):
  aW prog 92 [Pt e.g,I6 l] [gA e s] [] (.tuple #[]) [gA e (s.place l)]:=by
 exact Spec.map (fun _=>()) (fun _ _=>O) (fun _=>J) (fun _=>J) (fun _=>J) (CA (L:= []) (L1:= []) (fun a(_:Unit)=>a) fun vc vf vl=>yE e.g e.vp vc vf vl e.ms e.mo e.mp e.en s (by omega) l hl)
theorem AT(g:Nat)(vp vc vf vl:SV)(ms:Nat)(mo:Option Nat)(mp:Nat)(en:Int)(s:Qg)(hz:s.sz≤940000)(op d a l:Int):
  Spec prog 52 [Pt g,I6 op,I6 d,I6 a,I6 l] [bj g 111 (gR vp vc vf vl ms mo mp en),own 118 5 jw (sv vc) s.code,own 171 2 xT (sv vf) s.fixes,own 3 1 eI (sv vl) s.labs] [] (X:=SV×SV) (fun _=>True) (fun _=> .tuple #[]) (fun v=> [bj g 111 (gR vp v.1 v.2 vl ms mo mp en),own 118 5 jw (sv v.1) (s.jump op d a l).code,own 171 2 xT (sv v.2) (s.jump op d a l).fixes,own 3 1 eI (sv vl) (s.jump op d a l).labs]) (fun _=> []):=by
 refine aI func52 J ntmps52 J fun w0 M H=> ?_
 unfold Qg.sz at hz;refine be ?_;refine bX [10,11,12,13,14,15,16,17,18,19,20,21,22,23,24,25] _ J (bi (V:= [(0,10,_),(1,11,_),(2,12,_),(3,13,_),(4,14,_),(5,15,_),(6,16,_),(7,17,_),(8,18,_),(9,19,_),(10,20,_),(11,21,_)]) [0,1,2,3,4,5,6,7,8,9,10,11] 12 [12,11,10,9,8,7,6,5] [] (fun v22=> []) J J (aF J J (aF J J (ae J (au J) (ae J (ah sH J) (ae J (ag IY J J (ax (k:=0) J J)) (aF J J (ae J (au J) (ae J (ah nF J) (ae J (ag DJ J J (ax (k:=0) J J)) (ae J (aT underlying106 J (bh (k:=1) J)) (aF J J (ae J (aX (parts:= [(0,.tmp 19),(1,.tmp 20)]) Ad PO J J) aw)))))))))))) J J J J J J J J J J J (fun _ _=>J) J (d9 xT (((s.code.length:Nat):Int),l) underlying107 Ad J (by decide) (by decide) J J J) (fun v22 _=>bi [0,1,2,3,4] 13 [13,12,11,10,9,8,7,6,5,4,3,2,1] [14,15] (fun v23=> [(14,24,_),(15,25,_)]) J J (aF J J (aF J J (ae J (au J) (ae J (ah sH J) (ae J (ag IY J J (ax (k:=0) J J)) aw))))) J J J J J J J J J J J (fun _ _=>J) J (ja 2 underlying107 Ad J (by decide) (fun _=>J) (fun _=>J) J J J (bh (k:=22) J) (by first|omega|(simp;done)|(simp;omega)) (by unfold maxLen;first|omega|(simp;done)|(simp;omega))) (fun v23 _=>bP [14,15,0] 16 [16,15,14,13,12,11,10,9,8,7,6,5,4,3,2,1,0] [] (fun _=> []) J J (ae J (au J) (ae J (ah sH J) (aF J J aw))) J J J J J J J J J (fun _ _=>J) J (dw (k:=0) IY J J J J J J J J) (fun _ _=>bA [] J J aw J J J ?_))));refine ak (ad J (ad J (ad J (ad J (aP (aX (parts:= [(0,.tmp 27),(1,.tmp 28),(2,.tmp 29)]) fF nZ J J) (bq jw (qi op d a 0) underlying106 fF J (by decide) (by decide) J J J J fun v31=>cK 31 7 J cf (ai (xs:= [.tmp 26,.tmp 31]) (t_ g vp vc v23 vl ms mo mp en {s with fixes:=s.fixes++ [((s.code.length:Int),l)]} (by unfold Qg.sz;simp;omega) v31 [qi op d a 0] (by simp)) zw [0,1,2,3] [(false,7)] [0,1,2,3] (fun vd _=>aa (cJ (vd,v23) O J iU J [0,1,2,3] [] J J J)))))))))
theorem gp(e:Ga)(s:Qg)(hz:s.sz≤940000)(op d a l:Int):
  aW prog 52 [Pt e.g,I6 op,I6 d,I6 a,I6 l] [gA e s] [] (.tuple #[]) [gA e (s.jump op d a l)]:=by
 exact Spec.map (fun _=>()) (fun _ _=>O) (fun _=>J) (fun _=>J) (fun _=>J) (CA (L:= []) (L1:= []) (fun a(x:SV×SV)=>(x.1,x.2,a.2.2)) fun vc vf vl=>AT e.g e.vp vc vf vl e.ms e.mo e.mp e.en s (by omega) op d a l)
theorem dA(e:Ga)(s:Qg)(hz:s.sz≤940000)(op d a n:Int):
  aW prog 51 [Pt e.g,I6 op,I6 d,I6 a,I3 n] [gA e s] [] (.tuple #[]) [gA e (s.emit [qi op d a n])]:=by
 refine aI func51 J ntmps51 J fun w0 M H=>ak (ad J (ad J (ad J (ad J (ad J (aP (aX (parts:= [(0,.tmp 11),(1,.tmp 12),(2,.tmp 13),(4,.tmp 14)]) fF nZ J J) (bq jw (qi op d a n) underlying106 fF J (by decide) (by decide) J J J J fun v16=>cK 16 7 J cf (ai (xs:= [.tmp 10,.tmp 16]) (jd e (s) (hz) v16 [qi op d a n] (by simp)) zw [0] [(false,7)] [0] (fun _ _=>aa (cJ () O J iU J [0] [] J J J))))))))))
theorem dJ(e:Ga)(s:Qg)(hz:s.sz≤940000)(op d a b:Int):
  aW prog 86 [Pt e.g,I6 op,I6 d,I6 a,I6 b] [gA e s] [] (.tuple #[]) [gA e (s.emit [q3 op d a b])]:=by
 refine aI func86 J ntmps86 J fun w0 M H=>ak (ad J (ad J (ad J (ad J (ad J (aP (aX (parts:= [(0,.tmp 11),(1,.tmp 12),(2,.tmp 13),(3,.tmp 14)]) fF nZ J J) (bq jw (q3 op d a b) underlying106 fF J (by decide) (by decide) J J J J fun v16=>cK 16 7 J cf (ai (xs:= [.tmp 10,.tmp 16]) (jd e (s) (hz) v16 [q3 op d a b] (by simp)) zw [0] [(false,7)] [0] (fun _ _=>aa (cJ () O J iU J [0] [] J J J))))))))))
theorem bG(s:Qg)(l:List Qi):(s.emit l).sz=s.sz+l.length:=by
 unfold Qg.sz Qg.emit;simp only [bD];omega
theorem c9(s:Qg)(r:Int):(s.push r).sz=s.sz+2:=by
 unfold Qg.push;rw [bG,bG];rfl
theorem d5(s:Qg)(r:Int):(s.pop r).sz=s.sz+2:=by
 unfold Qg.pop;rw [bG,bG];rfl
theorem dM(s:Qg)(r:Int):(s.elem r).sz=s.sz+2:=by
 unfold Qg.elem;rw [bG,bG];rfl
theorem cr(s:Qg):s.lab.sz=s.sz+1:=by
 unfold Qg.sz Qg.lab;simp only [bD,dk];omega
theorem bW(s:Qg)(l:Int):(s.place l).sz=s.sz:=by
 unfold Qg.sz Qg.place;rw [List.length_set]
theorem ca(s:Qg)(op d a l:Int):(s.jump op d a l).sz=s.sz+2:=by
 unfold Qg.sz Qg.jump;simp only [bD,dk];omega
theorem jZ(e:Ga)(s:Qg)(hz:s.sz≤800000)(r:Int):
  aW prog 95 [Pt e.g,I6 r] [gA e s] [] (.tuple #[]) [gA e (s.push r)]:=by
 refine aI func95 J ntmps95 J fun w0 M H=>aq (ad J (ai (xs:= [.tmp 4,.const (I6 16),.const (I6 14),.const (I6 14),.const (I3 4294967292)]) (dA e (s) (by omega) 16 14 14 4294967292) kM [0] [] [0] (fun _ _=>aa (ak (ad J (ad J (ai (xs:= [.tmp 6,.const (I6 25),.tmp 7,.const (I6 14),.const (I3 0)]) (dA e (s.emit [qi 16 14 14 4294967292]) (by rw [bG];simp;omega) 25 r 14 0) kM [0] [] [0] (fun _ _=>aa (cJ () O J iU J [0] [] J J J)))))))))
theorem pi(e:Ga)(s:Qg)(hz:s.sz≤800000)(r:Int):
  aW prog 97 [Pt e.g,I6 r] [gA e s] [] (.tuple #[]) [gA e (s.pop r)]:=by
 refine aI func97 J ntmps97 J fun w0 M H=>aq (ad J (ad J (ai (xs:= [.tmp 4,.const (I6 23),.tmp 5,.const (I6 14),.const (I3 0)]) (dA e (s) (by omega) 23 r 14 0) kM [0] [] [0] (fun _ _=>aa (ak (ad J (ai (xs:= [.tmp 7,.const (I6 16),.const (I6 14),.const (I6 14),.const (I3 4)]) (dA e (s.emit [qi 23 r 14 0]) (by rw [bG];simp;omega) 16 14 14 4) kM [0] [] [0] (fun _ _=>aa (cJ () O J iU J [0] [] J J J)))))))))
theorem vT(e:Ga)(s:Qg)(hz:s.sz≤800000)(r:Int):
  aW prog 168 [Pt e.g,I6 r] [gA e s] [] (.tuple #[]) [gA e (s.elem r)]:=by
 refine aI func168 J ntmps168 J fun w0 M H=>aq (ad J (ad J (ad J (ai (xs:= [.tmp 4,.const (I6 17),.tmp 5,.tmp 6,.const (I3 255)]) (dA e (s) (by omega) 17 r r 255) kM [0] [] [0] (fun _ _=>aa (ak (ad J (ad J (ad J (ai (xs:= [.tmp 8,.const (I6 20),.tmp 9,.tmp 10,.const (I3 2)]) (dA e (s.emit [qi 17 r r 255]) (by rw [bG];simp;omega) 20 r r 2) kM [0] [] [0] (fun _ _=>aa (cJ () O J iU J [0] [] J J J))))))))))))
abbrev cE(n:Nat)(l:List Nat):Value:= .func (.func n) #[] (l.map fun b=>Value.pointer (some ⟨b,0,none⟩)).toArray
theorem ik(e:Ga)(s:Qg)(hz:s.sz≤900000)(bg:Nat)(bo:Nat)(op:Int):
  aW prog 85 [Pt bg,Pt bo] [gA e s] [bj bg 104 [Pt e.g],bj bo 3 [I6 op]] (.tuple #[]) [gA e (s.emit [q3 op 1 2 1])]:=by
 refine aI func85 J ntmps85 J fun w0 M H=>ak (aP (ag mG J J (ed (k:=0) J J)) (aP (ag t3 J J (ed (k:=1) J J)) (ai (xs:= [.tmp 2,.tmp 3,.const (I6 1),.const (I6 2),.const (I6 1)]) (dJ e (s) (by omega) op 1 2 1) oQ [0] [] [0] (fun _ _=>aa (cJ () O J iU J [0] [] J J J)))))
theorem zA(e:Ga)(s:Qg)(hz:s.sz≤900000)(bg:Nat):
  aW prog 87 [Pt bg] [gA e s] [bj bg 104 [Pt e.g]] (.tuple #[]) [gA e (s.emit [q3 11 1 1 2])]:=by
 refine aI func87 J ntmps87 J fun w0 M H=>ak (aP (ag mG J J (ed (k:=0) J J)) (ai (xs:= [.tmp 1,.const (I6 11),.const (I6 1),.const (I6 1),.const (I6 2)]) (dJ e (s) (by omega) 11 1 1 2) oQ [0] [] [0] (fun _ _=>aa (cJ () O J iU J [0] [] J J J))))
theorem zz(e:Ga)(s:Qg)(hz:s.sz≤900000)(bg:Nat):
  aW prog 90 [Pt bg] [gA e s] [bj bg 104 [Pt e.g]] (.tuple #[]) [gA e ((s.emit [q3 5 1 2 1]).emit [q3 11 1 0 1])]:=by
 refine aI func90 J ntmps90 J fun w0 M H=>aq (aP (ag mG J J (ed (k:=0) J J)) (ai (xs:= [.tmp 1,.const (I6 5),.const (I6 1),.const (I6 2),.const (I6 1)]) (dJ e (s) (by omega) 5 1 2 1) oQ [0] [] [0] (fun _ _=>aa (ak (aP (ag mG J J (ed (k:=0) J J)) (ai (xs:= [.tmp 3,.const (I6 11),.const (I6 1),.const (I6 0),.const (I6 1)]) (dJ e (s.emit [q3 5 1 2 1]) (by rw [bG];simp;omega) 11 1 0 1) oQ [0] [] [0] (fun _ _=>aa (cJ () O J iU J [0] [] J J J))))))))
theorem Ie(e:Ga)(s:Qg)(hz:s.sz≤900000)(bg:Nat):
  aW prog 91 [Pt bg] [gA e s] [bj bg 104 [Pt e.g]] (.tuple #[]) [gA e (((s.lab.jump 32 1 0 s.labs.length).emit [q3 10 1 2 1]).place s.labs.length)]:=by
 refine aI func91 J ntmps91 J fun w0 M H=>aq (aP (ag mG J J (ed (k:=0) J J)) (ai (xs:= [.tmp 2]) (fU e s (by omega)) xJ [0] [] [0] (fun _ _=>am J (az J (aP (ag mG J J (ed (k:=0) J J)) (ad J (ai (xs:= [.tmp 4,.const (I6 32),.const (I6 1),.const (I6 0),.tmp 5]) (gp e (s.lab) (by simp only [bG,cr,ca,bW,dk];omega) 32 1 0 (s.labs.length:Int)) u7 [0] [] [0] (fun _ _=>az J (aP (ag mG J J (ed (k:=0) J J)) (ai (xs:= [.tmp 7,.const (I6 10),.const (I6 1),.const (I6 2),.const (I6 1)]) (dJ e (s.lab.jump 32 1 0 s.labs.length) (by simp only [bG,cr,ca,bW,dk];omega) 10 1 2 1) oQ [0] [] [0] (fun _ _=>aa (ak (aP (ag mG J J (ed (k:=0) J J)) ?_)))))))))))))
 refine ad J (ai (xs:= [.tmp 9,.tmp 10]) (eY e ((s.lab.jump 32 1 0 s.labs.length).emit [q3 10 1 2 1]) (by simp only [bG,cr,ca,bW,dk];omega) (s.labs.length:Int) (by simp [Qg.lab,Qg.jump,Qg.emit];omega)) uj [0] [] [0] (fun _ _=>aa (cJ () O J iU J [0] [] J J J)))
theorem Id(e:Ga)(s:Qg)(hz:s.sz≤900000)(bg:Nat):
  aW prog 93 [Pt bg] [gA e s] [bj bg 104 [Pt e.g]] (.tuple #[]) [gA e ((((((s.lab.emit [q3 1 3 1 0]).jump 32 1 0 s.labs.length).emit [q3 10 3 2 1]).emit [q3 9 3 3 1]).place s.labs.length).emit [q3 2 1 2 3])]:=by
 refine aI func93 J ntmps93 J fun w0 M H=>aq (aP (ag mG J J (ed (k:=0) J J)) (ai (xs:= [.tmp 2]) (fU e s (by omega)) xJ [0] [] [0] (fun _ _=>am J (az J (aP (ag mG J J (ed (k:=0) J J)) (ai (xs:= [.tmp 4,.const (I6 1),.const (I6 3),.const (I6 1),.const (I6 0)]) (dJ e (s.lab) (by simp only [bG,cr,ca,bW,dk];omega) 1 3 1 0) oQ [0] [] [0] (fun _ _=>az J (aP (ag mG J J (ed (k:=0) J J)) (ad J (ai (xs:= [.tmp 6,.const (I6 32),.const (I6 1),.const (I6 0),.tmp 7]) (gp e (s.lab.emit [q3 1 3 1 0]) (by simp only [bG,cr,ca,bW,dk];omega) 32 1 0 (s.labs.length:Int)) u7 [0] [] [0] (fun _ _=>az J ?_)))))))))))
 refine aP (ag mG J J (ed (k:=0) J J)) (ai (xs:= [.tmp 9,.const (I6 10),.const (I6 3),.const (I6 2),.const (I6 1)]) (dJ e ((s.lab.emit [q3 1 3 1 0]).jump 32 1 0 s.labs.length) (by simp only [bG,cr,ca,bW,dk];omega) 10 3 2 1) oQ [0] [] [0] (fun _ _=>az J (aP (ag mG J J (ed (k:=0) J J)) (ai (xs:= [.tmp 11,.const (I6 9),.const (I6 3),.const (I6 3),.const (I6 1)]) (dJ e (((s.lab.emit [q3 1 3 1 0]).jump 32 1 0 s.labs.length).emit [q3 10 3 2 1]) (by simp only [bG,cr,ca,bW,dk];omega) 9 3 3 1) oQ [0] [] [0] (fun _ _=>az J (aP (ag mG J J (ed (k:=0) J J)) (ad J (ai (xs:= [.tmp 13,.tmp 14]) (eY e ((((s.lab.emit [q3 1 3 1 0]).jump 32 1 0 s.labs.length).emit [q3 10 3 2 1]).emit [q3 9 3 3 1]) (by simp only [bG,cr,ca,bW,dk];omega) (s.labs.length:Int) (by simp [Qg.lab,Qg.jump,Qg.emit];omega)) uj [0] [] [0] (fun _ _=>aa (ak (aP (ag mG J J (ed (k:=0) J J)) (ai (xs:= [.tmp 16,.const (I6 2),.const (I6 1),.const (I6 2),.const (I6 3)]) (dJ e (((((s.lab.emit [q3 1 3 1 0]).jump 32 1 0 s.labs.length).emit [q3 10 3 2 1]).emit [q3 9 3 3 1]).place s.labs.length) (by simp only [bG,cr,ca,bW,dk];omega) 2 1 2 3) oQ [0] [] [0] (fun _ _=>aa (cJ () O J iU J [0] [] J J J))))))))))))))
theorem wh(e:Ga)(s:Qg)(hz:s.sz≤900000)(bg:Nat)(bf n:Nat)(s1:Qg)(hz1:s1.sz≤910000)(hcb:Cb prog n)(hs:Spec prog n ([bg].map fun b=>Value.pointer (some ⟨b,0,none⟩)) [gA e s] [bj bg 104 [Pt e.g]] (X:=Unit) (fun _=>True) (fun _=> .tuple #[]) (fun _=> [gA e s1]) (fun _=> [])):
  aW prog 89 [Pt bf,Pt bg] [gA e s] [bj bf 1 [cE n [bg]],bj bg 104 [Pt e.g]] (.tuple #[]) [gA e (s1.emit [qi 19 1 1 1])]:=by
 refine aI func89 J ntmps89 J fun w0 M H=>aq (aP (ag t1 J J (ed (k:=0) J J)) (ai (xs:= []) hs hcb [0] [(false,1)] [0] (fun _ _=>aa (ak (aP (ag mG J J (ed (k:=1) J J)) (ai (xs:= [.tmp 4,.const (I6 19),.const (I6 1),.const (I6 1),.const (I3 1)]) (dA e s1 (by omega) 19 1 1 1) kM [0] [] [0] (fun _ _=>aa (cJ () O J iU J [0] [] J J J))))))))
theorem EG(e:Ga)(s:Qg)(hz:s.sz≤900000)(bg:Nat)(bo:Nat)(bf n:Nat)(s1:Qg)(hz1:s1.sz≤910000)(hcb:Cb prog n)(hs:Spec prog n ([bg,bo].map fun b=>Value.pointer (some ⟨b,0,none⟩)) [gA e s] [bj bg 104 [Pt e.g],bj bo 3 [I6 11]] (X:=Unit) (fun _=>True) (fun _=> .tuple #[]) (fun _=> [gA e s1]) (fun _=> [])):
  aW prog 89 [Pt bf,Pt bg] [gA e s] [bj bf 1 [cE n [bg,bo]],bj bg 104 [Pt e.g],bj bo 3 [I6 11]] (.tuple #[]) [gA e (s1.emit [qi 19 1 1 1])]:=by
 refine aI func89 J ntmps89 J fun w0 M H=>aq (aP (ag t1 J J (ed (k:=0) J J)) (ai (xs:= []) hs hcb [0] [(false,1),(false,2)] [0] (fun _ _=>aa (ak (aP (ag mG J J (ed (k:=1) J J)) (ai (xs:= [.tmp 4,.const (I6 19),.const (I6 1),.const (I6 1),.const (I3 1)]) (dA e s1 (by omega) 19 1 1 1) kM [0] [] [0] (fun _ _=>aa (cJ () O J iU J [0] [] J J J))))))))
structure Oq where
 m:Nat
 bg:Nat
 b0:Nat
 b1:Nat
 b2:Nat
 b3:Nat
 b4:Nat
 b5:Nat
 b6:Nat
 b7:Nat
 b8:Nat
 b9:Nat
 f0:Nat
 f1:Nat
 f2:Nat
def UQ(c:Oq):List (Ba×Value):= [(lR,cE 93 [c.bg]),(la,cE 91 [c.bg]),(nR,cE 89 [c.f2,c.bg]),(nO,cE 90 [c.bg]),(oU,cE 89 [c.f1,c.bg]),(nP,cE 89 [c.f0,c.bg]),(nQ,cE 87 [c.bg]),(mx,cE 85 [c.bg,c.b8]),(ib,cE 85 [c.bg,c.b7]),(gQ,cE 85 [c.bg,c.b6]),(fw,cE 85 [c.bg,c.b5]),(kK,cE 85 [c.bg,c.b4]),(fo,cE 85 [c.bg,c.b3]),(gT,cE 85 [c.bg,c.b2]),(dU,cE 85 [c.bg,c.b1]),(gg,cE 85 [c.bg,c.b0])]
def P2(g:Nat)(c:Oq):List Asn:= [mp ie Prod.fst Prod.snd (some c.m) (UQ c),bj c.bg 104 [Pt g],bj c.b0 3 [I6 1],bj c.b1 3 [I6 2],bj c.b2 3 [I6 9],bj c.b3 3 [I6 3],bj c.b4 3 [I6 4],bj c.b5 3 [I6 5],bj c.b6 3 [I6 6],bj c.b7 3 [I6 7],bj c.b8 3 [I6 11],bj c.b9 3 [I6 11],bj c.f0 1 [cE 87 [c.bg]],bj c.f1 1 [cE 85 [c.bg,c.b9]],bj c.f2 1 [cE 90 [c.bg]]]
theorem AllIn.stable{w w':World}{F:Nat→Prop}(hs:∀b,F b→w'.heap[b]?=w.heap[b]?):∀{L:List Asn},AllIn w F L→AllIn w' F L
 | [],_=>trivial
 | A::r,h=>⟨h.1.elim fun G hG=>⟨G,A.stable hG.1 fun b hb=>hs b (hG.2 b hb),hG.2⟩,AllIn.stable hs h.2⟩
theorem AllIn.get{w:World}{F:Nat→Prop}:∀{L:List Asn}{i:Nat}{A:Asn},AllIn w F L→L[i]?=some A→∃G:Nat→Prop,A.pred w G∧∀b,G b→F b
 | [],i,A,_,h=>by simp at h
 | B::r,0,A,h,hi=>by cases hi;exact h.1
 | B::r,i+1,A,h,hi=>AllIn.get h.2 hi
def jU(g:Nat)(c:Oq):Asn:=⟨fun w F=>AllIn w F (P2 g c),fun h hs=>h.stable hs⟩
theorem F8{g:Nat}{c:Oq}{A:Asn}(i:Nat)(h:(P2 g c)[i]?=some A):∀w G,(jU g c).pred w G→(∀b,G b→b<w.heap.size)→∃G',A.pred w G'∧∀b,G' b→G b:=fun w G h2 _=>h2.get h
theorem Ng{g:Nat}{c:Oq}:∀w F,AllIn w F (P2 g c)→(jU g c).pred w F:=fun _ _ h=>h
theorem il(bg:Nat)(op:Int):
  Spec prog 84 [I6 op,Pt bg] [] [] (X:=Nat) (fun _=>True) (fun b=>cE 85 [bg,b]) (fun b=> [bj b 3 [I6 op]]) (fun _=> []):=by
 refine aI func84 J ntmps84 J fun w0 M H=>aq (wK J J J fun b2=>am J (az J (aP (fv (first:= []) (cap:= [.tmp 1,.tmp 2]) J J) (am J (aa (ay (aN b2 O J (ce (aL J)) J [2] [] J J J)))))))
theorem um(bg:Nat)(n:Nat)(l:List Nat):
  Spec prog 88 [cE n l,Pt bg] [] [] (X:=Nat) (fun _=>True) (fun b=>cE 89 [b,bg]) (fun b=> [bj b 1 [cE n l]]) (fun _=> []):=by
 refine aI func88 J ntmps88 J fun w0 M H=>aq (wK J J J fun b2=>am J (az J (aP (fv (first:= []) (cap:= [.tmp 2,.tmp 1]) J J) (am J (aa (ay (aN b2 O J (ce (aL J)) J [2] [] J J J)))))))
theorem F7(g:Nat):
  Spec prog 49 [Pt g] [] [] (X:=Oq) (fun _=>True) (fun c=> .map (some c.m)) (fun c=> [jU g c]) (fun _=> []):=by
 refine aI func49 J ntmps49 J fun w0 M H=>aq (wK J J J fun b1=>am J (az J (aP (fv (first:= []) (cap:= [.tmp 1]) J J) (am J (az J (aP (fv (first:= []) (cap:= [.tmp 1]) J J) (am J (az J (aP (fv (first:= []) (cap:= [.tmp 1]) J J) (am J ?_))))))))))
 refine az J (aP (fv (first:= []) (cap:= [.tmp 1]) J J) (am J (az J (ni (Prod.fst:Ba×Value→Ba) ie Prod.snd J fun b11=>ad J (ai (xs:= [.const (I6 1)]) (il b1 1) u6 [] [] [60] (fun p0 _=>cq (k:=11) (α:=Ba×Value) (kf:=Prod.fst) (vf:=Prod.snd) (gg,cE 85 [b1,p0]) [(gg,cE 85 [b1,p0])] underlying109 fz J J J J (List.Perm.of_eq J) (ad J (ai (xs:= [.const (I6 2)]) (il b1 2) u6 [] [] [61] (fun p1 _=>cq (k:=11) (α:=Ba×Value) (kf:=Prod.fst) (vf:=Prod.snd) (dU,cE 85 [b1,p1]) [(dU,cE 85 [b1,p1]),(gg,cE 85 [b1,p0])] underlying109 fz J J J J (List.Perm.of_eq J) (ad J (ai (xs:= [.const (I6 9)]) (il b1 9) u6 [] [] [62] (fun p2 _=>cq (k:=11) (α:=Ba×Value) (kf:=Prod.fst) (vf:=Prod.snd) (gT,cE 85 [b1,p2]) [(gT,cE 85 [b1,p2]),(dU,cE 85 [b1,p1]),(gg,cE 85 [b1,p0])] underlying109 fz J J J J (List.Perm.of_eq J) (ad J (ai (xs:= [.const (I6 3)]) (il b1 3) u6 [] [] [63] (fun p3 _=> ?_)))))))))))))))
 refine cq (k:=11) (α:=Ba×Value) (kf:=Prod.fst) (vf:=Prod.snd) (fo,cE 85 [b1,p3]) [(fo,cE 85 [b1,p3]),(gT,cE 85 [b1,p2]),(dU,cE 85 [b1,p1]),(gg,cE 85 [b1,p0])] underlying109 fz J J J J (List.Perm.of_eq J) (ad J (ai (xs:= [.const (I6 4)]) (il b1 4) u6 [] [] [64] (fun p4 _=>cq (k:=11) (α:=Ba×Value) (kf:=Prod.fst) (vf:=Prod.snd) (kK,cE 85 [b1,p4]) [(kK,cE 85 [b1,p4]),(fo,cE 85 [b1,p3]),(gT,cE 85 [b1,p2]),(dU,cE 85 [b1,p1]),(gg,cE 85 [b1,p0])] underlying109 fz J J J J (List.Perm.of_eq J) (ad J (ai (xs:= [.const (I6 5)]) (il b1 5) u6 [] [] [65] (fun p5 _=>cq (k:=11) (α:=Ba×Value) (kf:=Prod.fst) (vf:=Prod.snd) (fw,cE 85 [b1,p5]) [(fw,cE 85 [b1,p5]),(kK,cE 85 [b1,p4]),(fo,cE 85 [b1,p3]),(gT,cE 85 [b1,p2]),(dU,cE 85 [b1,p1]),(gg,cE 85 [b1,p0])] underlying109 fz J J J J (List.Perm.of_eq J) (ad J (ai (xs:= [.const (I6 6)]) (il b1 6) u6 [] [] [66] (fun p6 _=>cq (k:=11) (α:=Ba×Value) (kf:=Prod.fst) (vf:=Prod.snd) (gQ,cE 85 [b1,p6]) [(gQ,cE 85 [b1,p6]),(fw,cE 85 [b1,p5]),(kK,cE 85 [b1,p4]),(fo,cE 85 [b1,p3]),(gT,cE 85 [b1,p2]),(dU,cE 85 [b1,p1]),(gg,cE 85 [b1,p0])] underlying109 fz J J J J (List.Perm.of_eq J) (ad J (ai (xs:= [.const (I6 7)]) (il b1 7) u6 [] [] [67] (fun p7 _=>cq (k:=11) (α:=Ba×Value) (kf:=Prod.fst) (vf:=Prod.snd) (ib,cE 85 [b1,p7]) [(ib,cE 85 [b1,p7]),(gQ,cE 85 [b1,p6]),(fw,cE 85 [b1,p5]),(kK,cE 85 [b1,p4]),(fo,cE 85 [b1,p3]),(gT,cE 85 [b1,p2]),(dU,cE 85 [b1,p1]),(gg,cE 85 [b1,p0])] underlying109 fz J J J J (List.Perm.of_eq J) (ad J (ai (xs:= [.const (I6 11)]) (il b1 11) u6 [] [] [68] (fun p8 _=>cq (k:=11) (α:=Ba×Value) (kf:=Prod.fst) (vf:=Prod.snd) (mx,cE 85 [b1,p8]) [(mx,cE 85 [b1,p8]),(ib,cE 85 [b1,p7]),(gQ,cE 85 [b1,p6]),(fw,cE 85 [b1,p5]),(kK,cE 85 [b1,p4]),(fo,cE 85 [b1,p3]),(gT,cE 85 [b1,p2]),(dU,cE 85 [b1,p1]),(gg,cE 85 [b1,p0])] underlying109 fz J J J J (List.Perm.of_eq J) ?_)))))))))))))))
 refine ad J (cq (k:=11) (α:=Ba×Value) (kf:=Prod.fst) (vf:=Prod.snd) (nQ,cE 87 [b1]) [(nQ,cE 87 [b1]),(mx,cE 85 [b1,p8]),(ib,cE 85 [b1,p7]),(gQ,cE 85 [b1,p6]),(fw,cE 85 [b1,p5]),(kK,cE 85 [b1,p4]),(fo,cE 85 [b1,p3]),(gT,cE 85 [b1,p2]),(dU,cE 85 [b1,p1]),(gg,cE 85 [b1,p0])] underlying109 fz J J J J (List.Perm.of_eq J) (ad J (ad J (ai (xs:= [.tmp 32]) (um b1 87 [b1]) Oi [] [] [70] (fun q0 _=>cq (k:=11) (α:=Ba×Value) (kf:=Prod.fst) (vf:=Prod.snd) (nP,cE 89 [q0,b1]) [(nP,cE 89 [q0,b1]),(nQ,cE 87 [b1]),(mx,cE 85 [b1,p8]),(ib,cE 85 [b1,p7]),(gQ,cE 85 [b1,p6]),(fw,cE 85 [b1,p5]),(kK,cE 85 [b1,p4]),(fo,cE 85 [b1,p3]),(gT,cE 85 [b1,p2]),(dU,cE 85 [b1,p1]),(gg,cE 85 [b1,p0])] underlying109 fz J J J J (List.Perm.of_eq J) (ad J (ad J (ai (xs:= [.const (I6 11)]) (il b1 11) u6 [] [] [69] (fun p9 _=>ai (xs:= [.tmp 36]) (um b1 85 [b1,p9]) Oi [] [] [71] (fun q1 _=>cq (k:=11) (α:=Ba×Value) (kf:=Prod.fst) (vf:=Prod.snd) (oU,cE 89 [q1,b1]) [(oU,cE 89 [q1,b1]),(nP,cE 89 [q0,b1]),(nQ,cE 87 [b1]),(mx,cE 85 [b1,p8]),(ib,cE 85 [b1,p7]),(gQ,cE 85 [b1,p6]),(fw,cE 85 [b1,p5]),(kK,cE 85 [b1,p4]),(fo,cE 85 [b1,p3]),(gT,cE 85 [b1,p2]),(dU,cE 85 [b1,p1]),(gg,cE 85 [b1,p0])] underlying109 fz J J J J (List.Perm.of_eq J) (ad J (cq (k:=11) (α:=Ba×Value) (kf:=Prod.fst) (vf:=Prod.snd) (nO,cE 90 [b1]) [(nO,cE 90 [b1]),(oU,cE 89 [q1,b1]),(nP,cE 89 [q0,b1]),(nQ,cE 87 [b1]),(mx,cE 85 [b1,p8]),(ib,cE 85 [b1,p7]),(gQ,cE 85 [b1,p6]),(fw,cE 85 [b1,p5]),(kK,cE 85 [b1,p4]),(fo,cE 85 [b1,p3]),(gT,cE 85 [b1,p2]),(dU,cE 85 [b1,p1]),(gg,cE 85 [b1,p0])] underlying109 fz J J J J (List.Perm.of_eq J) (ad J (ad J (ai (xs:= [.tmp 40]) (um b1 90 [b1]) Oi [] [] [72] (fun q2 _=> ?_))))))))))))))))
 refine cq (k:=11) (α:=Ba×Value) (kf:=Prod.fst) (vf:=Prod.snd) (nR,cE 89 [q2,b1]) [(nR,cE 89 [q2,b1]),(nO,cE 90 [b1]),(oU,cE 89 [q1,b1]),(nP,cE 89 [q0,b1]),(nQ,cE 87 [b1]),(mx,cE 85 [b1,p8]),(ib,cE 85 [b1,p7]),(gQ,cE 85 [b1,p6]),(fw,cE 85 [b1,p5]),(kK,cE 85 [b1,p4]),(fo,cE 85 [b1,p3]),(gT,cE 85 [b1,p2]),(dU,cE 85 [b1,p1]),(gg,cE 85 [b1,p0])] underlying109 fz J J J J (List.Perm.of_eq J) (aP (fv (first:= []) (cap:= [.tmp 1]) J J) (cq (k:=11) (α:=Ba×Value) (kf:=Prod.fst) (vf:=Prod.snd) (la,cE 91 [b1]) [(la,cE 91 [b1]),(nR,cE 89 [q2,b1]),(nO,cE 90 [b1]),(oU,cE 89 [q1,b1]),(nP,cE 89 [q0,b1]),(nQ,cE 87 [b1]),(mx,cE 85 [b1,p8]),(ib,cE 85 [b1,p7]),(gQ,cE 85 [b1,p6]),(fw,cE 85 [b1,p5]),(kK,cE 85 [b1,p4]),(fo,cE 85 [b1,p3]),(gT,cE 85 [b1,p2]),(dU,cE 85 [b1,p1]),(gg,cE 85 [b1,p0])] underlying109 fz J J J J (List.Perm.of_eq J) (aP (fv (first:= []) (cap:= [.tmp 1]) J J) (cq (k:=11) (α:=Ba×Value) (kf:=Prod.fst) (vf:=Prod.snd) (lR,cE 93 [b1]) [(lR,cE 93 [b1]),(la,cE 91 [b1]),(nR,cE 89 [q2,b1]),(nO,cE 90 [b1]),(oU,cE 89 [q1,b1]),(nP,cE 89 [q0,b1]),(nQ,cE 87 [b1]),(mx,cE 85 [b1,p8]),(ib,cE 85 [b1,p7]),(gQ,cE 85 [b1,p6]),(fw,cE 85 [b1,p5]),(kK,cE 85 [b1,p4]),(fo,cE 85 [b1,p3]),(gT,cE 85 [b1,p2]),(dU,cE 85 [b1,p1]),(gg,cE 85 [b1,p0])] underlying109 fz J J J J (List.Perm.of_eq J) (ad J (am J (aa (ay (bz 90 [11,1,60,61,62,63,64,65,66,67,68,69,70,71,72] (L:=P2 g ⟨b11,b1,p0,p1,p2,p3,p4,p5,p6,p7,p8,p9,q0,q1,q2⟩) (C:=jU g ⟨b11,b1,p0,p1,p2,p3,p4,p5,p6,p7,p8,p9,q0,q1,q2⟩) J Ng (aN ⟨b11,b1,p0,p1,p2,p3,p4,p5,p6,p7,p8,p9,q0,q1,q2⟩ O J (ce (aL J)) J [90] [] J J J))))))))))
def zM(z n:Int):Int:=IntKind.u32.wrap (IntKind.i32.wrap (wU (n*2^(32-z).toNat))/2^(32-z).toNat)
theorem Fv{n:Int}(h:0≤n∧n<4294967296):decide (zM 18 n=n)=jO n:=by
 unfold zM jO wU;rw [show((32:Int)-18).toNat=14 from J,←Bool.decide_or];simp only [IntKind.wrap_u32,IntKind.wrap_i32];refine decide_eq_decide.2 ?_;omega
theorem MJ{α:Type}{b o n:Nat}{S:TypeId}{c:List Value}{enc:α→List Value}{s:Nat}{l:List α}(hl:l.length=n)(hn:n≤maxLen)(hc:(c.drop o).take (l.flatMap enc).length=l.flatMap enc):∀w G,(bj b S c).pred w G→(sl s enc (sv ⟨some ⟨b,o,none⟩,n,n⟩) l).pred w G:=fun w G h=>by
 refine⟨n,by omega,hn,.inr ⟨b,o,by rw [hl];rfl,(h.1 b).2 rfl,fun j u hj=> ?_⟩⟩;simp only [World.cell?,h.2];rw [←hc,List.getElem?_take]at hj;split at hj
 ·rw [List.getElem?_drop]at hj;simpa using hj
 ·simp at hj
theorem RZ{b:Int}(hb:0≤b∧b<4294967296):bits .and .u32 b 1023=b%1024:=by
 have h1:bits .and .u32 b 1023=IntKind.u32.wrap (((BitVec.ofInt 32 b&&&BitVec.ofInt 32 1023).toNat:Nat):Int):=J;have h2:(BitVec.ofInt 32 b).toNat=b.toNat:=by
  rw [BitVec.toNat_ofInt,Int.emod_eq_of_lt hb.1 (by omega)]
 have h3:(BitVec.ofInt 32 1023).toNat=2^10-1:=by decide
 rw [h1,BitVec.toNat_and,h2,h3,Nat.and_two_pow_sub_one_eq_mod,cc (by omega)];omega
theorem RY{b:Int}(hb:0≤b∧b<4294967296):bits .and .u32 b 262143=b%262144:=by
 have h1:bits .and .u32 b 262143=IntKind.u32.wrap (((BitVec.ofInt 32 b&&&BitVec.ofInt 32 262143).toNat:Nat):Int):=J;have h2:(BitVec.ofInt 32 b).toNat=b.toNat:=by
  rw [BitVec.toNat_ofInt,Int.emod_eq_of_lt hb.1 (by omega)]
 have h3:(BitVec.ofInt 32 262143).toNat=2^18-1:=by decide
 rw [h1,BitVec.toNat_and,h2,h3,Nat.and_two_pow_sub_one_eq_mod,cc (by omega)];omega
theorem RX{b:Int}(hb:0≤b∧b<4294967296):bits .and .u32 b 4194303=b%4194304:=by
 have h1:bits .and .u32 b 4194303=IntKind.u32.wrap (((BitVec.ofInt 32 b&&&BitVec.ofInt 32 4194303).toNat:Nat):Int):=J;have h2:(BitVec.ofInt 32 b).toNat=b.toNat:=by
  rw [BitVec.toNat_ofInt,Int.emod_eq_of_lt hb.1 (by omega)]
 have h3:(BitVec.ofInt 32 4194303).toNat=2^22-1:=by decide
 rw [h1,BitVec.toNat_and,h2,h3,Nat.and_two_pow_sub_one_eq_mod,cc (by omega)];omega
theorem DO(n z:Int)(hn:0≤n∧n<4294967296)(hz:z=18∨z=22):
  aW prog 204 [I3 n,I6 z] [] [] (I3 (zM z n)) []:=by
 refine aI func204 J ntmps204 J fun w0 M H=>aq (am J (aa (be (aA (aq (ad J (ar J J cy (am J (aa (ap J (fun h1=> ?_) (fun h1=> ?_)))))))))))
 ·exact absurd h1 (by simp;omega)
 ·(try simp only [bl]at h1);refine aq (ad J (ar J J iz (am J (aa (ap J (fun h2=> ?_) (fun h2=> ?_))))))
  ·exact absurd h2 (by simp;omega)
  ·(try simp only [bl]at h2);refine aC (aq (ad J (ad J (ar J J eG (ar J J (jQ (by omega) (by first|decide|(simp [IntKind.bits];omega)) J) (aP (cw underlying41 underlying21 J (by first|exact EW (by omega) (by omega)|rfl)) (ad J (ar J J eG (ar J J (uq (by omega) (by first|decide|(simp [IntKind.bits];omega)) J) (aP (cw underlying21 underlying41 J (by first|exact cc (by omega)|rfl)) (am J (aa (ay (aN () O J (ce (aL J)) J [] [] J J J))))))))))))))
theorem vP(n z:Int)(hn:0≤n∧n<4294967296)(hz:z=18∨z=22):
  aW prog 190 [I3 n,I6 z] [] [] (.bool (decide (zM z n=n))) []:=by
 refine aI func190 J ntmps190 J fun w0 M H=>aq (am J (az J (ad J (ad J (ai (xs:= [.tmp 5,.tmp 6]) (DO n z hn hz) Q0 [] [] [] (fun _ _=>ad J (ar J J bv (am J (aa (ay (aN () O J (ce (aL J)) J [] [] J J J)))))))))))
theorem Br(d n:Int)(hn:0≤n∧n<4294967296):
  aW prog 203 [I6 d,I3 n] [] [] (.agg (jw (qi 41 d 0 (n/1024))++jw (qi 18 d d (n%1024))).toArray) []:=by
 refine aI func203 J ntmps203 J fun w0 M H=>aq (aZ DF J J fun b4=>az J (ad J (ad J (ar J J (uq (by decide) (by decide) (show n/2^(10:Int).toNat=n/1024 from J)) (aP (aX (parts:= [(0,.const (I6 41)),(1,.tmp 5),(4,.tmp 7)]) fF nZ J J) (ad J (ad J (ad J (ar J J (Dq (RZ hn)) (aP (aX (parts:= [(0,.const (I6 18)),(1,.tmp 9),(2,.tmp 10),(4,.tmp 12)]) fF nZ J J) (aP (F2 (D:= .bool) (vs:= [(0,.agg (jw (qi 41 d 0 (n/1024))).toArray),(1,.agg (jw (qi 18 d d (n%1024))).toArray)]) (cs:=(jw (qi 41 d 0 (n/1024))++jw (qi 18 d d (n%1024))).toArray) (parts:= [(0,.tmp 8),(1,.tmp 13)]) DF fF J (by kernel_rfl)) (av (k:=4) DF J J J J J J (aa (ay ?_))))))))))))))
 refine aN () O J (ce (bw DF J J J (bp (k:=4) J))) J [] [] J J J
theorem Gg(e:Ga)(s:Qg)(hz:s.sz≤900000)(n:Int)(hn:0≤n∧n<4294967296):
  aW prog 189 [Pt e.g,I3 n] [gA e s] [] (.tuple #[]) [gA e (tM n s)]:=by
 refine aI func189 J ntmps189 J fun w0 M H=>aU (ad J (ai (xs:= [.tmp 5,.const (I6 18)]) (vP n 18 hn (.inl J)) LN [] [] [] (fun _ _=>aa (ap J (fun h1=> ?_) (fun h1=> ?_)))))
 ·have hf:jO n=true:=by rw [←Fv hn];exact h1
  rw [show tM n s=s.emit [qi 16 1 0 n]from aj hf];refine aq (ad J (ad J (ai (xs:= [.tmp 7,.const (I6 16),.const (I6 1),.const (I6 0),.tmp 8]) (dA e s (by omega) 16 1 0 n) kM [0] [] [0] (fun _ _=>aa (ay (aN () O J iU J [0] [] J J J))))))
 ·have hf:jO n=false:=by rw [←Fv hn];exact h1
  rw [show tM n s=s.emit [qi 41 1 0 (n/1024),qi 18 1 1 (n%1024)]from ac (by rw [hf];simp)];refine aC (aq (ad J (ai (xs:= [.const (I6 1),.tmp 10]) (Br 1 n hn) Q1 [] [] [] (fun _ _=>aZ DF J J fun b4=>av (k:=4) DF J J J J J J (aa (ak (ad J (aP (yN underlying281 fF J (by decide)) (cK 4 7 J (MJ (o:=0) (n:=2) (s:=5) (enc:=jw) (l:= [qi 41 1 0 (n/1024),qi 18 1 1 (n%1024)]) J (by decide) J) (ai (xs:= [.tmp 12,.tmp 13]) (jd e s (by omega) ⟨some ⟨b4,0,none⟩,2,2⟩ [qi 41 1 0 (n/1024),qi 18 1 1 (n%1024)] (by simp)) zw [0] [(false,7)] [0] (fun _ _=>aa (cJ () O J iU J [0] [] J J J))))))))))))
structure Sh where
 k:Bool
 d:Bool
 a:Bool
 b:Bool
 kd:Int
 bt:Int
 mo:Int
deriving DecidableEq
def qy:Sh:=⟨false,false,false,false,0,0,0⟩
def qV(s:Sh):List Value:= [.bool s.k,.bool s.d,.bool s.a,.bool s.b,I6 s.kd,I6 s.bt,I3 s.mo]
def oS(l:List Sh):List Value:=l.flatMap qV
theorem wz:∀l:List Sh,(oS l).length=l.length*7
 | []=>rfl
 | a::r=>by
  show(qV a++oS r).length=_;rw [bD,wz r,aY,show(qV a).length=7 from J];omega
theorem BU:∀(l:List Sh)(j:Nat)(x:Sh),l[j]?=some x→((oS l).drop (j*7)).take 7=qV x
 | [],j,x,h=>by simp at h
 | a::r,0,x,h=>by cases h;rfl
 | a::r,j+1,x,h=>by
  show((qV a++oS r).drop ((j+1)*7)).take 7=_;rw [show(j+1)*7=(qV a).length+j*7 by rw [show(qV a).length=7 from J];omega,List.drop_append,List.drop_eq_nil_of_le (by omega),List.nil_append,Nat.add_sub_cancel_left];exact BU r j x h
theorem BT:∀(l:List Sh)(j:Nat)(x:Sh),j<l.length→(oS l).take (j*7)++qV x++(oS l).drop (j*7+7)=oS (l.set j x)
 | [],j,x,h=>absurd h (Nat.not_lt_zero _)
 | a::r,0,x,h=>by
  show(oS (a::r)).take 0++qV x++(qV a++oS r).drop 7=qV x++oS r;rfl
 | a::r,j+1,x,h=>by
  have ih:=BT r j x (Nat.lt_of_succ_lt_succ h);show(qV a++oS r).take ((j+1)*7)++qV x++(qV a++oS r).drop ((j+1)*7+7)=qV a++oS (r.set j x);have e7:(qV a).length=7:=J;rw [show(j+1)*7=(qV a).length+j*7 by omega,List.take_append,List.take_of_length_le (by omega),Nat.add_sub_cancel_left,show(qV a).length+j*7+7=(qV a).length+(j*7+7) by omega,List.drop_append,List.drop_eq_nil_of_le (by omega),List.nil_append,Nat.add_sub_cancel_left,←ih];simp only [List.append_assoc]
def cd(s:Sh):List Sh→List Int→List Sh
 | l,[]=>l
 | l,o::r=>cd s (l.set o.toNat {s with k:=true}) r
theorem d6(s:Sh):∀(l:List Sh)(r:List Int),(cd s l r).length=l.length
 | l,[]=>rfl
 | l,o::r=>by unfold cd;rw [d6 s _ r,List.length_set]
theorem ng(s:Sh):∀(l:List Sh)(a b:List Int),cd s l (a++b)=cd s (cd s l a) b
 | l,[],b=>rfl
 | l,o::a,b=>ng s _ a b
def pN(lo n:Nat):List Int:=(List.range n).map fun i=>((lo+i:Nat):Int)
theorem y4(lo n:Nat):pN lo (n+1)=pN lo n++ [((lo+n:Nat):Int)]:=by
 unfold pN;rw [List.range_succ,List.map_append];rfl
def Aj:Sh:=⟨false,true,true,true,0,0,0⟩
def uD:Sh:=⟨false,true,true,false,1,18,0⟩
def Iw:Sh:=⟨false,true,true,false,2,18,0⟩
def shL:List Sh:=
 cd ⟨false,false,true,false,2,18,4⟩ (cd ⟨false,true,false,false,2,18,3⟩ (cd ⟨false,false,true,false,0,0,0⟩ (cd qy (cd ⟨false,false,false,false,2,18,0⟩ (cd ⟨false,true,false,false,2,22,0⟩ (cd ⟨false,true,false,false,1,22,0⟩
  (cd uD (cd Iw (cd uD (cd Aj (List.replicate 64 qy) (pN 1 12)) (pN 16 12)) [17,18,19]) [32,33,34,35,36,37]) [40]) [41]) [48]) [49,50,51]) [52]) [53]) [54]
def dt(op:Int):Sh:=if 0≤op∧op<64 then shL.getD op.toNat qy else qy
theorem Ac:TI prog 253 (.array 64 219) (.agg (oS (List.replicate 64 qy)).toArray) 448 2048:=⟨underlying253,by kernel_rfl⟩
def gM(n:Int)(u:Bool):Bool:=decide (n=0) || (u&&decide (n>0)&&decide (n<16))
def lT(s:Sh)(n:Int):Bool:=if s.kd=0 then decide (n=0)else if s.kd=1 then decide (zM s.bt n=n)else if s.mo>0 then decide (n≤s.mo)else decide (n/2^s.bt.toNat=0)
def rM(i:Qi):Bool:=(dt i.op).k&&gM i.d (dt i.op).d&&gM i.a (dt i.op).a&&gM i.b (dt i.op).b&&lT (dt i.op) i.imm
theorem eW(ba:Nat)(s:Sh)(v:SV)(ops:List Int)(l:List Sh)(hb:∀o∈ops,0≤o∧o<64)(hl:l.length=64)(hol:ops.length≤100):
  aW prog 191 [.agg (qV s).toArray,sv v,Pt ba] [bj ba 253 (oS l)] [sl 1 eI (sv v) ops] (.tuple #[]) [bj ba 253 (oS (cd s l ops))]:=by
 refine aI func191 J ntmps191 J fun w0 M H=>aq (cM J J fun b3=>az J (aD CX J (aB (k:=3) t4 J J J J J J J J (az J (ad J (aP (aT underlying22 J (aJ (k:=0) J)) (ad J (aa (aA (bJ (X:=Nat) (fun i=>i≤ops.length) (fun i=> [(2,Pt ba),(3,Pt b3),(8,sv v),(9,I6 (ops.length:Int)),(10,I6 (i:Int))]) (fun i=> [(0,bj ba 253 (oS (cd s l (ops.take i)))),(3,bj b3 219 (qV {s with k:=true}))]) (fun i=> [(0,sl 1 eI (sv v) ops)]) (fun i=>ops.length-i) 0 (bn _) J J J (fun i n1=>aq ?_)))))))))))
 refine ar J J cy (aa (be (ap J (fun h1=> ?_) (fun h1=> ?_))))
 ·(try simp only [bl]at h1);have hi:i<ops.length:=by omega
  obtain⟨o,hx⟩:∃o,ops[i]?=some o:=⟨_,bQ hi⟩
  have ho:=hb o (bV hx);refine aC (be (aA (aq (aP (aO (j:=i) underlying22 t3 J J (aJ (k:=0) J) (by first|rfl|omega) (by first|omega|(simp;done)|(simp;omega))) (aP (ag t3 J J (bF (aJ (k:=0) J) (by intro _;rfl) hx (by rfl))) (am J (aa (ak (ad J (aP (aM jA J J J (bp (k:=3) J)) (aP (dT (j:=o.toNat) underlying253 jA J J (by omega) (by omega)) ?_)))))))))));refine aB (k:=0) (us:=qV {s with k:=true}) (c':=oS ((cd s l (ops.take i)).set o.toNat {s with k:=true})) jA J J J J J J (by rw [wz,d6,hl,show(qV {s with k:=true}).length=7 from J,Nat.ble_eq];omega) (by rw [show(0:Nat)+o.toNat*7=o.toNat*7 by omega];exact BT _ _ {s with k:=true} (by rw [d6,hl];omega)) ?_;refine aa (ak (ar J J aK (ad J (aa ?_))));refine aG (i+1) ⟨by omega,by omega⟩ J (by rw [cj hx,ng];rfl) J
 ·(try simp only [bl]at h1);have hi:i=ops.length:=by omega
  subst hi;refine bL (cJ () O J iU J [0] [] J (by rw [cQ];rfl) J)
theorem ym:
  aW prog 171 [] [] [] (.agg (oS shL).toArray) []:=by
 refine aI func171 J ntmps171 J fun w0 M H=>aq (aZ Ac (c:=oS (List.replicate 64 qy)) (by kernel_rfl) J fun b0=>az J (aZ Ac (c:=oS (List.replicate 64 qy)) (by kernel_rfl) J fun b1=>az J (aP (fv (first:= []) (cap:= [.tmp 1]) J J) (am J (aa (aU (am J (aa (aA ?_)))))))))
 refine bJ (X:=Nat) (fun i=>i≤12) (fun i=> [(0,Pt b0),(1,Pt b1),(2,.func (.func 191) #[] #[Pt b1]),(3,I6 ((1+i:Nat):Int))]) (fun i=> [(0,bj b0 253 (oS (List.replicate 64 qy))),(1,bj b1 253 (oS (cd Aj (List.replicate 64 qy) (pN 1 i))))]) (fun i=> []) (fun i=>12-i) 0 (bn _) J J J (fun i n1=>aU (ad J (ar J J mt (aa (ap J (fun h1=> ?_) (fun h1=> ?_))))))
 ·(try simp only [bl]at h1);have hi:i<12:=by omega
  refine aC (be (aA (ak (ad J (aP (aX (parts:= [(1,.const (.bool Bool.true)),(2,.const (.bool Bool.true)),(3,.const (.bool Bool.true))]) jA mf J J) (ad J (bq eI ((1+i:Nat):Int) underlying22 t3 J (by decide) (by decide) J J J J fun v13=>cK 13 9 J cf (ai (xs:= [.tmp 11,.tmp 13]) (eW b1 Aj v13 [((1+i:Nat):Int)] (cd Aj (List.replicate 64 qy) (pN 1 i)) (by intro o ho;rw [List.mem_singleton.1 ho];omega) (by simp only [d6,List.length_replicate]) (by simp)) mX [1] [(false,9)] [1] (fun _ _=>aa (ak (ad J (ar J J (co (c:=((1+(i+1):Nat):Int)) (by rw [bM (by omega)];omega)) (am J (aa ?_))))))))))))));refine aG (i+1) ⟨by omega,by omega⟩ J (by rw [y4 1 i,ng];rfl) J
 ·(try simp only [bl]at h1);have hi:i=12:=by omega
  subst hi;refine bL (aU (am J (aa (aA (bJ (X:=Nat) (fun i=>i≤12) (fun i=> [(0,Pt b0),(1,Pt b1),(2,.func (.func 191) #[] #[Pt b1]),(4,I6 ((16+i:Nat):Int))]) (fun i=> [(0,bj b0 253 (oS (List.replicate 64 qy))),(1,bj b1 253 (oS (cd uD (cd Aj (List.replicate 64 qy) (pN 1 12)) (pN 16 i))))]) (fun i=> []) (fun i=>12-i) 0 (bn _) J J J (fun i n1=>aU (ad J (ar J J mt (aa (ap J (fun h2=> ?_) (fun h2=> ?_)))))))))))
  ·(try simp only [bl]at h2);have hi:i<12:=by omega
   refine aC (be (aA (ak (ad J (aP (aX (parts:= [(1,.const (.bool Bool.true)),(2,.const (.bool Bool.true)),(4,.const (I6 1)),(5,.const (I6 18))]) jA mf J J) (ad J (bq eI ((16+i:Nat):Int) underlying22 t3 J (by decide) (by decide) J J J J fun v22=>cK 22 9 J cf (ai (xs:= [.tmp 20,.tmp 22]) (eW b1 uD v22 [((16+i:Nat):Int)] (cd uD (cd Aj (List.replicate 64 qy) (pN 1 12)) (pN 16 i)) (by intro o ho;rw [List.mem_singleton.1 ho];omega) (by simp only [d6,List.length_replicate]) (by simp)) mX [1] [(false,9)] [1] (fun _ _=>aa (ak (ad J (ar J J (co (c:=((16+(i+1):Nat):Int)) (by rw [bM (by omega)];omega)) (am J (aa ?_))))))))))))));refine aG (i+1) ⟨by omega,by omega⟩ J (by rw [y4 16 i,ng];rfl) J
  ·(try simp only [bl]at h2);have hi:i=12:=by omega
   subst hi;refine bL (aq (ad J (aP (aX (parts:= [(1,.const (.bool Bool.true)),(2,.const (.bool Bool.true)),(4,.const (I6 2)),(5,.const (I6 18))]) jA mf J J) (cI eI [17,18,19] (parts:= [(0,.const (I6 17)),(1,.const (I6 18)),(2,.const (I6 19))]) underlying22 t3 J (by decide) (by intro _;rfl) J (by decide) (by decide) J J J J fun v26=>cK 26 9 J cf (ai (xs:= [.tmp 25,.tmp 26]) (eW b1 Iw v26 [17,18,19] (cd uD (cd Aj (List.replicate 64 qy) (pN 1 12)) (pN 16 12)) (by decide) (by simp only [d6,List.length_replicate]) (by decide)) mX [1] [(false,9)] [1] (fun _ _=>az J (ad J (aP (aX (parts:= [(1,.const (.bool Bool.true)),(2,.const (.bool Bool.true)),(4,.const (I6 1)),(5,.const (I6 18))]) jA mf J J) (cI eI [32,33,34,35,36,37] (parts:= [(0,.const (I6 32)),(1,.const (I6 33)),(2,.const (I6 34)),(3,.const (I6 35)),(4,.const (I6 36)),(5,.const (I6 37))]) underlying22 t3 J (by decide) (by intro _;rfl) J (by decide) (by decide) J J J J fun v30=>cK 30 9 J cf (ai (xs:= [.tmp 29,.tmp 30]) (eW b1 uD v30 [32,33,34,35,36,37] (cd Iw (cd uD (cd Aj (List.replicate 64 qy) (pN 1 12)) (pN 16 12)) [17,18,19]) (by decide) (by simp only [d6,List.length_replicate]) (by decide)) mX [1] [(false,9)] [1] (fun _ _=>az J (ad J ?_))))))))))))
   refine aP (aX (parts:= [(1,.const (.bool Bool.true)),(4,.const (I6 1)),(5,.const (I6 22))]) jA mf J J) (bq eI 40 underlying22 t3 J (by decide) (by decide) J J J J fun v34=>cK 34 9 J cf (ai (xs:= [.tmp 33,.tmp 34]) (eW b1 ⟨false,true,false,false,1,22,0⟩ v34 [40] (cd uD (cd Iw (cd uD (cd Aj (List.replicate 64 qy) (pN 1 12)) (pN 16 12)) [17,18,19]) [32,33,34,35,36,37]) (by decide) (by simp only [d6,List.length_replicate]) (by decide)) mX [1] [(false,9)] [1] (fun _ _=>az J (ad J (aP (aX (parts:= [(1,.const (.bool Bool.true)),(4,.const (I6 2)),(5,.const (I6 22))]) jA mf J J) (bq eI 41 underlying22 t3 J (by decide) (by decide) J J J J fun v38=>cK 38 9 J cf (ai (xs:= [.tmp 37,.tmp 38]) (eW b1 ⟨false,true,false,false,2,22,0⟩ v38 [41] (cd ⟨false,true,false,false,1,22,0⟩ (cd uD (cd Iw (cd uD (cd Aj (List.replicate 64 qy) (pN 1 12)) (pN 16 12)) [17,18,19]) [32,33,34,35,36,37]) [40]) (by decide) (by simp only [d6,List.length_replicate]) (by decide)) mX [1] [(false,9)] [1] (fun _ _=>az J (ad J (aP (aX (parts:= [(4,.const (I6 2)),(5,.const (I6 18))]) jA mf J J) (bq eI 48 underlying22 t3 J (by decide) (by decide) J J J J fun v42=>cK 42 9 J cf (ai (xs:= [.tmp 41,.tmp 42]) (eW b1 ⟨false,false,false,false,2,18,0⟩ v42 [48] (cd ⟨false,true,false,false,2,22,0⟩ (cd ⟨false,true,false,false,1,22,0⟩ (cd uD (cd Iw (cd uD (cd Aj (List.replicate 64 qy) (pN 1 12)) (pN 16 12)) [17,18,19]) [32,33,34,35,36,37]) [40]) [41]) (by decide) (by simp only [d6,List.length_replicate]) (by decide)) mX [1] [(false,9)] [1] (fun _ _=> ?_)))))))))))))
   refine az J (ad J (aP (aX (parts:= []) jA mf J J) (cI eI [49,50,51] (parts:= [(0,.const (I6 49)),(1,.const (I6 50)),(2,.const (I6 51))]) underlying22 t3 J (by decide) (by intro _;rfl) J (by decide) (by decide) J J J J fun v46=>cK 46 9 J cf (ai (xs:= [.tmp 45,.tmp 46]) (eW b1 qy v46 [49,50,51] (cd ⟨false,false,false,false,2,18,0⟩ (cd ⟨false,true,false,false,2,22,0⟩ (cd ⟨false,true,false,false,1,22,0⟩ (cd uD (cd Iw (cd uD (cd Aj (List.replicate 64 qy) (pN 1 12)) (pN 16 12)) [17,18,19]) [32,33,34,35,36,37]) [40]) [41]) [48]) (by decide) (by simp only [d6,List.length_replicate]) (by decide)) mX [1] [(false,9)] [1] (fun _ _=>az J (ad J (aP (aX (parts:= [(2,.const (.bool Bool.true))]) jA mf J J) (bq eI 52 underlying22 t3 J (by decide) (by decide) J J J J fun v50=>cK 50 9 J cf (ai (xs:= [.tmp 49,.tmp 50]) (eW b1 ⟨false,false,true,false,0,0,0⟩ v50 [52] (cd qy (cd ⟨false,false,false,false,2,18,0⟩ (cd ⟨false,true,false,false,2,22,0⟩ (cd ⟨false,true,false,false,1,22,0⟩ (cd uD (cd Iw (cd uD (cd Aj (List.replicate 64 qy) (pN 1 12)) (pN 16 12)) [17,18,19]) [32,33,34,35,36,37]) [40]) [41]) [48]) [49,50,51]) (by decide) (by simp only [d6,List.length_replicate]) (by decide)) mX [1] [(false,9)] [1] (fun _ _=>az J (ad J ?_)))))))))))
   refine aP (aX (parts:= [(1,.const (.bool Bool.true)),(4,.const (I6 2)),(5,.const (I6 18)),(6,.const (I3 3))]) jA mf J J) (bq eI 53 underlying22 t3 J (by decide) (by decide) J J J J fun v54=>cK 54 9 J cf (ai (xs:= [.tmp 53,.tmp 54]) (eW b1 ⟨false,true,false,false,2,18,3⟩ v54 [53] (cd ⟨false,false,true,false,0,0,0⟩ (cd qy (cd ⟨false,false,false,false,2,18,0⟩ (cd ⟨false,true,false,false,2,22,0⟩ (cd ⟨false,true,false,false,1,22,0⟩ (cd uD (cd Iw (cd uD (cd Aj (List.replicate 64 qy) (pN 1 12)) (pN 16 12)) [17,18,19]) [32,33,34,35,36,37]) [40]) [41]) [48]) [49,50,51]) [52]) (by decide) (by simp only [d6,List.length_replicate]) (by decide)) mX [1] [(false,9)] [1] (fun _ _=>az J (ad J (aP (aX (parts:= [(2,.const (.bool Bool.true)),(4,.const (I6 2)),(5,.const (I6 18)),(6,.const (I3 4))]) jA mf J J) (bq eI 54 underlying22 t3 J (by decide) (by decide) J J J J fun v58=>cK 58 9 J cf (ai (xs:= [.tmp 57,.tmp 58]) (eW b1 ⟨false,false,true,false,2,18,4⟩ v58 [54] (cd ⟨false,true,false,false,2,18,3⟩ (cd ⟨false,false,true,false,0,0,0⟩ (cd qy (cd ⟨false,false,false,false,2,18,0⟩ (cd ⟨false,true,false,false,2,22,0⟩ (cd ⟨false,true,false,false,1,22,0⟩ (cd uD (cd Iw (cd uD (cd Aj (List.replicate 64 qy) (pN 1 12)) (pN 16 12)) [17,18,19]) [32,33,34,35,36,37]) [40]) [41]) [48]) [49,50,51]) [52]) [53]) (by decide) (by simp only [d6,List.length_replicate]) (by decide)) mX [1] [(false,9)] [1] (fun _ _=>az J (aP (aM Ac J J (by rw [wz];simp only [d6,List.length_replicate]) (bp (k:=1) J)) (aB (k:=0) (us:=oS shL) (c':=oS shL) Ac J J (by kernel_rfl) (by kernel_rfl) (by kernel_rfl) J (by kernel_rfl) (by kernel_rfl) (aa (ay (aN () O J (ce (bw Ac J J (by kernel_rfl) (bp (k:=0) J))) J [] [] J J J)))))))))))))
theorem vq(op:Int):
  aW prog 132 [I6 op] [] [] (.agg (qV (dt op)).toArray) []:=by
 refine aI func132 J ntmps132 J fun w0 M H=>aq (aZ jA J J fun b2=>az J (ai (xs:= []) ym Rf [] [] [] (fun _ _=>aZ Ac (c:=oS (List.replicate 64 qy)) (by kernel_rfl) J fun b3=>aB (k:=3) (us:=oS shL) (c':=oS shL) Ac J J (by kernel_rfl) (by kernel_rfl) (by kernel_rfl) J (by kernel_rfl) (by kernel_rfl) (aa (aU (ad J (ar J J cy (ad J (aH [] J J O (fun hg1=>aV J) J (aH [(8,_)] J J ⟨J,O⟩ (fun hg2=>aQ J J iz) J (aP (bH J J J) ?_)))))))))))
 refine aa (ap J (fun h3=> ?_) (fun h3=> ?_))
 ·(try simp only [bl]at h3);have hg:dt op=qy:=ac (by omega);rw [hg];refine aq (aP (aX (parts:= []) jA mf J J) (av (k:=2) jA J J J J J J (aa (ay (aN () O J (ce (bw jA J J J (bp (k:=2) J))) J [] [] J J J)))))
 ·(try simp only [bl]at h3);have hn:0≤op∧op<64:=by omega
  have hg:shL[op.toNat]?=some (dt op):=by
   have hl:shL.length=64:=by decide
   unfold dt;rw [aj hn,List.getD_eq_getElem?_getD,bQ (by omega)];rfl
  refine aC (aq (ad J (aP (dT (j:=op.toNat) underlying253 jA J J (by omega) (by omega)) ?_)));refine uE (aM jA J J J (od (us:=qV (dt op)) (k:=3) J (by rw [show(0:Nat)+op.toNat*7=op.toNat*7 by omega,show(qV (dt op)).length=7 from rfl];exact BU shL _ _ hg))) J ?_;refine av (k:=2) jA J J J J J J (aa (ay (aN () O J (ce (bw jA J J J (bp (k:=2) J))) J [] [] J J J)))
theorem qS(n:Int)(u:Bool):
  aW prog 169 [I6 n,.bool u] [] [] (.bool (gM n u)) []:=by
 refine aI func169 J ntmps169 J fun w0 M H=>aq (am J (az J (ad J (ar J J bv (ad J (aH [] J J O (fun hg1=>aV J) J (aH [(8,_)] J J ⟨J,O⟩ (fun hg2=>aV J) J (cA [] [(8,_),(9,_)] J J O ⟨J,J,O⟩ (fun hg3 hg3'=>aV J) J (cA [(10,_)] [(8,_),(9,_)] J J ⟨J,O⟩ ⟨J,J,O⟩ (fun hg4 hg4'=>aQ J J fA) J (aH [(8,_),(9,_)] J J ⟨J,J,O⟩ (fun hg5=>d7 J J J (by first|exact dL|exact eu|exact da hg5|exact dF hg5|rfl)) J (aH [(8,_),(9,_),(12,_)] J J ⟨J,J,J,O⟩ (fun hg6=>aV J) J (cA [] [(8,_),(9,_),(12,_),(13,_)] J J O ⟨J,J,J,J,O⟩ (fun hg7 hg7'=>aV J) J (cA [(14,_)] [(8,_),(9,_),(12,_),(13,_)] J J ⟨J,O⟩ ⟨J,J,J,J,O⟩ (fun hg8 hg8'=>aQ J J cy) J (aH [(8,_),(9,_),(12,_),(13,_)] J J ⟨J,J,J,J,O⟩ (fun hg9=>d7 J J J (by first|exact dL|exact eu|exact da hg9|exact dF hg9|rfl)) J (aP (bH J J J) ?_)))))))))))))))
 refine am J (aa (ay (aN () O J (ce (aL J)) J [] [] J J J)))
theorem En(s:Sh)(n:Int)(hn:0≤n∧n<4294967296)(hs:s.kd=1→s.bt=18∨s.bt=22)(hb:0≤s.bt∧s.bt<32):
  aW prog 170 [.agg (qV s).toArray,I3 n] [] [] (.bool (lT s n)) []:=by
 refine aI func170 J ntmps170 J fun w0 M H=>aq (cM J J fun b2=>am J (aa (be (aA (aq (aD CW J (aR 2 t3 J J J J (ar J J bv (am J (aa (ap J (fun h1=> ?_) (fun h1=> ?_))))))))))))
 ·(try simp only [bl]at h1);have k0:s.kd=0:=h1;refine aq (ad J (ar J J bv (am J (aa (ay (aN () O J (ce (aL J)) (by unfold lT;rw [aj k0]) [] [] J J J))))))
 ·(try simp only [bl]at h1);have k0:¬s.kd=0:=h1;refine aq (aD CW J (aR 2 t3 J J J J (ar J J bv (am J (aa (ap J (fun h2=> ?_) (fun h2=> ?_)))))))
  ·(try simp only [bl]at h2);have k1:s.kd=1:=h2;refine aq (ad J (aD CV J (aR 2 t3 J J J J (ai (xs:= [.tmp 15,.tmp 17]) (vP n s.bt hn (hs k1)) LN [] [] [] (fun _ _=>am J (aa (ay (aN () O J (ce (aL J)) (by unfold lT;rw [ac k0,aj k1]) [] [] J J J))))))))
  ·(try simp only [bl]at h2);have k1:¬s.kd=1:=h2;refine aq (aD CU J (aR 2 eA J J J J (ar J J fA (am J (aa (ap J (fun h3=> ?_) (fun h3=> ?_)))))))
   ·(try simp only [bl]at h3);have k2:s.mo>0:=h3;refine aq (ad J (aD CU J (aR 2 eA J J J J (ar J J mt (am J (aa (ay (aN () O J (ce (aL J)) (by unfold lT;rw [ac k0,ac k1,aj k2]) [] [] J J J))))))))
   ·(try simp only [bl]at h3);have k2:¬s.mo>0:=by omega
    refine aC (aq (ad J (aD CV J (aR 2 t3 J J J J (ar J J (uq (by omega) (by first|decide|(simp [IntKind.bits];omega)) J) (ar J J bv (am J (aa (ay (aN () O J (ce (aL J)) (by unfold lT;rw [ac k0,ac k1,ac k2]) [] [] J J J))))))))))
theorem MF:∀s∈shL,(s.kd=1→s.bt=18∨s.bt=22)∧0≤s.bt∧s.bt<32∧(s.bt=0∨s.bt=18∨s.bt=22)∧(s.bt=18→s.b=false)∧(s.bt=22→s.a=false∧s.b=false):=by decide
theorem km(op:Int):((dt op).kd=1→(dt op).bt=18∨(dt op).bt=22)∧0≤(dt op).bt∧(dt op).bt<32∧((dt op).bt=0∨(dt op).bt=18∨(dt op).bt=22)∧((dt op).bt=18→(dt op).b=false)∧((dt op).bt=22→(dt op).a=false∧(dt op).b=false):=by
 unfold dt;split
 ·rename_i h;have hl:shL.length=64:=by decide
  rw [List.getD_eq_getElem?_getD,bQ (by omega)];exact MF _ (List.getElem_mem _)
 ·decide
theorem P_{op:Int}(h:(dt op).k=true):0≤op∧op<64:=by
 unfold dt at h;by_cases hc:0≤op∧op<64
 ·exact hc
 ·rw [ac hc]at h;cases h
theorem xD{n:Int}{u:Bool}(h:gM n u=true):0≤n∧n<16:=by
 unfold gM at h;simp only [Bool.or_eq_true,Bool.and_eq_true,decide_eq_true_eq]at h;omega
theorem wr{i:Qi}(h:rM i=true):(0≤i.op∧i.op<64)∧(0≤i.d∧i.d<16)∧(0≤i.a∧i.a<16)∧(0≤i.b∧i.b<16):=by
 unfold rM at h;simp only [Bool.and_eq_true]at h;obtain⟨⟨⟨⟨h1,h2⟩,h3⟩,h4⟩,h5⟩:=h;exact⟨P_ h1,xD h2,xD h3,xD h4⟩
def oi(i:Qi):Int:=i.op*67108864+i.d*4194304+i.a*262144+i.b*16384+i.imm%2^(dt i.op).bt.toNat
def u4(i:Qi):Int:=if rM i=true then oi i else 0
theorem OM{x y:Int}(k:Nat)(hx:0≤x∧x<4294967296)(hx2:x%((2^k:Nat):Int)=0)(hy:0≤y∧y<((2^k:Nat):Int))(hy2:y<4294967296):bits .or .u32 x y=x+y:=by
 obtain⟨a,rfl⟩:=Int.eq_ofNat_of_zero_le hx.1;obtain⟨b,rfl⟩:=Int.eq_ofNat_of_zero_le hy.1;rw [u32_or _ _ hx.1 hx.2 hy.1 hy2];simp only [Int.toNat_natCast];rw [nat_join k a b (by exact_mod_cast hx2) (by exact_mod_cast hy.2)];omega
theorem fX{n:Int}(h:gM n false=true):n=0:=by
 unfold gM at h;simp only [Bool.or_eq_true,Bool.and_eq_true,decide_eq_true_eq,Bool.false_and]at h;simpa using h
theorem QH{i:Qi}(h:rM i=true)(hi:0≤i.imm∧i.imm<4294967296):
  bits .or .u32 (bits .or .u32 (bits .or .u32 (bits .or .u32 (IntKind.u32.wrap (i.op*2^(26:Int).toNat)) (IntKind.u32.wrap (i.d*2^(22:Int).toNat))) (IntKind.u32.wrap (i.a*2^(18:Int).toNat))) (IntKind.u32.wrap (i.b*2^(14:Int).toNat))) (bits .and .u32 i.imm (IntKind.u32.wrap (IntKind.u32.wrap (1*2^(dt i.op).bt.toNat)-1)))=oi i:=by
 obtain⟨b1,b2,b3,b4⟩:=wr h;unfold rM at h;simp only [Bool.and_eq_true]at h;obtain⟨⟨⟨⟨h1,h2⟩,h3⟩,h4⟩,h5⟩:=h;obtain⟨_,_,_,k1,k2,k3⟩:=km i.op;rw [show((2:Int)^(26:Int).toNat)=67108864 from J,show((2:Int)^(22:Int).toNat)=4194304 from J,show((2:Int)^(18:Int).toNat)=262144 from J,show((2:Int)^(14:Int).toNat)=16384 from J];rw [mc (n:=i.op*67108864) (by omega) (by omega),mc (n:=i.d*4194304) (by omega) (by omega),mc (n:=i.a*262144) (by omega) (by omega),mc (n:=i.b*16384) (by omega) (by omega)];rw [OM (x:=i.op*67108864) (y:=i.d*4194304) 26 ⟨by omega,by omega⟩ (by omega) ⟨by omega,by omega⟩ (by omega),OM (x:=i.op*67108864+i.d*4194304) (y:=i.a*262144) 22 ⟨by omega,by omega⟩ (by omega) ⟨by omega,by omega⟩ (by omega),OM (x:=i.op*67108864+i.d*4194304+i.a*262144) (y:=i.b*16384) 18 ⟨by omega,by omega⟩ (by omega) ⟨by omega,by omega⟩ (by omega)];unfold oi;rcases k1 with k|k|k
 ·rw [k,show IntKind.u32.wrap (IntKind.u32.wrap (1*2^(0:Int).toNat)-1)=0 from J,show((2:Int)^(0:Int).toNat)=1 from J];have h0:bits .and .u32 i.imm 0=0:=by
   rw [u32_and _ _ hi.1 hi.2 (by omega) (by omega)];simp
  rw [h0,OM 0 ⟨by omega,by omega⟩ (by omega) ⟨by omega,by omega⟩ (by omega)];omega
 ·have hb:i.b=0:=fX (by rw [←k2 k];exact h4);rw [k,show IntKind.u32.wrap (IntKind.u32.wrap (1*2^(18:Int).toNat)-1)=262143 from J,show((2:Int)^(18:Int).toNat)=262144 from J,RY hi,hb];rw [OM 18 ⟨by omega,by omega⟩ (by omega) ⟨by omega,by omega⟩ (by omega)]
 ·have hb:i.b=0:=fX (by rw [←(k3 k).2];exact h4);have ha:i.a=0:=fX (by rw [←(k3 k).1];exact h3);rw [k,show IntKind.u32.wrap (IntKind.u32.wrap (1*2^(22:Int).toNat)-1)=4194303 from J,show((2:Int)^(22:Int).toNat)=4194304 from J,RX hi,hb,ha];rw [OM 22 ⟨by omega,by omega⟩ (by omega) ⟨by omega,by omega⟩ (by omega)]
theorem Bi{i:Qi}(h:rM i=true):0≤oi i∧oi i<4294967296:=by
 obtain⟨b1,b2,b3,b4⟩:=wr h;unfold rM at h;simp only [Bool.and_eq_true]at h;obtain⟨⟨⟨⟨h1,h2⟩,h3⟩,h4⟩,h5⟩:=h;obtain⟨_,_,_,k1,k2,k3⟩:=km i.op;unfold oi;rcases k1 with k|k|k
 ·rw [k,show((2:Int)^(0:Int).toNat)=1 from J];omega
 ·have hb:i.b=0:=fX (by rw [←k2 k];exact h4);rw [k,show((2:Int)^(18:Int).toNat)=262144 from J];omega
 ·have hb:i.b=0:=fX (by rw [←(k3 k).2];exact h4);have ha:i.a=0:=fX (by rw [←(k3 k).1];exact h3);rw [k,show((2:Int)^(22:Int).toNat)=4194304 from J];omega
theorem N6(i:Qi):0≤u4 i∧u4 i<4294967296:=by
 unfold u4;split
 ·rename_i h;exact Bi h
 ·omega
def fP(n:Int):List Int:= [n%256,n/256%256,n/65536%256,n/16777216%256]
def N3(i:Qi):Int:=if rM i=true then 0 else 12
theorem z7(i:Qi)(hi:0≤i.imm∧i.imm<4294967296):
  aW prog 131 [.agg (jw i).toArray] [] [] (.bool (rM i)) []:=by
 refine aI func131 J ntmps131 J fun w0 M H=>aq (cM J J fun b1=>am J (az J (aD ct J (aR 1 t3 J J J J (ai (xs:= [.tmp 5]) (vq i.op) L4 [] [] [] (fun _ _=>aZ jA J J fun b3=>av (k:=3) jA J J J J J J (az J (aD CX J (aR 3 t4 J J J J (ad J (aH [] J J O (fun hg1=>ah iq J) J ?_)))))))))))
 refine aH [(10,_)] J J ⟨J,O⟩ (fun hg2=>ag t3 J J (ax (k:=1) J J)) J (aH [(10,_),(11,_)] J J ⟨J,J,O⟩ (fun hg3=>ah Ku J) J (aH [(10,_),(11,_),(12,_)] J J ⟨J,J,J,O⟩ (fun hg4=>ag t4 J J (ax (k:=3) J J)) J (kP [(10,_),(11,_),(12,_),(13,_)] J J ⟨J,J,J,J,O⟩ (fun hg5=>b_ (xs:= [.tmp 11,.tmp 13]) (qS i.d (dt i.op).d) HU [] [] []) J (aP (bH J J J) (ad J (aH [] J J O (fun hg6=>ah nC J) J (aH [(17,_)] J J ⟨J,O⟩ (fun hg7=>ag t3 J J (ax (k:=1) J J)) J (aH [(17,_),(18,_)] J J ⟨J,J,O⟩ (fun hg8=>ah Kt J) J (aH [(17,_),(18,_),(19,_)] J J ⟨J,J,J,O⟩ (fun hg9=>ag t4 J J (ax (k:=3) J J)) J (kP [(17,_),(18,_),(19,_),(20,_)] J J ⟨J,J,J,J,O⟩ (fun hg10=>b_ (xs:= [.tmp 18,.tmp 20]) (qS i.a (dt i.op).a) HU [] [] []) J (aP (bH J J J) (ad J (aH [] J J O (fun hg11=>ah nA J) J (aH [(24,_)] J J ⟨J,O⟩ (fun hg12=>ag t3 J J (ax (k:=1) J J)) J (aH [(24,_),(25,_)] J J ⟨J,J,O⟩ (fun hg13=>ah Ks J) J (aH [(24,_),(25,_),(26,_)] J J ⟨J,J,J,O⟩ (fun hg14=>ag t4 J J (ax (k:=3) J J)) J (kP [(24,_),(25,_),(26,_),(27,_)] J J ⟨J,J,J,J,O⟩ (fun hg15=>b_ (xs:= [.tmp 25,.tmp 27]) (qS i.b (dt i.op).b) HU [] [] []) J (aP (bH J J J) (ad J ?_)))))))))))))))))));refine aH [] J J O (fun hg16=>aM jA J J J (bp (k:=3) J)) J (aH [(31,_)] J J ⟨J,O⟩ (fun hg17=>ah ef J) J (aH [(31,_),(32,_)] J J ⟨J,J,O⟩ (fun hg18=>ag eA J J (ax (k:=1) J J)) J (kP [(31,_),(32,_),(33,_)] J J ⟨J,J,J,O⟩ (fun hg19=>b_ (xs:= [.tmp 31,.tmp 33]) (En (dt i.op) i.imm hi (km i.op).1 ⟨(km i.op).2.1,(km i.op).2.2.1⟩) Rg [] [] []) J (aP (bH J J J) (am J (aa (ay (aN () O J (ce (aL J)) J [] [] J J J))))))))
theorem zk(i:Qi)(hi:0≤i.imm∧i.imm<4294967296):
  aW prog 98 [.agg (jw i).toArray] [] [] (.tuple #[I3 (u4 i),I6 (N3 i)]) []:=by
 refine aI func98 J ntmps98 J fun w0 M H=>aq (cM J J fun b1=>am J (am J (aa (aU (aP (aM fF J J J (bp (k:=1) J)) (ai (xs:= [.tmp 5]) (z7 i hi) RD [] [] [] (fun _ _=>aP (cZ J) (aa (ap J (fun h1=> ?_) (fun h1=> ?_))))))))))
 ·have hv:rM i=false:=by simpa using h1
  rw [show u4 i=0 from ac (by rw [hv];simp),show N3 i=12 from ac (by rw [hv];simp)];refine aq (am J (am J (aa (ay (aN () O J (Jd (aL J) (aL J)) J [] [] J J J)))))
 ·have hv:rM i=true:=by simpa using h1
  rw [show u4 i=oi i from aj hv,show N3 i=0 from aj hv];obtain⟨b1,b2,b3,b4⟩:=wr hv;obtain⟨_,c1,c2,_⟩:=km i.op;refine aC (aq (aD ct J (aR 1 t3 J J J J (aP (cw underlying3 underlying41 J (by first|exact cc (by omega)|rfl)) (ar J J (jQ (by omega) (by first|decide|(simp [IntKind.bits];omega)) J) (aD iq J (aR 1 t3 J J J J (aP (cw underlying3 underlying41 J (by first|exact cc (by omega)|rfl)) (ar J J (jQ (by omega) (by first|decide|(simp [IntKind.bits];omega)) J) (ar J J (Ij J) (aD nC J (aR 1 t3 J J J J (aP (cw underlying3 underlying41 J (by first|exact cc (by omega)|rfl)) (ar J J (jQ (by omega) (by first|decide|(simp [IntKind.bits];omega)) J) (ar J J (Ij J) (aD nA J (aR 1 t3 J J J J (aP (cw underlying3 underlying41 J (by first|exact cc (by omega)|rfl)) ?_))))))))))))))))));refine ar J J (jQ (by omega) (by first|decide|(simp [IntKind.bits];omega)) J) (ar J J (Ij J) (am J (aa (be ?_))));refine bX [27,28,29,30,31,32,33,34,35,36,37,2,3] _ J (bi (V:= [(0,27,_),(1,28,_),(2,29,_),(3,30,_),(4,31,_)]) [0,1,2,3,4] 5 [5,4,3] [6,7,8,9,10,11,12] (fun _=> [(6,33,_),(7,34,_),(8,35,_),(9,36,_),(10,37,_),(11,2,_),(12,3,_)]) J J (aF J J (ae J (ah ef J) (ae J (ag eA J J (ax (k:=1) J J)) (ae J (ah ct J) (ae J (ag t3 J J (ax (k:=1) J J)) aw))))) J J J J J J J J J J J (fun _ _=>J) J (b_ (xs:= [.tmp 31]) (vq i.op) L4 [] [] []) (fun _ _=>bA [6,7,8,9,10,11,12,0,1,2] J J (ae J (yM Ke t3 J J) (ae J (aQ J J (jQ (by omega) (by first|decide|(simp [IntKind.bits];omega)) J)) (ae J (aQ J J Ii) (ae J (aQ J J (Dq J)) (ae J (aQ J J (Ij J)) (ae J (df J) (ae J (df J) (aF J J (ae J (ah ef J) (ae J (ag eA J J (ax (k:=1) J J)) aw)))))))))) J J J ?_));refine ay (aN () O J (Jd (aL J) (aL J)) (congrArg (fun z=>Value.tuple #[Value.int .u32 z,Value.int .i64 0]) (QH hv hi)) [] [] J J J)
theorem qFS(n:Int)(hn:0≤n∧n<4294967296):
  aW prog 100 [I3 n,I6 4] [] [] (Sg (mM (fP n))) []:=by
 refine aI func100 J ntmps100 J fun w0 M H=>aq (am J (az J (ad J (aP (cw underlying41 underlying5 J (by first|exact Dz (by omega) (by omega)|rfl)) (ad J (ar J J (uq (by omega) (by first|decide|(simp [IntKind.bits];omega)) J) (aP (cw underlying41 underlying5 J (by first|exact Dz (by omega) (by omega)|rfl)) (ad J (ar J J (uq (by omega) (by first|decide|(simp [IntKind.bits];omega)) J) (aP (cw underlying41 underlying5 J (by first|exact Dz (by omega) (by omega)|rfl)) (ad J (ar J J (uq (by omega) (by first|decide|(simp [IntKind.bits];omega)) J) (aP (cw underlying41 underlying5 J (by first|exact Dz (by omega) (by omega)|rfl)) (cI cn (fP n) (parts:= [(0,.tmp 7),(1,.tmp 10),(2,.tmp 13),(3,.tmp 16)]) underlying84 t5 J (by decide) (by intro _;rfl) J (by decide) (by decide) J J J J fun v17=>am J ?_))))))))))))))
 refine az J (ad J (ad J (aP (Lc J J J) (aP (yO J J J) (aP (lP (j:=4) underlying84 t5 J J (bh (k:=17) J) J (bU 4)) (cK 17 17 J cf (PB 17 18 4 J (bU 4) (aP (Cc underlying84 underlying5 underlying9 J (aJ (k:=18) J) (by simp [fP])) (am J (aa (ay (aN () O J (ce (aL J)) J [] [] J J J))))))))))))
theorem zr(b:Nat)(p:Option Addr)(hp:p=none∨p=some ⟨b,0,none⟩)(v:SV):
  aW prog 133 [Pt b] [bj b 177 [.pointer p,sv v]] [] (.tuple #[]) [bj b 177 [Pt b,sv v]]:=by
 refine aI func133 J ntmps133 J fun w0 M H=>aq (ad J (bS J (aD xz J (aR 0 Mz J J J J (ar J J (Ov underlying175) (aa (ap J (fun h1=> ?_) (fun h1=> ?_))))))))
 ·obtain rfl:p=none:=by cases p with|none=>rfl|some _=>cases h1
  refine ak (ad J (ad J (aP (PX (k:=0) underlying175 underlying255 IX (by decide) J J (by simp)) (aP (Jt func172 (by kernel_rfl) (by kernel_rfl) (by kernel_rfl) (by kernel_rfl) J) (aP (Jv (k:=0) underlying255 underlying175 IX J J (by kernel_rfl)) (bS J (aD xz J (aB (k:=0) Mz J J J J J J J J (aa (cJ () O J iU J [0] [] J J J))))))))))
 ·obtain rfl:p=some ⟨b,0,none⟩:=hp.resolve_left (fun e=>by subst e;cases h1);refine aq (ad J (bS J (aD xz J (aR 0 Mz J J J J (ad J (aP (Ju underlying175 IX J J) (aa (ap J (fun h2=> ?_) (fun h2=> ?_)))))))))
  ·cases h2
  ·refine aC (cJ () O J iU J [0] [] J J J)
theorem Dy(b:Nat)(p:Option Addr)(hp:p=none∨p=some ⟨b,0,none⟩)(v:SV)(l:List Int)(s:Ba)(hl:l.length+s.size≤1000000):
  Spec prog 99 [Pt b,Sg s] [bj b 177 [.pointer p,sv v],own 5 1 cn (sv v) l] [] (X:=SV) (fun _=>True) (fun _=> .tuple #[I6 (s.size:Int),.nilIface]) (fun v=> [bj b 177 [Pt b,sv v],own 5 1 cn (sv v) (l++br s)]) (fun _=> []):=by
 refine aI func99 J ntmps99 J fun w0 M H=>aq (am J (am J (az J (ad J (ai (xs:= [.tmp 6]) (zr b p hp v) RC [0] [] [0] (fun _ _=>az J (ad J (ad J (bS J (aD sy J (aR 0 Ab J J J J (ad J (D5 1 underlying84 underlying9 t5 J J J J (by omega) J fun v14=> ?_)))))))))))))
 refine bS J (aD sy J (aB (k:=0) Ab J J J J J J J J (az J (ad J (aP (cH underlying9 J) (am J (am J (aa (ay (aN v14 O J (Jd (aL J) (aL J)) J [0,1] [] J J J))))))))))
theorem EH(b:Nat)(p:Option Addr)(v:SV)(l:List Int)(hl:l≠ [])(hb:∀n∈l,0≤n∧n<256):
  aW prog 101 [Pt b] [bj b 177 [.pointer p,sv v],own 5 1 cn (sv v) l] [] (Sg (mM l)) [bj b 177 [.pointer p,sv v]]:=by
 refine aI func101 J ntmps101 J fun w0 M H=>aq (am J (aa (be (bX [3,4,5,6,7,8,9,10,11,12,13,2] _ J (bi (V:= [(0,3,_),(1,4,_),(2,5,_),(3,6,_),(4,7,_),(5,8,_),(6,9,_),(7,10,_),(8,11,_),(9,12,_)]) [0,1,2,3,4,5,6,7,8,9] 10 [10,9,8,7,6,5,4,3,2,1,0] [11] (fun _=> [(11,2,_)]) J J (aF J J (ae J (au J) (ae J (ah sy J) (ae J (ag Ab J J (ax (k:=0) J J)) (ae J (PW (k:=1) J J hl) (aF J J (ae J (au J) (ae J (ah sy J) (ae J (ag Ab J J (ax (k:=0) J J)) (ae J (aT underlying84 J (bh (k:=1) J)) aw)))))))))) J J J J J J J J J J J (fun _ _=>J) J (JK (k:=1) underlying221 (by kernel_rfl) J J J hl hb) (fun _ _=>bA [11] J J (ae J (df J) aw) J J J (ay (aN () O J (ce (aL J)) J [0] [] J J J))))))))
structure Fo where
 is:Bool
 d:Bool
 a:Bool
 b:Bool
 sg:Bool
 bt:Int
 mo:Int
deriving DecidableEq
def OT(f:Fo):List Value:= [.bool f.is,.bool f.d,.bool f.a,.bool f.b,.bool f.sg,I6 f.bt,I3 f.mo]
def A9(op:Int):Fo:=⟨(dt op).k,(dt op).d,(dt op).a,(dt op).b,decide ((dt op).kd=1),(dt op).bt,(dt op).mo⟩
def Cm(op:Int):Fo:=
 if 1≤op∧op≤12 then⟨true,true,true,true,false,0,0⟩else if op=17∨op=18∨op=19 then⟨true,true,true,false,false,18,0⟩else if(16≤op∧op≤27)∨(32≤op∧op≤37)then⟨true,true,true,false,true,18,0⟩else if op=40 then⟨true,true,false,false,true,22,0⟩else if op=41 then⟨true,true,false,false,false,22,0⟩else if op=48 then⟨true,false,false,false,false,18,0⟩else if op=49∨op=50∨op=51 then⟨true,false,false,false,false,0,0⟩else if op=52 then⟨true,false,true,false,false,0,0⟩else if op=53 then⟨true,true,false,false,false,18,3⟩else if op=54 then⟨true,false,true,false,false,18,4⟩else⟨false,false,false,false,false,0,0⟩
theorem JE:∀n,n<64→Cm ((n:Nat):Int)=A9 ((n:Nat):Int):=by decide
theorem AE{op:Int}(h:0≤op∧op<64):Cm op=A9 op:=by
 have:=JE op.toNat (by omega)
 rw [show((op.toNat:Nat):Int)=op by omega]at this;exact this
theorem wT(op:Int):
  aW prog 197 [I6 op] [] [] (.agg (OT (Cm op)).toArray) []:=by
 refine aI func197 J ntmps197 J fun w0 M H=>aq (aZ ge J J fun b2=>aa (be (aA (aq (ad J (ar J J iz (ad J (aH [] J J O (fun hg1=>aV J) J (aH [(7,_)] J J ⟨J,O⟩ (fun hg2=>aQ J J mt) J (aP (bH J J J) (am J (aa (ap J (fun h3=> ?_) (fun h3=> ?_))))))))))))))
 ·(try simp only [bl]at h3);have q1:1≤op∧op≤12:=by omega
  refine aq (aP (aX (parts:= [(0,.const (.bool Bool.true)),(1,.const (.bool Bool.true)),(2,.const (.bool Bool.true)),(3,.const (.bool Bool.true))]) ge mL J J) (av (k:=2) ge J J J J J J (aa (ay (aN () O J (ce (bw ge J J J (bp (k:=2) J))) (by unfold Cm;rw [aj q1];rfl) [] [] J J J)))))
 ·(try simp only [bl]at h3);have q1:¬(1≤op∧op≤12):=by omega
  refine aq (ad J (ar J J bv (ad J (aH [] J J O (fun hg4=>aV J) J (aH [(15,_)] J J ⟨J,O⟩ (fun hg5=>aQ J J bv) J (aP (bH J J J) (ad J (aH [] J J O (fun hg6=>aV J) J (aH [(19,_)] J J ⟨J,O⟩ (fun hg7=>aQ J J bv) J (aP (bH J J J) (am J (aa (ap J (fun h8=> ?_) (fun h8=> ?_))))))))))))))
  ·(try simp only [bl]at h8);have q2:op=17∨op=18∨op=19:=by omega
   refine aq (aP (aX (parts:= [(0,.const (.bool Bool.true)),(1,.const (.bool Bool.true)),(2,.const (.bool Bool.true)),(5,.const (I6 18))]) ge mL J J) (av (k:=2) ge J J J J J J (aa (ay (aN () O J (ce (bw ge J J J (bp (k:=2) J))) (by unfold Cm;rw [ac q1,aj q2];rfl) [] [] J J J)))))
  ·(try simp only [bl]at h8);have q2:¬(op=17∨op=18∨op=19):=by omega
   refine aq (ad J (ar J J iz (ad J (aH [] J J O (fun hg9=>aV J) J (aH [(27,_)] J J ⟨J,O⟩ (fun hg10=>aQ J J mt) J (aP (bH J J J) (ad J (aH [] J J O (fun hg11=>aV J) J (aH [(31,_)] J J ⟨J,O⟩ (fun hg12=>aQ J J iz) J (aH [(31,_),(32,_)] J J ⟨J,J,O⟩ (fun hg13=>aV J) J (cA [] [(31,_),(32,_),(33,_)] J J O ⟨J,J,J,O⟩ (fun hg14 hg14'=>aV J) J (cA [(34,_)] [(31,_),(32,_),(33,_)] J J ⟨J,O⟩ ⟨J,J,J,O⟩ (fun hg15 hg15'=>aQ J J mt) J (aH [(31,_),(32,_),(33,_)] J J ⟨J,J,J,O⟩ (fun hg16=>d7 J J J (by first|exact dL|exact eu|exact da hg16|exact dF hg16|rfl)) J (aP (bH J J J) (am J (aa (ap J (fun h17=> ?_) (fun h17=> ?_))))))))))))))))))
   ·(try simp only [bl]at h17);have q3:(16≤op∧op≤27)∨(32≤op∧op≤37):=by omega
    refine aq (aP (aX (parts:= [(0,.const (.bool Bool.true)),(1,.const (.bool Bool.true)),(2,.const (.bool Bool.true)),(4,.const (.bool Bool.true)),(5,.const (I6 18))]) ge mL J J) (av (k:=2) ge J J J J J J (aa (ay (aN () O J (ce (bw ge J J J (bp (k:=2) J))) (by unfold Cm;rw [ac q1,ac q2,aj q3];rfl) [] [] J J J)))))
   ·(try simp only [bl]at h17);have q3:¬((16≤op∧op≤27)∨(32≤op∧op≤37)):=by omega
    refine aq (ad J (ar J J bv (am J (aa (ap J (fun h18=> ?_) (fun h18=> ?_))))))
    ·(try simp only [bl]at h18);have q4:op=40:=by omega
     refine aq (aP (aX (parts:= [(0,.const (.bool Bool.true)),(1,.const (.bool Bool.true)),(4,.const (.bool Bool.true)),(5,.const (I6 22))]) ge mL J J) (av (k:=2) ge J J J J J J (aa (ay (aN () O J (ce (bw ge J J J (bp (k:=2) J))) (by unfold Cm;rw [ac q1,ac q2,ac q3,aj q4];rfl) [] [] J J J)))))
    ·(try simp only [bl]at h18);have q4:¬(op=40):=by omega
     refine aq (ad J (ar J J bv (am J (aa (ap J (fun h19=> ?_) (fun h19=> ?_))))))
     ·(try simp only [bl]at h19);have q5:op=41:=by omega
      refine aq (aP (aX (parts:= [(0,.const (.bool Bool.true)),(1,.const (.bool Bool.true)),(5,.const (I6 22))]) ge mL J J) (av (k:=2) ge J J J J J J (aa (ay (aN () O J (ce (bw ge J J J (bp (k:=2) J))) (by unfold Cm;rw [ac q1,ac q2,ac q3,ac q4,aj q5];rfl) [] [] J J J)))))
     ·(try simp only [bl]at h19);have q5:¬(op=41):=by omega
      refine aq (ad J (ar J J bv (am J (aa (ap J (fun h20=> ?_) (fun h20=> ?_))))))
      ·(try simp only [bl]at h20);have q6:op=48:=by omega
       refine aq (aP (aX (parts:= [(0,.const (.bool Bool.true)),(5,.const (I6 18))]) ge mL J J) (av (k:=2) ge J J J J J J (aa (ay (aN () O J (ce (bw ge J J J (bp (k:=2) J))) (by unfold Cm;rw [ac q1,ac q2,ac q3,ac q4,ac q5,aj q6];rfl) [] [] J J J)))))
      ·(try simp only [bl]at h20);have q6:¬(op=48):=by omega
       refine aq (ad J (ar J J bv (ad J (aH [] J J O (fun hg21=>aV J) J (aH [(55,_)] J J ⟨J,O⟩ (fun hg22=>aQ J J bv) J (aP (bH J J J) (ad J (aH [] J J O (fun hg23=>aV J) J (aH [(59,_)] J J ⟨J,O⟩ (fun hg24=>aQ J J bv) J (aP (bH J J J) (am J (aa (ap J (fun h25=> ?_) (fun h25=> ?_))))))))))))))
       ·(try simp only [bl]at h25);have q7:op=49∨op=50∨op=51:=by omega
        refine aq (aP (aX (parts:= [(0,.const (.bool Bool.true))]) ge mL J J) (av (k:=2) ge J J J J J J (aa (ay (aN () O J (ce (bw ge J J J (bp (k:=2) J))) (by unfold Cm;rw [ac q1,ac q2,ac q3,ac q4,ac q5,ac q6,aj q7];rfl) [] [] J J J)))))
       ·(try simp only [bl]at h25);have q7:¬(op=49∨op=50∨op=51):=by omega
        refine aq (ad J (ar J J bv (am J (aa (ap J (fun h26=> ?_) (fun h26=> ?_))))))
        ·(try simp only [bl]at h26);have q8:op=52:=by omega
         refine aq (aP (aX (parts:= [(0,.const (.bool Bool.true)),(2,.const (.bool Bool.true))]) ge mL J J) (av (k:=2) ge J J J J J J (aa (ay (aN () O J (ce (bw ge J J J (bp (k:=2) J))) (by unfold Cm;rw [ac q1,ac q2,ac q3,ac q4,ac q5,ac q6,ac q7,aj q8];rfl) [] [] J J J)))))
        ·(try simp only [bl]at h26);have q8:¬(op=52):=by omega
         refine aq (ad J (ar J J bv (am J (aa (ap J (fun h27=> ?_) (fun h27=> ?_))))))
         ·(try simp only [bl]at h27);have q9:op=53:=by omega
          refine aq (aP (aX (parts:= [(0,.const (.bool Bool.true)),(1,.const (.bool Bool.true)),(5,.const (I6 18)),(6,.const (I3 3))]) ge mL J J) (av (k:=2) ge J J J J J J (aa (ay (aN () O J (ce (bw ge J J J (bp (k:=2) J))) (by unfold Cm;rw [ac q1,ac q2,ac q3,ac q4,ac q5,ac q6,ac q7,ac q8,aj q9];rfl) [] [] J J J)))))
         ·(try simp only [bl]at h27);have q9:¬(op=53):=by omega
          refine aq (ad J (ar J J bv (am J (aa (ap J (fun h28=> ?_) (fun h28=> ?_))))))
          ·(try simp only [bl]at h28);have q10:op=54:=by omega
           refine aq (aP (aX (parts:= [(0,.const (.bool Bool.true)),(2,.const (.bool Bool.true)),(5,.const (I6 18)),(6,.const (I3 4))]) ge mL J J) (av (k:=2) ge J J J J J J (aa (ay (aN () O J (ce (bw ge J J J (bp (k:=2) J))) (by unfold Cm;rw [ac q1,ac q2,ac q3,ac q4,ac q5,ac q6,ac q7,ac q8,ac q9,aj q10];rfl) [] [] J J J)))))
          ·(try simp only [bl]at h28);have q10:¬(op=54):=by omega
           refine aC (aq (aP (aX (parts:= []) ge mL J J) (av (k:=2) ge J J J J J J (aa (ay (aN () O J (ce (bw ge J J J (bp (k:=2) J))) (by unfold Cm;rw [ac q1,ac q2,ac q3,ac q4,ac q5,ac q6,ac q7,ac q8,ac q9,ac q10];rfl) [] [] J J J))))))
theorem te(n:Int)(u:Bool):
  aW prog 212 [I6 n,.bool u] [] [] (.bool (gM n u)) []:=by
 refine aI func212 J ntmps212 J fun w0 M H=>aq (am J (az J (ad J (ar J J bv (ad J (aH [] J J O (fun hg1=>aV J) J (aH [(8,_)] J J ⟨J,O⟩ (fun hg2=>aV J) J (cA [] [(8,_),(9,_)] J J O ⟨J,J,O⟩ (fun hg3 hg3'=>aV J) J (cA [(10,_)] [(8,_),(9,_)] J J ⟨J,O⟩ ⟨J,J,O⟩ (fun hg4 hg4'=>aQ J J fA) J (aH [(8,_),(9,_)] J J ⟨J,J,O⟩ (fun hg5=>d7 J J J (by first|exact dL|exact eu|exact da hg5|exact dF hg5|rfl)) J (aH [(8,_),(9,_),(12,_)] J J ⟨J,J,J,O⟩ (fun hg6=>aV J) J (cA [] [(8,_),(9,_),(12,_),(13,_)] J J O ⟨J,J,J,J,O⟩ (fun hg7 hg7'=>aV J) J (cA [(14,_)] [(8,_),(9,_),(12,_),(13,_)] J J ⟨J,O⟩ ⟨J,J,J,J,O⟩ (fun hg8 hg8'=>aQ J J cy) J (aH [(8,_),(9,_),(12,_),(13,_)] J J ⟨J,J,J,J,O⟩ (fun hg9=>d7 J J J (by first|exact dL|exact eu|exact da hg9|exact dF hg9|rfl)) J (aP (bH J J J) ?_)))))))))))))))
 refine am J (aa (ay (aN () O J (ce (aL J)) J [] [] J J J)))
theorem MG{n:Int}{z:Int}(hn:0≤n∧n<4294967296)(hz:z=18∨z=22):zM z n=if n%2^z.toNat≥2^(z-1).toNat then IntKind.u32.wrap (n%2^z.toNat-2^z.toNat)else n%2^z.toNat:=by
 have e32:∀x:Int,IntKind.u32.wrap x=x%4294967296:=fun x=>IntKind.wrap_u32 x
 unfold zM wU;rcases hz with rfl|rfl
 ·rw [show((32:Int)-18).toNat=14 from J,show(18:Int).toNat=18 from J,show((18:Int)-1).toNat=17 from J,show(2:Int)^14=16384 from J,show(2:Int)^18=262144 from J,show(2:Int)^17=131072 from J];simp only [e32,IntKind.wrap_i32];split<;>omega
 ·rw [show((32:Int)-22).toNat=10 from J,show(22:Int).toNat=22 from J,show((22:Int)-1).toNat=21 from J,show(2:Int)^10=1024 from J,show(2:Int)^22=4194304 from J,show(2:Int)^21=2097152 from J];simp only [e32,IntKind.wrap_i32];split<;>omega
theorem Sb{z:Int}(hz:z=18∨z=22):IntKind.u32.wrap (1*2^z.toNat)=2^z.toNat∧IntKind.u32.wrap (1*2^(z-1).toNat)=2^(z-1).toNat∧¬(2:Int)^z.toNat=0:=by
 rcases hz with rfl|rfl<;>exact⟨J,J,by decide⟩
theorem tc(n z:Int)(hn:0≤n∧n<4294967296)(hz:z=18∨z=22):
  aW prog 198 [I3 n,I6 z] [] [] (I3 (zM z n)) []:=by
 refine aI func198 J ntmps198 J fun w0 M H=> ?_
 rw [MG hn hz];refine aq (am J (aa (aU (ad J (ar J J cy (aa (ap J (fun h1=> ?_) (fun h1=> ?_))))))))
 ·exact absurd h1 (by simp;omega)
 ·(try simp only [bl]at h1);refine aC (aU (ad J (ar J J iz (aa (ap J (fun h2=> ?_) (fun h2=> ?_))))))
  ·exact absurd h2 (by simp;omega)
  ·(try simp only [bl]at h2);refine aC (aq (ad J (ad J (ar J J (jQ (by omega) (by simp [IntKind.bits];omega) (Sb hz).1) (ar J J (k8 (Sb hz).2.2 (Int.tmod_eq_emod_of_nonneg hn.1)) (am J (aa (aU (ad J (ad J (ar J J (io (bM (by omega))) (ar J J (jQ (by omega) (by simp [IntKind.bits];omega) (Sb hz).2.1) (ar J J iz (aa (ap J (fun h3=> ?_) (fun h3=> ?_))))))))))))))))
   ·rw [aj (cB h3)];refine aq (ad J (ad J (ar J J (jQ (by omega) (by simp [IntKind.bits];omega) (Sb hz).1) (ar J J (io J) (am J (aa (ay (aN () O J (ce (aL J)) J [] [] J J J))))))))
   ·rw [ac (dl h3)];refine aC (aq (ad J (am J (aa (ay (aN () O J (ce (aL J)) J [] [] J J J))))))
theorem Au(n z:Int)(hn:0≤n∧n<4294967296)(hz:z=18∨z=22):
  aW prog 213 [I3 n,I6 z] [] [] (.bool (decide (zM z n=n))) []:=by
 refine aI func213 J ntmps213 J fun w0 M H=>aq (am J (az J (ad J (ad J (ai (xs:= [.tmp 5,.tmp 6]) (tc n z hn hz) LJ [] [] [] (fun _ _=>ad J (ar J J bv (am J (aa (ay (aN () O J (ce (aL J)) J [] [] J J J)))))))))))
theorem I2:∀s∈shL,(s.kd=0↔s.bt=0)∧(s.kd=0∨s.kd=1∨s.kd=2)∧0≤s.mo∧s.mo<262144:=by decide
theorem se(op:Int):((dt op).kd=0↔(dt op).bt=0)∧((dt op).kd=0∨(dt op).kd=1∨(dt op).kd=2)∧0≤(dt op).mo∧(dt op).mo<262144:=by
 unfold dt;split
 ·rename_i h;have hl:shL.length=64:=by decide
  rw [List.getD_eq_getElem?_getD,bQ (by omega)];exact I2 _ (List.getElem_mem _)
 ·decide
structure VQ(i:Qi):Prop where
 op:0≤i.op∧i.op<64
 d:0≤i.d∧i.d<16
 a:0≤i.a∧i.a<16
 b:0≤i.b∧i.b<16
 k:(dt i.op).k=true
 fd:gM i.d (dt i.op).d=true
 fa:gM i.a (dt i.op).a=true
 fb:gM i.b (dt i.op).b=true
 im:lT (dt i.op) i.imm=true
theorem VQ.of{i:Qi}(h:rM i=true):VQ i:=by
 obtain⟨b1,b2,b3,b4⟩:=wr h;unfold rM at h;simp only [Bool.and_eq_true]at h;obtain⟨⟨⟨⟨h1,h2⟩,h3⟩,h4⟩,h5⟩:=h;exact⟨b1,b2,b3,b4,h1,h2,h3,h4,h5⟩
theorem rm{a b:Int}(ha:0≤a∧a<4294967296)(hb:0<b):IntKind.u32.wrap (a.tdiv b)=a/b:=by
 rw [Int.tdiv_eq_ediv_of_nonneg ha.1];exact mc (Int.ediv_nonneg ha.1 (by omega)) (Int.lt_of_le_of_lt (Int.ediv_le_self _ ha.1) ha.2)
theorem LD{s:Sh}{n:Int}(h:lT s n=true)(hk:s.kd=0):n=0:=by
 unfold lT at h;rw [aj hk]at h;exact cB h
theorem LC{s:Sh}{n:Int}(h:lT s n=true)(hk:s.kd=1):zM s.bt n=n:=by
 unfold lT at h;rw [ac (by omega),aj hk]at h;exact cB h
theorem LB{s:Sh}{n:Int}(h:lT s n=true)(hk:s.kd=2)(hm:s.mo>0):n≤s.mo:=by
 unfold lT at h;rw [ac (by omega),ac (by omega),aj hm]at h;exact cB h
theorem LA{s:Sh}{n:Int}(h:lT s n=true)(hk:s.kd=2)(hm:¬s.mo>0):n/2^s.bt.toNat=0:=by
 unfold lT at h;rw [ac (by omega),ac (by omega),ac hm]at h;exact cB h
theorem MU{z:Int}(hz:z=18∨z=22):IntKind.u32.wrap (1*2^z.toNat)=2^z.toNat∧0<(2:Int)^z.toNat∧(2:Int)^z.toNat≤4194304:=by
 rcases hz with rfl|rfl<;>exact⟨J,by decide,by decide⟩
theorem vG{n m:Int}(hn:0≤n)(hm:0<m)(h:n/m=0):n<m:=by
 have:=Int.emod_lt_of_pos n hm;have h2:=Int.ediv_mul_add_emod n m;rw [h]at h2;omega
theorem yt(i:Qi)(hi:0≤i.imm∧i.imm<4294967296)(hv:VQ i):
  aW prog 209 [.agg (jw i).toArray] [] [] (.bool true) []:=by
 refine aI func209 J ntmps209 J fun w0 M H=> ?_
 have hof:=AE hv.op;have k1:=km i.op;have k2:=se i.op;refine aq (cM J J fun b1=>am J (az J (aD ct J (aR 1 t3 J J J J (ai (xs:= [.tmp 8]) (wT i.op) HR [] [] [] (fun _ _=> ?_))))));rw [hof];refine aZ ge J J fun b3=>av (k:=3) ge J J J J J J (aa (aU (aD Kn J (aR 3 t4 J J J J (aP (cZ J) (aa (ap J (fun h1=> ?_) (fun h1=> ?_))))))))
 ·exact absurd h1 (by show ¬(!(dt i.op).k)=true;rw [hv.k];decide)
 ·refine aC (aq (aD iq J (aR 1 t3 J J J J (aD CT J (aR 3 t4 J J J J (ai (xs:= [.tmp 14,.tmp 16]) (te i.d (A9 i.op).d) HQ [] [] [] (fun _ _=>am J (az J (aD nC J (aR 1 t3 J J J J (aD CS J (aR 3 t4 J J J J (ai (xs:= [.tmp 19,.tmp 21]) (te i.a (A9 i.op).a) HQ [] [] [] (fun _ _=>am J (aa (be ?_))))))))))))))));refine ak (aD nA J (aR 1 t3 J J J J (aD CQ J (aR 3 t4 J J J J (ai (xs:= [.tmp 24,.tmp 26]) (te i.b (A9 i.op).b) HQ [] [] [] (fun _ _=>am J (aa (aU (ad J (aP (cZ J) (ad J (aH [] J J O (fun hg2=>aV J) J (aH [(31,_)] J J ⟨J,O⟩ (fun hg3=>cZ J) J (aP (bH J J J) (ad J (aH [] J J O (fun hg4=>aV J) J (aH [(35,_)] J J ⟨J,O⟩ (fun hg5=>cZ J) J ?_)))))))))))))))));refine aP (bH J J J) (aa (ap J (fun h6=> ?_) (fun h6=> ?_)))
  ·exact absurd h6 (by show ¬((!gM i.d (dt i.op).d) || (!gM i.a (dt i.op).a) || (!gM i.b (dt i.op).b))=true;rw [hv.fd,hv.fa,hv.fb];decide)
  ·refine aC (aU (aD nw J (aR 3 t3 J J J J (ar J J bv (aa (ap J (fun h7=> ?_) (fun h7=> ?_)))))))
   ·(try simp only [bl]at h7);have q3:(dt i.op).bt=0:=h7;refine aq (aD ef J (aR 1 eA J J J J (ar J J bv (am J (aa (ay (aN () O J (ce (aL J)) (congrArg Value.bool (by rw [LD hv.im (k2.1.2 q3)];rfl)) [] [] J J J)))))))
   ·(try simp only [bl]at h7);have q3:¬(dt i.op).bt=0:=h7;have hb:(dt i.op).bt=18∨(dt i.op).bt=22:=by have:=k1.2.2.2.1;omega
    refine aC (aU (aD CO J (aR 3 t4 J J J J (aa (ap J (fun h8=> ?_) (fun h8=> ?_))))))
    ·have q4:(dt i.op).kd=1:=cB h8;refine aq (aD ef J (aR 1 eA J J J J (aD nw J (aR 3 t3 J J J J (ai (xs:= [.tmp 47,.tmp 49]) (Au i.imm (dt i.op).bt hi (by have:=k1.2.2.2.1;omega)) QW [] [] [] (fun _ _=>am J (aa (ay (aN () O J (ce (aL J)) (congrArg Value.bool (decide_eq_true (LC hv.im q4))) [] [] J J J)))))))))
    ·have q4:¬(dt i.op).kd=1:=dl h8;have q5:(dt i.op).kd=2:=by have:=k2.2.1;have:=k2.1;omega
     refine aC (aU (aD CN J (aR 3 eA J J J J (ar J J fA (aa (ap J (fun h9=> ?_) (fun h9=> ?_)))))))
     ·(try simp only [bl]at h9);have q6:(dt i.op).mo>0:=h9;refine aq (aD ef J (aR 1 eA J J J J (aD CN J (aR 3 eA J J J J (ar J J mt (am J (aa (ay (aN () O J (ce (aL J)) (congrArg Value.bool (decide_eq_true (LB hv.im q5 q6))) [] [] J J J)))))))))
     ·(try simp only [bl]at h9);have q6:¬(A9 i.op).mo>0:=by omega
      refine aC (aq (aD ef J (aR 1 eA J J J J (aD nw J (aR 3 t3 J J J J (aP (cw underlying3 underlying138 J (c:=(dt i.op).bt) (by rcases hb with hb|hb<;>rw [show(A9 i.op).bt=(dt i.op).bt from J,hb]<;>rfl)) (ar J J (jQ (by omega) (by simp [IntKind.bits];omega) (MU hb).1) (ar J J cy (am J (aa (ay (aN () O J (ce (aL J)) (congrArg Value.bool (decide_eq_true (vG hi.1 (MU hb).2.1 (LA hv.im q5 q6)))) [] [] J J J))))))))))))
theorem N5{i:Qi}(hv:VQ i)(hb:(dt i.op).bt=18∨(dt i.op).bt=22):IntKind.u32.wrap (i.op*67108864+i.d*4194304+i.a*262144+i.b*16384+i.imm%2^(dt i.op).bt.toNat)=oi i:=by
 have b1:=hv.op;have b2:=hv.d;have b3:=hv.a;have b4:=hv.b;have k:=km i.op;unfold oi;rcases hb with h|h
 ·have hb0:i.b=0:=fX (by rw [←k.2.2.2.2.1 h];exact hv.fb);rw [h,show((2:Int)^(18:Int).toNat)=262144 from J];exact cc (by omega)
 ·have hb0:i.b=0:=fX (by rw [←(k.2.2.2.2.2 h).2];exact hv.fb);have ha0:i.a=0:=fX (by rw [←(k.2.2.2.2.2 h).1];exact hv.fa);rw [h,show((2:Int)^(22:Int).toNat)=4194304 from J];exact cc (by omega)
theorem wD(i:Qi)(hi:0≤i.imm∧i.imm<4294967296)(hv:VQ i):
  aW prog 199 [.agg (jw i).toArray] [] [] (.tuple #[I3 (oi i),I6 0]) []:=by
 refine aI func199 J ntmps199 J fun w0 M H=> ?_
 have hof:=AE hv.op;have k1:=km i.op;have k2:=se i.op;obtain⟨o1,o2⟩:=hv.op;obtain⟨d1,d2⟩:=hv.d;obtain⟨a1,a2⟩:=hv.a;obtain⟨e1,e2⟩:=hv.b;have hfb:=hv.fb;have hfa:=hv.fa;refine aq (cM J J fun b1=>am J (am J (az J (aP (aM fF J J J (bp (k:=1) J)) (ai (xs:= [.tmp 7]) (yt i hi hv) QY [] [] [] (fun _ _=>am J (aa (aU (ad J (aP (cZ J) (aa (ap J (fun h1=> ?_) (fun h1=> ?_)))))))))))))
 ·cases h1
 ·(try simp only [bl]at h1);refine aC (aq (aD ct J (aR 1 t3 J J J J (aP (cw underlying3 underlying41 J (by first|exact cc (by omega)|rfl)) (ar J J qt (aD iq J (aR 1 t3 J J J J (aP (cw underlying3 underlying41 J (by first|exact cc (by omega)|rfl)) (ar J J qt (ar J J ur (aD nC J (aR 1 t3 J J J J (aP (cw underlying3 underlying41 J (by first|exact cc (by omega)|rfl)) (ar J J qt (ar J J ur (aD nA J (aR 1 t3 J J J J (aP (cw underlying3 underlying41 J (by first|exact cc (by omega)|rfl)) ?_))))))))))))))))));refine ar J J qt (ar J J ur (am J (az J (aD ct J (aR 1 t3 J J J J (ai (xs:= [.tmp 31]) (wT i.op) HR [] [] [] (fun _ _=> ?_)))))));rw [hof];refine aP (yM Kd t3 J J) (am J (aa (aU (ad J (ar J J bv (aa (ap J (fun h2=> ?_) (fun h2=> ?_))))))))
  ·(try simp only [bl]at h2);have q3:(dt i.op).bt=0:=h2;refine aq (ad J (am J (am J (aa (ay (aN () O J (Jd (aL J) (aL J)) (congrArg (fun z=>Value.tuple #[Value.int .u32 z,Value.int .i64 0]) (by unfold oi;rw [q3,show((2:Int)^(0:Int).toNat)=1 from J];omega)) [] [] J J J))))))
  ·(try simp only [bl]at h2);have q3:¬(dt i.op).bt=0:=h2;have hb:(dt i.op).bt=18∨(dt i.op).bt=22:=by have:=k1.2.2.2.1;omega
   have hp:=MU hb;have hrm:=Int.emod_lt_of_pos i.imm hp.2.1;have hrn:=Int.emod_nonneg i.imm (show(2:Int)^(dt i.op).bt.toNat≠0 by omega);refine aC (aq (ad J (aD ef J (aR 1 eA J J J J (ad J (aP (cw underlying3 underlying138 J (c:=(dt i.op).bt) (by rcases hb with hb|hb<;>rw [show(A9 i.op).bt=(dt i.op).bt from J,hb]<;>rfl)) (ar J J (jQ (by omega) (by simp [IntKind.bits];omega) hp.1) (ar J J (k8 (by omega) (Int.tmod_eq_emod_of_nonneg hi.1)) (ar J J (co (c:=oi i) (N5 hv hb)) (am J (am J (aa (ay (aN () O J (Jd (aL J) (aL J)) J [] [] J J J))))))))))))))
theorem QG{i:Qi}(hv:VQ i):oi i/67108864=i.op∧oi i/4194304%16=i.d∧((dt i.op).a=true→oi i/262144%16=i.a)∧((dt i.op).b=true→oi i/16384%16=i.b)∧((dt i.op).bt=18∨(dt i.op).bt=22→oi i%2^(dt i.op).bt.toNat=i.imm%2^(dt i.op).bt.toNat):=by
 have b1:=hv.op;have b2:=hv.d;have b3:=hv.a;have b4:=hv.b;have k:=km i.op;unfold oi;rcases k.2.2.2.1 with h|h|h
 ·rw [h,show((2:Int)^(0:Int).toNat)=1 from J];refine⟨by omega,by omega,fun _=>by omega,fun _=>by omega,fun h=>by omega⟩
 ·have hb0:i.b=0:=fX (by rw [←k.2.2.2.2.1 h];exact hv.fb);rw [h,show((2:Int)^(18:Int).toNat)=262144 from J];refine⟨by omega,by omega,fun _=>by omega,fun hb=> ?_,fun h=>by omega⟩;rw [k.2.2.2.2.1 h]at hb;cases hb
 ·have hb0:i.b=0:=fX (by rw [←(k.2.2.2.2.2 h).2];exact hv.fb);have ha0:i.a=0:=fX (by rw [←(k.2.2.2.2.2 h).1];exact hv.fa);rw [h,show((2:Int)^(22:Int).toNat)=4194304 from J];refine⟨by omega,by omega,fun ha=> ?_,fun hb=> ?_,fun h=>by omega⟩
  ·rw [(k.2.2.2.2.2 h).1]at ha;cases ha
  ·rw [(k.2.2.2.2.2 h).2]at hb;cases hb
theorem I4{n z:Int}(hn:0≤n∧n<4294967296)(hz:z=18∨z=22):zM z (n%2^z.toNat)=zM z n:=by
 have hp:=MU hz;have h1:=Int.emod_nonneg n (show(2:Int)^z.toNat≠0 by omega);have h2:=Int.emod_lt_of_pos n hp.2.1;rw [MG hn hz,MG ⟨h1,by omega⟩ hz,Int.emod_emod_of_dvd _ (Int.dvd_refl _)]
theorem NB{i:Qi}(hi:0≤i.imm∧i.imm<4294967296)(hv:VQ i)(hk:(dt i.op).kd=2)(hb:(dt i.op).bt=18∨(dt i.op).bt=22):i.imm<2^(dt i.op).bt.toNat:=by
 have hp:=MU hb;by_cases hm:(dt i.op).mo>0
 ·have h1:=LB hv.im hk hm;have h2:=se i.op;have h3:(262144:Int)≤2^(dt i.op).bt.toNat:=by rcases hb with h|h<;>rw [h]<;>decide
  omega
 ·exact vG hi.1 hp.2.1 (LA hv.im hk hm)
theorem wE(i:Qi)(hi:0≤i.imm∧i.imm<4294967296)(hv:VQ i):
  aW prog 180 [I3 (oi i)] [] [] (.tuple #[.agg (jw i).toArray,I6 0]) []:=by
 refine aI func180 J ntmps180 J fun w0 M H=> ?_
 have hof:=AE hv.op;have k1:=km i.op;have k2:=se i.op;have hwb:=Bi (i:=i) (by unfold rM;simp only [Bool.and_eq_true];exact⟨⟨⟨⟨hv.k,hv.fd⟩,hv.fa⟩,hv.fb⟩,hv.im⟩);obtain⟨f0,f1,f2,f3,f4⟩:=QG hv;refine aq (aZ fF J J fun b2=>am J (az J (ad J (ar J J (ml (by decide) (rm hwb (by decide))) (aP (cw underlying41 underlying3 J (c:=i.op) (by rw [f0];exact q_ (by have:=hv.op;omega) (by have:=hv.op;omega))) (aP (aX (parts:= [(0,.tmp 10)]) fF nZ J J) (aZ fF J J fun b4=>av (k:=4) fF J J J J J J (az J (aD ct J (aR 4 t3 J J J J (ai (xs:= [.tmp 13]) (wT i.op) HR [] [] [] (fun _ _=> ?_))))))))))));rw [hof];refine aZ ge J J fun b5=>av (k:=5) ge J J J J J J (aa (bC (X:=Unit) (fun _=>True) (fun _=> [(0,I3 (oi i)),(2,Pt b2),(3,I6 0),(4,Pt b4),(5,Pt b5)]) (fun _=> [(2,bj b2 118 (jw ⟨0,0,0,0,0⟩)),(4,bj b4 118 (jw ⟨i.op,i.d,0,0,0⟩)),(5,bj b5 275 (OT (A9 i.op)))]) (fun _=> []) ?_ (fun _ _=> ?_)))
 ·refine aq (aD CT J (aR 5 t4 J J J J (aa (ap J (fun h1=> ?_) (fun h1=> ?_)))))
  ·have q1:(dt i.op).d=true:=h1;refine ak (ad J (ar J J (ml (by decide) (rm hwb (by decide))) (ar J J (k8 (by decide) (Int.tmod_eq_emod_of_nonneg (Int.ediv_nonneg hwb.1 (by decide)))) (aP (cw underlying41 underlying3 J (c:=i.d) (by rw [f1];exact q_ (by have:=hv.d;omega) (by have:=hv.d;omega))) (aD iq J (aB (k:=4) t3 J J J J J J J J (aa (aG () O J (by rfl) J))))))))
  ·have q1:(dt i.op).d=false:=by
    have:=h1;exact this
   have hd0:(0:Int)=i.d:=(fX (by rw [←q1];exact hv.fd)).symm;refine aC (aG () O J (by rw [hd0];rfl) J)
 ·refine bC (X:=Unit) (fun _=>True) (fun _=> [(0,I3 (oi i)),(2,Pt b2),(3,I6 0),(4,Pt b4),(5,Pt b5)]) (fun _=> [(2,bj b2 118 (jw ⟨0,0,0,0,0⟩)),(4,bj b4 118 (jw ⟨i.op,i.d,i.a,0,0⟩)),(5,bj b5 275 (OT (A9 i.op)))]) (fun _=> []) ?_ (fun _ _=> ?_)
  ·refine aq (aD CS J (aR 5 t4 J J J J (aa (ap J (fun h2=> ?_) (fun h2=> ?_)))))
   ·have q2:(dt i.op).a=true:=h2;refine ak (ad J (ar J J (ml (by decide) (rm hwb (by decide))) (ar J J (k8 (by decide) (Int.tmod_eq_emod_of_nonneg (Int.ediv_nonneg hwb.1 (by decide)))) (aP (cw underlying41 underlying3 J (c:=i.a) (by rw [f2 q2];exact q_ (by have:=hv.a;omega) (by have:=hv.a;omega))) (aD nC J (aB (k:=4) t3 J J J J J J J J (aa (aG () O J (by rfl) J))))))))
   ·have q2:(dt i.op).a=false:=by
     have:=h2;exact this
    have ha0:(0:Int)=i.a:=(fX (by rw [←q2];exact hv.fa)).symm;refine aC (aG () O J (by rw [ha0];rfl) J)
  ·refine bC (X:=Unit) (fun _=>True) (fun _=> [(0,I3 (oi i)),(2,Pt b2),(3,I6 0),(4,Pt b4),(5,Pt b5)]) (fun _=> [(2,bj b2 118 (jw ⟨0,0,0,0,0⟩)),(4,bj b4 118 (jw ⟨i.op,i.d,i.a,i.b,0⟩)),(5,bj b5 275 (OT (A9 i.op)))]) (fun _=> []) ?_ (fun _ _=> ?_)
   ·refine aq (aD CQ J (aR 5 t4 J J J J (aa (ap J (fun h3=> ?_) (fun h3=> ?_)))))
    ·have q3:(dt i.op).b=true:=h3;refine ak (ad J (ar J J (ml (by decide) (rm hwb (by decide))) (ar J J (k8 (by decide) (Int.tmod_eq_emod_of_nonneg (Int.ediv_nonneg hwb.1 (by decide)))) (aP (cw underlying41 underlying3 J (c:=i.b) (by rw [f3 q3];exact q_ (by have:=hv.b;omega) (by have:=hv.b;omega))) (aD nA J (aB (k:=4) t3 J J J J J J J J (aa (aG () O J (by rfl) J))))))))
    ·have q3:(dt i.op).b=false:=by
      have:=h3;exact this
     have hb0:(0:Int)=i.b:=(fX (by rw [←q3];exact hv.fb)).symm;refine aC (aG () O J (by rw [hb0];rfl) J)
   ·refine bC (X:=Unit) (fun _=>True) (fun _=> [(0,I3 (oi i)),(2,Pt b2),(3,I6 0),(4,Pt b4),(5,Pt b5)]) (fun _=> [(2,bj b2 118 (jw ⟨0,0,0,0,0⟩)),(4,bj b4 118 (jw ⟨i.op,i.d,i.a,i.b,i.imm%2^(dt i.op).bt.toNat⟩)),(5,bj b5 275 (OT (A9 i.op)))]) (fun _=> []) ?_ (fun _ _=> ?_)
    ·refine aq (aD nw J (aR 5 t3 J J J J (ar J J fA (aa (ap J (fun h4=> ?_) (fun h4=> ?_))))))
     ·(try simp only [bl]at h4);have q4:(dt i.op).bt>0:=h4;have hb:(dt i.op).bt=18∨(dt i.op).bt=22:=by have:=k1.2.2.2.1;omega
      have hp:=MU hb;refine ak (ad J (aD nw J (aR 5 t3 J J J J (aP (cw underlying3 underlying138 J (c:=(dt i.op).bt) (by rcases hb with hb|hb<;>rw [show(A9 i.op).bt=(dt i.op).bt from J,hb]<;>rfl)) (ar J J (jQ (by omega) (by simp [IntKind.bits];omega) hp.1) (ar J J (k8 (by omega) ((Int.tmod_eq_emod_of_nonneg hwb.1).trans (f4 hb))) (aD ef J (aB (k:=4) eA J J J J J J J J (aa (aG () O J (by rfl) J))))))))))
     ·(try simp only [bl]at h4);have h4:¬(A9 i.op).bt>0:=by omega
      have h4:¬(dt i.op).bt>0:=h4;have q4:(dt i.op).bt=0:=by have:=k1.2.1;omega
      have hm0:(0:Int)=i.imm%2^(dt i.op).bt.toNat:=by
       rw [q4,show((2:Int)^(0:Int).toNat)=1 from J];omega
      refine aC (aG () O J (by rw [hm0];rfl) J)
    ·refine bC (X:=Unit) (fun _=>True) (fun _=> [(0,I3 (oi i)),(2,Pt b2),(3,I6 0),(4,Pt b4),(5,Pt b5)]) (fun _=> [(2,bj b2 118 (jw ⟨0,0,0,0,0⟩)),(4,bj b4 118 (jw i)),(5,bj b5 275 (OT (A9 i.op)))]) (fun _=> []) ?_ (fun _ _=> ?_)
     ·refine aq (aD CO J (aR 5 t4 J J J J (aa (ap J (fun h5=> ?_) (fun h5=> ?_)))))
      ·have q5:(dt i.op).kd=1:=cB h5;have hb:=k1.1 q5;have hp:=MU hb;have h1:=Int.emod_nonneg i.imm (show(2:Int)^(dt i.op).bt.toNat≠0 by omega);have h2:=Int.emod_lt_of_pos i.imm hp.2.1;refine ak (aD ef J (aR 4 eA J J J J (aD nw J (aR 5 t3 J J J J ?_))));refine dI (xs:= [.tmp 49,.tmp 51]) (tc (i.imm%2^(dt i.op).bt.toNat) (dt i.op).bt ⟨h1,by omega⟩ hb) LJ [] [] [] J J J J J J J J (fun _ _=>J) (fun _ _ _=>J) J (fun _ _=> ?_);rw [I4 hi hb,LC hv.im q5];refine aD ef J (aB (k:=4) eA J J J J J J J J (aa (aG () O J (by rfl) J)))
      ·have q5:¬(dt i.op).kd=1:=dl h5;have hm1:(⟨i.op,i.d,i.a,i.b,i.imm%2^(dt i.op).bt.toNat⟩:Qi)=i:=by
        have:i.imm%2^(dt i.op).bt.toNat=i.imm:=by
         by_cases h0:(dt i.op).kd=0
         ·rw [LD hv.im h0];simp
         ·have h2:(dt i.op).kd=2:=by have:=k2.2.1;omega
          exact Int.emod_eq_of_lt hi.1 (NB hi hv h2 (by have:=k1.2.2.2.1;have:=k2.1;omega))
        rw [this]
       refine aC (aG () O J (by rw [hm1];rfl) J)
     ·refine aq (aP (aM fF J J J (bp (k:=4) J)) (ai (xs:= [.tmp 55]) (wD i hi hv) Q6 [] [] [] (fun _ _=>ad J (aP (cC J J) (aP (cC J J) (am J (am J (aa (aU (ad J (ar J J iT (ad J (aH [] J J O (fun hg6=>aV J) J (aH [(62,_)] J J ⟨J,O⟩ (fun hg7=>aV J) J (aH [(62,_),(63,_)] J J ⟨J,J,O⟩ (fun hg8=>aQ J J iT) J (aP (bH J J J) ?_))))))))))))))));refine aa (ap J (fun h9=> ?_) (fun h9=> ?_))
      ·exfalso;simp at h9
      ·(try simp only [bl]at h9);refine aC (aq (aP (aM fF J J J (bp (k:=4) J)) (av (k:=2) fF J J J J J J (am J (aa (ay (aN () O J (Jd (bw fF J J J (bp (k:=2) J)) (aL J)) J [] [] J J J)))))))
structure Me where
 m:Nat
 vd:SV
 vi:SV
 vo:SV
 vp:SV
 vr:SV
structure Mm where
 d:List Int
 i:List Int
 r:List Int
def mR(e:Me):List Value:= [sv e.vd,sv e.vi,sv e.vo,sv e.vp,sv e.vr,.bool false]
structure MO(s:Mm)(n:Nat):Prop where
 d:s.d.length=n*256
 i:s.i.length=n*256
 r:s.r.length=n
 n:n≤5000
 rb:∀x∈s.r,0≤x∧x<8
def zN(s:Mm)(a r:Int):Bool:=decide (a<s.d.length)&&decide (s.r.getD (a/256).toNat 0/r%2=1)
def pk:List Int→Nat→List Int→List Int
 | d,_,[]=>d
 | d,a,x::l=>pk (d.set a x) (a+1) l
theorem fQ:∀(l:List Int)(d:List Int)(a:Nat),(pk d a l).length=d.length
 | [],d,a=>rfl
 | x::l,d,a=>by unfold pk;rw [fQ l,List.length_set]
theorem nk:∀(l:List Int)(d:List Int)(a:Nat)(x:Int),pk d a (l++ [x])=(pk d a l).set (a+l.length) x
 | [],d,a,x=>rfl
 | y::l,d,a,x=>by
  show pk (d.set a y) (a+1) (l++ [x])=(pk (d.set a y) (a+1) l).set (a+(l.length+1)) x;rw [nk l,show a+1+l.length=a+(l.length+1) by omega]
theorem qM:∀(l:List Int)(d:List Int)(a k:Nat),(pk d a l)[k]?=if a≤k∧k<a+l.length∧k<d.length then l[k-a]? else d[k]?
 | [],d,a,k=>by
  rw [ac (by simp only [aS];omega)];rfl
 | x::l,d,a,k=>by
  show(pk (d.set a x) (a+1) l)[k]?=_;rw [qM l,List.length_set,aY];by_cases h:a+1≤k∧k<a+1+l.length∧k<d.length
  ·rw [aj h,aj (by omega),show k-a=(k-(a+1))+1 by omega];rfl
  ·rw [ac h,List.getElem?_set];by_cases h2:a=k
   ·subst h2;rw [aj J];by_cases h3:a<d.length
    ·rw [aj h3,aj (by omega),Nat.sub_self];rfl
    ·rw [ac h3,ac (by omega),List.getElem?_eq_none (by omega)]
   ·rw [ac h2,ac (by omega)]
def GD(d:List Int)(a:Nat):Nat→Int
 | 0=>0
 | m+1=>GD d a m*256+d.getD (a+(3-m)) 0
def Cw(d:List Int)(a:Nat):Int:=GD d a 4
def byL(d:List Int):Prop:=∀x∈d,0≤x∧x<256
theorem byL.get{d:List Int}(h:byL d)(k:Nat):0≤d.getD k 0∧d.getD k 0<256:=by
 rw [List.getD_eq_getElem?_getD];cases hk:d[k]? with
 | none=>decide
 | some x=>exact h x (bV hk)
theorem AR{d:List Int}(h:byL d)(a:Nat):∀m,0≤GD d a m∧GD d a m<256^m
 | 0=>⟨Int.le_refl _,by show(0:Int)<1;decide⟩
 | m+1=>by
  have h1:=AR h a m;have h2:=h.get (a+(3-m));show 0≤GD d a m*256+_∧GD d a m*256+_<256^(m+1);rw [Int.pow_succ];omega
theorem Nw{d:List Int}(h:byL d)(a:Nat){m:Nat}(hm:m≤3):0≤GD d a m∧GD d a m<16777216:=by
 have h1:=AR h a m;have h2:(256:Int)^m≤16777216:=by
  have:m=0∨m=1∨m=2∨m=3:=by omega
  rcases this with rfl|rfl|rfl|rfl<;>decide
 omega
theorem G3{l:List Int}{k:Nat}{x:Int}(h:l[k]?=some x):l.getD k 0=x:=by rw [List.getD_eq_getElem?_getD,h];rfl
theorem pT(e:Me)(s:Mm)(n:Nat)(hs:MO s n)(a:Int)(ha:0≤a∧a<4294967296):
  aW prog 75 [Pt e.m,I3 a] [bj e.m 157 (mR e),own 5 1 cn (sv e.vd) (s).d,own 5 1 cn (sv e.vi) (s).i,own 3 1 eI (sv e.vr) (s).r] [] (.bool (decide (a<s.d.length))) [bj e.m 157 (mR e),own 5 1 cn (sv e.vd) (s).d,own 5 1 cn (sv e.vi) (s).i,own 3 1 eI (sv e.vr) (s).r]:=by
 refine aI func75 J ntmps75 J fun w0 M H=>aq (am J (az J (ad J (aP (cw underlying41 underlying3 J (by first|exact bM (by omega)|rfl)) (ad J (bS J (aD nz J (aR 0 Ab J J J J (aP (aT underlying84 J (bh (k:=1) J)) (ar J J cy (am J (aa (ay (aN () O J (ce (aL J)) J [0,1,2,3] [] J J J))))))))))))))
theorem rA(e:Me)(s:Mm)(n:Nat)(hs:MO s n)(a:Int)(ha:0≤a∧a<4294967296)(r:Int)(hr:r=1∨r=2∨r=4):
  aW prog 196 [Pt e.m,I3 a,I6 r] [bj e.m 157 (mR e),own 5 1 cn (sv e.vd) (s).d,own 5 1 cn (sv e.vi) (s).i,own 3 1 eI (sv e.vr) (s).r] [] (.bool (zN s a r)) [bj e.m 157 (mR e),own 5 1 cn (sv e.vd) (s).d,own 5 1 cn (sv e.vi) (s).i,own 3 1 eI (sv e.vr) (s).r]:=by
 refine aI func196 J ntmps196 J fun w0 M H=>aq (am J (az J (ad J (ad J (ai (xs:= [.tmp 8,.tmp 9]) (pT e s n hs a ha) HO [0,1,2,3] [] [0,1,2,3] (fun _ _=>am J (az J (ad J (ad J (fB (t:=12) J (fun h1=> ?_) (fun h1=> ?_)))))))))))
 ·(try simp only [bl]at h1);have hq:a<s.d.length:=by simpa using h1
  have hd:=hs.d;have hrl:=hs.r;obtain⟨x,hx⟩:∃x,s.r[(a/256).toNat]?=some x:=⟨_,bQ (by omega)⟩
  have hxb:=hs.rb x (bV hx);have hrt:zN s a r=decide (x/r%2=1):=by
   unfold zN;rw [decide_eq_true hq,Bool.true_and,G3 hx]
  rw [hrt];refine bK J J (ad J (bK J J (bS J (bK J J (aD sF J (bK J J (aR 0 Fa J J J J (bK J J (ad J (bK J J (ar J J (ml (by decide) (rm ha (by decide))) (bK J J (aP (aO (j:=(a/256).toNat) underlying22 t3 J J (bh (k:=3) J) (by omega) (by omega)) (bK J J (aP (ag t3 J J (bF (bh (k:=3) J) (by intro _;rfl) hx (by rfl))) (bK J J (ad J (bK J J ?_))))))))))))))))));refine uE (aQ J J (ml (by omega) (show IntKind.i64.wrap (x.tdiv r)=x/r from(by rw [Int.tdiv_eq_ediv_of_nonneg hxb.1];exact q_ (by have:=Int.ediv_nonneg hxb.1 (show 0≤r by omega);omega) (by have:=Int.ediv_le_self r hxb.1;omega))))) J ?_;refine bK J J (ar J J (k8 (by decide) (Int.tmod_eq_emod_of_nonneg (Int.ediv_nonneg hxb.1 (by omega)))) (bK J J (ar J J bv (aP (bH J J J) (am J (aa (ay (aN () O J (ce (aL J)) J [0,1,2,3] [] J J J))))))))
 ·(try simp only [bl]at h1);have hrt:zN s a r=false:=by
   unfold zN;rw [decide_eq_false (by omega),Bool.false_and]
  rw [hrt];refine dj J J J J (dj J J J J (dj J J J J (dj J J J J (dj J J J J (dj J J J J (dj J J J J (dj J J J J (dj J J J J (dj J J J J (dj J J J J (dj J J J J (aP (bH J J J) (am J (aa (ay (aN () O J (ce (aL J)) J [0,1,2,3] [] J J J))))))))))))))))
theorem zq(e:Me)(s:Mm)(n:Nat)(hs:MO s n)(a:Int)(ha:0≤a∧a<4294967296)(c r:Int)(hc:1≤c∧c≤4)(hr:r=1∨r=2∨r=4)(hok:∀k:Int,0≤k→k<c→zN s (IntKind.u32.wrap (a+k)) r=true):
  aW prog 183 [Pt e.m,I3 a,I6 c,I6 r] [bj e.m 157 (mR e),own 5 1 cn (sv e.vd) (s).d,own 5 1 cn (sv e.vi) (s).i,own 3 1 eI (sv e.vr) (s).r] [] (.agg #[I3 0,I3 0,.bool true]) [bj e.m 157 (mR e),own 5 1 cn (sv e.vd) (s).d,own 5 1 cn (sv e.vi) (s).i,own 3 1 eI (sv e.vr) (s).r]:=by
 refine aI func183 J ntmps183 J fun w0 M H=>aq (aZ jo J J fun b8=>aa (aU (ad J (ar J J cy (ad J (aH [] J J O (fun hg1=>aV J) J (aH [(14,_)] J J ⟨J,O⟩ (fun hg2=>aQ J J fA) J (aP (bH J J J) (aa (ap J (fun h3=> ?_) (fun h3=> ?_)))))))))))
 ·exact absurd h3 (by simp;omega)
 ·refine aC (aU (am J (aa (aA (bJ (X:=Nat) (fun i=>(i:Int)≤c) (fun i=> [(0,Pt e.m),(1,I3 a),(2,I6 c),(3,I6 r),(8,Pt b8),(9,I6 (i:Int))]) (fun i=> [(0,bj e.m 157 (mR e)),(1,own 5 1 cn (sv e.vd) s.d),(2,own 5 1 cn (sv e.vi) s.i),(3,own 3 1 eI (sv e.vr) s.r),(8,bj b8 241 [I3 0,I3 0,.bool false])]) (fun i=> []) (fun i=>c.toNat-i) 0 (by omega) J J J (fun i n1=>aU (ad J (ad J (ar J J cy (aa (ap J (fun h4=> ?_) (fun h4=> ?_))))))))))))
  ·(try simp only [bl]at h4);have hi:(i:Int)<c:=by omega
   refine aC (be (aA (aq (ad J (ad J (ad J (aP (cw underlying3 underlying41 J (c:=(i:Int)) (cc (by omega))) (ar J J (co J) (ad J (c_ (xs:= [.tmp 24,.tmp 28,.tmp 29]) (rA e s n hs (IntKind.u32.wrap (a+i)) (mB _) r hr) LK [0,1,2,3] [] [0,1,2,3] J J J (fun _ _=> ?_)))))))))));rw [hok i (by omega) (by omega)];refine am J (az J (ad J (aP (cZ J) (aa (ap J (fun h5=> ?_) (fun h5=> ?_))))))
   ·cases h5
   ·(try simp only [bl]at h5);refine aC (ak (ad J (ar J J aK (am J (aa ?_)))));refine aG (i+1) ⟨by omega,by omega⟩ J J J
  ·(try simp only [bl]at h4);have hi:(i:Int)=c:=by omega
   refine bL (aq (aP (aX (parts:= [(2,.const (.bool Bool.true))]) jo K8 J J) (av (k:=8) jo J J J J J J (aa (ay (aN () O J (ce (bw jo J J J (bp (k:=8) J))) J [0,1,2,3] [] J J J))))))
theorem EB(e:Me)(s:Mm)(n:Nat)(hs:MO s n)(a:Int)(ha:0≤a∧a<4294967296):
  aW prog 43 [Pt e.m,I3 a] [bj e.m 157 (mR e),own 5 1 cn (sv e.vd) (s).d,own 5 1 cn (sv e.vi) (s).i,own 3 1 eI (sv e.vr) (s).r] [] (.int .u8 (if a<s.d.length then s.i.getD a.toNat 0 else 0)) [bj e.m 157 (mR e),own 5 1 cn (sv e.vd) (s).d,own 5 1 cn (sv e.vi) (s).i,own 3 1 eI (sv e.vr) (s).r]:=by
 refine aI func43 J ntmps43 J fun w0 M H=>aq (am J (az J (ad J (ad J (ai (xs:= [.tmp 6,.tmp 7]) (pT e s n hs a ha) HO [0,1,2,3] [] [0,1,2,3] (fun _ _=>am J (aa (aU (ad J (aP (cZ J) (aa (ap J (fun h1=> ?_) (fun h1=> ?_)))))))))))))
 ·(try simp only [bl]at h1);have hq:¬a<s.d.length:=by simpa using h1
  rw [ac hq];refine aq (am J (aa (ay (aN () O J (ce (aL J)) J [0,1,2,3] [] J J J))))
 ·(try simp only [bl]at h1);have hq:a<s.d.length:=by simpa using h1
  have hd:=hs.d;have hil:=hs.i;have hrl:=hs.r;have hnn:=hs.n;obtain⟨x,hx⟩:∃x,s.i[a.toNat]?=some x:=⟨_,bQ (by omega)⟩
  rw [aj hq,G3 hx];refine aC (aU (ad J (bS J (aD xB J (aR 0 t4 J J J J (aa (ap J (fun h2=> ?_) (fun h2=> ?_))))))))
  ·cases h2
  ·(try simp only [bl]at h2);refine aC (aq (ad J (bS J (aD sG J (aR 0 Ab J J J J (ad J (aP (aO (j:=a.toNat) underlying84 t5 J J (bh (k:=2) J) (by omega) (by omega)) (aP (ag t5 J J (bF (bh (k:=2) J) (by intro _;rfl) hx (by rfl))) (am J (aa (ay (aN () O J (ce (aL J)) J [0,1,2,3] [] J J J))))))))))))
theorem AL(e:Me)(s:Mm)(n:Nat)(hs:MO s n)(a:Int)(ha:0≤a∧a<4294967296):
  aW prog 41 [Pt e.m,I3 a] [bj e.m 157 (mR e),own 5 1 cn (sv e.vd) (s).d,own 5 1 cn (sv e.vi) (s).i,own 3 1 eI (sv e.vr) (s).r] [] (.int .u8 (if a<s.d.length then s.d.getD a.toNat 0 else 0)) [bj e.m 157 (mR e),own 5 1 cn (sv e.vd) (s).d,own 5 1 cn (sv e.vi) (s).i,own 3 1 eI (sv e.vr) (s).r]:=by
 refine aI func41 J ntmps41 J fun w0 M H=>aq (am J (az J (ad J (ad J (ai (xs:= [.tmp 6,.tmp 7]) (pT e s n hs a ha) HO [0,1,2,3] [] [0,1,2,3] (fun _ _=>am J (aa (aU (ad J (aP (cZ J) (aa (ap J (fun h1=> ?_) (fun h1=> ?_)))))))))))))
 ·(try simp only [bl]at h1);have hq:¬a<s.d.length:=by simpa using h1
  rw [ac hq];refine aq (am J (aa (ay (aN () O J (ce (aL J)) J [0,1,2,3] [] J J J))))
 ·(try simp only [bl]at h1);have hq:a<s.d.length:=by simpa using h1
  have hd:=hs.d;have hil:=hs.i;have hrl:=hs.r;have hnn:=hs.n;obtain⟨x,hx⟩:∃x,s.d[a.toNat]?=some x:=⟨_,bQ (by omega)⟩
  rw [aj hq,G3 hx];refine aC (aq (ad J (bS J (aD nz J (aR 0 Ab J J J J (ad J (aP (aO (j:=a.toNat) underlying84 t5 J J (bh (k:=1) J) (by omega) (by omega)) (aP (ag t5 J J (bF (bh (k:=1) J) (by intro _;rfl) hx (by rfl))) (am J (aa (ay (aN () O J (ce (aL J)) J [0,1,2,3] [] J J J))))))))))))
theorem Ev(e:Me)(s:Mm)(n:Nat)(hs:MO s n)(a:Int)(ha:0≤a∧a<4294967296)(hok:zN s a 4=true)(x:Int)(hx:s.i[a.toNat]?=some x)(hxb:0≤x∧x<256):
  aW prog 179 [Pt e.m,I3 a] [bj e.m 157 (mR e),own 5 1 cn (sv e.vd) (s).d,own 5 1 cn (sv e.vi) (s).i,own 3 1 eI (sv e.vr) (s).r] [] (.agg #[I3 x,I3 0,.bool true]) [bj e.m 157 (mR e),own 5 1 cn (sv e.vd) (s).d,own 5 1 cn (sv e.vi) (s).i,own 3 1 eI (sv e.vr) (s).r]:=by
 refine aI func179 J ntmps179 J fun w0 M H=> ?_
 have hq:a<s.d.length:=by
  unfold zN at hok;simp only [Bool.and_eq_true,decide_eq_true_eq]at hok;exact hok.1
 refine aq (aZ jo J J fun b4=>az J (ad J (ad J (ai (xs:= [.tmp 6,.tmp 7,.const (I6 4)]) (rA e s n hs a ha 4 (by decide)) LK [0,1,2,3] [] [0,1,2,3] (fun _ _=> ?_)))));rw [hok];refine am J (aa (aU (ad J (aP (cZ J) (aa (ap J (fun h1=> ?_) (fun h1=> ?_)))))))
 ·cases h1
 ·(try simp only [bl]at h1);refine aC (aq (ad J (ad J (ai (xs:= [.tmp 13,.tmp 14]) (EB e s n hs a ha) Up [0,1,2,3] [] [0,1,2,3] (fun _ _=> ?_)))));rw [aj hq,G3 hx];refine aP (cw underlying5 underlying41 J (c:=x) (cc (by omega))) (aP (aX (parts:= [(0,.tmp 16),(2,.const (.bool Bool.true))]) jo K8 J J) (av (k:=4) jo J J J J J J (aa (ay (aN () O J (ce (bw jo J J J (bp (k:=4) J))) J [0,1,2,3] [] J J J)))))
theorem GB(e:Me)(s:Mm)(n:Nat)(hs:MO s n)(a:Int)(ha:0≤a∧a<4294967296)(hb:byL s.d)(h4:a+4≤s.d.length)(hok:∀k:Int,0≤k→k<4→zN s (IntKind.u32.wrap (a+k)) 1=true):
  aW prog 151 [Pt e.m,I3 a,I6 4] [bj e.m 157 (mR e),own 5 1 cn (sv e.vd) (s).d,own 5 1 cn (sv e.vi) (s).i,own 3 1 eI (sv e.vr) (s).r] [] (.agg #[I3 (Cw s.d a.toNat),I3 0,.bool true]) [bj e.m 157 (mR e),own 5 1 cn (sv e.vd) (s).d,own 5 1 cn (sv e.vi) (s).i,own 3 1 eI (sv e.vr) (s).r]:=by
 refine aI func151 J ntmps151 J fun w0 M H=> ?_
 have hd:=hs.d;have hil:=hs.i;have hrl:=hs.r;have hnn:=hs.n;refine aq (aZ jo J J fun b6=>az J (ad J (ad J (ad J (ai (xs:= [.tmp 9,.tmp 10,.tmp 11,.const (I6 1)]) (zq e s n hs a ha 4 1 (by decide) (by decide) hok) LQ [0,1,2,3] [] [0,1,2,3] (fun _ _=>aZ jo J J fun b7=>av (k:=7) jo J J J J J J (aa (aU (aD qd J (aR 7 t4 J J J J (aa (ap J (fun h1=> ?_) (fun h1=> ?_)))))))))))))
 ·(try simp only [bl]at h1);refine aq (ad J (ar J J eG (am J (aa (aA (bJ (X:=Nat) (fun m=>m≤4) (fun m=> [(0,Pt e.m),(1,I3 a),(6,Pt b6),(7,Pt b7),(8,I6 (3-(m:Int)))]) (fun m=> [(0,bj e.m 157 (mR e)),(1,own 5 1 cn (sv e.vd) s.d),(2,own 5 1 cn (sv e.vi) s.i),(3,own 3 1 eI (sv e.vr) s.r),(6,bj b6 241 [I3 0,I3 0,.bool false]),(7,bj b7 241 [I3 (GD s.d a.toNat m),I3 0,.bool true])]) (fun m=> []) (fun m=>4-m) 0 (by omega) J J J (fun m n1=>aU (ad J (ar J J iz (aa (ap J (fun h2=> ?_) (fun h2=> ?_))))))))))))
  ·(try simp only [bl]at h2);have hi:m<4:=by omega
   obtain⟨x,hx⟩:∃x,s.d[a.toNat+(3-m)]?=some x:=⟨_,bQ (by omega)⟩
   have hxb:=hb x (bV hx);have hlb:=Nw hb a.toNat (m:=m) (by omega)
   refine aC (be (aA ?_));refine bX [21,22,23,24,25,26,27,28,29,30,31,32,33,34,35,36] _ J (bP (V:= [(0,21,_),(1,22,_),(2,23,_),(3,24,_),(4,25,_),(5,26,_),(6,27,_),(7,28,_),(8,29,_),(9,30,_),(10,31,_),(11,32,_),(12,33,_),(13,34,_),(14,35,_),(15,36,_)]) [0,1,2,3,4,5,6,7,8,9,10,11,12,13,14,15] 16 [16,15,14,13,12,11,10,9,8,7,6,5,4,3,2,1,0] [] (fun _=> []) J J (ae J (ah ss J) (ae J (ag eA J J (ax (k:=7) J J)) (ae J (aQ J J (fN (cc (by omega)))) (aF J J (ae J (au J) (ae J (ah nz J) (ae J (ag Ab J J (ax (k:=0) J J)) (aF J J (aF J J (ae J (cw underlying3 underlying41 J (c:=3-(m:Int)) (cc (by omega))) (bk (Jj J (aQ J J (co (c:=((a.toNat+(3-m):Nat):Int)) (by rw [cc (by omega)];omega)))) (ae J (aO (j:=a.toNat+(3-m)) underlying84 t5 J J (bh (k:=1) J) J (by omega)) (ae J (ag t5 J J (bF (bh (k:=1) J) (by intro _;rfl) hx (by rfl))) (ae J (cw underlying5 underlying41 J (c:=x) (cc (by omega))) (ae J (aQ J J (co (c:=GD s.d a.toNat (m+1)) (by rw [cc (by omega)];show _=GD s.d a.toNat m*256+s.d.getD (a.toNat+(3-m)) 0;rw [G3 hx]))) (ae J (ah ss J) aw)))))))))))))))) J J J J J J J J J (fun _ _=>J) J (dw (k:=7) eA J J J J J J J J) (fun _ _=>bA [] J J aw J J J ?_));refine ak (ad J (ar J J (io (c:=3-((m+1:Nat):Int)) (by rw [bM (by omega)];omega)) (am J (aa ?_))));refine aG (m+1) ⟨by omega,by omega⟩ J J J
  ·(try simp only [bl]at h2);have hi:m=4:=by omega
   subst hi;refine bL (aq (aP (aM jo J J J (bp (k:=7) J)) (av (k:=6) jo J J J J J J (aa (ay (aN () O J (ce (bw jo J J J (bp (k:=6) J))) J [0,1,2,3] [] J J J))))))
 ·cases h1
def nM(x:Int):Nat→Int
 | 0=>x
 | k+1=>nM x k/256
theorem BS{x:Int}(hx:0≤x∧x<4294967296):∀k,0≤nM x k∧nM x k<4294967296
 | 0=>hx
 | k+1=>by
  have:=BS hx k;show 0≤nM x k/256∧nM x k/256<_;omega
theorem B7{x:Int}(hx:0≤x∧x<4294967296){k:Nat}(hk:k<4):(fP x)[k]?=some (nM x k%256):=by
 have:k=0∨k=1∨k=2∨k=3:=by omega
 rcases this with rfl|rfl|rfl|rfl
 ·rfl
 ·rfl
 ·show some (x/65536%256)=some (x/256/256%256);rw [Int.ediv_ediv_of_nonneg (by decide)];rfl
 ·show some (x/16777216%256)=some (x/256/256/256%256);rw [Int.ediv_ediv_of_nonneg (by decide),Int.ediv_ediv_of_nonneg (by decide)];rfl
theorem DK(e:Me)(s:Mm)(n:Nat)(hs:MO s n)(a:Int)(ha:0≤a∧a<4294967296)(x:Int)(hx:0≤x∧x<4294967296)(h4:a+4≤s.d.length)(hok:∀k:Int,0≤k→k<4→zN s (IntKind.u32.wrap (a+k)) 2=true):
  aW prog 152 [Pt e.m,I3 a,I6 4,I3 x] [bj e.m 157 (mR e),own 5 1 cn (sv e.vd) (s).d,own 5 1 cn (sv e.vi) (s).i,own 3 1 eI (sv e.vr) (s).r] [] (.agg #[I3 0,I3 0,.bool true]) [bj e.m 157 (mR e),own 5 1 cn (sv e.vd) ({s with d:=pk s.d a.toNat (fP x)}).d,own 5 1 cn (sv e.vi) ({s with d:=pk s.d a.toNat (fP x)}).i,own 3 1 eI (sv e.vr) ({s with d:=pk s.d a.toNat (fP x)}).r]:=by
 refine aI func152 J ntmps152 J fun w0 M H=> ?_
 have hd:=hs.d;have hil:=hs.i;have hrl:=hs.r;have hnn:=hs.n;refine aq (aZ jo J J fun b8=>az J (ad J (ad J (ad J (ai (xs:= [.tmp 11,.tmp 12,.tmp 13,.const (I6 2)]) (zq e s n hs a ha 4 2 (by decide) (by decide) hok) LQ [0,1,2,3] [] [0,1,2,3] (fun _ _=>aZ jo J J fun b9=>av (k:=9) jo J J J J J J (aa (aU (aD qd J (aR 9 t4 J J J J (aa (ap J (fun h1=> ?_) (fun h1=> ?_)))))))))))))
 ·(try simp only [bl]at h1);refine aq (am J (aa (aA (bJ (X:=Nat) (fun i=>i≤4) (fun i=> [(0,Pt e.m),(1,I3 a),(2,I6 4),(3,I3 (nM x i)),(8,Pt b8),(9,Pt b9),(10,I6 (i:Int))]) (fun i=> [(0,bj e.m 157 (mR e)),(1,own 5 1 cn (sv e.vd) (pk s.d a.toNat ((fP x).take i))),(2,own 5 1 cn (sv e.vi) s.i),(3,own 3 1 eI (sv e.vr) s.r),(8,bj b8 241 [I3 0,I3 0,.bool false]),(9,bj b9 241 [I3 0,I3 0,.bool true])]) (fun i=> []) (fun i=>4-i) 0 (by omega) J J J (fun i n1=>aU (ad J (ad J (ar J J cy (aa (ap J (fun h2=> ?_) (fun h2=> ?_)))))))))))
  ·(try simp only [bl]at h2);have hi:i<4:=by omega
   have hpl:=fQ ((fP x).take i) s.d a.toNat
   have hsb:=BS hx i;obtain⟨y,hy⟩:∃y,(pk s.d a.toNat ((fP x).take i))[a.toNat+i]?=some y:=⟨_,bQ (by omega)⟩
   refine aC (be (aA (aq (ad J (bS J (aD nz J (aR 0 Ab J J J J (ad J (ad J (aP (cw underlying3 underlying41 J (c:=(i:Int)) (cc (by omega))) (ar J J (co (c:=((a.toNat+i:Nat):Int)) (by rw [cc (by omega)];omega)) (ad J (aP (cw underlying41 underlying5 J (c:=nM x i%256) (IntKind.wrap_u8 _)) (aP (aO (j:=a.toNat+i) underlying84 t5 J J (bh (k:=1) J) J (by omega)) (th (k:=1) (e':=(nM x i%256)) t5 J J J (by intro _;rfl) hy J J (aa (ak (ad J ?_))))))))))))))))));refine ar J J (ml (by decide) (rm hsb (by decide))) (am J (aa (ak (ad J (ar J J aK (am J (aa ?_)))))));refine aG (i+1) ⟨by omega,by omega⟩ J (by rw [cj (B7 hx hi),nk,List.length_take,Nat.min_eq_left (by show i≤4;omega)];rfl) J
  ·(try simp only [bl]at h2);have hi:i=4:=by omega
   subst hi;refine bL (aq (aP (aM jo J J J (bp (k:=9) J)) (av (k:=8) jo J J J J J J (aa (ay (aN () O J (ce (bw jo J J J (bp (k:=8) J))) J [0,1,2,3] [] J J J))))))
 ·cases h1
end Go.Proofs.YtedmdgbmdplifaaGreat
