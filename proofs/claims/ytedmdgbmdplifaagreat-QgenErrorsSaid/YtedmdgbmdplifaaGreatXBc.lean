/-
  A part of the proof. Conditions are with the theorems.
-/
import Derived.Laws.BitsAllLaws
import Derived.Test.YtedmdgbmdplifaaGreatXBa
import Derived.Test.YtedmdgbmdplifaaGreatXBb
set_option maxHeartbeats 32000000
set_option maxRecDepth 100000
set_option linter.unusedSimpArgs false
set_option linter.unusedVariables false
namespace Go.Proofs.YtedmdgbmdplifaaGreat
open Go.RowKit Tryz
theorem vU:∀(ns a b:List Ba),sM ns (a++b)=fst (sM ns a) (sM (ns++a) b)
 | ns,[],b=>by simp [sM,fst]
 | ns,x::r,b=>by
  rw [List.cons_append,sM,vU (ns++ [x]) r b,sM,gz,List.append_assoc];rfl
theorem sL{l:List Ba}{i:Nat}{x:Ba}(h:l[i]?=some x):sM [] (l.take (i+1))=fst (sM [] (l.take i)) (if cD x (l.take i)=true then 22 else 0):=by
 rw [cw h,vU];show fst _ (fst (if cD x ([]++l.take i)=true then 22 else 0) 0)=_;rw [ew,List.nil_append]
def rc(f:Tf):Prop:=f.ps.length>4∨f.ps.length+dD f.body>12∨cM f.body>400∨dY 1 f.body=true
instance(f:Tf):Decidable (rc f):=by unfold rc;exact inferInstance
theorem mF(fs:List Tf)(f:Tf):kW fs f=fst (if rc f then 2 else 0) (fst (sM [] f.ps) (dm fs f.ps f.body).2):=rfl
theorem OA{f:Tf}{er:Int}{dp:Bool}(hdp:dp=true→er≠0)(h:(decide ((f.ps.length:Int)>4) || decide ((f.ps.length:Int)+(dD f.body:Int)>12) || decide (0+(cM f.body:Int)>400) || (dp || dY 1 f.body))=true):fst er 2=fst er (if rc f then 2 else 0):=by
 by_cases hb:rc f
 ·rw [aw hb]
 ·rw [ai hb,ew];unfold rc at hb;have hd:dp=true:=by
   cases hd:dp with
   | true=>rfl
   | false=>
    exfalso;apply hb;rw [hd,Bool.false_or]at h;simp only [Bool.or_eq_true,decide_eq_true_eq]at h;rcases h with((h|h)|h)|h
    ·exact .inl (by omega)
    ·exact .inr (.inl (by omega))
    ·exact .inr (.inr (.inl (by omega)))
    ·exact .inr (.inr (.inr h))
  exact ai (hdp hd)
theorem OB{f:Tf}{er:Int}{dp:Bool}(h:(decide ((f.ps.length:Int)>4) || decide ((f.ps.length:Int)+(dD f.body:Int)>12) || decide (0+(cM f.body:Int)>400) || (dp || dY 1 f.body))=false):er=fst er (if rc f then 2 else 0):=by
 simp only [Bool.or_eq_false_iff,decide_eq_false_iff_not]at h;have hb:¬rc f:=by
  unfold rc;rintro (h1|h1|h1|h1)
  ·omega
  ·omega
  ·omega
  ·rw [h.2.2]at h1;cases h1
 rw [ai hb,ew]
theorem Fe{fs:List Tf}{f:Tf}{er:Int}{dp:Bool}(hdp:dp=true→er≠0)(h:(dp || dY 1 f.body)=true):fst er (kW fs f)≠0:=by
 intro h2;obtain⟨h3,h4⟩:=bF.1 h2;rw [mF]at h4;have h5:=(bF.1 h4).1;have hb:¬rc f:=fun hb=>by rw [aw hb]at h5;cases h5
 cases hd:dp with
 | true=>exact hdp hd h3
 | false=>
  rw [hd,Bool.false_or]at h;exact hb (.inr (.inr (.inr h)))
theorem pF(fs:List Tf):∀a b:List Tf,gU fs (a++b)=fst (gU fs a) (gU fs b)
 | [],b=>rfl
 | t::r,b=>by rw [List.cons_append,gU,pF fs r b,gU,gz]
theorem kV{fs l:List Tf}{i:Nat}{f:Tf}(h:l[i]?=some f):gU fs (l.take (i+1))=fst (gU fs (l.take i)) (kW fs f):=by
 rw [cw h,pF];show fst _ (fst (kW fs f) 0)=_;rw [ew]
theorem n9{fs:List Tf}:once fs=true↔∀(i:Nat)(f:Tf),fs[i]?=some f→ss fs f.name=(i:Int):=by
 unfold once;rw [List.all_eq_true];constructor
 ·intro h i f hf;obtain⟨hi,hf2⟩:=db.1 hf;have:=h i (List.mem_range.2 hi);rw [List.getD_eq_getElem?_getD,hf]at this;simpa using this
 ·intro h i hi;have hi:=List.mem_range.1 hi;have h2:=bT hi;have:=h i _ h2;rw [List.getD_eq_getElem?_getD,h2];simpa using this
theorem Aw{fs:List Tf}{i:Nat}{f:Tf}(hf:fs[i]?=some f)(h:¬ss fs f.name=(i:Int)):once fs=false:=by
 rw [Bool.eq_false_iff];exact fun h2=>h (n9.1 h2 i f hf)
theorem Ny{fs:List Tf}(h:rP fs=false):jK fs=1:=aw h
theorem Nw{fs:List Tf}(h:rP fs=true)(h2:fs.length>16):jK fs=2:=by
 unfold jK;rw [ai (by rw [h];simp),aw h2]
theorem Fq{fs:List Tf}(h:rP fs=true)(h2:¬fs.length>16)(h3:once fs=false):jK fs=22:=by
 unfold jK;rw [ai (by rw [h];simp),ai h2,aw h3]
theorem Ft{fs:List Tf}(h:rP fs=true)(h2:¬fs.length>16)(h3:once fs=true)(h4:dc fs ed=none):jK fs=21:=by
 unfold jK;rw [ai (by rw [h];simp),ai h2,ai (by rw [h3];simp),h4]
theorem Fp{fs:List Tf}{f:Tf}(h:rP fs=true)(h2:¬fs.length>16)(h3:once fs=true)(h4:dc fs ed=some f)(h5:f.ps.length>0):jK fs=23:=by
 unfold jK;rw [ai (by rw [h];simp),ai h2,ai (by rw [h3];simp),h4];exact aw h5
theorem xx{fs:List Tf}{f:Tf}(h:rP fs=true)(h2:¬fs.length>16)(h3:once fs=true)(h4:dc fs ed=some f)(h5:¬f.ps.length>0):jK fs=gU fs fs:=by
 unfold jK;rw [ai (by rw [h];simp),ai h2,ai (by rw [h3];simp),h4];exact ai h5
theorem zG(c:Nat)(vp vn:SV)(nd va:Int)(dp:Bool)(er:Int)(ns:List Ba)(fs:List Tf)(hfl:fs.length≤1000000)(f:Tf)(hg:GF f)(hdp:dp=true→er≠0):
  Spec prog 83 [Pt c,Gp f] [be c 165 (cR vp (vn) (nd) (va) (dp) (er)),own 9 1 eS (sv vn) (ns)] [CQ f,cE vp fs] (X:=SV) (fun _=>True) (fun _=> .tuple #[]) (fun x=> [be c 165 (cR vp (x) (0+(cM f.body:Int)) ((f.ps.length:Int)+(dD f.body:Int)) (dp || dY 1 f.body) (fst er (kW fs f))),own 9 1 eS (sv x) ((dm fs f.ps f.body).1)]) (fun _=> []):=by
 refine aM func83 J ntmps83 J fun w0 M H=> ?_
 obtain⟨g1,g2,g3,g4,g5,g6⟩:=hg;have hvl:=iZ f.body;refine bc 0 2 J lJ (bc 0 3 J kF (ar (cA J J fun b3=>aa (aZ ?_))));refine kJ [0,1,2,3,4,5,6,7,8,9,10,11,12,13,14] [0,7,11,1,2,3,4,5,6,8,9,10,12,13,14] [6,7,8,9,10,11,12,13,14,15,16,17] _ J J J (bH (V:= [(0,6,_),(1,7,_),(2,8,_),(3,9,_),(4,10,_),(5,11,_),(6,12,_),(7,13,_)]) [0,1,2,3,4,5,6,7] 8 [8,7,6,0] [9,10] (fun _=> [(9,14,_),(10,15,_)]) J J (ay J J (ay J J (ay J J (ac J (ah dW J) (ac J (ae h_ J J (ax (k:=3) J J)) (ac J (aL underlying46 J (aN (k:=2) J)) (ac J (aj J) (ac J (ah ou J) ag)))))))) J J J J J J J J J (fun _ _=>J) J (da (k:=0) h_ J J J J J J J J) (fun _ _=>bH [9,10,1,2,3,4,5] 11 [11,10,9,8,7,6,1,0] [12,13] (fun _=> [(12,16,_),(13,17,_)]) J J (ac J (aj J) (ac J (ah my J) (ay J J (ay J J (ac J (ah dW J) (ac J (ae h_ J J (ax (k:=3) J J)) (ac J (aL underlying46 J (aN (k:=2) J)) ag))))))) J J J J J J J J J (fun _ _=>J) J (da (k:=0) t3 J J J J J J J J) (fun _ _=>bH [12,13,2,3,4,5] 14 [14,13,12,11,10,9,8,7,6,5,4,3,2,1,0] [] (fun _=> []) J J (ac J (aj J) (ac J (ah qS J) (ay J J (ac J (ah dW J) (ac J (ae h_ J J (ax (k:=3) J J)) (ac J (aL underlying46 J (aN (k:=2) J)) ag)))))) J J J J J J J J J (fun _ _=>J) J (da (k:=0) t3 J J J J J J J J) (fun _ _=>bn [] J J ag J J J ?_))));refine dI 1 (α:=Ba) (S:=9) (s:=1) (enc:=eS) (ar (ad J (aD bX J (aT 3 eR J J J J (ak (xs:= [.tmp 18,.tmp 20,.const (I6 1)]) (zz c vp bv er f.vb f.body g4 g5 1 0 (f.ps.length:Int) dp (by omega) (by omega) (by omega) (by omega) (by omega)) FD [0] [(false,3)] [0] (fun _ _=>aa (bz (X:=Unit) (fun _=>True) (fun _=> [(0,Pt c),(3,Pt b3)]) (fun _=> [(0,be c 165 (cR vp (bv) (0+(cM f.body:Int)) ((f.ps.length:Int)+(dD f.body:Int)) (dp || dY 1 f.body) (fst er (if rc f then 2 else 0)))),(1,own 9 1 eS (sv bv) ([])),(3,be b3 66 (gu f))]) (fun _=> [(0,CQ f),(1,cE vp fs),(2,sl 1 eS (sv f.vp) f.ps),(3,b_ f.vb f.body)]) ?_ (fun _ _=> ?_))))))))
 ·refine ar (aD dW J (aT 3 h_ J J J J (aS (aL underlying46 J (aN (k:=2) J)) (av J J fh (ad J (aI [] J J O (fun hg1=>aY J) J (aI [(27,_)] J J ⟨J,O⟩ (fun hg2=>aj J) J (aI [(27,_),(28,_)] J J ⟨J,J,O⟩ (fun hg3=>ah qS J) J (aI [(27,_),(28,_),(29,_)] J J ⟨J,J,J,O⟩ (fun hg4=>ae t3 J J (ax (k:=0) J J)) J (aI [(27,_),(28,_),(29,_),(30,_)] J J ⟨J,J,J,J,O⟩ (fun hg5=>aU J J fh) J (aS (bK J J J) (ad J (aI [] J J O (fun hg6=>aY J) J (aI [(34,_)] J J ⟨J,O⟩ (fun hg7=>aj J) J (aI [(34,_),(35,_)] J J ⟨J,J,O⟩ (fun hg8=>ah my J) J (aI [(34,_),(35,_),(36,_)] J J ⟨J,J,J,O⟩ (fun hg9=>ae t3 J J (ax (k:=0) J J)) J (aI [(34,_),(35,_),(36,_),(37,_)] J J ⟨J,J,J,J,O⟩ (fun hg10=>aU J J fh) J (aS (bK J J J) ?_))))))))))))))))));refine ad J (aI [] J J O (fun hg11=>aY J) J (aI [(41,_)] J J ⟨J,O⟩ (fun hg12=>aj J) J (aI [(41,_),(42,_)] J J ⟨J,J,O⟩ (fun hg13=>ah ot J) J (aI [(41,_),(42,_),(43,_)] J J ⟨J,J,J,O⟩ (fun hg14=>ae t4 J J (ax (k:=0) J J)) J (aS (bK J J J) (aa (am J (fun h15=> ?_) (fun h15=> ?_))))))))
  ·have hq:=h15;refine ap (ad J (ak (xs:= [.tmp 46,.const (I6 2)]) (jL c vp bv (0+(cM f.body:Int)) ((f.ps.length:Int)+(dD f.body:Int)) (dp || dY 1 f.body) er 2) xE [0] [] [0] (fun _ _=>aa (aG () O J (by rw [←OA hdp hq];rfl) J))))
  ·have hq:=h15;refine aA (aG () O J (by rw [←OB hq];rfl) J)
 ·refine aV (aD dW J (aT 3 h_ J J J J (aS (aL underlying46 J (aN (k:=2) J)) (ad J (aa (aC (bI (X:=Nat×SV) (fun x=>x.1≤f.ps.length) (fun x=> [(0,Pt c),(3,Pt b3),(49,sv f.vp),(50,I6 (f.ps.length:Int)),(51,I6 (x.1:Int))]) (fun x=> [(0,be c 165 (cR vp (x.2) (0+(cM f.body:Int)) ((f.ps.length:Int)+(dD f.body:Int)) (dp || dY 1 f.body) (fst (fst er (if rc f then 2 else 0)) (sM [] (f.ps.take x.1))))),(1,own 9 1 eS (sv x.2) (f.ps.take x.1)),(3,be b3 66 (gu f))]) (fun x=> [(0,CQ f),(1,cE vp fs),(2,sl 1 eS (sv f.vp) f.ps),(3,b_ f.vb f.body)]) (fun x=>f.ps.length-x.1) (0,bv) (bq _) J (by rw [show fst (fst er (if rc f then 2 else 0)) (sM [] (f.ps.take (0,bv).1))=fst er (if rc f then 2 else 0)from ew _];rfl) J (fun x n1=> ?_))))))));obtain⟨i,v⟩:=x;dsimp only at n1 ⊢;refine ar (av J J cy (aa (aZ (am J (fun h16=> ?_) (fun h16=> ?_)))))
  ·(try simp only [bk]at h16);have hi:i<f.ps.length:=by omega
   obtain⟨x,hx⟩:∃k,f.ps[i]?=some k:=⟨_,bT hi⟩
   refine aA (aZ (aC (ar (aS (aK (j:=i) underlying46 t9 J J (aN (k:=2) J) (by first|rfl|omega) (by first|omega|(simp;done)|(simp;omega))) (aS (ae t9 J J (bJ (aN (k:=2) J) (by intro _;rfl) hx (by rfl))) (aq J (aa (ap (ad J (ad J (ak (xs:= [.tmp 55,.tmp 56]) (sU c vp v (0+(cM f.body:Int)) ((f.ps.length:Int)+(dD f.body:Int)) (dp || dY 1 f.body) (fst (fst er (if rc f then 2 else 0)) (sM [] (f.ps.take i))) (f.ps.take i) (by rw [List.length_take];omega) x) Jn [0,1] [] [0,1] (fun v2 _=>aa (ap (av J J aO (ad J (aa ?_))))))))))))))));refine aG (i+1,v2) ⟨by dsimp only;omega,by dsimp only;omega⟩ J (by dsimp only;rw [sL hx,cw hx];simp only [gz];rfl) J
  ·(try simp only [bk]at h16);have hi:i=f.ps.length:=by omega
   subst hi;rw [cV];refine bM (ap (ad J (aD bX J (aT 3 eR J J J J (ak (xs:= [.tmp 59,.tmp 61]) (xC c vp (0+(cM f.body:Int)) ((f.ps.length:Int)+(dD f.body:Int)) (dp || dY 1 f.body) fs hfl f.vb f.body g4 g5 v f.ps (fst (fst er (if rc f then 2 else 0)) (sM [] f.ps)) (by omega)) FC [0,1] [(false,3),(false,1)] [0,1] (fun v3 _=>aa ?_))))));rw [show fst er (kW fs f)=fst (fst (fst er (if rc f then 2 else 0)) (sM [] f.ps)) (dm fs f.ps f.body).2 by rw [mF];simp only [gz]];refine cQ v3 O J iz J [0,1] [] J J J
theorem zE(vp:SV)(fs:List Tf)(hg:GP fs):
  bi prog 48 [.agg #[sv vp]] [] [cE vp fs] (I6 (jK fs)) []:=by
 refine aM func48 J ntmps48 J fun w0 M H=>bc 0 1 J jw ?_
 have hfl:=hg.1;refine ar (cA J J fun b1=>aq J (aa (aV (aS (aJ iQ J J J (a_ (k:=1) J)) (ak (xs:= [.tmp 9]) (yy vp fs hg) Qh [] [(false,0)] [] (fun _ _=>aS (cZ J) (aa (am J (fun h1=> ?_) (fun h1=> ?_)))))))))
 ·have hr:rP fs=false:=by simpa using h1
  refine ar (aq J (aa (az (aQ () O J (cc (aP J)) (by rw [Ny hr]) [] [] J J J))))
 ·have hr:rP fs=true:=by simpa using h1
  refine aA (aV (aD dx J (aT 1 ip J J J J (aS (aL underlying25 J (aN (k:=1) J)) (av J J fh (aa (am J (fun h2=> ?_) (fun h2=> ?_))))))))
  ·(try simp only [bk]at h2);refine ar (aq J (aa (az (aQ () O J (cc (aP J)) (by rw [Nw hr (by omega)]) [] [] J J J))))
  ·(try simp only [bk]at h2);refine aA (ar (aS (aJ iQ J J J (a_ (k:=1) J)) (aS (aR (parts:= [(0,.tmp 16)]) O6 MN J J) (cA J J fun b18=>aq J (aa (aV (aD dx J (aT 1 ip J J J J (aS (aL underlying25 J (aN (k:=1) J)) (ad J (aa (aC ?_))))))))))));refine bI (X:=Nat) (fun i=>i≤fs.length∧∀j f,j<i→fs[j]?=some f→ss fs f.name=(j:Int)) (fun i=> [(1,Pt b1),(2,I6 0),(3,Pt b18),(20,sv vp),(21,I6 (fs.length:Int)),(22,I6 (i:Int))]) (fun i=> [(1,be b1 27 [sv vp]),(18,be b18 165 (cR vp bv 0 0 false 0))]) (fun i=> [(0,cE vp fs),(1,sl 3 gu (sv vp) fs)]) (fun i=>fs.length-i) 0 ⟨bq _,fun j f hj=>by omega⟩ J J J (fun i hx0=> ?_);obtain⟨n1,n2⟩:=hx0;refine ar (av J J cy (aa (aZ (am J (fun h3=> ?_) (fun h3=> ?_)))))
   ·(try simp only [bk]at h3);have hi:i<fs.length:=by omega
    obtain⟨f,hst⟩:∃k,fs[i]?=some k:=⟨_,bT hi⟩
    refine aA (aZ (aC (ar (ad J (aS (aK (j:=i) underlying25 fC J J (aN (k:=1) J) (by first|rfl|omega) (by first|omega|(simp;done)|(simp;omega))) (aS (aJ fC J J J (bJ (aN (k:=1) J) (by intro _;rfl) hst (by rfl))) (aX fC J J fun b5=>aq J (au (k:=5) fC J J J J J J (aF J (ad J (aD jG J (aT 5 t9 J J J J (ak (xs:= [.tmp 27,.tmp 29]) (nD b18 vp bv 0 0 false 0 f.name fs hfl) Lt [18] [(false,1)] [18] (fun _ _=>ad J (av J J gj ?_)))))))))))))));refine aa (am J (fun h4=> ?_) (fun h4=> ?_))
    ·have hne:¬ss fs f.name=(i:Int):=by simpa using h4
     refine ar (aq J (aa (az (aQ () O J (cc (aP J)) (by rw [Fq hr (by omega) (Aw hst hne)]) [] [] J J J))))
    ·have hne:ss fs f.name=(i:Int):=by simpa using h4
     refine aA (ap (av J J aO (ad J (aa ?_))));refine aG (i+1) ⟨⟨by omega,fun j f2 hj hf2=>by rcases Nat.lt_succ_iff_lt_or_eq.1 hj with h|h;exact n2 j f2 h hf2;subst h;rw [hst]at hf2;cases hf2;exact hne⟩,by omega⟩ J J J
   ·(try simp only [bk]at h3);have hi:i=fs.length:=by omega
    subst hi;have ho:once fs=true:=n9.2 fun j f hf=>n2 j f (db.1 hf).1 hf
    refine bM (ar (ad J (ak (xs:= [.tmp 34,.const (Sg (ByteArray.mk #[109,97,105,110]))]) (nD b18 vp bv 0 0 false 0 ed fs hfl) Lt [18] [(false,1)] [18] (fun _ _=>aq J (aa (aV (ad J (av J J cy (aa (am J (fun h5=> ?_) (fun h5=> ?_)))))))))))
    ·(try simp only [bk]at h5);have hm:dc fs ed=none:=fk.1.1 h5;refine ar (aq J (aa (az (aQ () O J (cc (aP J)) (by rw [Ft hr (by omega) ho hm]) [] [] J J J))))
    ·(try simp only [bk]at h5);obtain⟨f,hm⟩:∃f,dc fs ed=some f:=by
      cases hf:dc fs ed with
      | none=>exact absurd (fk.1.2 hf) (by omega)
      | some f=>exact⟨f,rfl⟩
     obtain⟨j,hj1,hj2⟩:=fk.2 f hm;have hjl:=(db.1 hj2).1;rw [hj1];refine bc 0 7 J (lI (kw hm)) (bc 7 9 J lJ (aA (aV (aD dx J (aT 1 ip J J J J (ad J (aS (aK (j:=j) underlying25 fC J J (aN (k:=1) J) J hjl) (aS (bB dW J) (aS (ae h_ J J (dl (aN (k:=1) J) (by intro _;rfl) hj2 J)) (aS (aL underlying46 J (aN (k:=9) J)) (av J J fh (aa (am J (fun h6=> ?_) (fun h6=> ?_))))))))))))))
     ·(try simp only [bk]at h6);refine ar (aq J (aa (az (aQ () O J (cc (aP J)) (by rw [Fp hr (by omega) ho hm (by omega)]) [] [] J J J))))
     ·(try simp only [bk]at h6);refine aA (aV (aD dx J (aT 1 ip J J J J (aS (aL underlying25 J (aN (k:=1) J)) (ad J (aa (aC (dI 19 (α:=Ba) (S:=9) (s:=1) (enc:=eS) ?_))))))));refine bI (X:=Nat×SV×List Ba×Int×Int×Bool) (fun x=>x.1≤fs.length∧(x.2.2.2.2.2=true→gU fs (fs.take x.1)≠0)) (fun x=> [(1,Pt b1),(2,I6 0),(3,Pt b18),(47,sv vp),(48,I6 (fs.length:Int)),(49,I6 (x.1:Int))]) (fun x=> [(18,be b18 165 (cR vp x.2.1 x.2.2.2.1 x.2.2.2.2.1 x.2.2.2.2.2 (gU fs (fs.take x.1)))),(19,own 9 1 eS (sv x.2.1) x.2.2.1)]) (fun x=> [(0,cE vp fs),(1,sl 3 gu (sv vp) fs)]) (fun x=>fs.length-x.1) (0,bv,[],0,0,false) ⟨bq _,fun h=>by cases h⟩ J J J (fun x hx0=> ?_);obtain⟨i,v,ns,nd,va,dp⟩:=x;obtain⟨n1,n2⟩:=hx0;dsimp only at n1 n2 ⊢;refine ar (av J J cy (aa (aZ (am J (fun h7=> ?_) (fun h7=> ?_)))))
      ·(try simp only [bk]at h7);have hi:i<fs.length:=by omega
       obtain⟨f,hst⟩:∃k,fs[i]?=some k:=⟨_,bT hi⟩
       refine aA (aZ (aC (ar (aS (aK (j:=i) underlying25 fC J J (aN (k:=1) J) (by first|rfl|omega) (by first|omega|(simp;done)|(simp;omega))) (aS (aJ fC J J J (bJ (aN (k:=1) J) (by intro _;rfl) hst (by rfl))) (aX fC J J fun b8=>au (k:=8) fC J J J J J J (aa (ap (ad J (aS (aJ fC J J J (a_ (k:=8) J)) (bc 0 11 J (lI (cd hst)) (ak (xs:= [.tmp 53,.tmp 54]) (zG b18 vp v nd va dp (gU fs (fs.take i)) ns fs hfl f (hg.2 f (cd hst)) n2) Qf [18,19] [(false,11),(false,0)] [18,19] (fun v2 _=>aa (ap (av J J aO (ad J (aa ?_)))))))))))))))));refine aG (i+1,v2,(dm fs f.ps f.body).1,0+(cM f.body:Int),(f.ps.length:Int)+(dD f.body:Int),dp || dY 1 f.body) ⟨⟨by dsimp only;omega,fun h=>by dsimp only;rw [kV hst];exact Fe n2 h⟩,by dsimp only;omega⟩ J (by dsimp only;rw [kV hst];rfl) J
      ·(try simp only [bk]at h7);have hi:i=fs.length:=by omega
       subst hi;rw [cV];refine bM (ar (ad J (bS J (aD vL J (aT 18 BO J J J J (aq J (aa (az (aQ () O J (cc (aP J)) (by rw [xx hr (by omega) ho hm (by omega)]) [] [] J J J)))))))))
theorem Cj{s x:Ba}{l:List Ba}{i:Nat}(h:l[i]?=some x):cD s (l.take (i+1))=(cD s (l.take i) || (x==s)):=by
 unfold cD;rw [cw h,List.any_append,gt];simp only [List.any_cons,List.any_nil,Bool.or_false]
 congr 1
 exact decide_eq_decide.2 ⟨fun h=>h.symm,fun h=>h.symm⟩
theorem Em{s x:Ba}{l:List Ba}(hm:x∈l)(h:(x==s)=true):cD s l=true:=by
 rw [gt]at h;exact List.any_eq_true.2 ⟨x,hm,by simpa using(cH h).symm⟩
theorem M6{a b:Bool}(h:(!a&& !b)=false):(a || b)=true:=by cases a<;>cases b<;>simp_all
theorem M7{a b:Bool}(h:(!a&& !b)=true):(a || b)=false:=by cases a<;>cases b<;>simp_all
theorem Cm{s:Ba}(h:(s.size:Int)<1∨(s.size:Int)>12):cu s=false:=by
 unfold cu;rcases h with h|h
 ·rw [decide_eq_false (show ¬s.size≠0 by omega)];rfl
 ·rw [decide_eq_false (show ¬s.size≤12 by omega)];simp
theorem BA{s:Ba}:(bx s).getD 0 0=uw s:=by
 unfold uw bx;cases s.data.toList<;>rfl
theorem Cn{s:Ba}(h:pe ((bx s).getD 0 0)=false):cu s=false:=by
 unfold cu;rw [←BA,h];simp
theorem Hk{s:Ba}(h:cD s vz=true):cu s=false:=by
 unfold cu;rw [h];simp
theorem xI{s:Ba}{i:Nat}(h:i<s.size):(bx s).getD i 0=(((s[i]'h).toNat:Nat):Int):=by
 have hi:i<s.data.toList.length:=by simpa using h
 unfold bx;rw [List.getD_eq_getElem?_getD,List.getElem?_map,bT hi];rfl
theorem KF{s:Ba}{i:Nat}(h:i<s.size)(hb:(pe ((bx s).getD i 0) || mM ((bx s).getD i 0))=false):cu s=false:=by
 unfold cu;have h2:zM (fun c=>pe c || mM c) s=false:=by
  rw [Bool.eq_false_iff];intro h3;have h4:=oL.1 h3 i h;rw [xI h]at hb;rw [hb]at h4;cases h4
 rw [h2];simp
theorem Hj{s:Ba}(h1:¬(s.size:Int)<1)(h2:¬(s.size:Int)>12)(h3:pe ((bx s).getD 0 0)=true)(h4:cD s vz=false)(h5:∀j,j<s.size→(pe ((bx s).getD j 0) || mM ((bx s).getD j 0))=true):cu s=true:=by
 unfold cu;rw [←BA,h3,h4,decide_eq_true (show s.size≠0 by omega),decide_eq_true (show s.size≤12 by omega)];simp only [Bool.not_false,Bool.and_true,Bool.true_and];exact oL.2 fun i h=>by rw [←xI h];exact h5 i h
def rlv:List (List Ba):= [[ke],[fJ],[fD],[nk,ng],[mj,nh,nj,oO],[gL,iq],[gm,eJ],[gM,kM,lS]]
theorem GQ(s:Ba):(rlv.any fun l=>cD s l)=iW s:=by
 have h:∀o:Ba,decide (s=o)=decide (o=s):=fun o=>decide_eq_decide.2 ⟨fun h=>h.symm,fun h=>h.symm⟩
 unfold iW;rw [List.isSome_find?];simp only [rlv,lvL,cD,List.any_cons,List.any_nil,Bool.or_false,h]
 ac_rfl
theorem mn(c:Int):
  bi prog 135 [.int .u8 c] [] [] (.bool (pe c)) []:=by
 refine aM func135 J ntmps135 J fun w0 M H=>ar (aq J (aF J (ad J (av J J ig (ad J (aI [] J J O (fun hg1=>aY J) J (aI [(6,_)] J J ⟨J,O⟩ (fun hg2=>aU J J l7) J (aS (bK J J J) (aq J (aa (az (aQ () O J (cc (aP J)) J [] [] J J J))))))))))))
theorem mE(c:Int):
  bi prog 136 [.int .u8 c] [] [] (.bool (mM c)) []:=by
 refine aM func136 J ntmps136 J fun w0 M H=>ar (aq J (aF J (ad J (av J J ig (ad J (aI [] J J O (fun hg1=>aY J) J (aI [(6,_)] J J ⟨J,O⟩ (fun hg2=>aU J J l7) J (aS (bK J J J) (aq J (aa (az (aQ () O J (cc (aP J)) J [] [] J J J))))))))))))
theorem wW:
  Spec prog 134 [] [] [] (X:=SV) (fun _=>True) (fun u=>sv u) (fun u=> [own 9 1 eS (sv u) vz]) (fun _=> []):=by
 refine aM func134 J ntmps134 J fun w0 M H=>ar (aq J (aF J (dz eS vz (parts:= [(0,.const (Sg (ByteArray.mk #[101,108,115,101]))),(1,.const (Sg (ByteArray.mk #[102,110]))),(2,.const (Sg (ByteArray.mk #[105,102]))),(3,.const (Sg (ByteArray.mk #[105,110]))),(4,.const (Sg (ByteArray.mk #[109,101,109]))),(5,.const (Sg (ByteArray.mk #[111,117,116]))),(6,.const (Sg (ByteArray.mk #[114,101,116,117,114,110]))),(7,.const (Sg (ByteArray.mk #[118,97,114]))),(8,.const (Sg (ByteArray.mk #[119,104,105,108,101])))]) underlying46 t9 J (by decide) (by intro _;rfl) J (by decide) (by decide) J J J J fun v1=>aq J (aa (az (aQ v1 O J (cc (aP J)) J [1] [] J J J))))))
theorem k9(s:Ba)(v:SV)(l:List Ba)(hl:l.length≤1000000):
  bi prog 59 [Sg s,sv v] [] [sl 1 eS (sv v) l] (.bool (cD s l)) []:=by
 refine aM func59 J ntmps59 J fun w0 M H=>ar (aq J (aa (aV (aq J (aa (aC (bI (X:=Nat) (fun i=>i≤l.length∧cD s (l.take i)=false) (fun i=> [(0,Sg s),(1,sv v),(5,I6 (i:Int))]) (fun i=> []) (fun i=> [(0,sl 1 eS (sv v) l)]) (fun i=>l.length-i) 0 ⟨bq _,J⟩ J J J (fun i hx0=> ?_))))))))
 obtain⟨n1,n2⟩:=hx0;refine aV (ad J (ad J (aS (aL underlying46 J (aN (k:=0) J)) (av J J cy (aa (am J (fun h1=> ?_) (fun h1=> ?_)))))))
 ·(try simp only [bk]at h1);have hi:i<l.length:=by omega
  obtain⟨x,hx⟩:∃k,l[i]?=some k:=⟨_,bT hi⟩
  refine aA (aZ (aC (ar (ad J (ad J (aS (aK (j:=i) underlying46 t9 J J (aN (k:=0) J) (by first|rfl|omega) (by first|omega|(simp;done)|(simp;omega))) (aS (ae t9 J J (bJ (aN (k:=0) J) (by intro _;rfl) hx (by rfl))) (ad J (av J J eT (aa (am J (fun h2=> ?_) (fun h2=> ?_))))))))))))
  ·have hct:(x==s)=true:=h2;refine ar (aq J (aa (az (aQ () O J (cc (aP J)) (congrArg Value.bool (Em (cd hx) hct).symm) [] [] J J J))))
  ·have hcf:(x==s)=false:=h2;refine aA (ap (ad J (av J J aO (aq J (aa ?_)))));refine aG (i+1) ⟨⟨by omega,by rw [Cj hx,n2,hcf];rfl⟩,by omega⟩ J J J
 ·(try simp only [bk]at h1);have hi:i=l.length:=by omega
  subst hi;rw [cV]at n2;refine bM (ar (aq J (aa (az (aQ () O J (cc (aP J)) (congrArg Value.bool n2.symm) [] [] J J J)))))
theorem mI(s:Ba)(v:SV)(l:List Ba)(hl:l.length≤1000000):bi prog 59 [Sg s,sv v] [] [own 9 1 eS (sv v) l] (.bool (cD s l)) []:=(k9 s v l hl).ro1 ch
theorem jW(s:Ba):
  bi prog 102 [Sg s] [] [] (.bool (cu s)) []:=by
 refine aM func102 J ntmps102 J fun w0 M H=>ar (aq J (aF J (ad J (ak (xs:= []) wW Jl [] [] [6] (fun v6 _=>ak (xs:= [.tmp 5,.tmp 6]) (mI s v6 vz (by decide)) zJ [] [(true,6)] [] (fun _ _=>aq J (aa (aV (ad J (aS (c9 underlying9 J) (av J J cy (ad J (aI [] J J O (fun hg1=>aY J) J ?_)))))))))))))
 refine aI [(12,_)] J J ⟨J,O⟩ (fun hg2=>c9 underlying9 J) J (aI [(12,_),(13,_)] J J ⟨J,J,O⟩ (fun hg3=>aU J J fh) J (aS (bK J J J) (ad J (fq (t:=16) J (fun h4=> ?_) (fun h4=> ?_)))))
 ·(try simp only [bk]at h4);have q8:=h4;refine dJ J J J J (dJ J J J J (dJ J J J J (dJ J J J J (aS (bK J J J) (ad J (aI [] J J O (fun hg5=>aY J) J (aS (bK J J J) (aa (am J (fun h6=> ?_) (fun h6=> ?_))))))))))
  ·(try simp only [bk]at h6);refine ar (aq J (aa (az (aQ () O J (cc (aP J)) (congrArg Value.bool (Cm q8).symm) [] [] J J J))))
  ·exact absurd h6 (by simp)
 ·(try simp only [bk]at h4);have q8:=h4;have hs0:0<s.size:=by omega
  refine bP J J (ad J (bP J J (aS (eA (j:=0) underlying9 J J J hs0) (bP J J (dj (xs:= [.tmp 18]) (mn _) Bx [] [] [] J J J (fun _ _=>bP J J (aS (cZ J) (aS (bK J J J) (ad J (aI [] J J O (fun hg7=>aY J) J (aS (bK J J J) (aa (am J (fun h8=> ?_) (fun h8=> ?_))))))))))))))
  ·(try simp only [bk]at h8);have qc:=h8;refine ar (aq J (aa (az ?_)));have hno:cu s=false:=by
    rcases qc with(q|q)|q
    ·cases q
    ·exact Cn q
    ·exact Hk q
   refine aQ () O J (cc (aP J)) (congrArg Value.bool hno.symm) [] [] J J J
  ·(try simp only [bk]at h8);have qc:=h8;refine aA (aV (aq J (aa (aC (bI (X:=Nat) (fun i=>i≤s.size∧∀j,j<i→(pe ((bx s).getD j 0) || mM ((bx s).getD j 0))=true) (fun i=> [(0,Sg s),(4,I6 (i:Int))]) (fun i=> []) (fun i=> []) (fun i=>s.size-i) 0 ⟨bq _,fun j h=>absurd h (Nat.not_lt_zero _)⟩ J J J (fun i hx0=> ?_))))));obtain⟨n1,n2⟩:=hx0;refine aV (ad J (ad J (aS (c9 underlying9 J) (av J J cy (aa (am J (fun h9=> ?_) (fun h9=> ?_)))))))
   ·(try simp only [bk]at h9);have hi:i<s.size:=by omega
    refine aA (aZ (aC (ar (ad J (ad J (aS (eA (j:=i) underlying9 J J J hi) (dj (xs:= [.tmp 33]) (mn _) Bx [] [] [] J J J (fun _ _=>aS (cZ J) (ad J (aI [] J J O (fun hg10=>aY J) J (aI [(37,_)] J J ⟨J,O⟩ (fun hg11=>aY J) J (aI [(37,_),(38,_)] J J ⟨J,J,O⟩ (fun hg12=>eA (j:=i) underlying9 J J J hi) J (jV [(37,_),(38,_),(39,_)] J J ⟨J,J,J,O⟩ (fun hg13=>fv (xs:= [.tmp 39]) (mE _) Bw [] [] [] J J J) J (aI [(37,_),(38,_),(39,_),(40,_)] J J ⟨J,J,J,J,O⟩ (fun hg14=>cZ J) J (aS (bK J J J) (aa (am J (fun h15=> ?_) (fun h15=> ?_))))))))))))))))))
    ·have hct:=h15;refine ar (aq J (aa (az (aQ () O J (cc (aP J)) (congrArg Value.bool (KF hi (M7 hct)).symm) [] [] J J J))))
    ·have hcf:=h15;refine aA (ap (ad J (av J J aO (aq J (aa ?_)))));refine aG (i+1) ⟨⟨by omega,fun j hj=>by
      by_cases h:j=i
      ·subst h;exact M6 hcf
      ·exact n2 j (by omega)⟩,by omega⟩ rfl rfl rfl
   ·(try simp only [bk]at h9);have hi:i=s.size:=by omega
    subst hi;refine bM (ar (aq J (aa (az (aQ () O J (cc (aP J)) (congrArg Value.bool (Hj q8.1 q8.2 qc.1.2 qc.2 n2).symm) [] [] J J J)))))
structure Qi where
 op:Int
 d:Int
 a:Int
 b:Int
 imm:Int
deriving DecidableEq
def iY(i:Qi):List Value:= [I6 i.op,I6 i.d,I6 i.a,I6 i.b,I3 i.imm]
def q3(op d a b:Int):Qi:=⟨op,d,a,b,0⟩
def qi(op d a n:Int):Qi:=⟨op,d,a,0,n⟩
structure Qg where
 code:List Qi
 fixes:List (Int×Int)
 labs:List Int
def wg(p:Int×Int):List Value:= [I6 p.1,I6 p.2]
def Qg.emit(s:Qg)(l:List Qi):Qg:={s with code:=s.code++l}
def Qg.lab(s:Qg):Qg:={s with labs:=s.labs++ [0]}
def Qg.place(s:Qg)(l:Int):Qg:={s with labs:=s.labs.set l.toNat s.code.length}
def Qg.jump(s:Qg)(op d a l:Int):Qg:={s with fixes:=s.fixes++ [((s.code.length:Int),l)],code:=s.code++ [qi op d a 0]}
def Qg.push(s:Qg)(r:Int):Qg:=(s.emit [qi 16 14 14 4294967292]).emit [qi 25 r 14 0]
def Qg.pop(s:Qg)(r:Int):Qg:=(s.emit [qi 23 r 14 0]).emit [qi 16 14 14 4]
def Qg.elem(s:Qg)(r:Int):Qg:=(s.emit [qi 17 r r 255]).emit [qi 20 r r 2]
def qu(o:Ba)(s:Qg):Qg:=
 if o=gm then s.emit [q3 1 1 2 1]else if o=eJ then s.emit [q3 2 1 2 1]else if o=gM then s.emit [q3 9 1 2 1]else
 if o=fD then s.emit [q3 3 1 2 1]else if o=ke then s.emit [q3 4 1 2 1]else if o=fJ then s.emit [q3 5 1 2 1]else
 if o=gL then s.emit [q3 6 1 2 1]else if o=iq then s.emit [q3 7 1 2 1]else if o=mj then s.emit [q3 11 1 2 1]else
 if o=nj then s.emit [q3 11 1 1 2]else if o=nh then(s.emit [q3 11 1 1 2]).emit [qi 19 1 1 1]else if o=oO then(s.emit [q3 11 1 2 1]).emit [qi 19 1 1 1]else
 if o=ng then(s.emit [q3 5 1 2 1]).emit [q3 11 1 0 1]else if o=nk then((s.emit [q3 5 1 2 1]).emit [q3 11 1 0 1]).emit [qi 19 1 1 1]else
 if o=kM then((s.lab.jump 32 1 0 s.labs.length).emit [q3 10 1 2 1]).place s.labs.length else
 if o=lS then((((((s.lab.emit [q3 1 3 1 0]).jump 32 1 0 s.labs.length).emit [q3 10 3 2 1]).emit [q3 9 3 3 1]).place s.labs.length)).emit [q3 2 1 2 3]else s
def EU(o:Ba)(s:Qg):Qg:=
 if o=eJ then s.emit [q3 2 1 0 1]else if o=u_ then(s.emit [qi 16 2 0 4294967295]).emit [q3 5 1 1 2]else
 if o=tx then(s.emit [qi 16 2 0 1]).emit [q3 11 1 1 2]else s
def jc(n:Int):Bool:=decide (n<131072) || decide (4294967296-131072≤n)
def sd(n:Int)(s:Qg):Qg:=if jc n=true then s.emit [qi 16 1 0 n]else s.emit [qi 41 1 0 (n/1024),qi 18 1 1 (n%1024)]
abbrev Om:=List (Ba×Int)
def bO(o:Om)(x:Ba):Int:=match o.find? (fun p=>decide (p.1=x))with
 | some p=>p.2
 | none=>0
mutual
def gX(o st:Om):Tx→Qg→Qg
 | .mk k n nm _ kids,s=>
  if k=1 then sd n s else if k=2 then s.emit [qi 23 1 13 (bO o nm)]else
  if k=5 then s.emit [⟨48,0,0,0,2⟩]else
  if k=4 then((mu o st kids s).elem 1).emit [qi 23 1 1 8192]else
  if k=6 then EU nm (mu o st kids s)else
  if k=7 then qu nm ((L4 o st kids ((mu o st kids s).push 1)).pop 2)else
  if k=3 then(let s1:=(ud o st kids s).jump 40 15 0 (bO st nm)
   if kids.length>0 then s1.emit [qi 16 14 14 (4*kids.length)]else s1)else s
def mu(o st:Om):List Tx→Qg→Qg
 | [],s=>s
 | t::_,s=>gX o st t s
def L4(o st:Om):List Tx→Qg→Qg
 | [],s=>s
 | _::r,s=>mu o st r s
def ud(o st:Om):List Tx→Qg→Qg
 | [],s=>s
 | t::r,s=>ud o st r ((gX o st t s).push 1)
end
mutual
def gY(o st:Om)(en:Int):Ty→Qg→Qg
 | .mk k nm _ es _ body _ els,s=>
  let s0:=s.lab.place s.labs.length
  let s1:=mu o st es s0
  if k=1∨k=2 then s1.emit [qi 25 1 13 (bO o nm)]else
  if k=3 then(((L4 o st es (s1.push 1)).pop 2).elem 2).emit [qi 25 1 2 8192]else
  if k=7 then s1.emit [⟨48,0,0,0,1⟩]else
  if k=6 then s1.jump 40 0 0 en else
  if k=4 then(let lb:Int:=s1.labs.length
   let s2:=iB o st en body ((s1.lab.lab).jump 32 1 0 lb)
   let s3:=if els.length>0 then s2.jump 40 0 0 (lb+1)else s2
   (iB o st en els (s3.place lb)).place (lb+1))else
  if k=5 then(let lb:Int:=s1.labs.length
   ((iB o st en body (s1.lab.jump 32 1 0 lb)).jump 40 0 0 s.labs.length).place lb)else s1
def iB(o st:Om)(en:Int):List Ty→Qg→Qg
 | [],s=>s
 | t::r,s=>iB o st en r (gY o st en t s)
end
mutual
def gD:Ty→Om×Int→Om×Int
 | .mk k nm _ _ _ body _ els,p=>gDs els (gDs body (if k=1 then(gH p.1 nm (wU (-(4*(p.2+1)))),p.2+1)else p))
def gDs:List Ty→Om×Int→Om×Int
 | [],p=>p
 | t::r,p=>gDs r (gD t p)
end
def gP(n:Int):Int→List Ba→Om→Om
 | _,[],o=>o
 | k,p::r,o=>gP n (k+1) r (gH o p (8+4*(n-1-k)))
def dP(f:Tf):Om×Int:=gDs f.body (gP f.ps.length 0 f.ps [],0)
def ek:Nat→Qg→Qg
 | 0,s=>s
 | n+1,s=>ek n (s.push 0)
def gF(st:Om)(f:Tf)(s:Qg):Qg:=
 let lb:Int:=s.labs.length
 let ov:=dP f
 let s1:=((((((s.lab.lab).place (bO st f.name)).emit [qi 16 12 12 1]).emit [qi 16 2 0 12]).jump 35 2 12 lb).emit [⟨49,0,0,0,0⟩]).place lb
 let s2:=ek ov.2.toNat (((s1.push 15).push 13).emit [q3 1 13 14 0])
 let s3:=((iB ov.1 st (lb+1) f.body s2).emit [q3 1 1 0 0]).place (lb+1)
 ((((s3.emit [q3 1 14 13 0]).pop 13).pop 15).emit [qi 16 12 12 4294967295]).emit [qi 27 0 15 0]
def sf(st:Om):List Tf→Qg→Qg
 | [],s=>s
 | f::r,s=>sf st r (gF st f s)
def oR:List Tf→Om×Qg→Om×Qg
 | [],p=>p
 | f::r,p=>oR r (gH p.1 f.name p.2.labs.length,p.2.lab)
def zf(fs:List Tf):Qg:=
 let p:=oR fs ([],⟨[],[],[]⟩)
 sf p.1 fs (((p.2.emit [qi 16 14 0 16384]).jump 40 15 0 (bO p.1 ed)).emit [⟨48,0,0,0,0⟩])
def iF:List Qi→Nat→Int→List Qi
 | [],_,_=> []
 | i::l,0,n=>{i with imm:=n}::l
 | i::l,k+1,n=>i::iF l k n
def ol(labs:List Int):List (Int×Int)→List Qi→List Qi
 | [],l=>l
 | p::r,l=>ol labs r (iF l p.1.toNat (wU (labs.getD p.2.toNat 0-p.1)))
def jb(fs:List Tf):List Qi:=ol (zf fs).labs (zf fs).fixes (zf fs).code
def s9(L:Int→Int)(p:Nat):List (Int×Int)→List Qi→List Qi
 | [],l=>l
 | f::r,l=>s9 L p r (iF l (f.1.toNat-p) (wU (L f.2-f.1)))
def Na(p n:Nat)(fs:List (Int×Int)):Prop:=∀f∈fs,(p:Int)≤f.1∧f.1<p+n
theorem jx:∀(l:List Qi)(k:Nat)(n:Int),(iF l k n).length=l.length
 | [],_,_=>rfl
 | _::_,0,_=>rfl
 | _::l,k+1,n=>congrArg (· +1) (jx l k n)
theorem wa(L:Int→Int)(p:Nat):∀(fs:List (Int×Int))(l:List Qi),(s9 L p fs l).length=l.length
 | [],l=>rfl
 | f::r,l=>by unfold s9;rw [wa L p r,jx]
theorem pM:∀(a b:List Qi)(k:Nat)(n:Int),k<a.length→iF (a++b) k n=iF a k n++b
 | [],_,_,_,h=>absurd h (Nat.not_lt_zero _)
 | _::_,_,0,_,_=>rfl
 | x::a,b,k+1,n,h=>congrArg (x:: ·) (pM a b k n (Nat.lt_of_succ_lt_succ h))
theorem nQ:∀(a b:List Qi)(k:Nat)(n:Int),a.length≤k→iF (a++b) k n=a++iF b (k-a.length) n
 | [],_,_,_,_=>rfl
 | _::_,_,0,_,h=>absurd h (Nat.not_succ_le_zero _)
 | x::a,b,k+1,n,h=>by
  rw [bR,Nat.add_sub_add_right];exact congrArg (x:: ·) (nQ a b k n (Nat.le_of_succ_le_succ h))
theorem xJ(L:Int→Int)(p:Nat):∀(fs:List (Int×Int))(a b:List Qi),Na p a.length fs→s9 L p fs (a++b)=s9 L p fs a++b
 | [],a,b,_=>rfl
 | f::r,a,b,h=>by
  have hf:=h f (by simp);unfold s9;rw [pM a b _ _ (by omega),xJ L p r _ b (fun g hg=>by rw [jx];exact h g (by simp [hg]))]
theorem uy(L:Int→Int)(p:Nat):∀(fs:List (Int×Int))(a b:List Qi),Na (p+a.length) b.length fs→s9 L p fs (a++b)=a++s9 L (p+a.length) fs b
 | [],a,b,_=>rfl
 | f::r,a,b,h=>by
  have hf:=h f (by simp);unfold s9;rw [nQ a b _ _ (by omega),uy L p r a _ (fun g hg=>by rw [jx];exact h g (by simp [hg]))]
  congr 3
  omega
theorem BF(L:Int→Int)(p:Nat):∀(f1 f2:List (Int×Int))(l:List Qi),s9 L p (f1++f2) l=s9 L p f2 (s9 L p f1 l)
 | [],f2,l=>rfl
 | f::r,f2,l=>by
  show s9 L p (r++f2) _=s9 L p f2 (s9 L p r _);exact BF L p r f2 _
theorem Ii(L:Int→Int)(p:Nat)(f1 f2:List (Int×Int))(a b:List Qi)(h1:Na p a.length f1)(h2:Na (p+a.length) b.length f2):
  s9 L p (f1++f2) (a++b)=s9 L p f1 a++s9 L (p+a.length) f2 b:=by
 rw [BF,xJ L p f1 a b h1,uy L p f2 _ b (by rw [wa];exact h2),wa]
structure Res(K:(Int→Int)→Prop)(s s':Qg)(r:List Qi):Prop where
 ex:∃raw fs ls,s'.code=s.code++raw∧raw.length=r.length∧s'.fixes=s.fixes++fs∧s'.labs=s.labs++ls∧Na s.code.length raw.length fs∧
  ∀L:Int→Int,K L→(∀(i:Nat)(n:Int),ls[i]?=some n→L ((s.labs.length+i:Nat):Int)=n)→s9 L s.code.length fs raw=r
theorem Res.nil{K:(Int→Int)→Prop}(s:Qg):Res K s s []:=⟨⟨[],[],[],by simp,rfl,by simp,by simp,fun _ h=>by simp at h,fun _ _ _=>rfl⟩⟩
theorem Res.seq{K:(Int→Int)→Prop}{s s1 s2:Qg}{r1 r2:List Qi}(h1:Res K s s1 r1)(h2:Res K s1 s2 r2):Res K s s2 (r1++r2):=by
 obtain⟨raw1,fs1,ls1,a1,a2,a3,a4,a5,a6⟩:=h1.ex;obtain⟨raw2,fs2,ls2,b1,b2,b3,b4,b5,b6⟩:=h2.ex;have hl:s1.code.length=s.code.length+raw1.length:=by rw [a1,bA]
 have hm:s1.labs.length=s.labs.length+ls1.length:=by rw [a4,bA]
 refine⟨⟨raw1++raw2,fs1++fs2,ls1++ls2,by rw [b1,a1,List.append_assoc],by simp [a2,b2],by rw [b3,a3,List.append_assoc],by rw [b4,a4,List.append_assoc],fun f hf=> ?_,fun L hK hL=> ?_⟩⟩
 ·rw [bA];rcases List.mem_append.1 hf with hf|hf
  ·have:=a5 f hf;omega
  ·have:=b5 f hf;omega
 ·rw [Ii L _ _ _ _ _ a5 (by rw [←hl];exact b5),←hl,a6 L hK fun i n h=>hL i n (by
   rw [List.getElem?_append_left (by obtain⟨h,-⟩:=db.1 h;exact h)];exact h),b6 L hK fun i n h=> ?_]
  rw [hm];have:=hL (ls1.length+i) n (by rw [List.getElem?_append_right (by omega),show ls1.length+i-ls1.length=i by omega];exact h);rw [show s.labs.length+ls1.length+i=s.labs.length+(ls1.length+i) by omega];exact this
theorem Res.emit{K:(Int→Int)→Prop}(s:Qg)(l:List Qi):Res K s (s.emit l) l:=
 ⟨⟨l,[],[],rfl,rfl,by simp [Qg.emit],by simp [Qg.emit],fun _ h=>by simp at h,fun _ _ _=>rfl⟩⟩
theorem Res.jump{K:(Int→Int)→Prop}(s:Qg)(op d a l:Int)(n:Int)(h:∀L,K L→wU (L l-s.code.length)=n):Res K s (s.jump op d a l) [qi op d a n]:=
 ⟨⟨[qi op d a 0],[((s.code.length:Int),l)],[],rfl,rfl,rfl,by simp [Qg.jump],fun f hf=>by
  have:=List.mem_singleton.1 hf;subst this;simp only [bV];omega,fun L hK _=>by
  have:=h L hK;simp only [s9,iF,Int.toNat_natCast,Nat.sub_self,this];rfl⟩⟩
theorem Res.push{K:(Int→Int)→Prop}(s:Qg)(r:Int):Res K s (s.push r) [qi 16 14 14 4294967292,qi 25 r 14 0]:=(Res.emit s _).seq (Res.emit _ _)
theorem Res.pop{K:(Int→Int)→Prop}(s:Qg)(r:Int):Res K s (s.pop r) [qi 23 r 14 0,qi 16 14 14 4]:=(Res.emit s _).seq (Res.emit _ _)
theorem Res.elem{K:(Int→Int)→Prop}(s:Qg)(r:Int):Res K s (s.elem r) [qi 17 r r 255,qi 20 r r 2]:=(Res.emit s _).seq (Res.emit _ _)
theorem Res.weaken{K K':(Int→Int)→Prop}{s s':Qg}{r:List Qi}(h:Res K s s' r)(hk:∀L,K' L→K L):Res K' s s' r:=by
 obtain⟨raw,fs,ls,a1,a2,a3,a4,a5,a6⟩:=h.ex;exact⟨⟨raw,fs,ls,a1,a2,a3,a4,a5,fun L hK=>a6 L (hk L hK)⟩⟩
theorem Res.labels{K:(Int→Int)→Prop}{s s' s'':Qg}{r:List Qi}(ns ms:List Int)(hl:ns.length=ms.length)
  (h:Res (fun L=>K L∧∀(i:Nat)(n:Int),ms[i]?=some n→L ((s.labs.length+i:Nat):Int)=n) {s with labs:=s.labs++ns} s' r)
  (hc:s''.code=s'.code) (hf:s''.fixes=s'.fixes) (hs:∀ls,s'.labs=(s.labs++ns)++ls→s''.labs=(s.labs++ms)++ls):Res K s s'' r:=by
 obtain⟨raw,fs,ls,a1,a2,a3,a4,a5,a6⟩:=h.ex;refine⟨⟨raw,fs,ms++ls,hc.trans a1,a2,hf.trans a3,by rw [hs ls a4,List.append_assoc],a5,fun L hK hL=>a6 L ⟨hK,fun i n hi=>hL i n ?_⟩ fun i n hi=> ?_⟩⟩
 ·rw [List.getElem?_append_left (by obtain⟨h,-⟩:=db.1 hi;exact h)];exact hi
 ·have:=hL (ms.length+i) n (by rw [List.getElem?_append_right (by omega),show ms.length+i-ms.length=i by omega];exact hi);show L (((s.labs++ns).length+i:Nat):Int)=n;rw [bA,hl,show s.labs.length+ms.length+i=s.labs.length+(ms.length+i) by omega];exact this
def fX(r:Int):List Qi:= [qi 16 14 14 4294967292,qi 25 r 14 0]
def lA(r:Int):List Qi:= [qi 23 r 14 0,qi 16 14 14 4]
def tM(r:Int):List Qi:= [qi 17 r r 255,qi 20 r r 2]
def BI(o:Ba):List Qi:=
 if o=gm then [q3 1 1 2 1]else if o=eJ then [q3 2 1 2 1]else if o=gM then [q3 9 1 2 1]else
 if o=fD then [q3 3 1 2 1]else if o=ke then [q3 4 1 2 1]else if o=fJ then [q3 5 1 2 1]else
 if o=gL then [q3 6 1 2 1]else if o=iq then [q3 7 1 2 1]else if o=mj then [q3 11 1 2 1]else
 if o=nj then [q3 11 1 1 2]else if o=nh then [q3 11 1 1 2,qi 19 1 1 1]else if o=oO then [q3 11 1 2 1,qi 19 1 1 1]else
 if o=ng then [q3 5 1 2 1,q3 11 1 0 1]else if o=nk then [q3 5 1 2 1,q3 11 1 0 1,qi 19 1 1 1]else
 if o=kM then [qi 32 1 0 2,q3 10 1 2 1]else
 if o=lS then [q3 1 3 1 0,qi 32 1 0 3,q3 10 3 2 1,q3 9 3 3 1,q3 2 1 2 3]else []
def CN(o:Ba):List Qi:=
 if o=eJ then [q3 2 1 0 1]else if o=u_ then [qi 16 2 0 4294967295,q3 5 1 1 2]else
 if o=tx then [qi 16 2 0 1,q3 11 1 1 2]else []
def qn(n:Int):List Qi:=if jc n=true then [qi 16 1 0 n]else [qi 41 1 0 (n/1024),qi 18 1 1 (n%1024)]
mutual
def zX(o:Om)(S:Ba→Int):Tx→Nat→List Qi
 | .mk k n nm _ kids,p=>
  if k=1 then qn n else if k=2 then [qi 23 1 13 (bO o nm)]else
  if k=5 then [⟨48,0,0,0,2⟩]else
  if k=4 then xO o S kids p++(tM 1++ [qi 23 1 1 8192])else
  if k=6 then xO o S kids p++CN nm else
  if k=7 then xO o S kids p++(fX 1++(L_ o S kids (p+(xO o S kids p).length+2)++(lA 2++BI nm)))else
  if k=3 then xX o S kids p++([qi 40 15 0 (wU (S nm-((p+(xX o S kids p).length:Nat):Int)))]++if kids.length>0 then [qi 16 14 14 (4*kids.length)]else [])else []
def xO(o:Om)(S:Ba→Int):List Tx→Nat→List Qi
 | [],p=> []
 | t::_,p=>zX o S t p
def L_(o:Om)(S:Ba→Int):List Tx→Nat→List Qi
 | [],p=> []
 | _::r,p=>xO o S r p
def xX(o:Om)(S:Ba→Int):List Tx→Nat→List Qi
 | [],p=> []
 | t::r,p=>zX o S t p++(fX 1++xX o S r (p+(zX o S t p).length+2))
end
mutual
def wX:Tx→Nat
 | .mk k n nm _ kids=>
  if k=1 then(qn n).length else if k=2 then 1 else if k=5 then 1 else
  if k=4 then jO kids+3 else if k=6 then jO kids+(CN nm).length else
  if k=7 then jO kids+(Mf kids+(4+(BI nm).length))else
  if k=3 then ta kids+(1+if kids.length>0 then 1 else 0)else 0
def jO:List Tx→Nat
 | []=>0
 | t::_=>wX t
def Mf:List Tx→Nat
 | []=>0
 | _::r=>jO r
def ta:List Tx→Nat
 | []=>0
 | t::r=>wX t+(2+ta r)
end
mutual
theorem g_(o:Om)(S:Ba→Int):∀(t:Tx)(p:Nat),(zX o S t p).length=wX t
 | .mk k n nm _ kids,p=>by
  have h0:=nK o S kids;have h1:=zO o S kids;have hs:=qx o S kids;unfold zX wX;split
  ·rfl
  split
  ·rfl
  split
  ·rfl
  split
  ·rw [bA,h0];rfl
  split
  ·rw [bA,h0]
  split
  ·simp only [bA,h0,h1];simp only [fX,lA,bR,bG];omega
  split
  ·simp only [bA,hs,bR,bG];split<;>rfl
  ·rfl
theorem nK(o:Om)(S:Ba→Int):∀(l:List Tx)(p:Nat),(xO o S l p).length=jO l
 | [],p=>rfl
 | t::_,p=>g_ o S t p
theorem zO(o:Om)(S:Ba→Int):∀(l:List Tx)(p:Nat),(L_ o S l p).length=Mf l
 | [],p=>rfl
 | _::r,p=>nK o S r p
theorem qx(o:Om)(S:Ba→Int):∀(l:List Tx)(p:Nat),(xX o S l p).length=ta l
 | [],p=>rfl
 | t::r,p=>by
  unfold xX ta;rw [bA,bA,g_ o S t,qx o S r];rfl
end
mutual
def zY(o:Om)(S:Ba→Int)(E:Int):Ty→Nat→List Qi
 | .mk k nm _ es _ body _ els,p=>
  if k=1∨k=2 then xO o S es p++ [qi 25 1 13 (bO o nm)]else
  if k=3 then xO o S es p++(fX 1++(L_ o S es (p+jO es+2)++(lA 2++(tM 2++ [qi 25 1 2 8192]))))else
  if k=7 then xO o S es p++ [⟨48,0,0,0,1⟩]else
  if k=6 then xO o S es p++ [qi 40 0 0 (wU (E-((p+jO es:Nat):Int)))]else
  if k=4 then xO o S es p++([qi 32 1 0 (wU (((lw o S E body (p+jO es+1)).length+(if els.length>0 then 1 else 0)+1:Nat):Int))]++(lw o S E body (p+jO es+1)++
   ((if els.length>0 then [qi 40 0 0 (wU (((lw o S E els (p+jO es+1+(lw o S E body (p+jO es+1)).length+(if els.length>0 then 1 else 0))).length+1:Nat):Int))]else [])++
    lw o S E els (p+jO es+1+(lw o S E body (p+jO es+1)).length+(if els.length>0 then 1 else 0)))))else
  if k=5 then xO o S es p++([qi 32 1 0 (wU (((lw o S E body (p+jO es+1)).length+2:Nat):Int))]++(lw o S E body (p+jO es+1)++
   [qi 40 0 0 (wU (-(((lw o S E body (p+jO es+1)).length+jO es+1:Nat):Int)))]))else xO o S es p
def lw(o:Om)(S:Ba→Int)(E:Int):List Ty→Nat→List Qi
 | [],p=> []
 | t::r,p=>zY o S E t p++lw o S E r (p+(zY o S E t p).length)
end
mutual
def wY:Ty→Nat
 | .mk k _ _ es _ body _ els=>
  if k=1∨k=2 then jO es+1 else if k=3 then jO es+(Mf es+7)else if k=7 then jO es+1 else if k=6 then jO es+1 else
  if k=4 then jO es+(fY body+(fY els+(if els.length>0 then 2 else 1)))else
  if k=5 then jO es+(fY body+2)else jO es
def fY:List Ty→Nat
 | []=>0
 | t::r=>wY t+fY r
end
mutual
theorem xW(o:Om)(S:Ba→Int)(E:Int):∀(t:Ty)(p:Nat),(zY o S E t p).length=wY t
 | .mk k nm _ es _ body _ els,p=>by
  have h0:=nK o S es;have h1:=zO o S es;have hb:=fQ o S E body;have he:=fQ o S E els;unfold zY wY;split
  ·simp only [bA,h0];rfl
  split
  ·simp only [bA,h0,h1,fX,lA,tM,bR,bG];omega
  split
  ·simp only [bA,h0];rfl
  split
  ·simp only [bA,h0];rfl
  split
  ·simp only [bA,h0,hb,he,bR,bG];split
   ·simp only [bR,bG];omega
   ·simp only [bR,bG];omega
  split
  ·simp only [bA,h0,hb,bR,bG];omega
  ·exact h0 p
theorem fQ(o:Om)(S:Ba→Int)(E:Int):∀(l:List Ty)(p:Nat),(lw o S E l p).length=fY l
 | [],p=>rfl
 | t::r,p=>by
  unfold lw fY;rw [bA,xW o S E t,fQ o S E r]
end
def jv:Nat→List Qi
 | 0=> []
 | n+1=>fX 0++jv n
theorem kD:∀n,(jv n).length=2*n
 | 0=>rfl
 | n+1=>by
  unfold jv;rw [bA,kD n];show 2+2*n=_;omega
def zF(S:Ba→Int)(f:Tf)(p:Nat):List Qi:=
 let ov:=dP f
 [qi 16 12 12 1,qi 16 2 0 12,qi 35 2 12 2,⟨49,0,0,0,0⟩]++(fX 15++(fX 13++([q3 1 13 14 0]++(jv ov.2.toNat++
  (lw ov.1 S ((p+10+2*ov.2.toNat+fY f.body:Nat):Int) f.body (p+9+2*ov.2.toNat)++
  ([q3 1 1 0 0,q3 1 14 13 0]++(lA 13++(lA 15++ [qi 16 12 12 4294967295,qi 27 0 15 0]))))))))
def wF(f:Tf):Nat:=17+2*(dP f).2.toNat+fY f.body
theorem xZ(S:Ba→Int)(f:Tf)(p:Nat):(zF S f p).length=wF f:=by
 unfold zF wF;simp only [bA,kD,fQ,fX,lA,bR,bG];omega
def C0(S:Ba→Int):List Tf→Nat→List Qi
 | [],p=> []
 | f::r,p=>zF S f p++C0 S r (p+wF f)
def x_:List Tf→Nat
 | []=>0
 | f::r=>wF f+x_ r
theorem qy(S:Ba→Int):∀(l:List Tf)(p:Nat),(C0 S l p).length=x_ l
 | [],p=>rfl
 | f::r,p=>by
  unfold C0 x_;rw [bA,xZ,qy S r]
def iO:List Tf→Nat→Ba→Int
 | [],_,_=>3
 | f::r,p,x=>if f.name=x then(p:Int)else iO r (p+wF f) x
def jN(fs:List Tf):List Qi:= [qi 16 14 0 16384,qi 40 15 0 (wU (iO fs 3 ed-1)),⟨48,0,0,0,0⟩]++C0 (iO fs 3) fs 3
def gR(vp vc vf vl:SV)(ms:Nat)(mo:Option Nat)(mp:Nat)(en:Int):List Value:= [sv vp,sv vc,sv vf,sv vl,.map (some ms),.map mo,.map (some mp),I6 en]
structure Ga where
 g:Nat
 vp:SV
 ms:Nat
 mo:Option Nat
 mp:Nat
 en:Int
def gA(e:Ga)(s:Qg):Asn:=E6 (α:=SV×SV×SV) fun x=> [be e.g 111 (gR e.vp x.1 x.2.1 x.2.2 e.ms e.mo e.mp e.en),own 118 5 iY (sv x.1) s.code,own 171 2 wg (sv x.2.1) s.fixes,own 3 1 eI (sv x.2.2) s.labs]
theorem Nc{α:Type}{l:List α}{i:Nat}(h:i<l.length):l[i]?=some (l[i]'h):=bT h
def Qg.sz(s:Qg):Nat:=s.code.length+s.fixes.length+s.labs.length
theorem AO{n:Nat}{vs:List Value}{R0:List Asn}{L L1:List Asn}{X:Type}{φ:X→Prop}{v:X→Value}{e e':Ga}{s s':Qg}(c:SV×SV×SV→X→SV×SV×SV)
  (h:∀vc vf vl,Spec prog n vs ([be e.g 111 (gR e.vp vc vf vl e.ms e.mo e.mp e.en),own 118 5 iY (sv vc) s.code,own 171 2 wg (sv vf) s.fixes,own 3 1 eI (sv vl) s.labs]++L) R0 φ v
   (fun x=> [be e'.g 111 (gR e'.vp (c (vc,vf,vl) x).1 (c (vc,vf,vl) x).2.1 (c (vc,vf,vl) x).2.2 e'.ms e'.mo e'.mp e'.en),own 118 5 iY (sv (c (vc,vf,vl) x).1) s'.code,own 171 2 wg (sv (c (vc,vf,vl) x).2.1) s'.fixes,own 3 1 eI (sv (c (vc,vf,vl) x).2.2) s'.labs]++L1) (fun _=> [])):
  Spec prog n vs (gA e s::L) R0 φ v (fun _=>gA e' s'::L1) (fun _=> []):=
 Spec.pack (fun _(x:SV×SV×SV)=> [be e'.g 111 (gR e'.vp x.1 x.2.1 x.2.2 e'.ms e'.mo e'.mp e'.en),own 118 5 iY (sv x.1) s'.code,own 171 2 wg (sv x.2.1) s'.fixes,own 3 1 eI (sv x.2.2) s'.labs]) c (fun x=>h x.1 x.2.1 x.2.2)
theorem sH(g:Nat)(vp vc vf vl:SV)(ms:Nat)(mo:Option Nat)(mp:Nat)(en:Int)(s:Qg)(hz:s.sz≤950000)(w:SV)(l:List Qi)(hl:l.length≤1000):
  Spec prog 53 [Pt g,sv w] [be g 111 (gR vp vc vf vl ms mo mp en),own 118 5 iY (sv vc) s.code,own 171 2 wg (sv vf) s.fixes,own 3 1 eI (sv vl) s.labs] [sl 5 iY (sv w) l] (X:=SV) (fun _=>True) (fun _=> .tuple #[]) (fun v=> [be g 111 (gR vp v vf vl ms mo mp en),own 118 5 iY (sv v) (s.emit l).code,own 171 2 wg (sv vf) (s.emit l).fixes,own 3 1 eI (sv vl) (s.emit l).labs]) (fun _=> []):=by
 refine aM func53 J ntmps53 J fun w0 M H=> ?_
 unfold Qg.sz at hz;refine ap (ad J (ad J (bS J (aD mD J (aT 0 BT J J J J (ad J (cN 1 underlying106 fH J (by decide) (fun _=>J) (fun _=>J) J J J (aN (k:=0) J) (by first|omega|(simp;done)|(simp;omega)) (by unfold maxLen;first|omega|(simp;done)|(simp;omega)) J fun v10=>bS J (aD mD J (aB (k:=0) BT J J J J J J J J (aa (cQ v10 O J iz J [0,1,2,3] [] J J J)))))))))))
theorem iJ(e:Ga)(s:Qg)(hz:s.sz≤940000)(w:SV)(l:List Qi)(hl:l.length≤1000):
  bi prog 53 [Pt e.g,sv w] [gA e s] [sl 5 iY (sv w) l] (.tuple #[]) [gA e (s.emit l)]:=by
 exact Spec.map (fun _=>()) (fun _ _=>O) (fun _=>J) (fun _=>J) (fun _=>J) (AO (L:= []) (L1:= []) (fun a(x:SV)=>(x,a.2.1,a.2.2)) fun vc vf vl=>sH e.g e.vp vc vf vl e.ms e.mo e.mp e.en s (by omega) w l hl)
theorem wV(g:Nat)(vp vc vf vl:SV)(ms:Nat)(mo:Option Nat)(mp:Nat)(en:Int)(s:Qg)(hz:s.sz≤950000):
  Spec prog 50 [Pt g] [be g 111 (gR vp vc vf vl ms mo mp en),own 118 5 iY (sv vc) s.code,own 171 2 wg (sv vf) s.fixes,own 3 1 eI (sv vl) s.labs] [] (X:=SV) (fun _=>True) (fun _=>I6 (s.labs.length:Int)) (fun v=> [be g 111 (gR vp vc vf v ms mo mp en),own 118 5 iY (sv vc) (s.lab).code,own 171 2 wg (sv vf) (s.lab).fixes,own 3 1 eI (sv v) (s.lab).labs]) (fun _=> []):=by
 refine aM func50 J ntmps50 J fun w0 M H=> ?_
 unfold Qg.sz at hz;refine ar (aq J (aF J (ad J (ad J (bS J (aD oA J (aT 0 Dj J J J J (bj eI 0 underlying22 t3 J (by decide) (by decide) J J J J fun v8=>cN 3 underlying22 t3 J (by decide) (fun _=>J) (fun _=>J) J J J (aH (k:=8) J) (by first|omega|(simp;done)|(simp;omega)) (by unfold maxLen;first|omega|(simp;done)|(simp;omega)) J fun v9=>bS J (aD oA J (aB (k:=0) Dj J J J J J J J J (aF J (ad J ?_))))))))))));refine bS J (aD oA J (aT 0 Dj J J J J (aS (aL underlying22 J (aH (k:=3) J)) (av J J eL (aq J (aa (az (aQ v9 O J (cc (aP J)) (congrArg (Value.int .i64) (by rw [bA,bV,bU (by omega)];omega)) [0,1,2,3] [] J J J))))))))
theorem fU(e:Ga)(s:Qg)(hz:s.sz≤940000):
  bi prog 50 [Pt e.g] [gA e s] [] (I6 (s.labs.length:Int)) [gA e s.lab]:=by
 exact Spec.map (fun _=>()) (fun _ _=>O) (fun _=>J) (fun _=>J) (fun _=>J) (AO (L:= []) (L1:= []) (fun a(x:SV)=>(a.1,a.2.1,x)) fun vc vf vl=>wV e.g e.vp vc vf vl e.ms e.mo e.mp e.en s (by omega))
theorem wJ(g:Nat)(vp vc vf vl:SV)(ms:Nat)(mo:Option Nat)(mp:Nat)(en:Int)(s:Qg)(hz:s.sz≤950000)(l:Int)(hl:0≤l∧l<s.labs.length):
  bi prog 92 [Pt g,I6 l] [be g 111 (gR vp vc vf vl ms mo mp en),own 118 5 iY (sv vc) s.code,own 171 2 wg (sv vf) s.fixes,own 3 1 eI (sv vl) s.labs] [] (.tuple #[]) [be g 111 (gR vp vc vf vl ms mo mp en),own 118 5 iY (sv vc) (s.place l).code,own 171 2 wg (sv vf) (s.place l).fixes,own 3 1 eI (sv vl) (s.place l).labs]:=by
 refine aM func92 J ntmps92 J fun w0 M H=> ?_
 unfold Qg.sz at hz;refine bQ [4,5,6,7,8,9,10,11,12,13,14] _ J (bH (V:= [(0,4,_),(1,5,_),(2,6,_),(3,7,_),(4,8,_),(5,9,_),(6,10,_),(7,11,_),(8,12,_),(9,13,_),(10,14,_)]) [0,1,2,3,4,5,6,7,8,9,10] 11 [11,10,9,8,7,6,5,4,3,2,1,0] [] (fun _=> []) J J (ay J J (ac J (aj J) (ac J (ah oA J) (ac J (ae Dj J J (ax (k:=0) J J)) (ay J J (ay J J (ac J (aj J) (ac J (ah mD J) (ac J (ae BT J J (ax (k:=0) J J)) (ac J (aL underlying106 J (aH (k:=1) J)) (ac J (aK (j:=l.toNat) underlying22 t3 J J (aH (k:=3) J) (by first|rfl|omega) (by first|omega|(simp;done)|(simp;omega))) ag))))))))))) J J J J J J J J J (fun _ _=>J) J (dn (k:=3) t3 J J J (by intro _;rfl) (Nc (by omega)) J J) (fun _ _=>bn [] J J ag J J J (cQ () O J iz J [0,1,2,3] [] J J J)))
theorem eZ(e:Ga)(s:Qg)(hz:s.sz≤940000)(l:Int)(hl:0≤l∧l<s.labs.length):
  bi prog 92 [Pt e.g,I6 l] [gA e s] [] (.tuple #[]) [gA e (s.place l)]:=by
 exact Spec.map (fun _=>()) (fun _ _=>O) (fun _=>J) (fun _=>J) (fun _=>J) (AO (L:= []) (L1:= []) (fun a(_:Unit)=>a) fun vc vf vl=>wJ e.g e.vp vc vf vl e.ms e.mo e.mp e.en s (by omega) l hl)
theorem y0(g:Nat)(vp vc vf vl:SV)(ms:Nat)(mo:Option Nat)(mp:Nat)(en:Int)(s:Qg)(hz:s.sz≤940000)(op d a l:Int):
  Spec prog 52 [Pt g,I6 op,I6 d,I6 a,I6 l] [be g 111 (gR vp vc vf vl ms mo mp en),own 118 5 iY (sv vc) s.code,own 171 2 wg (sv vf) s.fixes,own 3 1 eI (sv vl) s.labs] [] (X:=SV×SV) (fun _=>True) (fun _=> .tuple #[]) (fun v=> [be g 111 (gR vp v.1 v.2 vl ms mo mp en),own 118 5 iY (sv v.1) (s.jump op d a l).code,own 171 2 wg (sv v.2) (s.jump op d a l).fixes,own 3 1 eI (sv vl) (s.jump op d a l).labs]) (fun _=> []):=by
 refine aM func52 J ntmps52 J fun w0 M H=> ?_
 unfold Qg.sz at hz;refine aZ ?_;refine bQ [10,11,12,13,14,15,16,17,18,19,20,21,22,23,24,25] _ J (aW (V:= [(0,10,_),(1,11,_),(2,12,_),(3,13,_),(4,14,_),(5,15,_),(6,16,_),(7,17,_),(8,18,_),(9,19,_),(10,20,_),(11,21,_)]) [0,1,2,3,4,5,6,7,8,9,10,11] 12 [12,11,10,9,8,7,6,5] [] (fun v22=> []) J J (ay J J (ay J J (ac J (aj J) (ac J (ah qV J) (ac J (ae Gr J J (ax (k:=0) J J)) (ay J J (ac J (aj J) (ac J (ah mD J) (ac J (ae BT J J (ax (k:=0) J J)) (ac J (aL underlying106 J (aH (k:=1) J)) (ay J J (ac J (aR (parts:= [(0,.tmp 19),(1,.tmp 20)]) yj MM J J) ag)))))))))))) J J J J J J J J J J J (fun _ _=>J) J (bE wg (((s.code.length:Nat):Int),l) underlying107 yj J (by decide) (by decide) J J J) (fun v22 _=>aW [0,1,2,3,4] 13 [13,12,11,10,9,8,7,6,5,4,3,2,1] [14,15] (fun v23=> [(14,24,_),(15,25,_)]) J J (ay J J (ay J J (ac J (aj J) (ac J (ah qV J) (ac J (ae Gr J J (ax (k:=0) J J)) ag))))) J J J J J J J J J J J (fun _ _=>J) J (eB 2 underlying107 yj J (by decide) (fun _=>J) (fun _=>J) J J J (aH (k:=22) J) (by first|omega|(simp;done)|(simp;omega)) (by unfold maxLen;first|omega|(simp;done)|(simp;omega))) (fun v23 _=>bH [14,15,0] 16 [16,15,14,13,12,11,10,9,8,7,6,5,4,3,2,1,0] [] (fun _=> []) J J (ac J (aj J) (ac J (ah qV J) (ay J J ag))) J J J J J J J J J (fun _ _=>J) J (da (k:=0) Gr J J J J J J J J) (fun _ _=>bn [] J J ag J J J ?_))));refine ap (ad J (ad J (ad J (ad J (aS (aR (parts:= [(0,.tmp 27),(1,.tmp 28),(2,.tmp 29)]) fH mS J J) (bj iY (qi op d a 0) underlying106 fH J (by decide) (by decide) J J J J fun v31=>cW 31 7 J ch (ak (xs:= [.tmp 26,.tmp 31]) (sH g vp vc v23 vl ms mo mp en {s with fixes:=s.fixes++ [((s.code.length:Int),l)]} (by unfold Qg.sz;simp;omega) v31 [qi op d a 0] (by simp)) xD [0,1,2,3] [(false,7)] [0,1,2,3] (fun vd _=>aa (cQ (vd,v23) O J iz J [0,1,2,3] [] J J J)))))))))
theorem gf(e:Ga)(s:Qg)(hz:s.sz≤940000)(op d a l:Int):
  bi prog 52 [Pt e.g,I6 op,I6 d,I6 a,I6 l] [gA e s] [] (.tuple #[]) [gA e (s.jump op d a l)]:=by
 exact Spec.map (fun _=>()) (fun _ _=>O) (fun _=>J) (fun _=>J) (fun _=>J) (AO (L:= []) (L1:= []) (fun a(x:SV×SV)=>(x.1,x.2,a.2.2)) fun vc vf vl=>y0 e.g e.vp vc vf vl e.ms e.mo e.mp e.en s (by omega) op d a l)
theorem dA(e:Ga)(s:Qg)(hz:s.sz≤940000)(op d a n:Int):
  bi prog 51 [Pt e.g,I6 op,I6 d,I6 a,I3 n] [gA e s] [] (.tuple #[]) [gA e (s.emit [qi op d a n])]:=by
 refine aM func51 J ntmps51 J fun w0 M H=>ap (ad J (ad J (ad J (ad J (ad J (aS (aR (parts:= [(0,.tmp 11),(1,.tmp 12),(2,.tmp 13),(4,.tmp 14)]) fH mS J J) (bj iY (qi op d a n) underlying106 fH J (by decide) (by decide) J J J J fun v16=>cW 16 7 J ch (ak (xs:= [.tmp 10,.tmp 16]) (iJ e (s) (hz) v16 [qi op d a n] (by simp)) xD [0] [(false,7)] [0] (fun _ _=>aa (cQ () O J iz J [0] [] J J J))))))))))
theorem dQ(e:Ga)(s:Qg)(hz:s.sz≤940000)(op d a b:Int):
  bi prog 86 [Pt e.g,I6 op,I6 d,I6 a,I6 b] [gA e s] [] (.tuple #[]) [gA e (s.emit [q3 op d a b])]:=by
 refine aM func86 J ntmps86 J fun w0 M H=>ap (ad J (ad J (ad J (ad J (ad J (aS (aR (parts:= [(0,.tmp 11),(1,.tmp 12),(2,.tmp 13),(3,.tmp 14)]) fH mS J J) (bj iY (q3 op d a b) underlying106 fH J (by decide) (by decide) J J J J fun v16=>cW 16 7 J ch (ak (xs:= [.tmp 10,.tmp 16]) (iJ e (s) (hz) v16 [q3 op d a b] (by simp)) xD [0] [(false,7)] [0] (fun _ _=>aa (cQ () O J iz J [0] [] J J J))))))))))
theorem bN(s:Qg)(l:List Qi):(s.emit l).sz=s.sz+l.length:=by
 unfold Qg.sz Qg.emit;simp only [bA];omega
theorem df(s:Qg)(r:Int):(s.push r).sz=s.sz+2:=by
 unfold Qg.push;rw [bN,bN];rfl
theorem ef(s:Qg)(r:Int):(s.pop r).sz=s.sz+2:=by
 unfold Qg.pop;rw [bN,bN];rfl
theorem dV(s:Qg)(r:Int):(s.elem r).sz=s.sz+2:=by
 unfold Qg.elem;rw [bN,bN];rfl
theorem cx(s:Qg):s.lab.sz=s.sz+1:=by
 unfold Qg.sz Qg.lab;simp only [bA,bV];omega
theorem bZ(s:Qg)(l:Int):(s.place l).sz=s.sz:=by
 unfold Qg.sz Qg.place;rw [List.length_set]
theorem ce(s:Qg)(op d a l:Int):(s.jump op d a l).sz=s.sz+2:=by
 unfold Qg.sz Qg.jump;simp only [bA,bV];omega
theorem jq(e:Ga)(s:Qg)(hz:s.sz≤800000)(r:Int):
  bi prog 95 [Pt e.g,I6 r] [gA e s] [] (.tuple #[]) [gA e (s.push r)]:=by
 refine aM func95 J ntmps95 J fun w0 M H=>ar (ad J (ak (xs:= [.tmp 4,.const (I6 16),.const (I6 14),.const (I6 14),.const (I3 4294967292)]) (dA e (s) (by omega) 16 14 14 4294967292) jT [0] [] [0] (fun _ _=>aa (ap (ad J (ad J (ak (xs:= [.tmp 6,.const (I6 25),.tmp 7,.const (I6 14),.const (I3 0)]) (dA e (s.emit [qi 16 14 14 4294967292]) (by rw [bN];simp;omega) 25 r 14 0) jT [0] [] [0] (fun _ _=>aa (cQ () O J iz J [0] [] J J J)))))))))
theorem nW(e:Ga)(s:Qg)(hz:s.sz≤800000)(r:Int):
  bi prog 97 [Pt e.g,I6 r] [gA e s] [] (.tuple #[]) [gA e (s.pop r)]:=by
 refine aM func97 J ntmps97 J fun w0 M H=>ar (ad J (ad J (ak (xs:= [.tmp 4,.const (I6 23),.tmp 5,.const (I6 14),.const (I3 0)]) (dA e (s) (by omega) 23 r 14 0) jT [0] [] [0] (fun _ _=>aa (ap (ad J (ak (xs:= [.tmp 7,.const (I6 16),.const (I6 14),.const (I6 14),.const (I3 4)]) (dA e (s.emit [qi 23 r 14 0]) (by rw [bN];simp;omega) 16 14 14 4) jT [0] [] [0] (fun _ _=>aa (cQ () O J iz J [0] [] J J J)))))))))
theorem uk(e:Ga)(s:Qg)(hz:s.sz≤800000)(r:Int):
  bi prog 168 [Pt e.g,I6 r] [gA e s] [] (.tuple #[]) [gA e (s.elem r)]:=by
 refine aM func168 J ntmps168 J fun w0 M H=>ar (ad J (ad J (ad J (ak (xs:= [.tmp 4,.const (I6 17),.tmp 5,.tmp 6,.const (I3 255)]) (dA e (s) (by omega) 17 r r 255) jT [0] [] [0] (fun _ _=>aa (ap (ad J (ad J (ad J (ak (xs:= [.tmp 8,.const (I6 20),.tmp 9,.tmp 10,.const (I3 2)]) (dA e (s.emit [qi 17 r r 255]) (by rw [bN];simp;omega) 20 r r 2) jT [0] [] [0] (fun _ _=>aa (cQ () O J iz J [0] [] J J J))))))))))))
abbrev cK(n:Nat)(l:List Nat):Value:= .func (.func n) #[] (l.map fun b=>Value.pointer (some ⟨b,0,none⟩)).toArray
theorem gV(e:Ga)(s:Qg)(hz:s.sz≤900000)(bg:Nat)(bo:Nat)(op:Int):
  bi prog 85 [Pt bg,Pt bo] [gA e s] [be bg 104 [Pt e.g],be bo 3 [I6 op]] (.tuple #[]) [gA e (s.emit [q3 op 1 2 1])]:=by
 refine aM func85 J ntmps85 J fun w0 M H=>ap (aS (ae lK J J (d7 (k:=0) J J)) (aS (ae t3 J J (d7 (k:=1) J J)) (ak (xs:= [.tmp 2,.tmp 3,.const (I6 1),.const (I6 2),.const (I6 1)]) (dQ e (s) (by omega) op 1 2 1) nG [0] [] [0] (fun _ _=>aa (cQ () O J iz J [0] [] J J J)))))
theorem xH(e:Ga)(s:Qg)(hz:s.sz≤900000)(bg:Nat):
  bi prog 87 [Pt bg] [gA e s] [be bg 104 [Pt e.g]] (.tuple #[]) [gA e (s.emit [q3 11 1 1 2])]:=by
 refine aM func87 J ntmps87 J fun w0 M H=>ap (aS (ae lK J J (d7 (k:=0) J J)) (ak (xs:= [.tmp 1,.const (I6 11),.const (I6 1),.const (I6 1),.const (I6 2)]) (dQ e (s) (by omega) 11 1 1 2) nG [0] [] [0] (fun _ _=>aa (cQ () O J iz J [0] [] J J J))))
theorem xG(e:Ga)(s:Qg)(hz:s.sz≤900000)(bg:Nat):
  bi prog 90 [Pt bg] [gA e s] [be bg 104 [Pt e.g]] (.tuple #[]) [gA e ((s.emit [q3 5 1 2 1]).emit [q3 11 1 0 1])]:=by
 refine aM func90 J ntmps90 J fun w0 M H=>ar (aS (ae lK J J (d7 (k:=0) J J)) (ak (xs:= [.tmp 1,.const (I6 5),.const (I6 1),.const (I6 2),.const (I6 1)]) (dQ e (s) (by omega) 5 1 2 1) nG [0] [] [0] (fun _ _=>aa (ap (aS (ae lK J J (d7 (k:=0) J J)) (ak (xs:= [.tmp 3,.const (I6 11),.const (I6 1),.const (I6 0),.const (I6 1)]) (dQ e (s.emit [q3 5 1 2 1]) (by rw [bN];simp;omega) 11 1 0 1) nG [0] [] [0] (fun _ _=>aa (cQ () O J iz J [0] [] J J J))))))))
theorem FK(e:Ga)(s:Qg)(hz:s.sz≤900000)(bg:Nat):
  bi prog 91 [Pt bg] [gA e s] [be bg 104 [Pt e.g]] (.tuple #[]) [gA e (((s.lab.jump 32 1 0 s.labs.length).emit [q3 10 1 2 1]).place s.labs.length)]:=by
 refine aM func91 J ntmps91 J fun w0 M H=>ar (aS (ae lK J J (d7 (k:=0) J J)) (ak (xs:= [.tmp 2]) (fU e s (by omega)) vX [0] [] [0] (fun _ _=>aq J (aF J (aS (ae lK J J (d7 (k:=0) J J)) (ad J (ak (xs:= [.tmp 4,.const (I6 32),.const (I6 1),.const (I6 0),.tmp 5]) (gf e (s.lab) (by simp only [bN,cx,ce,bZ,bV];omega) 32 1 0 (s.labs.length:Int)) tJ [0] [] [0] (fun _ _=>aF J (aS (ae lK J J (d7 (k:=0) J J)) (ak (xs:= [.tmp 7,.const (I6 10),.const (I6 1),.const (I6 2),.const (I6 1)]) (dQ e (s.lab.jump 32 1 0 s.labs.length) (by simp only [bN,cx,ce,bZ,bV];omega) 10 1 2 1) nG [0] [] [0] (fun _ _=>aa (ap (aS (ae lK J J (d7 (k:=0) J J)) ?_)))))))))))))
 refine ad J (ak (xs:= [.tmp 9,.tmp 10]) (eZ e ((s.lab.jump 32 1 0 s.labs.length).emit [q3 10 1 2 1]) (by simp only [bN,cx,ce,bZ,bV];omega) (s.labs.length:Int) (by simp [Qg.lab,Qg.jump,Qg.emit];omega)) sV [0] [] [0] (fun _ _=>aa (cQ () O J iz J [0] [] J J J)))
theorem FJ(e:Ga)(s:Qg)(hz:s.sz≤900000)(bg:Nat):
  bi prog 93 [Pt bg] [gA e s] [be bg 104 [Pt e.g]] (.tuple #[]) [gA e ((((((s.lab.emit [q3 1 3 1 0]).jump 32 1 0 s.labs.length).emit [q3 10 3 2 1]).emit [q3 9 3 3 1]).place s.labs.length).emit [q3 2 1 2 3])]:=by
 refine aM func93 J ntmps93 J fun w0 M H=>ar (aS (ae lK J J (d7 (k:=0) J J)) (ak (xs:= [.tmp 2]) (fU e s (by omega)) vX [0] [] [0] (fun _ _=>aq J (aF J (aS (ae lK J J (d7 (k:=0) J J)) (ak (xs:= [.tmp 4,.const (I6 1),.const (I6 3),.const (I6 1),.const (I6 0)]) (dQ e (s.lab) (by simp only [bN,cx,ce,bZ,bV];omega) 1 3 1 0) nG [0] [] [0] (fun _ _=>aF J (aS (ae lK J J (d7 (k:=0) J J)) (ad J (ak (xs:= [.tmp 6,.const (I6 32),.const (I6 1),.const (I6 0),.tmp 7]) (gf e (s.lab.emit [q3 1 3 1 0]) (by simp only [bN,cx,ce,bZ,bV];omega) 32 1 0 (s.labs.length:Int)) tJ [0] [] [0] (fun _ _=>aF J ?_)))))))))))
 refine aS (ae lK J J (d7 (k:=0) J J)) (ak (xs:= [.tmp 9,.const (I6 10),.const (I6 3),.const (I6 2),.const (I6 1)]) (dQ e ((s.lab.emit [q3 1 3 1 0]).jump 32 1 0 s.labs.length) (by simp only [bN,cx,ce,bZ,bV];omega) 10 3 2 1) nG [0] [] [0] (fun _ _=>aF J (aS (ae lK J J (d7 (k:=0) J J)) (ak (xs:= [.tmp 11,.const (I6 9),.const (I6 3),.const (I6 3),.const (I6 1)]) (dQ e (((s.lab.emit [q3 1 3 1 0]).jump 32 1 0 s.labs.length).emit [q3 10 3 2 1]) (by simp only [bN,cx,ce,bZ,bV];omega) 9 3 3 1) nG [0] [] [0] (fun _ _=>aF J (aS (ae lK J J (d7 (k:=0) J J)) (ad J (ak (xs:= [.tmp 13,.tmp 14]) (eZ e ((((s.lab.emit [q3 1 3 1 0]).jump 32 1 0 s.labs.length).emit [q3 10 3 2 1]).emit [q3 9 3 3 1]) (by simp only [bN,cx,ce,bZ,bV];omega) (s.labs.length:Int) (by simp [Qg.lab,Qg.jump,Qg.emit];omega)) sV [0] [] [0] (fun _ _=>aa (ap (aS (ae lK J J (d7 (k:=0) J J)) (ak (xs:= [.tmp 16,.const (I6 2),.const (I6 1),.const (I6 2),.const (I6 3)]) (dQ e (((((s.lab.emit [q3 1 3 1 0]).jump 32 1 0 s.labs.length).emit [q3 10 3 2 1]).emit [q3 9 3 3 1]).place s.labs.length) (by simp only [bN,cx,ce,bZ,bV];omega) 2 1 2 3) nG [0] [] [0] (fun _ _=>aa (cQ () O J iz J [0] [] J J J))))))))))))))
theorem uv(e:Ga)(s:Qg)(hz:s.sz≤900000)(bg:Nat)(bf n:Nat)(s1:Qg)(hz1:s1.sz≤910000)(hcb:Cb prog n)(hs:Spec prog n ([bg].map fun b=>Value.pointer (some ⟨b,0,none⟩)) [gA e s] [be bg 104 [Pt e.g]] (X:=Unit) (fun _=>True) (fun _=> .tuple #[]) (fun _=> [gA e s1]) (fun _=> [])):
  bi prog 89 [Pt bf,Pt bg] [gA e s] [be bf 1 [cK n [bg]],be bg 104 [Pt e.g]] (.tuple #[]) [gA e (s1.emit [qi 19 1 1 1])]:=by
 refine aM func89 J ntmps89 J fun w0 M H=>ar (aS (ae t1 J J (d7 (k:=0) J J)) (ak (xs:= []) hs hcb [0] [(false,1)] [0] (fun _ _=>aa (ap (aS (ae lK J J (d7 (k:=1) J J)) (ak (xs:= [.tmp 4,.const (I6 19),.const (I6 1),.const (I6 1),.const (I3 1)]) (dA e s1 (by omega) 19 1 1 1) jT [0] [] [0] (fun _ _=>aa (cQ () O J iz J [0] [] J J J))))))))
theorem CL(e:Ga)(s:Qg)(hz:s.sz≤900000)(bg:Nat)(bo:Nat)(bf n:Nat)(s1:Qg)(hz1:s1.sz≤910000)(hcb:Cb prog n)(hs:Spec prog n ([bg,bo].map fun b=>Value.pointer (some ⟨b,0,none⟩)) [gA e s] [be bg 104 [Pt e.g],be bo 3 [I6 11]] (X:=Unit) (fun _=>True) (fun _=> .tuple #[]) (fun _=> [gA e s1]) (fun _=> [])):
  bi prog 89 [Pt bf,Pt bg] [gA e s] [be bf 1 [cK n [bg,bo]],be bg 104 [Pt e.g],be bo 3 [I6 11]] (.tuple #[]) [gA e (s1.emit [qi 19 1 1 1])]:=by
 refine aM func89 J ntmps89 J fun w0 M H=>ar (aS (ae t1 J J (d7 (k:=0) J J)) (ak (xs:= []) hs hcb [0] [(false,1),(false,2)] [0] (fun _ _=>aa (ap (aS (ae lK J J (d7 (k:=1) J J)) (ak (xs:= [.tmp 4,.const (I6 19),.const (I6 1),.const (I6 1),.const (I3 1)]) (dA e s1 (by omega) 19 1 1 1) jT [0] [] [0] (fun _ _=>aa (cQ () O J iz J [0] [] J J J))))))))
structure Oq where
 m:Nat
 bg:Nat
 b0:Nat
 b1:Nat
 b2:Nat
 b3:Nat
 b4:Nat
 b5:Nat
 b6:Nat
 b7:Nat
 b8:Nat
 b9:Nat
 f0:Nat
 f1:Nat
 f2:Nat
def QT(c:Oq):List (Ba×Value):= [(lS,cK 93 [c.bg]),(kM,cK 91 [c.bg]),(nk,cK 89 [c.f2,c.bg]),(ng,cK 90 [c.bg]),(oO,cK 89 [c.f1,c.bg]),(nh,cK 89 [c.f0,c.bg]),(nj,cK 87 [c.bg]),(mj,cK 85 [c.bg,c.b8]),(iq,cK 85 [c.bg,c.b7]),(gL,cK 85 [c.bg,c.b6]),(fJ,cK 85 [c.bg,c.b5]),(ke,cK 85 [c.bg,c.b4]),(fD,cK 85 [c.bg,c.b3]),(gM,cK 85 [c.bg,c.b2]),(eJ,cK 85 [c.bg,c.b1]),(gm,cK 85 [c.bg,c.b0])]
def MZ(g:Nat)(c:Oq):List Asn:= [mp gQ Prod.fst Prod.snd (some c.m) (QT c),be c.bg 104 [Pt g],be c.b0 3 [I6 1],be c.b1 3 [I6 2],be c.b2 3 [I6 9],be c.b3 3 [I6 3],be c.b4 3 [I6 4],be c.b5 3 [I6 5],be c.b6 3 [I6 6],be c.b7 3 [I6 7],be c.b8 3 [I6 11],be c.b9 3 [I6 11],be c.f0 1 [cK 87 [c.bg]],be c.f1 1 [cK 85 [c.bg,c.b9]],be c.f2 1 [cK 90 [c.bg]]]
theorem AllIn.stable{w w':World}{F:Nat→Prop}(hs:∀b,F b→w'.heap[b]?=w.heap[b]?):∀{L:List Asn},AllIn w F L→AllIn w' F L
 | [],_=>trivial
 | A::r,h=>⟨h.1.elim fun G hG=>⟨G,A.stable hG.1 fun b hb=>hs b (hG.2 b hb),hG.2⟩,AllIn.stable hs h.2⟩
theorem AllIn.get{w:World}{F:Nat→Prop}:∀{L:List Asn}{i:Nat}{A:Asn},AllIn w F L→L[i]?=some A→∃G:Nat→Prop,A.pred w G∧∀b,G b→F b
 | [],i,A,_,h=>by simp at h
 | B::r,0,A,h,hi=>by cases hi;exact h.1
 | B::r,i+1,A,h,hi=>AllIn.get h.2 hi
def jj(g:Nat)(c:Oq):Asn:=⟨fun w F=>AllIn w F (MZ g c),fun h hs=>h.stable hs⟩
theorem D6{g:Nat}{c:Oq}{A:Asn}(i:Nat)(h:(MZ g c)[i]?=some A):∀w G,(jj g c).pred w G→(∀b,G b→b<w.heap.size)→∃G',A.pred w G'∧∀b,G' b→G b:=fun w G h2 _=>h2.get h
theorem Km{g:Nat}{c:Oq}:∀w F,AllIn w F (MZ g c)→(jj g c).pred w F:=fun _ _ h=>h
theorem gW(bg:Nat)(op:Int):
  Spec prog 84 [I6 op,Pt bg] [] [] (X:=Nat) (fun _=>True) (fun b=>cK 85 [bg,b]) (fun b=> [be b 3 [I6 op]]) (fun _=> []):=by
 refine aM func84 J ntmps84 J fun w0 M H=>ar (uV J J J fun b2=>aq J (aF J (aS (fA (first:= []) (cap:= [.tmp 1,.tmp 2]) J J) (aq J (aa (az (aQ b2 O J (cc (aP J)) J [2] [] J J J)))))))
theorem sZ(bg:Nat)(n:Nat)(l:List Nat):
  Spec prog 88 [cK n l,Pt bg] [] [] (X:=Nat) (fun _=>True) (fun b=>cK 89 [b,bg]) (fun b=> [be b 1 [cK n l]]) (fun _=> []):=by
 refine aM func88 J ntmps88 J fun w0 M H=>ar (uV J J J fun b2=>aq J (aF J (aS (fA (first:= []) (cap:= [.tmp 2,.tmp 1]) J J) (aq J (aa (az (aQ b2 O J (cc (aP J)) J [2] [] J J J)))))))
theorem D5(g:Nat):
  Spec prog 49 [Pt g] [] [] (X:=Oq) (fun _=>True) (fun c=> .map (some c.m)) (fun c=> [jj g c]) (fun _=> []):=by
 refine aM func49 J ntmps49 J fun w0 M H=>ar (uV J J J fun b1=>aq J (aF J (aS (fA (first:= []) (cap:= [.tmp 1]) J J) (aq J (aF J (aS (fA (first:= []) (cap:= [.tmp 1]) J J) (aq J (aF J (aS (fA (first:= []) (cap:= [.tmp 1]) J J) (aq J ?_))))))))))
 refine aF J (aS (fA (first:= []) (cap:= [.tmp 1]) J J) (aq J (aF J (md (Prod.fst:Ba×Value→Ba) gQ Prod.snd J fun b11=>ad J (ak (xs:= [.const (I6 1)]) (gW b1 1) tI [] [] [60] (fun p0 _=>cv (k:=11) (α:=Ba×Value) (kf:=Prod.fst) (vf:=Prod.snd) (gm,cK 85 [b1,p0]) [(gm,cK 85 [b1,p0])] underlying109 fB J J J J (List.Perm.of_eq J) (ad J (ak (xs:= [.const (I6 2)]) (gW b1 2) tI [] [] [61] (fun p1 _=>cv (k:=11) (α:=Ba×Value) (kf:=Prod.fst) (vf:=Prod.snd) (eJ,cK 85 [b1,p1]) [(eJ,cK 85 [b1,p1]),(gm,cK 85 [b1,p0])] underlying109 fB J J J J (List.Perm.of_eq J) (ad J (ak (xs:= [.const (I6 9)]) (gW b1 9) tI [] [] [62] (fun p2 _=>cv (k:=11) (α:=Ba×Value) (kf:=Prod.fst) (vf:=Prod.snd) (gM,cK 85 [b1,p2]) [(gM,cK 85 [b1,p2]),(eJ,cK 85 [b1,p1]),(gm,cK 85 [b1,p0])] underlying109 fB J J J J (List.Perm.of_eq J) (ad J (ak (xs:= [.const (I6 3)]) (gW b1 3) tI [] [] [63] (fun p3 _=> ?_)))))))))))))))
 refine cv (k:=11) (α:=Ba×Value) (kf:=Prod.fst) (vf:=Prod.snd) (fD,cK 85 [b1,p3]) [(fD,cK 85 [b1,p3]),(gM,cK 85 [b1,p2]),(eJ,cK 85 [b1,p1]),(gm,cK 85 [b1,p0])] underlying109 fB J J J J (List.Perm.of_eq J) (ad J (ak (xs:= [.const (I6 4)]) (gW b1 4) tI [] [] [64] (fun p4 _=>cv (k:=11) (α:=Ba×Value) (kf:=Prod.fst) (vf:=Prod.snd) (ke,cK 85 [b1,p4]) [(ke,cK 85 [b1,p4]),(fD,cK 85 [b1,p3]),(gM,cK 85 [b1,p2]),(eJ,cK 85 [b1,p1]),(gm,cK 85 [b1,p0])] underlying109 fB J J J J (List.Perm.of_eq J) (ad J (ak (xs:= [.const (I6 5)]) (gW b1 5) tI [] [] [65] (fun p5 _=>cv (k:=11) (α:=Ba×Value) (kf:=Prod.fst) (vf:=Prod.snd) (fJ,cK 85 [b1,p5]) [(fJ,cK 85 [b1,p5]),(ke,cK 85 [b1,p4]),(fD,cK 85 [b1,p3]),(gM,cK 85 [b1,p2]),(eJ,cK 85 [b1,p1]),(gm,cK 85 [b1,p0])] underlying109 fB J J J J (List.Perm.of_eq J) (ad J (ak (xs:= [.const (I6 6)]) (gW b1 6) tI [] [] [66] (fun p6 _=>cv (k:=11) (α:=Ba×Value) (kf:=Prod.fst) (vf:=Prod.snd) (gL,cK 85 [b1,p6]) [(gL,cK 85 [b1,p6]),(fJ,cK 85 [b1,p5]),(ke,cK 85 [b1,p4]),(fD,cK 85 [b1,p3]),(gM,cK 85 [b1,p2]),(eJ,cK 85 [b1,p1]),(gm,cK 85 [b1,p0])] underlying109 fB J J J J (List.Perm.of_eq J) (ad J (ak (xs:= [.const (I6 7)]) (gW b1 7) tI [] [] [67] (fun p7 _=>cv (k:=11) (α:=Ba×Value) (kf:=Prod.fst) (vf:=Prod.snd) (iq,cK 85 [b1,p7]) [(iq,cK 85 [b1,p7]),(gL,cK 85 [b1,p6]),(fJ,cK 85 [b1,p5]),(ke,cK 85 [b1,p4]),(fD,cK 85 [b1,p3]),(gM,cK 85 [b1,p2]),(eJ,cK 85 [b1,p1]),(gm,cK 85 [b1,p0])] underlying109 fB J J J J (List.Perm.of_eq J) (ad J (ak (xs:= [.const (I6 11)]) (gW b1 11) tI [] [] [68] (fun p8 _=>cv (k:=11) (α:=Ba×Value) (kf:=Prod.fst) (vf:=Prod.snd) (mj,cK 85 [b1,p8]) [(mj,cK 85 [b1,p8]),(iq,cK 85 [b1,p7]),(gL,cK 85 [b1,p6]),(fJ,cK 85 [b1,p5]),(ke,cK 85 [b1,p4]),(fD,cK 85 [b1,p3]),(gM,cK 85 [b1,p2]),(eJ,cK 85 [b1,p1]),(gm,cK 85 [b1,p0])] underlying109 fB J J J J (List.Perm.of_eq J) ?_)))))))))))))))
 refine ad J (cv (k:=11) (α:=Ba×Value) (kf:=Prod.fst) (vf:=Prod.snd) (nj,cK 87 [b1]) [(nj,cK 87 [b1]),(mj,cK 85 [b1,p8]),(iq,cK 85 [b1,p7]),(gL,cK 85 [b1,p6]),(fJ,cK 85 [b1,p5]),(ke,cK 85 [b1,p4]),(fD,cK 85 [b1,p3]),(gM,cK 85 [b1,p2]),(eJ,cK 85 [b1,p1]),(gm,cK 85 [b1,p0])] underlying109 fB J J J J (List.Perm.of_eq J) (ad J (ad J (ak (xs:= [.tmp 32]) (sZ b1 87 [b1]) Ls [] [] [70] (fun q0 _=>cv (k:=11) (α:=Ba×Value) (kf:=Prod.fst) (vf:=Prod.snd) (nh,cK 89 [q0,b1]) [(nh,cK 89 [q0,b1]),(nj,cK 87 [b1]),(mj,cK 85 [b1,p8]),(iq,cK 85 [b1,p7]),(gL,cK 85 [b1,p6]),(fJ,cK 85 [b1,p5]),(ke,cK 85 [b1,p4]),(fD,cK 85 [b1,p3]),(gM,cK 85 [b1,p2]),(eJ,cK 85 [b1,p1]),(gm,cK 85 [b1,p0])] underlying109 fB J J J J (List.Perm.of_eq J) (ad J (ad J (ak (xs:= [.const (I6 11)]) (gW b1 11) tI [] [] [69] (fun p9 _=>ak (xs:= [.tmp 36]) (sZ b1 85 [b1,p9]) Ls [] [] [71] (fun q1 _=>cv (k:=11) (α:=Ba×Value) (kf:=Prod.fst) (vf:=Prod.snd) (oO,cK 89 [q1,b1]) [(oO,cK 89 [q1,b1]),(nh,cK 89 [q0,b1]),(nj,cK 87 [b1]),(mj,cK 85 [b1,p8]),(iq,cK 85 [b1,p7]),(gL,cK 85 [b1,p6]),(fJ,cK 85 [b1,p5]),(ke,cK 85 [b1,p4]),(fD,cK 85 [b1,p3]),(gM,cK 85 [b1,p2]),(eJ,cK 85 [b1,p1]),(gm,cK 85 [b1,p0])] underlying109 fB J J J J (List.Perm.of_eq J) (ad J (cv (k:=11) (α:=Ba×Value) (kf:=Prod.fst) (vf:=Prod.snd) (ng,cK 90 [b1]) [(ng,cK 90 [b1]),(oO,cK 89 [q1,b1]),(nh,cK 89 [q0,b1]),(nj,cK 87 [b1]),(mj,cK 85 [b1,p8]),(iq,cK 85 [b1,p7]),(gL,cK 85 [b1,p6]),(fJ,cK 85 [b1,p5]),(ke,cK 85 [b1,p4]),(fD,cK 85 [b1,p3]),(gM,cK 85 [b1,p2]),(eJ,cK 85 [b1,p1]),(gm,cK 85 [b1,p0])] underlying109 fB J J J J (List.Perm.of_eq J) (ad J (ad J (ak (xs:= [.tmp 40]) (sZ b1 90 [b1]) Ls [] [] [72] (fun q2 _=> ?_))))))))))))))))
 refine cv (k:=11) (α:=Ba×Value) (kf:=Prod.fst) (vf:=Prod.snd) (nk,cK 89 [q2,b1]) [(nk,cK 89 [q2,b1]),(ng,cK 90 [b1]),(oO,cK 89 [q1,b1]),(nh,cK 89 [q0,b1]),(nj,cK 87 [b1]),(mj,cK 85 [b1,p8]),(iq,cK 85 [b1,p7]),(gL,cK 85 [b1,p6]),(fJ,cK 85 [b1,p5]),(ke,cK 85 [b1,p4]),(fD,cK 85 [b1,p3]),(gM,cK 85 [b1,p2]),(eJ,cK 85 [b1,p1]),(gm,cK 85 [b1,p0])] underlying109 fB J J J J (List.Perm.of_eq J) (aS (fA (first:= []) (cap:= [.tmp 1]) J J) (cv (k:=11) (α:=Ba×Value) (kf:=Prod.fst) (vf:=Prod.snd) (kM,cK 91 [b1]) [(kM,cK 91 [b1]),(nk,cK 89 [q2,b1]),(ng,cK 90 [b1]),(oO,cK 89 [q1,b1]),(nh,cK 89 [q0,b1]),(nj,cK 87 [b1]),(mj,cK 85 [b1,p8]),(iq,cK 85 [b1,p7]),(gL,cK 85 [b1,p6]),(fJ,cK 85 [b1,p5]),(ke,cK 85 [b1,p4]),(fD,cK 85 [b1,p3]),(gM,cK 85 [b1,p2]),(eJ,cK 85 [b1,p1]),(gm,cK 85 [b1,p0])] underlying109 fB J J J J (List.Perm.of_eq J) (aS (fA (first:= []) (cap:= [.tmp 1]) J J) (cv (k:=11) (α:=Ba×Value) (kf:=Prod.fst) (vf:=Prod.snd) (lS,cK 93 [b1]) [(lS,cK 93 [b1]),(kM,cK 91 [b1]),(nk,cK 89 [q2,b1]),(ng,cK 90 [b1]),(oO,cK 89 [q1,b1]),(nh,cK 89 [q0,b1]),(nj,cK 87 [b1]),(mj,cK 85 [b1,p8]),(iq,cK 85 [b1,p7]),(gL,cK 85 [b1,p6]),(fJ,cK 85 [b1,p5]),(ke,cK 85 [b1,p4]),(fD,cK 85 [b1,p3]),(gM,cK 85 [b1,p2]),(eJ,cK 85 [b1,p1]),(gm,cK 85 [b1,p0])] underlying109 fB J J J J (List.Perm.of_eq J) (ad J (aq J (aa (az (bh 90 [11,1,60,61,62,63,64,65,66,67,68,69,70,71,72] (L:=MZ g ⟨b11,b1,p0,p1,p2,p3,p4,p5,p6,p7,p8,p9,q0,q1,q2⟩) (C:=jj g ⟨b11,b1,p0,p1,p2,p3,p4,p5,p6,p7,p8,p9,q0,q1,q2⟩) J Km (aQ ⟨b11,b1,p0,p1,p2,p3,p4,p5,p6,p7,p8,p9,q0,q1,q2⟩ O J (cc (aP J)) J [90] [] J J J))))))))))
def xQ(z n:Int):Int:=IntKind.u32.wrap (IntKind.i32.wrap (wU (n*2^(32-z).toNat))/2^(32-z).toNat)
theorem Dx{n:Int}(h:0≤n∧n<4294967296):decide (xQ 18 n=n)=jc n:=by
 unfold xQ jc wU;rw [show((32:Int)-18).toNat=14 from J,←Bool.decide_or];simp only [IntKind.wrap_u32,IntKind.wrap_i32];refine decide_eq_decide.2 ?_;omega
theorem JY{α:Type}{b o n:Nat}{S:TypeId}{c:List Value}{enc:α→List Value}{s:Nat}{l:List α}(hl:l.length=n)(hn:n≤maxLen)(hc:(c.drop o).take (l.flatMap enc).length=l.flatMap enc):∀w G,(be b S c).pred w G→(sl s enc (sv ⟨some ⟨b,o,none⟩,n,n⟩) l).pred w G:=fun w G h=>by
 refine⟨n,by omega,hn,.inr ⟨b,o,by rw [hl];rfl,(h.1 b).2 rfl,fun j u hj=> ?_⟩⟩;simp only [World.cell?,h.2];rw [←hc,List.getElem?_take]at hj;split at hj
 ·rw [List.getElem?_drop]at hj;simpa using hj
 ·simp at hj
theorem OK{b:Int}(hb:0≤b∧b<4294967296):bits .and .u32 b 1023=b%1024:=by
 have h1:bits .and .u32 b 1023=IntKind.u32.wrap (((BitVec.ofInt 32 b&&&BitVec.ofInt 32 1023).toNat:Nat):Int):=J;have h2:(BitVec.ofInt 32 b).toNat=b.toNat:=by
  rw [BitVec.toNat_ofInt,Int.emod_eq_of_lt hb.1 (by omega)]
 have h3:(BitVec.ofInt 32 1023).toNat=2^10-1:=by decide
 rw [h1,BitVec.toNat_and,h2,h3,Nat.and_two_pow_sub_one_eq_mod,cf (by omega)];omega
theorem OJ{b:Int}(hb:0≤b∧b<4294967296):bits .and .u32 b 262143=b%262144:=by
 have h1:bits .and .u32 b 262143=IntKind.u32.wrap (((BitVec.ofInt 32 b&&&BitVec.ofInt 32 262143).toNat:Nat):Int):=J;have h2:(BitVec.ofInt 32 b).toNat=b.toNat:=by
  rw [BitVec.toNat_ofInt,Int.emod_eq_of_lt hb.1 (by omega)]
 have h3:(BitVec.ofInt 32 262143).toNat=2^18-1:=by decide
 rw [h1,BitVec.toNat_and,h2,h3,Nat.and_two_pow_sub_one_eq_mod,cf (by omega)];omega
theorem OI{b:Int}(hb:0≤b∧b<4294967296):bits .and .u32 b 4194303=b%4194304:=by
 have h1:bits .and .u32 b 4194303=IntKind.u32.wrap (((BitVec.ofInt 32 b&&&BitVec.ofInt 32 4194303).toNat:Nat):Int):=J;have h2:(BitVec.ofInt 32 b).toNat=b.toNat:=by
  rw [BitVec.toNat_ofInt,Int.emod_eq_of_lt hb.1 (by omega)]
 have h3:(BitVec.ofInt 32 4194303).toNat=2^22-1:=by decide
 rw [h1,BitVec.toNat_and,h2,h3,Nat.and_two_pow_sub_one_eq_mod,cf (by omega)];omega
theorem BY(n z:Int)(hn:0≤n∧n<4294967296)(hz:z=18∨z=22):
  bi prog 204 [I3 n,I6 z] [] [] (I3 (xQ z n)) []:=by
 refine aM func204 J ntmps204 J fun w0 M H=>ar (aq J (aa (aZ (aC (ar (ad J (av J J cy (aq J (aa (am J (fun h1=> ?_) (fun h1=> ?_)))))))))))
 ·exact absurd h1 (by simp;omega)
 ·(try simp only [bk]at h1);refine ar (ad J (av J J ig (aq J (aa (am J (fun h2=> ?_) (fun h2=> ?_))))))
  ·exact absurd h2 (by simp;omega)
  ·(try simp only [bk]at h2);refine aA (ar (ad J (ad J (av J J eL (av J J (jd (by omega) (by first|decide|(simp [IntKind.bits];omega)) J) (aS (cB underlying41 underlying21 J (by first|exact C4 (by omega) (by omega)|rfl)) (ad J (av J J eL (av J J (s6 (by omega) (by first|decide|(simp [IntKind.bits];omega)) J) (aS (cB underlying21 underlying41 J (by first|exact cf (by omega)|rfl)) (aq J (aa (az (aQ () O J (cc (aP J)) J [] [] J J J))))))))))))))
theorem uh(n z:Int)(hn:0≤n∧n<4294967296)(hz:z=18∨z=22):
  bi prog 190 [I3 n,I6 z] [] [] (.bool (decide (xQ z n=n))) []:=by
 refine aM func190 J ntmps190 J fun w0 M H=>ar (aq J (aF J (ad J (ad J (ak (xs:= [.tmp 5,.tmp 6]) (BY n z hn hz) NK [] [] [] (fun _ _=>ad J (av J J br (aq J (aa (az (aQ () O J (cc (aP J)) J [] [] J J J)))))))))))
theorem zA(d n:Int)(hn:0≤n∧n<4294967296):
  bi prog 203 [I6 d,I3 n] [] [] (.agg (iY (qi 41 d 0 (n/1024))++iY (qi 18 d d (n%1024))).toArray) []:=by
 refine aM func203 J ntmps203 J fun w0 M H=>ar (aX BP J J fun b4=>aF J (ad J (ad J (av J J (s6 (by decide) (by decide) (show n/2^(10:Int).toNat=n/1024 from J)) (aS (aR (parts:= [(0,.const (I6 41)),(1,.tmp 5),(4,.tmp 7)]) fH mS J J) (ad J (ad J (ad J (av J J (BD (OK hn)) (aS (aR (parts:= [(0,.const (I6 18)),(1,.tmp 9),(2,.tmp 10),(4,.tmp 12)]) fH mS J J) (aS (D1 (D:= .bool) (vs:= [(0,.agg (iY (qi 41 d 0 (n/1024))).toArray),(1,.agg (iY (qi 18 d d (n%1024))).toArray)]) (cs:=(iY (qi 41 d 0 (n/1024))++iY (qi 18 d d (n%1024))).toArray) (parts:= [(0,.tmp 8),(1,.tmp 13)]) BP fH J (by kernel_rfl)) (au (k:=4) BP J J J J J J (aa (az ?_))))))))))))))
 refine aQ () O J (cc (bp BP J J J (a_ (k:=4) J))) J [] [] J J J
theorem D9(e:Ga)(s:Qg)(hz:s.sz≤900000)(n:Int)(hn:0≤n∧n<4294967296):
  bi prog 189 [Pt e.g,I3 n] [gA e s] [] (.tuple #[]) [gA e (sd n s)]:=by
 refine aM func189 J ntmps189 J fun w0 M H=>aV (ad J (ak (xs:= [.tmp 5,.const (I6 18)]) (uh n 18 hn (.inl J)) I8 [] [] [] (fun _ _=>aa (am J (fun h1=> ?_) (fun h1=> ?_)))))
 ·have hf:jc n=true:=by rw [←Dx hn];exact h1
  rw [show sd n s=s.emit [qi 16 1 0 n]from aw hf];refine ar (ad J (ad J (ak (xs:= [.tmp 7,.const (I6 16),.const (I6 1),.const (I6 0),.tmp 8]) (dA e s (by omega) 16 1 0 n) jT [0] [] [0] (fun _ _=>aa (az (aQ () O J iz J [0] [] J J J))))))
 ·have hf:jc n=false:=by rw [←Dx hn];exact h1
  rw [show sd n s=s.emit [qi 41 1 0 (n/1024),qi 18 1 1 (n%1024)]from ai (by rw [hf];simp)];refine aA (ar (ad J (ak (xs:= [.const (I6 1),.tmp 10]) (zA 1 n hn) NL [] [] [] (fun _ _=>aX BP J J fun b4=>au (k:=4) BP J J J J J J (aa (ap (ad J (aS (wN underlying281 fH J (by decide)) (cW 4 7 J (JY (o:=0) (n:=2) (s:=5) (enc:=iY) (l:= [qi 41 1 0 (n/1024),qi 18 1 1 (n%1024)]) J (by decide) J) (ak (xs:= [.tmp 12,.tmp 13]) (iJ e s (by omega) ⟨some ⟨b4,0,none⟩,2,2⟩ [qi 41 1 0 (n/1024),qi 18 1 1 (n%1024)] (by simp)) xD [0] [(false,7)] [0] (fun _ _=>aa (cQ () O J iz J [0] [] J J J))))))))))))
structure Sh where
 k:Bool
 d:Bool
 a:Bool
 b:Bool
 kd:Int
 bt:Int
 mo:Int
deriving DecidableEq
def oN:Sh:=⟨false,false,false,false,0,0,0⟩
def pw(s:Sh):List Value:= [.bool s.k,.bool s.d,.bool s.a,.bool s.b,I6 s.kd,I6 s.bt,I3 s.mo]
def nI(l:List Sh):List Value:=l.flatMap pw
theorem uL:∀l:List Sh,(nI l).length=l.length*7
 | []=>rfl
 | a::r=>by
  show(pw a++nI r).length=_;rw [bA,uL r,bR,show(pw a).length=7 from J];omega
theorem Ae:∀(l:List Sh)(j:Nat)(x:Sh),l[j]?=some x→((nI l).drop (j*7)).take 7=pw x
 | [],j,x,h=>by simp at h
 | a::r,0,x,h=>by cases h;rfl
 | a::r,j+1,x,h=>by
  show((pw a++nI r).drop ((j+1)*7)).take 7=_;rw [show(j+1)*7=(pw a).length+j*7 by rw [show(pw a).length=7 from J];omega,List.drop_append,List.drop_eq_nil_of_le (by omega),List.nil_append,Nat.add_sub_cancel_left];exact Ae r j x h
theorem Ad:∀(l:List Sh)(j:Nat)(x:Sh),j<l.length→(nI l).take (j*7)++pw x++(nI l).drop (j*7+7)=nI (l.set j x)
 | [],j,x,h=>absurd h (Nat.not_lt_zero _)
 | a::r,0,x,h=>by
  show(nI (a::r)).take 0++pw x++(pw a++nI r).drop 7=pw x++nI r;rfl
 | a::r,j+1,x,h=>by
  have ih:=Ad r j x (Nat.lt_of_succ_lt_succ h);show(pw a++nI r).take ((j+1)*7)++pw x++(pw a++nI r).drop ((j+1)*7+7)=pw a++nI (r.set j x);have e7:(pw a).length=7:=J;rw [show(j+1)*7=(pw a).length+j*7 by omega,List.take_append,List.take_of_length_le (by omega),Nat.add_sub_cancel_left,show(pw a).length+j*7+7=(pw a).length+(j*7+7) by omega,List.drop_append,List.drop_eq_nil_of_le (by omega),List.nil_append,Nat.add_sub_cancel_left,←ih];simp only [List.append_assoc]
def cg(s:Sh):List Sh→List Int→List Sh
 | l,[]=>l
 | l,o::r=>cg s (l.set o.toNat {s with k:=true}) r
theorem eg(s:Sh):∀(l:List Sh)(r:List Int),(cg s l r).length=l.length
 | l,[]=>rfl
 | l,o::r=>by unfold cg;rw [eg s _ r,List.length_set]
theorem mc(s:Sh):∀(l:List Sh)(a b:List Int),cg s l (a++b)=cg s (cg s l a) b
 | l,[],b=>rfl
 | l,o::a,b=>mc s _ a b
def og(lo n:Nat):List Int:=(List.range n).map fun i=>((lo+i:Nat):Int)
theorem w5(lo n:Nat):og lo (n+1)=og lo n++ [((lo+n:Nat):Int)]:=by
 unfold og;rw [List.range_succ,List.map_append];rfl
def yp:Sh:=⟨false,true,true,true,0,0,0⟩
def td:Sh:=⟨false,true,true,false,1,18,0⟩
def F2:Sh:=⟨false,true,true,false,2,18,0⟩
def shL:List Sh:=
 cg ⟨false,false,true,false,2,18,4⟩ (cg ⟨false,true,false,false,2,18,3⟩ (cg ⟨false,false,true,false,0,0,0⟩ (cg oN (cg ⟨false,false,false,false,2,18,0⟩ (cg ⟨false,true,false,false,2,22,0⟩ (cg ⟨false,true,false,false,1,22,0⟩
  (cg td (cg F2 (cg td (cg yp (List.replicate 64 oN) (og 1 12)) (og 16 12)) [17,18,19]) [32,33,34,35,36,37]) [40]) [41]) [48]) [49,50,51]) [52]) [53]) [54]
def dt(op:Int):Sh:=if 0≤op∧op<64 then shL.getD op.toNat oN else oN
theorem yi:TI prog 253 (.array 64 219) (.agg (nI (List.replicate 64 oN)).toArray) 448 2048:=⟨underlying253,by kernel_rfl⟩
def gr(n:Int)(u:Bool):Bool:=decide (n=0) || (u&&decide (n>0)&&decide (n<16))
def kN(s:Sh)(n:Int):Bool:=if s.kd=0 then decide (n=0)else if s.kd=1 then decide (xQ s.bt n=n)else if s.mo>0 then decide (n≤s.mo)else decide (n/2^s.bt.toNat=0)
def qp(i:Qi):Bool:=(dt i.op).k&&gr i.d (dt i.op).d&&gr i.a (dt i.op).a&&gr i.b (dt i.op).b&&kN (dt i.op) i.imm
theorem eY(ba:Nat)(s:Sh)(v:SV)(ops:List Int)(l:List Sh)(hb:∀o∈ops,0≤o∧o<64)(hl:l.length=64)(hol:ops.length≤100):
  bi prog 191 [.agg (pw s).toArray,sv v,Pt ba] [be ba 253 (nI l)] [sl 1 eI (sv v) ops] (.tuple #[]) [be ba 253 (nI (cg s l ops))]:=by
 refine aM func191 J ntmps191 J fun w0 M H=>ar (cA J J fun b3=>aF J (aD A9 J (aB (k:=3) t4 J J J J J J J J (aF J (ad J (aS (aL underlying22 J (aN (k:=0) J)) (ad J (aa (aC (bI (X:=Nat) (fun i=>i≤ops.length) (fun i=> [(2,Pt ba),(3,Pt b3),(8,sv v),(9,I6 (ops.length:Int)),(10,I6 (i:Int))]) (fun i=> [(0,be ba 253 (nI (cg s l (ops.take i)))),(3,be b3 219 (pw {s with k:=true}))]) (fun i=> [(0,sl 1 eI (sv v) ops)]) (fun i=>ops.length-i) 0 (bq _) J J J (fun i n1=>ar ?_)))))))))))
 refine av J J cy (aa (aZ (am J (fun h1=> ?_) (fun h1=> ?_))))
 ·(try simp only [bk]at h1);have hi:i<ops.length:=by omega
  obtain⟨o,hx⟩:∃o,ops[i]?=some o:=⟨_,bT hi⟩
  have ho:=hb o (cd hx);refine aA (aZ (aC (ar (aS (aK (j:=i) underlying22 t3 J J (aN (k:=0) J) (by first|rfl|omega) (by first|omega|(simp;done)|(simp;omega))) (aS (ae t3 J J (bJ (aN (k:=0) J) (by intro _;rfl) hx (by rfl))) (aq J (aa (ap (ad J (aS (aJ i6 J J J (a_ (k:=3) J)) (aS (d9 (j:=o.toNat) underlying253 i6 J J (by omega) (by omega)) ?_)))))))))));refine aB (k:=0) (us:=pw {s with k:=true}) (c':=nI ((cg s l (ops.take i)).set o.toNat {s with k:=true})) i6 J J J J J J (by rw [uL,eg,hl,show(pw {s with k:=true}).length=7 from J,Nat.ble_eq];omega) (by rw [show(0:Nat)+o.toNat*7=o.toNat*7 by omega];exact Ad _ _ {s with k:=true} (by rw [eg,hl];omega)) ?_;refine aa (ap (av J J aO (ad J (aa ?_))));refine aG (i+1) ⟨by omega,by omega⟩ J (by rw [cw hx,mc];rfl) J
 ·(try simp only [bk]at h1);have hi:i=ops.length:=by omega
  subst hi;refine bM (cQ () O J iz J [0] [] J (by rw [cV];rfl) J)
theorem wt:
  bi prog 171 [] [] [] (.agg (nI shL).toArray) []:=by
 refine aM func171 J ntmps171 J fun w0 M H=>ar (aX yi (c:=nI (List.replicate 64 oN)) (by kernel_rfl) J fun b0=>aF J (aX yi (c:=nI (List.replicate 64 oN)) (by kernel_rfl) J fun b1=>aF J (aS (fA (first:= []) (cap:= [.tmp 1]) J J) (aq J (aa (aV (aq J (aa (aC ?_)))))))))
 refine bI (X:=Nat) (fun i=>i≤12) (fun i=> [(0,Pt b0),(1,Pt b1),(2,.func (.func 191) #[] #[Pt b1]),(3,I6 ((1+i:Nat):Int))]) (fun i=> [(0,be b0 253 (nI (List.replicate 64 oN))),(1,be b1 253 (nI (cg yp (List.replicate 64 oN) (og 1 i))))]) (fun i=> []) (fun i=>12-i) 0 (bq _) J J J (fun i n1=>aV (ad J (av J J l7 (aa (am J (fun h1=> ?_) (fun h1=> ?_))))))
 ·(try simp only [bk]at h1);have hi:i<12:=by omega
  refine aA (aZ (aC (ap (ad J (aS (aR (parts:= [(1,.const (.bool Bool.true)),(2,.const (.bool Bool.true)),(3,.const (.bool Bool.true))]) i6 li J J) (ad J (bj eI ((1+i:Nat):Int) underlying22 t3 J (by decide) (by decide) J J J J fun v13=>cW 13 9 J ch (ak (xs:= [.tmp 11,.tmp 13]) (eY b1 yp v13 [((1+i:Nat):Int)] (cg yp (List.replicate 64 oN) (og 1 i)) (by intro o ho;rw [List.mem_singleton.1 ho];omega) (by simp only [eg,List.length_replicate]) (by simp)) l6 [1] [(false,9)] [1] (fun _ _=>aa (ap (ad J (av J J (cC (c:=((1+(i+1):Nat):Int)) (by rw [bU (by omega)];omega)) (aq J (aa ?_))))))))))))));refine aG (i+1) ⟨by omega,by omega⟩ J (by rw [w5 1 i,mc];rfl) J
 ·(try simp only [bk]at h1);have hi:i=12:=by omega
  subst hi;refine bM (aV (aq J (aa (aC (bI (X:=Nat) (fun i=>i≤12) (fun i=> [(0,Pt b0),(1,Pt b1),(2,.func (.func 191) #[] #[Pt b1]),(4,I6 ((16+i:Nat):Int))]) (fun i=> [(0,be b0 253 (nI (List.replicate 64 oN))),(1,be b1 253 (nI (cg td (cg yp (List.replicate 64 oN) (og 1 12)) (og 16 i))))]) (fun i=> []) (fun i=>12-i) 0 (bq _) J J J (fun i n1=>aV (ad J (av J J l7 (aa (am J (fun h2=> ?_) (fun h2=> ?_)))))))))))
  ·(try simp only [bk]at h2);have hi:i<12:=by omega
   refine aA (aZ (aC (ap (ad J (aS (aR (parts:= [(1,.const (.bool Bool.true)),(2,.const (.bool Bool.true)),(4,.const (I6 1)),(5,.const (I6 18))]) i6 li J J) (ad J (bj eI ((16+i:Nat):Int) underlying22 t3 J (by decide) (by decide) J J J J fun v22=>cW 22 9 J ch (ak (xs:= [.tmp 20,.tmp 22]) (eY b1 td v22 [((16+i:Nat):Int)] (cg td (cg yp (List.replicate 64 oN) (og 1 12)) (og 16 i)) (by intro o ho;rw [List.mem_singleton.1 ho];omega) (by simp only [eg,List.length_replicate]) (by simp)) l6 [1] [(false,9)] [1] (fun _ _=>aa (ap (ad J (av J J (cC (c:=((16+(i+1):Nat):Int)) (by rw [bU (by omega)];omega)) (aq J (aa ?_))))))))))))));refine aG (i+1) ⟨by omega,by omega⟩ J (by rw [w5 16 i,mc];rfl) J
  ·(try simp only [bk]at h2);have hi:i=12:=by omega
   subst hi;refine bM (ar (ad J (aS (aR (parts:= [(1,.const (.bool Bool.true)),(2,.const (.bool Bool.true)),(4,.const (I6 2)),(5,.const (I6 18))]) i6 li J J) (dz eI [17,18,19] (parts:= [(0,.const (I6 17)),(1,.const (I6 18)),(2,.const (I6 19))]) underlying22 t3 J (by decide) (by intro _;rfl) J (by decide) (by decide) J J J J fun v26=>cW 26 9 J ch (ak (xs:= [.tmp 25,.tmp 26]) (eY b1 F2 v26 [17,18,19] (cg td (cg yp (List.replicate 64 oN) (og 1 12)) (og 16 12)) (by decide) (by simp only [eg,List.length_replicate]) (by decide)) l6 [1] [(false,9)] [1] (fun _ _=>aF J (ad J (aS (aR (parts:= [(1,.const (.bool Bool.true)),(2,.const (.bool Bool.true)),(4,.const (I6 1)),(5,.const (I6 18))]) i6 li J J) (dz eI [32,33,34,35,36,37] (parts:= [(0,.const (I6 32)),(1,.const (I6 33)),(2,.const (I6 34)),(3,.const (I6 35)),(4,.const (I6 36)),(5,.const (I6 37))]) underlying22 t3 J (by decide) (by intro _;rfl) J (by decide) (by decide) J J J J fun v30=>cW 30 9 J ch (ak (xs:= [.tmp 29,.tmp 30]) (eY b1 td v30 [32,33,34,35,36,37] (cg F2 (cg td (cg yp (List.replicate 64 oN) (og 1 12)) (og 16 12)) [17,18,19]) (by decide) (by simp only [eg,List.length_replicate]) (by decide)) l6 [1] [(false,9)] [1] (fun _ _=>aF J (ad J ?_))))))))))))
   refine aS (aR (parts:= [(1,.const (.bool Bool.true)),(4,.const (I6 1)),(5,.const (I6 22))]) i6 li J J) (bj eI 40 underlying22 t3 J (by decide) (by decide) J J J J fun v34=>cW 34 9 J ch (ak (xs:= [.tmp 33,.tmp 34]) (eY b1 ⟨false,true,false,false,1,22,0⟩ v34 [40] (cg td (cg F2 (cg td (cg yp (List.replicate 64 oN) (og 1 12)) (og 16 12)) [17,18,19]) [32,33,34,35,36,37]) (by decide) (by simp only [eg,List.length_replicate]) (by decide)) l6 [1] [(false,9)] [1] (fun _ _=>aF J (ad J (aS (aR (parts:= [(1,.const (.bool Bool.true)),(4,.const (I6 2)),(5,.const (I6 22))]) i6 li J J) (bj eI 41 underlying22 t3 J (by decide) (by decide) J J J J fun v38=>cW 38 9 J ch (ak (xs:= [.tmp 37,.tmp 38]) (eY b1 ⟨false,true,false,false,2,22,0⟩ v38 [41] (cg ⟨false,true,false,false,1,22,0⟩ (cg td (cg F2 (cg td (cg yp (List.replicate 64 oN) (og 1 12)) (og 16 12)) [17,18,19]) [32,33,34,35,36,37]) [40]) (by decide) (by simp only [eg,List.length_replicate]) (by decide)) l6 [1] [(false,9)] [1] (fun _ _=>aF J (ad J (aS (aR (parts:= [(4,.const (I6 2)),(5,.const (I6 18))]) i6 li J J) (bj eI 48 underlying22 t3 J (by decide) (by decide) J J J J fun v42=>cW 42 9 J ch (ak (xs:= [.tmp 41,.tmp 42]) (eY b1 ⟨false,false,false,false,2,18,0⟩ v42 [48] (cg ⟨false,true,false,false,2,22,0⟩ (cg ⟨false,true,false,false,1,22,0⟩ (cg td (cg F2 (cg td (cg yp (List.replicate 64 oN) (og 1 12)) (og 16 12)) [17,18,19]) [32,33,34,35,36,37]) [40]) [41]) (by decide) (by simp only [eg,List.length_replicate]) (by decide)) l6 [1] [(false,9)] [1] (fun _ _=> ?_)))))))))))))
   refine aF J (ad J (aS (aR (parts:= []) i6 li J J) (dz eI [49,50,51] (parts:= [(0,.const (I6 49)),(1,.const (I6 50)),(2,.const (I6 51))]) underlying22 t3 J (by decide) (by intro _;rfl) J (by decide) (by decide) J J J J fun v46=>cW 46 9 J ch (ak (xs:= [.tmp 45,.tmp 46]) (eY b1 oN v46 [49,50,51] (cg ⟨false,false,false,false,2,18,0⟩ (cg ⟨false,true,false,false,2,22,0⟩ (cg ⟨false,true,false,false,1,22,0⟩ (cg td (cg F2 (cg td (cg yp (List.replicate 64 oN) (og 1 12)) (og 16 12)) [17,18,19]) [32,33,34,35,36,37]) [40]) [41]) [48]) (by decide) (by simp only [eg,List.length_replicate]) (by decide)) l6 [1] [(false,9)] [1] (fun _ _=>aF J (ad J (aS (aR (parts:= [(2,.const (.bool Bool.true))]) i6 li J J) (bj eI 52 underlying22 t3 J (by decide) (by decide) J J J J fun v50=>cW 50 9 J ch (ak (xs:= [.tmp 49,.tmp 50]) (eY b1 ⟨false,false,true,false,0,0,0⟩ v50 [52] (cg oN (cg ⟨false,false,false,false,2,18,0⟩ (cg ⟨false,true,false,false,2,22,0⟩ (cg ⟨false,true,false,false,1,22,0⟩ (cg td (cg F2 (cg td (cg yp (List.replicate 64 oN) (og 1 12)) (og 16 12)) [17,18,19]) [32,33,34,35,36,37]) [40]) [41]) [48]) [49,50,51]) (by decide) (by simp only [eg,List.length_replicate]) (by decide)) l6 [1] [(false,9)] [1] (fun _ _=>aF J (ad J ?_)))))))))))
   refine aS (aR (parts:= [(1,.const (.bool Bool.true)),(4,.const (I6 2)),(5,.const (I6 18)),(6,.const (I3 3))]) i6 li J J) (bj eI 53 underlying22 t3 J (by decide) (by decide) J J J J fun v54=>cW 54 9 J ch (ak (xs:= [.tmp 53,.tmp 54]) (eY b1 ⟨false,true,false,false,2,18,3⟩ v54 [53] (cg ⟨false,false,true,false,0,0,0⟩ (cg oN (cg ⟨false,false,false,false,2,18,0⟩ (cg ⟨false,true,false,false,2,22,0⟩ (cg ⟨false,true,false,false,1,22,0⟩ (cg td (cg F2 (cg td (cg yp (List.replicate 64 oN) (og 1 12)) (og 16 12)) [17,18,19]) [32,33,34,35,36,37]) [40]) [41]) [48]) [49,50,51]) [52]) (by decide) (by simp only [eg,List.length_replicate]) (by decide)) l6 [1] [(false,9)] [1] (fun _ _=>aF J (ad J (aS (aR (parts:= [(2,.const (.bool Bool.true)),(4,.const (I6 2)),(5,.const (I6 18)),(6,.const (I3 4))]) i6 li J J) (bj eI 54 underlying22 t3 J (by decide) (by decide) J J J J fun v58=>cW 58 9 J ch (ak (xs:= [.tmp 57,.tmp 58]) (eY b1 ⟨false,false,true,false,2,18,4⟩ v58 [54] (cg ⟨false,true,false,false,2,18,3⟩ (cg ⟨false,false,true,false,0,0,0⟩ (cg oN (cg ⟨false,false,false,false,2,18,0⟩ (cg ⟨false,true,false,false,2,22,0⟩ (cg ⟨false,true,false,false,1,22,0⟩ (cg td (cg F2 (cg td (cg yp (List.replicate 64 oN) (og 1 12)) (og 16 12)) [17,18,19]) [32,33,34,35,36,37]) [40]) [41]) [48]) [49,50,51]) [52]) [53]) (by decide) (by simp only [eg,List.length_replicate]) (by decide)) l6 [1] [(false,9)] [1] (fun _ _=>aF J (aS (aJ yi J J (by rw [uL];simp only [eg,List.length_replicate]) (a_ (k:=1) J)) (aB (k:=0) (us:=nI shL) (c':=nI shL) yi J J (by kernel_rfl) (by kernel_rfl) (by kernel_rfl) J (by kernel_rfl) (by kernel_rfl) (aa (az (aQ () O J (cc (bp yi J J (by kernel_rfl) (a_ (k:=0) J))) J [] [] J J J)))))))))))))
theorem tP(op:Int):
  bi prog 132 [I6 op] [] [] (.agg (pw (dt op)).toArray) []:=by
 refine aM func132 J ntmps132 J fun w0 M H=>ar (aX i6 J J fun b2=>aF J (ak (xs:= []) wt NZ [] [] [] (fun _ _=>aX yi (c:=nI (List.replicate 64 oN)) (by kernel_rfl) J fun b3=>aB (k:=3) (us:=nI shL) (c':=nI shL) yi J J (by kernel_rfl) (by kernel_rfl) (by kernel_rfl) J (by kernel_rfl) (by kernel_rfl) (aa (aV (ad J (av J J cy (ad J (aI [] J J O (fun hg1=>aY J) J (aI [(8,_)] J J ⟨J,O⟩ (fun hg2=>aU J J ig) J (aS (bK J J J) ?_)))))))))))
 refine aa (am J (fun h3=> ?_) (fun h3=> ?_))
 ·(try simp only [bk]at h3);have hg:dt op=oN:=ai (by omega);rw [hg];refine ar (aS (aR (parts:= []) i6 li J J) (au (k:=2) i6 J J J J J J (aa (az (aQ () O J (cc (bp i6 J J J (a_ (k:=2) J))) J [] [] J J J)))))
 ·(try simp only [bk]at h3);have hn:0≤op∧op<64:=by omega
  have hg:shL[op.toNat]?=some (dt op):=by
   have hl:shL.length=64:=by decide
   unfold dt;rw [aw hn,List.getD_eq_getElem?_getD,bT (by omega)];rfl
  refine aA (ar (ad J (aS (d9 (j:=op.toNat) underlying253 i6 J J (by omega) (by omega)) ?_)));refine te (aJ i6 J J J (mV (us:=pw (dt op)) (k:=3) J (by rw [show(0:Nat)+op.toNat*7=op.toNat*7 by omega,show(pw (dt op)).length=7 from rfl];exact Ae shL _ _ hg))) J ?_;refine au (k:=2) i6 J J J J J J (aa (az (aQ () O J (cc (bp i6 J J J (a_ (k:=2) J))) J [] [] J J J)))
theorem pn(n:Int)(u:Bool):
  bi prog 169 [I6 n,.bool u] [] [] (.bool (gr n u)) []:=by
 refine aM func169 J ntmps169 J fun w0 M H=>ar (aq J (aF J (ad J (av J J br (ad J (aI [] J J O (fun hg1=>aY J) J (aI [(8,_)] J J ⟨J,O⟩ (fun hg2=>aY J) J (cG [] [(8,_),(9,_)] J J O ⟨J,J,O⟩ (fun hg3 hg3'=>aY J) J (cG [(10,_)] [(8,_),(9,_)] J J ⟨J,O⟩ ⟨J,J,O⟩ (fun hg4 hg4'=>aU J J fh) J (aI [(8,_),(9,_)] J J ⟨J,J,O⟩ (fun hg5=>e9 J J J (by first|exact dU|exact ez|exact dh hg5|exact dK hg5|rfl)) J (aI [(8,_),(9,_),(12,_)] J J ⟨J,J,J,O⟩ (fun hg6=>aY J) J (cG [] [(8,_),(9,_),(12,_),(13,_)] J J O ⟨J,J,J,J,O⟩ (fun hg7 hg7'=>aY J) J (cG [(14,_)] [(8,_),(9,_),(12,_),(13,_)] J J ⟨J,O⟩ ⟨J,J,J,J,O⟩ (fun hg8 hg8'=>aU J J cy) J (aI [(8,_),(9,_),(12,_),(13,_)] J J ⟨J,J,J,J,O⟩ (fun hg9=>e9 J J J (by first|exact dU|exact ez|exact dh hg9|exact dK hg9|rfl)) J (aS (bK J J J) ?_)))))))))))))))
 refine aq J (aa (az (aQ () O J (cc (aP J)) J [] [] J J J)))
theorem Cq(s:Sh)(n:Int)(hn:0≤n∧n<4294967296)(hs:s.kd=1→s.bt=18∨s.bt=22)(hb:0≤s.bt∧s.bt<32):
  bi prog 170 [.agg (pw s).toArray,I3 n] [] [] (.bool (kN s n)) []:=by
 refine aM func170 J ntmps170 J fun w0 M H=>ar (cA J J fun b2=>aq J (aa (aZ (aC (ar (aD A8 J (aT 2 t3 J J J J (av J J br (aq J (aa (am J (fun h1=> ?_) (fun h1=> ?_))))))))))))
 ·(try simp only [bk]at h1);have k0:s.kd=0:=h1;refine ar (ad J (av J J br (aq J (aa (az (aQ () O J (cc (aP J)) (by unfold kN;rw [aw k0]) [] [] J J J))))))
 ·(try simp only [bk]at h1);have k0:¬s.kd=0:=h1;refine ar (aD A8 J (aT 2 t3 J J J J (av J J br (aq J (aa (am J (fun h2=> ?_) (fun h2=> ?_)))))))
  ·(try simp only [bk]at h2);have k1:s.kd=1:=h2;refine ar (ad J (aD A7 J (aT 2 t3 J J J J (ak (xs:= [.tmp 15,.tmp 17]) (uh n s.bt hn (hs k1)) I8 [] [] [] (fun _ _=>aq J (aa (az (aQ () O J (cc (aP J)) (by unfold kN;rw [ai k0,aw k1]) [] [] J J J))))))))
  ·(try simp only [bk]at h2);have k1:¬s.kd=1:=h2;refine ar (aD A6 J (aT 2 eG J J J J (av J J fh (aq J (aa (am J (fun h3=> ?_) (fun h3=> ?_)))))))
   ·(try simp only [bk]at h3);have k2:s.mo>0:=h3;refine ar (ad J (aD A6 J (aT 2 eG J J J J (av J J l7 (aq J (aa (az (aQ () O J (cc (aP J)) (by unfold kN;rw [ai k0,ai k1,aw k2]) [] [] J J J))))))))
   ·(try simp only [bk]at h3);have k2:¬s.mo>0:=by omega
    refine aA (ar (ad J (aD A7 J (aT 2 t3 J J J J (av J J (s6 (by omega) (by first|decide|(simp [IntKind.bits];omega)) J) (av J J br (aq J (aa (az (aQ () O J (cc (aP J)) (by unfold kN;rw [ai k0,ai k1,ai k2]) [] [] J J J))))))))))
theorem JU:∀s∈shL,(s.kd=1→s.bt=18∨s.bt=22)∧0≤s.bt∧s.bt<32∧(s.bt=0∨s.bt=18∨s.bt=22)∧(s.bt=18→s.b=false)∧(s.bt=22→s.a=false∧s.b=false):=by decide
theorem jA(op:Int):((dt op).kd=1→(dt op).bt=18∨(dt op).bt=22)∧0≤(dt op).bt∧(dt op).bt<32∧((dt op).bt=0∨(dt op).bt=18∨(dt op).bt=22)∧((dt op).bt=18→(dt op).b=false)∧((dt op).bt=22→(dt op).a=false∧(dt op).b=false):=by
 unfold dt;split
 ·rename_i h;have hl:shL.length=64:=by decide
  rw [List.getD_eq_getElem?_getD,bT (by omega)];exact JU _ (List.getElem_mem _)
 ·decide
theorem M1{op:Int}(h:(dt op).k=true):0≤op∧op<64:=by
 unfold dt at h;by_cases hc:0≤op∧op<64
 ·exact hc
 ·rw [ai hc]at h;cases h
theorem vO{n:Int}{u:Bool}(h:gr n u=true):0≤n∧n<16:=by
 unfold gr at h;simp only [Bool.or_eq_true,Bool.and_eq_true,decide_eq_true_eq]at h;omega
theorem uG{i:Qi}(h:qp i=true):(0≤i.op∧i.op<64)∧(0≤i.d∧i.d<16)∧(0≤i.a∧i.a<16)∧(0≤i.b∧i.b<16):=by
 unfold qp at h;simp only [Bool.and_eq_true]at h;obtain⟨⟨⟨⟨h1,h2⟩,h3⟩,h4⟩,h5⟩:=h;exact⟨M1 h1,vO h2,vO h3,vO h4⟩
def mX(i:Qi):Int:=i.op*67108864+i.d*4194304+i.a*262144+i.b*16384+i.imm%2^(dt i.op).bt.toNat
def tG(i:Qi):Int:=if qp i=true then mX i else 0
theorem LU{x y:Int}(k:Nat)(hx:0≤x∧x<4294967296)(hx2:x%((2^k:Nat):Int)=0)(hy:0≤y∧y<((2^k:Nat):Int))(hy2:y<4294967296):bits .or .u32 x y=x+y:=by
 obtain⟨a,rfl⟩:=Int.eq_ofNat_of_zero_le hx.1;obtain⟨b,rfl⟩:=Int.eq_ofNat_of_zero_le hy.1;rw [u32_or _ _ hx.1 hx.2 hy.1 hy2];simp only [Int.toNat_natCast];rw [nat_join k a b (by exact_mod_cast hx2) (by exact_mod_cast hy.2)];omega
theorem fW{n:Int}(h:gr n false=true):n=0:=by
 unfold gr at h;simp only [Bool.or_eq_true,Bool.and_eq_true,decide_eq_true_eq,Bool.false_and]at h;simpa using h
theorem Nq{i:Qi}(h:qp i=true)(hi:0≤i.imm∧i.imm<4294967296):
  bits .or .u32 (bits .or .u32 (bits .or .u32 (bits .or .u32 (IntKind.u32.wrap (i.op*2^(26:Int).toNat)) (IntKind.u32.wrap (i.d*2^(22:Int).toNat))) (IntKind.u32.wrap (i.a*2^(18:Int).toNat))) (IntKind.u32.wrap (i.b*2^(14:Int).toNat))) (bits .and .u32 i.imm (IntKind.u32.wrap (IntKind.u32.wrap (1*2^(dt i.op).bt.toNat)-1)))=mX i:=by
 obtain⟨b1,b2,b3,b4⟩:=uG h;unfold qp at h;simp only [Bool.and_eq_true]at h;obtain⟨⟨⟨⟨h1,h2⟩,h3⟩,h4⟩,h5⟩:=h;obtain⟨_,_,_,k1,k2,k3⟩:=jA i.op;rw [show((2:Int)^(26:Int).toNat)=67108864 from J,show((2:Int)^(22:Int).toNat)=4194304 from J,show((2:Int)^(18:Int).toNat)=262144 from J,show((2:Int)^(14:Int).toNat)=16384 from J];rw [lg (n:=i.op*67108864) (by omega) (by omega),lg (n:=i.d*4194304) (by omega) (by omega),lg (n:=i.a*262144) (by omega) (by omega),lg (n:=i.b*16384) (by omega) (by omega)];rw [LU (x:=i.op*67108864) (y:=i.d*4194304) 26 ⟨by omega,by omega⟩ (by omega) ⟨by omega,by omega⟩ (by omega),LU (x:=i.op*67108864+i.d*4194304) (y:=i.a*262144) 22 ⟨by omega,by omega⟩ (by omega) ⟨by omega,by omega⟩ (by omega),LU (x:=i.op*67108864+i.d*4194304+i.a*262144) (y:=i.b*16384) 18 ⟨by omega,by omega⟩ (by omega) ⟨by omega,by omega⟩ (by omega)];unfold mX;rcases k1 with k|k|k
 ·rw [k,show IntKind.u32.wrap (IntKind.u32.wrap (1*2^(0:Int).toNat)-1)=0 from J,show((2:Int)^(0:Int).toNat)=1 from J];have h0:bits .and .u32 i.imm 0=0:=by
   rw [u32_and _ _ hi.1 hi.2 (by omega) (by omega)];simp
  rw [h0,LU 0 ⟨by omega,by omega⟩ (by omega) ⟨by omega,by omega⟩ (by omega)];omega
 ·have hb:i.b=0:=fW (by rw [←k2 k];exact h4);rw [k,show IntKind.u32.wrap (IntKind.u32.wrap (1*2^(18:Int).toNat)-1)=262143 from J,show((2:Int)^(18:Int).toNat)=262144 from J,OJ hi,hb];rw [LU 18 ⟨by omega,by omega⟩ (by omega) ⟨by omega,by omega⟩ (by omega)]
 ·have hb:i.b=0:=fW (by rw [←(k3 k).2];exact h4);have ha:i.a=0:=fW (by rw [←(k3 k).1];exact h3);rw [k,show IntKind.u32.wrap (IntKind.u32.wrap (1*2^(22:Int).toNat)-1)=4194303 from J,show((2:Int)^(22:Int).toNat)=4194304 from J,OI hi,hb,ha];rw [LU 22 ⟨by omega,by omega⟩ (by omega) ⟨by omega,by omega⟩ (by omega)]
theorem zq{i:Qi}(h:qp i=true):0≤mX i∧mX i<4294967296:=by
 obtain⟨b1,b2,b3,b4⟩:=uG h;unfold qp at h;simp only [Bool.and_eq_true]at h;obtain⟨⟨⟨⟨h1,h2⟩,h3⟩,h4⟩,h5⟩:=h;obtain⟨_,_,_,k1,k2,k3⟩:=jA i.op;unfold mX;rcases k1 with k|k|k
 ·rw [k,show((2:Int)^(0:Int).toNat)=1 from J];omega
 ·have hb:i.b=0:=fW (by rw [←k2 k];exact h4);rw [k,show((2:Int)^(18:Int).toNat)=262144 from J];omega
 ·have hb:i.b=0:=fW (by rw [←(k3 k).2];exact h4);have ha:i.a=0:=fW (by rw [←(k3 k).1];exact h3);rw [k,show((2:Int)^(22:Int).toNat)=4194304 from J];omega
theorem Ld(i:Qi):0≤tG i∧tG i<4294967296:=by
 unfold tG;split
 ·rename_i h;exact zq h
 ·omega
def fR(n:Int):List Int:= [n%256,n/256%256,n/65536%256,n/16777216%256]
def K9(i:Qi):Int:=if qp i=true then 0 else 12
theorem yf(i:Qi)(hi:0≤i.imm∧i.imm<4294967296):
  bi prog 131 [.agg (iY i).toArray] [] [] (.bool (qp i)) []:=by
 refine aM func131 J ntmps131 J fun w0 M H=>ar (cA J J fun b1=>aq J (aF J (aD cz J (aT 1 t3 J J J J (ak (xs:= [.tmp 5]) (tP i.op) Jm [] [] [] (fun _ _=>aX i6 J J fun b3=>au (k:=3) i6 J J J J J J (aF J (aD A9 J (aT 3 t4 J J J J (ad J (aI [] J J O (fun hg1=>ah g9 J) J ?_)))))))))))
 refine aI [(10,_)] J J ⟨J,O⟩ (fun hg2=>ae t3 J J (ax (k:=1) J J)) J (aI [(10,_),(11,_)] J J ⟨J,J,O⟩ (fun hg3=>ah HT J) J (aI [(10,_),(11,_),(12,_)] J J ⟨J,J,J,O⟩ (fun hg4=>ae t4 J J (ax (k:=3) J J)) J (jV [(10,_),(11,_),(12,_),(13,_)] J J ⟨J,J,J,J,O⟩ (fun hg5=>bw (xs:= [.tmp 11,.tmp 13]) (pn i.d (dt i.op).d) FB [] [] []) J (aS (bK J J J) (ad J (aI [] J J O (fun hg6=>ah mB J) J (aI [(17,_)] J J ⟨J,O⟩ (fun hg7=>ae t3 J J (ax (k:=1) J J)) J (aI [(17,_),(18,_)] J J ⟨J,J,O⟩ (fun hg8=>ah HR J) J (aI [(17,_),(18,_),(19,_)] J J ⟨J,J,J,O⟩ (fun hg9=>ae t4 J J (ax (k:=3) J J)) J (jV [(17,_),(18,_),(19,_),(20,_)] J J ⟨J,J,J,J,O⟩ (fun hg10=>bw (xs:= [.tmp 18,.tmp 20]) (pn i.a (dt i.op).a) FB [] [] []) J (aS (bK J J J) (ad J (aI [] J J O (fun hg11=>ah mA J) J (aI [(24,_)] J J ⟨J,O⟩ (fun hg12=>ae t3 J J (ax (k:=1) J J)) J (aI [(24,_),(25,_)] J J ⟨J,J,O⟩ (fun hg13=>ah HQ J) J (aI [(24,_),(25,_),(26,_)] J J ⟨J,J,J,O⟩ (fun hg14=>ae t4 J J (ax (k:=3) J J)) J (jV [(24,_),(25,_),(26,_),(27,_)] J J ⟨J,J,J,J,O⟩ (fun hg15=>bw (xs:= [.tmp 25,.tmp 27]) (pn i.b (dt i.op).b) FB [] [] []) J (aS (bK J J J) (ad J ?_)))))))))))))))))));refine aI [] J J O (fun hg16=>aJ i6 J J J (a_ (k:=3) J)) J (aI [(31,_)] J J ⟨J,O⟩ (fun hg17=>ah eo J) J (aI [(31,_),(32,_)] J J ⟨J,J,O⟩ (fun hg18=>ae eG J J (ax (k:=1) J J)) J (jV [(31,_),(32,_),(33,_)] J J ⟨J,J,J,O⟩ (fun hg19=>bw (xs:= [.tmp 31,.tmp 33]) (Cq (dt i.op) i.imm hi (jA i.op).1 ⟨(jA i.op).2.1,(jA i.op).2.2.1⟩) N0 [] [] []) J (aS (bK J J J) (aq J (aa (az (aQ () O J (cc (aP J)) J [] [] J J J))))))))
theorem xp(i:Qi)(hi:0≤i.imm∧i.imm<4294967296):
  bi prog 98 [.agg (iY i).toArray] [] [] (.tuple #[I3 (tG i),I6 (K9 i)]) []:=by
 refine aM func98 J ntmps98 J fun w0 M H=>ar (cA J J fun b1=>aq J (aq J (aa (aV (aS (aJ fH J J J (a_ (k:=1) J)) (ak (xs:= [.tmp 5]) (yf i hi) Oi [] [] [] (fun _ _=>aS (cZ J) (aa (am J (fun h1=> ?_) (fun h1=> ?_))))))))))
 ·have hv:qp i=false:=by simpa using h1
  rw [show tG i=0 from ai (by rw [hv];simp),show K9 i=12 from ai (by rw [hv];simp)];refine ar (aq J (aq J (aa (az (aQ () O J (GN (aP J) (aP J)) J [] [] J J J)))))
 ·have hv:qp i=true:=by simpa using h1
  rw [show tG i=mX i from aw hv,show K9 i=0 from aw hv];obtain⟨b1,b2,b3,b4⟩:=uG hv;obtain⟨_,c1,c2,_⟩:=jA i.op;refine aA (ar (aD cz J (aT 1 t3 J J J J (aS (cB underlying3 underlying41 J (by first|exact cf (by omega)|rfl)) (av J J (jd (by omega) (by first|decide|(simp [IntKind.bits];omega)) J) (aD g9 J (aT 1 t3 J J J J (aS (cB underlying3 underlying41 J (by first|exact cf (by omega)|rfl)) (av J J (jd (by omega) (by first|decide|(simp [IntKind.bits];omega)) J) (av J J (qFS J) (aD mB J (aT 1 t3 J J J J (aS (cB underlying3 underlying41 J (by first|exact cf (by omega)|rfl)) (av J J (jd (by omega) (by first|decide|(simp [IntKind.bits];omega)) J) (av J J (qFS J) (aD mA J (aT 1 t3 J J J J (aS (cB underlying3 underlying41 J (by first|exact cf (by omega)|rfl)) ?_))))))))))))))))));refine av J J (jd (by omega) (by first|decide|(simp [IntKind.bits];omega)) J) (av J J (qFS J) (aq J (aa (aZ ?_))));refine bQ [27,28,29,30,31,32,33,34,35,36,37,2,3] _ J (aW (V:= [(0,27,_),(1,28,_),(2,29,_),(3,30,_),(4,31,_)]) [0,1,2,3,4] 5 [5,4,3] [6,7,8,9,10,11,12] (fun _=> [(6,33,_),(7,34,_),(8,35,_),(9,36,_),(10,37,_),(11,2,_),(12,3,_)]) J J (ay J J (ac J (ah eo J) (ac J (ae eG J J (ax (k:=1) J J)) (ac J (ah cz J) (ac J (ae t3 J J (ax (k:=1) J J)) ag))))) J J J J J J J J J J J (fun _ _=>J) J (bw (xs:= [.tmp 31]) (tP i.op) Jm [] [] []) (fun _ _=>bn [6,7,8,9,10,11,12,0,1,2] J J (ac J (wM HH t3 J J) (ac J (aU J J (jd (by omega) (by first|decide|(simp [IntKind.bits];omega)) J)) (ac J (aU J J FR) (ac J (aU J J (BD J)) (ac J (aU J J (qFS J)) (ac J (cT J) (ac J (cT J) (ay J J (ac J (ah eo J) (ac J (ae eG J J (ax (k:=1) J J)) ag)))))))))) J J J ?_));refine az (aQ () O J (GN (aP J) (aP J)) (congrArg (fun z=>Value.tuple #[Value.int .u32 z,Value.int .i64 0]) (Nq hv hi)) [] [] J J J)
theorem DT(n:Int)(hn:0≤n∧n<4294967296):
  bi prog 100 [I3 n,I6 4] [] [] (Sg (mU (fR n))) []:=by
 refine aM func100 J ntmps100 J fun w0 M H=>ar (aq J (aF J (ad J (aS (cB underlying41 underlying5 J (by first|exact C3 (by omega) (by omega)|rfl)) (ad J (av J J (s6 (by omega) (by first|decide|(simp [IntKind.bits];omega)) J) (aS (cB underlying41 underlying5 J (by first|exact C3 (by omega) (by omega)|rfl)) (ad J (av J J (s6 (by omega) (by first|decide|(simp [IntKind.bits];omega)) J) (aS (cB underlying41 underlying5 J (by first|exact C3 (by omega) (by omega)|rfl)) (ad J (av J J (s6 (by omega) (by first|decide|(simp [IntKind.bits];omega)) J) (aS (cB underlying41 underlying5 J (by first|exact C3 (by omega) (by omega)|rfl)) (dz ct (fR n) (parts:= [(0,.tmp 7),(1,.tmp 10),(2,.tmp 13),(3,.tmp 16)]) underlying84 t5 J (by decide) (by intro _;rfl) J (by decide) (by decide) J J J J fun v17=>aq J ?_))))))))))))))
 refine aF J (ad J (ad J (aS (IC J J J) (aS (rO J J J) (aS (na (j:=4) underlying84 t5 J J (aH (k:=17) J) J (cj 4)) (cW 17 17 J ch (Pb 17 18 4 J (cj 4) (aS (D2 underlying84 underlying5 underlying9 J (aN (k:=18) J) (by simp [fR])) (aq J (aa (az (aQ () O J (cc (aP J)) J [] [] J J J))))))))))))
theorem xA(b:Nat)(p:Option Addr)(hp:p=none∨p=some ⟨b,0,none⟩)(v:SV):
  bi prog 133 [Pt b] [be b 177 [.pointer p,sv v]] [] (.tuple #[]) [be b 177 [Pt b,sv v]]:=by
 refine aM func133 J ntmps133 J fun w0 M H=>ar (ad J (bS J (aD vK J (aT 0 JM J J J J (av J J (LC underlying175) (aa (am J (fun h1=> ?_) (fun h1=> ?_))))))))
 ·obtain rfl:p=none:=by cases p with|none=>rfl|some _=>cases h1
  refine ap (ad J (ad J (aS (MV (k:=0) underlying175 underlying255 Gq (by decide) J J (by simp)) (aS (GZ func172 (by kernel_rfl) (by kernel_rfl) (by kernel_rfl) (by kernel_rfl) J) (aS (G3 (k:=0) underlying255 underlying175 Gq J J (by kernel_rfl)) (bS J (aD vK J (aB (k:=0) JM J J J J J J J J (aa (cQ () O J iz J [0] [] J J J))))))))))
 ·obtain rfl:p=some ⟨b,0,none⟩:=hp.resolve_left (fun e=>by subst e;cases h1);refine ar (ad J (bS J (aD vK J (aT 0 JM J J J J (ad J (aS (G1 underlying175 Gq J J) (aa (am J (fun h2=> ?_) (fun h2=> ?_)))))))))
  ·cases h2
  ·refine aA (cQ () O J iz J [0] [] J J J)
theorem BJ(b:Nat)(p:Option Addr)(hp:p=none∨p=some ⟨b,0,none⟩)(v:SV)(l:List Int)(s:Ba)(hl:l.length+s.size≤1000000):
  Spec prog 99 [Pt b,Sg s] [be b 177 [.pointer p,sv v],own 5 1 ct (sv v) l] [] (X:=SV) (fun _=>True) (fun _=> .tuple #[I6 (s.size:Int),.nilIface]) (fun v=> [be b 177 [Pt b,sv v],own 5 1 ct (sv v) (l++bx s)]) (fun _=> []):=by
 refine aM func99 J ntmps99 J fun w0 M H=>ar (aq J (aq J (aF J (ad J (ak (xs:= [.tmp 6]) (xA b p hp v) Oh [0] [] [0] (fun _ _=>aF J (ad J (ad J (bS J (aD qR J (aT 0 yh J J J J (ad J (Cc 1 underlying84 underlying9 t5 J J J J (by omega) J fun v14=> ?_)))))))))))))
 refine bS J (aD qR J (aB (k:=0) yh J J J J J J J J (aF J (ad J (aS (c9 underlying9 J) (aq J (aq J (aa (az (aQ v14 O J (GN (aP J) (aP J)) J [0,1] [] J J J))))))))))
theorem CM(b:Nat)(p:Option Addr)(v:SV)(l:List Int)(hl:l≠ [])(hb:∀n∈l,0≤n∧n<256):
  bi prog 101 [Pt b] [be b 177 [.pointer p,sv v],own 5 1 ct (sv v) l] [] (Sg (mU l)) [be b 177 [.pointer p,sv v]]:=by
 refine aM func101 J ntmps101 J fun w0 M H=>ar (aq J (aa (aZ (bQ [3,4,5,6,7,8,9,10,11,12,13,2] _ J (aW (V:= [(0,3,_),(1,4,_),(2,5,_),(3,6,_),(4,7,_),(5,8,_),(6,9,_),(7,10,_),(8,11,_),(9,12,_)]) [0,1,2,3,4,5,6,7,8,9] 10 [10,9,8,7,6,5,4,3,2,1,0] [11] (fun _=> [(11,2,_)]) J J (ay J J (ac J (aj J) (ac J (ah qR J) (ac J (ae yh J J (ax (k:=0) J J)) (ac J (MU (k:=1) J J hl) (ay J J (ac J (aj J) (ac J (ah qR J) (ac J (ae yh J J (ax (k:=0) J J)) (ac J (aL underlying84 J (aH (k:=1) J)) ag)))))))))) J J J J J J J J J J J (fun _ _=>J) J (Hf (k:=1) underlying221 (by kernel_rfl) J J J hl hb) (fun _ _=>bn [11] J J (ac J (cT J) ag) J J J (az (aQ () O J (cc (aP J)) J [0] [] J J J))))))))
structure Fo where
 is:Bool
 d:Bool
 a:Bool
 b:Bool
 sg:Bool
 bt:Int
 mo:Int
deriving DecidableEq
def L6(f:Fo):List Value:= [.bool f.is,.bool f.d,.bool f.a,.bool f.b,.bool f.sg,I6 f.bt,I3 f.mo]
def zg(op:Int):Fo:=⟨(dt op).k,(dt op).d,(dt op).a,(dt op).b,decide ((dt op).kd=1),(dt op).bt,(dt op).mo⟩
def AC(op:Int):Fo:=
 if 1≤op∧op≤12 then⟨true,true,true,true,false,0,0⟩else if op=17∨op=18∨op=19 then⟨true,true,true,false,false,18,0⟩else if(16≤op∧op≤27)∨(32≤op∧op≤37)then⟨true,true,true,false,true,18,0⟩else if op=40 then⟨true,true,false,false,true,22,0⟩else if op=41 then⟨true,true,false,false,false,22,0⟩else if op=48 then⟨true,false,false,false,false,18,0⟩else if op=49∨op=50∨op=51 then⟨true,false,false,false,false,0,0⟩else if op=52 then⟨true,false,true,false,false,0,0⟩else if op=53 then⟨true,true,false,false,false,18,3⟩else if op=54 then⟨true,false,true,false,false,18,4⟩else⟨false,false,false,false,false,0,0⟩
theorem G_:∀n,n<64→AC ((n:Nat):Int)=zg ((n:Nat):Int):=by decide
theorem yJ{op:Int}(h:0≤op∧op<64):AC op=zg op:=by
 have:=G_ op.toNat (by omega)
 rw [show((op.toNat:Nat):Int)=op by omega]at this;exact this
theorem u7(op:Int):
  bi prog 197 [I6 op] [] [] (.agg (L6 (AC op)).toArray) []:=by
 refine aM func197 J ntmps197 J fun w0 M H=>ar (aX fZ J J fun b2=>aa (aZ (aC (ar (ad J (av J J ig (ad J (aI [] J J O (fun hg1=>aY J) J (aI [(7,_)] J J ⟨J,O⟩ (fun hg2=>aU J J l7) J (aS (bK J J J) (aq J (aa (am J (fun h3=> ?_) (fun h3=> ?_))))))))))))))
 ·(try simp only [bk]at h3);have q1:1≤op∧op≤12:=by omega
  refine ar (aS (aR (parts:= [(0,.const (.bool Bool.true)),(1,.const (.bool Bool.true)),(2,.const (.bool Bool.true)),(3,.const (.bool Bool.true))]) fZ lQ J J) (au (k:=2) fZ J J J J J J (aa (az (aQ () O J (cc (bp fZ J J J (a_ (k:=2) J))) (by unfold AC;rw [aw q1];rfl) [] [] J J J)))))
 ·(try simp only [bk]at h3);have q1:¬(1≤op∧op≤12):=by omega
  refine ar (ad J (av J J br (ad J (aI [] J J O (fun hg4=>aY J) J (aI [(15,_)] J J ⟨J,O⟩ (fun hg5=>aU J J br) J (aS (bK J J J) (ad J (aI [] J J O (fun hg6=>aY J) J (aI [(19,_)] J J ⟨J,O⟩ (fun hg7=>aU J J br) J (aS (bK J J J) (aq J (aa (am J (fun h8=> ?_) (fun h8=> ?_))))))))))))))
  ·(try simp only [bk]at h8);have q2:op=17∨op=18∨op=19:=by omega
   refine ar (aS (aR (parts:= [(0,.const (.bool Bool.true)),(1,.const (.bool Bool.true)),(2,.const (.bool Bool.true)),(5,.const (I6 18))]) fZ lQ J J) (au (k:=2) fZ J J J J J J (aa (az (aQ () O J (cc (bp fZ J J J (a_ (k:=2) J))) (by unfold AC;rw [ai q1,aw q2];rfl) [] [] J J J)))))
  ·(try simp only [bk]at h8);have q2:¬(op=17∨op=18∨op=19):=by omega
   refine ar (ad J (av J J ig (ad J (aI [] J J O (fun hg9=>aY J) J (aI [(27,_)] J J ⟨J,O⟩ (fun hg10=>aU J J l7) J (aS (bK J J J) (ad J (aI [] J J O (fun hg11=>aY J) J (aI [(31,_)] J J ⟨J,O⟩ (fun hg12=>aU J J ig) J (aI [(31,_),(32,_)] J J ⟨J,J,O⟩ (fun hg13=>aY J) J (cG [] [(31,_),(32,_),(33,_)] J J O ⟨J,J,J,O⟩ (fun hg14 hg14'=>aY J) J (cG [(34,_)] [(31,_),(32,_),(33,_)] J J ⟨J,O⟩ ⟨J,J,J,O⟩ (fun hg15 hg15'=>aU J J l7) J (aI [(31,_),(32,_),(33,_)] J J ⟨J,J,J,O⟩ (fun hg16=>e9 J J J (by first|exact dU|exact ez|exact dh hg16|exact dK hg16|rfl)) J (aS (bK J J J) (aq J (aa (am J (fun h17=> ?_) (fun h17=> ?_))))))))))))))))))
   ·(try simp only [bk]at h17);have q3:(16≤op∧op≤27)∨(32≤op∧op≤37):=by omega
    refine ar (aS (aR (parts:= [(0,.const (.bool Bool.true)),(1,.const (.bool Bool.true)),(2,.const (.bool Bool.true)),(4,.const (.bool Bool.true)),(5,.const (I6 18))]) fZ lQ J J) (au (k:=2) fZ J J J J J J (aa (az (aQ () O J (cc (bp fZ J J J (a_ (k:=2) J))) (by unfold AC;rw [ai q1,ai q2,aw q3];rfl) [] [] J J J)))))
   ·(try simp only [bk]at h17);have q3:¬((16≤op∧op≤27)∨(32≤op∧op≤37)):=by omega
    refine ar (ad J (av J J br (aq J (aa (am J (fun h18=> ?_) (fun h18=> ?_))))))
    ·(try simp only [bk]at h18);have q4:op=40:=by omega
     refine ar (aS (aR (parts:= [(0,.const (.bool Bool.true)),(1,.const (.bool Bool.true)),(4,.const (.bool Bool.true)),(5,.const (I6 22))]) fZ lQ J J) (au (k:=2) fZ J J J J J J (aa (az (aQ () O J (cc (bp fZ J J J (a_ (k:=2) J))) (by unfold AC;rw [ai q1,ai q2,ai q3,aw q4];rfl) [] [] J J J)))))
    ·(try simp only [bk]at h18);have q4:¬(op=40):=by omega
     refine ar (ad J (av J J br (aq J (aa (am J (fun h19=> ?_) (fun h19=> ?_))))))
     ·(try simp only [bk]at h19);have q5:op=41:=by omega
      refine ar (aS (aR (parts:= [(0,.const (.bool Bool.true)),(1,.const (.bool Bool.true)),(5,.const (I6 22))]) fZ lQ J J) (au (k:=2) fZ J J J J J J (aa (az (aQ () O J (cc (bp fZ J J J (a_ (k:=2) J))) (by unfold AC;rw [ai q1,ai q2,ai q3,ai q4,aw q5];rfl) [] [] J J J)))))
     ·(try simp only [bk]at h19);have q5:¬(op=41):=by omega
      refine ar (ad J (av J J br (aq J (aa (am J (fun h20=> ?_) (fun h20=> ?_))))))
      ·(try simp only [bk]at h20);have q6:op=48:=by omega
       refine ar (aS (aR (parts:= [(0,.const (.bool Bool.true)),(5,.const (I6 18))]) fZ lQ J J) (au (k:=2) fZ J J J J J J (aa (az (aQ () O J (cc (bp fZ J J J (a_ (k:=2) J))) (by unfold AC;rw [ai q1,ai q2,ai q3,ai q4,ai q5,aw q6];rfl) [] [] J J J)))))
      ·(try simp only [bk]at h20);have q6:¬(op=48):=by omega
       refine ar (ad J (av J J br (ad J (aI [] J J O (fun hg21=>aY J) J (aI [(55,_)] J J ⟨J,O⟩ (fun hg22=>aU J J br) J (aS (bK J J J) (ad J (aI [] J J O (fun hg23=>aY J) J (aI [(59,_)] J J ⟨J,O⟩ (fun hg24=>aU J J br) J (aS (bK J J J) (aq J (aa (am J (fun h25=> ?_) (fun h25=> ?_))))))))))))))
       ·(try simp only [bk]at h25);have q7:op=49∨op=50∨op=51:=by omega
        refine ar (aS (aR (parts:= [(0,.const (.bool Bool.true))]) fZ lQ J J) (au (k:=2) fZ J J J J J J (aa (az (aQ () O J (cc (bp fZ J J J (a_ (k:=2) J))) (by unfold AC;rw [ai q1,ai q2,ai q3,ai q4,ai q5,ai q6,aw q7];rfl) [] [] J J J)))))
       ·(try simp only [bk]at h25);have q7:¬(op=49∨op=50∨op=51):=by omega
        refine ar (ad J (av J J br (aq J (aa (am J (fun h26=> ?_) (fun h26=> ?_))))))
        ·(try simp only [bk]at h26);have q8:op=52:=by omega
         refine ar (aS (aR (parts:= [(0,.const (.bool Bool.true)),(2,.const (.bool Bool.true))]) fZ lQ J J) (au (k:=2) fZ J J J J J J (aa (az (aQ () O J (cc (bp fZ J J J (a_ (k:=2) J))) (by unfold AC;rw [ai q1,ai q2,ai q3,ai q4,ai q5,ai q6,ai q7,aw q8];rfl) [] [] J J J)))))
        ·(try simp only [bk]at h26);have q8:¬(op=52):=by omega
         refine ar (ad J (av J J br (aq J (aa (am J (fun h27=> ?_) (fun h27=> ?_))))))
         ·(try simp only [bk]at h27);have q9:op=53:=by omega
          refine ar (aS (aR (parts:= [(0,.const (.bool Bool.true)),(1,.const (.bool Bool.true)),(5,.const (I6 18)),(6,.const (I3 3))]) fZ lQ J J) (au (k:=2) fZ J J J J J J (aa (az (aQ () O J (cc (bp fZ J J J (a_ (k:=2) J))) (by unfold AC;rw [ai q1,ai q2,ai q3,ai q4,ai q5,ai q6,ai q7,ai q8,aw q9];rfl) [] [] J J J)))))
         ·(try simp only [bk]at h27);have q9:¬(op=53):=by omega
          refine ar (ad J (av J J br (aq J (aa (am J (fun h28=> ?_) (fun h28=> ?_))))))
          ·(try simp only [bk]at h28);have q10:op=54:=by omega
           refine ar (aS (aR (parts:= [(0,.const (.bool Bool.true)),(2,.const (.bool Bool.true)),(5,.const (I6 18)),(6,.const (I3 4))]) fZ lQ J J) (au (k:=2) fZ J J J J J J (aa (az (aQ () O J (cc (bp fZ J J J (a_ (k:=2) J))) (by unfold AC;rw [ai q1,ai q2,ai q3,ai q4,ai q5,ai q6,ai q7,ai q8,ai q9,aw q10];rfl) [] [] J J J)))))
          ·(try simp only [bk]at h28);have q10:¬(op=54):=by omega
           refine aA (ar (aS (aR (parts:= []) fZ lQ J J) (au (k:=2) fZ J J J J J J (aa (az (aQ () O J (cc (bp fZ J J J (a_ (k:=2) J))) (by unfold AC;rw [ai q1,ai q2,ai q3,ai q4,ai q5,ai q6,ai q7,ai q8,ai q9,ai q10];rfl) [] [] J J J))))))
theorem rJ(n:Int)(u:Bool):
  bi prog 212 [I6 n,.bool u] [] [] (.bool (gr n u)) []:=by
 refine aM func212 J ntmps212 J fun w0 M H=>ar (aq J (aF J (ad J (av J J br (ad J (aI [] J J O (fun hg1=>aY J) J (aI [(8,_)] J J ⟨J,O⟩ (fun hg2=>aY J) J (cG [] [(8,_),(9,_)] J J O ⟨J,J,O⟩ (fun hg3 hg3'=>aY J) J (cG [(10,_)] [(8,_),(9,_)] J J ⟨J,O⟩ ⟨J,J,O⟩ (fun hg4 hg4'=>aU J J fh) J (aI [(8,_),(9,_)] J J ⟨J,J,O⟩ (fun hg5=>e9 J J J (by first|exact dU|exact ez|exact dh hg5|exact dK hg5|rfl)) J (aI [(8,_),(9,_),(12,_)] J J ⟨J,J,J,O⟩ (fun hg6=>aY J) J (cG [] [(8,_),(9,_),(12,_),(13,_)] J J O ⟨J,J,J,J,O⟩ (fun hg7 hg7'=>aY J) J (cG [(14,_)] [(8,_),(9,_),(12,_),(13,_)] J J ⟨J,O⟩ ⟨J,J,J,J,O⟩ (fun hg8 hg8'=>aU J J cy) J (aI [(8,_),(9,_),(12,_),(13,_)] J J ⟨J,J,J,J,O⟩ (fun hg9=>e9 J J J (by first|exact dU|exact ez|exact dh hg9|exact dK hg9|rfl)) J (aS (bK J J J) ?_)))))))))))))))
 refine aq J (aa (az (aQ () O J (cc (aP J)) J [] [] J J J)))
theorem JV{n:Int}{z:Int}(hn:0≤n∧n<4294967296)(hz:z=18∨z=22):xQ z n=if n%2^z.toNat≥2^(z-1).toNat then IntKind.u32.wrap (n%2^z.toNat-2^z.toNat)else n%2^z.toNat:=by
 have e32:∀x:Int,IntKind.u32.wrap x=x%4294967296:=fun x=>IntKind.wrap_u32 x
 unfold xQ wU;rcases hz with rfl|rfl
 ·rw [show((32:Int)-18).toNat=14 from J,show(18:Int).toNat=18 from J,show((18:Int)-1).toNat=17 from J,show(2:Int)^14=16384 from J,show(2:Int)^18=262144 from J,show(2:Int)^17=131072 from J];simp only [e32,IntKind.wrap_i32];split<;>omega
 ·rw [show((32:Int)-22).toNat=10 from J,show(22:Int).toNat=22 from J,show((22:Int)-1).toNat=21 from J,show(2:Int)^10=1024 from J,show(2:Int)^22=4194304 from J,show(2:Int)^21=2097152 from J];simp only [e32,IntKind.wrap_i32];split<;>omega
theorem OR{z:Int}(hz:z=18∨z=22):IntKind.u32.wrap (1*2^z.toNat)=2^z.toNat∧IntKind.u32.wrap (1*2^(z-1).toNat)=2^(z-1).toNat∧¬(2:Int)^z.toNat=0:=by
 rcases hz with rfl|rfl<;>exact⟨J,J,by decide⟩
theorem rH(n z:Int)(hn:0≤n∧n<4294967296)(hz:z=18∨z=22):
  bi prog 198 [I3 n,I6 z] [] [] (I3 (xQ z n)) []:=by
 refine aM func198 J ntmps198 J fun w0 M H=> ?_
 rw [JV hn hz];refine ar (aq J (aa (aV (ad J (av J J cy (aa (am J (fun h1=> ?_) (fun h1=> ?_))))))))
 ·exact absurd h1 (by simp;omega)
 ·(try simp only [bk]at h1);refine aA (aV (ad J (av J J ig (aa (am J (fun h2=> ?_) (fun h2=> ?_))))))
  ·exact absurd h2 (by simp;omega)
  ·(try simp only [bk]at h2);refine aA (ar (ad J (ad J (av J J (jd (by omega) (by simp [IntKind.bits];omega) (OR hz).1) (av J J (kA (OR hz).2.2 (Int.tmod_eq_emod_of_nonneg hn.1)) (aq J (aa (aV (ad J (ad J (av J J (gZ (bU (by omega))) (av J J (jd (by omega) (by simp [IntKind.bits];omega) (OR hz).2.1) (av J J ig (aa (am J (fun h3=> ?_) (fun h3=> ?_))))))))))))))))
   ·rw [aw (cH h3)];refine ar (ad J (ad J (av J J (jd (by omega) (by simp [IntKind.bits];omega) (OR hz).1) (av J J (gZ J) (aq J (aa (az (aQ () O J (cc (aP J)) J [] [] J J J))))))))
   ·rw [ai (dk h3)];refine aA (ar (ad J (aq J (aa (az (aQ () O J (cc (aP J)) J [] [] J J J))))))
theorem yA(n z:Int)(hn:0≤n∧n<4294967296)(hz:z=18∨z=22):
  bi prog 213 [I3 n,I6 z] [] [] (.bool (decide (xQ z n=n))) []:=by
 refine aM func213 J ntmps213 J fun w0 M H=>ar (aq J (aF J (ad J (ad J (ak (xs:= [.tmp 5,.tmp 6]) (rH n z hn hz) I4 [] [] [] (fun _ _=>ad J (av J J br (aq J (aa (az (aQ () O J (cc (aP J)) J [] [] J J J)))))))))))
theorem GA:∀s∈shL,(s.kd=0↔s.bt=0)∧(s.kd=0∨s.kd=1∨s.kd=2)∧0≤s.mo∧s.mo<262144:=by decide
theorem qL(op:Int):((dt op).kd=0↔(dt op).bt=0)∧((dt op).kd=0∨(dt op).kd=1∨(dt op).kd=2)∧0≤(dt op).mo∧(dt op).mo<262144:=by
 unfold dt;split
 ·rename_i h;have hl:shL.length=64:=by decide
  rw [List.getD_eq_getElem?_getD,bT (by omega)];exact GA _ (List.getElem_mem _)
 ·decide
structure VQ(i:Qi):Prop where
 op:0≤i.op∧i.op<64
 d:0≤i.d∧i.d<16
 a:0≤i.a∧i.a<16
 b:0≤i.b∧i.b<16
 k:(dt i.op).k=true
 fd:gr i.d (dt i.op).d=true
 fa:gr i.a (dt i.op).a=true
 fb:gr i.b (dt i.op).b=true
 im:kN (dt i.op) i.imm=true
theorem VQ.of{i:Qi}(h:qp i=true):VQ i:=by
 obtain⟨b1,b2,b3,b4⟩:=uG h;unfold qp at h;simp only [Bool.and_eq_true]at h;obtain⟨⟨⟨⟨h1,h2⟩,h3⟩,h4⟩,h5⟩:=h;exact⟨b1,b2,b3,b4,h1,h2,h3,h4,h5⟩
theorem pW{a b:Int}(ha:0≤a∧a<4294967296)(hb:0<b):IntKind.u32.wrap (a.tdiv b)=a/b:=by
 rw [Int.tdiv_eq_ediv_of_nonneg ha.1];exact lg (Int.ediv_nonneg ha.1 (by omega)) (Int.lt_of_le_of_lt (Int.ediv_le_self _ ha.1) ha.2)
theorem IX{s:Sh}{n:Int}(h:kN s n=true)(hk:s.kd=0):n=0:=by
 unfold kN at h;rw [aw hk]at h;exact cH h
theorem IW{s:Sh}{n:Int}(h:kN s n=true)(hk:s.kd=1):xQ s.bt n=n:=by
 unfold kN at h;rw [ai (by omega),aw hk]at h;exact cH h
theorem IV{s:Sh}{n:Int}(h:kN s n=true)(hk:s.kd=2)(hm:s.mo>0):n≤s.mo:=by
 unfold kN at h;rw [ai (by omega),ai (by omega),aw hm]at h;exact cH h
theorem IU{s:Sh}{n:Int}(h:kN s n=true)(hk:s.kd=2)(hm:¬s.mo>0):n/2^s.bt.toNat=0:=by
 unfold kN at h;rw [ai (by omega),ai (by omega),ai hm]at h;exact cH h
theorem J6{z:Int}(hz:z=18∨z=22):IntKind.u32.wrap (1*2^z.toNat)=2^z.toNat∧0<(2:Int)^z.toNat∧(2:Int)^z.toNat≤4194304:=by
 rcases hz with rfl|rfl<;>exact⟨J,by decide,by decide⟩
theorem t_{n m:Int}(hn:0≤n)(hm:0<m)(h:n/m=0):n<m:=by
 have:=Int.emod_lt_of_pos n hm;have h2:=Int.ediv_mul_add_emod n m;rw [h]at h2;omega
theorem wy(i:Qi)(hi:0≤i.imm∧i.imm<4294967296)(hv:VQ i):
  bi prog 209 [.agg (iY i).toArray] [] [] (.bool true) []:=by
 refine aM func209 J ntmps209 J fun w0 M H=> ?_
 have hof:=yJ hv.op;have k1:=jA i.op;have k2:=qL i.op;refine ar (cA J J fun b1=>aq J (aF J (aD cz J (aT 1 t3 J J J J (ak (xs:= [.tmp 8]) (u7 i.op) FA [] [] [] (fun _ _=> ?_))))));rw [hof];refine aX fZ J J fun b3=>au (k:=3) fZ J J J J J J (aa (aV (aD HN J (aT 3 t4 J J J J (aS (cZ J) (aa (am J (fun h1=> ?_) (fun h1=> ?_))))))))
 ·exact absurd h1 (by show ¬(!(dt i.op).k)=true;rw [hv.k];decide)
 ·refine aA (ar (aD g9 J (aT 1 t3 J J J J (aD A5 J (aT 3 t4 J J J J (ak (xs:= [.tmp 14,.tmp 16]) (rJ i.d (zg i.op).d) Fz [] [] [] (fun _ _=>aq J (aF J (aD mB J (aT 1 t3 J J J J (aD A4 J (aT 3 t4 J J J J (ak (xs:= [.tmp 19,.tmp 21]) (rJ i.a (zg i.op).a) Fz [] [] [] (fun _ _=>aq J (aa (aZ ?_))))))))))))))));refine ap (aD mA J (aT 1 t3 J J J J (aD A3 J (aT 3 t4 J J J J (ak (xs:= [.tmp 24,.tmp 26]) (rJ i.b (zg i.op).b) Fz [] [] [] (fun _ _=>aq J (aa (aV (ad J (aS (cZ J) (ad J (aI [] J J O (fun hg2=>aY J) J (aI [(31,_)] J J ⟨J,O⟩ (fun hg3=>cZ J) J (aS (bK J J J) (ad J (aI [] J J O (fun hg4=>aY J) J (aI [(35,_)] J J ⟨J,O⟩ (fun hg5=>cZ J) J ?_)))))))))))))))));refine aS (bK J J J) (aa (am J (fun h6=> ?_) (fun h6=> ?_)))
  ·exact absurd h6 (by show ¬((!gr i.d (dt i.op).d) || (!gr i.a (dt i.op).a) || (!gr i.b (dt i.op).b))=true;rw [hv.fd,hv.fa,hv.fb];decide)
  ·refine aA (aV (aD mx J (aT 3 t3 J J J J (av J J br (aa (am J (fun h7=> ?_) (fun h7=> ?_)))))))
   ·(try simp only [bk]at h7);have q3:(dt i.op).bt=0:=h7;refine ar (aD eo J (aT 1 eG J J J J (av J J br (aq J (aa (az (aQ () O J (cc (aP J)) (congrArg Value.bool (by rw [IX hv.im (k2.1.2 q3)];rfl)) [] [] J J J)))))))
   ·(try simp only [bk]at h7);have q3:¬(dt i.op).bt=0:=h7;have hb:(dt i.op).bt=18∨(dt i.op).bt=22:=by have:=k1.2.2.2.1;omega
    refine aA (aV (aD A2 J (aT 3 t4 J J J J (aa (am J (fun h8=> ?_) (fun h8=> ?_))))))
    ·have q4:(dt i.op).kd=1:=cH h8;refine ar (aD eo J (aT 1 eG J J J J (aD mx J (aT 3 t3 J J J J (ak (xs:= [.tmp 47,.tmp 49]) (yA i.imm (dt i.op).bt hi (by have:=k1.2.2.2.1;omega)) NF [] [] [] (fun _ _=>aq J (aa (az (aQ () O J (cc (aP J)) (congrArg Value.bool (decide_eq_true (IW hv.im q4))) [] [] J J J)))))))))
    ·have q4:¬(dt i.op).kd=1:=dk h8;have q5:(dt i.op).kd=2:=by have:=k2.2.1;have:=k2.1;omega
     refine aA (aV (aD A1 J (aT 3 eG J J J J (av J J fh (aa (am J (fun h9=> ?_) (fun h9=> ?_)))))))
     ·(try simp only [bk]at h9);have q6:(dt i.op).mo>0:=h9;refine ar (aD eo J (aT 1 eG J J J J (aD A1 J (aT 3 eG J J J J (av J J l7 (aq J (aa (az (aQ () O J (cc (aP J)) (congrArg Value.bool (decide_eq_true (IV hv.im q5 q6))) [] [] J J J)))))))))
     ·(try simp only [bk]at h9);have q6:¬(zg i.op).mo>0:=by omega
      refine aA (ar (aD eo J (aT 1 eG J J J J (aD mx J (aT 3 t3 J J J J (aS (cB underlying3 underlying138 J (c:=(dt i.op).bt) (by rcases hb with hb|hb<;>rw [show(zg i.op).bt=(dt i.op).bt from J,hb]<;>rfl)) (av J J (jd (by omega) (by simp [IntKind.bits];omega) (J6 hb).1) (av J J cy (aq J (aa (az (aQ () O J (cc (aP J)) (congrArg Value.bool (decide_eq_true (t_ hi.1 (J6 hb).2.1 (IU hv.im q5 q6)))) [] [] J J J))))))))))))
theorem Lc{i:Qi}(hv:VQ i)(hb:(dt i.op).bt=18∨(dt i.op).bt=22):IntKind.u32.wrap (i.op*67108864+i.d*4194304+i.a*262144+i.b*16384+i.imm%2^(dt i.op).bt.toNat)=mX i:=by
 have b1:=hv.op;have b2:=hv.d;have b3:=hv.a;have b4:=hv.b;have k:=jA i.op;unfold mX;rcases hb with h|h
 ·have hb0:i.b=0:=fW (by rw [←k.2.2.2.2.1 h];exact hv.fb);rw [h,show((2:Int)^(18:Int).toNat)=262144 from J];exact cf (by omega)
 ·have hb0:i.b=0:=fW (by rw [←(k.2.2.2.2.2 h).2];exact hv.fb);have ha0:i.a=0:=fW (by rw [←(k.2.2.2.2.2 h).1];exact hv.fa);rw [h,show((2:Int)^(22:Int).toNat)=4194304 from J];exact cf (by omega)
theorem uQ(i:Qi)(hi:0≤i.imm∧i.imm<4294967296)(hv:VQ i):
  bi prog 199 [.agg (iY i).toArray] [] [] (.tuple #[I3 (mX i),I6 0]) []:=by
 refine aM func199 J ntmps199 J fun w0 M H=> ?_
 have hof:=yJ hv.op;have k1:=jA i.op;have k2:=qL i.op;obtain⟨o1,o2⟩:=hv.op;obtain⟨d1,d2⟩:=hv.d;obtain⟨a1,a2⟩:=hv.a;obtain⟨e1,e2⟩:=hv.b;have hfb:=hv.fb;have hfa:=hv.fa;refine ar (cA J J fun b1=>aq J (aq J (aF J (aS (aJ fH J J J (a_ (k:=1) J)) (ak (xs:= [.tmp 7]) (wy i hi hv) NI [] [] [] (fun _ _=>aq J (aa (aV (ad J (aS (cZ J) (aa (am J (fun h1=> ?_) (fun h1=> ?_)))))))))))))
 ·cases h1
 ·(try simp only [bk]at h1);refine aA (ar (aD cz J (aT 1 t3 J J J J (aS (cB underlying3 underlying41 J (by first|exact cf (by omega)|rfl)) (av J J oI (aD g9 J (aT 1 t3 J J J J (aS (cB underlying3 underlying41 J (by first|exact cf (by omega)|rfl)) (av J J oI (av J J s7 (aD mB J (aT 1 t3 J J J J (aS (cB underlying3 underlying41 J (by first|exact cf (by omega)|rfl)) (av J J oI (av J J s7 (aD mA J (aT 1 t3 J J J J (aS (cB underlying3 underlying41 J (by first|exact cf (by omega)|rfl)) ?_))))))))))))))))));refine av J J oI (av J J s7 (aq J (aF J (aD cz J (aT 1 t3 J J J J (ak (xs:= [.tmp 31]) (u7 i.op) FA [] [] [] (fun _ _=> ?_)))))));rw [hof];refine aS (wM HG t3 J J) (aq J (aa (aV (ad J (av J J br (aa (am J (fun h2=> ?_) (fun h2=> ?_))))))))
  ·(try simp only [bk]at h2);have q3:(dt i.op).bt=0:=h2;refine ar (ad J (aq J (aq J (aa (az (aQ () O J (GN (aP J) (aP J)) (congrArg (fun z=>Value.tuple #[Value.int .u32 z,Value.int .i64 0]) (by unfold mX;rw [q3,show((2:Int)^(0:Int).toNat)=1 from J];omega)) [] [] J J J))))))
  ·(try simp only [bk]at h2);have q3:¬(dt i.op).bt=0:=h2;have hb:(dt i.op).bt=18∨(dt i.op).bt=22:=by have:=k1.2.2.2.1;omega
   have hp:=J6 hb;have hrm:=Int.emod_lt_of_pos i.imm hp.2.1;have hrn:=Int.emod_nonneg i.imm (show(2:Int)^(dt i.op).bt.toNat≠0 by omega);refine aA (ar (ad J (aD eo J (aT 1 eG J J J J (ad J (aS (cB underlying3 underlying138 J (c:=(dt i.op).bt) (by rcases hb with hb|hb<;>rw [show(zg i.op).bt=(dt i.op).bt from J,hb]<;>rfl)) (av J J (jd (by omega) (by simp [IntKind.bits];omega) hp.1) (av J J (kA (by omega) (Int.tmod_eq_emod_of_nonneg hi.1)) (av J J (cC (c:=mX i) (Lc hv hb)) (aq J (aq J (aa (az (aQ () O J (GN (aP J) (aP J)) J [] [] J J J))))))))))))))
theorem Np{i:Qi}(hv:VQ i):mX i/67108864=i.op∧mX i/4194304%16=i.d∧((dt i.op).a=true→mX i/262144%16=i.a)∧((dt i.op).b=true→mX i/16384%16=i.b)∧((dt i.op).bt=18∨(dt i.op).bt=22→mX i%2^(dt i.op).bt.toNat=i.imm%2^(dt i.op).bt.toNat):=by
 have b1:=hv.op;have b2:=hv.d;have b3:=hv.a;have b4:=hv.b;have k:=jA i.op;unfold mX;rcases k.2.2.2.1 with h|h|h
 ·rw [h,show((2:Int)^(0:Int).toNat)=1 from J];refine⟨by omega,by omega,fun _=>by omega,fun _=>by omega,fun h=>by omega⟩
 ·have hb0:i.b=0:=fW (by rw [←k.2.2.2.2.1 h];exact hv.fb);rw [h,show((2:Int)^(18:Int).toNat)=262144 from J];refine⟨by omega,by omega,fun _=>by omega,fun hb=> ?_,fun h=>by omega⟩;rw [k.2.2.2.2.1 h]at hb;cases hb
 ·have hb0:i.b=0:=fW (by rw [←(k.2.2.2.2.2 h).2];exact hv.fb);have ha0:i.a=0:=fW (by rw [←(k.2.2.2.2.2 h).1];exact hv.fa);rw [h,show((2:Int)^(22:Int).toNat)=4194304 from J];refine⟨by omega,by omega,fun ha=> ?_,fun hb=> ?_,fun h=>by omega⟩
  ·rw [(k.2.2.2.2.2 h).1]at ha;cases ha
  ·rw [(k.2.2.2.2.2 h).2]at hb;cases hb
theorem GB{n z:Int}(hn:0≤n∧n<4294967296)(hz:z=18∨z=22):xQ z (n%2^z.toNat)=xQ z n:=by
 have hp:=J6 hz;have h1:=Int.emod_nonneg n (show(2:Int)^z.toNat≠0 by omega);have h2:=Int.emod_lt_of_pos n hp.2.1;rw [JV hn hz,JV ⟨h1,by omega⟩ hz,Int.emod_emod_of_dvd _ (Int.dvd_refl _)]
theorem KG{i:Qi}(hi:0≤i.imm∧i.imm<4294967296)(hv:VQ i)(hk:(dt i.op).kd=2)(hb:(dt i.op).bt=18∨(dt i.op).bt=22):i.imm<2^(dt i.op).bt.toNat:=by
 have hp:=J6 hb;by_cases hm:(dt i.op).mo>0
 ·have h1:=IV hv.im hk hm;have h2:=qL i.op;have h3:(262144:Int)≤2^(dt i.op).bt.toNat:=by rcases hb with h|h<;>rw [h]<;>decide
  omega
 ·exact t_ hi.1 hp.2.1 (IU hv.im hk hm)
theorem uR(i:Qi)(hi:0≤i.imm∧i.imm<4294967296)(hv:VQ i):
  bi prog 180 [I3 (mX i)] [] [] (.tuple #[.agg (iY i).toArray,I6 0]) []:=by
 refine aM func180 J ntmps180 J fun w0 M H=> ?_
 have hof:=yJ hv.op;have k1:=jA i.op;have k2:=qL i.op;have hwb:=zq (i:=i) (by unfold qp;simp only [Bool.and_eq_true];exact⟨⟨⟨⟨hv.k,hv.fd⟩,hv.fa⟩,hv.fb⟩,hv.im⟩);obtain⟨f0,f1,f2,f3,f4⟩:=Np hv;refine ar (aX fH J J fun b2=>aq J (aF J (ad J (av J J (iE (by decide) (pW hwb (by decide))) (aS (cB underlying41 underlying3 J (c:=i.op) (by rw [f0];exact pG (by have:=hv.op;omega) (by have:=hv.op;omega))) (aS (aR (parts:= [(0,.tmp 10)]) fH mS J J) (aX fH J J fun b4=>au (k:=4) fH J J J J J J (aF J (aD cz J (aT 4 t3 J J J J (ak (xs:= [.tmp 13]) (u7 i.op) FA [] [] [] (fun _ _=> ?_))))))))))));rw [hof];refine aX fZ J J fun b5=>au (k:=5) fZ J J J J J J (aa (bz (X:=Unit) (fun _=>True) (fun _=> [(0,I3 (mX i)),(2,Pt b2),(3,I6 0),(4,Pt b4),(5,Pt b5)]) (fun _=> [(2,be b2 118 (iY ⟨0,0,0,0,0⟩)),(4,be b4 118 (iY ⟨i.op,i.d,0,0,0⟩)),(5,be b5 275 (L6 (zg i.op)))]) (fun _=> []) ?_ (fun _ _=> ?_)))
 ·refine ar (aD A5 J (aT 5 t4 J J J J (aa (am J (fun h1=> ?_) (fun h1=> ?_)))))
  ·have q1:(dt i.op).d=true:=h1;refine ap (ad J (av J J (iE (by decide) (pW hwb (by decide))) (av J J (kA (by decide) (Int.tmod_eq_emod_of_nonneg (Int.ediv_nonneg hwb.1 (by decide)))) (aS (cB underlying41 underlying3 J (c:=i.d) (by rw [f1];exact pG (by have:=hv.d;omega) (by have:=hv.d;omega))) (aD g9 J (aB (k:=4) t3 J J J J J J J J (aa (aG () O J (by rfl) J))))))))
  ·have q1:(dt i.op).d=false:=by
    have:=h1;exact this
   have hd0:(0:Int)=i.d:=(fW (by rw [←q1];exact hv.fd)).symm;refine aA (aG () O J (by rw [hd0];rfl) J)
 ·refine bz (X:=Unit) (fun _=>True) (fun _=> [(0,I3 (mX i)),(2,Pt b2),(3,I6 0),(4,Pt b4),(5,Pt b5)]) (fun _=> [(2,be b2 118 (iY ⟨0,0,0,0,0⟩)),(4,be b4 118 (iY ⟨i.op,i.d,i.a,0,0⟩)),(5,be b5 275 (L6 (zg i.op)))]) (fun _=> []) ?_ (fun _ _=> ?_)
  ·refine ar (aD A4 J (aT 5 t4 J J J J (aa (am J (fun h2=> ?_) (fun h2=> ?_)))))
   ·have q2:(dt i.op).a=true:=h2;refine ap (ad J (av J J (iE (by decide) (pW hwb (by decide))) (av J J (kA (by decide) (Int.tmod_eq_emod_of_nonneg (Int.ediv_nonneg hwb.1 (by decide)))) (aS (cB underlying41 underlying3 J (c:=i.a) (by rw [f2 q2];exact pG (by have:=hv.a;omega) (by have:=hv.a;omega))) (aD mB J (aB (k:=4) t3 J J J J J J J J (aa (aG () O J (by rfl) J))))))))
   ·have q2:(dt i.op).a=false:=by
     have:=h2;exact this
    have ha0:(0:Int)=i.a:=(fW (by rw [←q2];exact hv.fa)).symm;refine aA (aG () O J (by rw [ha0];rfl) J)
  ·refine bz (X:=Unit) (fun _=>True) (fun _=> [(0,I3 (mX i)),(2,Pt b2),(3,I6 0),(4,Pt b4),(5,Pt b5)]) (fun _=> [(2,be b2 118 (iY ⟨0,0,0,0,0⟩)),(4,be b4 118 (iY ⟨i.op,i.d,i.a,i.b,0⟩)),(5,be b5 275 (L6 (zg i.op)))]) (fun _=> []) ?_ (fun _ _=> ?_)
   ·refine ar (aD A3 J (aT 5 t4 J J J J (aa (am J (fun h3=> ?_) (fun h3=> ?_)))))
    ·have q3:(dt i.op).b=true:=h3;refine ap (ad J (av J J (iE (by decide) (pW hwb (by decide))) (av J J (kA (by decide) (Int.tmod_eq_emod_of_nonneg (Int.ediv_nonneg hwb.1 (by decide)))) (aS (cB underlying41 underlying3 J (c:=i.b) (by rw [f3 q3];exact pG (by have:=hv.b;omega) (by have:=hv.b;omega))) (aD mA J (aB (k:=4) t3 J J J J J J J J (aa (aG () O J (by rfl) J))))))))
    ·have q3:(dt i.op).b=false:=by
      have:=h3;exact this
     have hb0:(0:Int)=i.b:=(fW (by rw [←q3];exact hv.fb)).symm;refine aA (aG () O J (by rw [hb0];rfl) J)
   ·refine bz (X:=Unit) (fun _=>True) (fun _=> [(0,I3 (mX i)),(2,Pt b2),(3,I6 0),(4,Pt b4),(5,Pt b5)]) (fun _=> [(2,be b2 118 (iY ⟨0,0,0,0,0⟩)),(4,be b4 118 (iY ⟨i.op,i.d,i.a,i.b,i.imm%2^(dt i.op).bt.toNat⟩)),(5,be b5 275 (L6 (zg i.op)))]) (fun _=> []) ?_ (fun _ _=> ?_)
    ·refine ar (aD mx J (aT 5 t3 J J J J (av J J fh (aa (am J (fun h4=> ?_) (fun h4=> ?_))))))
     ·(try simp only [bk]at h4);have q4:(dt i.op).bt>0:=h4;have hb:(dt i.op).bt=18∨(dt i.op).bt=22:=by have:=k1.2.2.2.1;omega
      have hp:=J6 hb;refine ap (ad J (aD mx J (aT 5 t3 J J J J (aS (cB underlying3 underlying138 J (c:=(dt i.op).bt) (by rcases hb with hb|hb<;>rw [show(zg i.op).bt=(dt i.op).bt from J,hb]<;>rfl)) (av J J (jd (by omega) (by simp [IntKind.bits];omega) hp.1) (av J J (kA (by omega) ((Int.tmod_eq_emod_of_nonneg hwb.1).trans (f4 hb))) (aD eo J (aB (k:=4) eG J J J J J J J J (aa (aG () O J (by rfl) J))))))))))
     ·(try simp only [bk]at h4);have h4:¬(zg i.op).bt>0:=by omega
      have h4:¬(dt i.op).bt>0:=h4;have q4:(dt i.op).bt=0:=by have:=k1.2.1;omega
      have hm0:(0:Int)=i.imm%2^(dt i.op).bt.toNat:=by
       rw [q4,show((2:Int)^(0:Int).toNat)=1 from J];omega
      refine aA (aG () O J (by rw [hm0];rfl) J)
    ·refine bz (X:=Unit) (fun _=>True) (fun _=> [(0,I3 (mX i)),(2,Pt b2),(3,I6 0),(4,Pt b4),(5,Pt b5)]) (fun _=> [(2,be b2 118 (iY ⟨0,0,0,0,0⟩)),(4,be b4 118 (iY i)),(5,be b5 275 (L6 (zg i.op)))]) (fun _=> []) ?_ (fun _ _=> ?_)
     ·refine ar (aD A2 J (aT 5 t4 J J J J (aa (am J (fun h5=> ?_) (fun h5=> ?_)))))
      ·have q5:(dt i.op).kd=1:=cH h5;have hb:=k1.1 q5;have hp:=J6 hb;have h1:=Int.emod_nonneg i.imm (show(2:Int)^(dt i.op).bt.toNat≠0 by omega);have h2:=Int.emod_lt_of_pos i.imm hp.2.1;refine ap (aD eo J (aT 4 eG J J J J (aD mx J (aT 5 t3 J J J J ?_))));refine dG (xs:= [.tmp 49,.tmp 51]) (rH (i.imm%2^(dt i.op).bt.toNat) (dt i.op).bt ⟨h1,by omega⟩ hb) I4 [] [] [] J J J J J J J J (fun _ _=>J) (fun _ _ _=>J) J (fun _ _=> ?_);rw [GB hi hb,IW hv.im q5];refine aD eo J (aB (k:=4) eG J J J J J J J J (aa (aG () O J (by rfl) J)))
      ·have q5:¬(dt i.op).kd=1:=dk h5;have hm1:(⟨i.op,i.d,i.a,i.b,i.imm%2^(dt i.op).bt.toNat⟩:Qi)=i:=by
        have:i.imm%2^(dt i.op).bt.toNat=i.imm:=by
         by_cases h0:(dt i.op).kd=0
         ·rw [IX hv.im h0];simp
         ·have h2:(dt i.op).kd=2:=by have:=k2.2.1;omega
          exact Int.emod_eq_of_lt hi.1 (KG hi hv h2 (by have:=k1.2.2.2.1;have:=k2.1;omega))
        rw [this]
       refine aA (aG () O J (by rw [hm1];rfl) J)
     ·refine ar (aS (aJ fH J J J (a_ (k:=4) J)) (ak (xs:= [.tmp 55]) (uQ i hi hv) NP [] [] [] (fun _ _=>ad J (aS (cS J J) (aS (cS J J) (aq J (aq J (aa (aV (ad J (av J J gj (ad J (aI [] J J O (fun hg6=>aY J) J (aI [(62,_)] J J ⟨J,O⟩ (fun hg7=>aY J) J (aI [(62,_),(63,_)] J J ⟨J,J,O⟩ (fun hg8=>aU J J gj) J (aS (bK J J J) ?_))))))))))))))));refine aa (am J (fun h9=> ?_) (fun h9=> ?_))
      ·exfalso;simp at h9
      ·(try simp only [bk]at h9);refine aA (ar (aS (aJ fH J J J (a_ (k:=4) J)) (au (k:=2) fH J J J J J J (aq J (aa (az (aQ () O J (GN (bp fH J J J (a_ (k:=2) J)) (aP J)) J [] [] J J J)))))))
structure Me where
 m:Nat
 vd:SV
 vi:SV
 vo:SV
 vp:SV
 vr:SV
structure Mm where
 d:List Int
 i:List Int
 r:List Int
def mR(e:Me):List Value:= [sv e.vd,sv e.vi,sv e.vo,sv e.vp,sv e.vr,.bool false]
structure MO(s:Mm)(n:Nat):Prop where
 d:s.d.length=n*256
 i:s.i.length=n*256
 r:s.r.length=n
 n:n≤5000
 rb:∀x∈s.r,0≤x∧x<8
def xR(s:Mm)(a r:Int):Bool:=decide (a<s.d.length)&&decide (s.r.getD (a/256).toNat 0/r%2=1)
def pk:List Int→Nat→List Int→List Int
 | d,_,[]=>d
 | d,a,x::l=>pk (d.set a x) (a+1) l
theorem fS:∀(l:List Int)(d:List Int)(a:Nat),(pk d a l).length=d.length
 | [],d,a=>rfl
 | x::l,d,a=>by unfold pk;rw [fS l,List.length_set]
theorem mg:∀(l:List Int)(d:List Int)(a:Nat)(x:Int),pk d a (l++ [x])=(pk d a l).set (a+l.length) x
 | [],d,a,x=>rfl
 | y::l,d,a,x=>by
  show pk (d.set a y) (a+1) (l++ [x])=(pk (d.set a y) (a+1) l).set (a+(l.length+1)) x;rw [mg l,show a+1+l.length=a+(l.length+1) by omega]
theorem o_:∀(l:List Int)(d:List Int)(a k:Nat),(pk d a l)[k]?=if a≤k∧k<a+l.length∧k<d.length then l[k-a]? else d[k]?
 | [],d,a,k=>by
  rw [ai (by simp only [bG];omega)];rfl
 | x::l,d,a,k=>by
  show(pk (d.set a x) (a+1) l)[k]?=_;rw [o_ l,List.length_set,bR];by_cases h:a+1≤k∧k<a+1+l.length∧k<d.length
  ·rw [aw h,aw (by omega),show k-a=(k-(a+1))+1 by omega];rfl
  ·rw [ai h,List.getElem?_set];by_cases h2:a=k
   ·subst h2;rw [aw J];by_cases h3:a<d.length
    ·rw [aw h3,aw (by omega),Nat.sub_self];rfl
    ·rw [ai h3,ai (by omega),List.getElem?_eq_none (by omega)]
   ·rw [ai h2,ai (by omega)]
def Er(d:List Int)(a:Nat):Nat→Int
 | 0=>0
 | m+1=>Er d a m*256+d.getD (a+(3-m)) 0
def AI(d:List Int)(a:Nat):Int:=Er d a 4
def byL(d:List Int):Prop:=∀x∈d,0≤x∧x<256
theorem byL.get{d:List Int}(h:byL d)(k:Nat):0≤d.getD k 0∧d.getD k 0<256:=by
 rw [List.getD_eq_getElem?_getD];cases hk:d[k]? with
 | none=>decide
 | some x=>exact h x (cd hk)
theorem yX{d:List Int}(h:byL d)(a:Nat):∀m,0≤Er d a m∧Er d a m<256^m
 | 0=>⟨Int.le_refl _,by show(0:Int)<1;decide⟩
 | m+1=>by
  have h1:=yX h a m;have h2:=h.get (a+(3-m));show 0≤Er d a m*256+_∧Er d a m*256+_<256^(m+1);rw [Int.pow_succ];omega
theorem KC{d:List Int}(h:byL d)(a:Nat){m:Nat}(hm:m≤3):0≤Er d a m∧Er d a m<16777216:=by
 have h1:=yX h a m;have h2:(256:Int)^m≤16777216:=by
  have:m=0∨m=1∨m=2∨m=3:=by omega
  rcases this with rfl|rfl|rfl|rfl<;>decide
 omega
theorem EL{l:List Int}{k:Nat}{x:Int}(h:l[k]?=some x):l.getD k 0=x:=by rw [List.getD_eq_getElem?_getD,h];rfl
theorem oh(e:Me)(s:Mm)(n:Nat)(hs:MO s n)(a:Int)(ha:0≤a∧a<4294967296):
  bi prog 75 [Pt e.m,I3 a] [be e.m 157 (mR e),own 5 1 ct (sv e.vd) (s).d,own 5 1 ct (sv e.vi) (s).i,own 3 1 eI (sv e.vr) (s).r] [] (.bool (decide (a<s.d.length))) [be e.m 157 (mR e),own 5 1 ct (sv e.vd) (s).d,own 5 1 ct (sv e.vi) (s).i,own 3 1 eI (sv e.vr) (s).r]:=by
 refine aM func75 J ntmps75 J fun w0 M H=>ar (aq J (aF J (ad J (aS (cB underlying41 underlying3 J (by first|exact bU (by omega)|rfl)) (ad J (bS J (aD mz J (aT 0 yh J J J J (aS (aL underlying84 J (aH (k:=1) J)) (av J J cy (aq J (aa (az (aQ () O J (cc (aP J)) J [0,1,2,3] [] J J J))))))))))))))
theorem qa(e:Me)(s:Mm)(n:Nat)(hs:MO s n)(a:Int)(ha:0≤a∧a<4294967296)(r:Int)(hr:r=1∨r=2∨r=4):
  bi prog 196 [Pt e.m,I3 a,I6 r] [be e.m 157 (mR e),own 5 1 ct (sv e.vd) (s).d,own 5 1 ct (sv e.vi) (s).i,own 3 1 eI (sv e.vr) (s).r] [] (.bool (xR s a r)) [be e.m 157 (mR e),own 5 1 ct (sv e.vd) (s).d,own 5 1 ct (sv e.vi) (s).i,own 3 1 eI (sv e.vr) (s).r]:=by
 refine aM func196 J ntmps196 J fun w0 M H=>ar (aq J (aF J (ad J (ad J (ak (xs:= [.tmp 8,.tmp 9]) (oh e s n hs a ha) Fy [0,1,2,3] [] [0,1,2,3] (fun _ _=>aq J (aF J (ad J (ad J (fq (t:=12) J (fun h1=> ?_) (fun h1=> ?_)))))))))))
 ·(try simp only [bk]at h1);have hq:a<s.d.length:=by simpa using h1
  have hd:=hs.d;have hrl:=hs.r;obtain⟨x,hx⟩:∃x,s.r[(a/256).toNat]?=some x:=⟨_,bT (by omega)⟩
  have hxb:=hs.rb x (cd hx);have hrt:xR s a r=decide (x/r%2=1):=by
   unfold xR;rw [decide_eq_true hq,Bool.true_and,EL hx]
  rw [hrt];refine bP J J (ad J (bP J J (bS J (bP J J (aD qT J (bP J J (aT 0 Dj J J J J (bP J J (ad J (bP J J (av J J (iE (by decide) (pW ha (by decide))) (bP J J (aS (aK (j:=(a/256).toNat) underlying22 t3 J J (aH (k:=3) J) (by omega) (by omega)) (bP J J (aS (ae t3 J J (bJ (aH (k:=3) J) (by intro _;rfl) hx (by rfl))) (bP J J (ad J (bP J J ?_))))))))))))))))));refine te (aU J J (iE (by omega) (show IntKind.i64.wrap (x.tdiv r)=x/r from(by rw [Int.tdiv_eq_ediv_of_nonneg hxb.1];exact pG (by have:=Int.ediv_nonneg hxb.1 (show 0≤r by omega);omega) (by have:=Int.ediv_le_self r hxb.1;omega))))) J ?_;refine bP J J (av J J (kA (by decide) (Int.tmod_eq_emod_of_nonneg (Int.ediv_nonneg hxb.1 (by omega)))) (bP J J (av J J br (aS (bK J J J) (aq J (aa (az (aQ () O J (cc (aP J)) J [0,1,2,3] [] J J J))))))))
 ·(try simp only [bk]at h1);have hrt:xR s a r=false:=by
   unfold xR;rw [decide_eq_false (by omega),Bool.false_and]
  rw [hrt];refine dJ J J J J (dJ J J J J (dJ J J J J (dJ J J J J (dJ J J J J (dJ J J J J (dJ J J J J (dJ J J J J (dJ J J J J (dJ J J J J (dJ J J J J (dJ J J J J (aS (bK J J J) (aq J (aa (az (aQ () O J (cc (aP J)) J [0,1,2,3] [] J J J))))))))))))))))
theorem xy(e:Me)(s:Mm)(n:Nat)(hs:MO s n)(a:Int)(ha:0≤a∧a<4294967296)(c r:Int)(hc:1≤c∧c≤4)(hr:r=1∨r=2∨r=4)(hok:∀k:Int,0≤k→k<c→xR s (IntKind.u32.wrap (a+k)) r=true):
  bi prog 183 [Pt e.m,I3 a,I6 c,I6 r] [be e.m 157 (mR e),own 5 1 ct (sv e.vd) (s).d,own 5 1 ct (sv e.vi) (s).i,own 3 1 eI (sv e.vr) (s).r] [] (.agg #[I3 0,I3 0,.bool true]) [be e.m 157 (mR e),own 5 1 ct (sv e.vd) (s).d,own 5 1 ct (sv e.vi) (s).i,own 3 1 eI (sv e.vr) (s).r]:=by
 refine aM func183 J ntmps183 J fun w0 M H=>ar (aX iR J J fun b8=>aa (aV (ad J (av J J cy (ad J (aI [] J J O (fun hg1=>aY J) J (aI [(14,_)] J J ⟨J,O⟩ (fun hg2=>aU J J fh) J (aS (bK J J J) (aa (am J (fun h3=> ?_) (fun h3=> ?_)))))))))))
 ·exact absurd h3 (by simp;omega)
 ·refine aA (aV (aq J (aa (aC (bI (X:=Nat) (fun i=>(i:Int)≤c) (fun i=> [(0,Pt e.m),(1,I3 a),(2,I6 c),(3,I6 r),(8,Pt b8),(9,I6 (i:Int))]) (fun i=> [(0,be e.m 157 (mR e)),(1,own 5 1 ct (sv e.vd) s.d),(2,own 5 1 ct (sv e.vi) s.i),(3,own 3 1 eI (sv e.vr) s.r),(8,be b8 241 [I3 0,I3 0,.bool false])]) (fun i=> []) (fun i=>c.toNat-i) 0 (by omega) J J J (fun i n1=>aV (ad J (ad J (av J J cy (aa (am J (fun h4=> ?_) (fun h4=> ?_))))))))))))
  ·(try simp only [bk]at h4);have hi:(i:Int)<c:=by omega
   refine aA (aZ (aC (ar (ad J (ad J (ad J (aS (cB underlying3 underlying41 J (c:=(i:Int)) (cf (by omega))) (av J J (cC J) (ad J (dj (xs:= [.tmp 24,.tmp 28,.tmp 29]) (qa e s n hs (IntKind.u32.wrap (a+i)) (lB _) r hr) I5 [0,1,2,3] [] [0,1,2,3] J J J (fun _ _=> ?_)))))))))));rw [hok i (by omega) (by omega)];refine aq J (aF J (ad J (aS (cZ J) (aa (am J (fun h5=> ?_) (fun h5=> ?_))))))
   ·cases h5
   ·(try simp only [bk]at h5);refine aA (ap (ad J (av J J aO (aq J (aa ?_)))));refine aG (i+1) ⟨by omega,by omega⟩ J J J
  ·(try simp only [bk]at h4);have hi:(i:Int)=c:=by omega
   refine bM (ar (aS (aR (parts:= [(2,.const (.bool Bool.true))]) iR Iz J J) (au (k:=8) iR J J J J J J (aa (az (aQ () O J (cc (bp iR J J J (a_ (k:=8) J))) J [0,1,2,3] [] J J J))))))
theorem CE(e:Me)(s:Mm)(n:Nat)(hs:MO s n)(a:Int)(ha:0≤a∧a<4294967296):
  bi prog 43 [Pt e.m,I3 a] [be e.m 157 (mR e),own 5 1 ct (sv e.vd) (s).d,own 5 1 ct (sv e.vi) (s).i,own 3 1 eI (sv e.vr) (s).r] [] (.int .u8 (if a<s.d.length then s.i.getD a.toNat 0 else 0)) [be e.m 157 (mR e),own 5 1 ct (sv e.vd) (s).d,own 5 1 ct (sv e.vi) (s).i,own 3 1 eI (sv e.vr) (s).r]:=by
 refine aM func43 J ntmps43 J fun w0 M H=>ar (aq J (aF J (ad J (ad J (ak (xs:= [.tmp 6,.tmp 7]) (oh e s n hs a ha) Fy [0,1,2,3] [] [0,1,2,3] (fun _ _=>aq J (aa (aV (ad J (aS (cZ J) (aa (am J (fun h1=> ?_) (fun h1=> ?_)))))))))))))
 ·(try simp only [bk]at h1);have hq:¬a<s.d.length:=by simpa using h1
  rw [ai hq];refine ar (aq J (aa (az (aQ () O J (cc (aP J)) J [0,1,2,3] [] J J J))))
 ·(try simp only [bk]at h1);have hq:a<s.d.length:=by simpa using h1
  have hd:=hs.d;have hil:=hs.i;have hrl:=hs.r;have hnn:=hs.n;obtain⟨x,hx⟩:∃x,s.i[a.toNat]?=some x:=⟨_,bT (by omega)⟩
  rw [aw hq,EL hx];refine aA (aV (ad J (bS J (aD vM J (aT 0 t4 J J J J (aa (am J (fun h2=> ?_) (fun h2=> ?_))))))))
  ·cases h2
  ·(try simp only [bk]at h2);refine aA (ar (ad J (bS J (aD qU J (aT 0 yh J J J J (ad J (aS (aK (j:=a.toNat) underlying84 t5 J J (aH (k:=2) J) (by omega) (by omega)) (aS (ae t5 J J (bJ (aH (k:=2) J) (by intro _;rfl) hx (by rfl))) (aq J (aa (az (aQ () O J (cc (aP J)) J [0,1,2,3] [] J J J))))))))))))
theorem yS(e:Me)(s:Mm)(n:Nat)(hs:MO s n)(a:Int)(ha:0≤a∧a<4294967296):
  bi prog 41 [Pt e.m,I3 a] [be e.m 157 (mR e),own 5 1 ct (sv e.vd) (s).d,own 5 1 ct (sv e.vi) (s).i,own 3 1 eI (sv e.vr) (s).r] [] (.int .u8 (if a<s.d.length then s.d.getD a.toNat 0 else 0)) [be e.m 157 (mR e),own 5 1 ct (sv e.vd) (s).d,own 5 1 ct (sv e.vi) (s).i,own 3 1 eI (sv e.vr) (s).r]:=by
 refine aM func41 J ntmps41 J fun w0 M H=>ar (aq J (aF J (ad J (ad J (ak (xs:= [.tmp 6,.tmp 7]) (oh e s n hs a ha) Fy [0,1,2,3] [] [0,1,2,3] (fun _ _=>aq J (aa (aV (ad J (aS (cZ J) (aa (am J (fun h1=> ?_) (fun h1=> ?_)))))))))))))
 ·(try simp only [bk]at h1);have hq:¬a<s.d.length:=by simpa using h1
  rw [ai hq];refine ar (aq J (aa (az (aQ () O J (cc (aP J)) J [0,1,2,3] [] J J J))))
 ·(try simp only [bk]at h1);have hq:a<s.d.length:=by simpa using h1
  have hd:=hs.d;have hil:=hs.i;have hrl:=hs.r;have hnn:=hs.n;obtain⟨x,hx⟩:∃x,s.d[a.toNat]?=some x:=⟨_,bT (by omega)⟩
  rw [aw hq,EL hx];refine aA (ar (ad J (bS J (aD mz J (aT 0 yh J J J J (ad J (aS (aK (j:=a.toNat) underlying84 t5 J J (aH (k:=1) J) (by omega) (by omega)) (aS (ae t5 J J (bJ (aH (k:=1) J) (by intro _;rfl) hx (by rfl))) (aq J (aa (az (aQ () O J (cc (aP J)) J [0,1,2,3] [] J J J))))))))))))
theorem Cy(e:Me)(s:Mm)(n:Nat)(hs:MO s n)(a:Int)(ha:0≤a∧a<4294967296)(hok:xR s a 4=true)(x:Int)(hx:s.i[a.toNat]?=some x)(hxb:0≤x∧x<256):
  bi prog 179 [Pt e.m,I3 a] [be e.m 157 (mR e),own 5 1 ct (sv e.vd) (s).d,own 5 1 ct (sv e.vi) (s).i,own 3 1 eI (sv e.vr) (s).r] [] (.agg #[I3 x,I3 0,.bool true]) [be e.m 157 (mR e),own 5 1 ct (sv e.vd) (s).d,own 5 1 ct (sv e.vi) (s).i,own 3 1 eI (sv e.vr) (s).r]:=by
 refine aM func179 J ntmps179 J fun w0 M H=> ?_
 have hq:a<s.d.length:=by
  unfold xR at hok;simp only [Bool.and_eq_true,decide_eq_true_eq]at hok;exact hok.1
 refine ar (aX iR J J fun b4=>aF J (ad J (ad J (ak (xs:= [.tmp 6,.tmp 7,.const (I6 4)]) (qa e s n hs a ha 4 (by decide)) I5 [0,1,2,3] [] [0,1,2,3] (fun _ _=> ?_)))));rw [hok];refine aq J (aa (aV (ad J (aS (cZ J) (aa (am J (fun h1=> ?_) (fun h1=> ?_)))))))
 ·cases h1
 ·(try simp only [bk]at h1);refine aA (ar (ad J (ad J (ak (xs:= [.tmp 13,.tmp 14]) (CE e s n hs a ha) Qw [0,1,2,3] [] [0,1,2,3] (fun _ _=> ?_)))));rw [aw hq,EL hx];refine aS (cB underlying5 underlying41 J (c:=x) (cf (by omega))) (aS (aR (parts:= [(0,.tmp 16),(2,.const (.bool Bool.true))]) iR Iz J J) (au (k:=4) iR J J J J J J (aa (az (aQ () O J (cc (bp iR J J J (a_ (k:=4) J))) J [0,1,2,3] [] J J J)))))
theorem Eo(e:Me)(s:Mm)(n:Nat)(hs:MO s n)(a:Int)(ha:0≤a∧a<4294967296)(hb:byL s.d)(h4:a+4≤s.d.length)(hok:∀k:Int,0≤k→k<4→xR s (IntKind.u32.wrap (a+k)) 1=true):
  bi prog 151 [Pt e.m,I3 a,I6 4] [be e.m 157 (mR e),own 5 1 ct (sv e.vd) (s).d,own 5 1 ct (sv e.vi) (s).i,own 3 1 eI (sv e.vr) (s).r] [] (.agg #[I3 (AI s.d a.toNat),I3 0,.bool true]) [be e.m 157 (mR e),own 5 1 ct (sv e.vd) (s).d,own 5 1 ct (sv e.vi) (s).i,own 3 1 eI (sv e.vr) (s).r]:=by
 refine aM func151 J ntmps151 J fun w0 M H=> ?_
 have hd:=hs.d;have hil:=hs.i;have hrl:=hs.r;have hnn:=hs.n;refine ar (aX iR J J fun b6=>aF J (ad J (ad J (ad J (ak (xs:= [.tmp 9,.tmp 10,.tmp 11,.const (I6 1)]) (xy e s n hs a ha 4 1 (by decide) (by decide) hok) Ja [0,1,2,3] [] [0,1,2,3] (fun _ _=>aX iR J J fun b7=>au (k:=7) iR J J J J J J (aa (aV (aD oq J (aT 7 t4 J J J J (aa (am J (fun h1=> ?_) (fun h1=> ?_)))))))))))))
 ·(try simp only [bk]at h1);refine ar (ad J (av J J eL (aq J (aa (aC (bI (X:=Nat) (fun m=>m≤4) (fun m=> [(0,Pt e.m),(1,I3 a),(6,Pt b6),(7,Pt b7),(8,I6 (3-(m:Int)))]) (fun m=> [(0,be e.m 157 (mR e)),(1,own 5 1 ct (sv e.vd) s.d),(2,own 5 1 ct (sv e.vi) s.i),(3,own 3 1 eI (sv e.vr) s.r),(6,be b6 241 [I3 0,I3 0,.bool false]),(7,be b7 241 [I3 (Er s.d a.toNat m),I3 0,.bool true])]) (fun m=> []) (fun m=>4-m) 0 (by omega) J J J (fun m n1=>aV (ad J (av J J ig (aa (am J (fun h2=> ?_) (fun h2=> ?_))))))))))))
  ·(try simp only [bk]at h2);have hi:m<4:=by omega
   obtain⟨x,hx⟩:∃x,s.d[a.toNat+(3-m)]?=some x:=⟨_,bT (by omega)⟩
   have hxb:=hb x (cd hx);have hlb:=KC hb a.toNat (m:=m) (by omega)
   refine aA (aZ (aC ?_));refine bQ [21,22,23,24,25,26,27,28,29,30,31,32,33,34,35,36] _ J (bH (V:= [(0,21,_),(1,22,_),(2,23,_),(3,24,_),(4,25,_),(5,26,_),(6,27,_),(7,28,_),(8,29,_),(9,30,_),(10,31,_),(11,32,_),(12,33,_),(13,34,_),(14,35,_),(15,36,_)]) [0,1,2,3,4,5,6,7,8,9,10,11,12,13,14,15] 16 [16,15,14,13,12,11,10,9,8,7,6,5,4,3,2,1,0] [] (fun _=> []) J J (ac J (ah qP J) (ac J (ae eG J J (ax (k:=7) J J)) (ac J (aU J J (gd (cf (by omega)))) (ay J J (ac J (aj J) (ac J (ah mz J) (ac J (ae yh J J (ax (k:=0) J J)) (ay J J (ay J J (ac J (cB underlying3 underlying41 J (c:=3-(m:Int)) (cf (by omega))) (bl (GU J (aU J J (cC (c:=((a.toNat+(3-m):Nat):Int)) (by rw [cf (by omega)];omega)))) (ac J (aK (j:=a.toNat+(3-m)) underlying84 t5 J J (aH (k:=1) J) J (by omega)) (ac J (ae t5 J J (bJ (aH (k:=1) J) (by intro _;rfl) hx (by rfl))) (ac J (cB underlying5 underlying41 J (c:=x) (cf (by omega))) (ac J (aU J J (cC (c:=Er s.d a.toNat (m+1)) (by rw [cf (by omega)];show _=Er s.d a.toNat m*256+s.d.getD (a.toNat+(3-m)) 0;rw [EL hx]))) (ac J (ah qP J) ag)))))))))))))))) J J J J J J J J J (fun _ _=>J) J (da (k:=7) eG J J J J J J J J) (fun _ _=>bn [] J J ag J J J ?_));refine ap (ad J (av J J (gZ (c:=3-((m+1:Nat):Int)) (by rw [bU (by omega)];omega)) (aq J (aa ?_))));refine aG (m+1) ⟨by omega,by omega⟩ J J J
  ·(try simp only [bk]at h2);have hi:m=4:=by omega
   subst hi;refine bM (ar (aS (aJ iR J J J (a_ (k:=7) J)) (au (k:=6) iR J J J J J J (aa (az (aQ () O J (cc (bp iR J J J (a_ (k:=6) J))) J [0,1,2,3] [] J J J))))))
 ·cases h1
def mK(x:Int):Nat→Int
 | 0=>x
 | k+1=>mK x k/256
theorem Ac{x:Int}(hx:0≤x∧x<4294967296):∀k,0≤mK x k∧mK x k<4294967296
 | 0=>hx
 | k+1=>by
  have:=Ac hx k;show 0≤mK x k/256∧mK x k/256<_;omega
theorem Ao{x:Int}(hx:0≤x∧x<4294967296){k:Nat}(hk:k<4):(fR x)[k]?=some (mK x k%256):=by
 have:k=0∨k=1∨k=2∨k=3:=by omega
 rcases this with rfl|rfl|rfl|rfl
 ·rfl
 ·rfl
 ·show some (x/65536%256)=some (x/256/256%256);rw [Int.ediv_ediv_of_nonneg (by decide)];rfl
 ·show some (x/16777216%256)=some (x/256/256/256%256);rw [Int.ediv_ediv_of_nonneg (by decide),Int.ediv_ediv_of_nonneg (by decide)];rfl
theorem BU(e:Me)(s:Mm)(n:Nat)(hs:MO s n)(a:Int)(ha:0≤a∧a<4294967296)(x:Int)(hx:0≤x∧x<4294967296)(h4:a+4≤s.d.length)(hok:∀k:Int,0≤k→k<4→xR s (IntKind.u32.wrap (a+k)) 2=true):
  bi prog 152 [Pt e.m,I3 a,I6 4,I3 x] [be e.m 157 (mR e),own 5 1 ct (sv e.vd) (s).d,own 5 1 ct (sv e.vi) (s).i,own 3 1 eI (sv e.vr) (s).r] [] (.agg #[I3 0,I3 0,.bool true]) [be e.m 157 (mR e),own 5 1 ct (sv e.vd) ({s with d:=pk s.d a.toNat (fR x)}).d,own 5 1 ct (sv e.vi) ({s with d:=pk s.d a.toNat (fR x)}).i,own 3 1 eI (sv e.vr) ({s with d:=pk s.d a.toNat (fR x)}).r]:=by
 refine aM func152 J ntmps152 J fun w0 M H=> ?_
 have hd:=hs.d;have hil:=hs.i;have hrl:=hs.r;have hnn:=hs.n;refine ar (aX iR J J fun b8=>aF J (ad J (ad J (ad J (ak (xs:= [.tmp 11,.tmp 12,.tmp 13,.const (I6 2)]) (xy e s n hs a ha 4 2 (by decide) (by decide) hok) Ja [0,1,2,3] [] [0,1,2,3] (fun _ _=>aX iR J J fun b9=>au (k:=9) iR J J J J J J (aa (aV (aD oq J (aT 9 t4 J J J J (aa (am J (fun h1=> ?_) (fun h1=> ?_)))))))))))))
 ·(try simp only [bk]at h1);refine ar (aq J (aa (aC (bI (X:=Nat) (fun i=>i≤4) (fun i=> [(0,Pt e.m),(1,I3 a),(2,I6 4),(3,I3 (mK x i)),(8,Pt b8),(9,Pt b9),(10,I6 (i:Int))]) (fun i=> [(0,be e.m 157 (mR e)),(1,own 5 1 ct (sv e.vd) (pk s.d a.toNat ((fR x).take i))),(2,own 5 1 ct (sv e.vi) s.i),(3,own 3 1 eI (sv e.vr) s.r),(8,be b8 241 [I3 0,I3 0,.bool false]),(9,be b9 241 [I3 0,I3 0,.bool true])]) (fun i=> []) (fun i=>4-i) 0 (by omega) J J J (fun i n1=>aV (ad J (ad J (av J J cy (aa (am J (fun h2=> ?_) (fun h2=> ?_)))))))))))
  ·(try simp only [bk]at h2);have hi:i<4:=by omega
   have hpl:=fS ((fR x).take i) s.d a.toNat
   have hsb:=Ac hx i;obtain⟨y,hy⟩:∃y,(pk s.d a.toNat ((fR x).take i))[a.toNat+i]?=some y:=⟨_,bT (by omega)⟩
   refine aA (aZ (aC (ar (ad J (bS J (aD mz J (aT 0 yh J J J J (ad J (ad J (aS (cB underlying3 underlying41 J (c:=(i:Int)) (cf (by omega))) (av J J (cC (c:=((a.toNat+i:Nat):Int)) (by rw [cf (by omega)];omega)) (ad J (aS (cB underlying41 underlying5 J (c:=mK x i%256) (IntKind.wrap_u8 _)) (aS (aK (j:=a.toNat+i) underlying84 t5 J J (aH (k:=1) J) J (by omega)) (rL (k:=1) (e':=(mK x i%256)) t5 J J J (by intro _;rfl) hy J J (aa (ap (ad J ?_))))))))))))))))));refine av J J (iE (by decide) (pW hsb (by decide))) (aq J (aa (ap (ad J (av J J aO (aq J (aa ?_)))))));refine aG (i+1) ⟨by omega,by omega⟩ J (by rw [cw (Ao hx hi),mg,List.length_take,Nat.min_eq_left (by show i≤4;omega)];rfl) J
  ·(try simp only [bk]at h2);have hi:i=4:=by omega
   subst hi;refine bM (ar (aS (aJ iR J J J (a_ (k:=9) J)) (au (k:=8) iR J J J J J J (aa (az (aQ () O J (cc (bp iR J J J (a_ (k:=8) J))) J [0,1,2,3] [] J J J))))))
 ·cases h1
end Go.Proofs.YtedmdgbmdplifaaGreat
