/-
  Part of the proof: the texts AU, KN, R0, G1, G2, G3, KX, N0, N1, KG, N2, N3, M0, KU, M1, EA, EB, EC, ED, shortened. Conditions are with the theorems.
-/
import Derived.Lib.Builder
import Derived.Lib.UnsafeStr
import Derived.Laws.Externs
import Derived.Laws.BitsAllLaws
import Derived.Test.YtedmdgbmdplifaaGreatXAa
import Derived.Test.YtedmdgbmdplifaaGreatXAb
set_option maxHeartbeats 32000000
set_option maxRecDepth 100000
namespace Go.Proofs.YtedmdgbmdplifaaGreat
set_option linter.unusedSimpArgs false
set_option linter.unusedVariables false
open Go.RowKit
theorem um:∀(ns a b:List ByteArray),qM ns (a++b)=fst (qM ns a) (qM (ns++a) b)
 | ns,[],b=>by simp [qM,fst]
 | ns,x::r,b=>by
  rw [List.cons_append,qM,um (ns++ [x]) r b,qM,fg,List.append_assoc];rfl
theorem qL{l:List ByteArray}{i:Nat}{x:ByteArray}(h:l[i]?=some x):qM [] (l.take (i+1))=fst (qM [] (l.take i)) (if bX x (l.take i)=true then 22 else 0):=by
 rw [bM h,um];show fst _ (fst (if bX x ([]++l.take i)=true then 22 else 0) 0)=_;rw [dc,List.nil_append]
def pl(f:Tf):Prop:=f.ps.length>4∨f.ps.length+cD f.body>12∨cl f.body>400∨cS 1 f.body=true
instance(f:Tf):Decidable (pl f):=by unfold pl;exact inferInstance
theorem kZ(fs:List Tf)(f:Tf):jI fs f=fst (if pl f then 2 else 0) (fst (qM [] f.ps) (cq fs f.ps f.body).2):=rfl
theorem OE{f:Tf}{er:Int}{dp:Bool}(hdp:dp=true→er≠0)(h:(decide ((f.ps.length:Int)>4) || decide ((f.ps.length:Int)+(cD f.body:Int)>12) || decide (0+(cl f.body:Int)>400) || (dp || cS 1 f.body))=true):fst er 2=fst er (if pl f then 2 else 0):=by
 by_cases hb:pl f
 ·rw [if_pos hb]
 ·rw [if_neg hb,dc];unfold pl at hb;have hd:dp=true:=by
   cases hd:dp with
   | true=>rfl
   | false=>
    exfalso;apply hb;rw [hd,Bool.false_or]at h;simp only [Bool.or_eq_true,decide_eq_true_eq]at h;rcases h with((h|h)|h)|h
    ·exact .inl (by omega)
    ·exact .inr (.inl (by omega))
    ·exact .inr (.inr (.inl (by omega)))
    ·exact .inr (.inr (.inr h))
  exact if_neg (hdp hd)
theorem OF{f:Tf}{er:Int}{dp:Bool}(h:(decide ((f.ps.length:Int)>4) || decide ((f.ps.length:Int)+(cD f.body:Int)>12) || decide (0+(cl f.body:Int)>400) || (dp || cS 1 f.body))=false):er=fst er (if pl f then 2 else 0):=by
 simp only [Bool.or_eq_false_iff,decide_eq_false_iff_not]at h;have hb:¬pl f:=by
  unfold pl;rintro (h1|h1|h1|h1)
  ·omega
  ·omega
  ·omega
  ·rw [h.2.2]at h1;cases h1
 rw [if_neg hb,dc]
theorem Eu{fs:List Tf}{f:Tf}{er:Int}{dp:Bool}(hdp:dp=true→er≠0)(h:(dp || cS 1 f.body)=true):fst er (jI fs f)≠0:=by
 intro h2;obtain⟨h3,h4⟩:=bl.1 h2;rw [kZ]at h4;have h5:=(bl.1 h4).1;have hb:¬pl f:=fun hb=>by rw [if_pos hb]at h5;cases h5
 cases hd:dp with
 | true=>exact hdp hd h3
 | false=>
  rw [hd,Bool.false_or]at h;exact hb (.inr (.inr (.inr h)))
theorem nZ(fs:List Tf):∀a b:List Tf,fE fs (a++b)=fst (fE fs a) (fE fs b)
 | [],b=>rfl
 | t::r,b=>by rw [List.cons_append,fE,nZ fs r b,fE,fg]
theorem jH{fs l:List Tf}{i:Nat}{f:Tf}(h:l[i]?=some f):fE fs (l.take (i+1))=fst (fE fs (l.take i)) (jI fs f):=by
 rw [bM h,nZ];show fst _ (fst (jI fs f) 0)=_;rw [dc]
theorem mG{fs:List Tf}:once fs=true↔∀(i:Nat)(f:Tf),fs[i]?=some f→qD fs f.name=(i:Int):=by
 unfold once;rw [List.all_eq_true];constructor
 ·intro h i f hf;obtain⟨hi,hf2⟩:=List.getElem?_eq_some_iff.1 hf;have:=h i (List.mem_range.2 hi);rw [List.getD_eq_getElem?_getD,hf]at this;simpa using this
 ·intro h i hi;have hi:=List.mem_range.1 hi;have h2:=List.getElem?_eq_getElem hi;have:=h i _ h2;rw [List.getD_eq_getElem?_getD,h2];simpa using this
theorem zw{fs:List Tf}{i:Nat}{f:Tf}(hf:fs[i]?=some f)(h:¬qD fs f.name=(i:Int)):once fs=false:=by
 rw [Bool.eq_false_iff];exact fun h2=>h (mG.1 h2 i f hf)
theorem NA{fs:List Tf}(h:rP fs=false):fq fs=1:=if_pos h
theorem Nz{fs:List Tf}(h:rP fs=true)(h2:fs.length>16):fq fs=2:=by
 unfold fq;rw [if_neg (by rw [h];simp),if_pos h2]
theorem EC{fs:List Tf}(h:rP fs=true)(h2:¬fs.length>16)(h3:once fs=false):fq fs=22:=by
 unfold fq;rw [if_neg (by rw [h];simp),if_neg h2,if_pos h3]
theorem ED{fs:List Tf}(h:rP fs=true)(h2:¬fs.length>16)(h3:once fs=true)(h4:ce fs cx=none):fq fs=21:=by
 unfold fq;rw [if_neg (by rw [h];simp),if_neg h2,if_neg (by rw [h3];simp),h4]
theorem EB{fs:List Tf}{f:Tf}(h:rP fs=true)(h2:¬fs.length>16)(h3:once fs=true)(h4:ce fs cx=some f)(h5:f.ps.length>0):fq fs=23:=by
 unfold fq;rw [if_neg (by rw [h];simp),if_neg h2,if_neg (by rw [h3];simp),h4];exact if_pos h5
theorem wu{fs:List Tf}{f:Tf}(h:rP fs=true)(h2:¬fs.length>16)(h3:once fs=true)(h4:ce fs cx=some f)(h5:¬f.ps.length>0):fq fs=fE fs fs:=by
 unfold fq;rw [if_neg (by rw [h];simp),if_neg h2,if_neg (by rw [h3];simp),h4];exact if_neg h5
theorem yG(c:Nat)(vp vn:SV)(nd va:Int)(dp:Bool)(er:Int)(ns:List ByteArray)(fs:List Tf)(hfl:fs.length≤1000000)(f:Tf)(hg:GF f)(hdp:dp=true→er≠0):
  Spec Tryz.prog 83 [.pointer (some ⟨c,0,none⟩),LA f] [aY c 165 (cR vp (vn) (nd) (va) (dp) (er)),own 9 1 eS (sv vn) (ns)] [y_ f,cm vp fs] (X:=SV) (fun _=>True) (fun _=> .tuple #[]) (fun x=> [aY c 165 (cR vp (x) (0+(cl f.body:Int)) ((f.ps.length:Int)+(cD f.body:Int)) (dp || cS 1 f.body) (fst er (jI fs f))),own 9 1 eS (sv x) ((cq fs f.ps f.body).1)]) (fun _=> []):=by
 refine aF Tryz.func83 J Tryz.ntmps83 J fun w0 M H=> ?_
 obtain⟨g1,g2,g3,g4,g5,g6⟩:=hg;have hvl:=gG f.body;refine aQ 0 2 J lu (aQ 0 3 J jn (ae (aa (bN J J fun b3=>ai (ae ?_)))));refine zj [0,1,2,3,4,5,6,7,8,9,10,11,12,13,14] [0,7,11,1,2,3,4,5,6,8,9,10,12,13,14] [6,7,8,9,10,11,12,13,14,15,16,17] _ J J J (bB (V:= [(0,6,_),(1,7,_),(2,8,_),(3,9,_),(4,10,_),(5,11,_),(6,12,_),(7,13,_)]) [0,1,2,3,4,5,6,7] 8 [8,7,6,0] [9,10] (fun _=> [(9,14,_),(10,15,_)]) J J (ad (aD J (ac J)) (ad (aD J (ac J)) (ad (aD J (ac J)) (ad (aD J (ah dr J)) (ad (aD J (ak gm J J (ap (k:=3) J J))) (ad (aD J (aO Tryz.underlying46 J (aK (k:=2) J))) (ad (aD J (aq J)) (ad (aD J (ah mZ J)) ay)))))))) J J J J J J J J J (fun _ _=>J) J (cy (k:=0) gm J J J J J J J J) (fun _ _=>bB [9,10,1,2,3,4,5] 11 [11,10,9,8,7,6,1,0] [12,13] (fun _=> [(12,16,_),(13,17,_)]) J J (ad (aD J (aq J)) (ad (aD J (ah kS J)) (ad (aD J (ac J)) (ad (aD J (ac J)) (ad (aD J (ah dr J)) (ad (aD J (ak gm J J (ap (k:=3) J J))) (ad (aD J (aO Tryz.underlying46 J (aK (k:=2) J))) ay))))))) J J J J J J J J J (fun _ _=>J) J (cy (k:=0) t3 J J J J J J J J) (fun _ _=>bB [12,13,2,3,4,5] 14 [14,13,12,11,10,9,8,7,6,5,4,3,2,1,0] [] (fun _=> []) J J (ad (aD J (aq J)) (ad (aD J (ah pd J)) (ad (aD J (ac J)) (ad (aD J (ah dr J)) (ad (aD J (ak gm J J (ap (k:=3) J J))) (ad (aD J (aO Tryz.underlying46 J (aK (k:=2) J))) ay)))))) J J J J J J J J J (fun _ _=>J) J (cy (k:=0) t3 J J J J J J J J) (fun _ _=>be [] J J ay J J J ?_))))
 refine cA 1 (α:=ByteArray) (S:=9) (s:=1) (enc:=eS) (ae (aa (aj (ac J) J (aj (ah iw J) J (aj (ak gZ J J (ap (k:=3) J J)) J (bF (xs:= [.tmp 18,.tmp 20,.const (.int .i64 1)]) (yA c vp bw er f.vb f.body g4 g5 1 0 (f.ps.length:Int) dp (by omega) (by omega) (by omega) (by omega) (by omega)) EP [0] [(false,3)] [0] [] J J J J J J J J (fun _ _=>J) (fun _ _ _=>J) J (fun _ _=>ai (bi (X:=Unit) (fun _=>True) (fun _=> [(0,.pointer (some ⟨c,0,none⟩)),(3,.pointer (some ⟨b3,0,none⟩))]) (fun _=> [(0,aY c 165 (cR vp (bw) (0+(cl f.body:Int)) ((f.ps.length:Int)+(cD f.body:Int)) (dp || cS 1 f.body) (fst er (if pl f then 2 else 0)))),(1,own 9 1 eS (sv bw) ([])),(3,aY b3 66 (iR f))]) (fun _=> [(0,y_ f),(1,cm vp fs),(2,sl 1 eS (sv f.vp) f.ps),(3,bz f.vb f.body)]) ?_ (fun _ _=> ?_)))))))))
 ·refine ae (aa (aj (ah dr J) J (aj (ak gm J J (ap (k:=3) J J)) J (aj (aO Tryz.underlying46 J (aK (k:=2) J)) J (aj (am J J dL) J (aj (ac J) J (aA [] J J trivial (fun hg1=>ac J) J (aA [(27,_)] J J ⟨J,trivial⟩ (fun hg2=>aq J) J (aA [(27,_),(28,_)] J J ⟨J,J,trivial⟩ (fun hg3=>ah pd J) J (aA [(27,_),(28,_),(29,_)] J J ⟨J,J,J,trivial⟩ (fun hg4=>ak t3 J J (ap (k:=0) J J)) J (aA [(27,_),(28,_),(29,_),(30,_)] J J ⟨J,J,J,J,trivial⟩ (fun hg5=>am J J dL) J (aj (aM J J J (by first|exact ax|exact aC|rfl)) J (aj (ac J) J ?_)))))))))))));refine aA [] J J trivial (fun hg6=>ac J) J (aA [(34,_)] J J ⟨J,trivial⟩ (fun hg7=>aq J) J (aA [(34,_),(35,_)] J J ⟨J,J,trivial⟩ (fun hg8=>ah kS J) J (aA [(34,_),(35,_),(36,_)] J J ⟨J,J,J,trivial⟩ (fun hg9=>ak t3 J J (ap (k:=0) J J)) J (aA [(34,_),(35,_),(36,_),(37,_)] J J ⟨J,J,J,J,trivial⟩ (fun hg10=>am J J dL) J (aj (aM J J J (by first|exact ax|exact aC|rfl)) J (aj (ac J) J (aA [] J J trivial (fun hg11=>ac J) J (aA [(41,_)] J J ⟨J,trivial⟩ (fun hg12=>aq J) J (aA [(41,_),(42,_)] J J ⟨J,J,trivial⟩ (fun hg13=>ah mY J) J (aA [(41,_),(42,_),(43,_)] J J ⟨J,J,J,trivial⟩ (fun hg14=>ak t4 J J (ap (k:=0) J J)) J (aj (aM J J J (by first|exact ax|exact aC|rfl)) J (ai (ar J (fun h15=> ?_) (fun h15=> ?_))))))))))))))
  ·have hq:=h15;refine aa (aj (ac J) J (bF (xs:= [.tmp 46,.const (.int .i64 2)]) (iC c vp bw (0+(cl f.body:Int)) ((f.ps.length:Int)+(cD f.body:Int)) (dp || cS 1 f.body) er 2) wB [0] [] [0] [] J J J J J J J J (fun _ _=>J) (fun _ _ _=>J) J (fun _ _=>ai (aL () trivial J (by rw [←OE hdp hq];rfl) J))))
  ·have hq:=h15;refine az (aL () trivial J (by rw [←OF hq];rfl) J)
 ·refine ae (ae (aa (aj (ah dr J) J (aj (ak gm J J (ap (k:=3) J J)) J (aj (aO Tryz.underlying46 J (aK (k:=2) J)) J (aj (ac J) J (ai (aB (bk (X:=Nat×SV) (fun x=>x.1≤f.ps.length) (fun x=> [(0,.pointer (some ⟨c,0,none⟩)),(3,.pointer (some ⟨b3,0,none⟩)),(49,sv f.vp),(50,.int .i64 (f.ps.length:Int)),(51,.int .i64 (x.1:Int))]) (fun x=> [(0,aY c 165 (cR vp (x.2) (0+(cl f.body:Int)) ((f.ps.length:Int)+(cD f.body:Int)) (dp || cS 1 f.body) (fst (fst er (if pl f then 2 else 0)) (qM [] (f.ps.take x.1))))),(1,own 9 1 eS (sv x.2) (f.ps.take x.1)),(3,aY b3 66 (iR f))]) (fun x=> [(0,y_ f),(1,cm vp fs),(2,sl 1 eS (sv f.vp) f.ps),(3,bz f.vb f.body)]) (fun x=>f.ps.length-x.1) (0,bw) (Nat.zero_le _) J (by rw [show fst (fst er (if pl f then 2 else 0)) (qM [] (f.ps.take (0,bw).1))=fst er (if pl f then 2 else 0)from dc _];rfl) J (fun x n1=> ?_))))))))));obtain⟨i,v⟩:=x;dsimp only at n1 ⊢;refine ae (aa (aj (am J J b_) J (ai (ae (ar J (fun h16=> ?_) (fun h16=> ?_))))))
  ·(try simp only [aV]at h16)
   have hi:i<f.ps.length:=by omega
   obtain⟨x,hx⟩:∃k,f.ps[i]?=some k:=⟨_,List.getElem?_eq_getElem hi⟩
   refine az (ae (aB (ae (aa (aj (aN (j:=i) Tryz.underlying46 t9 J J (aK (k:=2) J) (by first|rfl|omega) (by first|omega|(simp;done)|(simp;omega))) J (aj (ak t9 J J (bv (aK (k:=2) J) (by intro _;rfl) hx (by rfl))) J (aj (ag J) J (ai (aa (aj (ac J) J (aj (ac J) J (bF (xs:= [.tmp 55,.tmp 56]) (qR c vp v (0+(cl f.body:Int)) ((f.ps.length:Int)+(cD f.body:Int)) (dp || cS 1 f.body) (fst (fst er (if pl f then 2 else 0)) (qM [] (f.ps.take i))) (f.ps.take i) (by rw [List.length_take];omega) x) I7 [0,1] [] [0,1] [] J J J J J J J J (fun _ _=>J) (fun _ _ _=>J) J (fun v2 _=>ai ?_)))))))))))));refine aa (aj (am J J (aX (by first|exact aU (by omega) (by omega)|rfl))) J (aj (ac J) J (ai ?_)));refine aL (i+1,v2) ⟨by dsimp only;omega,by dsimp only;omega⟩ J (by dsimp only;rw [qL hx,bM hx];simp only [fg];rfl) J
  ·(try simp only [aV]at h16)
   have hi:i=f.ps.length:=by omega
   subst hi;rw [List.take_length];refine bn (aa (aj (ac J) J (aj (ah iw J) J (aj (ak gZ J J (ap (k:=3) J J)) J (bF (xs:= [.tmp 59,.tmp 61]) (wy c vp (0+(cl f.body:Int)) ((f.ps.length:Int)+(cD f.body:Int)) (dp || cS 1 f.body) fs hfl f.vb f.body g4 g5 v f.ps (fst (fst er (if pl f then 2 else 0)) (qM [] f.ps)) (by omega)) EO [0,1] [(false,3),(false,1)] [0,1] [] J J J J J J J J (fun _ _=>J) (fun _ _ _=>J) J (fun v3 _=>ai ?_))))));rw [show fst er (jI fs f)=fst (fst (fst er (if pl f then 2 else 0)) (qM [] f.ps)) (cq fs f.ps f.body).2 by rw [kZ];simp only [fg]];refine bO v3 trivial J eW J [0,1] [] J J J
theorem yF(vp:SV)(fs:List Tf)(hg:GP fs):
  Spec Tryz.prog 48 [.agg #[sv vp]] [] [cm vp fs] (X:=Unit) (fun _=>True) (fun _=> .int .i64 (fq fs)) (fun _=> []) (fun _=> []):=by
 refine aF Tryz.func48 J Tryz.ntmps48 J fun w0 M H=>aQ 0 1 J jm ?_
 have hfl:=hg.1;refine ae (aa (bN J J fun b1=>aj (ag J) J (ai (ae (ae (aa (aj (aJ iZ J J J (aR (k:=1) J)) J (bF (xs:= [.tmp 9]) (xw vp fs hg) QW [] [(false,0)] [] [] J J J J J J J J (fun _ _=>J) (fun _ _ _=>J) J (fun _ _=>aj (bZ J) J (ai (ar J (fun h1=> ?_) (fun h1=> ?_))))))))))))
 ·have hr:rP fs=false:=by simpa using h1
  refine ae (aa (aj (ag J) J (ai (aw (aG () trivial J (bx (aH J)) (by rw [NA hr]) [] [] J J J)))))
 ·have hr:rP fs=true:=by simpa using h1
  refine az (ae (ae (aa (aj (ah cV J) J (aj (ak mj J J (ap (k:=1) J J)) J (aj (aO Tryz.underlying25 J (aK (k:=1) J)) J (aj (am J J dL) J (ai (ar J (fun h2=> ?_) (fun h2=> ?_))))))))))
  ·(try simp only [aV]at h2)
   refine ae (aa (aj (ag J) J (ai (aw (aG () trivial J (bx (aH J)) (by rw [Nz hr (by omega)]) [] [] J J J)))))
  ·(try simp only [aV]at h2)
   refine az (ae (aa (aj (aJ iZ J J J (aR (k:=1) J)) J (aj (aP (parts:= [(0,.tmp 16)]) PG MH J J) J (bN J J fun b18=>aj (ag J) J (ai (ae (ae (aa (aj (ah cV J) J (aj (ak mj J J (ap (k:=1) J J)) J (aj (aO Tryz.underlying25 J (aK (k:=1) J)) J ?_))))))))))));refine aj (ac J) J (ai (aB ?_));refine bk (X:=Nat) (fun i=>i≤fs.length∧∀j f,j<i→fs[j]?=some f→qD fs f.name=(j:Int)) (fun i=> [(1,.pointer (some ⟨b1,0,none⟩)),(2,.int .i64 0),(3,.pointer (some ⟨b18,0,none⟩)),(20,sv vp),(21,.int .i64 (fs.length:Int)),(22,.int .i64 (i:Int))]) (fun i=> [(1,aY b1 27 [sv vp]),(18,aY b18 165 (cR vp bw 0 0 false 0))]) (fun i=> [(0,cm vp fs),(1,sl 3 iR (sv vp) fs)]) (fun i=>fs.length-i) 0 ⟨Nat.zero_le _,fun j f hj=>by omega⟩ J J J (fun i hx0=> ?_);obtain⟨n1,n2⟩:=hx0;refine ae (aa (aj (am J J b_) J (ai (ae (ar J (fun h3=> ?_) (fun h3=> ?_))))))
   ·(try simp only [aV]at h3)
    have hi:i<fs.length:=by omega
    obtain⟨f,hst⟩:∃k,fs[i]?=some k:=⟨_,List.getElem?_eq_getElem hi⟩
    refine az (ae (aB (ae (aa (aj (ac J) J (aj (aN (j:=i) Tryz.underlying25 fX J J (aK (k:=1) J) (by first|rfl|omega) (by first|omega|(simp;done)|(simp;omega))) J (aj (aJ fX J J J (bv (aK (k:=1) J) (by intro _;rfl) hst (by rfl))) J (aT fX J J fun b5=>aj (ag J) J (av (k:=5) fX J J J J J J (ai (ae (aa ?_))))))))))));refine aj (ac J) J (aj (ah jD J) J (aj (ak t9 J J (ap (k:=5) J J)) J (bF (xs:= [.tmp 27,.tmp 29]) (lY b18 vp bw 0 0 false 0 f.name fs hfl) K8 [18] [(false,1)] [18] [] J J J J J J J J (fun _ _=>J) (fun _ _ _=>J) J (fun _ _=>aj (ac J) J (aj (am J J cW) J (ai (ar J (fun h4=> ?_) (fun h4=> ?_))))))))
    ·have hne:¬qD fs f.name=(i:Int):=by simpa using h4
     refine ae (aa (aj (ag J) J (ai (aw (aG () trivial J (bx (aH J)) (by rw [EC hr (by omega) (zw hst hne)]) [] [] J J J)))))
    ·have hne:qD fs f.name=(i:Int):=by simpa using h4
     refine az (aa (aj (am J J (aX (by first|exact aU (by omega) (by omega)|rfl))) J (aj (ac J) J (ai ?_))));refine aL (i+1) ⟨⟨by omega,fun j f2 hj hf2=>by rcases Nat.lt_succ_iff_lt_or_eq.1 hj with h|h;exact n2 j f2 h hf2;subst h;rw [hst]at hf2;cases hf2;exact hne⟩,by omega⟩ J J J
   ·(try simp only [aV]at h3)
    have hi:i=fs.length:=by omega
    subst hi;have ho:once fs=true:=mG.2 fun j f hf=>n2 j f (List.getElem?_eq_some_iff.1 hf).1 hf
    refine bn (ae (aa (aj (ac J) J (bF (xs:= [.tmp 34,.const (.string (ByteArray.mk #[109,97,105,110]))]) (lY b18 vp bw 0 0 false 0 cx fs hfl) K8 [18] [(false,1)] [18] [] J J J J J J J J (fun _ _=>J) (fun _ _ _=>J) J (fun _ _=>aj (ag J) J (ai (ae (ae (aa (aj (ac J) J (aj (am J J b_) J (ai (ar J (fun h5=> ?_) (fun h5=> ?_))))))))))))))
    ·(try simp only [aV]at h5)
     have hm:ce fs cx=none:=dC.1.1 h5;refine ae (aa (aj (ag J) J (ai (aw (aG () trivial J (bx (aH J)) (by rw [ED hr (by omega) ho hm]) [] [] J J J)))))
    ·(try simp only [aV]at h5)
     obtain⟨f,hm⟩:∃f,ce fs cx=some f:=by
      cases hf:ce fs cx with
      | none=>exact absurd (dC.1.2 hf) (by omega)
      | some f=>exact⟨f,rfl⟩
     obtain⟨j,hj1,hj2⟩:=dC.2 f hm;have hjl:=(List.getElem?_eq_some_iff.1 hj2).1;rw [hj1];refine aQ 0 7 J (lr (fP hm)) (aQ 7 9 J lu (az (ae (ae (aa (aj (ah cV J) J (aj (ak mj J J (ap (k:=1) J J)) J (aj (ac J) J (aj (aN (j:=j) Tryz.underlying25 fX J J (aK (k:=1) J) J hjl) J (aj (dj dr J) J (aj (ak gm J J (iO (aK (k:=1) J) (by intro _;rfl) hj2 J)) J (aj (aO Tryz.underlying46 J (aK (k:=9) J)) J (aj (am J J dL) J ?_)))))))))))));refine ai (ar J (fun h6=> ?_) (fun h6=> ?_))
     ·(try simp only [aV]at h6)
      refine ae (aa (aj (ag J) J (ai (aw (aG () trivial J (bx (aH J)) (by rw [EB hr (by omega) ho hm (by omega)]) [] [] J J J)))))
     ·(try simp only [aV]at h6)
      refine az (ae (ae (aa (aj (ah cV J) J (aj (ak mj J J (ap (k:=1) J J)) J (aj (aO Tryz.underlying25 J (aK (k:=1) J)) J (aj (ac J) J (ai (aB (cA 19 (α:=ByteArray) (S:=9) (s:=1) (enc:=eS) ?_))))))))));refine bk (X:=Nat×SV×List ByteArray×Int×Int×Bool) (fun x=>x.1≤fs.length∧(x.2.2.2.2.2=true→fE fs (fs.take x.1)≠0)) (fun x=> [(1,.pointer (some ⟨b1,0,none⟩)),(2,.int .i64 0),(3,.pointer (some ⟨b18,0,none⟩)),(47,sv vp),(48,.int .i64 (fs.length:Int)),(49,.int .i64 (x.1:Int))]) (fun x=> [(18,aY b18 165 (cR vp x.2.1 x.2.2.2.1 x.2.2.2.2.1 x.2.2.2.2.2 (fE fs (fs.take x.1)))),(19,own 9 1 eS (sv x.2.1) x.2.2.1)]) (fun x=> [(0,cm vp fs),(1,sl 3 iR (sv vp) fs)]) (fun x=>fs.length-x.1) (0,bw,[],0,0,false) ⟨Nat.zero_le _,fun h=>by cases h⟩ J J J (fun x hx0=> ?_);obtain⟨i,v,ns,nd,va,dp⟩:=x;obtain⟨n1,n2⟩:=hx0;dsimp only at n1 n2 ⊢;refine ae (aa (aj (am J J b_) J (ai (ae (ar J (fun h7=> ?_) (fun h7=> ?_))))))
      ·(try simp only [aV]at h7)
       have hi:i<fs.length:=by omega
       obtain⟨f,hst⟩:∃k,fs[i]?=some k:=⟨_,List.getElem?_eq_getElem hi⟩
       refine az (ae (aB (ae (aa (aj (aN (j:=i) Tryz.underlying25 fX J J (aK (k:=1) J) (by first|rfl|omega) (by first|omega|(simp;done)|(simp;omega))) J (aj (aJ fX J J J (bv (aK (k:=1) J) (by intro _;rfl) hst (by rfl))) J (aT fX J J fun b8=>av (k:=8) fX J J J J J J (ai (aa (aj (ac J) J (aj (aJ fX J J J (aR (k:=8) J)) J (aQ 0 11 J (lr (List.mem_of_getElem? hst)) ?_))))))))))));refine bF (xs:= [.tmp 53,.tmp 54]) (yG b18 vp v nd va dp (fE fs (fs.take i)) ns fs hfl f (hg.2 f (List.mem_of_getElem? hst)) n2) QV [18,19] [(false,11),(false,0)] [18,19] [] J J J J J J J J (fun _ _=>J) (fun _ _ _=>J) J (fun v2 _=>ai (aa (aj (am J J (aX (by first|exact aU (by omega) (by omega)|rfl))) J (aj (ac J) J (ai ?_)))));refine aL (i+1,v2,(cq fs f.ps f.body).1,0+(cl f.body:Int),(f.ps.length:Int)+(cD f.body:Int),dp || cS 1 f.body) ⟨⟨by dsimp only;omega,fun h=>by dsimp only;rw [jH hst];exact Eu n2 h⟩,by dsimp only;omega⟩ J (by dsimp only;rw [jH hst];rfl) J
      ·(try simp only [aV]at h7)
       have hi:i=fs.length:=by omega
       subst hi;rw [List.take_length];refine bn (ae (aa (aj (ac J) J (aj (aq J) J (aj (ah ue J) J (aj (ak ni J J (ap (k:=18) J J)) J (aj (ag J) J (ai (aw (aG () trivial J (bx (aH J)) (by rw [wu hr (by omega) ho hm (by omega)]) [] [] J J J))))))))))
section
variable{P:Program}{N:Nat}{w0:World}{M H:Nat→Prop}{E:el}{Γ R:dQ}{Q:Exit→Act→World→Prop}
variable{ops:Array Oper}{rest:List Oper}{T:TypeId}{ps:String}{af:Array Edge}{d:Nat}
theorem Dk{b:Bool}{A:List Asn}{R:dQ}:(bif b then fB [] A R else R)=R:=by cases b<;>rfl
theorem au{n:Nat}{f:Operand}{xs:List Operand}{cap us vs:List Value}{at_:Array TypeId}{L R0:List Asn}{X:Type}{φ:X→Prop}{v:X→Value}{L' R':X→List Asn}(hs:Spec P n vs L R0 φ v L' R')(hcb:Cb P n)
  (ks:List Nat) (rs:List (Bool×Nat)) (ns:List Nat) (hf:ev E f=some (.func (.func n) #[] cap.toArray)) (hx:evs E xs=some us) (hu:us++cap=vs)
  (hnd:uC ks=true) (hL:ek Γ ks=cZ L) (hR:jc Γ R rs=cZ R0) (hl:iW ks rs=true) (hns:uC ns=true) (hnl:∀x,φ x→ns.length=(L' x).length) (hrl:∀x,φ x→ef rs=true→0=(R' x).length)
  (hd:Nat.blt d N=true) (k:∀x,φ x→At N w0 M H ((d,v x)::E) (fB ns (L' x) (fD ks Γ)) R (wpList P ops Q rest)):
  At N w0 M H E Γ R (wpList P ops Q (⟨some d,.call {callee:= .value f,args:=xs.toArray,argTypes:=at_},T,ps,af,none⟩::rest)):=
 bF hs hcb ks rs ns [] hf hx hu hnd hL hR hl hns hnl hrl hd fun x hx=>by rw [Dk];exact k x hx
theorem bh{dst:Option Nat}{n:Nat}{f:Operand}{xs:List Operand}{cap us vs:List Value}{at_:Array TypeId}{L R0:List Asn}{X:Type}{φ:X→Prop}{v:X→Value}{L' R':X→List Asn}(hs:Spec P n vs L R0 φ v L' R')(hcb:Cb P n)
  (ks:List Nat) (rs:List (Bool×Nat)) (ns:List Nat) (hf:ev E f=some (.func (.func n) #[] cap.toArray)) (hx:evs E xs=some us) (hu:us++cap=vs)
  (hnd:uC ks=true) (hL:ek Γ ks=cZ L) (hR:jc Γ R rs=cZ R0) (hl:iW ks rs=true) (hns:uC ns=true) (hnl:∀x,φ x→ns.length=(L' x).length) (hrl:∀x,φ x→ef rs=true→0=(R' x).length):
  MS P N w0 M H E Γ R ⟨dst,.call {callee:= .value f,args:=xs.toArray,argTypes:=at_},T,ps,af,none⟩ φ v (fun x=>fB ns (L' x) (fD ks Γ)) (fun _=>R):=by
 have h:=gV (dst:=dst) (T:=T) (ps:=ps) (af:=af) (at_:=at_) (w0:=w0) (M:=M) (H:=H) (N:=N) hs hcb ks rs ns [] hf hx hu hnd hL hR hl hns hnl hrl;intro a w hE hC next Q hn
 refine h a w hE hC next Q fun x w' h1 h2=>hn x w' h1 ?_
 dsimp only at h2 ⊢;rw [Dk]at h2;exact h2
end
theorem Br{s x:ByteArray}{l:List ByteArray}{i:Nat}(h:l[i]?=some x):bX s (l.take (i+1))=(bX s (l.take i) || (x==s)):=by
 unfold bX;rw [bM h,List.any_append,bR];simp only [List.any_cons,List.any_nil,Bool.or_false]
 congr 1
 exact decide_eq_decide.2 ⟨fun h=>h.symm,fun h=>h.symm⟩
theorem Dw{s x:ByteArray}{l:List ByteArray}(hm:x∈l)(h:(x==s)=true):bX s l=true:=by
 rw [bR]at h;exact List.any_eq_true.2 ⟨x,hm,by simpa using(of_decide_eq_true h).symm⟩
theorem M1{a b:Bool}(h:(!a&& !b)=false):(a || b)=true:=by cases a<;>cases b<;>simp_all
theorem M2{a b:Bool}(h:(!a&& !b)=true):(a || b)=false:=by cases a<;>cases b<;>simp_all
theorem Bu{s:ByteArray}(h:(s.size:Int)<1∨(s.size:Int)>12):bS s=false:=by
 unfold bS;rcases h with h|h
 ·rw [decide_eq_false (show ¬s.size≠0 by omega)];rfl
 ·rw [decide_eq_false (show ¬s.size≤12 by omega)];simp
theorem AI{s:ByteArray}:(bc s).getD 0 0=sZ s:=by
 unfold sZ bc;cases s.data.toList<;>rfl
theorem Bv{s:ByteArray}(h:mN ((bc s).getD 0 0)=false):bS s=false:=by
 unfold bS;rw [←AI,h];simp
theorem GJ{s:ByteArray}(h:bX s rO=true):bS s=false:=by
 unfold bS;rw [h];simp
theorem wG{s:ByteArray}{i:Nat}(h:i<s.size):(bc s).getD i 0=(((s[i]'h).toNat:Nat):Int):=by
 have hi:i<s.data.toList.length:=by simpa using h
 unfold bc;rw [List.getD_eq_getElem?_getD,List.getElem?_map,List.getElem?_eq_getElem hi];rfl
theorem Kt{s:ByteArray}{i:Nat}(h:i<s.size)(hb:(mN ((bc s).getD i 0) || iB ((bc s).getD i 0))=false):bS s=false:=by
 unfold bS;have h2:yP (fun c=>mN c || iB c) s=false:=by
  rw [Bool.eq_false_iff];intro h3;have h4:=nf.1 h3 i h;rw [wG h]at hb;rw [hb]at h4;cases h4
 rw [h2];simp
theorem GH{s:ByteArray}(h1:¬(s.size:Int)<1)(h2:¬(s.size:Int)>12)(h3:mN ((bc s).getD 0 0)=true)(h4:bX s rO=false)(h5:∀j,j<s.size→(mN ((bc s).getD j 0) || iB ((bc s).getD j 0))=true):bS s=true:=by
 unfold bS;rw [←AI,h3,h4,decide_eq_true (show s.size≠0 by omega),decide_eq_true (show s.size≤12 by omega)];simp only [Bool.not_false,Bool.and_true,Bool.true_and];exact nf.2 fun i h=>by rw [←wG h];exact h5 i h
def rlv:List (List ByteArray):= [[iH],[d6],[dW],[lm,lg],[jZ,lh,li,l9],[fe,fy],[eG,dw],[ff,iV,jt]]
theorem F8(s:ByteArray):(rlv.any fun l=>bX s l)=gw s:=by
 have h:∀o:ByteArray,decide (s=o)=decide (o=s):=fun o=>decide_eq_decide.2 ⟨fun h=>h.symm,fun h=>h.symm⟩
 unfold gw;rw [List.isSome_find?];simp only [rlv,lvL,bX,List.any_cons,List.any_nil,Bool.or_false,h]
 ac_rfl
theorem kN(c:Int):
  Spec Tryz.prog 135 [.int .u8 c] [] [] (X:=Unit) (fun _=>True) (fun _=> .bool (mN c)) (fun _=> []) (fun _=> []):=by
 refine aF Tryz.func135 J Tryz.ntmps135 J fun w0 M H=>ae (aa (aj (ag J) J (ai (ae (aa (aj (ac J) J (aj (am J J eV) J (aj (ac J) J (aA [] J J trivial (fun hg1=>ac J) J (aA [(6,_)] J J ⟨J,trivial⟩ (fun hg2=>am J J jj) J (aj (aM J J J (by first|exact ax|exact aC|rfl)) J (aj (ag J) J ?_))))))))))))
 refine ai (aw (aG () trivial J (bx (aH J)) J [] [] J J J))
theorem kY(c:Int):
  Spec Tryz.prog 136 [.int .u8 c] [] [] (X:=Unit) (fun _=>True) (fun _=> .bool (iB c)) (fun _=> []) (fun _=> []):=by
 refine aF Tryz.func136 J Tryz.ntmps136 J fun w0 M H=>ae (aa (aj (ag J) J (ai (ae (aa (aj (ac J) J (aj (am J J eV) J (aj (ac J) J (aA [] J J trivial (fun hg1=>ac J) J (aA [(6,_)] J J ⟨J,trivial⟩ (fun hg2=>am J J jj) J (aj (aM J J J (by first|exact ax|exact aC|rfl)) J (aj (ag J) J ?_))))))))))))
 refine ai (aw (aG () trivial J (bx (aH J)) J [] [] J J J))
theorem vK:
  Spec Tryz.prog 134 [] [] [] (X:=SV) (fun _=>True) (fun u=>sv u) (fun u=> [own 9 1 eS (sv u) rO]) (fun _=> []):=by
 refine aF Tryz.func134 J Tryz.ntmps134 J fun w0 M H=>ae (aa (aj (ag J) J (ai (ae (aa (cu eS rO (parts:= [(0,.const (.string (ByteArray.mk #[101,108,115,101]))),(1,.const (.string (ByteArray.mk #[102,110]))),(2,.const (.string (ByteArray.mk #[105,102]))),(3,.const (.string (ByteArray.mk #[105,110]))),(4,.const (.string (ByteArray.mk #[109,101,109]))),(5,.const (.string (ByteArray.mk #[111,117,116]))),(6,.const (.string (ByteArray.mk #[114,101,116,117,114,110]))),(7,.const (.string (ByteArray.mk #[118,97,114]))),(8,.const (.string (ByteArray.mk #[119,104,105,108,101])))]) Tryz.underlying46 t9 J (by decide) (by intro _;rfl) J (by decide) (by decide) J J J J fun v1=>aj (ag J) J (ai (aw (aG v1 trivial J (bx (aH J)) J [1] [] J J J)))))))))
theorem jN(s:ByteArray)(v:SV)(l:List ByteArray)(hl:l.length≤1000000):
  Spec Tryz.prog 59 [.string s,sv v] [] [sl 1 eS (sv v) l] (X:=Unit) (fun _=>True) (fun _=> .bool (bX s l)) (fun _=> []) (fun _=> []):=by
 refine aF Tryz.func59 J Tryz.ntmps59 J fun w0 M H=>ae (aa (aj (ag J) J (ai (ae (ae (aa (aj (ag J) J (ai (aB (bk (X:=Nat) (fun i=>i≤l.length∧bX s (l.take i)=false) (fun i=> [(0,.string s),(1,sv v),(5,.int .i64 (i:Int))]) (fun i=> []) (fun i=> [(0,sl 1 eS (sv v) l)]) (fun i=>l.length-i) 0 ⟨Nat.zero_le _,J⟩ J J J (fun i hx0=> ?_)))))))))))
 obtain⟨n1,n2⟩:=hx0;refine ae (ae (aa (aj (ac J) J (aj (ac J) J (aj (aO Tryz.underlying46 J (aK (k:=0) J)) J (aj (am J J b_) J (ai (ar J (fun h1=> ?_) (fun h1=> ?_)))))))))
 ·(try simp only [aV]at h1)
  have hi:i<l.length:=by omega
  obtain⟨x,hx⟩:∃k,l[i]?=some k:=⟨_,List.getElem?_eq_getElem hi⟩
  refine az (ae (aB (ae (aa (aj (ac J) J (aj (ac J) J (aj (aN (j:=i) Tryz.underlying46 t9 J J (aK (k:=0) J) (by first|rfl|omega) (by first|omega|(simp;done)|(simp;omega))) J (aj (ak t9 J J (bv (aK (k:=0) J) (by intro _;rfl) hx (by rfl))) J (aj (ac J) J (aj (am J J ci) J (ai (ar J (fun h2=> ?_) (fun h2=> ?_)))))))))))))
  ·have hct:(x==s)=true:=h2;refine ae (aa (aj (ag J) J (ai (aw (aG () trivial J (bx (aH J)) (congrArg Value.bool (Dw (List.mem_of_getElem? hx) hct).symm) [] [] J J J)))))
  ·have hcf:(x==s)=false:=h2;refine az (aa (aj (ac J) J (aj (am J J (aX (by first|exact aU (by omega) (by omega)|rfl))) J (aj (ag J) J (ai ?_)))));refine aL (i+1) ⟨⟨by omega,by rw [Br hx,n2,hcf];rfl⟩,by omega⟩ J J J
 ·(try simp only [aV]at h1)
  have hi:i=l.length:=by omega
  subst hi;rw [List.take_length]at n2;refine bn (ae (aa (aj (ag J) J (ai (aw (aG () trivial J (bx (aH J)) (congrArg Value.bool n2.symm) [] [] J J J))))))
theorem k_(s:ByteArray)(v:SV)(l:List ByteArray)(hl:l.length≤1000000):Spec Tryz.prog 59 [.string s,sv v] [] [own 9 1 eS (sv v) l] (X:=Unit) (fun _=>True) (fun _=> .bool (bX s l)) (fun _=> []) (fun _=> []):=(jN s v l hl).ro1 br
theorem iM(s:ByteArray):
  Spec Tryz.prog 102 [.string s] [] [] (X:=Unit) (fun _=>True) (fun _=> .bool (bS s)) (fun _=> []) (fun _=> []):=by
 refine aF Tryz.func102 J Tryz.ntmps102 J fun w0 M H=>ae (aa (aj (ag J) J (ai (ae (aa (aj (ac J) J (au (xs:= []) vK I5 [] [] [6] J J J J J J J J (fun _ _=>J) (fun _ _ _=>J) J (fun v6 _=>au (xs:= [.tmp 5,.tmp 6]) (k_ s v6 rO (by decide)) yJ [] [(true,6)] [] J J J J J J J J (fun _ _=>J) (fun _ _ _=>J) J (fun _ _=>aj (ag J) J (ai (ae (ae ?_))))))))))))
 refine aa (aj (ac J) J (aj (cd Tryz.underlying9 J) J (aj (am J J b_) J (aj (ac J) J (aA [] J J trivial (fun hg1=>ac J) J (aA [(12,_)] J J ⟨J,trivial⟩ (fun hg2=>cd Tryz.underlying9 J) J (aA [(12,_),(13,_)] J J ⟨J,J,trivial⟩ (fun hg3=>am J J dL) J (aj (aM J J J (by first|exact ax|exact aC|rfl)) J (aj (ac J) J (gS (t:=16) J (fun h4=> ?_) (fun h4=> ?_)))))))))))
 ·(try simp only [aV]at h4)
  have q8:=h4;refine dH J J J J (dH J J J J (dH J J J J (dH J J J J (aj (aM J J J (by first|exact ax|exact aC|rfl)) J (aj (ac J) J (aA [] J J trivial (fun hg5=>ac J) J (aj (aM J J J (by first|exact ax|exact aC|rfl)) J (ai (ar J (fun h6=> ?_) (fun h6=> ?_))))))))))
  ·(try simp only [aV]at h6)
   refine ae (aa (aj (ag J) J (ai (aw (aG () trivial J (bx (aH J)) (congrArg Value.bool (Bu q8).symm) [] [] J J J)))))
  ·exact absurd h6 (by simp)
 ·(try simp only [aV]at h4)
  have q8:=h4;have hs0:0<s.size:=by omega
  refine cf J J (aj (ac J) J (cf J J (aj (dh (j:=0) Tryz.underlying9 J J J hs0) J (cf J J (au (xs:= [.tmp 18]) (kN _) AF [] [] [] J J J J J J J J (fun _ _=>J) (fun _ _ _=>J) J (fun _ _=>cf J J (aj (bZ J) J (aj (aM J J J (by first|exact ax|exact aC|rfl)) J (aj (ac J) J (aA [] J J trivial (fun hg7=>ac J) J (aj (aM J J J (by first|exact ax|exact aC|rfl)) J (ai (ar J (fun h8=> ?_) (fun h8=> ?_))))))))))))))
  ·(try simp only [aV]at h8)
   have qc:=h8;refine ae (aa (aj (ag J) J (ai (aw ?_))));have hno:bS s=false:=by
    rcases qc with(q|q)|q
    ·cases q
    ·exact Bv q
    ·exact GJ q
   refine aG () trivial J (bx (aH J)) (congrArg Value.bool hno.symm) [] [] J J J
  ·(try simp only [aV]at h8)
   have qc:=h8;refine az (ae (ae (aa (aj (ag J) J (ai (aB (bk (X:=Nat) (fun i=>i≤s.size∧∀j,j<i→(mN ((bc s).getD j 0) || iB ((bc s).getD j 0))=true) (fun i=> [(0,.string s),(4,.int .i64 (i:Int))]) (fun i=> []) (fun i=> []) (fun i=>s.size-i) 0 ⟨Nat.zero_le _,fun j h=>absurd h (Nat.not_lt_zero _)⟩ J J J (fun i hx0=> ?_))))))));obtain⟨n1,n2⟩:=hx0;refine ae (ae (aa (aj (ac J) J (aj (ac J) J (aj (cd Tryz.underlying9 J) J (aj (am J J b_) J (ai (ar J (fun h9=> ?_) (fun h9=> ?_)))))))))
   ·(try simp only [aV]at h9)
    have hi:i<s.size:=by omega
    refine az (ae (aB (ae (aa (aj (ac J) J (aj (ac J) J (aj (dh (j:=i) Tryz.underlying9 J J J hi) J (au (xs:= [.tmp 33]) (kN _) AF [] [] [] J J J J J J J J (fun _ _=>J) (fun _ _ _=>J) J (fun _ _=>aj (bZ J) J (aj (ac J) J (aA [] J J trivial (fun hg10=>ac J) J (aA [(37,_)] J J ⟨J,trivial⟩ (fun hg11=>ac J) J (aA [(37,_),(38,_)] J J ⟨J,J,trivial⟩ (fun hg12=>dh (j:=i) Tryz.underlying9 J J J hi) J ?_)))))))))))));refine gM [(37,_),(38,_),(39,_)] J J ⟨J,J,J,trivial⟩ (fun hg13=>bh (xs:= [.tmp 39]) (kY _) AE [] [] [] J J J J J J J J (fun _ _=>J) (fun _ _ _=>J)) J (aA [(37,_),(38,_),(39,_),(40,_)] J J ⟨J,J,J,J,trivial⟩ (fun hg14=>bZ J) J (aj (aM J J J (by first|exact ax|exact aC|rfl)) J (ai (ar J (fun h15=> ?_) (fun h15=> ?_)))))
    ·have hct:=h15;refine ae (aa (aj (ag J) J (ai (aw (aG () trivial J (bx (aH J)) (congrArg Value.bool (Kt hi (M2 hct)).symm) [] [] J J J)))))
    ·have hcf:=h15;refine az (aa (aj (ac J) J (aj (am J J (aX (by first|exact aU (by omega) (by omega)|rfl))) J (aj (ag J) J (ai ?_)))));refine aL (i+1) ⟨⟨by omega,fun j hj=>by
      by_cases h:j=i
      ·subst h;exact M1 hcf
      ·exact n2 j (by omega)⟩,by omega⟩ rfl rfl rfl
   ·(try simp only [aV]at h9)
    have hi:i=s.size:=by omega
    subst hi;refine bn (ae (aa (aj (ag J) J (ai (aw (aG () trivial J (bx (aH J)) (congrArg Value.bool (GH q8.1 q8.2 qc.1.2 qc.2 n2).symm) [] [] J J J))))))
structure Qi where
 op:Int
 d:Int
 a:Int
 b:Int
 imm:Int
deriving DecidableEq
def gC(i:Qi):List Value:= [.int .i64 i.op,.int .i64 i.d,.int .i64 i.a,.int .i64 i.b,.int .u32 i.imm]
def q3(op d a b:Int):Qi:=⟨op,d,a,b,0⟩
def qi(op d a n:Int):Qi:=⟨op,d,a,0,n⟩
structure Qg where
 code:List Qi
 fixes:List (Int×Int)
 labs:List Int
def uD(p:Int×Int):List Value:= [.int .i64 p.1,.int .i64 p.2]
def Qg.emit(s:Qg)(l:List Qi):Qg:={s with code:=s.code++l}
def Qg.lab(s:Qg):Qg:={s with labs:=s.labs++ [0]}
def Qg.place(s:Qg)(l:Int):Qg:={s with labs:=s.labs.set l.toNat s.code.length}
def Qg.jump(s:Qg)(op d a l:Int):Qg:={s with fixes:=s.fixes++ [((s.code.length:Int),l)],code:=s.code++ [qi op d a 0]}
def Qg.push(s:Qg)(r:Int):Qg:=(s.emit [qi 16 14 14 4294967292]).emit [qi 25 r 14 0]
def Qg.pop(s:Qg)(r:Int):Qg:=(s.emit [qi 23 r 14 0]).emit [qi 16 14 14 4]
def Qg.elem(s:Qg)(r:Int):Qg:=(s.emit [qi 17 r r 255]).emit [qi 20 r r 2]
def oD(o:ByteArray)(s:Qg):Qg:=
 if o=eG then s.emit [q3 1 1 2 1]else if o=dw then s.emit [q3 2 1 2 1]else if o=ff then s.emit [q3 9 1 2 1]else
 if o=dW then s.emit [q3 3 1 2 1]else if o=iH then s.emit [q3 4 1 2 1]else if o=d6 then s.emit [q3 5 1 2 1]else
 if o=fe then s.emit [q3 6 1 2 1]else if o=fy then s.emit [q3 7 1 2 1]else if o=jZ then s.emit [q3 11 1 2 1]else
 if o=li then s.emit [q3 11 1 1 2]else if o=lh then(s.emit [q3 11 1 1 2]).emit [qi 19 1 1 1]else if o=l9 then(s.emit [q3 11 1 2 1]).emit [qi 19 1 1 1]else
 if o=lg then(s.emit [q3 5 1 2 1]).emit [q3 11 1 0 1]else if o=lm then((s.emit [q3 5 1 2 1]).emit [q3 11 1 0 1]).emit [qi 19 1 1 1]else
 if o=iV then((s.lab.jump 32 1 0 s.labs.length).emit [q3 10 1 2 1]).place s.labs.length else
 if o=jt then((((((s.lab.emit [q3 1 3 1 0]).jump 32 1 0 s.labs.length).emit [q3 10 3 2 1]).emit [q3 9 3 3 1]).place s.labs.length)).emit [q3 2 1 2 3]else s
def D5(o:ByteArray)(s:Qg):Qg:=
 if o=dw then s.emit [q3 2 1 0 1]else if o=qf then(s.emit [qi 16 2 0 4294967295]).emit [q3 5 1 1 2]else
 if o=rJ then(s.emit [qi 16 2 0 1]).emit [q3 11 1 1 2]else s
def gQ(n:Int):Bool:=decide (n<131072) || decide (4294967296-131072≤n)
def qx(n:Int)(s:Qg):Qg:=if gQ n=true then s.emit [qi 16 1 0 n]else s.emit [qi 41 1 0 (n/1024),qi 18 1 1 (n%1024)]
abbrev Om:=List (ByteArray×Int)
def bs(o:Om)(x:ByteArray):Int:=match o.find? (fun p=>decide (p.1=x))with
 | some p=>p.2
 | none=>0
mutual
def gX(o st:Om):Tx→Qg→Qg
 | .mk k n nm _ kids,s=>
  if k=1 then qx n s else if k=2 then s.emit [qi 23 1 13 (bs o nm)]else
  if k=5 then s.emit [⟨48,0,0,0,2⟩]else
  if k=4 then((kP o st kids s).elem 1).emit [qi 23 1 1 8192]else
  if k=6 then D5 nm (kP o st kids s)else
  if k=7 then oD nm ((LM o st kids ((kP o st kids s).push 1)).pop 2)else
  if k=3 then(let s1:=(sE o st kids s).jump 40 15 0 (bs st nm)
   if kids.length>0 then s1.emit [qi 16 14 14 (4*kids.length)]else s1)else s
def kP(o st:Om):List Tx→Qg→Qg
 | [],s=>s
 | t::_,s=>gX o st t s
def LM(o st:Om):List Tx→Qg→Qg
 | [],s=>s
 | _::r,s=>kP o st r s
def sE(o st:Om):List Tx→Qg→Qg
 | [],s=>s
 | t::r,s=>sE o st r ((gX o st t s).push 1)
end
mutual
def gY(o st:Om)(en:Int):Ty→Qg→Qg
 | .mk k nm _ es _ body _ els,s=>
  let s0:=s.lab.place s.labs.length
  let s1:=kP o st es s0
  if k=1∨k=2 then s1.emit [qi 25 1 13 (bs o nm)]else
  if k=3 then(((LM o st es (s1.push 1)).pop 2).elem 2).emit [qi 25 1 2 8192]else
  if k=7 then s1.emit [⟨48,0,0,0,1⟩]else
  if k=6 then s1.jump 40 0 0 en else
  if k=4 then(let lb:Int:=s1.labs.length
   let s2:=f_ o st en body ((s1.lab.lab).jump 32 1 0 lb)
   let s3:=if els.length>0 then s2.jump 40 0 0 (lb+1)else s2
   (f_ o st en els (s3.place lb)).place (lb+1))else
  if k=5 then(let lb:Int:=s1.labs.length
   ((f_ o st en body (s1.lab.jump 32 1 0 lb)).jump 40 0 0 s.labs.length).place lb)else s1
def f_(o st:Om)(en:Int):List Ty→Qg→Qg
 | [],s=>s
 | t::r,s=>f_ o st en r (gY o st en t s)
end
mutual
def gD:Ty→Om×Int→Om×Int
 | .mk k nm _ _ _ body _ els,p=>gDs els (gDs body (if k=1 then(dV p.1 nm (wU (-(4*(p.2+1)))),p.2+1)else p))
def gDs:List Ty→Om×Int→Om×Int
 | [],p=>p
 | t::r,p=>gDs r (gD t p)
end
def gP(n:Int):Int→List ByteArray→Om→Om
 | _,[],o=>o
 | k,p::r,o=>gP n (k+1) r (dV o p (8+4*(n-1-k)))
def cI(f:Tf):Om×Int:=gDs f.body (gP f.ps.length 0 f.ps [],0)
def c_:Nat→Qg→Qg
 | 0,s=>s
 | n+1,s=>c_ n (s.push 0)
def gF(st:Om)(f:Tf)(s:Qg):Qg:=
 let lb:Int:=s.labs.length
 let ov:=cI f
 let s1:=((((((s.lab.lab).place (bs st f.name)).emit [qi 16 12 12 1]).emit [qi 16 2 0 12]).jump 35 2 12 lb).emit [⟨49,0,0,0,0⟩]).place lb
 let s2:=c_ ov.2.toNat (((s1.push 15).push 13).emit [q3 1 13 14 0])
 let s3:=((f_ ov.1 st (lb+1) f.body s2).emit [q3 1 1 0 0]).place (lb+1)
 ((((s3.emit [q3 1 14 13 0]).pop 13).pop 15).emit [qi 16 12 12 4294967295]).emit [qi 27 0 15 0]
def qy(st:Om):List Tf→Qg→Qg
 | [],s=>s
 | f::r,s=>qy st r (gF st f s)
def np:List Tf→Om×Qg→Om×Qg
 | [],p=>p
 | f::r,p=>np r (dV p.1 f.name p.2.labs.length,p.2.lab)
def yh(fs:List Tf):Qg:=
 let p:=np fs ([],⟨[],[],[]⟩)
 qy p.1 fs (((p.2.emit [qi 16 14 0 16384]).jump 40 15 0 (bs p.1 cx)).emit [⟨48,0,0,0,0⟩])
def gd:List Qi→Nat→Int→List Qi
 | [],_,_=> []
 | i::l,0,n=>{i with imm:=n}::l
 | i::l,k+1,n=>i::gd l k n
def mV(labs:List Int):List (Int×Int)→List Qi→List Qi
 | [],l=>l
 | p::r,l=>mV labs r (gd l p.1.toNat (wU (labs.getD p.2.toNat 0-p.1)))
def fk(fs:List Tf):List Qi:=mV (yh fs).labs (yh fs).fixes (yh fs).code
def qZ(L:Int→Int)(p:Nat):List (Int×Int)→List Qi→List Qi
 | [],l=>l
 | f::r,l=>qZ L p r (gd l (f.1.toNat-p) (wU (L f.2-f.1)))
def M8(p n:Nat)(fs:List (Int×Int)):Prop:=∀f∈fs,(p:Int)≤f.1∧f.1<p+n
theorem ie:∀(l:List Qi)(k:Nat)(n:Int),(gd l k n).length=l.length
 | [],_,_=>rfl
 | _::_,0,_=>rfl
 | _::l,k+1,n=>congrArg (· +1) (ie l k n)
theorem uw(L:Int→Int)(p:Nat):∀(fs:List (Int×Int))(l:List Qi),(qZ L p fs l).length=l.length
 | [],l=>rfl
 | f::r,l=>by unfold qZ;rw [uw L p r,ie]
theorem oc:∀(a b:List Qi)(k:Nat)(n:Int),k<a.length→gd (a++b) k n=gd a k n++b
 | [],_,_,_,h=>absurd h (Nat.not_lt_zero _)
 | _::_,_,0,_,_=>rfl
 | x::a,b,k+1,n,h=>congrArg (x:: ·) (oc a b k n (Nat.lt_of_succ_lt_succ h))
theorem mx:∀(a b:List Qi)(k:Nat)(n:Int),a.length≤k→gd (a++b) k n=a++gd b (k-a.length) n
 | [],_,_,_,_=>rfl
 | _::_,_,0,_,h=>absurd h (Nat.not_succ_le_zero _)
 | x::a,b,k+1,n,h=>by
  rw [List.length_cons,Nat.add_sub_add_right];exact congrArg (x:: ·) (mx a b k n (Nat.le_of_succ_le_succ h))
theorem wH(L:Int→Int)(p:Nat):∀(fs:List (Int×Int))(a b:List Qi),M8 p a.length fs→qZ L p fs (a++b)=qZ L p fs a++b
 | [],a,b,_=>rfl
 | f::r,a,b,h=>by
  have hf:=h f (by simp);unfold qZ;rw [oc a b _ _ (by omega),wH L p r _ b (fun g hg=>by rw [ie];exact h g (by simp [hg]))]
theorem s6(L:Int→Int)(p:Nat):∀(fs:List (Int×Int))(a b:List Qi),M8 (p+a.length) b.length fs→qZ L p fs (a++b)=a++qZ L (p+a.length) fs b
 | [],a,b,_=>rfl
 | f::r,a,b,h=>by
  have hf:=h f (by simp);unfold qZ;rw [mx a b _ _ (by omega),s6 L p r a _ (fun g hg=>by rw [ie];exact h g (by simp [hg]))]
  congr 3
  omega
theorem AM(L:Int→Int)(p:Nat):∀(f1 f2:List (Int×Int))(l:List Qi),qZ L p (f1++f2) l=qZ L p f2 (qZ L p f1 l)
 | [],f2,l=>rfl
 | f::r,f2,l=>by
  show qZ L p (r++f2) _=qZ L p f2 (qZ L p r _);exact AM L p r f2 _
theorem HO(L:Int→Int)(p:Nat)(f1 f2:List (Int×Int))(a b:List Qi)(h1:M8 p a.length f1)(h2:M8 (p+a.length) b.length f2):
  qZ L p (f1++f2) (a++b)=qZ L p f1 a++qZ L (p+a.length) f2 b:=by
 rw [AM,wH L p f1 a b h1,s6 L p f2 _ b (by rw [uw];exact h2),uw]
structure Res(K:(Int→Int)→Prop)(s s':Qg)(r:List Qi):Prop where
 ex:∃raw fs ls,s'.code=s.code++raw∧raw.length=r.length∧s'.fixes=s.fixes++fs∧s'.labs=s.labs++ls∧M8 s.code.length raw.length fs∧
  ∀L:Int→Int,K L→(∀(i:Nat)(n:Int),ls[i]?=some n→L ((s.labs.length+i:Nat):Int)=n)→qZ L s.code.length fs raw=r
theorem Res.nil{K:(Int→Int)→Prop}(s:Qg):Res K s s []:=⟨⟨[],[],[],by simp,rfl,by simp,by simp,fun _ h=>by simp at h,fun _ _ _=>rfl⟩⟩
theorem Res.seq{K:(Int→Int)→Prop}{s s1 s2:Qg}{r1 r2:List Qi}(h1:Res K s s1 r1)(h2:Res K s1 s2 r2):Res K s s2 (r1++r2):=by
 obtain⟨raw1,fs1,ls1,a1,a2,a3,a4,a5,a6⟩:=h1.ex;obtain⟨raw2,fs2,ls2,b1,b2,b3,b4,b5,b6⟩:=h2.ex;have hl:s1.code.length=s.code.length+raw1.length:=by rw [a1,List.length_append]
 have hm:s1.labs.length=s.labs.length+ls1.length:=by rw [a4,List.length_append]
 refine⟨⟨raw1++raw2,fs1++fs2,ls1++ls2,by rw [b1,a1,List.append_assoc],by simp [a2,b2],by rw [b3,a3,List.append_assoc],by rw [b4,a4,List.append_assoc],fun f hf=> ?_,fun L hK hL=> ?_⟩⟩
 ·rw [List.length_append];rcases List.mem_append.1 hf with hf|hf
  ·have:=a5 f hf;omega
  ·have:=b5 f hf;omega
 ·rw [HO L _ _ _ _ _ a5 (by rw [←hl];exact b5),←hl,a6 L hK fun i n h=>hL i n (by
   rw [List.getElem?_append_left (by obtain⟨h,-⟩:=List.getElem?_eq_some_iff.1 h;exact h)];exact h),b6 L hK fun i n h=> ?_]
  rw [hm];have:=hL (ls1.length+i) n (by rw [List.getElem?_append_right (by omega),show ls1.length+i-ls1.length=i by omega];exact h);rw [show s.labs.length+ls1.length+i=s.labs.length+(ls1.length+i) by omega];exact this
theorem Res.emit{K:(Int→Int)→Prop}(s:Qg)(l:List Qi):Res K s (s.emit l) l:=
 ⟨⟨l,[],[],rfl,rfl,by simp [Qg.emit],by simp [Qg.emit],fun _ h=>by simp at h,fun _ _ _=>rfl⟩⟩
theorem Res.jump{K:(Int→Int)→Prop}(s:Qg)(op d a l:Int)(n:Int)(h:∀L,K L→wU (L l-s.code.length)=n):Res K s (s.jump op d a l) [qi op d a n]:=
 ⟨⟨[qi op d a 0],[((s.code.length:Int),l)],[],rfl,rfl,rfl,by simp [Qg.jump],fun f hf=>by
  have:=List.mem_singleton.1 hf;subst this;simp only [List.length_singleton];omega,fun L hK _=>by
  have:=h L hK;simp only [qZ,gd,Int.toNat_natCast,Nat.sub_self,this];rfl⟩⟩
theorem Res.push{K:(Int→Int)→Prop}(s:Qg)(r:Int):Res K s (s.push r) [qi 16 14 14 4294967292,qi 25 r 14 0]:=(Res.emit s _).seq (Res.emit _ _)
theorem Res.pop{K:(Int→Int)→Prop}(s:Qg)(r:Int):Res K s (s.pop r) [qi 23 r 14 0,qi 16 14 14 4]:=(Res.emit s _).seq (Res.emit _ _)
theorem Res.elem{K:(Int→Int)→Prop}(s:Qg)(r:Int):Res K s (s.elem r) [qi 17 r r 255,qi 20 r r 2]:=(Res.emit s _).seq (Res.emit _ _)
theorem Res.weaken{K K':(Int→Int)→Prop}{s s':Qg}{r:List Qi}(h:Res K s s' r)(hk:∀L,K' L→K L):Res K' s s' r:=by
 obtain⟨raw,fs,ls,a1,a2,a3,a4,a5,a6⟩:=h.ex;exact⟨⟨raw,fs,ls,a1,a2,a3,a4,a5,fun L hK=>a6 L (hk L hK)⟩⟩
theorem Res.labels{K:(Int→Int)→Prop}{s s' s'':Qg}{r:List Qi}(ns ms:List Int)(hl:ns.length=ms.length)
  (h:Res (fun L=>K L∧∀(i:Nat)(n:Int),ms[i]?=some n→L ((s.labs.length+i:Nat):Int)=n) {s with labs:=s.labs++ns} s' r)
  (hc:s''.code=s'.code) (hf:s''.fixes=s'.fixes) (hs:∀ls,s'.labs=(s.labs++ns)++ls→s''.labs=(s.labs++ms)++ls):Res K s s'' r:=by
 obtain⟨raw,fs,ls,a1,a2,a3,a4,a5,a6⟩:=h.ex;refine⟨⟨raw,fs,ms++ls,hc.trans a1,a2,hf.trans a3,by rw [hs ls a4,List.append_assoc],a5,fun L hK hL=>a6 L ⟨hK,fun i n hi=>hL i n ?_⟩ fun i n hi=> ?_⟩⟩
 ·rw [List.getElem?_append_left (by obtain⟨h,-⟩:=List.getElem?_eq_some_iff.1 hi;exact h)];exact hi
 ·have:=hL (ms.length+i) n (by rw [List.getElem?_append_right (by omega),show ms.length+i-ms.length=i by omega];exact hi);show L (((s.labs++ns).length+i:Nat):Int)=n;rw [List.length_append,hl,show s.labs.length+ms.length+i=s.labs.length+(ms.length+i) by omega];exact this
def eB(r:Int):List Qi:= [qi 16 14 14 4294967292,qi 25 r 14 0]
def j7(r:Int):List Qi:= [qi 23 r 14 0,qi 16 14 14 4]
def r6(r:Int):List Qi:= [qi 17 r r 255,qi 20 r r 2]
def AR(o:ByteArray):List Qi:=
 if o=eG then [q3 1 1 2 1]else if o=dw then [q3 2 1 2 1]else if o=ff then [q3 9 1 2 1]else
 if o=dW then [q3 3 1 2 1]else if o=iH then [q3 4 1 2 1]else if o=d6 then [q3 5 1 2 1]else
 if o=fe then [q3 6 1 2 1]else if o=fy then [q3 7 1 2 1]else if o=jZ then [q3 11 1 2 1]else
 if o=li then [q3 11 1 1 2]else if o=lh then [q3 11 1 1 2,qi 19 1 1 1]else if o=l9 then [q3 11 1 2 1,qi 19 1 1 1]else
 if o=lg then [q3 5 1 2 1,q3 11 1 0 1]else if o=lm then [q3 5 1 2 1,q3 11 1 0 1,qi 19 1 1 1]else
 if o=iV then [qi 32 1 0 2,q3 10 1 2 1]else
 if o=jt then [q3 1 3 1 0,qi 32 1 0 3,q3 10 3 2 1,q3 9 3 3 1,q3 2 1 2 3]else []
def BW(o:ByteArray):List Qi:=
 if o=dw then [q3 2 1 0 1]else if o=qf then [qi 16 2 0 4294967295,q3 5 1 1 2]else
 if o=rJ then [qi 16 2 0 1,q3 11 1 1 2]else []
def ox(n:Int):List Qi:=if gQ n=true then [qi 16 1 0 n]else [qi 41 1 0 (n/1024),qi 18 1 1 (n%1024)]
mutual
def zX(o:Om)(S:ByteArray→Int):Tx→Nat→List Qi
 | .mk k n nm _ kids,p=>
  if k=1 then ox n else if k=2 then [qi 23 1 13 (bs o nm)]else
  if k=5 then [⟨48,0,0,0,2⟩]else
  if k=4 then wM o S kids p++(r6 1++ [qi 23 1 1 8192])else
  if k=6 then wM o S kids p++BW nm else
  if k=7 then wM o S kids p++(eB 1++(LS o S kids (p+(wM o S kids p).length+2)++(j7 2++AR nm)))else
  if k=3 then wZ o S kids p++([qi 40 15 0 (wU (S nm-((p+(wZ o S kids p).length:Nat):Int)))]++if kids.length>0 then [qi 16 14 14 (4*kids.length)]else [])else []
def wM(o:Om)(S:ByteArray→Int):List Tx→Nat→List Qi
 | [],p=> []
 | t::_,p=>zX o S t p
def LS(o:Om)(S:ByteArray→Int):List Tx→Nat→List Qi
 | [],p=> []
 | _::r,p=>wM o S r p
def wZ(o:Om)(S:ByteArray→Int):List Tx→Nat→List Qi
 | [],p=> []
 | t::r,p=>zX o S t p++(eB 1++wZ o S r (p+(zX o S t p).length+2))
end
mutual
def wX:Tx→Nat
 | .mk k n nm _ kids=>
  if k=1 then(ox n).length else if k=2 then 1 else if k=5 then 1 else
  if k=4 then iG kids+3 else if k=6 then iG kids+(BW nm).length else
  if k=7 then iG kids+(L4 kids+(4+(AR nm).length))else
  if k=3 then rc kids+(1+if kids.length>0 then 1 else 0)else 0
def iG:List Tx→Nat
 | []=>0
 | t::_=>wX t
def L4:List Tx→Nat
 | []=>0
 | _::r=>iG r
def rc:List Tx→Nat
 | []=>0
 | t::r=>wX t+(2+rc r)
end
mutual
theorem fJ(o:Om)(S:ByteArray→Int):∀(t:Tx)(p:Nat),(zX o S t p).length=wX t
 | .mk k n nm _ kids,p=>by
  have h0:=md o S kids;have h1:=yS o S kids;have hs:=oE o S kids;unfold zX wX;split
  ·rfl
  split
  ·rfl
  split
  ·rfl
  split
  ·rw [List.length_append,h0];rfl
  split
  ·rw [List.length_append,h0]
  split
  ·simp only [List.length_append,h0,h1];simp only [eB,j7,List.length_cons,List.length_nil];omega
  split
  ·simp only [List.length_append,hs,List.length_cons,List.length_nil];split<;>rfl
  ·rfl
theorem md(o:Om)(S:ByteArray→Int):∀(l:List Tx)(p:Nat),(wM o S l p).length=iG l
 | [],p=>rfl
 | t::_,p=>fJ o S t p
theorem yS(o:Om)(S:ByteArray→Int):∀(l:List Tx)(p:Nat),(LS o S l p).length=L4 l
 | [],p=>rfl
 | _::r,p=>md o S r p
theorem oE(o:Om)(S:ByteArray→Int):∀(l:List Tx)(p:Nat),(wZ o S l p).length=rc l
 | [],p=>rfl
 | t::r,p=>by
  unfold wZ rc;rw [List.length_append,List.length_append,fJ o S t,oE o S r];rfl
end
mutual
def zY(o:Om)(S:ByteArray→Int)(E:Int):Ty→Nat→List Qi
 | .mk k nm _ es _ body _ els,p=>
  if k=1∨k=2 then wM o S es p++ [qi 25 1 13 (bs o nm)]else
  if k=3 then wM o S es p++(eB 1++(LS o S es (p+iG es+2)++(j7 2++(r6 2++ [qi 25 1 2 8192]))))else
  if k=7 then wM o S es p++ [⟨48,0,0,0,1⟩]else
  if k=6 then wM o S es p++ [qi 40 0 0 (wU (E-((p+iG es:Nat):Int)))]else
  if k=4 then wM o S es p++([qi 32 1 0 (wU (((jW o S E body (p+iG es+1)).length+(if els.length>0 then 1 else 0)+1:Nat):Int))]++(jW o S E body (p+iG es+1)++
   ((if els.length>0 then [qi 40 0 0 (wU (((jW o S E els (p+iG es+1+(jW o S E body (p+iG es+1)).length+(if els.length>0 then 1 else 0))).length+1:Nat):Int))]else [])++
    jW o S E els (p+iG es+1+(jW o S E body (p+iG es+1)).length+(if els.length>0 then 1 else 0)))))else
  if k=5 then wM o S es p++([qi 32 1 0 (wU (((jW o S E body (p+iG es+1)).length+2:Nat):Int))]++(jW o S E body (p+iG es+1)++
   [qi 40 0 0 (wU (-(((jW o S E body (p+iG es+1)).length+iG es+1:Nat):Int)))]))else wM o S es p
def jW(o:Om)(S:ByteArray→Int)(E:Int):List Ty→Nat→List Qi
 | [],p=> []
 | t::r,p=>zY o S E t p++jW o S E r (p+(zY o S E t p).length)
end
mutual
def wY:Ty→Nat
 | .mk k _ _ es _ body _ els=>
  if k=1∨k=2 then iG es+1 else if k=3 then iG es+(L4 es+7)else if k=7 then iG es+1 else if k=6 then iG es+1 else
  if k=4 then iG es+(eC body+(eC els+(if els.length>0 then 2 else 1)))else
  if k=5 then iG es+(eC body+2)else iG es
def eC:List Ty→Nat
 | []=>0
 | t::r=>wY t+eC r
end
mutual
theorem wW(o:Om)(S:ByteArray→Int)(E:Int):∀(t:Ty)(p:Nat),(zY o S E t p).length=wY t
 | .mk k nm _ es _ body _ els,p=>by
  have h0:=md o S es;have h1:=yS o S es;have hb:=eo o S E body;have he:=eo o S E els;unfold zY wY;split
  ·simp only [List.length_append,h0];rfl
  split
  ·simp only [List.length_append,h0,h1,eB,j7,r6,List.length_cons,List.length_nil];omega
  split
  ·simp only [List.length_append,h0];rfl
  split
  ·simp only [List.length_append,h0];rfl
  split
  ·simp only [List.length_append,h0,hb,he,List.length_cons,List.length_nil];split
   ·simp only [List.length_cons,List.length_nil];omega
   ·simp only [List.length_cons,List.length_nil];omega
  split
  ·simp only [List.length_append,h0,hb,List.length_cons,List.length_nil];omega
  ·exact h0 p
theorem eo(o:Om)(S:ByteArray→Int)(E:Int):∀(l:List Ty)(p:Nat),(jW o S E l p).length=eC l
 | [],p=>rfl
 | t::r,p=>by
  unfold jW eC;rw [List.length_append,wW o S E t,eo o S E r]
end
def ia:Nat→List Qi
 | 0=> []
 | n+1=>eB 0++ia n
theorem jk:∀n,(ia n).length=2*n
 | 0=>rfl
 | n+1=>by
  unfold ia;rw [List.length_append,jk n];show 2+2*n=_;omega
def zF(S:ByteArray→Int)(f:Tf)(p:Nat):List Qi:=
 let ov:=cI f
 [qi 16 12 12 1,qi 16 2 0 12,qi 35 2 12 2,⟨49,0,0,0,0⟩]++(eB 15++(eB 13++([q3 1 13 14 0]++(ia ov.2.toNat++
  (jW ov.1 S ((p+10+2*ov.2.toNat+eC f.body:Nat):Int) f.body (p+9+2*ov.2.toNat)++
  ([q3 1 1 0 0,q3 1 14 13 0]++(j7 13++(j7 15++ [qi 16 12 12 4294967295,qi 27 0 15 0]))))))))
def wF(f:Tf):Nat:=17+2*(cI f).2.toNat+eC f.body
theorem w4(S:ByteArray→Int)(f:Tf)(p:Nat):(zF S f p).length=wF f:=by
 unfold zF wF;simp only [List.length_append,jk,eo,eB,j7,List.length_cons,List.length_nil];omega
def B9(S:ByteArray→Int):List Tf→Nat→List Qi
 | [],p=> []
 | f::r,p=>zF S f p++B9 S r (p+wF f)
def w_:List Tf→Nat
 | []=>0
 | f::r=>wF f+w_ r
theorem oF(S:ByteArray→Int):∀(l:List Tf)(p:Nat),(B9 S l p).length=w_ l
 | [],p=>rfl
 | f::r,p=>by
  unfold B9 w_;rw [List.length_append,w4,oF S r]
def gq:List Tf→Nat→ByteArray→Int
 | [],_,_=>3
 | f::r,p,x=>if f.name=x then(p:Int)else gq r (p+wF f) x
def iF(fs:List Tf):List Qi:= [qi 16 14 0 16384,qi 40 15 0 (wU (gq fs 3 cx-1)),⟨48,0,0,0,0⟩]++B9 (gq fs 3) fs 3
def B1{α:Type}(f:α→List Asn):Asn:=
 ⟨fun w F=>∃(a:α)(Fs:Nat→Nat→Prop),(∀(i:Nat)(A:Asn),(f a)[i]?=some A→A.pred w (Fs i))∧(∀i b,Fs i b→F b)∧(∀i j b,Fs i b→Fs j b→i=j),
  fun⟨a,Fs,h1,h2,h3⟩ hs=>⟨a,Fs,fun i A hi=>A.stable (h1 i A hi) fun b hb=>hs b (h2 i b hb),h2,h3⟩⟩
theorem LOk.open{α:Type}{f:α→List Asn}{w0 w:World}{M H:Nat→Prop}{L R:List Asn}(h:LOk w0 M H (B1 f::L) R w):∃a,LOk w0 M H (f a++L) R w:=by
 obtain⟨F,hF⟩:=h;obtain⟨a,Fs,h1,h2,h3⟩:=hF.has 0 _ J;have hc:∀k b,(if k<(f a).length then Fs k else F (k-(f a).length+1)) b→(k<(f a).length∧Fs k b∧F 0 b)∨(¬k<(f a).length∧F (k-(f a).length+1) b):=by
  intro k b hb;by_cases hk:k<(f a).length
  ·rw [if_pos hk]at hb;exact .inl ⟨hk,hb,h2 k b hb⟩
  ·rw [if_neg hk]at hb;exact .inr ⟨hk,hb⟩
 refine⟨a,fun k=>if k<(f a).length then Fs k else F (k-(f a).length+1),hF.touch,fun k A hk=> ?_,fun k b hb=> ?_,fun k b hb=> ?_,fun i j b hi hj=> ?_,fun k A hk=> ?_⟩
 ·by_cases hl:k<(f a).length
  ·rw [if_pos hl];rw [List.getElem?_append_left hl]at hk;exact h1 k A hk
  ·rw [if_neg hl];rw [List.getElem?_append_right (by omega)]at hk;exact hF.has (k-(f a).length+1) A hk
 ·rcases hc k b hb with⟨_,_,h⟩|⟨_,h⟩<;>exact hF.lt _ b h
 ·rcases hc k b hb with⟨_,_,h⟩|⟨_,h⟩<;>exact hF.mine _ b h
 ·rcases hc i b hi with⟨i1,i2,i3⟩|⟨i1,i2⟩<;>rcases hc j b hj with⟨j1,j2,j3⟩|⟨j1,j2⟩
  ·exact h3 i j b i2 j2
  ·have:=hF.apart _ _ b i3 j2;omega
  ·have:=hF.apart _ _ b i2 j3;omega
  ·have:=hF.apart _ _ b i2 j2;omega
 ·obtain⟨G,g1,g2⟩:=hF.ro k A hk;refine⟨G,g1,fun b hb=> ?_⟩;obtain⟨a1,a2,a3⟩:=g2 b hb;refine⟨a1,fun j hj=> ?_,a3⟩;rcases hc j b hj with⟨_,_,h⟩|⟨_,h⟩<;>exact a2 _ h
theorem LOk.shut{α:Type}{f:α→List Asn}{w0 w:World}{M H:Nat→Prop}{L R:List Asn}(a:α)(h:LOk w0 M H (f a++L) R w):LOk w0 M H (B1 f::L) R w:=by
 obtain⟨F,hF⟩:=h;have hc:∀k b,(if k=0 then fun b=>∃i,i<(f a).length∧F i b else F (k-1+(f a).length)) b→∃i,F i b∧((k=0∧i<(f a).length)∨(k≠0∧i=k-1+(f a).length)):=by
  intro k b hb;by_cases hk:k=0
  ·rw [if_pos hk]at hb;obtain⟨i,hi,hb⟩:=hb;exact⟨i,hb,.inl ⟨hk,hi⟩⟩
  ·rw [if_neg hk]at hb;exact⟨_,hb,.inr ⟨hk,J⟩⟩
 refine⟨fun k=>if k=0 then fun b=>∃i,i<(f a).length∧F i b else F (k-1+(f a).length),hF.touch,fun k A hk=> ?_,fun k b hb=> ?_,fun k b hb=> ?_,fun i j b hi hj=> ?_,fun k A hk=> ?_⟩
 ·cases k with
  | zero=>
   rw [if_pos J];cases hk;refine⟨a,fun i b=>i<(f a).length∧F i b,fun i A hi=> ?_,fun i b hb=>⟨i,hb.1,hb.2⟩,fun i j b hi hj=>hF.apart i j b hi.2 hj.2⟩;obtain⟨hl,-⟩:=List.getElem?_eq_some_iff.1 hi;have:=hF.has i A (by rw [List.getElem?_append_left hl];exact hi);have e:F i=(fun b=>i<(f a).length∧F i b):=funext fun b=>propext ⟨fun h=>⟨hl,h⟩,fun h=>h.2⟩
   rw [e]at this;exact this
  | succ k=>
   rw [if_neg (Nat.succ_ne_zero k)];refine hF.has (k+1-1+(f a).length) A ?_;rw [List.getElem?_append_right (by omega),show k+1-1+(f a).length-(f a).length=k by omega];exact hk
 ·obtain⟨i,hi,-⟩:=hc k b hb;exact hF.lt i b hi
 ·obtain⟨i,hi,-⟩:=hc k b hb;exact hF.mine i b hi
 ·obtain⟨x,hx,hx'⟩:=hc i b hi;obtain⟨y,hy,hy'⟩:=hc j b hj;have:=hF.apart x y b hx hy;omega
 ·obtain⟨G,g1,g2⟩:=hF.ro k A hk;refine⟨G,g1,fun b hb=> ?_⟩;obtain⟨a1,a2,a3⟩:=g2 b hb;refine⟨a1,fun j hj=> ?_,a3⟩;obtain⟨i,hi,-⟩:=hc j b hj;exact a2 _ hi
theorem Spec.pack{P:Program}{n:Nat}{vs:List Value}{α X β:Type}{f:α→List Asn}{L R0:List Asn}{φ:X→Prop}{v:X→Value}{L1 R1:X→List Asn}(g:X→β→List Asn)(c:α→X→β)
  (h:∀a,Spec P n vs (f a++L) R0 φ v (fun x=>g x (c a x)++L1 x) R1):Spec P n vs (B1 f::L) R0 φ v (fun x=>B1 (g x)::L1 x) R1:=by
 intro w M H hl;obtain⟨a,ha⟩:=hl.open;refine(h a w M H ha).mono fun e w' ⟨x,h1,h2,h3⟩=>⟨x,h1,h2,LOk.shut (c a x) h3⟩
theorem Spec.map{P:Program}{n:Nat}{vs:List Value}{X Y:Type}{L R0:List Asn}{φ:X→Prop}{v:X→Value}{L1 R1:X→List Asn}{ψ:Y→Prop}{v':Y→Value}{L2 R2:Y→List Asn}(p:X→Y)
  (h1:∀x,φ x→ψ (p x)) (h2:∀x,v x=v' (p x)) (h3:∀x,L1 x=L2 (p x)) (h4:∀x,R1 x=R2 (p x)) (h:Spec P n vs L R0 φ v L1 R1):Spec P n vs L R0 ψ v' L2 R2:=by
 intro w M H hl;refine(h w M H hl).mono fun e w' ⟨x,g1,g2,g3⟩=>⟨p x,h1 x g1,(h2 x)▸g2,?_⟩
 rw [←h3,←h4];exact g3
theorem Spec.shut{P:Program}{n:Nat}{vs:List Value}{X β:Type}{L R0:List Asn}{φ:X→Prop}{v:X→Value}{L1 R1:X→List Asn}(g:X→β→List Asn)(c:X→β)
  (h:Spec P n vs L R0 φ v (fun x=>g x (c x)++L1 x) R1):Spec P n vs L R0 φ v (fun x=>B1 (g x)::L1 x) R1:=by
 intro w M H hl;exact(h w M H hl).mono fun e w' ⟨x,h1,h2,h3⟩=>⟨x,h1,h2,LOk.shut (c x) h3⟩
theorem COk.unpack{α:Type}{f:α→List Asn}{w0:World}{M H:Nat→Prop}{Γ R:dQ}{w:World}(h:COk w0 M H Γ R w)(k:Nat)(ns:List Nat)(hns:ns.Nodup)(hl:∀a,ns.length=(f a).length)(hk:bL Γ k=some (B1 f)):
  ∃a,COk w0 M H (fB ns (f a) (fD [k] Γ)) R w:=by
 obtain⟨M',H',h1,h2⟩:=h.step [k] (by simp) (L:= [B1 f]) (R0:= []) (by simp only [ek,cZ,hk]) (fun i A hi=>by simp at hi);obtain⟨a,ha⟩:=h1.open;rw [List.append_nil]at ha;exact⟨a,(h2 (f a) [] ns [] w hns (hl a) J ha).1⟩
theorem COk.pack{α:Type}{f:α→List Asn}{w0:World}{M H:Nat→Prop}{Γ R:dQ}{w:World}(h:COk w0 M H Γ R w)(k:Nat)(ks:List Nat)(hks:ks.Nodup)(a:α)(hL:ek Γ ks=cZ (f a)):
  COk w0 M H ((k,B1 f)::fD ks Γ) R w:=by
 obtain⟨M',H',h1,h2⟩:=h.step ks hks (L:=f a) (R0:= []) hL (fun i A hi=>by simp at hi);refine(h2 [B1 f] [] [k] [] w (by simp) J J (LOk.shut a ?_)).1;rw [List.append_nil];exact h1
section
variable{P:Program}{N:Nat}{w0:World}{M H:Nat→Prop}{E:el}{Γ R:dQ}
theorem C0{α:Type}{f:α→List Asn}(k:Nat)(ns:List Nat){Rel:Act→World→Prop}(hk:bL Γ k=some (B1 f))(hns:ns.Nodup)(hl:∀a,ns.length=(f a).length)
  (h:∀a,At N w0 M H E (fB ns (f a) (fD [k] Γ)) R Rel):At N w0 M H E Γ R Rel:=fun A w hE hC=>by
 obtain⟨a,ha⟩:=hC.unpack k ns hns hl hk;exact h a A w hE ha
theorem JI{α:Type}{f:α→List Asn}(k:Nat)(ks:List Nat)(a:α){Rel:Act→World→Prop}(hL:ek Γ ks=cZ (f a))(hks:ks.Nodup)(h:At N w0 M H E ((k,B1 f)::fD ks Γ) R Rel):At N w0 M H E Γ R Rel:=
 h.weak (fun _ h=>h) fun w hC=>hC.pack k ks hks a hL
end
def gR(vp vc vf vl:SV)(ms:Nat)(mo:Option Nat)(mp:Nat)(en:Int):List Value:= [sv vp,sv vc,sv vf,sv vl,.map (some ms),.map mo,.map (some mp),.int .i64 en]
structure Ga where
 g:Nat
 vp:SV
 ms:Nat
 mo:Option Nat
 mp:Nat
 en:Int
def gA(e:Ga)(s:Qg):Asn:=B1 (α:=SV×SV×SV) fun x=> [aY e.g 111 (gR e.vp x.1 x.2.1 x.2.2 e.ms e.mo e.mp e.en),own 118 5 gC (sv x.1) s.code,own 171 2 uD (sv x.2.1) s.fixes,own 3 1 eI (sv x.2.2) s.labs]
theorem M_{α:Type}{l:List α}{i:Nat}(h:i<l.length):l[i]?=some (l[i]'h):=List.getElem?_eq_getElem h
def Qg.sz(s:Qg):Nat:=s.code.length+s.fixes.length+s.labs.length
theorem zL{n:Nat}{vs:List Value}{R0:List Asn}{L L1:List Asn}{X:Type}{φ:X→Prop}{v:X→Value}{e e':Ga}{s s':Qg}(c:SV×SV×SV→X→SV×SV×SV)
  (h:∀vc vf vl,Spec Tryz.prog n vs ([aY e.g 111 (gR e.vp vc vf vl e.ms e.mo e.mp e.en),own 118 5 gC (sv vc) s.code,own 171 2 uD (sv vf) s.fixes,own 3 1 eI (sv vl) s.labs]++L) R0 φ v
   (fun x=> [aY e'.g 111 (gR e'.vp (c (vc,vf,vl) x).1 (c (vc,vf,vl) x).2.1 (c (vc,vf,vl) x).2.2 e'.ms e'.mo e'.mp e'.en),own 118 5 gC (sv (c (vc,vf,vl) x).1) s'.code,own 171 2 uD (sv (c (vc,vf,vl) x).2.1) s'.fixes,own 3 1 eI (sv (c (vc,vf,vl) x).2.2) s'.labs]++L1) (fun _=> [])):
  Spec Tryz.prog n vs (gA e s::L) R0 φ v (fun _=>gA e' s'::L1) (fun _=> []):=
 Spec.pack (fun _(x:SV×SV×SV)=> [aY e'.g 111 (gR e'.vp x.1 x.2.1 x.2.2 e'.ms e'.mo e'.mp e'.en),own 118 5 gC (sv x.1) s'.code,own 171 2 uD (sv x.2.1) s'.fixes,own 3 1 eI (sv x.2.2) s'.labs]) c (fun x=>h x.1 x.2.1 x.2.2)
theorem qI(g:Nat)(vp vc vf vl:SV)(ms:Nat)(mo:Option Nat)(mp:Nat)(en:Int)(s:Qg)(hz:s.sz≤950000)(w:SV)(l:List Qi)(hl:l.length≤1000):
  Spec Tryz.prog 53 [.pointer (some ⟨g,0,none⟩),sv w] [aY g 111 (gR vp vc vf vl ms mo mp en),own 118 5 gC (sv vc) s.code,own 171 2 uD (sv vf) s.fixes,own 3 1 eI (sv vl) s.labs] [sl 5 gC (sv w) l] (X:=SV) (fun _=>True) (fun _=> .tuple #[]) (fun v=> [aY g 111 (gR vp v vf vl ms mo mp en),own 118 5 gC (sv v) (s.emit l).code,own 171 2 uD (sv vf) (s.emit l).fixes,own 3 1 eI (sv vl) (s.emit l).labs]) (fun _=> []):=by
 refine aF Tryz.func53 J Tryz.ntmps53 J fun w0 M H=> ?_
 unfold Qg.sz at hz;refine aa (aj (ac J) J (aj (ac J) J (aj (aq J) J (aj (ah kX J) J (aj (ak A2 J J (ap (k:=0) J J)) J (aj (ac J) J (eF 1 Tryz.underlying106 ed J (by decide) (fun _=>J) (fun _=>J) J J J (aK (k:=0) J) (by first|omega|(simp;done)|(simp;omega)) (by unfold maxLen;first|omega|(simp;done)|(simp;omega)) J fun v10=>aj (aq J) J (aj (ah kX J) J (aI (k:=0) A2 J J J J J J J J (ai (bO v10 trivial J eW J [0,1,2,3] [] J J J)))))))))))
theorem gh(e:Ga)(s:Qg)(hz:s.sz≤940000)(w:SV)(l:List Qi)(hl:l.length≤1000):
  Spec Tryz.prog 53 [.pointer (some ⟨e.g,0,none⟩),sv w] [gA e s] [sl 5 gC (sv w) l] (X:=Unit) (fun _=>True) (fun _=> .tuple #[]) (fun _=> [gA e (s.emit l)]) (fun _=> []):=by
 exact Spec.map (fun _=>()) (fun _ _=>trivial) (fun _=>J) (fun _=>J) (fun _=>J) (zL (L:= []) (L1:= []) (fun a(x:SV)=>(x,a.2.1,a.2.2)) fun vc vf vl=>qI e.g e.vp vc vf vl e.ms e.mo e.mp e.en s (by omega) w l hl)
theorem vJ(g:Nat)(vp vc vf vl:SV)(ms:Nat)(mo:Option Nat)(mp:Nat)(en:Int)(s:Qg)(hz:s.sz≤950000):
  Spec Tryz.prog 50 [.pointer (some ⟨g,0,none⟩)] [aY g 111 (gR vp vc vf vl ms mo mp en),own 118 5 gC (sv vc) s.code,own 171 2 uD (sv vf) s.fixes,own 3 1 eI (sv vl) s.labs] [] (X:=SV) (fun _=>True) (fun _=> .int .i64 (s.labs.length:Int)) (fun v=> [aY g 111 (gR vp vc vf v ms mo mp en),own 118 5 gC (sv vc) (s.lab).code,own 171 2 uD (sv vf) (s.lab).fixes,own 3 1 eI (sv v) (s.lab).labs]) (fun _=> []):=by
 refine aF Tryz.func50 J Tryz.ntmps50 J fun w0 M H=> ?_
 unfold Qg.sz at hz;refine ae (aa (aj (ag J) J (ai (ae (aa (aj (ac J) J (aj (ac J) J (aj (aq J) J (aj (ah m8 J) J (aj (ak FH J J (ap (k:=0) J J)) J (bq eI 0 Tryz.underlying22 t3 J (by decide) (by decide) J J J J fun v8=>eF 3 Tryz.underlying22 t3 J (by decide) (fun _=>J) (fun _=>J) J J J (bj (k:=8) J) (by first|omega|(simp;done)|(simp;omega)) (by unfold maxLen;first|omega|(simp;done)|(simp;omega)) J fun v9=>aj (aq J) J ?_)))))))))));refine aj (ah m8 J) J (aI (k:=0) FH J J J J J J J J (ai (ae (aa (aj (ac J) J (aj (aq J) J (aj (ah m8 J) J (aj (ak FH J J (ap (k:=0) J J)) J (aj (aO Tryz.underlying22 J (bj (k:=3) J)) J (aj (am J J (fQ (by first|exact aU (by omega) (by omega)|rfl))) J (aj (ag J) J (ai (aw ?_)))))))))))));refine aG v9 trivial J (bx (aH J)) (congrArg (Value.int .i64) (by rw [List.length_append,List.length_singleton,aU (by omega) (by omega)];omega)) [0,1,2,3] [] J J J
theorem ey(e:Ga)(s:Qg)(hz:s.sz≤940000):
  Spec Tryz.prog 50 [.pointer (some ⟨e.g,0,none⟩)] [gA e s] [] (X:=Unit) (fun _=>True) (fun _=> .int .i64 (s.labs.length:Int)) (fun _=> [gA e s.lab]) (fun _=> []):=by
 exact Spec.map (fun _=>()) (fun _ _=>trivial) (fun _=>J) (fun _=>J) (fun _=>J) (zL (L:= []) (L1:= []) (fun a(x:SV)=>(a.1,a.2.1,x)) fun vc vf vl=>vJ e.g e.vp vc vf vl e.ms e.mo e.mp e.en s (by omega))
theorem vv(g:Nat)(vp vc vf vl:SV)(ms:Nat)(mo:Option Nat)(mp:Nat)(en:Int)(s:Qg)(hz:s.sz≤950000)(l:Int)(hl:0≤l∧l<s.labs.length):
  Spec Tryz.prog 92 [.pointer (some ⟨g,0,none⟩),.int .i64 l] [aY g 111 (gR vp vc vf vl ms mo mp en),own 118 5 gC (sv vc) s.code,own 171 2 uD (sv vf) s.fixes,own 3 1 eI (sv vl) s.labs] [] (X:=Unit) (fun _=>True) (fun _=> .tuple #[]) (fun _=> [aY g 111 (gR vp vc vf vl ms mo mp en),own 118 5 gC (sv vc) (s.place l).code,own 171 2 uD (sv vf) (s.place l).fixes,own 3 1 eI (sv vl) (s.place l).labs]) (fun _=> []):=by
 refine aF Tryz.func92 J Tryz.ntmps92 J fun w0 M H=> ?_
 unfold Qg.sz at hz;refine bA [4,5,6,7,8,9,10,11,12,13,14] _ J (bB (V:= [(0,4,_),(1,5,_),(2,6,_),(3,7,_),(4,8,_),(5,9,_),(6,10,_),(7,11,_),(8,12,_),(9,13,_),(10,14,_)]) [0,1,2,3,4,5,6,7,8,9,10] 11 [11,10,9,8,7,6,5,4,3,2,1,0] [] (fun _=> []) J J (ad (aD J (ac J)) (ad (aD J (aq J)) (ad (aD J (ah m8 J)) (ad (aD J (ak FH J J (ap (k:=0) J J))) (ad (aD J (ac J)) (ad (aD J (ac J)) (ad (aD J (aq J)) (ad (aD J (ah kX J)) (ad (aD J (ak A2 J J (ap (k:=0) J J))) (ad (aD J (aO Tryz.underlying106 J (bj (k:=1) J))) (ad (aD J (aN (j:=l.toNat) Tryz.underlying22 t3 J J (bj (k:=3) J) (by first|rfl|omega) (by first|omega|(simp;done)|(simp;omega)))) ay))))))))))) J J J J J J J J J (fun _ _=>J) J (gu (k:=3) t3 J J J (by intro _;rfl) (M_ (by omega)) J J) (fun _ _=>be [] J J ay J J J (bO () trivial J eW J [0,1,2,3] [] J J J)))
theorem dI(e:Ga)(s:Qg)(hz:s.sz≤940000)(l:Int)(hl:0≤l∧l<s.labs.length):
  Spec Tryz.prog 92 [.pointer (some ⟨e.g,0,none⟩),.int .i64 l] [gA e s] [] (X:=Unit) (fun _=>True) (fun _=> .tuple #[]) (fun _=> [gA e (s.place l)]) (fun _=> []):=by
 exact Spec.map (fun _=>()) (fun _ _=>trivial) (fun _=>J) (fun _=>J) (fun _=>J) (zL (L:= []) (L1:= []) (fun a(_:Unit)=>a) fun vc vf vl=>vv e.g e.vp vc vf vl e.ms e.mo e.mp e.en s (by omega) l hl)
theorem x6(g:Nat)(vp vc vf vl:SV)(ms:Nat)(mo:Option Nat)(mp:Nat)(en:Int)(s:Qg)(hz:s.sz≤940000)(op d a l:Int):
  Spec Tryz.prog 52 [.pointer (some ⟨g,0,none⟩),.int .i64 op,.int .i64 d,.int .i64 a,.int .i64 l] [aY g 111 (gR vp vc vf vl ms mo mp en),own 118 5 gC (sv vc) s.code,own 171 2 uD (sv vf) s.fixes,own 3 1 eI (sv vl) s.labs] [] (X:=SV×SV) (fun _=>True) (fun _=> .tuple #[]) (fun v=> [aY g 111 (gR vp v.1 v.2 vl ms mo mp en),own 118 5 gC (sv v.1) (s.jump op d a l).code,own 171 2 uD (sv v.2) (s.jump op d a l).fixes,own 3 1 eI (sv vl) (s.jump op d a l).labs]) (fun _=> []):=by
 refine aF Tryz.func52 J Tryz.ntmps52 J fun w0 M H=> ?_
 unfold Qg.sz at hz;refine ae ?_;refine bA [10,11,12,13,14,15,16,17,18,19,20,21,22,23,24,25] _ J (aZ (V:= [(0,10,_),(1,11,_),(2,12,_),(3,13,_),(4,14,_),(5,15,_),(6,16,_),(7,17,_),(8,18,_),(9,19,_),(10,20,_),(11,21,_)]) [0,1,2,3,4,5,6,7,8,9,10,11] 12 [12,11,10,9,8,7,6,5] [] (fun v22=> []) J J (ad (aD J (ac J)) (ad (aD J (ac J)) (ad (aD J (aq J)) (ad (aD J (ah ph J)) (ad (aD J (ak FJ J J (ap (k:=0) J J))) (ad (aD J (ac J)) (ad (aD J (aq J)) (ad (aD J (ah kX J)) (ad (aD J (ak A2 J J (ap (k:=0) J J))) (ad (aD J (aO Tryz.underlying106 J (bj (k:=1) J))) (ad (aD J (ac J)) (ad (aD J (aP (parts:= [(0,.tmp 19),(1,.tmp 20)]) xh MG J J)) ay)))))))))))) J J J J J J J J J J J (fun _ _=>J) J (d7 uD (((s.code.length:Nat):Int),l) Tryz.underlying107 xh J (by decide) (by decide) J J J) (fun v22 _=>aZ [0,1,2,3,4] 13 [13,12,11,10,9,8,7,6,5,4,3,2,1] [14,15] (fun v23=> [(14,24,_),(15,25,_)]) J J (ad (aD J (ac J)) (ad (aD J (ac J)) (ad (aD J (aq J)) (ad (aD J (ah ph J)) (ad (aD J (ak FJ J J (ap (k:=0) J J))) ay))))) J J J J J J J J J J J (fun _ _=>J) J (g_ 2 Tryz.underlying107 xh J (by decide) (fun _=>J) (fun _=>J) J J J (bj (k:=22) J) (by first|omega|(simp;done)|(simp;omega)) (by unfold maxLen;first|omega|(simp;done)|(simp;omega))) (fun v23 _=>bB [14,15,0] 16 [16,15,14,13,12,11,10,9,8,7,6,5,4,3,2,1,0] [] (fun _=> []) J J (ad (aD J (aq J)) (ad (aD J (ah ph J)) (ad (aD J (ac J)) ay))) J J J J J J J J J (fun _ _=>J) J (cy (k:=0) FJ J J J J J J J J) (fun _ _=>be [] J J ay J J J ?_))))
 refine aa (aj (ac J) J (aj (ac J) J (aj (ac J) J (aj (ac J) J (aj (aP (parts:= [(0,.tmp 27),(1,.tmp 28),(2,.tmp 29)]) ed lz J J) J (bq gC (qi op d a 0) Tryz.underlying106 ed J (by decide) (by decide) J J J J fun v31=>bW 31 7 J br (au (xs:= [.tmp 26,.tmp 31]) (qI g vp vc v23 vl ms mo mp en {s with fixes:=s.fixes++ [((s.code.length:Int),l)]} (by unfold Qg.sz;simp;omega) v31 [qi op d a 0] (by simp)) wz [0,1,2,3] [(false,7)] [0,1,2,3] J J J J J J J J (fun _ _=>J) (fun _ _ _=>J) J (fun vd _=>ai (bO (vd,v23) trivial J eW J [0,1,2,3] [] J J J)))))))))
theorem eJ(e:Ga)(s:Qg)(hz:s.sz≤940000)(op d a l:Int):
  Spec Tryz.prog 52 [.pointer (some ⟨e.g,0,none⟩),.int .i64 op,.int .i64 d,.int .i64 a,.int .i64 l] [gA e s] [] (X:=Unit) (fun _=>True) (fun _=> .tuple #[]) (fun _=> [gA e (s.jump op d a l)]) (fun _=> []):=by
 exact Spec.map (fun _=>()) (fun _ _=>trivial) (fun _=>J) (fun _=>J) (fun _=>J) (zL (L:= []) (L1:= []) (fun a(x:SV×SV)=>(x.1,x.2,a.2.2)) fun vc vf vl=>x6 e.g e.vp vc vf vl e.ms e.mo e.mp e.en s (by omega) op d a l)
theorem cB(e:Ga)(s:Qg)(hz:s.sz≤940000)(op d a n:Int):
  Spec Tryz.prog 51 [.pointer (some ⟨e.g,0,none⟩),.int .i64 op,.int .i64 d,.int .i64 a,.int .u32 n] [gA e s] [] (X:=Unit) (fun _=>True) (fun _=> .tuple #[]) (fun _=> [gA e (s.emit [qi op d a n])]) (fun _=> []):=by
 refine aF Tryz.func51 J Tryz.ntmps51 J fun w0 M H=>aa (aj (ac J) J (aj (ac J) J (aj (ac J) J (aj (ac J) J (aj (ac J) J (aj (aP (parts:= [(0,.tmp 11),(1,.tmp 12),(2,.tmp 13),(4,.tmp 14)]) ed lz J J) J (bq gC (qi op d a n) Tryz.underlying106 ed J (by decide) (by decide) J J J J fun v16=>bW 16 7 J br (au (xs:= [.tmp 10,.tmp 16]) (gh e (s) (hz) v16 [qi op d a n] (by simp)) wz [0] [(false,7)] [0] J J J J J J J J (fun _ _=>J) (fun _ _ _=>J) J (fun _ _=>ai (bO () trivial J eW J [0] [] J J J))))))))))
theorem cJ(e:Ga)(s:Qg)(hz:s.sz≤940000)(op d a b:Int):
  Spec Tryz.prog 86 [.pointer (some ⟨e.g,0,none⟩),.int .i64 op,.int .i64 d,.int .i64 a,.int .i64 b] [gA e s] [] (X:=Unit) (fun _=>True) (fun _=> .tuple #[]) (fun _=> [gA e (s.emit [q3 op d a b])]) (fun _=> []):=by
 refine aF Tryz.func86 J Tryz.ntmps86 J fun w0 M H=>aa (aj (ac J) J (aj (ac J) J (aj (ac J) J (aj (ac J) J (aj (ac J) J (aj (aP (parts:= [(0,.tmp 11),(1,.tmp 12),(2,.tmp 13),(3,.tmp 14)]) ed lz J J) J (bq gC (q3 op d a b) Tryz.underlying106 ed J (by decide) (by decide) J J J J fun v16=>bW 16 7 J br (au (xs:= [.tmp 10,.tmp 16]) (gh e (s) (hz) v16 [q3 op d a b] (by simp)) wz [0] [(false,7)] [0] J J J J J J J J (fun _ _=>J) (fun _ _ _=>J) J (fun _ _=>ai (bO () trivial J eW J [0] [] J J J))))))))))
theorem bp(s:Qg)(l:List Qi):(s.emit l).sz=s.sz+l.length:=by
 unfold Qg.sz Qg.emit;simp only [List.length_append];omega
theorem ck(s:Qg)(r:Int):(s.push r).sz=s.sz+2:=by
 unfold Qg.push;rw [bp,bp];rfl
theorem c8(s:Qg)(r:Int):(s.pop r).sz=s.sz+2:=by
 unfold Qg.pop;rw [bp,bp];rfl
theorem cQ(s:Qg)(r:Int):(s.elem r).sz=s.sz+2:=by
 unfold Qg.elem;rw [bp,bp];rfl
theorem bU(s:Qg):s.lab.sz=s.sz+1:=by
 unfold Qg.sz Qg.lab;simp only [List.length_append,List.length_singleton];omega
theorem bD(s:Qg)(l:Int):(s.place l).sz=s.sz:=by
 unfold Qg.sz Qg.place;rw [List.length_set]
theorem bG(s:Qg)(op d a l:Int):(s.jump op d a l).sz=s.sz+2:=by
 unfold Qg.sz Qg.jump;simp only [List.length_append,List.length_singleton];omega
theorem g9(e:Ga)(s:Qg)(hz:s.sz≤800000)(r:Int):
  Spec Tryz.prog 95 [.pointer (some ⟨e.g,0,none⟩),.int .i64 r] [gA e s] [] (X:=Unit) (fun _=>True) (fun _=> .tuple #[]) (fun _=> [gA e (s.push r)]) (fun _=> []):=by
 refine aF Tryz.func95 J Tryz.ntmps95 J fun w0 M H=>ae (aa (aj (ac J) J (au (xs:= [.tmp 4,.const (.int .i64 16),.const (.int .i64 14),.const (.int .i64 14),.const (.int .u32 4294967292)]) (cB e (s) (by omega) 16 14 14 4294967292) iJ [0] [] [0] J J J J J J J J (fun _ _=>J) (fun _ _ _=>J) J (fun _ _=>ai (aa (aj (ac J) J (aj (ac J) J (au (xs:= [.tmp 6,.const (.int .i64 25),.tmp 7,.const (.int .i64 14),.const (.int .u32 0)]) (cB e (s.emit [qi 16 14 14 4294967292]) (by rw [bp];simp;omega) 25 r 14 0) iJ [0] [] [0] J J J J J J J J (fun _ _=>J) (fun _ _ _=>J) J (fun _ _=>ai (bO () trivial J eW J [0] [] J J J))))))))))
theorem mD(e:Ga)(s:Qg)(hz:s.sz≤800000)(r:Int):
  Spec Tryz.prog 97 [.pointer (some ⟨e.g,0,none⟩),.int .i64 r] [gA e s] [] (X:=Unit) (fun _=>True) (fun _=> .tuple #[]) (fun _=> [gA e (s.pop r)]) (fun _=> []):=by
 refine aF Tryz.func97 J Tryz.ntmps97 J fun w0 M H=>ae (aa (aj (ac J) J (aj (ac J) J (au (xs:= [.tmp 4,.const (.int .i64 23),.tmp 5,.const (.int .i64 14),.const (.int .u32 0)]) (cB e (s) (by omega) 23 r 14 0) iJ [0] [] [0] J J J J J J J J (fun _ _=>J) (fun _ _ _=>J) J (fun _ _=>ai (aa (aj (ac J) J (au (xs:= [.tmp 7,.const (.int .i64 16),.const (.int .i64 14),.const (.int .i64 14),.const (.int .u32 4)]) (cB e (s.emit [qi 23 r 14 0]) (by rw [bp];simp;omega) 16 14 14 4) iJ [0] [] [0] J J J J J J J J (fun _ _=>J) (fun _ _ _=>J) J (fun _ _=>ai (bO () trivial J eW J [0] [] J J J))))))))))
theorem sM(e:Ga)(s:Qg)(hz:s.sz≤800000)(r:Int):
  Spec Tryz.prog 168 [.pointer (some ⟨e.g,0,none⟩),.int .i64 r] [gA e s] [] (X:=Unit) (fun _=>True) (fun _=> .tuple #[]) (fun _=> [gA e (s.elem r)]) (fun _=> []):=by
 refine aF Tryz.func168 J Tryz.ntmps168 J fun w0 M H=>ae (aa (aj (ac J) J (aj (ac J) J (aj (ac J) J (au (xs:= [.tmp 4,.const (.int .i64 17),.tmp 5,.tmp 6,.const (.int .u32 255)]) (cB e (s) (by omega) 17 r r 255) iJ [0] [] [0] J J J J J J J J (fun _ _=>J) (fun _ _ _=>J) J (fun _ _=>ai (aa (aj (ac J) J (aj (ac J) J (aj (ac J) J (au (xs:= [.tmp 8,.const (.int .i64 20),.tmp 9,.tmp 10,.const (.int .u32 2)]) (cB e (s.emit [qi 17 r r 255]) (by rw [bp];simp;omega) 20 r r 2) iJ [0] [] [0] J J J J J J J J (fun _ _=>J) (fun _ _ _=>J) J (fun _ _=>ai ?_))))))))))))
 refine bO () trivial J eW J [0] [] J J J
abbrev cc(n:Nat)(l:List Nat):Value:= .func (.func n) #[] (l.map fun b=>Value.pointer (some ⟨b,0,none⟩)).toArray
theorem fF(e:Ga)(s:Qg)(hz:s.sz≤900000)(bg:Nat)(bo:Nat)(op:Int):
  Spec Tryz.prog 85 [.pointer (some ⟨bg,0,none⟩),.pointer (some ⟨bo,0,none⟩)] [gA e s] [aY bg 104 [.pointer (some ⟨e.g,0,none⟩)],aY bo 3 [.int .i64 op]] (X:=Unit) (fun _=>True) (fun _=> .tuple #[]) (fun _=> [gA e (s.emit [q3 op 1 2 1])]) (fun _=> []):=by
 refine aF Tryz.func85 J Tryz.ntmps85 J fun w0 M H=>aa (aj (ak ke J J (cz (k:=0) J J)) J (aj (ak t3 J J (cz (k:=1) J J)) J (au (xs:= [.tmp 2,.tmp 3,.const (.int .i64 1),.const (.int .i64 2),.const (.int .i64 1)]) (cJ e (s) (by omega) op 1 2 1) l6 [0] [] [0] J J J J J J J J (fun _ _=>J) (fun _ _ _=>J) J (fun _ _=>ai (bO () trivial J eW J [0] [] J J J)))))
theorem wE(e:Ga)(s:Qg)(hz:s.sz≤900000)(bg:Nat):
  Spec Tryz.prog 87 [.pointer (some ⟨bg,0,none⟩)] [gA e s] [aY bg 104 [.pointer (some ⟨e.g,0,none⟩)]] (X:=Unit) (fun _=>True) (fun _=> .tuple #[]) (fun _=> [gA e (s.emit [q3 11 1 1 2])]) (fun _=> []):=by
 refine aF Tryz.func87 J Tryz.ntmps87 J fun w0 M H=>aa (aj (ak ke J J (cz (k:=0) J J)) J (au (xs:= [.tmp 1,.const (.int .i64 11),.const (.int .i64 1),.const (.int .i64 1),.const (.int .i64 2)]) (cJ e (s) (by omega) 11 1 1 2) l6 [0] [] [0] J J J J J J J J (fun _ _=>J) (fun _ _ _=>J) J (fun _ _=>ai (bO () trivial J eW J [0] [] J J J))))
theorem wD(e:Ga)(s:Qg)(hz:s.sz≤900000)(bg:Nat):
  Spec Tryz.prog 90 [.pointer (some ⟨bg,0,none⟩)] [gA e s] [aY bg 104 [.pointer (some ⟨e.g,0,none⟩)]] (X:=Unit) (fun _=>True) (fun _=> .tuple #[]) (fun _=> [gA e ((s.emit [q3 5 1 2 1]).emit [q3 11 1 0 1])]) (fun _=> []):=by
 refine aF Tryz.func90 J Tryz.ntmps90 J fun w0 M H=>ae (aa (aj (ak ke J J (cz (k:=0) J J)) J (au (xs:= [.tmp 1,.const (.int .i64 5),.const (.int .i64 1),.const (.int .i64 2),.const (.int .i64 1)]) (cJ e (s) (by omega) 5 1 2 1) l6 [0] [] [0] J J J J J J J J (fun _ _=>J) (fun _ _ _=>J) J (fun _ _=>ai (aa (aj (ak ke J J (cz (k:=0) J J)) J (au (xs:= [.tmp 3,.const (.int .i64 11),.const (.int .i64 1),.const (.int .i64 0),.const (.int .i64 1)]) (cJ e (s.emit [q3 5 1 2 1]) (by rw [bp];simp;omega) 11 1 0 1) l6 [0] [] [0] J J J J J J J J (fun _ _=>J) (fun _ _ _=>J) J (fun _ _=>ai (bO () trivial J eW J [0] [] J J J)))))))))
theorem EW(e:Ga)(s:Qg)(hz:s.sz≤900000)(bg:Nat):
  Spec Tryz.prog 91 [.pointer (some ⟨bg,0,none⟩)] [gA e s] [aY bg 104 [.pointer (some ⟨e.g,0,none⟩)]] (X:=Unit) (fun _=>True) (fun _=> .tuple #[]) (fun _=> [gA e (((s.lab.jump 32 1 0 s.labs.length).emit [q3 10 1 2 1]).place s.labs.length)]) (fun _=> []):=by
 refine aF Tryz.func91 J Tryz.ntmps91 J fun w0 M H=>ae (aa (aj (ak ke J J (cz (k:=0) J J)) J (au (xs:= [.tmp 2]) (ey e s (by omega)) ur [0] [] [0] J J J J J J J J (fun _ _=>J) (fun _ _ _=>J) J (fun _ _=>aj (ag J) J (ai (ae (aa (aj (ak ke J J (cz (k:=0) J J)) J (aj (ac J) J (au (xs:= [.tmp 4,.const (.int .i64 32),.const (.int .i64 1),.const (.int .i64 0),.tmp 5]) (eJ e (s.lab) (by simp only [bp,bU,bG,bD,List.length_singleton];omega) 32 1 0 (s.labs.length:Int)) r4 [0] [] [0] J J J J J J J J (fun _ _=>J) (fun _ _ _=>J) J (fun _ _=>ai (ae ?_))))))))))))
 refine aa (aj (ak ke J J (cz (k:=0) J J)) J (au (xs:= [.tmp 7,.const (.int .i64 10),.const (.int .i64 1),.const (.int .i64 2),.const (.int .i64 1)]) (cJ e (s.lab.jump 32 1 0 s.labs.length) (by simp only [bp,bU,bG,bD,List.length_singleton];omega) 10 1 2 1) l6 [0] [] [0] J J J J J J J J (fun _ _=>J) (fun _ _ _=>J) J (fun _ _=>ai (aa (aj (ak ke J J (cz (k:=0) J J)) J (aj (ac J) J (au (xs:= [.tmp 9,.tmp 10]) (dI e ((s.lab.jump 32 1 0 s.labs.length).emit [q3 10 1 2 1]) (by simp only [bp,bU,bG,bD,List.length_singleton];omega) (s.labs.length:Int) (by simp [Qg.lab,Qg.jump,Qg.emit];omega)) qS [0] [] [0] J J J J J J J J (fun _ _=>J) (fun _ _ _=>J) J (fun _ _=>ai (bO () trivial J eW J [0] [] J J J)))))))))
theorem EV(e:Ga)(s:Qg)(hz:s.sz≤900000)(bg:Nat):
  Spec Tryz.prog 93 [.pointer (some ⟨bg,0,none⟩)] [gA e s] [aY bg 104 [.pointer (some ⟨e.g,0,none⟩)]] (X:=Unit) (fun _=>True) (fun _=> .tuple #[]) (fun _=> [gA e ((((((s.lab.emit [q3 1 3 1 0]).jump 32 1 0 s.labs.length).emit [q3 10 3 2 1]).emit [q3 9 3 3 1]).place s.labs.length).emit [q3 2 1 2 3])]) (fun _=> []):=by
 refine aF Tryz.func93 J Tryz.ntmps93 J fun w0 M H=>ae (aa (aj (ak ke J J (cz (k:=0) J J)) J (au (xs:= [.tmp 2]) (ey e s (by omega)) ur [0] [] [0] J J J J J J J J (fun _ _=>J) (fun _ _ _=>J) J (fun _ _=>aj (ag J) J (ai (ae (aa (aj (ak ke J J (cz (k:=0) J J)) J (au (xs:= [.tmp 4,.const (.int .i64 1),.const (.int .i64 3),.const (.int .i64 1),.const (.int .i64 0)]) (cJ e (s.lab) (by simp only [bp,bU,bG,bD,List.length_singleton];omega) 1 3 1 0) l6 [0] [] [0] J J J J J J J J (fun _ _=>J) (fun _ _ _=>J) J (fun _ _=>ai (ae (aa ?_))))))))))))
 refine aj (ak ke J J (cz (k:=0) J J)) J (aj (ac J) J (au (xs:= [.tmp 6,.const (.int .i64 32),.const (.int .i64 1),.const (.int .i64 0),.tmp 7]) (eJ e (s.lab.emit [q3 1 3 1 0]) (by simp only [bp,bU,bG,bD,List.length_singleton];omega) 32 1 0 (s.labs.length:Int)) r4 [0] [] [0] J J J J J J J J (fun _ _=>J) (fun _ _ _=>J) J (fun _ _=>ai (ae (aa (aj (ak ke J J (cz (k:=0) J J)) J (au (xs:= [.tmp 9,.const (.int .i64 10),.const (.int .i64 3),.const (.int .i64 2),.const (.int .i64 1)]) (cJ e ((s.lab.emit [q3 1 3 1 0]).jump 32 1 0 s.labs.length) (by simp only [bp,bU,bG,bD,List.length_singleton];omega) 10 3 2 1) l6 [0] [] [0] J J J J J J J J (fun _ _=>J) (fun _ _ _=>J) J (fun _ _=>ai (ae (aa (aj (ak ke J J (cz (k:=0) J J)) J (au (xs:= [.tmp 11,.const (.int .i64 9),.const (.int .i64 3),.const (.int .i64 3),.const (.int .i64 1)]) (cJ e (((s.lab.emit [q3 1 3 1 0]).jump 32 1 0 s.labs.length).emit [q3 10 3 2 1]) (by simp only [bp,bU,bG,bD,List.length_singleton];omega) 9 3 3 1) l6 [0] [] [0] J J J J J J J J (fun _ _=>J) (fun _ _ _=>J) J (fun _ _=>ai ?_)))))))))))));refine ae (aa (aj (ak ke J J (cz (k:=0) J J)) J (aj (ac J) J (au (xs:= [.tmp 13,.tmp 14]) (dI e ((((s.lab.emit [q3 1 3 1 0]).jump 32 1 0 s.labs.length).emit [q3 10 3 2 1]).emit [q3 9 3 3 1]) (by simp only [bp,bU,bG,bD,List.length_singleton];omega) (s.labs.length:Int) (by simp [Qg.lab,Qg.jump,Qg.emit];omega)) qS [0] [] [0] J J J J J J J J (fun _ _=>J) (fun _ _ _=>J) J (fun _ _=>ai (aa (aj (ak ke J J (cz (k:=0) J J)) J (au (xs:= [.tmp 16,.const (.int .i64 2),.const (.int .i64 1),.const (.int .i64 2),.const (.int .i64 3)]) (cJ e (((((s.lab.emit [q3 1 3 1 0]).jump 32 1 0 s.labs.length).emit [q3 10 3 2 1]).emit [q3 9 3 3 1]).place s.labs.length) (by simp only [bp,bU,bG,bD,List.length_singleton];omega) 2 1 2 3) l6 [0] [] [0] J J J J J J J J (fun _ _=>J) (fun _ _ _=>J) J (fun _ _=>ai (bO () trivial J eW J [0] [] J J J))))))))))
theorem sY(e:Ga)(s:Qg)(hz:s.sz≤900000)(bg:Nat)(bf n:Nat)(s1:Qg)(hz1:s1.sz≤910000)(hcb:Cb Tryz.prog n)(hs:Spec Tryz.prog n ([bg].map fun b=>Value.pointer (some ⟨b,0,none⟩)) [gA e s] [aY bg 104 [.pointer (some ⟨e.g,0,none⟩)]] (X:=Unit) (fun _=>True) (fun _=> .tuple #[]) (fun _=> [gA e s1]) (fun _=> [])):
  Spec Tryz.prog 89 [.pointer (some ⟨bf,0,none⟩),.pointer (some ⟨bg,0,none⟩)] [gA e s] [aY bf 1 [cc n [bg]],aY bg 104 [.pointer (some ⟨e.g,0,none⟩)]] (X:=Unit) (fun _=>True) (fun _=> .tuple #[]) (fun _=> [gA e (s1.emit [qi 19 1 1 1])]) (fun _=> []):=by
 refine aF Tryz.func89 J Tryz.ntmps89 J fun w0 M H=>ae (aa (aj (ak t1 J J (cz (k:=0) J J)) J (au (xs:= []) hs hcb [0] [(false,1)] [0] J J J J J J J J (fun _ _=>J) (fun _ _ _=>J) J (fun _ _=>ai (aa (aj (ak ke J J (cz (k:=1) J J)) J (au (xs:= [.tmp 4,.const (.int .i64 19),.const (.int .i64 1),.const (.int .i64 1),.const (.int .u32 1)]) (cB e s1 (by omega) 19 1 1 1) iJ [0] [] [0] J J J J J J J J (fun _ _=>J) (fun _ _ _=>J) J (fun _ _=>ai (bO () trivial J eW J [0] [] J J J)))))))))
theorem BT(e:Ga)(s:Qg)(hz:s.sz≤900000)(bg:Nat)(bo:Nat)(bf n:Nat)(s1:Qg)(hz1:s1.sz≤910000)(hcb:Cb Tryz.prog n)(hs:Spec Tryz.prog n ([bg,bo].map fun b=>Value.pointer (some ⟨b,0,none⟩)) [gA e s] [aY bg 104 [.pointer (some ⟨e.g,0,none⟩)],aY bo 3 [.int .i64 11]] (X:=Unit) (fun _=>True) (fun _=> .tuple #[]) (fun _=> [gA e s1]) (fun _=> [])):
  Spec Tryz.prog 89 [.pointer (some ⟨bf,0,none⟩),.pointer (some ⟨bg,0,none⟩)] [gA e s] [aY bf 1 [cc n [bg,bo]],aY bg 104 [.pointer (some ⟨e.g,0,none⟩)],aY bo 3 [.int .i64 11]] (X:=Unit) (fun _=>True) (fun _=> .tuple #[]) (fun _=> [gA e (s1.emit [qi 19 1 1 1])]) (fun _=> []):=by
 refine aF Tryz.func89 J Tryz.ntmps89 J fun w0 M H=>ae (aa (aj (ak t1 J J (cz (k:=0) J J)) J (au (xs:= []) hs hcb [0] [(false,1),(false,2)] [0] J J J J J J J J (fun _ _=>J) (fun _ _ _=>J) J (fun _ _=>ai (aa (aj (ak ke J J (cz (k:=1) J J)) J (au (xs:= [.tmp 4,.const (.int .i64 19),.const (.int .i64 1),.const (.int .i64 1),.const (.int .u32 1)]) (cB e s1 (by omega) 19 1 1 1) iJ [0] [] [0] J J J J J J J J (fun _ _=>J) (fun _ _ _=>J) J (fun _ _=>ai (bO () trivial J eW J [0] [] J J J)))))))))
def AllIn(w:World)(F:Nat→Prop):List Asn→Prop
 | []=>True
 | A::r=>(∃G:Nat→Prop,A.pred w G∧∀b,G b→F b)∧AllIn w F r
theorem wK{w:World}{Γ:dQ}{F:Nat→Nat→Prop}{U:Nat→Prop}(h:∀k A,bL Γ k=some A→A.pred w (F k)):∀(ks:List Nat)(L:List Asn),ek Γ ks=cZ L→(∀k∈ks,∀b,F k b→U b)→AllIn w U L
 | [],[],_,_=>trivial
 | [],A::L,hL,_=>by cases hL
 | k::ks,[],hL,_=>by cases hL
 | k::ks,A::L,hL,hU=>by
  simp only [ek,cZ,List.cons.injEq]at hL;exact⟨⟨F k,h k A hL.1,hU k (by simp)⟩,wK h ks L hL.2 fun j hj=>hU j (by simp [hj])⟩
theorem COk.collect{w0:World}{M H:Nat→Prop}{Γ R:dQ}{w:World}(h:COk w0 M H Γ R w)(k:Nat)(ks:List Nat){L:List Asn}{C:Asn}(hL:ek Γ ks=cZ L)(hC:∀w F,AllIn w F L→C.pred w F):COk w0 M H ((k,C)::fD ks Γ) R w:=by
 obtain⟨F,hF⟩:=h;have hsub:∀j b,(if j=k then fun b=>∃i∈ks,F i b else if j∈ks then fun _=>False else F j) b→(j=k∧∃i∈ks,F i b)∨(j≠k∧j∉ks∧F j b):=by
  intro j b hb;split at hb
  ·exact .inl ⟨by assumption,hb⟩
  ·split at hb
   ·exact hb.elim
   ·exact .inr ⟨by assumption,by assumption,hb⟩
 refine⟨fun j=>if j=k then fun b=>∃i∈ks,F i b else if j∈ks then fun _=>False else F j,hF.touch,?_,?_,?_,?_,?_⟩
 ·intro j B hj;simp only [bL]at hj;cases h1:Nat.beq k j with
  | true=>
   rw [h1]at hj;simp at hj;subst hj;have:=Nat.eq_of_beq_eq_true h1;subst this;simp only [if_true];exact hC w _ (wK hF.has ks L hL fun i hi b hb=>⟨i,hi,hb⟩)
  | false=>
   rw [h1]at hj;have hj1:j≠k:=fun e=>by subst e;simp at h1
   rcases lX ks Γ j B hj with⟨rfl,h2⟩|⟨h2,h3⟩
   ·simp only [hj1,if_false,h2,if_true];exact fun b hb=>hb
   ·simp only [hj1,if_false,h2];exact hF.has j B h3
 ·intro j b hb;rcases hsub j b hb with⟨_,i,_,hb⟩|⟨_,_,hb⟩<;>exact hF.lt _ b hb
 ·intro j b hb;rcases hsub j b hb with⟨_,i,_,hb⟩|⟨_,_,hb⟩<;>exact hF.mine _ b hb
 ·intro i j b hi hj;rcases hsub i b hi with⟨e1,x,hx,hx2⟩|⟨e1,n1,g1⟩<;>rcases hsub j b hj with⟨e2,y,hy,hy2⟩|⟨e2,n2,g2⟩
  ·rw [e1,e2]
  ·have:=hF.apart _ _ b hx2 g2;subst this;exact absurd hx n2
  ·have:=hF.apart _ _ b g1 hy2;subst this;exact absurd hy n1
  ·exact hF.apart i j b g1 g2
 ·intro r A hr;obtain⟨G,g1,g2⟩:=hF.ro r A hr;refine⟨G,g1,fun b hb=> ?_⟩;obtain⟨h1,h2,h3⟩:=g2 b hb;refine⟨h1,fun j hj=> ?_,h3⟩;rcases hsub j b hj with⟨_,i,_,hb⟩|⟨_,_,hb⟩<;>exact h2 _ hb
section
variable{P:Program}{N:Nat}{w0:World}{M H:Nat→Prop}{E:el}{Γ R:dQ}
theorem bI(k:Nat)(ks:List Nat){L:List Asn}{C:Asn}{Rel:Act→World→Prop}(hL:ek Γ ks=cZ L)(hC:∀w F,AllIn w F L→C.pred w F)(h:At N w0 M H E ((k,C)::fD ks Γ) R Rel):At N w0 M H E Γ R Rel:=
 h.weak (fun _ h=>h) fun w hc=>hc.collect k ks hL hC
end
theorem cM{α:Type}{w:World}{F G:Nat→Prop}{T s:Nat}{enc:α→List Value}{v:Value}{l:List α}(h:(own T s enc v l).pred w G)(hs:∀b,G b→F b):∃G':Nat→Prop,ng w G' s enc v l∧∀b,G' b→F b:=⟨G,tH h,hs⟩
theorem jv{α:Type}{w:World}{F:Nat→Prop}{s:Nat}{enc:α→List Value}:∃G':Nat→Prop,ng w G' s enc (sv bw) ([]:List α)∧∀b,G' b→F b:=⟨fun _=>False,⟨0,Nat.le_refl _,Nat.zero_le _,.inl ⟨rfl,fun _ h=>h,rfl⟩⟩,fun _ h=>h.elim⟩
structure Oq where
 m:Nat
 bg:Nat
 b0:Nat
 b1:Nat
 b2:Nat
 b3:Nat
 b4:Nat
 b5:Nat
 b6:Nat
 b7:Nat
 b8:Nat
 b9:Nat
 f0:Nat
 f1:Nat
 f2:Nat
def RD(c:Oq):List (ByteArray×Value):= [(jt,cc 93 [c.bg]),(iV,cc 91 [c.bg]),(lm,cc 89 [c.f2,c.bg]),(lg,cc 90 [c.bg]),(l9,cc 89 [c.f1,c.bg]),(lh,cc 89 [c.f0,c.bg]),(li,cc 87 [c.bg]),(jZ,cc 85 [c.bg,c.b8]),(fy,cc 85 [c.bg,c.b7]),(fe,cc 85 [c.bg,c.b6]),(d6,cc 85 [c.bg,c.b5]),(iH,cc 85 [c.bg,c.b4]),(dW,cc 85 [c.bg,c.b3]),(ff,cc 85 [c.bg,c.b2]),(dw,cc 85 [c.bg,c.b1]),(eG,cc 85 [c.bg,c.b0])]
def MT(g:Nat)(c:Oq):List Asn:= [mp fz Prod.fst Prod.snd (some c.m) (RD c),aY c.bg 104 [.pointer (some ⟨g,0,none⟩)],aY c.b0 3 [.int .i64 1],aY c.b1 3 [.int .i64 2],aY c.b2 3 [.int .i64 9],aY c.b3 3 [.int .i64 3],aY c.b4 3 [.int .i64 4],aY c.b5 3 [.int .i64 5],aY c.b6 3 [.int .i64 6],aY c.b7 3 [.int .i64 7],aY c.b8 3 [.int .i64 11],aY c.b9 3 [.int .i64 11],aY c.f0 1 [cc 87 [c.bg]],aY c.f1 1 [cc 85 [c.bg,c.b9]],aY c.f2 1 [cc 90 [c.bg]]]
theorem AllIn.stable{w w':World}{F:Nat→Prop}(hs:∀b,F b→w'.heap[b]?=w.heap[b]?):∀{L:List Asn},AllIn w F L→AllIn w' F L
 | [],_=>trivial
 | A::r,h=>⟨h.1.elim fun G hG=>⟨G,A.stable hG.1 fun b hb=>hs b (hG.2 b hb),hG.2⟩,AllIn.stable hs h.2⟩
theorem AllIn.get{w:World}{F:Nat→Prop}:∀{L:List Asn}{i:Nat}{A:Asn},AllIn w F L→L[i]?=some A→∃G:Nat→Prop,A.pred w G∧∀b,G b→F b
 | [],i,A,_,h=>by simp at h
 | B::r,0,A,h,hi=>by cases hi;exact h.1
 | B::r,i+1,A,h,hi=>AllIn.get h.2 hi
def gT(g:Nat)(c:Oq):Asn:=⟨fun w F=>AllIn w F (MT g c),fun h hs=>h.stable hs⟩
theorem De{g:Nat}{c:Oq}{A:Asn}(i:Nat)(h:(MT g c)[i]?=some A):∀w G,(gT g c).pred w G→(∀b,G b→b<w.heap.size)→∃G',A.pred w G'∧∀b,G' b→G b:=fun w G h2 _=>h2.get h
theorem J7{g:Nat}{c:Oq}:∀w F,AllIn w F (MT g c)→(gT g c).pred w F:=fun _ _ h=>h
theorem fG(bg:Nat)(op:Int):
  Spec Tryz.prog 84 [.int .i64 op,.pointer (some ⟨bg,0,none⟩)] [] [] (X:=Nat) (fun _=>True) (fun b=>cc 85 [bg,b]) (fun b=> [aY b 3 [.int .i64 op]]) (fun _=> []):=by
 refine aF Tryz.func84 J Tryz.ntmps84 J fun w0 M H=>ae (aa (tA J J J fun b2=>aj (ag J) J (ai (ae (aa (aj (d5 (first:= []) (cap:= [.tmp 1,.tmp 2]) J J) J (aj (ag J) J (ai (aw (aG b2 trivial J (bx (aH J)) J [2] [] J J J))))))))))
theorem qX(bg:Nat)(n:Nat)(l:List Nat):
  Spec Tryz.prog 88 [cc n l,.pointer (some ⟨bg,0,none⟩)] [] [] (X:=Nat) (fun _=>True) (fun b=>cc 89 [b,bg]) (fun b=> [aY b 1 [cc n l]]) (fun _=> []):=by
 refine aF Tryz.func88 J Tryz.ntmps88 J fun w0 M H=>ae (aa (tA J J J fun b2=>aj (ag J) J (ai (ae (aa (aj (d5 (first:= []) (cap:= [.tmp 2,.tmp 1]) J J) J (aj (ag J) J (ai (aw (aG b2 trivial J (bx (aH J)) J [2] [] J J J))))))))))
theorem Dd(g:Nat):
  Spec Tryz.prog 49 [.pointer (some ⟨g,0,none⟩)] [] [] (X:=Oq) (fun _=>True) (fun c=> .map (some c.m)) (fun c=> [gT g c]) (fun _=> []):=by
 refine aF Tryz.func49 J Tryz.ntmps49 J fun w0 M H=>ae (aa (tA J J J fun b1=>aj (ag J) J (ai (ae (aa (aj (d5 (first:= []) (cap:= [.tmp 1]) J J) J (aj (ag J) J (ai (ae (aa (aj (d5 (first:= []) (cap:= [.tmp 1]) J J) J ?_)))))))))))
 refine aj (ag J) J (ai (ae (aa (aj (d5 (first:= []) (cap:= [.tmp 1]) J J) J (aj (ag J) J (ai (ae (aa (aj (d5 (first:= []) (cap:= [.tmp 1]) J J) J (aj (ag J) J (ai (ae (aa ?_)))))))))))));refine kJ (Prod.fst:ByteArray×Value→ByteArray) fz Prod.snd J fun b11=>aj (ac J) J (au (xs:= [.const (.int .i64 1)]) (fG b1 1) rZ [] [] [60] J J J J J J J J (fun _ _=>J) (fun _ _ _=>J) J (fun p0 _=>bT (k:=11) (α:=ByteArray×Value) (kf:=Prod.fst) (vf:=Prod.snd) (eG,cc 85 [b1,p0]) [(eG,cc 85 [b1,p0])] Tryz.underlying109 d8 J J J J (List.Perm.of_eq J) (aj (ac J) J (au (xs:= [.const (.int .i64 2)]) (fG b1 2) rZ [] [] [61] J J J J J J J J (fun _ _=>J) (fun _ _ _=>J) J (fun p1 _=>bT (k:=11) (α:=ByteArray×Value) (kf:=Prod.fst) (vf:=Prod.snd) (dw,cc 85 [b1,p1]) [(dw,cc 85 [b1,p1]),(eG,cc 85 [b1,p0])] Tryz.underlying109 d8 J J J J (List.Perm.of_eq J) (aj (ac J) J (au (xs:= [.const (.int .i64 9)]) (fG b1 9) rZ [] [] [62] J J J J J J J J (fun _ _=>J) (fun _ _ _=>J) J (fun p2 _=>bT (k:=11) (α:=ByteArray×Value) (kf:=Prod.fst) (vf:=Prod.snd) (ff,cc 85 [b1,p2]) [(ff,cc 85 [b1,p2]),(dw,cc 85 [b1,p1]),(eG,cc 85 [b1,p0])] Tryz.underlying109 d8 J J J J (List.Perm.of_eq J) (aj (ac J) J (au (xs:= [.const (.int .i64 3)]) (fG b1 3) rZ [] [] [63] J J J J J J J J (fun _ _=>J) (fun _ _ _=>J) J (fun p3 _=>bT (k:=11) (α:=ByteArray×Value) (kf:=Prod.fst) (vf:=Prod.snd) (dW,cc 85 [b1,p3]) [(dW,cc 85 [b1,p3]),(ff,cc 85 [b1,p2]),(dw,cc 85 [b1,p1]),(eG,cc 85 [b1,p0])] Tryz.underlying109 d8 J J J J (List.Perm.of_eq J) (aj (ac J) J ?_))))))))))))
 refine au (xs:= [.const (.int .i64 4)]) (fG b1 4) rZ [] [] [64] J J J J J J J J (fun _ _=>J) (fun _ _ _=>J) J (fun p4 _=>bT (k:=11) (α:=ByteArray×Value) (kf:=Prod.fst) (vf:=Prod.snd) (iH,cc 85 [b1,p4]) [(iH,cc 85 [b1,p4]),(dW,cc 85 [b1,p3]),(ff,cc 85 [b1,p2]),(dw,cc 85 [b1,p1]),(eG,cc 85 [b1,p0])] Tryz.underlying109 d8 J J J J (List.Perm.of_eq J) (aj (ac J) J (au (xs:= [.const (.int .i64 5)]) (fG b1 5) rZ [] [] [65] J J J J J J J J (fun _ _=>J) (fun _ _ _=>J) J (fun p5 _=>bT (k:=11) (α:=ByteArray×Value) (kf:=Prod.fst) (vf:=Prod.snd) (d6,cc 85 [b1,p5]) [(d6,cc 85 [b1,p5]),(iH,cc 85 [b1,p4]),(dW,cc 85 [b1,p3]),(ff,cc 85 [b1,p2]),(dw,cc 85 [b1,p1]),(eG,cc 85 [b1,p0])] Tryz.underlying109 d8 J J J J (List.Perm.of_eq J) (aj (ac J) J (au (xs:= [.const (.int .i64 6)]) (fG b1 6) rZ [] [] [66] J J J J J J J J (fun _ _=>J) (fun _ _ _=>J) J (fun p6 _=>bT (k:=11) (α:=ByteArray×Value) (kf:=Prod.fst) (vf:=Prod.snd) (fe,cc 85 [b1,p6]) [(fe,cc 85 [b1,p6]),(d6,cc 85 [b1,p5]),(iH,cc 85 [b1,p4]),(dW,cc 85 [b1,p3]),(ff,cc 85 [b1,p2]),(dw,cc 85 [b1,p1]),(eG,cc 85 [b1,p0])] Tryz.underlying109 d8 J J J J (List.Perm.of_eq J) (aj (ac J) J (au (xs:= [.const (.int .i64 7)]) (fG b1 7) rZ [] [] [67] J J J J J J J J (fun _ _=>J) (fun _ _ _=>J) J (fun p7 _=>bT (k:=11) (α:=ByteArray×Value) (kf:=Prod.fst) (vf:=Prod.snd) (fy,cc 85 [b1,p7]) [(fy,cc 85 [b1,p7]),(fe,cc 85 [b1,p6]),(d6,cc 85 [b1,p5]),(iH,cc 85 [b1,p4]),(dW,cc 85 [b1,p3]),(ff,cc 85 [b1,p2]),(dw,cc 85 [b1,p1]),(eG,cc 85 [b1,p0])] Tryz.underlying109 d8 J J J J (List.Perm.of_eq J) (aj (ac J) J (au (xs:= [.const (.int .i64 11)]) (fG b1 11) rZ [] [] [68] J J J J J J J J (fun _ _=>J) (fun _ _ _=>J) J (fun p8 _=>bT (k:=11) (α:=ByteArray×Value) (kf:=Prod.fst) (vf:=Prod.snd) (jZ,cc 85 [b1,p8]) [(jZ,cc 85 [b1,p8]),(fy,cc 85 [b1,p7]),(fe,cc 85 [b1,p6]),(d6,cc 85 [b1,p5]),(iH,cc 85 [b1,p4]),(dW,cc 85 [b1,p3]),(ff,cc 85 [b1,p2]),(dw,cc 85 [b1,p1]),(eG,cc 85 [b1,p0])] Tryz.underlying109 d8 J J J J (List.Perm.of_eq J) ?_)))))))))))))
 refine aj (ac J) J (bT (k:=11) (α:=ByteArray×Value) (kf:=Prod.fst) (vf:=Prod.snd) (li,cc 87 [b1]) [(li,cc 87 [b1]),(jZ,cc 85 [b1,p8]),(fy,cc 85 [b1,p7]),(fe,cc 85 [b1,p6]),(d6,cc 85 [b1,p5]),(iH,cc 85 [b1,p4]),(dW,cc 85 [b1,p3]),(ff,cc 85 [b1,p2]),(dw,cc 85 [b1,p1]),(eG,cc 85 [b1,p0])] Tryz.underlying109 d8 J J J J (List.Perm.of_eq J) (aj (ac J) J (aj (ac J) J (au (xs:= [.tmp 32]) (qX b1 87 [b1]) K7 [] [] [70] J J J J J J J J (fun _ _=>J) (fun _ _ _=>J) J (fun q0 _=>bT (k:=11) (α:=ByteArray×Value) (kf:=Prod.fst) (vf:=Prod.snd) (lh,cc 89 [q0,b1]) [(lh,cc 89 [q0,b1]),(li,cc 87 [b1]),(jZ,cc 85 [b1,p8]),(fy,cc 85 [b1,p7]),(fe,cc 85 [b1,p6]),(d6,cc 85 [b1,p5]),(iH,cc 85 [b1,p4]),(dW,cc 85 [b1,p3]),(ff,cc 85 [b1,p2]),(dw,cc 85 [b1,p1]),(eG,cc 85 [b1,p0])] Tryz.underlying109 d8 J J J J (List.Perm.of_eq J) (aj (ac J) J (aj (ac J) J (au (xs:= [.const (.int .i64 11)]) (fG b1 11) rZ [] [] [69] J J J J J J J J (fun _ _=>J) (fun _ _ _=>J) J (fun p9 _=>au (xs:= [.tmp 36]) (qX b1 85 [b1,p9]) K7 [] [] [71] J J J J J J J J (fun _ _=>J) (fun _ _ _=>J) J (fun q1 _=>bT (k:=11) (α:=ByteArray×Value) (kf:=Prod.fst) (vf:=Prod.snd) (l9,cc 89 [q1,b1]) [(l9,cc 89 [q1,b1]),(lh,cc 89 [q0,b1]),(li,cc 87 [b1]),(jZ,cc 85 [b1,p8]),(fy,cc 85 [b1,p7]),(fe,cc 85 [b1,p6]),(d6,cc 85 [b1,p5]),(iH,cc 85 [b1,p4]),(dW,cc 85 [b1,p3]),(ff,cc 85 [b1,p2]),(dw,cc 85 [b1,p1]),(eG,cc 85 [b1,p0])] Tryz.underlying109 d8 J J J J (List.Perm.of_eq J) (aj (ac J) J (bT (k:=11) (α:=ByteArray×Value) (kf:=Prod.fst) (vf:=Prod.snd) (lg,cc 90 [b1]) [(lg,cc 90 [b1]),(l9,cc 89 [q1,b1]),(lh,cc 89 [q0,b1]),(li,cc 87 [b1]),(jZ,cc 85 [b1,p8]),(fy,cc 85 [b1,p7]),(fe,cc 85 [b1,p6]),(d6,cc 85 [b1,p5]),(iH,cc 85 [b1,p4]),(dW,cc 85 [b1,p3]),(ff,cc 85 [b1,p2]),(dw,cc 85 [b1,p1]),(eG,cc 85 [b1,p0])] Tryz.underlying109 d8 J J J J (List.Perm.of_eq J) (aj (ac J) J ?_)))))))))))))
 refine aj (ac J) J (au (xs:= [.tmp 40]) (qX b1 90 [b1]) K7 [] [] [72] J J J J J J J J (fun _ _=>J) (fun _ _ _=>J) J (fun q2 _=>bT (k:=11) (α:=ByteArray×Value) (kf:=Prod.fst) (vf:=Prod.snd) (lm,cc 89 [q2,b1]) [(lm,cc 89 [q2,b1]),(lg,cc 90 [b1]),(l9,cc 89 [q1,b1]),(lh,cc 89 [q0,b1]),(li,cc 87 [b1]),(jZ,cc 85 [b1,p8]),(fy,cc 85 [b1,p7]),(fe,cc 85 [b1,p6]),(d6,cc 85 [b1,p5]),(iH,cc 85 [b1,p4]),(dW,cc 85 [b1,p3]),(ff,cc 85 [b1,p2]),(dw,cc 85 [b1,p1]),(eG,cc 85 [b1,p0])] Tryz.underlying109 d8 J J J J (List.Perm.of_eq J) (aj (d5 (first:= []) (cap:= [.tmp 1]) J J) J (bT (k:=11) (α:=ByteArray×Value) (kf:=Prod.fst) (vf:=Prod.snd) (iV,cc 91 [b1]) [(iV,cc 91 [b1]),(lm,cc 89 [q2,b1]),(lg,cc 90 [b1]),(l9,cc 89 [q1,b1]),(lh,cc 89 [q0,b1]),(li,cc 87 [b1]),(jZ,cc 85 [b1,p8]),(fy,cc 85 [b1,p7]),(fe,cc 85 [b1,p6]),(d6,cc 85 [b1,p5]),(iH,cc 85 [b1,p4]),(dW,cc 85 [b1,p3]),(ff,cc 85 [b1,p2]),(dw,cc 85 [b1,p1]),(eG,cc 85 [b1,p0])] Tryz.underlying109 d8 J J J J (List.Perm.of_eq J) (aj (d5 (first:= []) (cap:= [.tmp 1]) J J) J (bT (k:=11) (α:=ByteArray×Value) (kf:=Prod.fst) (vf:=Prod.snd) (jt,cc 93 [b1]) [(jt,cc 93 [b1]),(iV,cc 91 [b1]),(lm,cc 89 [q2,b1]),(lg,cc 90 [b1]),(l9,cc 89 [q1,b1]),(lh,cc 89 [q0,b1]),(li,cc 87 [b1]),(jZ,cc 85 [b1,p8]),(fy,cc 85 [b1,p7]),(fe,cc 85 [b1,p6]),(d6,cc 85 [b1,p5]),(iH,cc 85 [b1,p4]),(dW,cc 85 [b1,p3]),(ff,cc 85 [b1,p2]),(dw,cc 85 [b1,p1]),(eG,cc 85 [b1,p0])] Tryz.underlying109 d8 J J J J (List.Perm.of_eq J) (aj (ac J) J (aj (ag J) J (ai (aw (bI 90 [11,1,60,61,62,63,64,65,66,67,68,69,70,71,72] (L:=MT g ⟨b11,b1,p0,p1,p2,p3,p4,p5,p6,p7,p8,p9,q0,q1,q2⟩) (C:=gT g ⟨b11,b1,p0,p1,p2,p3,p4,p5,p6,p7,p8,p9,q0,q1,q2⟩) J J7 (aG ⟨b11,b1,p0,p1,p2,p3,p4,p5,p6,p7,p8,p9,q0,q1,q2⟩ trivial J (bx (aH J)) J [90] [] J J J))))))))))))
def wQ(z n:Int):Int:=IntKind.u32.wrap (IntKind.i32.wrap (wU (n*2^(32-z).toNat))/2^(32-z).toNat)
theorem CE{n:Int}(h:0≤n∧n<4294967296):decide (wQ 18 n=n)=gQ n:=by
 unfold wQ gQ wU;rw [show((32:Int)-18).toNat=14 from J,←Bool.decide_or];simp only [IntKind.wrap_u32,IntKind.wrap_i32];refine decide_eq_decide.2 ?_;omega
theorem JF{α:Type}{b o n:Nat}{S:TypeId}{c:List Value}{enc:α→List Value}{s:Nat}{l:List α}(hl:l.length=n)(hn:n≤maxLen)(hc:(c.drop o).take (l.flatMap enc).length=l.flatMap enc):∀w G,(aY b S c).pred w G→(sl s enc (sv ⟨some ⟨b,o,none⟩,n,n⟩) l).pred w G:=fun w G h=>by
 refine⟨n,by omega,hn,.inr ⟨b,o,by rw [hl];rfl,(h.1 b).2 rfl,fun j u hj=> ?_⟩⟩;simp only [World.cell?,h.2];rw [←hc,List.getElem?_take]at hj;split at hj
 ·rw [List.getElem?_drop]at hj;simpa using hj
 ·simp at hj
theorem ON{b:Int}(hb:0≤b∧b<4294967296):bits .and .u32 b 1023=b%1024:=by
 have h1:bits .and .u32 b 1023=IntKind.u32.wrap (((BitVec.ofInt 32 b&&&BitVec.ofInt 32 1023).toNat:Nat):Int):=J;have h2:(BitVec.ofInt 32 b).toNat=b.toNat:=by
  rw [BitVec.toNat_ofInt,Int.emod_eq_of_lt hb.1 (by omega)]
 have h3:(BitVec.ofInt 32 1023).toNat=2^10-1:=by decide
 rw [h1,BitVec.toNat_and,h2,h3,Nat.and_two_pow_sub_one_eq_mod,bC (by omega) (by omega)];omega
theorem OM{b:Int}(hb:0≤b∧b<4294967296):bits .and .u32 b 262143=b%262144:=by
 have h1:bits .and .u32 b 262143=IntKind.u32.wrap (((BitVec.ofInt 32 b&&&BitVec.ofInt 32 262143).toNat:Nat):Int):=J;have h2:(BitVec.ofInt 32 b).toNat=b.toNat:=by
  rw [BitVec.toNat_ofInt,Int.emod_eq_of_lt hb.1 (by omega)]
 have h3:(BitVec.ofInt 32 262143).toNat=2^18-1:=by decide
 rw [h1,BitVec.toNat_and,h2,h3,Nat.and_two_pow_sub_one_eq_mod,bC (by omega) (by omega)];omega
theorem OL{b:Int}(hb:0≤b∧b<4294967296):bits .and .u32 b 4194303=b%4194304:=by
 have h1:bits .and .u32 b 4194303=IntKind.u32.wrap (((BitVec.ofInt 32 b&&&BitVec.ofInt 32 4194303).toNat:Nat):Int):=J;have h2:(BitVec.ofInt 32 b).toNat=b.toNat:=by
  rw [BitVec.toNat_ofInt,Int.emod_eq_of_lt hb.1 (by omega)]
 have h3:(BitVec.ofInt 32 4194303).toNat=2^22-1:=by decide
 rw [h1,BitVec.toNat_and,h2,h3,Nat.and_two_pow_sub_one_eq_mod,bC (by omega) (by omega)];omega
theorem A7(n z:Int)(hn:0≤n∧n<4294967296)(hz:z=18∨z=22):
  Spec Tryz.prog 204 [.int .u32 n,.int .i64 z] [] [] (X:=Unit) (fun _=>True) (fun _=> .int .u32 (wQ z n)) (fun _=> []) (fun _=> []):=by
 refine aF Tryz.func204 J Tryz.ntmps204 J fun w0 M H=>ae (aa (aj (ag J) J (ai (ae (aB (ae (aa (aj (ac J) J (aj (am J J b_) J (aj (ag J) J (ai (ar J (fun h1=> ?_) (fun h1=> ?_)))))))))))))
 ·exact absurd h1 (by simp;omega)
 ·(try simp only [aV]at h1)
  refine ae (aa (aj (ac J) J (aj (am J J eV) J (aj (ag J) J (ai (ar J (fun h2=> ?_) (fun h2=> ?_)))))))
  ·exact absurd h2 (by simp;omega)
  ·(try simp only [aV]at h2)
   refine az (ae (aa (aj (ac J) J (aj (ac J) J (aj (am J J (fQ (by first|exact aU (by omega) (by omega)|rfl))) J (aj (am J J (ga (by omega) (by first|decide|(simp [IntKind.bits];omega)) J)) J (aj (bP Tryz.underlying41 Tryz.underlying21 J (by first|exact Ce (by omega) (by omega)|rfl)) J (aj (ac J) J (aj (am J J (fQ (by first|exact aU (by omega) (by omega)|rfl))) J (aj (am J J (m_ (by omega) (by first|decide|(simp [IntKind.bits];omega)) J)) J (aj (bP Tryz.underlying21 Tryz.underlying41 J (by first|exact bC (by omega) (by omega)|rfl)) J (aj (ag J) J (ai ?_)))))))))))));refine aw (aG () trivial J (bx (aH J)) J [] [] J J J)
theorem sJ(n z:Int)(hn:0≤n∧n<4294967296)(hz:z=18∨z=22):
  Spec Tryz.prog 190 [.int .u32 n,.int .i64 z] [] [] (X:=Unit) (fun _=>True) (fun _=> .bool (decide (wQ z n=n))) (fun _=> []) (fun _=> []):=by
 refine aF Tryz.func190 J Tryz.ntmps190 J fun w0 M H=>ae (aa (aj (ag J) J (ai (ae (aa (aj (ac J) J (aj (ac J) J (au (xs:= [.tmp 5,.tmp 6]) (A7 n z hn hz) NN [] [] [] J J J J J J J J (fun _ _=>J) (fun _ _ _=>J) J (fun _ _=>aj (ac J) J (aj (am J J aS) J (aj (ag J) J (ai ?_))))))))))))
 refine aw (aG () trivial J (bx (aH J)) J [] [] J J J)
theorem yB(d n:Int)(hn:0≤n∧n<4294967296):
  Spec Tryz.prog 203 [.int .i64 d,.int .u32 n] [] [] (X:=Unit) (fun _=>True) (fun _=> .agg (gC (qi 41 d 0 (n/1024))++gC (qi 18 d d (n%1024))).toArray) (fun _=> []) (fun _=> []):=by
 refine aF Tryz.func203 J Tryz.ntmps203 J fun w0 M H=>ae (aa (aT AY J J fun b4=>ai (ae (aa (aj (ac J) J (aj (ac J) J (aj (am J J (m_ (by decide) (by decide) (show n/2^(10:Int).toNat=n/1024 from J))) J (aj (aP (parts:= [(0,.const (.int .i64 41)),(1,.tmp 5),(4,.tmp 7)]) ed lz J J) J (aj (ac J) J (aj (ac J) J (aj (ac J) J ?_)))))))))))
 refine aj (am J J (lD (ON hn))) J (aj (aP (parts:= [(0,.const (.int .i64 18)),(1,.tmp 9),(2,.tmp 10),(4,.tmp 12)]) ed lz J J) J (aj (Db (D:= .bool) (vs:= [(0,.agg (gC (qi 41 d 0 (n/1024))).toArray),(1,.agg (gC (qi 18 d d (n%1024))).toArray)]) (cs:=(gC (qi 41 d 0 (n/1024))++gC (qi 18 d d (n%1024))).toArray) (parts:= [(0,.tmp 8),(1,.tmp 13)]) AY ed J (by kernel_rfl)) J (av (k:=4) AY J J J J J J (ai (aw (aG () trivial J (bx (aW AY J J J (aR (k:=4) J))) J [] [] J J J))))))
theorem Dh(e:Ga)(s:Qg)(hz:s.sz≤900000)(n:Int)(hn:0≤n∧n<4294967296):
  Spec Tryz.prog 189 [.pointer (some ⟨e.g,0,none⟩),.int .u32 n] [gA e s] [] (X:=Unit) (fun _=>True) (fun _=> .tuple #[]) (fun _=> [gA e (qx n s)]) (fun _=> []):=by
 refine aF Tryz.func189 J Tryz.ntmps189 J fun w0 M H=>ae (ae (aa (aj (ac J) J (au (xs:= [.tmp 5,.const (.int .i64 18)]) (sJ n 18 hn (.inl J)) IR [] [] [] J J J J J J J J (fun _ _=>J) (fun _ _ _=>J) J (fun _ _=>ai (ar J (fun h1=> ?_) (fun h1=> ?_)))))))
 ·have hf:gQ n=true:=by rw [←CE hn];exact h1
  rw [show qx n s=s.emit [qi 16 1 0 n]from if_pos hf];refine ae (aa (aj (ac J) J (aj (ac J) J (au (xs:= [.tmp 7,.const (.int .i64 16),.const (.int .i64 1),.const (.int .i64 0),.tmp 8]) (cB e s (by omega) 16 1 0 n) iJ [0] [] [0] J J J J J J J J (fun _ _=>J) (fun _ _ _=>J) J (fun _ _=>ai (aw (aG () trivial J eW J [0] [] J J J)))))))
 ·have hf:gQ n=false:=by rw [←CE hn];exact h1
  rw [show qx n s=s.emit [qi 41 1 0 (n/1024),qi 18 1 1 (n%1024)]from if_neg (by rw [hf];simp)];refine az (ae (aa (aj (ac J) J (au (xs:= [.const (.int .i64 1),.tmp 10]) (yB 1 n hn) NO [] [] [] J J J J J J J J (fun _ _=>J) (fun _ _ _=>J) J (fun _ _=>aT AY J J fun b4=>av (k:=4) AY J J J J J J (ai (aa (aj (ac J) J (aj (og Tryz.underlying281 ed J (by decide)) J (bW 4 7 J (JF (o:=0) (n:=2) (s:=5) (enc:=gC) (l:= [qi 41 1 0 (n/1024),qi 18 1 1 (n%1024)]) J (by decide) J) (au (xs:= [.tmp 12,.tmp 13]) (gh e s (by omega) ⟨some ⟨b4,0,none⟩,2,2⟩ [qi 41 1 0 (n/1024),qi 18 1 1 (n%1024)] (by simp)) wz [0] [(false,7)] [0] J J J J J J J J (fun _ _=>J) (fun _ _ _=>J) J (fun _ _=>ai ?_))))))))))));refine bO () trivial J eW J [0] [] J J J
structure Sh where
 k:Bool
 d:Bool
 a:Bool
 b:Bool
 kd:Int
 bt:Int
 mo:Int
deriving DecidableEq
def nj:Sh:=⟨false,false,false,false,0,0,0⟩
def nU(s:Sh):List Value:= [.bool s.k,.bool s.d,.bool s.a,.bool s.b,.int .i64 s.kd,.int .i64 s.bt,.int .u32 s.mo]
def l7(l:List Sh):List Value:=l.flatMap nU
theorem tj:∀l:List Sh,(l7 l).length=l.length*7
 | []=>rfl
 | a::r=>by
  show(nU a++l7 r).length=_;rw [List.length_append,tj r,List.length_cons,show(nU a).length=7 from J];omega
theorem zc:∀(l:List Sh)(j:Nat)(x:Sh),l[j]?=some x→((l7 l).drop (j*7)).take 7=nU x
 | [],j,x,h=>by simp at h
 | a::r,0,x,h=>by cases h;rfl
 | a::r,j+1,x,h=>by
  show((nU a++l7 r).drop ((j+1)*7)).take 7=_;rw [show(j+1)*7=(nU a).length+j*7 by rw [show(nU a).length=7 from J];omega,List.drop_append,List.drop_eq_nil_of_le (by omega),List.nil_append,Nat.add_sub_cancel_left];exact zc r j x h
theorem zb:∀(l:List Sh)(j:Nat)(x:Sh),j<l.length→(l7 l).take (j*7)++nU x++(l7 l).drop (j*7+7)=l7 (l.set j x)
 | [],j,x,h=>absurd h (Nat.not_lt_zero _)
 | a::r,0,x,h=>by
  show(l7 (a::r)).take 0++nU x++(nU a++l7 r).drop 7=nU x++l7 r;rfl
 | a::r,j+1,x,h=>by
  have ih:=zb r j x (Nat.lt_of_succ_lt_succ h);show(nU a++l7 r).take ((j+1)*7)++nU x++(nU a++l7 r).drop ((j+1)*7+7)=nU a++l7 (r.set j x);have e7:(nU a).length=7:=J;rw [show(j+1)*7=(nU a).length+j*7 by omega,List.take_append,List.take_of_length_le (by omega),Nat.add_sub_cancel_left,show(nU a).length+j*7+7=(nU a).length+(j*7+7) by omega,List.drop_append,List.drop_eq_nil_of_le (by omega),List.nil_append,Nat.add_sub_cancel_left,←ih];simp only [List.append_assoc]
def bH(s:Sh):List Sh→List Int→List Sh
 | l,[]=>l
 | l,o::r=>bH s (l.set o.toNat {s with k:=true}) r
theorem c9(s:Sh):∀(l:List Sh)(r:List Int),(bH s l r).length=l.length
 | l,[]=>rfl
 | l,o::r=>by unfold bH;rw [c9 s _ r,List.length_set]
theorem kI(s:Sh):∀(l:List Sh)(a b:List Int),bH s l (a++b)=bH s (bH s l a) b
 | l,[],b=>rfl
 | l,o::a,b=>kI s _ a b
def mQ(lo n:Nat):List Int:=(List.range n).map fun i=>((lo+i:Nat):Int)
theorem vP(lo n:Nat):mQ lo (n+1)=mQ lo n++ [((lo+n:Nat):Int)]:=by
 unfold mQ;rw [List.range_succ,List.map_append];rfl
def xm:Sh:=⟨false,true,true,true,0,0,0⟩
def rf:Sh:=⟨false,true,true,false,1,18,0⟩
def Fd:Sh:=⟨false,true,true,false,2,18,0⟩
def shL:List Sh:=
 bH ⟨false,false,true,false,2,18,4⟩ (bH ⟨false,true,false,false,2,18,3⟩ (bH ⟨false,false,true,false,0,0,0⟩ (bH nj (bH ⟨false,false,false,false,2,18,0⟩ (bH ⟨false,true,false,false,2,22,0⟩ (bH ⟨false,true,false,false,1,22,0⟩
  (bH rf (bH Fd (bH rf (bH xm (List.replicate 64 nj) (mQ 1 12)) (mQ 16 12)) [17,18,19]) [32,33,34,35,36,37]) [40]) [41]) [48]) [49,50,51]) [52]) [53]) [54]
def cw(op:Int):Sh:=if 0≤op∧op<64 then shL.getD op.toNat nj else nj
theorem xg:TI Tryz.prog 253 (.array 64 219) (.agg (l7 (List.replicate 64 nj)).toArray) 448 2048:=⟨Tryz.underlying253,by kernel_rfl⟩
def fc(n:Int)(u:Bool):Bool:=decide (n=0) || (u&&decide (n>0)&&decide (n<16))
def jz(s:Sh)(n:Int):Bool:=if s.kd=0 then decide (n=0)else if s.kd=1 then decide (wQ s.bt n=n)else if s.mo>0 then decide (n≤s.mo)else decide (n/2^s.bt.toNat=0)
def oy(i:Qi):Bool:=(cw i.op).k&&fc i.d (cw i.op).d&&fc i.a (cw i.op).a&&fc i.b (cw i.op).b&&jz (cw i.op) i.imm
theorem dG(ba:Nat)(s:Sh)(v:SV)(ops:List Int)(l:List Sh)(hb:∀o∈ops,0≤o∧o<64)(hl:l.length=64)(hol:ops.length≤100):
  Spec Tryz.prog 191 [.agg (nU s).toArray,sv v,.pointer (some ⟨ba,0,none⟩)] [aY ba 253 (l7 l)] [sl 1 eI (sv v) ops] (X:=Unit) (fun _=>True) (fun _=> .tuple #[]) (fun _=> [aY ba 253 (l7 (bH s l ops))]) (fun _=> []):=by
 refine aF Tryz.func191 J Tryz.ntmps191 J fun w0 M H=>ae (aa (bN J J fun b3=>ai (ae (aa (aj (ah Ah J) J (aI (k:=3) t4 J J J J J J J J (ai (ae (aa (aj (ac J) J (aj (aO Tryz.underlying22 J (aK (k:=0) J)) J ?_)))))))))))
 refine aj (ac J) J (ai (aB (bk (X:=Nat) (fun i=>i≤ops.length) (fun i=> [(2,.pointer (some ⟨ba,0,none⟩)),(3,.pointer (some ⟨b3,0,none⟩)),(8,sv v),(9,.int .i64 (ops.length:Int)),(10,.int .i64 (i:Int))]) (fun i=> [(0,aY ba 253 (l7 (bH s l (ops.take i)))),(3,aY b3 219 (nU {s with k:=true}))]) (fun i=> [(0,sl 1 eI (sv v) ops)]) (fun i=>ops.length-i) 0 (Nat.zero_le _) J J J (fun i n1=>ae (aa (aj (am J J b_) J (ai (ae (ar J (fun h1=> ?_) (fun h1=> ?_))))))))))
 ·(try simp only [aV]at h1)
  have hi:i<ops.length:=by omega
  obtain⟨o,hx⟩:∃o,ops[i]?=some o:=⟨_,List.getElem?_eq_getElem hi⟩
  have ho:=hb o (List.mem_of_getElem? hx);refine az (ae (aB (ae (aa (aj (aN (j:=i) Tryz.underlying22 t3 J J (aK (k:=0) J) (by first|rfl|omega) (by first|omega|(simp;done)|(simp;omega))) J (aj (ak t3 J J (bv (aK (k:=0) J) (by intro _;rfl) hx (by rfl))) J (aj (ag J) J (ai (aa (aj (ac J) J (aj (aJ gH J J J (aR (k:=3) J)) J (aj (cG (j:=o.toNat) Tryz.underlying253 gH J J (by omega) (by omega)) J ?_))))))))))));refine aI (k:=0) (us:=nU {s with k:=true}) (c':=l7 ((bH s l (ops.take i)).set o.toNat {s with k:=true})) gH J J J J J J (by rw [tj,c9,hl,show(nU {s with k:=true}).length=7 from J,Nat.ble_eq];omega) (by rw [show(0:Nat)+o.toNat*7=o.toNat*7 by omega];exact zb _ _ {s with k:=true} (by rw [c9,hl];omega)) ?_;refine ai (aa (aj (am J J (aX (by first|exact aU (by omega) (by omega)|rfl))) J (aj (ac J) J (ai ?_))));refine aL (i+1) ⟨by omega,by omega⟩ J (by rw [bM hx,kI];rfl) J
 ·(try simp only [aV]at h1)
  have hi:i=ops.length:=by omega
  subst hi;refine bn (bO () trivial J eW J [0] [] J (by rw [List.take_length];rfl) J)
theorem uS:
  Spec Tryz.prog 171 [] [] [] (X:=Unit) (fun _=>True) (fun _=> .agg (l7 shL).toArray) (fun _=> []) (fun _=> []):=by
 refine aF Tryz.func171 J Tryz.ntmps171 J fun w0 M H=>ae (aa (aT xg (c:=l7 (List.replicate 64 nj)) (by kernel_rfl) J fun b0=>ai (ae (aa (aT xg (c:=l7 (List.replicate 64 nj)) (by kernel_rfl) J fun b1=>ai (ae (aa (aj (d5 (first:= []) (cap:= [.tmp 1]) J J) J (aj (ag J) J (ai ?_))))))))))
 refine ae (ae (aa (aj (ag J) J (ai (aB (bk (X:=Nat) (fun i=>i≤12) (fun i=> [(0,.pointer (some ⟨b0,0,none⟩)),(1,.pointer (some ⟨b1,0,none⟩)),(2,.func (.func 191) #[] #[.pointer (some ⟨b1,0,none⟩)]),(3,.int .i64 ((1+i:Nat):Int))]) (fun i=> [(0,aY b0 253 (l7 (List.replicate 64 nj))),(1,aY b1 253 (l7 (bH xm (List.replicate 64 nj) (mQ 1 i))))]) (fun i=> []) (fun i=>12-i) 0 (Nat.zero_le _) J J J (fun i n1=>ae (ae (aa (aj (ac J) J (aj (am J J jj) J (ai (ar J (fun h1=> ?_) (fun h1=> ?_))))))))))))))
 ·(try simp only [aV]at h1)
  have hi:i<12:=by omega
  refine az (ae (aB (aa (aj (ac J) J (aj (aP (parts:= [(1,.const (.bool Bool.true)),(2,.const (.bool Bool.true)),(3,.const (.bool Bool.true))]) gH jQ J J) J (aj (ac J) J (bq eI ((1+i:Nat):Int) Tryz.underlying22 t3 J (by decide) (by decide) J J J J fun v13=>bW 13 9 J br (au (xs:= [.tmp 11,.tmp 13]) (dG b1 xm v13 [((1+i:Nat):Int)] (bH xm (List.replicate 64 nj) (mQ 1 i)) (by intro o ho;rw [List.mem_singleton.1 ho];omega) (by simp only [c9,List.length_replicate]) (by simp)) kD [1] [(false,9)] [1] J J J J J J J J (fun _ _=>J) (fun _ _ _=>J) J (fun _ _=>ai (aa (aj (ac J) J (aj (am J J (aX (c:=((1+(i+1):Nat):Int)) (by rw [aU (by omega) (by omega)];omega))) J ?_))))))))))));refine aj (ag J) J (ai ?_);refine aL (i+1) ⟨by omega,by omega⟩ J (by rw [vP 1 i,kI];rfl) J
 ·(try simp only [aV]at h1)
  have hi:i=12:=by omega
  subst hi;refine bn (ae (ae (aa (aj (ag J) J (ai (aB (bk (X:=Nat) (fun i=>i≤12) (fun i=> [(0,.pointer (some ⟨b0,0,none⟩)),(1,.pointer (some ⟨b1,0,none⟩)),(2,.func (.func 191) #[] #[.pointer (some ⟨b1,0,none⟩)]),(4,.int .i64 ((16+i:Nat):Int))]) (fun i=> [(0,aY b0 253 (l7 (List.replicate 64 nj))),(1,aY b1 253 (l7 (bH rf (bH xm (List.replicate 64 nj) (mQ 1 12)) (mQ 16 i))))]) (fun i=> []) (fun i=>12-i) 0 (Nat.zero_le _) J J J (fun i n1=>ae (ae (aa (aj (ac J) J (aj (am J J jj) J (ai ?_)))))))))))));refine ar J (fun h2=> ?_) (fun h2=> ?_)
  ·(try simp only [aV]at h2)
   have hi:i<12:=by omega
   refine az (ae (aB (aa (aj (ac J) J (aj (aP (parts:= [(1,.const (.bool Bool.true)),(2,.const (.bool Bool.true)),(4,.const (.int .i64 1)),(5,.const (.int .i64 18))]) gH jQ J J) J (aj (ac J) J (bq eI ((16+i:Nat):Int) Tryz.underlying22 t3 J (by decide) (by decide) J J J J fun v22=>bW 22 9 J br (au (xs:= [.tmp 20,.tmp 22]) (dG b1 rf v22 [((16+i:Nat):Int)] (bH rf (bH xm (List.replicate 64 nj) (mQ 1 12)) (mQ 16 i)) (by intro o ho;rw [List.mem_singleton.1 ho];omega) (by simp only [c9,List.length_replicate]) (by simp)) kD [1] [(false,9)] [1] J J J J J J J J (fun _ _=>J) (fun _ _ _=>J) J (fun _ _=>ai (aa (aj (ac J) J (aj (am J J (aX (c:=((16+(i+1):Nat):Int)) (by rw [aU (by omega) (by omega)];omega))) J ?_))))))))))));refine aj (ag J) J (ai ?_);refine aL (i+1) ⟨by omega,by omega⟩ J (by rw [vP 16 i,kI];rfl) J
  ·(try simp only [aV]at h2)
   have hi:i=12:=by omega
   subst hi;refine bn (ae (aa (aj (ac J) J (aj (aP (parts:= [(1,.const (.bool Bool.true)),(2,.const (.bool Bool.true)),(4,.const (.int .i64 2)),(5,.const (.int .i64 18))]) gH jQ J J) J (cu eI [17,18,19] (parts:= [(0,.const (.int .i64 17)),(1,.const (.int .i64 18)),(2,.const (.int .i64 19))]) Tryz.underlying22 t3 J (by decide) (by intro _;rfl) J (by decide) (by decide) J J J J fun v26=>bW 26 9 J br (au (xs:= [.tmp 25,.tmp 26]) (dG b1 Fd v26 [17,18,19] (bH rf (bH xm (List.replicate 64 nj) (mQ 1 12)) (mQ 16 12)) (by decide) (by simp only [c9,List.length_replicate]) (by decide)) kD [1] [(false,9)] [1] J J J J J J J J (fun _ _=>J) (fun _ _ _=>J) J (fun _ _=>ai (ae (aa (aj (ac J) J (aj (aP (parts:= [(1,.const (.bool Bool.true)),(2,.const (.bool Bool.true)),(4,.const (.int .i64 1)),(5,.const (.int .i64 18))]) gH jQ J J) J (cu eI [32,33,34,35,36,37] (parts:= [(0,.const (.int .i64 32)),(1,.const (.int .i64 33)),(2,.const (.int .i64 34)),(3,.const (.int .i64 35)),(4,.const (.int .i64 36)),(5,.const (.int .i64 37))]) Tryz.underlying22 t3 J (by decide) (by intro _;rfl) J (by decide) (by decide) J J J J fun v30=> ?_))))))))))))
   refine bW 30 9 J br (au (xs:= [.tmp 29,.tmp 30]) (dG b1 rf v30 [32,33,34,35,36,37] (bH Fd (bH rf (bH xm (List.replicate 64 nj) (mQ 1 12)) (mQ 16 12)) [17,18,19]) (by decide) (by simp only [c9,List.length_replicate]) (by decide)) kD [1] [(false,9)] [1] J J J J J J J J (fun _ _=>J) (fun _ _ _=>J) J (fun _ _=>ai (ae (aa (aj (ac J) J (aj (aP (parts:= [(1,.const (.bool Bool.true)),(4,.const (.int .i64 1)),(5,.const (.int .i64 22))]) gH jQ J J) J (bq eI 40 Tryz.underlying22 t3 J (by decide) (by decide) J J J J fun v34=>bW 34 9 J br (au (xs:= [.tmp 33,.tmp 34]) (dG b1 ⟨false,true,false,false,1,22,0⟩ v34 [40] (bH rf (bH Fd (bH rf (bH xm (List.replicate 64 nj) (mQ 1 12)) (mQ 16 12)) [17,18,19]) [32,33,34,35,36,37]) (by decide) (by simp only [c9,List.length_replicate]) (by decide)) kD [1] [(false,9)] [1] J J J J J J J J (fun _ _=>J) (fun _ _ _=>J) J (fun _ _=>ai (ae (aa (aj (ac J) J ?_))))))))))))
   refine aj (aP (parts:= [(1,.const (.bool Bool.true)),(4,.const (.int .i64 2)),(5,.const (.int .i64 22))]) gH jQ J J) J (bq eI 41 Tryz.underlying22 t3 J (by decide) (by decide) J J J J fun v38=>bW 38 9 J br (au (xs:= [.tmp 37,.tmp 38]) (dG b1 ⟨false,true,false,false,2,22,0⟩ v38 [41] (bH ⟨false,true,false,false,1,22,0⟩ (bH rf (bH Fd (bH rf (bH xm (List.replicate 64 nj) (mQ 1 12)) (mQ 16 12)) [17,18,19]) [32,33,34,35,36,37]) [40]) (by decide) (by simp only [c9,List.length_replicate]) (by decide)) kD [1] [(false,9)] [1] J J J J J J J J (fun _ _=>J) (fun _ _ _=>J) J (fun _ _=>ai (ae (aa (aj (ac J) J (aj (aP (parts:= [(4,.const (.int .i64 2)),(5,.const (.int .i64 18))]) gH jQ J J) J (bq eI 48 Tryz.underlying22 t3 J (by decide) (by decide) J J J J fun v42=>bW 42 9 J br (au (xs:= [.tmp 41,.tmp 42]) (dG b1 ⟨false,false,false,false,2,18,0⟩ v42 [48] (bH ⟨false,true,false,false,2,22,0⟩ (bH ⟨false,true,false,false,1,22,0⟩ (bH rf (bH Fd (bH rf (bH xm (List.replicate 64 nj) (mQ 1 12)) (mQ 16 12)) [17,18,19]) [32,33,34,35,36,37]) [40]) [41]) (by decide) (by simp only [c9,List.length_replicate]) (by decide)) kD [1] [(false,9)] [1] J J J J J J J J (fun _ _=>J) (fun _ _ _=>J) J (fun _ _=>ai (ae ?_)))))))))))
   refine aa (aj (ac J) J (aj (aP (parts:= []) gH jQ J J) J (cu eI [49,50,51] (parts:= [(0,.const (.int .i64 49)),(1,.const (.int .i64 50)),(2,.const (.int .i64 51))]) Tryz.underlying22 t3 J (by decide) (by intro _;rfl) J (by decide) (by decide) J J J J fun v46=>bW 46 9 J br (au (xs:= [.tmp 45,.tmp 46]) (dG b1 nj v46 [49,50,51] (bH ⟨false,false,false,false,2,18,0⟩ (bH ⟨false,true,false,false,2,22,0⟩ (bH ⟨false,true,false,false,1,22,0⟩ (bH rf (bH Fd (bH rf (bH xm (List.replicate 64 nj) (mQ 1 12)) (mQ 16 12)) [17,18,19]) [32,33,34,35,36,37]) [40]) [41]) [48]) (by decide) (by simp only [c9,List.length_replicate]) (by decide)) kD [1] [(false,9)] [1] J J J J J J J J (fun _ _=>J) (fun _ _ _=>J) J (fun _ _=>ai (ae (aa (aj (ac J) J (aj (aP (parts:= [(2,.const (.bool Bool.true))]) gH jQ J J) J (bq eI 52 Tryz.underlying22 t3 J (by decide) (by decide) J J J J fun v50=>bW 50 9 J br (au (xs:= [.tmp 49,.tmp 50]) (dG b1 ⟨false,false,true,false,0,0,0⟩ v50 [52] (bH nj (bH ⟨false,false,false,false,2,18,0⟩ (bH ⟨false,true,false,false,2,22,0⟩ (bH ⟨false,true,false,false,1,22,0⟩ (bH rf (bH Fd (bH rf (bH xm (List.replicate 64 nj) (mQ 1 12)) (mQ 16 12)) [17,18,19]) [32,33,34,35,36,37]) [40]) [41]) [48]) [49,50,51]) (by decide) (by simp only [c9,List.length_replicate]) (by decide)) kD [1] [(false,9)] [1] J J J J J J J J (fun _ _=>J) (fun _ _ _=>J) J (fun _ _=> ?_))))))))))))
   refine ai (ae (aa (aj (ac J) J (aj (aP (parts:= [(1,.const (.bool Bool.true)),(4,.const (.int .i64 2)),(5,.const (.int .i64 18)),(6,.const (.int .u32 3))]) gH jQ J J) J (bq eI 53 Tryz.underlying22 t3 J (by decide) (by decide) J J J J fun v54=>bW 54 9 J br (au (xs:= [.tmp 53,.tmp 54]) (dG b1 ⟨false,true,false,false,2,18,3⟩ v54 [53] (bH ⟨false,false,true,false,0,0,0⟩ (bH nj (bH ⟨false,false,false,false,2,18,0⟩ (bH ⟨false,true,false,false,2,22,0⟩ (bH ⟨false,true,false,false,1,22,0⟩ (bH rf (bH Fd (bH rf (bH xm (List.replicate 64 nj) (mQ 1 12)) (mQ 16 12)) [17,18,19]) [32,33,34,35,36,37]) [40]) [41]) [48]) [49,50,51]) [52]) (by decide) (by simp only [c9,List.length_replicate]) (by decide)) kD [1] [(false,9)] [1] J J J J J J J J (fun _ _=>J) (fun _ _ _=>J) J (fun _ _=>ai (ae (aa (aj (ac J) J (aj (aP (parts:= [(2,.const (.bool Bool.true)),(4,.const (.int .i64 2)),(5,.const (.int .i64 18)),(6,.const (.int .u32 4))]) gH jQ J J) J (bq eI 54 Tryz.underlying22 t3 J (by decide) (by decide) J J J J fun v58=> ?_))))))))))));refine bW 58 9 J br (au (xs:= [.tmp 57,.tmp 58]) (dG b1 ⟨false,false,true,false,2,18,4⟩ v58 [54] (bH ⟨false,true,false,false,2,18,3⟩ (bH ⟨false,false,true,false,0,0,0⟩ (bH nj (bH ⟨false,false,false,false,2,18,0⟩ (bH ⟨false,true,false,false,2,22,0⟩ (bH ⟨false,true,false,false,1,22,0⟩ (bH rf (bH Fd (bH rf (bH xm (List.replicate 64 nj) (mQ 1 12)) (mQ 16 12)) [17,18,19]) [32,33,34,35,36,37]) [40]) [41]) [48]) [49,50,51]) [52]) [53]) (by decide) (by simp only [c9,List.length_replicate]) (by decide)) kD [1] [(false,9)] [1] J J J J J J J J (fun _ _=>J) (fun _ _ _=>J) J (fun _ _=>ai (ae (aa (aj (aJ xg J J (by rw [tj];simp only [c9,List.length_replicate]) (aR (k:=1) J)) J (aI (k:=0) (us:=l7 shL) (c':=l7 shL) xg J J (by kernel_rfl) (by kernel_rfl) (by kernel_rfl) J (by kernel_rfl) (by kernel_rfl) (ai (aw (aG () trivial J (bx (aW xg J J (by kernel_rfl) (aR (k:=0) J))) J [] [] J J J)))))))))
theorem r_(op:Int):
  Spec Tryz.prog 132 [.int .i64 op] [] [] (X:=Unit) (fun _=>True) (fun _=> .agg (nU (cw op)).toArray) (fun _=> []) (fun _=> []):=by
 refine aF Tryz.func132 J Tryz.ntmps132 J fun w0 M H=>ae (aa (aT gH J J fun b2=>ai (ae (aa (au (xs:= []) uS N3 [] [] [] J J J J J J J J (fun _ _=>J) (fun _ _ _=>J) J (fun _ _=>aT xg (c:=l7 (List.replicate 64 nj)) (by kernel_rfl) J fun b3=>aI (k:=3) (us:=l7 shL) (c':=l7 shL) xg J J (by kernel_rfl) (by kernel_rfl) (by kernel_rfl) J (by kernel_rfl) (by kernel_rfl) (ai (ae (ae (aa ?_))))))))))
 refine aj (ac J) J (aj (am J J b_) J (aj (ac J) J (aA [] J J trivial (fun hg1=>ac J) J (aA [(8,_)] J J ⟨J,trivial⟩ (fun hg2=>am J J eV) J (aj (aM J J J (by first|exact ax|exact aC|rfl)) J (ai (ar J (fun h3=> ?_) (fun h3=> ?_))))))))
 ·(try simp only [aV]at h3)
  have hg:cw op=nj:=if_neg (by omega);rw [hg];refine ae (aa (aj (aP (parts:= []) gH jQ J J) J (av (k:=2) gH J J J J J J (ai (aw (aG () trivial J (bx (aW gH J J J (aR (k:=2) J))) J [] [] J J J))))))
 ·(try simp only [aV]at h3)
  have hn:0≤op∧op<64:=by omega
  have hg:shL[op.toNat]?=some (cw op):=by
   have hl:shL.length=64:=by decide
   unfold cw;rw [if_pos hn,List.getD_eq_getElem?_getD,List.getElem?_eq_getElem (by omega)];rfl
  refine az (ae (aa (aj (ac J) J (aj (cG (j:=op.toNat) Tryz.underlying253 gH J J (by omega) (by omega)) J ?_))));refine aj (aJ gH J J J (jd (us:=nU (cw op)) (k:=3) J (by rw [show(0:Nat)+op.toNat*7=op.toNat*7 by omega,show(nU (cw op)).length=7 from rfl];exact zc shL _ _ hg))) J ?_;refine av (k:=2) gH J J J J J J (ai (aw (aG () trivial J (bx (aW gH J J J (aR (k:=2) J))) J [] [] J J J)))
theorem nS(n:Int)(u:Bool):
  Spec Tryz.prog 169 [.int .i64 n,.bool u] [] [] (X:=Unit) (fun _=>True) (fun _=> .bool (fc n u)) (fun _=> []) (fun _=> []):=by
 refine aF Tryz.func169 J Tryz.ntmps169 J fun w0 M H=>ae (aa (aj (ag J) J (ai (ae (aa (aj (ac J) J (aj (am J J aS) J (aj (ac J) J (aA [] J J trivial (fun hg1=>ac J) J (aA [(8,_)] J J ⟨J,trivial⟩ (fun hg2=>ac J) J (ch [] [(8,_),(9,_)] J J trivial ⟨J,J,trivial⟩ (fun hg3 hg3'=>ac J) J (ch [(10,_)] [(8,_),(9,_)] J J ⟨J,trivial⟩ ⟨J,J,trivial⟩ (fun hg4 hg4'=>am J J dL) J ?_))))))))))))
 refine aA [(8,_),(9,_)] J J ⟨J,J,trivial⟩ (fun hg5=>aM J J J (by first|exact ax|exact aC|exact co hg5|exact cO hg5|rfl)) J (aA [(8,_),(9,_),(12,_)] J J ⟨J,J,J,trivial⟩ (fun hg6=>ac J) J (ch [] [(8,_),(9,_),(12,_),(13,_)] J J trivial ⟨J,J,J,J,trivial⟩ (fun hg7 hg7'=>ac J) J (ch [(14,_)] [(8,_),(9,_),(12,_),(13,_)] J J ⟨J,trivial⟩ ⟨J,J,J,J,trivial⟩ (fun hg8 hg8'=>am J J b_) J (aA [(8,_),(9,_),(12,_),(13,_)] J J ⟨J,J,J,J,trivial⟩ (fun hg9=>aM J J J (by first|exact ax|exact aC|exact co hg9|exact cO hg9|rfl)) J (aj (aM J J J (by first|exact ax|exact aC|rfl)) J (aj (ag J) J (ai (aw (aG () trivial J (bx (aH J)) J [] [] J J J)))))))))
theorem Bx(s:Sh)(n:Int)(hn:0≤n∧n<4294967296)(hs:s.kd=1→s.bt=18∨s.bt=22)(hb:0≤s.bt∧s.bt<32):
  Spec Tryz.prog 170 [.agg (nU s).toArray,.int .u32 n] [] [] (X:=Unit) (fun _=>True) (fun _=> .bool (jz s n)) (fun _=> []) (fun _=> []):=by
 refine aF Tryz.func170 J Tryz.ntmps170 J fun w0 M H=>ae (aa (bN J J fun b2=>aj (ag J) J (ai (ae (aB (ae (aa (aj (ah Ag J) J (aj (ak t3 J J (ap (k:=2) J J)) J (aj (am J J aS) J (aj (ag J) J ?_)))))))))))
 refine ai (ar J (fun h1=> ?_) (fun h1=> ?_))
 ·(try simp only [aV]at h1)
  have k0:s.kd=0:=h1;refine ae (aa (aj (ac J) J (aj (am J J aS) J (aj (ag J) J (ai (aw (aG () trivial J (bx (aH J)) (by unfold jz;rw [if_pos k0]) [] [] J J J)))))))
 ·(try simp only [aV]at h1)
  have k0:¬s.kd=0:=h1;refine ae (aa (aj (ah Ag J) J (aj (ak t3 J J (ap (k:=2) J J)) J (aj (am J J aS) J (aj (ag J) J (ai (ar J (fun h2=> ?_) (fun h2=> ?_))))))))
  ·(try simp only [aV]at h2)
   have k1:s.kd=1:=h2;refine ae (aa (aj (ac J) J (aj (ah Af J) J (aj (ak t3 J J (ap (k:=2) J J)) J (au (xs:= [.tmp 15,.tmp 17]) (sJ n s.bt hn (hs k1)) IR [] [] [] J J J J J J J J (fun _ _=>J) (fun _ _ _=>J) J (fun _ _=>aj (ag J) J (ai (aw (aG () trivial J (bx (aH J)) (by unfold jz;rw [if_neg k0,if_pos k1]) [] [] J J J)))))))))
  ·(try simp only [aV]at h2)
   have k1:¬s.kd=1:=h2;refine ae (aa (aj (ah Ae J) J (aj (ak cr J J (ap (k:=2) J J)) J (aj (am J J dL) J (aj (ag J) J (ai (ar J (fun h3=> ?_) (fun h3=> ?_))))))))
   ·(try simp only [aV]at h3)
    have k2:s.mo>0:=h3;refine ae (aa (aj (ac J) J (aj (ah Ae J) J (aj (ak cr J J (ap (k:=2) J J)) J (aj (am J J jj) J (aj (ag J) J (ai (aw (aG () trivial J (bx (aH J)) (by unfold jz;rw [if_neg k0,if_neg k1,if_pos k2]) [] [] J J J)))))))))
   ·(try simp only [aV]at h3)
    have k2:¬s.mo>0:=by omega
    refine az (ae (aa (aj (ac J) J (aj (ah Af J) J (aj (ak t3 J J (ap (k:=2) J J)) J (aj (am J J (m_ (by omega) (by first|decide|(simp [IntKind.bits];omega)) J)) J (aj (am J J aS) J (aj (ag J) J (ai (aw (aG () trivial J (bx (aH J)) (by unfold jz;rw [if_neg k0,if_neg k1,if_neg k2]) [] [] J J J)))))))))))
section
variable{P:Program}{N:Nat}{w0:World}{M H:Nat→Prop}{E:el}{Γ R:dQ}{ops:Array Oper}{Q:Act→World→Prop}{rest:List Oper}{T:TypeId}{ps:String}{af:Array Edge}{d:Nat}
theorem MM{S D t:TypeId}{Dt:TypeDesc}{z:Value}{s bb:Nat}{x:Operand}{b k:Nat}{T0:TypeId}{c:List Value}(hS:P.underlying S=some (.pointer t))(hD:P.underlying D=some .unsafePointer)(ht:TI P t Dt z s bb)(hs:s≠0)(hx:ev E x=some (.pointer (some ⟨b,0,none⟩)))(hk:bL Γ k=some (aY b T0 c))(hc:0<c.length):
  PR P N w0 M H E Γ R (.convert S D x) (.pointer (some ⟨b,0,none⟩)):=fun _ _ _ a w hE hC _ _=>by
 obtain⟨G,⟨_,h2⟩,_⟩:=hC.reads (.inl hk);obtain⟨i,i1,i2,i3,i4⟩:=ht.info;have hsh:w.shape? b=some (T0,c.length):=by simp [World.shape?,h2]
 have:=Go.Lib.run_to_unsafe (P:=P) w ⟨b,0,none⟩ hS hD i1 (by rw [i3];exact hs) hsh hc;simp [execOp,hE.ev hx,this]
theorem Gk{S D t:TypeId}{Dt:TypeDesc}{z:Value}{s bb:Nat}{x:Operand}{b k:Nat}{T0:TypeId}{c:List Value}(hS:P.underlying S=some .unsafePointer)(hD:P.underlying D=some (.pointer t))(ht:TI P t Dt z s bb)(hx:ev E x=some (.pointer (some ⟨b,0,none⟩)))(hk:bL Γ k=some (aY b T0 c))(hl:liesAt P P.depth T0 (c.length/P.cellsOf T0) 0 t 1=true):
  PR P N w0 M H E Γ R (.convert S D x) (.pointer (some ⟨b,0,none⟩)):=fun _ _ _ a w hE hC _ _=>by
 obtain⟨G,⟨_,h2⟩,_⟩:=hC.reads (.inl hk);obtain⟨i,i1,i2,i3,i4⟩:=ht.info;have hsh:w.shape? b=some (T0,c.length):=by simp [World.shape?,h2]
 have:=Go.Lib.run_from_unsafe (P:=P) w ⟨b,0,none⟩ hS hD i1 hsh hl;simp [execOp,hE.ev hx,this]
theorem Gi{n:Nat}{x:Operand}{v:Value}{at_:Array TypeId}{fn:Func}(hf:P.funcs[n]?=some fn)(hname:(fn.name== "runtime.NumGoroutine")=false)(hb:fn.body.isNone=true)(hn:Extern.findNext fn=none)(he:Extern.find fn=some Extern.AbiNoEscape.same)(hx:ev E x=some v):
  PR P N w0 M H E Γ R (.call {callee:= .value (.func n),args:= #[x],argTypes:=at_}) v:=fun _ _ _ a w hE _ _ _=>by
 have h:=run_callFunc_extern hf hname hb hn he #[v] w;rw [Go.Lib.run_noEscape]at h;have e:a.eval (.func n)= .func (.func n) #[] #[]:=J;simp [execOp,resolve,Deferred.ofValue,invoke,hE.ev hx,e,h,Result.andThen]
theorem Gj{S t:TypeId}{Dt:TypeDesc}{z:Value}{s bb:Nat}{x y:Operand}{a1:Addr}(hS:P.underlying S=some (.pointer t))(ht:TI P t Dt z s bb)(hx:ev E x=some (.pointer (some a1)))(hy:ev E y=some (.pointer (some a1))):
  PR P N w0 M H E Γ R (.binOp .neq S x y S) (.bool false):=fun _ _ _ a w hE _ _ _=>by
 obtain⟨i,i1,i2,i3,i4⟩:=ht.info;have:=Go.Lib.run_neq_ptr_same (P:=P) w a1 hS i1;simp [execOp,hE.ev hx,hE.ev hy,Sem.run_bind,eqGuard,this]
theorem vB{U:TypeId}{k:Nat}{v:SV}{l:List Int}(hk:bL Γ k=some (own U 1 bQ (sv v) l))(hl:l≠ []){w:World}(hC:COk w0 M H Γ R w):
  ∃g cap,sv v= .slice (some ⟨g,0,none⟩) l.length cap∧l.length≤cap∧l.length≤maxLen∧∃cur,w.heap[g]?=some (.cells cur U (0,0))∧cap≤cur.size∧∀(j:Nat)(x:Int),l[j]?=some x→cur[j]?=some (Value.int .u8 x):=by
 obtain⟨G,⟨h1,h2⟩,h3⟩:=hC.reads (.inl hk);have hfl:l.flatMap bQ=l.map (Value.int .u8):=by
  clear hl hk h1 h2
  induction l with
  | nil=>rfl
  | cons y ys ih=>simp [bQ,ih]
 rw [hfl]at h2;rcases h2.2 with⟨_,hn⟩|⟨g,cap,cur,hv,hbg,hg,hnc,hcm,hcs,htake⟩
 ·exact absurd (List.eq_nil_of_length_eq_zero hn) hl
 ·refine⟨g,cap,hv,hnc,by omega,cur,hg,by omega,fun j x hj=> ?_⟩;have hjl:=(List.getElem?_eq_some_iff.1 hj).1;rw [Nat.mul_one]at htake;have:(cur.toList.take l.length)[j]?=some (.int .u8 x):=by rw [htake,List.getElem?_map,hj];rfl
  rw [List.getElem?_take,if_pos hjl]at this;simpa using this
theorem ML{S U:TypeId}{x:Operand}{k:Nat}{v:SV}{l:List Int}(hx:ev E x=some (sv v))(hk:bL Γ k=some (own U 1 bQ (sv v) l))(hl:l≠ []):
  PR P N w0 M H E Γ R (.call {callee:= .builtin .unsafeSliceData,args:= #[x],argTypes:= #[S]}) (.pointer (some ⟨ig (sv v),0,none⟩)):=fun T1 _ _ a w hE hC _ _=>by
 obtain⟨g,cap,hv,h1,h2,cur,h3,h4,h5⟩:=vB hk hl hC;have hpos:0<l.length:=by cases l with|nil=>exact absurd J hl|cons _ _=>simp
 have h:=Go.Lib.run_unsafeSliceData_row (P:=P) w #[S] T1 ⟨g,0,none⟩ l.length cap (by omega);have e:ig (sv v)=g:=by rw [hv];rfl
 rw [e];rw [hv]at hx;simp [execOp,resolve,invoke,builtin,hE.ev hx,h]
theorem Gz{pt it e:TypeId}{x y:Operand}{k:Nat}{v:SV}{l:List Int}(hp:P.underlying pt=some (.pointer e))(hc:P.cellsOf e=1)(hx:ev E x=some (.pointer (some ⟨ig (sv v),0,none⟩)))(hy:ev E y=some (.int .i64 (l.length:Int)))(hk:bL Γ k=some (own e 1 bQ (sv v) l))(hl:l≠ [])(hb:∀n∈l,0≤n∧n<256):
  MS P N w0 M H E Γ R ⟨some d,.call {callee:= .builtin .unsafeString,args:= #[x,y],argTypes:= #[pt,it]},T,ps,af,none⟩ (X:=Unit) (fun _=>True) (fun _=> .string (jY l)) (fun _=>(k,Hw)::Γ) (fun _=>R):=by
 refine gI fun a w hE hC=> ?_
 obtain⟨g,cap,hv,h1,h2,cur,h3,h4,h5⟩:=vB hk hl hC;have e1:ig (sv v)=g:=by rw [hv];rfl
 rw [e1]at hx;obtain⟨l',hl'⟩:∃l':List UInt8,l'=l.map fun n=>UInt8.ofNat n.toNat:=⟨_,J⟩
 have hlen:l'.length=l.length:=by rw [hl',List.length_map]
 have hof:(⟨l'.toArray⟩:ByteArray)=jY l:=by
  have:∀(l:List Int)(r:ByteArray),l.foldl (fun r n=>r.push (UInt8.ofNat n.toNat)) r=⟨r.data++(l.map fun n=>UInt8.ofNat n.toNat).toArray⟩:=by
   intro l
   induction l with
   | nil=>intro r;simp
   | cons n l ih=>
    intro r;rw [List.foldl_cons,ih];simp [ByteArray.push]
  have h:=this l ByteArray.empty;rw [hl'];unfold jY;rw [h];simp
 have hrun:=Go.Lib.run_unsafeString_row (P:=P) w pt it T e hp hc g cur.size (by simp [World.shape?,h3]) l' (by rw [hl'];simpa using hl) (by omega) (by unfold maxLen at h2;omega) (fun j x hj=>by
  rw [hl',List.getElem?_map]at hj;cases hlj:l[j]? with
  | none=>rw [hlj]at hj;cases hj
  | some n=>
   rw [hlj]at hj;cases hj;have hn:=hb n (List.mem_of_getElem? hlj);have hcell:=h5 j n hlj;have:((UInt8.ofNat n.toNat).toNat:Int)=n:=by
    rw [UInt8.toNat_ofNat'];omega
   rw [this];have e2:((⟨g,0,none⟩:Addr).add j)=⟨g,j,none⟩:=by
    unfold Addr.add;split
    ·subst_vars;rfl
    ·simp
   rw [e2];simp [World.cell?,h3,hcell])
 rw [hof,hlen]at hrun;refine⟨(),w.freeze ⟨g,0,none⟩ l.length,trivial,?_,?_⟩
 ·simp [execOp,resolve,invoke,builtin,hE.ev hx,hE.ev hy,hrun]
 ·refine hC.upd hk fun G hG hGlt=>⟨fun _=>False,fun b hb=>hb,fun b hb=>hb.elim,?_⟩
  have hGg:G g:=(hG.1 g).2 (by rw [hv];rfl);unfold World.freeze;split
  ·exact Touch.refl _ _
  ·exact⟨J,J,J,by simp,fun b hb hn=>by
    have:g≠b:=fun e=>hn (e▸hGg)
    simp [Array.getElem?_modify,this]⟩
end
theorem JC:∀s∈shL,(s.kd=1→s.bt=18∨s.bt=22)∧0≤s.bt∧s.bt<32∧(s.bt=0∨s.bt=18∨s.bt=22)∧(s.bt=18→s.b=false)∧(s.bt=22→s.a=false∧s.b=false):=by decide
theorem io(op:Int):((cw op).kd=1→(cw op).bt=18∨(cw op).bt=22)∧0≤(cw op).bt∧(cw op).bt<32∧((cw op).bt=0∨(cw op).bt=18∨(cw op).bt=22)∧((cw op).bt=18→(cw op).b=false)∧((cw op).bt=22→(cw op).a=false∧(cw op).b=false):=by
 unfold cw;split
 ·rename_i h;have hl:shL.length=64:=by decide
  rw [List.getD_eq_getElem?_getD,List.getElem?_eq_getElem (by omega)];exact JC _ (List.getElem_mem _)
 ·decide
theorem MV{op:Int}(h:(cw op).k=true):0≤op∧op<64:=by
 unfold cw at h;by_cases hc:0≤op∧op<64
 ·exact hc
 ·rw [if_neg hc]at h;cases h
theorem uh{n:Int}{u:Bool}(h:fc n u=true):0≤n∧n<16:=by
 unfold fc at h;simp only [Bool.or_eq_true,Bool.and_eq_true,decide_eq_true_eq]at h;omega
theorem te{i:Qi}(h:oy i=true):(0≤i.op∧i.op<64)∧(0≤i.d∧i.d<16)∧(0≤i.a∧i.a<16)∧(0≤i.b∧i.b<16):=by
 unfold oy at h;simp only [Bool.and_eq_true]at h;obtain⟨⟨⟨⟨h1,h2⟩,h3⟩,h4⟩,h5⟩:=h;exact⟨MV h1,uh h2,uh h3,uh h4⟩
def lC(i:Qi):Int:=i.op*67108864+i.d*4194304+i.a*262144+i.b*16384+i.imm%2^(cw i.op).bt.toNat
def rV(i:Qi):Int:=if oy i=true then lC i else 0
theorem LE{x y:Int}(k:Nat)(hx:0≤x∧x<4294967296)(hx2:x%((2^k:Nat):Int)=0)(hy:0≤y∧y<((2^k:Nat):Int))(hy2:y<4294967296):bits .or .u32 x y=x+y:=by
 obtain⟨a,rfl⟩:=Int.eq_ofNat_of_zero_le hx.1;obtain⟨b,rfl⟩:=Int.eq_ofNat_of_zero_le hy.1;rw [u32_or _ _ hx.1 hx.2 hy.1 hy2];simp only [Int.toNat_natCast];rw [nat_join k a b (by exact_mod_cast hx2) (by exact_mod_cast hy.2)];omega
theorem eA{n:Int}(h:fc n false=true):n=0:=by
 unfold fc at h;simp only [Bool.or_eq_true,Bool.and_eq_true,decide_eq_true_eq,Bool.false_and]at h;simpa using h
theorem No{i:Qi}(h:oy i=true)(hi:0≤i.imm∧i.imm<4294967296):
  bits .or .u32 (bits .or .u32 (bits .or .u32 (bits .or .u32 (IntKind.u32.wrap (i.op*2^(26:Int).toNat)) (IntKind.u32.wrap (i.d*2^(22:Int).toNat))) (IntKind.u32.wrap (i.a*2^(18:Int).toNat))) (IntKind.u32.wrap (i.b*2^(14:Int).toNat))) (bits .and .u32 i.imm (IntKind.u32.wrap (IntKind.u32.wrap (1*2^(cw i.op).bt.toNat)-1)))=lC i:=by
 obtain⟨b1,b2,b3,b4⟩:=te h;unfold oy at h;simp only [Bool.and_eq_true]at h;obtain⟨⟨⟨⟨h1,h2⟩,h3⟩,h4⟩,h5⟩:=h;obtain⟨_,_,_,k1,k2,k3⟩:=io i.op;rw [show((2:Int)^(26:Int).toNat)=67108864 from J,show((2:Int)^(22:Int).toNat)=4194304 from J,show((2:Int)^(18:Int).toNat)=262144 from J,show((2:Int)^(14:Int).toNat)=16384 from J];rw [bC (n:=i.op*67108864) (by omega) (by omega),bC (n:=i.d*4194304) (by omega) (by omega),bC (n:=i.a*262144) (by omega) (by omega),bC (n:=i.b*16384) (by omega) (by omega)];rw [LE (x:=i.op*67108864) (y:=i.d*4194304) 26 ⟨by omega,by omega⟩ (by omega) ⟨by omega,by omega⟩ (by omega),LE (x:=i.op*67108864+i.d*4194304) (y:=i.a*262144) 22 ⟨by omega,by omega⟩ (by omega) ⟨by omega,by omega⟩ (by omega),LE (x:=i.op*67108864+i.d*4194304+i.a*262144) (y:=i.b*16384) 18 ⟨by omega,by omega⟩ (by omega) ⟨by omega,by omega⟩ (by omega)];unfold lC;rcases k1 with k|k|k
 ·rw [k,show IntKind.u32.wrap (IntKind.u32.wrap (1*2^(0:Int).toNat)-1)=0 from J,show((2:Int)^(0:Int).toNat)=1 from J];have h0:bits .and .u32 i.imm 0=0:=by
   rw [u32_and _ _ hi.1 hi.2 (by omega) (by omega)];simp
  rw [h0,LE 0 ⟨by omega,by omega⟩ (by omega) ⟨by omega,by omega⟩ (by omega)];omega
 ·have hb:i.b=0:=eA (by rw [←k2 k];exact h4);rw [k,show IntKind.u32.wrap (IntKind.u32.wrap (1*2^(18:Int).toNat)-1)=262143 from J,show((2:Int)^(18:Int).toNat)=262144 from J,OM hi,hb];rw [LE 18 ⟨by omega,by omega⟩ (by omega) ⟨by omega,by omega⟩ (by omega)]
 ·have hb:i.b=0:=eA (by rw [←(k3 k).2];exact h4);have ha:i.a=0:=eA (by rw [←(k3 k).1];exact h3);rw [k,show IntKind.u32.wrap (IntKind.u32.wrap (1*2^(22:Int).toNat)-1)=4194303 from J,show((2:Int)^(22:Int).toNat)=4194304 from J,OL hi,hb,ha];rw [LE 22 ⟨by omega,by omega⟩ (by omega) ⟨by omega,by omega⟩ (by omega)]
theorem yr{i:Qi}(h:oy i=true):0≤lC i∧lC i<4294967296:=by
 obtain⟨b1,b2,b3,b4⟩:=te h;unfold oy at h;simp only [Bool.and_eq_true]at h;obtain⟨⟨⟨⟨h1,h2⟩,h3⟩,h4⟩,h5⟩:=h;obtain⟨_,_,_,k1,k2,k3⟩:=io i.op;unfold lC;rcases k1 with k|k|k
 ·rw [k,show((2:Int)^(0:Int).toNat)=1 from J];omega
 ·have hb:i.b=0:=eA (by rw [←k2 k];exact h4);rw [k,show((2:Int)^(18:Int).toNat)=262144 from J];omega
 ·have hb:i.b=0:=eA (by rw [←(k3 k).2];exact h4);have ha:i.a=0:=eA (by rw [←(k3 k).1];exact h3);rw [k,show((2:Int)^(22:Int).toNat)=4194304 from J];omega
theorem KV(i:Qi):0≤rV i∧rV i<4294967296:=by
 unfold rV;split
 ·rename_i h;exact yr h
 ·omega
def ep(n:Int):List Int:= [n%256,n/256%256,n/65536%256,n/16777216%256]
def KS(i:Qi):Int:=if oy i=true then 0 else 12
theorem xd(i:Qi)(hi:0≤i.imm∧i.imm<4294967296):
  Spec Tryz.prog 131 [.agg (gC i).toArray] [] [] (X:=Unit) (fun _=>True) (fun _=> .bool (oy i)) (fun _=> []) (fun _=> []):=by
 refine aF Tryz.func131 J Tryz.ntmps131 J fun w0 M H=>ae (aa (bN J J fun b1=>aj (ag J) J (ai (ae (aa (aj (ah a_ J) J (aj (ak t3 J J (ap (k:=1) J J)) J (au (xs:= [.tmp 5]) (r_ i.op) I6 [] [] [] J J J J J J J J (fun _ _=>J) (fun _ _ _=>J) J (fun _ _=>aT gH J J fun b3=>av (k:=3) gH J J J J J J (ai ?_))))))))))
 refine ae (aa (aj (ah Ah J) J (aj (ak t4 J J (ap (k:=3) J J)) J (aj (ac J) J (aA [] J J trivial (fun hg1=>ah fI J) J (aA [(10,_)] J J ⟨J,trivial⟩ (fun hg2=>ak t3 J J (ap (k:=1) J J)) J (aA [(10,_),(11,_)] J J ⟨J,J,trivial⟩ (fun hg3=>ah Hl J) J (aA [(10,_),(11,_),(12,_)] J J ⟨J,J,J,trivial⟩ (fun hg4=>ak t4 J J (ap (k:=3) J J)) J (gM [(10,_),(11,_),(12,_),(13,_)] J J ⟨J,J,J,J,trivial⟩ (fun hg5=>bh (xs:= [.tmp 11,.tmp 13]) (nS i.d (cw i.op).d) EM [] [] [] J J J J J J J J (fun _ _=>J) (fun _ _ _=>J)) J (aj (aM J J J (by first|exact ax|exact aC|rfl)) J (aj (ac J) J (aA [] J J trivial (fun hg6=>ah kV J) J (aA [(17,_)] J J ⟨J,trivial⟩ (fun hg7=>ak t3 J J (ap (k:=1) J J)) J ?_)))))))))))));refine aA [(17,_),(18,_)] J J ⟨J,J,trivial⟩ (fun hg8=>ah Hk J) J (aA [(17,_),(18,_),(19,_)] J J ⟨J,J,J,trivial⟩ (fun hg9=>ak t4 J J (ap (k:=3) J J)) J (gM [(17,_),(18,_),(19,_),(20,_)] J J ⟨J,J,J,J,trivial⟩ (fun hg10=>bh (xs:= [.tmp 18,.tmp 20]) (nS i.a (cw i.op).a) EM [] [] [] J J J J J J J J (fun _ _=>J) (fun _ _ _=>J)) J (aj (aM J J J (by first|exact ax|exact aC|rfl)) J (aj (ac J) J (aA [] J J trivial (fun hg11=>ah kU J) J (aA [(24,_)] J J ⟨J,trivial⟩ (fun hg12=>ak t3 J J (ap (k:=1) J J)) J (aA [(24,_),(25,_)] J J ⟨J,J,trivial⟩ (fun hg13=>ah Hj J) J (aA [(24,_),(25,_),(26,_)] J J ⟨J,J,J,trivial⟩ (fun hg14=>ak t4 J J (ap (k:=3) J J)) J (gM [(24,_),(25,_),(26,_),(27,_)] J J ⟨J,J,J,J,trivial⟩ (fun hg15=>bh (xs:= [.tmp 25,.tmp 27]) (nS i.b (cw i.op).b) EM [] [] [] J J J J J J J J (fun _ _=>J) (fun _ _ _=>J)) J (aj (aM J J J (by first|exact ax|exact aC|rfl)) J (aj (ac J) J (aA [] J J trivial (fun hg16=>aJ gH J J J (aR (k:=3) J)) J (aA [(31,_)] J J ⟨J,trivial⟩ (fun hg17=>ah da J) J ?_)))))))))))))
 refine aA [(31,_),(32,_)] J J ⟨J,J,trivial⟩ (fun hg18=>ak cr J J (ap (k:=1) J J)) J (gM [(31,_),(32,_),(33,_)] J J ⟨J,J,J,trivial⟩ (fun hg19=>bh (xs:= [.tmp 31,.tmp 33]) (Bx (cw i.op) i.imm hi (io i.op).1 ⟨(io i.op).2.1,(io i.op).2.2.1⟩) N4 [] [] [] J J J J J J J J (fun _ _=>J) (fun _ _ _=>J)) J (aj (aM J J J (by first|exact ax|exact aC|rfl)) J (aj (ag J) J (ai (aw (aG () trivial J (bx (aH J)) J [] [] J J J))))))
theorem wl(i:Qi)(hi:0≤i.imm∧i.imm<4294967296):
  Spec Tryz.prog 98 [.agg (gC i).toArray] [] [] (X:=Unit) (fun _=>True) (fun _=> .tuple #[.int .u32 (rV i),.int .i64 (KS i)]) (fun _=> []) (fun _=> []):=by
 refine aF Tryz.func98 J Tryz.ntmps98 J fun w0 M H=>ae (aa (bN J J fun b1=>aj (ag J) J (aj (ag J) J (ai (ae (ae (aa (aj (aJ ed J J J (aR (k:=1) J)) J (au (xs:= [.tmp 5]) (xd i hi) Oo [] [] [] J J J J J J J J (fun _ _=>J) (fun _ _ _=>J) J (fun _ _=>aj (bZ J) J (ai ?_)))))))))))
 refine ar J (fun h1=> ?_) (fun h1=> ?_)
 ·have hv:oy i=false:=by simpa using h1
  rw [show rV i=0 from if_neg (by rw [hv];simp),show KS i=12 from if_neg (by rw [hv];simp)];refine ae (aa (aj (ag J) J (aj (ag J) J (ai (aw (aG () trivial J (F5 (aH J) (aH J)) J [] [] J J J))))))
 ·have hv:oy i=true:=by simpa using h1
  rw [show rV i=lC i from if_pos hv,show KS i=0 from if_pos hv];obtain⟨b1,b2,b3,b4⟩:=te hv;obtain⟨_,c1,c2,_⟩:=io i.op;refine az (ae (aa (aj (ah a_ J) J (aj (ak t3 J J (ap (k:=1) J J)) J (aj (bP Tryz.underlying3 Tryz.underlying41 J (by first|exact bC (by omega) (by omega)|rfl)) J (aj (am J J (ga (by omega) (by first|decide|(simp [IntKind.bits];omega)) J)) J (aj (ah fI J) J (aj (ak t3 J J (ap (k:=1) J J)) J (aj (bP Tryz.underlying3 Tryz.underlying41 J (by first|exact bC (by omega) (by omega)|rfl)) J (aj (am J J (ga (by omega) (by first|decide|(simp [IntKind.bits];omega)) J)) J (aj (am J J (BV J)) J (aj (ah kV J) J (aj (ak t3 J J (ap (k:=1) J J)) J ?_)))))))))))));refine aj (bP Tryz.underlying3 Tryz.underlying41 J (by first|exact bC (by omega) (by omega)|rfl)) J (aj (am J J (ga (by omega) (by first|decide|(simp [IntKind.bits];omega)) J)) J (aj (am J J (BV J)) J (aj (ah kU J) J (aj (ak t3 J J (ap (k:=1) J J)) J (aj (bP Tryz.underlying3 Tryz.underlying41 J (by first|exact bC (by omega) (by omega)|rfl)) J (aj (am J J (ga (by omega) (by first|decide|(simp [IntKind.bits];omega)) J)) J (aj (am J J (BV J)) J (aj (ag J) J (ai (ae ?_))))))))))
  refine bA [27,28,29,30,31,32,33,34,35,36,37,2,3] _ J (aZ (V:= [(0,27,_),(1,28,_),(2,29,_),(3,30,_),(4,31,_)]) [0,1,2,3,4] 5 [5,4,3] [6,7,8,9,10,11,12] (fun _=> [(6,33,_),(7,34,_),(8,35,_),(9,36,_),(10,37,_),(11,2,_),(12,3,_)]) J J (ad (aD J (ac J)) (ad (aD J (ah da J)) (ad (aD J (ak cr J J (ap (k:=1) J J))) (ad (aD J (ah a_ J)) (ad (aD J (ak t3 J J (ap (k:=1) J J))) ay))))) J J J J J J J J J J J (fun _ _=>J) J (bh (xs:= [.tmp 31]) (r_ i.op) I6 [] [] [] J J J J J J J J (fun _ _=>J) (fun _ _ _=>J)) (fun _ _=>be [6,7,8,9,10,11,12,0,1,2] J J (ad (aD J (mE Ha t3 J J)) (ad (aD J (am J J (ga (by omega) (by first|decide|(simp [IntKind.bits];omega)) J))) (ad (aD J (am J J (fQ (by first|exact bC (by omega) (by omega)|rfl)))) (ad (aD J (am J J (lD J))) (ad (aD J (am J J (BV J))) (ad (aD J (ag J)) (ad (aD J (ag J)) (ad (aD J (ac J)) (ad (aD J (ah da J)) (ad (aD J (ak cr J J (ap (k:=1) J J))) ay)))))))))) J J J ?_));refine aw (aG () trivial J (F5 (aH J) (aH J)) (congrArg (fun z=>Value.tuple #[Value.int .u32 z,Value.int .i64 0]) (No hv hi)) [] [] J J J)
theorem C5(n:Int)(hn:0≤n∧n<4294967296):
  Spec Tryz.prog 100 [.int .u32 n,.int .i64 4] [] [] (X:=Unit) (fun _=>True) (fun _=> .string (jY (ep n))) (fun _=> []) (fun _=> []):=by
 refine aF Tryz.func100 J Tryz.ntmps100 J fun w0 M H=>ae (aa (aj (ag J) J (ai (ae (aa (aj (ac J) J (aj (bP Tryz.underlying41 Tryz.underlying5 J (by first|exact Cd (by omega) (by omega)|rfl)) J (aj (ac J) J (aj (am J J (m_ (by omega) (by first|decide|(simp [IntKind.bits];omega)) J)) J (aj (bP Tryz.underlying41 Tryz.underlying5 J (by first|exact Cd (by omega) (by omega)|rfl)) J (aj (ac J) J (aj (am J J (m_ (by omega) (by first|decide|(simp [IntKind.bits];omega)) J)) J ?_))))))))))))
 refine aj (bP Tryz.underlying41 Tryz.underlying5 J (by first|exact Cd (by omega) (by omega)|rfl)) J (aj (ac J) J (aj (am J J (m_ (by omega) (by first|decide|(simp [IntKind.bits];omega)) J)) J (aj (bP Tryz.underlying41 Tryz.underlying5 J (by first|exact Cd (by omega) (by omega)|rfl)) J (cu bQ (ep n) (parts:= [(0,.tmp 7),(1,.tmp 10),(2,.tmp 13),(3,.tmp 16)]) Tryz.underlying84 t5 J (by decide) (by intro _;rfl) J (by decide) (by decide) J J J J fun v17=>aj (ag J) J (ai (ae (aa (aj (ac J) J (aj (ac J) J (aj (vA J J J) J (aj (qa J J J) J (aj (lM (j:=4) Tryz.underlying84 t5 J J (bj (k:=17) J) J (Nat.le_refl 4)) J ?_))))))))))));refine bW 17 17 J br (Mu 17 18 4 J (Nat.le_refl 4) (aj (Dc Tryz.underlying84 Tryz.underlying5 Tryz.underlying9 J (aK (k:=18) J) (by simp [ep])) J (aj (ag J) J (ai (aw (aG () trivial J (bx (aH J)) J [] [] J J J))))))
theorem ww(b:Nat)(p:Option Addr)(hp:p=none∨p=some ⟨b,0,none⟩)(v:SV):
  Spec Tryz.prog 133 [.pointer (some ⟨b,0,none⟩)] [aY b 177 [.pointer p,sv v]] [] (X:=Unit) (fun _=>True) (fun _=> .tuple #[]) (fun _=> [aY b 177 [.pointer (some ⟨b,0,none⟩),sv v]]) (fun _=> []):=by
 refine aF Tryz.func133 J Tryz.ntmps133 J fun w0 M H=>ae (aa (aj (ac J) J (aj (aq J) J (aj (ah ud J) J (aj (ak Jv J J (ap (k:=0) J J)) J (aj (am J J (Le Tryz.underlying175)) J (ai (ar J (fun h1=> ?_) (fun h1=> ?_)))))))))
 ·obtain rfl:p=none:=by cases p with|none=>rfl|some _=>cases h1
  refine aa (aj (ac J) J (aj (ac J) J (aj (MM (k:=0) Tryz.underlying175 Tryz.underlying255 FI (by decide) J J (by simp)) J (aj (Gi Tryz.func172 (by kernel_rfl) (by kernel_rfl) (by kernel_rfl) (by kernel_rfl) J) J (aj (Gk (k:=0) Tryz.underlying255 Tryz.underlying175 FI J J (by kernel_rfl)) J (aj (aq J) J (aj (ah ud J) J (aI (k:=0) Jv J J J J J J J J (ai (bO () trivial J eW J [0] [] J J J))))))))))
 ·obtain rfl:p=some ⟨b,0,none⟩:=hp.resolve_left (fun e=>by subst e;cases h1);refine ae (aa (aj (ac J) J (aj (aq J) J (aj (ah ud J) J (aj (ak Jv J J (ap (k:=0) J J)) J (aj (ac J) J (aj (Gj Tryz.underlying175 FI J J) J (ai (ar J (fun h2=> ?_) (fun h2=> ?_))))))))))
  ·cases h2
  ·refine az (bO () trivial J eW J [0] [] J J J)
theorem AU(b:Nat)(p:Option Addr)(hp:p=none∨p=some ⟨b,0,none⟩)(v:SV)(l:List Int)(s:ByteArray)(hl:l.length+s.size≤1000000):
  Spec Tryz.prog 99 [.pointer (some ⟨b,0,none⟩),.string s] [aY b 177 [.pointer p,sv v],own 5 1 bQ (sv v) l] [] (X:=SV) (fun _=>True) (fun _=> .tuple #[.int .i64 (s.size:Int),.nilIface]) (fun v=> [aY b 177 [.pointer (some ⟨b,0,none⟩),sv v],own 5 1 bQ (sv v) (l++bc s)]) (fun _=> []):=by
 refine aF Tryz.func99 J Tryz.ntmps99 J fun w0 M H=>ae (aa (aj (ag J) J (aj (ag J) J (ai (ae (aa (aj (ac J) J (au (xs:= [.tmp 6]) (ww b p hp v) On [0] [] [0] J J J J J J J J (fun _ _=>J) (fun _ _ _=>J) J (fun _ _=>ai (ae (aa (aj (ac J) J ?_))))))))))))
 refine aj (ac J) J (aj (aq J) J (aj (ah pb J) J (aj (ak xf J J (ap (k:=0) J J)) J (aj (ac J) J (Bl 1 Tryz.underlying84 Tryz.underlying9 t5 J J J J (by omega) J fun v14=>aj (aq J) J (aj (ah pb J) J (aI (k:=0) xf J J J J J J J J (ai (ae (aa (aj (ac J) J (aj (cd Tryz.underlying9 J) J ?_))))))))))));refine aj (ag J) J (aj (ag J) J (ai (aw (aG v14 trivial J (F5 (aH J) (aH J)) J [0,1] [] J J J))))
theorem BU(b:Nat)(p:Option Addr)(v:SV)(l:List Int)(hl:l≠ [])(hb:∀n∈l,0≤n∧n<256):
  Spec Tryz.prog 101 [.pointer (some ⟨b,0,none⟩)] [aY b 177 [.pointer p,sv v],own 5 1 bQ (sv v) l] [] (X:=Unit) (fun _=>True) (fun _=> .string (jY l)) (fun _=> [aY b 177 [.pointer p,sv v]]) (fun _=> []):=by
 refine aF Tryz.func101 J Tryz.ntmps101 J fun w0 M H=>ae (aa (aj (ag J) J (ai (ae (bA [3,4,5,6,7,8,9,10,11,12,13,2] _ J (aZ (V:= [(0,3,_),(1,4,_),(2,5,_),(3,6,_),(4,7,_),(5,8,_),(6,9,_),(7,10,_),(8,11,_),(9,12,_)]) [0,1,2,3,4,5,6,7,8,9] 10 [10,9,8,7,6,5,4,3,2,1,0] [11] (fun _=> [(11,2,_)]) J J (ad (aD J (ac J)) (ad (aD J (aq J)) (ad (aD J (ah pb J)) (ad (aD J (ak xf J J (ap (k:=0) J J))) (ad (aD J (ML (k:=1) J J hl)) (ad (aD J (ac J)) (ad (aD J (aq J)) (ad (aD J (ah pb J)) (ad (aD J (ak xf J J (ap (k:=0) J J))) (ad (aD J (aO Tryz.underlying84 J (bj (k:=1) J))) ay)))))))))) J J J J J J J J J J J (fun _ _=>J) J (Gz (k:=1) Tryz.underlying221 (by kernel_rfl) J J J hl hb) (fun _ _=>be [11] J J (ad (aD J (ag J)) ay) J J J (aw (aG () trivial J (bx (aH J)) J [0] [] J J J)))))))))
structure Fo where
 is:Bool
 d:Bool
 a:Bool
 b:Bool
 sg:Bool
 bt:Int
 mo:Int
deriving DecidableEq
def LO(f:Fo):List Value:= [.bool f.is,.bool f.d,.bool f.a,.bool f.b,.bool f.sg,.int .i64 f.bt,.int .u32 f.mo]
def yi(op:Int):Fo:=⟨(cw op).k,(cw op).d,(cw op).a,(cw op).b,decide ((cw op).kd=1),(cw op).bt,(cw op).mo⟩
def zC(op:Int):Fo:=
 if 1≤op∧op≤12 then⟨true,true,true,true,false,0,0⟩else if op=17∨op=18∨op=19 then⟨true,true,true,false,false,18,0⟩else if(16≤op∧op≤27)∨(32≤op∧op≤37)then⟨true,true,true,false,true,18,0⟩else if op=40 then⟨true,true,false,false,true,22,0⟩else if op=41 then⟨true,true,false,false,false,22,0⟩else if op=48 then⟨true,false,false,false,false,18,0⟩else if op=49∨op=50∨op=51 then⟨true,false,false,false,false,0,0⟩else if op=52 then⟨true,false,true,false,false,0,0⟩else if op=53 then⟨true,true,false,false,false,18,3⟩else if op=54 then⟨true,false,true,false,false,18,4⟩else⟨false,false,false,false,false,0,0⟩
theorem Gt:∀n,n<64→zC ((n:Nat):Int)=yi ((n:Nat):Int):=by decide
theorem xK{op:Int}(h:0≤op∧op<64):zC op=yi op:=by
 have:=Gt op.toNat (by omega)
 rw [show((op.toNat:Nat):Int)=op by omega]at this;exact this
theorem tK(op:Int):
  Spec Tryz.prog 197 [.int .i64 op] [] [] (X:=Unit) (fun _=>True) (fun _=> .agg (LO (zC op)).toArray) (fun _=> []) (fun _=> []):=by
 refine aF Tryz.func197 J Tryz.ntmps197 J fun w0 M H=>ae (aa (aT eE J J fun b2=>ai (ae (aB (ae (aa (aj (ac J) J (aj (am J J eV) J (aj (ac J) J (aA [] J J trivial (fun hg1=>ac J) J (aA [(7,_)] J J ⟨J,trivial⟩ (fun hg2=>am J J jj) J ?_)))))))))))
 refine aj (aM J J J (by first|exact ax|exact aC|rfl)) J (aj (ag J) J (ai (ar J (fun h3=> ?_) (fun h3=> ?_))))
 ·(try simp only [aV]at h3)
  have q1:1≤op∧op≤12:=by omega
  refine ae (aa (aj (aP (parts:= [(0,.const (.bool Bool.true)),(1,.const (.bool Bool.true)),(2,.const (.bool Bool.true)),(3,.const (.bool Bool.true))]) eE kq J J) J (av (k:=2) eE J J J J J J (ai (aw (aG () trivial J (bx (aW eE J J J (aR (k:=2) J))) (by unfold zC;rw [if_pos q1];rfl) [] [] J J J))))))
 ·(try simp only [aV]at h3)
  have q1:¬(1≤op∧op≤12):=by omega
  refine ae (aa (aj (ac J) J (aj (am J J aS) J (aj (ac J) J (aA [] J J trivial (fun hg4=>ac J) J (aA [(15,_)] J J ⟨J,trivial⟩ (fun hg5=>am J J aS) J (aj (aM J J J (by first|exact ax|exact aC|rfl)) J (aj (ac J) J (aA [] J J trivial (fun hg6=>ac J) J (aA [(19,_)] J J ⟨J,trivial⟩ (fun hg7=>am J J aS) J (aj (aM J J J (by first|exact ax|exact aC|rfl)) J (aj (ag J) J (ai ?_)))))))))))));refine ar J (fun h8=> ?_) (fun h8=> ?_)
  ·(try simp only [aV]at h8)
   have q2:op=17∨op=18∨op=19:=by omega
   refine ae (aa (aj (aP (parts:= [(0,.const (.bool Bool.true)),(1,.const (.bool Bool.true)),(2,.const (.bool Bool.true)),(5,.const (.int .i64 18))]) eE kq J J) J (av (k:=2) eE J J J J J J (ai (aw (aG () trivial J (bx (aW eE J J J (aR (k:=2) J))) (by unfold zC;rw [if_neg q1,if_pos q2];rfl) [] [] J J J))))))
  ·(try simp only [aV]at h8)
   have q2:¬(op=17∨op=18∨op=19):=by omega
   refine ae (aa (aj (ac J) J (aj (am J J eV) J (aj (ac J) J (aA [] J J trivial (fun hg9=>ac J) J (aA [(27,_)] J J ⟨J,trivial⟩ (fun hg10=>am J J jj) J (aj (aM J J J (by first|exact ax|exact aC|rfl)) J (aj (ac J) J (aA [] J J trivial (fun hg11=>ac J) J (aA [(31,_)] J J ⟨J,trivial⟩ (fun hg12=>am J J eV) J (aA [(31,_),(32,_)] J J ⟨J,J,trivial⟩ (fun hg13=>ac J) J (ch [] [(31,_),(32,_),(33,_)] J J trivial ⟨J,J,J,trivial⟩ (fun hg14 hg14'=>ac J) J (ch [(34,_)] [(31,_),(32,_),(33,_)] J J ⟨J,trivial⟩ ⟨J,J,J,trivial⟩ (fun hg15 hg15'=>am J J jj) J ?_)))))))))))));refine aA [(31,_),(32,_),(33,_)] J J ⟨J,J,J,trivial⟩ (fun hg16=>aM J J J (by first|exact ax|exact aC|exact co hg16|exact cO hg16|rfl)) J (aj (aM J J J (by first|exact ax|exact aC|rfl)) J (aj (ag J) J (ai (ar J (fun h17=> ?_) (fun h17=> ?_)))))
   ·(try simp only [aV]at h17)
    have q3:(16≤op∧op≤27)∨(32≤op∧op≤37):=by omega
    refine ae (aa (aj (aP (parts:= [(0,.const (.bool Bool.true)),(1,.const (.bool Bool.true)),(2,.const (.bool Bool.true)),(4,.const (.bool Bool.true)),(5,.const (.int .i64 18))]) eE kq J J) J (av (k:=2) eE J J J J J J (ai (aw (aG () trivial J (bx (aW eE J J J (aR (k:=2) J))) (by unfold zC;rw [if_neg q1,if_neg q2,if_pos q3];rfl) [] [] J J J))))))
   ·(try simp only [aV]at h17)
    have q3:¬((16≤op∧op≤27)∨(32≤op∧op≤37)):=by omega
    refine ae (aa (aj (ac J) J (aj (am J J aS) J (aj (ag J) J (ai (ar J (fun h18=> ?_) (fun h18=> ?_)))))))
    ·(try simp only [aV]at h18)
     have q4:op=40:=by omega
     refine ae (aa (aj (aP (parts:= [(0,.const (.bool Bool.true)),(1,.const (.bool Bool.true)),(4,.const (.bool Bool.true)),(5,.const (.int .i64 22))]) eE kq J J) J (av (k:=2) eE J J J J J J (ai (aw (aG () trivial J (bx (aW eE J J J (aR (k:=2) J))) (by unfold zC;rw [if_neg q1,if_neg q2,if_neg q3,if_pos q4];rfl) [] [] J J J))))))
    ·(try simp only [aV]at h18)
     have q4:¬(op=40):=by omega
     refine ae (aa (aj (ac J) J (aj (am J J aS) J (aj (ag J) J (ai (ar J (fun h19=> ?_) (fun h19=> ?_)))))))
     ·(try simp only [aV]at h19)
      have q5:op=41:=by omega
      refine ae (aa (aj (aP (parts:= [(0,.const (.bool Bool.true)),(1,.const (.bool Bool.true)),(5,.const (.int .i64 22))]) eE kq J J) J (av (k:=2) eE J J J J J J (ai (aw (aG () trivial J (bx (aW eE J J J (aR (k:=2) J))) (by unfold zC;rw [if_neg q1,if_neg q2,if_neg q3,if_neg q4,if_pos q5];rfl) [] [] J J J))))))
     ·(try simp only [aV]at h19)
      have q5:¬(op=41):=by omega
      refine ae (aa (aj (ac J) J (aj (am J J aS) J (aj (ag J) J (ai (ar J (fun h20=> ?_) (fun h20=> ?_)))))))
      ·(try simp only [aV]at h20)
       have q6:op=48:=by omega
       refine ae (aa (aj (aP (parts:= [(0,.const (.bool Bool.true)),(5,.const (.int .i64 18))]) eE kq J J) J (av (k:=2) eE J J J J J J (ai (aw (aG () trivial J (bx (aW eE J J J (aR (k:=2) J))) (by unfold zC;rw [if_neg q1,if_neg q2,if_neg q3,if_neg q4,if_neg q5,if_pos q6];rfl) [] [] J J J))))))
      ·(try simp only [aV]at h20)
       have q6:¬(op=48):=by omega
       refine ae (aa (aj (ac J) J (aj (am J J aS) J (aj (ac J) J (aA [] J J trivial (fun hg21=>ac J) J (aA [(55,_)] J J ⟨J,trivial⟩ (fun hg22=>am J J aS) J (aj (aM J J J (by first|exact ax|exact aC|rfl)) J (aj (ac J) J (aA [] J J trivial (fun hg23=>ac J) J (aA [(59,_)] J J ⟨J,trivial⟩ (fun hg24=>am J J aS) J (aj (aM J J J (by first|exact ax|exact aC|rfl)) J (aj (ag J) J (ai ?_)))))))))))));refine ar J (fun h25=> ?_) (fun h25=> ?_)
       ·(try simp only [aV]at h25)
        have q7:op=49∨op=50∨op=51:=by omega
        refine ae (aa (aj (aP (parts:= [(0,.const (.bool Bool.true))]) eE kq J J) J (av (k:=2) eE J J J J J J (ai (aw (aG () trivial J (bx (aW eE J J J (aR (k:=2) J))) (by unfold zC;rw [if_neg q1,if_neg q2,if_neg q3,if_neg q4,if_neg q5,if_neg q6,if_pos q7];rfl) [] [] J J J))))))
       ·(try simp only [aV]at h25)
        have q7:¬(op=49∨op=50∨op=51):=by omega
        refine ae (aa (aj (ac J) J (aj (am J J aS) J (aj (ag J) J (ai (ar J (fun h26=> ?_) (fun h26=> ?_)))))))
        ·(try simp only [aV]at h26)
         have q8:op=52:=by omega
         refine ae (aa (aj (aP (parts:= [(0,.const (.bool Bool.true)),(2,.const (.bool Bool.true))]) eE kq J J) J (av (k:=2) eE J J J J J J (ai (aw (aG () trivial J (bx (aW eE J J J (aR (k:=2) J))) (by unfold zC;rw [if_neg q1,if_neg q2,if_neg q3,if_neg q4,if_neg q5,if_neg q6,if_neg q7,if_pos q8];rfl) [] [] J J J))))))
        ·(try simp only [aV]at h26)
         have q8:¬(op=52):=by omega
         refine ae (aa (aj (ac J) J (aj (am J J aS) J (aj (ag J) J (ai (ar J (fun h27=> ?_) (fun h27=> ?_)))))))
         ·(try simp only [aV]at h27)
          have q9:op=53:=by omega
          refine ae (aa (aj (aP (parts:= [(0,.const (.bool Bool.true)),(1,.const (.bool Bool.true)),(5,.const (.int .i64 18)),(6,.const (.int .u32 3))]) eE kq J J) J (av (k:=2) eE J J J J J J (ai (aw (aG () trivial J (bx (aW eE J J J (aR (k:=2) J))) (by unfold zC;rw [if_neg q1,if_neg q2,if_neg q3,if_neg q4,if_neg q5,if_neg q6,if_neg q7,if_neg q8,if_pos q9];rfl) [] [] J J J))))))
         ·(try simp only [aV]at h27)
          have q9:¬(op=53):=by omega
          refine ae (aa (aj (ac J) J (aj (am J J aS) J (aj (ag J) J (ai (ar J (fun h28=> ?_) (fun h28=> ?_)))))))
          ·(try simp only [aV]at h28)
           have q10:op=54:=by omega
           refine ae (aa (aj (aP (parts:= [(0,.const (.bool Bool.true)),(2,.const (.bool Bool.true)),(5,.const (.int .i64 18)),(6,.const (.int .u32 4))]) eE kq J J) J (av (k:=2) eE J J J J J J (ai (aw (aG () trivial J (bx (aW eE J J J (aR (k:=2) J))) (by unfold zC;rw [if_neg q1,if_neg q2,if_neg q3,if_neg q4,if_neg q5,if_neg q6,if_neg q7,if_neg q8,if_neg q9,if_pos q10];rfl) [] [] J J J))))))
          ·(try simp only [aV]at h28)
           have q10:¬(op=54):=by omega
           refine az (ae (aa (aj (aP (parts:= []) eE kq J J) J (av (k:=2) eE J J J J J J (ai (aw (aG () trivial J (bx (aW eE J J J (aR (k:=2) J))) (by unfold zC;rw [if_neg q1,if_neg q2,if_neg q3,if_neg q4,if_neg q5,if_neg q6,if_neg q7,if_neg q8,if_neg q9,if_neg q10];rfl) [] [] J J J)))))))
theorem pY(n:Int)(u:Bool):
  Spec Tryz.prog 212 [.int .i64 n,.bool u] [] [] (X:=Unit) (fun _=>True) (fun _=> .bool (fc n u)) (fun _=> []) (fun _=> []):=by
 refine aF Tryz.func212 J Tryz.ntmps212 J fun w0 M H=>ae (aa (aj (ag J) J (ai (ae (aa (aj (ac J) J (aj (am J J aS) J (aj (ac J) J (aA [] J J trivial (fun hg1=>ac J) J (aA [(8,_)] J J ⟨J,trivial⟩ (fun hg2=>ac J) J (ch [] [(8,_),(9,_)] J J trivial ⟨J,J,trivial⟩ (fun hg3 hg3'=>ac J) J (ch [(10,_)] [(8,_),(9,_)] J J ⟨J,trivial⟩ ⟨J,J,trivial⟩ (fun hg4 hg4'=>am J J dL) J ?_))))))))))))
 refine aA [(8,_),(9,_)] J J ⟨J,J,trivial⟩ (fun hg5=>aM J J J (by first|exact ax|exact aC|exact co hg5|exact cO hg5|rfl)) J (aA [(8,_),(9,_),(12,_)] J J ⟨J,J,J,trivial⟩ (fun hg6=>ac J) J (ch [] [(8,_),(9,_),(12,_),(13,_)] J J trivial ⟨J,J,J,J,trivial⟩ (fun hg7 hg7'=>ac J) J (ch [(14,_)] [(8,_),(9,_),(12,_),(13,_)] J J ⟨J,trivial⟩ ⟨J,J,J,J,trivial⟩ (fun hg8 hg8'=>am J J b_) J (aA [(8,_),(9,_),(12,_),(13,_)] J J ⟨J,J,J,J,trivial⟩ (fun hg9=>aM J J J (by first|exact ax|exact aC|exact co hg9|exact cO hg9|rfl)) J (aj (aM J J J (by first|exact ax|exact aC|rfl)) J (aj (ag J) J (ai (aw (aG () trivial J (bx (aH J)) J [] [] J J J)))))))))
theorem JD{n:Int}{z:Int}(hn:0≤n∧n<4294967296)(hz:z=18∨z=22):wQ z n=if n%2^z.toNat≥2^(z-1).toNat then IntKind.u32.wrap (n%2^z.toNat-2^z.toNat)else n%2^z.toNat:=by
 have e32:∀x:Int,IntKind.u32.wrap x=x%4294967296:=fun x=>IntKind.wrap_u32 x
 unfold wQ wU;rcases hz with rfl|rfl
 ·rw [show((32:Int)-18).toNat=14 from J,show(18:Int).toNat=18 from J,show((18:Int)-1).toNat=17 from J,show(2:Int)^14=16384 from J,show(2:Int)^18=262144 from J,show(2:Int)^17=131072 from J];simp only [e32,IntKind.wrap_i32];split<;>omega
 ·rw [show((32:Int)-22).toNat=10 from J,show(22:Int).toNat=22 from J,show((22:Int)-1).toNat=21 from J,show(2:Int)^10=1024 from J,show(2:Int)^22=4194304 from J,show(2:Int)^21=2097152 from J];simp only [e32,IntKind.wrap_i32];split<;>omega
theorem OY{z:Int}(hz:z=18∨z=22):IntKind.u32.wrap (1*2^z.toNat)=2^z.toNat∧IntKind.u32.wrap (1*2^(z-1).toNat)=2^(z-1).toNat∧¬(2:Int)^z.toNat=0:=by
 rcases hz with rfl|rfl<;>exact⟨J,J,by decide⟩
theorem pT(n z:Int)(hn:0≤n∧n<4294967296)(hz:z=18∨z=22):
  Spec Tryz.prog 198 [.int .u32 n,.int .i64 z] [] [] (X:=Unit) (fun _=>True) (fun _=> .int .u32 (wQ z n)) (fun _=> []) (fun _=> []):=by
 refine aF Tryz.func198 J Tryz.ntmps198 J fun w0 M H=> ?_
 rw [JD hn hz];refine ae (aa (aj (ag J) J (ai (ae (ae (aa (aj (ac J) J (aj (am J J b_) J (ai (ar J (fun h1=> ?_) (fun h1=> ?_)))))))))))
 ·exact absurd h1 (by simp;omega)
 ·(try simp only [aV]at h1)
  refine az (ae (ae (aa (aj (ac J) J (aj (am J J eV) J (ai (ar J (fun h2=> ?_) (fun h2=> ?_))))))))
  ·exact absurd h2 (by simp;omega)
  ·(try simp only [aV]at h2)
   refine az (ae (aa (aj (ac J) J (aj (ac J) J (aj (am J J (ga (by omega) (by simp [IntKind.bits];omega) (OY hz).1)) J (aj (am J J (fV (OY hz).2.2 (Int.tmod_eq_emod_of_nonneg hn.1))) J (aj (ag J) J (ai (ae (ae (aa (aj (ac J) J (aj (ac J) J ?_)))))))))))));refine aj (am J J (fQ (aU (by omega) (by omega)))) J (aj (am J J (ga (by omega) (by simp [IntKind.bits];omega) (OY hz).2.1)) J (aj (am J J eV) J (ai (ar J (fun h3=> ?_) (fun h3=> ?_)))))
   ·rw [if_pos (of_decide_eq_true h3)];refine ae (aa (aj (ac J) J (aj (ac J) J (aj (am J J (ga (by omega) (by simp [IntKind.bits];omega) (OY hz).1)) J (aj (am J J (fQ J)) J (aj (ag J) J (ai (aw (aG () trivial J (bx (aH J)) J [] [] J J J)))))))))
   ·rw [if_neg (of_decide_eq_false h3)];refine az (ae (aa (aj (ac J) J (aj (ag J) J (ai (aw (aG () trivial J (bx (aH J)) J [] [] J J J)))))))
theorem xz(n z:Int)(hn:0≤n∧n<4294967296)(hz:z=18∨z=22):
  Spec Tryz.prog 213 [.int .u32 n,.int .i64 z] [] [] (X:=Unit) (fun _=>True) (fun _=> .bool (decide (wQ z n=n))) (fun _=> []) (fun _=> []):=by
 refine aF Tryz.func213 J Tryz.ntmps213 J fun w0 M H=>ae (aa (aj (ag J) J (ai (ae (aa (aj (ac J) J (aj (ac J) J (au (xs:= [.tmp 5,.tmp 6]) (pT n z hn hz) qIO [] [] [] J J J J J J J J (fun _ _=>J) (fun _ _ _=>J) J (fun _ _=>aj (ac J) J (aj (am J J aS) J (aj (ag J) J (ai ?_))))))))))))
 refine aw (aG () trivial J (bx (aH J)) J [] [] J J J)
theorem FQ:∀s∈shL,(s.kd=0↔s.bt=0)∧(s.kd=0∨s.kd=1∨s.kd=2)∧0≤s.mo∧s.mo<262144:=by decide
theorem oQ(op:Int):((cw op).kd=0↔(cw op).bt=0)∧((cw op).kd=0∨(cw op).kd=1∨(cw op).kd=2)∧0≤(cw op).mo∧(cw op).mo<262144:=by
 unfold cw;split
 ·rename_i h;have hl:shL.length=64:=by decide
  rw [List.getD_eq_getElem?_getD,List.getElem?_eq_getElem (by omega)];exact FQ _ (List.getElem_mem _)
 ·decide
structure VQ(i:Qi):Prop where
 op:0≤i.op∧i.op<64
 d:0≤i.d∧i.d<16
 a:0≤i.a∧i.a<16
 b:0≤i.b∧i.b<16
 k:(cw i.op).k=true
 fd:fc i.d (cw i.op).d=true
 fa:fc i.a (cw i.op).a=true
 fb:fc i.b (cw i.op).b=true
 im:jz (cw i.op) i.imm=true
theorem VQ.of{i:Qi}(h:oy i=true):VQ i:=by
 obtain⟨b1,b2,b3,b4⟩:=te h;unfold oy at h;simp only [Bool.and_eq_true]at h;obtain⟨⟨⟨⟨h1,h2⟩,h3⟩,h4⟩,h5⟩:=h;exact⟨b1,b2,b3,b4,h1,h2,h3,h4,h5⟩
theorem oe{a b:Int}(ha:0≤a∧a<4294967296)(hb:0<b):IntKind.u32.wrap (a.tdiv b)=a/b:=by
 rw [Int.tdiv_eq_ediv_of_nonneg ha.1];exact bC (Int.ediv_nonneg ha.1 (by omega)) (Int.lt_of_le_of_lt (Int.ediv_le_self _ ha.1) ha.2)
theorem IJ{s:Sh}{n:Int}(h:jz s n=true)(hk:s.kd=0):n=0:=by
 unfold jz at h;rw [if_pos hk]at h;exact of_decide_eq_true h
theorem II{s:Sh}{n:Int}(h:jz s n=true)(hk:s.kd=1):wQ s.bt n=n:=by
 unfold jz at h;rw [if_neg (by omega),if_pos hk]at h;exact of_decide_eq_true h
theorem IH{s:Sh}{n:Int}(h:jz s n=true)(hk:s.kd=2)(hm:s.mo>0):n≤s.mo:=by
 unfold jz at h;rw [if_neg (by omega),if_neg (by omega),if_pos hm]at h;exact of_decide_eq_true h
theorem IG{s:Sh}{n:Int}(h:jz s n=true)(hk:s.kd=2)(hm:¬s.mo>0):n/2^s.bt.toNat=0:=by
 unfold jz at h;rw [if_neg (by omega),if_neg (by omega),if_neg hm]at h;exact of_decide_eq_true h
theorem JO{z:Int}(hz:z=18∨z=22):IntKind.u32.wrap (1*2^z.toNat)=2^z.toNat∧0<(2:Int)^z.toNat∧(2:Int)^z.toNat≤4194304:=by
 rcases hz with rfl|rfl<;>exact⟨J,by decide,by decide⟩
theorem sr{n m:Int}(hn:0≤n)(hm:0<m)(h:n/m=0):n<m:=by
 have:=Int.emod_lt_of_pos n hm;have h2:=Int.ediv_mul_add_emod n m;rw [h]at h2;omega
theorem uW(i:Qi)(hi:0≤i.imm∧i.imm<4294967296)(hv:VQ i):
  Spec Tryz.prog 209 [.agg (gC i).toArray] [] [] (X:=Unit) (fun _=>True) (fun _=> .bool true) (fun _=> []) (fun _=> []):=by
 refine aF Tryz.func209 J Tryz.ntmps209 J fun w0 M H=> ?_
 have hof:=xK hv.op;have k1:=io i.op;have k2:=oQ i.op;refine ae (aa (bN J J fun b1=>aj (ag J) J (ai (ae (aa (aj (ah a_ J) J (aj (ak t3 J J (ap (k:=1) J J)) J (au (xs:= [.tmp 8]) (tK i.op) EL [] [] [] J J J J J J J J (fun _ _=>J) (fun _ _ _=>J) J (fun _ _=> ?_)))))))));rw [hof];refine aT eE J J fun b3=>av (k:=3) eE J J J J J J (ai (ae (ae (aa (aj (ah Hf J) J (aj (ak t4 J J (ap (k:=3) J J)) J (aj (bZ J) J (ai (ar J (fun h1=> ?_) (fun h1=> ?_))))))))))
 ·exact absurd h1 (by show ¬(!(cw i.op).k)=true;rw [hv.k];decide)
 ·refine az (ae (aa (aj (ah fI J) J (aj (ak t3 J J (ap (k:=1) J J)) J (aj (ah Ac J) J (aj (ak t4 J J (ap (k:=3) J J)) J (au (xs:= [.tmp 14,.tmp 16]) (pY i.d (yi i.op).d) EK [] [] [] J J J J J J J J (fun _ _=>J) (fun _ _ _=>J) J (fun _ _=>aj (ag J) J (ai (ae (aa (aj (ah kV J) J (aj (ak t3 J J (ap (k:=1) J J)) J ?_)))))))))))));refine aj (ah Ab J) J (aj (ak t4 J J (ap (k:=3) J J)) J (au (xs:= [.tmp 19,.tmp 21]) (pY i.a (yi i.op).a) EK [] [] [] J J J J J J J J (fun _ _=>J) (fun _ _ _=>J) J (fun _ _=>aj (ag J) J (ai (ae (aa (aj (ah kU J) J (aj (ak t3 J J (ap (k:=1) J J)) J (aj (ah Aa J) J (aj (ak t4 J J (ap (k:=3) J J)) J (au (xs:= [.tmp 24,.tmp 26]) (pY i.b (yi i.op).b) EK [] [] [] J J J J J J J J (fun _ _=>J) (fun _ _ _=>J) J (fun _ _=>aj (ag J) J (ai ?_)))))))))))));refine ae (ae (aa (aj (ac J) J (aj (bZ J) J (aj (ac J) J (aA [] J J trivial (fun hg2=>ac J) J (aA [(31,_)] J J ⟨J,trivial⟩ (fun hg3=>bZ J) J (aj (aM J J J (by first|exact ax|exact aC|rfl)) J (aj (ac J) J (aA [] J J trivial (fun hg4=>ac J) J (aA [(35,_)] J J ⟨J,trivial⟩ (fun hg5=>bZ J) J (aj (aM J J J (by first|exact ax|exact aC|rfl)) J (ai ?_)))))))))))));refine ar J (fun h6=> ?_) (fun h6=> ?_)
  ·exact absurd h6 (by show ¬((!fc i.d (cw i.op).d) || (!fc i.a (cw i.op).a) || (!fc i.b (cw i.op).b))=true;rw [hv.fd,hv.fa,hv.fb];decide)
  ·refine az (ae (ae (aa (aj (ah kQ J) J (aj (ak t3 J J (ap (k:=3) J J)) J (aj (am J J aS) J (ai (ar J (fun h7=> ?_) (fun h7=> ?_)))))))))
   ·(try simp only [aV]at h7)
    have q3:(cw i.op).bt=0:=h7;refine ae (aa (aj (ah da J) J (aj (ak cr J J (ap (k:=1) J J)) J (aj (am J J aS) J (aj (ag J) J (ai (aw (aG () trivial J (bx (aH J)) (congrArg Value.bool (by rw [IJ hv.im (k2.1.2 q3)];rfl)) [] [] J J J))))))))
   ·(try simp only [aV]at h7)
    have q3:¬(cw i.op).bt=0:=h7;have hb:(cw i.op).bt=18∨(cw i.op).bt=22:=by have:=k1.2.2.2.1;omega
    refine az (ae (ae (aa (aj (ah z_ J) J (aj (ak t4 J J (ap (k:=3) J J)) J (ai (ar J (fun h8=> ?_) (fun h8=> ?_))))))))
    ·have q4:(cw i.op).kd=1:=of_decide_eq_true h8;refine ae (aa (aj (ah da J) J (aj (ak cr J J (ap (k:=1) J J)) J (aj (ah kQ J) J (aj (ak t3 J J (ap (k:=3) J J)) J (au (xs:= [.tmp 47,.tmp 49]) (xz i.imm (cw i.op).bt hi (by have:=k1.2.2.2.1;omega)) NG [] [] [] J J J J J J J J (fun _ _=>J) (fun _ _ _=>J) J (fun _ _=>aj (ag J) J (ai (aw (aG () trivial J (bx (aH J)) (congrArg Value.bool (decide_eq_true (II hv.im q4))) [] [] J J J))))))))))
    ·have q4:¬(cw i.op).kd=1:=of_decide_eq_false h8;have q5:(cw i.op).kd=2:=by have:=k2.2.1;have:=k2.1;omega
     refine az (ae (ae (aa (aj (ah z9 J) J (aj (ak cr J J (ap (k:=3) J J)) J (aj (am J J dL) J (ai (ar J (fun h9=> ?_) (fun h9=> ?_)))))))))
     ·(try simp only [aV]at h9)
      have q6:(cw i.op).mo>0:=h9;refine ae (aa (aj (ah da J) J (aj (ak cr J J (ap (k:=1) J J)) J (aj (ah z9 J) J (aj (ak cr J J (ap (k:=3) J J)) J (aj (am J J jj) J (aj (ag J) J (ai (aw (aG () trivial J (bx (aH J)) (congrArg Value.bool (decide_eq_true (IH hv.im q5 q6))) [] [] J J J))))))))))
     ·(try simp only [aV]at h9)
      have q6:¬(yi i.op).mo>0:=by omega
      refine az (ae (aa (aj (ah da J) J (aj (ak cr J J (ap (k:=1) J J)) J (aj (ah kQ J) J (aj (ak t3 J J (ap (k:=3) J J)) J (aj (bP Tryz.underlying3 Tryz.underlying138 J (c:=(cw i.op).bt) (by rcases hb with hb|hb<;>rw [show(yi i.op).bt=(cw i.op).bt from J,hb]<;>rfl)) J (aj (am J J (ga (by omega) (by simp [IntKind.bits];omega) (JO hb).1)) J (aj (am J J b_) J (aj (ag J) J (ai (aw (aG () trivial J (bx (aH J)) (congrArg Value.bool (decide_eq_true (sr hi.1 (JO hb).2.1 (IG hv.im q5 q6)))) [] [] J J J)))))))))))))
theorem KU{i:Qi}(hv:VQ i)(hb:(cw i.op).bt=18∨(cw i.op).bt=22):IntKind.u32.wrap (i.op*67108864+i.d*4194304+i.a*262144+i.b*16384+i.imm%2^(cw i.op).bt.toNat)=lC i:=by
 have b1:=hv.op;have b2:=hv.d;have b3:=hv.a;have b4:=hv.b;have k:=io i.op;unfold lC;rcases hb with h|h
 ·have hb0:i.b=0:=eA (by rw [←k.2.2.2.2.1 h];exact hv.fb);rw [h,show((2:Int)^(18:Int).toNat)=262144 from J];exact bC (by omega) (by omega)
 ·have hb0:i.b=0:=eA (by rw [←(k.2.2.2.2.2 h).2];exact hv.fb);have ha0:i.a=0:=eA (by rw [←(k.2.2.2.2.2 h).1];exact hv.fa);rw [h,show((2:Int)^(22:Int).toNat)=4194304 from J];exact bC (by omega) (by omega)
theorem tq(i:Qi)(hi:0≤i.imm∧i.imm<4294967296)(hv:VQ i):
  Spec Tryz.prog 199 [.agg (gC i).toArray] [] [] (X:=Unit) (fun _=>True) (fun _=> .tuple #[.int .u32 (lC i),.int .i64 0]) (fun _=> []) (fun _=> []):=by
 refine aF Tryz.func199 J Tryz.ntmps199 J fun w0 M H=> ?_
 have hof:=xK hv.op;have k1:=io i.op;have k2:=oQ i.op;obtain⟨o1,o2⟩:=hv.op;obtain⟨d1,d2⟩:=hv.d;obtain⟨a1,a2⟩:=hv.a;obtain⟨e1,e2⟩:=hv.b;have hfb:=hv.fb;have hfa:=hv.fa;refine ae (aa (bN J J fun b1=>aj (ag J) J (aj (ag J) J (ai (ae (aa (aj (aJ ed J J J (aR (k:=1) J)) J (au (xs:= [.tmp 7]) (uW i hi hv) NI [] [] [] J J J J J J J J (fun _ _=>J) (fun _ _ _=>J) J (fun _ _=>aj (ag J) J (ai (ae (ae ?_))))))))))));refine aa (aj (ac J) J (aj (bZ J) J (ai (ar J (fun h1=> ?_) (fun h1=> ?_)))))
 ·cases h1
 ·(try simp only [aV]at h1)
  refine az (ae (aa (aj (ah a_ J) J (aj (ak t3 J J (ap (k:=1) J J)) J (aj (bP Tryz.underlying3 Tryz.underlying41 J (by first|exact bC (by omega) (by omega)|rfl)) J (aj (am J J (de (by first|exact bC (by omega) (by omega)|rfl))) J (aj (ah fI J) J (aj (ak t3 J J (ap (k:=1) J J)) J (aj (bP Tryz.underlying3 Tryz.underlying41 J (by first|exact bC (by omega) (by omega)|rfl)) J (aj (am J J (de (by first|exact bC (by omega) (by omega)|rfl))) J (aj (am J J (aX (by first|exact bC (by omega) (by omega)|rfl))) J (aj (ah kV J) J (aj (ak t3 J J (ap (k:=1) J J)) J ?_)))))))))))));refine aj (bP Tryz.underlying3 Tryz.underlying41 J (by first|exact bC (by omega) (by omega)|rfl)) J (aj (am J J (de (by first|exact bC (by omega) (by omega)|rfl))) J (aj (am J J (aX (by first|exact bC (by omega) (by omega)|rfl))) J (aj (ah kU J) J (aj (ak t3 J J (ap (k:=1) J J)) J (aj (bP Tryz.underlying3 Tryz.underlying41 J (by first|exact bC (by omega) (by omega)|rfl)) J (aj (am J J (de (by first|exact bC (by omega) (by omega)|rfl))) J (aj (am J J (aX (by first|exact bC (by omega) (by omega)|rfl))) J (aj (ag J) J (ai (ae (aa (aj (ah a_ J) J (aj (ak t3 J J (ap (k:=1) J J)) J ?_)))))))))))));refine au (xs:= [.tmp 31]) (tK i.op) EL [] [] [] J J J J J J J J (fun _ _=>J) (fun _ _ _=>J) J (fun _ _=> ?_);rw [hof];refine aj (mE G_ t3 J J) J (aj (ag J) J (ai (ae (ae (aa (aj (ac J) J (aj (am J J aS) J (ai (ar J (fun h2=> ?_) (fun h2=> ?_))))))))))
  ·(try simp only [aV]at h2)
   have q3:(cw i.op).bt=0:=h2;refine ae (aa (aj (ac J) J (aj (ag J) J (aj (ag J) J (ai (aw (aG () trivial J (F5 (aH J) (aH J)) (congrArg (fun z=>Value.tuple #[Value.int .u32 z,Value.int .i64 0]) (by unfold lC;rw [q3,show((2:Int)^(0:Int).toNat)=1 from J];omega)) [] [] J J J)))))))
  ·(try simp only [aV]at h2)
   have q3:¬(cw i.op).bt=0:=h2;have hb:(cw i.op).bt=18∨(cw i.op).bt=22:=by have:=k1.2.2.2.1;omega
   have hp:=JO hb;have hrm:=Int.emod_lt_of_pos i.imm hp.2.1;have hrn:=Int.emod_nonneg i.imm (show(2:Int)^(cw i.op).bt.toNat≠0 by omega);refine az (ae (aa (aj (ac J) J (aj (ah da J) J (aj (ak cr J J (ap (k:=1) J J)) J (aj (ac J) J (aj (bP Tryz.underlying3 Tryz.underlying138 J (c:=(cw i.op).bt) (by rcases hb with hb|hb<;>rw [show(yi i.op).bt=(cw i.op).bt from J,hb]<;>rfl)) J (aj (am J J (ga (by omega) (by simp [IntKind.bits];omega) hp.1)) J (aj (am J J (fV (by omega) (Int.tmod_eq_emod_of_nonneg hi.1))) J (aj (am J J (aX (c:=lC i) (KU hv hb))) J (aj (ag J) J (aj (ag J) J (ai ?_)))))))))))));refine aw (aG () trivial J (F5 (aH J) (aH J)) J [] [] J J J)
theorem Nn{i:Qi}(hv:VQ i):lC i/67108864=i.op∧lC i/4194304%16=i.d∧((cw i.op).a=true→lC i/262144%16=i.a)∧((cw i.op).b=true→lC i/16384%16=i.b)∧((cw i.op).bt=18∨(cw i.op).bt=22→lC i%2^(cw i.op).bt.toNat=i.imm%2^(cw i.op).bt.toNat):=by
 have b1:=hv.op;have b2:=hv.d;have b3:=hv.a;have b4:=hv.b;have k:=io i.op;unfold lC;rcases k.2.2.2.1 with h|h|h
 ·rw [h,show((2:Int)^(0:Int).toNat)=1 from J];refine⟨by omega,by omega,fun _=>by omega,fun _=>by omega,fun h=>by omega⟩
 ·have hb0:i.b=0:=eA (by rw [←k.2.2.2.2.1 h];exact hv.fb);rw [h,show((2:Int)^(18:Int).toNat)=262144 from J];refine⟨by omega,by omega,fun _=>by omega,fun hb=> ?_,fun h=>by omega⟩;rw [k.2.2.2.2.1 h]at hb;cases hb
 ·have hb0:i.b=0:=eA (by rw [←(k.2.2.2.2.2 h).2];exact hv.fb);have ha0:i.a=0:=eA (by rw [←(k.2.2.2.2.2 h).1];exact hv.fa);rw [h,show((2:Int)^(22:Int).toNat)=4194304 from J];refine⟨by omega,by omega,fun ha=> ?_,fun hb=> ?_,fun h=>by omega⟩
  ·rw [(k.2.2.2.2.2 h).1]at ha;cases ha
  ·rw [(k.2.2.2.2.2 h).2]at hb;cases hb
theorem FR{n z:Int}(hn:0≤n∧n<4294967296)(hz:z=18∨z=22):wQ z (n%2^z.toNat)=wQ z n:=by
 have hp:=JO hz;have h1:=Int.emod_nonneg n (show(2:Int)^z.toNat≠0 by omega);have h2:=Int.emod_lt_of_pos n hp.2.1;rw [JD hn hz,JD ⟨h1,by omega⟩ hz,Int.emod_emod_of_dvd _ (Int.dvd_refl _)]
theorem Ku{i:Qi}(hi:0≤i.imm∧i.imm<4294967296)(hv:VQ i)(hk:(cw i.op).kd=2)(hb:(cw i.op).bt=18∨(cw i.op).bt=22):i.imm<2^(cw i.op).bt.toNat:=by
 have hp:=JO hb;by_cases hm:(cw i.op).mo>0
 ·have h1:=IH hv.im hk hm;have h2:=oQ i.op;have h3:(262144:Int)≤2^(cw i.op).bt.toNat:=by rcases hb with h|h<;>rw [h]<;>decide
  omega
 ·exact sr hi.1 hp.2.1 (IG hv.im hk hm)
theorem tt(i:Qi)(hi:0≤i.imm∧i.imm<4294967296)(hv:VQ i):
  Spec Tryz.prog 180 [.int .u32 (lC i)] [] [] (X:=Unit) (fun _=>True) (fun _=> .tuple #[.agg (gC i).toArray,.int .i64 0]) (fun _=> []) (fun _=> []):=by
 refine aF Tryz.func180 J Tryz.ntmps180 J fun w0 M H=> ?_
 have hof:=xK hv.op;have k1:=io i.op;have k2:=oQ i.op;have hwb:=yr (i:=i) (by unfold oy;simp only [Bool.and_eq_true];exact⟨⟨⟨⟨hv.k,hv.fd⟩,hv.fa⟩,hv.fb⟩,hv.im⟩);obtain⟨f0,f1,f2,f3,f4⟩:=Nn hv;refine ae (aa (aT ed J J fun b2=>aj (ag J) J (ai (ae (aa (aj (ac J) J (aj (am J J (jU (by decide) (oe hwb (by decide)))) J (aj (bP Tryz.underlying41 Tryz.underlying3 J (c:=i.op) (by rw [f0];exact aU (by have:=hv.op;omega) (by have:=hv.op;omega))) J (aj (aP (parts:= [(0,.tmp 10)]) ed lz J J) J (aT ed J J fun b4=>av (k:=4) ed J J J J J J (ai ?_)))))))))));refine ae (aa (aj (ah a_ J) J (aj (ak t3 J J (ap (k:=4) J J)) J (au (xs:= [.tmp 13]) (tK i.op) EL [] [] [] J J J J J J J J (fun _ _=>J) (fun _ _ _=>J) J (fun _ _=> ?_)))));rw [hof];refine aT eE J J fun b5=>av (k:=5) eE J J J J J J (ai (bi (X:=Unit) (fun _=>True) (fun _=> [(0,.int .u32 (lC i)),(2,.pointer (some ⟨b2,0,none⟩)),(3,.int .i64 0),(4,.pointer (some ⟨b4,0,none⟩)),(5,.pointer (some ⟨b5,0,none⟩))]) (fun _=> [(2,aY b2 118 (gC ⟨0,0,0,0,0⟩)),(4,aY b4 118 (gC ⟨i.op,i.d,0,0,0⟩)),(5,aY b5 275 (LO (yi i.op)))]) (fun _=> []) ?_ (fun _ _=> ?_)))
 ·refine ae (aa (aj (ah Ac J) J (aj (ak t4 J J (ap (k:=5) J J)) J (ai (ar J (fun h1=> ?_) (fun h1=> ?_))))))
  ·have q1:(cw i.op).d=true:=h1;refine aa (aj (ac J) J (aj (am J J (jU (by decide) (oe hwb (by decide)))) J (aj (am J J (fV (by decide) (Int.tmod_eq_emod_of_nonneg (Int.ediv_nonneg hwb.1 (by decide))))) J (aj (bP Tryz.underlying41 Tryz.underlying3 J (c:=i.d) (by rw [f1];exact aU (by have:=hv.d;omega) (by have:=hv.d;omega))) J (aj (ah fI J) J (aI (k:=4) t3 J J J J J J J J (ai (aL () trivial J (by rfl) J))))))))
  ·have q1:(cw i.op).d=false:=by
    have:=h1;exact this
   have hd0:(0:Int)=i.d:=(eA (by rw [←q1];exact hv.fd)).symm;refine az (aL () trivial J (by rw [hd0];rfl) J)
 ·refine bi (X:=Unit) (fun _=>True) (fun _=> [(0,.int .u32 (lC i)),(2,.pointer (some ⟨b2,0,none⟩)),(3,.int .i64 0),(4,.pointer (some ⟨b4,0,none⟩)),(5,.pointer (some ⟨b5,0,none⟩))]) (fun _=> [(2,aY b2 118 (gC ⟨0,0,0,0,0⟩)),(4,aY b4 118 (gC ⟨i.op,i.d,i.a,0,0⟩)),(5,aY b5 275 (LO (yi i.op)))]) (fun _=> []) ?_ (fun _ _=> ?_)
  ·refine ae (aa (aj (ah Ab J) J (aj (ak t4 J J (ap (k:=5) J J)) J (ai (ar J (fun h2=> ?_) (fun h2=> ?_))))))
   ·have q2:(cw i.op).a=true:=h2;refine aa (aj (ac J) J (aj (am J J (jU (by decide) (oe hwb (by decide)))) J (aj (am J J (fV (by decide) (Int.tmod_eq_emod_of_nonneg (Int.ediv_nonneg hwb.1 (by decide))))) J (aj (bP Tryz.underlying41 Tryz.underlying3 J (c:=i.a) (by rw [f2 q2];exact aU (by have:=hv.a;omega) (by have:=hv.a;omega))) J (aj (ah kV J) J (aI (k:=4) t3 J J J J J J J J (ai (aL () trivial J (by rfl) J))))))))
   ·have q2:(cw i.op).a=false:=by
     have:=h2;exact this
    have ha0:(0:Int)=i.a:=(eA (by rw [←q2];exact hv.fa)).symm;refine az (aL () trivial J (by rw [ha0];rfl) J)
  ·refine bi (X:=Unit) (fun _=>True) (fun _=> [(0,.int .u32 (lC i)),(2,.pointer (some ⟨b2,0,none⟩)),(3,.int .i64 0),(4,.pointer (some ⟨b4,0,none⟩)),(5,.pointer (some ⟨b5,0,none⟩))]) (fun _=> [(2,aY b2 118 (gC ⟨0,0,0,0,0⟩)),(4,aY b4 118 (gC ⟨i.op,i.d,i.a,i.b,0⟩)),(5,aY b5 275 (LO (yi i.op)))]) (fun _=> []) ?_ (fun _ _=> ?_)
   ·refine ae (aa (aj (ah Aa J) J (aj (ak t4 J J (ap (k:=5) J J)) J (ai (ar J (fun h3=> ?_) (fun h3=> ?_))))))
    ·have q3:(cw i.op).b=true:=h3;refine aa (aj (ac J) J (aj (am J J (jU (by decide) (oe hwb (by decide)))) J (aj (am J J (fV (by decide) (Int.tmod_eq_emod_of_nonneg (Int.ediv_nonneg hwb.1 (by decide))))) J (aj (bP Tryz.underlying41 Tryz.underlying3 J (c:=i.b) (by rw [f3 q3];exact aU (by have:=hv.b;omega) (by have:=hv.b;omega))) J (aj (ah kU J) J (aI (k:=4) t3 J J J J J J J J (ai (aL () trivial J (by rfl) J))))))))
    ·have q3:(cw i.op).b=false:=by
      have:=h3;exact this
     have hb0:(0:Int)=i.b:=(eA (by rw [←q3];exact hv.fb)).symm;refine az (aL () trivial J (by rw [hb0];rfl) J)
   ·refine bi (X:=Unit) (fun _=>True) (fun _=> [(0,.int .u32 (lC i)),(2,.pointer (some ⟨b2,0,none⟩)),(3,.int .i64 0),(4,.pointer (some ⟨b4,0,none⟩)),(5,.pointer (some ⟨b5,0,none⟩))]) (fun _=> [(2,aY b2 118 (gC ⟨0,0,0,0,0⟩)),(4,aY b4 118 (gC ⟨i.op,i.d,i.a,i.b,i.imm%2^(cw i.op).bt.toNat⟩)),(5,aY b5 275 (LO (yi i.op)))]) (fun _=> []) ?_ (fun _ _=> ?_)
    ·refine ae (aa (aj (ah kQ J) J (aj (ak t3 J J (ap (k:=5) J J)) J (aj (am J J dL) J (ai (ar J (fun h4=> ?_) (fun h4=> ?_)))))))
     ·(try simp only [aV]at h4)
      have q4:(cw i.op).bt>0:=h4;have hb:(cw i.op).bt=18∨(cw i.op).bt=22:=by have:=k1.2.2.2.1;omega
      have hp:=JO hb;refine aa (aj (ac J) J (aj (ah kQ J) J (aj (ak t3 J J (ap (k:=5) J J)) J (aj (bP Tryz.underlying3 Tryz.underlying138 J (c:=(cw i.op).bt) (by rcases hb with hb|hb<;>rw [show(yi i.op).bt=(cw i.op).bt from J,hb]<;>rfl)) J (aj (am J J (ga (by omega) (by simp [IntKind.bits];omega) hp.1)) J (aj (am J J (fV (by omega) ((Int.tmod_eq_emod_of_nonneg hwb.1).trans (f4 hb)))) J (aj (ah da J) J (aI (k:=4) cr J J J J J J J J (ai (aL () trivial J (by rfl) J))))))))))
     ·(try simp only [aV]at h4)
      have h4:¬(yi i.op).bt>0:=by omega
      have h4:¬(cw i.op).bt>0:=h4;have q4:(cw i.op).bt=0:=by have:=k1.2.1;omega
      have hm0:(0:Int)=i.imm%2^(cw i.op).bt.toNat:=by
       rw [q4,show((2:Int)^(0:Int).toNat)=1 from J];omega
      refine az (aL () trivial J (by rw [hm0];rfl) J)
    ·refine bi (X:=Unit) (fun _=>True) (fun _=> [(0,.int .u32 (lC i)),(2,.pointer (some ⟨b2,0,none⟩)),(3,.int .i64 0),(4,.pointer (some ⟨b4,0,none⟩)),(5,.pointer (some ⟨b5,0,none⟩))]) (fun _=> [(2,aY b2 118 (gC ⟨0,0,0,0,0⟩)),(4,aY b4 118 (gC i)),(5,aY b5 275 (LO (yi i.op)))]) (fun _=> []) ?_ (fun _ _=> ?_)
     ·refine ae (aa (aj (ah z_ J) J (aj (ak t4 J J (ap (k:=5) J J)) J (ai (ar J (fun h5=> ?_) (fun h5=> ?_))))))
      ·have q5:(cw i.op).kd=1:=of_decide_eq_true h5;have hb:=k1.1 q5;have hp:=JO hb;have h1:=Int.emod_nonneg i.imm (show(2:Int)^(cw i.op).bt.toNat≠0 by omega);have h2:=Int.emod_lt_of_pos i.imm hp.2.1;refine aa (aj (ah da J) J (aj (ak cr J J (ap (k:=4) J J)) J (aj (ah kQ J) J (aj (ak t3 J J (ap (k:=5) J J)) J ?_))));refine au (xs:= [.tmp 49,.tmp 51]) (pT (i.imm%2^(cw i.op).bt.toNat) (cw i.op).bt ⟨h1,by omega⟩ hb) qIO [] [] [] J J J J J J J J (fun _ _=>J) (fun _ _ _=>J) J (fun _ _=> ?_);rw [FR hi hb,II hv.im q5];refine aj (ah da J) J (aI (k:=4) cr J J J J J J J J (ai (aL () trivial J (by rfl) J)))
      ·have q5:¬(cw i.op).kd=1:=of_decide_eq_false h5;have hm1:(⟨i.op,i.d,i.a,i.b,i.imm%2^(cw i.op).bt.toNat⟩:Qi)=i:=by
        have:i.imm%2^(cw i.op).bt.toNat=i.imm:=by
         by_cases h0:(cw i.op).kd=0
         ·rw [IJ hv.im h0];simp
         ·have h2:(cw i.op).kd=2:=by have:=k2.2.1;omega
          exact Int.emod_eq_of_lt hi.1 (Ku hi hv h2 (by have:=k1.2.2.2.1;have:=k2.1;omega))
        rw [this]
       refine az (aL () trivial J (by rw [hm1];rfl) J)
     ·refine ae (aa (aj (aJ ed J J J (aR (k:=4) J)) J (au (xs:= [.tmp 55]) (tq i hi hv) NS [] [] [] J J J J J J J J (fun _ _=>J) (fun _ _ _=>J) J (fun _ _=>aj (ac J) J (aj (bV J J) J (aj (bV J J) J (aj (ag J) J (aj (ag J) J (ai (ae (ae (aa (aj (ac J) J ?_)))))))))))));refine aj (am J J cW) J (aj (ac J) J (aA [] J J trivial (fun hg6=>ac J) J (aA [(62,_)] J J ⟨J,trivial⟩ (fun hg7=>ac J) J (aA [(62,_),(63,_)] J J ⟨J,J,trivial⟩ (fun hg8=>am J J cW) J (aj (aM J J J (by first|exact ax|exact aC|rfl)) J (ai (ar J (fun h9=> ?_) (fun h9=> ?_))))))))
      ·exfalso;simp at h9
      ·(try simp only [aV]at h9)
       refine az (ae (aa (aj (aJ ed J J J (aR (k:=4) J)) J (av (k:=2) ed J J J J J J (aj (ag J) J (ai (aw (aG () trivial J (F5 (aW ed J J J (aR (k:=2) J)) (aH J)) J [] [] J J J))))))))
structure Me where
 m:Nat
 vd:SV
 vi:SV
 vo:SV
 vp:SV
 vr:SV
structure Mm where
 d:List Int
 i:List Int
 r:List Int
def mR(e:Me):List Value:= [sv e.vd,sv e.vi,sv e.vo,sv e.vp,sv e.vr,.bool false]
structure MO(s:Mm)(n:Nat):Prop where
 d:s.d.length=n*256
 i:s.i.length=n*256
 r:s.r.length=n
 n:n≤5000
 rb:∀x∈s.r,0≤x∧x<8
def wR(s:Mm)(a r:Int):Bool:=decide (a<s.d.length)&&decide (s.r.getD (a/256).toNat 0/r%2=1)
def pk:List Int→Nat→List Int→List Int
 | d,_,[]=>d
 | d,a,x::l=>pk (d.set a x) (a+1) l
theorem eq:∀(l:List Int)(d:List Int)(a:Nat),(pk d a l).length=d.length
 | [],d,a=>rfl
 | x::l,d,a=>by unfold pk;rw [eq l,List.length_set]
theorem kL:∀(l:List Int)(d:List Int)(a:Nat)(x:Int),pk d a (l++ [x])=(pk d a l).set (a+l.length) x
 | [],d,a,x=>rfl
 | y::l,d,a,x=>by
  show pk (d.set a y) (a+1) (l++ [x])=(pk (d.set a y) (a+1) l).set (a+(l.length+1)) x;rw [kL l,show a+1+l.length=a+(l.length+1) by omega]
theorem nJ:∀(l:List Int)(d:List Int)(a k:Nat),(pk d a l)[k]?=if a≤k∧k<a+l.length∧k<d.length then l[k-a]? else d[k]?
 | [],d,a,k=>by
  rw [if_neg (by simp only [List.length_nil];omega)];rfl
 | x::l,d,a,k=>by
  show(pk (d.set a x) (a+1) l)[k]?=_;rw [nJ l,List.length_set,List.length_cons];by_cases h:a+1≤k∧k<a+1+l.length∧k<d.length
  ·rw [if_pos h,if_pos (by omega),show k-a=(k-(a+1))+1 by omega];rfl
  ·rw [if_neg h,List.getElem?_set];by_cases h2:a=k
   ·subst h2;rw [if_pos J];by_cases h3:a<d.length
    ·rw [if_pos h3,if_pos (by omega),Nat.sub_self];rfl
    ·rw [if_neg h3,if_neg (by omega),List.getElem?_eq_none (by omega)]
   ·rw [if_neg h2,if_neg (by omega)]
def DE(d:List Int)(a:Nat):Nat→Int
 | 0=>0
 | m+1=>DE d a m*256+d.getD (a+(3-m)) 0
def zJ(d:List Int)(a:Nat):Int:=DE d a 4
def byL(d:List Int):Prop:=∀x∈d,0≤x∧x<256
theorem byL.get{d:List Int}(h:byL d)(k:Nat):0≤d.getD k 0∧d.getD k 0<256:=by
 rw [List.getD_eq_getElem?_getD];cases hk:d[k]? with
 | none=>decide
 | some x=>exact h x (List.mem_of_getElem? hk)
theorem xY{d:List Int}(h:byL d)(a:Nat):∀m,0≤DE d a m∧DE d a m<256^m
 | 0=>⟨Int.le_refl _,by show(0:Int)<1;decide⟩
 | m+1=>by
  have h1:=xY h a m;have h2:=h.get (a+(3-m));show 0≤DE d a m*256+_∧DE d a m*256+_<256^(m+1);rw [Int.pow_succ];omega
theorem Ko{d:List Int}(h:byL d)(a:Nat){m:Nat}(hm:m≤3):0≤DE d a m∧DE d a m<16777216:=by
 have h1:=xY h a m;have h2:(256:Int)^m≤16777216:=by
  have:m=0∨m=1∨m=2∨m=3:=by omega
  rcases this with rfl|rfl|rfl|rfl<;>decide
 omega
theorem DW{l:List Int}{k:Nat}{x:Int}(h:l[k]?=some x):l.getD k 0=x:=by rw [List.getD_eq_getElem?_getD,h];rfl
theorem mS(e:Me)(s:Mm)(n:Nat)(hs:MO s n)(a:Int)(ha:0≤a∧a<4294967296):
  Spec Tryz.prog 75 [.pointer (some ⟨e.m,0,none⟩),.int .u32 a] [aY e.m 157 (mR e),own 5 1 bQ (sv e.vd) (s).d,own 5 1 bQ (sv e.vi) (s).i,own 3 1 eI (sv e.vr) (s).r] [] (X:=Unit) (fun _=>True) (fun _=> .bool (decide (a<s.d.length))) (fun _=> [aY e.m 157 (mR e),own 5 1 bQ (sv e.vd) (s).d,own 5 1 bQ (sv e.vi) (s).i,own 3 1 eI (sv e.vr) (s).r]) (fun _=> []):=by
 refine aF Tryz.func75 J Tryz.ntmps75 J fun w0 M H=>ae (aa (aj (ag J) J (ai (ae (aa (aj (ac J) J (aj (bP Tryz.underlying41 Tryz.underlying3 J (by first|exact aU (by omega) (by omega)|rfl)) J (aj (ac J) J (aj (aq J) J (aj (ah kT J) J (aj (ak xf J J (ap (k:=0) J J)) J (aj (aO Tryz.underlying84 J (bj (k:=1) J)) J ?_))))))))))))
 refine aj (am J J b_) J (aj (ag J) J (ai (aw (aG () trivial J (bx (aH J)) J [0,1,2,3] [] J J J))))
theorem oi(e:Me)(s:Mm)(n:Nat)(hs:MO s n)(a:Int)(ha:0≤a∧a<4294967296)(r:Int)(hr:r=1∨r=2∨r=4):
  Spec Tryz.prog 196 [.pointer (some ⟨e.m,0,none⟩),.int .u32 a,.int .i64 r] [aY e.m 157 (mR e),own 5 1 bQ (sv e.vd) (s).d,own 5 1 bQ (sv e.vi) (s).i,own 3 1 eI (sv e.vr) (s).r] [] (X:=Unit) (fun _=>True) (fun _=> .bool (wR s a r)) (fun _=> [aY e.m 157 (mR e),own 5 1 bQ (sv e.vd) (s).d,own 5 1 bQ (sv e.vi) (s).i,own 3 1 eI (sv e.vr) (s).r]) (fun _=> []):=by
 refine aF Tryz.func196 J Tryz.ntmps196 J fun w0 M H=>ae (aa (aj (ag J) J (ai (ae (aa (aj (ac J) J (aj (ac J) J (au (xs:= [.tmp 8,.tmp 9]) (mS e s n hs a ha) EH [0,1,2,3] [] [0,1,2,3] J J J J J J J J (fun _ _=>J) (fun _ _ _=>J) J (fun _ _=>aj (ag J) J (ai (ae (aa ?_))))))))))))
 refine aj (ac J) J (aj (ac J) J (gS (t:=12) J (fun h1=> ?_) (fun h1=> ?_)))
 ·(try simp only [aV]at h1)
  have hq:a<s.d.length:=by simpa using h1
  have hd:=hs.d;have hrl:=hs.r;obtain⟨x,hx⟩:∃x,s.r[(a/256).toNat]?=some x:=⟨_,List.getElem?_eq_getElem (by omega)⟩
  have hxb:=hs.rb x (List.mem_of_getElem? hx);have hrt:wR s a r=decide (x/r%2=1):=by
   unfold wR;rw [decide_eq_true hq,Bool.true_and,DW hx]
  rw [hrt];refine cf J J (aj (ac J) J (cf J J (aj (aq J) J (cf J J (aj (ah pe J) J (cf J J (aj (ak FH J J (ap (k:=0) J J)) J (cf J J (aj (ac J) J (cf J J (aj (am J J (jU (by decide) (oe ha (by decide)))) J (cf J J (aj (aN (j:=(a/256).toNat) Tryz.underlying22 t3 J J (bj (k:=3) J) (by omega) (by omega)) J ?_)))))))))))));refine cf J J (aj (ak t3 J J (bv (bj (k:=3) J) (by intro _;rfl) hx (by rfl))) J (cf J J (aj (ac J) J (cf J J ?_))));refine aj (am J J (jU (by omega) (show IntKind.i64.wrap (x.tdiv r)=x/r from(by rw [Int.tdiv_eq_ediv_of_nonneg hxb.1];exact aU (by have:=Int.ediv_nonneg hxb.1 (show 0≤r by omega);omega) (by have:=Int.ediv_le_self r hxb.1;omega))))) J ?_;refine cf J J (aj (am J J (fV (by decide) (Int.tmod_eq_emod_of_nonneg (Int.ediv_nonneg hxb.1 (by omega))))) J (cf J J (aj (am J J aS) J (aj (aM J J J (by first|exact ax|exact aC|rfl)) J (aj (ag J) J (ai (aw (aG () trivial J (bx (aH J)) J [0,1,2,3] [] J J J))))))))
 ·(try simp only [aV]at h1)
  have hrt:wR s a r=false:=by
   unfold wR;rw [decide_eq_false (by omega),Bool.false_and]
  rw [hrt];refine dH J J J J (dH J J J J (dH J J J J (dH J J J J (dH J J J J (dH J J J J (dH J J J J (dH J J J J (dH J J J J (dH J J J J (dH J J J J (dH J J J J (aj (aM J J J (by first|exact ax|exact aC|rfl)) J (aj (ag J) J ?_)))))))))))));refine ai (aw (aG () trivial J (bx (aH J)) J [0,1,2,3] [] J J J))
theorem wv(e:Me)(s:Mm)(n:Nat)(hs:MO s n)(a:Int)(ha:0≤a∧a<4294967296)(c r:Int)(hc:1≤c∧c≤4)(hr:r=1∨r=2∨r=4)(hok:∀k:Int,0≤k→k<c→wR s (IntKind.u32.wrap (a+k)) r=true):
  Spec Tryz.prog 183 [.pointer (some ⟨e.m,0,none⟩),.int .u32 a,.int .i64 c,.int .i64 r] [aY e.m 157 (mR e),own 5 1 bQ (sv e.vd) (s).d,own 5 1 bQ (sv e.vi) (s).i,own 3 1 eI (sv e.vr) (s).r] [] (X:=Unit) (fun _=>True) (fun _=> .agg #[.int .u32 0,.int .u32 0,.bool true]) (fun _=> [aY e.m 157 (mR e),own 5 1 bQ (sv e.vd) (s).d,own 5 1 bQ (sv e.vi) (s).i,own 3 1 eI (sv e.vr) (s).r]) (fun _=> []):=by
 refine aF Tryz.func183 J Tryz.ntmps183 J fun w0 M H=>ae (aa (aT gr J J fun b8=>ai (ae (ae (aa (aj (ac J) J (aj (am J J b_) J (aj (ac J) J (aA [] J J trivial (fun hg1=>ac J) J (aA [(14,_)] J J ⟨J,trivial⟩ (fun hg2=>am J J dL) J (aj (aM J J J (by first|exact ax|exact aC|rfl)) J ?_)))))))))))
 refine ai (ar J (fun h3=> ?_) (fun h3=> ?_))
 ·exact absurd h3 (by simp;omega)
 ·refine az (ae (ae (aa (aj (ag J) J (ai (aB (bk (X:=Nat) (fun i=>(i:Int)≤c) (fun i=> [(0,.pointer (some ⟨e.m,0,none⟩)),(1,.int .u32 a),(2,.int .i64 c),(3,.int .i64 r),(8,.pointer (some ⟨b8,0,none⟩)),(9,.int .i64 (i:Int))]) (fun i=> [(0,aY e.m 157 (mR e)),(1,own 5 1 bQ (sv e.vd) s.d),(2,own 5 1 bQ (sv e.vi) s.i),(3,own 3 1 eI (sv e.vr) s.r),(8,aY b8 241 [.int .u32 0,.int .u32 0,.bool false])]) (fun i=> []) (fun i=>c.toNat-i) 0 (by omega) J J J (fun i n1=>ae (ae (aa (aj (ac J) J (aj (ac J) J (aj (am J J b_) J ?_)))))))))))));refine ai (ar J (fun h4=> ?_) (fun h4=> ?_))
  ·(try simp only [aV]at h4)
   have hi:(i:Int)<c:=by omega
   refine az (ae (aB (ae (aa (aj (ac J) J (aj (ac J) J (aj (ac J) J (aj (bP Tryz.underlying3 Tryz.underlying41 J (c:=(i:Int)) (bC (by omega) (by omega))) J (aj (am J J (aX J)) J (aj (ac J) J (au (xs:= [.tmp 24,.tmp 28,.tmp 29]) (oi e s n hs (IntKind.u32.wrap (a+i)) (j_ _) r hr) IP [0,1,2,3] [] [0,1,2,3] J J J J J J J J (fun _ _=>J) (fun _ _ _=>J) J (fun _ _=> ?_))))))))))));rw [hok i (by omega) (by omega)];refine aj (ag J) J (ai (ae (aa (aj (ac J) J (aj (bZ J) J (ai (ar J (fun h5=> ?_) (fun h5=> ?_))))))))
   ·cases h5
   ·(try simp only [aV]at h5)
    refine az (aa (aj (ac J) J (aj (am J J (aX (by first|exact aU (by omega) (by omega)|rfl))) J (aj (ag J) J (ai ?_)))));refine aL (i+1) ⟨by omega,by omega⟩ J J J
  ·(try simp only [aV]at h4)
   have hi:(i:Int)=c:=by omega
   refine bn (ae (aa (aj (aP (parts:= [(2,.const (.bool Bool.true))]) gr Im J J) J (av (k:=8) gr J J J J J J (ai (aw (aG () trivial J (bx (aW gr J J J (aR (k:=8) J))) J [0,1,2,3] [] J J J)))))))
end Go.Proofs.YtedmdgbmdplifaaGreat
