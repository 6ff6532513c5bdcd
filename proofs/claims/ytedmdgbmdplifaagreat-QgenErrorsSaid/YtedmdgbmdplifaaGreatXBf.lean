/-
  A part of the proof. Conditions are with the theorems.
-/
import Derived.Test.YtedmdgbmdplifaaGreatXBa
import Derived.Test.YtedmdgbmdplifaaGreatXBb
import Derived.Test.YtedmdgbmdplifaaGreatXBc
import Derived.Test.YtedmdgbmdplifaaGreatXBd
import Derived.Test.YtedmdgbmdplifaaGreatXBe
set_option maxHeartbeats 32000000
set_option maxRecDepth 100000
set_option linter.unusedSimpArgs false
set_option linter.unusedVariables false
namespace Go.Proofs.YtedmdgbmdplifaaGreat
open Go.RowKit Tryz
theorem pD{fs l:List Tf}{i:Nat}{f:Tf}{z:Int}(hf:l[i]?=some f)(h0:gU fs (l.take i)=0)(h:kW fs f=z)(hz:z≠0):gU fs l=z:=by
 have h1:=pF fs (l.take (i+1)) (l.drop (i+1));rw [List.take_append_drop,kV hf,h0,ju,h,kQ hz]at h1;exact h1
theorem Lm{fs:List Tf}{f:Tf}(h:rc f):kW fs f=2:=by rw [mF,aw h];rfl
theorem Ib{l:List Ba}{i:Nat}{x:Ba}(hx:l[i]?=some x)(h0:sM [] (l.take i)=0)(h:cD x (l.take i)=true):sM [] l=22:=by
 have h1:=vU [] (l.take (i+1)) (l.drop (i+1));rw [List.take_append_drop,sL hx,h0,ju,aw h]at h1;exact h1
theorem Lk{fs:List Tf}{f:Tf}(h:¬rc f)(h2:sM [] f.ps=22):kW fs f=22:=by rw [mF,ai h,h2];rfl
theorem Fu{fs:List Tf}{f:Tf}(h:¬rc f)(h2:sM [] f.ps=0):kW fs f=(dm fs f.ps f.body).2:=by rw [mF,ai h,h2];rfl
theorem Lj{fs:List Tf}(h:rP fs=false):jK fs=1:=by unfold jK;rw [aw h]
theorem Li{fs:List Tf}(h:rP fs=true)(h2:fs.length>16):jK fs=2:=by unfold jK;rw [ai (by rw [h];simp),aw h2]
theorem xz(vp:SV)(fs:List Tf)(hg:GP fs):
  bi prog 16 [.agg #[sv vp]] [] [cE vp fs] (I6 (jK fs)) []:=by
 refine aM func16 J ntmps16 J fun w0 M H=>bc 0 1 J jw ?_
 have hgl:=hg.1;refine ar (cA J J fun b1=>aq J (aF J (aS (aJ iQ J J J (a_ (k:=1) J)) (ak (xs:= [.tmp 13]) (wC vp fs hg) Qp [] [(false,0)] [] (fun _ _=>aq J (aa (aV (ad J (aS (cZ J) (aa (am J (fun h1=> ?_) (fun h1=> ?_))))))))))))
 ·have q1:rP fs=false:=by simpa using h1
  refine ar (aq J (aa (az (aQ () O J (cc (aP J)) (by rw [Lj q1]) [] [] J J J))))
 ·have q1:rP fs=true:=by simpa using h1
  refine aA (aV (aD dx J (aT 1 ip J J J J (aS (aL underlying25 J (aN (k:=1) J)) (av J J fh (aa (am J (fun h2=> ?_) (fun h2=> ?_))))))))
  ·(try simp only [bk]at h2);have q2:fs.length>16:=by omega
   refine ar (aq J (aa (az (aQ () O J (cc (aP J)) (by rw [Li q1 q2]) [] [] J J J))))
  ·(try simp only [bk]at h2);have q2:¬fs.length>16:=by omega
   refine aA (aV (aq J (aa (aC (bI (X:=Nat) (fun i=>i≤fs.length∧∀j f,j<i→fs[j]?=some f→ss fs f.name=(j:Int)) (fun i=> [(1,Pt b1),(4,I6 (i:Int))]) (fun i=> [(1,be b1 27 [sv vp])]) (fun i=> [(0,cE vp fs),(1,sl 3 gu (sv vp) fs)]) (fun i=>fs.length-i) 0 ⟨bq _,fun j f h=>absurd h (Nat.not_lt_zero _)⟩ J J J (fun i hx0=> ?_))))));obtain⟨n1,n2⟩:=hx0;refine aV (ad J (aD dx J (aT 1 ip J J J J (aS (aL underlying25 J (aN (k:=1) J)) (av J J cy (aa (am J (fun h3=> ?_) (fun h3=> ?_))))))))
   ·(try simp only [bk]at h3);have hi:i<fs.length:=by omega
    obtain⟨f,hf⟩:∃k,fs[i]?=some k:=⟨_,bT hi⟩
    have hfm:=cd hf;refine aA (aZ (aC (aZ (bQ [28,29,30,31,32,33,34,35,36,37] _ J (aW (V:= [(0,28,_),(1,29,_),(2,30,_),(3,31,_),(4,32,_),(5,33,_),(6,34,_),(8,36,_)]) [0,1,2,3,4,5,6,8] 7 [7,6,5,4,3,2,1,0] [9] (fun _=> [(9,37,_)]) J J (ac J (aJ iQ J J J (a_ (k:=1) J)) (ac J (ah dx J) (ac J (ae ip J J (ax (k:=1) J J)) (ay J J (ac J (aK (j:=i) underlying25 fC J J (aN (k:=1) J) (by first|rfl|omega) (by first|omega|(simp;done)|(simp;omega))) (ac J (bB jG J) (ac J (ae t9 J J (dl (aN (k:=1) J) (by intro _;rfl) hf J)) (ay J J ag)))))))) J J J J J J J J J J J (fun _ _=>J) J (bw (xs:= [.tmp 28,.tmp 34]) (nu f.name vp fs hg.1) Lw [] [(false,1)] []) (fun _ _=>bn [9,8] J J (ac J (aU J J gj) (ay J J ag)) J J J (am J (fun h4=> ?_) (fun h4=> ?_))))))))
    ·(try simp only [bk]at h4);have q4:¬ss fs f.name=(i:Int):=h4;refine ar (aq J (aa (az (aQ () O J (cc (aP J)) (by rw [Fq q1 q2 (Aw hf q4)]) [] [] J J J))))
    ·(try simp only [bk]at h4);have q4:ss fs f.name=(i:Int):=h4;refine aA (ap (ad J (av J J aO (aq J (aa ?_)))));refine aG (i+1) ⟨⟨by omega,fun j g hj hgj=>by
      by_cases h:j=i
      ·subst h;rw [hf]at hgj;cases hgj;exact q4
      ·exact n2 j g (by omega) hgj⟩,by omega⟩ rfl rfl rfl
   ·(try simp only [bk]at h3);have hi:i=fs.length:=by omega
    subst hi;have q3:once fs=true:=n9.2 fun j g hgj=>n2 j g (db.1 hgj).1 hgj
    refine bM (ar (aS (aJ iQ J J J (a_ (k:=1) J)) (ak (xs:= [.tmp 38,.const (Sg (ByteArray.mk #[109,97,105,110]))]) (nu ed vp fs hg.1) Lw [] [(false,1)] [] (fun _ _=>aq J (aa (aV (ad J (av J J cy (aa (am J (fun h5=> ?_) (fun h5=> ?_)))))))))))
    ·have hff:dc fs ed=none:=fk.1.1 (cH h5);refine ar (aq J (aa (az (aQ () O J (cc (aP J)) (by rw [Ft q1 q2 q3 hff]) [] [] J J J))))
    ·have hq1:¬ss fs ed<0:=dk h5;obtain⟨fm,hff⟩:∃f,dc fs ed=some f:=by
      cases hf:dc fs ed with
      | none=>exact absurd (fk.1.2 hf) hq1
      | some f=>exact⟨f,rfl⟩
     obtain⟨m,hxm,hfx⟩:=fk.2 fm hff;have hfmm:=cd hfx;have hml:m<fs.length:=(db.1 hfx).1;rw [hxm];refine bc 0 11 J (lI hfmm) (bc 11 12 J lJ (aA (aV (aD dx J (aT 1 ip J J J J (ad J (aS (aK (j:=m) underlying25 fC J J (aN (k:=1) J) J hml) (aS (bB dW J) (aS (ae h_ J J (dl (aN (k:=1) J) (by intro _;rfl) hfx J)) (aS (aL underlying46 J (aN (k:=12) J)) (av J J fh (aa (am J (fun h6=> ?_) (fun h6=> ?_))))))))))))))
     ·(try simp only [bk]at h6);have q6:fm.ps.length>0:=by omega
      refine ar (aq J (aa (az (aQ () O J (cc (aP J)) (by rw [Fp q1 q2 q3 hff q6]) [] [] J J J))))
     ·(try simp only [bk]at h6);have q6:¬fm.ps.length>0:=by omega
      refine aA (aV (aq J (aa (aC (bI (X:=Nat) (fun i=>i≤fs.length∧gU fs (fs.take i)=0) (fun i=> [(1,Pt b1),(6,I6 (i:Int))]) (fun i=> [(1,be b1 27 [sv vp])]) (fun i=> [(0,cE vp fs),(1,sl 3 gu (sv vp) fs)]) (fun i=>fs.length-i) 0 ⟨bq _,J⟩ J J J (fun i hx0=> ?_))))));obtain⟨n1,n2⟩:=hx0;refine aV (ad J (aD dx J (aT 1 ip J J J J (aS (aL underlying25 J (aN (k:=1) J)) (av J J cy (aa (am J (fun h7=> ?_) (fun h7=> ?_))))))))
      ·(try simp only [bk]at h7);have hi:i<fs.length:=by omega
       obtain⟨f,hf⟩:∃k,fs[i]?=some k:=⟨_,bT hi⟩
       have hfm:=cd hf;have hgf:=hg.2 f hfm;have hpl:=hgf.2.2.1;have hsum:=hgf.2.2.2.2.2;have hvn:=iZ f.body;have hdn:=nz f.body;have hbr:f.body.all rY=true:=by
        have h:=List.all_eq_true.1 q1 f hfm;rw [uZ]at h;simp only [Bool.and_eq_true]at h;exact h.2
       refine bc 0 7 J (lI hfm) (bc 7 8 J lJ (bc 7 9 J kF (aA (aZ (aC (ar (aD dx J (aT 1 ip J J J J (ad J (aS (aK (j:=i) underlying25 fC J J (aN (k:=1) J) (by first|rfl|omega) (by first|omega|(simp;done)|(simp;omega))) (aS (aJ fC J J J (bJ (aN (k:=1) J) (by intro _;rfl) hf (by rfl))) (aX fC J J fun b7=>au (k:=7) fC J J J J J J (aF J (aD bX J (aT 7 eR J J J J ?_)))))))))))))));refine ak (xs:= [.tmp 63]) (tk f.vb f.body hgf.2.2.2.1 hgf.2.2.2.2.1 (by omega)) CI [] [(false,9)] [] (fun _ _=>aX gh J J fun b8=>au (k:=8) gh J J J J J J (aa (aV (aD dW J (aT 7 h_ J J J J (aS (aL underlying46 J (aN (k:=8) J)) (av J J fh (ad J (aI [] J J O (fun hg8=>ah dW J) J (aI [(70,_)] J J ⟨J,O⟩ (fun hg9=>ae h_ J J (ax (k:=7) J J)) J (aI [(70,_),(71,_)] J J ⟨J,J,O⟩ (fun hg10=>aL underlying46 J (aN (k:=8) J)) J (aI [(70,_),(71,_),(72,_)] J J ⟨J,J,J,O⟩ (fun hg11=>ah oy J) J (aI [(70,_),(71,_),(72,_),(73,_)] J J ⟨J,J,J,J,O⟩ (fun hg12=>ae t3 J J (ax (k:=8) J J)) J (aI [(70,_),(71,_),(72,_),(73,_),(74,_)] J J ⟨J,J,J,J,J,O⟩ (fun hg13=>aU J J aO) J (aI [(70,_),(71,_),(72,_),(73,_),(74,_),(75,_)] J J ⟨J,J,J,J,J,J,O⟩ (fun hg14=>aU J J fh) J (aS (bK J J J) ?_))))))))))))))));refine ad J (aI [] J J O (fun hg15=>ah kR J) J (aI [(79,_)] J J ⟨J,O⟩ (fun hg16=>ae t3 J J (ax (k:=8) J J)) J (aI [(79,_),(80,_)] J J ⟨J,J,O⟩ (fun hg17=>aU J J fh) J (aS (bK J J J) (ad J (aI [] J J O (fun hg18=>ah ox J) J (aI [(84,_)] J J ⟨J,O⟩ (fun hg19=>ae t3 J J (ax (k:=8) J J)) J (aI [(84,_),(85,_)] J J ⟨J,J,O⟩ (fun hg20=>aU J J fh) J (aS (bK J J J) (ad J (aI [] J J O (fun hg21=>ah ow J) J (aI [(89,_)] J J ⟨J,O⟩ (fun hg22=>ae t3 J J (ax (k:=8) J J)) J (aI [(89,_),(90,_)] J J ⟨J,J,O⟩ (fun hg23=>aU J J fh) J (aS (bK J J J) (aa (am J (fun h24=> ?_) (fun h24=> ?_)))))))))))))))))
       ·(try simp only [bk]at h24);have q8:rc f:=by rw [BB];omega
        refine ar (aq J (aa (az (aQ () O J (cc (aP J)) (by rw [xx q1 q2 q3 hff q6,pD hf n2 (Lm q8) (by decide)]) [] [] J J J))))
       ·(try simp only [bk]at h24);have q8:¬rc f:=by rw [BB];omega
        refine aA (ar (aS (aJ iQ J J J (a_ (k:=1) J)) (aS (aR (parts:= [(0,.tmp 93)]) O7 MP J J) (cA J J fun b95=>aq J (aa (aV (aq J (aa (aC (dI 20 (α:=Ba) (S:=9) (s:=1) (enc:=eS) (bI (X:=Nat×SV) (fun x=>x.1≤f.ps.length∧sM [] (f.ps.take x.1)=0) (fun x=> [(1,Pt b1),(6,I6 (i:Int)),(7,Pt b7),(9,Pt b95),(10,I6 (x.1:Int))]) (fun x=> [(1,be b1 27 [sv vp]),(7,be b7 66 (gu f)),(95,be b95 128 [sv vp,sv x.2]),(20,own 9 1 eS (sv x.2) (f.ps.take x.1))]) (fun x=> [(0,cE vp fs),(1,sl 3 gu (sv vp) fs),(7,CQ f),(8,sl 1 eS (sv f.vp) f.ps),(9,b_ f.vb f.body)]) (fun x=>f.ps.length-x.1) (0,bv) ⟨bq _,J⟩ J J J (fun x hy0=> ?_))))))))))));obtain⟨j,vn⟩:=x;obtain⟨n3,n4⟩:=hy0;dsimp only at n3 n4 ⊢;refine aV (ad J (aD dW J (aT 7 h_ J J J J (aS (aL underlying46 J (aN (k:=8) J)) (av J J cy (aa (am J (fun h25=> ?_) (fun h25=> ?_))))))))
        ·(try simp only [bk]at h25);have hj:j<f.ps.length:=by omega
         obtain⟨x,hx⟩:∃k,f.ps[j]?=some k:=⟨_,bT hj⟩
         refine aA (aZ (aC (aZ ?_)));refine bQ [103,104,105,106,107,108,109,110,111,112,11] _ J (aW (V:= [(0,103,_),(1,104,_),(2,105,_),(3,106,_),(4,107,_),(5,108,_),(6,109,_),(7,110,_),(8,111,_)]) [0,1,2,3,4,5,6,7,8] 9 [9,8,7,6,5,4,3,2,1,0] [10] (fun _=> [(10,11,_)]) J J (ac J (ah dW J) (ac J (ae h_ J J (ax (k:=7) J J)) (ay J J (ac J (aK (j:=j) underlying46 t9 J J (aN (k:=8) J) (by first|rfl|omega) (by first|omega|(simp;done)|(simp;omega))) (ac J (ae t9 J J (bJ (aN (k:=8) J) (by intro _;rfl) hx (by rfl))) (ay J J (ac J (aj J) (ac J (ah jo J) (ac J (ae h_ J J (ax (k:=95) J J)) ag))))))))) J J J J J J J J J J J (fun _ _=>J) J (bw (xs:= [.tmp 107,.tmp 111]) (mI x vn (f.ps.take j) (by rw [List.length_take];omega)) zJ [] [(true,20)] []) (fun _ _=>bn [10] J J (ac J (cT J) ag) J J J ?_));refine aV (ad J (aa (am J (fun h26=> ?_) (fun h26=> ?_))))
         ·have q10:cD x (f.ps.take j)=true:=h26;refine ar (aq J (aa (az (aQ () O J (cc (aP J)) (by rw [xx q1 q2 q3 hff q6,pD hf n2 (Lk q8 (Ib hx n4 q10)) (by decide)]) [] [] J J J))))
         ·have q10:cD x (f.ps.take j)=false:=h26;refine aA ?_;refine bQ [114,115,116,117,118,119,120,121,122,123,124,125,126,127] _ J (aW (V:= [(0,114,_),(1,115,_),(2,116,_),(3,117,_),(4,118,_),(5,119,_),(6,120,_),(7,121,_),(8,122,_),(9,123,_)]) [0,1,2,3,4,5,6,7,8,9] 10 [10,9,8,7,6,5] [] (fun v124=> []) J J (ay J J (ay J J (ac J (aj J) (ac J (ah jo J) (ac J (ae h_ J J (ax (k:=95) J J)) (ac J (ah dW J) (ac J (ae h_ J J (ax (k:=7) J J)) (ay J J (ac J (aK (j:=j) underlying46 t9 J J (aN (k:=8) J) (by first|rfl|omega) (by first|omega|(simp;done)|(simp;omega))) (ac J (ae t9 J J (bJ (aN (k:=8) J) (by intro _;rfl) hx (by rfl))) ag)))))))))) J J J J J J J J J J J (fun _ _=>J) J (bE eS x underlying46 t9 J (by decide) (by decide) J J J) (fun v124 _=>aW [0,1,2,3,4] 11 [11,10,9,8,7,6,5,4,3,2,1] [12,13] (fun v125=> [(12,126,_),(13,127,_)]) J J (ay J J (ay J J (ac J (aj J) (ac J (ah jo J) (ac J (ae h_ J J (ax (k:=95) J J)) ag))))) J J J J J J J J J J J (fun _ _=>J) J (eB 20 underlying46 t9 J (by decide) (fun _=>J) (fun _=>J) J J J (aH (k:=124) J) (by rw [List.length_take];simp only [bV];omega) (by unfold maxLen;rw [List.length_take];simp only [bV];omega)) (fun v125 _=>bH [12,13,0] 14 [14,13,12,11,10,9,8,7,6,5,4,3,2,1,0] [] (fun _=> []) J J (ac J (aj J) (ac J (ah jo J) (ay J J ag))) J J J J J J J J J (fun _ _=>J) J (da (k:=95) h_ J J J J J J J J) (fun _ _=>bn [] J J ag J J J ?_))));refine ap (ad J (av J J aO (aq J (aa ?_))));refine aG (j+1,v125) ⟨⟨by dsimp only;omega,by dsimp only;rw [sL hx,n4,ai (by rw [q10];simp)];rfl⟩,by dsimp only;omega⟩ J (by dsimp only;rw [cw hx];rfl) J
        ·(try simp only [bk]at h25);have hj:j=f.ps.length:=by omega
         subst hj;rw [cV]at n4;rw [cV];refine bM (ar (ad J (aD bX J (aT 7 eR J J J J (ak (xs:= [.tmp 128,.tmp 130]) (Gx b95 vp fs hg.1 f.vb f.body hgf.2.2.2.1 hgf.2.2.2.2.1 hbr vn f.ps (by omega)) Lv [95,20] [(false,9),(false,0)] [95,20] (fun⟨vn2,ns2⟩ _=> ?_))))));dsimp only;refine aq J (aF J (ad J (av J J gj (aa (am J (fun h27=> ?_) (fun h27=> ?_))))))
         ·(try simp only [bk]at h27);have q11:(dm fs f.ps f.body).2≠0:=h27;refine ar (ad J (aq J (aa (az (aQ () O J (cc (aP J)) (by rw [xx q1 q2 q3 hff q6,pD hf n2 (Fu q8 n4) q11]) [] [] J J J)))))
         ·(try simp only [bk]at h27);have q11:(dm fs f.ps f.body).2=0:=h27;refine aA (ap (ad J (av J J aO (aq J (aa ?_)))));refine aG (i+1) ⟨⟨by omega,by rw [kV hf,n2,Fu q8 n4,q11];rfl⟩,by omega⟩ J J J
      ·(try simp only [bk]at h7);have hi:i=fs.length:=by omega
       subst hi;rw [cV]at n2;refine bM (ar (aq J (aa (az (aQ () O J (cc (aP J)) (by rw [xx q1 q2 q3 hff q6,n2]) [] [] J J J)))))
theorem K_{x:Ba}{v0 v1 vb v2 v3:SV}{n:Int}{a:List Ty}:eE [uD x v0 n,nL x v1 vb (a++ [lh x v3 v2])]= [.mk 1 x [G7 n] [] [],.mk 5 bD [As x] (eE a++ [D3 x]) []]:=by
 simp only [eE,E9,gT,lz,fL,G7,As,D3]
structure Xg where
 i:Nat
 vo:SV
 out:List Ty
 s:Gs
 vn:SV
def Q5(e:Ge)(lev:Nat):Prop:=∀(s:Gs)(vn:SV),GInv s→Spec prog 47 [Pt e.g,I6 (4-(lev:Int))] [be e.g 102 (ib e.vl s vn e.c.me e.vf),own 9 1 eS (sv vn) s.names] [sl 1 eI (sv e.vl) e.c.l,cE e.vf e.F] (X:=SV×List Ty×Gs×SV) (fun x=>GYr e.c lev s (eE x.2.1) x.2.2.1∧x.2.1.length≤10) (fun x=>sv x.1)
 (fun x=> [be e.g 102 (ib e.vl x.2.2.1 x.2.2.2 e.c.me e.vf),own 9 1 eS (sv x.2.2.2) x.2.2.1.names,own 64 5 dM (sv x.1) x.2.1,ld x.2.1]) (fun _=> [])
theorem xm{v:Int}(h0:0≤v)(h8:v<8):∃x,freshL[v.toNat]?=some x∧v.toNat<freshL.length∧v=(v.toNat:Int):=by
 have h:v.toNat<freshL.length:=by show _<8;omega
 exact⟨_,bT h,h,by omega⟩
theorem qd(e:Ge)(he:Gfine e)(lev:Nat)(hlv:lev≤3)(ih:∀k,lev=k+1→Q5 e k)(s0:Gs)(vn0:SV)(hi0:GInv s0):
  Spec prog 47 [Pt e.g,I6 (4-(lev:Int))] [be e.g 102 (ib e.vl (s0) vn0 e.c.me e.vf),own 9 1 eS (sv vn0) s0.names] [sl 1 eI (sv e.vl) e.c.l,cE e.vf e.F] (X:=SV×List Ty×Gs×SV) (fun x=>GYr e.c lev s0 (eE x.2.1) x.2.2.1∧x.2.1.length≤10) (fun x=>sv x.1) (fun x=> [be e.g 102 (ib e.vl (x.2.2.1) x.2.2.2 e.c.me e.vf),own 9 1 eS (sv x.2.2.2) x.2.2.1.names,own 64 5 dM (sv x.1) x.2.1,ld x.2.1]) (fun _=> []):=by
 refine aM func47 J ntmps47 J fun w0 M H=>bc 1 2 J (fun _ G h _=>⟨G,h,fun _ hb=>hb⟩) (bc 2 3 J jw ?_)
 have hfl:e.c.fs.length=e.F.length:=by rw [he.fs,List.length_map]
 have hflb:=he.fl;have hmeb:=he.me;obtain⟨j0,sm,hj0⟩:∃j0 sm,gN e.c.l 5 s0=(j0,sm):=⟨_,_,J⟩
 have hjb0:=qe (by decide) hj0;have him:GInv sm:=hi0.same (cl hj0);obtain⟨many,hmany⟩:∃many:Nat,(1:Int)+j0=(many:Int):=⟨(1+j0).toNat,by omega⟩
 refine ar (aq J (aF J (aq J (aF J (ad J (ak (xs:= [.tmp 19,.const (I6 5)]) (cU e.g e.vl vn0 e.vf e.c he.hl he.hlo 5 (by decide) s0) kx [0] [(false,0)] [0] (fun _ _=> ?_)))))));rw [hj0];dsimp only;refine av J J aO ?_;rw [hmany];refine aq J (aa (aV (aq J (aa (aC (dI 60 (α:=Ty) (S:=64) (s:=5) (enc:=dM) (bh 40 [] (L:= []) (C:=ld []) J (fun _ _ _=>O) (bI (X:=Xg) (fun x=>x.i≤many∧GInv x.s∧x.out.length≤2*x.i∧∀r s2,GLr e.c lev (many-x.i) x.s r s2→GLr e.c lev many sm (eE x.out++r) s2) (fun x=> [(0,Pt e.g),(1,I6 (4-(lev:Int))),(5,sv x.vo),(6,I6 (many:Int)),(7,I6 (x.i:Int))]) (fun x=> [(0,be e.g 102 (ib e.vl (x.s) x.vn e.c.me e.vf)),(1,own 9 1 eS (sv x.vn) x.s.names),(60,own 64 5 dM (sv x.vo) x.out),(40,ld x.out)]) (fun x=> [(0,sl 1 eI (sv e.vl) e.c.l),(2,cE e.vf e.F),(3,sl 3 gu (sv e.vf) e.F)]) (fun x=>many-x.i) ⟨0,bv,[],sm,vn0⟩ ⟨bq _,him,cj _,fun r s2 h=>h⟩ J (by dsimp only;rw [show sm.names=s0.names from(cl hj0).1];rfl) J (fun x hx0=> ?_)))))))));obtain⟨i,vo,out,s,vn⟩:=x;obtain⟨n1,n2,n3,n4⟩:=hx0;dsimp only at n1 n2 n3 n4 ⊢;refine aV (ad J (ad J (av J J cy (ad J (aI [] J J O (fun hg1=>aY J) J (aI [(26,_)] J J ⟨J,O⟩ (fun hg2=>aj J) J (aI [(26,_),(27,_)] J J ⟨J,J,O⟩ (fun hg3=>ah qX J) J (aI [(26,_),(27,_),(28,_)] J J ⟨J,J,J,O⟩ (fun hg4=>ae t3 J J (ax (k:=0) J J)) J (aI [(26,_),(27,_),(28,_),(29,_)] J J ⟨J,J,J,J,O⟩ (fun hg5=>aU J J fh) J (aS (bK J J J) (aa (am J (fun h6=> ?_) (fun h6=> ?_)))))))))))))
 ·(try simp only [bk]at h6);have hi2:i<many:=by omega
  have hleft:0<s.left:=h6.2;obtain⟨k,sa,hk⟩:∃a b,gN e.c.l 12 {s with left:=s.left-1}=(a,b):=⟨_,_,J⟩
  have hkb:=qe (by decide) hk;have hna:sa.names=s.names:=(cl hk).1;have hia:GInv sa:=GInv.same (s:={s with left:=s.left-1}) ⟨n2.v0,n2.v8,n2.nm,by show s.left-1≤1000;have:=n2.lf;omega⟩ (cl hk);have hin:=hia.n;have hv0:=hia.v0;have hv8:=hia.v8;have hinm:sa.names.length≤1000:=hin;rw [←hna];refine aA (aZ (aC (ar (ad J (bS J (aD qX J (aT 0 t3 J J J J (av J J (gZ (by exact pG (by omega) (by have:=n2.lf;omega))) (bS J (aD qX J (aB (k:=0) t3 J J J J J J J J (aF J (ad J (ak (xs:= [.tmp 41,.const (I6 12)]) (cU e.g e.vl vn e.vf e.c he.hl he.hlo (12) (by decide) ({s with left:=s.left-1})) kx [0] [(false,0)] [0] (fun _ _=> ?_)))))))))))))));rw [hk];dsimp only;refine aq J (aF J (dz eS freshL (parts:= [(0,.const (Sg (ByteArray.mk #[97]))),(1,.const (Sg (ByteArray.mk #[98]))),(2,.const (Sg (ByteArray.mk #[99]))),(3,.const (Sg (ByteArray.mk #[100]))),(4,.const (Sg (ByteArray.mk #[101]))),(5,.const (Sg (ByteArray.mk #[120,49]))),(6,.const (Sg (ByteArray.mk #[121,50]))),(7,.const (Sg (ByteArray.mk #[108,111,111,112])))]) underlying46 t9 J (by decide) (by intro _;rfl) J (by decide) (by decide) J J J J fun v43=>aq J (aa (aC (ar (ad J (av J J cy (ad J (aI [] J J O (fun hg7=>aY J) J (aI [(55,_)] J J ⟨J,O⟩ (fun hg8=>aj J) J (aI [(55,_),(56,_)] J J ⟨J,J,O⟩ (fun hg9=>ah jp J) J (aI [(55,_),(56,_),(57,_)] J J ⟨J,J,J,O⟩ (fun hg10=>ae t3 J J (ax (k:=0) J J)) J (aI [(55,_),(56,_),(57,_),(58,_)] J J ⟨J,J,J,J,O⟩ (fun hg11=>aY J) J (aI [(55,_),(56,_),(57,_),(58,_),(59,_)] J J ⟨J,J,J,J,J,O⟩ (fun hg12=>aL underlying46 J (aH (k:=43) J)) J (aI [(55,_),(56,_),(57,_),(58,_),(59,_),(60,_)] J J ⟨J,J,J,J,J,J,O⟩ (fun hg13=>aU J J cy) J ?_)))))))))))))));refine aS (bK J J J) (aq J (aa (am J (fun h14=> ?_) (fun h14=> ?_))))
  ·(try simp only [bk]at h14);have h2:k<3∧sa.vars<8:=⟨h14.1,h14.2⟩
   obtain⟨nm,hnm,hnm1,hnm2⟩:=xm hia.v0 h2.2;refine ar (ad J (ad J (bS J (aD jp J (aT 0 t3 J J J J (aS (aK (j:=sa.vars.toNat) underlying46 t9 J J (aH (k:=43) J) hnm2 hnm1) (aS (ae t9 J J (bJ (aH (k:=43) J) (by intro _;rfl) hnm (by rfl))) (aq J (aF J (ad J (bS J (aD jp J (aT 0 t3 J J J J (av J J aO (bS J (aD jp J ?_))))))))))))))));refine aB (k:=0) t3 J J J J J J J J (aF J (ad J (dG (xs:= [.tmp 77,.const (I6 4)]) (lW he 3 (by decide) vn ({sa with vars:=sa.vars+1}) (by rw [show({sa with vars:=sa.vars+1}:Gs).names=sa.names from J];exact hin)) nH [0] [(false,0),(true,1),(false,2)] [0,78] J J J J J (by rw [show({sa with vars:=sa.vars+1}:Gs).names=sa.names from J];rfl) J J (fun _ _=>J) (fun _ _ _=>J) J (fun⟨t1,s2⟩ ht1=> ?_))));dsimp only at ht1 ⊢;refine aX ca J J fun b11=>au (k:=11) ca J J J J J J (aF J (ad J (ad J (aS (aJ ca J J J (a_ (k:=11) J)) (bj dB t1 underlying59 ca J (by decide) (by decide) J J J J fun v82=>aS (aR (parts:= [(0,.const (I6 1)),(1,.tmp 80),(2,.tmp 82)]) cr fO J J) (bj dM (.mk 1 nm v82 [t1] bv [] bv []) underlying62 cr J (by decide) (by decide) J J J J fun v84=>cN 60 underlying62 cr J (by decide) (fun _=>J) (fun _=>J) J J J (aH (k:=84) J) (by simp only [bA,bR,bG];omega) (by unfold maxLen;simp only [bA,bR,bG];omega) J fun v85=>aq J (aa (ap (ad J (ad J (bS J (aD gl J (aT 0 h_ J J J J ?_)))))))))))))
   refine ad J (bj eS nm underlying46 t9 J (by decide) (by decide) J J J J fun v92=>cN 1 underlying46 t9 J (by decide) (fun _=>J) (fun _=>J) J J J (aH (k:=92) J) (by have:=hinm;simp only [bV];omega) (by unfold maxLen;have:=hinm;simp only [bV];omega) J fun v93=>bS J (aD gl J (aB (k:=0) h_ J J J J J J J J (aa (ap (ad J (av J J aO (aq J (aa ?_)))))))));have hg1:G1r e.c (lev) k sa (eE [.mk 1 nm v82 [t1] bv [] bv []]) ({s2 with names:=s2.names++ [nm]}):= .var h2.1 hnm h2.2 ht1;have hkp:=hg1.inv hia;refine bh 40 [40,82,78] (C:=ld (out++ [.mk 1 nm v82 [t1] bv [] bv []])) J ma ?_;refine aG ⟨i+1,v85,out++ [.mk 1 nm v82 [t1] bv [] bv []],{s2 with names:=s2.names++ [nm]},v93⟩ ⟨⟨by dsimp only;omega,hkp.inv,by dsimp only;rw [bA];simp only [bR,bG];omega,by dsimp only;rw [fL];exact iL hi2 hleft hk hg1 n4⟩,by dsimp only;omega⟩ J (by dsimp only;rw [show s2.names=sa.names from ht1.keep.1];rfl) J
  ·(try simp only [bk]at h14);have q2:¬(k<3∧sa.vars<8):=by rintro ⟨a,b⟩;rcases h14 with h|h;exact h a;exact h b
   refine ar (ad J (av J J br (ad J (aI [] J J O (fun hg15=>aY J) J (aI [(100,_)] J J ⟨J,O⟩ (fun hg16=>aj J) J (aI [(100,_),(101,_)] J J ⟨J,J,O⟩ (fun hg17=>ah gl J) J (aI [(100,_),(101,_),(102,_)] J J ⟨J,J,J,O⟩ (fun hg18=>ae h_ J J (ax (k:=0) J J)) J (aI [(100,_),(101,_),(102,_),(103,_)] J J ⟨J,J,J,J,O⟩ (fun hg19=>aL underlying46 J (aH (k:=1) J)) J (aI [(100,_),(101,_),(102,_),(103,_),(104,_)] J J ⟨J,J,J,J,J,O⟩ (fun hg20=>aU J J fh) J (aS (bK J J J) (aq J (aa (am J (fun h21=> ?_) (fun h21=> ?_))))))))))))))
   ·(try simp only [bk]at h21);have h3:k=3∧0<sa.names.length:=⟨h21.1,by have:=h21.2;omega⟩
    obtain⟨x6,hx6,hja6,hjb6⟩:=se (l:=e.c.l) (L:=sa.names) (n:=(sa.names.length:Int)) (by omega) J sa;refine aZ ?_;refine bQ [107,108,109,110,111,112,113,114,115,116,117,118,119,12] _ J (aW (V:= [(0,107,_),(1,108,_),(2,109,_),(3,110,_),(4,111,_),(5,112,_),(6,113,_),(7,114,_),(8,115,_),(9,116,_)]) [0,1,2,3,4,5,6,7,8,9] 10 [10,9,8,7,6,5,4] [11,12,13] (fun _=> [(11,118,_),(12,119,_),(13,12,_)]) J J (ay J J (ac J (aj J) (ac J (ah gl J) (ac J (ae h_ J J (ax (k:=0) J J)) (ay J J (ay J J (ac J (aj J) (ac J (ah gl J) (ac J (ae h_ J J (ax (k:=0) J J)) (ac J (aL underlying46 J (aH (k:=1) J)) ag)))))))))) J J J J J J J J J J J (fun _ _=>J) J (bw (xs:= [.tmp 111,.tmp 116]) (cU e.g e.vl vn e.vf e.c he.hl he.hlo ((sa.names.length:Int)) (by omega) (sa)) kx [0] [(false,0)] [0]) (fun _ _=>bn [11,12,13,0,1,2,3] J J (ac J (aK (j:=(gN e.c.l (sa.names.length:Int) sa).1.toNat) underlying46 t9 J J (aH (k:=1) J) hjb6 hja6) (ac J (ae t9 J J (bJ (aH (k:=1) J) (by intro _;rfl) hx6 (by rfl))) (ac J (cT J) (ay J J (ac J (aj J) (ac J (ah gl J) (ac J (ae h_ J J (ax (k:=0) J J)) ag))))))) J J J ?_));refine ap (ad J (ad J (ad J (dG (xs:= [.tmp 122,.const (I6 4)]) (lW he 3 (by decide) vn ((gN e.c.l (sa.names.length:Int) sa).2) (by rw [(kP e.c.l (sa.names.length:Int) sa).1];exact hin)) nH [0] [(false,0),(true,1),(false,2)] [0,123] J J J J J (by rw [(kP e.c.l (sa.names.length:Int) sa).1];rfl) J J (fun _ _=>J) (fun _ _ _=>J) J (fun⟨t1,s2⟩ ht1=> ?_)))));dsimp only at ht1 ⊢;refine bj dB t1 underlying59 ca J (by decide) (by decide) J J J J fun v124=>aS (aR (parts:= [(0,.const (I6 2)),(1,.tmp 121),(2,.tmp 124)]) cr fO J J) (bj dM (.mk 2 x6 v124 [t1] bv [] bv []) underlying62 cr J (by decide) (by decide) J J J J fun v126=>cN 60 underlying62 cr J (by decide) (fun _=>J) (fun _=>J) J J J (aH (k:=126) J) (by simp only [bA,bR,bG];omega) (by unfold maxLen;simp only [bA,bR,bG];omega) J fun v127=>aq J (aa (ap (ad J (av J J aO (aq J (aa ?_)))))))
    have hg1:G1r e.c (lev) k sa (eE [.mk 2 x6 v124 [t1] bv [] bv []]) (s2):=h3.1▸ .set h3.2 J hx6 ht1;have hkp:=hg1.inv hia;refine bh 40 [40,124,123] (C:=ld (out++ [.mk 2 x6 v124 [t1] bv [] bv []])) J ma ?_;refine aG ⟨i+1,v127,out++ [.mk 2 x6 v124 [t1] bv [] bv []],s2,vn⟩ ⟨⟨by dsimp only;omega,hkp.inv,by dsimp only;rw [bA];simp only [bR,bG];omega,by dsimp only;rw [fL];exact iL hi2 hleft hk hg1 n4⟩,by dsimp only;omega⟩ J (by dsimp only;rw [show s2.names=sa.names from ht1.keep.1.trans (kP _ _ _).1];rfl) J
   ·(try simp only [bk]at h21);have q3:¬(k=3∧0<sa.names.length):=by rintro ⟨a,b⟩;rcases h21 with h|h;exact h a;omega
    refine ar (ad J (av J J br (ad J (aI [] J J O (fun hg22=>aY J) J (aI [(132,_)] J J ⟨J,O⟩ (fun hg23=>aU J J br) J (aS (bK J J J) (aq J (aa (am J (fun h24=> ?_) (fun h24=> ?_))))))))))
    ·(try simp only [bk]at h24);have h4:k=4∨k=5:=h24;refine ar (ad J (ak (xs:= [.tmp 135,.const (I6 3)]) (lW he 2 (by decide) vn sa hin) nH [0] [(false,0),(true,1),(false,2)] [0,136] (fun⟨t1,s2⟩ ht1=> ?_)));dsimp only at ht1 ⊢;refine aX ca J J fun b13=>au (k:=13) ca J J J J J J (aa ?_)
     refine bQ [137,138,139,140,141,142,143,144] _ J (aW (V:= [(0,137,_),(1,138,_),(2,139,_)]) [0,1,2] 3 [3,2] [] (fun x2=> []) J J (ay J J (ac J (aJ ca J J J (a_ (k:=13) J)) (ay J J ag))) J J J J J J J J J J J (fun _ _=>J) J (iU (xs:= [.tmp 139,.const (I6 4)]) (lW he 3 (by decide) vn (s2) (by rw [show s2.names=sa.names from ht1.keep.1];exact hin)) nH [0] [(false,0),(true,1),(false,2)] [0,140] J J J J J (by rw [show s2.names=sa.names from ht1.keep.1];rfl) J J (fun _ _=>J) (fun _ _ _=>J)) (fun x2 ht2=>aW [0,1] 4 [4,3,2,1] [5] (fun v141=> [(5,142,_)]) J J (ay J J (ac J (aJ ca J J J (a_ (k:=13) J)) ag)) J J J J J J J J J J J (fun _ _=>J) J (d_ dB [t1,x2.1] (parts:= [(0,.tmp 138),(1,.tmp 140)]) underlying59 ca J (by decide) (by intro _;rfl) J (by decide) (by decide) J J J) (fun v141 _=>aW [5,0] 6 [6,5,4,3,2,1] [] (fun v143=> []) J J (ac J (aR (parts:= [(0,.const (I6 3)),(2,.tmp 141)]) cr fO J J) (ay J J ag)) J J J J J J J J J J J (fun _ _=>J) J (bE dM (.mk 3 bD v141 [t1,x2.1] bv [] bv []) underlying62 cr J (by decide) (by decide) J J J) (fun v143 _=>aW [0] 7 [7,6,5,4,3,2,1,0] [] (fun v144=> []) J J (ay J J ag) J J J J J J J J J J J (fun _ _=>J) J (eB 60 underlying62 cr J (by decide) (fun _=>J) (fun _=>J) J J J (aH (k:=143) J) (by simp only [bA,bR,bG];omega) (by unfold maxLen;simp only [bA,bR,bG];omega)) (fun v144 _=>ws [] 8 [8,7,6,5,4,3,2,1,0] J J ag J J J J J J J J (cT J) ?_)))));refine ap (ad J (av J J aO (aq J (aa ?_))));have hg1:G1r e.c (lev) k sa (eE [.mk 3 bD v141 [t1,x2.1] bv [] bv []]) (x2.2):= .put h4 ht1 ht2;have hkp:=hg1.inv hia;refine bh 40 [40,141,136,140] (C:=ld (out++ [.mk 3 bD v141 [t1,x2.1] bv [] bv []])) J Gv ?_;refine aG ⟨i+1,v144,out++ [.mk 3 bD v141 [t1,x2.1] bv [] bv []],x2.2,vn⟩ ⟨⟨by dsimp only;omega,hkp.inv,by dsimp only;rw [bA];simp only [bR,bG];omega,by dsimp only;rw [fL];exact iL hi2 hleft hk hg1 n4⟩,by dsimp only;omega⟩ J (by dsimp only;rw [show x2.2.names=sa.names from ht2.keep.1.trans ht1.keep.1];rfl) J
    ·(try simp only [bk]at h24);have q4:¬k=4∧¬k=5:=h24;refine ar (ad J (av J J br (ad J (aI [] J J O (fun hg25=>aY J) J (aI [(149,_)] J J ⟨J,O⟩ (fun hg26=>aU J J cy) J (aS (bK J J J) (aq J (aa (am J (fun h27=> ?_) (fun h27=> ?_))))))))))
     ·(try simp only [bk]at h27);have h5:k=6:=h27.1;obtain⟨lv,rfl⟩:∃lv,lev=lv+1:=⟨lev-1,by have:=h27.2;omega⟩
      refine ar (ad J (ak (xs:= [.tmp 152,.const (I6 3)]) (lW he 2 (by decide) vn sa hin) nH [0] [(false,0),(true,1),(false,2)] [0,153] (fun⟨t1,s2⟩ ht1=> ?_)));dsimp only at ht1 ⊢;have hi2b:GInv s2:=hia.same ht1.keep;refine bj dB t1 underlying59 ca J (by decide) (by decide) J J J J fun v154=>aS (aR (parts:= [(0,.const (I6 4)),(2,.tmp 154)]) cr fO J J) (aX cr J J fun b14=>au (k:=14) cr J J J J J J (aF J (ad J (ad J ?_))))
      refine te (aU J J (cC (c:=4-(lv:Int)) (by rw [show 4-((lv+1:Nat):Int)+1=4-(lv:Int) by omega];exact bU (by omega)))) J ?_;refine dG (xs:= [.tmp 156,.tmp 158]) (ih lv J s2 vn hi2b) Ie [0,1] [(false,0),(false,2)] [0,1,61,62] J J J J (by rw [show s2.names=sa.names from ht1.keep.1];rfl) J J J (fun _ _=>J) (fun _ _ _=>J) J (fun⟨vb1,l1,s3,vn2⟩ hl1=> ?_);dsimp only at hl1 ⊢;have hi3:GInv s3:=(hl1.1.inv hi2b).inv;obtain⟨j6,s4,hj6⟩:∃a b,gN e.c.l 2 s3=(a,b):=⟨_,_,J⟩
      refine aD fV J (aB (k:=14) eR J J J J J J J J (aa (aV (ad J (ak (xs:= [.tmp 161,.const (I6 2)]) (cU e.g e.vl vn2 e.vf e.c he.hl he.hlo 2 (by decide) s3) kx [0] [(false,0)] [0] (fun _ _=> ?_))))));rw [hj6];dsimp only;refine av J J br (aa (am J (fun h28=> ?_) (fun h28=> ?_)))
      ·(try simp only [bk]at h28);have hj6e:j6=1:=h28;refine ap (ad J (ad J ?_));refine te (aU J J (cC (c:=4-(lv:Int)) (by rw [show 4-((lv+1:Nat):Int)+1=4-(lv:Int) by omega];exact bU (by omega)))) J ?_;refine dG (xs:= [.tmp 164,.tmp 166]) (ih lv J s4 vn2 (hi3.same (cl hj6))) Ie [0,1] [(false,0),(false,2)] [0,1,63,64] J J J J (by rw [show s4.names=s3.names from(cl hj6).1];rfl) J J J (fun _ _=>J) (fun _ _ _=>J) J (fun⟨JC,l2,s5,vn3⟩ hl2=> ?_);dsimp only at hl2 ⊢;refine aD fK J (aB (k:=14) eR J J J J J J J J (aa (ap (ad J (aS (aJ cr J J J (a_ (k:=14) J)) (bj dM (.mk 4 bD v154 [t1] vb1 l1 JC l2) underlying62 cr J (by decide) (by decide) J J J J fun v171=>cN 60 underlying62 cr J (by decide) (fun _=>J) (fun _=>J) J J J (aH (k:=171) J) (by simp only [bA,bR,bG];omega) (by unfold maxLen;simp only [bA,bR,bG];omega) J fun v172=>aq J (aa (ap (ad J (av J J aO (aq J (aa ?_))))))))))));have hg1:G1r e.c (lv+1) k sa (eE [.mk 4 bD v154 [t1] vb1 l1 JC l2]) (s5):=h5▸ .iff1 ht1 hl1.1 (hj6e▸hj6) hl2.1;have hkp:=hg1.inv hia;refine bh 40 [40,154,153,61,62,63,64] (C:=ld (out++ [.mk 4 bD v154 [t1] vb1 l1 JC l2])) J Dm ?_;refine aG ⟨i+1,v172,out++ [.mk 4 bD v154 [t1] vb1 l1 JC l2],s5,vn3⟩ ⟨⟨by dsimp only;omega,hkp.inv,by dsimp only;rw [bA];simp only [bR,bG];omega,by dsimp only;rw [fL];exact iL hi2 hleft hk hg1 n4⟩,by dsimp only;omega⟩ J J J
      ·(try simp only [bk]at h28);have hj6e:j6≠1:=h28;refine aA (ap (ad J (aS (aJ cr J J J (a_ (k:=14) J)) (bj dM (.mk 4 bD v154 [t1] vb1 l1 bv []) underlying62 cr J (by decide) (by decide) J J J J fun v171=>cN 60 underlying62 cr J (by decide) (fun _=>J) (fun _=>J) J J J (aH (k:=171) J) (by simp only [bA,bR,bG];omega) (by unfold maxLen;simp only [bA,bR,bG];omega) J fun v172=>aq J (aa (ap (ad J (av J J aO (aq J (aa ?_))))))))));have hg1:G1r e.c (lv+1) k sa (eE [.mk 4 bD v154 [t1] vb1 l1 bv []]) (s4):=h5▸ .iff0 ht1 hl1.1 hj6 hj6e;have hkp:=hg1.inv hia;refine bh 40 [40,154,153,61,62] (C:=ld (out++ [.mk 4 bD v154 [t1] vb1 l1 bv []])) J Dn ?_;refine aG ⟨i+1,v172,out++ [.mk 4 bD v154 [t1] vb1 l1 bv []],s4,vn2⟩ ⟨⟨by dsimp only;omega,hkp.inv,by dsimp only;rw [bA];simp only [bR,bG];omega,by dsimp only;rw [fL];exact iL hi2 hleft hk hg1 n4⟩,by dsimp only;omega⟩ J (by dsimp only;rw [show s4.names=s3.names from(cl hj6).1];rfl) J
     ·(try simp only [bk]at h27);have q5:¬(k=6∧1≤lev):=by rintro ⟨a,b⟩;rcases h27 with h|h;exact h a;omega
      refine ar (ad J (av J J br (ad J (aI [] J J O (fun hg29=>aY J) J (aI [(177,_)] J J ⟨J,O⟩ (fun hg30=>aU J J cy) J (aS (bK J J J) (ad J (aI [] J J O (fun hg31=>aY J) J (aI [(181,_)] J J ⟨J,O⟩ (fun hg32=>aj J) J (aI [(181,_),(182,_)] J J ⟨J,J,O⟩ (fun hg33=>ah jp J) J (aI [(181,_),(182,_),(183,_)] J J ⟨J,J,J,O⟩ (fun hg34=>ae t3 J J (ax (k:=0) J J)) J (aI [(181,_),(182,_),(183,_),(184,_)] J J ⟨J,J,J,J,O⟩ (fun hg35=>aY J) J (aI [(181,_),(182,_),(183,_),(184,_),(185,_)] J J ⟨J,J,J,J,J,O⟩ (fun hg36=>aL underlying46 J (aH (k:=43) J)) J (aI [(181,_),(182,_),(183,_),(184,_),(185,_),(186,_)] J J ⟨J,J,J,J,J,J,O⟩ (fun hg37=>aU J J cy) J (aS (bK J J J) (aq J (aa (am J (fun h38=> ?_) (fun h38=> ?_)))))))))))))))))))
      ·(try simp only [bk]at h38);have h7:k=7∧sa.vars<8:=⟨h38.1.1,h38.2⟩
       obtain⟨lv,rfl⟩:∃lv,lev=lv+2:=⟨lev-2,by have:=h38.1.2;omega⟩
       obtain⟨nm,hnm,hnm1,hnm2⟩:=xm hia.v0 h7.2;obtain⟨j7,s2,hj7⟩:∃a b,gN e.c.l 5 {sa with vars:=sa.vars+1}=(a,b):=⟨_,_,J⟩
       have hjb7:=qe (by decide) hj7;have hi2b:GInv s2:=GInv.same (hia.var h7.2) (cl hj7);refine ar (ad J (ad J (bS J (aD jp J (aT 0 t3 J J J J (aS (aK (j:=sa.vars.toNat) underlying46 t9 J J (aH (k:=43) J) hnm2 hnm1) (aS (ae t9 J J (bJ (aH (k:=43) J) (by intro _;rfl) hnm (by rfl))) (aq J (aF J (ad J (bS J (aD jp J (aT 0 t3 J J J J (av J J aO (bS J (aD jp J ?_))))))))))))))));refine aB (k:=0) t3 J J J J J J J J (aF J (ad J (aS (aR (parts:= [(0,.const (I6 2)),(2,.tmp 203)]) ca fP J J) (aX ca J J fun b16=>au (k:=16) ca J J J J J J (aF J (ad J (ad J (ad J (ak (xs:= [.tmp 207,.const (I6 5)]) (cU e.g e.vl vn e.vf e.c he.hl he.hlo (5) (by decide) ({sa with vars:=sa.vars+1})) kx [0] [(false,0)] [0] (fun _ _=> ?_))))))))));rw [hj7];dsimp only;refine aS (cB underlying3 underlying41 J (by first|exact cf (by omega)|rfl)) (aS (aR (parts:= [(0,.const (I6 1)),(1,.tmp 209)]) ca fP J J) (bj dB (kb j7) underlying59 ca J (by decide) (by decide) J J J J fun v211=>aS (aR (parts:= [(0,.const (I6 1)),(1,.tmp 206),(2,.tmp 211)]) cr fO J J) (bj dM (uD nm v211 j7) underlying62 cr J (by decide) (by decide) J J J J fun v213=>cN 60 underlying62 cr J (by decide) (fun _=>J) (fun _=>J) J J J (aH (k:=213) J) (by simp only [bA,bR,bG];omega) (by unfold maxLen;simp only [bA,bR,bG];omega) J fun v214=>aq J (aF J (aS (aJ ca J J J (a_ (k:=16) J)) (bj dB (iP nm) underlying59 ca J (by decide) (by decide) J J J J fun v216=>aS (aR (parts:= [(0,.const (I6 5)),(2,.tmp 216)]) cr fO J J) (aX cr J J fun b17=>au (k:=17) cr J J J J J J (aF J (ad J (ad J ?_))))))))));refine te (aU J J (cC (c:=4-((lv+1:Nat):Int)) (by rw [show 4-((lv+2:Nat):Int)+1=4-((lv+1:Nat):Int) by omega];exact bU (by omega)))) J ?_;refine dG (xs:= [.tmp 218,.tmp 220]) (ih (lv+1) J s2 vn hi2b) Ie [0,1] [(false,0),(false,2)] [0,1,61,62] J J J J (by rw [show s2.names=sa.names from(cl hj7).1];rfl) J J J (fun _ _=>J) (fun _ _ _=>J) J (fun⟨vb1,l1,s3,vn2⟩ hl1=> ?_);dsimp only at hl1 ⊢;have hi3:GInv s3:=(hl1.1.inv hi2b).inv
       refine aD fV J (aB (k:=17) eR J J J J J J J J (aF J (aD fV J (aT 17 eR J J J J (ad J (aS (aJ ca J J J (a_ (k:=16) J)) (aS (aR (parts:= [(0,.const (I6 1)),(1,.const (I3 1))]) ca fP J J) (dz dB [iP nm,kb 1] (parts:= [(0,.tmp 226),(1,.tmp 227)]) underlying59 ca J (by decide) (by intro _;rfl) J (by decide) (by decide) J J J J fun v228=>aS (aR (parts:= [(0,.const (I6 7)),(2,.const (Sg (ByteArray.mk #[45]))),(3,.tmp 228)]) ca fP J J) (bj dB (Di eJ v228 (iP nm) (kb 1)) underlying59 ca J (by decide) (by decide) J J J J fun v230=>aS (aR (parts:= [(0,.const (I6 2)),(1,.tmp 225),(2,.tmp 230)]) cr fO J J) (bj dM (lh nm v230 v228) underlying62 cr J (by decide) (by decide) J J J J fun v232=>cN 61 underlying62 cr J (by decide) (fun _=>J) (fun _=>J) J J J (aH (k:=232) J) (by have:=hl1.2;simp only [bV];omega) (by unfold maxLen;have:=hl1.2;simp only [bV];omega) J fun v233=>aD fV J (aB (k:=17) eR J J J J J J J J (aa (aZ ?_)))))))))))));refine ap (ad J (ad J (bS J (aD gl J (aT 0 h_ J J J J (ad J (bj eS nm underlying46 t9 J (by decide) (by decide) J J J J fun v241=>cN 1 underlying46 t9 J (by decide) (fun _=>J) (fun _=>J) J J J (aH (k:=241) J) (by have:=hi3.n;simp only [bV];omega) (by unfold maxLen;have:=hi3.n;simp only [bV];omega) J fun v242=>bS J (aD gl J (aB (k:=0) h_ J J J J J J J J (aa (ap (ad J (aS (aJ cr J J J (a_ (k:=17) J)) (bj dM (nL nm v216 v233 (l1++ [lh nm v230 v228])) underlying62 cr J (by decide) (by decide) J J J J fun v247=>cN 60 underlying62 cr J (by decide) (fun _=>J) (fun _=>J) J J J (aH (k:=247) J) (by simp only [bA,bR,bG];omega) (by unfold maxLen;simp only [bA,bR,bG];omega) J fun v248=>aq J (aa ?_)))))))))))))));refine ap (ad J (av J J aO (aq J (aa ?_))));have hg1:G1r e.c (lv+2) k sa (eE [uD nm v211 j7,nL nm v216 v233 (l1++ [lh nm v230 v228])]) ({s3 with names:=s3.names++ [nm]}):=(by rw [K_];exact h7.1▸ .whi hnm h7.2 hj7 hl1.1)
       have hkp:=hg1.inv hia;refine bh 40 [40,211,216,62,228,230,61] (C:=ld (out++ [uD nm v211 j7,nL nm v216 v233 (l1++ [lh nm v230 v228])])) J Gu ?_;refine aG ⟨i+1,v248,out++ [uD nm v211 j7,nL nm v216 v233 (l1++ [lh nm v230 v228])],{s3 with names:=s3.names++ [nm]},v242⟩ ⟨⟨by dsimp only;omega,hkp.inv,by dsimp only;rw [bA];simp only [bR,bG];omega,by dsimp only;rw [fL];exact iL hi2 hleft hk hg1 n4⟩,by dsimp only;omega⟩ J (by dsimp only;rw [show out++ [uD nm v211 j7,nL nm v216 v233 (l1++ [lh nm v230 v228])]=out++ [uD nm v211 j7]++ [nL nm v216 v233 (l1++ [lh nm v230 v228])]from(List.append_assoc out [_] [_]).symm];rfl) J
      ·(try simp only [bk]at h38);have q7:¬(k=7∧2≤lev∧sa.vars<8):=by rintro ⟨a,b,c⟩;rcases h38 with(h|h)|h;exact h a;omega;exact h c
       refine ar (ad J (av J J br (ad J (fq (t:=252) J (fun h39=> ?_) (fun h39=> ?_)))))
       ·(try simp only [bk]at h39);have h8:k=8:=h39;obtain⟨j8,sb,hj8⟩:∃a b,gN e.c.l 3 sa=(a,b):=⟨_,_,J⟩
        have hnb:sb.names=sa.names:=(cl hj8).1;refine bP J J (ad J (bP J J (ak (xs:= [.tmp 253,.const (I6 3)]) (cU e.g e.vl vn e.vf e.c he.hl he.hlo (3) (by decide) (sa)) kx [0] [(false,0)] [0] (fun _ _=> ?_))));rw [hj8];dsimp only;refine bP J J (av J J br (aS (bK J J J) (aq J (aa (am J (fun h40=> ?_) (fun h40=> ?_))))))
        ·(try simp only [bk]at h40);have h80:j8=0:=h40.2;refine ap (ad J (ad J (dG (xs:= [.tmp 258,.const (I6 4)]) (lW he 3 (by decide) vn (sb) (by rw [hnb];exact hin)) nH [0] [(false,0),(true,1),(false,2)] [0,259] J J J J J (by rw [hnb];rfl) J J (fun _ _=>J) (fun _ _ _=>J) J (fun⟨t1,s2⟩ ht1=> ?_))));dsimp only at ht1 ⊢;refine bj dB t1 underlying59 ca J (by decide) (by decide) J J J J fun v260=>aS (aR (parts:= [(0,.const (I6 6)),(2,.tmp 260)]) cr fO J J) (bj dM (.mk 6 bD v260 [t1] bv [] bv []) underlying62 cr J (by decide) (by decide) J J J J fun v262=>cN 60 underlying62 cr J (by decide) (fun _=>J) (fun _=>J) J J J (aH (k:=262) J) (by simp only [bA,bR,bG];omega) (by unfold maxLen;simp only [bA,bR,bG];omega) J fun v263=>aq J (aa (ap (ad J (av J J aO (aq J (aa ?_)))))))
         have hg1:G1r e.c (lev) k sa (eE [.mk 6 bD v260 [t1] bv [] bv []]) (s2):=h8▸ .ret (h80▸hj8) ht1;have hkp:=hg1.inv hia;refine bh 40 [40,260,259] (C:=ld (out++ [.mk 6 bD v260 [t1] bv [] bv []])) J ma ?_;refine aG ⟨i+1,v263,out++ [.mk 6 bD v260 [t1] bv [] bv []],s2,vn⟩ ⟨⟨by dsimp only;omega,hkp.inv,by dsimp only;rw [bA];simp only [bR,bG];omega,by dsimp only;rw [fL];exact iL hi2 hleft hk hg1 n4⟩,by dsimp only;omega⟩ J (by dsimp only;rw [show s2.names=sa.names from ht1.keep.1.trans (cl hj8).1];rfl) J
        ·(try simp only [bk]at h40);have h80:j8≠0:=by simpa using h40
         refine aZ ?_;refine bQ [265,266,267,268,269,270,271,272,273,274,275,276,277,278,279,264] _ J (bn (V:= [(0,265,_),(1,266,_),(2,267,_),(3,268,_),(4,269,_),(5,270,_),(6,271,_),(7,272,_),(8,273,_),(9,274,_),(10,275,_),(11,276,_),(12,277,_),(13,278,_),(14,279,_),(15,264,_)]) [0,1,2,3,4,5,6,7,8,9,10,11,12,13,14,15] J J (ay J J (ac J (aU J J br) (ay J J (bl (bW [] J J J O (fun hg41=>aY J)) (bl (bW [(268,_)] J J J ⟨J,O⟩ (fun hg42=>aj J)) (bl (bW [(269,_)] J J J ⟨J,O⟩ (fun hg43=>ah fe J)) (bl (bW [(270,_)] J J J ⟨J,O⟩ (fun hg44=>ae t3 J J (ax (k:=0) J J))) (bl (bW [(271,_)] J J J ⟨J,O⟩ (fun hg45=>aU J J aO)) (bl (bW [] J J J O (fun hg46=>aY J)) (bl (bW [(273,_)] J J J ⟨J,O⟩ (fun hg47=>aj J)) (bl (bW [(274,_)] J J J ⟨J,O⟩ (fun hg48=>ah dy J)) (bl (bW [(275,_)] J J J ⟨J,O⟩ (fun hg49=>ae ip J J (ax (k:=0) J J))) (bl (bW [(276,_)] J J J ⟨J,O⟩ (fun hg50=>aL underlying25 J (aN (k:=3) J))) (bl (bW [(272,_),(277,_)] J J J ⟨J,J,O⟩ (fun hg51=>aU J J cy)) (ac J (bK J J J) (ac J (cT J) ag)))))))))))))))) J J J ?_);refine am J (fun h52=> ?_) (fun h52=> ?_)
         ·simp only [Bool.and_eq_true,decide_eq_true_eq]at h52;omega
         ·(try simp only [bk]at h52);have q9:¬(k=9∧e.c.me+1<e.F.length):=by rintro ⟨h1,h2⟩;omega
          refine ap (ad J (ad J (dG (xs:= [.tmp 45,.const (I6 4)]) (lW he 3 (by decide) vn (sb) (by rw [hnb];exact hin)) nH [0] [(false,0),(true,1),(false,2)] [0,46] J J J J J (by rw [hnb];rfl) J J (fun _ _=>J) (fun _ _ _=>J) J (fun⟨t1,s2⟩ ht1=> ?_))));dsimp only at ht1 ⊢;refine bj dB t1 underlying59 ca J (by decide) (by decide) J J J J fun v47=>aS (aR (parts:= [(0,.const (I6 7)),(2,.tmp 47)]) cr fO J J) (bj dM (wh v47 t1) underlying62 cr J (by decide) (by decide) J J J J fun v49=>cN 60 underlying62 cr J (by decide) (fun _=>J) (fun _=>J) J J J (aH (k:=49) J) (by simp only [bA,bR,bG];omega) (by unfold maxLen;simp only [bA,bR,bG];omega) J fun v50=>aq J (aa (ap (ad J (av J J aO (aq J (aa ?_)))))))
          have hg1:G1r e.c (lev) k sa (eE [wh v47 t1]) (s2):= .out q2 q3 q4.1 q4.2 (fun h=>q5 h) (fun h=>q7 h) (.inr ⟨h8,j8,h80,hj8⟩) (fun h=>q9 ⟨h.1,by rw [←hfl];exact h.2⟩) ht1;have hkp:=hg1.inv hia;refine bh 40 [40,47,46] (C:=ld (out++ [wh v47 t1])) J ma ?_;refine aG ⟨i+1,v50,out++ [wh v47 t1],s2,vn⟩ ⟨⟨by dsimp only;omega,hkp.inv,by dsimp only;rw [bA];simp only [bR,bG];omega,by dsimp only;rw [fL];exact iL hi2 hleft hk hg1 n4⟩,by dsimp only;omega⟩ J (by dsimp only;rw [show s2.names=sa.names from ht1.keep.1.trans (cl hj8).1];rfl) J
       ·(try simp only [bk]at h39);have h8:¬k=8:=h39;refine dJ J J J J (dJ J J J J (dJ J J J J (aS (bK J J J) (aq J (aa (am J (fun h53=> ?_) (fun h53=> ?_)))))))
        ·exact absurd h53 (by simp)
        ·(try simp only [bk]at h53);refine aZ ?_;refine bQ [265,266,267,268,269,270,271,272,273,274,275,276,277,278,279,264] _ J (bn (V:= [(0,265,_),(1,266,_),(2,267,_),(3,268,_),(4,269,_),(5,270,_),(6,271,_),(7,272,_),(8,273,_),(9,274,_),(10,275,_),(11,276,_),(12,277,_),(13,278,_),(14,279,_),(15,264,_)]) [0,1,2,3,4,5,6,7,8,9,10,11,12,13,14,15] J J (ay J J (ac J (aU J J br) (ay J J (bl (bW [] J J J O (fun hg54=>aY J)) (bl (bW [(268,_)] J J J ⟨J,O⟩ (fun hg55=>aj J)) (bl (bW [(269,_)] J J J ⟨J,O⟩ (fun hg56=>ah fe J)) (bl (bW [(270,_)] J J J ⟨J,O⟩ (fun hg57=>ae t3 J J (ax (k:=0) J J))) (bl (bW [(271,_)] J J J ⟨J,O⟩ (fun hg58=>aU J J aO)) (bl (bW [] J J J O (fun hg59=>aY J)) (bl (bW [(273,_)] J J J ⟨J,O⟩ (fun hg60=>aj J)) (bl (bW [(274,_)] J J J ⟨J,O⟩ (fun hg61=>ah dy J)) (bl (bW [(275,_)] J J J ⟨J,O⟩ (fun hg62=>ae ip J J (ax (k:=0) J J))) (bl (bW [(276,_)] J J J ⟨J,O⟩ (fun hg63=>aL underlying25 J (aN (k:=3) J))) (bl (bW [(272,_),(277,_)] J J J ⟨J,J,O⟩ (fun hg64=>aU J J cy)) (ac J (bK J J J) (ac J (cT J) ag)))))))))))))))) J J J ?_);refine am J (fun h65=> ?_) (fun h65=> ?_)
         ·(try simp only [bk]at h65);have h9:k=9∧e.c.me+1<e.F.length:=⟨h65.1,by have:=h65.2;omega⟩
          have hjb:=pj e.c.l (n:=(e.F.length:Int)-(e.c.me:Int)-1) (by omega) sa;obtain⟨jf,hjf⟩:∃jf:Nat,(e.c.me:Int)+1+(gN e.c.l ((e.F.length:Int)-(e.c.me:Int)-1) sa).1=(jf:Int):=⟨((e.c.me:Int)+1+(gN e.c.l ((e.F.length:Int)-(e.c.me:Int)-1) sa).1).toNat,by omega⟩
          have hjl:jf<e.F.length:=by omega
          obtain⟨f,hfj⟩:∃f,e.F[jf]?=some f:=⟨_,bT hjl⟩
          refine bz (X:=Tf×Gs×Nat) (fun y=>y.1∈e.F∧∃j,gN e.c.l ((e.F.length:Int)-(e.c.me:Int)-1) sa=(j,y.2.1)∧e.c.fs[((e.c.me:Int)+1+j).toNat]?=some (y.1.name,y.1.ps)) (fun y=> [(0,Pt e.g),(1,I6 (4-(lev:Int))),(5,sv vo),(6,I6 (many:Int)),(7,I6 (i:Int)),(18,Pt y.2.2)]) (fun y=> [(0,be e.g 102 (ib e.vl (y.2.1) vn e.c.me e.vf)),(1,own 9 1 eS (sv vn) sa.names),(60,own 64 5 dM (sv vo) out),(40,ld out),(18,be y.2.2 66 (gu y.1))]) (fun y=> [(0,sl 1 eI (sv e.vl) e.c.l),(2,cE e.vf e.F),(3,sl 3 gu (sv e.vf) e.F)]) ?_ (fun y hy=> ?_)
          ·refine bQ [280,281,282,283,284,285,286,287,288,289,290,291,292,293,294,295,296,297,298,299,300,301,302,303,304,18] _ J (fp (V:= [(0,280,_),(1,281,_),(2,282,_),(3,283,_),(4,284,_),(5,285,_),(6,286,_),(7,287,_),(8,288,_),(9,289,_),(10,290,_),(11,291,_),(12,292,_),(13,293,_),(14,294,_),(15,295,_),(16,296,_),(17,297,_),(18,298,_),(19,299,_),(20,300,_)]) [0,1,2,3,4,5,6,7,8,9,10,11,12,13,14,15,16,17,18,19,20] J J (ay J J (ac J (aj J) (ac J (ah dy J) (ac J (ae ip J J (ax (k:=0) J J)) (ay J J (ac J (aj J) (ac J (ah fe J) (ac J (ae t3 J J (ax (k:=0) J J)) (ac J (aU J J aO) (ay J J (ay J J (ac J (aj J) (ac J (ah dy J) (ac J (ae ip J J (ax (k:=0) J J)) (ac J (aL underlying25 J (aN (k:=3) J)) (ay J J (ac J (aj J) (ac J (ah fe J) (ac J (ae t3 J J (ax (k:=0) J J)) (ac J (aU J J eL) (ac J (aU J J eL) ag))))))))))))))))))))) J [21,25] J J (bC (ea 21 [21,20,19,18,17,16,15,14,13,12,11,10,9] [22,23,24] (fun _=> [(22,302,_),(23,303,_),(24,304,_)]) J J J J J J J J J (fun _ _=>J) J (bw (xs:= [.tmp 289,.tmp 300]) (cU e.g e.vl vn e.vf e.c he.hl he.hlo (((e.F.length:Int)-(e.c.me:Int)-1)) (by omega) (sa)) kx [0] [(false,0)] [0]) (fun _ _=>aW [22,23,24,0,1,2,3,4,5,6,7,8] 25 [25,21,20,19,18,17,16,15,14,13,12,11,10,9] [] (fun b18=> []) J J (ac J (aU J J aO) (ac J (aK (j:=jf) underlying25 fC J J (aN (k:=3) J) hjf hjl) (ac J (aJ fC J J J (bJ (aN (k:=3) J) (by intro _;rfl) hfj (by rfl))) (ay J J (ac J (aj J) (ac J (ah dy J) (ac J (ae ip J J (ax (k:=0) J J)) (ay J J (ac J (aj J) (ac J (ah fe J) (ac J (ae t3 J J (ax (k:=0) J J)) (ac J (aU J J aO) ag)))))))))))) J J J J J J J J J J J (fun _ _=>J) J (d6 fC J) (fun b18 _=>bH [22,23,24,0,1,2,3,4,5,6,7,8] 26 [26,25,24,23,22,21,20,19,18,17,16,15,14,13,12,11,10,9,8,7,6,5,4,3,2,1,0] [] (fun _=> []) J J (ac J (aU J J aO) (ac J (aK (j:=jf) underlying25 fC J J (aN (k:=3) J) hjf hjl) (ac J (aJ fC J J J (bJ (aN (k:=3) J) (by intro _;rfl) hfj (by rfl))) (ay J J (ac J (aj J) (ac J (ah dy J) (ac J (ae ip J J (ax (k:=0) J J)) (ay J J (ac J (aj J) (ac J (ah fe J) (ac J (ae t3 J J (ax (k:=0) J J)) (ac J (aU J J aO) ag)))))))))))) J J J J J J J J J (fun _ _=>J) J (bL (k:=18) fC J J J J J J) (fun _ _=>bn [] J J ag J J J ?_)))) (bC (ea 25 [25] [] (fun b18=> []) J J J J J J J J J (fun _ _=>J) J (d6 fC J) (fun b18 _=>aW [0,1,2,3,4,5,6,7,8,9,10,11,12,13,14,15,16,17,18,19,20] 21 [25,21,20,19,18,17,16,15,14,13,12,11,10,9] [22,23,24] (fun _=> [(22,302,_),(23,303,_),(24,304,_)]) J J (ay J J (ac J (aj J) (ac J (ah dy J) (ac J (ae ip J J (ax (k:=0) J J)) (ay J J (ac J (aj J) (ac J (ah fe J) (ac J (ae t3 J J (ax (k:=0) J J)) (ac J (aU J J aO) (ay J J (ay J J (ac J (aj J) (ac J (ah dy J) (ac J (ae ip J J (ax (k:=0) J J)) (ac J (aL underlying25 J (aN (k:=3) J)) (ay J J (ac J (aj J) (ac J (ah fe J) (ac J (ae t3 J J (ax (k:=0) J J)) (ac J (aU J J eL) (ac J (aU J J eL) ag))))))))))))))))))))) J J J J J J J J J J J (fun _ _=>J) J (bw (xs:= [.tmp 289,.tmp 300]) (cU e.g e.vl vn e.vf e.c he.hl he.hlo (((e.F.length:Int)-(e.c.me:Int)-1)) (by omega) (sa)) kx [0] [(false,0)] [0]) (fun _ _=>bH [22,23,24,0,1,2,3,4,5,6,7,8] 26 [26,25,24,23,22,21,20,19,18,17,16,15,14,13,12,11,10,9,8,7,6,5,4,3,2,1,0] [] (fun _=> []) J J (ac J (aU J J aO) (ac J (aK (j:=jf) underlying25 fC J J (aN (k:=3) J) hjf hjl) (ac J (aJ fC J J J (bJ (aN (k:=3) J) (by intro _;rfl) hfj (by rfl))) (ay J J (ac J (aj J) (ac J (ah dy J) (ac J (ae ip J J (ax (k:=0) J J)) (ay J J (ac J (aj J) (ac J (ah fe J) (ac J (ae t3 J J (ax (k:=0) J J)) (ac J (aU J J aO) ag)))))))))))) J J J J J J J J J (fun _ _=>J) J (bL (k:=18) fC J J J J J J) (fun _ _=>bn [] J J ag J J J ?_)))) dv)))
           ·refine aG (f,(gN e.c.l ((e.F.length:Int)-(e.c.me:Int)-1) sa).2,b18) ⟨cd hfj,(gN e.c.l ((e.F.length:Int)-(e.c.me:Int)-1) sa).1,J,by rw [he.fs,List.getElem?_map,show((e.c.me:Int)+1+(gN e.c.l ((e.F.length:Int)-(e.c.me:Int)-1) sa).1).toNat=jf by omega,hfj];rfl⟩ J J J
           ·refine aG (f,(gN e.c.l ((e.F.length:Int)-(e.c.me:Int)-1) sa).2,b18) ⟨cd hfj,(gN e.c.l ((e.F.length:Int)-(e.c.me:Int)-1) sa).1,J,by rw [he.fs,List.getElem?_map,show((e.c.me:Int)+1+(gN e.c.l ((e.F.length:Int)-(e.c.me:Int)-1) sa).1).toNat=jf by omega,hfj];rfl⟩ J J J
          ·obtain⟨f2,s2b,b18⟩:=y;obtain⟨hfm,jn,hjn,hfx⟩:=hy;dsimp only at hfm hjn hfx ⊢;obtain⟨j10,s3b,hj10⟩:∃a b,gN e.c.l 8 s2b=(a,b):=⟨_,_,J⟩
           have hn3:s3b.names=sa.names:=(cl hj10).1.trans (cl hjn).1;refine bz (X:=Tf×Gs) (fun y=>y.1∈e.F∧y.2.names=sa.names∧((j10≠7∧e.c.fs[((e.c.me:Int)+1+jn).toNat]?=some (y.1.name,y.1.ps)∧y.2=s3b)∨(j10=7∧∃j3,gN e.c.l ((e.c.fs.length:Int)-1) s3b=(j3,y.2)∧e.c.fs[(1+j3).toNat]?=some (y.1.name,y.1.ps)))) (fun y=> [(0,Pt e.g),(1,I6 (4-(lev:Int))),(5,sv vo),(6,I6 (many:Int)),(7,I6 (i:Int)),(18,Pt b18)]) (fun y=> [(0,be e.g 102 (ib e.vl (y.2) vn e.c.me e.vf)),(1,own 9 1 eS (sv vn) sa.names),(60,own 64 5 dM (sv vo) out),(40,ld out),(18,be b18 66 (gu y.1))]) (fun y=> [(0,sl 1 eI (sv e.vl) e.c.l),(2,cE e.vf e.F),(3,sl 3 gu (sv e.vf) e.F)]) ?_ (fun y hy=> ?_)
           ·refine ar (ad J (ak (xs:= [.tmp 305,.const (I6 8)]) (cU e.g e.vl vn e.vf e.c he.hl he.hlo (8) (by decide) (s2b)) kx [0] [(false,0)] [0] (fun _ _=> ?_)));rw [hj10];dsimp only;refine av J J br (aa (am J (fun h66=> ?_) (fun h66=> ?_)))
            ·(try simp only [bk]at h66);have h10:j10=7:=h66;have hjb3:=pj e.c.l (n:=(e.F.length:Int)-1) (by omega) s3b;obtain⟨jg,hjg⟩:∃jg:Nat,(1:Int)+(gN e.c.l ((e.F.length:Int)-1) s3b).1=(jg:Int):=⟨((1:Int)+(gN e.c.l ((e.F.length:Int)-1) s3b).1).toNat,by omega⟩
             have hjgl:jg<e.F.length:=by omega
             obtain⟨f5,hgj⟩:∃f,e.F[jg]?=some f:=⟨_,bT hjgl⟩
             refine bQ [308,309,310,311,312,313,314,315,316,317,318,319,320,321,322] _ J (aW (V:= [(0,308,_),(1,309,_),(2,310,_),(3,311,_),(4,312,_),(5,313,_),(6,314,_),(7,315,_),(8,316,_),(9,317,_),(10,318,_)]) [0,1,2,3,4,5,6,7,8,9,10] 11 [11,10,9,8,7,6,5,4] [12,13,14] (fun _=> [(12,320,_),(13,321,_),(14,322,_)]) J J (ay J J (ac J (aj J) (ac J (ah dy J) (ac J (ae ip J J (ax (k:=0) J J)) (ay J J (ay J J (ac J (aj J) (ac J (ah dy J) (ac J (ae ip J J (ax (k:=0) J J)) (ac J (aL underlying25 J (aN (k:=3) J)) (ac J (aU J J eL) ag))))))))))) J J J J J J J J J J J (fun _ _=>J) J (bw (xs:= [.tmp 312,.tmp 318]) (cU e.g e.vl vn e.vf e.c he.hl he.hlo (((e.F.length:Int)-1)) (by omega) (s3b)) kx [0] [(false,0)] [0]) (fun _ _=>bH [12,13,14,0,1,2,3] 15 [15,14,13,12,11,10,9,8,7,6,5,4,3,2,1,0] [] (fun _=> []) J J (ac J (aU J J aO) (ac J (aK (j:=jg) underlying25 fC J J (aN (k:=3) J) hjg hjgl) (ac J (aJ fC J J J (bJ (aN (k:=3) J) (by intro _;rfl) hgj (by rfl))) (ay J J (ac J (aj J) (ac J (ah dy J) (ac J (ae ip J J (ax (k:=0) J J)) ag))))))) J J J J J J J J J (fun _ _=>J) J (bL (k:=18) fC J J J J J J) (fun _ _=>bn [] J J ag J J J ?_)));refine aG (f5,(gN e.c.l ((e.F.length:Int)-1) s3b).2) ⟨cd hgj,(kP _ _ _).1.trans hn3,.inr ⟨h10,(gN e.c.l ((e.F.length:Int)-1) s3b).1,by rw [hfl],by rw [he.fs,List.getElem?_map,show((1:Int)+(gN e.c.l ((e.F.length:Int)-1) s3b).1).toNat=jg by omega,hgj];rfl⟩⟩ J J J
            ·(try simp only [bk]at h66);have h10:j10≠7:=h66;refine aA (aG (f2,s3b) ⟨hfm,hn3,.inl ⟨h10,hfx,J⟩⟩ J J J)
           ·obtain⟨f4,s4b⟩:=y;obtain⟨hf4,hn4,hff⟩:=hy;dsimp only at hf4 hn4 hff ⊢;refine ap (ad J (ad J (aS (aJ fC J J J (a_ (k:=18) J)) (dG (xs:= [.tmp 324,.tmp 325,.const (I6 3)]) (KV he 1 (by decide) vn s4b f4 hf4 (by rw [hn4];exact hin)) NC [0] [(false,0),(true,1),(false,2)] [0,326] J J J J J (by rw [hn4];rfl) J J (fun _ _=>J) (fun _ _ _=>J) J (fun⟨t1,s5⟩ ht1=> ?_)))));dsimp only at ht1 ⊢;refine bj dB t1 underlying59 ca J (by decide) (by decide) J J J J fun v327=>aS (aR (parts:= [(0,.const (I6 8)),(2,.tmp 327)]) cr fO J J) (bj dM (.mk 8 bD v327 [t1] bv [] bv []) underlying62 cr J (by decide) (by decide) J J J J fun v329=>cN 60 underlying62 cr J (by decide) (fun _=>J) (fun _=>J) J J J (aH (k:=329) J) (by simp only [bA,bR,bG];omega) (by unfold maxLen;simp only [bA,bR,bG];omega) J fun v330=>aq J (aa (ap (ad J (av J J aO (aq J (aa ?_)))))))
            have hg1:G1r e.c (lev) k sa (eE [.mk 8 bD v327 [t1] bv [] bv []]) (s5):=h9.1▸ .dos (by rw [hfl];exact h9.2) (by rw [hfl];exact hjn) hj10 hff ht1;have hkp:=hg1.inv hia;refine bh 40 [40,327,326] (C:=ld (out++ [.mk 8 bD v327 [t1] bv [] bv []])) J ma ?_;refine aG ⟨i+1,v330,out++ [.mk 8 bD v327 [t1] bv [] bv []],s5,vn⟩ ⟨⟨by dsimp only;omega,hkp.inv,by dsimp only;rw [bA];simp only [bR,bG];omega,by dsimp only;rw [fL];exact iL hi2 hleft hk hg1 n4⟩,by dsimp only;omega⟩ J (by dsimp only;rw [show s5.names=sa.names from ht1.keep.1.trans hn4];rfl) J
         ·(try simp only [bk]at h65);have q9:¬(k=9∧e.c.me+1<e.F.length):=by rintro ⟨h1,h2⟩;rcases h65 with h|h;exact h h1;omega
          refine ap (ad J (ad J (ak (xs:= [.tmp 45,.const (I6 4)]) (lW he 3 (by decide) vn sa hin) nH [0] [(false,0),(true,1),(false,2)] [0,46] (fun⟨t1,s2⟩ ht1=> ?_))));dsimp only at ht1 ⊢;refine bj dB t1 underlying59 ca J (by decide) (by decide) J J J J fun v47=>aS (aR (parts:= [(0,.const (I6 7)),(2,.tmp 47)]) cr fO J J) (bj dM (wh v47 t1) underlying62 cr J (by decide) (by decide) J J J J fun v49=>cN 60 underlying62 cr J (by decide) (fun _=>J) (fun _=>J) J J J (aH (k:=49) J) (by simp only [bA,bR,bG];omega) (by unfold maxLen;simp only [bA,bR,bG];omega) J fun v50=>aq J (aa (ap (ad J (av J J aO (aq J (aa ?_)))))))
          have hg1:G1r e.c (lev) k sa (eE [wh v47 t1]) (s2):= .out q2 q3 q4.1 q4.2 (fun h=>q5 h) (fun h=>q7 h) (.inl ⟨h8,J⟩) (fun h=>q9 ⟨h.1,by rw [←hfl];exact h.2⟩) ht1;have hkp:=hg1.inv hia;refine bh 40 [40,47,46] (C:=ld (out++ [wh v47 t1])) J ma ?_;refine aG ⟨i+1,v50,out++ [wh v47 t1],s2,vn⟩ ⟨⟨by dsimp only;omega,hkp.inv,by dsimp only;rw [bA];simp only [bR,bG];omega,by dsimp only;rw [fL];exact iL hi2 hleft hk hg1 n4⟩,by dsimp only;omega⟩ J (by dsimp only;rw [show s2.names=sa.names from ht1.keep.1];rfl) J
 ·(try simp only [bk]at h6);have hend:GLr e.c lev (many-i) s [] s:=by
   by_cases hh:i<many
   ·refine .stop ?_;rcases h6 with h|h
    ·omega
    ·omega
   ·rw [show many-i=0 by omega];exact .zero
  have hfin:=n4 _ _ hend;rw [List.append_nil]at hfin;refine bM (ar (ad J (aq J (aa (az ?_)))));refine aQ (vo,out,s,vn) ⟨.mk hj0 (by rw [hmany];exact hfin),by dsimp only;omega⟩ J (cc (aP J)) J [0,1,60,40] [] J J J
theorem AL{e:Ge}(he:Gfine e):∀lev,lev≤3→Q5 e lev
 | 0,h=>fun s vn hi=>qd e he 0 h (fun k hk=>by omega) s vn hi
 | lev+1,h=>fun s vn hi=>qd e he (lev+1) h (fun k hk=>(show lev=k by omega)▸AL he lev (by omega)) s vn hi
theorem iI{t:Tx}{k n:Int}{nm:Ba}{ps:List Px}(h:lz t= .mk k n nm ps):∃v kids,t= .mk k n nm v kids∧gT kids=ps:=by
 cases t with
 | mk k2 n2 nm2 v kids=>
  rw [lz]at h;injection h with h1 h2 h3 h4;subst h1;subst h2;subst h3;exact⟨v,kids,J,h4⟩
theorem iy{ts:List Tx}(h:gT ts= []):ts= []:=by
 cases ts with
 | nil=>rfl
 | cons t r=>rw [gT]at h;cases h
theorem pu{ts:List Tx}{p:Px}{ps:List Px}(h:gT ts=p::ps):∃t r,ts=t::r∧lz t=p∧gT r=ps:=by
 cases ts with
 | nil=>rw [gT]at h;cases h
 | cons t r=>rw [gT]at h;injection h with h1 h2;exact⟨t,r,rfl,h1,h2⟩
theorem fM{ts:List Tx}{p:Px}(h:gT ts= [p]):∃t,ts= [t]∧lz t=p:=by
 obtain⟨t,r,rfl,h1,h2⟩:=pu h;rw [iy h2];exact⟨t,J,h1⟩
theorem sF{ts:List Tx}{p q:Px}(h:gT ts= [p,q]):∃t u,ts= [t,u]∧lz t=p∧lz u=q:=by
 obtain⟨t,r,rfl,h1,h2⟩:=pu h;obtain⟨u,rfl,h3⟩:=fM h2;exact⟨t,u,J,h1,h3⟩
theorem jI{t:Ty}{k:Int}{nm:Ba}{es:List Px}{bs ls:List Py}(h:E9 t= .mk k nm es bs ls):∃v xs vb b vl l,t= .mk k nm v xs vb b vl l∧gT xs=es∧eE b=bs∧eE l=ls:=by
 cases t with
 | mk k2 nm2 v xs vb b vl l=>
  rw [E9]at h;injection h with h1 h2 h3 h4 h5;subst h1;subst h2;exact⟨v,xs,vb,b,vl,l,J,h3,h4,h5⟩
theorem dL{ts:List Ty}(h:eE ts= []):ts= []:=by
 cases ts with
 | nil=>rfl
 | cons t r=>rw [eE]at h;cases h
theorem pr{ts:List Ty}{p:Py}{ps:List Py}(h:eE ts=p::ps):∃t r,ts=t::r∧E9 t=p∧eE r=ps:=by
 cases ts with
 | nil=>rw [eE]at h;cases h
 | cons t r=>rw [eE]at h;injection h with h1 h2;exact⟨t,r,rfl,h1,h2⟩
theorem gS{ts:List Ty}{p:Py}(h:eE ts= [p]):∃t,ts= [t]∧E9 t=p:=by
 obtain⟨t,r,rfl,h1,h2⟩:=pr h;rw [dL h2];exact⟨t,J,h1⟩
theorem ny:∀{a:List Py}{b:List Py}{ts:List Ty},eE ts=a++b→∃u v,ts=u++v∧eE u=a∧eE v=b
 | [],b,ts,h=>⟨[],ts,rfl,by rw [eE],h⟩
 | x::a,b,ts,h=>by
  obtain⟨t,r,rfl,h1,h2⟩:=pr h;obtain⟨u,v,rfl,h3,h4⟩:=ny h2;exact⟨t::u,v,J,by rw [eE,h1,h3],h4⟩
theorem wb:∀{a b:List Ty},GYs a→GYs b→GYs (a++b)
 | [],_,_,hb=>hb
 | _::_,_,ha,hb=>⟨ha.1,wb ha.2 hb⟩
theorem vv{k n:Int}{nm:Ba}{v:SV}(d:Nat)(hn:oW n)(hm:oP nm):GX (.mk k n nm v [])∧nX (.mk k n nm v [])≤5^(d+1):=
 ⟨⟨hn,hm,bq _,trivial⟩,by rw [nX,eH];exact Nat.one_le_pow _ _ (by decide)⟩
theorem GV(d:Nat):5^(d+1+1)=5*5^(d+1)∧5≤5^(d+1):=by
 have h1:1≤5^d:=Nat.one_le_pow _ _ (by decide);have h2:5^(d+1)=5^d*5:=Nat.pow_succ ..;have h3:5^(d+1+1)=5^(d+1)*5:=Nat.pow_succ ..;omega
theorem D7{k n:Int}{nm:Ba}{v:SV}{d:Nat}{t:Tx}(hn:oW n)(hm:oP nm)(h:GX t∧nX t≤5^(d+1)):GX (.mk k n nm v [t])∧nX (.mk k n nm v [t])≤5^(d+1+1):=
 ⟨⟨hn,hm,by show 1≤1000000;decide,h.1,trivial⟩,by rw [nX,eH,eH];have:=GV d;have:=h.2;omega⟩
theorem JE{k n:Int}{nm:Ba}{v:SV}{d:Nat}{t u:Tx}(hn:oW n)(hm:oP nm)(h:GX t∧nX t≤5^(d+1))(h2:GX u∧nX u≤5^(d+1)):GX (.mk k n nm v [t,u])∧nX (.mk k n nm v [t,u])≤5^(d+1+1):=
 ⟨⟨hn,hm,by show 2≤1000000;decide,h.1,h2.1,trivial⟩,by rw [nX,eH,eH,eH];have:=GV d;have:=h.2;have:=h2.2;omega⟩
theorem Oz{x:Int}{j:Nat}(h:cL[j]?=some x):oW x:=by
 have h1:=cd h;simp only [cL,List.mem_cons,List.not_mem_nil,or_false]at h1;rcases h1 with rfl|rfl|rfl|rfl|rfl|rfl|rfl|rfl|rfl|rfl|rfl|rfl|rfl|rfl|rfl<;>decide
theorem JD{x:Ba}{j:Nat}(h:ti[j]?=some x):oP x:=by
 have h1:=cd h;simp only [ti,List.mem_cons,List.not_mem_nil,or_false]at h1;rcases h1 with rfl|rfl|rfl<;>exact dw J
theorem LA{x:Ba}{j:Nat}(h:OC[j]?=some x):oP x:=by
 have h1:=cd h;simp only [OC,List.mem_cons,List.not_mem_nil,or_false]at h1;rcases h1 with rfl|rfl|rfl|rfl|rfl|rfl|rfl|rfl|rfl|rfl|rfl|rfl|rfl|rfl|rfl|rfl<;>exact dw J
theorem sh{x:Ba}{j:Nat}(h:freshL[j]?=some x):oP x:=by
 have h1:=cd h;simp only [freshL,List.mem_cons,List.not_mem_nil,or_false]at h1;rcases h1 with rfl|rfl|rfl|rfl|rfl|rfl|rfl|rfl<;>exact dw J
def Nm(s:Gs):Prop:=∀x∈s.names,oP x
theorem Nm.same{s s':Gs}(h:Nm s)(k:s'.names=s.names):Nm s':=by unfold Nm;rw [k];exact h
def L8(c:Gc):Prop:=∀f∈c.fs,oP f.1∧f.2.length≤4
mutual
theorem GXr.gx{c:Gc}(hc:L8 c):∀{d:Nat}{s s':Gs}{p:Px},GXr c d s p s'→Nm s→∀t,lz t=p→GX t∧nX t≤5^(d+1)
 | d,s,_,_,.nam hk h hn hj hx,hs,t,ht=>by
  obtain⟨v,kids,rfl,hkk⟩:=iI ht;cases iy hkk;exact vv d lm (hs _ ((ln hk).1▸cd hx))
 | d,s,_,_,.inp hk,hs,t,ht=>by
  obtain⟨v,kids,rfl,hkk⟩:=iI ht;cases iy hkk;exact vv d lm (dw J)
 | _,s,_,_,.mem hk h hp,hs,t,ht=>by
  obtain⟨v,kids,rfl,hkk⟩:=iI ht;obtain⟨t1,rfl,h1⟩:=fM hkk;exact D7 lm (dw J) (hp.gx hc (hs.same (ln hk).1) t1 h1)
 | _,s,_,_,.una hk hj hx hp,hs,t,ht=>by
  obtain⟨v,kids,rfl,hkk⟩:=iI ht;obtain⟨t1,rfl,h1⟩:=fM hkk;exact D7 lm (JD hx) (hp.gx hc ((hs.same (ln hk).1).same (cl hj).1) t1 h1)
 | d+1,s,_,_,.call hk h hj hx hp,hs,t,ht=>by
  obtain⟨v,kids,rfl,hkk⟩:=iI ht;have hf:=hc _ (cd hx);obtain⟨h1,h2,h3⟩:=hp.gx hc ((hs.same (ln hk).1).same (cl hj).1) kids hkk;refine⟨⟨lm,hf.1,by omega,h1⟩,?_⟩;rw [nX];have:=GV d;have h4:_*5^(d+1)≤4*5^(d+1):=Nat.mul_le_mul_right _ hf.2;omega
 | _,s,_,_,.bin hk h hj hx hp hq,hs,t,ht=>by
  obtain⟨v,kids,rfl,hkk⟩:=iI ht;obtain⟨t1,t2,rfl,h1,h2⟩:=sF hkk;have hs2:=(hs.same (ln hk).1).same (cl hj).1;exact JE lm (LA hx) (hp.gx hc hs2 t1 h1) (hq.gx hc (hs2.same hp.keep.1) t2 h2)
 | d,s,_,_,.con hk h1 h3 h4 h5 h6 h7 h8 hj hx,hs,t,ht=>by
  obtain⟨v,kids,rfl,hkk⟩:=iI ht;cases iy hkk;exact vv d (Oz hx) (dw J)
theorem GKr.gx{c:Gc}(hc:L8 c):∀{d n:Nat}{s s':Gs}{ps:List Px},GKr c d n s ps s'→Nm s→∀ts,gT ts=ps→GXs ts∧eH ts≤n*5^(d+1)∧ts.length=n
 | d,_,s,_,_,.nil,hs,ts,ht=>by
  cases iy ht;exact⟨O,by rw [eH];exact bq _,J⟩
 | d,n+1,s,_,_,.cons hp hq,hs,ts,ht=>by
  obtain⟨t,r,rfl,h1,h2⟩:=pu ht;obtain⟨a1,a2⟩:=hp.gx hc hs t h1;obtain⟨b1,b2,b3⟩:=hq.gx hc (hs.same hp.keep.1) r h2;refine⟨⟨a1,b1⟩,?_,by rw [bR,b3]⟩;rw [eH,Nat.succ_mul];omega
end
theorem GCr.gx{c:Gc}(hc:L8 c){d:Nat}{f:Ba×List Ba}{s s':Gs}{p:Px}(hf:f∈c.fs)(h:GCr c d f s p s')(hs:Nm s)(t:Tx)(ht:lz t=p):GX t∧nX t≤5^(d+1+1):=by
 obtain⟨ps,h1,rfl⟩:=h;obtain⟨v,kids,rfl,hkk⟩:=iI ht;obtain⟨h1,h2,h3⟩:=h1.gx hc hs kids hkk;have h5:=hc f hf;refine⟨⟨lm,h5.1,by omega,h1⟩,?_⟩;rw [nX];have:=GV d;have h4:f.2.length*5^(d+1)≤4*5^(d+1):=Nat.mul_le_mul_right _ h5.2;omega
def OW(s s':Gs)(m:Int)(ts:List Ty):Prop:=GYs ts∧(cM ts:Int)≤4000*(s.left-s'.left)+m∧Nm s'
theorem sE{k:Int}{nm:Ba}{v:SV}{t:Tx}{d:Nat}(hm:oP nm)(h:GX t∧nX t≤5^(d+1))(hd:d≤3){vb vl:SV}:GY (.mk k nm v [t] vb [] vl [])∧nY (.mk k nm v [t] vb [] vl [])≤626:=by
 refine⟨⟨hm,⟨by show 1≤1000000;decide,h.1,trivial⟩,⟨bq _,O⟩,bq _,O⟩,?_⟩;rw [nY,eH,eH,cM];have h5:5^(d+1)≤5^4:=Nat.pow_le_pow_right (by decide) (by omega);have:=h.2;omega
theorem mi{s s':Gs}{t:Ty}(h:GY t∧nY t≤2000)(hl:s'.left≤s.left)(hn:Nm s'):OW s s' 4000 [t]:=by
 refine⟨⟨h.1,O⟩,?_,hn⟩;rw [cM,cM];have:=h.2;omega
mutual
theorem GYr.gy{c:Gc}(hc:L8 c):∀{e:Nat}{s s':Gs}{o:List Py},GYr c e s o s'→GInv s→Nm s→∀ts,eE ts=o→OW s s' 0 ts∧ts.length≤10
 | _,s,s',_,.mk (s1:=s1) hj h,hi,hs,ts,ht=>by
  have k:=cl hj;obtain⟨⟨h1,h2,h3⟩,h4⟩:=h.gy hc (hi.same k) (hs.same k.1) ts ht;have:=qe (by decide) hj;exact⟨⟨h1,by rw [←k.2.1];exact h2,h3⟩,by omega⟩
theorem GLr.gy{c:Gc}(hc:L8 c):∀{e n:Nat}{s s':Gs}{o:List Py},GLr c e n s o s'→GInv s→Nm s→∀ts,eE ts=o→OW s s' 0 ts∧ts.length≤2*n
 | _,_,s,_,_,.zero,hi,hs,ts,ht=>by
  cases dL ht;exact⟨⟨O,by rw [cM];omega,hs⟩,bq _⟩
 | _,_,s,_,_,.stop _,hi,hs,ts,ht=>by
  cases dL ht;exact⟨⟨O,by rw [cM];omega,hs⟩,bq _⟩
 | _,n+1,s,s3,_,.step (s1:=s1) (s2:=s2) hl hk h1 h2,hi,hs,ts,ht=>by
  obtain⟨u,v,rfl,hu,hv⟩:=ny ht;have hi2:GInv {s with left:=s.left-1}:=⟨hi.v0,hi.v8,hi.nm,by show s.left-1≤1000;have:=hi.lf;omega⟩
  have k:=cl hk;have hi3:=hi2.same k;have hs3:Nm s1:=Nm.same (s:={s with left:=s.left-1}) hs k.1;obtain⟨⟨a1,a2,a3⟩,a4⟩:=h1.gy hc hi3 hs3 u hu;obtain⟨⟨b1,b2,b3⟩,b4⟩:=h2.gy hc (h1.inv hi3).inv a3 v hv;refine⟨⟨wb a1 b1,?_,b3⟩,?_⟩
  ·rw [ml];have k2:s1.left=s.left-1:=k.2.1;omega
  ·rw [bA];omega
theorem G1r.gy{c:Gc}(hc:L8 c):∀{e:Nat}{k:Int}{s s':Gs}{o:List Py},G1r c e k s o s'→GInv s→Nm s→∀ts,eE ts=o→OW s s' 4000 ts∧ts.length≤2
 | _,_,s,_,_,.var (s1:=s1) (x:=x) _ hx hv hp,hi,hs,ts,ht=>by
  obtain⟨t,rfl,hty⟩:=gS ht;obtain⟨v,xs,vb,b,vl,l,rfl,h1,h2,h3⟩:=jI hty;obtain⟨t1,rfl,e1⟩:=fM h1;cases dL h2;cases dL h3;have hg:=hp.gx hc (s:={s with vars:=s.vars+1}) hs t1 e1;have hk:=hp.keep;have hy:=sE (k:=1) (v:=v) (vb:=vb) (vl:=vl) (sh hx) hg (by decide);refine⟨mi ⟨hy.1,by have:=hy.2;omega⟩ (by show s1.left≤s.left;rw [hk.2.1];exact Int.le_refl _) ?_,by show 1≤2;decide⟩;intro y hy;rcases List.mem_append.1 hy with hy|hy
  ·exact hs _ (hk.1▸hy)
  ·rw [List.mem_singleton.1 hy];exact sh hx
 | _,_,s,_,_,.set hn hj hx hp,hi,hs,ts,ht=>by
  obtain⟨t,rfl,hty⟩:=gS ht;obtain⟨v,xs,vb,b,vl,l,rfl,h1,h2,h3⟩:=jI hty;obtain⟨t1,rfl,e1⟩:=fM h1;cases dL h2;cases dL h3;have kj:=cl hj;have hs1:=hs.same kj.1;have hg:=hp.gx hc hs1 t1 e1;have hk:=em kj hp.keep;have hy:=sE (k:=2) (v:=v) (vb:=vb) (vl:=vl) (hs _ (cd hx)) hg (by decide);exact⟨mi ⟨hy.1,by have:=hy.2;omega⟩ (by rw [hk.2.1];exact Int.le_refl _) (hs.same hk.1),by show 1≤2;decide⟩
 | _,_,s,_,_,.put hk hp hq,hi,hs,ts,ht=>by
  obtain⟨t,rfl,hty⟩:=gS ht;obtain⟨v,xs,vb,b,vl,l,rfl,h1,h2,h3⟩:=jI hty;obtain⟨t1,t2,rfl,e1,h4⟩:=sF h1;cases dL h2;cases dL h3;have hg1:=hp.gx hc hs t1 e1;have hg2:=hq.gx hc (hs.same hp.keep.1) t2 h4;have hk:=em hp.keep hq.keep;refine⟨mi ⟨⟨dw J,⟨by show 2≤1000000;decide,hg1.1,hg2.1,trivial⟩,⟨bq _,O⟩,bq _,O⟩,?_⟩ (by rw [hk.2.1];exact Int.le_refl _) (hs.same hk.1),by show 1≤2;decide⟩;rw [nY,eH,eH,eH,cM];have:=hg1.2;have:=hg2.2;omega
 | _,_,s,s4,_,.iff1 (s1:=s1) (s2:=s2) (s3:=s3) hp ha hj hb,hi,hs,ts,ht=>by
  obtain⟨t,rfl,hty⟩:=gS ht;obtain⟨v,xs,vb,b,vl,l,rfl,h1,h2,h3⟩:=jI hty;obtain⟨t1,rfl,e1⟩:=fM h1;have hg1:=hp.gx hc hs t1 e1;have hi1:=hi.same hp.keep;have hs1:=hs.same hp.keep.1;obtain⟨⟨a1,a2,a3⟩,a4⟩:=ha.gy hc hi1 hs1 b h2;have kj:=cl hj;have hi2:=(ha.inv hi1).inv;have hi3:=hi2.same kj;obtain⟨⟨b1,b2,b3⟩,b4⟩:=hb.gy hc hi3 (a3.same kj.1) l h3;refine⟨⟨⟨⟨dw J,⟨by show 1≤1000000;decide,hg1.1,trivial⟩,⟨by omega,a1⟩,by omega,b1⟩,O⟩,?_,b3⟩,by show 1≤2;decide⟩;rw [cM,cM,nY,eH,eH];have:=hg1.2;have:=hp.keep.2.1;have:=kj.2.1;omega
 | _,_,s,s4,_,.iff0 (s1:=s1) (s2:=s2) hp ha hj _,hi,hs,ts,ht=>by
  obtain⟨t,rfl,hty⟩:=gS ht;obtain⟨v,xs,vb,b,vl,l,rfl,h1,h2,h3⟩:=jI hty;obtain⟨t1,rfl,e1⟩:=fM h1;cases dL h3;have hg1:=hp.gx hc hs t1 e1;have hi1:=hi.same hp.keep;have hs1:=hs.same hp.keep.1;obtain⟨⟨a1,a2,a3⟩,a4⟩:=ha.gy hc hi1 hs1 b h2;have kj:=cl hj;refine⟨⟨⟨⟨dw J,⟨by show 1≤1000000;decide,hg1.1,trivial⟩,⟨by omega,a1⟩,bq _,O⟩,O⟩,?_,a3.same kj.1⟩,by show 1≤2;decide⟩;rw [cM,cM,nY,eH,eH,cM];have:=hg1.2;have:=hp.keep.2.1;have:=kj.2.1;omega
 | _,_,s,_,_,.whi (s1:=s1) (s2:=s2) (x:=x) (j:=j) hx hv hj ha,hi,hs,ts,ht=>by
  obtain⟨t,r,rfl,hty,hr⟩:=pr ht;obtain⟨u,rfl,hu⟩:=gS hr;obtain⟨v,xs,vb,b,vl,l,rfl,h1,h2,h3⟩:=jI hty;obtain⟨t1,rfl,e1⟩:=fM h1;cases dL h2;cases dL h3;obtain⟨v',xs',vb',b',vl',l',rfl,h1',h2',h3'⟩:=jI hu;obtain⟨t1',rfl,e1'⟩:=fM h1';cases dL h3';obtain⟨b1,b2,rfl,hb1,hb2⟩:=ny h2';obtain⟨t2,rfl,eb2⟩:=gS hb2;obtain⟨v3,xs3,vb3,b3,vl3,l3,rfl,g1,g2,g3⟩:=jI eb2;obtain⟨t3,rfl,eg1⟩:=fM g1;cases dL g2;cases dL g3;obtain⟨v4,kids4,rfl,g4⟩:=iI eg1;obtain⟨t5,t6,rfl,g5,g6⟩:=sF g4;obtain⟨v5,kids5,rfl,eg5⟩:=iI g5;cases iy eg5;obtain⟨v6,kids6,rfl,eg6⟩:=iI g6;cases iy eg6;obtain⟨v7,kids7,rfl,e7⟩:=iI e1;cases iy e7;obtain⟨v8,kids8,rfl,e8⟩:=iI e1';cases iy e8;have hm:=sh hx;have kj:=cl hj;have hjb:=qe (by decide) hj;have hi1:=hi.var hv;have hi2:=hi1.same kj;have hs2:Nm s1:=Nm.same (s:={s with vars:=s.vars+1}) hs kj.1;obtain⟨⟨a1,a2,a3⟩,a4⟩:=ha.gy hc hi2 hs2 b1 hb1;have hj0:oW j:=⟨hjb.1,by omega⟩
  have hn:GX (.mk 2 0 x v8 []):=⟨lm,hm,bq _,O⟩
  have hn5:GX (.mk 2 0 x v5 []):=⟨lm,hm,bq _,O⟩
  have hn6:GX (.mk 1 1 bD v6 []):=⟨by decide,dw rfl,bq _,trivial⟩
  have hd:GX (.mk 7 0 eJ v4 [.mk 2 0 x v5 [],.mk 1 1 bD v6 []]):=⟨lm,dw J,by show 2≤1000000;decide,hn5,hn6,trivial⟩
  have hdy:GY (.mk 2 x v3 [.mk 7 0 eJ v4 [.mk 2 0 x v5 [],.mk 1 1 bD v6 []]] vb3 [] vl3 []):=⟨hm,⟨by show 1≤1000000;decide,hd,trivial⟩,⟨bq _,O⟩,bq _,O⟩
  refine⟨⟨⟨⟨hm,⟨by show 1≤1000000;decide,⟨hj0,dw rfl,bq _,trivial⟩,trivial⟩,⟨bq _,O⟩,bq _,O⟩,⟨dw J,⟨by show 1≤1000000;decide,hn,trivial⟩,⟨by rw [bA,bV];omega,wb a1 ⟨hdy,trivial⟩⟩,bq _,O⟩,O⟩,?_,?_⟩,by show 2≤2;decide⟩
  ·simp only [cM,nY,eH,nX,ml];have k1:s1.left=s.left:=kj.2.1;show _≤4000*(s.left-s2.left)+4000;omega
  ·intro y hy;rcases List.mem_append.1 hy with hy|hy
   ·exact a3 _ hy
   ·rw [List.mem_singleton.1 hy];exact hm
 | _,_,s,_,_,.ret hj hp,hi,hs,ts,ht=>by
  obtain⟨t,rfl,hty⟩:=gS ht;obtain⟨v,xs,vb,b,vl,l,rfl,h1,h2,h3⟩:=jI hty;obtain⟨t1,rfl,e1⟩:=fM h1;cases dL h2;cases dL h3;have kj:=cl hj;have hg:=hp.gx hc (hs.same kj.1) t1 e1;have hk:=em kj hp.keep;have hy:=sE (k:=6) (v:=v) (vb:=vb) (vl:=vl) (nm:=bD) (dw J) hg (by decide);exact⟨mi ⟨hy.1,by have:=hy.2;omega⟩ (by rw [hk.2.1];exact Int.le_refl _) (hs.same hk.1),by show 1≤2;decide⟩
 | _,_,s,_,_,.dos (s2:=s2) (s3:=s3) (f:=f) h hj hj2 hf hp,hi,hs,ts,ht=>by
  obtain⟨t,rfl,hty⟩:=gS ht;obtain⟨v,xs,vb,b,vl,l,rfl,h1,h2,h3⟩:=jI hty;obtain⟨t1,rfl,e1⟩:=fM h1;cases dL h2;cases dL h3;have k1:s3.names=s2.names∧s3.left=s2.left∧s3.vars=s2.vars:=by
   rcases hf with⟨_,_,h⟩|⟨_,j3,h,_⟩
   ·rw [h];exact⟨J,J,J⟩
   ·exact cl h
  have hfm:f∈c.fs:=by
   rcases hf with⟨_,h,_⟩|⟨_,j3,_,h⟩<;>exact cd h
  have kj:=em (em (cl hj) (cl hj2)) k1;have hg:=hp.gx hc hfm (hs.same kj.1) t1 e1;have hk:=em kj hp.keep;have hy:=sE (k:=8) (v:=v) (vb:=vb) (vl:=vl) (nm:=bD) (d:=2) (dw J) hg (by decide);exact⟨mi ⟨hy.1,by have:=hy.2;omega⟩ (by rw [hk.2.1];exact Int.le_refl _) (hs.same hk.1),by show 1≤2;decide⟩
 | _,_,s,_,_,.out (s1:=s1) _ _ _ _ _ _ h8 _ hp,hi,hs,ts,ht=>by
  obtain⟨t,rfl,hty⟩:=gS ht;obtain⟨v,xs,vb,b,vl,l,rfl,h1,h2,h3⟩:=jI hty;obtain⟨t1,rfl,e1⟩:=fM h1;cases dL h2;cases dL h3;have k1:s1.names=s.names∧s1.left=s.left∧s1.vars=s.vars:=by
   rcases h8 with⟨_,h⟩|⟨_,j,_,h⟩
   ·rw [h];exact⟨J,J,J⟩
   ·exact cl h
  have hg:=hp.gx hc (hs.same k1.1) t1 e1;have hk:=em k1 hp.keep;have hy:=sE (k:=7) (v:=v) (vb:=vb) (vl:=vl) (nm:=bD) (dw J) hg (by decide);exact⟨mi ⟨hy.1,by have:=hy.2;omega⟩ (by rw [hk.2.1];exact Int.le_refl _) (hs.same hk.1),by show 1≤2;decide⟩
end
mutual
theorem GYr.left0{c:Gc}:∀{e:Nat}{s s':Gs}{o:List Py},GYr c e s o s'→0≤s.left→0≤s'.left
 | _,_,_,_,.mk hj h,hi=>h.left0 (by rw [(cl hj).2.1];exact hi)
theorem GLr.left0{c:Gc}:∀{e n:Nat}{s s':Gs}{o:List Py},GLr c e n s o s'→0≤s.left→0≤s'.left
 | _,_,_,_,_,.zero,hi=>hi
 | _,_,_,_,_,.stop _,hi=>hi
 | _,_,s,_,_,.step hl hk h1 h2,hi=>h2.left0 (h1.left0 (by rw [(cl hk).2.1];show 0≤s.left-1;omega))
theorem G1r.left0{c:Gc}:∀{e:Nat}{k:Int}{s s':Gs}{o:List Py},G1r c e k s o s'→0≤s.left→0≤s'.left
 | _,_,s,_,_,.var (s1:=s1) _ _ _ hp,hi=>by show 0≤s1.left;rw [hp.keep.2.1];exact hi
 | _,_,_,_,_,.set _ hj _ hp,hi=>by rw [(em (cl hj) hp.keep).2.1];exact hi
 | _,_,_,_,_,.put _ hp hq,hi=>by rw [(em hp.keep hq.keep).2.1];exact hi
 | _,_,_,_,_,.iff1 hp ha hj hb,hi=>hb.left0 (by rw [(cl hj).2.1];exact ha.left0 (by rw [hp.keep.2.1];exact hi))
 | _,_,_,_,_,.iff0 hp ha hj _,hi=>by rw [(cl hj).2.1];exact ha.left0 (by rw [hp.keep.2.1];exact hi)
 | _,_,s,_,_,.whi (s2:=s2) _ _ hj ha,hi=>by show 0≤s2.left;exact ha.left0 (by rw [(cl hj).2.1];exact hi)
 | _,_,_,_,_,.ret hj hp,hi=>by rw [(em (cl hj) hp.keep).2.1];exact hi
 | _,_,s,_,_,.dos (s2:=s2) (s3:=s3) _ hj hj2 hf hp,hi=>by
  have k1:s3.names=s2.names∧s3.left=s2.left∧s3.vars=s2.vars:=by
   rcases hf with⟨_,_,h⟩|⟨_,j3,h,_⟩
   ·rw [h];exact⟨J,J,J⟩
   ·exact cl h
  rw [(em (em (em (cl hj) (cl hj2)) k1) hp.keep).2.1];exact hi
 | _,_,s,_,_,.out (s1:=s1) _ _ _ _ _ _ h8 _ hp,hi=>by
  have k1:s1.names=s.names∧s1.left=s.left∧s1.vars=s.vars:=by
   rcases h8 with⟨_,h⟩|⟨_,j,_,h⟩
   ·rw [h];exact⟨J,J,J⟩
   ·exact cl h
  rw [(em k1 hp.keep).2.1];exact hi
end
def hNames:List Ba:= [ed,⟨#[102]⟩,⟨#[103]⟩,⟨#[116,119,101,108,118,101,108,101,116,116,101,114]⟩]
def pNames:List Ba:= [⟨#[112]⟩,⟨#[113]⟩,⟨#[114]⟩,⟨#[115]⟩]
def EE(l:List Int)(i:Nat)(s:Gs):(Ba×List Ba)×Gs:=
 let q:=if 0<i then gN l 5 s else(0,s)
 ((hNames.getD i bD,pNames.take q.1.toNat),q.2)
def ED(l:List Int)(s:Gs):Nat→List (Ba×List Ba)×Gs
 | 0=>([],s)
 | i+1=>let r:=ED l s i;let q:=EE l i r.2;(r.1++ [q.1],q.2)
def EH:Gs:=⟨0,0,0,0,[]⟩
inductive GBr(l:List Int)(fs:List (Ba×List Ba))(s0:Gs):Nat→List Pf→Gs→Prop
 | zero:GBr l fs s0 0 [] s0
 | step {i:Nat} {ps:List Pf} {s s2:Gs} {f:Ba×List Ba} {b:List Py} (h:GBr l fs s0 i ps s) (hf:fs[i]?=some f) (hb:GYr ⟨l,i,fs⟩ 3 {s with left:=8,nodes:=150,vars:=0,names:=f.2} b s2):GBr l fs s0 (i+1) (ps++ [⟨f.1,f.2,b⟩]) s2
def iC(l:List Int):Nat:=(1+(gN l 4 EH).1).toNat
def xi(l:List Int):List (Ba×List Ba)×Gs:=ED l (gN l 4 EH).2 (iC l)
def Q7(l:List Int)(ps:List Pf):Prop:=∃s,GBr l (xi l).1 (xi l).2 (iC l) ps s
theorem Cs(i:Nat):oP (hNames.getD i bD):=by
 rcases i with _|_|_|_|i<;>exact dw J
theorem Ce:∀x∈pNames,oP x:=by
 intro x hx;simp only [pNames,List.mem_cons,List.not_mem_nil,or_false]at hx;rcases hx with rfl|rfl|rfl|rfl<;>exact dw J
theorem AM(l:List Int)(s:Gs):∀i,(ED l s i).1.length=i
 | 0=>rfl
 | i+1=>by rw [ED];simp only [bA,bV,AM l s i]
def QK(f:Ba×List Ba):Prop:=oP f.1∧f.2.length≤4∧∀x∈f.2,oP x
theorem KI(l:List Int)(i:Nat)(s:Gs):QK (EE l i s).1:=
 ⟨Cs i,by unfold EE;rw [List.length_take];exact Nat.min_le_right _ _,fun x hx=>Ce x (List.mem_of_mem_take hx)⟩
theorem y6(l:List Int)(s:Gs):∀i,∀f∈(ED l s i).1,QK f
 | 0,f,h=>by simp [ED]at h
 | i+1,f,h=>by
  rw [ED]at h;rcases List.mem_append.1 h with h|h
  ·exact y6 l s i f h
  ·rw [List.mem_singleton.1 h];exact KI _ _ _
theorem xh(l:List Int):1≤iC l∧iC l≤4:=by
 have:=pj l (n:=4) (by decide) EH;unfold iC;omega
section
variable{P:Program}{N:Nat}{w0:World}{M H:Nat→Prop}{E:fz}{Γ R:ey}{d:Nat}{T:TypeId}{ps:String}{af:Array Edge}
theorem yR{α:Type}{S U:TypeId}{D:TypeDesc}{z:Value}{s bb:Nat}{enc:α→List Value}{x y:Operand}{v v2 v0:Value}{l l2 l0:List α}(k:Nat)(hS:P.underlying S=some (.slice U))(hU:TI P U D z s bb)(hzs:z.cells.size=s)(hs0:0<s)(he:∀x,(enc x).length=s)(h1:∀x,(enc x).all (·.oneCell')=true)
  (hx:ev E x=some v) (hy:ev E y=some v2) (hk:cn Γ k=some (own U s enc v0 l0)) (hown:∀w G,(own U s enc v0 l0).pred w G→(own U s enc v l).pred w G) (h2:SlS w0 M H Γ R s enc v2 l2) (hm:(l.length+l2.length)*bb≤140737488355328) (hm':l.length+l2.length≤maxLen)
  :MS P N w0 M H E Γ R ⟨some d,.call {callee:= .builtin .append,args:= #[x,y],argTypes:= #[S,S]},T,ps,af,none⟩ (X:=SV) (fun _=>True) (fun v'=>sv v') (fun v'=>(k,own U s enc (sv v') (l++l2))::Γ) (fun _=>R):=by
 refine iG fun a w hE hC=> ?_
 obtain⟨G0,hp00,hlt0⟩:=hC.reads (.inl hk);have hp0:=hown _ _ hp00;obtain⟨G2,c,h3,h4,h5⟩:=h2 w hC;obtain⟨i,i1,i2,i3,i4⟩:=hU.info;have hfl:∀l':List α,(l'.flatMap enc).length=l'.length*s:=fy he;rcases h5 with⟨rfl,_,rfl⟩|⟨b2,o2,rfl,_,hc2⟩
 ·obtain⟨xv,rfl⟩:=fT hp0.2;refine⟨xv,w,O,?_,?_⟩
  ·have hr:=run_append_owned_none (P:=P) w 0 S T U i s hS i1 (sv xv) l.length _ hp0.2;simp [execOp,resolve,invoke,builtin,hE.ev hx,hE.ev hy,hr]
  ·simp only [List.append_nil];exact hC.upd hk fun G hG0 hGlt=>⟨G,hown _ _ hG0,fun b hb=>⟨hGlt b hb,fun _=>hb⟩,Touch.refl _ _⟩
 ·obtain⟨v',w',hr,ho,hg,hn⟩:=run_append_own (P:=P) w 0 S T U i z s bb hS i1 i2 i3 i4 hzs hs0 v l.length _ hp0.2 ⟨b2,o2,none⟩ l2.length c (l2.flatMap enc) (hfl l2)
   (fun j u hj=>by rw [c8];exact hc2 j u hj) (fun u hu=>by obtain⟨x,_,hxu⟩:=List.mem_flatMap.1 hu;simpa using List.all_eq_true.1 (h1 x) u hxu) hm' hm (bq _)
  obtain⟨xv,rfl⟩:=fT ho;refine⟨xv,w',O,?_,?_⟩
  ·simp [execOp,resolve,invoke,builtin,hE.ev hx,hE.ev hy,hr]
  ·refine hC.upd hk fun G hG0 hGlt=>by
    have hG:=hown _ _ hG0;refine⟨fun b=>(sv xv).ownBlock=some b,⟨fun x=>Iff.rfl,?_⟩,fun b hb=>⟨(ho.lt b hb).2,fun hlt=> ?_⟩,⟨hg.os,hg.tape,hg.output,hg.size,fun i hi hne=>hg.block i hi (fun e=>hne ((hG.1 i).2 e.symm))⟩⟩
    ·rw [bA,List.flatMap_append];exact ho
    ·rcases hp0.2.2 with⟨rfl,hl0⟩|⟨g,cap,cur,rfl,hbg,hgg,hnc,hcm,hcs,htake⟩
     ·exfalso;have hl:l= []:=List.eq_nil_of_length_eq_zero hl0;subst hl;by_cases hz:l2.length=0
      ·have hl2:l2= []:=List.eq_nil_of_length_eq_zero hz;subst hl2;have:=(hn.2 ⟨J,J⟩)
       rw [this]at hb;simp [Value.ownBlock]at hb
      ·have hr2:=run_append_nil (P:=P) w S T U i z hS i1 i2 ⟨b2,o2,none⟩ l2.length c (l2.flatMap enc) (by rw [hfl,i3]) (fun j u hj=>by rw [c8];exact hc2 j u hj) (by simpa using Nat.pos_of_ne_zero hz) (by simp only [maxLen]at hm';simp at hm';omega) (by rw [i4];simp at hm;omega);rw [hr2]at hr;injection hr with hr3 hr4;replace hb:(sv xv).ownBlock=some b:=hb;rw [←hr3]at hb;simp [Value.ownBlock]at hb;omega
     ·by_cases hroom:l.length+l2.length≤cap
      ·have hfit:l.length*i.size+(l2.flatMap enc).length≤cur.size:=by rw [hfl,hcs,i3,←Nat.add_mul];exact Nat.mul_le_mul_right _ hroom
       have hr2:=run_append_room (P:=P) w S T U i hS i1 g l.length cap cur hgg ⟨b2,o2,none⟩ l2.length c (l2.flatMap enc) (by rw [hfl,i3]) (fun j u hj=>by rw [c8];exact hc2 j u hj) (fun u hu=>by obtain⟨x,_,hxu⟩:=List.mem_flatMap.1 hu;simpa using List.all_eq_true.1 (h1 x) u hxu) hroom hfit;rw [hr2]at hr;injection hr with hr3 hr4;replace hb:(sv xv).ownBlock=some b:=hb;rw [←hr3]at hb;simp [Value.ownBlock]at hb;subst hb;exact(hG.1 g).2 J
      ·exfalso;have holds:=hp0.2.cells (g:=g) J;have hr2:=run_append_grow (P:=P) w S T U i z hS i1 i2 ⟨g,0,none⟩ l.length cap (l.flatMap enc) (by rw [hfl,i3]) holds ⟨b2,o2,none⟩ l2.length c (l2.flatMap enc) (by rw [hfl,i3]) (fun j u hj=>by rw [c8];exact hc2 j u hj) (by omega) (by simp only [maxLen]at hm';omega) (growslice_fits (by omega) (by rw [i4];exact hm));rw [hr2]at hr;injection hr with hr3 hr4;replace hb:(sv xv).ownBlock=some b:=hb;rw [←hr3]at hb;simp [Value.ownBlock]at hb;omega
end
def K5(l:List Tf):Asn:=⟨fun w F=>∀f∈l,TfIn w F f,fun h hs f hf=>(h f hf).stable hs⟩
def CO(v:SV)(l o:List Tf):Asn:=⟨fun w F=>(SlIn' w F 3 gu (sv v) l∧∀f∈l,TfIn w F f)∧∀f∈o,TfIn w F f,fun h hs=>⟨⟨h.1.1.stable hs,fun f hf=>(h.1.2 f hf).stable hs⟩,fun f hf=>(h.2 f hf).stable hs⟩⟩
theorem TfIn.up{w:World}{F G:Nat→Prop}{f:Tf}(h:TfIn w G f)(hs:∀b,G b→F b):TfIn w F f:=by
 obtain⟨⟨A,a1,a2⟩,⟨⟨B,b1,b2⟩,b3⟩⟩:=h;exact⟨⟨A,a1,fun b hb=>hs b (a2 b hb)⟩,⟨⟨B,b1,fun b hb=>hs b (b2 b hb)⟩,TysIn.mono hs (fun _ _=>J) _ b3⟩⟩
theorem SlIn'.up{α:Type}{w:World}{F G:Nat→Prop}{s:Nat}{enc:α→List Value}{v:Value}{l:List α}(h:SlIn' w G s enc v l)(hs:∀b,G b→F b):SlIn' w F s enc v l:=by
 obtain⟨A,a1,a2⟩:=h;exact⟨A,a1,fun b hb=>hs b (a2 b hb)⟩
abbrev BM(nm:Ba)(v:SV)(ps:List Ba):Tf:=⟨nm,v,ps,bv,[]⟩
theorem K4{l:List Tf}{nm:Ba}{v:SV}{ps:List Ba}(w:World)(F:Nat→Prop)(h:AllIn w F [K5 l,own 9 1 eS (sv v) ps]):(K5 (l++ [BM nm v ps])).pred w F:=by
 obtain⟨⟨_,a0,b0⟩,⟨_,a1,b1⟩,_⟩:=h;intro f hf;rcases List.mem_append.1 hf with hf|hf
 ·exact(a0 f hf).up b0
 ·rw [List.mem_singleton.1 hf];exact⟨ck a1 b1,ia,O⟩
theorem Mp{l:List Tf}{v:SV}(w:World)(F:Nat→Prop)(h:AllIn w F [own 66 3 gu (sv v) l,K5 l]):(CO v l []).pred w F:=by
 obtain⟨⟨_,a0,b0⟩,⟨_,a1,b1⟩,_⟩:=h;exact⟨⟨ck a0 b0,fun f hf=>(a1 f hf).up b1⟩,fun f hf=>by simp at hf⟩
theorem JI{l o:List Tf}{v vb:SV}{f:Tf}{body:List Ty}(hf:f∈l)(w:World)(F:Nat→Prop)(h:AllIn w F [CO v l o,own 64 5 dM (sv vb) body,ld body]):(CO v l (o++ [⟨f.name,f.vp,f.ps,vb,body⟩])).pred w F:=by
 obtain⟨⟨_,a0,b0⟩,⟨_,a1,b1⟩,⟨_,a2,b2⟩,_⟩:=h;refine⟨⟨a0.1.1.up b0,fun f hf=>(a0.1.2 f hf).up b0⟩,fun g hg=> ?_⟩;rcases List.mem_append.1 hg with hg|hg
 ·exact(a0.2 g hg).up b0
 ·rw [List.mem_singleton.1 hg];exact⟨((a0.1.2 f hf).up b0).1,ck a1 b1,la a2 b2⟩
theorem JK{l o:List Tf}{v vo:SV}(w:World)(F:Nat→Prop)(h:AllIn w F [own 66 3 gu (sv vo) o,CO v l o]):(cE vo o).pred w F:=by
 obtain⟨⟨_,a0,b0⟩,⟨_,a1,b1⟩,_⟩:=h;exact⟨ck a0 b0,fun f hf=>(a1.2 f hf).up b1⟩
theorem SlS.tg{w0:World}{M H:Nat→Prop}{Γ R:ey}{k:Nat}{v:SV}{l o:List Tf}(h:cn Γ k=some (CO v l o)):SlS w0 M H Γ R 3 gu (sv v) l:=fun w hC=>by
 obtain⟨G,h1,_⟩:=hC.reads (.inl h);obtain⟨A,a1,_⟩:=h1.1.1;exact⟨A,a1⟩
theorem SlS.tgp{w0:World}{M H:Nat→Prop}{Γ R:ey}{k:Nat}{v:SV}{l o:List Tf}{f:Tf}(h:cn Γ k=some (CO v l o))(hf:f∈l):SlS w0 M H Γ R 1 eS (sv f.vp) f.ps:=fun w hC=>by
 obtain⟨G,h1,_⟩:=hC.reads (.inl h);obtain⟨A,a1,_⟩:=(h1.1.2 f hf).1;exact⟨A,a1⟩
theorem JJ{A:Asn}{v:SV}{l o:List Tf}:∀(i:Nat)(X:Asn),([A,cE v l]:List Asn)[i]?=some X→∃Y,([A,CO v l o]:List Asn)[i]?=some Y∧∀w G,Y.pred w G→X.pred w G
 | 0,X,hX=>⟨A,rfl,by cases hX;exact fun _ _ h=>h⟩
 | 1,X,hX=>⟨CO v l o,rfl,by cases hX;exact fun _ _ h=>h.1⟩
 | i+2,X,hX=>by simp at hX
theorem KO{e:Ge}(he:Gfine e)(o:List Tf)(s:Gs)(vn:SV)(hi:GInv s):Spec prog 47 [Pt e.g,I6 1] [be e.g 102 (ib e.vl s vn e.c.me e.vf),own 9 1 eS (sv vn) s.names] [sl 1 eI (sv e.vl) e.c.l,CO e.vf e.F o] (X:=SV×List Ty×Gs×SV) (fun x=>GYr e.c 3 s (eE x.2.1) x.2.2.1∧x.2.1.length≤10) (fun x=>sv x.1)
 (fun x=> [be e.g 102 (ib e.vl x.2.2.1 x.2.2.2 e.c.me e.vf),own 9 1 eS (sv x.2.2.2) x.2.2.1.names,own 64 5 dM (sv x.1) x.2.1,ld x.2.1]) (fun _=> []):=
 Spec.roAll (AL he 3 (by decide) s vn hi) JJ
structure Xh where
 i:Nat
 vf:SV
 F:List Tf
 s:Gs
structure Xbo where
 i:Nat
 vo:SV
 out:List Tf
 s:Gs
 vn:SV
 me:Nat
abbrev JL(f:Tf):Ba×List Ba:=(f.name,f.ps)
theorem EC{l:List Int}{s0 s sb:Gs}{F:List Tf}{i jn:Nat}{nm:Ba}{jy:Int}{v:SV}(h:ED l s0 i=(F.map JL,s))(hnm:hNames[i]?=some nm)(hy:(jy,sb)=(if 0<i then gN l 5 s else(0,s)))(hj:jy=(jn:Int)):ED l s0 (i+1)=((F++ [BM nm v (pNames.take jn)]).map JL,sb):=by
 rw [ED];simp only [h,EE];rw [←hy];simp only [List.map_append,List.map_cons,List.map_nil,JL,BM];rw [List.getD_eq_getElem?_getD,hnm,hj];rfl
theorem t8(vl:SV)(l:List Int)(hl:l.length≤9223372036854775807)(hlo:∀x∈l,wP x):
  Spec prog 14 [sv vl] [] [sl 1 eI (sv vl) l] (X:=SV×List Tf) (fun x=>Q7 l (x.2.map xT)) (fun x=> .agg #[sv x.1]) (fun x=> [cE x.1 x.2]) (fun _=> []):=by
 refine aM func14 J ntmps14 J fun w0 M H=> ?_
 have hj0:=pj l (n:=4) (by decide) EH;have hmb:=xh l;refine ar (aX iQ J J fun b2=>aF J (ad J (aS (aR (parts:= [(0,.tmp 12)]) O9 MR J J) (cA J J fun b14=>aq J (aF J (dz eS pNames (parts:= [(0,.const (Sg (ByteArray.mk #[112]))),(1,.const (Sg (ByteArray.mk #[113]))),(2,.const (Sg (ByteArray.mk #[114]))),(3,.const (Sg (ByteArray.mk #[115])))]) underlying46 t9 J (by decide) (by intro _;rfl) J (by decide) (by decide) J J J J fun v15=>aq J (aF J (dz eS hNames (parts:= [(0,.const (Sg (ByteArray.mk #[109,97,105,110]))),(1,.const (Sg (ByteArray.mk #[102]))),(2,.const (Sg (ByteArray.mk #[103]))),(3,.const (Sg (ByteArray.mk #[116,119,101,108,118,101,108,101,116,116,101,114])))]) underlying46 t9 J (by decide) (by intro _;rfl) J (by decide) (by decide) J J J J fun v16=>aq J ?_))))))));refine aF J (ad J (ak (xs:= [.tmp 17,.const (I6 4)]) (cU b14 vl bv bv ⟨l,0,[]⟩ hl hlo 4 (by decide) EH) kx [14] [(false,0)] [14] (fun _ _=> ?_)));refine te (aU J J (cC (c:=(iC l:Int)) (by unfold iC;rw [show(1:Int)+(gN l 4 EH).1=(((1+(gN l 4 EH).1).toNat:Nat):Int) by omega];exact bU (by omega)))) J ?_;refine aq J (aa (aV (aq J (aa (aC (dI 60 (α:=Tf) (S:=66) (s:=3) (enc:=gu) ?_))))));refine bh 40 [] (L:= []) (C:=K5 []) J (fun _ _ _ f hf=>by simp at hf) ?_;refine bI (X:=Xh) (fun x=>x.i≤iC l∧ED l (gN l 4 EH).2 x.i=(x.F.map JL,x.s)∧(∀f∈x.F,f.vb=bv∧f.body= [])) (fun x=> [(2,Pt b2),(3,Pt b14),(4,sv v15),(5,sv v16),(6,I6 (iC l:Int)),(7,I6 (x.i:Int))]) (fun x=> [(2,be b2 27 [sv bv]),(14,be b14 102 (ib vl (x.s) bv 0 x.vf)),(15,own 9 1 eS (sv v15) pNames),(16,own 9 1 eS (sv v16) hNames),(60,own 66 3 gu (sv x.vf) x.F),(40,K5 x.F)]) (fun x=> [(0,sl 1 eI (sv vl) l)]) (fun x=>iC l-x.i) ⟨0,bv,[],(gN l 4 EH).2⟩ ⟨bq _,J,fun f hf=>by simp at hf⟩ J J J (fun x hx0=> ?_);obtain⟨i,vf,F,s⟩:=x;obtain⟨n1,n2,n3⟩:=hx0;dsimp only at n1 n2 n3 ⊢;have hFl:F.length=i:=by have h:=AM l (gN l 4 EH).2 i;rw [n2,List.length_map]at h;exact h
 refine aV (ad J (ad J (av J J cy (aa (am J (fun h1=> ?_) (fun h1=> ?_))))))
 ·(try simp only [bk]at h1);have hi2:i<iC l:=by omega
  refine aA (aZ (aC (ar (aq J (aa (bz (X:=Int×Gs) (fun y=>y=(if 0<i then gN l 5 s else(0,s))) (fun y=> [(2,Pt b2),(3,Pt b14),(4,sv v15),(5,sv v16),(6,I6 (iC l:Int)),(7,I6 (i:Int)),(8,I6 y.1)]) (fun y=> [(2,be b2 27 [sv bv]),(14,be b14 102 (ib vl (y.2) bv 0 vf)),(15,own 9 1 eS (sv v15) pNames),(16,own 9 1 eS (sv v16) hNames),(60,own 66 3 gu (sv vf) F),(40,K5 F)]) (fun y=> [(0,sl 1 eI (sv vl) l)]) ?_ (fun y hy=> ?_)))))))
  ·refine ar (ad J (av J J fh (aa (am J (fun h2=> ?_) (fun h2=> ?_)))))
   ·(try simp only [bk]at h2);have hi0:0<i:=by omega
    refine ap (ad J (ak (xs:= [.tmp 27,.const (I6 5)]) (cU b14 vl bv vf ⟨l,0,[]⟩ hl hlo 5 (by decide) s) kx [14] [(false,0)] [14] (fun _ _=>aq J (aa (aG (gN l 5 s) (by rw [aw hi0]) J J J)))))
   ·(try simp only [bk]at h2);have hi0:¬0<i:=by omega
    refine aA (aG (0,s) (by rw [ai hi0]) J J J)
  ·obtain⟨jy,sb⟩:=y;dsimp only;have hjb:0≤jy∧jy≤4:=by
    split at hy
    ·have:=pj l (n:=5) (by decide) s;have h:=congrArg Prod.fst hy;dsimp only at h;omega
    ·have h:=congrArg Prod.fst hy;dsimp only at h;omega
   obtain⟨jn,hjn⟩:∃jn:Nat,jy=(jn:Int):=⟨jy.toNat,by omega⟩
   have hjl:jn≤pNames.length:=by show jn≤4;omega
   have hiN:i<hNames.length:=by show i<4;omega
   obtain⟨nm,hnm⟩:∃nm,hNames[i]?=some nm:=⟨_,bT hiN⟩
   refine bQ [29,30,31,32,33,34,35,36,37,38,39,40,41,42,43,44,45,46,47] _ J (aW (V:= [(0,29,_),(1,30,_),(2,31,_),(3,32,_),(4,33,_),(5,34,_),(6,35,_),(7,36,_),(8,37,_),(10,39,_),(11,40,_),(12,41,_)]) [0,1,2,3,4,5,6,7,8,10,11,12] 9 [9] [] (fun v38=> []) J J (ay J J (ay J J (ac J (aj J) (ac J (ah dy J) (ac J (ae ip J J (ax (k:=14) J J)) (ay J J (ay J J (ac J (aK (j:=i) underlying46 t9 J J (aH (k:=16) J) J hiN) (ac J (ae t9 J J (bJ (aH (k:=16) J) (by intro _;rfl) hnm (by rfl))) (ay J J (ay J J (ac J (na (j:=jn) underlying46 t9 J J (aH (k:=15) J) hjn hjl) ag)))))))))))) J J J J J J J J J J J (fun _ _=>J) J (yP eS underlying46 t9) (fun v38 _=>aW [0,1,2,3,4,5,6,7,8,10,11,12] 13 [13,12,11,10,9] [14] (fun v42=> [(14,43,_)]) J J (ay J J (ay J J (ac J (aj J) (ac J (ah dy J) (ac J (ae ip J J (ax (k:=14) J J)) (ay J J (ay J J (ac J (aK (j:=i) underlying46 t9 J J (aH (k:=16) J) J hiN) (ac J (ae t9 J J (bJ (aH (k:=16) J) (by intro _;rfl) hnm (by rfl))) (ay J J (ay J J (ac J (na (j:=jn) underlying46 t9 J J (aH (k:=15) J) hjn hjl) ag)))))))))))) J J J J J J J J J J J (fun _ _=>J) J (yR 38 underlying46 t9 J (by decide) (fun _=>J) (fun _=>J) J J J D4 (SlS.hi (SlS.of (aH (k:=15) J)) hjl) (by simp only [bG,List.length_take];omega) (by unfold maxLen;simp only [bG,List.length_take];omega)) (fun v42 _=>aW [14,0,1,2,3,4,5,6,7,8] 15 [15,14,13,12,11,10,9,8,7,6,5] [] (fun v44=> []) J J (ac J (aR (parts:= [(0,.tmp 37),(1,.tmp 42)]) fC MH J J) (ay J J (ay J J (ac J (aj J) (ac J (ah dy J) (ac J (ae ip J J (ax (k:=14) J J)) (ay J J (ay J J (ac J (aK (j:=i) underlying46 t9 J J (aH (k:=16) J) J hiN) (ac J (ae t9 J J (bJ (aH (k:=16) J) (by intro _;rfl) hnm (by rfl))) ag)))))))))) J J J J J J J J J J J (fun _ _=>J) J (bE gu (BM nm v42 (pNames.take jn)) underlying25 fC J (by decide) (by decide) J J J) (fun v44 _=>aW [0,1,2,3,4] 16 [16,15,14,13,12,11,10,9,8,7,6,5,4,3,2,1] [17,18] (fun v45=> [(17,46,_),(18,47,_)]) J J (ay J J (ay J J (ac J (aj J) (ac J (ah dy J) (ac J (ae ip J J (ax (k:=14) J J)) ag))))) J J J J J J J J J J J (fun _ _=>J) J (eB 60 underlying25 fC J (by decide) (fun _=>J) (fun _=>J) J J J (aH (k:=44) J) (by simp only [bV];omega) (by unfold maxLen;simp only [bV];omega)) (fun v45 _=>bH [17,18,0] 19 [19,18,17,16,15,14,13,12,11,10,9,8,7,6,5,4,3,2,1,0] [] (fun _=> []) J J (ac J (aj J) (ac J (ah dy J) (ay J J ag))) J J J J J J J J J (fun _ _=>J) J (da (k:=14) ip J J J J J J J J) (fun _ _=>bn [] J J ag J J J ?_))))))
   refine ap (ad J (av J J aO (aq J (aa (bh 40 [40,38] (C:=K5 (F++ [BM nm v42 (pNames.take jn)])) J K4 ?_)))));refine aG ⟨i+1,v45,F++ [BM nm v42 (pNames.take jn)],sb⟩ ⟨⟨by dsimp only;omega,EC n2 hnm hy hjn,fun f hf=>by
     rcases List.mem_append.1 hf with hf|hf
     ·exact n3 f hf
     ·rw [List.mem_singleton.1 hf];exact⟨J,J⟩⟩,by dsimp only;omega⟩ rfl rfl rfl
 ·(try simp only [bk]at h1);have hie:i=iC l:=by omega
  have hH:xi l=(F.map JL,s):=by rw [←n2,hie];rfl
  have hFh:(xi l).1=F.map fun f=>(f.name,f.ps):=by rw [hH]
  have hs0:(xi l).2=s:=by rw [hH]
  have hps:∀f∈F,f.ps.length≤100:=fun f hf=>by
   have h:=y6 l (gN l 4 EH).2 i (JL f) (by rw [n2];exact List.mem_map_of_mem hf);have:=h.2.1;show(JL f).2.length≤100;omega
  refine bM (ar (aS (aR (parts:= []) iQ MJ J J) (aX iQ J J fun b9=>au (k:=9) iQ J J J J J J (aa (aV (aq J (aa (aC (bh 43 [60,40] (C:=CO vf F []) J Mp (dI 60 (α:=Tf) (S:=66) (s:=3) (enc:=gu) (bI (X:=Xbo) (fun x=>x.i≤iC l∧GBr l (xi l).1 (xi l).2 x.i (x.out.map xT) x.s∧x.out.length=x.i) (fun x=> [(2,Pt b2),(3,Pt b14),(6,I6 (iC l:Int)),(9,Pt b9),(10,I6 (x.i:Int))]) (fun x=> [(2,be b2 27 [sv bv]),(14,be b14 102 (ib vl (x.s) x.vn x.me vf)),(9,be b9 27 [sv x.vo]),(60,own 66 3 gu (sv x.vo) x.out),(43,CO vf F x.out)]) (fun x=> [(0,sl 1 eI (sv vl) l)]) (fun x=>iC l-x.i) ⟨0,bv,[],s,bv,0⟩ ⟨bq _,hs0▸ .zero,J⟩ J J J (fun x hx0=> ?_))))))))))));obtain⟨i,vo,out,s1,vn,me⟩:=x;obtain⟨m1,m2,m3⟩:=hx0;dsimp only at m1 m2 m3 ⊢;refine aV (ad J (ad J (av J J cy (aa (am J (fun h3=> ?_) (fun h3=> ?_))))))
  ·(try simp only [bk]at h3);have hi3:i<iC l:=by omega
   have hiF:i<F.length:=by omega
   obtain⟨f,hfi⟩:∃f,F[i]?=some f:=⟨_,bT hiF⟩
   have hfm:=cd hfi;have hfp:=hps f hfm;have hsi:GInv {s1 with left:=8,nodes:=150,vars:=0,names:=f.ps}:=⟨Int.le_refl _,by show(0:Int)≤8;decide,by show(f.ps.length:Int)≤100+0;omega,by show(8:Int)≤1000;decide⟩
   refine aA (aZ (aC (ar (ad J (ad J (bS J (aD fe J (aB (k:=14) t3 J J J J J J J J (aF J (ad J (bS J (aD qX J (aB (k:=14) t3 J J J J J J J J (aF J ?_))))))))))))));refine ad J (bS J (aD qW J (aB (k:=14) t3 J J J J J J J J (aF J (ad J (bS J (aD jp J (aB (k:=14) t3 J J J J J J J J (aF J (ad J (o8 eS underlying46 t9 J fun v68=>ad J (bS J (aD dy J (aT 14 ip J J J J ?_))))))))))))));refine ad J (aS (mh (j:=i) underlying25 fC J J (SlS.tg (k:=43) J) J hiF) (aS (bB dW J) (aS (ae h_ J J (EP (SlS.tg (k:=43) J) (by intro _;rfl) hfi J)) (Cd 68 underlying46 t9 J (by decide) (fun _=>J) (fun _=>J) J J J D4 (SlS.tgp (k:=43) J hfm) (by simp only [bG];omega) (by unfold maxLen;simp only [bG];omega) J fun v77=>bS J (aD gl J (aB (k:=14) h_ J J J J J J J J (aF J (ad J (bS J (aD dy J (aT 14 ip J J J J (ad J (aS (mh (j:=i) underlying25 fC J J (SlS.tg (k:=43) J) J hiF) (aS (aJ fC J J J (y_ (SlS.tg (k:=43) J) (by intro _;rfl) hfi (by rfl))) (aX fC J J fun b11=>au (k:=11) fC J J J J J J ?_)))))))))))))));refine aF J (ad J ?_);refine dG (xs:= [.tmp 87,.const (I6 1)]) (KO (e:=⟨b14,vl,v77,vf,⟨l,i,(xi l).1⟩,F⟩) ⟨hl,hlo,hFh,by dsimp only;omega,by dsimp only;omega,hps⟩ out {s1 with left:=8,nodes:=150,vars:=0,names:=f.ps} v77 hsi) Ie [14,68] [(false,0),(true,43)] [14,70,61,62] J J J J J J J J (fun _ _=>J) (fun _ _ _=>J) J (fun⟨vb,body,s2,vn2⟩ hbd=> ?_);dsimp only at hbd ⊢;refine aD bX J (aB (k:=11) eR J J J J J J J J (aa (ap (aD dx J (aT 9 ip J J J J (aS (aJ fC J J J (a_ (k:=11) J)) (bj gu (⟨f.name,f.vp,f.ps,vb,body⟩:Tf) underlying25 fC J (by decide) (by decide) J J J J fun v93=>cN 60 underlying25 fC J (by decide) (fun _=>J) (fun _=>J) J J J (aH (k:=93) J) (by simp only [bV];omega) (by unfold maxLen;simp only [bV];omega) J fun v94=>aD dx J (aB (k:=9) ip J J J J J J J J (aa (ap (ad J (av J J aO (aq J (aa (bh 43 [43,61,62] (C:=CO vf F (out++ [⟨f.name,f.vp,f.ps,vb,body⟩])) J (JI hfm) ?_)))))))))))))))
   refine aG ⟨i+1,v94,out++ [⟨f.name,f.vp,f.ps,vb,body⟩],s2,vn2,i⟩ ⟨⟨by dsimp only;omega,by dsimp only;rw [List.map_append];exact .step (f:=(f.name,f.ps)) m2 (by rw [hFh,List.getElem?_map,hfi];rfl) hbd.1,by dsimp only;rw [bA,m3];rfl⟩,by dsimp only;omega⟩ J J J
  ·(try simp only [bk]at h3);have hme:i=iC l:=by omega
   refine bM (ar (aS (aJ iQ J J J (a_ (k:=9) J)) (au (k:=2) iQ J J J J J J (aa (az (bh 63 [60,43] (C:=cE vo out) J JK (aQ (vo,out) ⟨s1,hme▸m2⟩ J (cc (bp iQ J J J (a_ (k:=2) J))) J [63] [] J J J)))))))
theorem COk.mv{w0:World}{M H:Nat→Prop}{Γ R:ey}{w:World}{k k':Nat}{A:Asn}(h:COk w0 M H Γ R w)(hk:cn Γ k=some A)(hne:Nat.beq k' k=false):COk w0 M H ((k',A)::(k,Ia)::Γ) R w:=by
 obtain⟨F,hF⟩:=h;have hne':k'≠k:=fun e=>by subst e;simp at hne
 have hsub:∀j b,(if j=k' then F k else if j=k then fun _=>False else F j) b→(j=k'∧F k b)∨(j≠k'∧j≠k∧F j b):=by
  intro j b hb;split at hb
  ·exact .inl ⟨by assumption,hb⟩
  ·split at hb
   ·exact hb.elim
   ·exact .inr ⟨by assumption,by assumption,hb⟩
 refine⟨fun j=>if j=k' then F k else if j=k then fun _=>False else F j,hF.touch,?_,?_,?_,?_,?_⟩
 ·intro j B hj;simp only [cn]at hj;cases h1:Nat.beq k' j with
  | true=>
   rw [h1]at hj;simp at hj;subst hj;have:=cO h1;subst this;simp only [if_true];exact hF.has k A hk
  | false=>
   rw [h1]at hj;have hj1:j≠k':=fun e=>by subst e;simp at h1
   cases h2:Nat.beq k j with
   | true=>
    rw [h2]at hj;simp at hj;subst hj;have:=cO h2;subst this;simp only [hj1,if_false,if_true];exact fun b hb=>hb
   | false=>
    rw [h2]at hj;have hj2:j≠k:=fun e=>by subst e;simp at h2
    simp only [hj1,hj2,if_false];exact hF.has j B hj
 ·intro j b hb;rcases hsub j b hb with⟨_,hb⟩|⟨_,_,hb⟩<;>exact hF.lt _ b hb
 ·intro j b hb hlt;rcases hsub j b hb with⟨_,hb⟩|⟨_,_,hb⟩<;>exact hF.mine _ b hb hlt
 ·intro i j b hi hj;rcases hsub i b hi with⟨e1,h1⟩|⟨e1,e2,h1⟩<;>rcases hsub j b hj with⟨f1,h2⟩|⟨f1,f2,h2⟩
  ·rw [e1,f1]
  ·exact absurd (hF.apart k j b h1 h2).symm f2
  ·exact absurd (hF.apart i k b h1 h2) e2
  ·exact hF.apart i j b h1 h2
 ·intro j B hj;obtain⟨G,g1,g2⟩:=hF.ro j B hj;refine⟨G,g1,fun b hb=>⟨(g2 b hb).1,fun i hi=> ?_,(g2 b hb).2.2⟩⟩;rcases hsub i b hi with⟨_,hb'⟩|⟨_,_,hb'⟩<;>exact(g2 b hb).2.1 _ hb'
theorem rM{N:Nat}{w0:World}{M H:Nat→Prop}{E:fz}{Γ R:ey}(k k':Nat){A:Asn}{Rel:Act→World→Prop}(hk:cn Γ k=some A)(hne:Nat.beq k' k=false)(h:At N w0 M H E ((k',A)::(k,Ia)::Γ) R Rel):At N w0 M H E Γ R Rel:=
 h.weak (fun _ h=>h) fun w hC=>hC.mv hk hne
theorem rZ{m i:Nat}(h:¬m=i){α:Type}{a b:α}:(if m<i+1 then a else b)=(if m<i then a else b):=by
 by_cases h2:m<i
 ·rw [aw h2,aw (by omega)]
 ·rw [ai h2,ai (by omega)]
def tQ(m:Nat)(l:List Tf):Asn:=⟨fun w F=>∀(j:Nat)(f:Tf),l[j]?=some f→j≠m→SlIn' w F 1 eS (sv f.vp) f.ps∧SlIn' w F 5 dM (sv f.vb) f.body,fun h hs j f hj hm=>by
 obtain⟨a,b⟩:=h j f hj hm;exact⟨a.stable hs,b.stable hs⟩⟩
def wc(fs l:List Tf):Prop:=∀(j:Nat)(f:Tf),fs[j]?=some f→∃p b,l[j]?=some {f with vp:=p,vb:=b}
def P6:Tf:=⟨bD,bv,[],bv,[]⟩
def HZ(fs:List Tf)(m:Nat):Tf:=(fs[m]?).getD P6
theorem JT{m:Nat}(w:World)(F:Nat→Prop):(tQ m []).pred w F:=fun j f hj=>by simp at hj
theorem Gy{m:Nat}{l:List Tf}{f:Tf}(w:World)(F:Nat→Prop)(h:AllIn w F [tQ m l,own 9 1 eS (sv f.vp) f.ps,own 64 5 dM (sv f.vb) f.body]):(tQ m (l++ [f])).pred w F:=by
 obtain⟨⟨_,a0,b0⟩,⟨_,a1,b1⟩,⟨_,a2,b2⟩,_⟩:=h;intro j g hj hm;rw [List.getElem?_append]at hj;split at hj
 ·exact⟨(a0 j g hj hm).1.mono b0,(a0 j g hj hm).2.mono b0⟩
 ·have:g=f:=by
   cases hk:j-l.length with
   | zero=>rw [hk]at hj;exact(d5 hj).symm
   | succ k=>rw [hk]at hj;simp at hj
  subst this;exact⟨ck a1 b1,ck a2 b2⟩
theorem Gz{m:Nat}{l:List Tf}{f:Tf}(hm:l.length=m):∀w G,(tQ m l).pred w G→(tQ m (l++ [f])).pred w G:=fun w G h j g hj hjm=>by
 rw [List.getElem?_append]at hj;split at hj
 ·exact h j g hj hjm
 ·have:¬j-l.length=0:=by omega
  cases hk:j-l.length with
  | zero=>exact absurd hk this
  | succ k=>rw [hk]at hj;simp at hj
structure Cp where
 i:Nat
 v:SV
 l:List Tf
 pm:SV
 bm:SV
def Q8(fs:List Tf)(m:Nat)(x:Cp):Prop:=x.i≤fs.length∧x.l.length=x.i∧wc (fs.take x.i) x.l∧(m<x.i→x.l[m]?=some {HZ fs m with vp:=x.pm,vb:=x.bm})∧(x.i≤m→x.pm=bv∧x.bm=bv)
theorem Bs{fs l:List Tf}{i:Nat}{f:Tf}{p b:SV}(hf:fs[i]?=some f)(hl:l.length=i)(h:wc (fs.take i) l):wc (fs.take (i+1)) (l++ [{f with vp:=p,vb:=b}]):=fun j g hj=>by
 rw [List.getElem?_take]at hj;split at hj
 ·rename_i hji;by_cases h2:j<i
  ·obtain⟨p,b,hq⟩:=h j g (by rw [List.getElem?_take,aw h2];exact hj);exact⟨p,b,by rw [List.getElem?_append_left (by omega)];exact hq⟩
  ·obtain rfl:j=i:=by omega
   rw [hf]at hj;cases hj;exact⟨p,b,by rw [List.getElem?_append_right (by omega),hl];simp⟩
 ·cases hj
theorem CA(vp:SV)(fs:List Tf)(m:Nat)(hg:GP fs):
  Spec prog 45 [.agg #[sv vp]] [] [cE vp fs] (X:=Cp) (fun x=>x.i=fs.length∧Q8 fs m x) (fun x=> .agg #[sv x.v]) (fun x=> [tQ m x.l,own 66 3 gu (sv x.v) x.l,own 9 1 eS (sv x.pm) (if m<fs.length then(HZ fs m).ps else []),own 64 5 dM (sv x.bm) (if m<fs.length then(HZ fs m).body else [])]) (fun _=> []):=by
 refine aM func45 J ntmps45 J fun w0 M H=>bc 0 1 J jw ?_
 have hfl:=hg.1;refine ar (cA J J fun b1=>aX iQ J J fun b2=>aF J (aS (aR (parts:= []) iQ MJ J J) (aX iQ J J fun b3=>au (k:=3) iQ J J J J J J (aa (aV (aq J (aa (aC (dI 41 (α:=Tf) (S:=66) (s:=3) (enc:=gu) (dI 42 (α:=Ba) (S:=9) (s:=1) (enc:=eS) (dI 43 (α:=Ty) (S:=64) (s:=5) (enc:=dM) ?_)))))))))));refine bh 40 [] (L:= []) (C:=tQ m []) J (fun w F _=>JT w F) ?_;refine bI (X:=Cp) (fun x=>Q8 fs m x) (fun x=> [(1,Pt b1),(2,Pt b2),(3,Pt b3),(4,I6 (x.i:Int))]) (fun x=> [(1,be b1 27 [sv vp]),(3,be b3 27 [sv x.v]),(40,tQ m x.l),(41,own 66 3 gu (sv x.v) x.l),(42,own 9 1 eS (sv x.pm) (if m<x.i then(HZ fs m).ps else [])),(43,own 64 5 dM (sv x.bm) (if m<x.i then(HZ fs m).body else [])),(2,be b2 27 [.slice none 0 0])]) (fun x=> [(0,cE vp fs),(1,sl 3 gu (sv vp) fs)]) (fun x=>fs.length-x.i) ⟨0,bv,[],bv,bv⟩ ⟨bq _,J,fun j f hj=>by simp at hj,fun h=>by simp at h,fun _=>⟨rfl,rfl⟩⟩ J J J (fun x hx0=> ?_);obtain⟨i,v,l,pm,bm⟩:=x;obtain⟨n1,n2,n3,n4,n5⟩:=hx0;dsimp only at n1 n2 n3 n4 n5 ⊢;refine aV (ad J (aD dx J (aT 1 ip J J J J (aS (aL underlying25 J (aN (k:=1) J)) (av J J cy (aa (am J (fun h1=> ?_) (fun h1=> ?_))))))))
 ·(try simp only [bk]at h1);have hi:i<fs.length:=by omega
  obtain⟨f,hf⟩:∃k,fs[i]?=some k:=⟨_,bT hi⟩
  have hfm:=cd hf;obtain⟨g1,g2,g3,g4,g5,g6⟩:=hg.2 f hfm;refine bc 0 7 J (lI hfm) (bc 7 8 J lJ (bc 7 10 J kF (bc 10 9 J hZ (aA (aZ (aC (ar (aD dx J (aT 1 ip J J J J (ad J (aS (aK (j:=i) underlying25 fC J J (aN (k:=1) J) (by first|rfl|omega) (by first|omega|(simp;done)|(simp;omega))) (aS (aJ fC J J J (bJ (aN (k:=1) J) (by intro _;rfl) hf (by rfl))) (aX fC J J fun b5=>au (k:=5) fC J J J J J J (aF J (o8 eS underlying46 t9 J fun v19=> ?_)))))))))))))));refine aD dW J (aT 5 h_ J J J J (cN 19 underlying46 t9 J (by decide) (fun _=>J) (fun _=>J) J J J (aN (k:=8) J) (by simp only [bG];omega) (by unfold maxLen;simp only [bG];omega) J fun v22=>aD dW J (aB (k:=5) h_ J J J J J J J J (aF J (o8 dM underlying62 cr J fun v24=>aD bX J (aT 5 eR J J J J (cN 24 underlying62 cr J (by decide) (fun _=>J) (fun _=>J) J J J (aN (k:=9) J) (by simp only [bG];omega) (by unfold maxLen;simp only [bG];omega) J fun v27=>aD bX J (aB (k:=5) eR J J J J J J J J (aa (ap (aD dx J (aT 3 ip J J J J (aS (aJ fC J J J (a_ (k:=5) J)) (bj gu {f with vp:=v22,vb:=v27} underlying25 fC J (by decide) (by decide) J J J J fun v32=> ?_))))))))))))));refine cN 41 underlying25 fC J (by decide) (fun _=>J) (fun _=>J) J J J (aH (k:=32) J) (by simp only [bV];omega) (by unfold maxLen;simp only [bV];omega) J fun v33=>aD dx J (aB (k:=3) ip J J J J J J J J (aa (ap (ad J (av J J aO (aq J (aa ?_)))))))
  by_cases hmi:m=i
  ·have hfat:HZ fs m=f:=by unfold HZ;rw [hmi,hf];rfl
   have hlt:m<i+1:=by omega
   refine nT (k:=40) (A':=tQ m (l++ [{f with vp:=v22,vb:=v27}])) J (Gz (by omega)) (rM 19 42 J J (rM 24 43 J J ?_));refine aG ⟨i+1,v33,l++ [{f with vp:=v22,vb:=v27}],v22,v27⟩ ⟨⟨by dsimp only;omega,by dsimp only;rw [bA,bV];omega,by dsimp only;exact Bs hf n2 n3,fun hm=>by dsimp only;rw [List.getElem?_append_right (by omega),n2,hmi,Nat.sub_self];rw [←hmi,hfat];rfl,fun hm=>by dsimp only at hm;omega⟩,by dsimp only;omega⟩ J (by dsimp only;rw [aw hlt,aw hlt,hfat];rfl) J
  ·refine bh 40 [40,19,24] (C:=tQ m (l++ [{f with vp:=v22,vb:=v27}])) J (fun w F h=>Gy w F h) ?_;refine aG ⟨i+1,v33,l++ [{f with vp:=v22,vb:=v27}],pm,bm⟩ ⟨⟨by dsimp only;omega,by dsimp only;rw [bA,bV];omega,by dsimp only;exact Bs hf n2 n3,fun hm=>by dsimp only at hm ⊢;rw [List.getElem?_append_left (by omega)];exact n4 (by omega),fun hm=>by dsimp only at hm ⊢;exact n5 (by omega)⟩,by dsimp only;omega⟩ J (by dsimp only;rw [rZ hmi,rZ hmi];rfl) J
 ·(try simp only [bk]at h1);have hi:i=fs.length:=by omega
  subst hi;refine bM (ar (aS (aJ iQ J J J (a_ (k:=3) J)) (au (k:=2) iQ J J J J J J (aa (az (aQ ⟨fs.length,v,l,pm,bm⟩ ⟨J,n1,n2,n3,n4,n5⟩ J (cc (bp iQ J J J (a_ (k:=2) J))) J [40,41,42,43] [] J J J))))))
def rs(r:Int→Int)(d v:Int):Int→Int:=fun k=>if k=d then v else r k
theorem yr{pc:Int}{r:Int→Int}{st x:Int}(hx:0≤x∧x<16):(sR pc r st)[1+x.toNat*1]?=some (I3 (r x)):=by
 obtain⟨k,rfl⟩:=Int.eq_ofNat_of_zero_le hx.1;have hk:k<16:=by omega
 show(sR pc r st)[1+k*1]?=_
 match k,hk with
 | 0,_=>rfl
 | 1,_=>rfl
 | 2,_=>rfl
 | 3,_=>rfl
 | 4,_=>rfl
 | 5,_=>rfl
 | 6,_=>rfl
 | 7,_=>rfl
 | 8,_=>rfl
 | 9,_=>rfl
 | 10,_=>rfl
 | 11,_=>rfl
 | 12,_=>rfl
 | 13,_=>rfl
 | 14,_=>rfl
 | 15,_=>rfl
theorem m5{pc:Int}{r:Int→Int}{st x v:Int}(hx:0≤x∧x<16):(sR pc r st).take (1+x.toNat*1)++ [Value.int .u32 v]++(sR pc r st).drop (1+x.toNat*1+1)=sR pc (rs r x v) st:=by
 obtain⟨k,rfl⟩:=Int.eq_ofNat_of_zero_le hx.1;have hk:k<16:=by omega
 show(sR pc r st).take (1+k*1)++ [Value.int .u32 v]++(sR pc r st).drop (1+k*1+1)=_
 match k,hk with
 | 0,_=>rfl
 | 1,_=>rfl
 | 2,_=>rfl
 | 3,_=>rfl
 | 4,_=>rfl
 | 5,_=>rfl
 | 6,_=>rfl
 | 7,_=>rfl
 | 8,_=>rfl
 | 9,_=>rfl
 | 10,_=>rfl
 | 11,_=>rfl
 | 12,_=>rfl
 | 13,_=>rfl
 | 14,_=>rfl
 | 15,_=>rfl
theorem Pa{r:Int→Int}(h0:r 0=0):rs r 0 0=r:=by
 funext k;unfold rs;split
 ·rename_i h;rw [h,h0]
 ·rfl
theorem Mz{r:Int→Int}{d v:Int}(h0:r 0=0):rs (rs r d v) 0 0=rp r d v:=by
 funext k;unfold rs rp;by_cases h:k=0
 ·rw [aw h];by_cases h2:k=d∧d≠0
  ·exact absurd (h2.1.symm.trans h) h2.2
  ·rw [ai h2,h,h0]
 ·rw [ai h];by_cases h2:k=d
  ·rw [aw h2,aw ⟨h2,fun h3=>h (h2.trans h3)⟩]
  ·rw [ai h2,ai (fun h3=>h2 h3.1)]
theorem rG{pc:Int}{r:Int→Int}{st x:Int}{u:Value}(hx:0≤x∧x<16):(1+x.toNat*1+ [u].length).ble (sR pc r st).length=true:=by
 rw [Nat.ble_eq];show 1+x.toNat*1+1≤24;omega
theorem GG{pc:Int}{r:Int→Int}{st:Int}(h0:r 0=0):(sR pc r st).take 1++ [Value.int .u32 0]++(sR pc r st).drop 2=sR pc r st:=(m5 (x:=0) (by decide)).trans (by rw [Pa h0])
theorem wx{pc:Int}{r:Int→Int}{st d v:Int}(h0:r 0=0):(sR pc (rs r d v) st).take 1++ [Value.int .u32 0]++(sR pc (rs r d v) st).drop 2=sR pc (rp r d v) st:=(m5 (x:=0) (by decide)).trans (by rw [Mz h0])
theorem lC(n:Int):0≤wU n∧wU n<4294967296:=by
 show 0≤n%4294967296∧n%4294967296<4294967296;omega
theorem x9(a b:Int):wU (a+wU b)=wU (a+b):=by
 show(a+b%4294967296)%4294967296=(a+b)%4294967296;omega
theorem Mg(n:Int):IntKind.u32.wrap (IntKind.u32.wrap n/4*4)=IntKind.u32.wrap n/4*4:=by
 have:=lC n;have e:IntKind.u32.wrap n=wU n:=J;exact cf (by omega)
structure Stx(s:Mm)(i:Qi)(pc:Int)(r:Int→Int)(st:Int):Prop where
 f:Fx s i pc
 p:pc<1000000
 h0:r 0=0
 hr:∀k,0≤r k∧r k<4294967296
 hst:0≤st∧st<1000000000000000
def oC(pc:Int)(r:Int→Int)(st k x:Int):List Value:=sR pc r st++ [I6 k,I3 x]
theorem nN(pc:Int)(r:Int→Int)(st k x:Int):
  bi prog 149 [.agg (sR pc r st).toArray,I6 k,I3 x] [] [] (.agg (oC pc r st k x).toArray) []:=by
 refine aM func149 J ntmps149 J fun w0 M H=>ar (cA J J fun b3=>aX mJ J J fun b6=>aF J (aS (aJ xP J J J (a_ (k:=3) J)) (ad J (ad J (aS (aR (parts:= [(0,.tmp 8),(1,.tmp 9)]) Ab MI J J) (aS (aR (cs:=(oC pc r st k x).toArray) (parts:= [(0,.tmp 7),(1,.tmp 10)]) mJ IA J (by kernel_rfl)) (au (k:=6) mJ J J J J J J (aa (az (aQ () O J (cc (bp mJ J J J (a_ (k:=6) J))) J [] [] J J J))))))))))
abbrev kE(e:Me)(i:Qi)(pc:Int)(r:Int→Int)(b2 b4 b6 b7:Nat):fz:= [(1,Pt e.m),(2,Pt b2),(4,Pt b4),(6,Pt b6),(7,Pt b7),(8,I3 (r i.d)),(9,I3 (r i.a)),(10,I3 (if i.op<16 then r i.b else i.imm)),(11,I3 (pc+4)),(12,I6 (jQ i.op))]
abbrev kG(e:Me)(s:Mm)(i:Qi)(pc:Int)(r:Int→Int)(st:Int)(b2 b4 b6 b7:Nat):ey:= [(20,be e.m 157 (mR e)),(21,own 5 1 ct (sv e.vd) s.d),(22,own 5 1 ct (sv e.vi) s.i),(23,own 3 1 eI (sv e.vr) s.r),(2,be b2 78 (sR pc r st)),(4,be b4 207 (oC 0 qI 0 0 0)),(6,be b6 118 (iY i)),(7,be b7 78 (sR pc r st))]
def tl:Nat→Code→Code
 | 0,c=>c
 | n+1,.seq _ b=>tl n b
 | _+1,c=>c
def fN(f:Func):Code:=match f.body with
 | some c=>c
 | none=> .skip
theorem gJ(e:Me)(s:Mm)(n:Nat)(hs:MO s n)(i:Qi)(pc:Int)(r:Int→Int)(st:Int)(hx:Stx s i pc r st){X:Type}{φ:X→Prop}{v:X→Value}{L1 R1:X→List Asn}
  (k:∀(w0:World)(M H:Nat→Prop)(b2 b4 b6 b7:Nat),At 301 w0 M H (kE e i pc r b2 b4 b6 b7) (kG e s i pc r st b2 b4 b6 b7) [] ((tl 12 (fN f115)).wp prog (bodyPost prog f115 (L7 w0 M H φ v L1 R1)))):
  Spec prog 115 [.agg (sR pc r st).toArray,Pt e.m] [be e.m 157 (mR e),own 5 1 ct (sv e.vd) (s).d,own 5 1 ct (sv e.vi) (s).i,own 3 1 eI (sv e.vr) (s).r] [] φ v L1 R1:=by
 refine aM func115 J ntmps115 J fun w0 M H=>rM 0 20 J J (rM 1 21 J J (rM 2 22 J J (rM 3 23 J J ?_)))
 have hdd:=hx.f.hv.d;have haa:=hx.f.hv.a;have hbb:=hx.f.hv.b;have him:=hx.f.imm;have hpp:=hx.f.p;have hp2:=hx.p;have hst:=hx.hst;refine ar (cA J J fun b2=>aX mJ J J fun b4=>aF J (aD i9 J (aT 2 eG J J J J (ad J (ak (xs:= [.tmp 20,.tmp 21]) (wE e s n hs i pc hx.f) Oc [20,21,22,23] [] [20,21,22,23] (fun _ _=>aX BQ J J fun b5=>au (k:=5) BQ J J J J J J (aa (aV (aD HO J (aS (bB sk J) (aT 5 t3 J J J J ?_)))))))))));refine av J J gj (aa (am J (fun h1=> ?_) (fun h1=> ?_)))
 ·cases h1
 ·(try simp only [bk]at h1);refine aA (ar (aD HP J (aS (aJ (us:=iY i) fH J J J (mV (k:=5) J J)) (aX fH J J fun b6=>au (k:=6) fH J J J J J J (aF J (aS (aJ xP J J J (a_ (k:=2) J)) (aX xP J J fun b7=>au (k:=7) xP J J J J J J (aF J (aD ic J (aS (d9 (j:=0) underlying75 eG J J (by rfl) (by decide)) (aB (k:=7) (us:= [I3 0]) (c':=sR pc r st) eG J J J J J J J (GG hx.h0) (aa ?_))))))))))));refine ar (aD g9 J (aT 6 t3 J J J J (aD ic J (aS (d9 (j:=i.d.toNat) underlying75 eG J J (by omega) (by omega)) (aT 7 eG J J J (yr hx.f.hv.d) (aq J (aF J (aD mB J (aT 6 t3 J J J J (aD ic J (aS (d9 (j:=i.a.toNat) underlying75 eG J J (by omega) (by omega)) (aT 7 eG J J J (yr hx.f.hv.a) (aq J (aF J ?_))))))))))))));refine aD mA J (aT 6 t3 J J J J (aD ic J (aS (d9 (j:=i.b.toNat) underlying75 eG J J (by omega) (by omega)) (aT 7 eG J J J (yr hx.f.hv.b) (aq J (aF J (aD i9 J (aT 7 eG J J J J (av J J (cC (c:=pc+4) (cf (by omega))) (aq J (aF J (aD cz J (aT 6 t3 J J J J (ak (xs:= [.tmp 55]) (yw i.op) Ob [] [] [] (fun _ _=>aq J ?_)))))))))))))));refine aa (bz (X:=Nat×Nat×Nat×Nat) (fun _=>True) (fun z=> [(1,Pt e.m),(2,Pt z.1),(4,Pt z.2.1),(6,Pt z.2.2.1),(7,Pt z.2.2.2),(8,I3 (r i.d)),(9,I3 (r i.a)),(10,I3 (if i.op<16 then r i.b else i.imm)),(11,I3 (pc+4)),(12,I6 (jQ i.op))]) (fun z=> [(20,be e.m 157 (mR e)),(21,own 5 1 ct (sv e.vd) s.d),(22,own 5 1 ct (sv e.vi) s.i),(23,own 3 1 eI (sv e.vr) s.r),(2,be z.1 78 (sR pc r st)),(4,be z.2.1 207 (oC 0 qI 0 0 0)),(6,be z.2.2.1 118 (iY i)),(7,be z.2.2.2 78 (sR pc r st))]) (fun z=> []) ?_ (fun⟨b2,b4,b6,b7⟩ _=> ?_))
  ·refine ar (aD cz J (aT 6 t3 J J J J (av J J ig (aa (am J (fun h2=> ?_) (fun h2=> ?_))))))
   ·(try simp only [bk]at h2);refine ap (aD eo J (aT 6 eG J J J J (aq J (aa ?_))));refine aG (b2,b4,b6,b7) O (by rw [ai (show ¬i.op<16 by omega)];rfl) J J
   ·(try simp only [bk]at h2);refine aA ?_;refine aG (b2,b4,b6,b7) O (by rw [aw (show i.op<16 by omega)];rfl) J J
  ·exact k w0 M H b2 b4 b6 b7
theorem nS{N:Nat}{w0:World}{M H:Nat→Prop}{E E2:fz}{Γ R:ey}{Rel:Act→World→Prop}(he:ul E E2=uj E2)(h:At N w0 M H E2 Γ R Rel):At N w0 M H E Γ R Rel:=fun a w h1 h2=>h a w (h1.sub he) h2
def iD:Code→Code
 | .seq (.block _ c) _=>c
 | c=>c
def els:Nat→Code→Code
 | 0,c=>c
 | n+1,.seq _ (.cond _ _ f)=>els n f
 | _+1,c=>c
theorem oH{e:Me}{s:Mm}{i:Qi}{pc:Int}{r:Int→Int}{st:Int}(h:i.op≠10){w0:World}{M H:Nat→Prop}{Q:Exit→Act→World→Prop}{b2 b4 b6 b7:Nat}(k:At 301 w0 M H (kE e i pc r b2 b4 b6 b7) (kG e s i pc r st b2 b4 b6 b7) [] ((els 1 (iD (tl 12 (fN f115)))).wp prog Q)):
  At 301 w0 M H (kE e i pc r b2 b4 b6 b7) (kG e s i pc r st b2 b4 b6 b7) [] ((els 0 (iD (tl 12 (fN f115)))).wp prog Q):=by
 skip;refine ar (aD cz J (aT 6 t3 J J J J (av J J br (ad J (aI [] J J O (fun hg1=>aY J) J (aI [(67,_)] J J ⟨J,O⟩ (fun hg2=>aU J J br) J (aS (bK J J J) (aq J (aa (am J (fun h3=> ?_) (fun h3=> ?_)))))))))))
 ·(exfalso;have h0:=h3;revert h0;simp;first|exact h|omega|(intro h1;exact absurd h1 h))
 ·(try simp only [bk]at h3);exact nS J k
theorem oG{e:Me}{s:Mm}{i:Qi}{pc:Int}{r:Int→Int}{st:Int}(h:jQ i.op=0){w0:World}{M H:Nat→Prop}{Q:Exit→Act→World→Prop}{b2 b4 b6 b7:Nat}(k:At 301 w0 M H (kE e i pc r b2 b4 b6 b7) (kG e s i pc r st b2 b4 b6 b7) [] ((els 2 (iD (tl 12 (fN f115)))).wp prog Q)):
  At 301 w0 M H (kE e i pc r b2 b4 b6 b7) (kG e s i pc r st b2 b4 b6 b7) [] ((els 1 (iD (tl 12 (fN f115)))).wp prog Q):=by
 skip;refine ar (ad J (av J J gj (aq J (aa (am J (fun h1=> ?_) (fun h1=> ?_))))))
 ·(exfalso;have h0:=h1;revert h0;simp;first|exact h|omega|(intro h1;exact absurd h1 h))
 ·(try simp only [bk]at h1);exact nS J k
theorem qh{e:Me}{s:Mm}{i:Qi}{pc:Int}{r:Int→Int}{st:Int}(h:i.op≠23∧i.op≠24){w0:World}{M H:Nat→Prop}{Q:Exit→Act→World→Prop}{b2 b4 b6 b7:Nat}(k:At 301 w0 M H (kE e i pc r b2 b4 b6 b7) (kG e s i pc r st b2 b4 b6 b7) [] ((els 3 (iD (tl 12 (fN f115)))).wp prog Q)):
  At 301 w0 M H (kE e i pc r b2 b4 b6 b7) (kG e s i pc r st b2 b4 b6 b7) [] ((els 2 (iD (tl 12 (fN f115)))).wp prog Q):=by
 skip;refine ar (aD cz J (aT 6 t3 J J J J (av J J br (ad J (aI [] J J O (fun hg1=>ah cz J) J (aI [(88,_)] J J ⟨J,O⟩ (fun hg2=>ae t3 J J (ax (k:=6) J J)) J (aI [(88,_),(89,_)] J J ⟨J,J,O⟩ (fun hg3=>aU J J br) J (aS (bK J J J) (aq J (aa (am J (fun h4=> ?_) (fun h4=> ?_))))))))))))
 ·(exfalso;have h0:=h4;revert h0;simp;first|exact h|omega|(intro h1;exact absurd h1 h))
 ·(try simp only [bk]at h4);exact nS J k
theorem sK{e:Me}{s:Mm}{i:Qi}{pc:Int}{r:Int→Int}{st:Int}(h:i.op≠25∧i.op≠26){w0:World}{M H:Nat→Prop}{Q:Exit→Act→World→Prop}{b2 b4 b6 b7:Nat}(k:At 301 w0 M H (kE e i pc r b2 b4 b6 b7) (kG e s i pc r st b2 b4 b6 b7) [] ((els 4 (iD (tl 12 (fN f115)))).wp prog Q)):
  At 301 w0 M H (kE e i pc r b2 b4 b6 b7) (kG e s i pc r st b2 b4 b6 b7) [] ((els 3 (iD (tl 12 (fN f115)))).wp prog Q):=by
 skip;refine ar (aD cz J (aT 6 t3 J J J J (av J J br (ad J (aI [] J J O (fun hg1=>ah cz J) J (aI [(120,_)] J J ⟨J,O⟩ (fun hg2=>ae t3 J J (ax (k:=6) J J)) J (aI [(120,_),(121,_)] J J ⟨J,J,O⟩ (fun hg3=>aU J J br) J (aS (bK J J J) (aq J (aa (am J (fun h4=> ?_) (fun h4=> ?_))))))))))))
 ·(exfalso;have h0:=h4;revert h0;simp;first|exact h|omega|(intro h1;exact absurd h1 h))
 ·(try simp only [bk]at h4);exact nS J k
theorem px{e:Me}{s:Mm}{i:Qi}{pc:Int}{r:Int→Int}{st:Int}(h:i.op≠27){w0:World}{M H:Nat→Prop}{Q:Exit→Act→World→Prop}{b2 b4 b6 b7:Nat}(k:At 301 w0 M H (kE e i pc r b2 b4 b6 b7) (kG e s i pc r st b2 b4 b6 b7) [] ((els 5 (iD (tl 12 (fN f115)))).wp prog Q)):
  At 301 w0 M H (kE e i pc r b2 b4 b6 b7) (kG e s i pc r st b2 b4 b6 b7) [] ((els 4 (iD (tl 12 (fN f115)))).wp prog Q):=by
 skip;refine ar (aD cz J (aT 6 t3 J J J J (av J J br (aq J (aa (am J (fun h1=> ?_) (fun h1=> ?_)))))))
 ·(exfalso;have h0:=h1;revert h0;simp;first|exact h|omega|(intro h1;exact absurd h1 h))
 ·(try simp only [bk]at h1);exact nS J k
theorem vS{e:Me}{s:Mm}{i:Qi}{pc:Int}{r:Int→Int}{st:Int}(h:¬(32≤i.op∧i.op≤37)){w0:World}{M H:Nat→Prop}{Q:Exit→Act→World→Prop}{b2 b4 b6 b7:Nat}(k:At 301 w0 M H (kE e i pc r b2 b4 b6 b7) (kG e s i pc r st b2 b4 b6 b7) [] ((els 6 (iD (tl 12 (fN f115)))).wp prog Q)):
  At 301 w0 M H (kE e i pc r b2 b4 b6 b7) (kG e s i pc r st b2 b4 b6 b7) [] ((els 5 (iD (tl 12 (fN f115)))).wp prog Q):=by
 skip;refine ar (aD cz J (aT 6 t3 J J J J (av J J ig (ad J (aI [] J J O (fun hg1=>ah cz J) J (aI [(162,_)] J J ⟨J,O⟩ (fun hg2=>ae t3 J J (ax (k:=6) J J)) J (aI [(162,_),(163,_)] J J ⟨J,J,O⟩ (fun hg3=>aU J J l7) J (aS (bK J J J) (aq J (aa (am J (fun h4=> ?_) (fun h4=> ?_))))))))))))
 ·(exfalso;have h0:=h4;revert h0;simp;first|exact h|omega|(intro h1;exact absurd h1 h))
 ·(try simp only [bk]at h4);exact nS J k
theorem zw{e:Me}{s:Mm}{i:Qi}{pc:Int}{r:Int→Int}{st:Int}(h:i.op≠40){w0:World}{M H:Nat→Prop}{Q:Exit→Act→World→Prop}{b2 b4 b6 b7:Nat}(k:At 301 w0 M H (kE e i pc r b2 b4 b6 b7) (kG e s i pc r st b2 b4 b6 b7) [] ((els 7 (iD (tl 12 (fN f115)))).wp prog Q)):
  At 301 w0 M H (kE e i pc r b2 b4 b6 b7) (kG e s i pc r st b2 b4 b6 b7) [] ((els 6 (iD (tl 12 (fN f115)))).wp prog Q):=by
 skip;refine ar (aD cz J (aT 6 t3 J J J J (av J J br (aq J (aa (am J (fun h1=> ?_) (fun h1=> ?_)))))))
 ·(exfalso;have h0:=h1;revert h0;simp;first|exact h|omega|(intro h1;exact absurd h1 h))
 ·(try simp only [bk]at h1);exact nS J k
theorem Fa{e:Me}{s:Mm}{i:Qi}{pc:Int}{r:Int→Int}{st:Int}(h:i.op≠41){w0:World}{M H:Nat→Prop}{Q:Exit→Act→World→Prop}{b2 b4 b6 b7:Nat}(k:At 301 w0 M H (kE e i pc r b2 b4 b6 b7) (kG e s i pc r st b2 b4 b6 b7) [] ((els 8 (iD (tl 12 (fN f115)))).wp prog Q)):
  At 301 w0 M H (kE e i pc r b2 b4 b6 b7) (kG e s i pc r st b2 b4 b6 b7) [] ((els 7 (iD (tl 12 (fN f115)))).wp prog Q):=by
 skip;refine ar (aD cz J (aT 6 t3 J J J J (av J J br (aq J (aa (am J (fun h1=> ?_) (fun h1=> ?_)))))))
 ·(exfalso;have h0:=h1;revert h0;simp;first|exact h|omega|(intro h1;exact absurd h1 h))
 ·(try simp only [bk]at h1);exact nS J k
theorem Le{e:Me}{s:Mm}{i:Qi}{pc:Int}{r:Int→Int}{st:Int}(h:i.op≠48){w0:World}{M H:Nat→Prop}{Q:Exit→Act→World→Prop}{b2 b4 b6 b7:Nat}(k:At 301 w0 M H (kE e i pc r b2 b4 b6 b7) (kG e s i pc r st b2 b4 b6 b7) [] ((els 9 (iD (tl 12 (fN f115)))).wp prog Q)):
  At 301 w0 M H (kE e i pc r b2 b4 b6 b7) (kG e s i pc r st b2 b4 b6 b7) [] ((els 8 (iD (tl 12 (fN f115)))).wp prog Q):=by
 skip;refine ar (aD cz J (aT 6 t3 J J J J (av J J br (aq J (aa (am J (fun h1=> ?_) (fun h1=> ?_)))))))
 ·(exfalso;have h0:=h1;revert h0;simp;first|exact h|omega|(intro h1;exact absurd h1 h))
 ·(try simp only [bk]at h1);exact nS J k
theorem ij(e:Me)(s:Mm)(pc:Int)(r1 r2:Int→Int)(st npc:Int)(hst:0≤st∧st<1000000000000000)(hz:(sR pc r1 st).take 1++ [Value.int .u32 0]++(sR pc r1 st).drop 2=sR pc r2 st){w0:World}{M H:Nat→Prop}{b4 b7:Nat}:
  At 301 w0 M H [(4,Pt b4),(7,Pt b7),(11,I3 npc)] [(20,be e.m 157 (mR e)),(21,own 5 1 ct (sv e.vd) (s).d),(22,own 5 1 ct (sv e.vi) (s).i),(23,own 3 1 eI (sv e.vr) (s).r),(4,be b4 207 (oC 0 qI 0 0 0)),(7,be b7 78 (sR pc r1 st))] [] ((tl 13 (fN f115)).wp prog (bodyPost prog f115 (L7 w0 M H (X:=Unit) (fun _=>True) (fun _=> .agg (oC npc r2 (st+1) 0 0).toArray) (fun _=> [be e.m 157 (mR e),own 5 1 ct (sv e.vd) (s).d,own 5 1 ct (sv e.vi) (s).i,own 3 1 eI (sv e.vr) (s).r]) (fun _=> [])))):=by
 skip;refine ar (aD ic J (aS (d9 (j:=0) underlying75 eG J J (by rfl) (by decide)) (aB (k:=7) (us:= [I3 0]) (c':=sR pc r2 st) eG J J J J J J J hz (aF J (ad J (aD i9 J (aB (k:=7) (us:= [I3 npc]) (c':=sR npc r2 st) eG J J J J J J J J (aF J (aD i7 J (aT 7 t3 J J J J (av J J (cC (c:=st+1) (bU (by omega))) (aD i7 J (aB (k:=7) (us:= [I6 (st+1)]) (c':=sR npc r2 (st+1)) t3 J J J J J J J J (aa ?_))))))))))))));refine ar (aS (aJ xP J J J (a_ (k:=7) J)) (aS (aR (cs:=(oC npc r2 (st+1) 0 0).toArray) (parts:= [(0,.tmp 299)]) mJ IA J (by kernel_rfl)) (au (k:=4) mJ J J J J J J (aa (az (aQ () O J (cc (bp mJ J J J (a_ (k:=4) J))) J [20,21,22,23] [] J J J))))))
theorem Dw(e:Me)(s:Mm)(n:Nat)(hs:MO s n)(i:Qi)(pc:Int)(r:Int→Int)(st:Int)(hx:Stx s i pc r st)(v:Int)(hu:xL i.op (r i.a) (if i.op<16 then r i.b else i.imm)=some v):
  bi prog 115 [.agg (sR pc r st).toArray,Pt e.m] [be e.m 157 (mR e),own 5 1 ct (sv e.vd) (s).d,own 5 1 ct (sv e.vi) (s).i,own 3 1 eI (sv e.vr) (s).r] [] (.agg (oC (pc+4) (rp r i.d v) (st+1) 0 0).toArray) [be e.m 157 (mR e),own 5 1 ct (sv e.vd) (s).d,own 5 1 ct (sv e.vi) (s).i,own 3 1 eI (sv e.vr) (s).r]:=by
 have hdd:=hx.f.hv.d;have haa:=hx.f.hv.a;have hbb:=hx.f.hv.b;have him:=hx.f.imm;have hpp:=hx.f.p;have hp2:=hx.p;have hst:=hx.hst;obtain⟨ho,hz,hk⟩:=LJ hu;refine gJ e s n hs i pc r st hx fun w0 M H b2 b4 b6 b7=> ?_
 refine bz (X:=Unit) (fun _=>True) (fun _=> [(4,Pt b4),(7,Pt b7),(11,I3 (pc+4))]) (fun _=> [(20,be e.m 157 (mR e)),(21,own 5 1 ct (sv e.vd) (s).d),(22,own 5 1 ct (sv e.vi) (s).i),(23,own 3 1 eI (sv e.vr) (s).r),(4,be b4 207 (oC 0 qI 0 0 0)),(7,be b7 78 (sR pc (rs r i.d v) st))]) (fun _=> []) ?_ (fun _ _=> ?_)
 ·refine aC (ar (aD cz J (aT 6 t3 J J J J (av J J br (ad J (aI [] J J O (fun hg1=>aY J) J (aI [(67,_)] J J ⟨J,O⟩ (fun hg2=>aU J J br) J (aS (bK J J J) (aq J (aa (am J (fun h3=> ?_) (fun h3=> ?_))))))))))))
  ·(exfalso;have h0:=h3;revert h0;simp;try omega)
  ·(try simp only [bk]at h3);refine ar (ad J (av J J gj (aq J (aa (am J (fun h4=> ?_) (fun h4=> ?_))))))
   ·(try simp only [bk]at h4);refine bQ [75,76,77,78,79,80,81,82] _ J (aW (V:= [(0,75,_),(1,76,_),(2,77,_),(3,78,_),(4,79,_),(6,81,_)]) [0,1,2,3,4,6] 5 [5,4,3,2] [7] (fun _=> [(7,82,_)]) J J (ac J (ah g9 J) (ac J (ae t3 J J (ax (k:=6) J J)) (ay J J (ay J J (ay J J (ac J (ah ic J) ag)))))) J J J J J J J J J J J (fun _ _=>J) J (fv (xs:= [.tmp 77,.tmp 78,.tmp 79]) (DM (jQ i.op) (r i.a) (if i.op<16 then r i.b else i.imm) v (hx.hr _) (by split;exact hx.hr _;exact him) (LK hu)) Oa [] [] [] J J J) (fun _ _=>bH [7,0,1,6] 8 [8,7,6,5,4,3,2,1,0] [] (fun _=> []) J J (ac J (d9 (j:=i.d.toNat) underlying75 eG J J (by omega) (by omega)) (ac J (ah g9 J) (ac J (ae t3 J J (ax (k:=6) J J)) (ac J (ah ic J) ag)))) J J J J J J J J J (fun _ _=>J) J (da (k:=7) (us:= [I3 v]) (c':=sR pc (rs r i.d v) st) eG J J J J J J (rG hx.f.hv.d) (m5 hx.f.hv.d)) (fun _ _=>bn [] J J ag J J J ?_)));refine aG () O J J J
   ·(exfalso;have h0:=h4;revert h0;simp;exact hk)
 ·exact ij e s pc (rs r i.d v) (rp r i.d v) st (pc+4) hst (wx hx.h0)
theorem Dr(e:Me)(s:Mm)(n:Nat)(hs:MO s n)(i:Qi)(pc:Int)(r:Int→Int)(st:Int)(hx:Stx s i pc r st)(hb:byL s.d)(ho:i.op=23)(hq4:(wU (r i.a+i.imm))+4≤s.d.length)(hok:∀k:Int,0≤k→k<4→xR s (IntKind.u32.wrap ((wU (r i.a+i.imm))+k)) 1=true):
  bi prog 115 [.agg (sR pc r st).toArray,Pt e.m] [be e.m 157 (mR e),own 5 1 ct (sv e.vd) (s).d,own 5 1 ct (sv e.vi) (s).i,own 3 1 eI (sv e.vr) (s).r] [] (.agg (oC (pc+4) (rp r i.d (AI s.d (wU (r i.a+i.imm)).toNat)) (st+1) 0 0).toArray) [be e.m 157 (mR e),own 5 1 ct (sv e.vd) (s).d,own 5 1 ct (sv e.vi) (s).i,own 3 1 eI (sv e.vr) (s).r]:=by
 have hdd:=hx.f.hv.d;have haa:=hx.f.hv.a;have hbb:=hx.f.hv.b;have him:=hx.f.imm;have hpp:=hx.f.p;have hp2:=hx.p;have hst:=hx.hst;have hk:jQ i.op=0:=by rw [ho];rfl
 refine gJ e s n hs i pc r st hx fun w0 M H b2 b4 b6 b7=> ?_
 refine bz (X:=Unit) (fun _=>True) (fun _=> [(4,Pt b4),(7,Pt b7),(11,I3 (pc+4))]) (fun _=> [(20,be e.m 157 (mR e)),(21,own 5 1 ct (sv e.vd) (s).d),(22,own 5 1 ct (sv e.vi) (s).i),(23,own 3 1 eI (sv e.vr) (s).r),(4,be b4 207 (oC 0 qI 0 0 0)),(7,be b7 78 (sR pc (rs r i.d (AI s.d (wU (r i.a+i.imm)).toNat)) st))]) (fun _=> []) ?_ (fun _ _=> ?_)
 ·refine aC ?_;refine oH (by omega) (oG hk ?_);refine ar (aD cz J (aT 6 t3 J J J J (av J J br (ad J (aI [] J J O (fun hg1=>ah cz J) J (aI [(88,_)] J J ⟨J,O⟩ (fun hg2=>ae t3 J J (ax (k:=6) J J)) J (aI [(88,_),(89,_)] J J ⟨J,J,O⟩ (fun hg3=>aU J J br) J (aS (bK J J J) (aq J (aa (am J (fun h4=> ?_) (fun h4=> ?_))))))))))))
  ·(try simp only [bk]at h4);refine ar (aq J (aa (aV (aD cz J (aT 6 t3 J J J J (av J J br (aa (am J (fun h5=> ?_) (fun h5=> ?_)))))))))
   ·(exfalso;have h0:=h5;revert h0;simp;try omega)
   ·(try simp only [bk]at h5);refine aA (ar (ad J (ad J (aD eo J (aT 6 eG J J J J (av J J (cC J) (ad J (dj (xs:= [.tmp 95,.tmp 99,.tmp 100]) (Eo e s n hs (wU (r i.a+i.imm)) (lC _) hb hq4 hok) N_ [20,21,22,23] [] [20,21,22,23] J J J (fun _ _=>aX iR J J fun b14=>au (k:=14) iR J J J J J J (aa (aV (aD oq J (aT 14 t4 J J J J (aS (cZ J) (aa ?_)))))))))))))));refine am J (fun h6=> ?_) (fun h6=> ?_)
    ·cases h6
    ·(try simp only [bk]at h6);refine aA (ap (aD g9 J (aT 6 t3 J J J J (aD qP J (aT 14 eG J J J J (aD ic J (aS (d9 (j:=i.d.toNat) underlying75 eG J J (by omega) (by omega)) (aB (k:=7) (us:= [I3 (AI s.d (wU (r i.a+i.imm)).toNat)]) (c':=sR pc (rs r i.d (AI s.d (wU (r i.a+i.imm)).toNat)) st) eG J J J J J J (rG hx.f.hv.d) (m5 hx.f.hv.d) (aa (aG () O J J J))))))))))
  ·(exfalso;have h0:=h4;revert h0;simp;try omega)
 ·exact ij e s pc (rs r i.d (AI s.d (wU (r i.a+i.imm)).toNat)) (rp r i.d (AI s.d (wU (r i.a+i.imm)).toNat)) st (pc+4) hst (wx hx.h0)
theorem Dp(e:Me)(s:Mm)(n:Nat)(hs:MO s n)(i:Qi)(pc:Int)(r:Int→Int)(st:Int)(hx:Stx s i pc r st)(ho:i.op=25)(hq4:(wU (r i.a+i.imm))+4≤s.d.length)(hok:∀k:Int,0≤k→k<4→xR s (IntKind.u32.wrap ((wU (r i.a+i.imm))+k)) 2=true):
  bi prog 115 [.agg (sR pc r st).toArray,Pt e.m] [be e.m 157 (mR e),own 5 1 ct (sv e.vd) (s).d,own 5 1 ct (sv e.vi) (s).i,own 3 1 eI (sv e.vr) (s).r] [] (.agg (oC (pc+4) r (st+1) 0 0).toArray) [be e.m 157 (mR e),own 5 1 ct (sv e.vd) ({s with d:=pk s.d (wU (r i.a+i.imm)).toNat (fR (r i.d))}).d,own 5 1 ct (sv e.vi) ({s with d:=pk s.d (wU (r i.a+i.imm)).toNat (fR (r i.d))}).i,own 3 1 eI (sv e.vr) ({s with d:=pk s.d (wU (r i.a+i.imm)).toNat (fR (r i.d))}).r]:=by
 have hdd:=hx.f.hv.d;have haa:=hx.f.hv.a;have hbb:=hx.f.hv.b;have him:=hx.f.imm;have hpp:=hx.f.p;have hp2:=hx.p;have hst:=hx.hst;have hk:jQ i.op=0:=by rw [ho];rfl
 refine gJ e s n hs i pc r st hx fun w0 M H b2 b4 b6 b7=> ?_
 refine bz (X:=Unit) (fun _=>True) (fun _=> [(4,Pt b4),(7,Pt b7),(11,I3 (pc+4))]) (fun _=> [(20,be e.m 157 (mR e)),(21,own 5 1 ct (sv e.vd) ({s with d:=pk s.d (wU (r i.a+i.imm)).toNat (fR (r i.d))}).d),(22,own 5 1 ct (sv e.vi) ({s with d:=pk s.d (wU (r i.a+i.imm)).toNat (fR (r i.d))}).i),(23,own 3 1 eI (sv e.vr) ({s with d:=pk s.d (wU (r i.a+i.imm)).toNat (fR (r i.d))}).r),(4,be b4 207 (oC 0 qI 0 0 0)),(7,be b7 78 (sR pc r st))]) (fun _=> []) ?_ (fun _ _=> ?_)
 ·refine aC ?_;refine oH (by omega) (oG hk (qh (by omega) ?_));refine ar (aD cz J (aT 6 t3 J J J J (av J J br (ad J (aI [] J J O (fun hg1=>ah cz J) J (aI [(120,_)] J J ⟨J,O⟩ (fun hg2=>ae t3 J J (ax (k:=6) J J)) J (aI [(120,_),(121,_)] J J ⟨J,J,O⟩ (fun hg3=>aU J J br) J (aS (bK J J J) (aq J (aa (am J (fun h4=> ?_) (fun h4=> ?_))))))))))))
  ·(try simp only [bk]at h4);refine ar (aq J (aa (aV (aD cz J (aT 6 t3 J J J J (av J J br (aa (am J (fun h5=> ?_) (fun h5=> ?_)))))))))
   ·(exfalso;have h0:=h5;revert h0;simp;try omega)
   ·(try simp only [bk]at h5);refine aA (ar (ad J (ad J (aD eo J (aT 6 eG J J J J (av J J (cC J) (ad J (ad J (dj (xs:= [.tmp 127,.tmp 131,.tmp 132,.tmp 133]) (BU e s n hs (wU (r i.a+i.imm)) (lC _) (r i.d) (hx.hr _) hq4 hok) N9 [20,21,22,23] [] [20,21,22,23] J J J (fun _ _=>aX iR J J fun b16=>au (k:=16) iR J J J J J J (aF J (aD oq J (aT 16 t4 J J J J (aS (cZ J) (aa ?_)))))))))))))));refine am J (fun h6=> ?_) (fun h6=> ?_)
    ·cases h6
    ·(try simp only [bk]at h6);refine aA (aG () O J J J)
  ·(exfalso;have h0:=h4;revert h0;simp;try omega)
 ·exact ij e {s with d:=pk s.d (wU (r i.a+i.imm)).toNat (fR (r i.d))} pc r r st (pc+4) hst (GG hx.h0)
theorem BV(e:Me)(s:Mm)(n:Nat)(hs:MO s n)(i:Qi)(pc:Int)(r:Int→Int)(st:Int)(hx:Stx s i pc r st)(ho:i.op=27):
  bi prog 115 [.agg (sR pc r st).toArray,Pt e.m] [be e.m 157 (mR e),own 5 1 ct (sv e.vd) (s).d,own 5 1 ct (sv e.vi) (s).i,own 3 1 eI (sv e.vr) (s).r] [] (.agg (oC ((wU (r i.a+i.imm))/4*4) (rp r i.d (pc+4)) (st+1) 0 0).toArray) [be e.m 157 (mR e),own 5 1 ct (sv e.vd) (s).d,own 5 1 ct (sv e.vi) (s).i,own 3 1 eI (sv e.vr) (s).r]:=by
 have hdd:=hx.f.hv.d;have haa:=hx.f.hv.a;have hbb:=hx.f.hv.b;have him:=hx.f.imm;have hpp:=hx.f.p;have hp2:=hx.p;have hst:=hx.hst;have hk:jQ i.op=0:=by rw [ho];rfl
 refine gJ e s n hs i pc r st hx fun w0 M H b2 b4 b6 b7=> ?_
 refine bz (X:=Unit) (fun _=>True) (fun _=> [(4,Pt b4),(7,Pt b7),(11,I3 ((wU (r i.a+i.imm))/4*4))]) (fun _=> [(20,be e.m 157 (mR e)),(21,own 5 1 ct (sv e.vd) (s).d),(22,own 5 1 ct (sv e.vi) (s).i),(23,own 3 1 eI (sv e.vr) (s).r),(4,be b4 207 (oC 0 qI 0 0 0)),(7,be b7 78 (sR pc (rs r i.d (pc+4)) st))]) (fun _=> []) ?_ (fun _ _=> ?_)
 ·refine aC ?_;refine oH (by omega) (oG hk (qh (by omega) (sK (by omega) ?_)));refine ar (aD cz J (aT 6 t3 J J J J (av J J br (aq J (aa (am J (fun h1=> ?_) (fun h1=> ?_)))))))
  ·(try simp only [bk]at h1);refine ar (aD g9 J (aT 6 t3 J J J J (ad J (aD ic J (aS (d9 (j:=i.d.toNat) underlying75 eG J J (by omega) (by omega)) (aB (k:=7) (us:= [I3 (pc+4)]) (c':=sR pc (rs r i.d (pc+4)) st) eG J J J J J J (rG hx.f.hv.d) (m5 hx.f.hv.d) (aa (ap (ad J (aD eo J (aT 6 eG J J J J (av J J (cC J) (av J J (iE (by decide) (pW (lC _) (by decide))) (av J J (gd (Mg _)) (aq J (aa (aG () O J J J)))))))))))))))))
  ·(exfalso;have h0:=h1;revert h0;simp;try omega)
 ·exact ij e s pc (rs r i.d (pc+4)) (rp r i.d (pc+4)) st ((wU (r i.a+i.imm))/4*4) hst (wx hx.h0)
theorem Dv(e:Me)(s:Mm)(n:Nat)(hs:MO s n)(i:Qi)(pc:Int)(r:Int→Int)(st:Int)(hx:Stx s i pc r st)(ho:i.op=32):
  bi prog 115 [.agg (sR pc r st).toArray,Pt e.m] [be e.m 157 (mR e),own 5 1 ct (sv e.vd) (s).d,own 5 1 ct (sv e.vi) (s).i,own 3 1 eI (sv e.vr) (s).r] [] (.agg (oC (if r i.d=r i.a then wU (pc+4*i.imm)else pc+4) r (st+1) 0 0).toArray) [be e.m 157 (mR e),own 5 1 ct (sv e.vd) (s).d,own 5 1 ct (sv e.vi) (s).i,own 3 1 eI (sv e.vr) (s).r]:=by
 have hdd:=hx.f.hv.d;have haa:=hx.f.hv.a;have hbb:=hx.f.hv.b;have him:=hx.f.imm;have hpp:=hx.f.p;have hp2:=hx.p;have hst:=hx.hst;have hk:jQ i.op=0:=by rw [ho];rfl
 refine gJ e s n hs i pc r st hx fun w0 M H b2 b4 b6 b7=> ?_
 refine bz (X:=Unit) (fun _=>True) (fun _=> [(4,Pt b4),(7,Pt b7),(11,I3 (if r i.d=r i.a then wU (pc+4*i.imm)else pc+4))]) (fun _=> [(20,be e.m 157 (mR e)),(21,own 5 1 ct (sv e.vd) (s).d),(22,own 5 1 ct (sv e.vi) (s).i),(23,own 3 1 eI (sv e.vr) (s).r),(4,be b4 207 (oC 0 qI 0 0 0)),(7,be b7 78 (sR pc r st))]) (fun _=> []) ?_ (fun _ _=> ?_)
 ·refine aC ?_;refine oH (by omega) (oG hk (qh (by omega) (sK (by omega) (px (by omega) ?_))));refine ar (aD cz J (aT 6 t3 J J J J (av J J ig (ad J (aI [] J J O (fun hg1=>ah cz J) J (aI [(162,_)] J J ⟨J,O⟩ (fun hg2=>ae t3 J J (ax (k:=6) J J)) J (aI [(162,_),(163,_)] J J ⟨J,J,O⟩ (fun hg3=>aU J J l7) J (aS (bK J J J) (aq J (aa (am J (fun h4=> ?_) (fun h4=> ?_))))))))))))
  ·(try simp only [bk]at h4);refine ar (aD cz J (aT 6 t3 J J J J (ad J (ad J ?_))));rw [ho];refine ak (xs:= [.tmp 167,.tmp 168,.tmp 169]) (tn (r i.d) (r i.a)) Jh [] [] [] (fun _ _=>aq J (aF J (ad J (aa (am J (fun h5=> ?_) (fun h5=> ?_))))))
   ·(try simp only [bk]at h5);rw [aw h5];refine ap (aD i9 J (aT 7 eG J J J J (aD eo J (aT 6 eG J J J J (av J J (gd J) (av J J (cC (c:=wU (pc+4*i.imm)) (x9 _ _)) (aq J (aa (aG () O J J J)))))))))
   ·(try simp only [bk]at h5);rw [ai h5];refine aA (aG () O J J J)
  ·(exfalso;have h0:=h4;revert h0;simp;try omega)
 ·exact ij e s pc r r st (if r i.d=r i.a then wU (pc+4*i.imm)else pc+4) hst (GG hx.h0)
theorem BW(e:Me)(s:Mm)(n:Nat)(hs:MO s n)(i:Qi)(pc:Int)(r:Int→Int)(st:Int)(hx:Stx s i pc r st)(ho:i.op=35):
  bi prog 115 [.agg (sR pc r st).toArray,Pt e.m] [be e.m 157 (mR e),own 5 1 ct (sv e.vd) (s).d,own 5 1 ct (sv e.vi) (s).i,own 3 1 eI (sv e.vr) (s).r] [] (.agg (oC (if r i.d≥r i.a then wU (pc+4*i.imm)else pc+4) r (st+1) 0 0).toArray) [be e.m 157 (mR e),own 5 1 ct (sv e.vd) (s).d,own 5 1 ct (sv e.vi) (s).i,own 3 1 eI (sv e.vr) (s).r]:=by
 have hdd:=hx.f.hv.d;have haa:=hx.f.hv.a;have hbb:=hx.f.hv.b;have him:=hx.f.imm;have hpp:=hx.f.p;have hp2:=hx.p;have hst:=hx.hst;have hk:jQ i.op=0:=by rw [ho];rfl
 refine gJ e s n hs i pc r st hx fun w0 M H b2 b4 b6 b7=> ?_
 refine bz (X:=Unit) (fun _=>True) (fun _=> [(4,Pt b4),(7,Pt b7),(11,I3 (if r i.d≥r i.a then wU (pc+4*i.imm)else pc+4))]) (fun _=> [(20,be e.m 157 (mR e)),(21,own 5 1 ct (sv e.vd) (s).d),(22,own 5 1 ct (sv e.vi) (s).i),(23,own 3 1 eI (sv e.vr) (s).r),(4,be b4 207 (oC 0 qI 0 0 0)),(7,be b7 78 (sR pc r st))]) (fun _=> []) ?_ (fun _ _=> ?_)
 ·refine aC ?_;refine oH (by omega) (oG hk (qh (by omega) (sK (by omega) (px (by omega) ?_))));refine ar (aD cz J (aT 6 t3 J J J J (av J J ig (ad J (aI [] J J O (fun hg1=>ah cz J) J (aI [(162,_)] J J ⟨J,O⟩ (fun hg2=>ae t3 J J (ax (k:=6) J J)) J (aI [(162,_),(163,_)] J J ⟨J,J,O⟩ (fun hg3=>aU J J l7) J (aS (bK J J J) (aq J (aa (am J (fun h4=> ?_) (fun h4=> ?_))))))))))))
  ·(try simp only [bk]at h4);refine ar (aD cz J (aT 6 t3 J J J J (ad J (ad J ?_))));rw [ho];refine ak (xs:= [.tmp 167,.tmp 168,.tmp 169]) (tm (r i.d) (r i.a)) Jh [] [] [] (fun _ _=>aq J (aF J (ad J (aa (am J (fun h5=> ?_) (fun h5=> ?_))))))
   ·(try simp only [bk]at h5);rw [aw h5];refine ap (aD i9 J (aT 7 eG J J J J (aD eo J (aT 6 eG J J J J (av J J (gd J) (av J J (cC (c:=wU (pc+4*i.imm)) (x9 _ _)) (aq J (aa (aG () O J J J)))))))))
   ·(try simp only [bk]at h5);rw [ai h5];refine aA (aG () O J J J)
  ·(exfalso;have h0:=h4;revert h0;simp;try omega)
 ·exact ij e s pc r r st (if r i.d≥r i.a then wU (pc+4*i.imm)else pc+4) hst (GG hx.h0)
theorem Ds(e:Me)(s:Mm)(n:Nat)(hs:MO s n)(i:Qi)(pc:Int)(r:Int→Int)(st:Int)(hx:Stx s i pc r st)(ho:i.op=40):
  bi prog 115 [.agg (sR pc r st).toArray,Pt e.m] [be e.m 157 (mR e),own 5 1 ct (sv e.vd) (s).d,own 5 1 ct (sv e.vi) (s).i,own 3 1 eI (sv e.vr) (s).r] [] (.agg (oC (wU (pc+4*i.imm)) (rp r i.d (pc+4)) (st+1) 0 0).toArray) [be e.m 157 (mR e),own 5 1 ct (sv e.vd) (s).d,own 5 1 ct (sv e.vi) (s).i,own 3 1 eI (sv e.vr) (s).r]:=by
 have hdd:=hx.f.hv.d;have haa:=hx.f.hv.a;have hbb:=hx.f.hv.b;have him:=hx.f.imm;have hpp:=hx.f.p;have hp2:=hx.p;have hst:=hx.hst;have hk:jQ i.op=0:=by rw [ho];rfl
 refine gJ e s n hs i pc r st hx fun w0 M H b2 b4 b6 b7=> ?_
 refine bz (X:=Unit) (fun _=>True) (fun _=> [(4,Pt b4),(7,Pt b7),(11,I3 (wU (pc+4*i.imm)))]) (fun _=> [(20,be e.m 157 (mR e)),(21,own 5 1 ct (sv e.vd) (s).d),(22,own 5 1 ct (sv e.vi) (s).i),(23,own 3 1 eI (sv e.vr) (s).r),(4,be b4 207 (oC 0 qI 0 0 0)),(7,be b7 78 (sR pc (rs r i.d (pc+4)) st))]) (fun _=> []) ?_ (fun _ _=> ?_)
 ·refine aC ?_;refine oH (by omega) (oG hk (qh (by omega) (sK (by omega) (px (by omega) (vS (by omega) ?_)))));refine ar (aD cz J (aT 6 t3 J J J J (av J J br (aq J (aa (am J (fun h1=> ?_) (fun h1=> ?_)))))))
  ·(try simp only [bk]at h1);refine ar (aD g9 J (aT 6 t3 J J J J (ad J (aD ic J (aS (d9 (j:=i.d.toNat) underlying75 eG J J (by omega) (by omega)) (aB (k:=7) (us:= [I3 (pc+4)]) (c':=sR pc (rs r i.d (pc+4)) st) eG J J J J J J (rG hx.f.hv.d) (m5 hx.f.hv.d) (aa (ap (aD i9 J (aT 7 eG J J J J (aD eo J (aT 6 eG J J J J (av J J (gd J) (av J J (cC (c:=wU (pc+4*i.imm)) (x9 _ _)) (aq J (aa (aG () O J J J)))))))))))))))))
  ·(exfalso;have h0:=h1;revert h0;simp;try omega)
 ·exact ij e s pc (rs r i.d (pc+4)) (rp r i.d (pc+4)) st (wU (pc+4*i.imm)) hst (wx hx.h0)
theorem Dq(e:Me)(s:Mm)(n:Nat)(hs:MO s n)(i:Qi)(pc:Int)(r:Int→Int)(st:Int)(hx:Stx s i pc r st)(ho:i.op=41):
  bi prog 115 [.agg (sR pc r st).toArray,Pt e.m] [be e.m 157 (mR e),own 5 1 ct (sv e.vd) (s).d,own 5 1 ct (sv e.vi) (s).i,own 3 1 eI (sv e.vr) (s).r] [] (.agg (oC (pc+4) (rp r i.d (wU (i.imm*1024))) (st+1) 0 0).toArray) [be e.m 157 (mR e),own 5 1 ct (sv e.vd) (s).d,own 5 1 ct (sv e.vi) (s).i,own 3 1 eI (sv e.vr) (s).r]:=by
 have hdd:=hx.f.hv.d;have haa:=hx.f.hv.a;have hbb:=hx.f.hv.b;have him:=hx.f.imm;have hpp:=hx.f.p;have hp2:=hx.p;have hst:=hx.hst;have hk:jQ i.op=0:=by rw [ho];rfl
 refine gJ e s n hs i pc r st hx fun w0 M H b2 b4 b6 b7=> ?_
 refine bz (X:=Unit) (fun _=>True) (fun _=> [(4,Pt b4),(7,Pt b7),(11,I3 (pc+4))]) (fun _=> [(20,be e.m 157 (mR e)),(21,own 5 1 ct (sv e.vd) (s).d),(22,own 5 1 ct (sv e.vi) (s).i),(23,own 3 1 eI (sv e.vr) (s).r),(4,be b4 207 (oC 0 qI 0 0 0)),(7,be b7 78 (sR pc (rs r i.d (wU (i.imm*1024))) st))]) (fun _=> []) ?_ (fun _ _=> ?_)
 ·refine aC ?_;refine oH (by omega) (oG hk (qh (by omega) (sK (by omega) (px (by omega) (vS (by omega) (zw (by omega) ?_))))));refine ar (aD cz J (aT 6 t3 J J J J (av J J br (aq J (aa (am J (fun h1=> ?_) (fun h1=> ?_)))))))
  ·(try simp only [bk]at h1);refine ap (aD g9 J (aT 6 t3 J J J J (aD eo J (aT 6 eG J J J J (av J J (jd (by decide) (by decide) J) (aD ic J (aS (d9 (j:=i.d.toNat) underlying75 eG J J (by omega) (by omega)) (aB (k:=7) (us:= [I3 (wU (i.imm*1024))]) (c':=sR pc (rs r i.d (wU (i.imm*1024))) st) eG J J J J J J (rG hx.f.hv.d) (m5 hx.f.hv.d) (aa (aG () O J J J))))))))))
  ·(exfalso;have h0:=h1;revert h0;simp;try omega)
 ·exact ij e s pc (rs r i.d (wU (i.imm*1024))) (rp r i.d (wU (i.imm*1024))) st (pc+4) hst (wx hx.h0)
theorem Do(e:Me)(s:Mm)(n:Nat)(hs:MO s n)(i:Qi)(pc:Int)(r:Int→Int)(st:Int)(hx:Stx s i pc r st)(ho:i.op=48):
  bi prog 115 [.agg (sR pc r st).toArray,Pt e.m] [be e.m 157 (mR e),own 5 1 ct (sv e.vd) (s).d,own 5 1 ct (sv e.vi) (s).i,own 3 1 eI (sv e.vr) (s).r] [] (.agg (oC pc r st 4 i.imm).toArray) [be e.m 157 (mR e),own 5 1 ct (sv e.vd) (s).d,own 5 1 ct (sv e.vi) (s).i,own 3 1 eI (sv e.vr) (s).r]:=by
 have hdd:=hx.f.hv.d;have haa:=hx.f.hv.a;have hbb:=hx.f.hv.b;have him:=hx.f.imm;have hpp:=hx.f.p;have hp2:=hx.p;have hst:=hx.hst;have hk:jQ i.op=0:=by rw [ho];rfl
 refine gJ e s n hs i pc r st hx fun w0 M H b2 b4 b6 b7=> ?_
 refine bz (X:=Unit) (fun _=>False) (fun _=> []) (fun _=> []) (fun _=> []) ?_ (fun _ hF=> ?_)
 ·refine aC ?_;refine oH (by omega) (oG hk (qh (by omega) (sK (by omega) (px (by omega) (vS (by omega) (zw (by omega) (Fa (by omega) ?_)))))));refine ar (aD cz J (aT 6 t3 J J J J (av J J br (aq J (aa (am J (fun h1=> ?_) (fun h1=> ?_)))))))
  ·(try simp only [bk]at h1);refine ar (aS (aJ xP J J J (a_ (k:=2) J)) (aD eo J (aT 6 eG J J J J (ak (xs:= [.tmp 208,.const (I6 4),.tmp 210]) (nN pc r st 4 i.imm) Ji [] [] [] (fun _ _=>au (k:=4) mJ J J J J J J (aa (az (aQ () O J (cc (bp mJ J J J (a_ (k:=4) J))) J [20,21,22,23] [] J J J))))))))
  ·(exfalso;have h0:=h1;revert h0;simp;try omega)
 ·exact hF.elim
theorem Du(e:Me)(s:Mm)(n:Nat)(hs:MO s n)(i:Qi)(pc:Int)(r:Int→Int)(st:Int)(hx:Stx s i pc r st)(ho:i.op=49):
  bi prog 115 [.agg (sR pc r st).toArray,Pt e.m] [be e.m 157 (mR e),own 5 1 ct (sv e.vd) (s).d,own 5 1 ct (sv e.vi) (s).i,own 3 1 eI (sv e.vr) (s).r] [] (.agg (oC pc r st 3 0).toArray) [be e.m 157 (mR e),own 5 1 ct (sv e.vd) (s).d,own 5 1 ct (sv e.vi) (s).i,own 3 1 eI (sv e.vr) (s).r]:=by
 have hdd:=hx.f.hv.d;have haa:=hx.f.hv.a;have hbb:=hx.f.hv.b;have him:=hx.f.imm;have hpp:=hx.f.p;have hp2:=hx.p;have hst:=hx.hst;have hk:jQ i.op=0:=by rw [ho];rfl
 refine gJ e s n hs i pc r st hx fun w0 M H b2 b4 b6 b7=> ?_
 refine bz (X:=Unit) (fun _=>False) (fun _=> []) (fun _=> []) (fun _=> []) ?_ (fun _ hF=> ?_)
 ·refine aC ?_;refine oH (by omega) (oG hk (qh (by omega) (sK (by omega) (px (by omega) (vS (by omega) (zw (by omega) (Fa (by omega) (Le (by omega) ?_))))))));refine ar (aD cz J (aT 6 t3 J J J J (av J J br (aq J (aa (am J (fun h1=> ?_) (fun h1=> ?_)))))))
  ·(try simp only [bk]at h1);refine ar (aS (aJ xP J J J (a_ (k:=2) J)) (ak (xs:= [.tmp 216,.const (I6 3),.const (I3 0)]) (nN pc r st 3 0) Ji [] [] [] (fun _ _=>au (k:=4) mJ J J J J J J (aa (az (aQ () O J (cc (bp mJ J J J (a_ (k:=4) J))) J [20,21,22,23] [] J J J))))))
  ·(exfalso;have h0:=h1;revert h0;simp;try omega)
 ·exact hF.elim
theorem pH(n:Int):wU n=n%4294967296:=by
 unfold wU;simp [IntKind.wrap,IntKind.signed,IntKind.bits]
theorem O2{a b:Int}(ha:oW a)(hb:oW b):bits .xor .u32 a b=((a.toNat^^^b.toNat:Nat):Int):=by
 have h1:bits .xor .u32 a b=IntKind.u32.wrap (((BitVec.ofInt 32 a^^^BitVec.ofInt 32 b).toNat:Nat):Int):=J;have h2:∀x:Int,oW x→(BitVec.ofInt 32 x).toNat=x.toNat:=fun x hx=>by
  rw [BitVec.toNat_ofInt,Int.emod_eq_of_lt hx.1 (by have:=hx.2;omega)]
 have h3:=(BitVec.ofInt 32 a^^^BitVec.ofInt 32 b).isLt;rw [h1,cf (by omega),BitVec.toNat_xor,h2 a ha,h2 b hb]
theorem F8{a b:Int}(ha:oW a)(hb:oW b):0<bits .xor .u32 a b↔¬a=b:=by
 rw [O2 ha hb];have h:a.toNat^^^b.toNat=0→a.toNat=b.toNat:=fun h=>by
  have h2:(a.toNat^^^b.toNat)^^^b.toNat=a.toNat:=by rw [Nat.xor_assoc,Nat.xor_self,Nat.xor_zero]
  rw [h,Nat.zero_xor]at h2;exact h2.symm
 have h1:=ha.1;have h2:=hb.1;constructor
 ·intro hx e;subst e;rw [Nat.xor_self]at hx;omega
 ·intro hn;have:¬(a.toNat^^^b.toNat=0):=fun e=>hn (by have:=h e;omega)
  omega
theorem F9{a:Int}(ha:oW a):bits .xor .u32 a 4294967295=4294967295-a:=by
 have h1:bits .xor .u32 a 4294967295=IntKind.u32.wrap (((BitVec.ofInt 32 a^^^BitVec.ofInt 32 4294967295).toNat:Nat):Int):=J;have h2:BitVec.ofInt 32 4294967295=BitVec.allOnes 32:=by decide
 rw [h1,h2,BitVec.xor_allOnes,BitVec.toNat_not,BitVec.toNat_ofInt];have h4:=ha.1;have h5:=ha.2;have h3:(a%((2^32:Nat):Int)).toNat=a.toNat:=by
  rw [Int.emod_eq_of_lt ha.1 (by omega)]
 rw [h3,cf (by omega)];omega
theorem Ps{x y:Int}(hx:oW x)(hx2:x%1024=0)(hy:0≤y∧y<1024):bits .or .u32 x y=x+y:=by
 have h1:bits .or .u32 x y=IntKind.u32.wrap (((BitVec.ofInt 32 x ||| BitVec.ofInt 32 y).toNat:Nat):Int):=J;have h2:∀x:Int,oW x→(BitVec.ofInt 32 x).toNat=x.toNat:=fun x hx=>by
  rw [BitVec.toNat_ofInt,Int.emod_eq_of_lt hx.1 (by have:=hx.2;omega)]
 have h3:=(BitVec.ofInt 32 x ||| BitVec.ofInt 32 y).isLt;have h4:=hx.1;have h5:=hx.2;rw [h1,cf (by omega),BitVec.toNat_or,h2 x hx,h2 y ⟨hy.1,by omega⟩];have e:x.toNat=2^10*(x.toNat/2^10):=by omega
 rw [e,←Nat.two_pow_add_eq_or_of_lt (show y.toNat<2^10 by omega)];omega
theorem Mb(b:Bool):bits .xor .u32 (tr b) 1=tr (!b):=by cases b<;>rfl
structure Kr(ks:List Int)(c c':Qs):Prop where
 m:c'.m=c.m
 i:c'.inp=c.inp
 o:c'.out=c.out
 r:∀k,k∉ks→c'.r k=c.r k
theorem ep{r:Int→Int}{d v:Int}(h:d≠0):rp r d v d=v:=aw ⟨rfl,h⟩
theorem cI{r:Int→Int}{d v k:Int}(h:k≠d):rp r d v k=r k:=ai fun e=>h e.1
theorem eM{r:Int→Int}{d v:Int}{ks:List Int}(h:d∈ks):∀k,k∉ks→rp r d v k=r k:=fun k hk=>cI fun e=>hk (e▸h)
section
variable{code:List Qi}
theorem jD{n:Int}{c:Qs}{P:Qs→Prop}{op d a b:Int}{p:Nat}{v:Int}(hpc:c.pc=p)(h:code[p]?=some (q3 op d a b))(h2:xL op (c.r a) (c.r b)=some v)
  (h3:∀c',c'.pc=p+1→c'.r=rp c.r d v→c'.m=c.m→c'.inp=c.inp→c'.out=c.out→Go code (n-1) c' P) (ho:op<16:=by decide):Go code n c P:=
 EI (i:=q3 op d a b) (hpc▸h) (by rw [aw (show(q3 op d a b).op<16 from ho)];exact h2) (h3 _ (by rw [←hpc]) rfl rfl rfl rfl)
theorem jY{n:Int}{c:Qs}{P:Qs→Prop}{op d a x:Int}{p:Nat}{v:Int}(hpc:c.pc=p)(h:code[p]?=some (qi op d a x))(h2:xL op (c.r a) x=some v)
  (h3:∀c',c'.pc=p+1→c'.r=rp c.r d v→c'.m=c.m→c'.inp=c.inp→c'.out=c.out→Go code (n-1) c' P) (ho:¬op<16:=by decide):Go code n c P:=
 EI (i:=qi op d a x) (hpc▸h) (by rw [ai (show ¬(qi op d a x).op<16 from ho)];exact h2) (h3 _ (by rw [←hpc]) rfl rfl rfl rfl)
theorem MY{p:Nat}{c:Qs}{o:Ba}{a b:Int}(hb:iW o=true)(hc:cAt code p (BI o))(hl:p<9000)(hpc:c.pc=p)(h0:c.r 0=0)(h2:c.r 2=a)(h1:c.r 1=b)(ha:oW a)(hw:oW b):
  Go code 5 c fun c'=>c'.pc=p+(BI o).length∧c'.r 1=(LB o a b).getD 0∧Kr [1,3] c c':=by
 have one:∀{op x y:Int}{v:Int},cAt code p [q3 op 1 x y]→op<16→xL op (c.r x) (c.r y)=some v→Go code 5 c fun c'=>c'.pc=p+1∧c'.r 1=v∧Kr [1,3] c c':=fun{op x y v} hc ho hv=>
  jD hpc hc.head.1 (v:=v) hv (fun c' e1 e2 e3 e4 e5=>Go.done (by decide) ⟨e1,by rw [e2];exact ep (by decide),e3,e4,e5,by rw [e2];exact eM (by decide)⟩) ho
 have two:∀{op x y:Int}{v:Bool},cAt code p [q3 op 1 x y,qi 19 1 1 1]→op<16→xL op (c.r x) (c.r y)=some (tr v)→Go code 5 c fun c'=>c'.pc=p+2∧c'.r 1=tr (!v)∧Kr [1,3] c c':=fun{op x y v} hc ho hv=>
  jD hpc hc.head.1 (v:=tr v) hv (fun c' e1 e2 e3 e4 e5=>
   jY e1 hc.head.2.head.1 (v:=tr (!v)) (by rw [←Mb v,e2];rfl) fun c2 f1 f2 f3 f4 f5=>Go.done (by decide) ⟨by rw [f1],by rw [f2];exact ep (by decide),f3.trans e3,f4.trans e4,f5.trans e5,fun k hk=>by rw [f2,eM (by decide) k hk,e2];exact eM (by decide) k hk⟩) ho
 have ne:∀{l:List Qi},cAt code p (q3 5 1 2 1::q3 11 1 0 1::l)→∀{P:Qs→Prop},(∀c',c'.pc=p+2→c'.r 1=tr (!decide (a=b))→Kr [1,3] c c'→Go code 3 c' P)→Go code 5 c P:=fun{l} hc{P} hP=>
  jD hpc hc.head.1 (v:=bits .xor .u32 a b) (by rw [←h2,←h1];rfl) fun c' e1 e2 e3 e4 e5=>
   jD e1 hc.head.2.head.1 (v:=tr (!decide (a=b))) (by
    show some (tr (decide (c'.r 0<c'.r 1)))=_;rw [e2,cI (by decide),h0,ep (by decide)];have:=F8 ha hw;by_cases h:a=b
    ·rw [decide_eq_false (fun x=>this.1 x h),decide_eq_true h];rfl
    ·rw [decide_eq_true (this.2 h),decide_eq_false h];rfl) fun c2 f1 f2 f3 f4 f5=>
   hP c2 f1 (by rw [f2];exact ep (by decide)) ⟨f3.trans e3,f4.trans e4,f5.trans e5,fun k hk=>by rw [f2,eM (by decide) k hk,e2];exact eM (by decide) k hk⟩
 unfold iW at hb;obtain⟨q,hq⟩:=Option.isSome_iff_exists.1 hb;have hm:=List.mem_of_find?_eq_some hq;have he:=List.find?_some hq;have he:q.1=o:=by simpa using he
 subst he;simp only [lvL,List.mem_cons,List.not_mem_nil,or_false]at hm;rcases hm with rfl|rfl|rfl|rfl|rfl|rfl|rfl|rfl|rfl|rfl|rfl|rfl|rfl|rfl|rfl|rfl
 · -- remainder
  have hc':cAt code p [q3 1 3 1 0,qi 32 1 0 3,q3 10 3 2 1,q3 9 3 3 1,q3 2 1 2 3]:=hc;show Go code 5 c fun c'=>c'.pc=p+5∧c'.r 1=(if b=0 then a else a%b)∧Kr [1,3] c c'
  refine jD hpc hc'.head.1 (v:=b) (by
   show some (wU (c.r 1+c.r 0))=_;rw [h1,h0,Int.add_zero,gG hw]) fun c1 e1 e2 e3 e4 e5=> ?_
  refine vB (d:=1) (a:=0) (x:=3) (by rw [e1];exact hc'.head.2.head.1) ?_;rw [e2,cI (by decide),cI (by decide),h1,h0,e1];by_cases hz:b=0
  ·rw [aw hz,aw hz,mT (q:=p+4) (by rw [show((p+4:Nat):Int)-((p+1:Nat):Int)=3 by omega];rfl) (by omega) (by omega)];refine jD (p:=p+4) J hc'.head.2.head.2.head.2.head.2.head.1 (v:=a) (by
    show some (wU (rp c.r 3 b 2-rp c.r 3 b 3))=_;rw [cI (by decide),ep (by decide),h2,hz,Int.sub_zero,gG ha]) fun c2 f1 f2 f3 f4 f5=> ?_
   refine Go.done (by decide) ⟨f1,by rw [f2];exact ep (by decide),f3.trans e3,f4.trans e4,f5.trans e5,fun k hk=> ?_⟩;rw [f2,eM (by decide) k hk];exact eM (by decide) k hk
  ·rw [ai hz,ai hz];have hq1:a/b*b+a%b=a:=Int.ediv_mul_add_emod a b;have hq2:=Int.emod_nonneg a hz;have hq3:=Int.emod_lt_of_pos a (b:=b) (by have:=hw.1;omega);have hq4:0≤a/b:=Int.ediv_nonneg ha.1 hw.1;have hq5:0≤a/b*b:=Int.mul_nonneg hq4 hw.1;have ha2:=ha.2;have hw2:=hw.2;refine jD (p:=p+2) J hc'.head.2.head.2.head.1 (v:=a/b) (by
    show(if rp c.r 3 b 1=0 then none else some (rp c.r 3 b 2/rp c.r 3 b 1))=_;rw [cI (by decide),cI (by decide),h1,h2,ai hz]) fun c2 f1 f2 f3 f4 f5=> ?_
   refine jD f1 hc'.head.2.head.2.head.2.head.1 (v:=a/b*b) (by
    show some (wU (c2.r 3*c2.r 1))=_;rw [f2];show some (wU (rp (rp c.r 3 b) 3 (a/b) 3*rp (rp c.r 3 b) 3 (a/b) 1))=_;rw [ep (by decide),cI (by decide),cI (by decide),h1,gG ⟨hq5,by omega⟩]) fun c3 g1 g2 g3 g4 g5=> ?_
   refine jD g1 hc'.head.2.head.2.head.2.head.2.head.1 (v:=a%b) (by
    show some (wU (c3.r 2-c3.r 3))=_;rw [g2,f2];show some (wU (rp (rp (rp c.r 3 b) 3 (a/b)) 3 (a/b*b) 2-rp (rp (rp c.r 3 b) 3 (a/b)) 3 (a/b*b) 3))=_;rw [ep (by decide),cI (by decide),cI (by decide),cI (by decide),h2,gG (by omega)];exact congrArg some (by omega)) fun c4 k1 k2 k3 k4 k5=> ?_
   refine Go.done (by decide) ⟨k1,by rw [k2];exact ep (by decide),((k3.trans g3).trans f3).trans e3,((k4.trans g4).trans f4).trans e4,((k5.trans g5).trans f5).trans e5,fun k hk=> ?_⟩;rw [k2,eM (by decide) k hk,g2,eM (by decide) k hk,f2,eM (by decide) k hk];exact eM (by decide) k hk
 · -- quotient
  have hc':cAt code p [qi 32 1 0 2,q3 10 1 2 1]:=hc;show Go code 5 c fun c'=>c'.pc=p+2∧c'.r 1=(if b=0 then 0 else a/b)∧Kr [1,3] c c'
  refine vB (d:=1) (a:=0) (x:=2) (by rw [hpc];exact hc'.head.1) ?_;rw [h1,h0,hpc];by_cases hz:b=0
  ·rw [aw hz,aw hz,mT (q:=p+2) (by rw [show((p+2:Nat):Int)-(p:Int)=2 by omega];rfl) (by omega) (by omega)];exact Go.done (by decide) ⟨J,h1.trans hz,J,J,J,fun _ _=>J⟩
  ·rw [ai hz,ai hz];refine jD (p:=p+1) J hc'.head.2.head.1 (v:=a/b) (by
    show(if c.r 1=0 then none else some (c.r 2/c.r 1))=_;rw [h1,h2,ai hz]) fun c2 f1 f2 f3 f4 f5=> ?_
   exact Go.done (by decide) ⟨f1,by rw [f2];exact ep (by decide),f3,f4,f5,by rw [f2];exact eM (by decide)⟩
 ·exact one (op:=9) hc (by decide) (by rw [h2,h1];rfl)
 ·exact one (op:=2) hc (by decide) (by rw [h2,h1];rfl)
 ·exact one (op:=1) hc (by decide) (by rw [h2,h1];rfl)
 ·exact one (op:=7) hc (by decide) (by rw [h2,h1];rfl)
 ·exact one (op:=6) hc (by decide) (by rw [h2,h1];rfl)
 · -- at least
  have:=two (op:=11) (x:=2) (y:=1) (v:=decide (a<b)) hc (by decide) (by rw [h2,h1];rfl);show Go code 5 c fun c'=>c'.pc=p+2∧c'.r 1=tr (decide (a≥b))∧Kr [1,3] c c'
  rw [show decide (a≥b)= !decide (a<b) by rw [←decide_not];exact decide_eq_decide.2 (by omega)];exact this
 ·exact one (op:=11) (v:=tr (decide (b<a))) hc (by decide) (by rw [h2,h1];rfl)
 · -- at most
  have:=two (op:=11) (x:=1) (y:=2) (v:=decide (b<a)) hc (by decide) (by rw [h2,h1];rfl);show Go code 5 c fun c'=>c'.pc=p+2∧c'.r 1=tr (decide (a≤b))∧Kr [1,3] c c'
  rw [show decide (a≤b)= !decide (b<a) by rw [←decide_not];exact decide_eq_decide.2 (by omega)];exact this
 ·exact one (op:=11) hc (by decide) (by rw [h2,h1];rfl)
 ·exact ne (l:= []) hc fun c' e1 e2 e3=>Go.done (by decide) ⟨e1,e2,e3⟩
 · -- equal
  have hc':cAt code p [q3 5 1 2 1,q3 11 1 0 1,qi 19 1 1 1]:=hc;refine ne hc' fun c' e1 e2 e3=>jY e1 hc'.head.2.head.2.head.1 (v:=tr (decide (a=b))) (by
   show some (bits .xor .u32 (c'.r 1) 1)=_;rw [e2,Mb,Bool.not_not]) fun c2 f1 f2 f3 f4 f5=> ?_
  exact Go.done (by decide) ⟨f1,by rw [f2];exact ep (by decide),f3.trans e3.m,f4.trans e3.i,f5.trans e3.o,fun k hk=>by rw [f2,eM (by decide) k hk];exact e3.r k hk⟩
 ·exact one (op:=3) hc (by decide) (by rw [h2,h1];rfl)
 ·exact one (op:=5) hc (by decide) (by rw [h2,h1];rfl)
 ·exact one (op:=4) hc (by decide) (by rw [h2,h1];rfl)
theorem Ml{p:Nat}{c:Qs}{o:Ba}{a:Int}(hb:cD o ti=true)(hc:cAt code p (CN o))(hpc:c.pc=p)(h0:c.r 0=0)(h1:c.r 1=a)(ha:oW a):
  Go code 2 c fun c'=>c'.pc=p+(CN o).length∧c'.r 1=(LT o a).getD 0∧Kr [1,2] c c':=by
 have two:∀{op x v:Int},cAt code p [qi 16 2 0 x,q3 op 1 1 2]→oW x→op<16→xL op a x=some v→Go code 2 c fun c'=>c'.pc=p+2∧c'.r 1=v∧Kr [1,2] c c':=fun{op x v} hc hx ho hv=>
  jY hpc hc.head.1 (v:=x) (by
   show some (wU (c.r 0+x))=_;rw [h0,Int.zero_add,gG hx]) fun c' e1 e2 e3 e4 e5=>
   jD e1 hc.head.2.head.1 (v:=v) (by
    rw [e2];show xL op (rp c.r 2 x 1) (rp c.r 2 x 2)=_;rw [cI (by decide),ep (by decide),h1];exact hv) (fun c2 f1 f2 f3 f4 f5=>Go.done (by decide) ⟨f1,by rw [f2];exact ep (by decide),f3.trans e3,f4.trans e4,f5.trans e5,fun k hk=>by rw [f2,eM (by decide) k hk,e2];exact eM (by decide) k hk⟩) ho
 unfold cD at hb;obtain⟨q,hm,he⟩:=List.any_eq_true.1 hb;have he:o=q:=by simpa using he
 subst he;simp only [ti,List.mem_cons,List.not_mem_nil,or_false]at hm;rcases hm with rfl|rfl|rfl
 ·have hc':cAt code p [q3 2 1 0 1]:=hc;refine jD hpc hc'.head.1 (v:=wU (-a)) (by
   show some (wU (c.r 0-c.r 1))=_;rw [h0,h1,Int.zero_sub]) fun c' e1 e2 e3 e4 e5=>Go.done (by decide) ⟨e1,by rw [e2];exact ep (by decide),e3,e4,e5,by rw [e2];exact eM (by decide)⟩
 ·exact two (op:=5) hc (by decide) (by decide) (show some (bits .xor .u32 a 4294967295)=some (4294967295-a) by rw [F9 ha])
 ·refine two (op:=11) hc (by decide) (by decide) ?_;show some (tr (decide (a<1)))=some (tr (decide (a=0)));have:=ha.1;rw [show decide (a<1)=decide (a=0)from decide_eq_decide.2 (by omega)]
theorem Kw{p:Nat}{c:Qs}{n:Int}(hc:cAt code p (qn n))(hpc:c.pc=p)(h0:c.r 0=0)(ha:oW n):
  Go code 2 c fun c'=>c'.pc=p+(qn n).length∧c'.r 1=n∧Kr [1] c c':=by
 unfold qn at hc ⊢;by_cases h:jc n=true
 ·rw [aw h]at hc ⊢;exact jY hpc hc.head.1 (v:=n) (by
   show some (wU (c.r 0+n))=_;rw [h0,Int.zero_add,gG ha]) fun c' e1 e2 e3 e4 e5=>Go.done (by decide) ⟨e1,by rw [e2];exact ep (by decide),e3,e4,e5,by rw [e2];exact eM (by decide)⟩
 ·rw [ai h]at hc ⊢;have h1:=ha.1;have h2:=ha.2;refine KQ (d:=1) (a:=0) (x:=n/1024) (by rw [hpc];exact hc.head.1) ?_;rw [gG (by omega)];refine jY (p:=p+1) (by rw [←hpc]) hc.head.2.head.1 (v:=n) (by
   show some (bits .or .u32 (rp c.r 1 (n/1024*1024) 1) (n%1024))=_;rw [ep (by decide),Ps ⟨by omega,by omega⟩ (by omega) (by omega)];exact congrArg some (by omega)) fun c' e1 e2 e3 e4 e5=>Go.done (by decide) ⟨e1,by rw [e2];exact ep (by decide),e3,e4,e5,fun k hk=>by
    rw [e2,eM (by decide) k hk];exact eM (by decide) k hk⟩
end
theorem LI{b:Int}(hb:oW b):bits .and .u32 b 255=b%256:=by
 have h1:bits .and .u32 b 255=IntKind.u32.wrap (((BitVec.ofInt 32 b&&&BitVec.ofInt 32 255).toNat:Nat):Int):=J;have h4:=hb.1;have h5:=hb.2;have h2:(BitVec.ofInt 32 b).toNat=b.toNat:=by
  rw [BitVec.toNat_ofInt,Int.emod_eq_of_lt hb.1 (by omega)]
 have h3:(BitVec.ofInt 32 255).toNat=2^8-1:=by decide
 rw [h1,BitVec.toNat_and,h2,h3,Nat.and_two_pow_sub_one_eq_mod,cf (by omega)];omega
structure St(d F sp:Int)(c:Qs):Prop where
 z:c.r 0=0
 d:c.r 12=d
 f:c.r 13=F
 s:c.r 14=sp
theorem St.of{d F sp:Int}{c c':Qs}(h:St d F sp c)(hk:∀k:Int,k=0∨k=12∨k=13∨k=14→c'.r k=c.r k):St d F sp c':=
 ⟨(hk 0 (by simp)).trans h.z,(hk 12 (by simp)).trans h.d,(hk 13 (by simp)).trans h.f,(hk 14 (by simp)).trans h.s⟩
theorem St.kr{d F sp:Int}{c c':Qs}{ks:List Int}(h:St d F sp c)(hk:Kr ks c c')(hn:∀k∈ks,¬(k=0∨k=12∨k=13∨k=14)):St d F sp c':=
 h.of fun k hk'=>hk.r k fun hm=>hn k hm hk'
structure pSm(c:Qs)(s:Ms):Prop where
 m:∀i:Nat,i<256→c.m (8192+4*(i:Int))=s.mem i
 i:c.inp=s.inp
 o:c.out=s.out
theorem pSm.kr{c c':Qs}{s:Ms}{ks:List Int}(h:pSm c s)(hk:Kr ks c c'):pSm c' s:=⟨fun i hi=>by rw [hk.m];exact h.m i hi,hk.i.trans h.i,hk.o.trans h.o⟩
def va(o:Om)(F:Int)(x:Ba):Int:=wU (F+bO o x)
structure Fs(o:Om)(N:List Ba)(F sp:Int):Prop where
 ok:∀x∈N,AB (va o F x)∧sp≤va o F x
 inj:∀x∈N,∀y∈N,va o F x=va o F y→x=y
def Fr(o:Om)(N:List Ba)(vs:Vs)(F:Int)(m:Int→Int):Prop:=∀x∈N,m (va o F x)=rl vs x
def lo(d:Nat):Int:=16384-256*d
structure Pr(o:Om)(N:List Ba)(vs:Vs)(d:Nat)(F sp:Int)(s:Ms)(c:Qs):Prop where
 st:St d F sp c
 fs:Fs o N F sp
 fr:Fr o N vs F c.m
 sm:pSm c s
 ok:okMs s
 vs:okVs vs
 al:sp%4=0∧sp≤16384
 fu:0≤s.fuel
 d1:1≤d∧d≤12
structure XO(fs:List Tf)(N:List Ba)(t:Tx):Prop where
 g:GX t
 r:rX t=true
 e:eX fs N t=0
theorem XO.kids{fs:List Tf}{N:List Ba}{k n:Int}{nm:Ba}{v:SV}{kids:List Tx}(h:XO fs N (.mk k n nm v kids)):∀u∈kids,XO fs N u:=by
 have hr:=h.r;have he:=h.e;have hg:=h.g;have hr2:(qK k nm kids.length&&(decide (k=1) || decide (n=0))&&qH kids)=true:=hr;simp only [Bool.and_eq_true]at hr2;have he2:jJ fs N kids=0:=(bF.1 he).2;have hg2:GXs kids:=hg.2.2.2;clear he hr hg h;have:∀l:List Tx,GXs l→qH l=true→jJ fs N l=0→∀u∈l,XO fs N u:=by
  intro l
  induction l with
  | nil=>intro _ _ _ u hu;simp at hu
  | cons t l ih=>
   intro h1 h2 h3 u hu;have h2':(rX t&&qH l)=true:=h2;rw [Bool.and_eq_true]at h2';obtain⟨h4,h5⟩:=bF.1 h3;rcases List.mem_cons.1 hu with rfl|hu
   ·exact⟨h1.1,h2'.1,h4⟩
   ·exact ih h1.2 h2'.2 h5 u hu
 exact this kids hg2 hr2.2 he2
theorem Pr.of{o:Om}{N:List Ba}{vs:Vs}{d:Nat}{F sp sp':Int}{s s':Ms}{c c':Qs}(h:Pr o N vs d F sp s c)(hst:St d F sp' c')(hsm:pSm c' s')(hok:okMs s')(hfu:0≤s'.fuel)(hm:∀a,sp≤a→c'.m a=c.m a)(hs:sp'≤sp)(ha:sp'%4=0):
  Pr o N vs d F sp' s' c':=
 ⟨hst,⟨fun x hx=>⟨(h.fs.ok x hx).1,Int.le_trans hs (h.fs.ok x hx).2⟩,h.fs.inj⟩,fun x hx=>(hm _ (h.fs.ok x hx).2).trans (h.fr x hx),hsm,hok,h.vs,⟨ha,by have:=h.al;omega⟩,hfu,h.d1⟩
theorem Pr.pay{o:Om}{N:List Ba}{vs:Vs}{d:Nat}{F sp:Int}{s:Ms}{c:Qs}(h:Pr o N vs d F sp s c)(hf:¬s.fuel≤0):Pr o N vs d F sp {s with fuel:=s.fuel-1} c:=
 ⟨h.st,h.fs,h.fr,⟨h.sm.m,h.sm.i,h.sm.o⟩,(Kp.pay h.ok hf).ok,h.vs,h.al,by dsimp only;omega,h.d1⟩
def Bk(code:List Qi)(c:Qs):Prop:=code[c.pc]?=some ⟨49,0,0,0,0⟩
def XR(code:List Qi)(p':Nat)(d:Nat)(F sp:Int)(c:Qs)(s:Ms):Re Int→Prop
 | .ok v s1=>0≤s1.fuel∧Go code (100*(s.fuel-s1.fuel)-40) c fun c'=>c'.pc=p'∧c'.r 1=v∧St d F sp c'∧pSm c' s1∧∀a,sp≤a→c'.m a=c.m a
 | .err e=>e=26→Go code (100*s.fuel+50) c (Bk code)
def KR(code:List Qi)(p':Nat)(d:Nat)(F sp:Int)(c:Qs)(s:Ms)(acc:List Int)(n:Nat):Re (List Int)→Prop
 | .ok ks s1=>0≤s1.fuel∧∃new,ks=acc++new∧new.length=n∧Go code (100*(s.fuel-s1.fuel)) c fun c'=>c'.pc=p'∧St d F (sp-4*(n:Int)) c'∧pSm c' s1∧(∀a,sp≤a→c'.m a=c.m a)∧∀(i:Nat) x,new[i]?=some x→c'.m (sp-4*((i:Int)+1))=x
 | .err e=>e=26→Go code (100*s.fuel+50) c (Bk code)
def CR(code:List Qi)(q:Nat)(d:Nat)(F sp:Int)(n:Nat)(c:Qs)(s:Ms):Re Int→Prop
 | .ok v s1=>0≤s1.fuel∧Go code (100*(s.fuel-s1.fuel)+45) c fun c'=>c'.pc=q∧c'.r 1=v∧St d F sp c'∧pSm c' s1∧∀a,sp+4*(n:Int)≤a→c'.m a=c.m a
 | .err e=>e=26→Go code (100*s.fuel+100) c (Bk code)
section
variable(code:List Qi)(fs:List Tf)(S:Ba→Int)
def HX(g:Nat):Prop:=∀(d:Nat) vs t s r,kS g fs d vs t s=some r→∀o N p F sp c,XO fs N t→cAt code p (zX o S t p)→p+wX t≤1984→c.pc=p→Pr o N vs d F sp s c→lo d+16*dX t≤sp→XR code (p+wX t) d F sp c s r
def HK(g:Nat):Prop:=∀(d:Nat) vs acc l s r,ly g fs d vs acc l s=some r→∀o N p F sp c,(∀u∈l,XO fs N u)→cAt code p (xX o S l p)→p+ta l≤1984→c.pc=p→Pr o N vs d F sp s c→lo d+16*gC l+4*l.length≤sp→KR code (p+ta l) d F sp c s acc l.length r
def HC(g:Nat):Prop:=∀(d:Nat) f al s r,tF g fs d f al s=some r→∀F sp c q,dc fs f.name=some f→al.length=f.ps.length→(∀a∈al,oW a)→c.pc=(S f.name).toNat→c.r 15=ja q→q<3000→St d F sp c→pSm c s→okMs s→0≤s.fuel→
 sp%4=0→sp+4*al.length≤16384→lo d≤sp→d≤12→(∀(i:Nat) x,al[i]?=some x→c.m (sp+4*((al.length:Int)-1-i))=x)→CR code q d F sp al.length c s r
end
theorem w3{g:Nat}{fs:List Tf}{d:Nat}{vs:Vs}{acc:List Int}{t:Tx}{l:List Tx}{s:Ms}{r:Re (List Int)}(h:ly g fs d vs acc (t::l) s=some r):
  ∃g' rx,g'<g∧kS g' fs d vs t s=some rx∧((∃v s1,rx= .ok v s1∧ly g' fs d vs (acc++ [v]) l s1=some r)∨∃e,rx= .err e∧r= .err e):=by
 cases g with
 | zero=>simp [ly]at h
 | succ g=>
  rw [ly]at h;cases hx:kS g fs d vs t s with
  | none=>rw [hx]at h;simp at h
  | some q=>
   rw [hx]at h;refine⟨g,q,Nat.lt_succ_self g,hx,?_⟩;cases q with
   | err e=>exact .inr ⟨e,rfl,(d5 h).symm⟩
   | ok v s1=>exact .inl ⟨v,s1,rfl,h⟩
theorem yY{g:Nat}{fs:List Tf}{d:Nat}{vs:Vs}{acc:List Int}{s:Ms}{r:Re (List Int)}(h:ly g fs d vs acc [] s=some r):r= .ok acc s:=by
 cases g with
 | zero=>simp [ly]at h
 | succ g=>rw [ly]at h;exact(d5 h).symm
section
variable{code:List Qi}{c:Qs}{p:Nat}{d F sp:Int}
theorem mf{r:Int}(hc:cAt code p (fX r))(hpc:c.pc=p)(h:St d F sp c)(hr:r≠14)(hs:8196≤sp∧sp≤16384∧sp%4=0):
  Go code 2 c fun c'=>c'.pc=p+2∧St d F (sp-4) c'∧c'.m=mw c.m (sp-4) (c.r r)∧c'.inp=c.inp∧c'.out=c.out∧∀k,k≠14→c'.r k=c.r k:=by
 refine jY hpc hc.head.1 (v:=sp-4) (by
  show some (wU (c.r 14+4294967292))=_;rw [h.s,pH];exact congrArg some (by omega)) fun c1 e1 e2 e3 e4 e5=> ?_
 have h14:c1.r 14=sp-4:=by rw [e2];exact ep (by decide)
 have hw:wU (c1.r 14+0)=sp-4:=by rw [h14,Int.add_zero,gG (by omega)]
 have hk:∀k,k≠14→c1.r k=c.r k:=fun k hk=>by rw [e2];exact cI hk
 refine y8 (d:=r) (a:=14) (x:=0) (by rw [e1];exact hc.head.2.head.1) (by rw [hw];exact⟨by omega,by omega,by omega⟩) (Go.done (by decide) ⟨by show c1.pc+1=_;rw [e1],⟨(hk 0 (by decide)).trans h.z,(hk 12 (by decide)).trans h.d,(hk 13 (by decide)).trans h.f,h14⟩,?_,e4,e5,hk⟩);show mw c1.m (wU (c1.r 14+0)) (c1.r r)=_;rw [hw,e3,hk r hr]
theorem u5{r:Int}(hc:cAt code p (lA r))(hpc:c.pc=p)(h:c.r 14=sp)(hr:r≠14∧r≠0)(hs:AB sp):
  Go code 2 c fun c'=>c'.pc=p+2∧c'.r r=c.m sp∧c'.r 14=sp+4∧Kr [r,14] c c':=by
 have hw:wU (c.r 14+0)=sp:=by rw [h,Int.add_zero,gG ⟨by have:=hs.1;omega,by have:=hs.2.1;omega⟩]
 refine y9 (d:=r) (a:=14) (x:=0) (by rw [hpc];exact hc.head.1) (by rw [hw];exact hs) ?_;rw [hw];refine jY (p:=p+1) (by rw [←hpc]) hc.head.2.head.1 (v:=sp+4) (by
  show some (wU (rp c.r r (c.m sp) 14+4))=_;rw [cI (fun e=>hr.1 e.symm),h,gG ⟨by have:=hs.1;omega,by have:=hs.2.1;omega⟩]) fun c1 e1 e2 e3 e4 e5=> ?_
 refine Go.done (by decide) ⟨e1,by rw [e2,cI hr.1];exact ep hr.2,by rw [e2];exact ep (by decide),e3,e4,e5,fun k hk=> ?_⟩;simp only [List.mem_cons,List.not_mem_nil,or_false,not_or]at hk;rw [e2,cI hk.2];exact cI hk.1
theorem Bl{r x:Int}(hc:cAt code p (tM r))(hpc:c.pc=p)(hr:r≠0)(h:c.r r=x)(hx:oW x):
  Go code 2 c fun c'=>c'.pc=p+2∧c'.r r=4*(x%256)∧Kr [r] c c':=by
 refine jY hpc hc.head.1 (v:=x%256) (by
  show some (bits .and .u32 (c.r r) 255)=_;rw [h,LI hx]) fun c1 e1 e2 e3 e4 e5=> ?_
 refine jY e1 hc.head.2.head.1 (v:=4*(x%256)) (by
  show some (wU (c1.r r*2^((2:Int)%32).toNat))=_;rw [e2,ep hr,show((2:Int)^((2:Int)%32).toNat)=4 from J,gG (by omega)];exact congrArg some (by omega)) fun c2 f1 f2 f3 f4 f5=> ?_
 refine Go.done (by decide) ⟨f1,by rw [f2];exact ep hr,f3.trans e3,f4.trans e4,f5.trans e5,fun k hk=> ?_⟩;simp only [List.mem_cons,List.not_mem_nil,or_false]at hk;rw [f2,cI hk,e2];exact cI hk
end
theorem DL{r:Int→Int}{v k:Int}:rp r 0 v k=r k:=ai fun h=>h.2 rfl
theorem ua{d:Nat}(h:d≤12):13312≤lo d:=by unfold lo;omega
theorem ku{m:Int→Int}{a v k:Int}(h:k≠a):mw m a v k=m k:=ai h
theorem p_{m:Int→Int}{a v:Int}:mw m a v a=v:=aw rfl
theorem pSm.push{c c':Qs}{s:Ms}{a v:Int}(h:pSm c s)(hm:c'.m=mw c.m a v)(hi:c'.inp=c.inp)(ho:c'.out=c.out)(ha:9216≤a):pSm c' s:=
 ⟨fun i hi=>by rw [hm,ku (by omega)];exact h.m i hi,hi.trans h.i,ho.trans h.o⟩
section
variable{code:List Qi}{fs:List Tf}{S:Ba→Int}{c:Qs}{p:Nat}{d:Nat}{F sp:Int}{o:Om}{N:List Ba}{vs:Vs}{s:Ms}
theorem Ip{g1 g2:Nat}{a b:Tx}{nm:Ba}{r1:Re Int}{w:Nat}(hF:VF fs)(h1:HX code fs S g1)(h2:HX code fs S g2)(hb:iW nm=true)(ha:kS g1 fs d vs a s=some r1)(hva:VX fs a)(hvb:VX fs b)
  (hxa:XO fs N a) (hxb:XO fs N b) (hc:cAt code p (zX o S a p++(fX 1++(zX o S b (p+(zX o S a p).length+2)++(lA 2++BI nm))))) (hw:w=wX a+(wX b+(4+(BI nm).length))) (hl:p+w≤1984) (hpc:c.pc=p) (hp:Pr o N vs d F sp s c) (hs1:lo d+16*dX a≤sp) (hs2:lo d+16*dX b+4≤sp)
  {r:Re Int} (hr:(∃v s1,r1= .ok v s1∧∃r2,kS g2 fs d vs b s1=some r2∧((∃x s2,r2= .ok x s2∧r= .ok ((LB nm v x).getD 0) s2)∨∃e,r2= .err e∧r= .err e))∨∃e,r1= .err e∧r= .err e):
  XR code (p+w) d F sp c s r:=by
 have hd:=ua hp.d1.2;obtain⟨hca,hc⟩:=hc.app;obtain⟨hcp,hc⟩:=hc.app;obtain⟨hcb,hc⟩:=hc.app;obtain⟨hcq,hco⟩:=hc.app;rw [g_]at hcp hcb hcq hco;rw [g_]at hcq hco;have hX:=h1 d vs a s r1 ha o N p F sp c hxa hca (by omega) hpc hp hs1;rcases hr with⟨v,s1,rfl,r2,hb2,hr⟩|⟨e,rfl,rfl⟩
 ·obtain⟨hv,hk1⟩:=(lp hF g1).x d vs a s v s1 hva hp.vs hp.ok ha;obtain⟨hf1,hX⟩:=hX;have mid:∀c',(c'.pc=p+wX a∧c'.r 1=v∧St d F sp c'∧pSm c' s1∧∀x,sp≤x→c'.m x=c.m x)→Go code 2 c' fun c2=>c2.pc=p+wX a+2∧Pr o N vs d F (sp-4) s1 c2∧c2.m (sp-4)=v∧∀x,sp≤x→c2.m x=c.m x:=fun c' ⟨e1,e2,e3,e4,e5⟩=>
   (mf hcp e1 e3 (by decide) ⟨by omega,hp.al.2,hp.al.1⟩).weak (fun c2 ⟨f1,f2,f3,f4,f5,f6⟩=>by
    have hm:∀x,sp≤x→c2.m x=c.m x:=fun x hx=>by rw [f3,ku (by omega)];exact e5 x hx
    exact⟨f1,hp.of f2 (e4.push f3 f4 f5 (by omega)) hk1.ok hf1 hm (by omega) (by have:=hp.al;omega),by rw [f3,p_,e2],hm⟩) (Int.le_refl _)
  have hX2:=hX.seq mid (k:=100*(s.fuel-s1.fuel)-38) (by omega);rcases hr with⟨x,s2,rfl,rfl⟩|⟨e,rfl,rfl⟩
  ·obtain⟨hx,hk2⟩:=(lp hF g2).x d vs b s1 x s2 hvb hp.vs hk1.ok hb2;obtain⟨hf2,-⟩:0≤s2.fuel∧True:=by
    obtain⟨_,c2,_,_,e1,e2,e3,e4⟩:=hX2;have:=h2 d vs b s1 _ hb2 o N (p+wX a+2) F (sp-4) c2 hxb hcb (by omega) e1 e2 (by omega);exact⟨this.1,O⟩
   refine⟨hf2,hX2.seq (m:=100*(s1.fuel-s2.fuel)-33) (fun c2 ⟨e1,e2,e3,e4⟩=> ?_) (by omega)⟩;have hX3:=(h2 d vs b s1 _ hb2 o N (p+wX a+2) F (sp-4) c2 hxb hcb (by omega) e1 e2 (by omega)).2;refine hX3.seq (m:=7) (fun c3 ⟨f1,f2,f3,f4,f5⟩=> ?_) (by omega);refine(u5 (p:=p+wX a+2+wX b) (r:=2) hcq f1 f3.s (by decide) ⟨by omega,by have:=hp.al;omega,by have:=hp.al;omega⟩).seq (m:=5) (fun c4 ⟨g1,g2,g3,g4⟩=> ?_) (by omega);have h0:c4.r 0=0:=(g4.r 0 (by decide)).trans f3.z;have h2':c4.r 2=v:=by rw [g2,f5 _ (Int.le_refl _),e3]
   have h1':c4.r 1=x:=(g4.r 1 (by decide)).trans f2;refine(MY (p:=p+wX a+2+wX b+2) hb hco (by omega) g1 h0 h2' h1' hv hx).weak (fun c5 ⟨k1,k2,k3⟩=>⟨by rw [k1];omega,k2,?_,(f4.kr g4).kr k3,fun a ha=> ?_⟩) (Int.le_refl _)
   ·exact⟨(k3.r 0 (by decide)).trans h0,((k3.r 12 (by decide)).trans (g4.r 12 (by decide))).trans f3.d,((k3.r 13 (by decide)).trans (g4.r 13 (by decide))).trans f3.f,((k3.r 14 (by decide)).trans g3).trans (by omega)⟩
   ·rw [k3.m,g4.m,f5 a (by omega),e4 a ha]
  ·intro he;refine hX2.seq (m:=100*s1.fuel+50) (fun c2 ⟨e1,e2,e3,e4⟩=> ?_) (by omega);exact h2 d vs b s1 _ hb2 o N (p+wX a+2) F (sp-4) c2 hxb hcb (by omega) e1 e2 (by omega) he
 ·exact hX
end
end Go.Proofs.YtedmdgbmdplifaaGreat
