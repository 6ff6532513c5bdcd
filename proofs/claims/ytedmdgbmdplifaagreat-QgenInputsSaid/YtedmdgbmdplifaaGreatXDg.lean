/-
  A part of the proof. Conditions are with the theorems.
-/
import Derived.Test.YtedmdgbmdplifaaGreatXDa
import Derived.Test.YtedmdgbmdplifaaGreatXDb
import Derived.Test.YtedmdgbmdplifaaGreatXDc
import Derived.Test.YtedmdgbmdplifaaGreatXDd
import Derived.Test.YtedmdgbmdplifaaGreatXDe
import Derived.Test.YtedmdgbmdplifaaGreatXDf
set_option maxHeartbeats 32000000
set_option maxRecDepth 100000
set_option linter.unusedSimpArgs false
set_option linter.unusedVariables false
namespace Go.Proofs.YtedmdgbmdplifaaGreat
open Go.RowKit Tryz
theorem NC{x:Ba}{v0 v1 vb v2 v3:SV}{n:Int}{a:List Ty}:eq [vJ x v0 n,ob x v1 vb (a++ [lJ x v3 v2])]= [.mk 1 x [ox n] [] [],.mk 5 oNil [jp x] (eq a++ [jq x]) []]:=by
 simp only [eq,GU,g8,lW,fD,ox,jp,jq]
structure Xg where
 i:Nat
 vo:SV
 out:List Ty
 s:Gs
 vn:SV
def Ua(e:Ge)(lev:Nat):Prop:=∀(s:Gs)(vn:SV),GInv s→Spec prog 47 [Pt e.g,I6 (4-(lev:Int))] [bh e.g 102 (ie e.vl s vn e.c.me e.vf),own 9 1 eS (sv vn) s.names] [sl 1 eI (sv e.vl) e.c.l,cx e.vf e.F] (X:=SV×List Ty×Gs×SV) (fun x=>GYr e.c lev s (eq x.2.1) x.2.2.1∧x.2.1.length≤10) (fun x=>sv x.1)
 (fun x=> [bh e.g 102 (ie e.vl x.2.2.1 x.2.2.2 e.c.me e.vf),own 9 1 eS (sv x.2.2.2) x.2.2.1.names,own 64 5 eE (sv x.1) x.2.1,lI x.2.1]) (fun _=> [])
theorem yA{v:Int}(h0:0≤v)(h8:v<8):∃x,freshL[v.toNat]?=some x∧v.toNat<freshL.length∧v=(v.toNat:Int):=by
 have h:v.toNat<freshL.length:=by show _<8;omega
 exact⟨_,bN h,h,by omega⟩
theorem qH(e:Ge)(he:Gfine e)(lev:Nat)(hlv:lev≤3)(ih:∀k,lev=k+1→Ua e k)(s0:Gs)(vn0:SV)(hi0:GInv s0):
  Spec prog 47 [Pt e.g,I6 (4-(lev:Int))] [bh e.g 102 (ie e.vl (s0) vn0 e.c.me e.vf),own 9 1 eS (sv vn0) s0.names] [sl 1 eI (sv e.vl) e.c.l,cx e.vf e.F] (X:=SV×List Ty×Gs×SV) (fun x=>GYr e.c lev s0 (eq x.2.1) x.2.2.1∧x.2.1.length≤10) (fun x=>sv x.1) (fun x=> [bh e.g 102 (ie e.vl (x.2.2.1) x.2.2.2 e.c.me e.vf),own 9 1 eS (sv x.2.2.2) x.2.2.1.names,own 64 5 eE (sv x.1) x.2.1,lI x.2.1]) (fun _=> []):=by
 refine aI func47 J ntmps47 J fun w0 M H=>aZ 1 2 J (fun _ G h _=>⟨G,h,fun _ hb=>hb⟩) (aZ 2 3 J jG ?_)
 have hfl:e.c.fs.length=e.F.length:=by rw [he.fs,List.length_map]
 have hflb:=he.fl;have hmeb:=he.me;obtain⟨j0,sm,hj0⟩:∃j0 sm,gN e.c.l 5 s0=(j0,sm):=⟨_,_,J⟩
 have hjb0:=oO (by decide) hj0;have him:GInv sm:=hi0.same (bR hj0);obtain⟨many,hmany⟩:∃many:Nat,(1:Int)+j0=(many:Int):=⟨(1+j0).toNat,by omega⟩
 refine ap (ak J (aF J (ak J (aF J (ad J (aj (xs:= [.tmp 19,.const (I6 5)]) (cU e.g e.vl vn0 e.vf e.c he.hl he.hlo 5 (by decide) s0) kT [0] [(false,0)] [0] (fun _ _=> ?_)))))));rw [hj0];dsimp only;refine aw J J aO ?_;rw [hmany];refine ak J (aa (aT (ak J (aa (aB (cZ 60 (α:=Ty) (S:=64) (s:=5) (enc:=eE) (bz 40 [] (L:= []) (C:=lI []) J (fun _ _ _=>O) (bC (X:=Xg) (fun x=>x.i≤many∧GInv x.s∧x.out.length≤2*x.i∧∀r s2,GLr e.c lev (many-x.i) x.s r s2→GLr e.c lev many sm (eq x.out++r) s2) (fun x=> [(0,Pt e.g),(1,I6 (4-(lev:Int))),(5,sv x.vo),(6,I6 (many:Int)),(7,I6 (x.i:Int))]) (fun x=> [(0,bh e.g 102 (ie e.vl (x.s) x.vn e.c.me e.vf)),(1,own 9 1 eS (sv x.vn) x.s.names),(60,own 64 5 eE (sv x.vo) x.out),(40,lI x.out)]) (fun x=> [(0,sl 1 eI (sv e.vl) e.c.l),(2,cx e.vf e.F),(3,sl 3 ip (sv e.vf) e.F)]) (fun x=>many-x.i) ⟨0,bk,[],sm,vn0⟩ ⟨br _,him,bX _,fun r s2 h=>h⟩ J (by dsimp only;rw [show sm.names=s0.names from(bR hj0).1];rfl) J (fun x hx0=> ?_)))))))));obtain⟨i,vo,out,s,vn⟩:=x;obtain⟨n1,n2,n3,n4⟩:=hx0;dsimp only at n1 n2 n3 n4 ⊢;refine aT (ad J (ad J (aw J J cr (ad J (aG [] J J O (fun hg1=>bc J) J (aG [(26,_)] J J ⟨J,O⟩ (fun hg2=>au J) J (aG [(26,_),(27,_)] J J ⟨J,J,O⟩ (fun hg3=>ag rQ J) J (aG [(26,_),(27,_),(28,_)] J J ⟨J,J,J,O⟩ (fun hg4=>ah t3 J J (ay (k:=0) J J)) J (aG [(26,_),(27,_),(28,_),(29,_)] J J ⟨J,J,J,J,O⟩ (fun hg5=>aR J J ec) J (aP (bH J J J) (aa (ai J (fun h6=> ?_) (fun h6=> ?_)))))))))))))
 ·(try simp only [bj]at h6);have hi2:i<many:=by omega
  have hleft:0<s.left:=h6.2;obtain⟨k,sa,hk⟩:∃a b,gN e.c.l 12 {s with left:=s.left-1}=(a,b):=⟨_,_,J⟩
  have hkb:=oO (by decide) hk;have hna:sa.names=s.names:=(bR hk).1;have hia:GInv sa:=GInv.same (s:={s with left:=s.left-1}) ⟨n2.v0,n2.v8,n2.nm,by show s.left-1≤1000;have:=n2.lf;omega⟩ (bR hk);have hin:=hia.n;have hv0:=hia.v0;have hv8:=hia.v8;have hinm:sa.names.length≤1000:=hin;rw [←hna];refine az (a_ (aB (ap (ad J (bI J (aC rQ J (aQ 0 t3 J J J J (aw J J (gu (by exact qu (by omega) (by have:=n2.lf;omega))) (bI J (aC rQ J (aA (k:=0) t3 J J J J J J J J (aF J (ad J (aj (xs:= [.tmp 41,.const (I6 12)]) (cU e.g e.vl vn e.vf e.c he.hl he.hlo (12) (by decide) ({s with left:=s.left-1})) kT [0] [(false,0)] [0] (fun _ _=> ?_)))))))))))))));rw [hk];dsimp only;refine ak J (aF J (dv eS freshL (parts:= [(0,.const (Sg (ByteArray.mk #[97]))),(1,.const (Sg (ByteArray.mk #[98]))),(2,.const (Sg (ByteArray.mk #[99]))),(3,.const (Sg (ByteArray.mk #[100]))),(4,.const (Sg (ByteArray.mk #[101]))),(5,.const (Sg (ByteArray.mk #[120,49]))),(6,.const (Sg (ByteArray.mk #[121,50]))),(7,.const (Sg (ByteArray.mk #[108,111,111,112])))]) underlying46 t9 J (by decide) (by intro _;rfl) J (by decide) (by decide) J J J J fun v43=>ak J (aa (aB (ap (ad J (aw J J cr (ad J (aG [] J J O (fun hg7=>bc J) J (aG [(55,_)] J J ⟨J,O⟩ (fun hg8=>au J) J (aG [(55,_),(56,_)] J J ⟨J,J,O⟩ (fun hg9=>ag jA J) J (aG [(55,_),(56,_),(57,_)] J J ⟨J,J,J,O⟩ (fun hg10=>ah t3 J J (ay (k:=0) J J)) J (aG [(55,_),(56,_),(57,_),(58,_)] J J ⟨J,J,J,J,O⟩ (fun hg11=>bc J) J (aG [(55,_),(56,_),(57,_),(58,_),(59,_)] J J ⟨J,J,J,J,J,O⟩ (fun hg12=>aS underlying46 J (be (k:=43) J)) J (aG [(55,_),(56,_),(57,_),(58,_),(59,_),(60,_)] J J ⟨J,J,J,J,J,J,O⟩ (fun hg13=>aR J J cr) J ?_)))))))))))))));refine aP (bH J J J) (ak J (aa (ai J (fun h14=> ?_) (fun h14=> ?_))))
  ·(try simp only [bj]at h14);have h2:k<3∧sa.vars<8:=⟨h14.1,h14.2⟩
   obtain⟨nm,hnm,hnm1,hnm2⟩:=yA hia.v0 h2.2;refine ap (ad J (ad J (bI J (aC jA J (aQ 0 t3 J J J J (aP (aN (j:=sa.vars.toNat) underlying46 t9 J J (be (k:=43) J) hnm2 hnm1) (aP (ah t9 J J (bA (be (k:=43) J) (by intro _;rfl) hnm (by rfl))) (ak J (aF J (ad J (bI J (aC jA J (aQ 0 t3 J J J J (aw J J aO (bI J (aC jA J ?_))))))))))))))));refine aA (k:=0) t3 J J J J J J J J (aF J (ad J (dh (xs:= [.tmp 77,.const (I6 4)]) (mt he 3 (by decide) vn ({sa with vars:=sa.vars+1}) (by rw [show({sa with vars:=sa.vars+1}:Gs).names=sa.names from J];exact hin)) nV [0] [(false,0),(true,1),(false,2)] [0,78] J J J J J (by rw [show({sa with vars:=sa.vars+1}:Gs).names=sa.names from J];rfl) J J (fun _ _=>J) (fun _ _ _=>J) J (fun⟨t1,s2⟩ ht1=> ?_))));dsimp only at ht1 ⊢;refine aY cl J J fun b11=>aq (k:=11) cl J J J J J J (aF J (ad J (ad J (aP (aM cl J J J (aX (k:=11) J)) (bq dT t1 underlying59 cl J (by decide) (by decide) J J J J fun v82=>aP (aU (parts:= [(0,.const (I6 1)),(1,.tmp 80),(2,.tmp 82)]) dK lP J J) (bq eE (.mk 1 nm v82 [t1] bk [] bk []) underlying62 dK J (by decide) (by decide) J J J J fun v84=>cM 60 underlying62 dK J (by decide) (fun _=>J) (fun _=>J) J J J (be (k:=84) J) (by simp only [bG,bP,bK];omega) (by unfold maxLen;simp only [bG,bP,bK];omega) J fun v85=>ak J (aa (am (ad J (ad J (bI J (aC gm J (aQ 0 gO J J J J ?_)))))))))))))
   refine ad J (bq eS nm underlying46 t9 J (by decide) (by decide) J J J J fun v92=>cM 1 underlying46 t9 J (by decide) (fun _=>J) (fun _=>J) J J J (be (k:=92) J) (by have:=hinm;simp only [cE];omega) (by unfold maxLen;have:=hinm;simp only [cE];omega) J fun v93=>bI J (aC gm J (aA (k:=0) gO J J J J J J J J (aa (am (ad J (aw J J aO (ak J (aa ?_)))))))));have hg1:G1r e.c (lev) k sa (eq [.mk 1 nm v82 [t1] bk [] bk []]) ({s2 with names:=s2.names++ [nm]}):= .var h2.1 hnm h2.2 ht1;have hkp:=hg1.inv hia;refine bz 40 [40,82,78] (C:=lI (out++ [.mk 1 nm v82 [t1] bk [] bk []])) J mE ?_;refine aJ ⟨i+1,v85,out++ [.mk 1 nm v82 [t1] bk [] bk []],{s2 with names:=s2.names++ [nm]},v93⟩ ⟨⟨by dsimp only;omega,hkp.inv,by dsimp only;rw [bG];simp only [bP,bK];omega,by dsimp only;rw [fD];exact iR hi2 hleft hk hg1 n4⟩,by dsimp only;omega⟩ J (by dsimp only;rw [show s2.names=sa.names from ht1.keep.1];rfl) J
  ·(try simp only [bj]at h14);have q2:¬(k<3∧sa.vars<8):=by rintro ⟨a,b⟩;rcases h14 with h|h;exact h a;exact h b
   refine ap (ad J (aw J J bn (ad J (aG [] J J O (fun hg15=>bc J) J (aG [(100,_)] J J ⟨J,O⟩ (fun hg16=>au J) J (aG [(100,_),(101,_)] J J ⟨J,J,O⟩ (fun hg17=>ag gm J) J (aG [(100,_),(101,_),(102,_)] J J ⟨J,J,J,O⟩ (fun hg18=>ah gO J J (ay (k:=0) J J)) J (aG [(100,_),(101,_),(102,_),(103,_)] J J ⟨J,J,J,J,O⟩ (fun hg19=>aS underlying46 J (be (k:=1) J)) J (aG [(100,_),(101,_),(102,_),(103,_),(104,_)] J J ⟨J,J,J,J,J,O⟩ (fun hg20=>aR J J ec) J (aP (bH J J J) (ak J (aa (ai J (fun h21=> ?_) (fun h21=> ?_))))))))))))))
   ·(try simp only [bj]at h21);have h3:k=3∧0<sa.names.length:=⟨h21.1,by have:=h21.2;omega⟩
    obtain⟨x6,hx6,hja6,hjb6⟩:=s7 (l:=e.c.l) (L:=sa.names) (n:=(sa.names.length:Int)) (by omega) J sa;refine a_ ?_;refine bJ [107,108,109,110,111,112,113,114,115,116,117,118,119,12] _ J (aW (V:= [(0,107,_),(1,108,_),(2,109,_),(3,110,_),(4,111,_),(5,112,_),(6,113,_),(7,114,_),(8,115,_),(9,116,_)]) [0,1,2,3,4,5,6,7,8,9] 10 [10,9,8,7,6,5,4] [11,12,13] (fun _=> [(11,118,_),(12,119,_),(13,12,_)]) J J (aD J J (ac J (au J) (ac J (ag gm J) (ac J (ah gO J J (ay (k:=0) J J)) (aD J J (aD J J (ac J (au J) (ac J (ag gm J) (ac J (ah gO J J (ay (k:=0) J J)) (ac J (aS underlying46 J (be (k:=1) J)) av)))))))))) J J J J J J J J J J J (fun _ _=>J) J (bB (xs:= [.tmp 111,.tmp 116]) (cU e.g e.vl vn e.vf e.c he.hl he.hlo ((sa.names.length:Int)) (by omega) (sa)) kT [0] [(false,0)] [0]) (fun _ _=>bl [11,12,13,0,1,2,3] J J (ac J (aN (j:=(gN e.c.l (sa.names.length:Int) sa).1.toNat) underlying46 t9 J J (be (k:=1) J) hjb6 hja6) (ac J (ah t9 J J (bA (be (k:=1) J) (by intro _;rfl) hx6 (by rfl))) (ac J (cA J) (aD J J (ac J (au J) (ac J (ag gm J) (ac J (ah gO J J (ay (k:=0) J J)) av))))))) J J J ?_));refine am (ad J (ad J (ad J (dh (xs:= [.tmp 122,.const (I6 4)]) (mt he 3 (by decide) vn ((gN e.c.l (sa.names.length:Int) sa).2) (by rw [(lq e.c.l (sa.names.length:Int) sa).1];exact hin)) nV [0] [(false,0),(true,1),(false,2)] [0,123] J J J J J (by rw [(lq e.c.l (sa.names.length:Int) sa).1];rfl) J J (fun _ _=>J) (fun _ _ _=>J) J (fun⟨t1,s2⟩ ht1=> ?_)))));dsimp only at ht1 ⊢;refine bq dT t1 underlying59 cl J (by decide) (by decide) J J J J fun v124=>aP (aU (parts:= [(0,.const (I6 2)),(1,.tmp 121),(2,.tmp 124)]) dK lP J J) (bq eE (.mk 2 x6 v124 [t1] bk [] bk []) underlying62 dK J (by decide) (by decide) J J J J fun v126=>cM 60 underlying62 dK J (by decide) (fun _=>J) (fun _=>J) J J J (be (k:=126) J) (by simp only [bG,bP,bK];omega) (by unfold maxLen;simp only [bG,bP,bK];omega) J fun v127=>ak J (aa (am (ad J (aw J J aO (ak J (aa ?_)))))))
    have hg1:G1r e.c (lev) k sa (eq [.mk 2 x6 v124 [t1] bk [] bk []]) (s2):=h3.1▸ .set h3.2 J hx6 ht1;have hkp:=hg1.inv hia;refine bz 40 [40,124,123] (C:=lI (out++ [.mk 2 x6 v124 [t1] bk [] bk []])) J mE ?_;refine aJ ⟨i+1,v127,out++ [.mk 2 x6 v124 [t1] bk [] bk []],s2,vn⟩ ⟨⟨by dsimp only;omega,hkp.inv,by dsimp only;rw [bG];simp only [bP,bK];omega,by dsimp only;rw [fD];exact iR hi2 hleft hk hg1 n4⟩,by dsimp only;omega⟩ J (by dsimp only;rw [show s2.names=sa.names from ht1.keep.1.trans (lq _ _ _).1];rfl) J
   ·(try simp only [bj]at h21);have q3:¬(k=3∧0<sa.names.length):=by rintro ⟨a,b⟩;rcases h21 with h|h;exact h a;omega
    refine ap (ad J (aw J J bn (ad J (aG [] J J O (fun hg22=>bc J) J (aG [(132,_)] J J ⟨J,O⟩ (fun hg23=>aR J J bn) J (aP (bH J J J) (ak J (aa (ai J (fun h24=> ?_) (fun h24=> ?_))))))))))
    ·(try simp only [bj]at h24);have h4:k=4∨k=5:=h24;refine ap (ad J (aj (xs:= [.tmp 135,.const (I6 3)]) (mt he 2 (by decide) vn sa hin) nV [0] [(false,0),(true,1),(false,2)] [0,136] (fun⟨t1,s2⟩ ht1=> ?_)));dsimp only at ht1 ⊢;refine aY cl J J fun b13=>aq (k:=13) cl J J J J J J (aa ?_)
     refine bJ [137,138,139,140,141,142,143,144] _ J (aW (V:= [(0,137,_),(1,138,_),(2,139,_)]) [0,1,2] 3 [3,2] [] (fun x2=> []) J J (aD J J (ac J (aM cl J J J (aX (k:=13) J)) (aD J J av))) J J J J J J J J J J J (fun _ _=>J) J (iY (xs:= [.tmp 139,.const (I6 4)]) (mt he 3 (by decide) vn (s2) (by rw [show s2.names=sa.names from ht1.keep.1];exact hin)) nV [0] [(false,0),(true,1),(false,2)] [0,140] J J J J J (by rw [show s2.names=sa.names from ht1.keep.1];rfl) J J (fun _ _=>J) (fun _ _ _=>J)) (fun x2 ht2=>aW [0,1] 4 [4,3,2,1] [5] (fun v141=> [(5,142,_)]) J J (aD J J (ac J (aM cl J J J (aX (k:=13) J)) av)) J J J J J J J J J J J (fun _ _=>J) J (fX dT [t1,x2.1] (parts:= [(0,.tmp 138),(1,.tmp 140)]) underlying59 cl J (by decide) (by intro _;rfl) J (by decide) (by decide) J J J) (fun v141 _=>aW [5,0] 6 [6,5,4,3,2,1] [] (fun v143=> []) J J (ac J (aU (parts:= [(0,.const (I6 3)),(2,.tmp 141)]) dK lP J J) (aD J J av)) J J J J J J J J J J J (fun _ _=>J) J (dH eE (.mk 3 oNil v141 [t1,x2.1] bk [] bk []) underlying62 dK J (by decide) (by decide) J J J) (fun v143 _=>aW [0] 7 [7,6,5,4,3,2,1,0] [] (fun v144=> []) J J (aD J J av) J J J J J J J J J J J (fun _ _=>J) J (gC 60 underlying62 dK J (by decide) (fun _=>J) (fun _=>J) J J J (be (k:=143) J) (by simp only [bG,bP,bK];omega) (by unfold maxLen;simp only [bG,bP,bK];omega)) (fun v144 _=>xD [] 8 [8,7,6,5,4,3,2,1,0] J J av J J J J J J J J (cA J) ?_)))));refine am (ad J (aw J J aO (ak J (aa ?_))));have hg1:G1r e.c (lev) k sa (eq [.mk 3 oNil v141 [t1,x2.1] bk [] bk []]) (x2.2):= .put h4 ht1 ht2;have hkp:=hg1.inv hia;refine bz 40 [40,141,136,140] (C:=lI (out++ [.mk 3 oNil v141 [t1,x2.1] bk [] bk []])) J Iw ?_;refine aJ ⟨i+1,v144,out++ [.mk 3 oNil v141 [t1,x2.1] bk [] bk []],x2.2,vn⟩ ⟨⟨by dsimp only;omega,hkp.inv,by dsimp only;rw [bG];simp only [bP,bK];omega,by dsimp only;rw [fD];exact iR hi2 hleft hk hg1 n4⟩,by dsimp only;omega⟩ J (by dsimp only;rw [show x2.2.names=sa.names from ht2.keep.1.trans ht1.keep.1];rfl) J
    ·(try simp only [bj]at h24);have q4:¬k=4∧¬k=5:=h24;refine ap (ad J (aw J J bn (ad J (aG [] J J O (fun hg25=>bc J) J (aG [(149,_)] J J ⟨J,O⟩ (fun hg26=>aR J J cr) J (aP (bH J J J) (ak J (aa (ai J (fun h27=> ?_) (fun h27=> ?_))))))))))
     ·(try simp only [bj]at h27);have h5:k=6:=h27.1;obtain⟨lv,rfl⟩:∃lv,lev=lv+1:=⟨lev-1,by have:=h27.2;omega⟩
      refine ap (ad J (aj (xs:= [.tmp 152,.const (I6 3)]) (mt he 2 (by decide) vn sa hin) nV [0] [(false,0),(true,1),(false,2)] [0,153] (fun⟨t1,s2⟩ ht1=> ?_)));dsimp only at ht1 ⊢;have hi2b:GInv s2:=hia.same ht1.keep;refine bq dT t1 underlying59 cl J (by decide) (by decide) J J J J fun v154=>aP (aU (parts:= [(0,.const (I6 4)),(2,.tmp 154)]) dK lP J J) (aY dK J J fun b14=>aq (k:=14) dK J J J J J J (aF J (ad J (ad J ?_))))
      refine sE (aR J J (cw (c:=4-(lv:Int)) (by rw [show 4-((lv+1:Nat):Int)+1=4-(lv:Int) by omega];exact bU (by omega)))) J ?_;refine dh (xs:= [.tmp 156,.tmp 158]) (ih lv J s2 vn hi2b) Kc [0,1] [(false,0),(false,2)] [0,1,61,62] J J J J (by rw [show s2.names=sa.names from ht1.keep.1];rfl) J J J (fun _ _=>J) (fun _ _ _=>J) J (fun⟨vb1,l1,s3,vn2⟩ hl1=> ?_);dsimp only at hl1 ⊢;have hi3:GInv s3:=(hl1.1.inv hi2b).inv;obtain⟨j6,s4,hj6⟩:∃a b,gN e.c.l 2 s3=(a,b):=⟨_,_,J⟩
      refine aC ft J (aA (k:=14) iP J J J J J J J J (aa (aT (ad J (aj (xs:= [.tmp 161,.const (I6 2)]) (cU e.g e.vl vn2 e.vf e.c he.hl he.hlo 2 (by decide) s3) kT [0] [(false,0)] [0] (fun _ _=> ?_))))));rw [hj6];dsimp only;refine aw J J bn (aa (ai J (fun h28=> ?_) (fun h28=> ?_)))
      ·(try simp only [bj]at h28);have hj6e:j6=1:=h28;refine am (ad J (ad J ?_));refine sE (aR J J (cw (c:=4-(lv:Int)) (by rw [show 4-((lv+1:Nat):Int)+1=4-(lv:Int) by omega];exact bU (by omega)))) J ?_;refine dh (xs:= [.tmp 164,.tmp 166]) (ih lv J s4 vn2 (hi3.same (bR hj6))) Kc [0,1] [(false,0),(false,2)] [0,1,63,64] J J J J (by rw [show s4.names=s3.names from(bR hj6).1];rfl) J J J (fun _ _=>J) (fun _ _ _=>J) J (fun⟨LY,l2,s5,vn3⟩ hl2=> ?_);dsimp only at hl2 ⊢;refine aC fq J (aA (k:=14) iP J J J J J J J J (aa (am (ad J (aP (aM dK J J J (aX (k:=14) J)) (bq eE (.mk 4 oNil v154 [t1] vb1 l1 LY l2) underlying62 dK J (by decide) (by decide) J J J J fun v171=>cM 60 underlying62 dK J (by decide) (fun _=>J) (fun _=>J) J J J (be (k:=171) J) (by simp only [bG,bP,bK];omega) (by unfold maxLen;simp only [bG,bP,bK];omega) J fun v172=>ak J (aa (am (ad J (aw J J aO (ak J (aa ?_))))))))))));have hg1:G1r e.c (lv+1) k sa (eq [.mk 4 oNil v154 [t1] vb1 l1 LY l2]) (s5):=h5▸ .iff1 ht1 hl1.1 (hj6e▸hj6) hl2.1;have hkp:=hg1.inv hia;refine bz 40 [40,154,153,61,62,63,64] (C:=lI (out++ [.mk 4 oNil v154 [t1] vb1 l1 LY l2])) J EO ?_;refine aJ ⟨i+1,v172,out++ [.mk 4 oNil v154 [t1] vb1 l1 LY l2],s5,vn3⟩ ⟨⟨by dsimp only;omega,hkp.inv,by dsimp only;rw [bG];simp only [bP,bK];omega,by dsimp only;rw [fD];exact iR hi2 hleft hk hg1 n4⟩,by dsimp only;omega⟩ J J J
      ·(try simp only [bj]at h28);have hj6e:j6≠1:=h28;refine az (am (ad J (aP (aM dK J J J (aX (k:=14) J)) (bq eE (.mk 4 oNil v154 [t1] vb1 l1 bk []) underlying62 dK J (by decide) (by decide) J J J J fun v171=>cM 60 underlying62 dK J (by decide) (fun _=>J) (fun _=>J) J J J (be (k:=171) J) (by simp only [bG,bP,bK];omega) (by unfold maxLen;simp only [bG,bP,bK];omega) J fun v172=>ak J (aa (am (ad J (aw J J aO (ak J (aa ?_))))))))));have hg1:G1r e.c (lv+1) k sa (eq [.mk 4 oNil v154 [t1] vb1 l1 bk []]) (s4):=h5▸ .iff0 ht1 hl1.1 hj6 hj6e;have hkp:=hg1.inv hia;refine bz 40 [40,154,153,61,62] (C:=lI (out++ [.mk 4 oNil v154 [t1] vb1 l1 bk []])) J EP ?_;refine aJ ⟨i+1,v172,out++ [.mk 4 oNil v154 [t1] vb1 l1 bk []],s4,vn2⟩ ⟨⟨by dsimp only;omega,hkp.inv,by dsimp only;rw [bG];simp only [bP,bK];omega,by dsimp only;rw [fD];exact iR hi2 hleft hk hg1 n4⟩,by dsimp only;omega⟩ J (by dsimp only;rw [show s4.names=s3.names from(bR hj6).1];rfl) J
     ·(try simp only [bj]at h27);have q5:¬(k=6∧1≤lev):=by rintro ⟨a,b⟩;rcases h27 with h|h;exact h a;omega
      refine ap (ad J (aw J J bn (ad J (aG [] J J O (fun hg29=>bc J) J (aG [(177,_)] J J ⟨J,O⟩ (fun hg30=>aR J J cr) J (aP (bH J J J) (ad J (aG [] J J O (fun hg31=>bc J) J (aG [(181,_)] J J ⟨J,O⟩ (fun hg32=>au J) J (aG [(181,_),(182,_)] J J ⟨J,J,O⟩ (fun hg33=>ag jA J) J (aG [(181,_),(182,_),(183,_)] J J ⟨J,J,J,O⟩ (fun hg34=>ah t3 J J (ay (k:=0) J J)) J (aG [(181,_),(182,_),(183,_),(184,_)] J J ⟨J,J,J,J,O⟩ (fun hg35=>bc J) J (aG [(181,_),(182,_),(183,_),(184,_),(185,_)] J J ⟨J,J,J,J,J,O⟩ (fun hg36=>aS underlying46 J (be (k:=43) J)) J (aG [(181,_),(182,_),(183,_),(184,_),(185,_),(186,_)] J J ⟨J,J,J,J,J,J,O⟩ (fun hg37=>aR J J cr) J (aP (bH J J J) (ak J (aa (ai J (fun h38=> ?_) (fun h38=> ?_)))))))))))))))))))
      ·(try simp only [bj]at h38);have h7:k=7∧sa.vars<8:=⟨h38.1.1,h38.2⟩
       obtain⟨lv,rfl⟩:∃lv,lev=lv+2:=⟨lev-2,by have:=h38.1.2;omega⟩
       obtain⟨nm,hnm,hnm1,hnm2⟩:=yA hia.v0 h7.2;obtain⟨j7,s2,hj7⟩:∃a b,gN e.c.l 5 {sa with vars:=sa.vars+1}=(a,b):=⟨_,_,J⟩
       have hjb7:=oO (by decide) hj7;have hi2b:GInv s2:=GInv.same (hia.var h7.2) (bR hj7);refine ap (ad J (ad J (bI J (aC jA J (aQ 0 t3 J J J J (aP (aN (j:=sa.vars.toNat) underlying46 t9 J J (be (k:=43) J) hnm2 hnm1) (aP (ah t9 J J (bA (be (k:=43) J) (by intro _;rfl) hnm (by rfl))) (ak J (aF J (ad J (bI J (aC jA J (aQ 0 t3 J J J J (aw J J aO (bI J (aC jA J ?_))))))))))))))));refine aA (k:=0) t3 J J J J J J J J (aF J (ad J (aP (aU (parts:= [(0,.const (I6 2)),(2,.tmp 203)]) cl ky J J) (aY cl J J fun b16=>aq (k:=16) cl J J J J J J (aF J (ad J (ad J (ad J (aj (xs:= [.tmp 207,.const (I6 5)]) (cU e.g e.vl vn e.vf e.c he.hl he.hlo (5) (by decide) ({sa with vars:=sa.vars+1})) kT [0] [(false,0)] [0] (fun _ _=> ?_))))))))));rw [hj7];dsimp only;refine aP (cC underlying3 underlying41 J (by first|exact cd (by omega)|rfl)) (aP (aU (parts:= [(0,.const (I6 1)),(1,.tmp 209)]) cl ky J J) (bq dT (qR j7) underlying59 cl J (by decide) (by decide) J J J J fun v211=>aP (aU (parts:= [(0,.const (I6 1)),(1,.tmp 206),(2,.tmp 211)]) dK lP J J) (bq eE (vJ nm v211 j7) underlying62 dK J (by decide) (by decide) J J J J fun v213=>cM 60 underlying62 dK J (by decide) (fun _=>J) (fun _=>J) J J J (be (k:=213) J) (by simp only [bG,bP,bK];omega) (by unfold maxLen;simp only [bG,bP,bK];omega) J fun v214=>ak J (aF J (aP (aM cl J J J (aX (k:=16) J)) (bq dT (mc nm) underlying59 cl J (by decide) (by decide) J J J J fun v216=>aP (aU (parts:= [(0,.const (I6 5)),(2,.tmp 216)]) dK lP J J) (aY dK J J fun b17=>aq (k:=17) dK J J J J J J (aF J (ad J (ad J ?_))))))))));refine sE (aR J J (cw (c:=4-((lv+1:Nat):Int)) (by rw [show 4-((lv+2:Nat):Int)+1=4-((lv+1:Nat):Int) by omega];exact bU (by omega)))) J ?_;refine dh (xs:= [.tmp 218,.tmp 220]) (ih (lv+1) J s2 vn hi2b) Kc [0,1] [(false,0),(false,2)] [0,1,61,62] J J J J (by rw [show s2.names=sa.names from(bR hj7).1];rfl) J J J (fun _ _=>J) (fun _ _ _=>J) J (fun⟨vb1,l1,s3,vn2⟩ hl1=> ?_);dsimp only at hl1 ⊢;have hi3:GInv s3:=(hl1.1.inv hi2b).inv
       refine aC ft J (aA (k:=17) iP J J J J J J J J (aF J (aC ft J (aQ 17 iP J J J J (ad J (aP (aM cl J J J (aX (k:=16) J)) (aP (aU (parts:= [(0,.const (I6 1)),(1,.const (I3 1))]) cl ky J J) (dv dT [mc nm,qR 1] (parts:= [(0,.tmp 226),(1,.tmp 227)]) underlying59 cl J (by decide) (by intro _;rfl) J (by decide) (by decide) J J J J fun v228=>aP (aU (parts:= [(0,.const (I6 7)),(2,.const (Sg (ByteArray.mk #[45]))),(3,.tmp 228)]) cl ky J J) (bq dT (EK dR v228 (mc nm) (qR 1)) underlying59 cl J (by decide) (by decide) J J J J fun v230=>aP (aU (parts:= [(0,.const (I6 2)),(1,.tmp 225),(2,.tmp 230)]) dK lP J J) (bq eE (lJ nm v230 v228) underlying62 dK J (by decide) (by decide) J J J J fun v232=>cM 61 underlying62 dK J (by decide) (fun _=>J) (fun _=>J) J J J (be (k:=232) J) (by have:=hl1.2;simp only [cE];omega) (by unfold maxLen;have:=hl1.2;simp only [cE];omega) J fun v233=>aC ft J (aA (k:=17) iP J J J J J J J J (aa (a_ ?_)))))))))))));refine am (ad J (ad J (bI J (aC gm J (aQ 0 gO J J J J (ad J (bq eS nm underlying46 t9 J (by decide) (by decide) J J J J fun v241=>cM 1 underlying46 t9 J (by decide) (fun _=>J) (fun _=>J) J J J (be (k:=241) J) (by have:=hi3.n;simp only [cE];omega) (by unfold maxLen;have:=hi3.n;simp only [cE];omega) J fun v242=>bI J (aC gm J (aA (k:=0) gO J J J J J J J J (aa (am (ad J (aP (aM dK J J J (aX (k:=17) J)) (bq eE (ob nm v216 v233 (l1++ [lJ nm v230 v228])) underlying62 dK J (by decide) (by decide) J J J J fun v247=>cM 60 underlying62 dK J (by decide) (fun _=>J) (fun _=>J) J J J (be (k:=247) J) (by simp only [bG,bP,bK];omega) (by unfold maxLen;simp only [bG,bP,bK];omega) J fun v248=>ak J (aa ?_)))))))))))))));refine am (ad J (aw J J aO (ak J (aa ?_))));have hg1:G1r e.c (lv+2) k sa (eq [vJ nm v211 j7,ob nm v216 v233 (l1++ [lJ nm v230 v228])]) ({s3 with names:=s3.names++ [nm]}):=(by rw [NC];exact h7.1▸ .whi hnm h7.2 hj7 hl1.1)
       have hkp:=hg1.inv hia;refine bz 40 [40,211,216,62,228,230,61] (C:=lI (out++ [vJ nm v211 j7,ob nm v216 v233 (l1++ [lJ nm v230 v228])])) J Iv ?_;refine aJ ⟨i+1,v248,out++ [vJ nm v211 j7,ob nm v216 v233 (l1++ [lJ nm v230 v228])],{s3 with names:=s3.names++ [nm]},v242⟩ ⟨⟨by dsimp only;omega,hkp.inv,by dsimp only;rw [bG];simp only [bP,bK];omega,by dsimp only;rw [fD];exact iR hi2 hleft hk hg1 n4⟩,by dsimp only;omega⟩ J (by dsimp only;rw [show out++ [vJ nm v211 j7,ob nm v216 v233 (l1++ [lJ nm v230 v228])]=out++ [vJ nm v211 j7]++ [ob nm v216 v233 (l1++ [lJ nm v230 v228])]from(List.append_assoc out [_] [_]).symm];rfl) J
      ·(try simp only [bj]at h38);have q7:¬(k=7∧2≤lev∧sa.vars<8):=by rintro ⟨a,b,c⟩;rcases h38 with(h|h)|h;exact h a;omega;exact h c
       refine ap (ad J (aw J J bn (ad J (iQ (t:=252) J (fun h39=> ?_) (fun h39=> ?_)))))
       ·(try simp only [bj]at h39);have h8:k=8:=h39;obtain⟨j8,sb,hj8⟩:∃a b,gN e.c.l 3 sa=(a,b):=⟨_,_,J⟩
        have hnb:sb.names=sa.names:=(bR hj8).1;refine cI J J (ad J (cI J J (aj (xs:= [.tmp 253,.const (I6 3)]) (cU e.g e.vl vn e.vf e.c he.hl he.hlo (3) (by decide) (sa)) kT [0] [(false,0)] [0] (fun _ _=> ?_))));rw [hj8];dsimp only;refine cI J J (aw J J bn (aP (bH J J J) (ak J (aa (ai J (fun h40=> ?_) (fun h40=> ?_))))))
        ·(try simp only [bj]at h40);have h80:j8=0:=h40.2;refine am (ad J (ad J (dh (xs:= [.tmp 258,.const (I6 4)]) (mt he 3 (by decide) vn (sb) (by rw [hnb];exact hin)) nV [0] [(false,0),(true,1),(false,2)] [0,259] J J J J J (by rw [hnb];rfl) J J (fun _ _=>J) (fun _ _ _=>J) J (fun⟨t1,s2⟩ ht1=> ?_))));dsimp only at ht1 ⊢;refine bq dT t1 underlying59 cl J (by decide) (by decide) J J J J fun v260=>aP (aU (parts:= [(0,.const (I6 6)),(2,.tmp 260)]) dK lP J J) (bq eE (.mk 6 oNil v260 [t1] bk [] bk []) underlying62 dK J (by decide) (by decide) J J J J fun v262=>cM 60 underlying62 dK J (by decide) (fun _=>J) (fun _=>J) J J J (be (k:=262) J) (by simp only [bG,bP,bK];omega) (by unfold maxLen;simp only [bG,bP,bK];omega) J fun v263=>ak J (aa (am (ad J (aw J J aO (ak J (aa ?_)))))))
         have hg1:G1r e.c (lev) k sa (eq [.mk 6 oNil v260 [t1] bk [] bk []]) (s2):=h8▸ .ret (h80▸hj8) ht1;have hkp:=hg1.inv hia;refine bz 40 [40,260,259] (C:=lI (out++ [.mk 6 oNil v260 [t1] bk [] bk []])) J mE ?_;refine aJ ⟨i+1,v263,out++ [.mk 6 oNil v260 [t1] bk [] bk []],s2,vn⟩ ⟨⟨by dsimp only;omega,hkp.inv,by dsimp only;rw [bG];simp only [bP,bK];omega,by dsimp only;rw [fD];exact iR hi2 hleft hk hg1 n4⟩,by dsimp only;omega⟩ J (by dsimp only;rw [show s2.names=sa.names from ht1.keep.1.trans (bR hj8).1];rfl) J
        ·(try simp only [bj]at h40);have h80:j8≠0:=by simpa using h40
         refine a_ ?_;refine bJ [265,266,267,268,269,270,271,272,273,274,275,276,277,278,279,264] _ J (bl (V:= [(0,265,_),(1,266,_),(2,267,_),(3,268,_),(4,269,_),(5,270,_),(6,271,_),(7,272,_),(8,273,_),(9,274,_),(10,275,_),(11,276,_),(12,277,_),(13,278,_),(14,279,_),(15,264,_)]) [0,1,2,3,4,5,6,7,8,9,10,11,12,13,14,15] J J (aD J J (ac J (aR J J bn) (aD J J (bp (bZ [] J J J O (fun hg41=>bc J)) (bp (bZ [(268,_)] J J J ⟨J,O⟩ (fun hg42=>au J)) (bp (bZ [(269,_)] J J J ⟨J,O⟩ (fun hg43=>ag eV J)) (bp (bZ [(270,_)] J J J ⟨J,O⟩ (fun hg44=>ah t3 J J (ay (k:=0) J J))) (bp (bZ [(271,_)] J J J ⟨J,O⟩ (fun hg45=>aR J J aO)) (bp (bZ [] J J J O (fun hg46=>bc J)) (bp (bZ [(273,_)] J J J ⟨J,O⟩ (fun hg47=>au J)) (bp (bZ [(274,_)] J J J ⟨J,O⟩ (fun hg48=>ag du J)) (bp (bZ [(275,_)] J J J ⟨J,O⟩ (fun hg49=>ah iB J J (ay (k:=0) J J))) (bp (bZ [(276,_)] J J J ⟨J,O⟩ (fun hg50=>aS underlying25 J (aK (k:=3) J))) (bp (bZ [(272,_),(277,_)] J J J ⟨J,J,O⟩ (fun hg51=>aR J J cr)) (ac J (bH J J J) (ac J (cA J) av)))))))))))))))) J J J ?_);refine ai J (fun h52=> ?_) (fun h52=> ?_)
         ·simp only [Bool.and_eq_true,decide_eq_true_eq]at h52;omega
         ·(try simp only [bj]at h52);have q9:¬(k=9∧e.c.me+1<e.F.length):=by rintro ⟨h1,h2⟩;omega
          refine am (ad J (ad J (dh (xs:= [.tmp 45,.const (I6 4)]) (mt he 3 (by decide) vn (sb) (by rw [hnb];exact hin)) nV [0] [(false,0),(true,1),(false,2)] [0,46] J J J J J (by rw [hnb];rfl) J J (fun _ _=>J) (fun _ _ _=>J) J (fun⟨t1,s2⟩ ht1=> ?_))));dsimp only at ht1 ⊢;refine bq dT t1 underlying59 cl J (by decide) (by decide) J J J J fun v47=>aP (aU (parts:= [(0,.const (I6 7)),(2,.tmp 47)]) dK lP J J) (bq eE (xl v47 t1) underlying62 dK J (by decide) (by decide) J J J J fun v49=>cM 60 underlying62 dK J (by decide) (fun _=>J) (fun _=>J) J J J (be (k:=49) J) (by simp only [bG,bP,bK];omega) (by unfold maxLen;simp only [bG,bP,bK];omega) J fun v50=>ak J (aa (am (ad J (aw J J aO (ak J (aa ?_)))))))
          have hg1:G1r e.c (lev) k sa (eq [xl v47 t1]) (s2):= .out q2 q3 q4.1 q4.2 (fun h=>q5 h) (fun h=>q7 h) (.inr ⟨h8,j8,h80,hj8⟩) (fun h=>q9 ⟨h.1,by rw [←hfl];exact h.2⟩) ht1;have hkp:=hg1.inv hia;refine bz 40 [40,47,46] (C:=lI (out++ [xl v47 t1])) J mE ?_;refine aJ ⟨i+1,v50,out++ [xl v47 t1],s2,vn⟩ ⟨⟨by dsimp only;omega,hkp.inv,by dsimp only;rw [bG];simp only [bP,bK];omega,by dsimp only;rw [fD];exact iR hi2 hleft hk hg1 n4⟩,by dsimp only;omega⟩ J (by dsimp only;rw [show s2.names=sa.names from ht1.keep.1.trans (bR hj8).1];rfl) J
       ·(try simp only [bj]at h39);have h8:¬k=8:=h39;refine ed J J J J (ed J J J J (ed J J J J (aP (bH J J J) (ak J (aa (ai J (fun h53=> ?_) (fun h53=> ?_)))))))
        ·exact absurd h53 (by simp)
        ·(try simp only [bj]at h53);refine a_ ?_;refine bJ [265,266,267,268,269,270,271,272,273,274,275,276,277,278,279,264] _ J (bl (V:= [(0,265,_),(1,266,_),(2,267,_),(3,268,_),(4,269,_),(5,270,_),(6,271,_),(7,272,_),(8,273,_),(9,274,_),(10,275,_),(11,276,_),(12,277,_),(13,278,_),(14,279,_),(15,264,_)]) [0,1,2,3,4,5,6,7,8,9,10,11,12,13,14,15] J J (aD J J (ac J (aR J J bn) (aD J J (bp (bZ [] J J J O (fun hg54=>bc J)) (bp (bZ [(268,_)] J J J ⟨J,O⟩ (fun hg55=>au J)) (bp (bZ [(269,_)] J J J ⟨J,O⟩ (fun hg56=>ag eV J)) (bp (bZ [(270,_)] J J J ⟨J,O⟩ (fun hg57=>ah t3 J J (ay (k:=0) J J))) (bp (bZ [(271,_)] J J J ⟨J,O⟩ (fun hg58=>aR J J aO)) (bp (bZ [] J J J O (fun hg59=>bc J)) (bp (bZ [(273,_)] J J J ⟨J,O⟩ (fun hg60=>au J)) (bp (bZ [(274,_)] J J J ⟨J,O⟩ (fun hg61=>ag du J)) (bp (bZ [(275,_)] J J J ⟨J,O⟩ (fun hg62=>ah iB J J (ay (k:=0) J J))) (bp (bZ [(276,_)] J J J ⟨J,O⟩ (fun hg63=>aS underlying25 J (aK (k:=3) J))) (bp (bZ [(272,_),(277,_)] J J J ⟨J,J,O⟩ (fun hg64=>aR J J cr)) (ac J (bH J J J) (ac J (cA J) av)))))))))))))))) J J J ?_);refine ai J (fun h65=> ?_) (fun h65=> ?_)
         ·(try simp only [bj]at h65);have h9:k=9∧e.c.me+1<e.F.length:=⟨h65.1,by have:=h65.2;omega⟩
          have hjb:=qd e.c.l (n:=(e.F.length:Int)-(e.c.me:Int)-1) (by omega) sa;obtain⟨jf,hjf⟩:∃jf:Nat,(e.c.me:Int)+1+(gN e.c.l ((e.F.length:Int)-(e.c.me:Int)-1) sa).1=(jf:Int):=⟨((e.c.me:Int)+1+(gN e.c.l ((e.F.length:Int)-(e.c.me:Int)-1) sa).1).toNat,by omega⟩
          have hjl:jf<e.F.length:=by omega
          obtain⟨f,hfj⟩:∃f,e.F[jf]?=some f:=⟨_,bN hjl⟩
          refine bx (X:=Tf×Gs×Nat) (fun y=>y.1∈e.F∧∃j,gN e.c.l ((e.F.length:Int)-(e.c.me:Int)-1) sa=(j,y.2.1)∧e.c.fs[((e.c.me:Int)+1+j).toNat]?=some (y.1.name,y.1.ps)) (fun y=> [(0,Pt e.g),(1,I6 (4-(lev:Int))),(5,sv vo),(6,I6 (many:Int)),(7,I6 (i:Int)),(18,Pt y.2.2)]) (fun y=> [(0,bh e.g 102 (ie e.vl (y.2.1) vn e.c.me e.vf)),(1,own 9 1 eS (sv vn) sa.names),(60,own 64 5 eE (sv vo) out),(40,lI out),(18,bh y.2.2 66 (ip y.1))]) (fun y=> [(0,sl 1 eI (sv e.vl) e.c.l),(2,cx e.vf e.F),(3,sl 3 ip (sv e.vf) e.F)]) ?_ (fun y hy=> ?_)
          ·refine bJ [280,281,282,283,284,285,286,287,288,289,290,291,292,293,294,295,296,297,298,299,300,301,302,303,304,18] _ J (fe (V:= [(0,280,_),(1,281,_),(2,282,_),(3,283,_),(4,284,_),(5,285,_),(6,286,_),(7,287,_),(8,288,_),(9,289,_),(10,290,_),(11,291,_),(12,292,_),(13,293,_),(14,294,_),(15,295,_),(16,296,_),(17,297,_),(18,298,_),(19,299,_),(20,300,_)]) [0,1,2,3,4,5,6,7,8,9,10,11,12,13,14,15,16,17,18,19,20] J J (aD J J (ac J (au J) (ac J (ag du J) (ac J (ah iB J J (ay (k:=0) J J)) (aD J J (ac J (au J) (ac J (ag eV J) (ac J (ah t3 J J (ay (k:=0) J J)) (ac J (aR J J aO) (aD J J (aD J J (ac J (au J) (ac J (ag du J) (ac J (ah iB J J (ay (k:=0) J J)) (ac J (aS underlying25 J (aK (k:=3) J)) (aD J J (ac J (au J) (ac J (ag eV J) (ac J (ah t3 J J (ay (k:=0) J J)) (ac J (aR J J ew) (ac J (aR J J ew) av))))))))))))))))))))) J [21,25] J J (df (dQ 21 [21,20,19,18,17,16,15,14,13,12,11,10,9] [22,23,24] (fun _=> [(22,302,_),(23,303,_),(24,304,_)]) J J J J J J J J J (fun _ _=>J) J (bB (xs:= [.tmp 289,.tmp 300]) (cU e.g e.vl vn e.vf e.c he.hl he.hlo (((e.F.length:Int)-(e.c.me:Int)-1)) (by omega) (sa)) kT [0] [(false,0)] [0]) (fun _ _=>aW [22,23,24,0,1,2,3,4,5,6,7,8] 25 [25,21,20,19,18,17,16,15,14,13,12,11,10,9] [] (fun b18=> []) J J (ac J (aR J J aO) (ac J (aN (j:=jf) underlying25 fj J J (aK (k:=3) J) hjf hjl) (ac J (aM fj J J J (bA (aK (k:=3) J) (by intro _;rfl) hfj (by rfl))) (aD J J (ac J (au J) (ac J (ag du J) (ac J (ah iB J J (ay (k:=0) J J)) (aD J J (ac J (au J) (ac J (ag eV J) (ac J (ah t3 J J (ay (k:=0) J J)) (ac J (aR J J aO) av)))))))))))) J J J J J J J J J J J (fun _ _=>J) J (dV fj J) (fun b18 _=>bE [22,23,24,0,1,2,3,4,5,6,7,8] 26 [26,25,24,23,22,21,20,19,18,17,16,15,14,13,12,11,10,9,8,7,6,5,4,3,2,1,0] [] (fun _=> []) J J (ac J (aR J J aO) (ac J (aN (j:=jf) underlying25 fj J J (aK (k:=3) J) hjf hjl) (ac J (aM fj J J J (bA (aK (k:=3) J) (by intro _;rfl) hfj (by rfl))) (aD J J (ac J (au J) (ac J (ag du J) (ac J (ah iB J J (ay (k:=0) J J)) (aD J J (ac J (au J) (ac J (ag eV J) (ac J (ah t3 J J (ay (k:=0) J J)) (ac J (aR J J aO) av)))))))))))) J J J J J J J J J (fun _ _=>J) J (bD (k:=18) fj J J J J J J) (fun _ _=>bl [] J J av J J J ?_)))) (df (dQ 25 [25] [] (fun b18=> []) J J J J J J J J J (fun _ _=>J) J (dV fj J) (fun b18 _=>aW [0,1,2,3,4,5,6,7,8,9,10,11,12,13,14,15,16,17,18,19,20] 21 [25,21,20,19,18,17,16,15,14,13,12,11,10,9] [22,23,24] (fun _=> [(22,302,_),(23,303,_),(24,304,_)]) J J (aD J J (ac J (au J) (ac J (ag du J) (ac J (ah iB J J (ay (k:=0) J J)) (aD J J (ac J (au J) (ac J (ag eV J) (ac J (ah t3 J J (ay (k:=0) J J)) (ac J (aR J J aO) (aD J J (aD J J (ac J (au J) (ac J (ag du J) (ac J (ah iB J J (ay (k:=0) J J)) (ac J (aS underlying25 J (aK (k:=3) J)) (aD J J (ac J (au J) (ac J (ag eV J) (ac J (ah t3 J J (ay (k:=0) J J)) (ac J (aR J J ew) (ac J (aR J J ew) av))))))))))))))))))))) J J J J J J J J J J J (fun _ _=>J) J (bB (xs:= [.tmp 289,.tmp 300]) (cU e.g e.vl vn e.vf e.c he.hl he.hlo (((e.F.length:Int)-(e.c.me:Int)-1)) (by omega) (sa)) kT [0] [(false,0)] [0]) (fun _ _=>bE [22,23,24,0,1,2,3,4,5,6,7,8] 26 [26,25,24,23,22,21,20,19,18,17,16,15,14,13,12,11,10,9,8,7,6,5,4,3,2,1,0] [] (fun _=> []) J J (ac J (aR J J aO) (ac J (aN (j:=jf) underlying25 fj J J (aK (k:=3) J) hjf hjl) (ac J (aM fj J J J (bA (aK (k:=3) J) (by intro _;rfl) hfj (by rfl))) (aD J J (ac J (au J) (ac J (ag du J) (ac J (ah iB J J (ay (k:=0) J J)) (aD J J (ac J (au J) (ac J (ag eV J) (ac J (ah t3 J J (ay (k:=0) J J)) (ac J (aR J J aO) av)))))))))))) J J J J J J J J J (fun _ _=>J) J (bD (k:=18) fj J J J J J J) (fun _ _=>bl [] J J av J J J ?_)))) ix)))
           ·refine aJ (f,(gN e.c.l ((e.F.length:Int)-(e.c.me:Int)-1) sa).2,b18) ⟨bT hfj,(gN e.c.l ((e.F.length:Int)-(e.c.me:Int)-1) sa).1,J,by rw [he.fs,List.getElem?_map,show((e.c.me:Int)+1+(gN e.c.l ((e.F.length:Int)-(e.c.me:Int)-1) sa).1).toNat=jf by omega,hfj];rfl⟩ J J J
           ·refine aJ (f,(gN e.c.l ((e.F.length:Int)-(e.c.me:Int)-1) sa).2,b18) ⟨bT hfj,(gN e.c.l ((e.F.length:Int)-(e.c.me:Int)-1) sa).1,J,by rw [he.fs,List.getElem?_map,show((e.c.me:Int)+1+(gN e.c.l ((e.F.length:Int)-(e.c.me:Int)-1) sa).1).toNat=jf by omega,hfj];rfl⟩ J J J
          ·obtain⟨f2,s2b,b18⟩:=y;obtain⟨hfm,jn,hjn,hfx⟩:=hy;dsimp only at hfm hjn hfx ⊢;obtain⟨j10,s3b,hj10⟩:∃a b,gN e.c.l 8 s2b=(a,b):=⟨_,_,J⟩
           have hn3:s3b.names=sa.names:=(bR hj10).1.trans (bR hjn).1;refine bx (X:=Tf×Gs) (fun y=>y.1∈e.F∧y.2.names=sa.names∧((j10≠7∧e.c.fs[((e.c.me:Int)+1+jn).toNat]?=some (y.1.name,y.1.ps)∧y.2=s3b)∨(j10=7∧∃j3,gN e.c.l ((e.c.fs.length:Int)-1) s3b=(j3,y.2)∧e.c.fs[(1+j3).toNat]?=some (y.1.name,y.1.ps)))) (fun y=> [(0,Pt e.g),(1,I6 (4-(lev:Int))),(5,sv vo),(6,I6 (many:Int)),(7,I6 (i:Int)),(18,Pt b18)]) (fun y=> [(0,bh e.g 102 (ie e.vl (y.2) vn e.c.me e.vf)),(1,own 9 1 eS (sv vn) sa.names),(60,own 64 5 eE (sv vo) out),(40,lI out),(18,bh b18 66 (ip y.1))]) (fun y=> [(0,sl 1 eI (sv e.vl) e.c.l),(2,cx e.vf e.F),(3,sl 3 ip (sv e.vf) e.F)]) ?_ (fun y hy=> ?_)
           ·refine ap (ad J (aj (xs:= [.tmp 305,.const (I6 8)]) (cU e.g e.vl vn e.vf e.c he.hl he.hlo (8) (by decide) (s2b)) kT [0] [(false,0)] [0] (fun _ _=> ?_)));rw [hj10];dsimp only;refine aw J J bn (aa (ai J (fun h66=> ?_) (fun h66=> ?_)))
            ·(try simp only [bj]at h66);have h10:j10=7:=h66;have hjb3:=qd e.c.l (n:=(e.F.length:Int)-1) (by omega) s3b;obtain⟨jg,hjg⟩:∃jg:Nat,(1:Int)+(gN e.c.l ((e.F.length:Int)-1) s3b).1=(jg:Int):=⟨((1:Int)+(gN e.c.l ((e.F.length:Int)-1) s3b).1).toNat,by omega⟩
             have hjgl:jg<e.F.length:=by omega
             obtain⟨f5,hgj⟩:∃f,e.F[jg]?=some f:=⟨_,bN hjgl⟩
             refine bJ [308,309,310,311,312,313,314,315,316,317,318,319,320,321,322] _ J (aW (V:= [(0,308,_),(1,309,_),(2,310,_),(3,311,_),(4,312,_),(5,313,_),(6,314,_),(7,315,_),(8,316,_),(9,317,_),(10,318,_)]) [0,1,2,3,4,5,6,7,8,9,10] 11 [11,10,9,8,7,6,5,4] [12,13,14] (fun _=> [(12,320,_),(13,321,_),(14,322,_)]) J J (aD J J (ac J (au J) (ac J (ag du J) (ac J (ah iB J J (ay (k:=0) J J)) (aD J J (aD J J (ac J (au J) (ac J (ag du J) (ac J (ah iB J J (ay (k:=0) J J)) (ac J (aS underlying25 J (aK (k:=3) J)) (ac J (aR J J ew) av))))))))))) J J J J J J J J J J J (fun _ _=>J) J (bB (xs:= [.tmp 312,.tmp 318]) (cU e.g e.vl vn e.vf e.c he.hl he.hlo (((e.F.length:Int)-1)) (by omega) (s3b)) kT [0] [(false,0)] [0]) (fun _ _=>bE [12,13,14,0,1,2,3] 15 [15,14,13,12,11,10,9,8,7,6,5,4,3,2,1,0] [] (fun _=> []) J J (ac J (aR J J aO) (ac J (aN (j:=jg) underlying25 fj J J (aK (k:=3) J) hjg hjgl) (ac J (aM fj J J J (bA (aK (k:=3) J) (by intro _;rfl) hgj (by rfl))) (aD J J (ac J (au J) (ac J (ag du J) (ac J (ah iB J J (ay (k:=0) J J)) av))))))) J J J J J J J J J (fun _ _=>J) J (bD (k:=18) fj J J J J J J) (fun _ _=>bl [] J J av J J J ?_)));refine aJ (f5,(gN e.c.l ((e.F.length:Int)-1) s3b).2) ⟨bT hgj,(lq _ _ _).1.trans hn3,.inr ⟨h10,(gN e.c.l ((e.F.length:Int)-1) s3b).1,by rw [hfl],by rw [he.fs,List.getElem?_map,show((1:Int)+(gN e.c.l ((e.F.length:Int)-1) s3b).1).toNat=jg by omega,hgj];rfl⟩⟩ J J J
            ·(try simp only [bj]at h66);have h10:j10≠7:=h66;refine az (aJ (f2,s3b) ⟨hfm,hn3,.inl ⟨h10,hfx,J⟩⟩ J J J)
           ·obtain⟨f4,s4b⟩:=y;obtain⟨hf4,hn4,hff⟩:=hy;dsimp only at hf4 hn4 hff ⊢;refine am (ad J (ad J (aP (aM fj J J J (aX (k:=18) J)) (dh (xs:= [.tmp 324,.tmp 325,.const (I6 3)]) (Nl he 1 (by decide) vn s4b f4 hf4 (by rw [hn4];exact hin)) Qe [0] [(false,0),(true,1),(false,2)] [0,326] J J J J J (by rw [hn4];rfl) J J (fun _ _=>J) (fun _ _ _=>J) J (fun⟨t1,s5⟩ ht1=> ?_)))));dsimp only at ht1 ⊢;refine bq dT t1 underlying59 cl J (by decide) (by decide) J J J J fun v327=>aP (aU (parts:= [(0,.const (I6 8)),(2,.tmp 327)]) dK lP J J) (bq eE (.mk 8 oNil v327 [t1] bk [] bk []) underlying62 dK J (by decide) (by decide) J J J J fun v329=>cM 60 underlying62 dK J (by decide) (fun _=>J) (fun _=>J) J J J (be (k:=329) J) (by simp only [bG,bP,bK];omega) (by unfold maxLen;simp only [bG,bP,bK];omega) J fun v330=>ak J (aa (am (ad J (aw J J aO (ak J (aa ?_)))))))
            have hg1:G1r e.c (lev) k sa (eq [.mk 8 oNil v327 [t1] bk [] bk []]) (s5):=h9.1▸ .dos (by rw [hfl];exact h9.2) (by rw [hfl];exact hjn) hj10 hff ht1;have hkp:=hg1.inv hia;refine bz 40 [40,327,326] (C:=lI (out++ [.mk 8 oNil v327 [t1] bk [] bk []])) J mE ?_;refine aJ ⟨i+1,v330,out++ [.mk 8 oNil v327 [t1] bk [] bk []],s5,vn⟩ ⟨⟨by dsimp only;omega,hkp.inv,by dsimp only;rw [bG];simp only [bP,bK];omega,by dsimp only;rw [fD];exact iR hi2 hleft hk hg1 n4⟩,by dsimp only;omega⟩ J (by dsimp only;rw [show s5.names=sa.names from ht1.keep.1.trans hn4];rfl) J
         ·(try simp only [bj]at h65);have q9:¬(k=9∧e.c.me+1<e.F.length):=by rintro ⟨h1,h2⟩;rcases h65 with h|h;exact h h1;omega
          refine am (ad J (ad J (aj (xs:= [.tmp 45,.const (I6 4)]) (mt he 3 (by decide) vn sa hin) nV [0] [(false,0),(true,1),(false,2)] [0,46] (fun⟨t1,s2⟩ ht1=> ?_))));dsimp only at ht1 ⊢;refine bq dT t1 underlying59 cl J (by decide) (by decide) J J J J fun v47=>aP (aU (parts:= [(0,.const (I6 7)),(2,.tmp 47)]) dK lP J J) (bq eE (xl v47 t1) underlying62 dK J (by decide) (by decide) J J J J fun v49=>cM 60 underlying62 dK J (by decide) (fun _=>J) (fun _=>J) J J J (be (k:=49) J) (by simp only [bG,bP,bK];omega) (by unfold maxLen;simp only [bG,bP,bK];omega) J fun v50=>ak J (aa (am (ad J (aw J J aO (ak J (aa ?_)))))))
          have hg1:G1r e.c (lev) k sa (eq [xl v47 t1]) (s2):= .out q2 q3 q4.1 q4.2 (fun h=>q5 h) (fun h=>q7 h) (.inl ⟨h8,J⟩) (fun h=>q9 ⟨h.1,by rw [←hfl];exact h.2⟩) ht1;have hkp:=hg1.inv hia;refine bz 40 [40,47,46] (C:=lI (out++ [xl v47 t1])) J mE ?_;refine aJ ⟨i+1,v50,out++ [xl v47 t1],s2,vn⟩ ⟨⟨by dsimp only;omega,hkp.inv,by dsimp only;rw [bG];simp only [bP,bK];omega,by dsimp only;rw [fD];exact iR hi2 hleft hk hg1 n4⟩,by dsimp only;omega⟩ J (by dsimp only;rw [show s2.names=sa.names from ht1.keep.1];rfl) J
 ·(try simp only [bj]at h6);have hend:GLr e.c lev (many-i) s [] s:=by
   by_cases hh:i<many
   ·refine .stop ?_;rcases h6 with h|h
    ·omega
    ·omega
   ·rw [show many-i=0 by omega];exact .zero
  have hfin:=n4 _ _ hend;rw [List.append_nil]at hfin;refine bF (ap (ad J (ak J (aa (ax ?_)))));refine aH (vo,out,s,vn) ⟨.mk hj0 (by rw [hmany];exact hfin),by dsimp only;omega⟩ J (bQ (aL J)) J [0,1,60,40] [] J J J
theorem BZ{e:Ge}(he:Gfine e):∀lev,lev≤3→Ua e lev
 | 0,h=>fun s vn hi=>qH e he 0 h (fun k hk=>by omega) s vn hi
 | lev+1,h=>fun s vn hi=>qH e he (lev+1) h (fun k hk=>(show lev=k by omega)▸BZ he lev (by omega)) s vn hi
theorem iL{t:Tx}{k n:Int}{nm:Ba}{ps:List Px}(h:lW t= .mk k n nm ps):∃v kids,t= .mk k n nm v kids∧g8 kids=ps:=by
 cases t with
 | mk k2 n2 nm2 v kids=>
  rw [lW]at h;injection h with h1 h2 h3 h4;subst h1;subst h2;subst h3;exact⟨v,kids,J,h4⟩
theorem iz{ts:List Tx}(h:g8 ts= []):ts= []:=by
 cases ts with
 | nil=>rfl
 | cons t r=>rw [g8]at h;cases h
theorem qk{ts:List Tx}{p:Px}{ps:List Px}(h:g8 ts=p::ps):∃t r,ts=t::r∧lW t=p∧g8 r=ps:=by
 cases ts with
 | nil=>rw [g8]at h;cases h
 | cons t r=>rw [g8]at h;injection h with h1 h2;exact⟨t,r,rfl,h1,h2⟩
theorem fE{ts:List Tx}{p:Px}(h:g8 ts= [p]):∃t,ts= [t]∧lW t=p:=by
 obtain⟨t,r,rfl,h1,h2⟩:=qk h;rw [iz h2];exact⟨t,J,h1⟩
theorem tn{ts:List Tx}{p q:Px}(h:g8 ts= [p,q]):∃t u,ts= [t,u]∧lW t=p∧lW u=q:=by
 obtain⟨t,r,rfl,h1,h2⟩:=qk h;obtain⟨u,rfl,h3⟩:=fE h2;exact⟨t,u,J,h1,h3⟩
theorem jS{t:Ty}{k:Int}{nm:Ba}{es:List Px}{bs ls:List Py}(h:GU t= .mk k nm es bs ls):∃v xs vb b vl l,t= .mk k nm v xs vb b vl l∧g8 xs=es∧eq b=bs∧eq l=ls:=by
 cases t with
 | mk k2 nm2 v xs vb b vl l=>
  rw [GU]at h;injection h with h1 h2 h3 h4 h5;subst h1;subst h2;exact⟨v,xs,vb,b,vl,l,J,h3,h4,h5⟩
theorem dB{ts:List Ty}(h:eq ts= []):ts= []:=by
 cases ts with
 | nil=>rfl
 | cons t r=>rw [eq]at h;cases h
theorem qj{ts:List Ty}{p:Py}{ps:List Py}(h:eq ts=p::ps):∃t r,ts=t::r∧GU t=p∧eq r=ps:=by
 cases ts with
 | nil=>rw [eq]at h;cases h
 | cons t r=>rw [eq]at h;injection h with h1 h2;exact⟨t,r,rfl,h1,h2⟩
theorem gZ{ts:List Ty}{p:Py}(h:eq ts= [p]):∃t,ts= [t]∧GU t=p:=by
 obtain⟨t,r,rfl,h1,h2⟩:=qj h;rw [dB h2];exact⟨t,J,h1⟩
theorem nO:∀{a:List Py}{b:List Py}{ts:List Ty},eq ts=a++b→∃u v,ts=u++v∧eq u=a∧eq v=b
 | [],b,ts,h=>⟨[],ts,rfl,by rw [eq],h⟩
 | x::a,b,ts,h=>by
  obtain⟨t,r,rfl,h1,h2⟩:=qj h;obtain⟨u,v,rfl,h3,h4⟩:=nO h2;exact⟨t::u,v,J,by rw [eq,h1,h3],h4⟩
theorem xh:∀{a b:List Ty},GYs a→GYs b→GYs (a++b)
 | [],_,_,hb=>hb
 | _::_,_,ha,hb=>⟨ha.1,xh ha.2 hb⟩
theorem wz{k n:Int}{nm:Ba}{v:SV}(d:Nat)(hn:oW n)(hm:tS nm):GX (.mk k n nm v [])∧nX (.mk k n nm v [])≤5^(d+1):=
 ⟨⟨hn,hm,br _,trivial⟩,by rw [nX,dW];exact Nat.one_le_pow _ _ (by decide)⟩
theorem IV(d:Nat):5^(d+1+1)=5*5^(d+1)∧5≤5^(d+1):=by
 have h1:1≤5^d:=Nat.one_le_pow _ _ (by decide);have h2:5^(d+1)=5^d*5:=Nat.pow_succ ..;have h3:5^(d+1+1)=5^(d+1)*5:=Nat.pow_succ ..;omega
theorem FE{k n:Int}{nm:Ba}{v:SV}{d:Nat}{t:Tx}(hn:oW n)(hm:tS nm)(h:GX t∧nX t≤5^(d+1)):GX (.mk k n nm v [t])∧nX (.mk k n nm v [t])≤5^(d+1+1):=
 ⟨⟨hn,hm,by show 1≤1000000;decide,h.1,trivial⟩,by rw [nX,dW,dW];have:=IV d;have:=h.2;omega⟩
theorem L3{k n:Int}{nm:Ba}{v:SV}{d:Nat}{t u:Tx}(hn:oW n)(hm:tS nm)(h:GX t∧nX t≤5^(d+1))(h2:GX u∧nX u≤5^(d+1)):GX (.mk k n nm v [t,u])∧nX (.mk k n nm v [t,u])≤5^(d+1+1):=
 ⟨⟨hn,hm,by show 2≤1000000;decide,h.1,h2.1,trivial⟩,by rw [nX,dW,dW,dW];have:=IV d;have:=h.2;have:=h2.2;omega⟩
theorem Rg{x:Int}{j:Nat}(h:cL[j]?=some x):oW x:=by
 have h1:=bT h;simp only [cL,List.mem_cons,List.not_mem_nil,or_false]at h1;rcases h1 with rfl|rfl|rfl|rfl|rfl|rfl|rfl|rfl|rfl|rfl|rfl|rfl|rfl|rfl|rfl<;>decide
theorem LZ{x:Ba}{j:Nat}(h:tQ[j]?=some x):tS x:=by
 have h1:=bT h;simp only [tQ,List.mem_cons,List.not_mem_nil,or_false]at h1;rcases h1 with rfl|rfl|rfl<;>exact gh J
theorem NV{x:Ba}{j:Nat}(h:biL[j]?=some x):tS x:=by
 have h1:=bT h;simp only [biL,List.mem_cons,List.not_mem_nil,or_false]at h1;rcases h1 with rfl|rfl|rfl|rfl|rfl|rfl|rfl|rfl|rfl|rfl|rfl|rfl|rfl|rfl|rfl|rfl<;>exact gh J
theorem ta{x:Ba}{j:Nat}(h:freshL[j]?=some x):tS x:=by
 have h1:=bT h;simp only [freshL,List.mem_cons,List.not_mem_nil,or_false]at h1;rcases h1 with rfl|rfl|rfl|rfl|rfl|rfl|rfl|rfl<;>exact gh J
def Nm(s:Gs):Prop:=∀x∈s.names,tS x
theorem Nm.same{s s':Gs}(h:Nm s)(k:s'.names=s.names):Nm s':=by unfold Nm;rw [k];exact h
def Ow(c:Gc):Prop:=∀f∈c.fs,tS f.1∧f.2.length≤4
mutual
theorem GXr.gx{c:Gc}(hc:Ow c):∀{d:Nat}{s s':Gs}{p:Px},GXr c d s p s'→Nm s→∀t,lW t=p→GX t∧nX t≤5^(d+1)
 | d,s,_,_,.nam hk h hn hj hx,hs,t,ht=>by
  obtain⟨v,kids,rfl,hkk⟩:=iL ht;cases iz hkk;exact wz d m_ (hs _ ((i9 hk).1▸bT hx))
 | d,s,_,_,.inp hk,hs,t,ht=>by
  obtain⟨v,kids,rfl,hkk⟩:=iL ht;cases iz hkk;exact wz d m_ (gh J)
 | _,s,_,_,.mem hk h hp,hs,t,ht=>by
  obtain⟨v,kids,rfl,hkk⟩:=iL ht;obtain⟨t1,rfl,h1⟩:=fE hkk;exact FE m_ (gh J) (hp.gx hc (hs.same (i9 hk).1) t1 h1)
 | _,s,_,_,.una hk hj hx hp,hs,t,ht=>by
  obtain⟨v,kids,rfl,hkk⟩:=iL ht;obtain⟨t1,rfl,h1⟩:=fE hkk;exact FE m_ (LZ hx) (hp.gx hc ((hs.same (i9 hk).1).same (bR hj).1) t1 h1)
 | d+1,s,_,_,.call hk h hj hx hp,hs,t,ht=>by
  obtain⟨v,kids,rfl,hkk⟩:=iL ht;have hf:=hc _ (bT hx);obtain⟨h1,h2,h3⟩:=hp.gx hc ((hs.same (i9 hk).1).same (bR hj).1) kids hkk;refine⟨⟨m_,hf.1,by omega,h1⟩,?_⟩;rw [nX];have:=IV d;have h4:_*5^(d+1)≤4*5^(d+1):=Nat.mul_le_mul_right _ hf.2;omega
 | _,s,_,_,.bin hk h hj hx hp hq,hs,t,ht=>by
  obtain⟨v,kids,rfl,hkk⟩:=iL ht;obtain⟨t1,t2,rfl,h1,h2⟩:=tn hkk;have hs2:=(hs.same (i9 hk).1).same (bR hj).1;exact L3 m_ (NV hx) (hp.gx hc hs2 t1 h1) (hq.gx hc (hs2.same hp.keep.1) t2 h2)
 | d,s,_,_,.con hk h1 h3 h4 h5 h6 h7 h8 hj hx,hs,t,ht=>by
  obtain⟨v,kids,rfl,hkk⟩:=iL ht;cases iz hkk;exact wz d (Rg hx) (gh J)
theorem GKr.gx{c:Gc}(hc:Ow c):∀{d n:Nat}{s s':Gs}{ps:List Px},GKr c d n s ps s'→Nm s→∀ts,g8 ts=ps→GXs ts∧dW ts≤n*5^(d+1)∧ts.length=n
 | d,_,s,_,_,.nil,hs,ts,ht=>by
  cases iz ht;exact⟨O,by rw [dW];exact br _,J⟩
 | d,n+1,s,_,_,.cons hp hq,hs,ts,ht=>by
  obtain⟨t,r,rfl,h1,h2⟩:=qk ht;obtain⟨a1,a2⟩:=hp.gx hc hs t h1;obtain⟨b1,b2,b3⟩:=hq.gx hc (hs.same hp.keep.1) r h2;refine⟨⟨a1,b1⟩,?_,by rw [bP,b3]⟩;rw [dW,Nat.succ_mul];omega
end
theorem GCr.gx{c:Gc}(hc:Ow c){d:Nat}{f:Ba×List Ba}{s s':Gs}{p:Px}(hf:f∈c.fs)(h:GCr c d f s p s')(hs:Nm s)(t:Tx)(ht:lW t=p):GX t∧nX t≤5^(d+1+1):=by
 obtain⟨ps,h1,rfl⟩:=h;obtain⟨v,kids,rfl,hkk⟩:=iL ht;obtain⟨h1,h2,h3⟩:=h1.gx hc hs kids hkk;have h5:=hc f hf;refine⟨⟨m_,h5.1,by omega,h1⟩,?_⟩;rw [nX];have:=IV d;have h4:f.2.length*5^(d+1)≤4*5^(d+1):=Nat.mul_le_mul_right _ h5.2;omega
def RK(s s':Gs)(m:Int)(ts:List Ty):Prop:=GYs ts∧(cB ts:Int)≤4000*(s.left-s'.left)+m∧Nm s'
theorem tm{k:Int}{nm:Ba}{v:SV}{t:Tx}{d:Nat}(hm:tS nm)(h:GX t∧nX t≤5^(d+1))(hd:d≤3){vb vl:SV}:GY (.mk k nm v [t] vb [] vl [])∧nY (.mk k nm v [t] vb [] vl [])≤626:=by
 refine⟨⟨hm,⟨by show 1≤1000000;decide,h.1,trivial⟩,⟨br _,O⟩,br _,O⟩,?_⟩;rw [nY,dW,dW,cB];have h5:5^(d+1)≤5^4:=Nat.pow_le_pow_right (by decide) (by omega);have:=h.2;omega
theorem mL{s s':Gs}{t:Ty}(h:GY t∧nY t≤2000)(hl:s'.left≤s.left)(hn:Nm s'):RK s s' 4000 [t]:=by
 refine⟨⟨h.1,O⟩,?_,hn⟩;rw [cB,cB];have:=h.2;omega
mutual
theorem GYr.gy{c:Gc}(hc:Ow c):∀{e:Nat}{s s':Gs}{o:List Py},GYr c e s o s'→GInv s→Nm s→∀ts,eq ts=o→RK s s' 0 ts∧ts.length≤10
 | _,s,s',_,.mk (s1:=s1) hj h,hi,hs,ts,ht=>by
  have k:=bR hj;obtain⟨⟨h1,h2,h3⟩,h4⟩:=h.gy hc (hi.same k) (hs.same k.1) ts ht;have:=oO (by decide) hj;exact⟨⟨h1,by rw [←k.2.1];exact h2,h3⟩,by omega⟩
theorem GLr.gy{c:Gc}(hc:Ow c):∀{e n:Nat}{s s':Gs}{o:List Py},GLr c e n s o s'→GInv s→Nm s→∀ts,eq ts=o→RK s s' 0 ts∧ts.length≤2*n
 | _,_,s,_,_,.zero,hi,hs,ts,ht=>by
  cases dB ht;exact⟨⟨O,by rw [cB];omega,hs⟩,br _⟩
 | _,_,s,_,_,.stop _,hi,hs,ts,ht=>by
  cases dB ht;exact⟨⟨O,by rw [cB];omega,hs⟩,br _⟩
 | _,n+1,s,s3,_,.step (s1:=s1) (s2:=s2) hl hk h1 h2,hi,hs,ts,ht=>by
  obtain⟨u,v,rfl,hu,hv⟩:=nO ht;have hi2:GInv {s with left:=s.left-1}:=⟨hi.v0,hi.v8,hi.nm,by show s.left-1≤1000;have:=hi.lf;omega⟩
  have k:=bR hk;have hi3:=hi2.same k;have hs3:Nm s1:=Nm.same (s:={s with left:=s.left-1}) hs k.1;obtain⟨⟨a1,a2,a3⟩,a4⟩:=h1.gy hc hi3 hs3 u hu;obtain⟨⟨b1,b2,b3⟩,b4⟩:=h2.gy hc (h1.inv hi3).inv a3 v hv;refine⟨⟨xh a1 b1,?_,b3⟩,?_⟩
  ·rw [kg];have k2:s1.left=s.left-1:=k.2.1;omega
  ·rw [bG];omega
theorem G1r.gy{c:Gc}(hc:Ow c):∀{e:Nat}{k:Int}{s s':Gs}{o:List Py},G1r c e k s o s'→GInv s→Nm s→∀ts,eq ts=o→RK s s' 4000 ts∧ts.length≤2
 | _,_,s,_,_,.var (s1:=s1) (x:=x) _ hx hv hp,hi,hs,ts,ht=>by
  obtain⟨t,rfl,hty⟩:=gZ ht;obtain⟨v,xs,vb,b,vl,l,rfl,h1,h2,h3⟩:=jS hty;obtain⟨t1,rfl,e1⟩:=fE h1;cases dB h2;cases dB h3;have hg:=hp.gx hc (s:={s with vars:=s.vars+1}) hs t1 e1;have hk:=hp.keep;have hy:=tm (k:=1) (v:=v) (vb:=vb) (vl:=vl) (ta hx) hg (by decide);refine⟨mL ⟨hy.1,by have:=hy.2;omega⟩ (by show s1.left≤s.left;rw [hk.2.1];exact Int.le_refl _) ?_,by show 1≤2;decide⟩;intro y hy;rcases List.mem_append.1 hy with hy|hy
  ·exact hs _ (hk.1▸hy)
  ·rw [List.mem_singleton.1 hy];exact ta hx
 | _,_,s,_,_,.set hn hj hx hp,hi,hs,ts,ht=>by
  obtain⟨t,rfl,hty⟩:=gZ ht;obtain⟨v,xs,vb,b,vl,l,rfl,h1,h2,h3⟩:=jS hty;obtain⟨t1,rfl,e1⟩:=fE h1;cases dB h2;cases dB h3;have kj:=bR hj;have hs1:=hs.same kj.1;have hg:=hp.gx hc hs1 t1 e1;have hk:=d8 kj hp.keep;have hy:=tm (k:=2) (v:=v) (vb:=vb) (vl:=vl) (hs _ (bT hx)) hg (by decide);exact⟨mL ⟨hy.1,by have:=hy.2;omega⟩ (by rw [hk.2.1];exact Int.le_refl _) (hs.same hk.1),by show 1≤2;decide⟩
 | _,_,s,_,_,.put hk hp hq,hi,hs,ts,ht=>by
  obtain⟨t,rfl,hty⟩:=gZ ht;obtain⟨v,xs,vb,b,vl,l,rfl,h1,h2,h3⟩:=jS hty;obtain⟨t1,t2,rfl,e1,h4⟩:=tn h1;cases dB h2;cases dB h3;have hg1:=hp.gx hc hs t1 e1;have hg2:=hq.gx hc (hs.same hp.keep.1) t2 h4;have hk:=d8 hp.keep hq.keep;refine⟨mL ⟨⟨gh J,⟨by show 2≤1000000;decide,hg1.1,hg2.1,trivial⟩,⟨br _,O⟩,br _,O⟩,?_⟩ (by rw [hk.2.1];exact Int.le_refl _) (hs.same hk.1),by show 1≤2;decide⟩;rw [nY,dW,dW,dW,cB];have:=hg1.2;have:=hg2.2;omega
 | _,_,s,s4,_,.iff1 (s1:=s1) (s2:=s2) (s3:=s3) hp ha hj hb,hi,hs,ts,ht=>by
  obtain⟨t,rfl,hty⟩:=gZ ht;obtain⟨v,xs,vb,b,vl,l,rfl,h1,h2,h3⟩:=jS hty;obtain⟨t1,rfl,e1⟩:=fE h1;have hg1:=hp.gx hc hs t1 e1;have hi1:=hi.same hp.keep;have hs1:=hs.same hp.keep.1;obtain⟨⟨a1,a2,a3⟩,a4⟩:=ha.gy hc hi1 hs1 b h2;have kj:=bR hj;have hi2:=(ha.inv hi1).inv;have hi3:=hi2.same kj;obtain⟨⟨b1,b2,b3⟩,b4⟩:=hb.gy hc hi3 (a3.same kj.1) l h3;refine⟨⟨⟨⟨gh J,⟨by show 1≤1000000;decide,hg1.1,trivial⟩,⟨by omega,a1⟩,by omega,b1⟩,O⟩,?_,b3⟩,by show 1≤2;decide⟩;rw [cB,cB,nY,dW,dW];have:=hg1.2;have:=hp.keep.2.1;have:=kj.2.1;omega
 | _,_,s,s4,_,.iff0 (s1:=s1) (s2:=s2) hp ha hj _,hi,hs,ts,ht=>by
  obtain⟨t,rfl,hty⟩:=gZ ht;obtain⟨v,xs,vb,b,vl,l,rfl,h1,h2,h3⟩:=jS hty;obtain⟨t1,rfl,e1⟩:=fE h1;cases dB h3;have hg1:=hp.gx hc hs t1 e1;have hi1:=hi.same hp.keep;have hs1:=hs.same hp.keep.1;obtain⟨⟨a1,a2,a3⟩,a4⟩:=ha.gy hc hi1 hs1 b h2;have kj:=bR hj;refine⟨⟨⟨⟨gh J,⟨by show 1≤1000000;decide,hg1.1,trivial⟩,⟨by omega,a1⟩,br _,O⟩,O⟩,?_,a3.same kj.1⟩,by show 1≤2;decide⟩;rw [cB,cB,nY,dW,dW,cB];have:=hg1.2;have:=hp.keep.2.1;have:=kj.2.1;omega
 | _,_,s,_,_,.whi (s1:=s1) (s2:=s2) (x:=x) (j:=j) hx hv hj ha,hi,hs,ts,ht=>by
  obtain⟨t,r,rfl,hty,hr⟩:=qj ht;obtain⟨u,rfl,hu⟩:=gZ hr;obtain⟨v,xs,vb,b,vl,l,rfl,h1,h2,h3⟩:=jS hty;obtain⟨t1,rfl,e1⟩:=fE h1;cases dB h2;cases dB h3;obtain⟨v',xs',vb',b',vl',l',rfl,h1',h2',h3'⟩:=jS hu;obtain⟨t1',rfl,e1'⟩:=fE h1';cases dB h3';obtain⟨b1,b2,rfl,hb1,hb2⟩:=nO h2';obtain⟨t2,rfl,eb2⟩:=gZ hb2;obtain⟨v3,xs3,vb3,b3,vl3,l3,rfl,g1,g2,g3⟩:=jS eb2;obtain⟨t3,rfl,eg1⟩:=fE g1;cases dB g2;cases dB g3;obtain⟨v4,kids4,rfl,g4⟩:=iL eg1;obtain⟨t5,t6,rfl,g5,g6⟩:=tn g4;obtain⟨v5,kids5,rfl,eg5⟩:=iL g5;cases iz eg5;obtain⟨v6,kids6,rfl,eg6⟩:=iL g6;cases iz eg6;obtain⟨v7,kids7,rfl,e7⟩:=iL e1;cases iz e7;obtain⟨v8,kids8,rfl,e8⟩:=iL e1';cases iz e8;have hm:=ta hx;have kj:=bR hj;have hjb:=oO (by decide) hj;have hi1:=hi.var hv;have hi2:=hi1.same kj;have hs2:Nm s1:=Nm.same (s:={s with vars:=s.vars+1}) hs kj.1;obtain⟨⟨a1,a2,a3⟩,a4⟩:=ha.gy hc hi2 hs2 b1 hb1;have hj0:oW j:=⟨hjb.1,by omega⟩
  have hn:GX (.mk 2 0 x v8 []):=⟨m_,hm,br _,O⟩
  have hn5:GX (.mk 2 0 x v5 []):=⟨m_,hm,br _,O⟩
  have hn6:GX (.mk 1 1 oNil v6 []):=⟨by decide,gh rfl,br _,trivial⟩
  have hd:GX (.mk 7 0 dR v4 [.mk 2 0 x v5 [],.mk 1 1 oNil v6 []]):=⟨m_,gh J,by show 2≤1000000;decide,hn5,hn6,trivial⟩
  have hdy:GY (.mk 2 x v3 [.mk 7 0 dR v4 [.mk 2 0 x v5 [],.mk 1 1 oNil v6 []]] vb3 [] vl3 []):=⟨hm,⟨by show 1≤1000000;decide,hd,trivial⟩,⟨br _,O⟩,br _,O⟩
  refine⟨⟨⟨⟨hm,⟨by show 1≤1000000;decide,⟨hj0,gh rfl,br _,trivial⟩,trivial⟩,⟨br _,O⟩,br _,O⟩,⟨gh J,⟨by show 1≤1000000;decide,hn,trivial⟩,⟨by rw [bG,cE];omega,xh a1 ⟨hdy,trivial⟩⟩,br _,O⟩,O⟩,?_,?_⟩,by show 2≤2;decide⟩
  ·simp only [cB,nY,dW,nX,kg];have k1:s1.left=s.left:=kj.2.1;show _≤4000*(s.left-s2.left)+4000;omega
  ·intro y hy;rcases List.mem_append.1 hy with hy|hy
   ·exact a3 _ hy
   ·rw [List.mem_singleton.1 hy];exact hm
 | _,_,s,_,_,.ret hj hp,hi,hs,ts,ht=>by
  obtain⟨t,rfl,hty⟩:=gZ ht;obtain⟨v,xs,vb,b,vl,l,rfl,h1,h2,h3⟩:=jS hty;obtain⟨t1,rfl,e1⟩:=fE h1;cases dB h2;cases dB h3;have kj:=bR hj;have hg:=hp.gx hc (hs.same kj.1) t1 e1;have hk:=d8 kj hp.keep;have hy:=tm (k:=6) (v:=v) (vb:=vb) (vl:=vl) (nm:=oNil) (gh J) hg (by decide);exact⟨mL ⟨hy.1,by have:=hy.2;omega⟩ (by rw [hk.2.1];exact Int.le_refl _) (hs.same hk.1),by show 1≤2;decide⟩
 | _,_,s,_,_,.dos (s2:=s2) (s3:=s3) (f:=f) h hj hj2 hf hp,hi,hs,ts,ht=>by
  obtain⟨t,rfl,hty⟩:=gZ ht;obtain⟨v,xs,vb,b,vl,l,rfl,h1,h2,h3⟩:=jS hty;obtain⟨t1,rfl,e1⟩:=fE h1;cases dB h2;cases dB h3;have k1:s3.names=s2.names∧s3.left=s2.left∧s3.vars=s2.vars:=by
   rcases hf with⟨_,_,h⟩|⟨_,j3,h,_⟩
   ·rw [h];exact⟨J,J,J⟩
   ·exact bR h
  have hfm:f∈c.fs:=by
   rcases hf with⟨_,h,_⟩|⟨_,j3,_,h⟩<;>exact bT h
  have kj:=d8 (d8 (bR hj) (bR hj2)) k1;have hg:=hp.gx hc hfm (hs.same kj.1) t1 e1;have hk:=d8 kj hp.keep;have hy:=tm (k:=8) (v:=v) (vb:=vb) (vl:=vl) (nm:=oNil) (d:=2) (gh J) hg (by decide);exact⟨mL ⟨hy.1,by have:=hy.2;omega⟩ (by rw [hk.2.1];exact Int.le_refl _) (hs.same hk.1),by show 1≤2;decide⟩
 | _,_,s,_,_,.out (s1:=s1) _ _ _ _ _ _ h8 _ hp,hi,hs,ts,ht=>by
  obtain⟨t,rfl,hty⟩:=gZ ht;obtain⟨v,xs,vb,b,vl,l,rfl,h1,h2,h3⟩:=jS hty;obtain⟨t1,rfl,e1⟩:=fE h1;cases dB h2;cases dB h3;have k1:s1.names=s.names∧s1.left=s.left∧s1.vars=s.vars:=by
   rcases h8 with⟨_,h⟩|⟨_,j,_,h⟩
   ·rw [h];exact⟨J,J,J⟩
   ·exact bR h
  have hg:=hp.gx hc (hs.same k1.1) t1 e1;have hk:=d8 k1 hp.keep;have hy:=tm (k:=7) (v:=v) (vb:=vb) (vl:=vl) (nm:=oNil) (gh J) hg (by decide);exact⟨mL ⟨hy.1,by have:=hy.2;omega⟩ (by rw [hk.2.1];exact Int.le_refl _) (hs.same hk.1),by show 1≤2;decide⟩
end
mutual
theorem GYr.left0{c:Gc}:∀{e:Nat}{s s':Gs}{o:List Py},GYr c e s o s'→0≤s.left→0≤s'.left
 | _,_,_,_,.mk hj h,hi=>h.left0 (by rw [(bR hj).2.1];exact hi)
theorem GLr.left0{c:Gc}:∀{e n:Nat}{s s':Gs}{o:List Py},GLr c e n s o s'→0≤s.left→0≤s'.left
 | _,_,_,_,_,.zero,hi=>hi
 | _,_,_,_,_,.stop _,hi=>hi
 | _,_,s,_,_,.step hl hk h1 h2,hi=>h2.left0 (h1.left0 (by rw [(bR hk).2.1];show 0≤s.left-1;omega))
theorem G1r.left0{c:Gc}:∀{e:Nat}{k:Int}{s s':Gs}{o:List Py},G1r c e k s o s'→0≤s.left→0≤s'.left
 | _,_,s,_,_,.var (s1:=s1) _ _ _ hp,hi=>by show 0≤s1.left;rw [hp.keep.2.1];exact hi
 | _,_,_,_,_,.set _ hj _ hp,hi=>by rw [(d8 (bR hj) hp.keep).2.1];exact hi
 | _,_,_,_,_,.put _ hp hq,hi=>by rw [(d8 hp.keep hq.keep).2.1];exact hi
 | _,_,_,_,_,.iff1 hp ha hj hb,hi=>hb.left0 (by rw [(bR hj).2.1];exact ha.left0 (by rw [hp.keep.2.1];exact hi))
 | _,_,_,_,_,.iff0 hp ha hj _,hi=>by rw [(bR hj).2.1];exact ha.left0 (by rw [hp.keep.2.1];exact hi)
 | _,_,s,_,_,.whi (s2:=s2) _ _ hj ha,hi=>by show 0≤s2.left;exact ha.left0 (by rw [(bR hj).2.1];exact hi)
 | _,_,_,_,_,.ret hj hp,hi=>by rw [(d8 (bR hj) hp.keep).2.1];exact hi
 | _,_,s,_,_,.dos (s2:=s2) (s3:=s3) _ hj hj2 hf hp,hi=>by
  have k1:s3.names=s2.names∧s3.left=s2.left∧s3.vars=s2.vars:=by
   rcases hf with⟨_,_,h⟩|⟨_,j3,h,_⟩
   ·rw [h];exact⟨J,J,J⟩
   ·exact bR h
  rw [(d8 (d8 (d8 (bR hj) (bR hj2)) k1) hp.keep).2.1];exact hi
 | _,_,s,_,_,.out (s1:=s1) _ _ _ _ _ _ h8 _ hp,hi=>by
  have k1:s1.names=s.names∧s1.left=s.left∧s1.vars=s.vars:=by
   rcases h8 with⟨_,h⟩|⟨_,j,_,h⟩
   ·rw [h];exact⟨J,J,J⟩
   ·exact bR h
  rw [(d8 k1 hp.keep).2.1];exact hi
end
def hNames:List Ba:= [dM,⟨#[102]⟩,⟨#[103]⟩,⟨#[116,119,101,108,118,101,108,101,116,116,101,114]⟩]
def pNames:List Ba:= [⟨#[112]⟩,⟨#[113]⟩,⟨#[114]⟩,⟨#[115]⟩]
def Au(l:List Int)(i:Nat)(s:Gs):(Ba×List Ba)×Gs:=
 let q:=if 0<i then gN l 5 s else(0,s)
 ((hNames.getD i oNil,pNames.take q.1.toNat),q.2)
def wC(l:List Int)(s:Gs):Nat→List (Ba×List Ba)×Gs
 | 0=>([],s)
 | i+1=>let r:=wC l s i;let q:=Au l i r.2;(r.1++ [q.1],q.2)
def Gk:Gs:=⟨0,0,0,0,[]⟩
inductive GBr(l:List Int)(fs:List (Ba×List Ba))(s0:Gs):Nat→List Pf→Gs→Prop
 | zero:GBr l fs s0 0 [] s0
 | step {i:Nat} {ps:List Pf} {s s2:Gs} {f:Ba×List Ba} {b:List Py} (h:GBr l fs s0 i ps s) (hf:fs[i]?=some f) (hb:GYr ⟨l,i,fs⟩ 3 {s with left:=8,nodes:=150,vars:=0,names:=f.2} b s2):GBr l fs s0 (i+1) (ps++ [⟨f.1,f.2,b⟩]) s2
def fH(l:List Int):Nat:=(1+(gN l 4 Gk).1).toNat
def oP(l:List Int):List (Ba×List Ba)×Gs:=wC l (gN l 4 Gk).2 (fH l)
def LO(l:List Int)(ps:List Pf):Prop:=∃s,GBr l (oP l).1 (oP l).2 (fH l) ps s
theorem DN(i:Nat):tS (hNames.getD i oNil):=by
 rcases i with _|_|_|_|i<;>exact gh J
theorem Dy:∀x∈pNames,tS x:=by
 intro x hx;simp only [pNames,List.mem_cons,List.not_mem_nil,or_false]at hx;rcases hx with rfl|rfl|rfl|rfl<;>exact gh J
theorem rr(l:List Int)(s:Gs):∀i,(wC l s i).1.length=i
 | 0=>rfl
 | i+1=>by rw [wC];simp only [bG,cE,rr l s i]
def TL(f:Ba×List Ba):Prop:=tS f.1∧f.2.length≤4∧∀x∈f.2,tS x
theorem Nc(l:List Int)(i:Nat)(s:Gs):TL (Au l i s).1:=
 ⟨DN i,by unfold Au;rw [List.length_take];exact Nat.min_le_right _ _,fun x hx=>Dy x (List.mem_of_mem_take hx)⟩
theorem As(l:List Int)(s:Gs):∀i,∀f∈(wC l s i).1,TL f
 | 0,f,h=>by simp [wC]at h
 | i+1,f,h=>by
  rw [wC]at h;rcases List.mem_append.1 h with h|h
  ·exact As l s i f h
  ·rw [List.mem_singleton.1 h];exact Nc _ _ _
theorem s8(l:List Int):1≤fH l∧fH l≤4:=by
 have:=qd l (n:=4) (by decide) Gk;unfold fH;omega
theorem GBr.gf{l:List Int}{fs:List (Ba×List Ba)}{s0:Gs}(hf:∀f∈fs,TL f):∀{i:Nat}{ps:List Pf}{s:Gs},GBr l fs s0 i ps s→∀ts:List Tf,ts.map rU=ps→ts.length=i∧∀t∈ts,GF t
 | _,_,_,.zero,ts,ht=>by
  cases List.map_eq_nil_iff.1 ht;exact⟨J,fun t h=>by simp at h⟩
 | _,_,_,.step (s:=s) (s2:=s2) (f:=f) (b:=b) h hx hb,ts,ht=>by
  obtain⟨u,v,rfl,hu,hv⟩:=List.map_eq_append_iff.1 ht;obtain⟨t,r,rfl,h1,hr⟩:=List.map_eq_cons_iff.1 hv;cases List.map_eq_nil_iff.1 hr;obtain⟨i1,i2⟩:=h.gf hf u hu;have hfk:=hf f (bT hx);have hbi:GInv {s with left:=8,nodes:=150,vars:=0,names:=f.2}:=⟨Int.le_refl _,by show(0:Int)≤8;decide,by show(f.2.length:Int)≤100+0;have:=hfk.2.1;omega,by show(8:Int)≤1000;decide⟩
  have hbn:Nm {s with left:=8,nodes:=150,vars:=0,names:=f.2}:=hfk.2.2;have hbody:eq t.body=b:=congrArg Pf.body h1;have hname:t.name=f.1:=congrArg Pf.name h1;have hps:t.ps=f.2:=congrArg Pf.ps h1;obtain⟨⟨a1,a2,a3⟩,a4⟩:=hb.gy (fun f h=>⟨(hf f h).1,(hf f h).2.1⟩) hbi hbn t.body hbody;have hl0:0≤s2.left:=hb.left0 (by show(0:Int)≤8;decide);refine⟨by rw [bG,i1];rfl,fun t' ht'=> ?_⟩;rcases List.mem_append.1 ht' with h'|h'
  ·exact i2 t' h'
  ·rw [List.mem_singleton.1 h'];have h5:=hfk.2.1;have a2':(cB t.body:Int)≤4000*(8-s2.left)+0:=a2;exact⟨hname▸hfk.1,hps▸hfk.2.2,by rw [hps];omega,by omega,a1,by rw [hps];omega⟩
theorem GD{l:List Int}{ts:List Tf}(h:LO l (ts.map rU)):GP ts:=by
 obtain⟨s,h⟩:=h;obtain⟨h1,h2⟩:=h.gf (As _ _ _) ts J;have:=s8 l;exact⟨by omega,h2⟩
section
variable{P:Program}{N:Nat}{w0:World}{M H:Nat→Prop}{E:fv}{Γ R:ey}{d:Nat}{T:TypeId}{ps:String}{af:Array Edge}
theorem Ae{α:Type}{S U:TypeId}{D:TypeDesc}{z:Value}{s bb:Nat}{enc:α→List Value}{x y:Operand}{v v2 v0:Value}{l l2 l0:List α}(k:Nat)(hS:P.underlying S=some (.slice U))(hU:TI P U D z s bb)(hzs:z.cells.size=s)(hs0:0<s)(he:∀x,(enc x).length=s)(h1:∀x,(enc x).all (·.oneCell')=true)
  (hx:ev E x=some v) (hy:ev E y=some v2) (hk:ci Γ k=some (own U s enc v0 l0)) (hown:∀w G,(own U s enc v0 l0).pred w G→(own U s enc v l).pred w G) (h2:SlS w0 M H Γ R s enc v2 l2) (hm:(l.length+l2.length)*bb≤140737488355328) (hm':l.length+l2.length≤maxLen)
  :MS P N w0 M H E Γ R ⟨some d,.call {callee:= .builtin .append,args:= #[x,y],argTypes:= #[S,S]},T,ps,af,none⟩ (X:=SV) (fun _=>True) (fun v'=>sv v') (fun v'=>(k,own U s enc (sv v') (l++l2))::Γ) (fun _=>R):=by
 refine iI fun a w hE hC=> ?_
 obtain⟨G0,hp00,hlt0⟩:=hC.reads (.inl hk);have hp0:=hown _ _ hp00;obtain⟨G2,c,h3,h4,h5⟩:=h2 w hC;obtain⟨i,i1,i2,i3,i4⟩:=hU.info;have hfl:∀l':List α,(l'.flatMap enc).length=l'.length*s:=fi he;rcases h5 with⟨rfl,_,rfl⟩|⟨b2,o2,rfl,_,hc2⟩
 ·obtain⟨xv,rfl⟩:=fM hp0.2;refine⟨xv,w,O,?_,?_⟩
  ·have hr:=run_append_owned_none (P:=P) w 0 S T U i s hS i1 (sv xv) l.length _ hp0.2;simp [execOp,resolve,invoke,builtin,hE.ev hx,hE.ev hy,hr]
  ·simp only [List.append_nil];exact hC.upd hk fun G hG0 hGlt=>⟨G,hown _ _ hG0,fun b hb=>⟨hGlt b hb,fun _=>hb⟩,Touch.refl _ _⟩
 ·obtain⟨v',w',hr,ho,hg,hn⟩:=run_append_own (P:=P) w 0 S T U i z s bb hS i1 i2 i3 i4 hzs hs0 v l.length _ hp0.2 ⟨b2,o2,none⟩ l2.length c (l2.flatMap enc) (hfl l2)
   (fun j u hj=>by rw [cO];exact hc2 j u hj) (fun u hu=>by obtain⟨x,_,hxu⟩:=List.mem_flatMap.1 hu;simpa using List.all_eq_true.1 (h1 x) u hxu) hm' hm (br _)
  obtain⟨xv,rfl⟩:=fM ho;refine⟨xv,w',O,?_,?_⟩
  ·simp [execOp,resolve,invoke,builtin,hE.ev hx,hE.ev hy,hr]
  ·refine hC.upd hk fun G hG0 hGlt=>by
    have hG:=hown _ _ hG0;refine⟨fun b=>(sv xv).ownBlock=some b,⟨fun x=>Iff.rfl,?_⟩,fun b hb=>⟨(ho.lt b hb).2,fun hlt=> ?_⟩,⟨hg.os,hg.tape,hg.output,hg.size,fun i hi hne=>hg.block i hi (fun e=>hne ((hG.1 i).2 e.symm))⟩⟩
    ·rw [bG,List.flatMap_append];exact ho
    ·rcases hp0.2.2 with⟨rfl,hl0⟩|⟨g,cap,cur,rfl,hbg,hgg,hnc,hcm,hcs,htake⟩
     ·exfalso;have hl:l= []:=List.eq_nil_of_length_eq_zero hl0;subst hl;by_cases hz:l2.length=0
      ·have hl2:l2= []:=List.eq_nil_of_length_eq_zero hz;subst hl2;have:=(hn.2 ⟨J,J⟩)
       rw [this]at hb;simp [Value.ownBlock]at hb
      ·have hr2:=run_append_nil (P:=P) w S T U i z hS i1 i2 ⟨b2,o2,none⟩ l2.length c (l2.flatMap enc) (by rw [hfl,i3]) (fun j u hj=>by rw [cO];exact hc2 j u hj) (by simpa using Nat.pos_of_ne_zero hz) (by simp only [maxLen]at hm';simp at hm';omega) (by rw [i4];simp at hm;omega);rw [hr2]at hr;injection hr with hr3 hr4;replace hb:(sv xv).ownBlock=some b:=hb;rw [←hr3]at hb;simp [Value.ownBlock]at hb;omega
     ·by_cases hroom:l.length+l2.length≤cap
      ·have hfit:l.length*i.size+(l2.flatMap enc).length≤cur.size:=by rw [hfl,hcs,i3,←Nat.add_mul];exact Nat.mul_le_mul_right _ hroom
       have hr2:=run_append_room (P:=P) w S T U i hS i1 g l.length cap cur hgg ⟨b2,o2,none⟩ l2.length c (l2.flatMap enc) (by rw [hfl,i3]) (fun j u hj=>by rw [cO];exact hc2 j u hj) (fun u hu=>by obtain⟨x,_,hxu⟩:=List.mem_flatMap.1 hu;simpa using List.all_eq_true.1 (h1 x) u hxu) hroom hfit;rw [hr2]at hr;injection hr with hr3 hr4;replace hb:(sv xv).ownBlock=some b:=hb;rw [←hr3]at hb;simp [Value.ownBlock]at hb;subst hb;exact(hG.1 g).2 J
      ·exfalso;have holds:=hp0.2.cells (g:=g) J;have hr2:=run_append_grow (P:=P) w S T U i z hS i1 i2 ⟨g,0,none⟩ l.length cap (l.flatMap enc) (by rw [hfl,i3]) holds ⟨b2,o2,none⟩ l2.length c (l2.flatMap enc) (by rw [hfl,i3]) (fun j u hj=>by rw [cO];exact hc2 j u hj) (by omega) (by simp only [maxLen]at hm';omega) (growslice_fits (by omega) (by rw [i4];exact hm));rw [hr2]at hr;injection hr with hr3 hr4;replace hb:(sv xv).ownBlock=some b:=hb;rw [←hr3]at hb;simp [Value.ownBlock]at hb;omega
end
def Nv(l:List Tf):Asn:=⟨fun w F=>∀f∈l,TfIn w F f,fun h hs f hf=>(h f hf).stable hs⟩
def Ed(v:SV)(l o:List Tf):Asn:=⟨fun w F=>(SlIn' w F 3 ip (sv v) l∧∀f∈l,TfIn w F f)∧∀f∈o,TfIn w F f,fun h hs=>⟨⟨h.1.1.stable hs,fun f hf=>(h.1.2 f hf).stable hs⟩,fun f hf=>(h.2 f hf).stable hs⟩⟩
theorem TfIn.up{w:World}{F G:Nat→Prop}{f:Tf}(h:TfIn w G f)(hs:∀b,G b→F b):TfIn w F f:=by
 obtain⟨⟨A,a1,a2⟩,⟨⟨B,b1,b2⟩,b3⟩⟩:=h;exact⟨⟨A,a1,fun b hb=>hs b (a2 b hb)⟩,⟨⟨B,b1,fun b hb=>hs b (b2 b hb)⟩,TysIn.mono hs (fun _ _=>J) _ b3⟩⟩
theorem SlIn'.up{α:Type}{w:World}{F G:Nat→Prop}{s:Nat}{enc:α→List Value}{v:Value}{l:List α}(h:SlIn' w G s enc v l)(hs:∀b,G b→F b):SlIn' w F s enc v l:=by
 obtain⟨A,a1,a2⟩:=h;exact⟨A,a1,fun b hb=>hs b (a2 b hb)⟩
abbrev C7(nm:Ba)(v:SV)(ps:List Ba):Tf:=⟨nm,v,ps,bk,[]⟩
theorem Nu{l:List Tf}{nm:Ba}{v:SV}{ps:List Ba}(w:World)(F:Nat→Prop)(h:AllIn w F [Nv l,own 9 1 eS (sv v) ps]):(Nv (l++ [C7 nm v ps])).pred w F:=by
 obtain⟨⟨_,a0,b0⟩,⟨_,a1,b1⟩,_⟩:=h;intro f hf;rcases List.mem_append.1 hf with hf|hf
 ·exact(a0 f hf).up b0
 ·rw [List.mem_singleton.1 hf];exact⟨dj a1 b1,iH,O⟩
theorem OS{l:List Tf}{v:SV}(w:World)(F:Nat→Prop)(h:AllIn w F [own 66 3 ip (sv v) l,Nv l]):(Ed v l []).pred w F:=by
 obtain⟨⟨_,a0,b0⟩,⟨_,a1,b1⟩,_⟩:=h;exact⟨⟨dj a0 b0,fun f hf=>(a1 f hf).up b1⟩,fun f hf=>by simp at hf⟩
theorem L7{l o:List Tf}{v vb:SV}{f:Tf}{body:List Ty}(hf:f∈l)(w:World)(F:Nat→Prop)(h:AllIn w F [Ed v l o,own 64 5 eE (sv vb) body,lI body]):(Ed v l (o++ [⟨f.name,f.vp,f.ps,vb,body⟩])).pred w F:=by
 obtain⟨⟨_,a0,b0⟩,⟨_,a1,b1⟩,⟨_,a2,b2⟩,_⟩:=h;refine⟨⟨a0.1.1.up b0,fun f hf=>(a0.1.2 f hf).up b0⟩,fun g hg=> ?_⟩;rcases List.mem_append.1 hg with hg|hg
 ·exact(a0.2 g hg).up b0
 ·rw [List.mem_singleton.1 hg];exact⟨((a0.1.2 f hf).up b0).1,dj a1 b1,lH a2 b2⟩
theorem L9{l o:List Tf}{v vo:SV}(w:World)(F:Nat→Prop)(h:AllIn w F [own 66 3 ip (sv vo) o,Ed v l o]):(cx vo o).pred w F:=by
 obtain⟨⟨_,a0,b0⟩,⟨_,a1,b1⟩,_⟩:=h;exact⟨dj a0 b0,fun f hf=>(a1.2 f hf).up b1⟩
theorem SlS.tg{w0:World}{M H:Nat→Prop}{Γ R:ey}{k:Nat}{v:SV}{l o:List Tf}(h:ci Γ k=some (Ed v l o)):SlS w0 M H Γ R 3 ip (sv v) l:=fun w hC=>by
 obtain⟨G,h1,_⟩:=hC.reads (.inl h);obtain⟨A,a1,_⟩:=h1.1.1;exact⟨A,a1⟩
theorem SlS.tgp{w0:World}{M H:Nat→Prop}{Γ R:ey}{k:Nat}{v:SV}{l o:List Tf}{f:Tf}(h:ci Γ k=some (Ed v l o))(hf:f∈l):SlS w0 M H Γ R 1 eS (sv f.vp) f.ps:=fun w hC=>by
 obtain⟨G,h1,_⟩:=hC.reads (.inl h);obtain⟨A,a1,_⟩:=(h1.1.2 f hf).1;exact⟨A,a1⟩
theorem L8{A:Asn}{v:SV}{l o:List Tf}:∀(i:Nat)(X:Asn),([A,cx v l]:List Asn)[i]?=some X→∃Y,([A,Ed v l o]:List Asn)[i]?=some Y∧∀w G,Y.pred w G→X.pred w G
 | 0,X,hX=>⟨A,rfl,by cases hX;exact fun _ _ h=>h⟩
 | 1,X,hX=>⟨Ed v l o,rfl,by cases hX;exact fun _ _ h=>h.1⟩
 | i+2,X,hX=>by simp at hX
theorem Nf{e:Ge}(he:Gfine e)(o:List Tf)(s:Gs)(vn:SV)(hi:GInv s):Spec prog 47 [Pt e.g,I6 1] [bh e.g 102 (ie e.vl s vn e.c.me e.vf),own 9 1 eS (sv vn) s.names] [sl 1 eI (sv e.vl) e.c.l,Ed e.vf e.F o] (X:=SV×List Ty×Gs×SV) (fun x=>GYr e.c 3 s (eq x.2.1) x.2.2.1∧x.2.1.length≤10) (fun x=>sv x.1)
 (fun x=> [bh e.g 102 (ie e.vl x.2.2.1 x.2.2.2 e.c.me e.vf),own 9 1 eS (sv x.2.2.2) x.2.2.1.names,own 64 5 eE (sv x.1) x.2.1,lI x.2.1]) (fun _=> []):=
 Spec.roAll (BZ he 3 (by decide) s vn hi) L8
structure Xh where
 i:Nat
 vf:SV
 F:List Tf
 s:Gs
structure Xbo where
 i:Nat
 vo:SV
 out:List Tf
 s:Gs
 vn:SV
 me:Nat
abbrev L_(f:Tf):Ba×List Ba:=(f.name,f.ps)
theorem Gf{l:List Int}{s0 s sb:Gs}{F:List Tf}{i jn:Nat}{nm:Ba}{jy:Int}{v:SV}(h:wC l s0 i=(F.map L_,s))(hnm:hNames[i]?=some nm)(hy:(jy,sb)=(if 0<i then gN l 5 s else(0,s)))(hj:jy=(jn:Int)):wC l s0 (i+1)=((F++ [C7 nm v (pNames.take jn)]).map L_,sb):=by
 rw [wC];simp only [h,Au];rw [←hy];simp only [List.map_append,List.map_cons,List.map_nil,L_,C7];rw [List.getD_eq_getElem?_getD,hnm,hj];rfl
theorem uP(vl:SV)(l:List Int)(hl:l.length≤9223372036854775807)(hlo:∀x∈l,KV x):
  Spec prog 14 [sv vl] [] [sl 1 eI (sv vl) l] (X:=SV×List Tf) (fun x=>LO l (x.2.map rU)) (fun x=> .agg #[sv x.1]) (fun x=> [cx x.1 x.2]) (fun _=> []):=by
 refine aI func14 J ntmps14 J fun w0 M H=> ?_
 have hj0:=qd l (n:=4) (by decide) Gk;have hmb:=s8 l;refine ap (aY jB J J fun b2=>aF J (ad J (aP (aU (parts:= [(0,.tmp 12)]) R5 Pl J J) (ck J J fun b14=>ak J (aF J (dv eS pNames (parts:= [(0,.const (Sg (ByteArray.mk #[112]))),(1,.const (Sg (ByteArray.mk #[113]))),(2,.const (Sg (ByteArray.mk #[114]))),(3,.const (Sg (ByteArray.mk #[115])))]) underlying46 t9 J (by decide) (by intro _;rfl) J (by decide) (by decide) J J J J fun v15=>ak J (aF J (dv eS hNames (parts:= [(0,.const (Sg (ByteArray.mk #[109,97,105,110]))),(1,.const (Sg (ByteArray.mk #[102]))),(2,.const (Sg (ByteArray.mk #[103]))),(3,.const (Sg (ByteArray.mk #[116,119,101,108,118,101,108,101,116,116,101,114])))]) underlying46 t9 J (by decide) (by intro _;rfl) J (by decide) (by decide) J J J J fun v16=>ak J ?_))))))));refine aF J (ad J (aj (xs:= [.tmp 17,.const (I6 4)]) (cU b14 vl bk bk ⟨l,0,[]⟩ hl hlo 4 (by decide) Gk) kT [14] [(false,0)] [14] (fun _ _=> ?_)));refine sE (aR J J (cw (c:=(fH l:Int)) (by unfold fH;rw [show(1:Int)+(gN l 4 Gk).1=(((1+(gN l 4 Gk).1).toNat:Nat):Int) by omega];exact bU (by omega)))) J ?_;refine ak J (aa (aT (ak J (aa (aB (cZ 60 (α:=Tf) (S:=66) (s:=3) (enc:=ip) ?_))))));refine bz 40 [] (L:= []) (C:=Nv []) J (fun _ _ _ f hf=>by simp at hf) ?_;refine bC (X:=Xh) (fun x=>x.i≤fH l∧wC l (gN l 4 Gk).2 x.i=(x.F.map L_,x.s)∧(∀f∈x.F,f.vb=bk∧f.body= [])) (fun x=> [(2,Pt b2),(3,Pt b14),(4,sv v15),(5,sv v16),(6,I6 (fH l:Int)),(7,I6 (x.i:Int))]) (fun x=> [(2,bh b2 27 [sv bk]),(14,bh b14 102 (ie vl (x.s) bk 0 x.vf)),(15,own 9 1 eS (sv v15) pNames),(16,own 9 1 eS (sv v16) hNames),(60,own 66 3 ip (sv x.vf) x.F),(40,Nv x.F)]) (fun x=> [(0,sl 1 eI (sv vl) l)]) (fun x=>fH l-x.i) ⟨0,bk,[],(gN l 4 Gk).2⟩ ⟨br _,J,fun f hf=>by simp at hf⟩ J J J (fun x hx0=> ?_);obtain⟨i,vf,F,s⟩:=x;obtain⟨n1,n2,n3⟩:=hx0;dsimp only at n1 n2 n3 ⊢;have hFl:F.length=i:=by have h:=rr l (gN l 4 Gk).2 i;rw [n2,List.length_map]at h;exact h
 refine aT (ad J (ad J (aw J J cr (aa (ai J (fun h1=> ?_) (fun h1=> ?_))))))
 ·(try simp only [bj]at h1);have hi2:i<fH l:=by omega
  refine az (a_ (aB (ap (ak J (aa (bx (X:=Int×Gs) (fun y=>y=(if 0<i then gN l 5 s else(0,s))) (fun y=> [(2,Pt b2),(3,Pt b14),(4,sv v15),(5,sv v16),(6,I6 (fH l:Int)),(7,I6 (i:Int)),(8,I6 y.1)]) (fun y=> [(2,bh b2 27 [sv bk]),(14,bh b14 102 (ie vl (y.2) bk 0 vf)),(15,own 9 1 eS (sv v15) pNames),(16,own 9 1 eS (sv v16) hNames),(60,own 66 3 ip (sv vf) F),(40,Nv F)]) (fun y=> [(0,sl 1 eI (sv vl) l)]) ?_ (fun y hy=> ?_)))))))
  ·refine ap (ad J (aw J J ec (aa (ai J (fun h2=> ?_) (fun h2=> ?_)))))
   ·(try simp only [bj]at h2);have hi0:0<i:=by omega
    refine am (ad J (aj (xs:= [.tmp 27,.const (I6 5)]) (cU b14 vl bk vf ⟨l,0,[]⟩ hl hlo 5 (by decide) s) kT [14] [(false,0)] [14] (fun _ _=>ak J (aa (aJ (gN l 5 s) (by rw [ar hi0]) J J J)))))
   ·(try simp only [bj]at h2);have hi0:¬0<i:=by omega
    refine az (aJ (0,s) (by rw [ae hi0]) J J J)
  ·obtain⟨jy,sb⟩:=y;dsimp only;have hjb:0≤jy∧jy≤4:=by
    split at hy
    ·have:=qd l (n:=5) (by decide) s;have h:=congrArg Prod.fst hy;dsimp only at h;omega
    ·have h:=congrArg Prod.fst hy;dsimp only at h;omega
   obtain⟨jn,hjn⟩:∃jn:Nat,jy=(jn:Int):=⟨jy.toNat,by omega⟩
   have hjl:jn≤pNames.length:=by show jn≤4;omega
   have hiN:i<hNames.length:=by show i<4;omega
   obtain⟨nm,hnm⟩:∃nm,hNames[i]?=some nm:=⟨_,bN hiN⟩
   refine bJ [29,30,31,32,33,34,35,36,37,38,39,40,41,42,43,44,45,46,47] _ J (aW (V:= [(0,29,_),(1,30,_),(2,31,_),(3,32,_),(4,33,_),(5,34,_),(6,35,_),(7,36,_),(8,37,_),(10,39,_),(11,40,_),(12,41,_)]) [0,1,2,3,4,5,6,7,8,10,11,12] 9 [9] [] (fun v38=> []) J J (aD J J (aD J J (ac J (au J) (ac J (ag du J) (ac J (ah iB J J (ay (k:=14) J J)) (aD J J (aD J J (ac J (aN (j:=i) underlying46 t9 J J (be (k:=16) J) J hiN) (ac J (ah t9 J J (bA (be (k:=16) J) (by intro _;rfl) hnm (by rfl))) (aD J J (aD J J (ac J (jK (j:=jn) underlying46 t9 J J (be (k:=15) J) hjn hjl) av)))))))))))) J J J J J J J J J J J (fun _ _=>J) J (Ac eS underlying46 t9) (fun v38 _=>aW [0,1,2,3,4,5,6,7,8,10,11,12] 13 [13,12,11,10,9] [14] (fun v42=> [(14,43,_)]) J J (aD J J (aD J J (ac J (au J) (ac J (ag du J) (ac J (ah iB J J (ay (k:=14) J J)) (aD J J (aD J J (ac J (aN (j:=i) underlying46 t9 J J (be (k:=16) J) J hiN) (ac J (ah t9 J J (bA (be (k:=16) J) (by intro _;rfl) hnm (by rfl))) (aD J J (aD J J (ac J (jK (j:=jn) underlying46 t9 J J (be (k:=15) J) hjn hjl) av)))))))))))) J J J J J J J J J J J (fun _ _=>J) J (Ae 38 underlying46 t9 J (by decide) (fun _=>J) (fun _=>J) J J J FB (SlS.hi (SlS.of (be (k:=15) J)) hjl) (by simp only [bK,List.length_take];omega) (by unfold maxLen;simp only [bK,List.length_take];omega)) (fun v42 _=>aW [14,0,1,2,3,4,5,6,7,8] 15 [15,14,13,12,11,10,9,8,7,6,5] [] (fun v44=> []) J J (ac J (aU (parts:= [(0,.tmp 37),(1,.tmp 42)]) fj Pa J J) (aD J J (aD J J (ac J (au J) (ac J (ag du J) (ac J (ah iB J J (ay (k:=14) J J)) (aD J J (aD J J (ac J (aN (j:=i) underlying46 t9 J J (be (k:=16) J) J hiN) (ac J (ah t9 J J (bA (be (k:=16) J) (by intro _;rfl) hnm (by rfl))) av)))))))))) J J J J J J J J J J J (fun _ _=>J) J (dH ip (C7 nm v42 (pNames.take jn)) underlying25 fj J (by decide) (by decide) J J J) (fun v44 _=>aW [0,1,2,3,4] 16 [16,15,14,13,12,11,10,9,8,7,6,5,4,3,2,1] [17,18] (fun v45=> [(17,46,_),(18,47,_)]) J J (aD J J (aD J J (ac J (au J) (ac J (ag du J) (ac J (ah iB J J (ay (k:=14) J J)) av))))) J J J J J J J J J J J (fun _ _=>J) J (gC 60 underlying25 fj J (by decide) (fun _=>J) (fun _=>J) J J J (be (k:=44) J) (by simp only [cE];omega) (by unfold maxLen;simp only [cE];omega)) (fun v45 _=>bE [17,18,0] 19 [19,18,17,16,15,14,13,12,11,10,9,8,7,6,5,4,3,2,1,0] [] (fun _=> []) J J (ac J (au J) (ac J (ag du J) (aD J J av))) J J J J J J J J J (fun _ _=>J) J (c9 (k:=14) iB J J J J J J J J) (fun _ _=>bl [] J J av J J J ?_))))))
   refine am (ad J (aw J J aO (ak J (aa (bz 40 [40,38] (C:=Nv (F++ [C7 nm v42 (pNames.take jn)])) J Nu ?_)))));refine aJ ⟨i+1,v45,F++ [C7 nm v42 (pNames.take jn)],sb⟩ ⟨⟨by dsimp only;omega,Gf n2 hnm hy hjn,fun f hf=>by
     rcases List.mem_append.1 hf with hf|hf
     ·exact n3 f hf
     ·rw [List.mem_singleton.1 hf];exact⟨J,J⟩⟩,by dsimp only;omega⟩ rfl rfl rfl
 ·(try simp only [bj]at h1);have hie:i=fH l:=by omega
  have hH:oP l=(F.map L_,s):=by rw [←n2,hie];rfl
  have hFh:(oP l).1=F.map fun f=>(f.name,f.ps):=by rw [hH]
  have hs0:(oP l).2=s:=by rw [hH]
  have hps:∀f∈F,f.ps.length≤100:=fun f hf=>by
   have h:=As l (gN l 4 Gk).2 i (L_ f) (by rw [n2];exact List.mem_map_of_mem hf);have:=h.2.1;show(L_ f).2.length≤100;omega
  refine bF (ap (aP (aU (parts:= []) jB Sp J J) (aY jB J J fun b9=>aq (k:=9) jB J J J J J J (aa (aT (ak J (aa (aB (bz 43 [60,40] (C:=Ed vf F []) J OS (cZ 60 (α:=Tf) (S:=66) (s:=3) (enc:=ip) (bC (X:=Xbo) (fun x=>x.i≤fH l∧GBr l (oP l).1 (oP l).2 x.i (x.out.map rU) x.s∧x.out.length=x.i) (fun x=> [(2,Pt b2),(3,Pt b14),(6,I6 (fH l:Int)),(9,Pt b9),(10,I6 (x.i:Int))]) (fun x=> [(2,bh b2 27 [sv bk]),(14,bh b14 102 (ie vl (x.s) x.vn x.me vf)),(9,bh b9 27 [sv x.vo]),(60,own 66 3 ip (sv x.vo) x.out),(43,Ed vf F x.out)]) (fun x=> [(0,sl 1 eI (sv vl) l)]) (fun x=>fH l-x.i) ⟨0,bk,[],s,bk,0⟩ ⟨br _,hs0▸ .zero,J⟩ J J J (fun x hx0=> ?_))))))))))));obtain⟨i,vo,out,s1,vn,me⟩:=x;obtain⟨m1,m2,m3⟩:=hx0;dsimp only at m1 m2 m3 ⊢;refine aT (ad J (ad J (aw J J cr (aa (ai J (fun h3=> ?_) (fun h3=> ?_))))))
  ·(try simp only [bj]at h3);have hi3:i<fH l:=by omega
   have hiF:i<F.length:=by omega
   obtain⟨f,hfi⟩:∃f,F[i]?=some f:=⟨_,bN hiF⟩
   have hfm:=bT hfi;have hfp:=hps f hfm;have hsi:GInv {s1 with left:=8,nodes:=150,vars:=0,names:=f.ps}:=⟨Int.le_refl _,by show(0:Int)≤8;decide,by show(f.ps.length:Int)≤100+0;omega,by show(8:Int)≤1000;decide⟩
   refine az (a_ (aB (ap (ad J (ad J (bI J (aC eV J (aA (k:=14) t3 J J J J J J J J (aF J (ad J (bI J (aC rQ J (aA (k:=14) t3 J J J J J J J J (aF J ?_))))))))))))));refine ad J (bI J (aC rO J (aA (k:=14) t3 J J J J J J J J (aF J (ad J (bI J (aC jA J (aA (k:=14) t3 J J J J J J J J (aF J (ad J (uI eS underlying46 t9 J fun v68=>ad J (bI J (aC du J (aQ 14 iB J J J J ?_))))))))))))));refine ad J (aP (mK (j:=i) underlying25 fj J J (SlS.tg (k:=43) J) J hiF) (aP (ek d6 J) (aP (ah gO J J (Gu (SlS.tg (k:=43) J) (by intro _;rfl) hfi J)) (Dx 68 underlying46 t9 J (by decide) (fun _=>J) (fun _=>J) J J J FB (SlS.tgp (k:=43) J hfm) (by simp only [bK];omega) (by unfold maxLen;simp only [bK];omega) J fun v77=>bI J (aC gm J (aA (k:=14) gO J J J J J J J J (aF J (ad J (bI J (aC du J (aQ 14 iB J J J J (ad J (aP (mK (j:=i) underlying25 fj J J (SlS.tg (k:=43) J) J hiF) (aP (aM fj J J J (Ax (SlS.tg (k:=43) J) (by intro _;rfl) hfi (by rfl))) (aY fj J J fun b11=>aq (k:=11) fj J J J J J J ?_)))))))))))))));refine aF J (ad J ?_);refine dh (xs:= [.tmp 87,.const (I6 1)]) (Nf (e:=⟨b14,vl,v77,vf,⟨l,i,(oP l).1⟩,F⟩) ⟨hl,hlo,hFh,by dsimp only;omega,by dsimp only;omega,hps⟩ out {s1 with left:=8,nodes:=150,vars:=0,names:=f.ps} v77 hsi) Kc [14,68] [(false,0),(true,43)] [14,70,61,62] J J J J J J J J (fun _ _=>J) (fun _ _ _=>J) J (fun⟨vb,body,s2,vn2⟩ hbd=> ?_);dsimp only at hbd ⊢;refine aC jl J (aA (k:=11) iP J J J J J J J J (aa (am (aC dJ J (aQ 9 iB J J J J (aP (aM fj J J J (aX (k:=11) J)) (bq ip (⟨f.name,f.vp,f.ps,vb,body⟩:Tf) underlying25 fj J (by decide) (by decide) J J J J fun v93=>cM 60 underlying25 fj J (by decide) (fun _=>J) (fun _=>J) J J J (be (k:=93) J) (by simp only [cE];omega) (by unfold maxLen;simp only [cE];omega) J fun v94=>aC dJ J (aA (k:=9) iB J J J J J J J J (aa (am (ad J (aw J J aO (ak J (aa (bz 43 [43,61,62] (C:=Ed vf F (out++ [⟨f.name,f.vp,f.ps,vb,body⟩])) J (L7 hfm) ?_)))))))))))))))
   refine aJ ⟨i+1,v94,out++ [⟨f.name,f.vp,f.ps,vb,body⟩],s2,vn2,i⟩ ⟨⟨by dsimp only;omega,by dsimp only;rw [List.map_append];exact .step (f:=(f.name,f.ps)) m2 (by rw [hFh,List.getElem?_map,hfi];rfl) hbd.1,by dsimp only;rw [bG,m3];rfl⟩,by dsimp only;omega⟩ J J J
  ·(try simp only [bj]at h3);have hme:i=fH l:=by omega
   refine bF (ap (aP (aM jB J J J (aX (k:=9) J)) (aq (k:=2) jB J J J J J J (aa (ax (bz 63 [60,43] (C:=cx vo out) J L9 (aH (vo,out) ⟨s1,hme▸m2⟩ J (bQ (aV jB J J J (aX (k:=2) J))) J [63] [] J J J)))))))
theorem COk.mv{w0:World}{M H:Nat→Prop}{Γ R:ey}{w:World}{k k':Nat}{A:Asn}(h:COk w0 M H Γ R w)(hk:ci Γ k=some A)(hne:Nat.beq k' k=false):COk w0 M H ((k',A)::(k,J7)::Γ) R w:=by
 obtain⟨F,hF⟩:=h;have hne':k'≠k:=fun e=>by subst e;simp at hne
 have hsub:∀j b,(if j=k' then F k else if j=k then fun _=>False else F j) b→(j=k'∧F k b)∨(j≠k'∧j≠k∧F j b):=by
  intro j b hb;split at hb
  ·exact .inl ⟨by assumption,hb⟩
  ·split at hb
   ·exact hb.elim
   ·exact .inr ⟨by assumption,by assumption,hb⟩
 refine⟨fun j=>if j=k' then F k else if j=k then fun _=>False else F j,hF.touch,?_,?_,?_,?_,?_⟩
 ·intro j B hj;simp only [ci]at hj;cases h1:Nat.beq k' j with
  | true=>
   rw [h1]at hj;simp at hj;subst hj;have:=c_ h1;subst this;simp only [if_true];exact hF.has k A hk
  | false=>
   rw [h1]at hj;have hj1:j≠k':=fun e=>by subst e;simp at h1
   cases h2:Nat.beq k j with
   | true=>
    rw [h2]at hj;simp at hj;subst hj;have:=c_ h2;subst this;simp only [hj1,if_false,if_true];exact fun b hb=>hb
   | false=>
    rw [h2]at hj;have hj2:j≠k:=fun e=>by subst e;simp at h2
    simp only [hj1,hj2,if_false];exact hF.has j B hj
 ·intro j b hb;rcases hsub j b hb with⟨_,hb⟩|⟨_,_,hb⟩<;>exact hF.lt _ b hb
 ·intro j b hb hlt;rcases hsub j b hb with⟨_,hb⟩|⟨_,_,hb⟩<;>exact hF.mine _ b hb hlt
 ·intro i j b hi hj;rcases hsub i b hi with⟨e1,h1⟩|⟨e1,e2,h1⟩<;>rcases hsub j b hj with⟨f1,h2⟩|⟨f1,f2,h2⟩
  ·rw [e1,f1]
  ·exact absurd (hF.apart k j b h1 h2).symm f2
  ·exact absurd (hF.apart i k b h1 h2) e2
  ·exact hF.apart i j b h1 h2
 ·intro j B hj;obtain⟨G,g1,g2⟩:=hF.ro j B hj;refine⟨G,g1,fun b hb=>⟨(g2 b hb).1,fun i hi=> ?_,(g2 b hb).2.2⟩⟩;rcases hsub i b hi with⟨_,hb'⟩|⟨_,_,hb'⟩<;>exact(g2 b hb).2.1 _ hb'
theorem wg{N:Nat}{w0:World}{M H:Nat→Prop}{E:fv}{Γ R:ey}(k k':Nat){A:Asn}{Rel:Act→World→Prop}(hk:ci Γ k=some A)(hne:Nat.beq k' k=false)(h:At N w0 M H E ((k',A)::(k,J7)::Γ) R Rel):At N w0 M H E Γ R Rel:=
 h.weak (fun _ h=>h) fun w hC=>hC.mv hk hne
def rs(r:Int→Int)(d v:Int):Int→Int:=fun k=>if k=d then v else r k
theorem zH{pc:Int}{r:Int→Int}{st x:Int}(hx:0≤x∧x<16):(sR pc r st)[1+x.toNat*1]?=some (I3 (r x)):=by
 obtain⟨k,rfl⟩:=Int.eq_ofNat_of_zero_le hx.1;have hk:k<16:=by omega
 show(sR pc r st)[1+k*1]?=_
 match k,hk with
 | 0,_=>rfl
 | 1,_=>rfl
 | 2,_=>rfl
 | 3,_=>rfl
 | 4,_=>rfl
 | 5,_=>rfl
 | 6,_=>rfl
 | 7,_=>rfl
 | 8,_=>rfl
 | 9,_=>rfl
 | 10,_=>rfl
 | 11,_=>rfl
 | 12,_=>rfl
 | 13,_=>rfl
 | 14,_=>rfl
 | 15,_=>rfl
theorem nz{pc:Int}{r:Int→Int}{st x v:Int}(hx:0≤x∧x<16):(sR pc r st).take (1+x.toNat*1)++ [Value.int .u32 v]++(sR pc r st).drop (1+x.toNat*1+1)=sR pc (rs r x v) st:=by
 obtain⟨k,rfl⟩:=Int.eq_ofNat_of_zero_le hx.1;have hk:k<16:=by omega
 show(sR pc r st).take (1+k*1)++ [Value.int .u32 v]++(sR pc r st).drop (1+k*1+1)=_
 match k,hk with
 | 0,_=>rfl
 | 1,_=>rfl
 | 2,_=>rfl
 | 3,_=>rfl
 | 4,_=>rfl
 | 5,_=>rfl
 | 6,_=>rfl
 | 7,_=>rfl
 | 8,_=>rfl
 | 9,_=>rfl
 | 10,_=>rfl
 | 11,_=>rfl
 | 12,_=>rfl
 | 13,_=>rfl
 | 14,_=>rfl
 | 15,_=>rfl
theorem R7{r:Int→Int}(h0:r 0=0):rs r 0 0=r:=by
 funext k;unfold rs;split
 ·rename_i h;rw [h,h0]
 ·rfl
theorem O3{r:Int→Int}{d v:Int}(h0:r 0=0):rs (rs r d v) 0 0=rp r d v:=by
 funext k;unfold rs rp;by_cases h:k=0
 ·rw [ar h];by_cases h2:k=d∧d≠0
  ·exact absurd (h2.1.symm.trans h) h2.2
  ·rw [ae h2,h,h0]
 ·rw [ae h];by_cases h2:k=d
  ·rw [ar h2,ar ⟨h2,fun h3=>h (h2.trans h3)⟩]
  ·rw [ae h2,ae (fun h3=>h2 h3.1)]
theorem sn{pc:Int}{r:Int→Int}{st x:Int}{u:Value}(hx:0≤x∧x<16):(1+x.toNat*1+ [u].length).ble (sR pc r st).length=true:=by
 rw [Nat.ble_eq];show 1+x.toNat*1+1≤24;omega
theorem IE{pc:Int}{r:Int→Int}{st:Int}(h0:r 0=0):(sR pc r st).take 1++ [Value.int .u32 0]++(sR pc r st).drop 2=sR pc r st:=(nz (x:=0) (by decide)).trans (by rw [R7 h0])
theorem xJ{pc:Int}{r:Int→Int}{st d v:Int}(h0:r 0=0):(sR pc (rs r d v) st).take 1++ [Value.int .u32 0]++(sR pc (rs r d v) st).drop 2=sR pc (rp r d v) st:=(nz (x:=0) (by decide)).trans (by rw [O3 h0])
theorem l7(n:Int):0≤wU n∧wU n<4294967296:=by
 show 0≤n%4294967296∧n%4294967296<4294967296;omega
theorem zn(a b:Int):wU (a+wU b)=wU (a+b):=by
 show(a+b%4294967296)%4294967296=(a+b)%4294967296;omega
theorem OI(n:Int):IntKind.u32.wrap (IntKind.u32.wrap n/4*4)=IntKind.u32.wrap n/4*4:=by
 have:=l7 n;have e:IntKind.u32.wrap n=wU n:=J;exact cd (by omega)
structure Stx(s:Mm)(i:Qi)(pc:Int)(r:Int→Int)(st:Int):Prop where
 f:Fx s i pc
 p:pc<1000000
 h0:r 0=0
 hr:∀k,0≤r k∧r k<4294967296
 hst:0≤st∧st<1000000000000000
def oC(pc:Int)(r:Int→Int)(st k x:Int):List Value:=sR pc r st++ [I6 k,I3 x]
theorem oe(pc:Int)(r:Int→Int)(st k x:Int):
  bi prog 149 [.agg (sR pc r st).toArray,I6 k,I3 x] [] [] (.agg (oC pc r st k x).toArray) []:=by
 refine aI func149 J ntmps149 J fun w0 M H=>ap (ck J J fun b3=>aY m8 J J fun b6=>aF J (aP (aM y_ J J J (aX (k:=3) J)) (ad J (ad J (aP (aU (parts:= [(0,.tmp 8),(1,.tmp 9)]) za Mx J J) (aP (aU (cs:=(oC pc r st k x).toArray) (parts:= [(0,.tmp 7),(1,.tmp 10)]) m8 KM J (by kernel_rfl)) (aq (k:=6) m8 J J J J J J (aa (ax (aH () O J (bQ (aV m8 J J J (aX (k:=6) J))) J [] [] J J J))))))))))
abbrev kE(e:Me)(i:Qi)(pc:Int)(r:Int→Int)(b2 b4 b6 b7:Nat):fv:= [(1,Pt e.m),(2,Pt b2),(4,Pt b4),(6,Pt b6),(7,Pt b7),(8,I3 (r i.d)),(9,I3 (r i.a)),(10,I3 (if i.op<16 then r i.b else i.imm)),(11,I3 (pc+4)),(12,I6 (j_ i.op))]
abbrev kG(e:Me)(s:Mm)(i:Qi)(pc:Int)(r:Int→Int)(st:Int)(b2 b4 b6 b7:Nat):ey:= [(20,bh e.m 157 (mR e)),(21,own 5 1 co (sv e.vd) s.d),(22,own 5 1 co (sv e.vi) s.i),(23,own 3 1 eI (sv e.vr) s.r),(2,bh b2 78 (sR pc r st)),(4,bh b4 207 (oC 0 rj 0 0 0)),(6,bh b6 118 (ja i)),(7,bh b7 78 (sR pc r st))]
def tY:Nat→Code→Code
 | 0,c=>c
 | n+1,.seq _ b=>tY n b
 | _+1,c=>c
def fF(f:Func):Code:=match f.body with
 | some c=>c
 | none=> .skip
theorem gT(e:Me)(s:Mm)(n:Nat)(hs:MO s n)(i:Qi)(pc:Int)(r:Int→Int)(st:Int)(hx:Stx s i pc r st){X:Type}{φ:X→Prop}{v:X→Value}{L1 R1:X→List Asn}
  (k:∀(w0:World)(M H:Nat→Prop)(b2 b4 b6 b7:Nat),At 301 w0 M H (kE e i pc r b2 b4 b6 b7) (kG e s i pc r st b2 b4 b6 b7) [] ((tY 12 (fF f115)).wp prog (bodyPost prog f115 (Ou w0 M H φ v L1 R1)))):
  Spec prog 115 [.agg (sR pc r st).toArray,Pt e.m] [bh e.m 157 (mR e),own 5 1 co (sv e.vd) (s).d,own 5 1 co (sv e.vi) (s).i,own 3 1 eI (sv e.vr) (s).r] [] φ v L1 R1:=by
 refine aI func115 J ntmps115 J fun w0 M H=>wg 0 20 J J (wg 1 21 J J (wg 2 22 J J (wg 3 23 J J ?_)))
 have hdd:=hx.f.hv.d;have haa:=hx.f.hv.a;have hbb:=hx.f.hv.b;have him:=hx.f.imm;have hpp:=hx.f.p;have hp2:=hx.p;have hst:=hx.hst;refine ap (ck J J fun b2=>aY m8 J J fun b4=>aF J (aC jk J (aQ 2 dm J J J J (ad J (aj (xs:= [.tmp 20,.tmp 21]) (xR e s n hs i pc hx.f) QY [20,21,22,23] [] [20,21,22,23] (fun _ _=>aY C9 J J fun b5=>aq (k:=5) C9 J J J J J J (aa (aT (aC JR J (aP (ek qg J) (aQ 5 t3 J J J J ?_)))))))))));refine aw J J eD (aa (ai J (fun h1=> ?_) (fun h1=> ?_)))
 ·cases h1
 ·(try simp only [bj]at h1);refine az (ap (aC JS J (aP (aM (us:=ja i) fA J J J (kQ (k:=5) J J)) (aY fA J J fun b6=>aq (k:=6) fA J J J J J J (aF J (aP (aM y_ J J J (aX (k:=2) J)) (aY y_ J J fun b7=>aq (k:=7) y_ J J J J J J (aF J (aC ig J (aP (dz (j:=0) underlying75 dm J J (by rfl) (by decide)) (aA (k:=7) (us:= [I3 0]) (c':=sR pc r st) dm J J J J J J J (IE hx.h0) (aa ?_))))))))))));refine ap (aC h_ J (aQ 6 t3 J J J J (aC ig J (aP (dz (j:=i.d.toNat) underlying75 dm J J (by omega) (by omega)) (aQ 7 dm J J J (zH hx.f.hv.d) (ak J (aF J (aC mW J (aQ 6 t3 J J J J (aC ig J (aP (dz (j:=i.a.toNat) underlying75 dm J J (by omega) (by omega)) (aQ 7 dm J J J (zH hx.f.hv.a) (ak J (aF J ?_))))))))))))));refine aC mV J (aQ 6 t3 J J J J (aC ig J (aP (dz (j:=i.b.toNat) underlying75 dm J J (by omega) (by omega)) (aQ 7 dm J J J (zH hx.f.hv.b) (ak J (aF J (aC jk J (aQ 7 dm J J J J (aw J J (cw (c:=pc+4) (cd (by omega))) (ak J (aF J (aC cv J (aQ 6 t3 J J J J (aj (xs:= [.tmp 55]) (zL i.op) QX [] [] [] (fun _ _=>ak J ?_)))))))))))))));refine aa (bx (X:=Nat×Nat×Nat×Nat) (fun _=>True) (fun z=> [(1,Pt e.m),(2,Pt z.1),(4,Pt z.2.1),(6,Pt z.2.2.1),(7,Pt z.2.2.2),(8,I3 (r i.d)),(9,I3 (r i.a)),(10,I3 (if i.op<16 then r i.b else i.imm)),(11,I3 (pc+4)),(12,I6 (j_ i.op))]) (fun z=> [(20,bh e.m 157 (mR e)),(21,own 5 1 co (sv e.vd) s.d),(22,own 5 1 co (sv e.vi) s.i),(23,own 3 1 eI (sv e.vr) s.r),(2,bh z.1 78 (sR pc r st)),(4,bh z.2.1 207 (oC 0 rj 0 0 0)),(6,bh z.2.2.1 118 (ja i)),(7,bh z.2.2.2 78 (sR pc r st))]) (fun z=> []) ?_ (fun⟨b2,b4,b6,b7⟩ _=> ?_))
  ·refine ap (aC cv J (aQ 6 t3 J J J J (aw J J gI (aa (ai J (fun h2=> ?_) (fun h2=> ?_))))))
   ·(try simp only [bj]at h2);refine am (aC d9 J (aQ 6 dm J J J J (ak J (aa ?_))));refine aJ (b2,b4,b6,b7) O (by rw [ae (show ¬i.op<16 by omega)];rfl) J J
   ·(try simp only [bj]at h2);refine az ?_;refine aJ (b2,b4,b6,b7) O (by rw [ar (show i.op<16 by omega)];rfl) J J
  ·exact k w0 M H b2 b4 b6 b7
theorem ol{N:Nat}{w0:World}{M H:Nat→Prop}{E E2:fv}{Γ R:ey}{Rel:Act→World→Prop}(he:u9 E E2=u6 E2)(h:At N w0 M H E2 Γ R Rel):At N w0 M H E Γ R Rel:=fun a w h1 h2=>h a w (h1.sub he) h2
def iF:Code→Code
 | .seq (.block _ c) _=>c
 | c=>c
def els:Nat→Code→Code
 | 0,c=>c
 | n+1,.seq _ (.cond _ _ f)=>els n f
 | _+1,c=>c
theorem pe{e:Me}{s:Mm}{i:Qi}{pc:Int}{r:Int→Int}{st:Int}(h:i.op≠10){w0:World}{M H:Nat→Prop}{Q:Exit→Act→World→Prop}{b2 b4 b6 b7:Nat}(k:At 301 w0 M H (kE e i pc r b2 b4 b6 b7) (kG e s i pc r st b2 b4 b6 b7) [] ((els 1 (iF (tY 12 (fF f115)))).wp prog Q)):
  At 301 w0 M H (kE e i pc r b2 b4 b6 b7) (kG e s i pc r st b2 b4 b6 b7) [] ((els 0 (iF (tY 12 (fF f115)))).wp prog Q):=by
 skip;refine ap (aC cv J (aQ 6 t3 J J J J (aw J J bn (ad J (aG [] J J O (fun hg1=>bc J) J (aG [(67,_)] J J ⟨J,O⟩ (fun hg2=>aR J J bn) J (aP (bH J J J) (ak J (aa (ai J (fun h3=> ?_) (fun h3=> ?_)))))))))))
 ·(exfalso;have h0:=h3;revert h0;simp;first|exact h|omega|(intro h1;exact absurd h1 h))
 ·(try simp only [bj]at h3);exact ol J k
theorem pd{e:Me}{s:Mm}{i:Qi}{pc:Int}{r:Int→Int}{st:Int}(h:j_ i.op=0){w0:World}{M H:Nat→Prop}{Q:Exit→Act→World→Prop}{b2 b4 b6 b7:Nat}(k:At 301 w0 M H (kE e i pc r b2 b4 b6 b7) (kG e s i pc r st b2 b4 b6 b7) [] ((els 2 (iF (tY 12 (fF f115)))).wp prog Q)):
  At 301 w0 M H (kE e i pc r b2 b4 b6 b7) (kG e s i pc r st b2 b4 b6 b7) [] ((els 1 (iF (tY 12 (fF f115)))).wp prog Q):=by
 skip;refine ap (ad J (aw J J eD (ak J (aa (ai J (fun h1=> ?_) (fun h1=> ?_))))))
 ·(exfalso;have h0:=h1;revert h0;simp;first|exact h|omega|(intro h1;exact absurd h1 h))
 ·(try simp only [bj]at h1);exact ol J k
theorem qK{e:Me}{s:Mm}{i:Qi}{pc:Int}{r:Int→Int}{st:Int}(h:i.op≠23∧i.op≠24){w0:World}{M H:Nat→Prop}{Q:Exit→Act→World→Prop}{b2 b4 b6 b7:Nat}(k:At 301 w0 M H (kE e i pc r b2 b4 b6 b7) (kG e s i pc r st b2 b4 b6 b7) [] ((els 3 (iF (tY 12 (fF f115)))).wp prog Q)):
  At 301 w0 M H (kE e i pc r b2 b4 b6 b7) (kG e s i pc r st b2 b4 b6 b7) [] ((els 2 (iF (tY 12 (fF f115)))).wp prog Q):=by
 skip;refine ap (aC cv J (aQ 6 t3 J J J J (aw J J bn (ad J (aG [] J J O (fun hg1=>ag cv J) J (aG [(88,_)] J J ⟨J,O⟩ (fun hg2=>ah t3 J J (ay (k:=6) J J)) J (aG [(88,_),(89,_)] J J ⟨J,J,O⟩ (fun hg3=>aR J J bn) J (aP (bH J J J) (ak J (aa (ai J (fun h4=> ?_) (fun h4=> ?_))))))))))))
 ·(exfalso;have h0:=h4;revert h0;simp;first|exact h|omega|(intro h1;exact absurd h1 h))
 ·(try simp only [bj]at h4);exact ol J k
theorem tv{e:Me}{s:Mm}{i:Qi}{pc:Int}{r:Int→Int}{st:Int}(h:i.op≠25∧i.op≠26){w0:World}{M H:Nat→Prop}{Q:Exit→Act→World→Prop}{b2 b4 b6 b7:Nat}(k:At 301 w0 M H (kE e i pc r b2 b4 b6 b7) (kG e s i pc r st b2 b4 b6 b7) [] ((els 4 (iF (tY 12 (fF f115)))).wp prog Q)):
  At 301 w0 M H (kE e i pc r b2 b4 b6 b7) (kG e s i pc r st b2 b4 b6 b7) [] ((els 3 (iF (tY 12 (fF f115)))).wp prog Q):=by
 skip;refine ap (aC cv J (aQ 6 t3 J J J J (aw J J bn (ad J (aG [] J J O (fun hg1=>ag cv J) J (aG [(120,_)] J J ⟨J,O⟩ (fun hg2=>ah t3 J J (ay (k:=6) J J)) J (aG [(120,_),(121,_)] J J ⟨J,J,O⟩ (fun hg3=>aR J J bn) J (aP (bH J J J) (ak J (aa (ai J (fun h4=> ?_) (fun h4=> ?_))))))))))))
 ·(exfalso;have h0:=h4;revert h0;simp;first|exact h|omega|(intro h1;exact absurd h1 h))
 ·(try simp only [bj]at h4);exact ol J k
theorem qn{e:Me}{s:Mm}{i:Qi}{pc:Int}{r:Int→Int}{st:Int}(h:i.op≠27){w0:World}{M H:Nat→Prop}{Q:Exit→Act→World→Prop}{b2 b4 b6 b7:Nat}(k:At 301 w0 M H (kE e i pc r b2 b4 b6 b7) (kG e s i pc r st b2 b4 b6 b7) [] ((els 5 (iF (tY 12 (fF f115)))).wp prog Q)):
  At 301 w0 M H (kE e i pc r b2 b4 b6 b7) (kG e s i pc r st b2 b4 b6 b7) [] ((els 4 (iF (tY 12 (fF f115)))).wp prog Q):=by
 skip;refine ap (aC cv J (aQ 6 t3 J J J J (aw J J bn (ak J (aa (ai J (fun h1=> ?_) (fun h1=> ?_)))))))
 ·(exfalso;have h0:=h1;revert h0;simp;first|exact h|omega|(intro h1;exact absurd h1 h))
 ·(try simp only [bj]at h1);exact ol J k
theorem w7{e:Me}{s:Mm}{i:Qi}{pc:Int}{r:Int→Int}{st:Int}(h:¬(32≤i.op∧i.op≤37)){w0:World}{M H:Nat→Prop}{Q:Exit→Act→World→Prop}{b2 b4 b6 b7:Nat}(k:At 301 w0 M H (kE e i pc r b2 b4 b6 b7) (kG e s i pc r st b2 b4 b6 b7) [] ((els 6 (iF (tY 12 (fF f115)))).wp prog Q)):
  At 301 w0 M H (kE e i pc r b2 b4 b6 b7) (kG e s i pc r st b2 b4 b6 b7) [] ((els 5 (iF (tY 12 (fF f115)))).wp prog Q):=by
 skip;refine ap (aC cv J (aQ 6 t3 J J J J (aw J J gI (ad J (aG [] J J O (fun hg1=>ag cv J) J (aG [(162,_)] J J ⟨J,O⟩ (fun hg2=>ah t3 J J (ay (k:=6) J J)) J (aG [(162,_),(163,_)] J J ⟨J,J,O⟩ (fun hg3=>aR J J lR) J (aP (bH J J J) (ak J (aa (ai J (fun h4=> ?_) (fun h4=> ?_))))))))))))
 ·(exfalso;have h0:=h4;revert h0;simp;first|exact h|omega|(intro h1;exact absurd h1 h))
 ·(try simp only [bj]at h4);exact ol J k
theorem AQ{e:Me}{s:Mm}{i:Qi}{pc:Int}{r:Int→Int}{st:Int}(h:i.op≠40){w0:World}{M H:Nat→Prop}{Q:Exit→Act→World→Prop}{b2 b4 b6 b7:Nat}(k:At 301 w0 M H (kE e i pc r b2 b4 b6 b7) (kG e s i pc r st b2 b4 b6 b7) [] ((els 7 (iF (tY 12 (fF f115)))).wp prog Q)):
  At 301 w0 M H (kE e i pc r b2 b4 b6 b7) (kG e s i pc r st b2 b4 b6 b7) [] ((els 6 (iF (tY 12 (fF f115)))).wp prog Q):=by
 skip;refine ap (aC cv J (aQ 6 t3 J J J J (aw J J bn (ak J (aa (ai J (fun h1=> ?_) (fun h1=> ?_)))))))
 ·(exfalso;have h0:=h1;revert h0;simp;first|exact h|omega|(intro h1;exact absurd h1 h))
 ·(try simp only [bj]at h1);exact ol J k
theorem GW{e:Me}{s:Mm}{i:Qi}{pc:Int}{r:Int→Int}{st:Int}(h:i.op≠41){w0:World}{M H:Nat→Prop}{Q:Exit→Act→World→Prop}{b2 b4 b6 b7:Nat}(k:At 301 w0 M H (kE e i pc r b2 b4 b6 b7) (kG e s i pc r st b2 b4 b6 b7) [] ((els 8 (iF (tY 12 (fF f115)))).wp prog Q)):
  At 301 w0 M H (kE e i pc r b2 b4 b6 b7) (kG e s i pc r st b2 b4 b6 b7) [] ((els 7 (iF (tY 12 (fF f115)))).wp prog Q):=by
 skip;refine ap (aC cv J (aQ 6 t3 J J J J (aw J J bn (ak J (aa (ai J (fun h1=> ?_) (fun h1=> ?_)))))))
 ·(exfalso;have h0:=h1;revert h0;simp;first|exact h|omega|(intro h1;exact absurd h1 h))
 ·(try simp only [bj]at h1);exact ol J k
theorem NF{e:Me}{s:Mm}{i:Qi}{pc:Int}{r:Int→Int}{st:Int}(h:i.op≠48){w0:World}{M H:Nat→Prop}{Q:Exit→Act→World→Prop}{b2 b4 b6 b7:Nat}(k:At 301 w0 M H (kE e i pc r b2 b4 b6 b7) (kG e s i pc r st b2 b4 b6 b7) [] ((els 9 (iF (tY 12 (fF f115)))).wp prog Q)):
  At 301 w0 M H (kE e i pc r b2 b4 b6 b7) (kG e s i pc r st b2 b4 b6 b7) [] ((els 8 (iF (tY 12 (fF f115)))).wp prog Q):=by
 skip;refine ap (aC cv J (aQ 6 t3 J J J J (aw J J bn (ak J (aa (ai J (fun h1=> ?_) (fun h1=> ?_)))))))
 ·(exfalso;have h0:=h1;revert h0;simp;first|exact h|omega|(intro h1;exact absurd h1 h))
 ·(try simp only [bj]at h1);exact ol J k
theorem ij(e:Me)(s:Mm)(pc:Int)(r1 r2:Int→Int)(st npc:Int)(hst:0≤st∧st<1000000000000000)(hz:(sR pc r1 st).take 1++ [Value.int .u32 0]++(sR pc r1 st).drop 2=sR pc r2 st){w0:World}{M H:Nat→Prop}{b4 b7:Nat}:
  At 301 w0 M H [(4,Pt b4),(7,Pt b7),(11,I3 npc)] [(20,bh e.m 157 (mR e)),(21,own 5 1 co (sv e.vd) (s).d),(22,own 5 1 co (sv e.vi) (s).i),(23,own 3 1 eI (sv e.vr) (s).r),(4,bh b4 207 (oC 0 rj 0 0 0)),(7,bh b7 78 (sR pc r1 st))] [] ((tY 13 (fF f115)).wp prog (bodyPost prog f115 (Ou w0 M H (X:=Unit) (fun _=>True) (fun _=> .agg (oC npc r2 (st+1) 0 0).toArray) (fun _=> [bh e.m 157 (mR e),own 5 1 co (sv e.vd) (s).d,own 5 1 co (sv e.vi) (s).i,own 3 1 eI (sv e.vr) (s).r]) (fun _=> [])))):=by
 skip;refine ap (aC ig J (aP (dz (j:=0) underlying75 dm J J (by rfl) (by decide)) (aA (k:=7) (us:= [I3 0]) (c':=sR pc r2 st) dm J J J J J J J hz (aF J (ad J (aC jk J (aA (k:=7) (us:= [I3 npc]) (c':=sR npc r2 st) dm J J J J J J J J (aF J (aC jj J (aQ 7 t3 J J J J (aw J J (cw (c:=st+1) (bU (by omega))) (aC jj J (aA (k:=7) (us:= [I6 (st+1)]) (c':=sR npc r2 (st+1)) t3 J J J J J J J J (aa ?_))))))))))))));refine ap (aP (aM y_ J J J (aX (k:=7) J)) (aP (aU (cs:=(oC npc r2 (st+1) 0 0).toArray) (parts:= [(0,.tmp 299)]) m8 KM J (by kernel_rfl)) (aq (k:=4) m8 J J J J J J (aa (ax (aH () O J (bQ (aV m8 J J J (aX (k:=4) J))) J [20,21,22,23] [] J J J))))))
theorem EX(e:Me)(s:Mm)(n:Nat)(hs:MO s n)(i:Qi)(pc:Int)(r:Int→Int)(st:Int)(hx:Stx s i pc r st)(v:Int)(hu:y6 i.op (r i.a) (if i.op<16 then r i.b else i.imm)=some v):
  bi prog 115 [.agg (sR pc r st).toArray,Pt e.m] [bh e.m 157 (mR e),own 5 1 co (sv e.vd) (s).d,own 5 1 co (sv e.vi) (s).i,own 3 1 eI (sv e.vr) (s).r] [] (.agg (oC (pc+4) (rp r i.d v) (st+1) 0 0).toArray) [bh e.m 157 (mR e),own 5 1 co (sv e.vd) (s).d,own 5 1 co (sv e.vi) (s).i,own 3 1 eI (sv e.vr) (s).r]:=by
 have hdd:=hx.f.hv.d;have haa:=hx.f.hv.a;have hbb:=hx.f.hv.b;have him:=hx.f.imm;have hpp:=hx.f.p;have hp2:=hx.p;have hst:=hx.hst;obtain⟨ho,hz,hk⟩:=N4 hu;refine gT e s n hs i pc r st hx fun w0 M H b2 b4 b6 b7=> ?_
 refine bx (X:=Unit) (fun _=>True) (fun _=> [(4,Pt b4),(7,Pt b7),(11,I3 (pc+4))]) (fun _=> [(20,bh e.m 157 (mR e)),(21,own 5 1 co (sv e.vd) (s).d),(22,own 5 1 co (sv e.vi) (s).i),(23,own 3 1 eI (sv e.vr) (s).r),(4,bh b4 207 (oC 0 rj 0 0 0)),(7,bh b7 78 (sR pc (rs r i.d v) st))]) (fun _=> []) ?_ (fun _ _=> ?_)
 ·refine aB (ap (aC cv J (aQ 6 t3 J J J J (aw J J bn (ad J (aG [] J J O (fun hg1=>bc J) J (aG [(67,_)] J J ⟨J,O⟩ (fun hg2=>aR J J bn) J (aP (bH J J J) (ak J (aa (ai J (fun h3=> ?_) (fun h3=> ?_))))))))))))
  ·(exfalso;have h0:=h3;revert h0;simp;try omega)
  ·(try simp only [bj]at h3);refine ap (ad J (aw J J eD (ak J (aa (ai J (fun h4=> ?_) (fun h4=> ?_))))))
   ·(try simp only [bj]at h4);refine bJ [75,76,77,78,79,80,81,82] _ J (aW (V:= [(0,75,_),(1,76,_),(2,77,_),(3,78,_),(4,79,_),(6,81,_)]) [0,1,2,3,4,6] 5 [5,4,3,2] [7] (fun _=> [(7,82,_)]) J J (ac J (ag h_ J) (ac J (ah t3 J J (ay (k:=6) J J)) (aD J J (aD J J (aD J J (ac J (ag ig J) av)))))) J J J J J J J J J J J (fun _ _=>J) J (fh (xs:= [.tmp 77,.tmp 78,.tmp 79]) (Ff (j_ i.op) (r i.a) (if i.op<16 then r i.b else i.imm) v (hx.hr _) (by split;exact hx.hr _;exact him) (N5 hu)) QW [] [] [] J J J) (fun _ _=>bE [7,0,1,6] 8 [8,7,6,5,4,3,2,1,0] [] (fun _=> []) J J (ac J (dz (j:=i.d.toNat) underlying75 dm J J (by omega) (by omega)) (ac J (ag h_ J) (ac J (ah t3 J J (ay (k:=6) J J)) (ac J (ag ig J) av)))) J J J J J J J J J (fun _ _=>J) J (c9 (k:=7) (us:= [I3 v]) (c':=sR pc (rs r i.d v) st) dm J J J J J J (sn hx.f.hv.d) (nz hx.f.hv.d)) (fun _ _=>bl [] J J av J J J ?_)));refine aJ () O J J J
   ·(exfalso;have h0:=h4;revert h0;simp;exact hk)
 ·exact ij e s pc (rs r i.d v) (rp r i.d v) st (pc+4) hst (xJ hx.h0)
theorem ET(e:Me)(s:Mm)(n:Nat)(hs:MO s n)(i:Qi)(pc:Int)(r:Int→Int)(st:Int)(hx:Stx s i pc r st)(hb:byL s.d)(ho:i.op=23)(hq4:(wU (r i.a+i.imm))+4≤s.d.length)(hok:∀k:Int,0≤k→k<4→zc s (IntKind.u32.wrap ((wU (r i.a+i.imm))+k)) 1=true):
  bi prog 115 [.agg (sR pc r st).toArray,Pt e.m] [bh e.m 157 (mR e),own 5 1 co (sv e.vd) (s).d,own 5 1 co (sv e.vi) (s).i,own 3 1 eI (sv e.vr) (s).r] [] (.agg (oC (pc+4) (rp r i.d (BV s.d (wU (r i.a+i.imm)).toNat)) (st+1) 0 0).toArray) [bh e.m 157 (mR e),own 5 1 co (sv e.vd) (s).d,own 5 1 co (sv e.vi) (s).i,own 3 1 eI (sv e.vr) (s).r]:=by
 have hdd:=hx.f.hv.d;have haa:=hx.f.hv.a;have hbb:=hx.f.hv.b;have him:=hx.f.imm;have hpp:=hx.f.p;have hp2:=hx.p;have hst:=hx.hst;have hk:j_ i.op=0:=by rw [ho];rfl
 refine gT e s n hs i pc r st hx fun w0 M H b2 b4 b6 b7=> ?_
 refine bx (X:=Unit) (fun _=>True) (fun _=> [(4,Pt b4),(7,Pt b7),(11,I3 (pc+4))]) (fun _=> [(20,bh e.m 157 (mR e)),(21,own 5 1 co (sv e.vd) (s).d),(22,own 5 1 co (sv e.vi) (s).i),(23,own 3 1 eI (sv e.vr) (s).r),(4,bh b4 207 (oC 0 rj 0 0 0)),(7,bh b7 78 (sR pc (rs r i.d (BV s.d (wU (r i.a+i.imm)).toNat)) st))]) (fun _=> []) ?_ (fun _ _=> ?_)
 ·refine aB ?_;refine pe (by omega) (pd hk ?_);refine ap (aC cv J (aQ 6 t3 J J J J (aw J J bn (ad J (aG [] J J O (fun hg1=>ag cv J) J (aG [(88,_)] J J ⟨J,O⟩ (fun hg2=>ah t3 J J (ay (k:=6) J J)) J (aG [(88,_),(89,_)] J J ⟨J,J,O⟩ (fun hg3=>aR J J bn) J (aP (bH J J J) (ak J (aa (ai J (fun h4=> ?_) (fun h4=> ?_))))))))))))
  ·(try simp only [bj]at h4);refine ap (ak J (aa (aT (aC cv J (aQ 6 t3 J J J J (aw J J bn (aa (ai J (fun h5=> ?_) (fun h5=> ?_)))))))))
   ·(exfalso;have h0:=h5;revert h0;simp;try omega)
   ·(try simp only [bj]at h5);refine az (ap (ad J (ad J (aC d9 J (aQ 6 dm J J J J (aw J J (cw J) (ad J (db (xs:= [.tmp 95,.tmp 99,.tmp 100]) (FZ e s n hs (wU (r i.a+i.imm)) (l7 _) hb hq4 hok) QV [20,21,22,23] [] [20,21,22,23] J J J (fun _ _=>aY iV J J fun b14=>aq (k:=14) iV J J J J J J (aa (aT (aC oS J (aQ 14 t4 J J J J (aP (cz J) (aa ?_)))))))))))))));refine ai J (fun h6=> ?_) (fun h6=> ?_)
    ·cases h6
    ·(try simp only [bj]at h6);refine az (am (aC h_ J (aQ 6 t3 J J J J (aC rC J (aQ 14 dm J J J J (aC ig J (aP (dz (j:=i.d.toNat) underlying75 dm J J (by omega) (by omega)) (aA (k:=7) (us:= [I3 (BV s.d (wU (r i.a+i.imm)).toNat)]) (c':=sR pc (rs r i.d (BV s.d (wU (r i.a+i.imm)).toNat)) st) dm J J J J J J (sn hx.f.hv.d) (nz hx.f.hv.d) (aa (aJ () O J J J))))))))))
  ·(exfalso;have h0:=h4;revert h0;simp;try omega)
 ·exact ij e s pc (rs r i.d (BV s.d (wU (r i.a+i.imm)).toNat)) (rp r i.d (BV s.d (wU (r i.a+i.imm)).toNat)) st (pc+4) hst (xJ hx.h0)
theorem ER(e:Me)(s:Mm)(n:Nat)(hs:MO s n)(i:Qi)(pc:Int)(r:Int→Int)(st:Int)(hx:Stx s i pc r st)(ho:i.op=25)(hq4:(wU (r i.a+i.imm))+4≤s.d.length)(hok:∀k:Int,0≤k→k<4→zc s (IntKind.u32.wrap ((wU (r i.a+i.imm))+k)) 2=true):
  bi prog 115 [.agg (sR pc r st).toArray,Pt e.m] [bh e.m 157 (mR e),own 5 1 co (sv e.vd) (s).d,own 5 1 co (sv e.vi) (s).i,own 3 1 eI (sv e.vr) (s).r] [] (.agg (oC (pc+4) r (st+1) 0 0).toArray) [bh e.m 157 (mR e),own 5 1 co (sv e.vd) ({s with d:=pk s.d (wU (r i.a+i.imm)).toNat (fK (r i.d))}).d,own 5 1 co (sv e.vi) ({s with d:=pk s.d (wU (r i.a+i.imm)).toNat (fK (r i.d))}).i,own 3 1 eI (sv e.vr) ({s with d:=pk s.d (wU (r i.a+i.imm)).toNat (fK (r i.d))}).r]:=by
 have hdd:=hx.f.hv.d;have haa:=hx.f.hv.a;have hbb:=hx.f.hv.b;have him:=hx.f.imm;have hpp:=hx.f.p;have hp2:=hx.p;have hst:=hx.hst;have hk:j_ i.op=0:=by rw [ho];rfl
 refine gT e s n hs i pc r st hx fun w0 M H b2 b4 b6 b7=> ?_
 refine bx (X:=Unit) (fun _=>True) (fun _=> [(4,Pt b4),(7,Pt b7),(11,I3 (pc+4))]) (fun _=> [(20,bh e.m 157 (mR e)),(21,own 5 1 co (sv e.vd) ({s with d:=pk s.d (wU (r i.a+i.imm)).toNat (fK (r i.d))}).d),(22,own 5 1 co (sv e.vi) ({s with d:=pk s.d (wU (r i.a+i.imm)).toNat (fK (r i.d))}).i),(23,own 3 1 eI (sv e.vr) ({s with d:=pk s.d (wU (r i.a+i.imm)).toNat (fK (r i.d))}).r),(4,bh b4 207 (oC 0 rj 0 0 0)),(7,bh b7 78 (sR pc r st))]) (fun _=> []) ?_ (fun _ _=> ?_)
 ·refine aB ?_;refine pe (by omega) (pd hk (qK (by omega) ?_));refine ap (aC cv J (aQ 6 t3 J J J J (aw J J bn (ad J (aG [] J J O (fun hg1=>ag cv J) J (aG [(120,_)] J J ⟨J,O⟩ (fun hg2=>ah t3 J J (ay (k:=6) J J)) J (aG [(120,_),(121,_)] J J ⟨J,J,O⟩ (fun hg3=>aR J J bn) J (aP (bH J J J) (ak J (aa (ai J (fun h4=> ?_) (fun h4=> ?_))))))))))))
  ·(try simp only [bj]at h4);refine ap (ak J (aa (aT (aC cv J (aQ 6 t3 J J J J (aw J J bn (aa (ai J (fun h5=> ?_) (fun h5=> ?_)))))))))
   ·(exfalso;have h0:=h5;revert h0;simp;try omega)
   ·(try simp only [bj]at h5);refine az (ap (ad J (ad J (aC d9 J (aQ 6 dm J J J J (aw J J (cw J) (ad J (ad J (db (xs:= [.tmp 127,.tmp 131,.tmp 132,.tmp 133]) (Dc e s n hs (wU (r i.a+i.imm)) (l7 _) (r i.d) (hx.hr _) hq4 hok) QU [20,21,22,23] [] [20,21,22,23] J J J (fun _ _=>aY iV J J fun b16=>aq (k:=16) iV J J J J J J (aF J (aC oS J (aQ 16 t4 J J J J (aP (cz J) (aa ?_)))))))))))))));refine ai J (fun h6=> ?_) (fun h6=> ?_)
    ·cases h6
    ·(try simp only [bj]at h6);refine az (aJ () O J J J)
  ·(exfalso;have h0:=h4;revert h0;simp;try omega)
 ·exact ij e {s with d:=pk s.d (wU (r i.a+i.imm)).toNat (fK (r i.d))} pc r r st (pc+4) hst (IE hx.h0)
theorem Dd(e:Me)(s:Mm)(n:Nat)(hs:MO s n)(i:Qi)(pc:Int)(r:Int→Int)(st:Int)(hx:Stx s i pc r st)(ho:i.op=27):
  bi prog 115 [.agg (sR pc r st).toArray,Pt e.m] [bh e.m 157 (mR e),own 5 1 co (sv e.vd) (s).d,own 5 1 co (sv e.vi) (s).i,own 3 1 eI (sv e.vr) (s).r] [] (.agg (oC ((wU (r i.a+i.imm))/4*4) (rp r i.d (pc+4)) (st+1) 0 0).toArray) [bh e.m 157 (mR e),own 5 1 co (sv e.vd) (s).d,own 5 1 co (sv e.vi) (s).i,own 3 1 eI (sv e.vr) (s).r]:=by
 have hdd:=hx.f.hv.d;have haa:=hx.f.hv.a;have hbb:=hx.f.hv.b;have him:=hx.f.imm;have hpp:=hx.f.p;have hp2:=hx.p;have hst:=hx.hst;have hk:j_ i.op=0:=by rw [ho];rfl
 refine gT e s n hs i pc r st hx fun w0 M H b2 b4 b6 b7=> ?_
 refine bx (X:=Unit) (fun _=>True) (fun _=> [(4,Pt b4),(7,Pt b7),(11,I3 ((wU (r i.a+i.imm))/4*4))]) (fun _=> [(20,bh e.m 157 (mR e)),(21,own 5 1 co (sv e.vd) (s).d),(22,own 5 1 co (sv e.vi) (s).i),(23,own 3 1 eI (sv e.vr) (s).r),(4,bh b4 207 (oC 0 rj 0 0 0)),(7,bh b7 78 (sR pc (rs r i.d (pc+4)) st))]) (fun _=> []) ?_ (fun _ _=> ?_)
 ·refine aB ?_;refine pe (by omega) (pd hk (qK (by omega) (tv (by omega) ?_)));refine ap (aC cv J (aQ 6 t3 J J J J (aw J J bn (ak J (aa (ai J (fun h1=> ?_) (fun h1=> ?_)))))))
  ·(try simp only [bj]at h1);refine ap (aC h_ J (aQ 6 t3 J J J J (ad J (aC ig J (aP (dz (j:=i.d.toNat) underlying75 dm J J (by omega) (by omega)) (aA (k:=7) (us:= [I3 (pc+4)]) (c':=sR pc (rs r i.d (pc+4)) st) dm J J J J J J (sn hx.f.hv.d) (nz hx.f.hv.d) (aa (am (ad J (aC d9 J (aQ 6 dm J J J J (aw J J (cw J) (aw J J (lO (by decide) (qB (l7 _) (by decide))) (aw J J (fG (OI _)) (ak J (aa (aJ () O J J J)))))))))))))))))
  ·(exfalso;have h0:=h1;revert h0;simp;try omega)
 ·exact ij e s pc (rs r i.d (pc+4)) (rp r i.d (pc+4)) st ((wU (r i.a+i.imm))/4*4) hst (xJ hx.h0)
theorem EW(e:Me)(s:Mm)(n:Nat)(hs:MO s n)(i:Qi)(pc:Int)(r:Int→Int)(st:Int)(hx:Stx s i pc r st)(ho:i.op=32):
  bi prog 115 [.agg (sR pc r st).toArray,Pt e.m] [bh e.m 157 (mR e),own 5 1 co (sv e.vd) (s).d,own 5 1 co (sv e.vi) (s).i,own 3 1 eI (sv e.vr) (s).r] [] (.agg (oC (if r i.d=r i.a then wU (pc+4*i.imm)else pc+4) r (st+1) 0 0).toArray) [bh e.m 157 (mR e),own 5 1 co (sv e.vd) (s).d,own 5 1 co (sv e.vi) (s).i,own 3 1 eI (sv e.vr) (s).r]:=by
 have hdd:=hx.f.hv.d;have haa:=hx.f.hv.a;have hbb:=hx.f.hv.b;have him:=hx.f.imm;have hpp:=hx.f.p;have hp2:=hx.p;have hst:=hx.hst;have hk:j_ i.op=0:=by rw [ho];rfl
 refine gT e s n hs i pc r st hx fun w0 M H b2 b4 b6 b7=> ?_
 refine bx (X:=Unit) (fun _=>True) (fun _=> [(4,Pt b4),(7,Pt b7),(11,I3 (if r i.d=r i.a then wU (pc+4*i.imm)else pc+4))]) (fun _=> [(20,bh e.m 157 (mR e)),(21,own 5 1 co (sv e.vd) (s).d),(22,own 5 1 co (sv e.vi) (s).i),(23,own 3 1 eI (sv e.vr) (s).r),(4,bh b4 207 (oC 0 rj 0 0 0)),(7,bh b7 78 (sR pc r st))]) (fun _=> []) ?_ (fun _ _=> ?_)
 ·refine aB ?_;refine pe (by omega) (pd hk (qK (by omega) (tv (by omega) (qn (by omega) ?_))));refine ap (aC cv J (aQ 6 t3 J J J J (aw J J gI (ad J (aG [] J J O (fun hg1=>ag cv J) J (aG [(162,_)] J J ⟨J,O⟩ (fun hg2=>ah t3 J J (ay (k:=6) J J)) J (aG [(162,_),(163,_)] J J ⟨J,J,O⟩ (fun hg3=>aR J J lR) J (aP (bH J J J) (ak J (aa (ai J (fun h4=> ?_) (fun h4=> ?_))))))))))))
  ·(try simp only [bj]at h4);refine ap (aC cv J (aQ 6 t3 J J J J (ad J (ad J ?_))));rw [ho];refine aj (xs:= [.tmp 167,.tmp 168,.tmp 169]) (t8 (r i.d) (r i.a)) Lx [] [] [] (fun _ _=>ak J (aF J (ad J (aa (ai J (fun h5=> ?_) (fun h5=> ?_))))))
   ·(try simp only [bj]at h5);rw [ar h5];refine am (aC jk J (aQ 7 dm J J J J (aC d9 J (aQ 6 dm J J J J (aw J J (fG J) (aw J J (cw (c:=wU (pc+4*i.imm)) (zn _ _)) (ak J (aa (aJ () O J J J)))))))))
   ·(try simp only [bj]at h5);rw [ae h5];refine az (aJ () O J J J)
  ·(exfalso;have h0:=h4;revert h0;simp;try omega)
 ·exact ij e s pc r r st (if r i.d=r i.a then wU (pc+4*i.imm)else pc+4) hst (IE hx.h0)
theorem De(e:Me)(s:Mm)(n:Nat)(hs:MO s n)(i:Qi)(pc:Int)(r:Int→Int)(st:Int)(hx:Stx s i pc r st)(ho:i.op=35):
  bi prog 115 [.agg (sR pc r st).toArray,Pt e.m] [bh e.m 157 (mR e),own 5 1 co (sv e.vd) (s).d,own 5 1 co (sv e.vi) (s).i,own 3 1 eI (sv e.vr) (s).r] [] (.agg (oC (if r i.d≥r i.a then wU (pc+4*i.imm)else pc+4) r (st+1) 0 0).toArray) [bh e.m 157 (mR e),own 5 1 co (sv e.vd) (s).d,own 5 1 co (sv e.vi) (s).i,own 3 1 eI (sv e.vr) (s).r]:=by
 have hdd:=hx.f.hv.d;have haa:=hx.f.hv.a;have hbb:=hx.f.hv.b;have him:=hx.f.imm;have hpp:=hx.f.p;have hp2:=hx.p;have hst:=hx.hst;have hk:j_ i.op=0:=by rw [ho];rfl
 refine gT e s n hs i pc r st hx fun w0 M H b2 b4 b6 b7=> ?_
 refine bx (X:=Unit) (fun _=>True) (fun _=> [(4,Pt b4),(7,Pt b7),(11,I3 (if r i.d≥r i.a then wU (pc+4*i.imm)else pc+4))]) (fun _=> [(20,bh e.m 157 (mR e)),(21,own 5 1 co (sv e.vd) (s).d),(22,own 5 1 co (sv e.vi) (s).i),(23,own 3 1 eI (sv e.vr) (s).r),(4,bh b4 207 (oC 0 rj 0 0 0)),(7,bh b7 78 (sR pc r st))]) (fun _=> []) ?_ (fun _ _=> ?_)
 ·refine aB ?_;refine pe (by omega) (pd hk (qK (by omega) (tv (by omega) (qn (by omega) ?_))));refine ap (aC cv J (aQ 6 t3 J J J J (aw J J gI (ad J (aG [] J J O (fun hg1=>ag cv J) J (aG [(162,_)] J J ⟨J,O⟩ (fun hg2=>ah t3 J J (ay (k:=6) J J)) J (aG [(162,_),(163,_)] J J ⟨J,J,O⟩ (fun hg3=>aR J J lR) J (aP (bH J J J) (ak J (aa (ai J (fun h4=> ?_) (fun h4=> ?_))))))))))))
  ·(try simp only [bj]at h4);refine ap (aC cv J (aQ 6 t3 J J J J (ad J (ad J ?_))));rw [ho];refine aj (xs:= [.tmp 167,.tmp 168,.tmp 169]) (t7 (r i.d) (r i.a)) Lx [] [] [] (fun _ _=>ak J (aF J (ad J (aa (ai J (fun h5=> ?_) (fun h5=> ?_))))))
   ·(try simp only [bj]at h5);rw [ar h5];refine am (aC jk J (aQ 7 dm J J J J (aC d9 J (aQ 6 dm J J J J (aw J J (fG J) (aw J J (cw (c:=wU (pc+4*i.imm)) (zn _ _)) (ak J (aa (aJ () O J J J)))))))))
   ·(try simp only [bj]at h5);rw [ae h5];refine az (aJ () O J J J)
  ·(exfalso;have h0:=h4;revert h0;simp;try omega)
 ·exact ij e s pc r r st (if r i.d≥r i.a then wU (pc+4*i.imm)else pc+4) hst (IE hx.h0)
theorem EU(e:Me)(s:Mm)(n:Nat)(hs:MO s n)(i:Qi)(pc:Int)(r:Int→Int)(st:Int)(hx:Stx s i pc r st)(ho:i.op=40):
  bi prog 115 [.agg (sR pc r st).toArray,Pt e.m] [bh e.m 157 (mR e),own 5 1 co (sv e.vd) (s).d,own 5 1 co (sv e.vi) (s).i,own 3 1 eI (sv e.vr) (s).r] [] (.agg (oC (wU (pc+4*i.imm)) (rp r i.d (pc+4)) (st+1) 0 0).toArray) [bh e.m 157 (mR e),own 5 1 co (sv e.vd) (s).d,own 5 1 co (sv e.vi) (s).i,own 3 1 eI (sv e.vr) (s).r]:=by
 have hdd:=hx.f.hv.d;have haa:=hx.f.hv.a;have hbb:=hx.f.hv.b;have him:=hx.f.imm;have hpp:=hx.f.p;have hp2:=hx.p;have hst:=hx.hst;have hk:j_ i.op=0:=by rw [ho];rfl
 refine gT e s n hs i pc r st hx fun w0 M H b2 b4 b6 b7=> ?_
 refine bx (X:=Unit) (fun _=>True) (fun _=> [(4,Pt b4),(7,Pt b7),(11,I3 (wU (pc+4*i.imm)))]) (fun _=> [(20,bh e.m 157 (mR e)),(21,own 5 1 co (sv e.vd) (s).d),(22,own 5 1 co (sv e.vi) (s).i),(23,own 3 1 eI (sv e.vr) (s).r),(4,bh b4 207 (oC 0 rj 0 0 0)),(7,bh b7 78 (sR pc (rs r i.d (pc+4)) st))]) (fun _=> []) ?_ (fun _ _=> ?_)
 ·refine aB ?_;refine pe (by omega) (pd hk (qK (by omega) (tv (by omega) (qn (by omega) (w7 (by omega) ?_)))));refine ap (aC cv J (aQ 6 t3 J J J J (aw J J bn (ak J (aa (ai J (fun h1=> ?_) (fun h1=> ?_)))))))
  ·(try simp only [bj]at h1);refine ap (aC h_ J (aQ 6 t3 J J J J (ad J (aC ig J (aP (dz (j:=i.d.toNat) underlying75 dm J J (by omega) (by omega)) (aA (k:=7) (us:= [I3 (pc+4)]) (c':=sR pc (rs r i.d (pc+4)) st) dm J J J J J J (sn hx.f.hv.d) (nz hx.f.hv.d) (aa (am (aC jk J (aQ 7 dm J J J J (aC d9 J (aQ 6 dm J J J J (aw J J (fG J) (aw J J (cw (c:=wU (pc+4*i.imm)) (zn _ _)) (ak J (aa (aJ () O J J J)))))))))))))))))
  ·(exfalso;have h0:=h1;revert h0;simp;try omega)
 ·exact ij e s pc (rs r i.d (pc+4)) (rp r i.d (pc+4)) st (wU (pc+4*i.imm)) hst (xJ hx.h0)
theorem ES(e:Me)(s:Mm)(n:Nat)(hs:MO s n)(i:Qi)(pc:Int)(r:Int→Int)(st:Int)(hx:Stx s i pc r st)(ho:i.op=41):
  bi prog 115 [.agg (sR pc r st).toArray,Pt e.m] [bh e.m 157 (mR e),own 5 1 co (sv e.vd) (s).d,own 5 1 co (sv e.vi) (s).i,own 3 1 eI (sv e.vr) (s).r] [] (.agg (oC (pc+4) (rp r i.d (wU (i.imm*1024))) (st+1) 0 0).toArray) [bh e.m 157 (mR e),own 5 1 co (sv e.vd) (s).d,own 5 1 co (sv e.vi) (s).i,own 3 1 eI (sv e.vr) (s).r]:=by
 have hdd:=hx.f.hv.d;have haa:=hx.f.hv.a;have hbb:=hx.f.hv.b;have him:=hx.f.imm;have hpp:=hx.f.p;have hp2:=hx.p;have hst:=hx.hst;have hk:j_ i.op=0:=by rw [ho];rfl
 refine gT e s n hs i pc r st hx fun w0 M H b2 b4 b6 b7=> ?_
 refine bx (X:=Unit) (fun _=>True) (fun _=> [(4,Pt b4),(7,Pt b7),(11,I3 (pc+4))]) (fun _=> [(20,bh e.m 157 (mR e)),(21,own 5 1 co (sv e.vd) (s).d),(22,own 5 1 co (sv e.vi) (s).i),(23,own 3 1 eI (sv e.vr) (s).r),(4,bh b4 207 (oC 0 rj 0 0 0)),(7,bh b7 78 (sR pc (rs r i.d (wU (i.imm*1024))) st))]) (fun _=> []) ?_ (fun _ _=> ?_)
 ·refine aB ?_;refine pe (by omega) (pd hk (qK (by omega) (tv (by omega) (qn (by omega) (w7 (by omega) (AQ (by omega) ?_))))));refine ap (aC cv J (aQ 6 t3 J J J J (aw J J bn (ak J (aa (ai J (fun h1=> ?_) (fun h1=> ?_)))))))
  ·(try simp only [bj]at h1);refine am (aC h_ J (aQ 6 t3 J J J J (aC d9 J (aQ 6 dm J J J J (aw J J (jb (by decide) (by decide) J) (aC ig J (aP (dz (j:=i.d.toNat) underlying75 dm J J (by omega) (by omega)) (aA (k:=7) (us:= [I3 (wU (i.imm*1024))]) (c':=sR pc (rs r i.d (wU (i.imm*1024))) st) dm J J J J J J (sn hx.f.hv.d) (nz hx.f.hv.d) (aa (aJ () O J J J))))))))))
  ·(exfalso;have h0:=h1;revert h0;simp;try omega)
 ·exact ij e s pc (rs r i.d (wU (i.imm*1024))) (rp r i.d (wU (i.imm*1024))) st (pc+4) hst (xJ hx.h0)
theorem EQ(e:Me)(s:Mm)(n:Nat)(hs:MO s n)(i:Qi)(pc:Int)(r:Int→Int)(st:Int)(hx:Stx s i pc r st)(ho:i.op=48):
  bi prog 115 [.agg (sR pc r st).toArray,Pt e.m] [bh e.m 157 (mR e),own 5 1 co (sv e.vd) (s).d,own 5 1 co (sv e.vi) (s).i,own 3 1 eI (sv e.vr) (s).r] [] (.agg (oC pc r st 4 i.imm).toArray) [bh e.m 157 (mR e),own 5 1 co (sv e.vd) (s).d,own 5 1 co (sv e.vi) (s).i,own 3 1 eI (sv e.vr) (s).r]:=by
 have hdd:=hx.f.hv.d;have haa:=hx.f.hv.a;have hbb:=hx.f.hv.b;have him:=hx.f.imm;have hpp:=hx.f.p;have hp2:=hx.p;have hst:=hx.hst;have hk:j_ i.op=0:=by rw [ho];rfl
 refine gT e s n hs i pc r st hx fun w0 M H b2 b4 b6 b7=> ?_
 refine bx (X:=Unit) (fun _=>False) (fun _=> []) (fun _=> []) (fun _=> []) ?_ (fun _ hF=> ?_)
 ·refine aB ?_;refine pe (by omega) (pd hk (qK (by omega) (tv (by omega) (qn (by omega) (w7 (by omega) (AQ (by omega) (GW (by omega) ?_)))))));refine ap (aC cv J (aQ 6 t3 J J J J (aw J J bn (ak J (aa (ai J (fun h1=> ?_) (fun h1=> ?_)))))))
  ·(try simp only [bj]at h1);refine ap (aP (aM y_ J J J (aX (k:=2) J)) (aC d9 J (aQ 6 dm J J J J (aj (xs:= [.tmp 208,.const (I6 4),.tmp 210]) (oe pc r st 4 i.imm) Ly [] [] [] (fun _ _=>aq (k:=4) m8 J J J J J J (aa (ax (aH () O J (bQ (aV m8 J J J (aX (k:=4) J))) J [20,21,22,23] [] J J J))))))))
  ·(exfalso;have h0:=h1;revert h0;simp;try omega)
 ·exact hF.elim
theorem EV(e:Me)(s:Mm)(n:Nat)(hs:MO s n)(i:Qi)(pc:Int)(r:Int→Int)(st:Int)(hx:Stx s i pc r st)(ho:i.op=49):
  bi prog 115 [.agg (sR pc r st).toArray,Pt e.m] [bh e.m 157 (mR e),own 5 1 co (sv e.vd) (s).d,own 5 1 co (sv e.vi) (s).i,own 3 1 eI (sv e.vr) (s).r] [] (.agg (oC pc r st 3 0).toArray) [bh e.m 157 (mR e),own 5 1 co (sv e.vd) (s).d,own 5 1 co (sv e.vi) (s).i,own 3 1 eI (sv e.vr) (s).r]:=by
 have hdd:=hx.f.hv.d;have haa:=hx.f.hv.a;have hbb:=hx.f.hv.b;have him:=hx.f.imm;have hpp:=hx.f.p;have hp2:=hx.p;have hst:=hx.hst;have hk:j_ i.op=0:=by rw [ho];rfl
 refine gT e s n hs i pc r st hx fun w0 M H b2 b4 b6 b7=> ?_
 refine bx (X:=Unit) (fun _=>False) (fun _=> []) (fun _=> []) (fun _=> []) ?_ (fun _ hF=> ?_)
 ·refine aB ?_;refine pe (by omega) (pd hk (qK (by omega) (tv (by omega) (qn (by omega) (w7 (by omega) (AQ (by omega) (GW (by omega) (NF (by omega) ?_))))))));refine ap (aC cv J (aQ 6 t3 J J J J (aw J J bn (ak J (aa (ai J (fun h1=> ?_) (fun h1=> ?_)))))))
  ·(try simp only [bj]at h1);refine ap (aP (aM y_ J J J (aX (k:=2) J)) (aj (xs:= [.tmp 216,.const (I6 3),.const (I3 0)]) (oe pc r st 3 0) Ly [] [] [] (fun _ _=>aq (k:=4) m8 J J J J J J (aa (ax (aH () O J (bQ (aV m8 J J J (aX (k:=4) J))) J [20,21,22,23] [] J J J))))))
  ·(exfalso;have h0:=h1;revert h0;simp;try omega)
 ·exact hF.elim
theorem qw(n:Int):wU n=n%4294967296:=by
 unfold wU;simp [IntKind.wrap,IntKind.signed,IntKind.bits]
theorem RQ{a b:Int}(ha:oW a)(hb:oW b):bits .xor .u32 a b=((a.toNat^^^b.toNat:Nat):Int):=by
 have h1:bits .xor .u32 a b=IntKind.u32.wrap (((BitVec.ofInt 32 a^^^BitVec.ofInt 32 b).toNat:Nat):Int):=J;have h2:∀x:Int,oW x→(BitVec.ofInt 32 x).toNat=x.toNat:=fun x hx=>by
  rw [BitVec.toNat_ofInt,Int.emod_eq_of_lt hx.1 (by have:=hx.2;omega)]
 have h3:=(BitVec.ofInt 32 a^^^BitVec.ofInt 32 b).isLt;rw [h1,cd (by omega),BitVec.toNat_xor,h2 a ha,h2 b hb]
theorem HY{a b:Int}(ha:oW a)(hb:oW b):0<bits .xor .u32 a b↔¬a=b:=by
 rw [RQ ha hb];have h:a.toNat^^^b.toNat=0→a.toNat=b.toNat:=fun h=>by
  have h2:(a.toNat^^^b.toNat)^^^b.toNat=a.toNat:=by rw [Nat.xor_assoc,Nat.xor_self,Nat.xor_zero]
  rw [h,Nat.zero_xor]at h2;exact h2.symm
 have h1:=ha.1;have h2:=hb.1;constructor
 ·intro hx e;subst e;rw [Nat.xor_self]at hx;omega
 ·intro hn;have:¬(a.toNat^^^b.toNat=0):=fun e=>hn (by have:=h e;omega)
  omega
theorem HZ{a:Int}(ha:oW a):bits .xor .u32 a 4294967295=4294967295-a:=by
 have h1:bits .xor .u32 a 4294967295=IntKind.u32.wrap (((BitVec.ofInt 32 a^^^BitVec.ofInt 32 4294967295).toNat:Nat):Int):=J;have h2:BitVec.ofInt 32 4294967295=BitVec.allOnes 32:=by decide
 rw [h1,h2,BitVec.xor_allOnes,BitVec.toNat_not,BitVec.toNat_ofInt];have h4:=ha.1;have h5:=ha.2;have h3:(a%((2^32:Nat):Int)).toNat=a.toNat:=by
  rw [Int.emod_eq_of_lt ha.1 (by omega)]
 rw [h3,cd (by omega)];omega
theorem Sq{x y:Int}(hx:oW x)(hx2:x%1024=0)(hy:0≤y∧y<1024):bits .or .u32 x y=x+y:=by
 have h1:bits .or .u32 x y=IntKind.u32.wrap (((BitVec.ofInt 32 x ||| BitVec.ofInt 32 y).toNat:Nat):Int):=J;have h2:∀x:Int,oW x→(BitVec.ofInt 32 x).toNat=x.toNat:=fun x hx=>by
  rw [BitVec.toNat_ofInt,Int.emod_eq_of_lt hx.1 (by have:=hx.2;omega)]
 have h3:=(BitVec.ofInt 32 x ||| BitVec.ofInt 32 y).isLt;have h4:=hx.1;have h5:=hx.2;rw [h1,cd (by omega),BitVec.toNat_or,h2 x hx,h2 y ⟨hy.1,by omega⟩];have e:x.toNat=2^10*(x.toNat/2^10):=by omega
 rw [e,←Nat.two_pow_add_eq_or_of_lt (show y.toNat<2^10 by omega)];omega
theorem OA(b:Bool):bits .xor .u32 (tr b) 1=tr (!b):=by cases b<;>rfl
structure Kr(ks:List Int)(c c':Qs):Prop where
 m:c'.m=c.m
 i:c'.inp=c.inp
 o:c'.out=c.out
 r:∀k,k∉ks→c'.r k=c.r k
theorem ea{r:Int→Int}{d v:Int}(h:d≠0):rp r d v d=v:=ar ⟨rfl,h⟩
theorem cH{r:Int→Int}{d v k:Int}(h:k≠d):rp r d v k=r k:=ae fun e=>h e.1
theorem ez{r:Int→Int}{d v:Int}{ks:List Int}(h:d∈ks):∀k,k∉ks→rp r d v k=r k:=fun k hk=>cH fun e=>hk (e▸h)
section
variable{code:List Qi}
theorem jN{n:Int}{c:Qs}{P:Qs→Prop}{op d a b:Int}{p:Nat}{v:Int}(hpc:c.pc=p)(h:code[p]?=some (q3 op d a b))(h2:y6 op (c.r a) (c.r b)=some v)
  (h3:∀c',c'.pc=p+1→c'.r=rp c.r d v→c'.m=c.m→c'.inp=c.inp→c'.out=c.out→Go code (n-1) c' P) (ho:op<16:=by decide):Go code n c P:=
 Gl (i:=q3 op d a b) (hpc▸h) (by rw [ar (show(q3 op d a b).op<16 from ho)];exact h2) (h3 _ (by rw [←hpc]) rfl rfl rfl rfl)
theorem km{n:Int}{c:Qs}{P:Qs→Prop}{op d a x:Int}{p:Nat}{v:Int}(hpc:c.pc=p)(h:code[p]?=some (qi op d a x))(h2:y6 op (c.r a) x=some v)
  (h3:∀c',c'.pc=p+1→c'.r=rp c.r d v→c'.m=c.m→c'.inp=c.inp→c'.out=c.out→Go code (n-1) c' P) (ho:¬op<16:=by decide):Go code n c P:=
 Gl (i:=qi op d a x) (hpc▸h) (by rw [ae (show ¬(qi op d a x).op<16 from ho)];exact h2) (h3 _ (by rw [←hpc]) rfl rfl rfl rfl)
theorem Pq{p:Nat}{c:Qs}{o:Ba}{a b:Int}(hb:il o=true)(hc:cAt code p (C0 o))(hl:p<9000)(hpc:c.pc=p)(h0:c.r 0=0)(h2:c.r 2=a)(h1:c.r 1=b)(ha:oW a)(hw:oW b):
  Go code 5 c fun c'=>c'.pc=p+(C0 o).length∧c'.r 1=(pF o a b).getD 0∧Kr [1,3] c c':=by
 have one:∀{op x y:Int}{v:Int},cAt code p [q3 op 1 x y]→op<16→y6 op (c.r x) (c.r y)=some v→Go code 5 c fun c'=>c'.pc=p+1∧c'.r 1=v∧Kr [1,3] c c':=fun{op x y v} hc ho hv=>
  jN hpc hc.head.1 (v:=v) hv (fun c' e1 e2 e3 e4 e5=>Go.done (by decide) ⟨e1,by rw [e2];exact ea (by decide),e3,e4,e5,by rw [e2];exact ez (by decide)⟩) ho
 have two:∀{op x y:Int}{v:Bool},cAt code p [q3 op 1 x y,qi 19 1 1 1]→op<16→y6 op (c.r x) (c.r y)=some (tr v)→Go code 5 c fun c'=>c'.pc=p+2∧c'.r 1=tr (!v)∧Kr [1,3] c c':=fun{op x y v} hc ho hv=>
  jN hpc hc.head.1 (v:=tr v) hv (fun c' e1 e2 e3 e4 e5=>
   km e1 hc.head.2.head.1 (v:=tr (!v)) (by rw [←OA v,e2];rfl) fun c2 f1 f2 f3 f4 f5=>Go.done (by decide) ⟨by rw [f1],by rw [f2];exact ea (by decide),f3.trans e3,f4.trans e4,f5.trans e5,fun k hk=>by rw [f2,ez (by decide) k hk,e2];exact ez (by decide) k hk⟩) ho
 have ne:∀{l:List Qi},cAt code p (q3 5 1 2 1::q3 11 1 0 1::l)→∀{P:Qs→Prop},(∀c',c'.pc=p+2→c'.r 1=tr (!decide (a=b))→Kr [1,3] c c'→Go code 3 c' P)→Go code 5 c P:=fun{l} hc{P} hP=>
  jN hpc hc.head.1 (v:=bits .xor .u32 a b) (by rw [←h2,←h1];rfl) fun c' e1 e2 e3 e4 e5=>
   jN e1 hc.head.2.head.1 (v:=tr (!decide (a=b))) (by
    show some (tr (decide (c'.r 0<c'.r 1)))=_;rw [e2,cH (by decide),h0,ea (by decide)];have:=HY ha hw;by_cases h:a=b
    ·rw [decide_eq_false (fun x=>this.1 x h),decide_eq_true h];rfl
    ·rw [decide_eq_true (this.2 h),decide_eq_false h];rfl) fun c2 f1 f2 f3 f4 f5=>
   hP c2 f1 (by rw [f2];exact ea (by decide)) ⟨f3.trans e3,f4.trans e4,f5.trans e5,fun k hk=>by rw [f2,ez (by decide) k hk,e2];exact ez (by decide) k hk⟩
 unfold il at hb;obtain⟨q,hq⟩:=Option.isSome_iff_exists.1 hb;have hm:=List.mem_of_find?_eq_some hq;have he:=List.find?_some hq;have he:q.1=o:=by simpa using he
 subst he;simp only [lvL,List.mem_cons,List.not_mem_nil,or_false]at hm;rcases hm with rfl|rfl|rfl|rfl|rfl|rfl|rfl|rfl|rfl|rfl|rfl|rfl|rfl|rfl|rfl|rfl
 · -- remainder
  have hc':cAt code p [q3 1 3 1 0,qi 32 1 0 3,q3 10 3 2 1,q3 9 3 3 1,q3 2 1 2 3]:=hc;show Go code 5 c fun c'=>c'.pc=p+5∧c'.r 1=(if b=0 then a else a%b)∧Kr [1,3] c c'
  refine jN hpc hc'.head.1 (v:=b) (by
   show some (wU (c.r 1+c.r 0))=_;rw [h1,h0,Int.add_zero,gQ hw]) fun c1 e1 e2 e3 e4 e5=> ?_
  refine wG (d:=1) (a:=0) (x:=3) (by rw [e1];exact hc'.head.2.head.1) ?_;rw [e2,cH (by decide),cH (by decide),h1,h0,e1];by_cases hz:b=0
  ·rw [ar hz,ar hz,nt (q:=p+4) (by rw [show((p+4:Nat):Int)-((p+1:Nat):Int)=3 by omega];rfl) (by omega) (by omega)];refine jN (p:=p+4) J hc'.head.2.head.2.head.2.head.2.head.1 (v:=a) (by
    show some (wU (rp c.r 3 b 2-rp c.r 3 b 3))=_;rw [cH (by decide),ea (by decide),h2,hz,Int.sub_zero,gQ ha]) fun c2 f1 f2 f3 f4 f5=> ?_
   refine Go.done (by decide) ⟨f1,by rw [f2];exact ea (by decide),f3.trans e3,f4.trans e4,f5.trans e5,fun k hk=> ?_⟩;rw [f2,ez (by decide) k hk];exact ez (by decide) k hk
  ·rw [ae hz,ae hz];have hq1:a/b*b+a%b=a:=Int.ediv_mul_add_emod a b;have hq2:=Int.emod_nonneg a hz;have hq3:=Int.emod_lt_of_pos a (b:=b) (by have:=hw.1;omega);have hq4:0≤a/b:=Int.ediv_nonneg ha.1 hw.1;have hq5:0≤a/b*b:=Int.mul_nonneg hq4 hw.1;have ha2:=ha.2;have hw2:=hw.2;refine jN (p:=p+2) J hc'.head.2.head.2.head.1 (v:=a/b) (by
    show(if rp c.r 3 b 1=0 then none else some (rp c.r 3 b 2/rp c.r 3 b 1))=_;rw [cH (by decide),cH (by decide),h1,h2,ae hz]) fun c2 f1 f2 f3 f4 f5=> ?_
   refine jN f1 hc'.head.2.head.2.head.2.head.1 (v:=a/b*b) (by
    show some (wU (c2.r 3*c2.r 1))=_;rw [f2];show some (wU (rp (rp c.r 3 b) 3 (a/b) 3*rp (rp c.r 3 b) 3 (a/b) 1))=_;rw [ea (by decide),cH (by decide),cH (by decide),h1,gQ ⟨hq5,by omega⟩]) fun c3 g1 g2 g3 g4 g5=> ?_
   refine jN g1 hc'.head.2.head.2.head.2.head.2.head.1 (v:=a%b) (by
    show some (wU (c3.r 2-c3.r 3))=_;rw [g2,f2];show some (wU (rp (rp (rp c.r 3 b) 3 (a/b)) 3 (a/b*b) 2-rp (rp (rp c.r 3 b) 3 (a/b)) 3 (a/b*b) 3))=_;rw [ea (by decide),cH (by decide),cH (by decide),cH (by decide),h2,gQ (by omega)];exact congrArg some (by omega)) fun c4 k1 k2 k3 k4 k5=> ?_
   refine Go.done (by decide) ⟨k1,by rw [k2];exact ea (by decide),((k3.trans g3).trans f3).trans e3,((k4.trans g4).trans f4).trans e4,((k5.trans g5).trans f5).trans e5,fun k hk=> ?_⟩;rw [k2,ez (by decide) k hk,g2,ez (by decide) k hk,f2,ez (by decide) k hk];exact ez (by decide) k hk
 · -- quotient
  have hc':cAt code p [qi 32 1 0 2,q3 10 1 2 1]:=hc;show Go code 5 c fun c'=>c'.pc=p+2∧c'.r 1=(if b=0 then 0 else a/b)∧Kr [1,3] c c'
  refine wG (d:=1) (a:=0) (x:=2) (by rw [hpc];exact hc'.head.1) ?_;rw [h1,h0,hpc];by_cases hz:b=0
  ·rw [ar hz,ar hz,nt (q:=p+2) (by rw [show((p+2:Nat):Int)-(p:Int)=2 by omega];rfl) (by omega) (by omega)];exact Go.done (by decide) ⟨J,h1.trans hz,J,J,J,fun _ _=>J⟩
  ·rw [ae hz,ae hz];refine jN (p:=p+1) J hc'.head.2.head.1 (v:=a/b) (by
    show(if c.r 1=0 then none else some (c.r 2/c.r 1))=_;rw [h1,h2,ae hz]) fun c2 f1 f2 f3 f4 f5=> ?_
   exact Go.done (by decide) ⟨f1,by rw [f2];exact ea (by decide),f3,f4,f5,by rw [f2];exact ez (by decide)⟩
 ·exact one (op:=9) hc (by decide) (by rw [h2,h1];rfl)
 ·exact one (op:=2) hc (by decide) (by rw [h2,h1];rfl)
 ·exact one (op:=1) hc (by decide) (by rw [h2,h1];rfl)
 ·exact one (op:=7) hc (by decide) (by rw [h2,h1];rfl)
 ·exact one (op:=6) hc (by decide) (by rw [h2,h1];rfl)
 · -- at least
  have:=two (op:=11) (x:=2) (y:=1) (v:=decide (a<b)) hc (by decide) (by rw [h2,h1];rfl);show Go code 5 c fun c'=>c'.pc=p+2∧c'.r 1=tr (decide (a≥b))∧Kr [1,3] c c'
  rw [show decide (a≥b)= !decide (a<b) by rw [←decide_not];exact decide_eq_decide.2 (by omega)];exact this
 ·exact one (op:=11) (v:=tr (decide (b<a))) hc (by decide) (by rw [h2,h1];rfl)
 · -- at most
  have:=two (op:=11) (x:=1) (y:=2) (v:=decide (b<a)) hc (by decide) (by rw [h2,h1];rfl);show Go code 5 c fun c'=>c'.pc=p+2∧c'.r 1=tr (decide (a≤b))∧Kr [1,3] c c'
  rw [show decide (a≤b)= !decide (b<a) by rw [←decide_not];exact decide_eq_decide.2 (by omega)];exact this
 ·exact one (op:=11) hc (by decide) (by rw [h2,h1];rfl)
 ·exact ne (l:= []) hc fun c' e1 e2 e3=>Go.done (by decide) ⟨e1,e2,e3⟩
 · -- equal
  have hc':cAt code p [q3 5 1 2 1,q3 11 1 0 1,qi 19 1 1 1]:=hc;refine ne hc' fun c' e1 e2 e3=>km e1 hc'.head.2.head.2.head.1 (v:=tr (decide (a=b))) (by
   show some (bits .xor .u32 (c'.r 1) 1)=_;rw [e2,OA,Bool.not_not]) fun c2 f1 f2 f3 f4 f5=> ?_
  exact Go.done (by decide) ⟨f1,by rw [f2];exact ea (by decide),f3.trans e3.m,f4.trans e3.i,f5.trans e3.o,fun k hk=>by rw [f2,ez (by decide) k hk];exact e3.r k hk⟩
 ·exact one (op:=3) hc (by decide) (by rw [h2,h1];rfl)
 ·exact one (op:=5) hc (by decide) (by rw [h2,h1];rfl)
 ·exact one (op:=4) hc (by decide) (by rw [h2,h1];rfl)
theorem ON{p:Nat}{c:Qs}{o:Ba}{a:Int}(hb:cn o tQ=true)(hc:cAt code p (Eb o))(hpc:c.pc=p)(h0:c.r 0=0)(h1:c.r 1=a)(ha:oW a):
  Go code 2 c fun c'=>c'.pc=p+(Eb o).length∧c'.r 1=(Ec o a).getD 0∧Kr [1,2] c c':=by
 have two:∀{op x v:Int},cAt code p [qi 16 2 0 x,q3 op 1 1 2]→oW x→op<16→y6 op a x=some v→Go code 2 c fun c'=>c'.pc=p+2∧c'.r 1=v∧Kr [1,2] c c':=fun{op x v} hc hx ho hv=>
  km hpc hc.head.1 (v:=x) (by
   show some (wU (c.r 0+x))=_;rw [h0,Int.zero_add,gQ hx]) fun c' e1 e2 e3 e4 e5=>
   jN e1 hc.head.2.head.1 (v:=v) (by
    rw [e2];show y6 op (rp c.r 2 x 1) (rp c.r 2 x 2)=_;rw [cH (by decide),ea (by decide),h1];exact hv) (fun c2 f1 f2 f3 f4 f5=>Go.done (by decide) ⟨f1,by rw [f2];exact ea (by decide),f3.trans e3,f4.trans e4,f5.trans e5,fun k hk=>by rw [f2,ez (by decide) k hk,e2];exact ez (by decide) k hk⟩) ho
 unfold cn at hb;obtain⟨q,hm,he⟩:=List.any_eq_true.1 hb;have he:o=q:=by simpa using he
 subst he;simp only [tQ,List.mem_cons,List.not_mem_nil,or_false]at hm;rcases hm with rfl|rfl|rfl
 ·have hc':cAt code p [q3 2 1 0 1]:=hc;refine jN hpc hc'.head.1 (v:=wU (-a)) (by
   show some (wU (c.r 0-c.r 1))=_;rw [h0,h1,Int.zero_sub]) fun c' e1 e2 e3 e4 e5=>Go.done (by decide) ⟨e1,by rw [e2];exact ea (by decide),e3,e4,e5,by rw [e2];exact ez (by decide)⟩
 ·exact two (op:=5) hc (by decide) (by decide) (show some (bits .xor .u32 a 4294967295)=some (4294967295-a) by rw [HZ ha])
 ·refine two (op:=11) hc (by decide) (by decide) ?_;show some (tr (decide (a<1)))=some (tr (decide (a=0)));have:=ha.1;rw [show decide (a<1)=decide (a=0)from decide_eq_decide.2 (by omega)]
theorem MX{p:Nat}{c:Qs}{n:Int}(hc:cAt code p (qP n))(hpc:c.pc=p)(h0:c.r 0=0)(ha:oW n):
  Go code 2 c fun c'=>c'.pc=p+(qP n).length∧c'.r 1=n∧Kr [1] c c':=by
 unfold qP at hc ⊢;by_cases h:jr n=true
 ·rw [ar h]at hc ⊢;exact km hpc hc.head.1 (v:=n) (by
   show some (wU (c.r 0+n))=_;rw [h0,Int.zero_add,gQ ha]) fun c' e1 e2 e3 e4 e5=>Go.done (by decide) ⟨e1,by rw [e2];exact ea (by decide),e3,e4,e5,by rw [e2];exact ez (by decide)⟩
 ·rw [ae h]at hc ⊢;have h1:=ha.1;have h2:=ha.2;refine Nh (d:=1) (a:=0) (x:=n/1024) (by rw [hpc];exact hc.head.1) ?_;rw [gQ (by omega)];refine km (p:=p+1) (by rw [←hpc]) hc.head.2.head.1 (v:=n) (by
   show some (bits .or .u32 (rp c.r 1 (n/1024*1024) 1) (n%1024))=_;rw [ea (by decide),Sq ⟨by omega,by omega⟩ (by omega) (by omega)];exact congrArg some (by omega)) fun c' e1 e2 e3 e4 e5=>Go.done (by decide) ⟨e1,by rw [e2];exact ea (by decide),e3,e4,e5,fun k hk=>by
    rw [e2,ez (by decide) k hk];exact ez (by decide) k hk⟩
end
theorem N3{b:Int}(hb:oW b):bits .and .u32 b 255=b%256:=by
 have h1:bits .and .u32 b 255=IntKind.u32.wrap (((BitVec.ofInt 32 b&&&BitVec.ofInt 32 255).toNat:Nat):Int):=J;have h4:=hb.1;have h5:=hb.2;have h2:(BitVec.ofInt 32 b).toNat=b.toNat:=by
  rw [BitVec.toNat_ofInt,Int.emod_eq_of_lt hb.1 (by omega)]
 have h3:(BitVec.ofInt 32 255).toNat=2^8-1:=by decide
 rw [h1,BitVec.toNat_and,h2,h3,Nat.and_two_pow_sub_one_eq_mod,cd (by omega)];omega
structure St(d F sp:Int)(c:Qs):Prop where
 z:c.r 0=0
 d:c.r 12=d
 f:c.r 13=F
 s:c.r 14=sp
theorem St.of{d F sp:Int}{c c':Qs}(h:St d F sp c)(hk:∀k:Int,k=0∨k=12∨k=13∨k=14→c'.r k=c.r k):St d F sp c':=
 ⟨(hk 0 (by simp)).trans h.z,(hk 12 (by simp)).trans h.d,(hk 13 (by simp)).trans h.f,(hk 14 (by simp)).trans h.s⟩
theorem St.kr{d F sp:Int}{c c':Qs}{ks:List Int}(h:St d F sp c)(hk:Kr ks c c')(hn:∀k∈ks,¬(k=0∨k=12∨k=13∨k=14)):St d F sp c':=
 h.of fun k hk'=>hk.r k fun hm=>hn k hm hk'
structure pSm(c:Qs)(s:Ms):Prop where
 m:∀i:Nat,i<256→c.m (8192+4*(i:Int))=s.mem i
 i:c.inp=s.inp
 o:c.out=s.out
theorem pSm.kr{c c':Qs}{s:Ms}{ks:List Int}(h:pSm c s)(hk:Kr ks c c'):pSm c' s:=⟨fun i hi=>by rw [hk.m];exact h.m i hi,hk.i.trans h.i,hk.o.trans h.o⟩
def va(o:Om)(F:Int)(x:Ba):Int:=wU (F+bM o x)
structure Fs(o:Om)(N:List Ba)(F sp:Int):Prop where
 ok:∀x∈N,BM (va o F x)∧sp≤va o F x
 inj:∀x∈N,∀y∈N,va o F x=va o F y→x=y
def Fr(o:Om)(N:List Ba)(vs:Vs)(F:Int)(m:Int→Int):Prop:=∀x∈N,m (va o F x)=jc vs x
def lo(d:Nat):Int:=16384-256*d
structure Pr(o:Om)(N:List Ba)(vs:Vs)(d:Nat)(F sp:Int)(s:Ms)(c:Qs):Prop where
 st:St d F sp c
 fs:Fs o N F sp
 fr:Fr o N vs F c.m
 sm:pSm c s
 ok:okMs s
 vs:okVs vs
 al:sp%4=0∧sp≤16384
 fu:0≤s.fuel
 d1:1≤d∧d≤12
structure XO(fs:List Tf)(N:List Ba)(t:Tx):Prop where
 g:GX t
 r:rX t=true
 e:eX fs N t=0
theorem XO.kids{fs:List Tf}{N:List Ba}{k n:Int}{nm:Ba}{v:SV}{kids:List Tx}(h:XO fs N (.mk k n nm v kids)):∀u∈kids,XO fs N u:=by
 have hr:=h.r;have he:=h.e;have hg:=h.g;have hr2:(nZ k nm kids.length&&(decide (k=1) || decide (n=0))&&nq kids)=true:=hr;simp only [Bool.and_eq_true]at hr2;have he2:ir fs N kids=0:=(bw.1 he).2;have hg2:GXs kids:=hg.2.2.2;clear he hr hg h;have:∀l:List Tx,GXs l→nq l=true→ir fs N l=0→∀u∈l,XO fs N u:=by
  intro l
  induction l with
  | nil=>intro _ _ _ u hu;simp at hu
  | cons t l ih=>
   intro h1 h2 h3 u hu;have h2':(rX t&&nq l)=true:=h2;rw [Bool.and_eq_true]at h2';obtain⟨h4,h5⟩:=bw.1 h3;rcases List.mem_cons.1 hu with rfl|hu
   ·exact⟨h1.1,h2'.1,h4⟩
   ·exact ih h1.2 h2'.2 h5 u hu
 exact this kids hg2 hr2.2 he2
theorem Pr.of{o:Om}{N:List Ba}{vs:Vs}{d:Nat}{F sp sp':Int}{s s':Ms}{c c':Qs}(h:Pr o N vs d F sp s c)(hst:St d F sp' c')(hsm:pSm c' s')(hok:okMs s')(hfu:0≤s'.fuel)(hm:∀a,sp≤a→c'.m a=c.m a)(hs:sp'≤sp)(ha:sp'%4=0):
  Pr o N vs d F sp' s' c':=
 ⟨hst,⟨fun x hx=>⟨(h.fs.ok x hx).1,Int.le_trans hs (h.fs.ok x hx).2⟩,h.fs.inj⟩,fun x hx=>(hm _ (h.fs.ok x hx).2).trans (h.fr x hx),hsm,hok,h.vs,⟨ha,by have:=h.al;omega⟩,hfu,h.d1⟩
theorem Pr.pay{o:Om}{N:List Ba}{vs:Vs}{d:Nat}{F sp:Int}{s:Ms}{c:Qs}(h:Pr o N vs d F sp s c)(hf:¬s.fuel≤0):Pr o N vs d F sp {s with fuel:=s.fuel-1} c:=
 ⟨h.st,h.fs,h.fr,⟨h.sm.m,h.sm.i,h.sm.o⟩,(Kp.pay h.ok hf).ok,h.vs,h.al,by dsimp only;omega,h.d1⟩
def Bk(code:List Qi)(c:Qs):Prop:=code[c.pc]?=some ⟨49,0,0,0,0⟩
def XR(code:List Qi)(p':Nat)(d:Nat)(F sp:Int)(c:Qs)(s:Ms):Re Int→Prop
 | .ok v s1=>0≤s1.fuel∧Go code (100*(s.fuel-s1.fuel)-40) c fun c'=>c'.pc=p'∧c'.r 1=v∧St d F sp c'∧pSm c' s1∧∀a,sp≤a→c'.m a=c.m a
 | .err e=>e=26→Go code (100*s.fuel+50) c (Bk code)
def KR(code:List Qi)(p':Nat)(d:Nat)(F sp:Int)(c:Qs)(s:Ms)(acc:List Int)(n:Nat):Re (List Int)→Prop
 | .ok ks s1=>0≤s1.fuel∧∃new,ks=acc++new∧new.length=n∧Go code (100*(s.fuel-s1.fuel)) c fun c'=>c'.pc=p'∧St d F (sp-4*(n:Int)) c'∧pSm c' s1∧(∀a,sp≤a→c'.m a=c.m a)∧∀(i:Nat) x,new[i]?=some x→c'.m (sp-4*((i:Int)+1))=x
 | .err e=>e=26→Go code (100*s.fuel+50) c (Bk code)
def CR(code:List Qi)(q:Nat)(d:Nat)(F sp:Int)(n:Nat)(c:Qs)(s:Ms):Re Int→Prop
 | .ok v s1=>0≤s1.fuel∧Go code (100*(s.fuel-s1.fuel)+45) c fun c'=>c'.pc=q∧c'.r 1=v∧St d F sp c'∧pSm c' s1∧∀a,sp+4*(n:Int)≤a→c'.m a=c.m a
 | .err e=>e=26→Go code (100*s.fuel+100) c (Bk code)
section
variable(code:List Qi)(fs:List Tf)(S:Ba→Int)
def HX(g:Nat):Prop:=∀(d:Nat) vs t s r,fw g fs d vs t s=some r→∀o N p F sp c,XO fs N t→cAt code p (zX o S t p)→p+wX t≤1984→c.pc=p→Pr o N vs d F sp s c→lo d+16*dX t≤sp→XR code (p+wX t) d F sp c s r
def HK(g:Nat):Prop:=∀(d:Nat) vs acc l s r,iq g fs d vs acc l s=some r→∀o N p F sp c,(∀u∈l,XO fs N u)→cAt code p (zg o S l p)→p+tP l≤1984→c.pc=p→Pr o N vs d F sp s c→lo d+16*f_ l+4*l.length≤sp→KR code (p+tP l) d F sp c s acc l.length r
def HC(g:Nat):Prop:=∀(d:Nat) f al s r,lM g fs d f al s=some r→∀F sp c q,cy fs f.name=some f→al.length=f.ps.length→(∀a∈al,oW a)→c.pc=(S f.name).toNat→c.r 15=jo q→q<3000→St d F sp c→pSm c s→okMs s→0≤s.fuel→
 sp%4=0→sp+4*al.length≤16384→lo d≤sp→d≤12→(∀(i:Nat) x,al[i]?=some x→c.m (sp+4*((al.length:Int)-1-i))=x)→CR code q d F sp al.length c s r
end
theorem yj{g:Nat}{fs:List Tf}{d:Nat}{vs:Vs}{acc:List Int}{t:Tx}{l:List Tx}{s:Ms}{r:Re (List Int)}(h:iq g fs d vs acc (t::l) s=some r):
  ∃g' rx,g'<g∧fw g' fs d vs t s=some rx∧((∃v s1,rx= .ok v s1∧iq g' fs d vs (acc++ [v]) l s1=some r)∨∃e,rx= .err e∧r= .err e):=by
 cases g with
 | zero=>simp [iq]at h
 | succ g=>
  rw [iq]at h;cases hx:fw g fs d vs t s with
  | none=>rw [hx]at h;simp at h
  | some q=>
   rw [hx]at h;refine⟨g,q,Nat.lt_succ_self g,hx,?_⟩;cases q with
   | err e=>exact .inr ⟨e,rfl,(cf h).symm⟩
   | ok v s1=>exact .inl ⟨v,s1,rfl,h⟩
theorem Al{g:Nat}{fs:List Tf}{d:Nat}{vs:Vs}{acc:List Int}{s:Ms}{r:Re (List Int)}(h:iq g fs d vs acc [] s=some r):r= .ok acc s:=by
 cases g with
 | zero=>simp [iq]at h
 | succ g=>rw [iq]at h;exact(cf h).symm
section
variable{code:List Qi}{c:Qs}{p:Nat}{d F sp:Int}
theorem mI{r:Int}(hc:cAt code p (fQ r))(hpc:c.pc=p)(h:St d F sp c)(hr:r≠14)(hs:8196≤sp∧sp≤16384∧sp%4=0):
  Go code 2 c fun c'=>c'.pc=p+2∧St d F (sp-4) c'∧c'.m=mw c.m (sp-4) (c.r r)∧c'.inp=c.inp∧c'.out=c.out∧∀k,k≠14→c'.r k=c.r k:=by
 refine km hpc hc.head.1 (v:=sp-4) (by
  show some (wU (c.r 14+4294967292))=_;rw [h.s,qw];exact congrArg some (by omega)) fun c1 e1 e2 e3 e4 e5=> ?_
 have h14:c1.r 14=sp-4:=by rw [e2];exact ea (by decide)
 have hw:wU (c1.r 14+0)=sp-4:=by rw [h14,Int.add_zero,gQ (by omega)]
 have hk:∀k,k≠14→c1.r k=c.r k:=fun k hk=>by rw [e2];exact cH hk
 refine Av (d:=r) (a:=14) (x:=0) (by rw [e1];exact hc.head.2.head.1) (by rw [hw];exact⟨by omega,by omega,by omega⟩) (Go.done (by decide) ⟨by show c1.pc+1=_;rw [e1],⟨(hk 0 (by decide)).trans h.z,(hk 12 (by decide)).trans h.d,(hk 13 (by decide)).trans h.f,h14⟩,?_,e4,e5,hk⟩);show mw c1.m (wU (c1.r 14+0)) (c1.r r)=_;rw [hw,e3,hk r hr]
theorem wo{r:Int}(hc:cAt code p (lX r))(hpc:c.pc=p)(h:c.r 14=sp)(hr:r≠14∧r≠0)(hs:BM sp):
  Go code 2 c fun c'=>c'.pc=p+2∧c'.r r=c.m sp∧c'.r 14=sp+4∧Kr [r,14] c c':=by
 have hw:wU (c.r 14+0)=sp:=by rw [h,Int.add_zero,gQ ⟨by have:=hs.1;omega,by have:=hs.2.1;omega⟩]
 refine Aw (d:=r) (a:=14) (x:=0) (by rw [hpc];exact hc.head.1) (by rw [hw];exact hs) ?_;rw [hw];refine km (p:=p+1) (by rw [←hpc]) hc.head.2.head.1 (v:=sp+4) (by
  show some (wU (rp c.r r (c.m sp) 14+4))=_;rw [cH (fun e=>hr.1 e.symm),h,gQ ⟨by have:=hs.1;omega,by have:=hs.2.1;omega⟩]) fun c1 e1 e2 e3 e4 e5=> ?_
 refine Go.done (by decide) ⟨e1,by rw [e2,cH hr.1];exact ea hr.2,by rw [e2];exact ea (by decide),e3,e4,e5,fun k hk=> ?_⟩;simp only [List.mem_cons,List.not_mem_nil,or_false,not_or]at hk;rw [e2,cH hk.2];exact cH hk.1
theorem Cz{r x:Int}(hc:cAt code p (uy r))(hpc:c.pc=p)(hr:r≠0)(h:c.r r=x)(hx:oW x):
  Go code 2 c fun c'=>c'.pc=p+2∧c'.r r=4*(x%256)∧Kr [r] c c':=by
 refine km hpc hc.head.1 (v:=x%256) (by
  show some (bits .and .u32 (c.r r) 255)=_;rw [h,N3 hx]) fun c1 e1 e2 e3 e4 e5=> ?_
 refine km e1 hc.head.2.head.1 (v:=4*(x%256)) (by
  show some (wU (c1.r r*2^((2:Int)%32).toNat))=_;rw [e2,ea hr,show((2:Int)^((2:Int)%32).toNat)=4 from J,gQ (by omega)];exact congrArg some (by omega)) fun c2 f1 f2 f3 f4 f5=> ?_
 refine Go.done (by decide) ⟨f1,by rw [f2];exact ea hr,f3.trans e3,f4.trans e4,f5.trans e5,fun k hk=> ?_⟩;simp only [List.mem_cons,List.not_mem_nil,or_false]at hk;rw [f2,cH hk,e2];exact cH hk
end
theorem Fe{r:Int→Int}{v k:Int}:rp r 0 v k=r k:=ae fun h=>h.2 rfl
theorem uR{d:Nat}(h:d≤12):13312≤lo d:=by unfold lo;omega
theorem kO{m:Int→Int}{a v k:Int}(h:k≠a):mw m a v k=m k:=ae h
theorem qE{m:Int→Int}{a v:Int}:mw m a v a=v:=ar rfl
theorem pSm.push{c c':Qs}{s:Ms}{a v:Int}(h:pSm c s)(hm:c'.m=mw c.m a v)(hi:c'.inp=c.inp)(ho:c'.out=c.out)(ha:9216≤a):pSm c' s:=
 ⟨fun i hi=>by rw [hm,kO (by omega)];exact h.m i hi,hi.trans h.i,ho.trans h.o⟩
section
variable{code:List Qi}{fs:List Tf}{S:Ba→Int}{c:Qs}{p:Nat}{d:Nat}{F sp:Int}{o:Om}{N:List Ba}{vs:Vs}{s:Ms}
theorem Kw{g1 g2:Nat}{a b:Tx}{nm:Ba}{r1:Re Int}{w:Nat}(hF:VF fs)(h1:HX code fs S g1)(h2:HX code fs S g2)(hb:il nm=true)(ha:fw g1 fs d vs a s=some r1)(hva:VX fs a)(hvb:VX fs b)
  (hxa:XO fs N a) (hxb:XO fs N b) (hc:cAt code p (zX o S a p++(fQ 1++(zX o S b (p+(zX o S a p).length+2)++(lX 2++C0 nm))))) (hw:w=wX a+(wX b+(4+(C0 nm).length))) (hl:p+w≤1984) (hpc:c.pc=p) (hp:Pr o N vs d F sp s c) (hs1:lo d+16*dX a≤sp) (hs2:lo d+16*dX b+4≤sp)
  {r:Re Int} (hr:(∃v s1,r1= .ok v s1∧∃r2,fw g2 fs d vs b s1=some r2∧((∃x s2,r2= .ok x s2∧r= .ok ((pF nm v x).getD 0) s2)∨∃e,r2= .err e∧r= .err e))∨∃e,r1= .err e∧r= .err e):
  XR code (p+w) d F sp c s r:=by
 have hd:=uR hp.d1.2;obtain⟨hca,hc⟩:=hc.app;obtain⟨hcp,hc⟩:=hc.app;obtain⟨hcb,hc⟩:=hc.app;obtain⟨hcq,hco⟩:=hc.app;rw [ia]at hcp hcb hcq hco;rw [ia]at hcq hco;have hX:=h1 d vs a s r1 ha o N p F sp c hxa hca (by omega) hpc hp hs1;rcases hr with⟨v,s1,rfl,r2,hb2,hr⟩|⟨e,rfl,rfl⟩
 ·obtain⟨hv,hk1⟩:=(fI hF g1).x d vs a s v s1 hva hp.vs hp.ok ha;obtain⟨hf1,hX⟩:=hX;have mid:∀c',(c'.pc=p+wX a∧c'.r 1=v∧St d F sp c'∧pSm c' s1∧∀x,sp≤x→c'.m x=c.m x)→Go code 2 c' fun c2=>c2.pc=p+wX a+2∧Pr o N vs d F (sp-4) s1 c2∧c2.m (sp-4)=v∧∀x,sp≤x→c2.m x=c.m x:=fun c' ⟨e1,e2,e3,e4,e5⟩=>
   (mI hcp e1 e3 (by decide) ⟨by omega,hp.al.2,hp.al.1⟩).weak (fun c2 ⟨f1,f2,f3,f4,f5,f6⟩=>by
    have hm:∀x,sp≤x→c2.m x=c.m x:=fun x hx=>by rw [f3,kO (by omega)];exact e5 x hx
    exact⟨f1,hp.of f2 (e4.push f3 f4 f5 (by omega)) hk1.ok hf1 hm (by omega) (by have:=hp.al;omega),by rw [f3,qE,e2],hm⟩) (Int.le_refl _)
  have hX2:=hX.seq mid (k:=100*(s.fuel-s1.fuel)-38) (by omega);rcases hr with⟨x,s2,rfl,rfl⟩|⟨e,rfl,rfl⟩
  ·obtain⟨hx,hk2⟩:=(fI hF g2).x d vs b s1 x s2 hvb hp.vs hk1.ok hb2;obtain⟨hf2,-⟩:0≤s2.fuel∧True:=by
    obtain⟨_,c2,_,_,e1,e2,e3,e4⟩:=hX2;have:=h2 d vs b s1 _ hb2 o N (p+wX a+2) F (sp-4) c2 hxb hcb (by omega) e1 e2 (by omega);exact⟨this.1,O⟩
   refine⟨hf2,hX2.seq (m:=100*(s1.fuel-s2.fuel)-33) (fun c2 ⟨e1,e2,e3,e4⟩=> ?_) (by omega)⟩;have hX3:=(h2 d vs b s1 _ hb2 o N (p+wX a+2) F (sp-4) c2 hxb hcb (by omega) e1 e2 (by omega)).2;refine hX3.seq (m:=7) (fun c3 ⟨f1,f2,f3,f4,f5⟩=> ?_) (by omega);refine(wo (p:=p+wX a+2+wX b) (r:=2) hcq f1 f3.s (by decide) ⟨by omega,by have:=hp.al;omega,by have:=hp.al;omega⟩).seq (m:=5) (fun c4 ⟨g1,g2,g3,g4⟩=> ?_) (by omega);have h0:c4.r 0=0:=(g4.r 0 (by decide)).trans f3.z;have h2':c4.r 2=v:=by rw [g2,f5 _ (Int.le_refl _),e3]
   have h1':c4.r 1=x:=(g4.r 1 (by decide)).trans f2;refine(Pq (p:=p+wX a+2+wX b+2) hb hco (by omega) g1 h0 h2' h1' hv hx).weak (fun c5 ⟨k1,k2,k3⟩=>⟨by rw [k1];omega,k2,?_,(f4.kr g4).kr k3,fun a ha=> ?_⟩) (Int.le_refl _)
   ·exact⟨(k3.r 0 (by decide)).trans h0,((k3.r 12 (by decide)).trans (g4.r 12 (by decide))).trans f3.d,((k3.r 13 (by decide)).trans (g4.r 13 (by decide))).trans f3.f,((k3.r 14 (by decide)).trans g3).trans (by omega)⟩
   ·rw [k3.m,g4.m,f5 a (by omega),e4 a ha]
  ·intro he;refine hX2.seq (m:=100*s1.fuel+50) (fun c2 ⟨e1,e2,e3,e4⟩=> ?_) (by omega);exact h2 d vs b s1 _ hb2 o N (p+wX a+2) F (sp-4) c2 hxb hcb (by omega) e1 e2 (by omega) he
 ·exact hX
end
section
variable{code:List Qi}{fs:List Tf}{S:Ba→Int}
structure HA(code:List Qi)(fs:List Tf)(S:Ba→Int)(g:Nat):Prop where
 x:∀g'<g,HX code fs S g'
 k:∀g'<g,HK code fs S g'
 c:∀g'<g,HC code fs S g'
theorem XO.vx{N:List Ba}{t:Tx}(h:XO fs N t):VX fs t:=Kz t h.g h.r h.e
theorem XO.vxs{N:List Ba}:∀{l:List Tx},(∀u∈l,XO fs N u)→VXs fs l
 | [],_=>trivial
 | t::r,h=>⟨(h t (by simp)).vx,XO.vxs fun u hu=>h u (by simp [hu])⟩
theorem Jr{g:Nat}(hF:VF fs)(ih:HA code fs S g):HK code fs S g:=by
 intro d vs acc l s r h o N p F sp c hx hc hl hpc hp hsp;have hd:=uR hp.d1.2;cases l with
 | nil=>
  rw [Al h];refine⟨hp.fu,[],by simp,rfl,Go.done (by omega) ⟨by rw [hpc];rfl,?_,hp.sm,fun _ _=>rfl,fun i x hi=>by simp at hi⟩⟩;rw [show sp-4*(([]:List Tx).length:Int)=sp by simp];exact hp.st
 | cons t l=>
  obtain⟨g',rx,hg,hx1,hr⟩:=yj h;have hdx:f_ (t::l)=max (dX t) (f_ l):=J;have hw:tP (t::l)=wX t+(2+tP l):=J;have hc':cAt code p (zX o S t p++(fQ 1++zg o S l (p+(zX o S t p).length+2))):=hc;obtain⟨hca,hc2⟩:=hc'.app;obtain⟨hcp,hcl⟩:=hc2.app;rw [ia]at hcp hcl;rw [bP]at hsp;have hX:=ih.x g' hg d vs t s rx hx1 o N p F sp c (hx t (by simp)) hca (by omega) hpc hp (by omega);rcases hr with⟨v,s1,rfl,h2⟩|⟨e,rfl,rfl⟩
  ·obtain⟨hv,hk1⟩:=(fI hF g').x d vs t s v s1 (hx t (by simp)).vx hp.vs hp.ok hx1;obtain⟨hf1,hX⟩:=hX;have mid:∀c',(c'.pc=p+wX t∧c'.r 1=v∧St d F sp c'∧pSm c' s1∧∀x,sp≤x→c'.m x=c.m x)→Go code 2 c' fun c2=>c2.pc=p+wX t+2∧Pr o N vs d F (sp-4) s1 c2∧c2.m (sp-4)=v∧∀x,sp≤x→c2.m x=c.m x:=fun c' ⟨e1,e2,e3,e4,e5⟩=>
    (mI hcp e1 e3 (by decide) ⟨by omega,hp.al.2,hp.al.1⟩).weak (fun c2 ⟨f1,f2,f3,f4,f5,f6⟩=>by
     have hm:∀x,sp≤x→c2.m x=c.m x:=fun x hx=>by rw [f3,kO (by omega)];exact e5 x hx
     exact⟨f1,hp.of f2 (e4.push f3 f4 f5 (by omega)) hk1.ok hf1 hm (by omega) (by have:=hp.al;omega),by rw [f3,qE,e2],hm⟩) (Int.le_refl _)
   have hX2:=hX.seq mid (k:=100*(s.fuel-s1.fuel)-38) (by omega);have next:∀c2,(c2.pc=p+wX t+2∧Pr o N vs d F (sp-4) s1 c2∧c2.m (sp-4)=v∧∀x,sp≤x→c2.m x=c.m x)→KR code (p+wX t+2+tP l) d F (sp-4) c2 s1 (acc++ [v]) l.length r:=fun c2 ⟨e1,e2,e3,e4⟩=>
    ih.k g' hg d vs (acc++ [v]) l s1 r h2 o N (p+wX t+2) F (sp-4) c2 (fun u hu=>hx u (by simp [hu])) hcl (by omega) e1 e2 (by omega)
   cases r with
   | err e=>
    intro he;exact hX2.seq (fun c2 hc2=>next c2 hc2 he) (by omega)
   | ok ks s2=>
    obtain⟨_,c2,_,hrn,hP⟩:=id hX2;obtain⟨hf2,new,hn1,hn2,-⟩:=next c2 hP
    refine⟨hf2,v::new,by rw [hn1,List.append_assoc];rfl,by rw [bP,hn2,bP],hX2.seq (m:=100*(s1.fuel-s2.fuel)) (fun c2 hP=> ?_) (by omega)⟩;obtain⟨-,new',hm1,hm2,hG⟩:=next c2 hP
    have:new'=new:=List.append_cancel_left (hm1.symm.trans hn1);subst this;obtain⟨e1,e2,e3,e4⟩:=hP;refine hG.weak (fun c3 ⟨f1,f2,f3,f4,f5⟩=>⟨by rw [f1,hw];omega,?_,f3,fun a ha=>by rw [f4 a (by omega),e4 a ha],fun i x hi=> ?_⟩) (Int.le_refl _)
    ·rw [show sp-4*((t::l).length:Int)=sp-4-4*(l.length:Int) by rw [bP];omega];exact f2
    ·cases i with
     | zero=>
      cases hi;rw [show sp-4*(((0:Nat):Int)+1)=sp-4 by omega,f4 _ (Int.le_refl _),e3]
     | succ i=>
      have:=f5 i x hi;rw [show sp-4*(((i+1:Nat):Int)+1)=sp-4-4*((i:Int)+1) by omega];exact this
  ·exact hX
theorem MT{N:List Ba}{k n:Int}{nm:Ba}{v:SV}{kids:List Tx}(h:XO fs N (.mk k n nm v kids)):nZ k nm kids.length=true:=by
 have hr2:(nZ k nm kids.length&&(decide (k=1) || decide (n=0))&&nq kids)=true:=h.r;simp only [Bool.and_eq_true]at hr2;exact hr2.1.1
theorem Jb{N:List Ba}{n:Int}{nm:Ba}{v:SV}{kids:List Tx}(h:XO fs N (.mk 2 n nm v kids)):nm∈N:=by
 have he:=h.e;have he2:(if cn nm N=true then(0:Int)else 21)=0:=(bw.1 he).1;by_cases hm:cn nm N=true
 ·unfold cn at hm;obtain⟨q,h1,h2⟩:=List.any_eq_true.1 hm;have h2:nm=q:=by simpa using h2
  exact h2▸h1
 ·rw [ae hm]at he2;exact absurd he2 (by decide)
theorem D7{N:List Ba}{n:Int}{nm:Ba}{v:SV}{kids:List Tx}(h:XO fs N (.mk 3 n nm v kids)):∃f,cy fs nm=some f∧f.ps.length=kids.length:=by
 have he:=h.e;have he2:(match cy fs nm with|none=>(21:Int)|some f=>if f.ps.length=kids.length then 0 else 23)=0:=(bw.1 he).1;cases hf:cy fs nm with
 | none=>
  rw [hf]at he2;have he3:(21:Int)=0:=he2;exact absurd he3 (by decide)
 | some f=>
  rw [hf]at he2;refine⟨f,J,?_⟩;by_cases hq:f.ps.length=kids.length
  ·exact hq
  ·dsimp only at he2;rw [ae hq]at he2;exact absurd he2 (by decide)
theorem tk{fs:List Tf}{x:Ba}{f:Tf}(h:cy fs x=some f):f.name=x:=by
 have:=List.find?_some h;simpa using this
structure CP(code:List Qi)(fs:List Tf)(S:Ba→Int):Prop where
 pos:∀x f,cy fs x=some f→∃p:Nat,S x=(p:Int)∧p<3000
 ps:∀x f,cy fs x=some f→f.ps.length≤4
theorem Jn{g:Nat}(hF:VF fs)(hC:CP code fs S)(ih:HA code fs S g):HX code fs S g:=by
 intro d vs t s r h o N p F sp c hx hc hl hpc hp hsp;have hd:=uR hp.d1.2;cases g with
 | zero=>simp [fw]at h
 | succ g=>
  rw [fw]at h;by_cases hf:s.fuel≤0
  ·rw [ar hf]at h;cases h;intro e;exact absurd e (by decide)
  rw [ae hf]at h;have hp':=hp.pay hf;obtain⟨k,n,nm,v,kids⟩:=t;have hok:=MT hx;have hdx:dX (.mk k n nm v kids)=f_ kids+1:=J;rw [hdx]at hsp;obtain⟨s',hs'⟩:∃s',s'={s with fuel:=s.fuel-1}:=⟨_,J⟩
  have hsf:s'.fuel=s.fuel-1:=by rw [hs']
  rw [←hs']at h hp';dsimp only [Tx.kids,Tx.kind,Tx.n,Tx.name]at h;have back:∀{r:Re Int}{p':Nat},XR code p' d F sp c s' r→XR code p' d F sp c s r:=fun{r p'} h=>by
   cases r with
   | ok v s1=>exact⟨h.1,h.2.weak (fun _ h=>h) (by omega)⟩
   | err e=>exact fun he=>(h he).weak (fun _ h=>h) (by omega)
  rcases uL hok with⟨rfl,hn⟩|⟨rfl,hn⟩|⟨rfl,hn⟩|rfl|⟨rfl,hn⟩|⟨rfl,hu,hn⟩|⟨rfl,hb,hn⟩
  · -- a number
   have:kids= []:=List.length_eq_zero_iff.1 hn;subst this;cases hk:iq g fs d vs [] [] s' with
   | none=>rw [hk]at h;simp at h
   | some q=>
    rw [hk]at h;have:=Al hk;subst this;cases h;have hc':cAt code p (qP n):=hc;refine⟨hp'.fu,(MX hc' hpc hp.st.z hx.g.1).weak (fun c' ⟨e1,e2,e3⟩=>⟨e1,e2,hp.st.kr e3 (by decide),hp'.sm.kr e3,fun a _=>by rw [e3.m]⟩) (by omega)⟩
  · -- an input
   have:kids= []:=List.length_eq_zero_iff.1 hn;subst this;cases hk:iq g fs d vs [] [] s' with
   | none=>rw [hk]at h;simp at h
   | some q=>
    rw [hk]at h;have:=Al hk;subst this;have hc':cAt code p [⟨48,0,0,0,2⟩]:=hc;have hgo:∀{v1:Int}{s1:Ms},s1.fuel=s'.fuel→s1.out=s'.out→s1.mem=s'.mem→c.inp.headD 0=v1→c.inp.tail=s1.inp→XR code (p+1) d F sp c s (.ok v1 s1):=fun{v1 s1} e1 e2 e3 e4 e5=>by
     refine⟨by rw [e1];exact hp'.fu,PM (by rw [hpc];exact hc'.head.1) (Go.done (by omega) ⟨by rw [hpc],by show rp c.r 1 (c.inp.headD 0) 1=v1;rw [ea (by decide),e4],hp.st.of fun k hk=>cH (by omega),⟨fun i hi=>by rw [e3];exact hp'.sm.m i hi,e5,by rw [e2];exact hp'.sm.o⟩,fun _ _=>rfl⟩)⟩
    have hin:=hp'.sm.i;cases hi:s'.inp with
    | nil=>
     rw [hi]at hin;simp only [hi]at h;cases h;exact hgo J J J (by rw [hin];rfl) (by rw [hin,hi];rfl)
    | cons a r1=>
     rw [hi]at hin;simp only [hi]at h;cases h;exact hgo J J J (by rw [hin];rfl) (by rw [hin];rfl)
  · -- a name
   have:kids= []:=List.length_eq_zero_iff.1 hn;subst this;cases hk:iq g fs d vs [] [] s' with
   | none=>rw [hk]at h;simp at h
   | some q=>
    rw [hk]at h;have:=Al hk;subst this;cases h;have hc':cAt code p [qi 23 1 13 (bM o nm)]:=hc;have hN:=Jb hx;have hva:wU (c.r 13+bM o nm)=va o F nm:=by rw [hp.st.f];rfl
    refine⟨hp'.fu,Aw (d:=1) (a:=13) (x:=bM o nm) (by rw [hpc];exact hc'.head.1) (by rw [hva];exact(hp.fs.ok nm hN).1) (Go.done (by omega) ⟨by rw [hpc];rfl,?_,hp.st.of fun k hk=>cH (by omega),⟨hp'.sm.m,hp'.sm.i,hp'.sm.o⟩,fun _ _=>rfl⟩)⟩;rw [hva];show rp c.r 1 (c.m (va o F nm)) 1=_;rw [ea (by decide)];exact hp.fr nm hN
  · -- a call
   obtain⟨f,hff,hfl⟩:=D7 hx;have hc':cAt code p (zg o S kids p++([qi 40 15 0 (wU (S nm-((p+(zg o S kids p).length:Nat):Int)))]++if kids.length>0 then [qi 16 14 14 (4*kids.length)]else [])):=hc;have hw:wX (.mk 3 n nm v kids)=tP kids+(1+if kids.length>0 then 1 else 0):=J;rw [hw]at hl ⊢;obtain⟨hck,hc2⟩:=hc'.app;obtain⟨hcj,hca⟩:=hc2.app;rw [qV]at hcj hca;have h4:=hC.ps nm f hff;cases hk:iq g fs d vs [] kids s' with
   | none=>rw [hk]at h;simp at h
   | some q=>
    rw [hk]at h;have hK:=ih.k g (Nat.lt_succ_self g) d vs [] kids s' q hk o N p F sp c hx.kids hck (by omega) hpc hp' (by omega);cases q with
    | err e=>
     cases h;exact fun he=>(hK he).weak (fun _ h=>h) (by omega)
    | ok ks s1=>
     obtain⟨hk1,hk2,hk3⟩:=(fI hF g).k d vs [] kids s' ks s1 (XO.vxs hx.kids) hp'.vs hp'.ok (by simp) hk;obtain⟨hf1,new,hn1,hn2,hK⟩:=hK;rw [List.nil_append]at hn1;subst hn1;dsimp only at h;have h:(match cy fs nm with|none=>none|some f=>lM g fs d f ks s1)=some r:=h;rw [hff]at h;have h:lM g fs d f ks s1=some r:=h;obtain⟨pf,hpf,hpf2⟩:=hC.pos nm f hff;have hfn:=tk hff;obtain⟨q,hq⟩:∃q,q=p+tP kids+1:=⟨_,J⟩
     have mid:∀c',(c'.pc=p+tP kids∧St d F (sp-4*(kids.length:Int)) c'∧pSm c' s1∧(∀a,sp≤a→c'.m a=c.m a)∧∀(i:Nat) x,ks[i]?=some x→c'.m (sp-4*((i:Int)+1))=x)→
       Go code 1 c' fun c2=>CR code q d F (sp-4*(kids.length:Int)) kids.length c2 s1 r∧∀a,sp≤a→c2.m a=c.m a:=fun c' ⟨e1,e2,e3,e4,e5⟩=>by
      refine sT (d:=15) (a:=0) (x:=wU (S nm-((p+tP kids:Nat):Int))) (by rw [e1];exact hcj.head.1) (Go.done (by decide) ⟨?_,e4⟩);rw [e1,nt (q:=pf) (by rw [hpf]) (by omega) (by omega)];have hR:=ih.c g (Nat.lt_succ_self g) d f ks s1 r h F (sp-4*(kids.length:Int)) ⟨pf,rp c'.r 15 (jo (p+tP kids+1)),c'.m,c'.inp,c'.out⟩ q (by rw [hfn];exact hff) (by rw [hn2,hfl]) hk1 ?_ ?_ (by omega) ?_ ⟨e3.m,e3.i,e3.o⟩ hk3.ok hf1 (by have:=hp.al;omega) (by have:=hp.al;omega) (by omega) hp.d1.2 (fun i x hi=> ?_)
      ·rw [hn2]at hR;exact hR
      ·show pf=_;rw [hfn,hpf];rfl
      ·show rp c'.r 15 (jo (p+tP kids+1)) 15=_;rw [ea (by decide),hq]
      ·exact e2.of fun k hk=>by
        show rp c'.r 15 _ k=_;exact cH (by omega)
      ·have:=e5 i x hi;show c'.m _=x;rw [←this]
       congr 1
       omega
     have hM:=hK.seq mid (k:=100*(s'.fuel-s1.fuel)+1) (by omega);have pops:∀{v1:Int}{s2:Ms}(c3:Qs),c3.pc=q→c3.r 1=v1→St d F (sp-4*(kids.length:Int)) c3→pSm c3 s2→Go code 1 c3 fun c4=>c4.pc=p+(tP kids+(1+if kids.length>0 then 1 else 0))∧c4.r 1=v1∧St d F sp c4∧pSm c4 s2∧c4.m=c3.m:=fun{v1 s2} c3 f1 f2 f3 f4=>by
      by_cases hz:kids.length>0
      ·rw [ar hz]at hca ⊢;refine km (f1.trans hq) hca.head.1 (v:=sp) (by
        show some (wU (c3.r 14+4*(kids.length:Int)))=_;rw [f3.s,gQ ⟨by omega,by have:=hp.al;omega⟩];exact congrArg some (by omega)) fun c4 e1 e2 e3 e4 e5=>Go.done (by decide) ⟨by rw [e1];omega,by rw [e2,cH (by decide)];exact f2,⟨?_,?_,?_,by rw [e2];exact ea (by decide)⟩,⟨fun i hi=>by rw [e3];exact f4.m i hi,e4.trans f4.i,e5.trans f4.o⟩,e3⟩
       ·rw [e2,cH (by decide)];exact f3.z
       ·rw [e2,cH (by decide)];exact f3.d
       ·rw [e2,cH (by decide)];exact f3.f
      ·rw [ae hz];have:(kids.length:Int)=0:=by omega
       rw [this,show sp-4*0=sp by omega]at f3;exact Go.done (by decide) ⟨by rw [f1,hq];omega,f2,f3,f4,rfl⟩
     cases r with
     | err e=>exact fun he=>hM.seq (fun c2 ⟨hR,_⟩=>hR he) (by omega)
     | ok v2 s2=>
      have hf2:0≤s2.fuel:=by
       obtain⟨_,c2,_,_,hR,_⟩:=hM;exact hR.1
      refine⟨hf2,hM.seq (m:=100*(s1.fuel-s2.fuel)+46) (fun c2 ⟨hR,hm⟩=>hR.2.seq (m:=1) (fun c3 ⟨f1,f2,f3,f4,f5⟩=>(pops c3 f1 f2 f3 f4).weak (fun c4 ⟨k1,k2,k3,k4,k5⟩=>⟨k1,k2,k3,k4,fun a ha=> ?_⟩) (Int.le_refl _)) (by omega)) (by omega)⟩;rw [k5,f5 a (by omega),hm a ha]
  · -- an element of mem
   obtain⟨a,rfl⟩:=List.length_eq_one_iff.1 hn;cases hk:iq g fs d vs [] [a] s' with
   | none=>rw [hk]at h;simp at h
   | some q=>
    rw [hk]at h;obtain⟨g',rx,hg,hx1,hr⟩:=yj hk;have hxa:=hx.kids a (by simp);have hc':cAt code p (zX o S a p++(uy 1++ [qi 23 1 1 8192])):=hc;have hw:wX (.mk 4 n nm v [a])=wX a+3:=J;rw [hw]at hl ⊢;obtain⟨hca,hc2⟩:=hc'.app;obtain⟨hce,hcl⟩:=hc2.app;rw [ia]at hce hcl;have hda:f_ [a]=max (dX a) 0:=J;have hX:=ih.x g' (by omega) d vs a s' rx hx1 o N p F sp c hxa hca (by omega) hpc hp' (by omega);rcases hr with⟨x,s1,rfl,h2⟩|⟨e,rfl,rfl⟩
    ·have:=Al h2;subst this;obtain⟨hv,hk1⟩:=(fI hF g').x d vs a s' x s1 hxa.vx hp'.vs hp'.ok hx1;cases h;refine⟨hX.1,hX.2.seq (m:=3) (fun c1 ⟨e1,e2,e3,e4,e5⟩=> ?_) (by omega)⟩;refine(Cz (r:=1) hce e1 (by decide) e2 hv).seq (m:=1) (fun c2 ⟨f1,f2,f3⟩=> ?_) (by decide);have hw:wU (c2.r 1+8192)=8192+4*(((x%256).toNat:Nat):Int):=by rw [f2,gQ (by omega)];omega
     refine Aw (d:=1) (a:=1) (x:=8192) (by rw [f1];exact hcl.head.1) (by rw [hw];exact⟨by omega,by omega,by omega⟩) (Go.done (by decide) ⟨by show c2.pc+1=_;rw [f1];omega,?_,(e3.kr f3 (by decide)).of fun k hk=>cH (by omega),?_,fun a ha=>by rw [f3.m];exact e5 a ha⟩)
     ·rw [hw];show rp c2.r 1 (c2.m (8192+4*(((x%256).toNat:Nat):Int))) 1=_;rw [ea (by decide),f3.m,e4.m _ (by omega)];rfl
     ·have:=e4.kr f3;exact⟨this.m,this.i,this.o⟩
    ·cases h;exact back hX
  · -- a unary operator
   obtain⟨a,rfl⟩:=List.length_eq_one_iff.1 hn;cases hk:iq g fs d vs [] [a] s' with
   | none=>rw [hk]at h;simp at h
   | some q=>
    rw [hk]at h;obtain⟨g',rx,hg,hx1,hr⟩:=yj hk;have hxa:=hx.kids a (by simp);have hc':cAt code p (zX o S a p++Eb nm):=hc;have hw:wX (.mk 6 n nm v [a])=wX a+(Eb nm).length:=J;rw [hw]at hl ⊢;obtain⟨hca,hcu⟩:=hc'.app;rw [ia]at hcu;have hda:f_ [a]=max (dX a) 0:=J;have hX:=ih.x g' (by omega) d vs a s' rx hx1 o N p F sp c hxa hca (by omega) hpc hp' (by omega);rcases hr with⟨x,s1,rfl,h2⟩|⟨e,rfl,rfl⟩
    ·have:=Al h2;subst this;obtain⟨hv,hk1⟩:=(fI hF g').x d vs a s' x s1 hxa.vx hp'.vs hp'.ok hx1;cases h;refine⟨hX.1,hX.2.seq (m:=2) (fun c1 ⟨e1,e2,e3,e4,e5⟩=> ?_) (by omega)⟩;exact(ON hu hcu e1 e3.z e2 hv).weak (fun c2 ⟨f1,f2,f3⟩=>⟨by rw [f1];omega,f2,e3.kr f3 (by decide),e4.kr f3,fun a ha=>by rw [f3.m];exact e5 a ha⟩) (Int.le_refl _)
    ·cases h;exact back hX
  · -- a binary operator
   obtain⟨a,b,rfl⟩:∃a b,kids= [a,b]:=⟨_,_,List.eq_getElem_of_length_eq_two kids hn⟩
   cases hk:iq g fs d vs [] [a,b] s' with
   | none=>rw [hk]at h;simp at h
   | some q=>
    rw [hk]at h;obtain⟨g',rx,hg,hx1,hr⟩:=yj hk;have hxa:=hx.kids a (by simp);have hxb:=hx.kids b (by simp);have hda:f_ [a,b]=max (dX a) (max (dX b) 0):=J;have hw:wX (.mk 7 n nm v [a,b])=wX a+(wX b+(4+(C0 nm).length)):=J;rcases hr with⟨x,s1,rfl,h2⟩|⟨e,rfl,rfl⟩
    ·obtain⟨g'',ry,hg2,hx2,hr2⟩:=yj h2;refine back (Kw (r:=r) hF (ih.x g' (by omega)) (ih.x g'' (by omega)) hb hx1 hxa.vx hxb.vx hxa hxb hc hw hl hpc hp' (by omega) (by omega) (.inl ⟨x,s1,J,ry,hx2,?_⟩));rcases hr2 with⟨y,s2,rfl,h3⟩|⟨e,rfl,rfl⟩
     ·have:=Al h3;subst this;cases h;exact .inl ⟨y,s2,J,J⟩
     ·cases h;exact .inr ⟨e,J,J⟩
    ·cases h;exact back (Kw (r:= .err e) hF (ih.x g' (by omega)) (ih.x g' (by omega)) hb hx1 hxa.vx hxb.vx hxa hxb hc hw hl hpc hp' (by omega) (by omega) (.inr ⟨e,J,J⟩))
end
mutual
def SO(fs:List Tf)(N:List Ba):Ty→Prop
 | .mk k nm _ es _ body _ els=>uf k nm es.length body.length els.length=true∧(∀u∈es,XO fs N u∧dX u≤8)∧(k=1∨k=2→nm∈N)∧(body.length≤1000000∧SOs fs N body)∧(els.length≤1000000∧SOs fs N els)
def SOs(fs:List Tf)(N:List Ba):List Ty→Prop
 | []=>True
 | t::r=>SO fs N t∧SOs fs N r
end
mutual
theorem SO.vy{fs:List Tf}{N:List Ba}:∀{t:Ty},SO fs N t→VY fs t
 | .mk k nm ve es vb body vl els,h=>by
  obtain⟨h1,h2,h3,⟨h4,h5⟩,h6,h7⟩:=h;have hk:=z8 h1;have hes:es.length=if k=3 then 2 else 1:=hk.2.2.1
  exact⟨⟨by rw [hes];split<;>omega,by rw [hes];split<;>omega,fun h3=>by rw [hes,ar h3];exact bX _,XO.vxs fun u hu=>(h2 u hu).1⟩,⟨h4,SOs.vys h5⟩,h6,SOs.vys h7⟩
theorem SOs.vys{fs:List Tf}{N:List Ba}:∀{l:List Ty},SOs fs N l→VYs fs l
 | [],_=>trivial
 | t::r,h=>⟨h.1.vy,SOs.vys h.2⟩
end
def Kv(o:Om)(N:List Ba)(F sp:Int)(m m':Int→Int):Prop:=∀a,sp≤a→(∀x∈N,a≠va o F x)→m' a=m a
theorem Kv.trans{o:Om}{N:List Ba}{F sp:Int}{a b c:Int→Int}(h:Kv o N F sp a b)(h2:Kv o N F sp b c):Kv o N F sp a c:=fun x h3 h4=>(h2 x h3 h4).trans (h x h3 h4)
theorem Kv.of{o:Om}{N:List Ba}{F sp:Int}{a b:Int→Int}(h:∀x,sp≤x→b x=a x):Kv o N F sp a b:=fun x h3 _=>h x h3
def Ex(p' E:Nat)(q:Option Int)(c':Qs):Prop:=(q=none→c'.pc=p')∧∀v,q=some v→c'.pc=E∧c'.r 1=v
def SR(code:List Qi)(p' E:Nat)(b k:Int)(o:Om)(N:List Ba)(d:Nat)(F sp:Int)(c:Qs)(s:Ms):Re (Vs×Option Int)→Prop
 | .ok q s1=>0≤s1.fuel∧Go code (100*(s.fuel-s1.fuel)+k) c fun c'=>St d F sp c'∧pSm c' s1∧Fr o N q.1 F c'.m∧Kv o N F sp c.m c'.m∧Ex p' E q.2 c'
 | .err e=>e=26→Go code (100*s.fuel+b) c (Bk code)
def zW(o:Om)(S:Ba→Int)(E:Int)(e:Tx)(l:List Ty)(p:Nat):List Qi:=
 zX o S e p++([qi 32 1 0 (wU (((lS o S E l (p+wX e+1)).length+2:Nat):Int))]++(lS o S E l (p+wX e+1)++ [qi 40 0 0 (wU (-(((lS o S E l (p+wX e+1)).length+wX e+1:Nat):Int)))]))
section
variable(code:List Qi)(fs:List Tf)(S:Ba→Int)
def HB(g:Nat):Prop:=∀(d:Nat) vs l s r,gW g fs d vs l s=some r→∀o N p(E:Nat) F sp c,SOs fs N l→cAt code p (lS o S (E:Int) l p)→p+fR l≤1984→E≤1984→c.pc=p→Pr o N vs d F sp s c→lo d+132≤sp→SR code (p+fR l) E 50 0 o N d F sp c s r
def HS(g:Nat):Prop:=∀(d:Nat) vs t s r,i_ g fs d vs t s=some r→∀o N p(E:Nat) F sp c,SO fs N t→cAt code p (zY o S (E:Int) t p)→p+wY t≤1984→E≤1984→c.pc=p→Pr o N vs d F sp s c→lo d+132≤sp→SR code (p+wY t) E 50 0 o N d F sp c s r
def HW(g:Nat):Prop:=∀(d:Nat) vs e l v s r,kF g fs d vs e l v s=some r→∀o N p(E:Nat) F sp c,XO fs N e→dX e≤8→l.length≤1000000→SOs fs N l→cAt code p (zW o S (E:Int) e l p)→p+wX e+fR l+2≤1984→E≤1984→c.pc=p+wX e→c.r 1=v→Pr o N vs d F sp s c→lo d+132≤sp→
 SR code (p+wX e+fR l+2) E 60 2 o N d F sp c s r
structure HD(g:Nat):Prop extends HA code fs S g where
 b:∀g'<g,HB code fs S g'
 s:∀g'<g,HS code fs S g'
 w:∀g'<g,HW code fs S g'
end
section
variable{code:List Qi}{fs:List Tf}{S:Ba→Int}
theorem Pr.next{o:Om}{N:List Ba}{vs vs':Vs}{d:Nat}{F sp:Int}{s s':Ms}{c c':Qs}(h:Pr o N vs d F sp s c)(hst:St d F sp c')(hsm:pSm c' s')(hfr:Fr o N vs' F c'.m)(hok:okMs s')(hvs:okVs vs')(hfu:0≤s'.fuel):Pr o N vs' d F sp s' c':=
 ⟨hst,h.fs,hfr,hsm,hok,hvs,h.al,hfu,h.d1⟩
theorem Ex.none{p' E:Nat}{c':Qs}(h:c'.pc=p'):Ex p' E none c':=⟨fun _=>h,fun v hv=>by cases hv⟩
theorem SR.up{p' E:Nat}{b b' k k':Int}{o:Om}{N:List Ba}{d:Nat}{F sp:Int}{c0:Qs}{s s0:Ms}{r:Re (Vs×Option Int)}{n:Int}{P:Qs→Prop}(hg:Go code n c0 P)(h:∀c,P c→SR code p' E b k o N d F sp c s r)(hkv:∀c,P c→Kv o N F sp c0.m c.m)
  (h1:n+100*s.fuel+b≤100*s0.fuel+b') (h2:n+100*s.fuel+k≤100*s0.fuel+k'):SR code p' E b' k' o N d F sp c0 s0 r:=by
 cases r with
 | err e=>exact fun he=>hg.seq (fun c hc=>h c hc he) (by omega)
 | ok q s1=>
  have hf:0≤s1.fuel:=by
   obtain⟨_,c2,_,_,hP⟩:=hg;exact(h c2 hP).1
  exact⟨hf,hg.seq (fun c hc=>(h c hc).2.weak (fun c' ⟨e1,e2,e3,e4,e5⟩=>⟨e1,e2,e3,(hkv c hc).trans e4,e5⟩) (Int.le_refl _)) (by omega)⟩
theorem Jv{g:Nat}(hF:VF fs)(ih:HD code fs S g):HB code fs S g:=by
 intro d vs l s r h o N p E F sp c hx hc hl hE hpc hp hsp;cases g with
 | zero=>simp [gW]at h
 | succ g=>
  cases l with
  | nil=>
   rw [gW]at h;cases h;exact⟨hp.fu,Go.done (by omega) ⟨hp.st,hp.sm,hp.fr,Kv.of fun _ _=>J,Ex.none hpc⟩⟩
  | cons t l=>
   rw [gW]at h;have hc':cAt code p (zY o S E t p++lS o S E l (p+(zY o S E t p).length)):=hc;have hw:fR (t::l)=wY t+fR l:=J;obtain⟨hct,hcl⟩:=hc'.app;rw [zf]at hcl;cases hs:i_ g fs d vs t s with
   | none=>rw [hs]at h;simp at h
   | some q=>
    rw [hs]at h;have hS:=ih.s g (Nat.lt_succ_self g) d vs t s q hs o N p E F sp c hx.1 hct (by omega) hE hpc hp hsp;cases q with
    | err e=>cases h;exact hS
    | ok q s1=>
     obtain⟨vs1,q⟩:=q;obtain⟨k1,k2,k3⟩:=(fI hF g).s d vs t s _ s1 hx.1.vy hp.vs hp.ok hs;cases q with
     | some v=>
      cases h;exact⟨hS.1,hS.2.weak (fun c' ⟨e1,e2,e3,e4,e5⟩=>⟨e1,e2,e3,e4,fun hq=>(by cases hq),e5.2⟩) (Int.le_refl _)⟩
     | none=>
      have h:gW g fs d vs1 l s1=some r:=h;rw [hw,←Nat.add_assoc];refine SR.up (s:=s1) (b:=50) (k:=0) hS.2 (fun c' ⟨e1,e2,e3,e4,e5⟩=> ?_) (fun c' ⟨e1,e2,e3,e4,e5⟩=>e4) (by omega) (by omega);exact ih.b g (Nat.lt_succ_self g) d vs1 l s1 r h o N (p+wY t) E F sp c' hx.2 hcl (by omega) hE (e5.1 J) (hp.next e1 e2 e3 k3.ok k1 hS.1) hsp
theorem r6(vs:Vs)(x y:Ba)(n:Int):jc (fc vs x n) y=if x=y then n else jc vs y:=iv vs x y n
theorem Jp{g:Nat}(hF:VF fs)(ih:HD code fs S g):HW code fs S g:=by
 intro d vs e l v s r h o N p E F sp c hxe hde hll hxl hc hl hE hpc hv hp hsp;cases g with
 | zero=>simp [kF]at h
 | succ g=>
  rw [kF]at h;unfold zW at hc;obtain⟨hce,hc2⟩:=id hc.app;obtain⟨hcb,hc3⟩:=hc2.app;obtain⟨hcl,hcj⟩:=hc3.app;rw [ia]at hcb hcl hcj;rw [fJ]at hcb hcj;have hbeq:=hcb.head.1;have hz0:∀{P:Qs→Prop}{n:Int},Go code (n-1) {c with pc:=if v=0 then p+wX e+fR l+2 else p+wX e+1} P→Go code n c P:=fun{P n} hG=>by
   refine wG (d:=1) (a:=0) (x:=wU (((fR l+2:Nat):Int))) (by rw [hpc];exact hbeq) ?_;rw [hv,hp.st.z,hpc];by_cases hz:v=0
   ·rw [ar hz]at hG ⊢;rw [nt (q:=p+wX e+fR l+2) (by rw [show((p+wX e+fR l+2:Nat):Int)-((p+wX e:Nat):Int)=((fR l+2:Nat):Int) by omega]) (by omega) (by omega)];exact hG
   ·rw [ae hz]at hG ⊢;exact hG
  by_cases hz:v=0
  ·rw [ar hz]at h hz0;cases h;exact⟨hp.fu,hz0 (Go.done (by omega) ⟨hp.st.of fun _ _=>J,⟨hp.sm.m,hp.sm.i,hp.sm.o⟩,hp.fr,Kv.of fun _ _=>J,Ex.none J⟩)⟩
  ·rw [ae hz]at h hz0;obtain⟨c1,hc1⟩:∃c1:Qs,c1={c with pc:=p+wX e+1}:=⟨_,J⟩
   rw [←hc1]at hz0;have hp1:Pr o N vs d F sp s c1:=by rw [hc1];exact⟨hp.st.of fun _ _=>J,hp.fs,hp.fr,⟨hp.sm.m,hp.sm.i,hp.sm.o⟩,hp.ok,hp.vs,hp.al,hp.fu,hp.d1⟩
   have hm1:c1.m=c.m:=by rw [hc1]
   have hg1:Go code 1 c fun x=>x=c1:=hz0 (Go.done (by decide) J)
   cases hb:gW g fs d vs l s with
   | none=>rw [hb]at h;simp at h
   | some q=>
    rw [hb]at h;have hB:=ih.b g (Nat.lt_succ_self g) d vs l s q hb o N (p+wX e+1) E F sp c1 hxl hcl (by omega) hE (by rw [hc1]) hp1 hsp;cases q with
    | err z=>cases h;exact fun he=>hg1.seq (m:=100*s.fuel+50) (fun x hx=>by subst hx;exact hB he) (by omega)
    | ok q s1=>
     obtain⟨vs1,q⟩:=q;obtain⟨k1,k2,k3⟩:=(fI hF g).b d vs l s _ s1 hxl.vys hp.vs hp.ok hb;cases q with
     | some x=>
      cases h;exact⟨hB.1,hg1.seq (m:=100*(s.fuel-s1.fuel)) (fun x hx=>by subst hx;exact hB.2.weak (fun c' ⟨e1,e2,e3,e4,e5⟩=>⟨e1,e2,e3,by rw [←hm1];exact e4,fun hq=>(by cases hq),e5.2⟩) (by omega)) (by omega)⟩
     | none=>
      dsimp only at h;have hB2:Go code (100*(s.fuel-s1.fuel)+2) c fun c'=>St d F sp c'∧pSm c' s1∧Fr o N vs1 F c'.m∧Kv o N F sp c.m c'.m∧c'.pc=p:=hg1.seq (m:=100*(s.fuel-s1.fuel)+1) (fun x hx=>by
       subst hx;refine hB.2.seq (m:=1) (fun c' ⟨e1,e2,e3,e4,e5⟩=> ?_) (by omega);have e5:=e5.1 J;obtain⟨x,hxx⟩:∃x,x=wU (-(((fR l+wX e+1:Nat):Int))):=⟨_,J⟩
       have hj:=hcj.head.1;rw [←hxx]at hj;refine sT (d:=0) (a:=0) (x:=x) (by rw [e5];exact hj) (Go.done (by decide) ⟨e1.of fun k hk=>Fe,⟨e2.m,e2.i,e2.o⟩,e3,by rw [←hm1];exact e4,?_⟩);show uK (wU (jo c'.pc+4*x))=p;rw [e5,hxx];exact nt (by rw [show(p:Int)-((p+wX e+1+fR l:Nat):Int)= -((fR l+wX e+1:Nat):Int) by omega]) (by omega) (by omega)) (by omega)
      cases hx2:fw g fs d vs1 e s1 with
      | none=>rw [hx2]at h;simp at h
      | some q=>
       rw [hx2]at h;have hX:∀c',(St d F sp c'∧pSm c' s1∧Fr o N vs1 F c'.m∧Kv o N F sp c.m c'.m∧c'.pc=p)→XR code (p+wX e) d F sp c' s1 q:=fun c' ⟨e1,e2,e3,e4,e5⟩=>
        ih.x g (Nat.lt_succ_self g) d vs1 e s1 q hx2 o N p F sp c' hxe hce (by omega) e5 (hp.next e1 e2 e3 k3.ok k1 hB.1) (by omega)
       cases q with
       | err z=>cases h;exact fun he=>hB2.seq (m:=100*s1.fuel+50) (fun c' hc'=>hX c' hc' he) (by omega)
       | ok w s2=>
        obtain⟨w1,w2⟩:=(fI hF g).x d vs1 e s1 w s2 hxe.vx k1 k3.ok hx2;have h:kF g fs d vs1 e l w s2=some r:=h;have hf2:0≤s2.fuel:=by
         obtain⟨_,c2,_,_,hP⟩:=hB2;exact(hX c2 hP).1
        have hX2:Go code (100*(s.fuel-s2.fuel)-38) c fun c'=>(St d F sp c'∧pSm c' s2∧Fr o N vs1 F c'.m∧Kv o N F sp c.m c'.m)∧c'.pc=p+wX e∧c'.r 1=w:=hB2.seq (m:=100*(s1.fuel-s2.fuel)-40) (fun c' hc'=>(hX c' hc').2.weak (fun c2 ⟨f1,f2,f3,f4,f5⟩=>by
         obtain⟨e1,e2,e3,e4,e5⟩:=hc';exact⟨⟨f3,f4,fun x hx=>(f5 _ (hp.fs.ok x hx).2).trans (e3 x hx),e4.trans (Kv.of f5)⟩,f1,f2⟩) (Int.le_refl _)) (by omega)
        refine SR.up (s:=s2) hX2 (fun c' ⟨⟨e1,e2,e3,e4⟩,e5,e6⟩=> ?_) (fun c' h=>h.1.2.2.2) (b:=60) (k:=2) (by omega) (by omega);exact ih.w g (Nat.lt_succ_self g) d vs1 e l w s2 r h o N p E F sp c' hxe hde hll hxl (by unfold zW;exact hc) hl hE e5 e6 (hp.next e1 e2 e3 w2.ok k1 hf2) hsp
theorem Kv.mw{o:Om}{N:List Ba}{F sp:Int}{m:Int→Int}{x:Ba}{v:Int}(hx:x∈N):Kv o N F sp m (mw m (va o F x) v):=fun a _ h=>kO (h x hx)
theorem Fr.put{o:Om}{N:List Ba}{vs:Vs}{F sp:Int}{m:Int→Int}{x:Ba}{v:Int}(h:Fr o N vs F m)(hf:Fs o N F sp)(hx:x∈N):Fr o N (fc vs x v) F (mw m (va o F x) v):=fun y hy=>by
 rw [r6];by_cases e:x=y
 ·subst e;rw [ar J,qE]
 ·rw [ae e,kO fun q=>e (hf.inj x hx y hy q.symm)];exact h y hy
theorem Nz{g:Nat}{d:Nat}{vs:Vs}{k:Int}{nm:Ba}{ve vb vl:SV}{e:Tx}{es:List Tx}{body els:List Ty}{s s1:Ms}{v:Int}(hf:¬s.fuel≤0)(hx:fw g fs d vs e {s with fuel:=s.fuel-1}=some (.ok v s1)):
  i_ (g+1) fs d vs (.mk k nm ve (e::es) vb body vl els) s=
    if k=1∨k=2 then some (.ok (fc vs nm v,none) s1)else
    if k=3 then(match es with
     | []=>none
     | e2::_=>match fw g fs d vs e2 s1 with
      | none=>none
      | some (.err e)=>some (.err e)
      | some (.ok w s2)=>some (.ok (vs,none) {s2 with mem:=ui s2.mem (v%256).toNat w}))else
    if k=4 then gW g fs d vs (if v=0 then els else body) s1 else
    if k=5 then kF g fs d vs e body v s1 else
    if k=6 then some (.ok (vs,some v) s1)else if k=7 then some (.ok (vs,none) {s1 with out:=s1.out++ [v]})else some (.ok (vs,none) s1):=by
 rw [i_,ae hf];dsimp only [Ty.es];rw [hx];rfl
theorem GQ{g:Nat}{d:Nat}{vs:Vs}{k:Int}{nm:Ba}{ve vb vl:SV}{e:Tx}{es:List Tx}{body els:List Ty}{s:Ms}(hf:¬s.fuel≤0)(hx:fw g fs d vs e {s with fuel:=s.fuel-1}=none):
  i_ (g+1) fs d vs (.mk k nm ve (e::es) vb body vl els) s=none:=by
 rw [i_,ae hf];dsimp only [Ty.es];rw [hx]
theorem J3{g:Nat}{d:Nat}{vs:Vs}{k:Int}{nm:Ba}{ve vb vl:SV}{e:Tx}{es:List Tx}{body els:List Ty}{s:Ms}{z:Int}(hf:¬s.fuel≤0)(hx:fw g fs d vs e {s with fuel:=s.fuel-1}=some (.err z)):
  i_ (g+1) fs d vs (.mk k nm ve (e::es) vb body vl els) s=some (.err z):=by
 rw [i_,ae hf];dsimp only [Ty.es];rw [hx]
theorem Jq{g:Nat}(hF:VF fs)(ih:HD code fs S g):HS code fs S g:=by
 intro d vs t s r h o N p E F sp c hx hc hl hE hpc hp hsp;have hd:=uR hp.d1.2;cases g with
 | zero=>simp [i_]at h
 | succ g=>
  by_cases hf:s.fuel≤0
  ·rw [i_,ar hf]at h;cases h;intro e;exact absurd e (by decide)
  have hp':=hp.pay hf;obtain⟨k,nm,ve,es,vb,body,vl,els⟩:=t;obtain⟨hok,hes,hnm,⟨hbl,hbo⟩,hel,heo⟩:=hx;have hk:=z8 hok;obtain⟨s',hs'⟩:∃s',s'={s with fuel:=s.fuel-1}:=⟨_,J⟩
  have hsf:s'.fuel=s.fuel-1:=by rw [hs']
  rw [←hs']at hp';cases es with
  | nil=>
   have:=hk.2.2.1;split at this<;>simp at this
  | cons e es=>
   have hxe:=(hes e (by simp)).1;have hde:=(hes e (by simp)).2;have hca:cAt code p (zX o S e p):=by
    have hc':=hc;unfold zY at hc';by_cases q1:k=1∨k=2
    ·rw [ar q1]at hc';exact hc'.app.1
    rw [ae q1]at hc';by_cases q3:k=3
    ·rw [ar q3]at hc';exact hc'.app.1
    rw [ae q3]at hc';by_cases q7:k=7
    ·rw [ar q7]at hc';exact hc'.app.1
    rw [ae q7]at hc';by_cases q6:k=6
    ·rw [ar q6]at hc';exact hc'.app.1
    rw [ae q6]at hc';by_cases q4:k=4
    ·rw [ar q4]at hc';exact hc'.app.1
    rw [ae q4]at hc';by_cases q5:k=5
    ·rw [ar q5]at hc';exact hc'.app.1
    rw [ae q5]at hc';exact hc'
   have hwe:wX e≤wY (.mk k nm ve (e::es) vb body vl els):=by
    unfold wY;show jZ (e::es)≤_
    repeat' split
    all_goals omega
   cases hx1:fw g fs d vs e s' with
   | none=>
    rw [GQ hf (by rw [←hs'];exact hx1)]at h;cases h
   | some q=>
    have hX:=ih.x g (Nat.lt_succ_self g) d vs e s' q hx1 o N p F sp c hxe hca (by omega) hpc hp' (by omega);cases q with
    | err z=>
     rw [J3 hf (by rw [←hs'];exact hx1)]at h;cases h;exact fun he=>(hX he).weak (fun _ h=>h) (by omega)
    | ok v s1=>
     obtain⟨hv,hk1⟩:=(fI hF g).x d vs e s' v s1 hxe.vx hp'.vs hp'.ok hx1;rw [Nz hf (by rw [←hs'];exact hx1)]at h;obtain⟨hf1,hX⟩:=hX;have hX1:Go code (100*(s.fuel-s1.fuel)-140) c fun c'=>c'.pc=p+wX e∧c'.r 1=v∧(∀a,sp≤a→c'.m a=c.m a)∧Pr o N vs d F sp s1 c':=hX.weak (fun c' ⟨e1,e2,e3,e4,e5⟩=>⟨e1,e2,e5,hp.of e3 e4 hk1.ok hf1 e5 (Int.le_refl _) hp.al.1⟩) (by omega)
     by_cases q1:k=1∨k=2
     · -- a variable
      rw [ar q1]at h;cases h;have hc':cAt code p (zX o S e p++ [qi 25 1 13 (bM o nm)]):=by
       have hc':=hc;unfold zY at hc';rw [ar q1]at hc';exact hc'
      have hw:wY (.mk k nm ve (e::es) vb body vl els)=wX e+1:=by unfold wY;rw [ar q1];rfl
      rw [hw];have hcs:=hc'.app.2;rw [ia]at hcs;have hN:=hnm q1;refine⟨hf1,hX1.seq (m:=1) (fun c1 ⟨e1,e2,e3,e4⟩=> ?_) (by omega)⟩;have hva:wU (c1.r 13+bM o nm)=va o F nm:=by rw [e4.st.f];rfl
      refine Av (d:=1) (a:=13) (x:=bM o nm) (by rw [e1];exact hcs.head.1) (by rw [hva];exact(hp.fs.ok nm hN).1) (Go.done (by decide) ?_);rw [hva,e2];refine⟨e4.st.of fun _ _=>J,e4.sm.push J J J (by have:=(hp.fs.ok nm hN).2;omega),e4.fr.put e4.fs hN,(Kv.of e3).trans (Kv.mw hN),Ex.none (by show c1.pc+1=_;rw [e1];rfl)⟩
     rw [ae q1]at h;by_cases q3:k=3
     · -- an element of mem
      rw [ar q3]at h;subst q3;have hn:(e::es).length=2:=by have:=hk.2.2.1;rw [ar J]at this;exact this
      obtain⟨e2,rfl⟩:∃e2,es= [e2]:=List.length_eq_one_iff.1 (by rw [bP]at hn;omega);have hc':cAt code p (zX o S e p++(fQ 1++(zX o S e2 (p+wX e+2)++(lX 2++(uy 2++ [qi 25 1 2 8192]))))):=hc;have hw:wY (.mk 3 nm ve [e,e2] vb body vl els)=wX e+(wX e2+7):=J;rw [hw]at hl ⊢;have hxe2:=(hes e2 (by simp)).1;have hde2:=(hes e2 (by simp)).2;obtain⟨-,hc2⟩:=hc'.app;obtain⟨hcp,hc3⟩:=hc2.app;obtain⟨hcx,hc4⟩:=hc3.app;obtain⟨hcq,hc5⟩:=hc4.app;obtain⟨hce,hcs⟩:=hc5.app;rw [ia]at hcp hcx hcq hce hcs;rw [ia]at hcq hce hcs;have hX2:Go code (100*(s.fuel-s1.fuel)-138) c fun c'=>c'.pc=p+wX e+2∧Pr o N vs d F (sp-4) s1 c'∧c'.m (sp-4)=v∧∀a,sp≤a→c'.m a=c.m a:=hX1.seq (m:=2) (fun c1 ⟨e1,e2,e3,e4⟩=>(mI hcp e1 e4.st (by decide) ⟨by omega,hp.al.2,hp.al.1⟩).weak (fun c2 ⟨f1,f2,f3,f4,f5,f6⟩=>by
       have hm:∀x,sp≤x→c2.m x=c1.m x:=fun x hx=>by rw [f3,kO (by omega)]
       exact⟨f1,e4.of f2 (e4.sm.push f3 f4 f5 (by omega)) hk1.ok hf1 hm (by omega) (by have:=hp.al;omega),by rw [f3,qE,e2],fun a ha=>(hm a ha).trans (e3 a ha)⟩) (Int.le_refl _)) (by omega)
      dsimp only at h;cases hx2:fw g fs d vs e2 s1 with
      | none=>rw [hx2]at h;simp at h
      | some q=>
       rw [hx2]at h;have hY:∀c',(c'.pc=p+wX e+2∧Pr o N vs d F (sp-4) s1 c'∧c'.m (sp-4)=v∧∀a,sp≤a→c'.m a=c.m a)→XR code (p+wX e+2+wX e2) d F (sp-4) c' s1 q:=fun c' ⟨f1,f2,f3,f4⟩=>
        ih.x g (Nat.lt_succ_self g) d vs e2 s1 q hx2 o N (p+wX e+2) F (sp-4) c' hxe2 hcx (by omega) f1 f2 (by omega)
       cases q with
       | err z=>cases h;exact fun he=>hX2.seq (fun c' hc'=>hY c' hc' he) (by omega)
       | ok w s2=>
        cases h;obtain⟨hw1,hw2⟩:=(fI hF g).x d vs e2 s1 w s2 hxe2.vx hp.vs hk1.ok hx2;have hf2:0≤s2.fuel:=by
         obtain⟨_,c2,_,_,hP⟩:=hX2;exact(hY c2 hP).1
        refine⟨hf2,hX2.seq (m:=100*(s1.fuel-s2.fuel)-35) (fun c2 hc2=>(hY c2 hc2).2.seq (m:=5) (fun c3 ⟨g1,g2,g3,g4,g5⟩=> ?_) (by omega)) (by dsimp only;omega)⟩;obtain⟨f1,f2,f3,f4⟩:=hc2;refine(wo (r:=2) hcq g1 g3.s (by decide) ⟨by omega,by have:=hp.al;omega,by have:=hp.al;omega⟩).seq (m:=3) (fun c4 ⟨i1,i2,i3,i4⟩=> ?_) (by decide);have h2:c4.r 2=v:=by rw [i2,g5 _ (Int.le_refl _),f3]
        refine(Cz (r:=2) hce i1 (by decide) h2 hv).seq (m:=1) (fun c5 ⟨j1,j2,j3⟩=> ?_) (by decide);have hwa:wU (c5.r 2+8192)=8192+4*(((v%256).toNat:Nat):Int):=by rw [j2,gQ (by omega)];omega
        have hst:St d F sp c5:=⟨((j3.r 0 (by decide)).trans (i4.r 0 (by decide))).trans g3.z,((j3.r 12 (by decide)).trans (i4.r 12 (by decide))).trans g3.d,((j3.r 13 (by decide)).trans (i4.r 13 (by decide))).trans g3.f,((j3.r 14 (by decide)).trans i3).trans (by omega)⟩
        have hm5:c5.m=c3.m:=j3.m.trans i4.m;have hr1:c5.r 1=w:=((j3.r 1 (by decide)).trans (i4.r 1 (by decide))).trans g2;have hsm:=(g4.kr i4).kr j3;have hkv:∀a,sp≤a→c5.m a=c.m a:=fun a ha=>by rw [hm5,g5 a (by omega),f4 a ha]
        refine Av (d:=1) (a:=2) (x:=8192) (by rw [j1];exact hcs.head.1) (by rw [hwa];exact⟨by omega,by omega,by omega⟩) (Go.done (by decide) ?_);rw [hwa,hr1];refine⟨hst.of fun _ _=>J,⟨fun i hi=> ?_,hsm.i,hsm.o⟩,fun x hx=> ?_,fun a ha _=> ?_,Ex.none (by show c5.pc+1=_;rw [j1];simp only [fQ,lX,bP,bK];omega)⟩
        ·show mw c5.m _ w _=ui s2.mem _ w i;unfold ui;by_cases hi2:i=(v%256).toNat
         ·rw [ar hi2,hi2,qE]
         ·rw [ae hi2,kO (by omega)];exact hsm.m i hi
        ·have:=(hp.fs.ok x hx).2;show mw c5.m _ w _=_;rw [kO (by omega),hkv _ this];exact hp.fr x hx
        ·show mw c5.m _ w _=_;rw [kO (by omega),hkv a ha]
     rw [ae q3]at h;by_cases q4:k=4
     · -- if
      rw [ar q4]at h;subst q4;obtain⟨je,hje⟩:∃je:Nat,je=if els.length>0 then 1 else 0:=⟨_,J⟩
      have hc':cAt code p (zX o S e p++([qi 32 1 0 (wU (((lS o S E body (p+wX e+1)).length+(if els.length>0 then 1 else 0)+1:Nat):Int))]++(lS o S E body (p+wX e+1)++
       ((if els.length>0 then [qi 40 0 0 (wU (((lS o S E els (p+wX e+1+(lS o S E body (p+wX e+1)).length+(if els.length>0 then 1 else 0))).length+1:Nat):Int))]else [])++
        lS o S E els (p+wX e+1+(lS o S E body (p+wX e+1)).length+(if els.length>0 then 1 else 0)))))):=hc
      rw [←hje]at hc';have hw:wY (.mk 4 nm ve (e::es) vb body vl els)=wX e+(fR body+(fR els+(1+je))):=by
       show jZ (e::es)+(fR body+(fR els+if els.length>0 then 2 else 1))=_;rw [hje];show wX e+_=_;split<;>omega
      rw [hw]at hl ⊢;obtain⟨-,hc2⟩:=hc'.app;obtain⟨hcb,hc3⟩:=hc2.app;obtain⟨hcl,hc4⟩:=hc3.app;obtain⟨hcj,hcel⟩:=hc4.app;simp only [ia,fJ]at hcb hcl hcj hcel;have hjl:(if els.length>0 then [qi 40 0 0 (wU ((fR els+1:Nat):Int))]else []).length=je:=by rw [hje];split<;>rfl
      rw [hjl]at hcel;have hbeq:=hcb.head.1;have hX3:Go code (100*(s.fuel-s1.fuel)-139) c fun c'=>c'.pc=(if v=0 then p+wX e+1+fR body+je else p+wX e+1)∧(∀a,sp≤a→c'.m a=c.m a)∧Pr o N vs d F sp s1 c':=hX1.seq (m:=1) (fun c1 ⟨e1,e2,e3,e4⟩=>by
       refine wG (d:=1) (a:=0) (x:=wU (((fR body+je+1:Nat):Int))) (by rw [e1];exact hbeq) (Go.done (by decide) ⟨?_,e3,⟨e4.st.of fun _ _=>J,e4.fs,e4.fr,⟨e4.sm.m,e4.sm.i,e4.sm.o⟩,e4.ok,e4.vs,e4.al,e4.fu,e4.d1⟩⟩);show(if c1.r 1=c1.r 0 then _ else c1.pc+1)=_;rw [e2,e4.st.z,e1];by_cases hz:v=0
       ·rw [ar hz,ar hz];exact nt (by rw [show((p+wX e+1+fR body+je:Nat):Int)-((p+wX e:Nat):Int)=((fR body+je+1:Nat):Int) by omega]) (by omega) (by omega)
       ·rw [ae hz,ae hz]) (by omega)
      by_cases hz:v=0
      ·rw [ar hz]at h hX3;refine SR.up (s:=s1) hX3 (fun c' ⟨e1,e2,e3⟩=> ?_) (fun c' ⟨e1,e2,e3⟩=>Kv.of e2) (b:=50) (k:=0) (by omega) (by omega);have:=ih.b g (Nat.lt_succ_self g) d vs els s1 r h o N (p+wX e+1+fR body+je) E F sp c' heo hcel (by omega) hE e1 e3 hsp;rw [show p+(wX e+(fR body+(fR els+(1+je))))=p+wX e+1+fR body+je+fR els by omega];exact this
      ·rw [ae hz]at h hX3;have hB:∀c',(c'.pc=p+wX e+1∧(∀a,sp≤a→c'.m a=c.m a)∧Pr o N vs d F sp s1 c')→SR code (p+wX e+1+fR body) E 50 0 o N d F sp c' s1 r:=fun c' ⟨e1,e2,e3⟩=>
        ih.b g (Nat.lt_succ_self g) d vs body s1 r h o N (p+wX e+1) E F sp c' hbo hcl (by omega) hE e1 e3 hsp
       cases r with
       | err z=>exact fun he=>hX3.seq (fun c' hc'=>hB c' hc' he) (by omega)
       | ok q s2=>
        have hf2:0≤s2.fuel:=by
         obtain⟨_,c2,_,_,hP⟩:=hX3;exact(hB c2 hP).1
        refine⟨hf2,hX3.seq (m:=100*(s1.fuel-s2.fuel)+1) (fun c2 hc2=>(hB c2 hc2).2.seq (m:=1) (fun c3 ⟨f1,f2,f3,f4,f5⟩=> ?_) (by omega)) (by omega)⟩;obtain⟨g1,g2,g3⟩:=hc2;have hkv:=(Kv.of (o:=o) (N:=N) (F:=F) g2).trans f4;obtain⟨vs2,q⟩:=q;cases q with
        | some x=>exact Go.done (by decide) ⟨f1,f2,f3,hkv,fun hq=>(by cases hq),f5.2⟩
        | none=>
         have f6:=f5.1 J;by_cases hz2:els.length>0
         ·rw [ar hz2]at hcj hje;refine sT (d:=0) (a:=0) (x:=wU ((fR els+1:Nat):Int)) (by rw [f6];exact hcj.head.1) (Go.done (by decide) ⟨f1.of fun k hk=>Fe,⟨f2.m,f2.i,f2.o⟩,f3,hkv,Ex.none ?_⟩);show uK _=_;rw [f6];exact nt (by rw [show((p+(wX e+(fR body+(fR els+(1+je)))):Nat):Int)-((p+wX e+1+fR body:Nat):Int)=((fR els+1:Nat):Int) by omega]) (by omega) (by omega)
         ·rw [ae hz2]at hje;have:els= []:=List.length_eq_zero_iff.1 (by omega);subst this;have hw0:fR []=0:=J;exact Go.done (by decide) ⟨f1,f2,f3,hkv,Ex.none (by rw [f6];omega)⟩
     rw [ae q4]at h;by_cases q5:k=5
     · -- while
      rw [ar q5]at h;subst q5;have hc':cAt code p (zW o S E e body p):=hc;have hw:wY (.mk 5 nm ve (e::es) vb body vl els)=wX e+(fR body+2):=J;rw [hw]at hl ⊢;refine SR.up (s:=s1) hX1 (fun c' ⟨e1,e2,e3,e4⟩=> ?_) (fun c' ⟨e1,e2,e3,e4⟩=>Kv.of e3) (b:=60) (k:=2) (by omega) (by omega);have:=ih.w g (Nat.lt_succ_self g) d vs e body v s1 r h o N p E F sp c' hxe hde hbl hbo hc' (by omega) hE e1 e2 e4 hsp;rw [show p+(wX e+(fR body+2))=p+wX e+fR body+2 by omega];exact this
     rw [ae q5]at h;by_cases q6:k=6
     · -- return
      rw [ar q6]at h;subst q6;cases h;have hc':cAt code p (zX o S e p++ [qi 40 0 0 (wU ((E:Int)-((p+wX e:Nat):Int)))]):=hc;have hw:wY (.mk 6 nm ve (e::es) vb body vl els)=wX e+1:=J;rw [hw]at hl ⊢;have hcs:=hc'.app.2;rw [ia]at hcs;refine⟨hf1,hX1.seq (m:=1) (fun c1 ⟨e1,e2,e3,e4⟩=> ?_) (by omega)⟩;refine sT (d:=0) (a:=0) (x:=wU ((E:Int)-((p+wX e:Nat):Int))) (by rw [e1];exact hcs.head.1) (Go.done (by decide) ⟨e4.st.of fun k hk=>Fe,⟨e4.sm.m,e4.sm.i,e4.sm.o⟩,e4.fr,Kv.of e3,fun hq=>(by cases hq),fun y hy=> ?_⟩);cases hy;refine⟨?_,by show rp c1.r 0 (jo (c1.pc+1)) 1=_;rw [Fe];exact e2⟩;show uK _=_;rw [e1];exact nt J (by omega) (by omega)
     rw [ae q6]at h;by_cases q7:k=7
     · -- out
      rw [ar q7]at h;subst q7;cases h;have hc':cAt code p (zX o S e p++ [⟨48,0,0,0,1⟩]):=hc;have hw:wY (.mk 7 nm ve (e::es) vb body vl els)=wX e+1:=J;rw [hw]at hl ⊢;have hcs:=hc'.app.2;rw [ia]at hcs;refine⟨hf1,hX1.seq (m:=1) (fun c1 ⟨e1,e2,e3,e4⟩=> ?_) (by dsimp only;omega)⟩;refine Ng (by rw [e1];exact hcs.head.1) (Go.done (by decide) ⟨e4.st.of fun _ _=>J,⟨e4.sm.m,e4.sm.i,?_⟩,e4.fr,Kv.of e3,Ex.none (by show c1.pc+1=_;rw [e1];rfl)⟩);show c1.out++ [c1.r 1]=s1.out++ [v];rw [e2,e4.sm.o]
     rw [ae q7]at h
     -- an expression alone
     have q8:k=8:=by omega
     subst q8;cases h;have hw:wY (.mk 8 nm ve (e::es) vb body vl els)=wX e:=J;rw [hw];exact⟨hf1,hX1.weak (fun c1 ⟨e1,e2,e3,e4⟩=>⟨e4.st,e4.sm,e4.fr,Kv.of e3,Ex.none e1⟩) (by omega)⟩
end
end Go.Proofs.YtedmdgbmdplifaaGreat
