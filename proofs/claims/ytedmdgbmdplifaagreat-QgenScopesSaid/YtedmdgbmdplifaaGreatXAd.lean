/-
  Part of the proof: the texts EE, EF, N4, N5, N6, G4, G5, N7, N8, N9, NA, NB, NC, G7, G6, G8, M2, EG, PA, shortened. Conditions are with the theorems.
-/
import Derived.Test.YtedmdgbmdplifaaGreatXAa
import Derived.Test.YtedmdgbmdplifaaGreatXAb
import Derived.Test.YtedmdgbmdplifaaGreatXAc
set_option maxHeartbeats 32000000
set_option maxRecDepth 100000
namespace Go.Proofs.YtedmdgbmdplifaaGreat
set_option linter.unusedSimpArgs false
set_option linter.unusedVariables false
open Go.RowKit
theorem BL(e:Me)(s:Mm)(n:Nat)(hs:MO s n)(a:Int)(ha:0≤a∧a<4294967296):
  Spec Tryz.prog 43 [.pointer (some ⟨e.m,0,none⟩),.int .u32 a] [aY e.m 157 (mR e),own 5 1 bQ (sv e.vd) (s).d,own 5 1 bQ (sv e.vi) (s).i,own 3 1 eI (sv e.vr) (s).r] [] (X:=Unit) (fun _=>True) (fun _=> .int .u8 (if a<s.d.length then s.i.getD a.toNat 0 else 0)) (fun _=> [aY e.m 157 (mR e),own 5 1 bQ (sv e.vd) (s).d,own 5 1 bQ (sv e.vi) (s).i,own 3 1 eI (sv e.vr) (s).r]) (fun _=> []):=by
 refine aF Tryz.func43 J Tryz.ntmps43 J fun w0 M H=>ae (aa (aj (ag J) J (ai (ae (aa (aj (ac J) J (aj (ac J) J (au (xs:= [.tmp 6,.tmp 7]) (mS e s n hs a ha) EH [0,1,2,3] [] [0,1,2,3] J J J J J J J J (fun _ _=>J) (fun _ _ _=>J) J (fun _ _=>aj (ag J) J (ai (ae (ae ?_))))))))))))
 refine aa (aj (ac J) J (aj (bZ J) J (ai (ar J (fun h1=> ?_) (fun h1=> ?_)))))
 ·(try simp only [aV]at h1)
  have hq:¬a<s.d.length:=by simpa using h1
  rw [if_neg hq];refine ae (aa (aj (ag J) J (ai (aw (aG () trivial J (bx (aH J)) J [0,1,2,3] [] J J J)))))
 ·(try simp only [aV]at h1)
  have hq:a<s.d.length:=by simpa using h1
  have hd:=hs.d;have hil:=hs.i;have hrl:=hs.r;have hnn:=hs.n;obtain⟨x,hx⟩:∃x,s.i[a.toNat]?=some x:=⟨_,List.getElem?_eq_getElem (by omega)⟩
  rw [if_pos hq,DW hx];refine az (ae (ae (aa (aj (ac J) J (aj (aq J) J (aj (ah uf J) J (aj (ak t4 J J (ap (k:=0) J J)) J (ai (ar J (fun h2=> ?_) (fun h2=> ?_))))))))))
  ·cases h2
  ·(try simp only [aV]at h2)
   refine az (ae (aa (aj (ac J) J (aj (aq J) J (aj (ah pg J) J (aj (ak xf J J (ap (k:=0) J J)) J (aj (ac J) J (aj (aN (j:=a.toNat) Tryz.underlying84 t5 J J (bj (k:=2) J) (by omega) (by omega)) J (aj (ak t5 J J (bv (bj (k:=2) J) (by intro _;rfl) hx (by rfl))) J (aj (ag J) J (ai (aw (aG () trivial J (bx (aH J)) J [0,1,2,3] [] J J J)))))))))))))
theorem xT(e:Me)(s:Mm)(n:Nat)(hs:MO s n)(a:Int)(ha:0≤a∧a<4294967296):
  Spec Tryz.prog 41 [.pointer (some ⟨e.m,0,none⟩),.int .u32 a] [aY e.m 157 (mR e),own 5 1 bQ (sv e.vd) (s).d,own 5 1 bQ (sv e.vi) (s).i,own 3 1 eI (sv e.vr) (s).r] [] (X:=Unit) (fun _=>True) (fun _=> .int .u8 (if a<s.d.length then s.d.getD a.toNat 0 else 0)) (fun _=> [aY e.m 157 (mR e),own 5 1 bQ (sv e.vd) (s).d,own 5 1 bQ (sv e.vi) (s).i,own 3 1 eI (sv e.vr) (s).r]) (fun _=> []):=by
 refine aF Tryz.func41 J Tryz.ntmps41 J fun w0 M H=>ae (aa (aj (ag J) J (ai (ae (aa (aj (ac J) J (aj (ac J) J (au (xs:= [.tmp 6,.tmp 7]) (mS e s n hs a ha) EH [0,1,2,3] [] [0,1,2,3] J J J J J J J J (fun _ _=>J) (fun _ _ _=>J) J (fun _ _=>aj (ag J) J (ai (ae (ae ?_))))))))))))
 refine aa (aj (ac J) J (aj (bZ J) J (ai (ar J (fun h1=> ?_) (fun h1=> ?_)))))
 ·(try simp only [aV]at h1)
  have hq:¬a<s.d.length:=by simpa using h1
  rw [if_neg hq];refine ae (aa (aj (ag J) J (ai (aw (aG () trivial J (bx (aH J)) J [0,1,2,3] [] J J J)))))
 ·(try simp only [aV]at h1)
  have hq:a<s.d.length:=by simpa using h1
  have hd:=hs.d;have hil:=hs.i;have hrl:=hs.r;have hnn:=hs.n;obtain⟨x,hx⟩:∃x,s.d[a.toNat]?=some x:=⟨_,List.getElem?_eq_getElem (by omega)⟩
  rw [if_pos hq,DW hx];refine az (ae (aa (aj (ac J) J (aj (aq J) J (aj (ah kT J) J (aj (ak xf J J (ap (k:=0) J J)) J (aj (ac J) J (aj (aN (j:=a.toNat) Tryz.underlying84 t5 J J (bj (k:=1) J) (by omega) (by omega)) J (aj (ak t5 J J (bv (bj (k:=1) J) (by intro _;rfl) hx (by rfl))) J (aj (ag J) J (ai (aw (aG () trivial J (bx (aH J)) J [0,1,2,3] [] J J J)))))))))))))
theorem BE(e:Me)(s:Mm)(n:Nat)(hs:MO s n)(a:Int)(ha:0≤a∧a<4294967296)(hok:wR s a 4=true)(x:Int)(hx:s.i[a.toNat]?=some x)(hxb:0≤x∧x<256):
  Spec Tryz.prog 179 [.pointer (some ⟨e.m,0,none⟩),.int .u32 a] [aY e.m 157 (mR e),own 5 1 bQ (sv e.vd) (s).d,own 5 1 bQ (sv e.vi) (s).i,own 3 1 eI (sv e.vr) (s).r] [] (X:=Unit) (fun _=>True) (fun _=> .agg #[.int .u32 x,.int .u32 0,.bool true]) (fun _=> [aY e.m 157 (mR e),own 5 1 bQ (sv e.vd) (s).d,own 5 1 bQ (sv e.vi) (s).i,own 3 1 eI (sv e.vr) (s).r]) (fun _=> []):=by
 refine aF Tryz.func179 J Tryz.ntmps179 J fun w0 M H=> ?_
 have hq:a<s.d.length:=by
  unfold wR at hok;simp only [Bool.and_eq_true,decide_eq_true_eq]at hok;exact hok.1
 refine ae (aa (aT gr J J fun b4=>ai (ae (aa (aj (ac J) J (aj (ac J) J (au (xs:= [.tmp 6,.tmp 7,.const (.int .i64 4)]) (oi e s n hs a ha 4 (by decide)) IP [0,1,2,3] [] [0,1,2,3] J J J J J J J J (fun _ _=>J) (fun _ _ _=>J) J (fun _ _=> ?_))))))));rw [hok];refine aj (ag J) J (ai (ae (ae (aa (aj (ac J) J (aj (bZ J) J (ai (ar J (fun h1=> ?_) (fun h1=> ?_)))))))))
 ·cases h1
 ·(try simp only [aV]at h1)
  refine az (ae (aa (aj (ac J) J (aj (ac J) J (au (xs:= [.tmp 13,.tmp 14]) (BL e s n hs a ha) Q9 [0,1,2,3] [] [0,1,2,3] J J J J J J J J (fun _ _=>J) (fun _ _ _=>J) J (fun _ _=> ?_))))));rw [if_pos hq,DW hx];refine aj (bP Tryz.underlying5 Tryz.underlying41 J (c:=x) (bC (by omega) (by omega))) J (aj (aP (parts:= [(0,.tmp 16),(2,.const (.bool Bool.true))]) gr Im J J) J (av (k:=4) gr J J J J J J (ai (aw (aG () trivial J (bx (aW gr J J J (aR (k:=4) J))) J [0,1,2,3] [] J J J)))))
theorem DB(e:Me)(s:Mm)(n:Nat)(hs:MO s n)(a:Int)(ha:0≤a∧a<4294967296)(hb:byL s.d)(h4:a+4≤s.d.length)(hok:∀k:Int,0≤k→k<4→wR s (IntKind.u32.wrap (a+k)) 1=true):
  Spec Tryz.prog 151 [.pointer (some ⟨e.m,0,none⟩),.int .u32 a,.int .i64 4] [aY e.m 157 (mR e),own 5 1 bQ (sv e.vd) (s).d,own 5 1 bQ (sv e.vi) (s).i,own 3 1 eI (sv e.vr) (s).r] [] (X:=Unit) (fun _=>True) (fun _=> .agg #[.int .u32 (zJ s.d a.toNat),.int .u32 0,.bool true]) (fun _=> [aY e.m 157 (mR e),own 5 1 bQ (sv e.vd) (s).d,own 5 1 bQ (sv e.vi) (s).i,own 3 1 eI (sv e.vr) (s).r]) (fun _=> []):=by
 refine aF Tryz.func151 J Tryz.ntmps151 J fun w0 M H=> ?_
 have hd:=hs.d;have hil:=hs.i;have hrl:=hs.r;have hnn:=hs.n;refine ae (aa (aT gr J J fun b6=>ai (ae (aa (aj (ac J) J (aj (ac J) J (aj (ac J) J (au (xs:= [.tmp 9,.tmp 10,.tmp 11,.const (.int .i64 1)]) (wv e s n hs a ha 4 1 (by decide) (by decide) hok) IU [0,1,2,3] [] [0,1,2,3] J J J J J J J J (fun _ _=>J) (fun _ _ _=>J) J (fun _ _=>aT gr J J fun b7=>av (k:=7) gr J J J J J J (ai (ae ?_)))))))))));refine ae (aa (aj (ah mX J) J (aj (ak t4 J J (ap (k:=7) J J)) J (ai (ar J (fun h1=> ?_) (fun h1=> ?_))))))
 ·(try simp only [aV]at h1)
  refine ae (aa (aj (ac J) J (aj (am J J (fQ (by first|exact aU (by omega) (by omega)|rfl))) J (aj (ag J) J (ai (aB (bk (X:=Nat) (fun m=>m≤4) (fun m=> [(0,.pointer (some ⟨e.m,0,none⟩)),(1,.int .u32 a),(6,.pointer (some ⟨b6,0,none⟩)),(7,.pointer (some ⟨b7,0,none⟩)),(8,.int .i64 (3-(m:Int)))]) (fun m=> [(0,aY e.m 157 (mR e)),(1,own 5 1 bQ (sv e.vd) s.d),(2,own 5 1 bQ (sv e.vi) s.i),(3,own 3 1 eI (sv e.vr) s.r),(6,aY b6 241 [.int .u32 0,.int .u32 0,.bool false]),(7,aY b7 241 [.int .u32 (DE s.d a.toNat m),.int .u32 0,.bool true])]) (fun m=> []) (fun m=>4-m) 0 (by omega) J J J (fun m n1=>ae (ae (aa (aj (ac J) J (aj (am J J eV) J (ai ?_)))))))))))));refine ar J (fun h2=> ?_) (fun h2=> ?_)
  ·(try simp only [aV]at h2)
   have hi:m<4:=by omega
   obtain⟨x,hx⟩:∃x,s.d[a.toNat+(3-m)]?=some x:=⟨_,List.getElem?_eq_getElem (by omega)⟩
   have hxb:=hb x (List.mem_of_getElem? hx);have hlb:=Ko hb a.toNat (m:=m) (by omega)
   refine az (ae (aB ?_));refine bA [21,22,23,24,25,26,27,28,29,30,31,32,33,34,35,36] _ J (bB (V:= [(0,21,_),(1,22,_),(2,23,_),(3,24,_),(4,25,_),(5,26,_),(6,27,_),(7,28,_),(8,29,_),(9,30,_),(10,31,_),(11,32,_),(12,33,_),(13,34,_),(14,35,_),(15,36,_)]) [0,1,2,3,4,5,6,7,8,9,10,11,12,13,14,15] 16 [16,15,14,13,12,11,10,9,8,7,6,5,4,3,2,1,0] [] (fun _=> []) J J (ad (aD J (ah oX J)) (ad (aD J (ak cr J J (ap (k:=7) J J))) (ad (aD J (am J J (de (bC (by omega) (by omega))))) (ad (aD J (ac J)) (ad (aD J (aq J)) (ad (aD J (ah kT J)) (ad (aD J (ak xf J J (ap (k:=0) J J))) (ad (aD J (ac J)) (ad (aD J (ac J)) (ad (aD J (bP Tryz.underlying3 Tryz.underlying41 J (c:=3-(m:Int)) (bC (by omega) (by omega)))) (ad (aD J (am J J (aX (c:=((a.toNat+(3-m):Nat):Int)) (by rw [bC (by omega) (by omega)];omega)))) (ad (aD J (aN (j:=a.toNat+(3-m)) Tryz.underlying84 t5 J J (bj (k:=1) J) J (by omega))) (ad (aD J (ak t5 J J (bv (bj (k:=1) J) (by intro _;rfl) hx (by rfl)))) (ad (aD J (bP Tryz.underlying5 Tryz.underlying41 J (c:=x) (bC (by omega) (by omega)))) (ad (aD J (am J J (aX (c:=DE s.d a.toNat (m+1)) (by rw [bC (by omega) (by omega)];show _=DE s.d a.toNat m*256+s.d.getD (a.toNat+(3-m)) 0;rw [DW hx])))) (ad (aD J (ah oX J)) ay)))))))))))))))) J J J J J J J J J (fun _ _=>J) J (cy (k:=7) cr J J J J J J J J) (fun _ _=>be [] J J ay J J J ?_));refine aa (aj (ac J) J (aj (am J J (fQ (c:=3-((m+1:Nat):Int)) (by rw [aU (by omega) (by omega)];omega))) J (aj (ag J) J (ai ?_))));refine aL (m+1) ⟨by omega,by omega⟩ J J J
  ·(try simp only [aV]at h2)
   have hi:m=4:=by omega
   subst hi;refine bn (ae (aa (aj (aJ gr J J J (aR (k:=7) J)) J (av (k:=6) gr J J J J J J (ai (aw (aG () trivial J (bx (aW gr J J J (aR (k:=6) J))) J [0,1,2,3] [] J J J)))))))
 ·cases h1
def ld(x:Int):Nat→Int
 | 0=>x
 | k+1=>ld x k/256
theorem za{x:Int}(hx:0≤x∧x<4294967296):∀k,0≤ld x k∧ld x k<4294967296
 | 0=>hx
 | k+1=>by
  have:=za hx k;show 0≤ld x k/256∧ld x k/256<_;omega
theorem zo{x:Int}(hx:0≤x∧x<4294967296){k:Nat}(hk:k<4):(ep x)[k]?=some (ld x k%256):=by
 have:k=0∨k=1∨k=2∨k=3:=by omega
 rcases this with rfl|rfl|rfl|rfl
 ·rfl
 ·rfl
 ·show some (x/65536%256)=some (x/256/256%256);rw [Int.ediv_ediv_of_nonneg (by decide)];rfl
 ·show some (x/16777216%256)=some (x/256/256/256%256);rw [Int.ediv_ediv_of_nonneg (by decide),Int.ediv_ediv_of_nonneg (by decide)];rfl
theorem A3(e:Me)(s:Mm)(n:Nat)(hs:MO s n)(a:Int)(ha:0≤a∧a<4294967296)(x:Int)(hx:0≤x∧x<4294967296)(h4:a+4≤s.d.length)(hok:∀k:Int,0≤k→k<4→wR s (IntKind.u32.wrap (a+k)) 2=true):
  Spec Tryz.prog 152 [.pointer (some ⟨e.m,0,none⟩),.int .u32 a,.int .i64 4,.int .u32 x] [aY e.m 157 (mR e),own 5 1 bQ (sv e.vd) (s).d,own 5 1 bQ (sv e.vi) (s).i,own 3 1 eI (sv e.vr) (s).r] [] (X:=Unit) (fun _=>True) (fun _=> .agg #[.int .u32 0,.int .u32 0,.bool true]) (fun _=> [aY e.m 157 (mR e),own 5 1 bQ (sv e.vd) ({s with d:=pk s.d a.toNat (ep x)}).d,own 5 1 bQ (sv e.vi) ({s with d:=pk s.d a.toNat (ep x)}).i,own 3 1 eI (sv e.vr) ({s with d:=pk s.d a.toNat (ep x)}).r]) (fun _=> []):=by
 refine aF Tryz.func152 J Tryz.ntmps152 J fun w0 M H=> ?_
 have hd:=hs.d;have hil:=hs.i;have hrl:=hs.r;have hnn:=hs.n;refine ae (aa (aT gr J J fun b8=>ai (ae (aa (aj (ac J) J (aj (ac J) J (aj (ac J) J (au (xs:= [.tmp 11,.tmp 12,.tmp 13,.const (.int .i64 2)]) (wv e s n hs a ha 4 2 (by decide) (by decide) hok) IU [0,1,2,3] [] [0,1,2,3] J J J J J J J J (fun _ _=>J) (fun _ _ _=>J) J (fun _ _=>aT gr J J fun b9=>av (k:=9) gr J J J J J J (ai (ae ?_)))))))))));refine ae (aa (aj (ah mX J) J (aj (ak t4 J J (ap (k:=9) J J)) J (ai (ar J (fun h1=> ?_) (fun h1=> ?_))))))
 ·(try simp only [aV]at h1)
  refine ae (aa (aj (ag J) J (ai (aB (bk (X:=Nat) (fun i=>i≤4) (fun i=> [(0,.pointer (some ⟨e.m,0,none⟩)),(1,.int .u32 a),(2,.int .i64 4),(3,.int .u32 (ld x i)),(8,.pointer (some ⟨b8,0,none⟩)),(9,.pointer (some ⟨b9,0,none⟩)),(10,.int .i64 (i:Int))]) (fun i=> [(0,aY e.m 157 (mR e)),(1,own 5 1 bQ (sv e.vd) (pk s.d a.toNat ((ep x).take i))),(2,own 5 1 bQ (sv e.vi) s.i),(3,own 3 1 eI (sv e.vr) s.r),(8,aY b8 241 [.int .u32 0,.int .u32 0,.bool false]),(9,aY b9 241 [.int .u32 0,.int .u32 0,.bool true])]) (fun i=> []) (fun i=>4-i) 0 (by omega) J J J (fun i n1=>ae (ae (aa (aj (ac J) J (aj (ac J) J (aj (am J J b_) J (ai (ar J (fun h2=> ?_) (fun h2=> ?_))))))))))))))
  ·(try simp only [aV]at h2)
   have hi:i<4:=by omega
   have hpl:=eq ((ep x).take i) s.d a.toNat
   have hsb:=za hx i;obtain⟨y,hy⟩:∃y,(pk s.d a.toNat ((ep x).take i))[a.toNat+i]?=some y:=⟨_,List.getElem?_eq_getElem (by omega)⟩
   refine az (ae (aB (ae (aa (aj (ac J) J (aj (aq J) J (aj (ah kT J) J (aj (ak xf J J (ap (k:=0) J J)) J (aj (ac J) J (aj (ac J) J (aj (bP Tryz.underlying3 Tryz.underlying41 J (c:=(i:Int)) (bC (by omega) (by omega))) J (aj (am J J (aX (c:=((a.toNat+i:Nat):Int)) (by rw [bC (by omega) (by omega)];omega))) J (aj (ac J) J ?_)))))))))))));refine aj (bP Tryz.underlying41 Tryz.underlying5 J (c:=ld x i%256) (IntKind.wrap_u8 _)) J (aj (aN (j:=a.toNat+i) Tryz.underlying84 t5 J J (bj (k:=1) J) J (by omega)) J (lL (k:=1) (e':=(ld x i%256)) t5 J J J (by intro _;rfl) hy J J (ai (aa (aj (ac J) J (aj (am J J (jU (by decide) (oe hsb (by decide)))) J (aj (ag J) J (ai (aa (aj (ac J) J (aj (am J J (aX (by first|exact aU (by omega) (by omega)|rfl))) J (aj (ag J) J (ai ?_)))))))))))));refine aL (i+1) ⟨by omega,by omega⟩ J (by rw [bM (zo hx hi),kL,List.length_take,Nat.min_eq_left (by show i≤4;omega)];rfl) J
  ·(try simp only [aV]at h2)
   have hi:i=4:=by omega
   subst hi;refine bn (ae (aa (aj (aJ gr J J J (aR (k:=9) J)) J (av (k:=8) gr J J J J J J (ai (aw (aG () trivial J (bx (aW gr J J J (aR (k:=8) J))) J [0,1,2,3] [] J J J)))))))
 ·cases h1
theorem Jd{s:ByteArray}{i:Nat}(h:i<s.size):(bc s)[i]?=some ((bc s).getD i 0):=by
 have hl:=gk s;rw [List.getD_eq_getElem?_getD,List.getElem?_eq_getElem (by omega)];rfl
theorem JS{d:List Int}{k:Nat}{x:Int}(h:d.length≤k):d.set k x=d:=List.set_eq_of_length_le h
theorem MO.dd{s:Mm}{n:Nat}(h:MO s n){d:List Int}(hd:d.length=s.d.length):MO {s with d:=d} n:=⟨hd.trans h.d,h.i,h.r,h.n,h.rb⟩
theorem MO.ii{s:Mm}{n:Nat}(h:MO s n){d:List Int}(hd:d.length=s.i.length):MO {s with i:=d} n:=⟨h.d,hd.trans h.i,h.r,h.n,h.rb⟩
theorem pW(e:Me)(s:Mm)(n:Nat)(hs:MO s n)(a:Nat)(t:ByteArray)(ht:a+t.size<4294967296)(ht2:t.size≤1000000):
  Spec Tryz.prog 35 [.pointer (some ⟨e.m,0,none⟩),.int .u32 (a:Int),.string t] [aY e.m 157 (mR e),own 5 1 bQ (sv e.vd) (s).d,own 5 1 bQ (sv e.vi) (s).i,own 3 1 eI (sv e.vr) (s).r] [] (X:=Unit) (fun _=>True) (fun _=> .tuple #[]) (fun _=> [aY e.m 157 (mR e),own 5 1 bQ (sv e.vd) ({s with d:=pk s.d a (bc t)}).d,own 5 1 bQ (sv e.vi) ({s with d:=pk s.d a (bc t)}).i,own 3 1 eI (sv e.vr) ({s with d:=pk s.d a (bc t)}).r]) (fun _=> []):=by
 refine aF Tryz.func35 J Tryz.ntmps35 J fun w0 M H=> ?_
 have hd:=hs.d;have hil:=hs.i;have hrl:=hs.r;have hnn:=hs.n;have hbl:=gk t;refine ae (aa (aj (ag J) J (ai (aB (bk (X:=Nat) (fun i=>i≤t.size) (fun i=> [(0,.pointer (some ⟨e.m,0,none⟩)),(1,.int .u32 (a:Int)),(2,.string t),(6,.int .i64 (i:Int))]) (fun i=> [(0,aY e.m 157 (mR e)),(1,own 5 1 bQ (sv e.vd) (pk s.d a ((bc t).take i))),(2,own 5 1 bQ (sv e.vi) s.i),(3,own 3 1 eI (sv e.vr) s.r)]) (fun i=> []) (fun i=>t.size-i) 0 (Nat.zero_le _) J J J (fun i n1=>ae (ae (aa (aj (ac J) J (aj (ac J) J (aj (cd Tryz.underlying9 J) J (aj (am J J b_) J (ai ?_)))))))))))));refine ar J (fun h1=> ?_) (fun h1=> ?_)
 ·(try simp only [aV]at h1)
  have hi:i<t.size:=by omega
  have hpl:=eq ((bc t).take i) s.d a;have hxx:=Jd hi;refine az (ae (aB (ae (aa (aj (ac J) J (aj (ac J) J (aj (ac J) J (aj (bP Tryz.underlying3 Tryz.underlying41 J (c:=(i:Int)) (bC (by omega) (by omega))) J (aj (am J J (aX (c:=((a+i:Nat):Int)) (by rw [bC (by omega) (by omega)];omega))) J (au (xs:= [.tmp 14,.tmp 18]) (mS e {s with d:=pk s.d a ((bc t).take i)} n (hs.dd (eq _ _ _)) ((a+i:Nat):Int) (by omega)) EH [0,1,2,3] [] [0,1,2,3] J J J J J J J J (fun _ _=>J) (fun _ _ _=>J) J (fun _ _=>aj (ag J) J (ai (ae ?_)))))))))))));refine aa (aj (ac J) J (ai (ar J (fun h2=> ?_) (fun h2=> ?_))))
  ·(try simp only [aV]at h2)
   have hq:a+i<s.d.length:=by simp at h2;omega
   obtain⟨y,hy⟩:∃y,(pk s.d a ((bc t).take i))[a+i]?=some y:=⟨_,List.getElem?_eq_getElem (by omega)⟩
   refine bA [21,22,23,24,25,26,27,28,29,30,31,32] _ J (bB (V:= [(0,21,_),(1,22,_),(2,23,_),(3,24,_),(4,25,_),(5,26,_),(6,27,_),(7,28,_),(8,29,_),(9,30,_),(10,31,_),(11,32,_)]) [0,1,2,3,4,5,6,7,8,9,10,11] 12 [12,11,10,9,8,7,6,5,4,3,2,1,0] [] (fun _=> []) J J (ad (aD J (ac J)) (ad (aD J (aq J)) (ad (aD J (ah kT J)) (ad (aD J (ak xf J J (ap (k:=0) J J))) (ad (aD J (ac J)) (ad (aD J (ac J)) (ad (aD J (bP Tryz.underlying3 Tryz.underlying41 J (c:=(i:Int)) (bC (by omega) (by omega)))) (ad (aD J (am J J (aX (c:=((a+i:Nat):Int)) (by rw [bC (by omega) (by omega)];omega)))) (ad (aD J (ac J)) (ad (aD J (ac J)) (ad (aD J (dh (j:=i) Tryz.underlying9 J J J (by omega))) (ad (aD J (aN (j:=a+i) Tryz.underlying84 t5 J J (bj (k:=1) J) J (by show _<(pk s.d a ((bc t).take i)).length;omega))) ay)))))))))))) J J J J J J J J J (fun _ _=>J) J (gu (k:=1) (e':=((bc t).getD i 0)) t5 J J J (by intro _;rfl) hy J J) (fun _ _=>be [] J J ay J J J ?_));refine aa (aj (ac J) J (aj (am J J (aX (by first|exact aU (by omega) (by omega)|rfl))) J (aj (ag J) J (ai ?_))));refine aL (i+1) ⟨by omega,by omega⟩ J (by rw [bM hxx,kL,List.length_take,Nat.min_eq_left (by omega)];rfl) J
  ·(try simp only [aV]at h2)
   have hq:¬a+i<s.d.length:=by simp at h2;omega
   refine az (aa (aj (ac J) J (aj (am J J (aX (by first|exact aU (by omega) (by omega)|rfl))) J (aj (ag J) J (ai ?_)))));refine aL (i+1) ⟨by omega,by omega⟩ J (by rw [bM hxx,kL,List.length_take,Nat.min_eq_left (by omega),JS (by omega)];rfl) J
 ·(try simp only [aV]at h1)
  have hi:i=t.size:=by omega
  subst hi;refine bn (bO () trivial J eW J [0,1,2,3] [] J (by rw [List.take_of_length_le (Nat.le_of_eq hbl)];rfl) J)
theorem rA(e:Me)(s:Mm)(n:Nat)(hs:MO s n)(p:Nat)(hp:p<n)(t:ByteArray)(ht2:t.size≤1000000):
  Spec Tryz.prog 37 [.pointer (some ⟨e.m,0,none⟩),.int .i64 (p:Int),.string t] [aY e.m 157 (mR e),own 5 1 bQ (sv e.vd) (s).d,own 5 1 bQ (sv e.vi) (s).i,own 3 1 eI (sv e.vr) (s).r] [] (X:=Unit) (fun _=>True) (fun _=> .tuple #[]) (fun _=> [aY e.m 157 (mR e),own 5 1 bQ (sv e.vd) ({s with i:=pk s.i (256*p) ((bc t).take 256)}).d,own 5 1 bQ (sv e.vi) ({s with i:=pk s.i (256*p) ((bc t).take 256)}).i,own 3 1 eI (sv e.vr) ({s with i:=pk s.i (256*p) ((bc t).take 256)}).r]) (fun _=> []):=by
 refine aF Tryz.func37 J Tryz.ntmps37 J fun w0 M H=> ?_
 have hd:=hs.d;have hil:=hs.i;have hrl:=hs.r;have hnn:=hs.n;have hbl:=gk t;refine ae (ae (aa (aj (ac J) J (aj (am J J b_) J (aj (ac J) J (aA [] J J trivial (fun hg1=>ac J) J (aA [(10,_)] J J ⟨J,trivial⟩ (fun hg2=>ac J) J (aA [(10,_),(11,_)] J J ⟨J,J,trivial⟩ (fun hg3=>aq J) J (aA [(10,_),(11,_),(12,_)] J J ⟨J,J,J,trivial⟩ (fun hg4=>ah pe J) J (aA [(10,_),(11,_),(12,_),(13,_)] J J ⟨J,J,J,J,trivial⟩ (fun hg5=>ak FH J J (ap (k:=0) J J)) J (aA [(10,_),(11,_),(12,_),(13,_),(14,_)] J J ⟨J,J,J,J,J,trivial⟩ (fun hg6=>aO Tryz.underlying22 J (bj (k:=3) J)) J (aA [(10,_),(11,_),(12,_),(13,_),(14,_),(15,_)] J J ⟨J,J,J,J,J,J,trivial⟩ (fun hg7=>am J J eV) J (aj (aM J J J (by first|exact ax|exact aC|rfl)) J ?_)))))))))))));refine aj (ac J) J (aA [] J J trivial (fun hg8=>ac J) J (aA [(19,_)] J J ⟨J,trivial⟩ (fun hg9=>aq J) J (aA [(19,_),(20,_)] J J ⟨J,J,trivial⟩ (fun hg10=>ah uf J) J (aA [(19,_),(20,_),(21,_)] J J ⟨J,J,J,trivial⟩ (fun hg11=>ak t4 J J (ap (k:=0) J J)) J (aj (aM J J J (by first|exact ax|exact aC|rfl)) J (ai (ar J (fun h12=> ?_) (fun h12=> ?_))))))))
 ·exact absurd h12 (by simp;omega)
 ·refine az (ae (aa (aj (ag J) J (ai (aB (bk (X:=Nat) (fun i=>i≤t.size∧i≤256) (fun i=> [(0,.pointer (some ⟨e.m,0,none⟩)),(1,.int .i64 (p:Int)),(2,.string t),(6,.int .i64 (i:Int))]) (fun i=> [(0,aY e.m 157 (mR e)),(1,own 5 1 bQ (sv e.vd) s.d),(2,own 5 1 bQ (sv e.vi) (pk s.i (256*p) ((bc t).take i))),(3,own 3 1 eI (sv e.vr) s.r)]) (fun i=> []) (fun i=>t.size-i) 0 ⟨Nat.zero_le _,Nat.zero_le _⟩ J J J (fun i n1=>ae (ae (aa (aj (ac J) J (aj (ac J) J (aj (cd Tryz.underlying9 J) J (aj (am J J b_) J ?_)))))))))))));refine aj (ac J) J (aA [] J J trivial (fun hg13=>ac J) J (aA [(29,_)] J J ⟨J,trivial⟩ (fun hg14=>am J J b_) J (aj (aM J J J (by first|exact ax|exact aC|rfl)) J (ai (ar J (fun h15=> ?_) (fun h15=> ?_))))))
  ·(try simp only [aV]at h15)
   have hi:i<t.size∧i<256:=by omega
   have hpl:=eq ((bc t).take i) s.i (256*p);have hxx:=Jd hi.1;obtain⟨y,hy⟩:∃y,(pk s.i (256*p) ((bc t).take i))[256*p+i]?=some y:=⟨_,List.getElem?_eq_getElem (by omega)⟩
   refine az (ae (aB ?_));refine bA [34,35,36,37,38,39,40,41,42,43,44,45] _ J (bB (V:= [(0,34,_),(1,35,_),(2,36,_),(3,37,_),(4,38,_),(5,39,_),(6,40,_),(7,41,_),(8,42,_),(9,43,_),(10,44,_),(11,45,_)]) [0,1,2,3,4,5,6,7,8,9,10,11] 12 [12,11,10,9,8,7,6,5,4,3,2,1,0] [] (fun _=> []) J J (ad (aD J (ac J)) (ad (aD J (aq J)) (ad (aD J (ah pg J)) (ad (aD J (ak xf J J (ap (k:=0) J J))) (ad (aD J (ac J)) (ad (aD J (am J J (de (aU (by omega) (by omega))))) (ad (aD J (ac J)) (ad (aD J (am J J (aX (c:=((256*p+i:Nat):Int)) (by rw [aU (by omega) (by omega)];omega)))) (ad (aD J (ac J)) (ad (aD J (ac J)) (ad (aD J (dh (j:=i) Tryz.underlying9 J J J (by omega))) (ad (aD J (aN (j:=256*p+i) Tryz.underlying84 t5 J J (bj (k:=2) J) J (by omega))) ay)))))))))))) J J J J J J J J J (fun _ _=>J) J (gu (k:=2) (e':=((bc t).getD i 0)) t5 J J J (by intro _;rfl) hy J J) (fun _ _=>be [] J J ay J J J ?_));refine aa (aj (ac J) J (aj (am J J (aX (by first|exact aU (by omega) (by omega)|rfl))) J (aj (ag J) J (ai ?_))));refine aL (i+1) ⟨by omega,by omega⟩ J (by rw [bM hxx,kL,List.length_take,Nat.min_eq_left (by omega)];rfl) J
  ·(try simp only [aV]at h15)
   have hi:i=min t.size 256:=by omega
   have htk:(bc t).take i=(bc t).take 256:=by
    rw [hi];by_cases h:t.size≤256
    ·rw [Nat.min_eq_left h,List.take_of_length_le (by omega),List.take_of_length_le (by omega)]
    ·rw [Nat.min_eq_right (by omega)]
   refine bn (bO () trivial J eW J [0,1,2,3] [] J (by rw [htk];rfl) J)
theorem rB(e:Me)(s:Mm)(n:Nat)(hs:MO s n)(p:Nat)(hp:p<n)(z q:Int)(hq:bits .and .i64 z 7=q):
  Spec Tryz.prog 38 [.pointer (some ⟨e.m,0,none⟩),.int .i64 (p:Int),.int .i64 z] [aY e.m 157 (mR e),own 5 1 bQ (sv e.vd) (s).d,own 5 1 bQ (sv e.vi) (s).i,own 3 1 eI (sv e.vr) (s).r] [] (X:=Unit) (fun _=>True) (fun _=> .tuple #[]) (fun _=> [aY e.m 157 (mR e),own 5 1 bQ (sv e.vd) ({s with r:=s.r.set p q}).d,own 5 1 bQ (sv e.vi) ({s with r:=s.r.set p q}).i,own 3 1 eI (sv e.vr) ({s with r:=s.r.set p q}).r]) (fun _=> []):=by
 refine aF Tryz.func38 J Tryz.ntmps38 J fun w0 M H=> ?_
 have hd:=hs.d;have hil:=hs.i;have hrl:=hs.r;have hnn:=hs.n;obtain⟨y,hy⟩:∃y,s.r[p]?=some y:=⟨_,List.getElem?_eq_getElem (by omega)⟩
 refine ae (aa (aj (ac J) J (aj (am J J eV) J (aj (ac J) J (aA [] J J trivial (fun hg1=>ac J) J (aA [(9,_)] J J ⟨J,trivial⟩ (fun hg2=>ac J) J (aA [(9,_),(10,_)] J J ⟨J,J,trivial⟩ (fun hg3=>aq J) J (aA [(9,_),(10,_),(11,_)] J J ⟨J,J,J,trivial⟩ (fun hg4=>ah pe J) J (aA [(9,_),(10,_),(11,_),(12,_)] J J ⟨J,J,J,J,trivial⟩ (fun hg5=>ak FH J J (ap (k:=0) J J)) J (aA [(9,_),(10,_),(11,_),(12,_),(13,_)] J J ⟨J,J,J,J,J,trivial⟩ (fun hg6=>aO Tryz.underlying22 J (bj (k:=3) J)) J (aA [(9,_),(10,_),(11,_),(12,_),(13,_),(14,_)] J J ⟨J,J,J,J,J,J,trivial⟩ (fun hg7=>am J J b_) J (aj (aM J J J (by first|exact ax|exact aC|rfl)) J (ai ?_)))))))))))));refine ar J (fun h8=> ?_) (fun h8=> ?_)
 ·refine aa (aj (ac J) J (aj (aq J) J (aj (ah pe J) J (aj (ak FH J J (ap (k:=0) J J)) J (aj (ac J) J (aj (ac J) J (aj (am J J (lD hq)) J (aj (aN (j:=p) Tryz.underlying22 t3 J J (bj (k:=3) J) J (by omega)) J (lL (k:=3) (e':=q) t3 J J J (by intro _;rfl) hy J J (ai (bO () trivial J eW J [0,1,2,3] [] J J J)))))))))))
 ·exact absurd h8 (by simp;omega)
theorem xr(e:Me)(s:Mm)(n:Nat)(hs:MO s n)(a:Int)(ha:0≤a∧a<s.d.length):
  Spec Tryz.prog 76 [.pointer (some ⟨e.m,0,none⟩),.int .u32 a] [aY e.m 157 (mR e),own 5 1 bQ (sv e.vd) (s).d,own 5 1 bQ (sv e.vi) (s).i,own 3 1 eI (sv e.vr) (s).r] [] (X:=Unit) (fun _=>True) (fun _=> .bool true) (fun _=> [aY e.m 157 (mR e),own 5 1 bQ (sv e.vd) ({s with i:=pk s.i (a.toNat/256*256) ((s.d.drop (a.toNat/256*256)).take 256)}).d,own 5 1 bQ (sv e.vi) ({s with i:=pk s.i (a.toNat/256*256) ((s.d.drop (a.toNat/256*256)).take 256)}).i,own 3 1 eI (sv e.vr) ({s with i:=pk s.i (a.toNat/256*256) ((s.d.drop (a.toNat/256*256)).take 256)}).r]) (fun _=> []):=by
 refine aF Tryz.func76 J Tryz.ntmps76 J fun w0 M H=> ?_
 have hd:=hs.d;have hil:=hs.i;have hrl:=hs.r;have hnn:=hs.n;have hpp:a.toNat/256<n:=by omega
 refine ae (aa (aj (ag J) J (ai (ae (aa (aj (ac J) J (aj (ac J) J (au (xs:= [.tmp 8,.tmp 9]) (mS e s n hs a (by omega)) EH [0,1,2,3] [] [0,1,2,3] J J J J J J J J (fun _ _=>J) (fun _ _ _=>J) J (fun _ _=> ?_)))))))));rw [decide_eq_true ha.2];refine aj (ag J) J (ai (ae (ae (aa (aj (ac J) J (aj (ac J) J (aA [] J J trivial (fun hg1=>ac J) J (aA [(13,_)] J J ⟨J,trivial⟩ (fun hg2=>aq J) J (aA [(13,_),(14,_)] J J ⟨J,J,trivial⟩ (fun hg3=>ah uf J) J (aA [(13,_),(14,_),(15,_)] J J ⟨J,J,J,trivial⟩ (fun hg4=>ak t4 J J (ap (k:=0) J J)) J (aA [(13,_),(14,_),(15,_),(16,_)] J J ⟨J,J,J,J,trivial⟩ (fun hg5=>bZ J) J (aj (aM J J J (by first|exact ax|exact aC|rfl)) J (ai ?_)))))))))))));refine ar J (fun h6=> ?_) (fun h6=> ?_)
 ·refine ae (aa (aj (ac J) J (aj (bP Tryz.underlying41 Tryz.underlying3 J (c:=a) (aU (by omega) (by omega))) J (aj (am J J (jU (by decide) (c:=((a.toNat/256:Nat):Int)) (by rw [Int.tdiv_eq_ediv_of_nonneg ha.1,aU (by omega) (by omega)];omega))) J (aj (am J J (de (c:=((a.toNat/256*256:Nat):Int)) (by rw [aU (by omega) (by omega)];omega))) J (aj (ag J) J (ai (ae (aa (aj (ac J) J (aj (ag J) J (ai (aB ?_)))))))))))));refine bk (X:=Nat) (fun k=>k≤256) (fun k=> [(0,.pointer (some ⟨e.m,0,none⟩)),(5,.bool true),(6,.int .i64 ((a.toNat/256*256:Nat):Int)),(7,.int .i64 (((a.toNat/256*256:Nat):Int)+(k:Int)))]) (fun k=> [(0,aY e.m 157 (mR e)),(1,own 5 1 bQ (sv e.vd) s.d),(2,own 5 1 bQ (sv e.vi) (pk s.i (a.toNat/256*256) ((s.d.drop (a.toNat/256*256)).take k))),(3,own 3 1 eI (sv e.vr) s.r)]) (fun k=> []) (fun k=>256-k) 0 (Nat.zero_le _) (by rw [show((a.toNat/256*256:Nat):Int)+((0:Nat):Int)=((a.toNat/256*256:Nat):Int) by omega];rfl) J J (fun k n1=> ?_);refine ae (ae (aa (aj (ac J) J (aj (ac J) J (aj (am J J (aX (by first|exact aU (by omega) (by omega)|rfl))) J (aj (am J J b_) J (ai (ar J (fun h7=> ?_) (fun h7=> ?_)))))))))
  ·(try simp only [aV]at h7)
   have hi:k<256:=by omega
   have hpl:=eq ((s.d.drop (a.toNat/256*256)).take k) s.i (a.toNat/256*256);obtain⟨x,hxx⟩:∃x,s.d[a.toNat/256*256+k]?=some x:=⟨_,List.getElem?_eq_getElem (by omega)⟩
   have hxd:(s.d.drop (a.toNat/256*256))[k]?=some x:=by rw [List.getElem?_drop];exact hxx
   obtain⟨y,hy⟩:∃y,(pk s.i (a.toNat/256*256) ((s.d.drop (a.toNat/256*256)).take k))[a.toNat/256*256+k]?=some y:=⟨_,List.getElem?_eq_getElem (by omega)⟩
   refine az (ae (aB ?_));refine bA [30,31,32,33,34,35,36,37,38,39,40,41,42] _ J (bB (V:= [(0,30,_),(1,31,_),(2,32,_),(3,33,_),(4,34,_),(5,35,_),(6,36,_),(7,37,_),(8,38,_),(9,39,_),(10,40,_),(11,41,_),(12,42,_)]) [0,1,2,3,4,5,6,7,8,9,10,11,12] 13 [13,12,11,10,9,8,7,6,5,4,3,2,1,0] [] (fun _=> []) J J (ad (aD J (ac J)) (ad (aD J (aq J)) (ad (aD J (ah pg J)) (ad (aD J (ak xf J J (ap (k:=0) J J))) (ad (aD J (ac J)) (ad (aD J (ac J)) (ad (aD J (aq J)) (ad (aD J (ah kT J)) (ad (aD J (ak xf J J (ap (k:=0) J J))) (ad (aD J (ac J)) (ad (aD J (aN (j:=a.toNat/256*256+k) Tryz.underlying84 t5 J J (bj (k:=1) J) (by omega) (by omega))) (ad (aD J (ak t5 J J (bv (bj (k:=1) J) (by intro _;rfl) hxx (by rfl)))) (ad (aD J (aN (j:=a.toNat/256*256+k) Tryz.underlying84 t5 J J (bj (k:=2) J) (by omega) (by omega))) ay))))))))))))) J J J J J J J J J (fun _ _=>J) J (gu (k:=2) (e':=x) t5 J J J (by intro _;rfl) hy J J) (fun _ _=>be [] J J ay J J J ?_));refine aa (aj (ac J) J (aj (am J J (aX (c:=((a.toNat/256*256:Nat):Int)+((k+1:Nat):Int)) (by rw [aU (by omega) (by omega)];omega))) J (aj (ag J) J (ai ?_))));refine aL (k+1) ⟨by omega,by omega⟩ J (by rw [bM hxd,kL,List.length_take,Nat.min_eq_left (by rw [List.length_drop];omega)];rfl) J
  ·(try simp only [aV]at h7)
   have hi:k=256:=by omega
   subst hi;refine bn (ae (aa (aj (ac J) J (aj (ag J) J (ai (aw (aG () trivial J (bx (aH J)) J [0,1,2,3] [] J J J)))))))
 ·exact absurd h6 (by simp)
theorem cv{c:Prop} [Decidable c]{a b:Qg}{n:Nat}(h1:a.sz≤n)(h2:b.sz≤n):(if c then a else b).sz≤n:=by
 by_cases h:c
 ·rw [if_pos h];exact h1
 ·rw [if_neg h];exact h2
theorem KI(o:ByteArray)(s:Qg):(oD o s).sz≤s.sz+9:=by
 unfold oD;refine cv ?_ (cv ?_ (cv ?_ (cv ?_ (cv ?_ (cv ?_ (cv ?_ (cv ?_ (cv ?_ (cv ?_ (cv ?_ (cv ?_ (cv ?_ (cv ?_ (cv ?_ (cv ?_ ?_)))))))))))))));all_goals
  (try simp only [bp,bU,bG,bD,List.length_singleton,List.length_cons,List.length_nil])
  omega
theorem KH(o:ByteArray)(s:Qg):(D5 o s).sz≤s.sz+2:=by
 unfold D5;refine cv ?_ (cv ?_ (cv ?_ ?_));all_goals
  (try simp only [bp,List.length_singleton,List.length_cons,List.length_nil])
  omega
theorem G6(n:Int)(s:Qg):(qx n s).sz≤s.sz+2:=by
 unfold qx;refine cv ?_ ?_;all_goals
  (try simp only [bp,List.length_singleton,List.length_cons,List.length_nil])
  omega
mutual
theorem lB(o st:Om):∀(t:Tx)(s:Qg),(gX o st t s).sz+2≤s.sz+22*nX t
 | .mk k n nm _ kids,s=>by
  have h0:=yc o st kids;have h1:=fun s=>zP o st kids s
  have hs:=tY o st kids;have hu:=KH nm (kP o st kids s);have hn:=G6 n s;have ho:=KI nm ((LM o st kids ((kP o st kids s).push 1)).pop 2);have i0:=h0 s;have i1:=h1 s;have is:=hs s;rw [c8]at ho;unfold gX nX
  suffices h:∀x:Qg,x.sz≤s.sz+22*dU kids+20→x.sz+2≤s.sz+22*(dU kids+1)from h _ (by
   refine cv (by omega) (cv ?_ (cv ?_ (cv ?_ (cv (by omega) (cv (by omega) (cv ?_ (by omega)))))))
   ·simp only [bp,List.length_singleton];omega
   ·simp only [bp,List.length_singleton];omega
   ·simp only [bp,cQ,List.length_singleton];omega
   ·dsimp only;refine cv ?_ ?_
    ·simp only [bp,bG,List.length_singleton];omega
    ·simp only [bG];omega)
  intro x hx;omega
theorem yc(o st:Om):∀(l:List Tx)(s:Qg),(kP o st l s).sz≤s.sz+22*dU l
 | [],s=>Nat.le_add_right _ _
 | t::r,s=>by
  have:=lB o st t s;unfold kP dU;omega
theorem zP(o st:Om):∀(l:List Tx)(s:Qg),(LM o st l ((kP o st l s).push 1)).sz≤s.sz+22*dU l+2
 | [],s=>by
  show(s.push 1).sz≤_;rw [ck];omega
 | t::r,s=>by
  have h1:=lB o st t s;have h2:=yc o st r ((gX o st t s).push 1);rw [ck]at h2;show(kP o st r ((gX o st t s).push 1)).sz≤_;unfold dU;omega
theorem tY(o st:Om):∀(l:List Tx)(s:Qg),(sE o st l s).sz≤s.sz+22*dU l
 | [],s=>Nat.le_add_right _ _
 | t::r,s=>by
  have h1:=lB o st t s;have h2:=tY o st r ((gX o st t s).push 1);rw [ck]at h2;unfold sE dU;omega
end
theorem Spec.roW{P:Program}{n:Nat}{vs:List Value}{X:Type}{L R:List Asn}{φ:X→Prop}{v:X→Value}{L1:X→List Asn}{B:Asn}(h:∀A∈R,∀w G,B.pred w G→(∀b,G b→b<w.heap.size)→∃G':Nat→Prop,A.pred w G'∧∀b,G' b→G b)
  (hs:Spec P n vs L R φ v L1 (fun _=> [])):Spec P n vs L [B] φ v L1 (fun _=> []):=by
 intro w M H hl;refine hs w M H ?_;obtain⟨F,hF⟩:=hl;refine⟨F,hF.touch,hF.has,hF.lt,hF.mine,hF.apart,fun k A hk=> ?_⟩;obtain⟨G,g1,g2⟩:=hF.ro 0 B J;obtain⟨G',a1,a2⟩:=h A (List.mem_of_getElem? hk) w G g1 fun b hb=>(g2 b hb).1
 exact⟨G',a1,fun b hb=>g2 b (a2 b hb)⟩
def OR(e:Ga)(c:Oq)(o:ByteArray)(s:Qg):Prop:=
 ∃n l,(RD c).find? (fun x=>decide (Prod.fst x=o))=some (o,cc n l)∧Cb Tryz.prog n∧Spec Tryz.prog n (l.map fun b=>Value.pointer (some ⟨b,0,none⟩)) [gA e s] [gT e.g c] (X:=Unit) (fun _=>True) (fun _=> .tuple #[]) (fun _=> [gA e (oD o s)]) (fun _=> [])
theorem ea{g:Nat}{c:Oq}{R:List Asn}(h:∀A∈R,∃i:Nat,(MT g c)[i]?=some A):∀A∈R,∀w G,(gT g c).pred w G→(∀b,G b→b<w.heap.size)→∃G':Nat→Prop,A.pred w G'∧∀b,G' b→G b:=fun A hA w G h1 h2=>by
 obtain⟨i,hi⟩:=h A hA;exact De i hi w G h1 h2
theorem J8(e:Ga)(c:Oq)(o:ByteArray)(s:Qg)(hz:s.sz≤890000)(h:gw o=true):OR e c o s:=by
 by_cases h0:o=eG
 ·subst h0;refine⟨85,[c.bg,c.b0],J,rW,?_⟩;rw [show oD eG s=s.emit [q3 1 1 2 1]from J];exact Spec.roW (ea (fun A hA=>by
    simp only [List.mem_cons,List.not_mem_nil,or_false]at hA;rcases hA with rfl|rfl
    ·exact⟨1,J⟩
    ·exact⟨2,J⟩
   )) (fF e s (by omega) c.bg c.b0 1)
 by_cases h1:o=dw
 ·subst h1;refine⟨85,[c.bg,c.b1],J,rW,?_⟩;rw [show oD dw s=s.emit [q3 2 1 2 1]from J];exact Spec.roW (ea (fun A hA=>by
    simp only [List.mem_cons,List.not_mem_nil,or_false]at hA;rcases hA with rfl|rfl
    ·exact⟨1,J⟩
    ·exact⟨3,J⟩
   )) (fF e s (by omega) c.bg c.b1 2)
 by_cases h2:o=ff
 ·subst h2;refine⟨85,[c.bg,c.b2],J,rW,?_⟩;rw [show oD ff s=s.emit [q3 9 1 2 1]from J];exact Spec.roW (ea (fun A hA=>by
    simp only [List.mem_cons,List.not_mem_nil,or_false]at hA;rcases hA with rfl|rfl
    ·exact⟨1,J⟩
    ·exact⟨4,J⟩
   )) (fF e s (by omega) c.bg c.b2 9)
 by_cases h3:o=dW
 ·subst h3;refine⟨85,[c.bg,c.b3],J,rW,?_⟩;rw [show oD dW s=s.emit [q3 3 1 2 1]from J];exact Spec.roW (ea (fun A hA=>by
    simp only [List.mem_cons,List.not_mem_nil,or_false]at hA;rcases hA with rfl|rfl
    ·exact⟨1,J⟩
    ·exact⟨5,J⟩
   )) (fF e s (by omega) c.bg c.b3 3)
 by_cases h4:o=iH
 ·subst h4;refine⟨85,[c.bg,c.b4],J,rW,?_⟩;rw [show oD iH s=s.emit [q3 4 1 2 1]from J];exact Spec.roW (ea (fun A hA=>by
    simp only [List.mem_cons,List.not_mem_nil,or_false]at hA;rcases hA with rfl|rfl
    ·exact⟨1,J⟩
    ·exact⟨6,J⟩
   )) (fF e s (by omega) c.bg c.b4 4)
 by_cases h5:o=d6
 ·subst h5;refine⟨85,[c.bg,c.b5],J,rW,?_⟩;rw [show oD d6 s=s.emit [q3 5 1 2 1]from J];exact Spec.roW (ea (fun A hA=>by
    simp only [List.mem_cons,List.not_mem_nil,or_false]at hA;rcases hA with rfl|rfl
    ·exact⟨1,J⟩
    ·exact⟨7,J⟩
   )) (fF e s (by omega) c.bg c.b5 5)
 by_cases h6:o=fe
 ·subst h6;refine⟨85,[c.bg,c.b6],J,rW,?_⟩;rw [show oD fe s=s.emit [q3 6 1 2 1]from J];exact Spec.roW (ea (fun A hA=>by
    simp only [List.mem_cons,List.not_mem_nil,or_false]at hA;rcases hA with rfl|rfl
    ·exact⟨1,J⟩
    ·exact⟨8,J⟩
   )) (fF e s (by omega) c.bg c.b6 6)
 by_cases h7:o=fy
 ·subst h7;refine⟨85,[c.bg,c.b7],J,rW,?_⟩;rw [show oD fy s=s.emit [q3 7 1 2 1]from J];exact Spec.roW (ea (fun A hA=>by
    simp only [List.mem_cons,List.not_mem_nil,or_false]at hA;rcases hA with rfl|rfl
    ·exact⟨1,J⟩
    ·exact⟨9,J⟩
   )) (fF e s (by omega) c.bg c.b7 7)
 by_cases h8:o=jZ
 ·subst h8;refine⟨85,[c.bg,c.b8],J,rW,?_⟩;rw [show oD jZ s=s.emit [q3 11 1 2 1]from J];exact Spec.roW (ea (fun A hA=>by
    simp only [List.mem_cons,List.not_mem_nil,or_false]at hA;rcases hA with rfl|rfl
    ·exact⟨1,J⟩
    ·exact⟨10,J⟩
   )) (fF e s (by omega) c.bg c.b8 11)
 by_cases h9:o=li
 ·subst h9;refine⟨87,[c.bg],J,ND,?_⟩;rw [show oD li s=s.emit [q3 11 1 1 2]from J];exact Spec.roW (ea (fun A hA=>by
    simp only [List.mem_cons,List.not_mem_nil,or_false]at hA;rcases hA with rfl
    ·exact⟨1,J⟩
   )) (wE e s (by omega) c.bg)
 by_cases h10:o=lh
 ·subst h10;refine⟨89,[c.f0,c.bg],J,K6,?_⟩;rw [show oD lh s=(s.emit [q3 11 1 1 2]).emit [qi 19 1 1 1]from J];exact Spec.roW (ea (fun A hA=>by
    simp only [List.mem_cons,List.not_mem_nil,or_false]at hA;rcases hA with rfl|rfl
    ·exact⟨12,J⟩
    ·exact⟨1,J⟩
   )) (sY e s (by omega) c.bg c.f0 87 (s.emit [q3 11 1 1 2]) (by rw [bp];simp;omega) ND (wE e s (by omega) c.bg))
 by_cases h11:o=l9
 ·subst h11;refine⟨89,[c.f1,c.bg],J,K6,?_⟩;rw [show oD l9 s=(s.emit [q3 11 1 2 1]).emit [qi 19 1 1 1]from J];exact Spec.roW (ea (fun A hA=>by
    simp only [List.mem_cons,List.not_mem_nil,or_false]at hA;rcases hA with rfl|rfl|rfl
    ·exact⟨13,J⟩
    ·exact⟨1,J⟩
    ·exact⟨11,J⟩
   )) (BT e s (by omega) c.bg c.b9 c.f1 85 (s.emit [q3 11 1 2 1]) (by rw [bp];simp;omega) rW (fF e s (by omega) c.bg c.b9 11))
 by_cases h12:o=lg
 ·subst h12;refine⟨90,[c.bg],J,NC,?_⟩;rw [show oD lg s=(s.emit [q3 5 1 2 1]).emit [q3 11 1 0 1]from J];exact Spec.roW (ea (fun A hA=>by
    simp only [List.mem_cons,List.not_mem_nil,or_false]at hA;rcases hA with rfl
    ·exact⟨1,J⟩
   )) (wD e s (by omega) c.bg)
 by_cases h13:o=lm
 ·subst h13;refine⟨89,[c.f2,c.bg],J,K6,?_⟩;rw [show oD lm s=((s.emit [q3 5 1 2 1]).emit [q3 11 1 0 1]).emit [qi 19 1 1 1]from J];exact Spec.roW (ea (fun A hA=>by
    simp only [List.mem_cons,List.not_mem_nil,or_false]at hA;rcases hA with rfl|rfl
    ·exact⟨14,J⟩
    ·exact⟨1,J⟩
   )) (sY e s (by omega) c.bg c.f2 90 ((s.emit [q3 5 1 2 1]).emit [q3 11 1 0 1]) (by rw [bp,bp];simp;omega) NC (wD e s (by omega) c.bg))
 by_cases h14:o=iV
 ·subst h14;refine⟨91,[c.bg],J,QU,?_⟩;rw [show oD iV s=((s.lab.jump 32 1 0 s.labs.length).emit [q3 10 1 2 1]).place s.labs.length from J];exact Spec.roW (ea (fun A hA=>by
    simp only [List.mem_cons,List.not_mem_nil,or_false]at hA;rcases hA with rfl
    ·exact⟨1,J⟩
   )) (EW e s (by omega) c.bg)
 by_cases h15:o=jt
 ·subst h15;refine⟨93,[c.bg],J,QT,?_⟩;rw [show oD jt s=((((((s.lab.emit [q3 1 3 1 0]).jump 32 1 0 s.labs.length).emit [q3 10 3 2 1]).emit [q3 9 3 3 1]).place s.labs.length)).emit [q3 2 1 2 3]from J];exact Spec.roW (ea (fun A hA=>by
    simp only [List.mem_cons,List.not_mem_nil,or_false]at hA;rcases hA with rfl
    ·exact⟨1,J⟩
   )) (EV e s (by omega) c.bg)
 exfalso;unfold gw at h;rw [Option.isSome_iff_exists]at h;obtain⟨x,hx⟩:=h;have hm:=List.mem_of_find?_eq_some hx;have he:=List.find?_some hx;simp only [decide_eq_true_eq]at he;simp only [lvL,List.mem_cons,List.not_mem_nil,or_false]at hm;rcases hm with rfl|rfl|rfl|rfl|rfl|rfl|rfl|rfl|rfl|rfl|rfl|rfl|rfl|rfl|rfl|rfl
 ·exact h15 he.symm
 ·exact h14 he.symm
 ·exact h2 he.symm
 ·exact h1 he.symm
 ·exact h0 he.symm
 ·exact h7 he.symm
 ·exact h6 he.symm
 ·exact h11 he.symm
 ·exact h9 he.symm
 ·exact h10 he.symm
 ·exact h8 he.symm
 ·exact h12 he.symm
 ·exact h13 he.symm
 ·exact h3 he.symm
 ·exact h5 he.symm
 ·exact h4 he.symm
section
variable{P:Program}{N:Nat}{w0:World}{M H:Nat→Prop}{E:el}{Γ R:dQ}
theorem nO{k o b:Nat}{e:Ga}{s:Qg}{u:Value}(hk:bL Γ k=some (gA e s))(hu:∀x:SV×SV×SV,(gR e.vp x.1 x.2.1 x.2.2 e.ms e.mo e.mp e.en)[o]?=some u)(hb:e.g=b):Gives w0 M H Γ R b o [u]:=by
 subst hb;intro w hC j u' hj;obtain⟨G,⟨x,Fs,h1,-,-⟩,-⟩:=hC.reads (.inl hk);obtain⟨-,h2⟩:=h1 0 _ J;cases j with
 | zero=>
  simp at hj;subst hj;rw [cell_of_row w e.g (o+0) _ 111 (0,0) h2];simpa using hu x
 | succ j=>simp at hj
def vQ(p:ByteArray×Int):Value:= .int .u32 p.2
theorem C_{S kt et:TypeId}{x y:Operand}{o:Option Nat}{k:ByteArray}{L:Om}{D:TypeDesc}{s bb:Nat}(hS:P.underlying S=some (.map kt et))(hK:KeyLaw P kt fz)(ht:TI P et D (.int .u32 0) s bb)(hx:ev E x=some (.map o))(hy:ev E y=some (fz k))(hm:HasMp Γ R fz Prod.fst vQ o L):
  PR P N w0 M H E Γ R (.lookup S x y false) (.int .u32 (bs L k)):=by
 have:=mF (w0:=w0) (M:=M) (H:=H) (N:=N) (ok:=false) hS hK ht hx hy hm J;have e:((L.find? (fun a=>decide (Prod.fst a=k))).map vQ).getD (.int .u32 0)= .int .u32 (bs L k):=by
  unfold bs;cases L.find? (fun a=>decide (Prod.fst a=k))<;>rfl
 rw [←e];exact this
theorem Da{S kt et:TypeId}{x y:Operand}{o:Option Nat}{k:ByteArray}{L:Om}{D:TypeDesc}{s bb:Nat}(hS:P.underlying S=some (.map kt et))(hK:KeyLaw P kt fz)(ht:TI P et D (.int .i64 0) s bb)(hx:ev E x=some (.map o))(hy:ev E y=some (fz k))(hm:HasMp Γ R fz Prod.fst vI o L):
  PR P N w0 M H E Γ R (.lookup S x y false) (.int .i64 (bs L k)):=by
 have:=mF (w0:=w0) (M:=M) (H:=H) (N:=N) (ok:=false) hS hK ht hx hy hm J;have e:((L.find? (fun a=>decide (Prod.fst a=k))).map vI).getD (.int .i64 0)= .int .i64 (bs L k):=by
  unfold bs;cases L.find? (fun a=>decide (Prod.fst a=k))<;>rfl
 rw [←e];exact this
end
theorem QK{o st:Om}{t:Tx}{s:Qg}(h:t.kind=1):gX o st t s=qx t.n s:=by
 obtain⟨k,n,nm,v,kids⟩:=t;obtain rfl:k=1:=h;rfl
theorem QJ{o st:Om}{t:Tx}{s:Qg}(h:t.kind=2):gX o st t s=s.emit [qi 23 1 13 (bs o t.name)]:=by
 obtain⟨k,n,nm,v,kids⟩:=t;obtain rfl:k=2:=h;rfl
theorem QG{o st:Om}{t:Tx}{s:Qg}(h:t.kind=5):gX o st t s=s.emit [⟨48,0,0,0,2⟩]:=by
 obtain⟨k,n,nm,v,kids⟩:=t;obtain rfl:k=5:=h;rfl
theorem QH{o st:Om}{t u:Tx}{s:Qg}(h:t.kind=4)(hk:t.kids= [u]):gX o st t s=((gX o st u s).elem 1).emit [qi 23 1 1 8192]:=by
 obtain⟨k,n,nm,v,kids⟩:=t;obtain rfl:k=4:=h;obtain rfl:kids= [u]:=hk;rfl
theorem QF{o st:Om}{t u:Tx}{s:Qg}(h:t.kind=6)(hk:t.kids= [u]):gX o st t s=D5 t.name (gX o st u s):=by
 obtain⟨k,n,nm,v,kids⟩:=t;obtain rfl:k=6:=h;obtain rfl:kids= [u]:=hk;rfl
theorem QE{o st:Om}{t a b:Tx}{s:Qg}(h:t.kind=7)(hk:t.kids= [a,b]):gX o st t s=oD t.name ((gX o st b ((gX o st a s).push 1)).pop 2):=by
 obtain⟨k,n,nm,v,kids⟩:=t;obtain rfl:k=7:=h;obtain rfl:kids= [a,b]:=hk;rfl
theorem QI{o st:Om}{t:Tx}{s:Qg}(h:t.kind=3):gX o st t s=if t.kids.length>0 then((sE o st t.kids s).jump 40 15 0 (bs st t.name)).emit [qi 16 14 14 (4*t.kids.length)]else(sE o st t.kids s).jump 40 15 0 (bs st t.name):=by
 obtain⟨k,n,nm,v,kids⟩:=t;obtain rfl:k=3:=h;rfl
theorem vZ{o st:Om}:∀{l:List Tx}{i:Nat}{u:Tx}(s:Qg),l[i]?=some u→sE o st (l.take (i+1)) s=(gX o st u (sE o st (l.take i) s)).push 1
 | [],i,u,s,h=>by simp at h
 | x::r,0,u,s,h=>by cases h;rfl
 | x::r,i+1,u,s,h=>vZ (l:=r) _ h
structure Wx(t:Tx):Prop where
 one:t.kind=4∨t.kind=6→∃u,t.kids= [u]
 un:t.kind=6→t.name=dw∨t.name=qf∨t.name=rJ
 two:t.kind=7→gw t.name=true∧∃a b,t.kids= [a,b]
 kids:∀u∈t.kids,rX u=true
 kind:t.kind=1∨t.kind=2∨t.kind=3∨t.kind=4∨t.kind=5∨t.kind=6∨t.kind=7
theorem tB:∀{l:List Tx},oN l=true→∀u∈l,rX u=true
 | [],_,_,h=>by simp at h
 | t::r,h,u,hu=>by
  unfold oN at h;rw [Bool.and_eq_true]at h;rcases List.mem_cons.1 hu with rfl|hu
  ·exact h.1
  ·exact tB h.2 u hu
theorem tJ{l:List Tx}(h:l.length=1):∃u,l= [u]:=by
 match l,h with
 | [u],_=>exact⟨u,rfl⟩
theorem Co{l:List Tx}(h:l.length=2):∃a b,l= [a,b]:=by
 match l,h with
 | [a,b],_=>exact⟨a,b,rfl⟩
theorem Ia{t:Tx}(h:rX t=true):Wx t:=by
 obtain⟨k,n,nm,v,kids⟩:=t;unfold rX at h;simp only [Bool.and_eq_true]at h;obtain⟨⟨h1,-⟩,h3⟩:=h;unfold oP at h1;refine⟨fun hk=> ?_,fun hk=> ?_,fun hk=> ?_,tB h3,?_⟩
 ·show ∃u,kids= [u];rcases hk with hk|hk
  ·obtain rfl:k=4:=hk;simp at h1;exact tJ h1.2
  ·obtain rfl:k=6:=hk;simp at h1;exact tJ h1.2
 ·obtain rfl:k=6:=hk;simp [bX,wN]at h1;rcases h1.1 with h|h|h
  ·exact .inl h
  ·exact .inr (.inl h)
  ·exact .inr (.inr h)
 ·obtain rfl:k=7:=hk;simp at h1;exact⟨h1.1,Co h1.2⟩
 ·show k=1∨k=2∨k=3∨k=4∨k=5∨k=6∨k=7;by_cases k1:k=1
  ·exact .inl k1
  by_cases k2:k=2
  ·exact .inr (.inl k2)
  by_cases k3:k=3
  ·exact .inr (.inr (.inl k3))
  by_cases k4:k=4
  ·exact .inr (.inr (.inr (.inl k4)))
  by_cases k5:k=5
  ·exact .inr (.inr (.inr (.inr (.inl k5))))
  by_cases k6:k=6
  ·exact .inr (.inr (.inr (.inr (.inr (.inl k6)))))
  by_cases k7:k=7
  ·exact .inr (.inr (.inr (.inr (.inr (.inr k7)))))
  simp [k1,k2,k3,k4,k5,k6,k7]at h1
theorem Gu{q:Prop}{k:Int}(h:k=1∨k=2∨k=3∨k=4∨k=5∨k=6∨k=7)(n1:¬k=1)(n2:¬k=2)(n3:¬k=3)(n4:¬k=4)(n5:¬k=5)(n6:¬k=6)(n7:¬k=7):q:=by omega
theorem Rw{t:Tx}(h:GX t):oW t.n:=by cases t;exact h.1
theorem DV(e:Ga)(c:Oq)(om sm:Om)(hm:e.mp=c.m)(t:Tx)(hw:Wx t)(hg:GX t)(ih:∀u∈t.kids,∀s:Qg,s.sz+22*nX u≤780000→Spec Tryz.prog 167 [.pointer (some ⟨e.g,0,none⟩),xV u] [gA e s] [bK u.v u.kids,gT e.g c,mp fz Prod.fst vQ e.mo om,mp fz Prod.fst vI (some e.ms) sm] (X:=Unit) (fun _=>True) (fun _=> .tuple #[]) (fun _=> [gA e (gX om sm u s)]) (fun _=> []))(s:Qg)(hz:s.sz+22*nX t≤780000):
  Spec Tryz.prog 167 [.pointer (some ⟨e.g,0,none⟩),xV t] [gA e s] [bK t.v t.kids,gT e.g c,mp fz Prod.fst vQ e.mo om,mp fz Prod.fst vI (some e.ms) sm] (X:=Unit) (fun _=>True) (fun _=> .tuple #[]) (fun _=> [gA e (gX om sm t s)]) (fun _=> []):=by
 refine aF Tryz.func167 J Tryz.ntmps167 J fun w0 M H=>aQ 0 9 J eL (ae (aa (bN J J fun b3=>ai (ae (aa (aj (ah ix J) J (aj (ak t3 J J (ap (k:=3) J J)) J (ai (aB (ae (aa ?_)))))))))))
 refine aj (am J J aS) J (aj (ag J) J (ai (ar J (fun h1=> ?_) (fun h1=> ?_))))
 ·(try simp only [aV]at h1)
  have hk:t.kind=1:=h1;rw [QK hk];refine aa (aj (ac J) J (aj (ah ua J) J (aj (ak cr J J (ap (k:=3) J J)) J (au (xs:= [.tmp 11,.tmp 13]) (Dh e s (by omega) t.n (Rw hg)) NT [0] [] [0] J J J J J J J J (fun _ _=>J) (fun _ _ _=>J) J (fun _ _=>ai (bO () trivial J eW J [0] [] J J J))))))
 ·(try simp only [aV]at h1)
  have n1:¬t.kind=1:=h1;refine ae (aa (aj (am J J aS) J (aj (ag J) J (ai (ar J (fun h2=> ?_) (fun h2=> ?_))))))
  ·(try simp only [aV]at h2)
   have hk:t.kind=2:=h2;rw [QJ hk];refine bA [17,18,19,20,21,22,23,24,25] _ J (aZ (V:= [(0,17,_),(1,18,_),(2,19,_),(3,20,_),(4,21,_),(5,22,_),(6,23,_),(7,24,_)]) [0,1,2,3,4,5,6,7] 8 [8,7,6,5,4,3,2,1,0] [] (fun _=> []) J J (ad (aD J (ac J)) (ad (aD J (ac J)) (ad (aD J (aq J)) (ad (aD J (ah kW J)) (ad (aD J (ak A1 J J (nO (k:=0) J (fun _=>J) J))) (ad (aD J (ah cN J)) (ad (aD J (ak t9 J J (ap (k:=3) J J))) (ad (aD J (C_ Tryz.underlying108 d8 cr J J (sw (k:=2) J))) ay)))))))) J J J J J J J J J J J (fun _ _=>J) J (bh (xs:= [.tmp 17,.const (.int .i64 23),.const (.int .i64 1),.const (.int .i64 13),.tmp 24]) (cB e (s) (by omega) 23 1 13 (bs om t.name)) iJ [0] [] [0] J J J J J J J J (fun _ _=>J) (fun _ _ _=>J)) (fun _ _=>be [] J J ay J J J (bO () trivial J eW J [0] [] J J J)))
  ·(try simp only [aV]at h2)
   have n2:¬t.kind=2:=h2;refine ae (aa (aj (am J J aS) J (aj (ag J) J (ai (ar J (fun h3=> ?_) (fun h3=> ?_))))))
   ·(try simp only [aV]at h3)
    have hk:t.kind=5:=h3;rw [QG hk];refine aa (aj (ac J) J (aj (aP (parts:= [(0,.const (.int .i64 48)),(4,.const (.int .u32 2))]) ed lz J J) J (bq gC ⟨48,0,0,0,2⟩ Tryz.underlying106 ed J (by decide) (by decide) J J J J fun v30=>bW 30 7 J br (au (xs:= [.tmp 28,.tmp 30]) (gh e s (by omega) v30 [⟨48,0,0,0,2⟩] (by simp)) wz [0] [(false,7)] [0] J J J J J J J J (fun _ _=>J) (fun _ _ _=>J) J (fun _ _=>ai (bO () trivial J eW J [0] [] J J J))))))
   ·(try simp only [aV]at h3)
    have n5:¬t.kind=5:=h3;refine ae (aa (aj (am J J aS) J (aj (ag J) J (ai (ar J (fun h4=> ?_) (fun h4=> ?_))))))
    ·(try simp only [aV]at h4)
     have hk:t.kind=4:=h4;obtain⟨u,hku⟩:=hw.one (.inl hk);have hnu:nX t=nX u+1:=by rw [sq,hku];simp [dU]
     have hsz:=lB om sm u s;rw [QH hk hku];refine ae (aa (aj (ac J) J (aj (ah cU J) J (aj (ak ic J J (ap (k:=3) J J)) J (aj (aN (j:=0) Tryz.underlying59 cg J J (aK (k:=9) J) J (by rw [hku];simp)) J ?_)))));refine aj (aJ cg J J J (bv (aK (k:=9) J) (by intro _;rfl) (show t.kids[0]?=some u by rw [hku];rfl) (by rfl))) J ?_;refine aQ 0 8 J (cH (show u∈t.kids by rw [hku];simp)) ?_;refine au (xs:= [.tmp 34,.tmp 38]) (ih u (show u∈t.kids by rw [hku];simp) (s) (by omega)) qU [0] [(false,8),(false,1),(false,2),(false,3)] [0] J J J J J J J J (fun _ _=>J) (fun _ _ _=>J) J (fun _ _=> ?_);refine ai (ae (aa (aj (ac J) J (au (xs:= [.tmp 40,.const (.int .i64 1)]) (sM e (gX om sm u s) (by omega) 1) IW [0] [] [0] J J J J J J J J (fun _ _=>J) (fun _ _ _=>J) J (fun _ _=>ai (aa (aj (ac J) J (au (xs:= [.tmp 42,.const (.int .i64 23),.const (.int .i64 1),.const (.int .i64 1),.const (.int .u32 8192)]) (cB e ((gX om sm u s).elem 1) (by rw [cQ];omega) 23 1 1 8192) iJ [0] [] [0] J J J J J J J J (fun _ _=>J) (fun _ _ _=>J) J (fun _ _=>ai (bO () trivial J eW J [0] [] J J J))))))))))
    ·(try simp only [aV]at h4)
     have n4:¬t.kind=4:=h4;refine ae (aa (aj (am J J aS) J (aj (ag J) J (ai (ar J (fun h5=> ?_) (fun h5=> ?_))))))
     ·(try simp only [aV]at h5)
      have hk:t.kind=6:=h5;obtain⟨u,hku⟩:=hw.one (.inr hk);have hnu:nX t=nX u+1:=by rw [sq,hku];simp [dU]
      have hsz:=lB om sm u s;rw [QF hk hku];refine ae (aa (aj (ac J) J (aj (ah cU J) J (aj (ak ic J J (ap (k:=3) J J)) J (aj (aN (j:=0) Tryz.underlying59 cg J J (aK (k:=9) J) J (by rw [hku];simp)) J ?_)))));refine aj (aJ cg J J J (bv (aK (k:=9) J) (by intro _;rfl) (show t.kids[0]?=some u by rw [hku];rfl) (by rfl))) J ?_;refine aQ 0 8 J (cH (show u∈t.kids by rw [hku];simp)) ?_;refine au (xs:= [.tmp 46,.tmp 50]) (ih u (show u∈t.kids by rw [hku];simp) (s) (by omega)) qU [0] [(false,8),(false,1),(false,2),(false,3)] [0] J J J J J J J J (fun _ _=>J) (fun _ _ _=>J) J (fun _ _=> ?_);refine ai (ae (aa (aj (ah cN J) J (aj (ak t9 J J (ap (k:=3) J J)) J (ai (aB (ae (aa (aj (am J J ci) J (aj (ag J) J (ai (ar J (fun h6=> ?_) (fun h6=> ?_)))))))))))))
      ·(try simp only [aV]at h6)
       have ho:t.name=dw:=of_decide_eq_true ((bR _ _).symm.trans h6);rw [ho,show D5 dw (gX om sm u s)=(gX om sm u s).emit [q3 2 1 0 1]from J];refine aa (aj (ac J) J (au (xs:= [.tmp 56,.const (.int .i64 2),.const (.int .i64 1),.const (.int .i64 0),.const (.int .i64 1)]) (cJ e (gX om sm u s) (by omega) 2 1 0 1) l6 [0] [] [0] J J J J J J J J (fun _ _=>J) (fun _ _ _=>J) J (fun _ _=>ai (bO () trivial J eW J [0] [] J J J))))
      ·(try simp only [aV]at h6)
       have u1:¬t.name=dw:=of_decide_eq_false ((bR _ _).symm.trans h6);refine ae (aa (aj (am J J ci) J (aj (ag J) J (ai (ar J (fun h7=> ?_) (fun h7=> ?_))))))
       ·(try simp only [aV]at h7)
        have ho:t.name=qf:=of_decide_eq_true ((bR _ _).symm.trans h7);rw [ho,show D5 qf (gX om sm u s)=((gX om sm u s).emit [qi 16 2 0 4294967295]).emit [q3 5 1 1 2]from J];refine ae (aa (aj (ac J) J (au (xs:= [.tmp 60,.const (.int .i64 16),.const (.int .i64 2),.const (.int .i64 0),.const (.int .u32 4294967295)]) (cB e (gX om sm u s) (by omega) 16 2 0 4294967295) iJ [0] [] [0] J J J J J J J J (fun _ _=>J) (fun _ _ _=>J) J (fun _ _=>ai (aa (aj (ac J) J (au (xs:= [.tmp 62,.const (.int .i64 5),.const (.int .i64 1),.const (.int .i64 1),.const (.int .i64 2)]) (cJ e ((gX om sm u s).emit [qi 16 2 0 4294967295]) (by rw [bp];simp;omega) 5 1 1 2) l6 [0] [] [0] J J J J J J J J (fun _ _=>J) (fun _ _ _=>J) J (fun _ _=>ai (bO () trivial J eW J [0] [] J J J)))))))))
       ·(try simp only [aV]at h7)
        have u2:¬t.name=qf:=of_decide_eq_false ((bR _ _).symm.trans h7);refine ae (aa (aj (am J J ci) J (aj (ag J) J (ai (ar J (fun h8=> ?_) (fun h8=> ?_))))))
        ·(try simp only [aV]at h8)
         have ho:t.name=rJ:=of_decide_eq_true ((bR _ _).symm.trans h8);rw [ho,show D5 rJ (gX om sm u s)=((gX om sm u s).emit [qi 16 2 0 1]).emit [q3 11 1 1 2]from J];refine ae (aa (aj (ac J) J (au (xs:= [.tmp 66,.const (.int .i64 16),.const (.int .i64 2),.const (.int .i64 0),.const (.int .u32 1)]) (cB e (gX om sm u s) (by omega) 16 2 0 1) iJ [0] [] [0] J J J J J J J J (fun _ _=>J) (fun _ _ _=>J) J (fun _ _=>ai (aa (aj (ac J) J (au (xs:= [.tmp 68,.const (.int .i64 11),.const (.int .i64 1),.const (.int .i64 1),.const (.int .i64 2)]) (cJ e ((gX om sm u s).emit [qi 16 2 0 1]) (by rw [bp];simp;omega) 11 1 1 2) l6 [0] [] [0] J J J J J J J J (fun _ _=>J) (fun _ _ _=>J) J (fun _ _=>ai (bO () trivial J eW J [0] [] J J J)))))))))
        ·exact absurd ((hw.un hk).resolve_left u1 |>.resolve_left u2) (of_decide_eq_false ((bR _ _).symm.trans h8))
     ·(try simp only [aV]at h5)
      have n6:¬t.kind=6:=h5;refine ae (aa (aj (am J J aS) J (aj (ag J) J (ai (ar J (fun h9=> ?_) (fun h9=> ?_))))))
      ·(try simp only [aV]at h9)
       have hk:t.kind=7:=h9;obtain⟨hbin,a,b,hkab⟩:=hw.two hk;have hnu:nX t=nX a+nX b+1:=by rw [sq,hkab];simp [dU]
       have hsa:=lB om sm a s;have hsb:=lB om sm b ((gX om sm a s).push 1);rw [ck]at hsb;rw [QE hk hkab];obtain⟨nc,lc,hfc,hcb,hop⟩:=J8 e c t.name ((gX om sm b ((gX om sm a s).push 1)).pop 2) (by rw [c8];omega) hbin;refine aQ 1 10 J (De 0 J) ?_;rw [←hm];refine ae (aa (aj (ac J) J (aj (ah cU J) J (aj (ak ic J J (ap (k:=3) J J)) J (aj (aN (j:=0) Tryz.underlying59 cg J J (aK (k:=9) J) J (by rw [hkab];simp)) J ?_)))));refine aj (aJ cg J J J (bv (aK (k:=9) J) (by intro _;rfl) (show t.kids[0]?=some a by rw [hkab];rfl) (by rfl))) J ?_;refine aQ 0 8 J (cH (show a∈t.kids by rw [hkab];simp)) ?_;refine au (xs:= [.tmp 72,.tmp 76]) (ih a (show a∈t.kids by rw [hkab];simp) (s) (by omega)) qU [0] [(false,8),(false,1),(false,2),(false,3)] [0] J J J J J J J J (fun _ _=>J) (fun _ _ _=>J) J (fun _ _=> ?_);refine ai (ae (aa (aj (ac J) J (au (xs:= [.tmp 78,.const (.int .i64 1)]) (g9 e (gX om sm a s) (by omega) 1) BO [0] [] [0] J J J J J J J J (fun _ _=>J) (fun _ _ _=>J) J (fun _ _=>ai (ae (aa (aj (ac J) J (aj (ah cU J) J (aj (ak ic J J (ap (k:=3) J J)) J (aj (aN (j:=1) Tryz.underlying59 cg J J (aK (k:=9) J) J (by rw [hkab];simp)) J ?_)))))))))));refine aj (aJ cg J J J (bv (aK (k:=9) J) (by intro _;rfl) (show t.kids[1]?=some b by rw [hkab];rfl) (by rfl))) J ?_;refine aQ 0 8 J (cH (show b∈t.kids by rw [hkab];simp)) ?_;refine au (xs:= [.tmp 80,.tmp 84]) (ih b (show b∈t.kids by rw [hkab];simp) ((gX om sm a s).push 1) (by rw [ck];omega)) qU [0] [(false,8),(false,1),(false,2),(false,3)] [0] J J J J J J J J (fun _ _=>J) (fun _ _ _=>J) J (fun _ _=> ?_)
       refine ai (ae (aa (aj (ac J) J (au (xs:= [.tmp 86,.const (.int .i64 2)]) (mD e (gX om sm b ((gX om sm a s).push 1)) (by omega) 2) HF [0] [] [0] J J J J J J J J (fun _ _=>J) (fun _ _ _=>J) J (fun _ _=>ai (bA [88,89,90,91,92,93,94,95] _ J (aZ (V:= [(0,88,_),(1,89,_),(2,90,_),(3,91,_),(4,92,_),(5,93,_),(6,94,_)]) [0,1,2,3,4,5,6] 7 [7,6,5,4,3,2,1,0] [] (fun _=> []) J J (ad (aD J (ac J)) (ad (aD J (aq J)) (ad (aD J (ah Aq J)) (ad (aD J (ak Mh J J (nO (k:=0) J (fun _=>J) J))) (ad (aD J (ah cN J)) (ad (aD J (ak t9 J J (ap (k:=3) J J))) (ad (aD J (mF Tryz.underlying109 d8 t1 J J (sw (k:=10) J) hfc)) ay))))))) J J J J J J J J J J J (fun _ _=>J) J (bh (xs:= []) hop hcb [0] [(false,1)] [0] J J J J J J J J (fun _ _=>J) (fun _ _ _=>J)) (fun _ _=>be [] J J ay J J J (bO () trivial J eW J [0] [] J J J)))))))))
      ·(try simp only [aV]at h9)
       have n7:¬t.kind=7:=h9;refine ae (aa (aj (am J J aS) J (aj (ag J) J (ai (ar J (fun h10=> ?_) (fun h10=> ?_))))))
       ·(try simp only [aV]at h10)
        have hk:t.kind=3:=h10;have hnx:=sq t;have hss:=tY om sm t.kids s;have hkl:=kE hg;rw [QI hk];refine ae (ae (aa (aj (ah cU J) J (aj (ak ic J J (ap (k:=3) J J)) J (aj (aO Tryz.underlying59 J (aK (k:=9) J)) J (aj (ac J) J (ai (aB (bk (X:=Nat) (fun i=>i≤t.kids.length) (fun i=> [(0,.pointer (some ⟨e.g,0,none⟩)),(3,.pointer (some ⟨b3,0,none⟩)),(99,sv t.v),(100,.int .i64 (t.kids.length:Int)),(101,.int .i64 (i:Int))]) (fun i=> [(0,gA e (sE om sm (t.kids.take i) s)),(3,aY b3 61 (df t))]) (fun i=> [(0,bK t.v t.kids),(1,gT e.g c),(2,mp fz Prod.fst vQ e.mo om),(3,mp fz Prod.fst vI (some e.ms) sm),(9,sl 4 df (sv t.v) t.kids)]) (fun i=>t.kids.length-i) 0 (Nat.zero_le _) J J J (fun i n1=>ae (aa (aj (am J J b_) J (ai ?_)))))))))))));refine ae (ar J (fun h11=> ?_) (fun h11=> ?_))
        ·(try simp only [aV]at h11)
         have hi:i<t.kids.length:=by omega
         obtain⟨kid,hkid⟩:∃k,t.kids[i]?=some k:=⟨_,List.getElem?_eq_getElem hi⟩
         have hkm:=List.mem_of_getElem? hkid;have hle:=ku t.kids (i+1);rw [dY hkid]at hle;have hsi:=tY om sm (t.kids.take i) s;have hsk:=lB om sm kid (sE om sm (t.kids.take i) s);refine az (ae (aB (ae (aa (aj (aN (j:=i) Tryz.underlying59 cg J J (aK (k:=9) J) (by first|rfl|omega) (by first|omega|(simp;done)|(simp;omega))) J (aj (aJ cg J J J (bv (aK (k:=9) J) (by intro _;rfl) hkid (by rfl))) J (aT cg J J fun b5=>av (k:=5) cg J J J J J J (ai (ae (aa (aj (ac J) J (aj (aJ cg J J J (aR (k:=5) J)) J ?_))))))))))));refine aQ 0 8 J (cH (hkm)) (au (xs:= [.tmp 105,.tmp 106]) (ih kid (hkm) (sE om sm (t.kids.take i) s) (by omega)) qU [0] [(false,8),(false,1),(false,2),(false,3)] [0] J J J J J J J J (fun _ _=>J) (fun _ _ _=>J) J (fun _ _=>ai (aa (aj (ac J) J (au (xs:= [.tmp 108,.const (.int .i64 1)]) (g9 e (gX om sm kid (sE om sm (t.kids.take i) s)) (by omega) 1) BO [0] [] [0] J J J J J J J J (fun _ _=>J) (fun _ _ _=>J) J (fun _ _=>ai (aa (aj (am J J (aX (by first|exact aU (by omega) (by omega)|rfl))) J (aj (ac J) J (ai ?_))))))))));refine aL (i+1) ⟨by omega,by omega⟩ J (by rw [vZ s hkid];rfl) J
        ·(try simp only [aV]at h11)
         have hi:i=t.kids.length:=by omega
         subst hi;rw [List.take_length];refine bn (ae (bA [111,112,113,114,115,116,117,118,119] _ J (aZ (V:= [(0,111,_),(1,112,_),(2,113,_),(3,114,_),(4,115,_),(5,116,_),(6,117,_),(7,118,_)]) [0,1,2,3,4,5,6,7] 8 [8,7,6,5,4,3,2,1,0] [] (fun _=> []) J J (ad (aD J (ac J)) (ad (aD J (ac J)) (ad (aD J (aq J)) (ad (aD J (ah m7 J)) (ad (aD J (ak Ct J J (nO (k:=0) J (fun _=>J) J))) (ad (aD J (ah cN J)) (ad (aD J (ak t9 J J (ap (k:=3) J J))) (ad (aD J (Da Tryz.underlying105 d8 t3 J J (sw (k:=3) J))) ay)))))))) J J J J J J J J J J J (fun _ _=>J) J (bh (xs:= [.tmp 111,.const (.int .i64 40),.const (.int .i64 15),.const (.int .i64 0),.tmp 118]) (eJ e (sE om sm t.kids s) (by omega) 40 15 0 (bs sm t.name)) r4 [0] [] [0] J J J J J J J J (fun _ _=>J) (fun _ _ _=>J)) (fun _ _=>be [] J J ay J J J (ae (aa (aj (ah cU J) J (aj (ak ic J J (ap (k:=3) J J)) J (aj (aO Tryz.underlying59 J (aK (k:=9) J)) J (aj (ag J) J (ai (ae (aa (aj (ac J) J (aj (am J J dL) J ?_)))))))))))))));refine ai (ar J (fun h12=> ?_) (fun h12=> ?_))
         ·(try simp only [aV]at h12)
          rw [if_pos (show t.kids.length>0 by omega)];refine aa (aj (ac J) J (aj (ac J) J (aj (am J J (de (by first|exact aU (by omega) (by omega)|rfl))) J (aj (bP Tryz.underlying3 Tryz.underlying41 J (by first|exact bC (by omega) (by omega)|rfl)) J (au (xs:= [.tmp 125,.const (.int .i64 16),.const (.int .i64 14),.const (.int .i64 14),.tmp 128]) (cB e ((sE om sm t.kids s).jump 40 15 0 (bs sm t.name)) (by rw [bG];omega) 16 14 14 (4*t.kids.length)) iJ [0] [] [0] J J J J J J J J (fun _ _=>J) (fun _ _ _=>J) J (fun _ _=>ai (bO () trivial J eW J [0] [] J J J)))))))
         ·(try simp only [aV]at h12)
          rw [if_neg (show ¬t.kids.length>0 by omega)];refine az (bO () trivial J eW J [0] [] J J J)
       ·exact Gu hw.kind n1 n2 (by simpa using h10) n4 n5 n6 n7
theorem zM(e:Ga)(c:Oq)(om sm:Om)(hm:e.mp=c.m):∀(n:Nat)(t:Tx),SizeOf.sizeOf t<n→rX t=true→GX t→∀s:Qg,s.sz+22*nX t≤780000→Spec Tryz.prog 167 [.pointer (some ⟨e.g,0,none⟩),xV t] [gA e s] [bK t.v t.kids,gT e.g c,mp fz Prod.fst vQ e.mo om,mp fz Prod.fst vI (some e.ms) sm] (X:=Unit) (fun _=>True) (fun _=> .tuple #[]) (fun _=> [gA e (gX om sm t s)]) (fun _=> [])
 | 0,_,h,_,_=>absurd h (Nat.not_lt_zero _)
 | n+1,t,h,hr,hg=>fun s hz=>DV e c om sm hm t (Ia hr) hg (fun u hu=>zM e c om sm hm n u (by have:=ob hu;omega) ((Ia hr).kids u hu) ((iT hg).mem u hu)) s hz
theorem vU(e:Ga)(c:Oq)(om sm:Om)(hm:e.mp=c.m)(t:Tx)(hr:rX t=true)(hg:GX t)(s:Qg)(hz:s.sz+22*nX t≤780000):Spec Tryz.prog 167 [.pointer (some ⟨e.g,0,none⟩),xV t] [gA e s] [bK t.v t.kids,gT e.g c,mp fz Prod.fst vQ e.mo om,mp fz Prod.fst vI (some e.ms) sm] (X:=Unit) (fun _=>True) (fun _=> .tuple #[]) (fun _=> [gA e (gX om sm t s)]) (fun _=> []):=zM e c om sm hm _ t (Nat.lt_succ_self _) hr hg s hz
variable{K:(Int→Int)→Prop}
theorem Res.len{s s':Qg}{r:List Qi}(h:Res K s s' r):s'.code.length=s.code.length+r.length:=by
 obtain⟨raw,fs,ls,a1,a2,-⟩:=h.ex;rw [a1,List.length_append,a2]
theorem zd(a:List Int)(x y:Int)(b:List Int):(a++ [x]++b).set a.length y=a++ [y]++b:=by
 rw [List.append_assoc,List.set_append_right _ _ (Nat.le_refl _),Nat.sub_self,List.append_assoc];rfl
theorem uU(a:List Int)(x z y:Int)(b:List Int):(a++ [x,z]++b).set (a.length+1) y=a++ [x,y]++b:=by
 rw [List.append_assoc,List.set_append_right _ _ (by omega),show a.length+1-a.length=1 by omega,List.append_assoc];rfl
theorem Res.one{s s':Qg}{r:List Qi}(m:Int)(h:Res (fun L=>K L∧L (s.labs.length:Int)=m) s.lab s' r)(hm:m=s'.code.length):Res K s (s'.place s.labs.length) r:=by
 refine Res.labels [0] [m] J (s':=s') (h.weaken fun L hL=>⟨hL.1,hL.2 0 m J⟩) J J fun ls hls=> ?_
 show s'.labs.set ((s.labs.length:Int).toNat) s'.code.length=_;rw [hls,Int.toNat_natCast,zd,hm]
theorem cE{c:Prop} [Decidable c]{s a b:Qg}{r t:List Qi}(h1:Res K s a r)(h2:Res K s b t):Res K s (if c then a else b) (if c then r else t):=by
 by_cases h:c
 ·rw [if_pos h,if_pos h];exact h1
 ·rw [if_neg h,if_neg h];exact h2
theorem w8{n:Nat}(h:n<4294967296):wU (n:Int)=n:=by
 unfold wU;show((n:Int))%4294967296=n;omega
theorem G5(o:ByteArray)(s:Qg):Res K s (oD o s) (AR o):=by
 unfold oD AR;refine cE ?_ ?_
 ·exact Res.emit _ _
 refine cE ?_ ?_
 ·exact Res.emit _ _
 refine cE ?_ ?_
 ·exact Res.emit _ _
 refine cE ?_ ?_
 ·exact Res.emit _ _
 refine cE ?_ ?_
 ·exact Res.emit _ _
 refine cE ?_ ?_
 ·exact Res.emit _ _
 refine cE ?_ ?_
 ·exact Res.emit _ _
 refine cE ?_ ?_
 ·exact Res.emit _ _
 refine cE ?_ ?_
 ·exact Res.emit _ _
 refine cE ?_ ?_
 ·exact Res.emit _ _
 refine cE ?_ ?_
 ·exact(Res.emit _ [_]).seq (Res.emit _ [_])
 refine cE ?_ ?_
 ·exact(Res.emit _ [_]).seq (Res.emit _ [_])
 refine cE ?_ ?_
 ·exact(Res.emit _ [_]).seq (Res.emit _ [_])
 refine cE ?_ ?_
 ·exact((Res.emit _ [_]).seq (Res.emit _ [_])).seq (Res.emit _ [_])
 refine cE ?_ ?_
 ·refine Res.one ((s.code.length:Int)+2) ((Res.jump s.lab 32 1 0 _ 2 fun L hL=> ?_).seq (Res.emit _ [_])) ?_
  ·rw [hL.2];show wU ((s.code.length:Int)+2-s.code.length)=2;rw [show(s.code.length:Int)+2-s.code.length=((2:Nat):Int) by omega];exact w8 (by decide)
  ·show _=((((s.code++ [_])++ [_]).length:Nat):Int);simp only [List.length_append,List.length_cons,List.length_nil];omega
 refine cE ?_ ?_
 ·refine(Res.one (r:= [q3 1 3 1 0,qi 32 1 0 3,q3 10 3 2 1,q3 9 3 3 1]) ((s.code.length:Int)+4) (((((Res.emit s.lab [_]).seq (Res.jump _ 32 1 0 _ 3 fun L hL=> ?_)).seq (Res.emit _ [_])).seq (Res.emit _ [_]))) ?_).seq (Res.emit _ [_])
  ·rw [hL.2];show wU ((s.code.length:Int)+4-(((s.code++ [_]).length:Nat):Int))=3;rw [List.length_append,List.length_singleton,show(s.code.length:Int)+4-((s.code.length+1:Nat):Int)=((3:Nat):Int) by omega];exact w8 (by decide)
  ·show _=((((((s.code++ [_])++ [_])++ [_])++ [_]).length:Nat):Int);simp only [List.length_append,List.length_cons,List.length_nil];omega
 ·exact Res.nil s
theorem GZ(o:ByteArray)(s:Qg):Res K s (D5 o s) (BW o):=by
 unfold D5 BW;refine cE ?_ ?_
 ·exact Res.emit _ _
 refine cE ?_ ?_
 ·exact(Res.emit _ [_]).seq (Res.emit _ [_])
 refine cE ?_ ?_
 ·exact(Res.emit _ [_]).seq (Res.emit _ [_])
 ·exact Res.nil s
theorem D8(n:Int)(s:Qg):Res K s (qx n s) (ox n):=by
 unfold qx ox;refine cE ?_ ?_
 ·exact Res.emit _ _
 ·exact Res.emit _ _
mutual
theorem x_{o st:Om}{S:ByteArray→Int}(hK:∀L,K L→∀x,L (bs st x)=S x):∀(t:Tx)(s:Qg),Res K s (gX o st t s) (zX o S t s.code.length)
 | .mk k n nm v kids,s=>by
  have h0:=oV (o:=o) hK kids;have h1:=zN (o:=o) hK kids;have hs:=tZ (o:=o) hK kids;unfold gX zX;split
  ·exact D8 n s
  split
  ·exact Res.emit _ _
  split
  ·exact Res.emit _ _
  split
  ·exact(h0 s).seq ((Res.elem _ 1).seq (Res.emit _ _))
  split
  ·exact(h0 s).seq (GZ nm _)
  split
  ·have e1:=(h0 s).len;have e2:=(Res.push (K:=K) (kP o st kids s) 1).len;have e3:s.code.length+(wM o S kids s.code.length).length+2=((kP o st kids s).push 1).code.length:=by
    rw [e2,e1];rfl
   rw [e3];exact(h0 s).seq ((Res.push _ 1).seq ((h1 _).seq ((Res.pop _ 2).seq (G5 nm _))))
  split
  ·have e1:=(hs s).len;have e2:Res K (sE o st kids s) ((sE o st kids s).jump 40 15 0 (bs st nm)) [qi 40 15 0 (wU (S nm-((s.code.length+(wZ o S kids s.code.length).length:Nat):Int)))]:=by
    refine Res.jump _ 40 15 0 _ _ fun L hL=> ?_
    rw [hK L hL nm,e1]
   refine(hs s).seq (e2.seq ?_);dsimp only;split
   ·exact Res.emit _ _
   ·exact Res.nil _
  ·exact Res.nil s
theorem oV{o st:Om}{S:ByteArray→Int}(hK:∀L,K L→∀x,L (bs st x)=S x):∀(l:List Tx)(s:Qg),Res K s (kP o st l s) (wM o S l s.code.length)
 | [],s=>Res.nil s
 | t::_,s=>x_ hK t s
theorem zN{o st:Om}{S:ByteArray→Int}(hK:∀L,K L→∀x,L (bs st x)=S x):∀(l:List Tx)(s:Qg),Res K s (LM o st l s) (LS o S l s.code.length)
 | [],s=>Res.nil s
 | _::r,s=>oV hK r s
theorem tZ{o st:Om}{S:ByteArray→Int}(hK:∀L,K L→∀x,L (bs st x)=S x):∀(l:List Tx)(s:Qg),Res K s (sE o st l s) (wZ o S l s.code.length)
 | [],s=>Res.nil s
 | t::r,s=>by
  have h:=x_ (o:=o) hK t s;have e1:=h.len;have e2:=(Res.push (K:=K) (gX o st t s) 1).len;have e3:s.code.length+(zX o S t s.code.length).length+2=((gX o st t s).push 1).code.length:=by
   rw [e2,e1];rfl
  unfold sE wZ;rw [e3];exact h.seq ((Res.push _ 1).seq (tZ hK r _))
end
variable{K:(Int→Int)→Prop}
theorem Res.relab{s s1 s2:Qg}{r:List Qi}(ns ms:List Int)(hl:ns.length=ms.length)(h:Res K {s with labs:=s.labs++ns} s1 r)
  (hc:s2.code=s1.code) (hf:s2.fixes=s1.fixes) (hs:∀ls,s1.labs=(s.labs++ns)++ls→s2.labs=(s.labs++ms)++ls):Res K {s with labs:=s.labs++ms} s2 r:=by
 obtain⟨raw,fs,ls,a1,a2,a3,a4,a5,a6⟩:=h.ex;refine⟨⟨raw,fs,ls,hc.trans a1,a2,hf.trans a3,hs ls a4,a5,fun L hK hL=>a6 L hK fun i n hi=> ?_⟩⟩;have:=hL i n hi;show L (((s.labs++ns).length+i:Nat):Int)=n;rw [List.length_append,hl,←List.length_append];exact this
theorem Js(s:Qg):s.lab.place s.labs.length={s with labs:=s.labs++ [(s.code.length:Int)]}:=by
 show Qg.mk _ _ ((s.labs++ [0]).set ((s.labs.length:Int).toNat) s.code.length)=_;have:=zd s.labs 0 (s.code.length:Int) [];simp only [List.append_nil]at this;rw [Int.toNat_natCast,this];rfl
mutual
theorem D1{o st:Om}{S:ByteArray→Int}{en E:Int}:∀{K:(Int→Int)→Prop}(t:Ty)(s:Qg),(∀L,K L→∀x,L (bs st x)=S x)→(∀L,K L→L en=E)→Res K s (gY o st en t s) (zY o S E t s.code.length)
 | K,.mk k nm ve es vb body vl els,s,hK,hE=>by
  refine Res.labels [(s.code.length:Int)] [(s.code.length:Int)] J (s':=gY o st en (.mk k nm ve es vb body vl els) s) ?_ J J (fun ls h=>h);generalize hK':(fun L=>K L∧∀(i:Nat)(n:Int),[(s.code.length:Int)][i]?=some n→L ((s.labs.length+i:Nat):Int)=n)=K';have k1:∀L,K' L→∀x,L (bs st x)=S x:=fun L h=>hK L (by rw [←hK']at h;exact h.1)
  have k2:∀L,K' L→L en=E:=fun L h=>hE L (by rw [←hK']at h;exact h.1)
  have k3:∀L,K' L→L (s.labs.length:Int)=s.code.length:=fun L h=>by rw [←hK']at h;exact h.2 0 _ J
  clear hK';unfold gY zY;dsimp only;rw [Js];generalize hs0:({s with labs:=s.labs++ [(s.code.length:Int)]}:Qg)=s0;have c0:s0.code.length=s.code.length:=by rw [←hs0]
  have h0:=oV (K:=K') (o:=o) k1 es s0;rw [c0]at h0;have e0:=h0.len;rw [c0,md]at e0;refine cE (h0.seq (Res.emit _ _)) (cE ?_ (cE (h0.seq (Res.emit _ _)) (cE ?_ (cE ?_ (cE ?_ h0)))))
  ·have e2:=(Res.push (K:=K') (kP o st es s0) 1).len;have e3:s.code.length+iG es+2=((kP o st es s0).push 1).code.length:=by
    rw [e2,e0];rfl
   rw [e3];exact h0.seq ((Res.push _ 1).seq ((zN k1 es _).seq ((Res.pop _ 2).seq ((Res.elem _ 2).seq (Res.emit _ _)))))
  ·exact h0.seq (Res.jump _ 40 0 0 _ _ fun L hL=>by rw [k2 L hL,e0])
  ·refine h0.seq ?_;generalize hs1:kP o st es s0=s1;rw [hs1]at e0;have hb:=fun(K:(Int→Int)→Prop)(a:∀L,K L→∀x,L (bs st x)=S x)(b:∀L,K L→L en=E)(s:Qg)=>kO (o:=o) (st:=st) (en:=en) (E:=E) (S:=S) (K:=K) body s a b
   have he:=fun(K:(Int→Int)→Prop)(a:∀L,K L→∀x,L (bs st x)=S x)(b:∀L,K L→L en=E)(s:Qg)=>kO (o:=o) (st:=st) (en:=en) (E:=E) (S:=S) (K:=K) els s a b
   simp only [eo];obtain⟨po,hpo⟩:∃po,po=s.code.length+iG es+1+eC body+(if els.length>0 then 1 else 0):=⟨_,J⟩
   obtain⟨sA,hsA⟩:∃x,x=((s1.lab.lab).jump 32 1 0 s1.labs.length):=⟨_,J⟩
   obtain⟨sB,hsB⟩:∃x,x=f_ o st en body sA:=⟨_,J⟩
   obtain⟨sC,hsC⟩:∃x,x=(if els.length>0 then sB.jump 40 0 0 (s1.labs.length+1)else sB):=⟨_,J⟩
   obtain⟨sD,hsD⟩:∃x,x=f_ o st en els (sC.place s1.labs.length):=⟨_,J⟩
   rw [←hsA,←hsB,←hsC,←hsD,←hpo];obtain⟨K2,hK2⟩:∃K2:(Int→Int)→Prop,K2=(fun L=>K' L∧∀(i:Nat)(n:Int),[(po:Int),((po+eC els:Nat):Int)][i]?=some n→L ((s1.labs.length+i:Nat):Int)=n):=⟨_,J⟩
   have j1:∀L,K2 L→∀x,L (bs st x)=S x:=fun L h=>k1 L (by rw [hK2]at h;exact h.1)
   have j2:∀L,K2 L→L en=E:=fun L h=>k2 L (by rw [hK2]at h;exact h.1)
   have j3:∀L,K2 L→L (s1.labs.length:Int)=(po:Int):=fun L h=>by rw [hK2]at h;exact h.2 0 _ J
   have j4:∀L,K2 L→L (s1.labs.length+1)=((po+eC els:Nat):Int):=fun L h=>by rw [hK2]at h;exact h.2 1 _ J
   have g1:Res K2 s1.lab.lab sA [qi 32 1 0 (wU ((eC body+(if els.length>0 then 1 else 0)+1:Nat):Int))]:=by
    rw [hsA];refine Res.jump _ 32 1 0 _ _ fun L hL=> ?_
    rw [j3 L hL,hpo];show wU (_-(s1.code.length:Int))=_;rw [e0]
    congr 1
    omega
   have e1:sA.code.length=s.code.length+iG es+1:=by
    rw [g1.len];show s1.code.length+1=_;rw [e0]
   have g2:=hb K2 j1 j2 sA;rw [e1,←hsB]at g2;have e2:=g2.len;rw [eo,e1]at e2;have g3:Res K2 sB sC (if els.length>0 then [qi 40 0 0 (wU ((eC els+1:Nat):Int))]else []):=by
    rw [hsC];by_cases h:els.length>0
    ·rw [if_pos h,if_pos h];refine Res.jump _ 40 0 0 _ _ fun L hL=> ?_
     rw [j4 L hL,e2,hpo,if_pos h]
     congr 1
     omega
    ·rw [if_neg h,if_neg h];exact Res.nil _
   have e3:=g3.len;have e4:s.code.length+iG es+1+eC body+(if els.length>0 then [qi 40 0 0 (wU ((eC els+1:Nat):Int))]else []).length=po:=by
    rw [hpo];split<;>rfl
   rw [e2,e4]at e3;have g4:=(g1.seq (g2.seq g3))
   have ee:({s1 with labs:=s1.labs++ [0,0]}:Qg)=s1.lab.lab:=by
    show _=Qg.mk _ _ ((s1.labs++ [0])++ [0]);rw [List.append_assoc];rfl
   rw [←ee]at g4;have g6:=Res.relab (s2:=sC.place s1.labs.length) [0,0] [(po:Int),0] J g4 J J (fun ls hls=>by
     show List.set sC.labs ((s1.labs.length:Int).toNat) (sC.code.length:Int)=_;rw [hls,e3,Int.toNat_natCast];simp)
   have g5:=he K2 j1 j2 (sC.place s1.labs.length);have e5:(sC.place s1.labs.length).code.length=po:=e3;rw [e5,←hsD]at g5;have e6:=g5.len;rw [e5,eo]at e6;have g7:=g6.seq g5;rw [hK2]at g7;refine Res.labels [(po:Int),0] [(po:Int),((po+eC els:Nat):Int)] J (s':=sD) ?_ J J (fun ls hls=> ?_)
   ·simpa only [List.append_assoc]using g7
   ·show List.set sD.labs (((s1.labs.length:Int)+1).toNat) (sD.code.length:Int)=_;rw [hls,e6,show((s1.labs.length:Int)+1).toNat=s1.labs.length+1 by omega,uU]
  ·refine h0.seq ?_;generalize hs1:kP o st es s0=s1;rw [hs1]at e0;have hb:=fun(K:(Int→Int)→Prop)(a:∀L,K L→∀x,L (bs st x)=S x)(b:∀L,K L→L en=E)(s:Qg)=>kO (o:=o) (st:=st) (en:=en) (E:=E) (S:=S) (K:=K) body s a b
   simp only [eo];obtain⟨sA,hsA⟩:∃x,x=s1.lab.jump 32 1 0 s1.labs.length:=⟨_,J⟩
   obtain⟨sB,hsB⟩:∃x,x=f_ o st en body sA:=⟨_,J⟩
   obtain⟨K2,hK2⟩:∃K2:(Int→Int)→Prop,K2=(fun L=>K' L∧L (s1.labs.length:Int)=((s.code.length+iG es+eC body+2:Nat):Int)):=⟨_,J⟩
   have j1:∀L,K2 L→∀x,L (bs st x)=S x:=fun L h=>k1 L (by rw [hK2]at h;exact h.1)
   have j2:∀L,K2 L→L en=E:=fun L h=>k2 L (by rw [hK2]at h;exact h.1)
   have g1:Res K2 s1.lab sA [qi 32 1 0 (wU ((eC body+2:Nat):Int))]:=by
    rw [hsA];refine Res.jump _ 32 1 0 _ _ fun L hL=> ?_
    rw [hK2]at hL;rw [hL.2];show wU (_-(s1.code.length:Int))=_;rw [e0]
    congr 1
    omega
   have e1:sA.code.length=s.code.length+iG es+1:=by
    rw [g1.len];show s1.code.length+1=_;rw [e0]
   have g2:=hb K2 j1 j2 sA;rw [e1,←hsB]at g2;have e2:=g2.len;rw [eo,e1]at e2;have g3:Res K2 sB (sB.jump 40 0 0 s.labs.length) [qi 40 0 0 (wU (-((eC body+iG es+1:Nat):Int)))]:=by
    refine Res.jump _ 40 0 0 _ _ fun L hL=> ?_
    rw [hK2]at hL;rw [k3 L hL.1,e2]
    congr 1
    omega
   have g4:=g1.seq (g2.seq g3);have e4:=g3.len;rw [e2]at e4;rw [hK2]at g4;rw [←hsA,←hsB];refine Res.one _ g4 ?_;rw [e4];show _=((s.code.length+iG es+1+eC body+1:Nat):Int);omega
theorem kO{o st:Om}{S:ByteArray→Int}{en E:Int}:∀{K:(Int→Int)→Prop}(l:List Ty)(s:Qg),(∀L,K L→∀x,L (bs st x)=S x)→(∀L,K L→L en=E)→Res K s (f_ o st en l s) (jW o S E l s.code.length)
 | K,[],s,_,_=>Res.nil s
 | K,t::r,s,hK,hE=>by
  have h:=D1 (o:=o) t s hK hE;unfold f_ jW;rw [←h.len];exact h.seq (kO r _ hK hE)
end
theorem qw:∀(n:Nat)(s:Qg),Res K s (c_ n s) (ia n)
 | 0,s=>Res.nil s
 | n+1,s=>(Res.push s 0).seq (qw n _)
theorem KJ{st:Om}{S:ByteArray→Int}(hK:∀L,K L→∀x,L (bs st x)=S x)(f:Tf)(s:Qg)(hi:(bs st f.name).toNat<s.labs.length):
  Res K {s with labs:=s.labs.set (bs st f.name).toNat s.code.length} (gF st f s) (zF S f s.code.length):=by
 obtain⟨i,hi'⟩:∃i,i=(bs st f.name).toNat:=⟨_,J⟩
 obtain⟨s0,hs0⟩:∃s0:Qg,s0={s with labs:=s.labs.set i s.code.length}:=⟨_,J⟩
 obtain⟨lb,hlb⟩:∃lb,lb=s.labs.length:=⟨_,J⟩
 rw [←hi']at hi ⊢;have l0:s0.labs.length=lb:=by rw [hs0,hlb];exact List.length_set
 have c0:s0.code.length=s.code.length:=by rw [hs0]
 obtain⟨n,hn⟩:∃n,n=(cI f).2.toNat:=⟨_,J⟩
 obtain⟨E,hE⟩:∃E,E=s.code.length+10+2*n+eC f.body:=⟨_,J⟩
 obtain⟨K2,hK2⟩:∃K2:(Int→Int)→Prop,K2=(fun L=>K L∧∀(i:Nat)(n:Int),[((s.code.length+4:Nat):Int),(E:Int)][i]?=some n→L ((s0.labs.length+i:Nat):Int)=n):=⟨_,J⟩
 have j1:∀L,K2 L→∀x,L (bs st x)=S x:=fun L h=>hK L (by rw [hK2]at h;exact h.1)
 have j2:∀L,K2 L→L (lb:Int)=((s.code.length+4:Nat):Int):=fun L h=>by rw [hK2]at h;rw [←l0];exact h.2 0 _ J
 have j3:∀L,K2 L→L ((lb:Int)+1)=(E:Int):=fun L h=>by
  rw [hK2]at h;have:=h.2 1 _ J;rw [l0]at this;exact this
 obtain⟨sP,hsP⟩:∃x:Qg,x={s0 with labs:=s0.labs++ [0,0]}:=⟨_,J⟩
 have cP:sP.code.length=s.code.length:=by rw [hsP];exact c0
 have eP:(s.lab.lab).place (bs st f.name)=sP:=by
  rw [hsP,hs0];show Qg.mk _ _ (((s.labs++ [0])++ [0]).set (bs st f.name).toNat s.code.length)=_;rw [←hi',List.append_assoc,List.set_append_left _ _ hi];rfl
 obtain⟨sA,hsA⟩:∃x,x=(((sP.emit [qi 16 12 12 1]).emit [qi 16 2 0 12]).jump 35 2 12 lb).emit [⟨49,0,0,0,0⟩]:=⟨_,J⟩
 have g1:Res K2 sP sA [qi 16 12 12 1,qi 16 2 0 12,qi 35 2 12 2,⟨49,0,0,0,0⟩]:=by
  rw [hsA];refine(((Res.emit _ [_]).seq (Res.emit _ [_])).seq (Res.jump _ 35 2 12 _ 2 fun L hL=> ?_)).seq (Res.emit _ [_]);rw [j2 L hL];show wU (_-((((sP.code++ [_])++ [_]).length:Nat):Int))=2;rw [List.length_append,List.length_append,cP];show wU (_-((s.code.length+1+1:Nat):Int))=2;rw [show((s.code.length+4:Nat):Int)-((s.code.length+1+1:Nat):Int)=((2:Nat):Int) by omega];exact w8 (by decide)
 have e1:sA.code.length=s.code.length+4:=by rw [g1.len,cP];rfl
 have g1b:Res K2 {s0 with labs:=s0.labs++ [((s.code.length+4:Nat):Int),0]} (sA.place lb) [qi 16 12 12 1,qi 16 2 0 12,qi 35 2 12 2,⟨49,0,0,0,0⟩]:=by
  rw [hsP]at g1;refine Res.relab [0,0] _ J g1 J J fun ls hls=> ?_
  show List.set sA.labs ((lb:Int).toNat) (sA.code.length:Int)=_;rw [hls,e1,Int.toNat_natCast,←l0];simp
 obtain⟨sB,hsB⟩:∃x,x=c_ n ((((sA.place lb).push 15).push 13).emit [q3 1 13 14 0]):=⟨_,J⟩
 have g2:Res K2 (sA.place lb) sB (eB 15++(eB 13++([q3 1 13 14 0]++ia n))):=by
  rw [hsB];exact(Res.push _ 15).seq ((Res.push _ 13).seq ((Res.emit _ [_]).seq (qw n _)))
 have e2:sB.code.length=s.code.length+9+2*n:=by
  rw [g2.len];simp only [List.length_append,jk];show sA.code.length+_=_;rw [e1];simp only [eB,List.length_cons,List.length_nil];omega
 obtain⟨sC,hsC⟩:∃x,x=(f_ (cI f).1 st (lb+1) f.body sB).emit [q3 1 1 0 0]:=⟨_,J⟩
 have g3:Res K2 sB sC (jW (cI f).1 S E f.body (s.code.length+9+2*n)++ [q3 1 1 0 0]):=by
  rw [hsC,←e2];exact(kO f.body sB j1 j3).seq (Res.emit _ _)
 have e3:sC.code.length=E:=by
  rw [g3.len,e2,hE];simp only [List.length_append,eo,List.length_cons,List.length_nil];omega
 have g4:=g1b.seq (g2.seq g3);have g5:=Res.relab (s2:=sC.place (lb+1)) [((s.code.length+4:Nat):Int),0] [((s.code.length+4:Nat):Int),(E:Int)] J g4 J J (fun ls hls=>by
  show List.set sC.labs (((lb:Int)+1).toNat) (sC.code.length:Int)=_;rw [hls,e3,show((lb:Int)+1).toNat=s0.labs.length+1 by omega,uU])
 have g6:=g5.seq ((Res.emit (sC.place (lb+1)) [q3 1 14 13 0]).seq ((Res.pop _ 13).seq ((Res.pop _ 15).seq ((Res.emit _ [qi 16 12 12 4294967295]).seq (Res.emit _ [qi 27 0 15 0])))));have g7:Res K s0 (((((sC.place (lb+1)).emit [q3 1 14 13 0]).pop 13).pop 15).emit [qi 16 12 12 4294967295] |>.emit [qi 27 0 15 0]) (zF S f s.code.length):=by
  refine Res.labels [((s.code.length+4:Nat):Int),(E:Int)] [((s.code.length+4:Nat):Int),(E:Int)] J (s':=((((sC.place (lb+1)).emit [q3 1 14 13 0]).pop 13).pop 15).emit [qi 16 12 12 4294967295] |>.emit [qi 27 0 15 0]) ?_ J J (fun ls h=>h);rw [←hK2];have:zF S f s.code.length=([qi 16 12 12 1,qi 16 2 0 12,qi 35 2 12 2,⟨49,0,0,0,0⟩]++((eB 15++(eB 13++([q3 1 13 14 0]++ia n)))++(jW (cI f).1 S E f.body (s.code.length+9+2*n)++ [q3 1 1 0 0])))++([q3 1 14 13 0]++(j7 13++(j7 15++([qi 16 12 12 4294967295]++ [qi 27 0 15 0])))):=by
   unfold zF;rw [hE,hn];simp only [List.append_assoc];rfl
  rw [this];exact g6
 rw [hs0]at g7;have:gF st f s=(((((sC.place (lb+1)).emit [q3 1 14 13 0]).pop 13).pop 15).emit [qi 16 12 12 4294967295] |>.emit [qi 27 0 15 0]):=by
  rw [hsC,hsB,hsA,←eP,hn,hlb];rfl
 rw [this];exact g7
def dm(st:Om):List Tf→Nat→List Int→List Int
 | [],_,l=>l
 | f::r,p,l=>dm st r (p+wF f) (l.set (bs st f.name).toNat p)
theorem lE(st:Om):∀(fs:List Tf)(p:Nat)(l:List Int),(dm st fs p l).length=l.length
 | [],_,_=>rfl
 | f::r,p,l=>by
  unfold dm;rw [lE st r,List.length_set]
theorem pK(st:Om):∀(fs:List Tf)(p:Nat)(a b:List Int),(∀f∈fs,(bs st f.name).toNat<a.length)→dm st fs p (a++b)=dm st fs p a++b
 | [],_,_,_,_=>rfl
 | f::r,p,a,b,h=>by
  unfold dm;rw [List.set_append_left _ _ (h f (by simp)),pK st r _ _ b fun g hg=>by rw [List.length_set];exact h g (by simp [hg])]
theorem zU{st:Om}{S:ByteArray→Int}(hK:∀L,K L→∀x,L (bs st x)=S x):∀(fs:List Tf)(s:Qg),(∀f∈fs,(bs st f.name).toNat<s.labs.length)→
  Res K {s with labs:=dm st fs s.code.length s.labs} (qy st fs s) (B9 S fs s.code.length)
 | [],s,_=>Res.nil s
 | f::r,s,h=>by
  have hf:=h f (by simp);have g1:=KJ hK f s hf;have e1:(gF st f s).code.length=s.code.length+wF f:=by
   have:=g1.len;rw [w4]at this;exact this
  obtain⟨raw,fx,ls,a1,a2,a3,a4,a5,a6⟩:=g1.ex;have hl:(gF st f s).labs.length≥s.labs.length:=by
   rw [a4,List.length_append,List.length_set];omega
  have g2:=zU hK r (gF st f s) (fun g hg=>by have:=h g (by simp [hg]);omega);rw [e1]at g2;have hr:∀g∈r,(bs st g.name).toNat<(s.labs.set (bs st f.name).toNat s.code.length).length:=fun g hg=>by rw [List.length_set];exact h g (by simp [hg])
  have g3:Res K {s with labs:=dm st (f::r) s.code.length s.labs} {gF st f s with labs:=dm st r (s.code.length+wF f) (gF st f s).labs} (zF S f s.code.length):=by
   refine⟨⟨raw,fx,ls,a1,a2,a3,?_,a5,fun L hL hi=>a6 L hL fun i n hn=> ?_⟩⟩
   ·show dm st r _ (gF st f s).labs=_;rw [a4,pK st r _ _ _ hr];rfl
   ·have:=hi i n hn;show L (((s.labs.set (bs st f.name).toNat s.code.length).length+i:Nat):Int)=n;rw [List.length_set];rw [show({s with labs:=dm st (f::r) s.code.length s.labs}:Qg).labs.length=s.labs.length from lE st _ _ _]at this;exact this
  exact g3.seq g2
theorem Res.labs_le{K:(Int→Int)→Prop}{s s':Qg}{r:List Qi}(h:Res K s s' r):s.labs.length≤s'.labs.length:=by
 obtain⟨raw,fs,ls,-,-,-,a4,-⟩:=h.ex;rw [a4,List.length_append];omega
theorem D3(o st:Om)(t:Tx)(s:Qg):s.labs.length≤(gX o st t s).labs.length:=(x_ (K:=fun _=>False) (S:=fun _=>0) (fun _ h=>h.elim) t s).labs_le
theorem zO(o st:Om)(t:List Tx)(s:Qg):s.labs.length≤(kP o st t s).labs.length:=(oV (K:=fun _=>False) (S:=fun _=>0) (fun _ h=>h.elim) t s).labs_le
theorem iP(o st:Om)(en:Int)(l:List Ty)(s:Qg):s.labs.length≤(f_ o st en l s).labs.length:=(kO (K:=fun _=>False) (S:=fun _=>0) (E:=0) l s (fun _ h=>h.elim) (fun _ h=>h.elim)).labs_le
mutual
theorem Nc(o st:Om)(en:Int):∀(t:Ty)(s:Qg),(gY o st en t s).sz≤s.sz+22*nY t
 | .mk k nm _ es _ body _ els,s=>by
  have hb:=iY o st en body;have hl:=iY o st en els;have h0:=yc o st es (s.lab.place s.labs.length);have h1:=zP o st es (s.lab.place s.labs.length);rw [bD,bU]at h0 h1;unfold gY nY;dsimp only;refine cv ?_ (cv ?_ (cv ?_ (cv ?_ (cv ?_ (cv ?_ (by omega))))))
  ·simp only [bp,List.length_singleton];omega
  ·simp only [bp,cQ,c8,List.length_singleton];omega
  ·simp only [bp,List.length_singleton];omega
  ·simp only [bG];omega
  ·have b1:=hb (((kP o st es (s.lab.place s.labs.length)).lab.lab).jump 32 1 0 (kP o st es (s.lab.place s.labs.length)).labs.length);rw [bG,bU,bU]at b1;rw [bD];refine Nat.le_trans (hl _) ?_;rw [bD];have:(if els.length>0 then(f_ o st en body (((kP o st es (s.lab.place s.labs.length)).lab.lab).jump 32 1 0 (kP o st es (s.lab.place s.labs.length)).labs.length)).jump 40 0 0 ((kP o st es (s.lab.place s.labs.length)).labs.length+1)else f_ o st en body (((kP o st es (s.lab.place s.labs.length)).lab.lab).jump 32 1 0 (kP o st es (s.lab.place s.labs.length)).labs.length)).sz≤s.sz+22*dU es+22*cl body+7:=by
    refine cv ?_ ?_
    ·rw [bG];omega
    ·omega
   omega
  ·have b1:=hb ((kP o st es (s.lab.place s.labs.length)).lab.jump 32 1 0 (kP o st es (s.lab.place s.labs.length)).labs.length);rw [bG,bU]at b1;rw [bD,bG];omega
theorem iY(o st:Om)(en:Int):∀(l:List Ty)(s:Qg),(f_ o st en l s).sz≤s.sz+22*cl l
 | [],s=>Nat.le_add_right _ _
 | t::r,s=>by
  have h1:=Nc o st en t s;have h2:=iY o st en r (gY o st en t s);unfold f_ cl;omega
end
theorem vX{o st:Om}{en:Int}:∀{l:List Ty}{i:Nat}{u:Ty}(s:Qg),l[i]?=some u→f_ o st en (l.take (i+1)) s=gY o st en u (f_ o st en (l.take i) s)
 | [],i,u,s,h=>by simp at h
 | x::r,0,u,s,h=>by cases h;rfl
 | x::r,i+1,u,s,h=>vX (l:=r) _ h
structure Wy(t:Ty):Prop where
 one:t.kind≠3→∃a,t.es= [a]
 two:t.kind=3→∃a b,t.es= [a,b]
 es:∀u∈t.es,rX u=true
 body:ly t.body=true
 els:ly t.els=true
theorem L0{t:Ty}(h:rY t=true):Wy t:=by
 obtain⟨k,nm,ve,es,vb,body,vl,els⟩:=t;unfold rY at h;simp only [Bool.and_eq_true]at h;obtain⟨⟨⟨h1,h2⟩,h3⟩,h4⟩:=h;unfold zy at h1;simp only [Bool.and_eq_true,decide_eq_true_eq]at h1;have h5:=h1.1.1.1.2;refine⟨fun hk=> ?_,fun hk=> ?_,tB h2,h3,h4⟩
 ·rw [if_neg (show ¬k=3 from hk)]at h5;exact tJ h5
 ·rw [if_pos (show k=3 from hk)]at h5;exact Co h5
theorem zk:∀{l:List Ty},ly l=true→∀u∈l,rY u=true
 | [],_,_,h=>by simp at h
 | t::r,h,u,hu=>by
  unfold ly at h;rw [Bool.and_eq_true]at h;rcases List.mem_cons.1 hu with rfl|hu
  ·exact h.1
  ·exact zk h.2 u hu
abbrev iv(s:Qg):Qg:=s.lab.place s.labs.length
theorem Ne{o st:Om}{en:Int}{t:Ty}{a:Tx}{s:Qg}(h:t.kind=1∨t.kind=2)(he:t.es= [a]):gY o st en t s=(gX o st a (iv s)).emit [qi 25 1 13 (bs o t.name)]:=by
 obtain⟨k,nm,ve,es,vb,body,vl,els⟩:=t;obtain rfl:es= [a]:=he;exact if_pos h
theorem QD{o st:Om}{en:Int}{t:Ty}{a b:Tx}{s:Qg}(h:t.kind=3)(he:t.es= [a,b]):gY o st en t s=(((gX o st b ((gX o st a (iv s)).push 1)).pop 2).elem 2).emit [qi 25 1 2 8192]:=by
 obtain⟨k,nm,ve,es,vb,body,vl,els⟩:=t;obtain rfl:es= [a,b]:=he;obtain rfl:k=3:=h;rfl
theorem Qz{o st:Om}{en:Int}{t:Ty}{a:Tx}{s:Qg}(h:t.kind=7)(he:t.es= [a]):gY o st en t s=(gX o st a (iv s)).emit [⟨48,0,0,0,1⟩]:=by
 obtain⟨k,nm,ve,es,vb,body,vl,els⟩:=t;obtain rfl:es= [a]:=he;obtain rfl:k=7:=h;rfl
theorem QA{o st:Om}{en:Int}{t:Ty}{a:Tx}{s:Qg}(h:t.kind=6)(he:t.es= [a]):gY o st en t s=(gX o st a (iv s)).jump 40 0 0 en:=by
 obtain⟨k,nm,ve,es,vb,body,vl,els⟩:=t;obtain rfl:es= [a]:=he;obtain rfl:k=6:=h;rfl
theorem QC{o st:Om}{en:Int}{t:Ty}{a:Tx}{s s1:Qg}(h:t.kind=4)(he:t.es= [a])(h1:s1=gX o st a (iv s)):gY o st en t s=
  (f_ o st en t.els ((if t.els.length>0 then(f_ o st en t.body ((s1.lab.lab).jump 32 1 0 s1.labs.length)).jump 40 0 0 (s1.labs.length+1)else f_ o st en t.body ((s1.lab.lab).jump 32 1 0 s1.labs.length)).place s1.labs.length)).place (s1.labs.length+1):=by
 obtain⟨k,nm,ve,es,vb,body,vl,els⟩:=t;obtain rfl:es= [a]:=he;obtain rfl:k=4:=h;subst h1;rfl
theorem QB{o st:Om}{en:Int}{t:Ty}{a:Tx}{s s1:Qg}(h:t.kind=5)(he:t.es= [a])(h1:s1=gX o st a (iv s)):gY o st en t s=((f_ o st en t.body (s1.lab.jump 32 1 0 s1.labs.length)).jump 40 0 0 s.labs.length).place s1.labs.length:=by
 obtain⟨k,nm,ve,es,vb,body,vl,els⟩:=t;obtain rfl:es= [a]:=he;obtain rfl:k=5:=h;subst h1;rfl
theorem Qy{o st:Om}{en:Int}{t:Ty}{a:Tx}{s:Qg}(n1:¬t.kind=1)(n2:¬t.kind=2)(n3:¬t.kind=3)(n4:¬t.kind=4)(n5:¬t.kind=5)(n6:¬t.kind=6)(n7:¬t.kind=7)(he:t.es= [a]):gY o st en t s=gX o st a (iv s):=by
 obtain⟨k,nm,ve,es,vb,body,vl,els⟩:=t;obtain rfl:es= [a]:=he;have n1:¬k=1:=n1;have n2:¬k=2:=n2;have n3:¬k=3:=n3;have n4:¬k=4:=n4;have n5:¬k=5:=n5;have n6:¬k=6:=n6;have n7:¬k=7:=n7;unfold gY;dsimp only;rw [if_neg (fun h=>h.elim n1 n2),if_neg n3,if_neg n7,if_neg n6,if_neg n4,if_neg n5];rfl
theorem lT{t:Ty}{a:Tx}{r:List Tx}(hw:Wy t)(h:t.kind≠3)(he:t.es=a::r):t.es= [a]:=by
 obtain⟨b,hb⟩:=hw.one h;rw [hb]at he;cases he;exact hb
theorem KQ{t:Ty}{a:Tx}{r:List Tx}(hw:Wy t)(h:t.kind=3)(he:t.es=a::r):∃b,t.es= [a,b]:=by
 obtain⟨c,b,hb⟩:=hw.two h;rw [hb]at he;cases he;exact⟨b,hb⟩
theorem DR(e:Ga)(c:Oq)(om sm:Om)(hm:e.mp=c.m)(t:Ty)(hw:Wy t)(hg:GY t)(ihb:∀s:Qg,s.sz+22*cl t.body≤780000→Spec Tryz.prog 96 [.pointer (some ⟨e.g,0,none⟩),sv t.vb] [gA e s] [bz t.vb t.body,gT e.g c,mp fz Prod.fst vQ e.mo om,mp fz Prod.fst vI (some e.ms) sm] (X:=Unit) (fun _=>True) (fun _=> .tuple #[]) (fun _=> [gA e (f_ om sm e.en t.body s)]) (fun _=> []))(ihe:∀s:Qg,s.sz+22*cl t.els≤780000→Spec Tryz.prog 96 [.pointer (some ⟨e.g,0,none⟩),sv t.vl] [gA e s] [bz t.vl t.els,gT e.g c,mp fz Prod.fst vQ e.mo om,mp fz Prod.fst vI (some e.ms) sm] (X:=Unit) (fun _=>True) (fun _=> .tuple #[]) (fun _=> [gA e (f_ om sm e.en t.els s)]) (fun _=> []))(s:Qg)(hz:s.sz+22*nY t≤780000)(he0:0≤e.en):
  Spec Tryz.prog 130 [.pointer (some ⟨e.g,0,none⟩),yV t] [gA e s] [bK t.ve t.es,bz t.vb t.body,bz t.vl t.els,gT e.g c,mp fz Prod.fst vQ e.mo om,mp fz Prod.fst vI (some e.ms) sm] (X:=Unit) (fun _=>True) (fun _=> .tuple #[]) (fun _=> [gA e (gY om sm e.en t s)]) (fun _=> []):=by
 refine aF Tryz.func130 J Tryz.ntmps130 J fun w0 M H=>aQ 0 9 J eL (aQ 2 11 J fL ?_)
 have hne:=Dm t;obtain⟨a,ra,hea⟩:∃a r,t.es=a::r:=by
  by_cases h3:t.kind=3
  ·obtain⟨a,b,h⟩:=hw.two h3;exact⟨a,[b],h⟩
  ·obtain⟨a,h⟩:=hw.one h3;exact⟨a,[],h⟩
 have hna:dU t.es=nX a+dU ra:=by rw [hea];rfl
 have ham:a∈t.es:=by rw [hea];simp
 have hgt:(iv s).sz=s.sz+1:=by rw [bD,bU]
 have hsa:=lB om sm a (iv s);rw [hgt]at hsa;have hla:=D3 om sm a (iv s);refine ae (aa (bN J J fun b3=>ai (ae (aa (aj (ac J) J (au (xs:= [.tmp 8]) (ey e (s) (by omega)) ur [0] [] [0] J J J J J J J J (fun _ _=>J) (fun _ _ _=>J) J (fun _ _=>aj (ag J) J (ai (ae (aa (aj (ac J) J (aj (ac J) J ?_))))))))))));refine au (xs:= [.tmp 10,.tmp 11]) (dI e (s.lab) (by rw [bU];omega) ((s.labs.length:Int)) (by simp [Qg.lab];omega)) qS [0] [] [0] J J J J J J J J (fun _ _=>J) (fun _ _ _=>J) J (fun _ _=>ai (ae (aa (aj (ac J) J (aj (ah eO J) J (aj (ak ic J J (ap (k:=3) J J)) J (aj (aN (j:=0) Tryz.underlying59 cg J J (aK (k:=9) J) J (by rw [hea];simp)) J ?_)))))));refine aj (aJ cg J J J (bv (aK (k:=9) J) (by intro _;rfl) (show t.es[0]?=some a by rw [hea];rfl) (by rfl))) J ?_;refine aQ 0 10 J (cH ham) (au (xs:= [.tmp 13,.tmp 17]) (vU e c om sm hm a (hw.es _ ham) ((nh hg).2.mem _ ham) (iv s) (by omega)) qU [0] [(false,10),(false,3),(false,4),(false,5)] [0] J J J J J J J J (fun _ _=>J) (fun _ _ _=>J) J (fun _ _=>ai (ae (aa (aj (ah dJ J) J (aj (ak t3 J J (ap (k:=3) J J)) J (ai (aB (ae (ae (aa (aj (am J J aS) J (aj (ag J) J ?_)))))))))))));refine ai (ar J (fun h1=> ?_) (fun h1=> ?_))
 ·(try simp only [aV]at h1)
  have k1:t.kind=1:=h1;refine az (ar J (fun h2=> ?_) (fun h2=> ?_))
  ·(try simp only [aV]at h2)
   rw [Ne (.inl k1) (lT hw (by omega) hea)];refine bA [24,25,26,27,28,29,30,31,32] _ J (aZ (V:= [(0,24,_),(1,25,_),(2,26,_),(3,27,_),(4,28,_),(5,29,_),(6,30,_),(7,31,_)]) [0,1,2,3,4,5,6,7] 8 [8,7,6,5,4,3,2,1,0] [] (fun _=> []) J J (ad (aD J (ac J)) (ad (aD J (ac J)) (ad (aD J (aq J)) (ad (aD J (ah kW J)) (ad (aD J (ak A1 J J (nO (k:=0) J (fun _=>J) J))) (ad (aD J (ah gg J)) (ad (aD J (ak t9 J J (ap (k:=3) J J))) (ad (aD J (C_ Tryz.underlying108 d8 cr J J (sw (k:=4) J))) ay)))))))) J J J J J J J J J J J (fun _ _=>J) J (bh (xs:= [.tmp 24,.const (.int .i64 25),.const (.int .i64 1),.const (.int .i64 13),.tmp 31]) (cB e (gX om sm a (iv s)) (by omega) 25 1 13 (bs om t.name)) iJ [0] [] [0] J J J J J J J J (fun _ _=>J) (fun _ _ _=>J)) (fun _ _=>be [] J J ay J J J (bO () trivial J eW J [0] [] J J J)))
  ·exact absurd k1 (of_decide_eq_false h2)
 ·(try simp only [aV]at h1)
  have n1:¬t.kind=1:=h1;refine aa (aj (am J J aS) J (aj (ag J) J (ai (ar J (fun h3=> ?_) (fun h3=> ?_)))))
  ·(try simp only [aV]at h3)
   have k2:t.kind=2:=h3;rw [Ne (.inr k2) (lT hw (by omega) hea)];refine bA [24,25,26,27,28,29,30,31,32] _ J (aZ (V:= [(0,24,_),(1,25,_),(2,26,_),(3,27,_),(4,28,_),(5,29,_),(6,30,_),(7,31,_)]) [0,1,2,3,4,5,6,7] 8 [8,7,6,5,4,3,2,1,0] [] (fun _=> []) J J (ad (aD J (ac J)) (ad (aD J (ac J)) (ad (aD J (aq J)) (ad (aD J (ah kW J)) (ad (aD J (ak A1 J J (nO (k:=0) J (fun _=>J) J))) (ad (aD J (ah gg J)) (ad (aD J (ak t9 J J (ap (k:=3) J J))) (ad (aD J (C_ Tryz.underlying108 d8 cr J J (sw (k:=4) J))) ay)))))))) J J J J J J J J J J J (fun _ _=>J) J (bh (xs:= [.tmp 24,.const (.int .i64 25),.const (.int .i64 1),.const (.int .i64 13),.tmp 31]) (cB e (gX om sm a (iv s)) (by omega) 25 1 13 (bs om t.name)) iJ [0] [] [0] J J J J J J J J (fun _ _=>J) (fun _ _ _=>J)) (fun _ _=>be [] J J ay J J J (bO () trivial J eW J [0] [] J J J)))
  ·(try simp only [aV]at h3)
   have n2:¬t.kind=2:=h3;refine ae (aa (aj (am J J aS) J (aj (ag J) J (ai (ar J (fun h4=> ?_) (fun h4=> ?_))))))
   ·(try simp only [aV]at h4)
    have hk:t.kind=3:=h4;obtain⟨b,heb⟩:=KQ hw hk hea;have hbm:b∈t.es:=by rw [heb];simp
    have hnb:dU t.es=nX a+nX b:=by rw [heb];simp [dU]
    have hsb:=lB om sm b ((gX om sm a (iv s)).push 1);rw [ck]at hsb;rw [QD hk heb];refine ae (aa (aj (ac J) J (au (xs:= [.tmp 35,.const (.int .i64 1)]) (g9 e (gX om sm a (iv s)) (by omega) 1) BO [0] [] [0] J J J J J J J J (fun _ _=>J) (fun _ _ _=>J) J (fun _ _=>ai (ae (aa (aj (ac J) J (aj (ah eO J) J (aj (ak ic J J (ap (k:=3) J J)) J (aj (aN (j:=1) Tryz.underlying59 cg J J (aK (k:=9) J) J (by rw [heb];simp)) J ?_))))))))));refine aj (aJ cg J J J (bv (aK (k:=9) J) (by intro _;rfl) (show t.es[1]?=some b by rw [heb];rfl) (by rfl))) J ?_;refine aQ 0 10 J (cH hbm) (au (xs:= [.tmp 37,.tmp 41]) (vU e c om sm hm b (hw.es _ hbm) ((nh hg).2.mem _ hbm) ((gX om sm a (iv s)).push 1) (by rw [ck];omega)) qU [0] [(false,10),(false,3),(false,4),(false,5)] [0] J J J J J J J J (fun _ _=>J) (fun _ _ _=>J) J (fun _ _=>ai (ae (aa (aj (ac J) J (au (xs:= [.tmp 43,.const (.int .i64 2)]) (mD e (gX om sm b ((gX om sm a (iv s)).push 1)) (by omega) 2) HF [0] [] [0] J J J J J J J J (fun _ _=>J) (fun _ _ _=>J) J (fun _ _=>ai (ae (aa (aj (ac J) J (au (xs:= [.tmp 45,.const (.int .i64 2)]) (sM e ((gX om sm b ((gX om sm a (iv s)).push 1)).pop 2) (by rw [c8];omega) 2) IW [0] [] [0] J J J J J J J J (fun _ _=>J) (fun _ _ _=>J) J (fun _ _=>ai (aa ?_)))))))))))));refine aj (ac J) J (au (xs:= [.tmp 47,.const (.int .i64 25),.const (.int .i64 1),.const (.int .i64 2),.const (.int .u32 8192)]) (cB e (((gX om sm b ((gX om sm a (iv s)).push 1)).pop 2).elem 2) (by rw [cQ,c8];omega) 25 1 2 8192) iJ [0] [] [0] J J J J J J J J (fun _ _=>J) (fun _ _ _=>J) J (fun _ _=>ai (bO () trivial J eW J [0] [] J J J)))
   ·(try simp only [aV]at h4)
    have n3:¬t.kind=3:=h4;refine ae (aa (aj (am J J aS) J (aj (ag J) J (ai (ar J (fun h5=> ?_) (fun h5=> ?_))))))
    ·(try simp only [aV]at h5)
     have hk:t.kind=7:=h5;rw [Qz hk (lT hw (by omega) hea)];refine aa (aj (ac J) J (aj (aP (parts:= [(0,.const (.int .i64 48)),(4,.const (.int .u32 1))]) ed lz J J) J (bq gC ⟨48,0,0,0,1⟩ Tryz.underlying106 ed J (by decide) (by decide) J J J J fun v53=>bW 53 7 J br (au (xs:= [.tmp 51,.tmp 53]) (gh e (gX om sm a (iv s)) (by omega) v53 [⟨48,0,0,0,1⟩] (by simp)) wz [0] [(false,7)] [0] J J J J J J J J (fun _ _=>J) (fun _ _ _=>J) J (fun _ _=>ai (bO () trivial J eW J [0] [] J J J))))))
    ·(try simp only [aV]at h5)
     have n7:¬t.kind=7:=h5;refine ae (aa (aj (am J J aS) J (aj (ag J) J (ai (ar J (fun h6=> ?_) (fun h6=> ?_))))))
     ·(try simp only [aV]at h6)
      have hk:t.kind=6:=h6;rw [QA hk (lT hw (by omega) hea)];refine aa (aj (ac J) J (aj (ac J) J (aj (aq J) J (aj (ah ug J) J (aj (ak t3 J J (nO (k:=0) J (fun _=>J) J)) J (au (xs:= [.tmp 57,.const (.int .i64 40),.const (.int .i64 0),.const (.int .i64 0),.tmp 61]) (eJ e (gX om sm a (iv s)) (by omega) 40 0 0 e.en) r4 [0] [] [0] J J J J J J J J (fun _ _=>J) (fun _ _ _=>J) J (fun _ _=>ai (bO () trivial J eW J [0] [] J J J))))))))
     ·(try simp only [aV]at h6)
      have n6:¬t.kind=6:=h6;refine ae (aa (aj (am J J aS) J (aj (ag J) J (ai (ar J (fun h7=> ?_) (fun h7=> ?_))))))
      ·(try simp only [aV]at h7)
       have hk:t.kind=4:=h7;obtain⟨s1,hs1⟩:∃s1,s1=gX om sm a (iv s):=⟨_,J⟩
       rw [QC hk (lT hw (by omega) hea) hs1];rw [←hs1]at hsa hla ⊢;have hb:=iY om sm e.en t.body ((s1.lab.lab).jump 32 1 0 s1.labs.length);rw [bG,bU,bU]at hb;have lb:=iP om sm e.en t.body ((s1.lab.lab).jump 32 1 0 s1.labs.length);have ll:((s1.lab.lab).jump 32 1 0 s1.labs.length).labs.length=s1.labs.length+2:=by simp [Qg.lab,Qg.jump]
       
       refine ae (aa (aj (ac J) J (au (xs:= [.tmp 65]) (ey e (s1) (by omega)) ur [0] [] [0] J J J J J J J J (fun _ _=>J) (fun _ _ _=>J) J (fun _ _=>aj (ac J) J (au (xs:= [.tmp 67]) (ey e (s1.lab) (by rw [bU];omega)) ur [0] [] [0] J J J J J J J J (fun _ _=>J) (fun _ _ _=>J) J (fun _ _=> ?_))))))
       with_reducible rw [show((s1.lab.labs.length:Nat):Int)=(s1.labs.length:Int)+1 from by simp [Qg.lab]]
       refine aj (ag J) J (aj (ag J) J (ai (ae (aa (aj (ac J) J (aj (ac J) J (au (xs:= [.tmp 69,.const (.int .i64 32),.const (.int .i64 1),.const (.int .i64 0),.tmp 70]) (eJ e (s1.lab.lab) (by rw [bU,bU];omega) 32 1 0 (s1.labs.length:Int)) r4 [0] [] [0] J J J J J J J J (fun _ _=>J) (fun _ _ _=>J) J (fun _ _=>ai (ae (aa (aj (ac J) J (aj (ah e9 J) J (aj (ak gZ J J (ap (k:=3) J J)) J ?_)))))))))))));refine au (xs:= [.tmp 72,.tmp 74]) (ihb ((s1.lab.lab).jump 32 1 0 s1.labs.length) (by rw [bG,bU,bU];omega)) EG [0] [(false,1),(false,3),(false,4),(false,5)] [0] J J J J J J J J (fun _ _=>J) (fun _ _ _=>J) J (fun _ _=>ai (ae (ae (aa (aj (ah eg J) J (aj (ak gZ J J (ap (k:=3) J J)) J (aj (aO Tryz.underlying62 J (aK (k:=11) J)) J (aj (am J J dL) J (ai (ar J (fun h8=> ?_) (fun h8=> ?_)))))))))))
       ·(try simp only [aV]at h8)
        obtain⟨sC,hC⟩:∃sC,sC=(f_ om sm e.en t.body ((s1.lab.lab).jump 32 1 0 s1.labs.length)).jump 40 0 0 (s1.labs.length+1):=⟨_,J⟩
        rw [if_pos (show t.els.length>0 by omega),←hC];have hsC:sC.sz≤s1.sz+22*cl t.body+6∧s1.labs.length+2≤sC.labs.length:=by rw [hC];(refine⟨?_,?_⟩;rw [bG];omega;show _≤(f_ om sm e.en t.body ((s1.lab.lab).jump 32 1 0 s1.labs.length)).labs.length;omega)
        have hle:=iY om sm e.en t.els (sC.place s1.labs.length);rw [bD]at hle;have lle:=iP om sm e.en t.els (sC.place s1.labs.length);have lpl:(sC.place s1.labs.length).labs.length=sC.labs.length:=by simp [Qg.place]
        refine aa (aj (ac J) J (aj (ac J) J (au (xs:= [.tmp 80,.const (.int .i64 40),.const (.int .i64 0),.const (.int .i64 0),.tmp 81]) (eJ e (f_ om sm e.en t.body ((s1.lab.lab).jump 32 1 0 s1.labs.length)) (by omega) 40 0 0 (s1.labs.length+1)) r4 [0] [] [0] J J J J J J J J (fun _ _=>J) (fun _ _ _=>J) J (fun _ _=> ?_))));rw [←hC];refine ai (ae (aa (aj (ac J) J (aj (ac J) J (au (xs:= [.tmp 83,.tmp 84]) (dI e (sC) (by omega) ((s1.labs.length:Int)) (by omega)) qS [0] [] [0] J J J J J J J J (fun _ _=>J) (fun _ _ _=>J) J (fun _ _=>ai (ae (aa (aj (ac J) J (aj (ah eg J) J (aj (ak gZ J J (ap (k:=3) J J)) J (au (xs:= [.tmp 86,.tmp 88]) (ihe (sC.place s1.labs.length) (by rw [bD];omega)) EG [0] [(false,2),(false,3),(false,4),(false,5)] [0] J J J J J J J J (fun _ _=>J) (fun _ _ _=>J) J (fun _ _=>ai ?_)))))))))))));refine aa (aj (ac J) J (aj (ac J) J (au (xs:= [.tmp 90,.tmp 91]) (dI e (f_ om sm e.en t.els (sC.place s1.labs.length)) (by omega) ((s1.labs.length+1:Int)) (by omega)) qS [0] [] [0] J J J J J J J J (fun _ _=>J) (fun _ _ _=>J) J (fun _ _=>ai (bO () trivial J eW J [0] [] J J J)))))
       ·(try simp only [aV]at h8)
        obtain⟨sC,hC⟩:∃sC,sC=f_ om sm e.en t.body ((s1.lab.lab).jump 32 1 0 s1.labs.length):=⟨_,J⟩
        rw [if_neg (show ¬t.els.length>0 by omega),←hC];have hsC:sC.sz≤s1.sz+22*cl t.body+6∧s1.labs.length+2≤sC.labs.length:=by rw [hC];(refine⟨?_,?_⟩<;>omega)
        have hle:=iY om sm e.en t.els (sC.place s1.labs.length);rw [bD]at hle;have lle:=iP om sm e.en t.els (sC.place s1.labs.length);have lpl:(sC.place s1.labs.length).labs.length=sC.labs.length:=by simp [Qg.place]
        refine az (ae (aa (aj (ac J) J (aj (ac J) J (au (xs:= [.tmp 83,.tmp 84]) (dI e (sC) (by omega) ((s1.labs.length:Int)) (by omega)) qS [0] [] [0] J J J J J J J J (fun _ _=>J) (fun _ _ _=>J) J (fun _ _=>ai (ae (aa (aj (ac J) J (aj (ah eg J) J (aj (ak gZ J J (ap (k:=3) J J)) J (au (xs:= [.tmp 86,.tmp 88]) (ihe (sC.place s1.labs.length) (by rw [bD];omega)) EG [0] [(false,2),(false,3),(false,4),(false,5)] [0] J J J J J J J J (fun _ _=>J) (fun _ _ _=>J) J (fun _ _=>ai ?_)))))))))))));refine aa (aj (ac J) J (aj (ac J) J (au (xs:= [.tmp 90,.tmp 91]) (dI e (f_ om sm e.en t.els (sC.place s1.labs.length)) (by omega) ((s1.labs.length+1:Int)) (by omega)) qS [0] [] [0] J J J J J J J J (fun _ _=>J) (fun _ _ _=>J) J (fun _ _=>ai (bO () trivial J eW J [0] [] J J J)))))
      ·(try simp only [aV]at h7)
       have n4:¬t.kind=4:=h7;refine ae (aa (aj (am J J aS) J (aj (ag J) J (ai (ar J (fun h9=> ?_) (fun h9=> ?_))))))
       ·(try simp only [aV]at h9)
        have hk:t.kind=5:=h9;obtain⟨s1,hs1⟩:∃s1,s1=gX om sm a (iv s):=⟨_,J⟩
        rw [QB hk (lT hw (by omega) hea) hs1];rw [←hs1]at hsa hla ⊢;have hb:=iY om sm e.en t.body (s1.lab.jump 32 1 0 s1.labs.length);rw [bG,bU]at hb;have lb:=iP om sm e.en t.body (s1.lab.jump 32 1 0 s1.labs.length);have ll:(s1.lab.jump 32 1 0 s1.labs.length).labs.length=s1.labs.length+1:=by simp [Qg.lab,Qg.jump]
        have lj:((f_ om sm e.en t.body (s1.lab.jump 32 1 0 s1.labs.length)).jump 40 0 0 s.labs.length).labs.length=(f_ om sm e.en t.body (s1.lab.jump 32 1 0 s1.labs.length)).labs.length:=by simp [Qg.jump]
        refine ae (aa (aj (ac J) J (au (xs:= [.tmp 95]) (ey e (s1) (by omega)) ur [0] [] [0] J J J J J J J J (fun _ _=>J) (fun _ _ _=>J) J (fun _ _=>aj (ag J) J (ai (ae (aa (aj (ac J) J (aj (ac J) J (au (xs:= [.tmp 97,.const (.int .i64 32),.const (.int .i64 1),.const (.int .i64 0),.tmp 98]) (eJ e (s1.lab) (by rw [bU];omega) 32 1 0 (s1.labs.length:Int)) r4 [0] [] [0] J J J J J J J J (fun _ _=>J) (fun _ _ _=>J) J (fun _ _=>ai (ae (aa ?_)))))))))))));refine aj (ac J) J (aj (ah e9 J) J (aj (ak gZ J J (ap (k:=3) J J)) J (au (xs:= [.tmp 100,.tmp 102]) (ihb (s1.lab.jump 32 1 0 s1.labs.length) (by rw [bG,bU];omega)) EG [0] [(false,1),(false,3),(false,4),(false,5)] [0] J J J J J J J J (fun _ _=>J) (fun _ _ _=>J) J (fun _ _=>ai (ae (aa (aj (ac J) J (aj (ac J) J (au (xs:= [.tmp 104,.const (.int .i64 40),.const (.int .i64 0),.const (.int .i64 0),.tmp 105]) (eJ e (f_ om sm e.en t.body (s1.lab.jump 32 1 0 s1.labs.length)) (by omega) 40 0 0 (s.labs.length:Int)) r4 [0] [] [0] J J J J J J J J (fun _ _=>J) (fun _ _ _=>J) J (fun _ _=>ai (aa (aj (ac J) J (aj (ac J) J ?_)))))))))))));refine au (xs:= [.tmp 107,.tmp 108]) (dI e ((f_ om sm e.en t.body (s1.lab.jump 32 1 0 s1.labs.length)).jump 40 0 0 s.labs.length) (by rw [bG];omega) ((s1.labs.length:Int)) (by omega)) qS [0] [] [0] J J J J J J J J (fun _ _=>J) (fun _ _ _=>J) J (fun _ _=>ai (bO () trivial J eW J [0] [] J J J))
       ·(try simp only [aV]at h9)
        have n5:¬t.kind=5:=h9;rw [Qy n1 n2 n3 n4 n5 n6 n7 (lT hw (by omega) hea)];refine az (bO () trivial J eW J [0] [] J J J)
theorem DY(e:Ga)(c:Oq)(om sm:Om)(v:SV)(l:List Ty)(hl:l.length≤1000000)(ih:∀u∈l,∀s:Qg,s.sz+22*nY u≤780000→Spec Tryz.prog 130 [.pointer (some ⟨e.g,0,none⟩),yV u] [gA e s] [bK u.ve u.es,bz u.vb u.body,bz u.vl u.els,gT e.g c,mp fz Prod.fst vQ e.mo om,mp fz Prod.fst vI (some e.ms) sm] (X:=Unit) (fun _=>True) (fun _=> .tuple #[]) (fun _=> [gA e (gY om sm e.en u s)]) (fun _=> []))(s:Qg)(hz:s.sz+22*cl l≤780000):
  Spec Tryz.prog 96 [.pointer (some ⟨e.g,0,none⟩),sv v] [gA e s] [bz v l,gT e.g c,mp fz Prod.fst vQ e.mo om,mp fz Prod.fst vI (some e.ms) sm] (X:=Unit) (fun _=>True) (fun _=> .tuple #[]) (fun _=> [gA e (f_ om sm e.en l s)]) (fun _=> []):=by
 refine aF Tryz.func96 J Tryz.ntmps96 J fun w0 M H=>aQ 0 9 J fL (ae (aa (aj (ac J) J (aj (aO Tryz.underlying62 J (aK (k:=9) J)) J (aj (ac J) J (ai (aB (bk (X:=Nat) (fun i=>i≤l.length) (fun i=> [(0,.pointer (some ⟨e.g,0,none⟩)),(6,sv v),(7,.int .i64 (l.length:Int)),(8,.int .i64 (i:Int))]) (fun i=> [(0,gA e (f_ om sm e.en (l.take i) s))]) (fun i=> [(0,bz v l),(1,gT e.g c),(2,mp fz Prod.fst vQ e.mo om),(3,mp fz Prod.fst vI (some e.ms) sm),(9,sl 5 ec (sv v) l)]) (fun i=>l.length-i) 0 (Nat.zero_le _) J J J (fun i n1=>ae (aa (aj (am J J b_) J (ai ?_))))))))))))
 refine ae (ar J (fun h1=> ?_) (fun h1=> ?_))
 ·(try simp only [aV]at h1)
  have hi:i<l.length:=by omega
  obtain⟨kid,hkid⟩:∃k,l[i]?=some k:=⟨_,List.getElem?_eq_getElem hi⟩
  have hkm:=List.mem_of_getElem? hkid;have hle:=lP l (i+1);rw [gt hkid]at hle;have hsi:=iY om sm e.en (l.take i) s;refine az (ae (aB (ae (aa (aj (aN (j:=i) Tryz.underlying62 dA J J (aK (k:=9) J) (by first|rfl|omega) (by first|omega|(simp;done)|(simp;omega))) J (aj (aJ dA J J J (bv (aK (k:=9) J) (by intro _;rfl) hkid (by rfl))) J (aT dA J J fun b5=>av (k:=5) dA J J J J J J (ai (aa (aj (ac J) J (aj (aJ dA J J J (aR (k:=5) J)) J (aQ 0 11 J (jl hkm) ?_))))))))))));refine aQ 0 12 J (fv hkm) (aQ 0 13 J (gl hkm) (au (xs:= [.tmp 12,.tmp 13]) (ih kid hkm (f_ om sm e.en (l.take i) s) (by omega)) Ot [0] [(false,11),(false,12),(false,13),(false,1),(false,2),(false,3)] [0] J J J J J J J J (fun _ _=>J) (fun _ _ _=>J) J (fun _ _=>ai (aa (aj (am J J (aX (by first|exact aU (by omega) (by omega)|rfl))) J (aj (ac J) J (ai ?_)))))));refine aL (i+1) ⟨by omega,by omega⟩ J (by rw [vX s hkid];rfl) J
 ·(try simp only [aV]at h1)
  have hi:i=l.length:=by omega
  subst hi;rw [List.take_length];refine bn (bO () trivial J eW J [0] [] J J J)
theorem tX(e:Ga)(c:Oq)(om sm:Om)(hm:e.mp=c.m)(he0:0≤e.en):∀(n:Nat)(v:SV)(l:List Ty),SizeOf.sizeOf l<n→ly l=true→GYs l→l.length≤1000000→∀s:Qg,s.sz+22*cl l≤780000→Spec Tryz.prog 96 [.pointer (some ⟨e.g,0,none⟩),sv v] [gA e s] [bz v l,gT e.g c,mp fz Prod.fst vQ e.mo om,mp fz Prod.fst vI (some e.ms) sm] (X:=Unit) (fun _=>True) (fun _=> .tuple #[]) (fun _=> [gA e (f_ om sm e.en l s)]) (fun _=> [])
 | 0,_,_,h,_,_,_=>absurd h (Nat.not_lt_zero _)
 | n+1,v,l,h,hr,hg,hl=>fun s hz=>DY e c om sm v l hl (fun u hu s hz=>by
   have hlt:=List.sizeOf_lt_of_mem hu;have hw:=L0 (zk hr u hu);have hgu:=hg.mem u hu;have hb:SizeOf.sizeOf u.body<SizeOf.sizeOf u:=by cases u;simp [Ty.body];omega
   have hl':SizeOf.sizeOf u.els<SizeOf.sizeOf u:=by cases u;simp [Ty.els];omega
   exact DR e c om sm hm u hw hgu (fun s hz=>tX e c om sm hm he0 n u.vb u.body (by omega) hw.body (dP hgu).2 (dP hgu).1 s hz) (fun s hz=>tX e c om sm hm he0 n u.vl u.els (by omega) hw.els (eR hgu).2 (eR hgu).1 s hz) s hz he0) s hz
theorem DZ(e:Ga)(c:Oq)(om sm:Om)(hm:e.mp=c.m)(he0:0≤e.en)(v:SV)(l:List Ty)(hr:ly l=true)(hg:GYs l)(hl:l.length≤1000000)(s:Qg)(hz:s.sz+22*cl l≤780000):Spec Tryz.prog 96 [.pointer (some ⟨e.g,0,none⟩),sv v] [gA e s] [bz v l,gT e.g c,mp fz Prod.fst vQ e.mo om,mp fz Prod.fst vI (some e.ms) sm] (X:=Unit) (fun _=>True) (fun _=> .tuple #[]) (fun _=> [gA e (f_ om sm e.en l s)]) (fun _=> []):=tX e c om sm hm he0 _ v l (Nat.lt_succ_self _) hr hg hl s hz
theorem wc:∀{l:List Ty}{i:Nat}{u:Ty}(p:Om×Int),l[i]?=some u→gDs (l.take (i+1)) p=gD u (gDs (l.take i) p)
 | [],i,u,p,h=>by simp at h
 | x::r,0,u,p,h=>by cases h;rfl
 | x::r,i+1,u,p,h=>wc (l:=r) _ h
theorem Eb(t:Ty)(p:Om×Int):gD t p=gDs t.els (gDs t.body (if t.kind=1 then(dV p.1 t.name (wU (-(4*(p.2+1)))),p.2+1)else p)):=by cases t;rfl
mutual
theorem QL:∀(t:Ty)(p:Om×Int),(gD t p).2=p.2+vY t
 | .mk k nm _ _ _ body _ els,p=>by
  rw [Eb];show(gDs els (gDs body _)).2=_;rw [ol els,ol body];unfold vY;show(if k=1 then _ else p).2+_+_=_;by_cases h:k=1
  ·rw [if_pos h,if_pos h];show p.2+1+_+_=_;omega
  ·rw [if_neg h,if_neg h];omega
theorem ol:∀(l:List Ty)(p:Om×Int),(gDs l p).2=p.2+cD l
 | [],p=>by show p.2=p.2+((0:Nat):Int);omega
 | t::r,p=>by
  show(gDs r (gD t p)).2=_;rw [ol r,QL t,show cD (t::r)=vY t+cD r from J];omega
end
theorem BC(g:Nat)(vp:SV)(ms mo mq:Nat)(en:Int)(s:Qg)(cb:Nat)(v:SV)(l:List Ty)(hl:l.length≤1000000)(ihb:∀u∈l,∀p:Om×Int,0≤p.2→p.2+cD u.body≤1000000→Spec Tryz.prog 94 [.pointer (some ⟨g,0,none⟩),sv u.vb,.pointer (some ⟨cb,0,none⟩)] [gA (⟨g,vp,ms,some mo,mq,en⟩:Ga) s,mp fz Prod.fst vQ (some mo) (p).1,aY cb 3 [.int .i64 (p).2]] [bz u.vb u.body] (X:=Unit) (fun _=>True) (fun _=> .tuple #[]) (fun _=> [gA (⟨g,vp,ms,some mo,mq,en⟩:Ga) s,mp fz Prod.fst vQ (some mo) (gDs u.body p).1,aY cb 3 [.int .i64 (gDs u.body p).2]]) (fun _=> []))(ihe:∀u∈l,∀p:Om×Int,0≤p.2→p.2+cD u.els≤1000000→Spec Tryz.prog 94 [.pointer (some ⟨g,0,none⟩),sv u.vl,.pointer (some ⟨cb,0,none⟩)] [gA (⟨g,vp,ms,some mo,mq,en⟩:Ga) s,mp fz Prod.fst vQ (some mo) (p).1,aY cb 3 [.int .i64 (p).2]] [bz u.vl u.els] (X:=Unit) (fun _=>True) (fun _=> .tuple #[]) (fun _=> [gA (⟨g,vp,ms,some mo,mq,en⟩:Ga) s,mp fz Prod.fst vQ (some mo) (gDs u.els p).1,aY cb 3 [.int .i64 (gDs u.els p).2]]) (fun _=> []))(p:Om×Int)(h0:0≤p.2)(hn:p.2+cD l≤1000000):
  Spec Tryz.prog 94 [.pointer (some ⟨g,0,none⟩),sv v,.pointer (some ⟨cb,0,none⟩)] [gA (⟨g,vp,ms,some mo,mq,en⟩:Ga) s,mp fz Prod.fst vQ (some mo) (p).1,aY cb 3 [.int .i64 (p).2]] [bz v l] (X:=Unit) (fun _=>True) (fun _=> .tuple #[]) (fun _=> [gA (⟨g,vp,ms,some mo,mq,en⟩:Ga) s,mp fz Prod.fst vQ (some mo) (gDs l p).1,aY cb 3 [.int .i64 (gDs l p).2]]) (fun _=> []):=by
 refine aF Tryz.func94 J Tryz.ntmps94 J fun w0 M H=>aQ 0 9 J fL (ae (aa (aj (ac J) J (aj (aO Tryz.underlying62 J (aK (k:=9) J)) J (aj (ac J) J (ai (aB (bk (X:=Nat) (fun i=>i≤l.length) (fun i=> [(0,.pointer (some ⟨g,0,none⟩)),(2,.pointer (some ⟨cb,0,none⟩)),(8,sv v),(9,.int .i64 (l.length:Int)),(10,.int .i64 (i:Int))]) (fun i=> [(0,gA (⟨g,vp,ms,some mo,mq,en⟩:Ga) s),(1,mp fz Prod.fst vQ (some mo) (gDs (l.take i) p).1),(2,aY cb 3 [.int .i64 (gDs (l.take i) p).2])]) (fun i=> [(0,bz v l),(9,sl 5 ec (sv v) l)]) (fun i=>l.length-i) 0 (Nat.zero_le _) J J J (fun i n1=>ae (aa (aj (am J J b_) J (ai ?_))))))))))))
 refine ae (ar J (fun h1=> ?_) (fun h1=> ?_))
 ·(try simp only [aV]at h1)
  have hi:i<l.length:=by omega
  obtain⟨kid,hkid⟩:∃k,l[i]?=some k:=⟨_,List.getElem?_eq_getElem hi⟩
  have hkm:=List.mem_of_getElem? hkid;have hn1:=ol (l.take i) p;have hn2:=ol (l.take (i+1)) p;have hvt:=i7 hkid;have hvl:=n_ hkid;have hve:=Cm kid;obtain⟨q,hq⟩:∃q,q=(if kid.kind=1 then(dV (gDs (l.take i) p).1 kid.name (wU (-(4*((gDs (l.take i) p).2+1)))),(gDs (l.take i) p).2+1)else gDs (l.take i) p):=⟨_,J⟩
  have hq2:q.2=(gDs (l.take i) p).2+((if kid.kind=1 then 1 else 0:Nat):Int):=by rw [hq];split<;>simp
  refine az (ae (aB (ae (aa (aj (aN (j:=i) Tryz.underlying62 dA J J (aK (k:=9) J) (by first|rfl|omega) (by first|omega|(simp;done)|(simp;omega))) J (aj (aJ dA J J J (bv (aK (k:=9) J) (by intro _;rfl) hkid (by rfl))) J (aT dA J J fun b7=>av (k:=7) dA J J J J J J (ai (bi (X:=Unit) (fun _=>True) (fun _=> [(0,.pointer (some ⟨g,0,none⟩)),(2,.pointer (some ⟨cb,0,none⟩)),(7,.pointer (some ⟨b7,0,none⟩)),(8,sv v),(9,.int .i64 (l.length:Int)),(10,.int .i64 (i:Int))]) (fun _=> [(0,gA (⟨g,vp,ms,some mo,mq,en⟩:Ga) s),(1,mp fz Prod.fst vQ (some mo) q.1),(2,aY cb 3 [.int .i64 q.2]),(7,aY b7 64 (ec kid))]) (fun _=> [(0,bz v l),(9,sl 5 ec (sv v) l)]) ?_ (fun _ _=> ?_))))))))))
  ·refine ae (aa (aj (ah dJ J) J (aj (ak t3 J J (ap (k:=7) J J)) J (aj (am J J aS) J (ai (ar J (fun h2=> ?_) (fun h2=> ?_)))))))
   ·(try simp only [aV]at h2)
    have hk:kid.kind=1:=h2;rw [if_pos hk]at hve;have hqe:q=(dV (gDs (l.take i) p).1 kid.name (wU (-(4*((gDs (l.take i) p).2+1)))),(gDs (l.take i) p).2+1):=by rw [hq,if_pos hk]
    refine ae (aa (aj (ac J) J (aj (aq J) J (aj (ak t3 J J (ap (k:=2) J J)) J (aj (am J J (aX (by first|exact aU (by omega) (by omega)|rfl))) J (aj (aq J) J (aI (k:=2) t3 J J J J J J J J (ai ?_))))))));refine bA [22,23,24,25,26,27,28,29,30,31,32,33] _ J (bB (V:= [(0,22,_),(1,23,_),(2,24,_),(3,25,_),(4,26,_),(5,27,_),(6,28,_),(7,29,_),(8,30,_),(9,31,_),(10,32,_),(11,33,_)]) [0,1,2,3,4,5,6,7,8,9,10,11] 12 [12,11,10,9,8,7,6,5,4,3,2,1,0] [] (fun _=> []) J J (ad (aD J (ac J)) (ad (aD J (aq J)) (ad (aD J (ah kW J)) (ad (aD J (ak A1 J J (nO (k:=0) J (fun _=>J) J))) (ad (aD J (ah gg J)) (ad (aD J (ak t9 J J (ap (k:=7) J J))) (ad (aD J (ac J)) (ad (aD J (aq J)) (ad (aD J (ak t3 J J (ap (k:=2) J J))) (ad (aD J (am J J (de (by first|exact aU (by omega) (by omega)|rfl)))) (ad (aD J (bP Tryz.underlying3 Tryz.underlying41 J (by first|exact bC (by omega) (by omega)|rfl))) (ad (aD J (MN J J)) ay)))))))))))) J J J J J J J J J (fun _ _=>J) J (gU (k:=1) (α:=ByteArray×Int) (kf:=Prod.fst) (vf:=vQ) (kid.name,wU (-(4*((gDs (l.take i) p).2+1)))) (dV (gDs (l.take i) p).1 kid.name (wU (-(4*((gDs (l.take i) p).2+1))))) Tryz.underlying108 d8 J J J J (List.Perm.refl _)) (fun _ _=>be [] J J ay J J J ?_));refine aL () trivial J (by rw [hqe];rfl) J
   ·(try simp only [aV]at h2)
    have hk:¬kid.kind=1:=h2;rw [if_neg hk]at hve;have hqe:q=gDs (l.take i) p:=by rw [hq,if_neg hk]
    refine az (aL () trivial J (by rw [hqe];rfl) J)
  ·refine ae (aa (aj (ac J) J (aj (ah e9 J) J (aj (ak gZ J J (ap (k:=7) J J)) J (aj (ac J) J (aQ 0 11 J (fv hkm) (au (xs:= [.tmp 34,.tmp 36,.tmp 37]) (ihb kid hkm q (by omega) (by omega)) K5 [0,1,2] [(false,11)] [0,1,2] J J J J J J J J (fun _ _=>J) (fun _ _ _=>J) J (fun _ _=>ai (aa (aj (ac J) J (aj (ah eg J) J (aj (ak gZ J J (ap (k:=7) J J)) J (aj (ac J) J ?_)))))))))))));refine aQ 0 11 J (gl hkm) (au (xs:= [.tmp 39,.tmp 41,.tmp 42]) (ihe kid hkm (gDs kid.body q) (by rw [ol];omega) (by rw [ol];omega)) K5 [0,1,2] [(false,11)] [0,1,2] J J J J J J J J (fun _ _=>J) (fun _ _ _=>J) J (fun _ _=>ai (aa (aj (am J J (aX (by first|exact aU (by omega) (by omega)|rfl))) J (aj (ac J) J (ai ?_))))));refine aL (i+1) ⟨by omega,by omega⟩ J (by rw [wc p hkid,Eb,←hq];rfl) J
 ·(try simp only [aV]at h1)
  have hi:i=l.length:=by omega
  subst hi;rw [List.take_length];refine bn (bO () trivial J eW J [0,1,2] [] J J J)
theorem qs(g:Nat)(vp:SV)(ms mo mq:Nat)(en:Int)(s:Qg)(cb:Nat):∀(n:Nat)(v:SV)(l:List Ty),SizeOf.sizeOf l<n→GYs l→l.length≤1000000→∀p:Om×Int,0≤p.2→p.2+cD l≤1000000→Spec Tryz.prog 94 [.pointer (some ⟨g,0,none⟩),sv v,.pointer (some ⟨cb,0,none⟩)] [gA (⟨g,vp,ms,some mo,mq,en⟩:Ga) s,mp fz Prod.fst vQ (some mo) (p).1,aY cb 3 [.int .i64 (p).2]] [bz v l] (X:=Unit) (fun _=>True) (fun _=> .tuple #[]) (fun _=> [gA (⟨g,vp,ms,some mo,mq,en⟩:Ga) s,mp fz Prod.fst vQ (some mo) (gDs l p).1,aY cb 3 [.int .i64 (gDs l p).2]]) (fun _=> [])
 | 0,_,_,h,_,_=>absurd h (Nat.not_lt_zero _)
 | n+1,v,l,h,hg,hl=>fun p h0 hn=>BC g vp ms mo mq en s cb v l hl (fun u hu p h0 hn=>by
   have hlt:=List.sizeOf_lt_of_mem hu;have hgu:=hg.mem u hu;have hb:SizeOf.sizeOf u.body<SizeOf.sizeOf u:=by cases u;simp [Ty.body];omega
   exact qs g vp ms mo mq en s cb n u.vb u.body (by omega) (dP hgu).2 (dP hgu).1 p h0 hn) (fun u hu p h0 hn=>by
   have hlt:=List.sizeOf_lt_of_mem hu;have hgu:=hg.mem u hu;have hb:SizeOf.sizeOf u.els<SizeOf.sizeOf u:=by cases u;simp [Ty.els];omega
   exact qs g vp ms mo mq en s cb n u.vl u.els (by omega) (eR hgu).2 (eR hgu).1 p h0 hn) p h0 hn
theorem BD(g:Nat)(vp:SV)(ms mo mq:Nat)(en:Int)(s:Qg)(cb:Nat)(v:SV)(l:List Ty)(hg:GYs l)(hl:l.length≤1000000)(p:Om×Int)(h0:0≤p.2)(hn:p.2+cD l≤1000000):Spec Tryz.prog 94 [.pointer (some ⟨g,0,none⟩),sv v,.pointer (some ⟨cb,0,none⟩)] [gA (⟨g,vp,ms,some mo,mq,en⟩:Ga) s,mp fz Prod.fst vQ (some mo) (p).1,aY cb 3 [.int .i64 (p).2]] [bz v l] (X:=Unit) (fun _=>True) (fun _=> .tuple #[]) (fun _=> [gA (⟨g,vp,ms,some mo,mq,en⟩:Ga) s,mp fz Prod.fst vQ (some mo) (gDs l p).1,aY cb 3 [.int .i64 (gDs l p).2]]) (fun _=> []):=qs g vp ms mo mq en s cb _ v l (Nat.lt_succ_self _) hg hl p h0 hn
section
variable{P:Program}{N:Nat}{w0:World}{M H:Nat→Prop}{E:el}{Γ R:dQ}
theorem tw(k:Nat)(ns:List Nat){e:Ga}{s:Qg}{Rel:Act→World→Prop}(hk:bL Γ k=some (gA e s))(hns:ns.Nodup)(hl:ns.length=4)
  (h:∀vc vf vl,At N w0 M H E (fB ns [aY e.g 111 (gR e.vp vc vf vl e.ms e.mo e.mp e.en),own 118 5 gC (sv vc) s.code,own 171 2 uD (sv vf) s.fixes,own 3 1 eI (sv vl) s.labs] (fD [k] Γ)) R Rel):At N w0 M H E Γ R Rel:=
 C0 k ns hk hns (fun _=>hl) fun x=>h x.1 x.2.1 x.2.2
theorem tv(k:Nat)(ks:List Nat)(e:Ga)(s:Qg)(vc vf vl:SV){Rel:Act→World→Prop}(hL:ek Γ ks=cZ [aY e.g 111 (gR e.vp vc vf vl e.ms e.mo e.mp e.en),own 118 5 gC (sv vc) s.code,own 171 2 uD (sv vf) s.fixes,own 3 1 eI (sv vl) s.labs])(hks:ks.Nodup)
  (h:At N w0 M H E ((k,gA e s)::fD ks Γ) R Rel):At N w0 M H E Γ R Rel:=JI (f:=fun x:SV×SV×SV=> [aY e.g 111 (gR e.vp x.1 x.2.1 x.2.2 e.ms e.mo e.mp e.en),own 118 5 gC (sv x.1) s.code,own 171 2 uD (sv x.2.1) s.fixes,own 3 1 eI (sv x.2.2) s.labs]) k ks (vc,vf,vl) hL hks h
end
theorem zS(n:Int):∀(l:List ByteArray)(k:Int)(x:ByteArray)(o:Om),gP n k (l++ [x]) o=dV (gP n k l o) x (8+4*(n-1-(k+l.length)))
 | [],k,x,o=>by
  show dV o x (8+4*(n-1-k))=dV o x (8+4*(n-1-(k+((0:Nat):Int))));rw [show k+((0:Nat):Int)=k by omega]
 | y::l,k,x,o=>by
  show gP n (k+1) (l++ [x]) _=dV (gP n (k+1) l _) x _;rw [zS n l (k+1) x];rw [show k+1+(l.length:Int)=k+(((y::l).length:Nat):Int) by rw [List.length_cons];omega]
theorem G4{n:Int}{l:List ByteArray}{i:Nat}{x:ByteArray}(o:Om)(h:l[i]?=some x):gP n 0 (l.take (i+1)) o=dV (gP n 0 (l.take i) o) x (8+4*(n-1-(i:Int))):=by
 obtain⟨hi,-⟩:=List.getElem?_eq_some_iff.1 h;rw [bM h,zS,List.length_take,Nat.min_eq_left (by omega),show(0:Int)+(i:Int)=i by omega]
theorem gy:∀(n:Nat)(s:Qg),c_ (n+1) s=(c_ n s).push 0
 | 0,s=>rfl
 | n+1,s=>gy n (s.push 0)
theorem cj:∀(n:Nat)(s:Qg),(c_ n s).sz=s.sz+2*n
 | 0,s=>rfl
 | n+1,s=>by
  rw [gy,ck,cj n];omega
theorem jB:∀(n:Nat)(s:Qg),(c_ n s).labs=s.labs
 | 0,s=>rfl
 | n+1,s=>by
  rw [gy];exact jB n s
mutual
theorem L9:∀t:Ty,vY t≤nY t
 | .mk k nm ve es vb body vl els=>by
  have h1:=mh body;have h2:=mh els;show(if k=1 then 1 else 0)+cD body+cD els≤1+dU es+cl body+cl els;split<;>omega
theorem mh:∀l:List Ty,cD l≤cl l
 | []=>Nat.le_refl _
 | t::r=>by
  have h1:=L9 t;have h2:=mh r;show vY t+cD r≤nY t+cl r;omega
end
theorem dO(s:Qg):s.lab.labs.length=s.labs.length+1:=by
 show(s.labs++ [0]).length=_;rw [List.length_append,List.length_singleton]
theorem dB(s:Qg)(l:Int):(s.place l).labs.length=s.labs.length:=by
 show(s.labs.set _ _).length=_;rw [List.length_set]
theorem zT(f:Tf):(cI f).2=(cD f.body:Int):=by
 show(gDs f.body (gP f.ps.length 0 f.ps [],0)).2=_;rw [ol];show(0:Int)+_=_;omega
theorem Nf(sm:Om)(f:Tf)(s:Qg):(gF sm f s).sz≤s.sz+24*cl f.body+60:=by
 have h1:=iY (cI f).1 sm ((s.labs.length:Int)+1) f.body (c_ (cI f).2.toNat ((((((((((s.lab.lab).place (bs sm f.name)).emit [qi 16 12 12 1]).emit [qi 16 2 0 12]).jump 35 2 12 s.labs.length).emit [⟨49,0,0,0,0⟩]).place s.labs.length).push 15).push 13).emit [q3 1 13 14 0]));have h2:=mh f.body;have h3:=zT f;simp only [bp,ck,c8,bU,bD,bG,cj,List.length_cons,List.length_nil]at h1;show((((((((f_ (cI f).1 sm ((s.labs.length:Int)+1) f.body (c_ (cI f).2.toNat _)).emit [q3 1 1 0 0]).place ((s.labs.length:Int)+1)).emit [q3 1 14 13 0]).pop 13).pop 15).emit [qi 16 12 12 4294967295]).emit [qi 27 0 15 0]).sz≤_;simp only [bp,ck,c8,bU,bD,bG,List.length_cons,List.length_nil];omega
theorem BA(e:Ga)(c:Oq)(sm:Om)(hm:e.mp=c.m)(f:Tf)(hr:ly f.body=true)(hg:GF f)(s:Qg)(hst:0≤bs sm f.name∧bs sm f.name<s.labs.length)(hz:s.sz+24*cl f.body+100≤780000):
  Spec Tryz.prog 54 [.pointer (some ⟨e.g,0,none⟩),LA f] [gA e s] [y_ f,gT e.g c,mp fz Prod.fst vI (some e.ms) sm] (X:=Nat) (fun _=>True) (fun _=> .tuple #[]) (fun b=> [gA ({e with mo:=some b,en:=((s.labs.length:Nat):Int)+1}:Ga) (gF sm f s)]) (fun _=> []):=by
 refine aF Tryz.func54 J Tryz.ntmps54 J fun w0 M H=> ?_
 have hpl:=hg.2.2.1;have hbl:=hg.2.2.2.1;have hgn:=hg.2.2.2.2.2;have hvn:=mh f.body;have hon:=zT f;obtain⟨nv,hnv⟩:∃nv,nv=(cI f).2.toNat:=⟨_,J⟩
 have hnl:(s.lab.labs.length:Int)=((s.labs.length:Nat):Int)+1:=by rw [dO];omega
 refine aQ 0 3 J lu (aQ 0 4 J jn (ae (aa (bN J J fun b3=>ai (ae (aa (aj (ac J) J (kJ (Prod.fst:ByteArray×Int→ByteArray) fz vQ J fun b8=>aj (aq J) J (aj (ah kW J) J (tw 0 [0,21,22,23] J (by decide) J fun vc vf vl=>aI (k:=0) A1 J J J J J J J J ?_))))))))));refine tv 0 [0,21,22,23] ({e with mo:=some b8}:Ga) s vc vf vl J (by decide) (ai (ae (ae (aa (aj (ah dr J) J (aj (ak gm J J (ap (k:=3) J J)) J (aj (aO Tryz.underlying46 J (aK (k:=3) J)) J (aj (ac J) J (ai (aB (bk (X:=Nat) (fun i=>i≤f.ps.length) (fun i=> [(0,.pointer (some ⟨e.g,0,none⟩)),(3,.pointer (some ⟨b3,0,none⟩)),(13,.int .i64 (f.ps.length:Int)),(14,.int .i64 (i:Int))]) (fun i=> [(0,gA ({e with mo:=some b8}:Ga) s),(3,aY b3 66 (iR f)),(8,mp fz Prod.fst vQ (some b8) (gP (f.ps.length:Int) 0 (f.ps.take i) []))]) (fun i=> [(0,y_ f),(1,gT e.g c),(2,mp fz Prod.fst vI (some e.ms) sm),(3,sl 1 eS (sv f.vp) f.ps),(4,bz f.vb f.body)]) (fun i=>f.ps.length-i) 0 (Nat.zero_le _) J J J (fun i n1=>ae (aa ?_)))))))))))));refine aj (am J J b_) J (ai (ae (ar J (fun h1=> ?_) (fun h1=> ?_))))
 ·(try simp only [aV]at h1)
  have hi:i<f.ps.length:=by omega
  obtain⟨x,hx⟩:∃x,f.ps[i]?=some x:=⟨_,List.getElem?_eq_getElem hi⟩
  refine az (ae (aB (ae (aa (aj (ac J) J (aj (ag J) J (ai ?_)))))));refine bA [17,18,19,20,21,22,23,24,25,26,27,28,29,30,31,32,33,34] _ J (bB (V:= [(0,17,_),(1,18,_),(2,19,_),(3,20,_),(4,21,_),(5,22,_),(6,23,_),(7,24,_),(8,25,_),(9,26,_),(10,27,_),(11,28,_),(12,29,_),(13,30,_),(14,31,_),(15,32,_),(16,33,_),(17,34,_)]) [0,1,2,3,4,5,6,7,8,9,10,11,12,13,14,15,16,17] 18 [18,17,16,15,14,13,12,11,10,9,8,7,6,5,4,3,2,1,0] [] (fun _=> []) J J (ad (aD J (ac J)) (ad (aD J (aq J)) (ad (aD J (ah kW J)) (ad (aD J (ak A1 J J (nO (k:=0) J (fun _=>J) J))) (ad (aD J (ah dr J)) (ad (aD J (ak gm J J (ap (k:=3) J J))) (ad (aD J (ac J)) (ad (aD J (aN (j:=i) Tryz.underlying46 t9 J J (aK (k:=3) J) (by first|rfl|omega) (by first|omega|(simp;done)|(simp;omega)))) (ad (aD J (ak t9 J J (bv (aK (k:=3) J) (by intro _;rfl) hx (by rfl)))) (ad (aD J (ah dr J)) (ad (aD J (ak gm J J (ap (k:=3) J J))) (ad (aD J (aO Tryz.underlying46 J (aK (k:=3) J))) (ad (aD J (am J J (fQ (by first|exact aU (by omega) (by omega)|rfl)))) (ad (aD J (ac J)) (ad (aD J (am J J (fQ (by first|exact aU (by omega) (by omega)|rfl)))) (ad (aD J (am J J (de (by first|exact aU (by omega) (by omega)|rfl)))) (ad (aD J (am J J (aX (by first|exact aU (by omega) (by omega)|rfl)))) (ad (aD J (bP Tryz.underlying3 Tryz.underlying41 J (by first|exact bC (by omega) (by omega)|rfl))) ay)))))))))))))))))) J J J J J J J J J (fun _ _=>J) J (gU (k:=8) (α:=ByteArray×Int) (kf:=Prod.fst) (vf:=vQ) (x,8+4*((f.ps.length:Int)-1-i)) (dV (gP (f.ps.length:Int) 0 (f.ps.take i) []) x (8+4*((f.ps.length:Int)-1-i))) Tryz.underlying108 d8 J J J J (List.Perm.refl _)) (fun _ _=>be [] J J ay J J J ?_));refine aa (aj (am J J (aX (by first|exact aU (by omega) (by omega)|rfl))) J (aj (ac J) J (ai ?_)));refine aL (i+1) ⟨by omega,by omega⟩ J (by rw [G4 [] hx];rfl) J
 ·(try simp only [aV]at h1)
  have hi:i=f.ps.length:=by omega
  subst hi;refine bn (ae (aa (aT t3 J J fun b5=>aI (k:=5) t3 J J J J J J J J (ai (ae ?_)))));rw [List.take_length];refine aa (aj (ac J) J (aj (ah iw J) J (aj (ak gZ J J (ap (k:=3) J J)) J (au (xs:= [.tmp 36,.tmp 38,.tmp 5]) (BD e.g e.vp e.ms b8 e.mp e.en s b5 f.vb f.body hg.2.2.2.2.1 hbl (gP (f.ps.length:Int) 0 f.ps [],0) (Int.le_refl _) (by dsimp only;omega)) K5 [0,8,5] [(false,4)] [0,8,5] J J J J J J J J (fun _ _=>J) (fun _ _ _=>J) J (fun _ _=> ?_)))));obtain⟨om,hom⟩:∃om,om=(cI f).1:=⟨_,J⟩
  refine ai (ae (aa (aj (ac J) J (au (xs:= [.tmp 40]) (ey ({e with mo:=some b8}:Ga) (s) (by omega)) ur [0] [] [0] J J J J J J J J (fun _ _=>J) (fun _ _ _=>J) J (fun _ _=>aj (ag J) J (ai (ae (aa (aj (ac J) J (aj (ac J) J (au (xs:= [.tmp 43]) (ey ({e with mo:=some b8}:Ga) ((s).lab) (by(try simp only [bp,ck,c8,cQ,bU,bD,bG,cj,List.length_cons,List.length_nil]);omega)) ur [0] [] [0] J J J J J J J J (fun _ _=>J) (fun _ _ _=>J) J (fun _ _=> ?_))))))))))));rw [hnl];refine aj (aq J) J (aj (ah ug J) J (tw 0 [0,21,22,23] J (by decide) J fun vc vf vl=>aI (k:=0) t3 J J J J J J J J (tv 0 [0,21,22,23] ({e with mo:=some b8,en:=((s.labs.length:Nat):Int)+1}:Ga) (((s).lab).lab) vc vf vl J (by decide) (ai (ae ?_)))));refine bA [47,48,49,50,51,52,53,54,55] _ J (aZ (V:= [(0,47,_),(1,48,_),(2,49,_),(3,50,_),(4,51,_),(5,52,_),(6,53,_),(7,54,_)]) [0,1,2,3,4,5,6,7] 8 [8,7,6,5,4,3,2,1,0] [] (fun _=> []) J J (ad (aD J (ac J)) (ad (aD J (ac J)) (ad (aD J (aq J)) (ad (aD J (ah m7 J)) (ad (aD J (ak Ct J J (nO (k:=0) J (fun _=>J) J))) (ad (aD J (ah jD J)) (ad (aD J (ak t9 J J (ap (k:=3) J J))) (ad (aD J (Da Tryz.underlying105 d8 t3 J J (sw (k:=2) J))) ay)))))))) J J J J J J J J J J J (fun _ _=>J) J (bh (xs:= [.tmp 47,.tmp 54]) (dI ({e with mo:=some b8,en:=((s.labs.length:Nat):Int)+1}:Ga) (((s).lab).lab) (by(try simp only [bp,ck,c8,cQ,bU,bD,bG,cj,List.length_cons,List.length_nil]);omega) (bs sm f.name) ⟨hst.1,by rw [dO,dO];omega⟩) qS [0] [] [0] J J J J J J J J (fun _ _=>J) (fun _ _ _=>J)) (fun _ _=>be [] J J ay J J J ?_))
  refine ae (aa (aj (ac J) J (au (xs:= [.tmp 56,.const (.int .i64 16),.const (.int .i64 12),.const (.int .i64 12),.const (.int .u32 1)]) (cB ({e with mo:=some b8,en:=((s.labs.length:Nat):Int)+1}:Ga) ((((s).lab).lab).place (bs sm f.name)) (by(try simp only [bp,ck,c8,cQ,bU,bD,bG,cj,List.length_cons,List.length_nil]);omega) 16 12 12 1) iJ [0] [] [0] J J J J J J J J (fun _ _=>J) (fun _ _ _=>J) J (fun _ _=>ai (ae (aa (aj (ac J) J (au (xs:= [.tmp 58,.const (.int .i64 16),.const (.int .i64 2),.const (.int .i64 0),.const (.int .u32 12)]) (cB ({e with mo:=some b8,en:=((s.labs.length:Nat):Int)+1}:Ga) (((((s).lab).lab).place (bs sm f.name)).emit [qi 16 12 12 1]) (by(try simp only [bp,ck,c8,cQ,bU,bD,bG,cj,List.length_cons,List.length_nil]);omega) 16 2 0 12) iJ [0] [] [0] J J J J J J J J (fun _ _=>J) (fun _ _ _=>J) J (fun _ _=>ai (ae (aa (aj (ac J) J (aj (ac J) J ?_)))))))))))));refine au (xs:= [.tmp 60,.const (.int .i64 35),.const (.int .i64 2),.const (.int .i64 12),.tmp 61]) (eJ ({e with mo:=some b8,en:=((s.labs.length:Nat):Int)+1}:Ga) ((((((s).lab).lab).place (bs sm f.name)).emit [qi 16 12 12 1]).emit [qi 16 2 0 12]) (by(try simp only [bp,ck,c8,cQ,bU,bD,bG,cj,List.length_cons,List.length_nil]);omega) 35 2 12 ((s.labs.length:Nat):Int)) r4 [0] [] [0] J J J J J J J J (fun _ _=>J) (fun _ _ _=>J) J (fun _ _=>ai (ae (aa (aj (ac J) J (aj (aP (parts:= [(0,.const (.int .i64 49))]) ed lz J J) J (bq gC ⟨49,0,0,0,0⟩ Tryz.underlying106 ed J (by decide) (by decide) J J J J fun v65=>bW 65 7 J br (au (xs:= [.tmp 63,.tmp 65]) (gh ({e with mo:=some b8,en:=((s.labs.length:Nat):Int)+1}:Ga) (((((((s).lab).lab).place (bs sm f.name)).emit [qi 16 12 12 1]).emit [qi 16 2 0 12]).jump 35 2 12 ((s.labs.length:Nat):Int)) (by(try simp only [bp,ck,c8,cQ,bU,bD,bG,cj,List.length_cons,List.length_nil]);omega) v65 [⟨49,0,0,0,0⟩] (by simp)) wz [0] [(false,7)] [0] J J J J J J J J (fun _ _=>J) (fun _ _ _=>J) J (fun _ _=>ai (ae (aa (aj (ac J) J (aj (ac J) J ?_))))))))))))
  refine au (xs:= [.tmp 67,.tmp 68]) (dI ({e with mo:=some b8,en:=((s.labs.length:Nat):Int)+1}:Ga) ((((((((s).lab).lab).place (bs sm f.name)).emit [qi 16 12 12 1]).emit [qi 16 2 0 12]).jump 35 2 12 ((s.labs.length:Nat):Int)).emit [⟨49,0,0,0,0⟩]) (by(try simp only [bp,ck,c8,cQ,bU,bD,bG,cj,List.length_cons,List.length_nil]);omega) ((s.labs.length:Nat):Int) ⟨by omega,by show _<(((((((s).lab).lab).place (bs sm f.name)).labs.length:Nat)):Int);rw [dB,dO,dO];omega⟩) qS [0] [] [0] J J J J J J J J (fun _ _=>J) (fun _ _ _=>J) J (fun _ _=> ?_);refine ai (ae (aa (aj (ac J) J (au (xs:= [.tmp 70,.const (.int .i64 15)]) (g9 ({e with mo:=some b8,en:=((s.labs.length:Nat):Int)+1}:Ga) (((((((((s).lab).lab).place (bs sm f.name)).emit [qi 16 12 12 1]).emit [qi 16 2 0 12]).jump 35 2 12 ((s.labs.length:Nat):Int)).emit [⟨49,0,0,0,0⟩]).place ((s.labs.length:Nat):Int)) (by(try simp only [bp,ck,c8,cQ,bU,bD,bG,cj,List.length_cons,List.length_nil]);omega) 15) BO [0] [] [0] J J J J J J J J (fun _ _=>J) (fun _ _ _=>J) J (fun _ _=>ai (ae (aa (aj (ac J) J (au (xs:= [.tmp 72,.const (.int .i64 13)]) (g9 ({e with mo:=some b8,en:=((s.labs.length:Nat):Int)+1}:Ga) ((((((((((s).lab).lab).place (bs sm f.name)).emit [qi 16 12 12 1]).emit [qi 16 2 0 12]).jump 35 2 12 ((s.labs.length:Nat):Int)).emit [⟨49,0,0,0,0⟩]).place ((s.labs.length:Nat):Int)).push 15) (by(try simp only [bp,ck,c8,cQ,bU,bD,bG,cj,List.length_cons,List.length_nil]);omega) 13) BO [0] [] [0] J J J J J J J J (fun _ _=>J) (fun _ _ _=>J) J (fun _ _=>ai (ae (aa (aj (ac J) J ?_)))))))))))))
  refine au (xs:= [.tmp 74,.const (.int .i64 1),.const (.int .i64 13),.const (.int .i64 14),.const (.int .i64 0)]) (cJ ({e with mo:=some b8,en:=((s.labs.length:Nat):Int)+1}:Ga) (((((((((((s).lab).lab).place (bs sm f.name)).emit [qi 16 12 12 1]).emit [qi 16 2 0 12]).jump 35 2 12 ((s.labs.length:Nat):Int)).emit [⟨49,0,0,0,0⟩]).place ((s.labs.length:Nat):Int)).push 15).push 13) (by(try simp only [bp,ck,c8,cQ,bU,bD,bG,cj,List.length_cons,List.length_nil]);omega) 1 13 14 0) l6 [0] [] [0] J J J J J J J J (fun _ _=>J) (fun _ _ _=>J) J (fun _ _=>ai (ae (ae (aa (aj (ak t3 J J (ap (k:=5) J J)) J (aj (ac J) J (ai (aB ?_))))))));have hnc:((gDs f.body (gP (f.ps.length:Int) 0 f.ps [],0)).2:Int)=(nv:Int):=by
   have:(cI f).2=(nv:Int):=by omega
   exact this
  rw [hnc];refine bk (X:=Nat) (fun i=>i≤nv) (fun i=> [(0,.pointer (some ⟨e.g,0,none⟩)),(3,.pointer (some ⟨b3,0,none⟩)),(76,.int .i64 (nv:Int)),(77,.int .i64 (i:Int))]) (fun i=> [(0,gA ({e with mo:=some b8,en:=((s.labs.length:Nat):Int)+1}:Ga) (c_ i ((((((((((((s).lab).lab).place (bs sm f.name)).emit [qi 16 12 12 1]).emit [qi 16 2 0 12]).jump 35 2 12 ((s.labs.length:Nat):Int)).emit [⟨49,0,0,0,0⟩]).place ((s.labs.length:Nat):Int)).push 15).push 13).emit [q3 1 13 14 0]))),(3,aY b3 66 (iR f)),(8,mp fz Prod.fst vQ (some b8) om)]) (fun i=> [(0,y_ f),(1,gT e.g c),(2,mp fz Prod.fst vI (some e.ms) sm),(3,sl 1 eS (sv f.vp) f.ps),(4,bz f.vb f.body)]) (fun i=>nv-i) 0 (Nat.zero_le _) J (by rw [hom];rfl) J (fun i n1=>ae (aa (aj (am J J b_) J (ai (ae (ar J (fun h2=> ?_) (fun h2=> ?_)))))))
  ·(try simp only [aV]at h2)
   have hi:i<nv:=by omega
   refine az (ae (aB (aa (aj (ac J) J (au (xs:= [.tmp 79,.const (.int .i64 0)]) (g9 ({e with mo:=some b8,en:=((s.labs.length:Nat):Int)+1}:Ga) (c_ i ((((((((((((s).lab).lab).place (bs sm f.name)).emit [qi 16 12 12 1]).emit [qi 16 2 0 12]).jump 35 2 12 ((s.labs.length:Nat):Int)).emit [⟨49,0,0,0,0⟩]).place ((s.labs.length:Nat):Int)).push 15).push 13).emit [q3 1 13 14 0])) (by(try simp only [bp,ck,c8,cQ,bU,bD,bG,cj,List.length_cons,List.length_nil]);omega) 0) BO [0] [] [0] J J J J J J J J (fun _ _=>J) (fun _ _ _=>J) J (fun _ _=>ai (aa (aj (am J J (aX (by first|exact aU (by omega) (by omega)|rfl))) J (aj (ac J) J (ai ?_))))))))));refine aL (i+1) ⟨by omega,by omega⟩ J (by rw [gy];rfl) J
  ·(try simp only [aV]at h2)
   have hi:nv=i:=by omega
   subst hi;refine bn (ae (aa (aj (ac J) J (aj (ah iw J) J (aj (ak gZ J J (ap (k:=3) J J)) J (au (xs:= [.tmp 82,.tmp 84]) (DZ ({e with mo:=some b8,en:=((s.labs.length:Nat):Int)+1}:Ga) c om sm hm (by dsimp only;omega) f.vb f.body hr hg.2.2.2.2.1 hbl (c_ nv ((((((((((((s).lab).lab).place (bs sm f.name)).emit [qi 16 12 12 1]).emit [qi 16 2 0 12]).jump 35 2 12 ((s.labs.length:Nat):Int)).emit [⟨49,0,0,0,0⟩]).place ((s.labs.length:Nat):Int)).push 15).push 13).emit [q3 1 13 14 0])) (by(try simp only [bp,ck,c8,cQ,bU,bD,bG,cj,List.length_cons,List.length_nil]);omega)) EG [0] [(false,4),(false,1),(true,8),(false,2)] [0] J J J J J (by rw [hom];rfl) J J (fun _ _=>J) (fun _ _ _=>J) J (fun _ _=> ?_)))))));have hbz:=iY om sm (((s.labs.length:Nat):Int)+1) f.body (c_ nv ((((((((((((s).lab).lab).place (bs sm f.name)).emit [qi 16 12 12 1]).emit [qi 16 2 0 12]).jump 35 2 12 ((s.labs.length:Nat):Int)).emit [⟨49,0,0,0,0⟩]).place ((s.labs.length:Nat):Int)).push 15).push 13).emit [q3 1 13 14 0]));simp only [bp,ck,c8,cQ,bU,bD,bG,cj,List.length_cons,List.length_nil]at hbz;have hbl2:=iP om sm (((s.labs.length:Nat):Int)+1) f.body (c_ nv ((((((((((((s).lab).lab).place (bs sm f.name)).emit [qi 16 12 12 1]).emit [qi 16 2 0 12]).jump 35 2 12 ((s.labs.length:Nat):Int)).emit [⟨49,0,0,0,0⟩]).place ((s.labs.length:Nat):Int)).push 15).push 13).emit [q3 1 13 14 0]));rw [jB]at hbl2;have hbl3:((((((((((((s).lab).lab).place (bs sm f.name)).emit [qi 16 12 12 1]).emit [qi 16 2 0 12]).jump 35 2 12 ((s.labs.length:Nat):Int)).emit [⟨49,0,0,0,0⟩]).place ((s.labs.length:Nat):Int)).push 15).push 13).emit [q3 1 13 14 0]).labs.length=s.labs.length+2:=by
    show(((((((((s).lab).lab).place (bs sm f.name)).emit [qi 16 12 12 1]).emit [qi 16 2 0 12]).jump 35 2 12 ((s.labs.length:Nat):Int)).emit [⟨49,0,0,0,0⟩]).place ((s.labs.length:Nat):Int)).labs.length=_;rw [dB];show((((s).lab).lab).place (bs sm f.name)).labs.length=_;rw [dB,dO,dO]
   refine ai (ae (aa (aj (ac J) J (au (xs:= [.tmp 86,.const (.int .i64 1),.const (.int .i64 1),.const (.int .i64 0),.const (.int .i64 0)]) (cJ ({e with mo:=some b8,en:=((s.labs.length:Nat):Int)+1}:Ga) (f_ om sm (((s.labs.length:Nat):Int)+1) f.body (c_ nv ((((((((((((s).lab).lab).place (bs sm f.name)).emit [qi 16 12 12 1]).emit [qi 16 2 0 12]).jump 35 2 12 ((s.labs.length:Nat):Int)).emit [⟨49,0,0,0,0⟩]).place ((s.labs.length:Nat):Int)).push 15).push 13).emit [q3 1 13 14 0]))) (by(try simp only [bp,ck,c8,cQ,bU,bD,bG,cj,List.length_cons,List.length_nil]);omega) 1 1 0 0) l6 [0] [] [0] J J J J J J J J (fun _ _=>J) (fun _ _ _=>J) J (fun _ _=>ai (ae (aa (aj (ac J) J (aj (ac J) J (aj (aq J) J (aj (ah ug J) J (aj (ak t3 J J (nO (k:=0) J (fun _=>J) J)) J ?_))))))))))));refine au (xs:= [.tmp 88,.tmp 92]) (dI ({e with mo:=some b8,en:=((s.labs.length:Nat):Int)+1}:Ga) ((f_ om sm (((s.labs.length:Nat):Int)+1) f.body (c_ nv ((((((((((((s).lab).lab).place (bs sm f.name)).emit [qi 16 12 12 1]).emit [qi 16 2 0 12]).jump 35 2 12 ((s.labs.length:Nat):Int)).emit [⟨49,0,0,0,0⟩]).place ((s.labs.length:Nat):Int)).push 15).push 13).emit [q3 1 13 14 0]))).emit [q3 1 1 0 0]) (by(try simp only [bp,ck,c8,cQ,bU,bD,bG,cj,List.length_cons,List.length_nil]);omega) (((s.labs.length:Nat):Int)+1) ⟨by omega,by show _<((((f_ om sm (((s.labs.length:Nat):Int)+1) f.body (c_ nv ((((((((((((s).lab).lab).place (bs sm f.name)).emit [qi 16 12 12 1]).emit [qi 16 2 0 12]).jump 35 2 12 ((s.labs.length:Nat):Int)).emit [⟨49,0,0,0,0⟩]).place ((s.labs.length:Nat):Int)).push 15).push 13).emit [q3 1 13 14 0]))).labs.length:Nat)):Int);omega⟩) qS [0] [] [0] J J J J J J J J (fun _ _=>J) (fun _ _ _=>J) J (fun _ _=> ?_)
   refine ai (ae (aa (aj (ac J) J (au (xs:= [.tmp 94,.const (.int .i64 1),.const (.int .i64 14),.const (.int .i64 13),.const (.int .i64 0)]) (cJ ({e with mo:=some b8,en:=((s.labs.length:Nat):Int)+1}:Ga) (((f_ om sm (((s.labs.length:Nat):Int)+1) f.body (c_ nv ((((((((((((s).lab).lab).place (bs sm f.name)).emit [qi 16 12 12 1]).emit [qi 16 2 0 12]).jump 35 2 12 ((s.labs.length:Nat):Int)).emit [⟨49,0,0,0,0⟩]).place ((s.labs.length:Nat):Int)).push 15).push 13).emit [q3 1 13 14 0]))).emit [q3 1 1 0 0]).place (((s.labs.length:Nat):Int)+1)) (by(try simp only [bp,ck,c8,cQ,bU,bD,bG,cj,List.length_cons,List.length_nil]);omega) 1 14 13 0) l6 [0] [] [0] J J J J J J J J (fun _ _=>J) (fun _ _ _=>J) J (fun _ _=>ai (ae (aa (aj (ac J) J (au (xs:= [.tmp 96,.const (.int .i64 13)]) (mD ({e with mo:=some b8,en:=((s.labs.length:Nat):Int)+1}:Ga) ((((f_ om sm (((s.labs.length:Nat):Int)+1) f.body (c_ nv ((((((((((((s).lab).lab).place (bs sm f.name)).emit [qi 16 12 12 1]).emit [qi 16 2 0 12]).jump 35 2 12 ((s.labs.length:Nat):Int)).emit [⟨49,0,0,0,0⟩]).place ((s.labs.length:Nat):Int)).push 15).push 13).emit [q3 1 13 14 0]))).emit [q3 1 1 0 0]).place (((s.labs.length:Nat):Int)+1)).emit [q3 1 14 13 0]) (by(try simp only [bp,ck,c8,cQ,bU,bD,bG,cj,List.length_cons,List.length_nil]);omega) 13) HF [0] [] [0] J J J J J J J J (fun _ _=>J) (fun _ _ _=>J) J (fun _ _=>ai (ae (aa (aj (ac J) J ?_)))))))))))))
   refine au (xs:= [.tmp 98,.const (.int .i64 15)]) (mD ({e with mo:=some b8,en:=((s.labs.length:Nat):Int)+1}:Ga) (((((f_ om sm (((s.labs.length:Nat):Int)+1) f.body (c_ nv ((((((((((((s).lab).lab).place (bs sm f.name)).emit [qi 16 12 12 1]).emit [qi 16 2 0 12]).jump 35 2 12 ((s.labs.length:Nat):Int)).emit [⟨49,0,0,0,0⟩]).place ((s.labs.length:Nat):Int)).push 15).push 13).emit [q3 1 13 14 0]))).emit [q3 1 1 0 0]).place (((s.labs.length:Nat):Int)+1)).emit [q3 1 14 13 0]).pop 13) (by(try simp only [bp,ck,c8,cQ,bU,bD,bG,cj,List.length_cons,List.length_nil]);omega) 15) HF [0] [] [0] J J J J J J J J (fun _ _=>J) (fun _ _ _=>J) J (fun _ _=>ai (ae (aa (aj (ac J) J (au (xs:= [.tmp 100,.const (.int .i64 16),.const (.int .i64 12),.const (.int .i64 12),.const (.int .u32 4294967295)]) (cB ({e with mo:=some b8,en:=((s.labs.length:Nat):Int)+1}:Ga) ((((((f_ om sm (((s.labs.length:Nat):Int)+1) f.body (c_ nv ((((((((((((s).lab).lab).place (bs sm f.name)).emit [qi 16 12 12 1]).emit [qi 16 2 0 12]).jump 35 2 12 ((s.labs.length:Nat):Int)).emit [⟨49,0,0,0,0⟩]).place ((s.labs.length:Nat):Int)).push 15).push 13).emit [q3 1 13 14 0]))).emit [q3 1 1 0 0]).place (((s.labs.length:Nat):Int)+1)).emit [q3 1 14 13 0]).pop 13).pop 15) (by(try simp only [bp,ck,c8,cQ,bU,bD,bG,cj,List.length_cons,List.length_nil]);omega) 16 12 12 4294967295) iJ [0] [] [0] J J J J J J J J (fun _ _=>J) (fun _ _ _=>J) J (fun _ _=>ai (aa (aj (ac J) J (au (xs:= [.tmp 102,.const (.int .i64 27),.const (.int .i64 0),.const (.int .i64 15),.const (.int .u32 0)]) (cB ({e with mo:=some b8,en:=((s.labs.length:Nat):Int)+1}:Ga) (((((((f_ om sm (((s.labs.length:Nat):Int)+1) f.body (c_ nv ((((((((((((s).lab).lab).place (bs sm f.name)).emit [qi 16 12 12 1]).emit [qi 16 2 0 12]).jump 35 2 12 ((s.labs.length:Nat):Int)).emit [⟨49,0,0,0,0⟩]).place ((s.labs.length:Nat):Int)).push 15).push 13).emit [q3 1 13 14 0]))).emit [q3 1 1 0 0]).place (((s.labs.length:Nat):Int)+1)).emit [q3 1 14 13 0]).pop 13).pop 15).emit [qi 16 12 12 4294967295]) (by(try simp only [bp,ck,c8,cQ,bU,bD,bG,cj,List.length_cons,List.length_nil]);omega) 27 0 15 0) iJ [0] [] [0] J J J J J J J J (fun _ _=>J) (fun _ _ _=>J) J (fun _ _=> ?_))))))))))
   refine ai (bO b8 trivial J eW J [0] [] J (by rw [hom,hnv];rfl) J)
structure okG(s:Qg):Prop where
 fx:∀p∈s.fixes,(0≤p.1∧p.1<s.code.length)∧(0≤p.2∧p.2<s.labs.length)
 im:∀q∈s.code,oW q.imm
theorem okG.emit{s:Qg}(h:okG s){l:List Qi}(hl:∀q∈l,oW q.imm):okG (s.emit l):=by
 refine⟨fun p hp=> ?_,fun q hq=> ?_⟩
 ·have:=h.fx p hp;show(_∧p.1<((s.code++l).length:Int))∧(_∧p.2<(s.labs.length:Int));rw [List.length_append];omega
 ·rcases List.mem_append.1 hq with hq|hq
  ·exact h.im q hq
  ·exact hl q hq
theorem okG.lab{s:Qg}(h:okG s):okG s.lab:=by
 refine⟨fun p hp=> ?_,h.im⟩;have:=h.fx p hp;rw [dO];exact⟨this.1,this.2.1,by omega⟩
theorem okG.place{s:Qg}(h:okG s)(l:Int):okG (s.place l):=by
 refine⟨fun p hp=> ?_,h.im⟩;have:=h.fx p hp;rw [dB];exact this
theorem okG.jump{s:Qg}(h:okG s)(op d a:Int){l:Int}(hl:0≤l∧l<s.labs.length):okG (s.jump op d a l):=by
 refine⟨fun p hp=> ?_,fun q hq=> ?_⟩
 ·show(_∧p.1<((s.code++ [qi op d a 0]).length:Int))∧(_∧p.2<(s.labs.length:Int));rw [List.length_append,List.length_singleton];rcases List.mem_append.1 hp with hp|hp
  ·have:=h.fx p hp;omega
  ·rw [List.mem_singleton.1 hp];dsimp only;omega
 ·rcases List.mem_append.1 hq with hq|hq
  ·exact h.im q hq
  ·rw [List.mem_singleton.1 hq];exact l8
theorem Rh{q:Qi}(h:oW q.imm):∀x∈ [q],oW x.imm:=fun x hx=>by rw [List.mem_singleton.1 hx];exact h
theorem okG.one{s:Qg}(h:okG s){q:Qi}(hq:oW q.imm):okG (s.emit [q]):=h.emit (Rh hq)
theorem okG.push{s:Qg}(h:okG s)(r:Int):okG (s.push r):=(h.one (q:=qi 16 14 14 4294967292) ⟨by decide,by decide⟩).one (q:=qi 25 r 14 0) l8
theorem okG.pop{s:Qg}(h:okG s)(r:Int):okG (s.pop r):=(h.one (q:=qi 23 r 14 0) l8).one (q:=qi 16 14 14 4) ⟨by decide,by decide⟩
theorem okG.elem{s:Qg}(h:okG s)(r:Int):okG (s.elem r):=(h.one (q:=qi 17 r r 255) (show oW 255 from⟨by decide,by decide⟩)).one (q:=qi 20 r r 2) (show oW 2 from⟨by decide,by decide⟩)
theorem okG.ite{c:Prop} [Decidable c]{a b:Qg}(h1:okG a)(h2:okG b):okG (if c then a else b):=by split;exact h1;exact h2
theorem okG.op{s:Qg}(h:okG s)(o:ByteArray):okG (oD o s):=by
 have w1:oW 1:=⟨by decide,by decide⟩
 have t:∀{s:Qg},okG s→∀op d a b,okG (s.emit [q3 op d a b]):=fun h op d a b=>h.one l8
 have i1:∀{s:Qg},okG s→okG (s.emit [qi 19 1 1 1]):=fun h=>h.one w1
 have l2:(s.labs.length:Int)<s.lab.labs.length:=by rw [dO];omega
 unfold oD
 repeat' (refine okG.ite ?_ ?_)
 ·exact t h _ _ _ _
 ·exact t h _ _ _ _
 ·exact t h _ _ _ _
 ·exact t h _ _ _ _
 ·exact t h _ _ _ _
 ·exact t h _ _ _ _
 ·exact t h _ _ _ _
 ·exact t h _ _ _ _
 ·exact t h _ _ _ _
 ·exact t h _ _ _ _
 ·exact i1 (t h _ _ _ _)
 ·exact i1 (t h _ _ _ _)
 ·exact t (t h _ _ _ _) _ _ _ _
 ·exact i1 (t (t h _ _ _ _) _ _ _ _)
 ·exact(t (h.lab.jump 32 1 0 ⟨by omega,l2⟩) _ _ _ _).place _
 ·exact t ((t (t ((t h.lab _ _ _ _).jump 32 1 0 (l:=(s.labs.length:Int)) ⟨by omega,l2⟩) _ _ _ _) _ _ _ _).place _) _ _ _ _
 ·exact h
theorem okG.un{s:Qg}(h:okG s)(o:ByteArray):okG (D5 o s):=by
 unfold D5
 repeat' (refine okG.ite ?_ ?_)
 ·exact h.one l8
 ·exact(h.one (q:=qi 16 2 0 4294967295) ⟨by decide,by decide⟩).one l8
 ·exact(h.one (q:=qi 16 2 0 1) ⟨by decide,by decide⟩).one l8
 ·exact h
theorem okG.num{s:Qg}(h:okG s){n:Int}(hn:oW n):okG (qx n s):=by
 have h1:=hn.1;have h2:=hn.2;unfold qx;refine okG.ite (h.one hn) (h.emit fun q hq=> ?_);simp only [List.mem_cons,List.not_mem_nil,or_false]at hq;rcases hq with rfl|rfl
 ·show oW (n/1024);exact⟨by omega,by omega⟩
 ·show oW (n%1024);exact⟨by omega,by omega⟩
structure okL(o st:Om)(k:Nat):Prop where
 o:∀x,oW (bs o x)
 st:∀x,0≤bs st x∧bs st x<k
mutual
theorem IL{o st:Om}{k:Nat}(hk:okL o st k):∀(t:Tx)(s:Qg),GX t→k≤s.labs.length→okG s→okG (gX o st t s)
 | .mk kd n nm v kids,s,hg,hs,h=>by
  have h0:=yd hk kids s hg.2.2.2 hs h;have l0:=zO o st kids s;have h1:=D4 hk kids ((kP o st kids s).push 1) hg.2.2.2 (by show k≤(kP o st kids s).labs.length;omega) (h0.push 1);have h2:=D2 hk kids s hg.2.2.2 hs h;have l2:s.labs.length≤(sE o st kids s).labs.length:=(tZ (K:=fun _=>False) (S:=fun _=>0) (fun _ h=>h.elim) kids s).labs_le;have hst:=hk.st nm;have hkl:=hg.2.2.1;unfold gX;refine okG.ite (h.num hg.1) (okG.ite (h.one (q:=qi 23 1 13 (bs o nm)) (hk.o nm)) (okG.ite (h.one (q:=⟨48,0,0,0,2⟩) ⟨by decide,by decide⟩) (okG.ite ((h0.elem 1).one (q:=qi 23 1 1 8192) ⟨by decide,by decide⟩) (okG.ite (h0.un nm) (okG.ite ((h1.pop 2).op nm) (okG.ite ?_ h))))));have hj:=h2.jump 40 15 0 (l:=bs st nm) ⟨hst.1,by omega⟩;refine okG.ite (hj.one (q:=qi 16 14 14 (4*kids.length)) ?_) hj;show oW (4*(kids.length:Int));exact⟨by omega,by omega⟩
theorem yd{o st:Om}{k:Nat}(hk:okL o st k):∀(l:List Tx)(s:Qg),GXs l→k≤s.labs.length→okG s→okG (kP o st l s)
 | [],s,_,_,h=>h
 | t::_,s,hg,hs,h=>IL hk t s hg.1 hs h
theorem D4{o st:Om}{k:Nat}(hk:okL o st k):∀(l:List Tx)(s:Qg),GXs l→k≤s.labs.length→okG s→okG (LM o st l s)
 | [],s,_,_,h=>h
 | _::r,s,hg,hs,h=>yd hk r s hg.2 hs h
theorem D2{o st:Om}{k:Nat}(hk:okL o st k):∀(l:List Tx)(s:Qg),GXs l→k≤s.labs.length→okG s→okG (sE o st l s)
 | [],s,_,_,h=>h
 | t::r,s,hg,hs,h=>D2 hk r _ hg.2 (by have:=D3 o st t s;show k≤(gX o st t s).labs.length;omega) ((IL hk t s hg.1 hs h).push 1)
end
mutual
theorem Nd{o st:Om}{k:Nat}(hk:okL o st k){en:Int}(he:0≤en∧en<k):∀(t:Ty)(s:Qg),GY t→k≤s.labs.length→okG s→okG (gY o st en t s)
 | .mk kd nm ve es vb body vl els,s,hg,hs,h=>by
  have hs0:k≤((s.lab.place s.labs.length)).labs.length:=by rw [dB,dO];omega
  have hl0:s.labs.length<((s.lab.place s.labs.length)).labs.length:=by rw [dB,dO];omega
  have h0:=yd hk es _ hg.2.1.2 hs0 (h.lab.place s.labs.length);have l0:=zO o st es (s.lab.place s.labs.length);have h1:=D4 hk es ((kP o st es (s.lab.place s.labs.length)).push 1) hg.2.1.2 (by show k≤(kP o st es _).labs.length;omega) (h0.push 1);unfold gY;dsimp only;generalize kP o st es (s.lab.place s.labs.length)=s1 at h0 l0 h1;refine okG.ite (h0.one (q:=qi 25 1 13 (bs o nm)) (hk.o nm)) (okG.ite (((h1.pop 2).elem 2).one (q:=qi 25 1 2 8192) ⟨by decide,by decide⟩) (okG.ite (h0.one (q:=⟨48,0,0,0,1⟩) ⟨by decide,by decide⟩) (okG.ite (h0.jump 40 0 0 ⟨he.1,by omega⟩) (okG.ite ?_ (okG.ite ?_ h0)))))
  ·have e2:(s1.lab.lab).labs.length=s1.labs.length+2:=by rw [dO,dO]
   have h2:=qt hk he body _ hg.2.2.1.2 (by show k≤(s1.lab.lab).labs.length;omega) (h0.lab.lab.jump 32 1 0 (l:=(s1.labs.length:Int)) ⟨by omega,by omega⟩);have l2:=iP o st en body ((s1.lab.lab).jump 32 1 0 s1.labs.length);have l2':(s1.lab.lab).labs.length≤_:=l2;have h3:okG (if els.length>0 then(f_ o st en body ((s1.lab.lab).jump 32 1 0 s1.labs.length)).jump 40 0 0 ((s1.labs.length:Int)+1)else f_ o st en body ((s1.lab.lab).jump 32 1 0 s1.labs.length)):=okG.ite (h2.jump 40 0 0 ⟨by omega,by omega⟩) h2;have l3:k≤(if els.length>0 then(f_ o st en body ((s1.lab.lab).jump 32 1 0 s1.labs.length)).jump 40 0 0 ((s1.labs.length:Int)+1)else f_ o st en body ((s1.lab.lab).jump 32 1 0 s1.labs.length)).labs.length:=by
    split
    ·show k≤(f_ o st en body _).labs.length;omega
    ·omega
   exact(qt hk he els _ hg.2.2.2.2 (by rw [dB];exact l3) (h3.place _)).place _
  ·have e2:(s1.lab).labs.length=s1.labs.length+1:=dO s1;have h2:=qt hk he body _ hg.2.2.1.2 (by show k≤(s1.lab).labs.length;omega) (h0.lab.jump 32 1 0 (l:=(s1.labs.length:Int)) ⟨by omega,by omega⟩);have l2:=iP o st en body ((s1.lab).jump 32 1 0 s1.labs.length);have l2':(s1.lab).labs.length≤_:=l2;exact(h2.jump 40 0 0 (l:=(s.labs.length:Int)) ⟨by omega,by omega⟩).place _
theorem qt{o st:Om}{k:Nat}(hk:okL o st k){en:Int}(he:0≤en∧en<k):∀(l:List Ty)(s:Qg),GYs l→k≤s.labs.length→okG s→okG (f_ o st en l s)
 | [],s,_,_,h=>h
 | t::r,s,hg,hs,h=>qt hk he r _ hg.2 (by
   have:=(D1 (K:=fun _=>False) (S:=fun _=>0) (E:=0) t s (fun _ h=>h.elim) (fun _ h=>h.elim):Res (fun _=>False) s (gY o st en t s) _).labs_le;omega) (Nd hk he t s hg.1 hs h)
end
theorem fT(o:Om)(x y:ByteArray)(n:Int):bs (dV o x n) y=if x=y then n else bs o y:=by
 unfold bs dV;rw [List.find?_cons];by_cases h:x=y
 ·rw [if_pos h];simp only [decide_eq_true h]
 ·rw [if_neg h];simp only [decide_eq_false h]
  induction o with
  | nil=>rfl
  | cons p r ih=>
   rw [List.filter_cons];by_cases hp:p.1=x
   ·rw [if_neg (by simp [hp]),ih,List.find?_cons];simp only [decide_eq_false (show ¬p.1=y from fun e=>h (hp.symm.trans e))]
   ·rw [if_pos (by simp [hp]),List.find?_cons,List.find?_cons];by_cases hy:p.1=y
    ·simp only [decide_eq_true hy]
    ·simp only [decide_eq_false hy];exact ih
def nI:List Tf→ByteArray→Nat
 | [],_=>0
 | f::r,x=>if f.name=x then 0 else nI r x+1
theorem zQ:∀(fs:List Tf)(p:Om×Qg)(x:ByteArray),(fs.map Tf.name).Nodup→(x∈fs.map Tf.name→bs (np fs p).1 x=((p.2.labs.length+nI fs x:Nat):Int))∧(x∉fs.map Tf.name→bs (np fs p).1 x=bs p.1 x)
 | [],p,x,_=>⟨fun h=>by simp at h,fun _=>rfl⟩
 | f::r,p,x,h=>by
  rw [List.map_cons,List.nodup_cons]at h;unfold np;obtain⟨i1,i2⟩:=zQ r (dV p.1 f.name p.2.labs.length,p.2.lab) x h.2;have hl:(p.2.lab).labs.length=p.2.labs.length+1:=by
   show(p.2.labs++ [0]).length=_;rw [List.length_append,List.length_singleton]
  rw [hl]at i1;by_cases hx:x∈r.map Tf.name
  ·have hf:¬f.name=x:=fun e=>h.1 (by rw [e];exact hx)
   refine⟨fun _=> ?_,fun hn=>absurd (List.mem_cons_of_mem _ hx) hn⟩;rw [i1 hx,show nI (f::r) x=nI r x+1 from if_neg hf]
   congr 1
   omega
  ·rw [i2 hx];show(_→bs (dV p.1 f.name (p.2.labs.length:Int)) x=_)∧(_→bs (dV p.1 f.name (p.2.labs.length:Int)) x=_);rw [fT];by_cases hf:f.name=x
   ·rw [if_pos hf];refine⟨fun _=> ?_,fun hn=>absurd (by rw [List.map_cons,hf];exact List.mem_cons_self) hn⟩;unfold nI;rw [if_pos hf];rfl
   ·rw [if_neg hf];refine⟨fun hn=> ?_,fun _=>J⟩;rw [List.map_cons,List.mem_cons]at hn;exact absurd (hn.resolve_left fun e=>hf e.symm) hx
theorem v_:∀(fs:List Tf)(p:Om×Qg),(np fs p).2={p.2 with labs:=p.2.labs++List.replicate fs.length 0}
 | [],p=>by
  show p.2={p.2 with labs:=p.2.labs++ []};rw [List.append_nil]
 | f::r,p=>by
  unfold np;rw [v_ r];show Qg.mk _ _ ((p.2.labs++ [0])++List.replicate r.length 0)=_;rw [List.append_assoc];rfl
theorem tF:∀(fs:List Tf)(x:ByteArray),x∈fs.map Tf.name→nI fs x<fs.length
 | [],x,h=>by simp at h
 | f::r,x,h=>by
  unfold nI;split
  ·simp
  ·have:=tF r x ((List.mem_cons.1 h).resolve_left fun e=>by subst e;contradiction);simp only [List.length_cons];omega
theorem vq:∀(fs:List Tf)(x y:ByteArray),x∈fs.map Tf.name→y∈fs.map Tf.name→nI fs x=nI fs y→x=y
 | [],x,_,h,_,_=>by simp at h
 | f::r,x,y,hx,hy,he=>by
  unfold nI at he;by_cases h1:f.name=x
  ·by_cases h2:f.name=y
   ·rw [←h1,h2]
   ·rw [if_pos h1,if_neg h2]at he;omega
  ·by_cases h2:f.name=y
   ·rw [if_neg h1,if_pos h2]at he;omega
   ·rw [if_neg h1,if_neg h2]at he;exact vq r x y ((List.mem_cons.1 hx).resolve_left fun e=>h1 e.symm) ((List.mem_cons.1 hy).resolve_left fun e=>h2 e.symm) (by omega)
theorem mt(st:Om):∀(fs:List Tf)(p:Nat)(l:List Int)(k:Nat),(∀f∈fs,(bs st f.name).toNat≠k)→(dm st fs p l)[k]?=l[k]?
 | [],_,_,_,_=>rfl
 | f::r,p,l,k,h=>by
  unfold dm;rw [mt st r _ _ k fun g hg=>h g (by simp [hg]),List.getElem?_set_ne (h f (by simp))]
theorem pJ(st:Om):∀(fs:List Tf)(p:Nat)(l:List Int)(x:ByteArray),(fs.map Tf.name).Nodup→(∀a∈fs.map Tf.name,∀b∈fs.map Tf.name,(bs st a).toNat=(bs st b).toNat→a=b)→
  (∀a∈fs.map Tf.name,(bs st a).toNat<l.length)→x∈fs.map Tf.name→(dm st fs p l)[(bs st x).toNat]?=some (gq fs p x)
 | [],_,_,x,_,_,_,h=>by simp at h
 | f::r,p,l,x,hn,hi,hl,hx=>by
  rw [List.map_cons,List.nodup_cons]at hn;unfold dm gq;by_cases hf:f.name=x
  ·rw [if_pos hf,mt st r _ _ _ fun g hg e=>hn.1 (by
    have hm:g.name∈(f::r).map Tf.name:=List.mem_map_of_mem (by simp [hg]);have:=hi g.name hm x hx e;rw [hf,←this];exact List.mem_map_of_mem hg),hf,List.getElem?_set_self (hl x hx)]
  ·rw [if_neg hf];exact pJ st r _ _ x hn.2 (fun a ha b hb=>hi a (List.mem_cons_of_mem _ ha) b (List.mem_cons_of_mem _ hb)) (fun a ha=>by rw [List.length_set];exact hl a (List.mem_cons_of_mem _ ha)) ((List.mem_cons.1 hx).resolve_left fun e=>hf e.symm)
theorem wb(labs:List Int):∀(fs:List (Int×Int))(l:List Qi),mV labs fs l=qZ (fun i=>labs.getD i.toNat 0) 0 fs l
 | [],l=>rfl
 | f::r,l=>by
  unfold mV qZ;rw [Nat.sub_zero];exact wb labs r _
theorem yT:∀(fs:List Tf)(p:Nat)(x:ByteArray),x∉fs.map Tf.name→gq fs p x=3
 | [],_,_,_=>rfl
 | f::r,p,x,h=>by
  rw [List.map_cons,List.mem_cons]at h;unfold gq;rw [if_neg fun e=>h (Or.inl e.symm)];exact yT r _ x fun e=>h (Or.inr e)
theorem t7(fs:List Tf)(hn:(fs.map Tf.name).Nodup)(h0:fs≠ []):fk fs=iF fs:=by
 obtain⟨st,hst⟩:∃st,st=(np fs ([],⟨[],[],[]⟩)).1:=⟨_,J⟩
 have ho:∀x,x∉fs.map Tf.name→bs st x=0:=fun x hx=>by
  rw [hst,(zQ fs _ x hn).2 hx];rfl
 have hm:∀x∈fs.map Tf.name,(bs st x).toNat=nI fs x:=fun x hx=>by
  rw [hst,(zQ fs _ x hn).1 hx];show((0+nI fs x:Nat):Int).toNat=_;rw [Nat.zero_add,Int.toNat_natCast]
 obtain⟨s0,hs0⟩:∃s0,s0=(np fs ([],⟨[],[],[]⟩)).2:=⟨_,J⟩
 have e0:s0=⟨[],[],List.replicate fs.length 0⟩:=by
  rw [hs0,v_];rfl
 obtain⟨s1,hs1⟩:∃s1:Qg,s1=((s0.emit [qi 16 14 0 16384]).jump 40 15 0 (bs st cx)).emit [⟨48,0,0,0,0⟩]:=⟨_,J⟩
 have hA:yh fs=qy st fs s1:=by
  rw [hs1,hs0,hst];rfl
 have c1:s1.code.length=3:=by rw [hs1,e0];rfl
 have l1:s1.labs=List.replicate fs.length 0:=by rw [hs1,e0];rfl
 obtain⟨S,hS⟩:∃S,S=gq fs 3:=⟨_,J⟩
 have hlt:∀f∈fs,(bs st f.name).toNat<s1.labs.length:=fun f hf=>by
  have hx:f.name∈fs.map Tf.name:=List.mem_map_of_mem hf;rw [hm _ hx,l1,List.length_replicate];exact tF fs _ hx
 have g2:=zU (K:=fun L=>∀x,L (bs st x)=S x) (S:=S) (fun L h=>h) fs s1 hlt;rw [c1]at g2;have g1:Res (fun L=>∀x,L (bs st x)=S x) {s0 with labs:=dm st fs 3 s1.labs} {s1 with labs:=dm st fs 3 s1.labs} [qi 16 14 0 16384,qi 40 15 0 (wU (S cx-1)),⟨48,0,0,0,0⟩]:=by
  rw [hs1];refine(((Res.emit _ [_]).seq (Res.jump _ 40 15 0 (bs st cx) _ fun L hL=> ?_)).seq (Res.emit _ [_]));rw [hL cx];show wU (_-(((s0.code++ [_]).length:Nat):Int))=_;rw [e0];rfl
 obtain⟨raw,fx,ls,a1,a2,a3,a4,a5,a6⟩:=(g1.seq g2).ex;unfold fk;rw [hA,wb,a1,a3];have hc:s0.code= []:=by rw [e0]
 have hf:s0.fixes= []:=by rw [e0]
 show qZ _ 0 (s0.fixes++fx) (s0.code++raw)=iF fs;rw [hc,hf,List.nil_append,List.nil_append];have hcl:s0.code.length=0:=by rw [hc];rfl
 have hget:∀x∈fs.map Tf.name,(dm st fs 3 s1.labs)[(bs st x).toNat]?=some (gq fs 3 x):=fun x hx=>
  pJ st fs 3 s1.labs x hn (fun a ha b hb e=>vq fs a b ha hb (by rw [←hm a ha,←hm b hb];exact e)) (fun a ha=>by
   obtain⟨f,hf,rfl⟩:=List.mem_map.1 ha;exact hlt f hf) hx
 have a6':=a6 (fun i=>(qy st fs s1).labs.getD i.toNat 0) (fun x=> ?_) (fun i n hi=> ?_)
 ·rw [show({s0 with labs:=dm st fs 3 s1.labs}:Qg).code.length=0 from hcl]at a6';rw [a6',hS];rfl
 ·show(qy st fs s1).labs.getD (bs st x).toNat 0=S x;rw [a4,hS];show(dm st fs 3 s1.labs++ls).getD _ 0=_;have hlen:∀y∈fs.map Tf.name,(bs st y).toNat<(dm st fs 3 s1.labs).length:=fun y hy=>by
   rw [lE];obtain⟨f,hf,rfl⟩:=List.mem_map.1 hy;exact hlt f hf
  by_cases hx:x∈fs.map Tf.name
  ·rw [List.getD_eq_getElem?_getD,List.getElem?_append_left (hlen x hx),hget x hx];rfl
  ·rw [yT fs 3 x hx,ho x hx];cases fs with
   | nil=>exact absurd rfl h0
   | cons f r=>
    have hy:f.name∈(f::r).map Tf.name:=by simp
    have h3:=hget f.name hy;have h4:=hlen f.name hy;have h5:(bs st f.name).toNat=0:=by
     rw [hm _ hy];unfold nI;rw [if_pos J]
    rw [h5]at h3 h4;rw [List.getD_eq_getElem?_getD,show(0:Int).toNat=0 from J,List.getElem?_append_left h4,h3];unfold gq;rw [if_pos J];rfl
 ·show(qy st fs s1).labs.getD (((dm st fs 3 s1.labs).length+i:Nat):Int).toNat 0=n;rw [a4];show(dm st fs 3 s1.labs++ls).getD _ 0=_;rw [Int.toNat_natCast,List.getD_eq_getElem?_getD,List.getElem?_append_right (by omega),show(dm st fs 3 s1.labs).length+i-(dm st fs 3 s1.labs).length=i by omega,hi];rfl
theorem okL.up{o st:Om}{k k':Nat}(h:okL o st k)(hk:k≤k'):okL o st k':=⟨h.o,fun x=>by have:=h.st x;omega⟩
def okO(o:Om):Prop:=∀x,oW (bs o x)
theorem okO.put{o:Om}(h:okO o)(x:ByteArray){n:Int}(hn:oW n):okO (dV o x n):=fun y=>by
 rw [fT];split
 ·exact hn
 ·exact h y
theorem okO.nil:okO []:=fun _=>l8
theorem okO.gP{n:Int}(hn:n≤1000000):∀(l:List ByteArray)(k:Int)(o:Om),okO o→0≤k→k+l.length≤n→okO (gP n k l o)
 | [],k,o,h,_,_=>h
 | p::r,k,o,h,hk,hl=>by
  rw [List.length_cons]at hl;exact okO.gP hn r (k+1) _ (h.put p ⟨by omega,by omega⟩) (by omega) (by omega)
mutual
theorem okO.gD:∀(t:Ty)(p:Om×Int),okO p.1→okO (gD t p).1
 | .mk k nm ve es vb body vl els,p,h=>by
  rw [Eb];refine okO.gDs els _ (okO.gDs body _ ?_);show okO (if k=1 then _ else p).1;split
  ·exact h.put nm (qd _)
  ·exact h
theorem okO.gDs:∀(l:List Ty)(p:Om×Int),okO p.1→okO (gDs l p).1
 | [],p,h=>h
 | t::r,p,h=>okO.gDs r _ (okO.gD t p h)
end
theorem okO.offs{f:Tf}(hg:GF f):okO (cI f).1:=okO.gDs f.body _ (okO.gP (by have:=hg.2.2.1;omega) f.ps 0 [] okO.nil (Int.le_refl _) (by omega))
theorem okG.push0:∀(n:Nat){s:Qg},okG s→okG (c_ n s)
 | 0,s,h=>h
 | n+1,s,h=>by
  rw [gy];exact(okG.push0 n h).push 0
theorem Ng{st:Om}{f:Tf}{s:Qg}(hg:GF f)(hst:∀x,0≤bs st x∧bs st x<s.labs.length)(h:okG s):okG (gF st f s):=by
 have e2:(s.lab.lab).labs.length=s.labs.length+2:=by rw [dO,dO]
 have h1:=(((h.lab.lab.place (bs st f.name)).one (q:=qi 16 12 12 1) ⟨by decide,by decide⟩).one (q:=qi 16 2 0 12) ⟨by decide,by decide⟩).jump 35 2 12 (l:=(s.labs.length:Int)) ⟨by omega,by show(s.labs.length:Int)<((s.lab.lab).place (bs st f.name)).labs.length;rw [dB];omega⟩;have h2:=(h1.one (q:=⟨49,0,0,0,0⟩) l8).place s.labs.length;have h3:=((((h2.push 15).push 13).one (q:=q3 1 13 14 0) l8).push0 (cI f).2.toNat)
 have l3:(c_ (cI f).2.toNat ((((((((((s.lab.lab).place (bs st f.name)).emit [qi 16 12 12 1]).emit [qi 16 2 0 12]).jump 35 2 12 s.labs.length).emit [⟨49,0,0,0,0⟩]).place s.labs.length).push 15).push 13).emit [q3 1 13 14 0])).labs.length=s.labs.length+2:=by
  rw [jB];show(((((((s.lab.lab).place (bs st f.name)).emit [qi 16 12 12 1]).emit [qi 16 2 0 12]).jump 35 2 12 s.labs.length).emit [⟨49,0,0,0,0⟩]).place s.labs.length).labs.length=_;rw [dB];show((s.lab.lab).place (bs st f.name)).labs.length=_;rw [dB,e2]
 have h4:=qt (o:=(cI f).1) (st:=st) (k:=s.labs.length+2) ⟨okO.offs hg,fun x=>by have:=hst x;omega⟩ (en:=(s.labs.length:Int)+1) ⟨by omega,by omega⟩ f.body _ hg.2.2.2.2.1 (by rw [l3];exact Nat.le_refl _) h3;exact(((((((h4.one (q:=q3 1 1 0 0) l8).place _).one (q:=q3 1 14 13 0) l8).pop 13).pop 15).one (q:=qi 16 12 12 4294967295) ⟨by decide,by decide⟩).one (q:=qi 27 0 15 0) l8)
theorem Ea(st:Om)(f:Tf)(s:Qg):s.labs.length≤(gF st f s).labs.length:=by
 have h1:=iP (cI f).1 st ((s.labs.length:Int)+1) f.body (c_ (cI f).2.toNat ((((((((((s.lab.lab).place (bs st f.name)).emit [qi 16 12 12 1]).emit [qi 16 2 0 12]).jump 35 2 12 s.labs.length).emit [⟨49,0,0,0,0⟩]).place s.labs.length).push 15).push 13).emit [q3 1 13 14 0]));rw [jB]at h1;have h2:s.labs.length+2≤(f_ (cI f).1 st ((s.labs.length:Int)+1) f.body (c_ (cI f).2.toNat ((((((((((s.lab.lab).place (bs st f.name)).emit [qi 16 12 12 1]).emit [qi 16 2 0 12]).jump 35 2 12 s.labs.length).emit [⟨49,0,0,0,0⟩]).place s.labs.length).push 15).push 13).emit [q3 1 13 14 0]))).labs.length:=by
  refine Nat.le_trans ?_ h1;show _≤(((((((s.lab.lab).place (bs st f.name)).emit [qi 16 12 12 1]).emit [qi 16 2 0 12]).jump 35 2 12 s.labs.length).emit [⟨49,0,0,0,0⟩]).place s.labs.length).labs.length;rw [dB];show _≤((s.lab.lab).place (bs st f.name)).labs.length;rw [dB,dO,dO];exact Nat.le_refl _
 show _≤(((f_ (cI f).1 st ((s.labs.length:Int)+1) f.body _).emit [q3 1 1 0 0]).place ((s.labs.length:Int)+1)).labs.length;rw [dB];exact Nat.le_trans (Nat.le_add_right _ 2) h2
theorem D_{st:Om}:∀(l:List Tf)(s:Qg),(∀f∈l,GF f)→(∀x,0≤bs st x∧bs st x<s.labs.length)→okG s→okG (qy st l s)
 | [],s,_,_,h=>h
 | f::r,s,hg,hst,h=>D_ r _ (fun g hm=>hg g (by simp [hm])) (fun x=>by have:=hst x;have:=Ea st f s;omega) (Ng (hg f (by simp)) hst h)
theorem D6{fs:List Tf}(hn:(fs.map Tf.name).Nodup)(h0:fs≠ [])(x:ByteArray):0≤bs (np fs ([],⟨[],[],[]⟩)).1 x∧bs (np fs ([],⟨[],[],[]⟩)).1 x<fs.length:=by
 have hl:0<fs.length:=by cases fs with|nil=>exact absurd J h0|cons _ _=>simp
 obtain⟨h1,h2⟩:=zQ fs ([],⟨[],[],[]⟩) x hn;by_cases hx:x∈fs.map Tf.name
 ·have:=tF fs x hx;rw [h1 hx];simp only [List.length_nil];omega
 ·rw [h2 hx];show(0:Int)≤0∧(0:Int)<_;omega
theorem G8{fs:List Tf}(hg:GP fs)(hn:(fs.map Tf.name).Nodup)(h0:fs≠ []):okG (yh fs):=by
 have hb:=D6 hn h0;have hs:=v_ fs ([],⟨[],[],[]⟩);have hl:(np fs ([],⟨[],[],[]⟩)).2.labs.length=fs.length:=by
  rw [hs];simp
 have ok0:okG (np fs ([],⟨[],[],[]⟩)).2:=by
  rw [hs];exact⟨fun p hp=>by simp at hp,fun q hq=>by simp at hq⟩
 have h1:=((ok0.one (q:=qi 16 14 0 16384) ⟨by decide,by decide⟩).jump 40 15 0 (l:=bs (np fs ([],⟨[],[],[]⟩)).1 cx) ⟨(hb cx).1,by show _<((np fs ([],⟨[],[],[]⟩)).2.labs.length:Int);rw [hl];exact(hb cx).2⟩).one (q:=⟨48,0,0,0,0⟩) l8;exact D_ fs _ hg.2 (fun x=>by
  show _∧_<((np fs ([],⟨[],[],[]⟩)).2.labs.length:Int);rw [hl];exact hb x) h1
theorem sa:∀(l:List Qi)(k:Nat)(n:Int),oW n→(∀q∈l,oW q.imm)→∀q∈gd l k n,oW q.imm
 | [],_,_,_,h=>h
 | i::l,0,n,hn,h=>fun q hq=>by
  rcases List.mem_cons.1 hq with rfl|hq
  ·exact hn
  ·exact h q (by simp [hq])
 | i::l,k+1,n,hn,h=>fun q hq=>by
  rcases List.mem_cons.1 hq with rfl|hq
  ·exact h q (by simp)
  ·exact sa l k n hn (fun q hq=>h q (by simp [hq])) q hq
theorem t6(labs:List Int):∀(fs:List (Int×Int))(l:List Qi),(∀q∈l,oW q.imm)→(∀q∈mV labs fs l,oW q.imm)∧(mV labs fs l).length=l.length
 | [],l,h=>⟨h,rfl⟩
 | p::r,l,h=>by
  obtain⟨h1,h2⟩:=t6 labs r (gd l p.1.toNat (wU (labs.getD p.2.toNat 0-p.1))) (sa l _ _ (qd _) h);exact⟨h1,h2.trans (ie l _ _)⟩
theorem sF(labs:List Int):∀{fs:List (Int×Int)}{i:Nat}{f:Int×Int}(l:List Qi),fs[i]?=some f→mV labs (fs.take (i+1)) l=gd (mV labs (fs.take i) l) f.1.toNat (wU (labs.getD f.2.toNat 0-f.1))
 | [],i,f,l,h=>by simp at h
 | p::r,0,f,l,h=>by cases h;rfl
 | p::r,i+1,f,l,h=>sF labs (fs:=r) _ h
theorem pM:∀(l:List Qi)(k:Nat)(n:Int)(q:Qi),l[k]?=some q→gd l k n=l.set k {q with imm:=n}
 | [],k,n,q,h=>by simp at h
 | i::l,0,n,q,h=>by cases h;rfl
 | i::l,k+1,n,q,h=>congrArg (i:: ·) (pM l k n q h)
def dl(l:List Qi):List Int:=l.flatMap fun q=>ep (rV q)
theorem eK:∀l:List Qi,(dl l).length=4*l.length
 | []=>rfl
 | q::r=>by
  show(ep (rV q)++dl r).length=_;rw [List.length_append,eK r,List.length_cons,show(ep (rV q)).length=4 from J];omega
theorem zn(n:Int):∀x∈ep n,0≤x∧x<256:=fun x hx=>by
 simp only [ep,List.mem_cons,List.not_mem_nil,or_false]at hx;rcases hx with rfl|rfl|rfl|rfl<;>omega
theorem qP(l:List Qi):∀x∈dl l,0≤x∧x<256:=fun x hx=>by
 obtain⟨q,_,hq⟩:=List.mem_flatMap.1 hx;exact zn _ x hq
theorem jJ:∀l:List Int,(∀x∈l,0≤x∧x<256)→bc (jY l)=l:=by
 have h0:∀(l:List Int)(r:ByteArray),(l.foldl (fun r n=>r.push (UInt8.ofNat n.toNat)) r).data.toList=r.data.toList++l.map fun n=>UInt8.ofNat n.toNat:=by
  intro l
  induction l with
  | nil=>intro r;simp
  | cons n l ih=>intro r;rw [List.foldl_cons,ih];simp [ByteArray.push]
 intro l hl;unfold bc jY;rw [h0];simp only [List.map_append,List.map_map];show(ByteArray.empty.data.toList).map _++_=l;rw [show ByteArray.empty.data.toList= []from J,List.map_nil,List.nil_append];refine(List.map_congr_left (g:=id) fun n hn=> ?_).trans (List.map_id l);have:=hl n hn;show(((UInt8.ofNat n.toNat).toNat:Nat):Int)=n;rw [UInt8.toNat_ofNat'];omega
theorem yD{l:List Qi}{i:Nat}{q:Qi}(h:l[i]?=some q):dl (l.take (i+1))=dl (l.take i)++bc (jY (ep (rV q))):=by
 rw [bM h,jJ _ (zn _)];unfold dl;rw [List.flatMap_append];simp
theorem Jp(x:Int):IntKind.u32.wrap (IntKind.i64.wrap x)=wU x:=by
 unfold wU;simp only [IntKind.wrap_u32,IntKind.wrap_i64];omega
theorem vW(e:Ga)(s:Qg)(hs:okG s)(hz:s.sz≤240000)(hne:s.code≠ []):
  Spec Tryz.prog 55 [.pointer (some ⟨e.g,0,none⟩)] [gA e s] [] (X:=Unit) (fun _=>True) (fun _=> .string (jY (dl (mV s.labs s.fixes s.code)))) (fun _=> []) (fun _=> []):=by
 refine aF Tryz.func55 J Tryz.ntmps55 J fun w0 M H=> ?_
 unfold Qg.sz at hz;refine tw 0 [0,21,22,23] J (by decide) J fun vc vf vl=>ae (aa (aj (ag J) J (ai (ae (ae (aa (aj (ac J) J (aj (aq J) J (aj (ah ph J) J (aj (ak FJ J J (ap (k:=0) J J)) J (aj (aO Tryz.underlying107 J (bj (k:=22) J)) J (aj (ac J) J ?_))))))))))))
 refine ai (aB (bk (X:=Nat) (fun i=>i≤s.fixes.length) (fun i=> [(0,.pointer (some ⟨e.g,0,none⟩)),(2,.string ⟨#[]⟩),(13,sv vf),(14,.int .i64 (s.fixes.length:Int)),(15,.int .i64 (i:Int))]) (fun i=> [(0,aY e.g 111 (gR e.vp vc vf vl e.ms e.mo e.mp e.en)),(21,own 118 5 gC (sv vc) (mV s.labs (s.fixes.take i) s.code)),(22,own 171 2 uD (sv vf) s.fixes),(23,own 3 1 eI (sv vl) s.labs)]) (fun i=> []) (fun i=>s.fixes.length-i) 0 (Nat.zero_le _) J J J (fun i n1=>ae (aa (aj (am J J b_) J (ai (ae (ar J (fun h1=> ?_) (fun h1=> ?_)))))))))
 ·(try simp only [aV]at h1)
  have hi:i<s.fixes.length:=by omega
  obtain⟨f,hf⟩:∃f,s.fixes[i]?=some f:=⟨_,List.getElem?_eq_getElem hi⟩
  have hfx:=hs.fx f (List.mem_of_getElem? hf);have hfl:(mV s.labs (s.fixes.take i) s.code).length=s.code.length:=(t6 s.labs (s.fixes.take i) s.code hs.im).2;obtain⟨q,hq⟩:∃q,(mV s.labs (s.fixes.take i) s.code)[f.1.toNat]?=some q:=⟨_,List.getElem?_eq_getElem (by rw [hfl];omega)⟩
  obtain⟨lb,hlb⟩:∃lb,s.labs[f.2.toNat]?=some lb:=⟨_,List.getElem?_eq_getElem (by omega)⟩
  have hgd:s.labs.getD f.2.toNat 0=lb:=by rw [List.getD_eq_getElem?_getD,hlb];rfl
  refine az (ae (aB (ae (aa (aj (aN (j:=i) Tryz.underlying107 xh J J (bj (k:=22) J) (by first|rfl|omega) (by first|omega|(simp;done)|(simp;omega))) J (aj (aJ xh J J J (bv (bj (k:=22) J) (by intro _;rfl) hf (by rfl))) J (aT xh J J fun b4=>av (k:=4) xh J J J J J J (ai ?_))))))));refine bA [19,20,21,22,23,24,25,26,27,28,29,30,31,32,33,34,35,36,37,38] _ J (bB (V:= [(0,19,_),(1,20,_),(2,21,_),(3,22,_),(4,23,_),(5,24,_),(6,25,_),(7,26,_),(8,27,_),(9,28,_),(10,29,_),(11,30,_),(12,31,_),(13,32,_),(14,33,_),(15,34,_),(16,35,_),(17,36,_),(18,37,_),(19,38,_)]) [0,1,2,3,4,5,6,7,8,9,10,11,12,13,14,15,16,17,18,19] 20 [20,19,18,17,16,15,14,13,12,11,10,9,8,7,6,5,4,3,2,1,0] [] (fun _=> []) J J (ad (aD J (ac J)) (ad (aD J (aq J)) (ad (aD J (ah kX J)) (ad (aD J (ak A2 J J (ap (k:=0) J J))) (ad (aD J (ah Am J)) (ad (aD J (ak t3 J J (ap (k:=4) J J))) (ad (aD J (ac J)) (ad (aD J (aq J)) (ad (aD J (ah m8 J)) (ad (aD J (ak FH J J (ap (k:=0) J J))) (ad (aD J (ah Hm J)) (ad (aD J (ak t3 J J (ap (k:=4) J J))) (ad (aD J (aN (j:=f.2.toNat) Tryz.underlying22 t3 J J (bj (k:=23) J) (by omega) (by omega))) (ad (aD J (ak t3 J J (bv (bj (k:=23) J) (by intro _;rfl) hlb (by rfl)))) (ad (aD J (ah Am J)) (ad (aD J (ak t3 J J (ap (k:=4) J J))) (ad (aD J (am J J (fQ J))) (ad (aD J (bP Tryz.underlying3 Tryz.underlying41 J (Jp _))) (ad (aD J (aN (j:=f.1.toNat) Tryz.underlying106 ed J J (bj (k:=21) J) (by omega) (by rw [hfl];omega))) (ad (aD J (dj da J)) ay)))))))))))))))))))) J J J J J J J J J (fun _ _=>J) J (mJ (k:=21) (o:=4) (e':={q with imm:=wU (lb-f.1)}) cr J J J J J J (by intro _;rfl) hq (by show _+1≤_;decide) J) (fun _ _=>be [] J J ay J J J ?_));refine aa (aj (am J J (aX (by first|exact aU (by omega) (by omega)|rfl))) J (aj (ac J) J (ai ?_)));refine aL (i+1) ⟨by omega,by omega⟩ J (by rw [sF s.labs s.code hf,pM _ _ _ q hq,hgd];rfl) J
 ·(try simp only [aV]at h1)
  have hi:i=s.fixes.length:=by omega
  subst hi;refine bn (ae ?_);rw [List.take_length];obtain⟨C,hC⟩:∃C,C=mV s.labs s.fixes s.code:=⟨_,J⟩
  rw [←hC];have hCo:=t6 s.labs s.fixes s.code hs.im;rw [←hC]at hCo;have hCl:=hCo.2;refine aa (aT FI J J fun b5=>ai (ae (ae (aa (aj (ac J) J (aj (aq J) J (aj (ah kX J) J (aj (ak A2 J J (ap (k:=0) J J)) J (aj (aO Tryz.underlying106 J (bj (k:=21) J)) J (aj (ac J) J (ai (aB ?_))))))))))));refine cA 31 (α:=Int) (S:=5) (s:=1) (enc:=bQ) (bk (X:=Nat×Option Addr×SV) (fun x=>x.1≤C.length∧(x.2.1=none∨x.2.1=some ⟨b5,0,none⟩)) (fun x=> [(0,.pointer (some ⟨e.g,0,none⟩)),(2,.string ⟨#[]⟩),(5,.pointer (some ⟨b5,0,none⟩)),(43,sv vc),(44,.int .i64 (C.length:Int)),(45,.int .i64 (x.1:Int))]) (fun x=> [(0,aY e.g 111 (gR e.vp vc vf vl e.ms e.mo e.mp e.en)),(21,own 118 5 gC (sv vc) C),(5,aY b5 177 [.pointer x.2.1,sv x.2.2]),(31,own 5 1 bQ (sv x.2.2) (dl (C.take x.1)))]) (fun x=> []) (fun x=>C.length-x.1) (0,none,bw) ⟨Nat.zero_le _,.inl J⟩ J J J (fun x hx0=>ae (aa (aj (am J J b_) J (ai (ae (ar J (fun h2=> ?_) (fun h2=> ?_))))))))
  ·(try simp only [aV]at h2)
   have hi:x.1<C.length:=by omega
   obtain⟨q,hq⟩:∃q,C[x.1]?=some q:=⟨_,List.getElem?_eq_getElem hi⟩
   have hqi:=hCo.1 q (List.mem_of_getElem? hq);have hcl:=eK (C.take x.1);have htl:=List.length_take (i:=x.1) (l:=C);have hps:(jY (ep (rV q))).size=4:=by rw [fU];rfl
   refine az (ae (aB (ae (aa (aj (aN (j:=x.1) Tryz.underlying106 ed J J (bj (k:=21) J) (by first|rfl|omega) (by first|omega|(simp;done)|(simp;omega))) J (aj (aJ ed J J J (bv (bj (k:=21) J) (by intro _;rfl) hq (by rfl))) J (aT ed J J fun b7=>av (k:=7) ed J J J J J J (ai (ae (aa (aj (aJ ed J J J (aR (k:=7) J)) J (au (xs:= [.tmp 50]) (wl q hqi) QS [] [] [] J J J J J J J J (fun _ _=>J) (fun _ _ _=>J) J (fun _ _=> ?_)))))))))))));refine aj (ac J) J (aj (bV J J) J (aj (bV J J) J (aj (ag J) J (aj (ag J) J (ai (aa (aj (ac J) J (au (xs:= [.tmp 54,.const (.int .i64 4)]) (C5 (rV q) (KV q)) OB [] [] [] J J J J J J J J (fun _ _=>J) (fun _ _ _=>J) J (fun _ _=>au (xs:= [.tmp 5,.tmp 55]) (AU b5 x.2.1 hx0.2 x.2.2 (dl (C.take x.1)) (jY (ep (rV q))) (by omega)) QR [5,31] [] [5,31] J J J J J J J J (fun _ _=>J) (fun _ _ _=>J) J (fun v56 _=>ai (aa (aj (am J J (aX (by first|exact aU (by omega) (by omega)|rfl))) J (aj (ac J) J ?_)))))))))))));refine ai ?_;refine aL (x.1+1,some ⟨b5,0,none⟩,v56) ⟨⟨by dsimp only;omega,.inr rfl⟩,by dsimp only;omega⟩ J (by dsimp only;rw [yD hq];rfl) J
  ·(try simp only [aV]at h2)
   have hi:x.1=C.length:=by omega
   rw [hi,List.take_length];refine bn (ae (aa (au (xs:= [.tmp 5]) (BU b5 x.2.1 x.2.2 (dl C) (by intro h;have:=eK C;rw [h]at this;simp at this;exact hne (List.length_eq_zero_iff.1 (by omega))) (qP C)) OA [5,31] [] [5] J J J J J J J J (fun _ _=>J) (fun _ _ _=>J) J (fun _ _=>aj (ag J) J (ai (aw (aG () trivial J (bx (aH J)) (by rw [hC]) [] [] J J J)))))))
def sR(pc:Int)(r:Int→Int)(st:Int):List Value:= .int .u32 pc::((List.range 16).map (fun k=>Value.int .u32 (r ((k:Nat):Int)))++ [.int .u32 0,.int .u32 0,.int .u32 0,.int .u32 0,.int .u32 0,.int .i64 st,.int .i64 0])
def oq(pc:Int)(r:Int→Int)(st:Int)(m:Nat):List Value:=sR pc r st++ [.pointer (some ⟨m,0,none⟩)]
def oO:Int→Int:=fun _=>0
theorem Bq(n:Nat)(hn:n≤4096):
  Spec Tryz.prog 74 [.int .i64 (n:Int),.bool false] [] [] (X:=Me) (fun _=>True) (fun e=> .pointer (some ⟨e.m,0,none⟩)) (fun e=> [aY e.m 157 (mR e),own 5 1 bQ (sv e.vd) ((⟨List.replicate (256*n) 0,List.replicate (256*n) 0,List.replicate n 0⟩:Mm)).d,own 5 1 bQ (sv e.vi) ((⟨List.replicate (256*n) 0,List.replicate (256*n) 0,List.replicate n 0⟩:Mm)).i,own 3 1 eI (sv e.vr) ((⟨List.replicate (256*n) 0,List.replicate (256*n) 0,List.replicate n 0⟩:Mm)).r]) (fun _=> []):=by
 refine aF Tryz.func74 J Tryz.ntmps74 J fun w0 M H=>ae (aa (aj (ag J) J (ai (ae (aa (aj (ac J) J (aj (vA (c:=(n:Int)) J J (by omega)) J (aj (qa (c:=(n:Int)) J J (by omega)) J (aj (ag J) J (ai (bi (X:=Nat×SV×SV×SV) (fun _=>True) (fun x=> [(1,.bool false),(5,.int .i64 (n:Int)),(6,.pointer (some ⟨x.1,0,none⟩))]) (fun x=> [(20,aY x.1 157 [sv x.2.1,.slice none 0 0,sv x.2.2.1,.slice none 0 0,sv x.2.2.2,.bool false]),(12,own 5 1 bQ (sv x.2.1) (List.replicate (256*n) 0)),(17,own 3 1 eI (sv x.2.2.2) (List.replicate n 0))]) (fun x=> []) ?_ (fun x _=> ?_))))))))))))
 ·refine bA [10,11,12,13,14,15,16,17,18,19,20,6] _ J (fS (V:= [(0,10,_),(1,11,_),(3,13,_),(4,14,_),(6,16,_),(8,18,_)]) [0,1,3,4,6,8] J J (ad (aD J (ac J)) (ad (aD J (am J J (de (c:=((256*n:Nat):Int)) (by rw [aU (by omega) (by omega)];omega)))) (ad (aD J (ac J)) (ad (aD J (am J J (de (c:=((256*n:Nat):Int)) (by rw [aU (by omega) (by omega)];omega)))) (ad (aD J (ac J)) (ad (aD J (ac J)) ay)))))) J [2,5,7] J J (dx (eu 2 [2,1,0] [] (fun v12=> []) J J J J J J J J J (fun _ _=>J) J (dt bQ 0 Tryz.underlying84 t5 J J J J (c:=256*n) J J (by omega) (by simp only [maxLen];omega)) (fun v12 _=>fS [3,4,6,8] J J (ad (aD J (ac J)) (ad (aD J (am J J (de (c:=((256*n:Nat):Int)) (by rw [aU (by omega) (by omega)];omega)))) (ad (aD J (ac J)) (ad (aD J (ac J)) ay)))) J [5,7] J J (dx (eu 5 [5,4,3,2,1,0] [] (fun v15=> []) J J J J J J J J J (fun _ _=>J) J (dt bQ 0 Tryz.underlying84 t5 J J J J (c:=256*n) J J (by omega) (by simp only [maxLen];omega)) (fun v15 _=>aZ [6,8] 7 [7,6,5,4,3,2,1,0] [9] (fun v17=> [(9,19,_)]) J J (ad (aD J (ac J)) (ad (aD J (ac J)) ay)) J J J J J J J J J J J (fun _ _=>J) J (dt eI 0 Tryz.underlying22 t3 J J J J (c:=n) J J (by omega) (by simp only [maxLen];omega)) (fun v17 _=>aZ [9,8] 10 [10,9,8,7,6,5,4,3,2,1,0] [11] (fun b20=> [(11,6,_)]) J J (ad (aD J (aP (parts:= [(0,.tmp 12),(2,.tmp 15),(4,.tmp 17),(5,.tmp 18)]) A0 sc J J)) (ad (aD J (ac J)) ay)) J J J J J J J J J J J (fun _ _=>J) J (nK J (by rfl)) (fun b20 _=>be [11] J J (ad (aD J (ag J)) ay) J J J ?_)))) (dx (eu 7 [7,6,2,1,0] [] (fun v17=> []) J J J J J J J J J (fun _ _=>J) J (dt eI 0 Tryz.underlying22 t3 J J J J (c:=n) J J (by omega) (by simp only [maxLen];omega)) (fun v17 _=>aZ [3,4,8] 5 [7,6,5,4,3,2,1,0] [9] (fun v15=> [(9,19,_)]) J J (ad (aD J (ac J)) (ad (aD J (am J J (de (c:=((256*n:Nat):Int)) (by rw [aU (by omega) (by omega)];omega)))) (ad (aD J (ac J)) ay))) J J J J J J J J J J J (fun _ _=>J) J (dt bQ 0 Tryz.underlying84 t5 J J J J (c:=256*n) J J (by omega) (by simp only [maxLen];omega)) (fun v15 _=>aZ [9,8] 10 [10,9,8,7,6,5,4,3,2,1,0] [11] (fun b20=> [(11,6,_)]) J J (ad (aD J (aP (parts:= [(0,.tmp 12),(2,.tmp 15),(4,.tmp 17),(5,.tmp 18)]) A0 sc J J)) (ad (aD J (ac J)) ay)) J J J J J J J J J J J (fun _ _=>J) J (nK J (by rfl)) (fun b20 _=>be [11] J J (ad (aD J (ag J)) ay) J J J ?_)))) ju)))) (dx (eu 5 [5,4,3] [] (fun v15=> []) J J J J J J J J J (fun _ _=>J) J (dt bQ 0 Tryz.underlying84 t5 J J J J (c:=256*n) J J (by omega) (by simp only [maxLen];omega)) (fun v15 _=>fS [0,1,6,8] J J (ad (aD J (ac J)) (ad (aD J (am J J (de (c:=((256*n:Nat):Int)) (by rw [aU (by omega) (by omega)];omega)))) (ad (aD J (ac J)) (ad (aD J (ac J)) ay)))) J [2,7] J J (dx (eu 2 [5,4,3,2,1,0] [] (fun v12=> []) J J J J J J J J J (fun _ _=>J) J (dt bQ 0 Tryz.underlying84 t5 J J J J (c:=256*n) J J (by omega) (by simp only [maxLen];omega)) (fun v12 _=>aZ [6,8] 7 [7,6,5,4,3,2,1,0] [9] (fun v17=> [(9,19,_)]) J J (ad (aD J (ac J)) (ad (aD J (ac J)) ay)) J J J J J J J J J J J (fun _ _=>J) J (dt eI 0 Tryz.underlying22 t3 J J J J (c:=n) J J (by omega) (by simp only [maxLen];omega)) (fun v17 _=>aZ [9,8] 10 [10,9,8,7,6,5,4,3,2,1,0] [11] (fun b20=> [(11,6,_)]) J J (ad (aD J (aP (parts:= [(0,.tmp 12),(2,.tmp 15),(4,.tmp 17),(5,.tmp 18)]) A0 sc J J)) (ad (aD J (ac J)) ay)) J J J J J J J J J J J (fun _ _=>J) J (nK J (by rfl)) (fun b20 _=>be [11] J J (ad (aD J (ag J)) ay) J J J ?_)))) (dx (eu 7 [7,6,5,4,3] [] (fun v17=> []) J J J J J J J J J (fun _ _=>J) J (dt eI 0 Tryz.underlying22 t3 J J J J (c:=n) J J (by omega) (by simp only [maxLen];omega)) (fun v17 _=>aZ [0,1,8] 2 [7,6,5,4,3,2,1,0] [9] (fun v12=> [(9,19,_)]) J J (ad (aD J (ac J)) (ad (aD J (am J J (de (c:=((256*n:Nat):Int)) (by rw [aU (by omega) (by omega)];omega)))) (ad (aD J (ac J)) ay))) J J J J J J J J J J J (fun _ _=>J) J (dt bQ 0 Tryz.underlying84 t5 J J J J (c:=256*n) J J (by omega) (by simp only [maxLen];omega)) (fun v12 _=>aZ [9,8] 10 [10,9,8,7,6,5,4,3,2,1,0] [11] (fun b20=> [(11,6,_)]) J J (ad (aD J (aP (parts:= [(0,.tmp 12),(2,.tmp 15),(4,.tmp 17),(5,.tmp 18)]) A0 sc J J)) (ad (aD J (ac J)) ay)) J J J J J J J J J J J (fun _ _=>J) J (nK J (by rfl)) (fun b20 _=>be [11] J J (ad (aD J (ag J)) ay) J J J ?_)))) ju)))) (dx (eu 7 [7,6] [] (fun v17=> []) J J J J J J J J J (fun _ _=>J) J (dt eI 0 Tryz.underlying22 t3 J J J J (c:=n) J J (by omega) (by simp only [maxLen];omega)) (fun v17 _=>fS [0,1,3,4,8] J J (ad (aD J (ac J)) (ad (aD J (am J J (de (c:=((256*n:Nat):Int)) (by rw [aU (by omega) (by omega)];omega)))) (ad (aD J (ac J)) (ad (aD J (am J J (de (c:=((256*n:Nat):Int)) (by rw [aU (by omega) (by omega)];omega)))) (ad (aD J (ac J)) ay))))) J [2,5] J J (dx (eu 2 [7,6,2,1,0] [] (fun v12=> []) J J J J J J J J J (fun _ _=>J) J (dt bQ 0 Tryz.underlying84 t5 J J J J (c:=256*n) J J (by omega) (by simp only [maxLen];omega)) (fun v12 _=>aZ [3,4,8] 5 [7,6,5,4,3,2,1,0] [9] (fun v15=> [(9,19,_)]) J J (ad (aD J (ac J)) (ad (aD J (am J J (de (c:=((256*n:Nat):Int)) (by rw [aU (by omega) (by omega)];omega)))) (ad (aD J (ac J)) ay))) J J J J J J J J J J J (fun _ _=>J) J (dt bQ 0 Tryz.underlying84 t5 J J J J (c:=256*n) J J (by omega) (by simp only [maxLen];omega)) (fun v15 _=>aZ [9,8] 10 [10,9,8,7,6,5,4,3,2,1,0] [11] (fun b20=> [(11,6,_)]) J J (ad (aD J (aP (parts:= [(0,.tmp 12),(2,.tmp 15),(4,.tmp 17),(5,.tmp 18)]) A0 sc J J)) (ad (aD J (ac J)) ay)) J J J J J J J J J J J (fun _ _=>J) J (nK J (by rfl)) (fun b20 _=>be [11] J J (ad (aD J (ag J)) ay) J J J ?_)))) (dx (eu 5 [7,6,5,4,3] [] (fun v15=> []) J J J J J J J J J (fun _ _=>J) J (dt bQ 0 Tryz.underlying84 t5 J J J J (c:=256*n) J J (by omega) (by simp only [maxLen];omega)) (fun v15 _=>aZ [0,1,8] 2 [7,6,5,4,3,2,1,0] [9] (fun v12=> [(9,19,_)]) J J (ad (aD J (ac J)) (ad (aD J (am J J (de (c:=((256*n:Nat):Int)) (by rw [aU (by omega) (by omega)];omega)))) (ad (aD J (ac J)) ay))) J J J J J J J J J J J (fun _ _=>J) J (dt bQ 0 Tryz.underlying84 t5 J J J J (c:=256*n) J J (by omega) (by simp only [maxLen];omega)) (fun v12 _=>aZ [9,8] 10 [10,9,8,7,6,5,4,3,2,1,0] [11] (fun b20=> [(11,6,_)]) J J (ad (aD J (aP (parts:= [(0,.tmp 12),(2,.tmp 15),(4,.tmp 17),(5,.tmp 18)]) A0 sc J J)) (ad (aD J (ac J)) ay)) J J J J J J J J J J J (fun _ _=>J) J (nK J (by rfl)) (fun b20 _=>be [11] J J (ad (aD J (ag J)) ay) J J J ?_)))) ju)))) ju))))
  ·refine aL (b20,v12,v15,v17) trivial J J J
  ·refine aL (b20,v12,v15,v17) trivial J J J
  ·refine aL (b20,v12,v15,v17) trivial J J J
  ·refine aL (b20,v12,v15,v17) trivial J J J
  ·refine aL (b20,v12,v15,v17) trivial J J J
  ·refine aL (b20,v12,v15,v17) trivial J J J
 ·refine ae (ae (aa (aj (ac J) J (aj (bZ J) J (ai (ar J (fun h1=> ?_) (fun h1=> ?_)))))))
  ·refine ae (aa (aj (ac J) J (aj (ac J) J (aj (am J J (de (c:=((256*n:Nat):Int)) (by rw [aU (by omega) (by omega)];omega))) J (tz bQ 0 Tryz.underlying84 t5 J J J J (c:=256*n) J J (by omega) (by simp only [maxLen];omega) J fun v26=>aj (aq J) J (aj (ah pg J) J (aI (k:=20) xf J J J J J J J J (ai (aa (aj (ac J) J (aj (ac J) J (aj (am J J (de (c:=((256*n:Nat):Int)) (by rw [aU (by omega) (by omega)];omega))) J ?_))))))))))));refine tz bQ 0 Tryz.underlying84 t5 J J J J (c:=256*n) J J (by omega) (by simp only [maxLen];omega) J fun v32=>aj (aq J) J (aj (ah Hn J) J (aI (k:=20) xf J J J J J J J J (ai (ae (aa (aj (ac J) J (aj (ag J) J (ai (aw (aG ⟨x.1,x.2.1,v26,x.2.2.1,v32,x.2.2.2⟩ trivial J (bx (aH J)) J [20,12,26,17] [] J J J))))))))))
  ·exact absurd h1 (by simp)
theorem Bg(n:Nat)(hn:n≤4096):
  Spec Tryz.prog 34 [.int .i64 (n:Int)] [] [] (X:=Nat×Me) (fun _=>True) (fun x=> .pointer (some ⟨x.1,0,none⟩)) (fun x=> [aY x.1 93 (oq 0 oO 0 x.2.m),aY x.2.m 157 (mR x.2),own 5 1 bQ (sv x.2.vd) ((⟨List.replicate (256*n) 0,List.replicate (256*n) 0,List.replicate n 0⟩:Mm)).d,own 5 1 bQ (sv x.2.vi) ((⟨List.replicate (256*n) 0,List.replicate (256*n) 0,List.replicate n 0⟩:Mm)).i,own 3 1 eI (sv x.2.vr) ((⟨List.replicate (256*n) 0,List.replicate (256*n) 0,List.replicate n 0⟩:Mm)).r]) (fun _=> []):=by
 refine aF Tryz.func34 J Tryz.ntmps34 J fun w0 M H=>ae (aa (aj (ag J) J (ai (ae (aa (aj (ac J) J (au (xs:= [.tmp 3,.const (.bool Bool.false)]) (Bq n hn) QZ [] [] [10,11,12,13] J J J J J J J J (fun _ _=>J) (fun _ _ _=>J) J (fun e _=>aj (aP (cs:=(oq 0 oO 0 e.m).toArray) (parts:= [(1,.tmp 4)]) Sc PZ J (by kernel_rfl)) J (bN J J fun b6=>aj (ag J) J (ai (aw ?_)))))))))))
 refine aG (b6,e) trivial J (bx (aH J)) J [6,10,11,12,13] [] J J J
theorem Bc(c m:Nat):
  Spec Tryz.prog 77 [.pointer (some ⟨c,0,none⟩),.agg (sR 256 oO 0).toArray] [aY c 93 (oq 0 oO 0 m)] [] (X:=Unit) (fun _=>True) (fun _=> .tuple #[]) (fun _=> [aY c 93 (oq 256 oO 0 m)]) (fun _=> []):=by
 refine aF Tryz.func77 J Tryz.ntmps77 J fun w0 M H=>ae (aa (bN J J fun b3=>ai (ae (aa (aj (ah fM J) J (aj (cG (j:=0) Tryz.underlying75 cr J J (by rfl) (by decide)) J (aI (k:=3) cr J J J J J J J J (ai (ae (aa (aj (ah KN J) J ?_)))))))))))
 refine aI (k:=3) cr J J J J J J J J (ai (ae (aa (aj (ah gJ J) J (aj (ak t3 J J (ap (k:=3) J J)) J (aj (qa J J J) J (aj (ah gJ J) J (aI (k:=3) t3 J J J J J J J J (ai (ae (aa (aj (ah t_ J) J (aj (ak t3 J J (ap (k:=3) J J)) J ?_)))))))))))));refine aj (qa J J J) J (aj (ah t_ J) J (aI (k:=3) t3 J J J J J J J J (ai (aa (aj (ac J) J (aj (aJ wO J J J (aR (k:=3) J)) J (aj (aq J) J (aj (ah dy J) J (aI (k:=0) wO J J J J J J J J (ai (bO () trivial J eW J [0] [] J J J)))))))))))
@[irreducible] def zer:List Int:=List.replicate 256 0
theorem pn:zer=List.replicate 256 0:=by unfold zer;rfl
theorem yR:zer.length=256:=by rw [pn];exact List.length_replicate ..
theorem B3:zer.take 256=zer:=List.take_of_length_le (by rw [yR];omega)
def uA(p:Nat):Int:=if p≥32 then 3 else if p>0 then 5 else 0
def fZ(s:Mm):Nat→Mm
 | 0=>s
 | p+1=>⟨pk (fZ s p).d (256*p) zer,pk (fZ s p).i (256*p) zer,(fZ s p).r.set p (uA p)⟩
def rN(s:Mm):Nat→Mm
 | 0=>s
 | p+1=>{rN s p with i:=pk (rN s p).i ((p+1)*256) (((rN s p).d.drop ((p+1)*256)).take 256)}
def LK(s:Mm)(code:List Int):Mm:=rN {fZ s 64 with d:=pk (fZ s 64).d 256 code} 31
theorem xy(p:Nat):0≤uA p∧uA p<8∧bits .and .i64 (uA p) 7=uA p:=by
 unfold uA;split
 ·decide
 ·split<;>decide
theorem JE{l:List Int}{k:Nat}{x:Int}(h:∀y∈l,0≤y∧y<8)(hx:0≤x∧x<8):∀y∈l.set k x,0≤y∧y<8:=fun y hy=>by
 rcases List.mem_or_eq_of_mem_set hy with hy|hy
 ·exact h y hy
 ·exact hy▸hx
theorem kw{s:Mm}{n:Nat}(h:MO s n):∀p,MO (fZ s p) n
 | 0=>h
 | p+1=>by
  have ih:=kw h p;exact⟨(eq _ _ _).trans ih.d,(eq _ _ _).trans ih.i,(List.length_set ..).trans ih.r,ih.n,JE ih.rb ⟨(xy p).1,(xy p).2.1⟩⟩
theorem zI(s:Mm):∀p,(rN s p).d=s.d
 | 0=>rfl
 | p+1=>zI s p
theorem xX{s:Mm}{n:Nat}(h:MO s n):∀p,MO (rN s p) n
 | 0=>h
 | p+1=>by
  have ih:=xX h p;exact ih.ii (eq _ _ _)
theorem OK:bc (jY zer)=zer:=jJ _ fun x hx=>by rw [pn]at hx;rw [List.eq_of_mem_replicate hx];decide
theorem qb:(jY zer).size=256:=by rw [fU,yR]
theorem xu(c:Nat)(e:Me)(s:Mm)(n:Nat)(hs:MO s n)(hn:64≤n)(code:ByteArray)(hc:code.size≤7936):
  Spec Tryz.prog 39 [.pointer (some ⟨c,0,none⟩),.string code] [aY e.m 157 (mR e),own 5 1 bQ (sv e.vd) (s).d,own 5 1 bQ (sv e.vi) (s).i,own 3 1 eI (sv e.vr) (s).r,aY c 93 (oq 0 oO 0 e.m)] [] (X:=Unit) (fun _=>True) (fun _=> .tuple #[]) (fun _=> [aY e.m 157 (mR e),own 5 1 bQ (sv e.vd) (LK s (bc code)).d,own 5 1 bQ (sv e.vi) (LK s (bc code)).i,own 3 1 eI (sv e.vr) (LK s (bc code)).r,aY c 93 (oq 256 oO 0 e.m)]) (fun _=> []):=by
 refine aF Tryz.func39 J Tryz.ntmps39 J fun w0 M H=> ?_
 have hdl:=hs.d;have hnn:=hs.n;have hcl:=gk code;refine ae (aa (tz bQ 0 Tryz.underlying84 t5 J J J J (c:=256) J J (by omega) (by simp only [maxLen];omega) J fun v8=>aj (Dc Tryz.underlying84 Tryz.underlying5 Tryz.underlying9 J (bj (k:=8) J) (by decide)) J ?_));rw [←pn];refine aj (ag J) J (ai (ae (ae (aa (aj (ag J) J (ai (aB (bk (X:=Nat) (fun p=>p≤64) (fun p=> [(0,.pointer (some ⟨c,0,none⟩)),(1,.string code),(4,.string (jY zer)),(5,.int .i64 (p:Int))]) (fun p=> [(0,aY e.m 157 (mR e)),(1,own 5 1 bQ (sv e.vd) (fZ s p).d),(2,own 5 1 bQ (sv e.vi) (fZ s p).i),(3,own 3 1 eI (sv e.vr) (fZ s p).r),(4,aY c 93 (oq 0 oO 0 e.m))]) (fun p=> []) (fun p=>64-p) 0 (Nat.zero_le _) J J J (fun p n1=>ae (ae (aa (aj (ac J) J (aj (am J J b_) J ?_)))))))))))));refine ai (ar J (fun h1=> ?_) (fun h1=> ?_))
 ·(try simp only [aV]at h1)
  have hi:p<64:=by omega
  refine az (ae (aB (ae (aa (aj (ac J) J (aj (aq J) J (aj (ah e8 J) J (aj (ak uO J J (ap (k:=4) J J)) J (aj (ac J) J (aj (am J J (de (c:=((256*p:Nat):Int)) (by rw [aU (by omega) (by omega)];omega))) J (aj (bP Tryz.underlying3 Tryz.underlying41 J (c:=((256*p:Nat):Int)) (bC (by omega) (by omega))) J (aj (ac J) J (au (xs:= [.tmp 17,.tmp 20,.tmp 21]) (pW e (fZ s p) n (kw hs p) (256*p) (jY zer) (by rw [qb];omega) (by rw [qb];omega)) NE [0,1,2,3] [] [0,1,2,3] J J J J J J J J (fun _ _=>J) (fun _ _ _=>J) J (fun _ _=> ?_))))))))))))));rw [OK];refine ai (ae (aa (aj (ac J) J (aj (aq J) J (aj (ah e8 J) J (aj (ak uO J J (ap (k:=4) J J)) J (aj (ac J) J (aj (ac J) J (au (xs:= [.tmp 26,.tmp 27,.tmp 28]) (rA e {fZ s p with d:=pk (fZ s p).d (256*p) zer} n ((kw hs p).dd (eq _ _ _)) p (by omega) (jY zer) (by rw [qb];omega)) Rb [0,1,2,3] [] [0,1,2,3] J J J J J J J J (fun _ _=>J) (fun _ _ _=>J) J (fun _ _=> ?_))))))))));rw [OK,B3];refine ai (ae (aa (aj (ag J) J (ai (bi (X:=Unit) (fun _=>True) (fun _=> [(0,.pointer (some ⟨c,0,none⟩)),(1,.string code),(4,.string (jY zer)),(5,.int .i64 (p:Int)),(6,.int .i64 (if p>0 then 5 else 0))]) (fun _=> [(0,aY e.m 157 (mR e)),(1,own 5 1 bQ (sv e.vd) ({fZ s p with d:=pk (fZ s p).d (256*p) zer,i:=pk (fZ s p).i (256*p) zer}).d),(2,own 5 1 bQ (sv e.vi) ({fZ s p with d:=pk (fZ s p).d (256*p) zer,i:=pk (fZ s p).i (256*p) zer}).i),(3,own 3 1 eI (sv e.vr) ({fZ s p with d:=pk (fZ s p).d (256*p) zer,i:=pk (fZ s p).i (256*p) zer}).r),(4,aY c 93 (oq 0 oO 0 e.m))]) (fun _=> []) ?_ (fun _ _=> ?_))))))
  ·refine ae (aa (aj (ac J) J (aj (am J J dL) J (ai (ar J (fun h2=> ?_) (fun h2=> ?_))))))
   ·(try simp only [aV]at h2)
    refine aa (aj (ag J) J (ai ?_));refine aL () trivial (by rw [if_pos (show p>0 by omega)];rfl) J J
   ·(try simp only [aV]at h2)
    refine az ?_;refine aL () trivial (by rw [if_neg (show ¬p>0 by omega)];rfl) J J
  ·refine bi (X:=Unit) (fun _=>True) (fun _=> [(0,.pointer (some ⟨c,0,none⟩)),(1,.string code),(4,.string (jY zer)),(5,.int .i64 (p:Int)),(6,.int .i64 (uA p))]) (fun _=> [(0,aY e.m 157 (mR e)),(1,own 5 1 bQ (sv e.vd) ({fZ s p with d:=pk (fZ s p).d (256*p) zer,i:=pk (fZ s p).i (256*p) zer}).d),(2,own 5 1 bQ (sv e.vi) ({fZ s p with d:=pk (fZ s p).d (256*p) zer,i:=pk (fZ s p).i (256*p) zer}).i),(3,own 3 1 eI (sv e.vr) ({fZ s p with d:=pk (fZ s p).d (256*p) zer,i:=pk (fZ s p).i (256*p) zer}).r),(4,aY c 93 (oq 0 oO 0 e.m))]) (fun _=> []) ?_ (fun _ _=> ?_)
   ·refine ae (aa (aj (ac J) J (aj (am J J eV) J (ai (ar J (fun h3=> ?_) (fun h3=> ?_))))))
    ·(try simp only [aV]at h3)
     refine aa (aj (ag J) J (ai ?_));refine aL () trivial (by unfold uA;rw [if_pos (show p≥32 by omega)];rfl) J J
    ·(try simp only [aV]at h3)
     refine az ?_;refine aL () trivial (by unfold uA;rw [if_neg (show ¬p≥32 by omega)];rfl) J J
   ·refine aa (aj (ac J) J (aj (aq J) J (aj (ah e8 J) J (aj (ak uO J J (ap (k:=4) J J)) J (aj (ac J) J (aj (ac J) J (au (xs:= [.tmp 37,.tmp 38,.tmp 39]) (rB e {fZ s p with d:=pk (fZ s p).d (256*p) zer,i:=pk (fZ s p).i (256*p) zer} n (((kw hs p).dd (eq _ _ _)).ii (eq _ _ _)) p (by omega) (uA p) (uA p) (xy p).2.2) Ra [0,1,2,3] [] [0,1,2,3] J J J J J J J J (fun _ _=>J) (fun _ _ _=>J) J (fun _ _=>ai (aa (aj (ac J) J (aj (am J J (aX (by first|exact aU (by omega) (by omega)|rfl))) J (aj (ag J) J (ai ?_)))))))))))));refine aL (p+1) ⟨by omega,by omega⟩ J J J
 ·(try simp only [aV]at h1)
  have hi:p=64:=by omega
  subst hi;refine bn (ae (aa (aj (ac J) J (aj (aq J) J (aj (ah e8 J) J (aj (ak uO J J (ap (k:=4) J J)) J (aj (ac J) J (au (xs:= [.tmp 44,.const (.int .u32 256),.tmp 45]) (pW e (fZ s 64) n (kw hs 64) 256 code (by omega) (by omega)) NE [0,1,2,3] [] [0,1,2,3] J J J J J J J J (fun _ _=>J) (fun _ _ _=>J) J (fun _ _=>ai (ae (ae (aa (aj (ag J) J ?_)))))))))))));refine ai (aB (bk (X:=Nat) (fun p=>p≤31) (fun p=> [(0,.pointer (some ⟨c,0,none⟩)),(7,.int .i64 ((p+1:Nat):Int))]) (fun p=> [(0,aY e.m 157 (mR e)),(1,own 5 1 bQ (sv e.vd) (rN {fZ s 64 with d:=pk (fZ s 64).d 256 (bc code)} p).d),(2,own 5 1 bQ (sv e.vi) (rN {fZ s 64 with d:=pk (fZ s 64).d 256 (bc code)} p).i),(3,own 3 1 eI (sv e.vr) (rN {fZ s 64 with d:=pk (fZ s 64).d 256 (bc code)} p).r),(4,aY c 93 (oq 0 oO 0 e.m))]) (fun p=> []) (fun p=>31-p) 0 (Nat.zero_le _) J J J (fun p n2=>ae (ae (aa (aj (ac J) J (aj (am J J b_) J (ai (ar J (fun h4=> ?_) (fun h4=> ?_))))))))))
  ·(try simp only [aV]at h4)
   have hi:p<31:=by omega
   refine az (ae (aB (aa (aj (ac J) J (aj (aq J) J (aj (ah e8 J) J (aj (ak uO J J (ap (k:=4) J J)) J (aj (ac J) J (aj (am J J (de (c:=(((p+1)*256:Nat):Int)) (by rw [aU (by omega) (by omega)];omega))) J (aj (bP Tryz.underlying3 Tryz.underlying41 J (c:=(((p+1)*256:Nat):Int)) (bC (by omega) (by omega))) J (au (xs:= [.tmp 54,.tmp 57]) (xr e (rN {fZ s 64 with d:=pk (fZ s 64).d 256 (bc code)} p) n (xX ((kw hs 64).dd (eq _ _ _)) p) (((p+1)*256:Nat):Int) (by rw [zI];have h1:=eq (bc code) (fZ s 64).d 256;have h2:=(kw hs 64).d;dsimp only;omega)) QY [0,1,2,3] [] [0,1,2,3] J J J J J J J J (fun _ _=>J) (fun _ _ _=>J) J (fun _ _=> ?_))))))))))));rw [show((((p+1)*256:Nat):Int)).toNat/256*256=(p+1)*256 by omega];refine ai (aa (aj (ac J) J (aj (am J J (aX (by first|exact aU (by omega) (by omega)|rfl))) J (aj (ag J) J (ai ?_)))));refine aL (p+1) ⟨by omega,by omega⟩ J J J
  ·(try simp only [aV]at h4)
   have hi:p=31:=by omega
   subst hi;refine bn (aa (aj (ac J) J (aj (aP (cs:=(sR 256 oO 0).toArray) (parts:= [(0,.const (.int .u32 256))]) wO P0 J (by kernel_rfl)) J (au (xs:= [.tmp 59,.tmp 60]) (Bc c e.m) QX [4] [] [4] J J J J J J J J (fun _ _=>J) (fun _ _ _=>J) J (fun _ _=>ai (bO () trivial J eW J [0,1,2,3,4] [] J J J))))))
structure Qs where
 pc:Nat
 r:Int→Int
 m:Int→Int
 inp:List Int
 out:List Int
def rp(r:Int→Int)(d v:Int):Int→Int:=fun k=>if k=d∧d≠0 then v else r k
def mw(m:Int→Int)(a v:Int):Int→Int:=fun k=>if k=a then v else m k
def sd(x:Int):Nat:=if 256≤x∧x%4=0 then((x-256)/4).toNat else 5000
def gO(p:Nat):Int:=256+4*(p:Int)
def zB(a:Int):Prop:=8192≤a∧a<16384∧a%4=0
instance(a:Int):Decidable (zB a):=by unfold zB;exact inferInstance
def wJ(op a b:Int):Option Int:=
 if op=1∨op=16 then some (wU (a+b))else if op=2 then some (wU (a-b))else if op=3∨op=17 then some (bits .and .u32 a b)else
 if op=4∨op=18 then some (bits .or .u32 a b)else if op=5∨op=19 then some (bits .xor .u32 a b)else
 if op=6∨op=20 then some (wU (a*2^(b%32).toNat))else if op=7 then some (a/2^(b%32).toNat)else
 if op=9 then some (wU (a*b))else if op=10 then(if b=0 then none else some (a/b))else if op=11 then some (tr (decide (a<b)))else none
def uz(i:Qi)(c:Qs):Option Qs:=
 match wJ i.op (c.r i.a) (if i.op<16 then c.r i.b else i.imm)with
 | some v=>some {c with pc:=c.pc+1,r:=rp c.r i.d v}
 | none=>
  if i.op=23 then(if zB (wU (c.r i.a+i.imm))then some {c with pc:=c.pc+1,r:=rp c.r i.d (c.m (wU (c.r i.a+i.imm)))}else none)else
  if i.op=25 then(if zB (wU (c.r i.a+i.imm))then some {c with pc:=c.pc+1,m:=mw c.m (wU (c.r i.a+i.imm)) (c.r i.d)}else none)else
  if i.op=27 then some {c with pc:=sd (wU (c.r i.a+i.imm)),r:=rp c.r i.d (gO (c.pc+1))}else
  if i.op=32 then some {c with pc:=if c.r i.d=c.r i.a then sd (wU (gO c.pc+4*i.imm))else c.pc+1}else
  if i.op=35 then some {c with pc:=if c.r i.d≥c.r i.a then sd (wU (gO c.pc+4*i.imm))else c.pc+1}else
  if i.op=40 then some {c with pc:=sd (wU (gO c.pc+4*i.imm)),r:=rp c.r i.d (gO (c.pc+1))}else
  if i.op=41 then some {c with pc:=c.pc+1,r:=rp c.r i.d (wU (i.imm*1024))}else
  if i.op=48∧i.imm=1 then some {c with pc:=c.pc+1,out:=c.out++ [c.r 1]}else
  if i.op=48∧i.imm=2 then some {c with pc:=c.pc+1,r:=rp c.r 1 (c.inp.headD 0),inp:=c.inp.tail}else none
def rn(code:List Qi):Nat→Qs→Qs→Prop
 | 0,c,c'=>c=c'
 | n+1,c,c'=>∃i c1,code[c.pc]?=some i∧uz i c=some c1∧rn code n c1 c'
theorem rn.trans{code:List Qi}:∀{n m:Nat}{a b c:Qs},rn code n a b→rn code m b c→rn code (n+m) a c
 | 0,m,a,b,c,h,h2=>by
  have:a=b:=h;subst this;rw [Nat.zero_add];exact h2
 | n+1,m,a,b,c,h,h2=>by
  obtain⟨i,c1,g1,g2,g3⟩:=h;rw [Nat.succ_add];exact⟨i,c1,g1,g2,g3.trans h2⟩
theorem rn.one{code:List Qi}{c c1:Qs}{i:Qi}(h:code[c.pc]?=some i)(h2:uz i c=some c1):rn code 1 c c1:=⟨i,c1,h,h2,rfl⟩
def cAt(code:List Qi)(p:Nat)(l:List Qi):Prop:=∀j i,l[j]?=some i→code[p+j]?=some i
theorem cAt.app{code:List Qi}{p:Nat}{a b:List Qi}(h:cAt code p (a++b)):cAt code p a∧cAt code (p+a.length) b:=by
 refine⟨fun j i hj=>h j i ?_,fun j i hj=> ?_⟩
 ·rw [List.getElem?_append_left (by obtain⟨h,-⟩:=List.getElem?_eq_some_iff.1 hj;exact h)];exact hj
 ·have:=h (a.length+j) i (by rw [List.getElem?_append_right (by omega),show a.length+j-a.length=j by omega];exact hj);rw [Nat.add_assoc];exact this
theorem cAt.head{code:List Qi}{p:Nat}{i:Qi}{l:List Qi}(h:cAt code p (i::l)):code[p]?=some i∧cAt code (p+1) l:=
 ⟨h 0 i rfl,fun j x hj=>by
  have:=h (j+1) x hj;rw [show p+1+j=p+(j+1) by omega];exact this⟩
theorem cAt.of{a b l:List Qi}:cAt (a++l++b) a.length l:=fun j i hj=>by
 rw [List.append_assoc,List.getElem?_append_right (by omega),show a.length+j-a.length=j by omega,List.getElem?_append_left (by obtain⟨h,-⟩:=List.getElem?_eq_some_iff.1 hj;exact h)];exact hj
def Go(code:List Qi)(n:Int)(c:Qs)(P:Qs→Prop):Prop:=∃(k:Nat)(c':Qs),(k:Int)≤n∧rn code k c c'∧P c'
theorem Go.done{code:List Qi}{n:Int}{c:Qs}{P:Qs→Prop}(hn:0≤n)(h:P c):Go code n c P:=⟨0,c,hn,rfl,h⟩
theorem Go.seq{code:List Qi}{n m k:Int}{c:Qs}{P Q:Qs→Prop}(h:Go code n c P)(h2:∀c',P c'→Go code m c' Q)(hk:n+m≤k):Go code k c Q:=by
 obtain⟨a,c1,h3,h4,h5⟩:=h;obtain⟨b,c2,h6,h7,h8⟩:=h2 c1 h5;exact⟨a+b,c2,by omega,h4.trans h7,h8⟩
theorem Go.weak{code:List Qi}{n m:Int}{c:Qs}{P Q:Qs→Prop}(h:Go code n c P)(h2:∀c',P c'→Q c')(hk:n≤m):Go code m c Q:=by
 obtain⟨a,c1,h3,h4,h5⟩:=h;exact⟨a,c1,by omega,h4,h2 c1 h5⟩
theorem Go.step{code:List Qi}{n:Int}{c c1:Qs}{i:Qi}{P:Qs→Prop}(h:code[c.pc]?=some i)(h2:uz i c=some c1)(h3:Go code (n-1) c1 P):Go code n c P:=by
 obtain⟨k,c2,h4,h5,h6⟩:=h3;exact⟨k+1,c2,by omega,⟨i,c1,h,h2,h5⟩,h6⟩
/-! The instructions that the compiler uses. -/
section
variable{code:List Qi}{n:Int}{c:Qs}{P:Qs→Prop}{d a b x:Int}
theorem ft{n:Int}(h:0≤n∧n<4294967296):wU n=n:=bC h.1 h.2
theorem DS{i:Qi}{v:Int}(h:code[c.pc]?=some i)(h2:wJ i.op (c.r i.a) (if i.op<16 then c.r i.b else i.imm)=some v)(h3:Go code (n-1) {c with pc:=c.pc+1,r:=rp c.r i.d v} P):Go code n c P:=
 Go.step h (by unfold uz;rw [h2]) h3
theorem x9(h:code[c.pc]?=some (qi 23 d a x))(h2:zB (wU (c.r a+x)))(h3:Go code (n-1) {c with pc:=c.pc+1,r:=rp c.r d (c.m (wU (c.r a+x)))} P):Go code n c P:=
 Go.step (i:=qi 23 d a x) (c1:={c with pc:=c.pc+1,r:=rp c.r d (c.m (wU (c.r a+x)))}) h (by
  have e:uz (qi 23 d a x) c=(if zB (wU (c.r a+x))then some {c with pc:=c.pc+1,r:=rp c.r d (c.m (wU (c.r a+x)))}else none):=J;rw [e,if_pos h2]) h3
theorem x8(h:code[c.pc]?=some (qi 25 d a x))(h2:zB (wU (c.r a+x)))(h3:Go code (n-1) {c with pc:=c.pc+1,m:=mw c.m (wU (c.r a+x)) (c.r d)} P):Go code n c P:=
 Go.step (i:=qi 25 d a x) (c1:={c with pc:=c.pc+1,m:=mw c.m (wU (c.r a+x)) (c.r d)}) h (by
  have e:uz (qi 25 d a x) c=(if zB (wU (c.r a+x))then some {c with pc:=c.pc+1,m:=mw c.m (wU (c.r a+x)) (c.r d)}else none):=J;rw [e,if_pos h2]) h3
theorem GV(h:code[c.pc]?=some (qi 27 d a x))(h3:Go code (n-1) {c with pc:=sd (wU (c.r a+x)),r:=rp c.r d (gO (c.pc+1))} P):Go code n c P:=
 Go.step h rfl h3
theorem tV(h:code[c.pc]?=some (qi 32 d a x))(h3:Go code (n-1) {c with pc:=if c.r d=c.r a then sd (wU (gO c.pc+4*x))else c.pc+1} P):Go code n c P:=
 Go.step h rfl h3
theorem GW(h:code[c.pc]?=some (qi 35 d a x))(h3:Go code (n-1) {c with pc:=if c.r d≥c.r a then sd (wU (gO c.pc+4*x))else c.pc+1} P):Go code n c P:=
 Go.step h rfl h3
theorem qp(h:code[c.pc]?=some (qi 40 d a x))(h3:Go code (n-1) {c with pc:=sd (wU (gO c.pc+4*x)),r:=rp c.r d (gO (c.pc+1))} P):Go code n c P:=
 Go.step h rfl h3
theorem KB(h:code[c.pc]?=some (qi 41 d a x))(h3:Go code (n-1) {c with pc:=c.pc+1,r:=rp c.r d (wU (x*1024))} P):Go code n c P:=
 Go.step h rfl h3
theorem KA(h:code[c.pc]?=some ⟨48,0,0,0,1⟩)(h3:Go code (n-1) {c with pc:=c.pc+1,out:=c.out++ [c.r 1]} P):Go code n c P:=
 Go.step h rfl h3
theorem M9(h:code[c.pc]?=some ⟨48,0,0,0,2⟩)(h3:Go code (n-1) {c with pc:=c.pc+1,r:=rp c.r 1 (c.inp.headD 0),inp:=c.inp.tail} P):Go code n c P:=
 Go.step h rfl h3
end
theorem lA{p q:Nat}{x:Int}(hx:x=wU ((q:Int)-(p:Int)))(hq:q<10000)(hp:p<10000):sd (wU (gO p+4*x))=q:=by
 have e:wU (gO p+4*x)=256+4*(q:Int):=by
  rw [hx];unfold gO;have h1:∀n:Int,wU n=n%4294967296:=fun n=>J
  rw [h1,h1];omega
 unfold sd;rw [e,if_pos (by omega)];omega
theorem Gg{p:Nat}(hp:p<10000):sd (wU (gO p+0))=p:=by
 rw [Int.add_zero];unfold gO;rw [ft (by omega)];unfold sd;rw [if_pos (by omega)];omega
end Go.Proofs.YtedmdgbmdplifaaGreat
