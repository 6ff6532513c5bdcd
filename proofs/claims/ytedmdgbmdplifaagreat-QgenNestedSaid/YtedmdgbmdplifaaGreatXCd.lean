/-
  Part of the proof: the texts ED, EE, EF, N4, N5, N6, G4, G5, N7, N8, N9, NA, NB, NC, G7, G6, G8, M2, shortened. Conditions are with the theorems.
-/
import Derived.Test.YtedmdgbmdplifaaGreatXCa
import Derived.Test.YtedmdgbmdplifaaGreatXCb
import Derived.Test.YtedmdgbmdplifaaGreatXCc
set_option maxHeartbeats 32000000
set_option maxRecDepth 100000
namespace Go.Proofs.YtedmdgbmdplifaaGreat
set_option linter.unusedSimpArgs false
set_option linter.unusedVariables false
open Go.RowKit Tryz
structure Me where
 m:Nat
 vd:SV
 vi:SV
 vo:SV
 vp:SV
 vr:SV
structure Mm where
 d:List Int
 i:List Int
 r:List Int
def mR(e:Me):List Value:= [sv e.vd,sv e.vi,sv e.vo,sv e.vp,sv e.vr,.bool false]
structure MO(s:Mm)(n:Nat):Prop where
 d:s.d.length=n*256
 i:s.i.length=n*256
 r:s.r.length=n
 n:n≤5000
 rb:∀x∈s.r,0≤x∧x<8
def wD(s:Mm)(a r:Int):Bool:=decide (a<s.d.length)&&decide (s.r.getD (a/256).toNat 0/r%2=1)
def pk:List Int→Nat→List Int→List Int
 | d,_,[]=>d
 | d,a,x::l=>pk (d.set a x) (a+1) l
theorem eE:∀(l:List Int)(d:List Int)(a:Nat),(pk d a l).length=d.length
 | [],d,a=>rfl
 | x::l,d,a=>by unfold pk;rw [eE l,List.length_set]
theorem kM:∀(l:List Int)(d:List Int)(a:Nat)(x:Int),pk d a (l++ [x])=(pk d a l).set (a+l.length) x
 | [],d,a,x=>rfl
 | y::l,d,a,x=>by
  show pk (d.set a y) (a+1) (l++ [x])=(pk (d.set a y) (a+1) l).set (a+(l.length+1)) x;rw [kM l,show a+1+l.length=a+(l.length+1) by omega]
theorem nD:∀(l:List Int)(d:List Int)(a k:Nat),(pk d a l)[k]?=if a≤k∧k<a+l.length∧k<d.length then l[k-a]? else d[k]?
 | [],d,a,k=>by
  rw [if_neg (by simp only [List.length_nil];omega)];rfl
 | x::l,d,a,k=>by
  show(pk (d.set a x) (a+1) l)[k]?=_;rw [nD l,List.length_set,List.length_cons];by_cases h:a+1≤k∧k<a+1+l.length∧k<d.length
  ·rw [if_pos h,if_pos (by omega),show k-a=(k-(a+1))+1 by omega];rfl
  ·rw [if_neg h,List.getElem?_set];by_cases h2:a=k
   ·subst h2;rw [if_pos J];by_cases h3:a<d.length
    ·rw [if_pos h3,if_pos (by omega),Nat.sub_self];rfl
    ·rw [if_neg h3,if_neg (by omega),List.getElem?_eq_none (by omega)]
   ·rw [if_neg h2,if_neg (by omega)]
def Dn(d:List Int)(a:Nat):Nat→Int
 | 0=>0
 | m+1=>Dn d a m*256+d.getD (a+(3-m)) 0
def zo(d:List Int)(a:Nat):Int:=Dn d a 4
def byL(d:List Int):Prop:=∀x∈d,0≤x∧x<256
theorem byL.get{d:List Int}(h:byL d)(k:Nat):0≤d.getD k 0∧d.getD k 0<256:=by
 rw [List.getD_eq_getElem?_getD];cases hk:d[k]? with
 | none=>decide
 | some x=>exact h x (List.mem_of_getElem? hk)
theorem xF{d:List Int}(h:byL d)(a:Nat):∀m,0≤Dn d a m∧Dn d a m<256^m
 | 0=>⟨Int.le_refl _,by show(0:Int)<1;decide⟩
 | m+1=>by
  have h1:=xF h a m;have h2:=h.get (a+(3-m));show 0≤Dn d a m*256+_∧Dn d a m*256+_<256^(m+1);rw [Int.pow_succ];omega
theorem JW{d:List Int}(h:byL d)(a:Nat){m:Nat}(hm:m≤3):0≤Dn d a m∧Dn d a m<16777216:=by
 have h1:=xF h a m;have h2:(256:Int)^m≤16777216:=by
  have:m=0∨m=1∨m=2∨m=3:=by omega
  rcases this with rfl|rfl|rfl|rfl<;>decide
 omega
theorem DF{l:List Int}{k:Nat}{x:Int}(h:l[k]?=some x):l.getD k 0=x:=by rw [List.getD_eq_getElem?_getD,h];rfl
theorem mO(e:Me)(s:Mm)(n:Nat)(hs:MO s n)(a:Int)(ha:0≤a∧a<4294967296):
  Spec prog 75 [.pointer (some ⟨e.m,0,none⟩),.int .u32 a] [bj e.m 157 (mR e),own 5 1 bZ (sv e.vd) (s).d,own 5 1 bZ (sv e.vi) (s).i,own 3 1 eI (sv e.vr) (s).r] [] (X:=Unit) (fun _=>True) (fun _=> .bool (decide (a<s.d.length))) (fun _=> [bj e.m 157 (mR e),own 5 1 bZ (sv e.vd) (s).d,own 5 1 bZ (sv e.vi) (s).i,own 3 1 eI (sv e.vr) (s).r]) (fun _=> []):=by
 refine aI func75 J ntmps75 J fun w0 M H=>aj (ai J J (aG J (ad J J (aO (bX underlying41 underlying3 J (by first|exact bc (by omega) (by omega)|rfl)) J (ad J J (bG J J (az kU J J (aP 0 wV J J J J J (aO (aU underlying84 J (bs (k:=1) J)) J (ar J J ci J (ai J J (ac (au (aH () O J (bE (aJ J)) J [0,1,2,3] [] J J J))))))))))))))
theorem oa(e:Me)(s:Mm)(n:Nat)(hs:MO s n)(a:Int)(ha:0≤a∧a<4294967296)(r:Int)(hr:r=1∨r=2∨r=4):
  Spec prog 196 [.pointer (some ⟨e.m,0,none⟩),.int .u32 a,.int .i64 r] [bj e.m 157 (mR e),own 5 1 bZ (sv e.vd) (s).d,own 5 1 bZ (sv e.vi) (s).i,own 3 1 eI (sv e.vr) (s).r] [] (X:=Unit) (fun _=>True) (fun _=> .bool (wD s a r)) (fun _=> [bj e.m 157 (mR e),own 5 1 bZ (sv e.vd) (s).d,own 5 1 bZ (sv e.vi) (s).i,own 3 1 eI (sv e.vr) (s).r]) (fun _=> []):=by
 refine aI func196 J ntmps196 J fun w0 M H=>aj (ai J J (aG J (ad J J (ad J J (ak (xs:= [.tmp 8,.tmp 9]) (mO e s n hs a ha) Eo [0,1,2,3] [] [0,1,2,3] (fun _ _=>ai J J (aG J (ad J J (ad J J (gW (t:=12) J (fun h1=> ?_) (fun h1=> ?_)))))))))))
 ·(try simp only [be]at h1)
  have hq:a<s.d.length:=by simpa using h1
  have hd:=hs.d;have hrl:=hs.r;obtain⟨x,hx⟩:∃x,s.r[(a/256).toNat]?=some x:=⟨_,List.getElem?_eq_getElem (by omega)⟩
  have hxb:=hs.rb x (List.mem_of_getElem? hx);have hrt:wD s a r=decide (x/r%2=1):=by
   unfold wD;rw [decide_eq_true hq,Bool.true_and,DF hx]
  rw [hrt];refine cn J J (ad J J (cn J J (bG J J (cn J J (az o8 J J (cn J J (aP 0 Fl J J J J J (cn J J (ad J J (cn J J (ar J J (jT (by decide) (nZ ha (by decide))) J (cn J J (aO (aR (j:=(a/256).toNat) underlying22 t3 J J (bs (k:=3) J) (by omega) (by omega)) J (cn J J (aO (ah t3 J J (bD (bs (k:=3) J) (by intro _;rfl) hx (by rfl))) J (cn J J (ad J J (cn J J ?_))))))))))))))))));refine aO (aT J J (jT (by omega) (show IntKind.i64.wrap (x.tdiv r)=x/r from(by rw [Int.tdiv_eq_ediv_of_nonneg hxb.1];exact bc (by have:=Int.ediv_nonneg hxb.1 (show 0≤r by omega);omega) (by have:=Int.ediv_le_self r hxb.1;omega))))) J ?_;refine cn J J (ar J J (gd (by decide) (Int.tmod_eq_emod_of_nonneg (Int.ediv_nonneg hxb.1 (by omega)))) J (cn J J (ar J J aY J (aO (aQ J J J (by first|exact av|exact aC|rfl)) J (ai J J (ac (au (aH () O J (bE (aJ J)) J [0,1,2,3] [] J J J))))))))
 ·(try simp only [be]at h1)
  have hrt:wD s a r=false:=by
   unfold wD;rw [decide_eq_false (by omega),Bool.false_and]
  rw [hrt];refine dQ J J J J (dQ J J J J (dQ J J J J (dQ J J J J (dQ J J J J (dQ J J J J (dQ J J J J (dQ J J J J (dQ J J J J (dQ J J J J (dQ J J J J (dQ J J J J (aO (aQ J J J (by first|exact av|exact aC|rfl)) J (ai J J (ac (au (aH () O J (bE (aJ J)) J [0,1,2,3] [] J J J))))))))))))))))
theorem wi(e:Me)(s:Mm)(n:Nat)(hs:MO s n)(a:Int)(ha:0≤a∧a<4294967296)(c r:Int)(hc:1≤c∧c≤4)(hr:r=1∨r=2∨r=4)(hok:∀k:Int,0≤k→k<c→wD s (IntKind.u32.wrap (a+k)) r=true):
  Spec prog 183 [.pointer (some ⟨e.m,0,none⟩),.int .u32 a,.int .i64 c,.int .i64 r] [bj e.m 157 (mR e),own 5 1 bZ (sv e.vd) (s).d,own 5 1 bZ (sv e.vi) (s).i,own 3 1 eI (sv e.vr) (s).r] [] (X:=Unit) (fun _=>True) (fun _=> .agg #[.int .u32 0,.int .u32 0,.bool true]) (fun _=> [bj e.m 157 (mR e),own 5 1 bZ (sv e.vd) (s).d,own 5 1 bZ (sv e.vi) (s).i,own 3 1 eI (sv e.vr) (s).r]) (fun _=> []):=by
 refine aI func183 J ntmps183 J fun w0 M H=>aj (aZ gC J J fun b8=>ac (aS (ad J J (ar J J ci J (ad J J (aA [] J J O (fun hg1=>am J) J (aA [(14,_)] J J ⟨J,O⟩ (fun hg2=>aT J J dV) J (aO (aQ J J J (by first|exact av|exact aC|rfl)) J (ac (ae J (fun h3=> ?_) (fun h3=> ?_)))))))))))
 ·exact absurd h3 (by simp;omega)
 ·refine ax (aS (ai J J (ac (aB (bv (X:=Nat) (fun i=>(i:Int)≤c) (fun i=> [(0,.pointer (some ⟨e.m,0,none⟩)),(1,.int .u32 a),(2,.int .i64 c),(3,.int .i64 r),(8,.pointer (some ⟨b8,0,none⟩)),(9,.int .i64 (i:Int))]) (fun i=> [(0,bj e.m 157 (mR e)),(1,own 5 1 bZ (sv e.vd) s.d),(2,own 5 1 bZ (sv e.vi) s.i),(3,own 3 1 eI (sv e.vr) s.r),(8,bj b8 241 [.int .u32 0,.int .u32 0,.bool false])]) (fun i=> []) (fun i=>c.toNat-i) 0 (by omega) J J J (fun i n1=>aS (ad J J (ad J J (ar J J ci J (ac (ae J (fun h4=> ?_) (fun h4=> ?_))))))))))))
  ·(try simp only [be]at h4)
   have hi:(i:Int)<c:=by omega
   refine ax (a_ (aB (aj (ad J J (ad J J (ad J J (aO (bX underlying3 underlying41 J (c:=(i:Int)) (bK (by omega) (by omega))) J (ar J J (bi J) J (ad J J (ak (xs:= [.tmp 24,.tmp 28,.tmp 29]) (oa e s n hs (IntKind.u32.wrap (a+i)) (j_ _) r hr) Io [0,1,2,3] [] [0,1,2,3] (fun _ _=> ?_)))))))))));rw [hok i (by omega) (by omega)];refine ai J J (aG J (ad J J (aO (ch J) J (ac (ae J (fun h5=> ?_) (fun h5=> ?_))))))
   ·cases h5
   ·(try simp only [be]at h5)
    refine ax (ap (ad J J (ar J J (bi (by first|exact bc (by omega) (by omega)|rfl)) J (ai J J (ac ?_)))));refine aM (i+1) ⟨by omega,by omega⟩ J J J
  ·(try simp only [be]at h4)
   have hi:(i:Int)=c:=by omega
   refine bx (aj (aO (aV (parts:= [(2,.const (.bool Bool.true))]) gC HI J J) J (aq (k:=8) gC J J J J J J (ac (au (aH () O J (bE (bh gC J J J (aX (k:=8) J))) J [0,1,2,3] [] J J J))))))
theorem Bx(e:Me)(s:Mm)(n:Nat)(hs:MO s n)(a:Int)(ha:0≤a∧a<4294967296):
  Spec prog 43 [.pointer (some ⟨e.m,0,none⟩),.int .u32 a] [bj e.m 157 (mR e),own 5 1 bZ (sv e.vd) (s).d,own 5 1 bZ (sv e.vi) (s).i,own 3 1 eI (sv e.vr) (s).r] [] (X:=Unit) (fun _=>True) (fun _=> .int .u8 (if a<s.d.length then s.i.getD a.toNat 0 else 0)) (fun _=> [bj e.m 157 (mR e),own 5 1 bZ (sv e.vd) (s).d,own 5 1 bZ (sv e.vi) (s).i,own 3 1 eI (sv e.vr) (s).r]) (fun _=> []):=by
 refine aI func43 J ntmps43 J fun w0 M H=>aj (ai J J (aG J (ad J J (ad J J (ak (xs:= [.tmp 6,.tmp 7]) (mO e s n hs a ha) Eo [0,1,2,3] [] [0,1,2,3] (fun _ _=>ai J J (ac (aS (ad J J (aO (ch J) J (ac (ae J (fun h1=> ?_) (fun h1=> ?_)))))))))))))
 ·(try simp only [be]at h1)
  have hq:¬a<s.d.length:=by simpa using h1
  rw [if_neg hq];refine aj (ai J J (ac (au (aH () O J (bE (aJ J)) J [0,1,2,3] [] J J J))))
 ·(try simp only [be]at h1)
  have hq:a<s.d.length:=by simpa using h1
  have hd:=hs.d;have hil:=hs.i;have hrl:=hs.r;have hnn:=hs.n;obtain⟨x,hx⟩:∃x,s.i[a.toNat]?=some x:=⟨_,List.getElem?_eq_getElem (by omega)⟩
  rw [if_pos hq,DF hx];refine ax (aS (ad J J (bG J J (az t6 J J (aP 0 t4 J J J J J (ac (ae J (fun h2=> ?_) (fun h2=> ?_))))))))
  ·cases h2
  ·(try simp only [be]at h2)
   refine ax (aj (ad J J (bG J J (az o9 J J (aP 0 wV J J J J J (ad J J (aO (aR (j:=a.toNat) underlying84 t5 J J (bs (k:=2) J) (by omega) (by omega)) J (aO (ah t5 J J (bD (bs (k:=2) J) (by intro _;rfl) hx (by rfl))) J (ai J J (ac (au (aH () O J (bE (aJ J)) J [0,1,2,3] [] J J J))))))))))))
theorem xA(e:Me)(s:Mm)(n:Nat)(hs:MO s n)(a:Int)(ha:0≤a∧a<4294967296):
  Spec prog 41 [.pointer (some ⟨e.m,0,none⟩),.int .u32 a] [bj e.m 157 (mR e),own 5 1 bZ (sv e.vd) (s).d,own 5 1 bZ (sv e.vi) (s).i,own 3 1 eI (sv e.vr) (s).r] [] (X:=Unit) (fun _=>True) (fun _=> .int .u8 (if a<s.d.length then s.d.getD a.toNat 0 else 0)) (fun _=> [bj e.m 157 (mR e),own 5 1 bZ (sv e.vd) (s).d,own 5 1 bZ (sv e.vi) (s).i,own 3 1 eI (sv e.vr) (s).r]) (fun _=> []):=by
 refine aI func41 J ntmps41 J fun w0 M H=>aj (ai J J (aG J (ad J J (ad J J (ak (xs:= [.tmp 6,.tmp 7]) (mO e s n hs a ha) Eo [0,1,2,3] [] [0,1,2,3] (fun _ _=>ai J J (ac (aS (ad J J (aO (ch J) J (ac (ae J (fun h1=> ?_) (fun h1=> ?_)))))))))))))
 ·(try simp only [be]at h1)
  have hq:¬a<s.d.length:=by simpa using h1
  rw [if_neg hq];refine aj (ai J J (ac (au (aH () O J (bE (aJ J)) J [0,1,2,3] [] J J J))))
 ·(try simp only [be]at h1)
  have hq:a<s.d.length:=by simpa using h1
  have hd:=hs.d;have hil:=hs.i;have hrl:=hs.r;have hnn:=hs.n;obtain⟨x,hx⟩:∃x,s.d[a.toNat]?=some x:=⟨_,List.getElem?_eq_getElem (by omega)⟩
  rw [if_pos hq,DF hx];refine ax (aj (ad J J (bG J J (az kU J J (aP 0 wV J J J J J (ad J J (aO (aR (j:=a.toNat) underlying84 t5 J J (bs (k:=1) J) (by omega) (by omega)) J (aO (ah t5 J J (bD (bs (k:=1) J) (by intro _;rfl) hx (by rfl))) J (ai J J (ac (au (aH () O J (bE (aJ J)) J [0,1,2,3] [] J J J))))))))))))
theorem Bq(e:Me)(s:Mm)(n:Nat)(hs:MO s n)(a:Int)(ha:0≤a∧a<4294967296)(hok:wD s a 4=true)(x:Int)(hx:s.i[a.toNat]?=some x)(hxb:0≤x∧x<256):
  Spec prog 179 [.pointer (some ⟨e.m,0,none⟩),.int .u32 a] [bj e.m 157 (mR e),own 5 1 bZ (sv e.vd) (s).d,own 5 1 bZ (sv e.vi) (s).i,own 3 1 eI (sv e.vr) (s).r] [] (X:=Unit) (fun _=>True) (fun _=> .agg #[.int .u32 x,.int .u32 0,.bool true]) (fun _=> [bj e.m 157 (mR e),own 5 1 bZ (sv e.vd) (s).d,own 5 1 bZ (sv e.vi) (s).i,own 3 1 eI (sv e.vr) (s).r]) (fun _=> []):=by
 refine aI func179 J ntmps179 J fun w0 M H=> ?_
 have hq:a<s.d.length:=by
  unfold wD at hok;simp only [Bool.and_eq_true,decide_eq_true_eq]at hok;exact hok.1
 refine aj (aZ gC J J fun b4=>aG J (ad J J (ad J J (ak (xs:= [.tmp 6,.tmp 7,.const (.int .i64 4)]) (oa e s n hs a ha 4 (by decide)) Io [0,1,2,3] [] [0,1,2,3] (fun _ _=> ?_)))));rw [hok];refine ai J J (ac (aS (ad J J (aO (ch J) J (ac (ae J (fun h1=> ?_) (fun h1=> ?_)))))))
 ·cases h1
 ·(try simp only [be]at h1)
  refine ax (aj (ad J J (ad J J (ak (xs:= [.tmp 13,.tmp 14]) (Bx e s n hs a ha) Qp [0,1,2,3] [] [0,1,2,3] (fun _ _=> ?_)))));rw [if_pos hq,DF hx];refine aO (bX underlying5 underlying41 J (c:=x) (bK (by omega) (by omega))) J (aO (aV (parts:= [(0,.tmp 16),(2,.const (.bool Bool.true))]) gC HI J J) J (aq (k:=4) gC J J J J J J (ac (au (aH () O J (bE (bh gC J J J (aX (k:=4) J))) J [0,1,2,3] [] J J J)))))
theorem Dk(e:Me)(s:Mm)(n:Nat)(hs:MO s n)(a:Int)(ha:0≤a∧a<4294967296)(hb:byL s.d)(h4:a+4≤s.d.length)(hok:∀k:Int,0≤k→k<4→wD s (IntKind.u32.wrap (a+k)) 1=true):
  Spec prog 151 [.pointer (some ⟨e.m,0,none⟩),.int .u32 a,.int .i64 4] [bj e.m 157 (mR e),own 5 1 bZ (sv e.vd) (s).d,own 5 1 bZ (sv e.vi) (s).i,own 3 1 eI (sv e.vr) (s).r] [] (X:=Unit) (fun _=>True) (fun _=> .agg #[.int .u32 (zo s.d a.toNat),.int .u32 0,.bool true]) (fun _=> [bj e.m 157 (mR e),own 5 1 bZ (sv e.vd) (s).d,own 5 1 bZ (sv e.vi) (s).i,own 3 1 eI (sv e.vr) (s).r]) (fun _=> []):=by
 refine aI func151 J ntmps151 J fun w0 M H=> ?_
 have hd:=hs.d;have hil:=hs.i;have hrl:=hs.r;have hnn:=hs.n;refine aj (aZ gC J J fun b6=>aG J (ad J J (ad J J (ad J J (ak (xs:= [.tmp 9,.tmp 10,.tmp 11,.const (.int .i64 1)]) (wi e s n hs a ha 4 1 (by decide) (by decide) hok) Iu [0,1,2,3] [] [0,1,2,3] (fun _ _=>aZ gC J J fun b7=>aq (k:=7) gC J J J J J J (ac (aS (az mU J J (aP 7 t4 J J J J J (ac (ae J (fun h1=> ?_) (fun h1=> ?_)))))))))))))
 ·(try simp only [be]at h1)
  refine aj (ad J J (ar J J (fX (by first|exact bc (by omega) (by omega)|rfl)) J (ai J J (ac (aB (bv (X:=Nat) (fun m=>m≤4) (fun m=> [(0,.pointer (some ⟨e.m,0,none⟩)),(1,.int .u32 a),(6,.pointer (some ⟨b6,0,none⟩)),(7,.pointer (some ⟨b7,0,none⟩)),(8,.int .i64 (3-(m:Int)))]) (fun m=> [(0,bj e.m 157 (mR e)),(1,own 5 1 bZ (sv e.vd) s.d),(2,own 5 1 bZ (sv e.vi) s.i),(3,own 3 1 eI (sv e.vr) s.r),(6,bj b6 241 [.int .u32 0,.int .u32 0,.bool false]),(7,bj b7 241 [.int .u32 (Dn s.d a.toNat m),.int .u32 0,.bool true])]) (fun m=> []) (fun m=>4-m) 0 (by omega) J J J (fun m n1=>aS (ad J J (ar J J fe J (ac (ae J (fun h2=> ?_) (fun h2=> ?_))))))))))))
  ·(try simp only [be]at h2)
   have hi:m<4:=by omega
   obtain⟨x,hx⟩:∃x,s.d[a.toNat+(3-m)]?=some x:=⟨_,List.getElem?_eq_getElem (by omega)⟩
   have hxb:=hb x (List.mem_of_getElem? hx);have hlb:=JW hb a.toNat (m:=m) (by omega)
   refine ax (a_ (aB ?_));refine bH [21,22,23,24,25,26,27,28,29,30,31,32,33,34,35,36] _ J (bI (V:= [(0,21,_),(1,22,_),(2,23,_),(3,24,_),(4,25,_),(5,26,_),(6,27,_),(7,28,_),(8,29,_),(9,30,_),(10,31,_),(11,32,_),(12,33,_),(13,34,_),(14,35,_),(15,36,_)]) [0,1,2,3,4,5,6,7,8,9,10,11,12,13,14,15] 16 [16,15,14,13,12,11,10,9,8,7,6,5,4,3,2,1,0] [] (fun _=> []) J J (aa (aD J (ag oR J)) (aa (aD J (ah cB J J (ay (k:=7) J J))) (aa (aD J (aT J J (dr (bK (by omega) (by omega))))) (aa (aD J (am J)) (aa (aD J (aF J)) (aa (aD J (ag kU J)) (aa (aD J (ah wV J J (ay (k:=0) J J))) (aa (aD J (am J)) (aa (aD J (am J)) (aa (aD J (bX underlying3 underlying41 J (c:=3-(m:Int)) (bK (by omega) (by omega)))) (aa (aD J (aT J J (bi (c:=((a.toNat+(3-m):Nat):Int)) (by rw [bK (by omega) (by omega)];omega)))) (aa (aD J (aR (j:=a.toNat+(3-m)) underlying84 t5 J J (bs (k:=1) J) J (by omega))) (aa (aD J (ah t5 J J (bD (bs (k:=1) J) (by intro _;rfl) hx (by rfl)))) (aa (aD J (bX underlying5 underlying41 J (c:=x) (bK (by omega) (by omega)))) (aa (aD J (aT J J (bi (c:=Dn s.d a.toNat (m+1)) (by rw [bK (by omega) (by omega)];show _=Dn s.d a.toNat m*256+s.d.getD (a.toNat+(3-m)) 0;rw [DF hx])))) (aa (aD J (ag oR J)) aw)))))))))))))))) J J J J J J J J J (fun _ _=>J) J (cH (k:=7) cB J J J J J J J J) (fun _ _=>bp [] J J aw J J J ?_));refine ap (ad J J (ar J J (fX (c:=3-((m+1:Nat):Int)) (by rw [bc (by omega) (by omega)];omega)) J (ai J J (ac ?_))));refine aM (m+1) ⟨by omega,by omega⟩ J J J
  ·(try simp only [be]at h2)
   have hi:m=4:=by omega
   subst hi;refine bx (aj (aO (aL gC J J J (aX (k:=7) J)) J (aq (k:=6) gC J J J J J J (ac (au (aH () O J (bE (bh gC J J J (aX (k:=6) J))) J [0,1,2,3] [] J J J))))))
 ·cases h1
def lg(x:Int):Nat→Int
 | 0=>x
 | k+1=>lg x k/256
theorem yM{x:Int}(hx:0≤x∧x<4294967296):∀k,0≤lg x k∧lg x k<4294967296
 | 0=>hx
 | k+1=>by
  have:=yM hx k;show 0≤lg x k/256∧lg x k/256<_;omega
theorem y6{x:Int}(hx:0≤x∧x<4294967296){k:Nat}(hk:k<4):(eD x)[k]?=some (lg x k%256):=by
 have:k=0∨k=1∨k=2∨k=3:=by omega
 rcases this with rfl|rfl|rfl|rfl
 ·rfl
 ·rfl
 ·show some (x/65536%256)=some (x/256/256%256);rw [Int.ediv_ediv_of_nonneg (by decide)];rfl
 ·show some (x/16777216%256)=some (x/256/256/256%256);rw [Int.ediv_ediv_of_nonneg (by decide),Int.ediv_ediv_of_nonneg (by decide)];rfl
theorem AN(e:Me)(s:Mm)(n:Nat)(hs:MO s n)(a:Int)(ha:0≤a∧a<4294967296)(x:Int)(hx:0≤x∧x<4294967296)(h4:a+4≤s.d.length)(hok:∀k:Int,0≤k→k<4→wD s (IntKind.u32.wrap (a+k)) 2=true):
  Spec prog 152 [.pointer (some ⟨e.m,0,none⟩),.int .u32 a,.int .i64 4,.int .u32 x] [bj e.m 157 (mR e),own 5 1 bZ (sv e.vd) (s).d,own 5 1 bZ (sv e.vi) (s).i,own 3 1 eI (sv e.vr) (s).r] [] (X:=Unit) (fun _=>True) (fun _=> .agg #[.int .u32 0,.int .u32 0,.bool true]) (fun _=> [bj e.m 157 (mR e),own 5 1 bZ (sv e.vd) ({s with d:=pk s.d a.toNat (eD x)}).d,own 5 1 bZ (sv e.vi) ({s with d:=pk s.d a.toNat (eD x)}).i,own 3 1 eI (sv e.vr) ({s with d:=pk s.d a.toNat (eD x)}).r]) (fun _=> []):=by
 refine aI func152 J ntmps152 J fun w0 M H=> ?_
 have hd:=hs.d;have hil:=hs.i;have hrl:=hs.r;have hnn:=hs.n;refine aj (aZ gC J J fun b8=>aG J (ad J J (ad J J (ad J J (ak (xs:= [.tmp 11,.tmp 12,.tmp 13,.const (.int .i64 2)]) (wi e s n hs a ha 4 2 (by decide) (by decide) hok) Iu [0,1,2,3] [] [0,1,2,3] (fun _ _=>aZ gC J J fun b9=>aq (k:=9) gC J J J J J J (ac (aS (az mU J J (aP 9 t4 J J J J J (ac (ae J (fun h1=> ?_) (fun h1=> ?_)))))))))))))
 ·(try simp only [be]at h1)
  refine aj (ai J J (ac (aB (bv (X:=Nat) (fun i=>i≤4) (fun i=> [(0,.pointer (some ⟨e.m,0,none⟩)),(1,.int .u32 a),(2,.int .i64 4),(3,.int .u32 (lg x i)),(8,.pointer (some ⟨b8,0,none⟩)),(9,.pointer (some ⟨b9,0,none⟩)),(10,.int .i64 (i:Int))]) (fun i=> [(0,bj e.m 157 (mR e)),(1,own 5 1 bZ (sv e.vd) (pk s.d a.toNat ((eD x).take i))),(2,own 5 1 bZ (sv e.vi) s.i),(3,own 3 1 eI (sv e.vr) s.r),(8,bj b8 241 [.int .u32 0,.int .u32 0,.bool false]),(9,bj b9 241 [.int .u32 0,.int .u32 0,.bool true])]) (fun i=> []) (fun i=>4-i) 0 (by omega) J J J (fun i n1=>aS (ad J J (ad J J (ar J J ci J (ac (ae J (fun h2=> ?_) (fun h2=> ?_)))))))))))
  ·(try simp only [be]at h2)
   have hi:i<4:=by omega
   have hpl:=eE ((eD x).take i) s.d a.toNat
   have hsb:=yM hx i;obtain⟨y,hy⟩:∃y,(pk s.d a.toNat ((eD x).take i))[a.toNat+i]?=some y:=⟨_,List.getElem?_eq_getElem (by omega)⟩
   refine ax (a_ (aB (aj (ad J J (bG J J (az kU J J (aP 0 wV J J J J J (ad J J (ad J J (aO (bX underlying3 underlying41 J (c:=(i:Int)) (bK (by omega) (by omega))) J (ar J J (bi (c:=((a.toNat+i:Nat):Int)) (by rw [bK (by omega) (by omega)];omega)) J (ad J J (aO (bX underlying41 underlying5 J (c:=lg x i%256) (IntKind.wrap_u8 _)) J (aO (aR (j:=a.toNat+i) underlying84 t5 J J (bs (k:=1) J) J (by omega)) J (lM (k:=1) (e':=(lg x i%256)) t5 J J J (by intro _;rfl) hy J J (ac (ap (ad J J ?_))))))))))))))))));refine ar J J (jT (by decide) (nZ hsb (by decide))) J (ai J J (ac (ap (ad J J (ar J J (bi (by first|exact bc (by omega) (by omega)|rfl)) J (ai J J (ac ?_)))))));refine aM (i+1) ⟨by omega,by omega⟩ J (by rw [bT (y6 hx hi),kM,List.length_take,Nat.min_eq_left (by show i≤4;omega)];rfl) J
  ·(try simp only [be]at h2)
   have hi:i=4:=by omega
   subst hi;refine bx (aj (aO (aL gC J J J (aX (k:=9) J)) J (aq (k:=8) gC J J J J J J (ac (au (aH () O J (bE (bh gC J J J (aX (k:=8) J))) J [0,1,2,3] [] J J J))))))
 ·cases h1
theorem qIO{s:ByteArray}{i:Nat}(h:i<s.size):(bn s)[i]?=some ((bn s).getD i 0):=by
 have hl:=gr s;rw [List.getD_eq_getElem?_getD,List.getElem?_eq_getElem (by omega)];rfl
theorem Jq{d:List Int}{k:Nat}{x:Int}(h:d.length≤k):d.set k x=d:=List.set_eq_of_length_le h
theorem MO.dd{s:Mm}{n:Nat}(h:MO s n){d:List Int}(hd:d.length=s.d.length):MO {s with d:=d} n:=⟨hd.trans h.d,h.i,h.r,h.n,h.rb⟩
theorem MO.ii{s:Mm}{n:Nat}(h:MO s n){d:List Int}(hd:d.length=s.i.length):MO {s with i:=d} n:=⟨h.d,hd.trans h.i,h.r,h.n,h.rb⟩
theorem pI(e:Me)(s:Mm)(n:Nat)(hs:MO s n)(a:Nat)(t:ByteArray)(ht:a+t.size<4294967296)(ht2:t.size≤1000000):
  Spec prog 35 [.pointer (some ⟨e.m,0,none⟩),.int .u32 (a:Int),.string t] [bj e.m 157 (mR e),own 5 1 bZ (sv e.vd) (s).d,own 5 1 bZ (sv e.vi) (s).i,own 3 1 eI (sv e.vr) (s).r] [] (X:=Unit) (fun _=>True) (fun _=> .tuple #[]) (fun _=> [bj e.m 157 (mR e),own 5 1 bZ (sv e.vd) ({s with d:=pk s.d a (bn t)}).d,own 5 1 bZ (sv e.vi) ({s with d:=pk s.d a (bn t)}).i,own 3 1 eI (sv e.vr) ({s with d:=pk s.d a (bn t)}).r]) (fun _=> []):=by
 refine aI func35 J ntmps35 J fun w0 M H=> ?_
 have hd:=hs.d;have hil:=hs.i;have hrl:=hs.r;have hnn:=hs.n;have hbl:=gr t;refine aj (ai J J (ac (aB (bv (X:=Nat) (fun i=>i≤t.size) (fun i=> [(0,.pointer (some ⟨e.m,0,none⟩)),(1,.int .u32 (a:Int)),(2,.string t),(6,.int .i64 (i:Int))]) (fun i=> [(0,bj e.m 157 (mR e)),(1,own 5 1 bZ (sv e.vd) (pk s.d a ((bn t).take i))),(2,own 5 1 bZ (sv e.vi) s.i),(3,own 3 1 eI (sv e.vr) s.r)]) (fun i=> []) (fun i=>t.size-i) 0 (Nat.zero_le _) J J J (fun i n1=>aS (ad J J (ad J J (aO (cl underlying9 J) J (ar J J ci J (ac (ae J (fun h1=> ?_) (fun h1=> ?_))))))))))))
 ·(try simp only [be]at h1)
  have hi:i<t.size:=by omega
  have hpl:=eE ((bn t).take i) s.d a;have hxx:=qIO hi;refine ax (a_ (aB (aj (ad J J (ad J J (ad J J (aO (bX underlying3 underlying41 J (c:=(i:Int)) (bK (by omega) (by omega))) J (ar J J (bi (c:=((a+i:Nat):Int)) (by rw [bK (by omega) (by omega)];omega)) J (ak (xs:= [.tmp 14,.tmp 18]) (mO e {s with d:=pk s.d a ((bn t).take i)} n (hs.dd (eE _ _ _)) ((a+i:Nat):Int) (by omega)) Eo [0,1,2,3] [] [0,1,2,3] (fun _ _=>ai J J (aG J (ad J J (ac (ae J (fun h2=> ?_) (fun h2=> ?_)))))))))))))))
  ·(try simp only [be]at h2)
   have hq:a+i<s.d.length:=by simp at h2;omega
   obtain⟨y,hy⟩:∃y,(pk s.d a ((bn t).take i))[a+i]?=some y:=⟨_,List.getElem?_eq_getElem (by omega)⟩
   refine bH [21,22,23,24,25,26,27,28,29,30,31,32] _ J (bI (V:= [(0,21,_),(1,22,_),(2,23,_),(3,24,_),(4,25,_),(5,26,_),(6,27,_),(7,28,_),(8,29,_),(9,30,_),(10,31,_),(11,32,_)]) [0,1,2,3,4,5,6,7,8,9,10,11] 12 [12,11,10,9,8,7,6,5,4,3,2,1,0] [] (fun _=> []) J J (aa (aD J (am J)) (aa (aD J (aF J)) (aa (aD J (ag kU J)) (aa (aD J (ah wV J J (ay (k:=0) J J))) (aa (aD J (am J)) (aa (aD J (am J)) (aa (aD J (bX underlying3 underlying41 J (c:=(i:Int)) (bK (by omega) (by omega)))) (aa (aD J (aT J J (bi (c:=((a+i:Nat):Int)) (by rw [bK (by omega) (by omega)];omega)))) (aa (aD J (am J)) (aa (aD J (am J)) (aa (aD J (dv (j:=i) underlying9 J J J (by omega))) (aa (aD J (aR (j:=a+i) underlying84 t5 J J (bs (k:=1) J) J (by show _<(pk s.d a ((bn t).take i)).length;omega))) aw)))))))))))) J J J J J J J J J (fun _ _=>J) J (gH (k:=1) (e':=((bn t).getD i 0)) t5 J J J (by intro _;rfl) hy J J) (fun _ _=>bp [] J J aw J J J ?_));refine ap (ad J J (ar J J (bi (by first|exact bc (by omega) (by omega)|rfl)) J (ai J J (ac ?_))));refine aM (i+1) ⟨by omega,by omega⟩ J (by rw [bT hxx,kM,List.length_take,Nat.min_eq_left (by omega)];rfl) J
  ·(try simp only [be]at h2)
   have hq:¬a+i<s.d.length:=by simp at h2;omega
   refine ax (ap (ad J J (ar J J (bi (by first|exact bc (by omega) (by omega)|rfl)) J (ai J J (ac ?_)))));refine aM (i+1) ⟨by omega,by omega⟩ J (by rw [bT hxx,kM,List.length_take,Nat.min_eq_left (by omega),Jq (by omega)];rfl) J
 ·(try simp only [be]at h1)
  have hi:i=t.size:=by omega
  subst hi;refine bx (bW () O J ff J [0,1,2,3] [] J (by rw [List.take_of_length_le (Nat.le_of_eq hbl)];rfl) J)
theorem rj(e:Me)(s:Mm)(n:Nat)(hs:MO s n)(p:Nat)(hp:p<n)(t:ByteArray)(ht2:t.size≤1000000):
  Spec prog 37 [.pointer (some ⟨e.m,0,none⟩),.int .i64 (p:Int),.string t] [bj e.m 157 (mR e),own 5 1 bZ (sv e.vd) (s).d,own 5 1 bZ (sv e.vi) (s).i,own 3 1 eI (sv e.vr) (s).r] [] (X:=Unit) (fun _=>True) (fun _=> .tuple #[]) (fun _=> [bj e.m 157 (mR e),own 5 1 bZ (sv e.vd) ({s with i:=pk s.i (256*p) ((bn t).take 256)}).d,own 5 1 bZ (sv e.vi) ({s with i:=pk s.i (256*p) ((bn t).take 256)}).i,own 3 1 eI (sv e.vr) ({s with i:=pk s.i (256*p) ((bn t).take 256)}).r]) (fun _=> []):=by
 refine aI func37 J ntmps37 J fun w0 M H=> ?_
 have hd:=hs.d;have hil:=hs.i;have hrl:=hs.r;have hnn:=hs.n;have hbl:=gr t;refine aS (ad J J (ar J J ci J (ad J J (aA [] J J O (fun hg1=>am J) J (aA [(10,_)] J J ⟨J,O⟩ (fun hg2=>am J) J (aA [(10,_),(11,_)] J J ⟨J,J,O⟩ (fun hg3=>aF J) J (aA [(10,_),(11,_),(12,_)] J J ⟨J,J,J,O⟩ (fun hg4=>ag o8 J) J (aA [(10,_),(11,_),(12,_),(13,_)] J J ⟨J,J,J,J,O⟩ (fun hg5=>ah Fl J J (ay (k:=0) J J)) J (aA [(10,_),(11,_),(12,_),(13,_),(14,_)] J J ⟨J,J,J,J,J,O⟩ (fun hg6=>aU underlying22 J (bs (k:=3) J)) J (aA [(10,_),(11,_),(12,_),(13,_),(14,_),(15,_)] J J ⟨J,J,J,J,J,J,O⟩ (fun hg7=>aT J J fe) J (aO (aQ J J J (by first|exact av|exact aC|rfl)) J (ad J J (aA [] J J O (fun hg8=>am J) J (aA [(19,_)] J J ⟨J,O⟩ (fun hg9=>aF J) J (aA [(19,_),(20,_)] J J ⟨J,J,O⟩ (fun hg10=>ag t6 J) J (aA [(19,_),(20,_),(21,_)] J J ⟨J,J,J,O⟩ (fun hg11=>ah t4 J J (ay (k:=0) J J)) J (aO (aQ J J J (by first|exact av|exact aC|rfl)) J ?_)))))))))))))))));refine ac (ae J (fun h12=> ?_) (fun h12=> ?_))
 ·exact absurd h12 (by simp;omega)
 ·refine ax (aj (ai J J (ac (aB (bv (X:=Nat) (fun i=>i≤t.size∧i≤256) (fun i=> [(0,.pointer (some ⟨e.m,0,none⟩)),(1,.int .i64 (p:Int)),(2,.string t),(6,.int .i64 (i:Int))]) (fun i=> [(0,bj e.m 157 (mR e)),(1,own 5 1 bZ (sv e.vd) s.d),(2,own 5 1 bZ (sv e.vi) (pk s.i (256*p) ((bn t).take i))),(3,own 3 1 eI (sv e.vr) s.r)]) (fun i=> []) (fun i=>t.size-i) 0 ⟨Nat.zero_le _,Nat.zero_le _⟩ J J J (fun i n1=>aS (ad J J (ad J J (aO (cl underlying9 J) J (ar J J ci J (ad J J (aA [] J J O (fun hg13=>am J) J (aA [(29,_)] J J ⟨J,O⟩ (fun hg14=>aT J J ci) J (aO (aQ J J J (by first|exact av|exact aC|rfl)) J (ac (ae J (fun h15=> ?_) (fun h15=> ?_)))))))))))))))))
  ·(try simp only [be]at h15)
   have hi:i<t.size∧i<256:=by omega
   have hpl:=eE ((bn t).take i) s.i (256*p);have hxx:=qIO hi.1;obtain⟨y,hy⟩:∃y,(pk s.i (256*p) ((bn t).take i))[256*p+i]?=some y:=⟨_,List.getElem?_eq_getElem (by omega)⟩
   refine ax (a_ (aB ?_));refine bH [34,35,36,37,38,39,40,41,42,43,44,45] _ J (bI (V:= [(0,34,_),(1,35,_),(2,36,_),(3,37,_),(4,38,_),(5,39,_),(6,40,_),(7,41,_),(8,42,_),(9,43,_),(10,44,_),(11,45,_)]) [0,1,2,3,4,5,6,7,8,9,10,11] 12 [12,11,10,9,8,7,6,5,4,3,2,1,0] [] (fun _=> []) J J (aa (aD J (am J)) (aa (aD J (aF J)) (aa (aD J (ag o9 J)) (aa (aD J (ah wV J J (ay (k:=0) J J))) (aa (aD J (am J)) (aa (aD J (aT J J (dr (bc (by omega) (by omega))))) (aa (aD J (am J)) (aa (aD J (aT J J (bi (c:=((256*p+i:Nat):Int)) (by rw [bc (by omega) (by omega)];omega)))) (aa (aD J (am J)) (aa (aD J (am J)) (aa (aD J (dv (j:=i) underlying9 J J J (by omega))) (aa (aD J (aR (j:=256*p+i) underlying84 t5 J J (bs (k:=2) J) J (by omega))) aw)))))))))))) J J J J J J J J J (fun _ _=>J) J (gH (k:=2) (e':=((bn t).getD i 0)) t5 J J J (by intro _;rfl) hy J J) (fun _ _=>bp [] J J aw J J J ?_));refine ap (ad J J (ar J J (bi (by first|exact bc (by omega) (by omega)|rfl)) J (ai J J (ac ?_))));refine aM (i+1) ⟨by omega,by omega⟩ J (by rw [bT hxx,kM,List.length_take,Nat.min_eq_left (by omega)];rfl) J
  ·(try simp only [be]at h15)
   have hi:i=min t.size 256:=by omega
   have htk:(bn t).take i=(bn t).take 256:=by
    rw [hi];by_cases h:t.size≤256
    ·rw [Nat.min_eq_left h,List.take_of_length_le (by omega),List.take_of_length_le (by omega)]
    ·rw [Nat.min_eq_right (by omega)]
   refine bx (bW () O J ff J [0,1,2,3] [] J (by rw [htk];rfl) J)
theorem rl(e:Me)(s:Mm)(n:Nat)(hs:MO s n)(p:Nat)(hp:p<n)(z q:Int)(hq:bits .and .i64 z 7=q):
  Spec prog 38 [.pointer (some ⟨e.m,0,none⟩),.int .i64 (p:Int),.int .i64 z] [bj e.m 157 (mR e),own 5 1 bZ (sv e.vd) (s).d,own 5 1 bZ (sv e.vi) (s).i,own 3 1 eI (sv e.vr) (s).r] [] (X:=Unit) (fun _=>True) (fun _=> .tuple #[]) (fun _=> [bj e.m 157 (mR e),own 5 1 bZ (sv e.vd) ({s with r:=s.r.set p q}).d,own 5 1 bZ (sv e.vi) ({s with r:=s.r.set p q}).i,own 3 1 eI (sv e.vr) ({s with r:=s.r.set p q}).r]) (fun _=> []):=by
 refine aI func38 J ntmps38 J fun w0 M H=> ?_
 have hd:=hs.d;have hil:=hs.i;have hrl:=hs.r;have hnn:=hs.n;obtain⟨y,hy⟩:∃y,s.r[p]?=some y:=⟨_,List.getElem?_eq_getElem (by omega)⟩
 refine aj (ad J J (ar J J fe J (ad J J (aA [] J J O (fun hg1=>am J) J (aA [(9,_)] J J ⟨J,O⟩ (fun hg2=>am J) J (aA [(9,_),(10,_)] J J ⟨J,J,O⟩ (fun hg3=>aF J) J (aA [(9,_),(10,_),(11,_)] J J ⟨J,J,J,O⟩ (fun hg4=>ag o8 J) J (aA [(9,_),(10,_),(11,_),(12,_)] J J ⟨J,J,J,J,O⟩ (fun hg5=>ah Fl J J (ay (k:=0) J J)) J (aA [(9,_),(10,_),(11,_),(12,_),(13,_)] J J ⟨J,J,J,J,J,O⟩ (fun hg6=>aU underlying22 J (bs (k:=3) J)) J (aA [(9,_),(10,_),(11,_),(12,_),(13,_),(14,_)] J J ⟨J,J,J,J,J,J,O⟩ (fun hg7=>aT J J ci) J (aO (aQ J J J (by first|exact av|exact aC|rfl)) J (ac (ae J (fun h8=> ?_) (fun h8=> ?_))))))))))))))
 ·refine ap (ad J J (bG J J (az o8 J J (aP 0 Fl J J J J J (ad J J (ad J J (ar J J (lE hq) J (aO (aR (j:=p) underlying22 t3 J J (bs (k:=3) J) J (by omega)) J (lM (k:=3) (e':=q) t3 J J J (by intro _;rfl) hy J J (ac (bW () O J ff J [0,1,2,3] [] J J J)))))))))))
 ·exact absurd h8 (by simp;omega)
theorem xc(e:Me)(s:Mm)(n:Nat)(hs:MO s n)(a:Int)(ha:0≤a∧a<s.d.length):
  Spec prog 76 [.pointer (some ⟨e.m,0,none⟩),.int .u32 a] [bj e.m 157 (mR e),own 5 1 bZ (sv e.vd) (s).d,own 5 1 bZ (sv e.vi) (s).i,own 3 1 eI (sv e.vr) (s).r] [] (X:=Unit) (fun _=>True) (fun _=> .bool true) (fun _=> [bj e.m 157 (mR e),own 5 1 bZ (sv e.vd) ({s with i:=pk s.i (a.toNat/256*256) ((s.d.drop (a.toNat/256*256)).take 256)}).d,own 5 1 bZ (sv e.vi) ({s with i:=pk s.i (a.toNat/256*256) ((s.d.drop (a.toNat/256*256)).take 256)}).i,own 3 1 eI (sv e.vr) ({s with i:=pk s.i (a.toNat/256*256) ((s.d.drop (a.toNat/256*256)).take 256)}).r]) (fun _=> []):=by
 refine aI func76 J ntmps76 J fun w0 M H=> ?_
 have hd:=hs.d;have hil:=hs.i;have hrl:=hs.r;have hnn:=hs.n;have hpp:a.toNat/256<n:=by omega
 refine aj (ai J J (aG J (ad J J (ad J J (ak (xs:= [.tmp 8,.tmp 9]) (mO e s n hs a (by omega)) Eo [0,1,2,3] [] [0,1,2,3] (fun _ _=> ?_))))));rw [decide_eq_true ha.2];refine ai J J (ac (aS (ad J J (ad J J (aA [] J J O (fun hg1=>am J) J (aA [(13,_)] J J ⟨J,O⟩ (fun hg2=>aF J) J (aA [(13,_),(14,_)] J J ⟨J,J,O⟩ (fun hg3=>ag t6 J) J (aA [(13,_),(14,_),(15,_)] J J ⟨J,J,J,O⟩ (fun hg4=>ah t4 J J (ay (k:=0) J J)) J (aA [(13,_),(14,_),(15,_),(16,_)] J J ⟨J,J,J,J,O⟩ (fun hg5=>ch J) J (aO (aQ J J J (by first|exact av|exact aC|rfl)) J (ac (ae J (fun h6=> ?_) (fun h6=> ?_)))))))))))))
 ·refine aj (ad J J (aO (bX underlying41 underlying3 J (c:=a) (bc (by omega) (by omega))) J (ar J J (jT (by decide) (c:=((a.toNat/256:Nat):Int)) (by rw [Int.tdiv_eq_ediv_of_nonneg ha.1,bc (by omega) (by omega)];omega)) J (ar J J (dr (c:=((a.toNat/256*256:Nat):Int)) (by rw [bc (by omega) (by omega)];omega)) J (ai J J (aG J (ad J J (ai J J (ac (aB ?_))))))))));refine bv (X:=Nat) (fun k=>k≤256) (fun k=> [(0,.pointer (some ⟨e.m,0,none⟩)),(5,.bool true),(6,.int .i64 ((a.toNat/256*256:Nat):Int)),(7,.int .i64 (((a.toNat/256*256:Nat):Int)+(k:Int)))]) (fun k=> [(0,bj e.m 157 (mR e)),(1,own 5 1 bZ (sv e.vd) s.d),(2,own 5 1 bZ (sv e.vi) (pk s.i (a.toNat/256*256) ((s.d.drop (a.toNat/256*256)).take k))),(3,own 3 1 eI (sv e.vr) s.r)]) (fun k=> []) (fun k=>256-k) 0 (Nat.zero_le _) (by rw [show((a.toNat/256*256:Nat):Int)+((0:Nat):Int)=((a.toNat/256*256:Nat):Int) by omega];rfl) J J (fun k n1=> ?_);refine aS (ad J J (ad J J (ar J J (bi (by first|exact bc (by omega) (by omega)|rfl)) J (ar J J ci J (ac (ae J (fun h7=> ?_) (fun h7=> ?_)))))))
  ·(try simp only [be]at h7)
   have hi:k<256:=by omega
   have hpl:=eE ((s.d.drop (a.toNat/256*256)).take k) s.i (a.toNat/256*256);obtain⟨x,hxx⟩:∃x,s.d[a.toNat/256*256+k]?=some x:=⟨_,List.getElem?_eq_getElem (by omega)⟩
   have hxd:(s.d.drop (a.toNat/256*256))[k]?=some x:=by rw [List.getElem?_drop];exact hxx
   obtain⟨y,hy⟩:∃y,(pk s.i (a.toNat/256*256) ((s.d.drop (a.toNat/256*256)).take k))[a.toNat/256*256+k]?=some y:=⟨_,List.getElem?_eq_getElem (by omega)⟩
   refine ax (a_ (aB ?_));refine bH [30,31,32,33,34,35,36,37,38,39,40,41,42] _ J (bI (V:= [(0,30,_),(1,31,_),(2,32,_),(3,33,_),(4,34,_),(5,35,_),(6,36,_),(7,37,_),(8,38,_),(9,39,_),(10,40,_),(11,41,_),(12,42,_)]) [0,1,2,3,4,5,6,7,8,9,10,11,12] 13 [13,12,11,10,9,8,7,6,5,4,3,2,1,0] [] (fun _=> []) J J (aa (aD J (am J)) (aa (aD J (aF J)) (aa (aD J (ag o9 J)) (aa (aD J (ah wV J J (ay (k:=0) J J))) (aa (aD J (am J)) (aa (aD J (am J)) (aa (aD J (aF J)) (aa (aD J (ag kU J)) (aa (aD J (ah wV J J (ay (k:=0) J J))) (aa (aD J (am J)) (aa (aD J (aR (j:=a.toNat/256*256+k) underlying84 t5 J J (bs (k:=1) J) (by omega) (by omega))) (aa (aD J (ah t5 J J (bD (bs (k:=1) J) (by intro _;rfl) hxx (by rfl)))) (aa (aD J (aR (j:=a.toNat/256*256+k) underlying84 t5 J J (bs (k:=2) J) (by omega) (by omega))) aw))))))))))))) J J J J J J J J J (fun _ _=>J) J (gH (k:=2) (e':=x) t5 J J J (by intro _;rfl) hy J J) (fun _ _=>bp [] J J aw J J J ?_));refine ap (ad J J (ar J J (bi (c:=((a.toNat/256*256:Nat):Int)+((k+1:Nat):Int)) (by rw [bc (by omega) (by omega)];omega)) J (ai J J (ac ?_))));refine aM (k+1) ⟨by omega,by omega⟩ J (by rw [bT hxd,kM,List.length_take,Nat.min_eq_left (by rw [List.length_drop];omega)];rfl) J
  ·(try simp only [be]at h7)
   have hi:k=256:=by omega
   subst hi;refine bx (aj (ad J J (ai J J (ac (au (aH () O J (bE (aJ J)) J [0,1,2,3] [] J J J))))))
 ·exact absurd h6 (by simp)
theorem cE{c:Prop} [Decidable c]{a b:Qg}{n:Nat}(h1:a.sz≤n)(h2:b.sz≤n):(if c then a else b).sz≤n:=by
 by_cases h:c
 ·rw [if_pos h];exact h1
 ·rw [if_neg h];exact h2
theorem Kc(o:ByteArray)(s:Qg):(ot o s).sz≤s.sz+9:=by
 unfold ot;refine cE ?_ (cE ?_ (cE ?_ (cE ?_ (cE ?_ (cE ?_ (cE ?_ (cE ?_ (cE ?_ (cE ?_ (cE ?_ (cE ?_ (cE ?_ (cE ?_ (cE ?_ (cE ?_ ?_)))))))))))))));all_goals
  (try simp only [bz,cd,bO,bL,List.length_singleton,List.length_cons,List.length_nil])
  omega
theorem Kb(o:ByteArray)(s:Qg):(DO o s).sz≤s.sz+2:=by
 unfold DO;refine cE ?_ (cE ?_ (cE ?_ ?_));all_goals
  (try simp only [bz,List.length_singleton,List.length_cons,List.length_nil])
  omega
theorem GA(n:Int)(s:Qg):(qp n s).sz≤s.sz+2:=by
 unfold qp;refine cE ?_ ?_;all_goals
  (try simp only [bz,List.length_singleton,List.length_cons,List.length_nil])
  omega
mutual
theorem lC(o st:Om):∀(t:Tx)(s:Qg),(gX o st t s).sz+2≤s.sz+22*nX t
 | .mk k n nm _ kids,s=>by
  have h0:=xM o st kids;have h1:=fun s=>zw o st kids s
  have hs:=tP o st kids;have hu:=Kb nm (kQ o st kids s);have hn:=GA n s;have ho:=Kc nm ((Lf o st kids ((kQ o st kids s).push 1)).pop 2);have i0:=h0 s;have i1:=h1 s;have is:=hs s;rw [dg]at ho;unfold gX nX
  suffices h:∀x:Qg,x.sz≤s.sz+22*ey kids+20→x.sz+2≤s.sz+22*(ey kids+1)from h _ (by
   refine cE (by omega) (cE ?_ (cE ?_ (cE ?_ (cE (by omega) (cE (by omega) (cE ?_ (by omega)))))))
   ·simp only [bz,List.length_singleton];omega
   ·simp only [bz,List.length_singleton];omega
   ·simp only [bz,c9,List.length_singleton];omega
   ·dsimp only;refine cE ?_ ?_
    ·simp only [bz,bO,List.length_singleton];omega
    ·simp only [bO];omega)
  intro x hx;omega
theorem xM(o st:Om):∀(l:List Tx)(s:Qg),(kQ o st l s).sz≤s.sz+22*ey l
 | [],s=>Nat.le_add_right _ _
 | t::r,s=>by
  have:=lC o st t s;unfold kQ ey;omega
theorem zw(o st:Om):∀(l:List Tx)(s:Qg),(Lf o st l ((kQ o st l s).push 1)).sz≤s.sz+22*ey l+2
 | [],s=>by
  show(s.push 1).sz≤_;rw [cv];omega
 | t::r,s=>by
  have h1:=lC o st t s;have h2:=xM o st r ((gX o st t s).push 1);rw [cv]at h2;show(kQ o st r ((gX o st t s).push 1)).sz≤_;unfold ey;omega
theorem tP(o st:Om):∀(l:List Tx)(s:Qg),(sn o st l s).sz≤s.sz+22*ey l
 | [],s=>Nat.le_add_right _ _
 | t::r,s=>by
  have h1:=lC o st t s;have h2:=tP o st r ((gX o st t s).push 1);rw [cv]at h2;unfold sn ey;omega
end
theorem Spec.roW{P:Program}{n:Nat}{vs:List Value}{X:Type}{L R:List Asn}{φ:X→Prop}{v:X→Value}{L1:X→List Asn}{B:Asn}(h:∀A∈R,∀w G,B.pred w G→(∀b,G b→b<w.heap.size)→∃G':Nat→Prop,A.pred w G'∧∀b,G' b→G b)
  (hs:Spec P n vs L R φ v L1 (fun _=> [])):Spec P n vs L [B] φ v L1 (fun _=> []):=by
 intro w M H hl;refine hs w M H ?_;obtain⟨F,hF⟩:=hl;refine⟨F,hF.touch,hF.has,hF.lt,hF.mine,hF.apart,fun k A hk=> ?_⟩;obtain⟨G,g1,g2⟩:=hF.ro 0 B J;obtain⟨G',a1,a2⟩:=h A (List.mem_of_getElem? hk) w G g1 fun b hb=>(g2 b hb).1
 exact⟨G',a1,fun b hb=>g2 b (a2 b hb)⟩
def Od(e:Ga)(c:Oq)(o:ByteArray)(s:Qg):Prop:=
 ∃n l,(QM c).find? (fun x=>decide (Prod.fst x=o))=some (o,ck n l)∧Cb prog n∧Spec prog n (l.map fun b=>Value.pointer (some ⟨b,0,none⟩)) [gA e s] [gZ e.g c] (X:=Unit) (fun _=>True) (fun _=> .tuple #[]) (fun _=> [gA e (ot o s)]) (fun _=> [])
theorem ep{g:Nat}{c:Oq}{R:List Asn}(h:∀A∈R,∃i:Nat,(Ml g c)[i]?=some A):∀A∈R,∀w G,(gZ g c).pred w G→(∀b,G b→b<w.heap.size)→∃G':Nat→Prop,A.pred w G'∧∀b,G' b→G b:=fun A hA w G h1 h2=>by
 obtain⟨i,hi⟩:=h A hA;exact CZ i hi w G h1 h2
theorem JH(e:Ga)(c:Oq)(o:ByteArray)(s:Qg)(hz:s.sz≤890000)(h:gI o=true):Od e c o s:=by
 by_cases h0:o=e8
 ·subst h0;refine⟨85,[c.bg,c.b0],J,rO,?_⟩;rw [show ot e8 s=s.emit [q3 1 1 2 1]from J];exact Spec.roW (ep (fun A hA=>by
    simp only [List.mem_cons,List.not_mem_nil,or_false]at hA;rcases hA with rfl|rfl
    ·exact⟨1,J⟩
    ·exact⟨2,J⟩
   )) (fK e s (by omega) c.bg c.b0 1)
 by_cases h1:o=d7
 ·subst h1;refine⟨85,[c.bg,c.b1],J,rO,?_⟩;rw [show ot d7 s=s.emit [q3 2 1 2 1]from J];exact Spec.roW (ep (fun A hA=>by
    simp only [List.mem_cons,List.not_mem_nil,or_false]at hA;rcases hA with rfl|rfl
    ·exact⟨1,J⟩
    ·exact⟨3,J⟩
   )) (fK e s (by omega) c.bg c.b1 2)
 by_cases h2:o=fD
 ·subst h2;refine⟨85,[c.bg,c.b2],J,rO,?_⟩;rw [show ot fD s=s.emit [q3 9 1 2 1]from J];exact Spec.roW (ep (fun A hA=>by
    simp only [List.mem_cons,List.not_mem_nil,or_false]at hA;rcases hA with rfl|rfl
    ·exact⟨1,J⟩
    ·exact⟨4,J⟩
   )) (fK e s (by omega) c.bg c.b2 9)
 by_cases h3:o=ed
 ·subst h3;refine⟨85,[c.bg,c.b3],J,rO,?_⟩;rw [show ot ed s=s.emit [q3 3 1 2 1]from J];exact Spec.roW (ep (fun A hA=>by
    simp only [List.mem_cons,List.not_mem_nil,or_false]at hA;rcases hA with rfl|rfl
    ·exact⟨1,J⟩
    ·exact⟨5,J⟩
   )) (fK e s (by omega) c.bg c.b3 3)
 by_cases h4:o=iO
 ·subst h4;refine⟨85,[c.bg,c.b4],J,rO,?_⟩;rw [show ot iO s=s.emit [q3 4 1 2 1]from J];exact Spec.roW (ep (fun A hA=>by
    simp only [List.mem_cons,List.not_mem_nil,or_false]at hA;rcases hA with rfl|rfl
    ·exact⟨1,J⟩
    ·exact⟨6,J⟩
   )) (fK e s (by omega) c.bg c.b4 4)
 by_cases h5:o=em
 ·subst h5;refine⟨85,[c.bg,c.b5],J,rO,?_⟩;rw [show ot em s=s.emit [q3 5 1 2 1]from J];exact Spec.roW (ep (fun A hA=>by
    simp only [List.mem_cons,List.not_mem_nil,or_false]at hA;rcases hA with rfl|rfl
    ·exact⟨1,J⟩
    ·exact⟨7,J⟩
   )) (fK e s (by omega) c.bg c.b5 5)
 by_cases h6:o=fB
 ·subst h6;refine⟨85,[c.bg,c.b6],J,rO,?_⟩;rw [show ot fB s=s.emit [q3 6 1 2 1]from J];exact Spec.roW (ep (fun A hA=>by
    simp only [List.mem_cons,List.not_mem_nil,or_false]at hA;rcases hA with rfl|rfl
    ·exact⟨1,J⟩
    ·exact⟨8,J⟩
   )) (fK e s (by omega) c.bg c.b6 6)
 by_cases h7:o=fR
 ·subst h7;refine⟨85,[c.bg,c.b7],J,rO,?_⟩;rw [show ot fR s=s.emit [q3 7 1 2 1]from J];exact Spec.roW (ep (fun A hA=>by
    simp only [List.mem_cons,List.not_mem_nil,or_false]at hA;rcases hA with rfl|rfl
    ·exact⟨1,J⟩
    ·exact⟨9,J⟩
   )) (fK e s (by omega) c.bg c.b7 7)
 by_cases h8:o=kv
 ·subst h8;refine⟨85,[c.bg,c.b8],J,rO,?_⟩;rw [show ot kv s=s.emit [q3 11 1 2 1]from J];exact Spec.roW (ep (fun A hA=>by
    simp only [List.mem_cons,List.not_mem_nil,or_false]at hA;rcases hA with rfl|rfl
    ·exact⟨1,J⟩
    ·exact⟨10,J⟩
   )) (fK e s (by omega) c.bg c.b8 11)
 by_cases h9:o=lA
 ·subst h9;refine⟨87,[c.bg],J,M5,?_⟩;rw [show ot lA s=s.emit [q3 11 1 1 2]from J];exact Spec.roW (ep (fun A hA=>by
    simp only [List.mem_cons,List.not_mem_nil,or_false]at hA;rcases hA with rfl
    ·exact⟨1,J⟩
   )) (ws e s (by omega) c.bg)
 by_cases h10:o=lz
 ·subst h10;refine⟨89,[c.f0,c.bg],J,KC,?_⟩;rw [show ot lz s=(s.emit [q3 11 1 1 2]).emit [qi 19 1 1 1]from J];exact Spec.roW (ep (fun A hA=>by
    simp only [List.mem_cons,List.not_mem_nil,or_false]at hA;rcases hA with rfl|rfl
    ·exact⟨12,J⟩
    ·exact⟨1,J⟩
   )) (sQ e s (by omega) c.bg c.f0 87 (s.emit [q3 11 1 1 2]) (by rw [bz];simp;omega) M5 (ws e s (by omega) c.bg))
 by_cases h11:o=mE
 ·subst h11;refine⟨89,[c.f1,c.bg],J,KC,?_⟩;rw [show ot mE s=(s.emit [q3 11 1 2 1]).emit [qi 19 1 1 1]from J];exact Spec.roW (ep (fun A hA=>by
    simp only [List.mem_cons,List.not_mem_nil,or_false]at hA;rcases hA with rfl|rfl|rfl
    ·exact⟨13,J⟩
    ·exact⟨1,J⟩
    ·exact⟨11,J⟩
   )) (BF e s (by omega) c.bg c.b9 c.f1 85 (s.emit [q3 11 1 2 1]) (by rw [bz];simp;omega) rO (fK e s (by omega) c.bg c.b9 11))
 by_cases h12:o=ly
 ·subst h12;refine⟨90,[c.bg],J,M4,?_⟩;rw [show ot ly s=(s.emit [q3 5 1 2 1]).emit [q3 11 1 0 1]from J];exact Spec.roW (ep (fun A hA=>by
    simp only [List.mem_cons,List.not_mem_nil,or_false]at hA;rcases hA with rfl
    ·exact⟨1,J⟩
   )) (wr e s (by omega) c.bg)
 by_cases h13:o=lB
 ·subst h13;refine⟨89,[c.f2,c.bg],J,KC,?_⟩;rw [show ot lB s=((s.emit [q3 5 1 2 1]).emit [q3 11 1 0 1]).emit [qi 19 1 1 1]from J];exact Spec.roW (ep (fun A hA=>by
    simp only [List.mem_cons,List.not_mem_nil,or_false]at hA;rcases hA with rfl|rfl
    ·exact⟨14,J⟩
    ·exact⟨1,J⟩
   )) (sQ e s (by omega) c.bg c.f2 90 ((s.emit [q3 5 1 2 1]).emit [q3 11 1 0 1]) (by rw [bz,bz];simp;omega) M4 (wr e s (by omega) c.bg))
 by_cases h14:o=jc
 ·subst h14;refine⟨91,[c.bg],J,P9,?_⟩;rw [show ot jc s=((s.lab.jump 32 1 0 s.labs.length).emit [q3 10 1 2 1]).place s.labs.length from J];exact Spec.roW (ep (fun A hA=>by
    simp only [List.mem_cons,List.not_mem_nil,or_false]at hA;rcases hA with rfl
    ·exact⟨1,J⟩
   )) (EG e s (by omega) c.bg)
 by_cases h15:o=jV
 ·subst h15;refine⟨93,[c.bg],J,P8,?_⟩;rw [show ot jV s=((((((s.lab.emit [q3 1 3 1 0]).jump 32 1 0 s.labs.length).emit [q3 10 3 2 1]).emit [q3 9 3 3 1]).place s.labs.length)).emit [q3 2 1 2 3]from J];exact Spec.roW (ep (fun A hA=>by
    simp only [List.mem_cons,List.not_mem_nil,or_false]at hA;rcases hA with rfl
    ·exact⟨1,J⟩
   )) (EF e s (by omega) c.bg)
 exfalso;unfold gI at h;rw [Option.isSome_iff_exists]at h;obtain⟨x,hx⟩:=h;have hm:=List.mem_of_find?_eq_some hx;have he:=List.find?_some hx;simp only [decide_eq_true_eq]at he;simp only [lvL,List.mem_cons,List.not_mem_nil,or_false]at hm;rcases hm with rfl|rfl|rfl|rfl|rfl|rfl|rfl|rfl|rfl|rfl|rfl|rfl|rfl|rfl|rfl|rfl
 ·exact h15 he.symm
 ·exact h14 he.symm
 ·exact h2 he.symm
 ·exact h1 he.symm
 ·exact h0 he.symm
 ·exact h7 he.symm
 ·exact h6 he.symm
 ·exact h11 he.symm
 ·exact h9 he.symm
 ·exact h10 he.symm
 ·exact h8 he.symm
 ·exact h12 he.symm
 ·exact h13 he.symm
 ·exact h3 he.symm
 ·exact h5 he.symm
 ·exact h4 he.symm
section
variable{P:Program}{N:Nat}{w0:World}{M H:Nat→Prop}{E:eA}{Γ R:dZ}
theorem nI{k o b:Nat}{e:Ga}{s:Qg}{u:Value}(hk:bV Γ k=some (gA e s))(hu:∀x:SV×SV×SV,(gR e.vp x.1 x.2.1 x.2.2 e.ms e.mo e.mp e.en)[o]?=some u)(hb:e.g=b):Gives w0 M H Γ R b o [u]:=by
 subst hb;intro w hC j u' hj;obtain⟨G,⟨x,Fs,h1,-,-⟩,-⟩:=hC.reads (.inl hk);obtain⟨-,h2⟩:=h1 0 _ J;cases j with
 | zero=>
  simp at hj;subst hj;rw [cell_of_row w e.g (o+0) _ 111 (0,0) h2];simpa using hu x
 | succ j=>simp at hj
def vQ(p:ByteArray×Int):Value:= .int .u32 p.2
theorem CU{S kt et:TypeId}{x y:Operand}{o:Option Nat}{k:ByteArray}{L:Om}{D:TypeDesc}{s bb:Nat}(hS:P.underlying S=some (.map kt et))(hK:KeyLaw P kt fH)(ht:TI P et D (.int .u32 0) s bb)(hx:ev E x=some (.map o))(hy:ev E y=some (fH k))(hm:HasMp Γ R fH Prod.fst vQ o L):
  PR P N w0 M H E Γ R (.lookup S x y false) (.int .u32 (bC L k)):=by
 have:=mC (w0:=w0) (M:=M) (H:=H) (N:=N) (ok:=false) hS hK ht hx hy hm J;have e:((L.find? (fun a=>decide (Prod.fst a=k))).map vQ).getD (.int .u32 0)= .int .u32 (bC L k):=by
  unfold bC;cases L.find? (fun a=>decide (Prod.fst a=k))<;>rfl
 rw [←e];exact this
theorem CV{S kt et:TypeId}{x y:Operand}{o:Option Nat}{k:ByteArray}{L:Om}{D:TypeDesc}{s bb:Nat}(hS:P.underlying S=some (.map kt et))(hK:KeyLaw P kt fH)(ht:TI P et D (.int .i64 0) s bb)(hx:ev E x=some (.map o))(hy:ev E y=some (fH k))(hm:HasMp Γ R fH Prod.fst vI o L):
  PR P N w0 M H E Γ R (.lookup S x y false) (.int .i64 (bC L k)):=by
 have:=mC (w0:=w0) (M:=M) (H:=H) (N:=N) (ok:=false) hS hK ht hx hy hm J;have e:((L.find? (fun a=>decide (Prod.fst a=k))).map vI).getD (.int .i64 0)= .int .i64 (bC L k):=by
  unfold bC;cases L.find? (fun a=>decide (Prod.fst a=k))<;>rfl
 rw [←e];exact this
end
theorem PZ{o st:Om}{t:Tx}{s:Qg}(h:t.kind=1):gX o st t s=qp t.n s:=by
 obtain⟨k,n,nm,v,kids⟩:=t;obtain rfl:k=1:=h;rfl
theorem PY{o st:Om}{t:Tx}{s:Qg}(h:t.kind=2):gX o st t s=s.emit [qi 23 1 13 (bC o t.name)]:=by
 obtain⟨k,n,nm,v,kids⟩:=t;obtain rfl:k=2:=h;rfl
theorem PV{o st:Om}{t:Tx}{s:Qg}(h:t.kind=5):gX o st t s=s.emit [⟨48,0,0,0,2⟩]:=by
 obtain⟨k,n,nm,v,kids⟩:=t;obtain rfl:k=5:=h;rfl
theorem PW{o st:Om}{t u:Tx}{s:Qg}(h:t.kind=4)(hk:t.kids= [u]):gX o st t s=((gX o st u s).elem 1).emit [qi 23 1 1 8192]:=by
 obtain⟨k,n,nm,v,kids⟩:=t;obtain rfl:k=4:=h;obtain rfl:kids= [u]:=hk;rfl
theorem PU{o st:Om}{t u:Tx}{s:Qg}(h:t.kind=6)(hk:t.kids= [u]):gX o st t s=DO t.name (gX o st u s):=by
 obtain⟨k,n,nm,v,kids⟩:=t;obtain rfl:k=6:=h;obtain rfl:kids= [u]:=hk;rfl
theorem PT{o st:Om}{t a b:Tx}{s:Qg}(h:t.kind=7)(hk:t.kids= [a,b]):gX o st t s=ot t.name ((gX o st b ((gX o st a s).push 1)).pop 2):=by
 obtain⟨k,n,nm,v,kids⟩:=t;obtain rfl:k=7:=h;obtain rfl:kids= [a,b]:=hk;rfl
theorem PX{o st:Om}{t:Tx}{s:Qg}(h:t.kind=3):gX o st t s=if t.kids.length>0 then((sn o st t.kids s).jump 40 15 0 (bC st t.name)).emit [qi 16 14 14 (4*t.kids.length)]else(sn o st t.kids s).jump 40 15 0 (bC st t.name):=by
 obtain⟨k,n,nm,v,kids⟩:=t;obtain rfl:k=3:=h;rfl
theorem vH{o st:Om}:∀{l:List Tx}{i:Nat}{u:Tx}(s:Qg),l[i]?=some u→sn o st (l.take (i+1)) s=(gX o st u (sn o st (l.take i) s)).push 1
 | [],i,u,s,h=>by simp at h
 | x::r,0,u,s,h=>by cases h;rfl
 | x::r,i+1,u,s,h=>vH (l:=r) _ h
structure Wx(t:Tx):Prop where
 one:t.kind=4∨t.kind=6→∃u,t.kids= [u]
 un:t.kind=6→t.name=d7∨t.name=p_∨t.name=rC
 two:t.kind=7→gI t.name=true∧∃a b,t.kids= [a,b]
 kids:∀u∈t.kids,rX u=true
 kind:t.kind=1∨t.kind=2∨t.kind=3∨t.kind=4∨t.kind=5∨t.kind=6∨t.kind=7
theorem tp:∀{l:List Tx},oI l=true→∀u∈l,rX u=true
 | [],_,_,h=>by simp at h
 | t::r,h,u,hu=>by
  unfold oI at h;rw [Bool.and_eq_true]at h;rcases List.mem_cons.1 hu with rfl|hu
  ·exact h.1
  ·exact tp h.2 u hu
theorem tA{l:List Tx}(h:l.length=1):∃u,l= [u]:=by
 match l,h with
 | [u],_=>exact⟨u,rfl⟩
theorem B9{l:List Tx}(h:l.length=2):∃a b,l= [a,b]:=by
 match l,h with
 | [a,b],_=>exact⟨a,b,rfl⟩
theorem Hu{t:Tx}(h:rX t=true):Wx t:=by
 obtain⟨k,n,nm,v,kids⟩:=t;unfold rX at h;simp only [Bool.and_eq_true]at h;obtain⟨⟨h1,-⟩,h3⟩:=h;unfold oK at h1;refine⟨fun hk=> ?_,fun hk=> ?_,fun hk=> ?_,tp h3,?_⟩
 ·show ∃u,kids= [u];rcases hk with hk|hk
  ·obtain rfl:k=4:=hk;simp at h1;exact tA h1.2
  ·obtain rfl:k=6:=hk;simp at h1;exact tA h1.2
 ·obtain rfl:k=6:=hk;simp [cg,AG]at h1;rcases h1.1 with h|h|h
  ·exact .inl h
  ·exact .inr (.inl h)
  ·exact .inr (.inr h)
 ·obtain rfl:k=7:=hk;simp at h1;exact⟨h1.1,B9 h1.2⟩
 ·show k=1∨k=2∨k=3∨k=4∨k=5∨k=6∨k=7;by_cases k1:k=1
  ·exact .inl k1
  by_cases k2:k=2
  ·exact .inr (.inl k2)
  by_cases k3:k=3
  ·exact .inr (.inr (.inl k3))
  by_cases k4:k=4
  ·exact .inr (.inr (.inr (.inl k4)))
  by_cases k5:k=5
  ·exact .inr (.inr (.inr (.inr (.inl k5))))
  by_cases k6:k=6
  ·exact .inr (.inr (.inr (.inr (.inr (.inl k6)))))
  by_cases k7:k=7
  ·exact .inr (.inr (.inr (.inr (.inr (.inr k7)))))
  simp [k1,k2,k3,k4,k5,k6,k7]at h1
theorem F8{q:Prop}{k:Int}(h:k=1∨k=2∨k=3∨k=4∨k=5∨k=6∨k=7)(n1:¬k=1)(n2:¬k=2)(n3:¬k=3)(n4:¬k=4)(n5:¬k=5)(n6:¬k=6)(n7:¬k=7):q:=by omega
theorem QG{t:Tx}(h:GX t):oW t.n:=by cases t;exact h.1
theorem DE(e:Ga)(c:Oq)(om sm:Om)(hm:e.mp=c.m)(t:Tx)(hw:Wx t)(hg:GX t)(ih:∀u∈t.kids,∀s:Qg,s.sz+22*nX u≤780000→Spec prog 167 [.pointer (some ⟨e.g,0,none⟩),xV u] [gA e s] [bS u.v u.kids,gZ e.g c,mp fH Prod.fst vQ e.mo om,mp fH Prod.fst vI (some e.ms) sm] (X:=Unit) (fun _=>True) (fun _=> .tuple #[]) (fun _=> [gA e (gX om sm u s)]) (fun _=> []))(s:Qg)(hz:s.sz+22*nX t≤780000):
  Spec prog 167 [.pointer (some ⟨e.g,0,none⟩),xV t] [gA e s] [bS t.v t.kids,gZ e.g c,mp fH Prod.fst vQ e.mo om,mp fH Prod.fst vI (some e.ms) sm] (X:=Unit) (fun _=>True) (fun _=> .tuple #[]) (fun _=> [gA e (gX om sm t s)]) (fun _=> []):=by
 refine aI func167 J ntmps167 J fun w0 M H=>aW 0 9 J eW (aj (bU J J fun b3=>aG J (az iC J J (aP 3 t3 J J J J J (ac (aB (aj (ar J J aY J (ai J J (ac (ae J (fun h1=> ?_) (fun h1=> ?_))))))))))))
 ·(try simp only [be]at h1)
  have hk:t.kind=1:=h1;rw [PZ hk];refine ap (ad J J (az tV J J (aP 3 cB J J J J J (ak (xs:= [.tmp 11,.tmp 13]) (C1 e s (by omega) t.n (QG hg)) Nk [0] [] [0] (fun _ _=>ac (bW () O J ff J [0] [] J J J))))))
 ·(try simp only [be]at h1)
  have n1:¬t.kind=1:=h1;refine aj (ar J J aY J (ai J J (ac (ae J (fun h2=> ?_) (fun h2=> ?_)))))
  ·(try simp only [be]at h2)
   have hk:t.kind=2:=h2;rw [PY hk];refine bH [17,18,19,20,21,22,23,24,25] _ J (bk (V:= [(0,17,_),(1,18,_),(2,19,_),(3,20,_),(4,21,_),(5,22,_),(6,23,_),(7,24,_)]) [0,1,2,3,4,5,6,7] 8 [8,7,6,5,4,3,2,1,0] [] (fun _=> []) J J (aa (aD J (am J)) (aa (aD J (am J)) (aa (aD J (aF J)) (aa (aD J (ag kX J)) (aa (aD J (ah AL J J (nI (k:=0) J (fun _=>J) J))) (aa (aD J (ag cZ J)) (aa (aD J (ah t9 J J (ay (k:=3) J J))) (aa (aD J (CU underlying108 eg cB J J (sk (k:=2) J))) aw)))))))) J J J J J J J J J J J (fun _ _=>J) J (bq (xs:= [.tmp 17,.const (.int .i64 23),.const (.int .i64 1),.const (.int .i64 13),.tmp 24]) (cK e (s) (by omega) 23 1 13 (bC om t.name)) iN [0] [] [0] J J J J J J J J (fun _ _=>J) (fun _ _ _=>J)) (fun _ _=>bp [] J J aw J J J (bW () O J ff J [0] [] J J J)))
  ·(try simp only [be]at h2)
   have n2:¬t.kind=2:=h2;refine aj (ar J J aY J (ai J J (ac (ae J (fun h3=> ?_) (fun h3=> ?_)))))
   ·(try simp only [be]at h3)
    have hk:t.kind=5:=h3;rw [PV hk];refine ap (ad J J (aO (aV (parts:= [(0,.const (.int .i64 48)),(4,.const (.int .u32 2))]) ew lw J J) J (bA gL ⟨48,0,0,0,2⟩ underlying106 ew J (by decide) (by decide) J J J J fun v30=>cf 30 7 J bB (ak (xs:= [.tmp 28,.tmp 30]) (gp e s (by omega) v30 [⟨48,0,0,0,2⟩] (by simp)) wm [0] [(false,7)] [0] (fun _ _=>ac (bW () O J ff J [0] [] J J J))))))
   ·(try simp only [be]at h3)
    have n5:¬t.kind=5:=h3;refine aj (ar J J aY J (ai J J (ac (ae J (fun h4=> ?_) (fun h4=> ?_)))))
    ·(try simp only [be]at h4)
     have hk:t.kind=4:=h4;obtain⟨u,hku⟩:=hw.one (.inl hk);have hnu:nX t=nX u+1:=by rw [sh,hku];simp [ey]
     have hsz:=lC om sm u s;rw [PW hk hku];refine aj (ad J J (az dc J J (aP 3 ij J J J J J (aO (aR (j:=0) underlying59 co J J (aN (k:=9) J) J (by rw [hku];simp)) J ?_))));refine aO (aL co J J J (bD (aN (k:=9) J) (by intro _;rfl) (show t.kids[0]?=some u by rw [hku];rfl) (by rfl))) J ?_;refine aW 0 8 J (cS (show u∈t.kids by rw [hku];simp)) ?_;refine d9 (xs:= [.tmp 34,.tmp 38]) (ih u (show u∈t.kids by rw [hku];simp) (s) (by omega)) qO [0] [(false,8),(false,1),(false,2),(false,3)] [0] J J J J J J J J (fun _ _=>J) (fun _ _ _=>J) J (fun _ _=> ?_);refine aG J (ad J J (ak (xs:= [.tmp 40,.const (.int .i64 1)]) (sG e (gX om sm u s) (by omega) 1) Iw [0] [] [0] (fun _ _=>ac (ap (ad J J (ak (xs:= [.tmp 42,.const (.int .i64 23),.const (.int .i64 1),.const (.int .i64 1),.const (.int .u32 8192)]) (cK e ((gX om sm u s).elem 1) (by rw [c9];omega) 23 1 1 8192) iN [0] [] [0] (fun _ _=>ac (bW () O J ff J [0] [] J J J))))))))
    ·(try simp only [be]at h4)
     have n4:¬t.kind=4:=h4;refine aj (ar J J aY J (ai J J (ac (ae J (fun h5=> ?_) (fun h5=> ?_)))))
     ·(try simp only [be]at h5)
      have hk:t.kind=6:=h5;obtain⟨u,hku⟩:=hw.one (.inr hk);have hnu:nX t=nX u+1:=by rw [sh,hku];simp [ey]
      have hsz:=lC om sm u s;rw [PU hk hku];refine aj (ad J J (az dc J J (aP 3 ij J J J J J (aO (aR (j:=0) underlying59 co J J (aN (k:=9) J) J (by rw [hku];simp)) J ?_))));refine aO (aL co J J J (bD (aN (k:=9) J) (by intro _;rfl) (show t.kids[0]?=some u by rw [hku];rfl) (by rfl))) J ?_;refine aW 0 8 J (cS (show u∈t.kids by rw [hku];simp)) ?_;refine d9 (xs:= [.tmp 46,.tmp 50]) (ih u (show u∈t.kids by rw [hku];simp) (s) (by omega)) qO [0] [(false,8),(false,1),(false,2),(false,3)] [0] J J J J J J J J (fun _ _=>J) (fun _ _ _=>J) J (fun _ _=> ?_);refine aG J (az cZ J J (aP 3 t9 J J J J J (ac (aB (aj (ar J J cr J (ai J J (ac (ae J (fun h6=> ?_) (fun h6=> ?_))))))))))
      ·(try simp only [be]at h6)
       have ho:t.name=d7:=of_decide_eq_true ((b_ _ _).symm.trans h6);rw [ho,show DO d7 (gX om sm u s)=(gX om sm u s).emit [q3 2 1 0 1]from J];refine ap (ad J J (ak (xs:= [.tmp 56,.const (.int .i64 2),.const (.int .i64 1),.const (.int .i64 0),.const (.int .i64 1)]) (cU e (gX om sm u s) (by omega) 2 1 0 1) l7 [0] [] [0] (fun _ _=>ac (bW () O J ff J [0] [] J J J))))
      ·(try simp only [be]at h6)
       have u1:¬t.name=d7:=of_decide_eq_false ((b_ _ _).symm.trans h6);refine aj (ar J J cr J (ai J J (ac (ae J (fun h7=> ?_) (fun h7=> ?_)))))
       ·(try simp only [be]at h7)
        have ho:t.name=p_:=of_decide_eq_true ((b_ _ _).symm.trans h7);rw [ho,show DO p_ (gX om sm u s)=((gX om sm u s).emit [qi 16 2 0 4294967295]).emit [q3 5 1 1 2]from J];refine aj (ad J J (ak (xs:= [.tmp 60,.const (.int .i64 16),.const (.int .i64 2),.const (.int .i64 0),.const (.int .u32 4294967295)]) (cK e (gX om sm u s) (by omega) 16 2 0 4294967295) iN [0] [] [0] (fun _ _=>ac (ap (ad J J (ak (xs:= [.tmp 62,.const (.int .i64 5),.const (.int .i64 1),.const (.int .i64 1),.const (.int .i64 2)]) (cU e ((gX om sm u s).emit [qi 16 2 0 4294967295]) (by rw [bz];simp;omega) 5 1 1 2) l7 [0] [] [0] (fun _ _=>ac (bW () O J ff J [0] [] J J J))))))))
       ·(try simp only [be]at h7)
        have u2:¬t.name=p_:=of_decide_eq_false ((b_ _ _).symm.trans h7);refine aj (ar J J cr J (ai J J (ac (ae J (fun h8=> ?_) (fun h8=> ?_)))))
        ·(try simp only [be]at h8)
         have ho:t.name=rC:=of_decide_eq_true ((b_ _ _).symm.trans h8);rw [ho,show DO rC (gX om sm u s)=((gX om sm u s).emit [qi 16 2 0 1]).emit [q3 11 1 1 2]from J];refine aj (ad J J (ak (xs:= [.tmp 66,.const (.int .i64 16),.const (.int .i64 2),.const (.int .i64 0),.const (.int .u32 1)]) (cK e (gX om sm u s) (by omega) 16 2 0 1) iN [0] [] [0] (fun _ _=>ac (ap (ad J J (ak (xs:= [.tmp 68,.const (.int .i64 11),.const (.int .i64 1),.const (.int .i64 1),.const (.int .i64 2)]) (cU e ((gX om sm u s).emit [qi 16 2 0 1]) (by rw [bz];simp;omega) 11 1 1 2) l7 [0] [] [0] (fun _ _=>ac (bW () O J ff J [0] [] J J J))))))))
        ·exact absurd ((hw.un hk).resolve_left u1 |>.resolve_left u2) (of_decide_eq_false ((b_ _ _).symm.trans h8))
     ·(try simp only [be]at h5)
      have n6:¬t.kind=6:=h5;refine aj (ar J J aY J (ai J J (ac (ae J (fun h9=> ?_) (fun h9=> ?_)))))
      ·(try simp only [be]at h9)
       have hk:t.kind=7:=h9;obtain⟨hbin,a,b,hkab⟩:=hw.two hk;have hnu:nX t=nX a+nX b+1:=by rw [sh,hkab];simp [ey]
       have hsa:=lC om sm a s;have hsb:=lC om sm b ((gX om sm a s).push 1);rw [cv]at hsb;rw [PT hk hkab];obtain⟨nc,lc,hfc,hcb,hop⟩:=JH e c t.name ((gX om sm b ((gX om sm a s).push 1)).pop 2) (by rw [dg];omega) hbin;refine aW 1 10 J (CZ 0 J) ?_;rw [←hm];refine aj (ad J J (az dc J J (aP 3 ij J J J J J (aO (aR (j:=0) underlying59 co J J (aN (k:=9) J) J (by rw [hkab];simp)) J ?_))));refine aO (aL co J J J (bD (aN (k:=9) J) (by intro _;rfl) (show t.kids[0]?=some a by rw [hkab];rfl) (by rfl))) J ?_;refine aW 0 8 J (cS (show a∈t.kids by rw [hkab];simp)) ?_;refine d9 (xs:= [.tmp 72,.tmp 76]) (ih a (show a∈t.kids by rw [hkab];simp) (s) (by omega)) qO [0] [(false,8),(false,1),(false,2),(false,3)] [0] J J J J J J J J (fun _ _=>J) (fun _ _ _=>J) J (fun _ _=> ?_);refine aG J (ad J J (ak (xs:= [.tmp 78,.const (.int .i64 1)]) (h_ e (gX om sm a s) (by omega) 1) BA [0] [] [0] (fun _ _=>aG J (ad J J (az dc J J (aP 3 ij J J J J J (aO (aR (j:=1) underlying59 co J J (aN (k:=9) J) J (by rw [hkab];simp)) J ?_)))))));refine aO (aL co J J J (bD (aN (k:=9) J) (by intro _;rfl) (show t.kids[1]?=some b by rw [hkab];rfl) (by rfl))) J ?_;refine aW 0 8 J (cS (show b∈t.kids by rw [hkab];simp)) ?_;refine d9 (xs:= [.tmp 80,.tmp 84]) (ih b (show b∈t.kids by rw [hkab];simp) ((gX om sm a s).push 1) (by rw [cv];omega)) qO [0] [(false,8),(false,1),(false,2),(false,3)] [0] J J J J J J J J (fun _ _=>J) (fun _ _ _=>J) J (fun _ _=> ?_)
       refine aG J (ad J J (ak (xs:= [.tmp 86,.const (.int .i64 2)]) (mA e (gX om sm b ((gX om sm a s).push 1)) (by omega) 2) He [0] [] [0] (fun _ _=>ac (bH [88,89,90,91,92,93,94,95] _ J (bk (V:= [(0,88,_),(1,89,_),(2,90,_),(3,91,_),(4,92,_),(5,93,_),(6,94,_)]) [0,1,2,3,4,5,6] 7 [7,6,5,4,3,2,1,0] [] (fun _=> []) J J (aa (aD J (am J)) (aa (aD J (aF J)) (aa (aD J (ag z9 J)) (aa (aD J (ah LK J J (nI (k:=0) J (fun _=>J) J))) (aa (aD J (ag cZ J)) (aa (aD J (ah t9 J J (ay (k:=3) J J))) (aa (aD J (mC underlying109 eg t1 J J (sk (k:=10) J) hfc)) aw))))))) J J J J J J J J J J J (fun _ _=>J) J (bq (xs:= []) hop hcb [0] [(false,1)] [0] J J J J J J J J (fun _ _=>J) (fun _ _ _=>J)) (fun _ _=>bp [] J J aw J J J (bW () O J ff J [0] [] J J J)))))))
      ·(try simp only [be]at h9)
       have n7:¬t.kind=7:=h9;refine aj (ar J J aY J (ai J J (ac (ae J (fun h10=> ?_) (fun h10=> ?_)))))
       ·(try simp only [be]at h10)
        have hk:t.kind=3:=h10;have hnx:=sh t;have hss:=tP om sm t.kids s;have hkl:=kF hg;rw [PX hk];refine aS (az dc J J (aP 3 ij J J J J J (aO (aU underlying59 J (aN (k:=9) J)) J (ad J J (ac (aB (bv (X:=Nat) (fun i=>i≤t.kids.length) (fun i=> [(0,.pointer (some ⟨e.g,0,none⟩)),(3,.pointer (some ⟨b3,0,none⟩)),(99,sv t.v),(100,.int .i64 (t.kids.length:Int)),(101,.int .i64 (i:Int))]) (fun i=> [(0,gA e (sn om sm (t.kids.take i) s)),(3,bj b3 61 (dt t))]) (fun i=> [(0,bS t.v t.kids),(1,gZ e.g c),(2,mp fH Prod.fst vQ e.mo om),(3,mp fH Prod.fst vI (some e.ms) sm),(9,sl 4 dt (sv t.v) t.kids)]) (fun i=>t.kids.length-i) 0 (Nat.zero_le _) J J J (fun i n1=>aj (ar J J ci J (ac (a_ (ae J (fun h11=> ?_) (fun h11=> ?_)))))))))))))
        ·(try simp only [be]at h11)
         have hi:i<t.kids.length:=by omega
         obtain⟨kid,hkid⟩:∃k,t.kids[i]?=some k:=⟨_,List.getElem?_eq_getElem hi⟩
         have hkm:=List.mem_of_getElem? hkid;have hle:=kw t.kids (i+1);rw [ea hkid]at hle;have hsi:=tP om sm (t.kids.take i) s;have hsk:=lC om sm kid (sn om sm (t.kids.take i) s);refine ax (a_ (aB (aj (aO (aR (j:=i) underlying59 co J J (aN (k:=9) J) (by first|rfl|omega) (by first|omega|(simp;done)|(simp;omega))) J (aO (aL co J J J (bD (aN (k:=9) J) (by intro _;rfl) hkid (by rfl))) J (aZ co J J fun b5=>aq (k:=5) co J J J J J J (aG J (ad J J (aO (aL co J J J (aX (k:=5) J)) J (aW 0 8 J (cS (hkm)) (ak (xs:= [.tmp 105,.tmp 106]) (ih kid (hkm) (sn om sm (t.kids.take i) s) (by omega)) qO [0] [(false,8),(false,1),(false,2),(false,3)] [0] (fun _ _=>ac (ap (ad J J (ak (xs:= [.tmp 108,.const (.int .i64 1)]) (h_ e (gX om sm kid (sn om sm (t.kids.take i) s)) (by omega) 1) BA [0] [] [0] (fun _ _=> ?_))))))))))))))));refine ac (ap (ar J J (bi (by first|exact bc (by omega) (by omega)|rfl)) J (ad J J (ac ?_))));refine aM (i+1) ⟨by omega,by omega⟩ J (by rw [vH s hkid];rfl) J
        ·(try simp only [be]at h11)
         have hi:i=t.kids.length:=by omega
         subst hi;rw [List.take_length];refine bx (a_ (bH [111,112,113,114,115,116,117,118,119] _ J (bk (V:= [(0,111,_),(1,112,_),(2,113,_),(3,114,_),(4,115,_),(5,116,_),(6,117,_),(7,118,_)]) [0,1,2,3,4,5,6,7] 8 [8,7,6,5,4,3,2,1,0] [] (fun _=> []) J J (aa (aD J (am J)) (aa (aD J (am J)) (aa (aD J (aF J)) (aa (aD J (ag m4 J)) (aa (aD J (ah Cd J J (nI (k:=0) J (fun _=>J) J))) (aa (aD J (ag cZ J)) (aa (aD J (ah t9 J J (ay (k:=3) J J))) (aa (aD J (CV underlying105 eg t3 J J (sk (k:=3) J))) aw)))))))) J J J J J J J J J J J (fun _ _=>J) J (bq (xs:= [.tmp 111,.const (.int .i64 40),.const (.int .i64 15),.const (.int .i64 0),.tmp 118]) (eT e (sn om sm t.kids s) (by omega) 40 15 0 (bC sm t.name)) rS [0] [] [0] J J J J J J J J (fun _ _=>J) (fun _ _ _=>J)) (fun _ _=>bp [] J J aw J J J (aj (az dc J J (aP 3 ij J J J J J (aO (aU underlying59 J (aN (k:=9) J)) J (ai J J (aG J (ad J J (ar J J dV J (ac (ae J (fun h12=> ?_) (fun h12=> ?_)))))))))))))))
         ·(try simp only [be]at h12)
          rw [if_pos (show t.kids.length>0 by omega)];refine ap (ad J J (ad J J (ar J J (dr (by first|exact bc (by omega) (by omega)|rfl)) J (aO (bX underlying3 underlying41 J (by first|exact bK (by omega) (by omega)|rfl)) J (ak (xs:= [.tmp 125,.const (.int .i64 16),.const (.int .i64 14),.const (.int .i64 14),.tmp 128]) (cK e ((sn om sm t.kids s).jump 40 15 0 (bC sm t.name)) (by rw [bO];omega) 16 14 14 (4*t.kids.length)) iN [0] [] [0] (fun _ _=>ac (bW () O J ff J [0] [] J J J)))))))
         ·(try simp only [be]at h12)
          rw [if_neg (show ¬t.kids.length>0 by omega)];refine ax (bW () O J ff J [0] [] J J J)
       ·exact F8 hw.kind n1 n2 (by simpa using h10) n4 n5 n6 n7
theorem zr(e:Ga)(c:Oq)(om sm:Om)(hm:e.mp=c.m):∀(n:Nat)(t:Tx),SizeOf.sizeOf t<n→rX t=true→GX t→∀s:Qg,s.sz+22*nX t≤780000→Spec prog 167 [.pointer (some ⟨e.g,0,none⟩),xV t] [gA e s] [bS t.v t.kids,gZ e.g c,mp fH Prod.fst vQ e.mo om,mp fH Prod.fst vI (some e.ms) sm] (X:=Unit) (fun _=>True) (fun _=> .tuple #[]) (fun _=> [gA e (gX om sm t s)]) (fun _=> [])
 | 0,_,h,_,_=>absurd h (Nat.not_lt_zero _)
 | n+1,t,h,hr,hg=>fun s hz=>DE e c om sm hm t (Hu hr) hg (fun u hu=>zr e c om sm hm n u (by have:=nU hu;omega) ((Hu hr).kids u hu) ((iY hg).mem u hu)) s hz
theorem vE(e:Ga)(c:Oq)(om sm:Om)(hm:e.mp=c.m)(t:Tx)(hr:rX t=true)(hg:GX t)(s:Qg)(hz:s.sz+22*nX t≤780000):Spec prog 167 [.pointer (some ⟨e.g,0,none⟩),xV t] [gA e s] [bS t.v t.kids,gZ e.g c,mp fH Prod.fst vQ e.mo om,mp fH Prod.fst vI (some e.ms) sm] (X:=Unit) (fun _=>True) (fun _=> .tuple #[]) (fun _=> [gA e (gX om sm t s)]) (fun _=> []):=zr e c om sm hm _ t (Nat.lt_succ_self _) hr hg s hz
variable{K:(Int→Int)→Prop}
theorem Res.len{s s':Qg}{r:List Qi}(h:Res K s s' r):s'.code.length=s.code.length+r.length:=by
 obtain⟨raw,fs,ls,a1,a2,-⟩:=h.ex;rw [a1,List.length_append,a2]
theorem yQ(a:List Int)(x y:Int)(b:List Int):(a++ [x]++b).set a.length y=a++ [y]++b:=by
 rw [List.append_assoc,List.set_append_right _ _ (Nat.le_refl _),Nat.sub_self,List.append_assoc];rfl
theorem uL(a:List Int)(x z y:Int)(b:List Int):(a++ [x,z]++b).set (a.length+1) y=a++ [x,y]++b:=by
 rw [List.append_assoc,List.set_append_right _ _ (by omega),show a.length+1-a.length=1 by omega,List.append_assoc];rfl
theorem Res.one{s s':Qg}{r:List Qi}(m:Int)(h:Res (fun L=>K L∧L (s.labs.length:Int)=m) s.lab s' r)(hm:m=s'.code.length):Res K s (s'.place s.labs.length) r:=by
 refine Res.labels [0] [m] J (s':=s') (h.weaken fun L hL=>⟨hL.1,hL.2 0 m J⟩) J J fun ls hls=> ?_
 show s'.labs.set ((s.labs.length:Int).toNat) s'.code.length=_;rw [hls,Int.toNat_natCast,yQ,hm]
theorem cM{c:Prop} [Decidable c]{s a b:Qg}{r t:List Qi}(h1:Res K s a r)(h2:Res K s b t):Res K s (if c then a else b) (if c then r else t):=by
 by_cases h:c
 ·rw [if_pos h,if_pos h];exact h1
 ·rw [if_neg h,if_neg h];exact h2
theorem wN{n:Nat}(h:n<4294967296):wU (n:Int)=n:=by
 unfold wU;show((n:Int))%4294967296=n;omega
theorem Gz(o:ByteArray)(s:Qg):Res K s (ot o s) (AA o):=by
 unfold ot AA;refine cM ?_ ?_
 ·exact Res.emit _ _
 refine cM ?_ ?_
 ·exact Res.emit _ _
 refine cM ?_ ?_
 ·exact Res.emit _ _
 refine cM ?_ ?_
 ·exact Res.emit _ _
 refine cM ?_ ?_
 ·exact Res.emit _ _
 refine cM ?_ ?_
 ·exact Res.emit _ _
 refine cM ?_ ?_
 ·exact Res.emit _ _
 refine cM ?_ ?_
 ·exact Res.emit _ _
 refine cM ?_ ?_
 ·exact Res.emit _ _
 refine cM ?_ ?_
 ·exact Res.emit _ _
 refine cM ?_ ?_
 ·exact(Res.emit _ [_]).seq (Res.emit _ [_])
 refine cM ?_ ?_
 ·exact(Res.emit _ [_]).seq (Res.emit _ [_])
 refine cM ?_ ?_
 ·exact(Res.emit _ [_]).seq (Res.emit _ [_])
 refine cM ?_ ?_
 ·exact((Res.emit _ [_]).seq (Res.emit _ [_])).seq (Res.emit _ [_])
 refine cM ?_ ?_
 ·refine Res.one ((s.code.length:Int)+2) ((Res.jump s.lab 32 1 0 _ 2 fun L hL=> ?_).seq (Res.emit _ [_])) ?_
  ·rw [hL.2];show wU ((s.code.length:Int)+2-s.code.length)=2;rw [show(s.code.length:Int)+2-s.code.length=((2:Nat):Int) by omega];exact wN (by decide)
  ·show _=((((s.code++ [_])++ [_]).length:Nat):Int);simp only [List.length_append,List.length_cons,List.length_nil];omega
 refine cM ?_ ?_
 ·refine(Res.one (r:= [q3 1 3 1 0,qi 32 1 0 3,q3 10 3 2 1,q3 9 3 3 1]) ((s.code.length:Int)+4) (((((Res.emit s.lab [_]).seq (Res.jump _ 32 1 0 _ 3 fun L hL=> ?_)).seq (Res.emit _ [_])).seq (Res.emit _ [_]))) ?_).seq (Res.emit _ [_])
  ·rw [hL.2];show wU ((s.code.length:Int)+4-(((s.code++ [_]).length:Nat):Int))=3;rw [List.length_append,List.length_singleton,show(s.code.length:Int)+4-((s.code.length+1:Nat):Int)=((3:Nat):Int) by omega];exact wN (by decide)
  ·show _=((((((s.code++ [_])++ [_])++ [_])++ [_]).length:Nat):Int);simp only [List.length_append,List.length_cons,List.length_nil];omega
 ·exact Res.nil s
theorem Gx(o:ByteArray)(s:Qg):Res K s (DO o s) (BI o):=by
 unfold DO BI;refine cM ?_ ?_
 ·exact Res.emit _ _
 refine cM ?_ ?_
 ·exact(Res.emit _ [_]).seq (Res.emit _ [_])
 refine cM ?_ ?_
 ·exact(Res.emit _ [_]).seq (Res.emit _ [_])
 ·exact Res.nil s
theorem DR(n:Int)(s:Qg):Res K s (qp n s) (oi n):=by
 unfold qp oi;refine cM ?_ ?_
 ·exact Res.emit _ _
 ·exact Res.emit _ _
mutual
theorem xL{o st:Om}{S:ByteArray→Int}(hK:∀L,K L→∀x,L (bC st x)=S x):∀(t:Tx)(s:Qg),Res K s (gX o st t s) (zX o S t s.code.length)
 | .mk k n nm v kids,s=>by
  have h0:=oQ (o:=o) hK kids;have h1:=zt (o:=o) hK kids;have hs:=tQ (o:=o) hK kids;unfold gX zX;split
  ·exact DR n s
  split
  ·exact Res.emit _ _
  split
  ·exact Res.emit _ _
  split
  ·exact(h0 s).seq ((Res.elem _ 1).seq (Res.emit _ _))
  split
  ·exact(h0 s).seq (Gx nm _)
  split
  ·have e1:=(h0 s).len;have e2:=(Res.push (K:=K) (kQ o st kids s) 1).len;have e3:s.code.length+(wz o S kids s.code.length).length+2=((kQ o st kids s).push 1).code.length:=by
    rw [e2,e1];rfl
   rw [e3];exact(h0 s).seq ((Res.push _ 1).seq ((h1 _).seq ((Res.pop _ 2).seq (Gz nm _))))
  split
  ·have e1:=(hs s).len;have e2:Res K (sn o st kids s) ((sn o st kids s).jump 40 15 0 (bC st nm)) [qi 40 15 0 (wU (S nm-((s.code.length+(wI o S kids s.code.length).length:Nat):Int)))]:=by
    refine Res.jump _ 40 15 0 _ _ fun L hL=> ?_
    rw [hK L hL nm,e1]
   refine(hs s).seq (e2.seq ?_);dsimp only;split
   ·exact Res.emit _ _
   ·exact Res.nil _
  ·exact Res.nil s
theorem oQ{o st:Om}{S:ByteArray→Int}(hK:∀L,K L→∀x,L (bC st x)=S x):∀(l:List Tx)(s:Qg),Res K s (kQ o st l s) (wz o S l s.code.length)
 | [],s=>Res.nil s
 | t::_,s=>xL hK t s
theorem zt{o st:Om}{S:ByteArray→Int}(hK:∀L,K L→∀x,L (bC st x)=S x):∀(l:List Tx)(s:Qg),Res K s (Lf o st l s) (Ll o S l s.code.length)
 | [],s=>Res.nil s
 | _::r,s=>oQ hK r s
theorem tQ{o st:Om}{S:ByteArray→Int}(hK:∀L,K L→∀x,L (bC st x)=S x):∀(l:List Tx)(s:Qg),Res K s (sn o st l s) (wI o S l s.code.length)
 | [],s=>Res.nil s
 | t::r,s=>by
  have h:=xL (o:=o) hK t s;have e1:=h.len;have e2:=(Res.push (K:=K) (gX o st t s) 1).len;have e3:s.code.length+(zX o S t s.code.length).length+2=((gX o st t s).push 1).code.length:=by
   rw [e2,e1];rfl
  unfold sn wI;rw [e3];exact h.seq ((Res.push _ 1).seq (tQ hK r _))
end
variable{K:(Int→Int)→Prop}
theorem Res.relab{s s1 s2:Qg}{r:List Qi}(ns ms:List Int)(hl:ns.length=ms.length)(h:Res K {s with labs:=s.labs++ns} s1 r)
  (hc:s2.code=s1.code) (hf:s2.fixes=s1.fixes) (hs:∀ls,s1.labs=(s.labs++ns)++ls→s2.labs=(s.labs++ms)++ls):Res K {s with labs:=s.labs++ms} s2 r:=by
 obtain⟨raw,fs,ls,a1,a2,a3,a4,a5,a6⟩:=h.ex;refine⟨⟨raw,fs,ls,hc.trans a1,a2,hf.trans a3,hs ls a4,a5,fun L hK hL=>a6 L hK fun i n hi=> ?_⟩⟩;have:=hL i n hi;show L (((s.labs++ns).length+i:Nat):Int)=n;rw [List.length_append,hl,←List.length_append];exact this
theorem I1(s:Qg):s.lab.place s.labs.length={s with labs:=s.labs++ [(s.code.length:Int)]}:=by
 show Qg.mk _ _ ((s.labs++ [0]).set ((s.labs.length:Int).toNat) s.code.length)=_;have:=yQ s.labs 0 (s.code.length:Int) [];simp only [List.append_nil]at this;rw [Int.toNat_natCast,this];rfl
mutual
theorem DK{o st:Om}{S:ByteArray→Int}{en E:Int}:∀{K:(Int→Int)→Prop}(t:Ty)(s:Qg),(∀L,K L→∀x,L (bC st x)=S x)→(∀L,K L→L en=E)→Res K s (gY o st en t s) (zY o S E t s.code.length)
 | K,.mk k nm ve es vb body vl els,s,hK,hE=>by
  refine Res.labels [(s.code.length:Int)] [(s.code.length:Int)] J (s':=gY o st en (.mk k nm ve es vb body vl els) s) ?_ J J (fun ls h=>h);generalize hK':(fun L=>K L∧∀(i:Nat)(n:Int),[(s.code.length:Int)][i]?=some n→L ((s.labs.length+i:Nat):Int)=n)=K';have k1:∀L,K' L→∀x,L (bC st x)=S x:=fun L h=>hK L (by rw [←hK']at h;exact h.1)
  have k2:∀L,K' L→L en=E:=fun L h=>hE L (by rw [←hK']at h;exact h.1)
  have k3:∀L,K' L→L (s.labs.length:Int)=s.code.length:=fun L h=>by rw [←hK']at h;exact h.2 0 _ J
  clear hK';unfold gY zY;dsimp only;rw [I1];generalize hs0:({s with labs:=s.labs++ [(s.code.length:Int)]}:Qg)=s0;have c0:s0.code.length=s.code.length:=by rw [←hs0]
  have h0:=oQ (K:=K') (o:=o) k1 es s0;rw [c0]at h0;have e0:=h0.len;rw [c0,ma]at e0;refine cM (h0.seq (Res.emit _ _)) (cM ?_ (cM (h0.seq (Res.emit _ _)) (cM ?_ (cM ?_ (cM ?_ h0)))))
  ·have e2:=(Res.push (K:=K') (kQ o st es s0) 1).len;have e3:s.code.length+iL es+2=((kQ o st es s0).push 1).code.length:=by
    rw [e2,e0];rfl
   rw [e3];exact h0.seq ((Res.push _ 1).seq ((zt k1 es _).seq ((Res.pop _ 2).seq ((Res.elem _ 2).seq (Res.emit _ _)))))
  ·exact h0.seq (Res.jump _ 40 0 0 _ _ fun L hL=>by rw [k2 L hL,e0])
  ·refine h0.seq ?_;generalize hs1:kQ o st es s0=s1;rw [hs1]at e0;have hb:=fun(K:(Int→Int)→Prop)(a:∀L,K L→∀x,L (bC st x)=S x)(b:∀L,K L→L en=E)(s:Qg)=>kP (o:=o) (st:=st) (en:=en) (E:=E) (S:=S) (K:=K) body s a b
   have he:=fun(K:(Int→Int)→Prop)(a:∀L,K L→∀x,L (bC st x)=S x)(b:∀L,K L→L en=E)(s:Qg)=>kP (o:=o) (st:=st) (en:=en) (E:=E) (S:=S) (K:=K) els s a b
   simp only [eC];obtain⟨po,hpo⟩:∃po,po=s.code.length+iL es+1+eL body+(if els.length>0 then 1 else 0):=⟨_,J⟩
   obtain⟨sA,hsA⟩:∃x,x=((s1.lab.lab).jump 32 1 0 s1.labs.length):=⟨_,J⟩
   obtain⟨sB,hsB⟩:∃x,x=gh o st en body sA:=⟨_,J⟩
   obtain⟨sC,hsC⟩:∃x,x=(if els.length>0 then sB.jump 40 0 0 (s1.labs.length+1)else sB):=⟨_,J⟩
   obtain⟨sD,hsD⟩:∃x,x=gh o st en els (sC.place s1.labs.length):=⟨_,J⟩
   rw [←hsA,←hsB,←hsC,←hsD,←hpo];obtain⟨K2,hK2⟩:∃K2:(Int→Int)→Prop,K2=(fun L=>K' L∧∀(i:Nat)(n:Int),[(po:Int),((po+eL els:Nat):Int)][i]?=some n→L ((s1.labs.length+i:Nat):Int)=n):=⟨_,J⟩
   have j1:∀L,K2 L→∀x,L (bC st x)=S x:=fun L h=>k1 L (by rw [hK2]at h;exact h.1)
   have j2:∀L,K2 L→L en=E:=fun L h=>k2 L (by rw [hK2]at h;exact h.1)
   have j3:∀L,K2 L→L (s1.labs.length:Int)=(po:Int):=fun L h=>by rw [hK2]at h;exact h.2 0 _ J
   have j4:∀L,K2 L→L (s1.labs.length+1)=((po+eL els:Nat):Int):=fun L h=>by rw [hK2]at h;exact h.2 1 _ J
   have g1:Res K2 s1.lab.lab sA [qi 32 1 0 (wU ((eL body+(if els.length>0 then 1 else 0)+1:Nat):Int))]:=by
    rw [hsA];refine Res.jump _ 32 1 0 _ _ fun L hL=> ?_
    rw [j3 L hL,hpo];show wU (_-(s1.code.length:Int))=_;rw [e0]
    congr 1
    omega
   have e1:sA.code.length=s.code.length+iL es+1:=by
    rw [g1.len];show s1.code.length+1=_;rw [e0]
   have g2:=hb K2 j1 j2 sA;rw [e1,←hsB]at g2;have e2:=g2.len;rw [eC,e1]at e2;have g3:Res K2 sB sC (if els.length>0 then [qi 40 0 0 (wU ((eL els+1:Nat):Int))]else []):=by
    rw [hsC];by_cases h:els.length>0
    ·rw [if_pos h,if_pos h];refine Res.jump _ 40 0 0 _ _ fun L hL=> ?_
     rw [j4 L hL,e2,hpo,if_pos h]
     congr 1
     omega
    ·rw [if_neg h,if_neg h];exact Res.nil _
   have e3:=g3.len;have e4:s.code.length+iL es+1+eL body+(if els.length>0 then [qi 40 0 0 (wU ((eL els+1:Nat):Int))]else []).length=po:=by
    rw [hpo];split<;>rfl
   rw [e2,e4]at e3;have g4:=(g1.seq (g2.seq g3))
   have ee:({s1 with labs:=s1.labs++ [0,0]}:Qg)=s1.lab.lab:=by
    show _=Qg.mk _ _ ((s1.labs++ [0])++ [0]);rw [List.append_assoc];rfl
   rw [←ee]at g4;have g6:=Res.relab (s2:=sC.place s1.labs.length) [0,0] [(po:Int),0] J g4 J J (fun ls hls=>by
     show List.set sC.labs ((s1.labs.length:Int).toNat) (sC.code.length:Int)=_;rw [hls,e3,Int.toNat_natCast];simp)
   have g5:=he K2 j1 j2 (sC.place s1.labs.length);have e5:(sC.place s1.labs.length).code.length=po:=e3;rw [e5,←hsD]at g5;have e6:=g5.len;rw [e5,eC]at e6;have g7:=g6.seq g5;rw [hK2]at g7;refine Res.labels [(po:Int),0] [(po:Int),((po+eL els:Nat):Int)] J (s':=sD) ?_ J J (fun ls hls=> ?_)
   ·simpa only [List.append_assoc]using g7
   ·show List.set sD.labs (((s1.labs.length:Int)+1).toNat) (sD.code.length:Int)=_;rw [hls,e6,show((s1.labs.length:Int)+1).toNat=s1.labs.length+1 by omega,uL]
  ·refine h0.seq ?_;generalize hs1:kQ o st es s0=s1;rw [hs1]at e0;have hb:=fun(K:(Int→Int)→Prop)(a:∀L,K L→∀x,L (bC st x)=S x)(b:∀L,K L→L en=E)(s:Qg)=>kP (o:=o) (st:=st) (en:=en) (E:=E) (S:=S) (K:=K) body s a b
   simp only [eC];obtain⟨sA,hsA⟩:∃x,x=s1.lab.jump 32 1 0 s1.labs.length:=⟨_,J⟩
   obtain⟨sB,hsB⟩:∃x,x=gh o st en body sA:=⟨_,J⟩
   obtain⟨K2,hK2⟩:∃K2:(Int→Int)→Prop,K2=(fun L=>K' L∧L (s1.labs.length:Int)=((s.code.length+iL es+eL body+2:Nat):Int)):=⟨_,J⟩
   have j1:∀L,K2 L→∀x,L (bC st x)=S x:=fun L h=>k1 L (by rw [hK2]at h;exact h.1)
   have j2:∀L,K2 L→L en=E:=fun L h=>k2 L (by rw [hK2]at h;exact h.1)
   have g1:Res K2 s1.lab sA [qi 32 1 0 (wU ((eL body+2:Nat):Int))]:=by
    rw [hsA];refine Res.jump _ 32 1 0 _ _ fun L hL=> ?_
    rw [hK2]at hL;rw [hL.2];show wU (_-(s1.code.length:Int))=_;rw [e0]
    congr 1
    omega
   have e1:sA.code.length=s.code.length+iL es+1:=by
    rw [g1.len];show s1.code.length+1=_;rw [e0]
   have g2:=hb K2 j1 j2 sA;rw [e1,←hsB]at g2;have e2:=g2.len;rw [eC,e1]at e2;have g3:Res K2 sB (sB.jump 40 0 0 s.labs.length) [qi 40 0 0 (wU (-((eL body+iL es+1:Nat):Int)))]:=by
    refine Res.jump _ 40 0 0 _ _ fun L hL=> ?_
    rw [hK2]at hL;rw [k3 L hL.1,e2]
    congr 1
    omega
   have g4:=g1.seq (g2.seq g3);have e4:=g3.len;rw [e2]at e4;rw [hK2]at g4;rw [←hsA,←hsB];refine Res.one _ g4 ?_;rw [e4];show _=((s.code.length+iL es+1+eL body+1:Nat):Int);omega
theorem kP{o st:Om}{S:ByteArray→Int}{en E:Int}:∀{K:(Int→Int)→Prop}(l:List Ty)(s:Qg),(∀L,K L→∀x,L (bC st x)=S x)→(∀L,K L→L en=E)→Res K s (gh o st en l s) (jX o S E l s.code.length)
 | K,[],s,_,_=>Res.nil s
 | K,t::r,s,hK,hE=>by
  have h:=DK (o:=o) t s hK hE;unfold gh jX;rw [←h.len];exact h.seq (kP r _ hK hE)
end
theorem qn:∀(n:Nat)(s:Qg),Res K s (dj n s) (ie n)
 | 0,s=>Res.nil s
 | n+1,s=>(Res.push s 0).seq (qn n _)
theorem Kd{st:Om}{S:ByteArray→Int}(hK:∀L,K L→∀x,L (bC st x)=S x)(f:Tf)(s:Qg)(hi:(bC st f.name).toNat<s.labs.length):
  Res K {s with labs:=s.labs.set (bC st f.name).toNat s.code.length} (gF st f s) (zF S f s.code.length):=by
 obtain⟨i,hi'⟩:∃i,i=(bC st f.name).toNat:=⟨_,J⟩
 obtain⟨s0,hs0⟩:∃s0:Qg,s0={s with labs:=s.labs.set i s.code.length}:=⟨_,J⟩
 obtain⟨lb,hlb⟩:∃lb,lb=s.labs.length:=⟨_,J⟩
 rw [←hi']at hi ⊢;have l0:s0.labs.length=lb:=by rw [hs0,hlb];exact List.length_set
 have c0:s0.code.length=s.code.length:=by rw [hs0]
 obtain⟨n,hn⟩:∃n,n=(cT f).2.toNat:=⟨_,J⟩
 obtain⟨E,hE⟩:∃E,E=s.code.length+10+2*n+eL f.body:=⟨_,J⟩
 obtain⟨K2,hK2⟩:∃K2:(Int→Int)→Prop,K2=(fun L=>K L∧∀(i:Nat)(n:Int),[((s.code.length+4:Nat):Int),(E:Int)][i]?=some n→L ((s0.labs.length+i:Nat):Int)=n):=⟨_,J⟩
 have j1:∀L,K2 L→∀x,L (bC st x)=S x:=fun L h=>hK L (by rw [hK2]at h;exact h.1)
 have j2:∀L,K2 L→L (lb:Int)=((s.code.length+4:Nat):Int):=fun L h=>by rw [hK2]at h;rw [←l0];exact h.2 0 _ J
 have j3:∀L,K2 L→L ((lb:Int)+1)=(E:Int):=fun L h=>by
  rw [hK2]at h;have:=h.2 1 _ J;rw [l0]at this;exact this
 obtain⟨sP,hsP⟩:∃x:Qg,x={s0 with labs:=s0.labs++ [0,0]}:=⟨_,J⟩
 have cP:sP.code.length=s.code.length:=by rw [hsP];exact c0
 have eP:(s.lab.lab).place (bC st f.name)=sP:=by
  rw [hsP,hs0];show Qg.mk _ _ (((s.labs++ [0])++ [0]).set (bC st f.name).toNat s.code.length)=_;rw [←hi',List.append_assoc,List.set_append_left _ _ hi];rfl
 obtain⟨sA,hsA⟩:∃x,x=(((sP.emit [qi 16 12 12 1]).emit [qi 16 2 0 12]).jump 35 2 12 lb).emit [⟨49,0,0,0,0⟩]:=⟨_,J⟩
 have g1:Res K2 sP sA [qi 16 12 12 1,qi 16 2 0 12,qi 35 2 12 2,⟨49,0,0,0,0⟩]:=by
  rw [hsA];refine(((Res.emit _ [_]).seq (Res.emit _ [_])).seq (Res.jump _ 35 2 12 _ 2 fun L hL=> ?_)).seq (Res.emit _ [_]);rw [j2 L hL];show wU (_-((((sP.code++ [_])++ [_]).length:Nat):Int))=2;rw [List.length_append,List.length_append,cP];show wU (_-((s.code.length+1+1:Nat):Int))=2;rw [show((s.code.length+4:Nat):Int)-((s.code.length+1+1:Nat):Int)=((2:Nat):Int) by omega];exact wN (by decide)
 have e1:sA.code.length=s.code.length+4:=by rw [g1.len,cP];rfl
 have g1b:Res K2 {s0 with labs:=s0.labs++ [((s.code.length+4:Nat):Int),0]} (sA.place lb) [qi 16 12 12 1,qi 16 2 0 12,qi 35 2 12 2,⟨49,0,0,0,0⟩]:=by
  rw [hsP]at g1;refine Res.relab [0,0] _ J g1 J J fun ls hls=> ?_
  show List.set sA.labs ((lb:Int).toNat) (sA.code.length:Int)=_;rw [hls,e1,Int.toNat_natCast,←l0];simp
 obtain⟨sB,hsB⟩:∃x,x=dj n ((((sA.place lb).push 15).push 13).emit [q3 1 13 14 0]):=⟨_,J⟩
 have g2:Res K2 (sA.place lb) sB (eK 15++(eK 13++([q3 1 13 14 0]++ie n))):=by
  rw [hsB];exact(Res.push _ 15).seq ((Res.push _ 13).seq ((Res.emit _ [_]).seq (qn n _)))
 have e2:sB.code.length=s.code.length+9+2*n:=by
  rw [g2.len];simp only [List.length_append,jm];show sA.code.length+_=_;rw [e1];simp only [eK,List.length_cons,List.length_nil];omega
 obtain⟨sC,hsC⟩:∃x,x=(gh (cT f).1 st (lb+1) f.body sB).emit [q3 1 1 0 0]:=⟨_,J⟩
 have g3:Res K2 sB sC (jX (cT f).1 S E f.body (s.code.length+9+2*n)++ [q3 1 1 0 0]):=by
  rw [hsC,←e2];exact(kP f.body sB j1 j3).seq (Res.emit _ _)
 have e3:sC.code.length=E:=by
  rw [g3.len,e2,hE];simp only [List.length_append,eC,List.length_cons,List.length_nil];omega
 have g4:=g1b.seq (g2.seq g3);have g5:=Res.relab (s2:=sC.place (lb+1)) [((s.code.length+4:Nat):Int),0] [((s.code.length+4:Nat):Int),(E:Int)] J g4 J J (fun ls hls=>by
  show List.set sC.labs (((lb:Int)+1).toNat) (sC.code.length:Int)=_;rw [hls,e3,show((lb:Int)+1).toNat=s0.labs.length+1 by omega,uL])
 have g6:=g5.seq ((Res.emit (sC.place (lb+1)) [q3 1 14 13 0]).seq ((Res.pop _ 13).seq ((Res.pop _ 15).seq ((Res.emit _ [qi 16 12 12 4294967295]).seq (Res.emit _ [qi 27 0 15 0])))));have g7:Res K s0 (((((sC.place (lb+1)).emit [q3 1 14 13 0]).pop 13).pop 15).emit [qi 16 12 12 4294967295] |>.emit [qi 27 0 15 0]) (zF S f s.code.length):=by
  refine Res.labels [((s.code.length+4:Nat):Int),(E:Int)] [((s.code.length+4:Nat):Int),(E:Int)] J (s':=((((sC.place (lb+1)).emit [q3 1 14 13 0]).pop 13).pop 15).emit [qi 16 12 12 4294967295] |>.emit [qi 27 0 15 0]) ?_ J J (fun ls h=>h);rw [←hK2];have:zF S f s.code.length=([qi 16 12 12 1,qi 16 2 0 12,qi 35 2 12 2,⟨49,0,0,0,0⟩]++((eK 15++(eK 13++([q3 1 13 14 0]++ie n)))++(jX (cT f).1 S E f.body (s.code.length+9+2*n)++ [q3 1 1 0 0])))++([q3 1 14 13 0]++(j7 13++(j7 15++([qi 16 12 12 4294967295]++ [qi 27 0 15 0])))):=by
   unfold zF;rw [hE,hn];simp only [List.append_assoc];rfl
  rw [this];exact g6
 rw [hs0]at g7;have:gF st f s=(((((sC.place (lb+1)).emit [q3 1 14 13 0]).pop 13).pop 15).emit [qi 16 12 12 4294967295] |>.emit [qi 27 0 15 0]):=by
  rw [hsC,hsB,hsA,←eP,hn,hlb];rfl
 rw [this];exact g7
def dz(st:Om):List Tf→Nat→List Int→List Int
 | [],_,l=>l
 | f::r,p,l=>dz st r (p+wF f) (l.set (bC st f.name).toNat p)
theorem lF(st:Om):∀(fs:List Tf)(p:Nat)(l:List Int),(dz st fs p l).length=l.length
 | [],_,_=>rfl
 | f::r,p,l=>by
  unfold dz;rw [lF st r,List.length_set]
theorem pD(st:Om):∀(fs:List Tf)(p:Nat)(a b:List Int),(∀f∈fs,(bC st f.name).toNat<a.length)→dz st fs p (a++b)=dz st fs p a++b
 | [],_,_,_,_=>rfl
 | f::r,p,a,b,h=>by
  unfold dz;rw [List.set_append_left _ _ (h f (by simp)),pD st r _ _ b fun g hg=>by rw [List.length_set];exact h g (by simp [hg])]
theorem zA{st:Om}{S:ByteArray→Int}(hK:∀L,K L→∀x,L (bC st x)=S x):∀(fs:List Tf)(s:Qg),(∀f∈fs,(bC st f.name).toNat<s.labs.length)→
  Res K {s with labs:=dz st fs s.code.length s.labs} (qs st fs s) (BU S fs s.code.length)
 | [],s,_=>Res.nil s
 | f::r,s,h=>by
  have hf:=h f (by simp);have g1:=Kd hK f s hf;have e1:(gF st f s).code.length=s.code.length+wF f:=by
   have:=g1.len;rw [wK]at this;exact this
  obtain⟨raw,fx,ls,a1,a2,a3,a4,a5,a6⟩:=g1.ex;have hl:(gF st f s).labs.length≥s.labs.length:=by
   rw [a4,List.length_append,List.length_set];omega
  have g2:=zA hK r (gF st f s) (fun g hg=>by have:=h g (by simp [hg]);omega);rw [e1]at g2;have hr:∀g∈r,(bC st g.name).toNat<(s.labs.set (bC st f.name).toNat s.code.length).length:=fun g hg=>by rw [List.length_set];exact h g (by simp [hg])
  have g3:Res K {s with labs:=dz st (f::r) s.code.length s.labs} {gF st f s with labs:=dz st r (s.code.length+wF f) (gF st f s).labs} (zF S f s.code.length):=by
   refine⟨⟨raw,fx,ls,a1,a2,a3,?_,a5,fun L hL hi=>a6 L hL fun i n hn=> ?_⟩⟩
   ·show dz st r _ (gF st f s).labs=_;rw [a4,pD st r _ _ _ hr];rfl
   ·have:=hi i n hn;show L (((s.labs.set (bC st f.name).toNat s.code.length).length+i:Nat):Int)=n;rw [List.length_set];rw [show({s with labs:=dz st (f::r) s.code.length s.labs}:Qg).labs.length=s.labs.length from lF st _ _ _]at this;exact this
  exact g3.seq g2
theorem Res.labs_le{K:(Int→Int)→Prop}{s s':Qg}{r:List Qi}(h:Res K s s' r):s.labs.length≤s'.labs.length:=by
 obtain⟨raw,fs,ls,-,-,-,a4,-⟩:=h.ex;rw [a4,List.length_append];omega
theorem DM(o st:Om)(t:Tx)(s:Qg):s.labs.length≤(gX o st t s).labs.length:=(xL (K:=fun _=>False) (S:=fun _=>0) (fun _ h=>h.elim) t s).labs_le
theorem zv(o st:Om)(t:List Tx)(s:Qg):s.labs.length≤(kQ o st t s).labs.length:=(oQ (K:=fun _=>False) (S:=fun _=>0) (fun _ h=>h.elim) t s).labs_le
theorem iU(o st:Om)(en:Int)(l:List Ty)(s:Qg):s.labs.length≤(gh o st en l s).labs.length:=(kP (K:=fun _=>False) (S:=fun _=>0) (E:=0) l s (fun _ h=>h.elim) (fun _ h=>h.elim)).labs_le
mutual
theorem ME(o st:Om)(en:Int):∀(t:Ty)(s:Qg),(gY o st en t s).sz≤s.sz+22*nY t
 | .mk k nm _ es _ body _ els,s=>by
  have hb:=i6 o st en body;have hl:=i6 o st en els;have h0:=xM o st es (s.lab.place s.labs.length);have h1:=zw o st es (s.lab.place s.labs.length);rw [bL,cd]at h0 h1;unfold gY nY;dsimp only;refine cE ?_ (cE ?_ (cE ?_ (cE ?_ (cE ?_ (cE ?_ (by omega))))))
  ·simp only [bz,List.length_singleton];omega
  ·simp only [bz,c9,dg,List.length_singleton];omega
  ·simp only [bz,List.length_singleton];omega
  ·simp only [bO];omega
  ·have b1:=hb (((kQ o st es (s.lab.place s.labs.length)).lab.lab).jump 32 1 0 (kQ o st es (s.lab.place s.labs.length)).labs.length);rw [bO,cd,cd]at b1;rw [bL];refine Nat.le_trans (hl _) ?_;rw [bL];have:(if els.length>0 then(gh o st en body (((kQ o st es (s.lab.place s.labs.length)).lab.lab).jump 32 1 0 (kQ o st es (s.lab.place s.labs.length)).labs.length)).jump 40 0 0 ((kQ o st es (s.lab.place s.labs.length)).labs.length+1)else gh o st en body (((kQ o st es (s.lab.place s.labs.length)).lab.lab).jump 32 1 0 (kQ o st es (s.lab.place s.labs.length)).labs.length)).sz≤s.sz+22*ey es+22*cw body+7:=by
    refine cE ?_ ?_
    ·rw [bO];omega
    ·omega
   omega
  ·have b1:=hb ((kQ o st es (s.lab.place s.labs.length)).lab.jump 32 1 0 (kQ o st es (s.lab.place s.labs.length)).labs.length);rw [bO,cd]at b1;rw [bL,bO];omega
theorem i6(o st:Om)(en:Int):∀(l:List Ty)(s:Qg),(gh o st en l s).sz≤s.sz+22*cw l
 | [],s=>Nat.le_add_right _ _
 | t::r,s=>by
  have h1:=ME o st en t s;have h2:=i6 o st en r (gY o st en t s);unfold gh cw;omega
end
theorem vG{o st:Om}{en:Int}:∀{l:List Ty}{i:Nat}{u:Ty}(s:Qg),l[i]?=some u→gh o st en (l.take (i+1)) s=gY o st en u (gh o st en (l.take i) s)
 | [],i,u,s,h=>by simp at h
 | x::r,0,u,s,h=>by cases h;rfl
 | x::r,i+1,u,s,h=>vG (l:=r) _ h
structure Wy(t:Ty):Prop where
 one:t.kind≠3→∃a,t.es= [a]
 two:t.kind=3→∃a b,t.es= [a,b]
 es:∀u∈t.es,rX u=true
 body:lu t.body=true
 els:lu t.els=true
theorem Lv{t:Ty}(h:rY t=true):Wy t:=by
 obtain⟨k,nm,ve,es,vb,body,vl,els⟩:=t;unfold rY at h;simp only [Bool.and_eq_true]at h;obtain⟨⟨⟨h1,h2⟩,h3⟩,h4⟩:=h;unfold ze at h1;simp only [Bool.and_eq_true,decide_eq_true_eq]at h1;have h5:=h1.1.1.1.2;refine⟨fun hk=> ?_,fun hk=> ?_,tp h2,h3,h4⟩
 ·rw [if_neg (show ¬k=3 from hk)]at h5;exact tA h5
 ·rw [if_pos (show k=3 from hk)]at h5;exact B9 h5
theorem yY:∀{l:List Ty},lu l=true→∀u∈l,rY u=true
 | [],_,_,h=>by simp at h
 | t::r,h,u,hu=>by
  unfold lu at h;rw [Bool.and_eq_true]at h;rcases List.mem_cons.1 hu with rfl|hu
  ·exact h.1
  ·exact yY h.2 u hu
abbrev iA(s:Qg):Qg:=s.lab.place s.labs.length
theorem MG{o st:Om}{en:Int}{t:Ty}{a:Tx}{s:Qg}(h:t.kind=1∨t.kind=2)(he:t.es= [a]):gY o st en t s=(gX o st a (iA s)).emit [qi 25 1 13 (bC o t.name)]:=by
 obtain⟨k,nm,ve,es,vb,body,vl,els⟩:=t;obtain rfl:es= [a]:=he;exact if_pos h
theorem PS{o st:Om}{en:Int}{t:Ty}{a b:Tx}{s:Qg}(h:t.kind=3)(he:t.es= [a,b]):gY o st en t s=(((gX o st b ((gX o st a (iA s)).push 1)).pop 2).elem 2).emit [qi 25 1 2 8192]:=by
 obtain⟨k,nm,ve,es,vb,body,vl,els⟩:=t;obtain rfl:es= [a,b]:=he;obtain rfl:k=3:=h;rfl
theorem PN{o st:Om}{en:Int}{t:Ty}{a:Tx}{s:Qg}(h:t.kind=7)(he:t.es= [a]):gY o st en t s=(gX o st a (iA s)).emit [⟨48,0,0,0,1⟩]:=by
 obtain⟨k,nm,ve,es,vb,body,vl,els⟩:=t;obtain rfl:es= [a]:=he;obtain rfl:k=7:=h;rfl
theorem PO{o st:Om}{en:Int}{t:Ty}{a:Tx}{s:Qg}(h:t.kind=6)(he:t.es= [a]):gY o st en t s=(gX o st a (iA s)).jump 40 0 0 en:=by
 obtain⟨k,nm,ve,es,vb,body,vl,els⟩:=t;obtain rfl:es= [a]:=he;obtain rfl:k=6:=h;rfl
theorem PQ{o st:Om}{en:Int}{t:Ty}{a:Tx}{s s1:Qg}(h:t.kind=4)(he:t.es= [a])(h1:s1=gX o st a (iA s)):gY o st en t s=
  (gh o st en t.els ((if t.els.length>0 then(gh o st en t.body ((s1.lab.lab).jump 32 1 0 s1.labs.length)).jump 40 0 0 (s1.labs.length+1)else gh o st en t.body ((s1.lab.lab).jump 32 1 0 s1.labs.length)).place s1.labs.length)).place (s1.labs.length+1):=by
 obtain⟨k,nm,ve,es,vb,body,vl,els⟩:=t;obtain rfl:es= [a]:=he;obtain rfl:k=4:=h;subst h1;rfl
theorem PP{o st:Om}{en:Int}{t:Ty}{a:Tx}{s s1:Qg}(h:t.kind=5)(he:t.es= [a])(h1:s1=gX o st a (iA s)):gY o st en t s=((gh o st en t.body (s1.lab.jump 32 1 0 s1.labs.length)).jump 40 0 0 s.labs.length).place s1.labs.length:=by
 obtain⟨k,nm,ve,es,vb,body,vl,els⟩:=t;obtain rfl:es= [a]:=he;obtain rfl:k=5:=h;subst h1;rfl
theorem PM{o st:Om}{en:Int}{t:Ty}{a:Tx}{s:Qg}(n1:¬t.kind=1)(n2:¬t.kind=2)(n3:¬t.kind=3)(n4:¬t.kind=4)(n5:¬t.kind=5)(n6:¬t.kind=6)(n7:¬t.kind=7)(he:t.es= [a]):gY o st en t s=gX o st a (iA s):=by
 obtain⟨k,nm,ve,es,vb,body,vl,els⟩:=t;obtain rfl:es= [a]:=he;have n1:¬k=1:=n1;have n2:¬k=2:=n2;have n3:¬k=3:=n3;have n4:¬k=4:=n4;have n5:¬k=5:=n5;have n6:¬k=6:=n6;have n7:¬k=7:=n7;unfold gY;dsimp only;rw [if_neg (fun h=>h.elim n1 n2),if_neg n3,if_neg n7,if_neg n6,if_neg n4,if_neg n5];rfl
theorem lU{t:Ty}{a:Tx}{r:List Tx}(hw:Wy t)(h:t.kind≠3)(he:t.es=a::r):t.es= [a]:=by
 obtain⟨b,hb⟩:=hw.one h;rw [hb]at he;cases he;exact hb
theorem Kl{t:Ty}{a:Tx}{r:List Tx}(hw:Wy t)(h:t.kind=3)(he:t.es=a::r):∃b,t.es= [a,b]:=by
 obtain⟨c,b,hb⟩:=hw.two h;rw [hb]at he;cases he;exact⟨b,hb⟩
theorem DB(e:Ga)(c:Oq)(om sm:Om)(hm:e.mp=c.m)(t:Ty)(hw:Wy t)(hg:GY t)(ihb:∀s:Qg,s.sz+22*cw t.body≤780000→Spec prog 96 [.pointer (some ⟨e.g,0,none⟩),sv t.vb] [gA e s] [bF t.vb t.body,gZ e.g c,mp fH Prod.fst vQ e.mo om,mp fH Prod.fst vI (some e.ms) sm] (X:=Unit) (fun _=>True) (fun _=> .tuple #[]) (fun _=> [gA e (gh om sm e.en t.body s)]) (fun _=> []))(ihe:∀s:Qg,s.sz+22*cw t.els≤780000→Spec prog 96 [.pointer (some ⟨e.g,0,none⟩),sv t.vl] [gA e s] [bF t.vl t.els,gZ e.g c,mp fH Prod.fst vQ e.mo om,mp fH Prod.fst vI (some e.ms) sm] (X:=Unit) (fun _=>True) (fun _=> .tuple #[]) (fun _=> [gA e (gh om sm e.en t.els s)]) (fun _=> []))(s:Qg)(hz:s.sz+22*nY t≤780000)(he0:0≤e.en):
  Spec prog 130 [.pointer (some ⟨e.g,0,none⟩),yV t] [gA e s] [bS t.ve t.es,bF t.vb t.body,bF t.vl t.els,gZ e.g c,mp fH Prod.fst vQ e.mo om,mp fH Prod.fst vI (some e.ms) sm] (X:=Unit) (fun _=>True) (fun _=> .tuple #[]) (fun _=> [gA e (gY om sm e.en t s)]) (fun _=> []):=by
 refine aI func130 J ntmps130 J fun w0 M H=>aW 0 9 J eW (aW 2 11 J fQ ?_)
 have hne:=C6 t;obtain⟨a,ra,hea⟩:∃a r,t.es=a::r:=by
  by_cases h3:t.kind=3
  ·obtain⟨a,b,h⟩:=hw.two h3;exact⟨a,[b],h⟩
  ·obtain⟨a,h⟩:=hw.one h3;exact⟨a,[],h⟩
 have hna:ey t.es=nX a+ey ra:=by rw [hea];rfl
 have ham:a∈t.es:=by rw [hea];simp
 have hgt:(iA s).sz=s.sz+1:=by rw [bL,cd]
 have hsa:=lC om sm a (iA s);rw [hgt]at hsa;have hla:=DM om sm a (iA s);refine aj (bU J J fun b3=>aG J (ad J J (ak (xs:= [.tmp 8]) (eH e (s) (by omega)) ug [0] [] [0] (fun _ _=>ai J J (aG J (ad J J (ad J J (ak (xs:= [.tmp 10,.tmp 11]) (dR e (s.lab) (by rw [cd];omega) ((s.labs.length:Int)) (by simp [Qg.lab];omega)) qM [0] [] [0] (fun _ _=>aG J (ad J J (az e9 J J ?_)))))))))));refine aP 3 ij J J J J J (aO (aR (j:=0) underlying59 co J J (aN (k:=9) J) J (by rw [hea];simp)) J ?_);refine aO (aL co J J J (bD (aN (k:=9) J) (by intro _;rfl) (show t.es[0]?=some a by rw [hea];rfl) (by rfl))) J ?_;refine aW 0 10 J (cS ham) (ak (xs:= [.tmp 13,.tmp 17]) (vE e c om sm hm a (hw.es _ ham) ((na hg).2.mem _ ham) (iA s) (by omega)) qO [0] [(false,10),(false,3),(false,4),(false,5)] [0] (fun _ _=>aG J (az dT J J (aP 3 t3 J J J J J (ac (aB (aS (ar J J aY J (ai J J (ac (ae J (fun h1=> ?_) (fun h1=> ?_))))))))))))
 ·(try simp only [be]at h1)
  have k1:t.kind=1:=h1;refine ax (ae J (fun h2=> ?_) (fun h2=> ?_))
  ·(try simp only [be]at h2)
   rw [MG (.inl k1) (lU hw (by omega) hea)];refine bH [24,25,26,27,28,29,30,31,32] _ J (bk (V:= [(0,24,_),(1,25,_),(2,26,_),(3,27,_),(4,28,_),(5,29,_),(6,30,_),(7,31,_)]) [0,1,2,3,4,5,6,7] 8 [8,7,6,5,4,3,2,1,0] [] (fun _=> []) J J (aa (aD J (am J)) (aa (aD J (am J)) (aa (aD J (aF J)) (aa (aD J (ag kX J)) (aa (aD J (ah AL J J (nI (k:=0) J (fun _=>J) J))) (aa (aD J (ag gn J)) (aa (aD J (ah t9 J J (ay (k:=3) J J))) (aa (aD J (CU underlying108 eg cB J J (sk (k:=4) J))) aw)))))))) J J J J J J J J J J J (fun _ _=>J) J (bq (xs:= [.tmp 24,.const (.int .i64 25),.const (.int .i64 1),.const (.int .i64 13),.tmp 31]) (cK e (gX om sm a (iA s)) (by omega) 25 1 13 (bC om t.name)) iN [0] [] [0] J J J J J J J J (fun _ _=>J) (fun _ _ _=>J)) (fun _ _=>bp [] J J aw J J J (bW () O J ff J [0] [] J J J)))
  ·exact absurd k1 (of_decide_eq_false h2)
 ·(try simp only [be]at h1)
  have n1:¬t.kind=1:=h1;refine ap (ar J J aY J (ai J J (ac (ae J (fun h3=> ?_) (fun h3=> ?_)))))
  ·(try simp only [be]at h3)
   have k2:t.kind=2:=h3;rw [MG (.inr k2) (lU hw (by omega) hea)];refine bH [24,25,26,27,28,29,30,31,32] _ J (bk (V:= [(0,24,_),(1,25,_),(2,26,_),(3,27,_),(4,28,_),(5,29,_),(6,30,_),(7,31,_)]) [0,1,2,3,4,5,6,7] 8 [8,7,6,5,4,3,2,1,0] [] (fun _=> []) J J (aa (aD J (am J)) (aa (aD J (am J)) (aa (aD J (aF J)) (aa (aD J (ag kX J)) (aa (aD J (ah AL J J (nI (k:=0) J (fun _=>J) J))) (aa (aD J (ag gn J)) (aa (aD J (ah t9 J J (ay (k:=3) J J))) (aa (aD J (CU underlying108 eg cB J J (sk (k:=4) J))) aw)))))))) J J J J J J J J J J J (fun _ _=>J) J (bq (xs:= [.tmp 24,.const (.int .i64 25),.const (.int .i64 1),.const (.int .i64 13),.tmp 31]) (cK e (gX om sm a (iA s)) (by omega) 25 1 13 (bC om t.name)) iN [0] [] [0] J J J J J J J J (fun _ _=>J) (fun _ _ _=>J)) (fun _ _=>bp [] J J aw J J J (bW () O J ff J [0] [] J J J)))
  ·(try simp only [be]at h3)
   have n2:¬t.kind=2:=h3;refine aj (ar J J aY J (ai J J (ac (ae J (fun h4=> ?_) (fun h4=> ?_)))))
   ·(try simp only [be]at h4)
    have hk:t.kind=3:=h4;obtain⟨b,heb⟩:=Kl hw hk hea;have hbm:b∈t.es:=by rw [heb];simp
    have hnb:ey t.es=nX a+nX b:=by rw [heb];simp [ey]
    have hsb:=lC om sm b ((gX om sm a (iA s)).push 1);rw [cv]at hsb;rw [PS hk heb];refine aj (ad J J (ak (xs:= [.tmp 35,.const (.int .i64 1)]) (h_ e (gX om sm a (iA s)) (by omega) 1) BA [0] [] [0] (fun _ _=>aG J (ad J J (az e9 J J (aP 3 ij J J J J J (aO (aR (j:=1) underlying59 co J J (aN (k:=9) J) J (by rw [heb];simp)) J ?_)))))));refine aO (aL co J J J (bD (aN (k:=9) J) (by intro _;rfl) (show t.es[1]?=some b by rw [heb];rfl) (by rfl))) J ?_;refine aW 0 10 J (cS hbm) (ak (xs:= [.tmp 37,.tmp 41]) (vE e c om sm hm b (hw.es _ hbm) ((na hg).2.mem _ hbm) ((gX om sm a (iA s)).push 1) (by rw [cv];omega)) qO [0] [(false,10),(false,3),(false,4),(false,5)] [0] (fun _ _=>aG J (ad J J (ak (xs:= [.tmp 43,.const (.int .i64 2)]) (mA e (gX om sm b ((gX om sm a (iA s)).push 1)) (by omega) 2) He [0] [] [0] (fun _ _=>aG J (ad J J (ak (xs:= [.tmp 45,.const (.int .i64 2)]) (sG e ((gX om sm b ((gX om sm a (iA s)).push 1)).pop 2) (by rw [dg];omega) 2) Iw [0] [] [0] (fun _ _=>ac (ap (ad J J (ak (xs:= [.tmp 47,.const (.int .i64 25),.const (.int .i64 1),.const (.int .i64 2),.const (.int .u32 8192)]) (cK e (((gX om sm b ((gX om sm a (iA s)).push 1)).pop 2).elem 2) (by rw [c9,dg];omega) 25 1 2 8192) iN [0] [] [0] (fun _ _=>ac (bW () O J ff J [0] [] J J J)))))))))))))
   ·(try simp only [be]at h4)
    have n3:¬t.kind=3:=h4;refine aj (ar J J aY J (ai J J (ac (ae J (fun h5=> ?_) (fun h5=> ?_)))))
    ·(try simp only [be]at h5)
     have hk:t.kind=7:=h5;rw [PN hk (lU hw (by omega) hea)];refine ap (ad J J (aO (aV (parts:= [(0,.const (.int .i64 48)),(4,.const (.int .u32 1))]) ew lw J J) J (bA gL ⟨48,0,0,0,1⟩ underlying106 ew J (by decide) (by decide) J J J J fun v53=>cf 53 7 J bB (ak (xs:= [.tmp 51,.tmp 53]) (gp e (gX om sm a (iA s)) (by omega) v53 [⟨48,0,0,0,1⟩] (by simp)) wm [0] [(false,7)] [0] (fun _ _=>ac (bW () O J ff J [0] [] J J J))))))
    ·(try simp only [be]at h5)
     have n7:¬t.kind=7:=h5;refine aj (ar J J aY J (ai J J (ac (ae J (fun h6=> ?_) (fun h6=> ?_)))))
     ·(try simp only [be]at h6)
      have hk:t.kind=6:=h6;rw [PO hk (lU hw (by omega) hea)];refine ap (ad J J (ad J J (bG J J (az t7 J J (aO (ah t3 J J (nI (k:=0) J (fun _=>J) J)) J (ak (xs:= [.tmp 57,.const (.int .i64 40),.const (.int .i64 0),.const (.int .i64 0),.tmp 61]) (eT e (gX om sm a (iA s)) (by omega) 40 0 0 e.en) rS [0] [] [0] (fun _ _=>ac (bW () O J ff J [0] [] J J J))))))))
     ·(try simp only [be]at h6)
      have n6:¬t.kind=6:=h6;refine aj (ar J J aY J (ai J J (ac (ae J (fun h7=> ?_) (fun h7=> ?_)))))
      ·(try simp only [be]at h7)
       have hk:t.kind=4:=h7;obtain⟨s1,hs1⟩:∃s1,s1=gX om sm a (iA s):=⟨_,J⟩
       rw [PQ hk (lU hw (by omega) hea) hs1];rw [←hs1]at hsa hla ⊢;have hb:=i6 om sm e.en t.body ((s1.lab.lab).jump 32 1 0 s1.labs.length);rw [bO,cd,cd]at hb;have lb:=iU om sm e.en t.body ((s1.lab.lab).jump 32 1 0 s1.labs.length);have ll:((s1.lab.lab).jump 32 1 0 s1.labs.length).labs.length=s1.labs.length+2:=by simp [Qg.lab,Qg.jump]
       
       refine aj (ad J J (ak (xs:= [.tmp 65]) (eH e (s1) (by omega)) ug [0] [] [0] (fun _ _=>ad J J (ak (xs:= [.tmp 67]) (eH e (s1.lab) (by rw [cd];omega)) ug [0] [] [0] (fun _ _=> ?_)))))
       with_reducible rw [show((s1.lab.labs.length:Nat):Int)=(s1.labs.length:Int)+1 from by simp [Qg.lab]]
       refine ai J J (ai J J (aG J (ad J J (ad J J (ak (xs:= [.tmp 69,.const (.int .i64 32),.const (.int .i64 1),.const (.int .i64 0),.tmp 70]) (eT e (s1.lab.lab) (by rw [cd,cd];omega) 32 1 0 (s1.labs.length:Int)) rS [0] [] [0] (fun _ _=>aG J (ad J J (az fi J J (aP 3 hQ J J J J J (ak (xs:= [.tmp 72,.tmp 74]) (ihb ((s1.lab.lab).jump 32 1 0 s1.labs.length) (by rw [bO,cd,cd];omega)) Em [0] [(false,1),(false,3),(false,4),(false,5)] [0] (fun _ _=>ac (aS (az ez J J ?_)))))))))))));refine aP 3 hQ J J J J J (aO (aU underlying62 J (aN (k:=11) J)) J (ar J J dV J (ac (ae J (fun h8=> ?_) (fun h8=> ?_)))))
       ·(try simp only [be]at h8)
        obtain⟨sC,hC⟩:∃sC,sC=(gh om sm e.en t.body ((s1.lab.lab).jump 32 1 0 s1.labs.length)).jump 40 0 0 (s1.labs.length+1):=⟨_,J⟩
        rw [if_pos (show t.els.length>0 by omega),←hC];have hsC:sC.sz≤s1.sz+22*cw t.body+6∧s1.labs.length+2≤sC.labs.length:=by rw [hC];(refine⟨?_,?_⟩;rw [bO];omega;show _≤(gh om sm e.en t.body ((s1.lab.lab).jump 32 1 0 s1.labs.length)).labs.length;omega)
        have hle:=i6 om sm e.en t.els (sC.place s1.labs.length);rw [bL]at hle;have lle:=iU om sm e.en t.els (sC.place s1.labs.length);have lpl:(sC.place s1.labs.length).labs.length=sC.labs.length:=by simp [Qg.place]
        refine ap (ad J J (ad J J (ak (xs:= [.tmp 80,.const (.int .i64 40),.const (.int .i64 0),.const (.int .i64 0),.tmp 81]) (eT e (gh om sm e.en t.body ((s1.lab.lab).jump 32 1 0 s1.labs.length)) (by omega) 40 0 0 (s1.labs.length+1)) rS [0] [] [0] (fun _ _=> ?_))));rw [←hC];refine aG J (ad J J (ad J J (ak (xs:= [.tmp 83,.tmp 84]) (dR e (sC) (by omega) ((s1.labs.length:Int)) (by omega)) qM [0] [] [0] (fun _ _=>aG J (ad J J (az ez J J (aP 3 hQ J J J J J (ak (xs:= [.tmp 86,.tmp 88]) (ihe (sC.place s1.labs.length) (by rw [bL];omega)) Em [0] [(false,2),(false,3),(false,4),(false,5)] [0] (fun _ _=>ac (ap (ad J J (ad J J (ak (xs:= [.tmp 90,.tmp 91]) (dR e (gh om sm e.en t.els (sC.place s1.labs.length)) (by omega) ((s1.labs.length+1:Int)) (by omega)) qM [0] [] [0] (fun _ _=>ac (bW () O J ff J [0] [] J J J)))))))))))))))
       ·(try simp only [be]at h8)
        obtain⟨sC,hC⟩:∃sC,sC=gh om sm e.en t.body ((s1.lab.lab).jump 32 1 0 s1.labs.length):=⟨_,J⟩
        rw [if_neg (show ¬t.els.length>0 by omega),←hC];have hsC:sC.sz≤s1.sz+22*cw t.body+6∧s1.labs.length+2≤sC.labs.length:=by rw [hC];(refine⟨?_,?_⟩<;>omega)
        have hle:=i6 om sm e.en t.els (sC.place s1.labs.length);rw [bL]at hle;have lle:=iU om sm e.en t.els (sC.place s1.labs.length);have lpl:(sC.place s1.labs.length).labs.length=sC.labs.length:=by simp [Qg.place]
        refine ax (aj (ad J J (ad J J (ak (xs:= [.tmp 83,.tmp 84]) (dR e (sC) (by omega) ((s1.labs.length:Int)) (by omega)) qM [0] [] [0] (fun _ _=>aG J (ad J J (az ez J J (aP 3 hQ J J J J J (ak (xs:= [.tmp 86,.tmp 88]) (ihe (sC.place s1.labs.length) (by rw [bL];omega)) Em [0] [(false,2),(false,3),(false,4),(false,5)] [0] (fun _ _=>ac (ap (ad J J (ad J J (ak (xs:= [.tmp 90,.tmp 91]) (dR e (gh om sm e.en t.els (sC.place s1.labs.length)) (by omega) ((s1.labs.length+1:Int)) (by omega)) qM [0] [] [0] (fun _ _=>ac (bW () O J ff J [0] [] J J J))))))))))))))))
      ·(try simp only [be]at h7)
       have n4:¬t.kind=4:=h7;refine aj (ar J J aY J (ai J J (ac (ae J (fun h9=> ?_) (fun h9=> ?_)))))
       ·(try simp only [be]at h9)
        have hk:t.kind=5:=h9;obtain⟨s1,hs1⟩:∃s1,s1=gX om sm a (iA s):=⟨_,J⟩
        rw [PP hk (lU hw (by omega) hea) hs1];rw [←hs1]at hsa hla ⊢;have hb:=i6 om sm e.en t.body (s1.lab.jump 32 1 0 s1.labs.length);rw [bO,cd]at hb;have lb:=iU om sm e.en t.body (s1.lab.jump 32 1 0 s1.labs.length);have ll:(s1.lab.jump 32 1 0 s1.labs.length).labs.length=s1.labs.length+1:=by simp [Qg.lab,Qg.jump]
        have lj:((gh om sm e.en t.body (s1.lab.jump 32 1 0 s1.labs.length)).jump 40 0 0 s.labs.length).labs.length=(gh om sm e.en t.body (s1.lab.jump 32 1 0 s1.labs.length)).labs.length:=by simp [Qg.jump]
        refine aj (ad J J (ak (xs:= [.tmp 95]) (eH e (s1) (by omega)) ug [0] [] [0] (fun _ _=>ai J J (aG J (ad J J (ad J J (ak (xs:= [.tmp 97,.const (.int .i64 32),.const (.int .i64 1),.const (.int .i64 0),.tmp 98]) (eT e (s1.lab) (by rw [cd];omega) 32 1 0 (s1.labs.length:Int)) rS [0] [] [0] (fun _ _=>aG J (ad J J (az fi J J (aP 3 hQ J J J J J (ak (xs:= [.tmp 100,.tmp 102]) (ihb (s1.lab.jump 32 1 0 s1.labs.length) (by rw [bO,cd];omega)) Em [0] [(false,1),(false,3),(false,4),(false,5)] [0] (fun _ _=>ac (a_ ?_))))))))))))));refine ap (ad J J (ad J J (ak (xs:= [.tmp 104,.const (.int .i64 40),.const (.int .i64 0),.const (.int .i64 0),.tmp 105]) (eT e (gh om sm e.en t.body (s1.lab.jump 32 1 0 s1.labs.length)) (by omega) 40 0 0 (s.labs.length:Int)) rS [0] [] [0] (fun _ _=>ac (ap (ad J J (ad J J (ak (xs:= [.tmp 107,.tmp 108]) (dR e ((gh om sm e.en t.body (s1.lab.jump 32 1 0 s1.labs.length)).jump 40 0 0 s.labs.length) (by rw [bO];omega) ((s1.labs.length:Int)) (by omega)) qM [0] [] [0] (fun _ _=>ac (bW () O J ff J [0] [] J J J))))))))))
       ·(try simp only [be]at h9)
        have n5:¬t.kind=5:=h9;rw [PM n1 n2 n3 n4 n5 n6 n7 (lU hw (by omega) hea)];refine ax (bW () O J ff J [0] [] J J J)
theorem DH(e:Ga)(c:Oq)(om sm:Om)(v:SV)(l:List Ty)(hl:l.length≤1000000)(ih:∀u∈l,∀s:Qg,s.sz+22*nY u≤780000→Spec prog 130 [.pointer (some ⟨e.g,0,none⟩),yV u] [gA e s] [bS u.ve u.es,bF u.vb u.body,bF u.vl u.els,gZ e.g c,mp fH Prod.fst vQ e.mo om,mp fH Prod.fst vI (some e.ms) sm] (X:=Unit) (fun _=>True) (fun _=> .tuple #[]) (fun _=> [gA e (gY om sm e.en u s)]) (fun _=> []))(s:Qg)(hz:s.sz+22*cw l≤780000):
  Spec prog 96 [.pointer (some ⟨e.g,0,none⟩),sv v] [gA e s] [bF v l,gZ e.g c,mp fH Prod.fst vQ e.mo om,mp fH Prod.fst vI (some e.ms) sm] (X:=Unit) (fun _=>True) (fun _=> .tuple #[]) (fun _=> [gA e (gh om sm e.en l s)]) (fun _=> []):=by
 refine aI func96 J ntmps96 J fun w0 M H=>aW 0 9 J fQ (aj (ad J J (aO (aU underlying62 J (aN (k:=9) J)) J (ad J J (ac (aB (bv (X:=Nat) (fun i=>i≤l.length) (fun i=> [(0,.pointer (some ⟨e.g,0,none⟩)),(6,sv v),(7,.int .i64 (l.length:Int)),(8,.int .i64 (i:Int))]) (fun i=> [(0,gA e (gh om sm e.en (l.take i) s))]) (fun i=> [(0,bF v l),(1,gZ e.g c),(2,mp fH Prod.fst vQ e.mo om),(3,mp fH Prod.fst vI (some e.ms) sm),(9,sl 5 eu (sv v) l)]) (fun i=>l.length-i) 0 (Nat.zero_le _) J J J (fun i n1=>aj (ar J J ci J (ac (a_ (ae J (fun h1=> ?_) (fun h1=> ?_)))))))))))))
 ·(try simp only [be]at h1)
  have hi:i<l.length:=by omega
  obtain⟨kid,hkid⟩:∃k,l[i]?=some k:=⟨_,List.getElem?_eq_getElem hi⟩
  have hkm:=List.mem_of_getElem? hkid;have hle:=lQ l (i+1);rw [gG hkid]at hle;have hsi:=i6 om sm e.en (l.take i) s;refine ax (a_ (aB (aj (aO (aR (j:=i) underlying62 dJ J J (aN (k:=9) J) (by first|rfl|omega) (by first|omega|(simp;done)|(simp;omega))) J (aO (aL dJ J J J (bD (aN (k:=9) J) (by intro _;rfl) hkid (by rfl))) J (aZ dJ J J fun b5=>aq (k:=5) dJ J J J J J J (ac (ap (ad J J (aO (aL dJ J J J (aX (k:=5) J)) J (aW 0 11 J (jn hkm) (aW 0 12 J (fF hkm) (aW 0 13 J (gt hkm) (ak (xs:= [.tmp 12,.tmp 13]) (ih kid hkm (gh om sm e.en (l.take i) s) (by omega)) NQ [0] [(false,11),(false,12),(false,13),(false,1),(false,2),(false,3)] [0] (fun _ _=>ac (ap (ar J J (bi (by first|exact bc (by omega) (by omega)|rfl)) J ?_)))))))))))))))));refine ad J J (ac ?_);refine aM (i+1) ⟨by omega,by omega⟩ J (by rw [vG s hkid];rfl) J
 ·(try simp only [be]at h1)
  have hi:i=l.length:=by omega
  subst hi;rw [List.take_length];refine bx (bW () O J ff J [0] [] J J J)
theorem tO(e:Ga)(c:Oq)(om sm:Om)(hm:e.mp=c.m)(he0:0≤e.en):∀(n:Nat)(v:SV)(l:List Ty),SizeOf.sizeOf l<n→lu l=true→GYs l→l.length≤1000000→∀s:Qg,s.sz+22*cw l≤780000→Spec prog 96 [.pointer (some ⟨e.g,0,none⟩),sv v] [gA e s] [bF v l,gZ e.g c,mp fH Prod.fst vQ e.mo om,mp fH Prod.fst vI (some e.ms) sm] (X:=Unit) (fun _=>True) (fun _=> .tuple #[]) (fun _=> [gA e (gh om sm e.en l s)]) (fun _=> [])
 | 0,_,_,h,_,_,_=>absurd h (Nat.not_lt_zero _)
 | n+1,v,l,h,hr,hg,hl=>fun s hz=>DH e c om sm v l hl (fun u hu s hz=>by
   have hlt:=List.sizeOf_lt_of_mem hu;have hw:=Lv (yY hr u hu);have hgu:=hg.mem u hu;have hb:SizeOf.sizeOf u.body<SizeOf.sizeOf u:=by cases u;simp [Ty.body];omega
   have hl':SizeOf.sizeOf u.els<SizeOf.sizeOf u:=by cases u;simp [Ty.els];omega
   exact DB e c om sm hm u hw hgu (fun s hz=>tO e c om sm hm he0 n u.vb u.body (by omega) hw.body (dY hgu).2 (dY hgu).1 s hz) (fun s hz=>tO e c om sm hm he0 n u.vl u.els (by omega) hw.els (e_ hgu).2 (e_ hgu).1 s hz) s hz he0) s hz
theorem DI(e:Ga)(c:Oq)(om sm:Om)(hm:e.mp=c.m)(he0:0≤e.en)(v:SV)(l:List Ty)(hr:lu l=true)(hg:GYs l)(hl:l.length≤1000000)(s:Qg)(hz:s.sz+22*cw l≤780000):Spec prog 96 [.pointer (some ⟨e.g,0,none⟩),sv v] [gA e s] [bF v l,gZ e.g c,mp fH Prod.fst vQ e.mo om,mp fH Prod.fst vI (some e.ms) sm] (X:=Unit) (fun _=>True) (fun _=> .tuple #[]) (fun _=> [gA e (gh om sm e.en l s)]) (fun _=> []):=tO e c om sm hm he0 _ v l (Nat.lt_succ_self _) hr hg hl s hz
theorem vM:∀{l:List Ty}{i:Nat}{u:Ty}(p:Om×Int),l[i]?=some u→gDs (l.take (i+1)) p=gD u (gDs (l.take i) p)
 | [],i,u,p,h=>by simp at h
 | x::r,0,u,p,h=>by cases h;rfl
 | x::r,i+1,u,p,h=>vM (l:=r) _ h
theorem DV(t:Ty)(p:Om×Int):gD t p=gDs t.els (gDs t.body (if t.kind=1 then(d8 p.1 t.name (wU (-(4*(p.2+1)))),p.2+1)else p)):=by cases t;rfl
mutual
theorem P0:∀(t:Ty)(p:Om×Int),(gD t p).2=p.2+vY t
 | .mk k nm _ _ _ body _ els,p=>by
  rw [DV];show(gDs els (gDs body _)).2=_;rw [oc els,oc body];unfold vY;show(if k=1 then _ else p).2+_+_=_;by_cases h:k=1
  ·rw [if_pos h,if_pos h];show p.2+1+_+_=_;omega
  ·rw [if_neg h,if_neg h];omega
theorem oc:∀(l:List Ty)(p:Om×Int),(gDs l p).2=p.2+cL l
 | [],p=>by show p.2=p.2+((0:Nat):Int);omega
 | t::r,p=>by
  show(gDs r (gD t p)).2=_;rw [oc r,P0 t,show cL (t::r)=vY t+cL r from J];omega
end
theorem Bo(g:Nat)(vp:SV)(ms mo mq:Nat)(en:Int)(s:Qg)(cb:Nat)(v:SV)(l:List Ty)(hl:l.length≤1000000)(ihb:∀u∈l,∀p:Om×Int,0≤p.2→p.2+cL u.body≤1000000→Spec prog 94 [.pointer (some ⟨g,0,none⟩),sv u.vb,.pointer (some ⟨cb,0,none⟩)] [gA (⟨g,vp,ms,some mo,mq,en⟩:Ga) s,mp fH Prod.fst vQ (some mo) (p).1,bj cb 3 [.int .i64 (p).2]] [bF u.vb u.body] (X:=Unit) (fun _=>True) (fun _=> .tuple #[]) (fun _=> [gA (⟨g,vp,ms,some mo,mq,en⟩:Ga) s,mp fH Prod.fst vQ (some mo) (gDs u.body p).1,bj cb 3 [.int .i64 (gDs u.body p).2]]) (fun _=> []))(ihe:∀u∈l,∀p:Om×Int,0≤p.2→p.2+cL u.els≤1000000→Spec prog 94 [.pointer (some ⟨g,0,none⟩),sv u.vl,.pointer (some ⟨cb,0,none⟩)] [gA (⟨g,vp,ms,some mo,mq,en⟩:Ga) s,mp fH Prod.fst vQ (some mo) (p).1,bj cb 3 [.int .i64 (p).2]] [bF u.vl u.els] (X:=Unit) (fun _=>True) (fun _=> .tuple #[]) (fun _=> [gA (⟨g,vp,ms,some mo,mq,en⟩:Ga) s,mp fH Prod.fst vQ (some mo) (gDs u.els p).1,bj cb 3 [.int .i64 (gDs u.els p).2]]) (fun _=> []))(p:Om×Int)(h0:0≤p.2)(hn:p.2+cL l≤1000000):
  Spec prog 94 [.pointer (some ⟨g,0,none⟩),sv v,.pointer (some ⟨cb,0,none⟩)] [gA (⟨g,vp,ms,some mo,mq,en⟩:Ga) s,mp fH Prod.fst vQ (some mo) (p).1,bj cb 3 [.int .i64 (p).2]] [bF v l] (X:=Unit) (fun _=>True) (fun _=> .tuple #[]) (fun _=> [gA (⟨g,vp,ms,some mo,mq,en⟩:Ga) s,mp fH Prod.fst vQ (some mo) (gDs l p).1,bj cb 3 [.int .i64 (gDs l p).2]]) (fun _=> []):=by
 refine aI func94 J ntmps94 J fun w0 M H=>aW 0 9 J fQ (aj (ad J J (aO (aU underlying62 J (aN (k:=9) J)) J (ad J J (ac (aB (bv (X:=Nat) (fun i=>i≤l.length) (fun i=> [(0,.pointer (some ⟨g,0,none⟩)),(2,.pointer (some ⟨cb,0,none⟩)),(8,sv v),(9,.int .i64 (l.length:Int)),(10,.int .i64 (i:Int))]) (fun i=> [(0,gA (⟨g,vp,ms,some mo,mq,en⟩:Ga) s),(1,mp fH Prod.fst vQ (some mo) (gDs (l.take i) p).1),(2,bj cb 3 [.int .i64 (gDs (l.take i) p).2])]) (fun i=> [(0,bF v l),(9,sl 5 eu (sv v) l)]) (fun i=>l.length-i) 0 (Nat.zero_le _) J J J (fun i n1=>aj (ar J J ci J (ac (a_ (ae J (fun h1=> ?_) (fun h1=> ?_)))))))))))))
 ·(try simp only [be]at h1)
  have hi:i<l.length:=by omega
  obtain⟨kid,hkid⟩:∃k,l[i]?=some k:=⟨_,List.getElem?_eq_getElem hi⟩
  have hkm:=List.mem_of_getElem? hkid;have hn1:=oc (l.take i) p;have hn2:=oc (l.take (i+1)) p;have hvt:=i_ hkid;have hvl:=nS hkid;have hve:=B7 kid;obtain⟨q,hq⟩:∃q,q=(if kid.kind=1 then(d8 (gDs (l.take i) p).1 kid.name (wU (-(4*((gDs (l.take i) p).2+1)))),(gDs (l.take i) p).2+1)else gDs (l.take i) p):=⟨_,J⟩
  have hq2:q.2=(gDs (l.take i) p).2+((if kid.kind=1 then 1 else 0:Nat):Int):=by rw [hq];split<;>simp
  refine ax (a_ (aB (aj (aO (aR (j:=i) underlying62 dJ J J (aN (k:=9) J) (by first|rfl|omega) (by first|omega|(simp;done)|(simp;omega))) J (aO (aL dJ J J J (bD (aN (k:=9) J) (by intro _;rfl) hkid (by rfl))) J (aZ dJ J J fun b7=>aq (k:=7) dJ J J J J J J (ac (br (X:=Unit) (fun _=>True) (fun _=> [(0,.pointer (some ⟨g,0,none⟩)),(2,.pointer (some ⟨cb,0,none⟩)),(7,.pointer (some ⟨b7,0,none⟩)),(8,sv v),(9,.int .i64 (l.length:Int)),(10,.int .i64 (i:Int))]) (fun _=> [(0,gA (⟨g,vp,ms,some mo,mq,en⟩:Ga) s),(1,mp fH Prod.fst vQ (some mo) q.1),(2,bj cb 3 [.int .i64 q.2]),(7,bj b7 64 (eu kid))]) (fun _=> [(0,bF v l),(9,sl 5 eu (sv v) l)]) ?_ (fun _ _=> ?_)))))))))
  ·refine aj (az dT J J (aP 7 t3 J J J J J (ar J J aY J (ac (ae J (fun h2=> ?_) (fun h2=> ?_))))))
   ·(try simp only [be]at h2)
    have hk:kid.kind=1:=h2;rw [if_pos hk]at hve;have hqe:q=(d8 (gDs (l.take i) p).1 kid.name (wU (-(4*((gDs (l.take i) p).2+1)))),(gDs (l.take i) p).2+1):=by rw [hq,if_pos hk]
    refine aj (ad J J (bG J J (aP 2 t3 J J J J J (ar J J (bi (by first|exact bc (by omega) (by omega)|rfl)) J (bG J J (aK (k:=2) t3 J J J J J J J J (ac ?_)))))));refine bH [22,23,24,25,26,27,28,29,30,31,32,33] _ J (bI (V:= [(0,22,_),(1,23,_),(2,24,_),(3,25,_),(4,26,_),(5,27,_),(6,28,_),(7,29,_),(8,30,_),(9,31,_),(10,32,_),(11,33,_)]) [0,1,2,3,4,5,6,7,8,9,10,11] 12 [12,11,10,9,8,7,6,5,4,3,2,1,0] [] (fun _=> []) J J (aa (aD J (am J)) (aa (aD J (aF J)) (aa (aD J (ag kX J)) (aa (aD J (ah AL J J (nI (k:=0) J (fun _=>J) J))) (aa (aD J (ag gn J)) (aa (aD J (ah t9 J J (ay (k:=7) J J))) (aa (aD J (am J)) (aa (aD J (aF J)) (aa (aD J (ah t3 J J (ay (k:=2) J J))) (aa (aD J (aT J J (dr (by first|exact bc (by omega) (by omega)|rfl)))) (aa (aD J (bX underlying3 underlying41 J (by first|exact bK (by omega) (by omega)|rfl))) (aa (aD J (Mj J J)) aw)))))))))))) J J J J J J J J J (fun _ _=>J) J (g8 (k:=1) (α:=ByteArray×Int) (kf:=Prod.fst) (vf:=vQ) (kid.name,wU (-(4*((gDs (l.take i) p).2+1)))) (d8 (gDs (l.take i) p).1 kid.name (wU (-(4*((gDs (l.take i) p).2+1))))) underlying108 eg J J J J (List.Perm.refl _)) (fun _ _=>bp [] J J aw J J J ?_));refine aM () O J (by rw [hqe];rfl) J
   ·(try simp only [be]at h2)
    have hk:¬kid.kind=1:=h2;rw [if_neg hk]at hve;have hqe:q=gDs (l.take i) p:=by rw [hq,if_neg hk]
    refine ax (aM () O J (by rw [hqe];rfl) J)
  ·refine aj (ad J J (az fi J J (aP 7 hQ J J J J J (ad J J (aW 0 11 J (fF hkm) (ak (xs:= [.tmp 34,.tmp 36,.tmp 37]) (ihb kid hkm q (by omega) (by omega)) KB [0,1,2] [(false,11)] [0,1,2] (fun _ _=>ac (ap (ad J J (az ez J J (aP 7 hQ J J J J J (ad J J (aW 0 11 J (gt hkm) (ak (xs:= [.tmp 39,.tmp 41,.tmp 42]) (ihe kid hkm (gDs kid.body q) (by rw [oc];omega) (by rw [oc];omega)) KB [0,1,2] [(false,11)] [0,1,2] (fun _ _=>ac (ap (ar J J (bi (by first|exact bc (by omega) (by omega)|rfl)) J (ad J J ?_))))))))))))))))));refine ac ?_;refine aM (i+1) ⟨by omega,by omega⟩ J (by rw [vM p hkid,DV,←hq];rfl) J
 ·(try simp only [be]at h1)
  have hi:i=l.length:=by omega
  subst hi;rw [List.take_length];refine bx (bW () O J ff J [0,1,2] [] J J J)
theorem qj(g:Nat)(vp:SV)(ms mo mq:Nat)(en:Int)(s:Qg)(cb:Nat):∀(n:Nat)(v:SV)(l:List Ty),SizeOf.sizeOf l<n→GYs l→l.length≤1000000→∀p:Om×Int,0≤p.2→p.2+cL l≤1000000→Spec prog 94 [.pointer (some ⟨g,0,none⟩),sv v,.pointer (some ⟨cb,0,none⟩)] [gA (⟨g,vp,ms,some mo,mq,en⟩:Ga) s,mp fH Prod.fst vQ (some mo) (p).1,bj cb 3 [.int .i64 (p).2]] [bF v l] (X:=Unit) (fun _=>True) (fun _=> .tuple #[]) (fun _=> [gA (⟨g,vp,ms,some mo,mq,en⟩:Ga) s,mp fH Prod.fst vQ (some mo) (gDs l p).1,bj cb 3 [.int .i64 (gDs l p).2]]) (fun _=> [])
 | 0,_,_,h,_,_=>absurd h (Nat.not_lt_zero _)
 | n+1,v,l,h,hg,hl=>fun p h0 hn=>Bo g vp ms mo mq en s cb v l hl (fun u hu p h0 hn=>by
   have hlt:=List.sizeOf_lt_of_mem hu;have hgu:=hg.mem u hu;have hb:SizeOf.sizeOf u.body<SizeOf.sizeOf u:=by cases u;simp [Ty.body];omega
   exact qj g vp ms mo mq en s cb n u.vb u.body (by omega) (dY hgu).2 (dY hgu).1 p h0 hn) (fun u hu p h0 hn=>by
   have hlt:=List.sizeOf_lt_of_mem hu;have hgu:=hg.mem u hu;have hb:SizeOf.sizeOf u.els<SizeOf.sizeOf u:=by cases u;simp [Ty.els];omega
   exact qj g vp ms mo mq en s cb n u.vl u.els (by omega) (e_ hgu).2 (e_ hgu).1 p h0 hn) p h0 hn
theorem Bp(g:Nat)(vp:SV)(ms mo mq:Nat)(en:Int)(s:Qg)(cb:Nat)(v:SV)(l:List Ty)(hg:GYs l)(hl:l.length≤1000000)(p:Om×Int)(h0:0≤p.2)(hn:p.2+cL l≤1000000):Spec prog 94 [.pointer (some ⟨g,0,none⟩),sv v,.pointer (some ⟨cb,0,none⟩)] [gA (⟨g,vp,ms,some mo,mq,en⟩:Ga) s,mp fH Prod.fst vQ (some mo) (p).1,bj cb 3 [.int .i64 (p).2]] [bF v l] (X:=Unit) (fun _=>True) (fun _=> .tuple #[]) (fun _=> [gA (⟨g,vp,ms,some mo,mq,en⟩:Ga) s,mp fH Prod.fst vQ (some mo) (gDs l p).1,bj cb 3 [.int .i64 (gDs l p).2]]) (fun _=> []):=qj g vp ms mo mq en s cb _ v l (Nat.lt_succ_self _) hg hl p h0 hn
section
variable{P:Program}{N:Nat}{w0:World}{M H:Nat→Prop}{E:eA}{Γ R:dZ}
theorem tj(k:Nat)(ns:List Nat){e:Ga}{s:Qg}{Rel:Act→World→Prop}(hk:bV Γ k=some (gA e s))(hns:ns.Nodup)(hl:ns.length=4)
  (h:∀vc vf vl,At N w0 M H E (fw ns [bj e.g 111 (gR e.vp vc vf vl e.ms e.mo e.mp e.en),own 118 5 gL (sv vc) s.code,own 171 2 uq (sv vf) s.fixes,own 3 1 eI (sv vl) s.labs] (fy [k] Γ)) R Rel):At N w0 M H E Γ R Rel:=
 CI k ns hk hns (fun _=>hl) fun x=>h x.1 x.2.1 x.2.2
theorem ti(k:Nat)(ks:List Nat)(e:Ga)(s:Qg)(vc vf vl:SV){Rel:Act→World→Prop}(hL:el Γ ks=c_ [bj e.g 111 (gR e.vp vc vf vl e.ms e.mo e.mp e.en),own 118 5 gL (sv vc) s.code,own 171 2 uq (sv vf) s.fixes,own 3 1 eI (sv vl) s.labs])(hks:ks.Nodup)
  (h:At N w0 M H E ((k,gA e s)::fy ks Γ) R Rel):At N w0 M H E Γ R Rel:=Jf (f:=fun x:SV×SV×SV=> [bj e.g 111 (gR e.vp x.1 x.2.1 x.2.2 e.ms e.mo e.mp e.en),own 118 5 gL (sv x.1) s.code,own 171 2 uq (sv x.2.1) s.fixes,own 3 1 eI (sv x.2.2) s.labs]) k ks (vc,vf,vl) hL hks h
end
theorem zy(n:Int):∀(l:List ByteArray)(k:Int)(x:ByteArray)(o:Om),gP n k (l++ [x]) o=d8 (gP n k l o) x (8+4*(n-1-(k+l.length)))
 | [],k,x,o=>by
  show d8 o x (8+4*(n-1-k))=d8 o x (8+4*(n-1-(k+((0:Nat):Int))));rw [show k+((0:Nat):Int)=k by omega]
 | y::l,k,x,o=>by
  show gP n (k+1) (l++ [x]) _=d8 (gP n (k+1) l _) x _;rw [zy n l (k+1) x];rw [show k+1+(l.length:Int)=k+(((y::l).length:Nat):Int) by rw [List.length_cons];omega]
theorem Gy{n:Int}{l:List ByteArray}{i:Nat}{x:ByteArray}(o:Om)(h:l[i]?=some x):gP n 0 (l.take (i+1)) o=d8 (gP n 0 (l.take i) o) x (8+4*(n-1-(i:Int))):=by
 obtain⟨hi,-⟩:=List.getElem?_eq_some_iff.1 h;rw [bT h,zy,List.length_take,Nat.min_eq_left (by omega),show(0:Int)+(i:Int)=i by omega]
theorem gJ:∀(n:Nat)(s:Qg),dj (n+1) s=(dj n s).push 0
 | 0,s=>rfl
 | n+1,s=>gJ n (s.push 0)
theorem cu:∀(n:Nat)(s:Qg),(dj n s).sz=s.sz+2*n
 | 0,s=>rfl
 | n+1,s=>by
  rw [gJ,cv,cu n];omega
theorem jB:∀(n:Nat)(s:Qg),(dj n s).labs=s.labs
 | 0,s=>rfl
 | n+1,s=>by
  rw [gJ];exact jB n s
mutual
theorem LD:∀t:Ty,vY t≤nY t
 | .mk k nm ve es vb body vl els=>by
  have h1:=md body;have h2:=md els;show(if k=1 then 1 else 0)+cL body+cL els≤1+ey es+cw body+cw els;split<;>omega
theorem md:∀l:List Ty,cL l≤cw l
 | []=>Nat.le_refl _
 | t::r=>by
  have h1:=LD t;have h2:=md r;show vY t+cL r≤nY t+cw r;omega
end
theorem dW(s:Qg):s.lab.labs.length=s.labs.length+1:=by
 show(s.labs++ [0]).length=_;rw [List.length_append,List.length_singleton]
theorem dK(s:Qg)(l:Int):(s.place l).labs.length=s.labs.length:=by
 show(s.labs.set _ _).length=_;rw [List.length_set]
theorem zz(f:Tf):(cT f).2=(cL f.body:Int):=by
 show(gDs f.body (gP f.ps.length 0 f.ps [],0)).2=_;rw [oc];show(0:Int)+_=_;omega
theorem MH(sm:Om)(f:Tf)(s:Qg):(gF sm f s).sz≤s.sz+24*cw f.body+60:=by
 have h1:=i6 (cT f).1 sm ((s.labs.length:Int)+1) f.body (dj (cT f).2.toNat ((((((((((s.lab.lab).place (bC sm f.name)).emit [qi 16 12 12 1]).emit [qi 16 2 0 12]).jump 35 2 12 s.labs.length).emit [⟨49,0,0,0,0⟩]).place s.labs.length).push 15).push 13).emit [q3 1 13 14 0]));have h2:=md f.body;have h3:=zz f;simp only [bz,cv,dg,cd,bL,bO,cu,List.length_cons,List.length_nil]at h1;show((((((((gh (cT f).1 sm ((s.labs.length:Int)+1) f.body (dj (cT f).2.toNat _)).emit [q3 1 1 0 0]).place ((s.labs.length:Int)+1)).emit [q3 1 14 13 0]).pop 13).pop 15).emit [qi 16 12 12 4294967295]).emit [qi 27 0 15 0]).sz≤_;simp only [bz,cv,dg,cd,bL,bO,List.length_cons,List.length_nil];omega
theorem Bm(e:Ga)(c:Oq)(sm:Om)(hm:e.mp=c.m)(f:Tf)(hr:lu f.body=true)(hg:GF f)(s:Qg)(hst:0≤bC sm f.name∧bC sm f.name<s.labs.length)(hz:s.sz+24*cw f.body+100≤780000):
  Spec prog 54 [.pointer (some ⟨e.g,0,none⟩),K3 f] [gA e s] [yL f,gZ e.g c,mp fH Prod.fst vI (some e.ms) sm] (X:=Nat) (fun _=>True) (fun _=> .tuple #[]) (fun b=> [gA ({e with mo:=some b,en:=((s.labs.length:Nat):Int)+1}:Ga) (gF sm f s)]) (fun _=> []):=by
 refine aI func54 J ntmps54 J fun w0 M H=> ?_
 have hpl:=hg.2.2.1;have hbl:=hg.2.2.2.1;have hgn:=hg.2.2.2.2.2;have hvn:=md f.body;have hon:=zz f;obtain⟨nv,hnv⟩:∃nv,nv=(cT f).2.toNat:=⟨_,J⟩
 have hnl:(s.lab.labs.length:Int)=((s.labs.length:Nat):Int)+1:=by rw [dW];omega
 refine aW 0 3 J lp (aW 0 4 J jp (aj (bU J J fun b3=>aG J (ad J J (kK (Prod.fst:ByteArray×Int→ByteArray) fH vQ J fun b8=>bG J J (az kX J J (tj 0 [0,21,22,23] J (by decide) J fun vc vf vl=>aK (k:=0) AL J J J J J J J J (ti 0 [0,21,22,23] ({e with mo:=some b8}:Ga) s vc vf vl J (by decide) (ac (aS (az dA J J ?_)))))))))));refine aP 3 gu J J J J J (aO (aU underlying46 J (aN (k:=3) J)) J (ad J J (ac (aB (bv (X:=Nat) (fun i=>i≤f.ps.length) (fun i=> [(0,.pointer (some ⟨e.g,0,none⟩)),(3,.pointer (some ⟨b3,0,none⟩)),(13,.int .i64 (f.ps.length:Int)),(14,.int .i64 (i:Int))]) (fun i=> [(0,gA ({e with mo:=some b8}:Ga) s),(3,bj b3 66 (iW f)),(8,mp fH Prod.fst vQ (some b8) (gP (f.ps.length:Int) 0 (f.ps.take i) []))]) (fun i=> [(0,yL f),(1,gZ e.g c),(2,mp fH Prod.fst vI (some e.ms) sm),(3,sl 1 eS (sv f.vp) f.ps),(4,bF f.vb f.body)]) (fun i=>f.ps.length-i) 0 (Nat.zero_le _) J J J (fun i n1=>aj (ar J J ci J (ac (a_ (ae J (fun h1=> ?_) (fun h1=> ?_)))))))))))
 ·(try simp only [be]at h1)
  have hi:i<f.ps.length:=by omega
  obtain⟨x,hx⟩:∃x,f.ps[i]?=some x:=⟨_,List.getElem?_eq_getElem hi⟩
  refine ax (a_ (aB (aj (ad J J (ai J J (ac ?_))))));refine bH [17,18,19,20,21,22,23,24,25,26,27,28,29,30,31,32,33,34] _ J (bI (V:= [(0,17,_),(1,18,_),(2,19,_),(3,20,_),(4,21,_),(5,22,_),(6,23,_),(7,24,_),(8,25,_),(9,26,_),(10,27,_),(11,28,_),(12,29,_),(13,30,_),(14,31,_),(15,32,_),(16,33,_),(17,34,_)]) [0,1,2,3,4,5,6,7,8,9,10,11,12,13,14,15,16,17] 18 [18,17,16,15,14,13,12,11,10,9,8,7,6,5,4,3,2,1,0] [] (fun _=> []) J J (aa (aD J (am J)) (aa (aD J (aF J)) (aa (aD J (ag kX J)) (aa (aD J (ah AL J J (nI (k:=0) J (fun _=>J) J))) (aa (aD J (ag dA J)) (aa (aD J (ah gu J J (ay (k:=3) J J))) (aa (aD J (am J)) (aa (aD J (aR (j:=i) underlying46 t9 J J (aN (k:=3) J) (by first|rfl|omega) (by first|omega|(simp;done)|(simp;omega)))) (aa (aD J (ah t9 J J (bD (aN (k:=3) J) (by intro _;rfl) hx (by rfl)))) (aa (aD J (ag dA J)) (aa (aD J (ah gu J J (ay (k:=3) J J))) (aa (aD J (aU underlying46 J (aN (k:=3) J))) (aa (aD J (aT J J (fX (by first|exact bc (by omega) (by omega)|rfl)))) (aa (aD J (am J)) (aa (aD J (aT J J (fX (by first|exact bc (by omega) (by omega)|rfl)))) (aa (aD J (aT J J (dr (by first|exact bc (by omega) (by omega)|rfl)))) (aa (aD J (aT J J (bi (by first|exact bc (by omega) (by omega)|rfl)))) (aa (aD J (bX underlying3 underlying41 J (by first|exact bK (by omega) (by omega)|rfl))) aw)))))))))))))))))) J J J J J J J J J (fun _ _=>J) J (g8 (k:=8) (α:=ByteArray×Int) (kf:=Prod.fst) (vf:=vQ) (x,8+4*((f.ps.length:Int)-1-i)) (d8 (gP (f.ps.length:Int) 0 (f.ps.take i) []) x (8+4*((f.ps.length:Int)-1-i))) underlying108 eg J J J J (List.Perm.refl _)) (fun _ _=>bp [] J J aw J J J ?_));refine ap (ar J J (bi (by first|exact bc (by omega) (by omega)|rfl)) J (ad J J (ac ?_)));refine aM (i+1) ⟨by omega,by omega⟩ J (by rw [Gy [] hx];rfl) J
 ·(try simp only [be]at h1)
  have hi:i=f.ps.length:=by omega
  subst hi;refine bx (aj (aZ t3 J J fun b5=>aK (k:=5) t3 J J J J J J J J (ac (a_ ?_))));rw [List.take_length];refine ap (ad J J (az iB J J (aP 3 hQ J J J J J (ak (xs:= [.tmp 36,.tmp 38,.tmp 5]) (Bp e.g e.vp e.ms b8 e.mp e.en s b5 f.vb f.body hg.2.2.2.2.1 hbl (gP (f.ps.length:Int) 0 f.ps [],0) (Int.le_refl _) (by dsimp only;omega)) KB [0,8,5] [(false,4)] [0,8,5] (fun _ _=> ?_)))));obtain⟨om,hom⟩:∃om,om=(cT f).1:=⟨_,J⟩
  refine aG J (ad J J (ak (xs:= [.tmp 40]) (eH ({e with mo:=some b8}:Ga) (s) (by omega)) ug [0] [] [0] (fun _ _=>ai J J (aG J (ad J J (ad J J (ak (xs:= [.tmp 43]) (eH ({e with mo:=some b8}:Ga) ((s).lab) (by(try simp only [bz,cv,dg,c9,cd,bL,bO,cu,List.length_cons,List.length_nil]);omega)) ug [0] [] [0] (fun _ _=> ?_))))))));rw [hnl];refine bG J J (az t7 J J (tj 0 [0,21,22,23] J (by decide) J fun vc vf vl=>aK (k:=0) t3 J J J J J J J J (ti 0 [0,21,22,23] ({e with mo:=some b8,en:=((s.labs.length:Nat):Int)+1}:Ga) (((s).lab).lab) vc vf vl J (by decide) (ac (a_ ?_)))));refine bH [47,48,49,50,51,52,53,54,55] _ J (bk (V:= [(0,47,_),(1,48,_),(2,49,_),(3,50,_),(4,51,_),(5,52,_),(6,53,_),(7,54,_)]) [0,1,2,3,4,5,6,7] 8 [8,7,6,5,4,3,2,1,0] [] (fun _=> []) J J (aa (aD J (am J)) (aa (aD J (am J)) (aa (aD J (aF J)) (aa (aD J (ag m4 J)) (aa (aD J (ah Cd J J (nI (k:=0) J (fun _=>J) J))) (aa (aD J (ag jD J)) (aa (aD J (ah t9 J J (ay (k:=3) J J))) (aa (aD J (CV underlying105 eg t3 J J (sk (k:=2) J))) aw)))))))) J J J J J J J J J J J (fun _ _=>J) J (bq (xs:= [.tmp 47,.tmp 54]) (dR ({e with mo:=some b8,en:=((s.labs.length:Nat):Int)+1}:Ga) (((s).lab).lab) (by(try simp only [bz,cv,dg,c9,cd,bL,bO,cu,List.length_cons,List.length_nil]);omega) (bC sm f.name) ⟨hst.1,by rw [dW,dW];omega⟩) qM [0] [] [0] J J J J J J J J (fun _ _=>J) (fun _ _ _=>J)) (fun _ _=>bp [] J J aw J J J ?_))
  refine aj (ad J J (ak (xs:= [.tmp 56,.const (.int .i64 16),.const (.int .i64 12),.const (.int .i64 12),.const (.int .u32 1)]) (cK ({e with mo:=some b8,en:=((s.labs.length:Nat):Int)+1}:Ga) ((((s).lab).lab).place (bC sm f.name)) (by(try simp only [bz,cv,dg,c9,cd,bL,bO,cu,List.length_cons,List.length_nil]);omega) 16 12 12 1) iN [0] [] [0] (fun _ _=>aG J (ad J J (ak (xs:= [.tmp 58,.const (.int .i64 16),.const (.int .i64 2),.const (.int .i64 0),.const (.int .u32 12)]) (cK ({e with mo:=some b8,en:=((s.labs.length:Nat):Int)+1}:Ga) (((((s).lab).lab).place (bC sm f.name)).emit [qi 16 12 12 1]) (by(try simp only [bz,cv,dg,c9,cd,bL,bO,cu,List.length_cons,List.length_nil]);omega) 16 2 0 12) iN [0] [] [0] (fun _ _=>aG J (ad J J (ad J J (ak (xs:= [.tmp 60,.const (.int .i64 35),.const (.int .i64 2),.const (.int .i64 12),.tmp 61]) (eT ({e with mo:=some b8,en:=((s.labs.length:Nat):Int)+1}:Ga) ((((((s).lab).lab).place (bC sm f.name)).emit [qi 16 12 12 1]).emit [qi 16 2 0 12]) (by(try simp only [bz,cv,dg,c9,cd,bL,bO,cu,List.length_cons,List.length_nil]);omega) 35 2 12 ((s.labs.length:Nat):Int)) rS [0] [] [0] (fun _ _=>aG J (ad J J (aO (aV (parts:= [(0,.const (.int .i64 49))]) ew lw J J) J ?_))))))))))));refine bA gL ⟨49,0,0,0,0⟩ underlying106 ew J (by decide) (by decide) J J J J fun v65=>cf 65 7 J bB (ak (xs:= [.tmp 63,.tmp 65]) (gp ({e with mo:=some b8,en:=((s.labs.length:Nat):Int)+1}:Ga) (((((((s).lab).lab).place (bC sm f.name)).emit [qi 16 12 12 1]).emit [qi 16 2 0 12]).jump 35 2 12 ((s.labs.length:Nat):Int)) (by(try simp only [bz,cv,dg,c9,cd,bL,bO,cu,List.length_cons,List.length_nil]);omega) v65 [⟨49,0,0,0,0⟩] (by simp)) wm [0] [(false,7)] [0] (fun _ _=>aG J (ad J J (ad J J ?_))))
  refine d9 (xs:= [.tmp 67,.tmp 68]) (dR ({e with mo:=some b8,en:=((s.labs.length:Nat):Int)+1}:Ga) ((((((((s).lab).lab).place (bC sm f.name)).emit [qi 16 12 12 1]).emit [qi 16 2 0 12]).jump 35 2 12 ((s.labs.length:Nat):Int)).emit [⟨49,0,0,0,0⟩]) (by(try simp only [bz,cv,dg,c9,cd,bL,bO,cu,List.length_cons,List.length_nil]);omega) ((s.labs.length:Nat):Int) ⟨by omega,by show _<(((((((s).lab).lab).place (bC sm f.name)).labs.length:Nat)):Int);rw [dK,dW,dW];omega⟩) qM [0] [] [0] J J J J J J J J (fun _ _=>J) (fun _ _ _=>J) J (fun _ _=> ?_);refine aG J (ad J J (ak (xs:= [.tmp 70,.const (.int .i64 15)]) (h_ ({e with mo:=some b8,en:=((s.labs.length:Nat):Int)+1}:Ga) (((((((((s).lab).lab).place (bC sm f.name)).emit [qi 16 12 12 1]).emit [qi 16 2 0 12]).jump 35 2 12 ((s.labs.length:Nat):Int)).emit [⟨49,0,0,0,0⟩]).place ((s.labs.length:Nat):Int)) (by(try simp only [bz,cv,dg,c9,cd,bL,bO,cu,List.length_cons,List.length_nil]);omega) 15) BA [0] [] [0] (fun _ _=>aG J (ad J J (ak (xs:= [.tmp 72,.const (.int .i64 13)]) (h_ ({e with mo:=some b8,en:=((s.labs.length:Nat):Int)+1}:Ga) ((((((((((s).lab).lab).place (bC sm f.name)).emit [qi 16 12 12 1]).emit [qi 16 2 0 12]).jump 35 2 12 ((s.labs.length:Nat):Int)).emit [⟨49,0,0,0,0⟩]).place ((s.labs.length:Nat):Int)).push 15) (by(try simp only [bz,cv,dg,c9,cd,bL,bO,cu,List.length_cons,List.length_nil]);omega) 13) BA [0] [] [0] (fun _ _=>aG J (ad J J (ak (xs:= [.tmp 74,.const (.int .i64 1),.const (.int .i64 13),.const (.int .i64 14),.const (.int .i64 0)]) (cU ({e with mo:=some b8,en:=((s.labs.length:Nat):Int)+1}:Ga) (((((((((((s).lab).lab).place (bC sm f.name)).emit [qi 16 12 12 1]).emit [qi 16 2 0 12]).jump 35 2 12 ((s.labs.length:Nat):Int)).emit [⟨49,0,0,0,0⟩]).place ((s.labs.length:Nat):Int)).push 15).push 13) (by(try simp only [bz,cv,dg,c9,cd,bL,bO,cu,List.length_cons,List.length_nil]);omega) 1 13 14 0) l7 [0] [] [0] (fun _ _=>ac (aS (aP 5 t3 J J J J J ?_)))))))))));refine ad J J (ac (aB ?_))
  have hnc:((gDs f.body (gP (f.ps.length:Int) 0 f.ps [],0)).2:Int)=(nv:Int):=by
   have:(cT f).2=(nv:Int):=by omega
   exact this
  rw [hnc];refine bv (X:=Nat) (fun i=>i≤nv) (fun i=> [(0,.pointer (some ⟨e.g,0,none⟩)),(3,.pointer (some ⟨b3,0,none⟩)),(76,.int .i64 (nv:Int)),(77,.int .i64 (i:Int))]) (fun i=> [(0,gA ({e with mo:=some b8,en:=((s.labs.length:Nat):Int)+1}:Ga) (dj i ((((((((((((s).lab).lab).place (bC sm f.name)).emit [qi 16 12 12 1]).emit [qi 16 2 0 12]).jump 35 2 12 ((s.labs.length:Nat):Int)).emit [⟨49,0,0,0,0⟩]).place ((s.labs.length:Nat):Int)).push 15).push 13).emit [q3 1 13 14 0]))),(3,bj b3 66 (iW f)),(8,mp fH Prod.fst vQ (some b8) om)]) (fun i=> [(0,yL f),(1,gZ e.g c),(2,mp fH Prod.fst vI (some e.ms) sm),(3,sl 1 eS (sv f.vp) f.ps),(4,bF f.vb f.body)]) (fun i=>nv-i) 0 (Nat.zero_le _) J (by rw [hom];rfl) J (fun i n1=>aj (ar J J ci J (ac (a_ (ae J (fun h2=> ?_) (fun h2=> ?_))))))
  ·(try simp only [be]at h2)
   have hi:i<nv:=by omega
   refine ax (a_ (aB (ap (ad J J (ak (xs:= [.tmp 79,.const (.int .i64 0)]) (h_ ({e with mo:=some b8,en:=((s.labs.length:Nat):Int)+1}:Ga) (dj i ((((((((((((s).lab).lab).place (bC sm f.name)).emit [qi 16 12 12 1]).emit [qi 16 2 0 12]).jump 35 2 12 ((s.labs.length:Nat):Int)).emit [⟨49,0,0,0,0⟩]).place ((s.labs.length:Nat):Int)).push 15).push 13).emit [q3 1 13 14 0])) (by(try simp only [bz,cv,dg,c9,cd,bL,bO,cu,List.length_cons,List.length_nil]);omega) 0) BA [0] [] [0] (fun _ _=>ac (ap (ar J J (bi (by first|exact bc (by omega) (by omega)|rfl)) J (ad J J (ac ?_))))))))));refine aM (i+1) ⟨by omega,by omega⟩ J (by rw [gJ];rfl) J
  ·(try simp only [be]at h2)
   have hi:nv=i:=by omega
   subst hi;refine bx (aj (ad J J (az iB J J (aP 3 hQ J J J J J (d9 (xs:= [.tmp 82,.tmp 84]) (DI ({e with mo:=some b8,en:=((s.labs.length:Nat):Int)+1}:Ga) c om sm hm (by dsimp only;omega) f.vb f.body hr hg.2.2.2.2.1 hbl (dj nv ((((((((((((s).lab).lab).place (bC sm f.name)).emit [qi 16 12 12 1]).emit [qi 16 2 0 12]).jump 35 2 12 ((s.labs.length:Nat):Int)).emit [⟨49,0,0,0,0⟩]).place ((s.labs.length:Nat):Int)).push 15).push 13).emit [q3 1 13 14 0])) (by(try simp only [bz,cv,dg,c9,cd,bL,bO,cu,List.length_cons,List.length_nil]);omega)) Em [0] [(false,4),(false,1),(true,8),(false,2)] [0] J J J J J (by rw [hom];rfl) J J (fun _ _=>J) (fun _ _ _=>J) J (fun _ _=> ?_))))));have hbz:=i6 om sm (((s.labs.length:Nat):Int)+1) f.body (dj nv ((((((((((((s).lab).lab).place (bC sm f.name)).emit [qi 16 12 12 1]).emit [qi 16 2 0 12]).jump 35 2 12 ((s.labs.length:Nat):Int)).emit [⟨49,0,0,0,0⟩]).place ((s.labs.length:Nat):Int)).push 15).push 13).emit [q3 1 13 14 0]));simp only [bz,cv,dg,c9,cd,bL,bO,cu,List.length_cons,List.length_nil]at hbz;have hbl2:=iU om sm (((s.labs.length:Nat):Int)+1) f.body (dj nv ((((((((((((s).lab).lab).place (bC sm f.name)).emit [qi 16 12 12 1]).emit [qi 16 2 0 12]).jump 35 2 12 ((s.labs.length:Nat):Int)).emit [⟨49,0,0,0,0⟩]).place ((s.labs.length:Nat):Int)).push 15).push 13).emit [q3 1 13 14 0]));rw [jB]at hbl2;have hbl3:((((((((((((s).lab).lab).place (bC sm f.name)).emit [qi 16 12 12 1]).emit [qi 16 2 0 12]).jump 35 2 12 ((s.labs.length:Nat):Int)).emit [⟨49,0,0,0,0⟩]).place ((s.labs.length:Nat):Int)).push 15).push 13).emit [q3 1 13 14 0]).labs.length=s.labs.length+2:=by
    show(((((((((s).lab).lab).place (bC sm f.name)).emit [qi 16 12 12 1]).emit [qi 16 2 0 12]).jump 35 2 12 ((s.labs.length:Nat):Int)).emit [⟨49,0,0,0,0⟩]).place ((s.labs.length:Nat):Int)).labs.length=_;rw [dK];show((((s).lab).lab).place (bC sm f.name)).labs.length=_;rw [dK,dW,dW]
   refine aG J (ad J J (ak (xs:= [.tmp 86,.const (.int .i64 1),.const (.int .i64 1),.const (.int .i64 0),.const (.int .i64 0)]) (cU ({e with mo:=some b8,en:=((s.labs.length:Nat):Int)+1}:Ga) (gh om sm (((s.labs.length:Nat):Int)+1) f.body (dj nv ((((((((((((s).lab).lab).place (bC sm f.name)).emit [qi 16 12 12 1]).emit [qi 16 2 0 12]).jump 35 2 12 ((s.labs.length:Nat):Int)).emit [⟨49,0,0,0,0⟩]).place ((s.labs.length:Nat):Int)).push 15).push 13).emit [q3 1 13 14 0]))) (by(try simp only [bz,cv,dg,c9,cd,bL,bO,cu,List.length_cons,List.length_nil]);omega) 1 1 0 0) l7 [0] [] [0] (fun _ _=>aG J (ad J J (ad J J (bG J J (az t7 J J (aO (ah t3 J J (nI (k:=0) J (fun _=>J) J)) J ?_))))))));refine d9 (xs:= [.tmp 88,.tmp 92]) (dR ({e with mo:=some b8,en:=((s.labs.length:Nat):Int)+1}:Ga) ((gh om sm (((s.labs.length:Nat):Int)+1) f.body (dj nv ((((((((((((s).lab).lab).place (bC sm f.name)).emit [qi 16 12 12 1]).emit [qi 16 2 0 12]).jump 35 2 12 ((s.labs.length:Nat):Int)).emit [⟨49,0,0,0,0⟩]).place ((s.labs.length:Nat):Int)).push 15).push 13).emit [q3 1 13 14 0]))).emit [q3 1 1 0 0]) (by(try simp only [bz,cv,dg,c9,cd,bL,bO,cu,List.length_cons,List.length_nil]);omega) (((s.labs.length:Nat):Int)+1) ⟨by omega,by show _<((((gh om sm (((s.labs.length:Nat):Int)+1) f.body (dj nv ((((((((((((s).lab).lab).place (bC sm f.name)).emit [qi 16 12 12 1]).emit [qi 16 2 0 12]).jump 35 2 12 ((s.labs.length:Nat):Int)).emit [⟨49,0,0,0,0⟩]).place ((s.labs.length:Nat):Int)).push 15).push 13).emit [q3 1 13 14 0]))).labs.length:Nat)):Int);omega⟩) qM [0] [] [0] J J J J J J J J (fun _ _=>J) (fun _ _ _=>J) J (fun _ _=> ?_)
   refine aG J (ad J J (ak (xs:= [.tmp 94,.const (.int .i64 1),.const (.int .i64 14),.const (.int .i64 13),.const (.int .i64 0)]) (cU ({e with mo:=some b8,en:=((s.labs.length:Nat):Int)+1}:Ga) (((gh om sm (((s.labs.length:Nat):Int)+1) f.body (dj nv ((((((((((((s).lab).lab).place (bC sm f.name)).emit [qi 16 12 12 1]).emit [qi 16 2 0 12]).jump 35 2 12 ((s.labs.length:Nat):Int)).emit [⟨49,0,0,0,0⟩]).place ((s.labs.length:Nat):Int)).push 15).push 13).emit [q3 1 13 14 0]))).emit [q3 1 1 0 0]).place (((s.labs.length:Nat):Int)+1)) (by(try simp only [bz,cv,dg,c9,cd,bL,bO,cu,List.length_cons,List.length_nil]);omega) 1 14 13 0) l7 [0] [] [0] (fun _ _=>aG J (ad J J (ak (xs:= [.tmp 96,.const (.int .i64 13)]) (mA ({e with mo:=some b8,en:=((s.labs.length:Nat):Int)+1}:Ga) ((((gh om sm (((s.labs.length:Nat):Int)+1) f.body (dj nv ((((((((((((s).lab).lab).place (bC sm f.name)).emit [qi 16 12 12 1]).emit [qi 16 2 0 12]).jump 35 2 12 ((s.labs.length:Nat):Int)).emit [⟨49,0,0,0,0⟩]).place ((s.labs.length:Nat):Int)).push 15).push 13).emit [q3 1 13 14 0]))).emit [q3 1 1 0 0]).place (((s.labs.length:Nat):Int)+1)).emit [q3 1 14 13 0]) (by(try simp only [bz,cv,dg,c9,cd,bL,bO,cu,List.length_cons,List.length_nil]);omega) 13) He [0] [] [0] (fun _ _=>aG J (ad J J (ak (xs:= [.tmp 98,.const (.int .i64 15)]) (mA ({e with mo:=some b8,en:=((s.labs.length:Nat):Int)+1}:Ga) (((((gh om sm (((s.labs.length:Nat):Int)+1) f.body (dj nv ((((((((((((s).lab).lab).place (bC sm f.name)).emit [qi 16 12 12 1]).emit [qi 16 2 0 12]).jump 35 2 12 ((s.labs.length:Nat):Int)).emit [⟨49,0,0,0,0⟩]).place ((s.labs.length:Nat):Int)).push 15).push 13).emit [q3 1 13 14 0]))).emit [q3 1 1 0 0]).place (((s.labs.length:Nat):Int)+1)).emit [q3 1 14 13 0]).pop 13) (by(try simp only [bz,cv,dg,c9,cd,bL,bO,cu,List.length_cons,List.length_nil]);omega) 15) He [0] [] [0] (fun _ _=> ?_)))))))))
   refine aG J (ad J J (ak (xs:= [.tmp 100,.const (.int .i64 16),.const (.int .i64 12),.const (.int .i64 12),.const (.int .u32 4294967295)]) (cK ({e with mo:=some b8,en:=((s.labs.length:Nat):Int)+1}:Ga) ((((((gh om sm (((s.labs.length:Nat):Int)+1) f.body (dj nv ((((((((((((s).lab).lab).place (bC sm f.name)).emit [qi 16 12 12 1]).emit [qi 16 2 0 12]).jump 35 2 12 ((s.labs.length:Nat):Int)).emit [⟨49,0,0,0,0⟩]).place ((s.labs.length:Nat):Int)).push 15).push 13).emit [q3 1 13 14 0]))).emit [q3 1 1 0 0]).place (((s.labs.length:Nat):Int)+1)).emit [q3 1 14 13 0]).pop 13).pop 15) (by(try simp only [bz,cv,dg,c9,cd,bL,bO,cu,List.length_cons,List.length_nil]);omega) 16 12 12 4294967295) iN [0] [] [0] (fun _ _=>ac (ap (ad J J (ak (xs:= [.tmp 102,.const (.int .i64 27),.const (.int .i64 0),.const (.int .i64 15),.const (.int .u32 0)]) (cK ({e with mo:=some b8,en:=((s.labs.length:Nat):Int)+1}:Ga) (((((((gh om sm (((s.labs.length:Nat):Int)+1) f.body (dj nv ((((((((((((s).lab).lab).place (bC sm f.name)).emit [qi 16 12 12 1]).emit [qi 16 2 0 12]).jump 35 2 12 ((s.labs.length:Nat):Int)).emit [⟨49,0,0,0,0⟩]).place ((s.labs.length:Nat):Int)).push 15).push 13).emit [q3 1 13 14 0]))).emit [q3 1 1 0 0]).place (((s.labs.length:Nat):Int)+1)).emit [q3 1 14 13 0]).pop 13).pop 15).emit [qi 16 12 12 4294967295]) (by(try simp only [bz,cv,dg,c9,cd,bL,bO,cu,List.length_cons,List.length_nil]);omega) 27 0 15 0) iN [0] [] [0] (fun _ _=>ac (bW b8 O J ff J [0] [] J (by rw [hom,hnv];rfl) J))))))))
structure okG(s:Qg):Prop where
 fx:∀p∈s.fixes,(0≤p.1∧p.1<s.code.length)∧(0≤p.2∧p.2<s.labs.length)
 im:∀q∈s.code,oW q.imm
theorem okG.emit{s:Qg}(h:okG s){l:List Qi}(hl:∀q∈l,oW q.imm):okG (s.emit l):=by
 refine⟨fun p hp=> ?_,fun q hq=> ?_⟩
 ·have:=h.fx p hp;show(_∧p.1<((s.code++l).length:Int))∧(_∧p.2<(s.labs.length:Int));rw [List.length_append];omega
 ·rcases List.mem_append.1 hq with hq|hq
  ·exact h.im q hq
  ·exact hl q hq
theorem okG.lab{s:Qg}(h:okG s):okG s.lab:=by
 refine⟨fun p hp=> ?_,h.im⟩;have:=h.fx p hp;rw [dW];exact⟨this.1,this.2.1,by omega⟩
theorem okG.place{s:Qg}(h:okG s)(l:Int):okG (s.place l):=by
 refine⟨fun p hp=> ?_,h.im⟩;have:=h.fx p hp;rw [dK];exact this
theorem okG.jump{s:Qg}(h:okG s)(op d a:Int){l:Int}(hl:0≤l∧l<s.labs.length):okG (s.jump op d a l):=by
 refine⟨fun p hp=> ?_,fun q hq=> ?_⟩
 ·show(_∧p.1<((s.code++ [qi op d a 0]).length:Int))∧(_∧p.2<(s.labs.length:Int));rw [List.length_append,List.length_singleton];rcases List.mem_append.1 hp with hp|hp
  ·have:=h.fx p hp;omega
  ·rw [List.mem_singleton.1 hp];dsimp only;omega
 ·rcases List.mem_append.1 hq with hq|hq
  ·exact h.im q hq
  ·rw [List.mem_singleton.1 hq];exact pZ
theorem Qx{q:Qi}(h:oW q.imm):∀x∈ [q],oW x.imm:=fun x hx=>by rw [List.mem_singleton.1 hx];exact h
theorem okG.one{s:Qg}(h:okG s){q:Qi}(hq:oW q.imm):okG (s.emit [q]):=h.emit (Qx hq)
theorem okG.push{s:Qg}(h:okG s)(r:Int):okG (s.push r):=(h.one (q:=qi 16 14 14 4294967292) ⟨by decide,by decide⟩).one (q:=qi 25 r 14 0) pZ
theorem okG.pop{s:Qg}(h:okG s)(r:Int):okG (s.pop r):=(h.one (q:=qi 23 r 14 0) pZ).one (q:=qi 16 14 14 4) ⟨by decide,by decide⟩
theorem okG.elem{s:Qg}(h:okG s)(r:Int):okG (s.elem r):=(h.one (q:=qi 17 r r 255) (show oW 255 from⟨by decide,by decide⟩)).one (q:=qi 20 r r 2) (show oW 2 from⟨by decide,by decide⟩)
theorem okG.ite{c:Prop} [Decidable c]{a b:Qg}(h1:okG a)(h2:okG b):okG (if c then a else b):=by split;exact h1;exact h2
theorem okG.op{s:Qg}(h:okG s)(o:ByteArray):okG (ot o s):=by
 have w1:oW 1:=⟨by decide,by decide⟩
 have t:∀{s:Qg},okG s→∀op d a b,okG (s.emit [q3 op d a b]):=fun h op d a b=>h.one pZ
 have i1:∀{s:Qg},okG s→okG (s.emit [qi 19 1 1 1]):=fun h=>h.one w1
 have l2:(s.labs.length:Int)<s.lab.labs.length:=by rw [dW];omega
 unfold ot
 repeat' (refine okG.ite ?_ ?_)
 ·exact t h _ _ _ _
 ·exact t h _ _ _ _
 ·exact t h _ _ _ _
 ·exact t h _ _ _ _
 ·exact t h _ _ _ _
 ·exact t h _ _ _ _
 ·exact t h _ _ _ _
 ·exact t h _ _ _ _
 ·exact t h _ _ _ _
 ·exact t h _ _ _ _
 ·exact i1 (t h _ _ _ _)
 ·exact i1 (t h _ _ _ _)
 ·exact t (t h _ _ _ _) _ _ _ _
 ·exact i1 (t (t h _ _ _ _) _ _ _ _)
 ·exact(t (h.lab.jump 32 1 0 ⟨by omega,l2⟩) _ _ _ _).place _
 ·exact t ((t (t ((t h.lab _ _ _ _).jump 32 1 0 (l:=(s.labs.length:Int)) ⟨by omega,l2⟩) _ _ _ _) _ _ _ _).place _) _ _ _ _
 ·exact h
theorem okG.un{s:Qg}(h:okG s)(o:ByteArray):okG (DO o s):=by
 unfold DO
 repeat' (refine okG.ite ?_ ?_)
 ·exact h.one pZ
 ·exact(h.one (q:=qi 16 2 0 4294967295) ⟨by decide,by decide⟩).one pZ
 ·exact(h.one (q:=qi 16 2 0 1) ⟨by decide,by decide⟩).one pZ
 ·exact h
theorem okG.num{s:Qg}(h:okG s){n:Int}(hn:oW n):okG (qp n s):=by
 have h1:=hn.1;have h2:=hn.2;unfold qp;refine okG.ite (h.one hn) (h.emit fun q hq=> ?_);simp only [List.mem_cons,List.not_mem_nil,or_false]at hq;rcases hq with rfl|rfl
 ·show oW (n/1024);exact⟨by omega,by omega⟩
 ·show oW (n%1024);exact⟨by omega,by omega⟩
structure okL(o st:Om)(k:Nat):Prop where
 o:∀x,oW (bC o x)
 st:∀x,0≤bC st x∧bC st x<k
mutual
theorem Ij{o st:Om}{k:Nat}(hk:okL o st k):∀(t:Tx)(s:Qg),GX t→k≤s.labs.length→okG s→okG (gX o st t s)
 | .mk kd n nm v kids,s,hg,hs,h=>by
  have h0:=xN hk kids s hg.2.2.2 hs h;have l0:=zv o st kids s;have h1:=DN hk kids ((kQ o st kids s).push 1) hg.2.2.2 (by show k≤(kQ o st kids s).labs.length;omega) (h0.push 1);have h2:=DL hk kids s hg.2.2.2 hs h;have l2:s.labs.length≤(sn o st kids s).labs.length:=(tQ (K:=fun _=>False) (S:=fun _=>0) (fun _ h=>h.elim) kids s).labs_le;have hst:=hk.st nm;have hkl:=hg.2.2.1;unfold gX;refine okG.ite (h.num hg.1) (okG.ite (h.one (q:=qi 23 1 13 (bC o nm)) (hk.o nm)) (okG.ite (h.one (q:=⟨48,0,0,0,2⟩) ⟨by decide,by decide⟩) (okG.ite ((h0.elem 1).one (q:=qi 23 1 1 8192) ⟨by decide,by decide⟩) (okG.ite (h0.un nm) (okG.ite ((h1.pop 2).op nm) (okG.ite ?_ h))))));have hj:=h2.jump 40 15 0 (l:=bC st nm) ⟨hst.1,by omega⟩;refine okG.ite (hj.one (q:=qi 16 14 14 (4*kids.length)) ?_) hj;show oW (4*(kids.length:Int));exact⟨by omega,by omega⟩
theorem xN{o st:Om}{k:Nat}(hk:okL o st k):∀(l:List Tx)(s:Qg),GXs l→k≤s.labs.length→okG s→okG (kQ o st l s)
 | [],s,_,_,h=>h
 | t::_,s,hg,hs,h=>Ij hk t s hg.1 hs h
theorem DN{o st:Om}{k:Nat}(hk:okL o st k):∀(l:List Tx)(s:Qg),GXs l→k≤s.labs.length→okG s→okG (Lf o st l s)
 | [],s,_,_,h=>h
 | _::r,s,hg,hs,h=>xN hk r s hg.2 hs h
theorem DL{o st:Om}{k:Nat}(hk:okL o st k):∀(l:List Tx)(s:Qg),GXs l→k≤s.labs.length→okG s→okG (sn o st l s)
 | [],s,_,_,h=>h
 | t::r,s,hg,hs,h=>DL hk r _ hg.2 (by have:=DM o st t s;show k≤(gX o st t s).labs.length;omega) ((Ij hk t s hg.1 hs h).push 1)
end
mutual
theorem MF{o st:Om}{k:Nat}(hk:okL o st k){en:Int}(he:0≤en∧en<k):∀(t:Ty)(s:Qg),GY t→k≤s.labs.length→okG s→okG (gY o st en t s)
 | .mk kd nm ve es vb body vl els,s,hg,hs,h=>by
  have hs0:k≤((s.lab.place s.labs.length)).labs.length:=by rw [dK,dW];omega
  have hl0:s.labs.length<((s.lab.place s.labs.length)).labs.length:=by rw [dK,dW];omega
  have h0:=xN hk es _ hg.2.1.2 hs0 (h.lab.place s.labs.length);have l0:=zv o st es (s.lab.place s.labs.length);have h1:=DN hk es ((kQ o st es (s.lab.place s.labs.length)).push 1) hg.2.1.2 (by show k≤(kQ o st es _).labs.length;omega) (h0.push 1);unfold gY;dsimp only;generalize kQ o st es (s.lab.place s.labs.length)=s1 at h0 l0 h1;refine okG.ite (h0.one (q:=qi 25 1 13 (bC o nm)) (hk.o nm)) (okG.ite (((h1.pop 2).elem 2).one (q:=qi 25 1 2 8192) ⟨by decide,by decide⟩) (okG.ite (h0.one (q:=⟨48,0,0,0,1⟩) ⟨by decide,by decide⟩) (okG.ite (h0.jump 40 0 0 ⟨he.1,by omega⟩) (okG.ite ?_ (okG.ite ?_ h0)))))
  ·have e2:(s1.lab.lab).labs.length=s1.labs.length+2:=by rw [dW,dW]
   have h2:=qk hk he body _ hg.2.2.1.2 (by show k≤(s1.lab.lab).labs.length;omega) (h0.lab.lab.jump 32 1 0 (l:=(s1.labs.length:Int)) ⟨by omega,by omega⟩);have l2:=iU o st en body ((s1.lab.lab).jump 32 1 0 s1.labs.length);have l2':(s1.lab.lab).labs.length≤_:=l2;have h3:okG (if els.length>0 then(gh o st en body ((s1.lab.lab).jump 32 1 0 s1.labs.length)).jump 40 0 0 ((s1.labs.length:Int)+1)else gh o st en body ((s1.lab.lab).jump 32 1 0 s1.labs.length)):=okG.ite (h2.jump 40 0 0 ⟨by omega,by omega⟩) h2;have l3:k≤(if els.length>0 then(gh o st en body ((s1.lab.lab).jump 32 1 0 s1.labs.length)).jump 40 0 0 ((s1.labs.length:Int)+1)else gh o st en body ((s1.lab.lab).jump 32 1 0 s1.labs.length)).labs.length:=by
    split
    ·show k≤(gh o st en body _).labs.length;omega
    ·omega
   exact(qk hk he els _ hg.2.2.2.2 (by rw [dK];exact l3) (h3.place _)).place _
  ·have e2:(s1.lab).labs.length=s1.labs.length+1:=dW s1;have h2:=qk hk he body _ hg.2.2.1.2 (by show k≤(s1.lab).labs.length;omega) (h0.lab.jump 32 1 0 (l:=(s1.labs.length:Int)) ⟨by omega,by omega⟩);have l2:=iU o st en body ((s1.lab).jump 32 1 0 s1.labs.length);have l2':(s1.lab).labs.length≤_:=l2;exact(h2.jump 40 0 0 (l:=(s.labs.length:Int)) ⟨by omega,by omega⟩).place _
theorem qk{o st:Om}{k:Nat}(hk:okL o st k){en:Int}(he:0≤en∧en<k):∀(l:List Ty)(s:Qg),GYs l→k≤s.labs.length→okG s→okG (gh o st en l s)
 | [],s,_,_,h=>h
 | t::r,s,hg,hs,h=>qk hk he r _ hg.2 (by
   have:=(DK (K:=fun _=>False) (S:=fun _=>0) (E:=0) t s (fun _ h=>h.elim) (fun _ h=>h.elim):Res (fun _=>False) s (gY o st en t s) _).labs_le;omega) (MF hk he t s hg.1 hs h)
end
theorem f_(o:Om)(x y:ByteArray)(n:Int):bC (d8 o x n) y=if x=y then n else bC o y:=by
 unfold bC d8;rw [List.find?_cons];by_cases h:x=y
 ·rw [if_pos h];simp only [decide_eq_true h]
 ·rw [if_neg h];simp only [decide_eq_false h]
  induction o with
  | nil=>rfl
  | cons p r ih=>
   rw [List.filter_cons];by_cases hp:p.1=x
   ·rw [if_neg (by simp [hp]),ih,List.find?_cons];simp only [decide_eq_false (show ¬p.1=y from fun e=>h (hp.symm.trans e))]
   ·rw [if_pos (by simp [hp]),List.find?_cons,List.find?_cons];by_cases hy:p.1=y
    ·simp only [decide_eq_true hy]
    ·simp only [decide_eq_false hy];exact ih
def nC:List Tf→ByteArray→Nat
 | [],_=>0
 | f::r,x=>if f.name=x then 0 else nC r x+1
theorem zx:∀(fs:List Tf)(p:Om×Qg)(x:ByteArray),(fs.map Tf.name).Nodup→(x∈fs.map Tf.name→bC (nj fs p).1 x=((p.2.labs.length+nC fs x:Nat):Int))∧(x∉fs.map Tf.name→bC (nj fs p).1 x=bC p.1 x)
 | [],p,x,_=>⟨fun h=>by simp at h,fun _=>rfl⟩
 | f::r,p,x,h=>by
  rw [List.map_cons,List.nodup_cons]at h;unfold nj;obtain⟨i1,i2⟩:=zx r (d8 p.1 f.name p.2.labs.length,p.2.lab) x h.2;have hl:(p.2.lab).labs.length=p.2.labs.length+1:=by
   show(p.2.labs++ [0]).length=_;rw [List.length_append,List.length_singleton]
  rw [hl]at i1;by_cases hx:x∈r.map Tf.name
  ·have hf:¬f.name=x:=fun e=>h.1 (by rw [e];exact hx)
   refine⟨fun _=> ?_,fun hn=>absurd (List.mem_cons_of_mem _ hx) hn⟩;rw [i1 hx,show nC (f::r) x=nC r x+1 from if_neg hf]
   congr 1
   omega
  ·rw [i2 hx];show(_→bC (d8 p.1 f.name (p.2.labs.length:Int)) x=_)∧(_→bC (d8 p.1 f.name (p.2.labs.length:Int)) x=_);rw [f_];by_cases hf:f.name=x
   ·rw [if_pos hf];refine⟨fun _=> ?_,fun hn=>absurd (by rw [List.map_cons,hf];exact List.mem_cons_self) hn⟩;unfold nC;rw [if_pos hf];rfl
   ·rw [if_neg hf];refine⟨fun hn=> ?_,fun _=>J⟩;rw [List.map_cons,List.mem_cons]at hn;exact absurd (hn.resolve_left fun e=>hf e.symm) hx
theorem vJ:∀(fs:List Tf)(p:Om×Qg),(nj fs p).2={p.2 with labs:=p.2.labs++List.replicate fs.length 0}
 | [],p=>by
  show p.2={p.2 with labs:=p.2.labs++ []};rw [List.append_nil]
 | f::r,p=>by
  unfold nj;rw [vJ r];show Qg.mk _ _ ((p.2.labs++ [0])++List.replicate r.length 0)=_;rw [List.append_assoc];rfl
theorem tv:∀(fs:List Tf)(x:ByteArray),x∈fs.map Tf.name→nC fs x<fs.length
 | [],x,h=>by simp at h
 | f::r,x,h=>by
  unfold nC;split
  ·simp
  ·have:=tv r x ((List.mem_cons.1 h).resolve_left fun e=>by subst e;contradiction);simp only [List.length_cons];omega
theorem u5:∀(fs:List Tf)(x y:ByteArray),x∈fs.map Tf.name→y∈fs.map Tf.name→nC fs x=nC fs y→x=y
 | [],x,_,h,_,_=>by simp at h
 | f::r,x,y,hx,hy,he=>by
  unfold nC at he;by_cases h1:f.name=x
  ·by_cases h2:f.name=y
   ·rw [←h1,h2]
   ·rw [if_pos h1,if_neg h2]at he;omega
  ·by_cases h2:f.name=y
   ·rw [if_neg h1,if_pos h2]at he;omega
   ·rw [if_neg h1,if_neg h2]at he;exact u5 r x y ((List.mem_cons.1 hx).resolve_left fun e=>h1 e.symm) ((List.mem_cons.1 hy).resolve_left fun e=>h2 e.symm) (by omega)
theorem mn(st:Om):∀(fs:List Tf)(p:Nat)(l:List Int)(k:Nat),(∀f∈fs,(bC st f.name).toNat≠k)→(dz st fs p l)[k]?=l[k]?
 | [],_,_,_,_=>rfl
 | f::r,p,l,k,h=>by
  unfold dz;rw [mn st r _ _ k fun g hg=>h g (by simp [hg]),List.getElem?_set_ne (h f (by simp))]
theorem pz(st:Om):∀(fs:List Tf)(p:Nat)(l:List Int)(x:ByteArray),(fs.map Tf.name).Nodup→(∀a∈fs.map Tf.name,∀b∈fs.map Tf.name,(bC st a).toNat=(bC st b).toNat→a=b)→
  (∀a∈fs.map Tf.name,(bC st a).toNat<l.length)→x∈fs.map Tf.name→(dz st fs p l)[(bC st x).toNat]?=some (gB fs p x)
 | [],_,_,x,_,_,_,h=>by simp at h
 | f::r,p,l,x,hn,hi,hl,hx=>by
  rw [List.map_cons,List.nodup_cons]at hn;unfold dz gB;by_cases hf:f.name=x
  ·rw [if_pos hf,mn st r _ _ _ fun g hg e=>hn.1 (by
    have hm:g.name∈(f::r).map Tf.name:=List.mem_map_of_mem (by simp [hg]);have:=hi g.name hm x hx e;rw [hf,←this];exact List.mem_map_of_mem hg),hf,List.getElem?_set_self (hl x hx)]
  ·rw [if_neg hf];exact pz st r _ _ x hn.2 (fun a ha b hb=>hi a (List.mem_cons_of_mem _ ha) b (List.mem_cons_of_mem _ hb)) (fun a ha=>by rw [List.length_set];exact hl a (List.mem_cons_of_mem _ ha)) ((List.mem_cons.1 hx).resolve_left fun e=>hf e.symm)
theorem vL(labs:List Int):∀(fs:List (Int×Int))(l:List Qi),mS labs fs l=qT (fun i=>labs.getD i.toNat 0) 0 fs l
 | [],l=>rfl
 | f::r,l=>by
  unfold mS qT;rw [Nat.sub_zero];exact vL labs r _
theorem yz:∀(fs:List Tf)(p:Nat)(x:ByteArray),x∉fs.map Tf.name→gB fs p x=3
 | [],_,_,_=>rfl
 | f::r,p,x,h=>by
  rw [List.map_cons,List.mem_cons]at h;unfold gB;rw [if_neg fun e=>h (Or.inl e.symm)];exact yz r _ x fun e=>h (Or.inr e)
theorem tS(fs:List Tf)(hn:(fs.map Tf.name).Nodup)(h0:fs≠ []):fv fs=iK fs:=by
 obtain⟨st,hst⟩:∃st,st=(nj fs ([],⟨[],[],[]⟩)).1:=⟨_,J⟩
 have ho:∀x,x∉fs.map Tf.name→bC st x=0:=fun x hx=>by
  rw [hst,(zx fs _ x hn).2 hx];rfl
 have hm:∀x∈fs.map Tf.name,(bC st x).toNat=nC fs x:=fun x hx=>by
  rw [hst,(zx fs _ x hn).1 hx];show((0+nC fs x:Nat):Int).toNat=_;rw [Nat.zero_add,Int.toNat_natCast]
 obtain⟨s0,hs0⟩:∃s0,s0=(nj fs ([],⟨[],[],[]⟩)).2:=⟨_,J⟩
 have e0:s0=⟨[],[],List.replicate fs.length 0⟩:=by
  rw [hs0,vJ];rfl
 obtain⟨s1,hs1⟩:∃s1:Qg,s1=((s0.emit [qi 16 14 0 16384]).jump 40 15 0 (bC st cN)).emit [⟨48,0,0,0,0⟩]:=⟨_,J⟩
 have hA:xQ fs=qs st fs s1:=by
  rw [hs1,hs0,hst];rfl
 have c1:s1.code.length=3:=by rw [hs1,e0];rfl
 have l1:s1.labs=List.replicate fs.length 0:=by rw [hs1,e0];rfl
 obtain⟨S,hS⟩:∃S,S=gB fs 3:=⟨_,J⟩
 have hlt:∀f∈fs,(bC st f.name).toNat<s1.labs.length:=fun f hf=>by
  have hx:f.name∈fs.map Tf.name:=List.mem_map_of_mem hf;rw [hm _ hx,l1,List.length_replicate];exact tv fs _ hx
 have g2:=zA (K:=fun L=>∀x,L (bC st x)=S x) (S:=S) (fun L h=>h) fs s1 hlt;rw [c1]at g2;have g1:Res (fun L=>∀x,L (bC st x)=S x) {s0 with labs:=dz st fs 3 s1.labs} {s1 with labs:=dz st fs 3 s1.labs} [qi 16 14 0 16384,qi 40 15 0 (wU (S cN-1)),⟨48,0,0,0,0⟩]:=by
  rw [hs1];refine(((Res.emit _ [_]).seq (Res.jump _ 40 15 0 (bC st cN) _ fun L hL=> ?_)).seq (Res.emit _ [_]));rw [hL cN];show wU (_-(((s0.code++ [_]).length:Nat):Int))=_;rw [e0];rfl
 obtain⟨raw,fx,ls,a1,a2,a3,a4,a5,a6⟩:=(g1.seq g2).ex;unfold fv;rw [hA,vL,a1,a3];have hc:s0.code= []:=by rw [e0]
 have hf:s0.fixes= []:=by rw [e0]
 show qT _ 0 (s0.fixes++fx) (s0.code++raw)=iK fs;rw [hc,hf,List.nil_append,List.nil_append];have hcl:s0.code.length=0:=by rw [hc];rfl
 have hget:∀x∈fs.map Tf.name,(dz st fs 3 s1.labs)[(bC st x).toNat]?=some (gB fs 3 x):=fun x hx=>
  pz st fs 3 s1.labs x hn (fun a ha b hb e=>u5 fs a b ha hb (by rw [←hm a ha,←hm b hb];exact e)) (fun a ha=>by
   obtain⟨f,hf,rfl⟩:=List.mem_map.1 ha;exact hlt f hf) hx
 have a6':=a6 (fun i=>(qs st fs s1).labs.getD i.toNat 0) (fun x=> ?_) (fun i n hi=> ?_)
 ·rw [show({s0 with labs:=dz st fs 3 s1.labs}:Qg).code.length=0 from hcl]at a6';rw [a6',hS];rfl
 ·show(qs st fs s1).labs.getD (bC st x).toNat 0=S x;rw [a4,hS];show(dz st fs 3 s1.labs++ls).getD _ 0=_;have hlen:∀y∈fs.map Tf.name,(bC st y).toNat<(dz st fs 3 s1.labs).length:=fun y hy=>by
   rw [lF];obtain⟨f,hf,rfl⟩:=List.mem_map.1 hy;exact hlt f hf
  by_cases hx:x∈fs.map Tf.name
  ·rw [List.getD_eq_getElem?_getD,List.getElem?_append_left (hlen x hx),hget x hx];rfl
  ·rw [yz fs 3 x hx,ho x hx];cases fs with
   | nil=>exact absurd rfl h0
   | cons f r=>
    have hy:f.name∈(f::r).map Tf.name:=by simp
    have h3:=hget f.name hy;have h4:=hlen f.name hy;have h5:(bC st f.name).toNat=0:=by
     rw [hm _ hy];unfold nC;rw [if_pos J]
    rw [h5]at h3 h4;rw [List.getD_eq_getElem?_getD,show(0:Int).toNat=0 from J,List.getElem?_append_left h4,h3];unfold gB;rw [if_pos J];rfl
 ·show(qs st fs s1).labs.getD (((dz st fs 3 s1.labs).length+i:Nat):Int).toNat 0=n;rw [a4];show(dz st fs 3 s1.labs++ls).getD _ 0=_;rw [Int.toNat_natCast,List.getD_eq_getElem?_getD,List.getElem?_append_right (by omega),show(dz st fs 3 s1.labs).length+i-(dz st fs 3 s1.labs).length=i by omega,hi];rfl
def okO(o:Om):Prop:=∀x,oW (bC o x)
theorem okO.put{o:Om}(h:okO o)(x:ByteArray){n:Int}(hn:oW n):okO (d8 o x n):=fun y=>by
 rw [f_];split
 ·exact hn
 ·exact h y
theorem okO.nil:okO []:=fun _=>pZ
theorem okO.gP{n:Int}(hn:n≤1000000):∀(l:List ByteArray)(k:Int)(o:Om),okO o→0≤k→k+l.length≤n→okO (gP n k l o)
 | [],k,o,h,_,_=>h
 | p::r,k,o,h,hk,hl=>by
  rw [List.length_cons]at hl;exact okO.gP hn r (k+1) _ (h.put p ⟨by omega,by omega⟩) (by omega) (by omega)
mutual
theorem okO.gD:∀(t:Ty)(p:Om×Int),okO p.1→okO (gD t p).1
 | .mk k nm ve es vb body vl els,p,h=>by
  rw [DV];refine okO.gDs els _ (okO.gDs body _ ?_);show okO (if k=1 then _ else p).1;split
  ·exact h.put nm (pW _)
  ·exact h
theorem okO.gDs:∀(l:List Ty)(p:Om×Int),okO p.1→okO (gDs l p).1
 | [],p,h=>h
 | t::r,p,h=>okO.gDs r _ (okO.gD t p h)
end
theorem okO.offs{f:Tf}(hg:GF f):okO (cT f).1:=okO.gDs f.body _ (okO.gP (by have:=hg.2.2.1;omega) f.ps 0 [] okO.nil (Int.le_refl _) (by omega))
theorem okG.push0:∀(n:Nat){s:Qg},okG s→okG (dj n s)
 | 0,s,h=>h
 | n+1,s,h=>by
  rw [gJ];exact(okG.push0 n h).push 0
theorem MI{st:Om}{f:Tf}{s:Qg}(hg:GF f)(hst:∀x,0≤bC st x∧bC st x<s.labs.length)(h:okG s):okG (gF st f s):=by
 have e2:(s.lab.lab).labs.length=s.labs.length+2:=by rw [dW,dW]
 have h1:=(((h.lab.lab.place (bC st f.name)).one (q:=qi 16 12 12 1) ⟨by decide,by decide⟩).one (q:=qi 16 2 0 12) ⟨by decide,by decide⟩).jump 35 2 12 (l:=(s.labs.length:Int)) ⟨by omega,by show(s.labs.length:Int)<((s.lab.lab).place (bC st f.name)).labs.length;rw [dK];omega⟩;have h2:=(h1.one (q:=⟨49,0,0,0,0⟩) pZ).place s.labs.length;have h3:=((((h2.push 15).push 13).one (q:=q3 1 13 14 0) pZ).push0 (cT f).2.toNat)
 have l3:(dj (cT f).2.toNat ((((((((((s.lab.lab).place (bC st f.name)).emit [qi 16 12 12 1]).emit [qi 16 2 0 12]).jump 35 2 12 s.labs.length).emit [⟨49,0,0,0,0⟩]).place s.labs.length).push 15).push 13).emit [q3 1 13 14 0])).labs.length=s.labs.length+2:=by
  rw [jB];show(((((((s.lab.lab).place (bC st f.name)).emit [qi 16 12 12 1]).emit [qi 16 2 0 12]).jump 35 2 12 s.labs.length).emit [⟨49,0,0,0,0⟩]).place s.labs.length).labs.length=_;rw [dK];show((s.lab.lab).place (bC st f.name)).labs.length=_;rw [dK,e2]
 have h4:=qk (o:=(cT f).1) (st:=st) (k:=s.labs.length+2) ⟨okO.offs hg,fun x=>by have:=hst x;omega⟩ (en:=(s.labs.length:Int)+1) ⟨by omega,by omega⟩ f.body _ hg.2.2.2.2.1 (by rw [l3];exact Nat.le_refl _) h3;exact(((((((h4.one (q:=q3 1 1 0 0) pZ).place _).one (q:=q3 1 14 13 0) pZ).pop 13).pop 15).one (q:=qi 16 12 12 4294967295) ⟨by decide,by decide⟩).one (q:=qi 27 0 15 0) pZ)
theorem DT(st:Om)(f:Tf)(s:Qg):s.labs.length≤(gF st f s).labs.length:=by
 have h1:=iU (cT f).1 st ((s.labs.length:Int)+1) f.body (dj (cT f).2.toNat ((((((((((s.lab.lab).place (bC st f.name)).emit [qi 16 12 12 1]).emit [qi 16 2 0 12]).jump 35 2 12 s.labs.length).emit [⟨49,0,0,0,0⟩]).place s.labs.length).push 15).push 13).emit [q3 1 13 14 0]));rw [jB]at h1;have h2:s.labs.length+2≤(gh (cT f).1 st ((s.labs.length:Int)+1) f.body (dj (cT f).2.toNat ((((((((((s.lab.lab).place (bC st f.name)).emit [qi 16 12 12 1]).emit [qi 16 2 0 12]).jump 35 2 12 s.labs.length).emit [⟨49,0,0,0,0⟩]).place s.labs.length).push 15).push 13).emit [q3 1 13 14 0]))).labs.length:=by
  refine Nat.le_trans ?_ h1;show _≤(((((((s.lab.lab).place (bC st f.name)).emit [qi 16 12 12 1]).emit [qi 16 2 0 12]).jump 35 2 12 s.labs.length).emit [⟨49,0,0,0,0⟩]).place s.labs.length).labs.length;rw [dK];show _≤((s.lab.lab).place (bC st f.name)).labs.length;rw [dK,dW,dW];exact Nat.le_refl _
 show _≤(((gh (cT f).1 st ((s.labs.length:Int)+1) f.body _).emit [q3 1 1 0 0]).place ((s.labs.length:Int)+1)).labs.length;rw [dK];exact Nat.le_trans (Nat.le_add_right _ 2) h2
theorem DS{st:Om}:∀(l:List Tf)(s:Qg),(∀f∈l,GF f)→(∀x,0≤bC st x∧bC st x<s.labs.length)→okG s→okG (qs st l s)
 | [],s,_,_,h=>h
 | f::r,s,hg,hst,h=>DS r _ (fun g hm=>hg g (by simp [hm])) (fun x=>by have:=hst x;have:=DT st f s;omega) (MI (hg f (by simp)) hst h)
theorem DP{fs:List Tf}(hn:(fs.map Tf.name).Nodup)(h0:fs≠ [])(x:ByteArray):0≤bC (nj fs ([],⟨[],[],[]⟩)).1 x∧bC (nj fs ([],⟨[],[],[]⟩)).1 x<fs.length:=by
 have hl:0<fs.length:=by cases fs with|nil=>exact absurd J h0|cons _ _=>simp
 obtain⟨h1,h2⟩:=zx fs ([],⟨[],[],[]⟩) x hn;by_cases hx:x∈fs.map Tf.name
 ·have:=tv fs x hx;rw [h1 hx];simp only [List.length_nil];omega
 ·rw [h2 hx];show(0:Int)≤0∧(0:Int)<_;omega
theorem GB{fs:List Tf}(hg:GP fs)(hn:(fs.map Tf.name).Nodup)(h0:fs≠ []):okG (xQ fs):=by
 have hb:=DP hn h0;have hs:=vJ fs ([],⟨[],[],[]⟩);have hl:(nj fs ([],⟨[],[],[]⟩)).2.labs.length=fs.length:=by
  rw [hs];simp
 have ok0:okG (nj fs ([],⟨[],[],[]⟩)).2:=by
  rw [hs];exact⟨fun p hp=>by simp at hp,fun q hq=>by simp at hq⟩
 have h1:=((ok0.one (q:=qi 16 14 0 16384) ⟨by decide,by decide⟩).jump 40 15 0 (l:=bC (nj fs ([],⟨[],[],[]⟩)).1 cN) ⟨(hb cN).1,by show _<((nj fs ([],⟨[],[],[]⟩)).2.labs.length:Int);rw [hl];exact(hb cN).2⟩).one (q:=⟨48,0,0,0,0⟩) pZ;exact DS fs _ hg.2 (fun x=>by
  show _∧_<((nj fs ([],⟨[],[],[]⟩)).2.labs.length:Int);rw [hl];exact hb x) h1
theorem r6:∀(l:List Qi)(k:Nat)(n:Int),oW n→(∀q∈l,oW q.imm)→∀q∈gk l k n,oW q.imm
 | [],_,_,_,h=>h
 | i::l,0,n,hn,h=>fun q hq=>by
  rcases List.mem_cons.1 hq with rfl|hq
  ·exact hn
  ·exact h q (by simp [hq])
 | i::l,k+1,n,hn,h=>fun q hq=>by
  rcases List.mem_cons.1 hq with rfl|hq
  ·exact h q (by simp)
  ·exact r6 l k n hn (fun q hq=>h q (by simp [hq])) q hq
theorem tR(labs:List Int):∀(fs:List (Int×Int))(l:List Qi),(∀q∈l,oW q.imm)→(∀q∈mS labs fs l,oW q.imm)∧(mS labs fs l).length=l.length
 | [],l,h=>⟨h,rfl⟩
 | p::r,l,h=>by
  obtain⟨h1,h2⟩:=tR labs r (gk l p.1.toNat (wU (labs.getD p.2.toNat 0-p.1))) (r6 l _ _ (pW _) h);exact⟨h1,h2.trans (ik l _ _)⟩
theorem sq(labs:List Int):∀{fs:List (Int×Int)}{i:Nat}{f:Int×Int}(l:List Qi),fs[i]?=some f→mS labs (fs.take (i+1)) l=gk (mS labs (fs.take i) l) f.1.toNat (wU (labs.getD f.2.toNat 0-f.1))
 | [],i,f,l,h=>by simp at h
 | p::r,0,f,l,h=>by cases h;rfl
 | p::r,i+1,f,l,h=>sq labs (fs:=r) _ h
theorem pF:∀(l:List Qi)(k:Nat)(n:Int)(q:Qi),l[k]?=some q→gk l k n=l.set k {q with imm:=n}
 | [],k,n,q,h=>by simp at h
 | i::l,0,n,q,h=>by cases h;rfl
 | i::l,k+1,n,q,h=>congrArg (i:: ·) (pF l k n q h)
def dy(l:List Qi):List Int:=l.flatMap fun q=>eD (rN q)
theorem eV:∀l:List Qi,(dy l).length=4*l.length
 | []=>rfl
 | q::r=>by
  show(eD (rN q)++dy r).length=_;rw [List.length_append,eV r,List.length_cons,show(eD (rN q)).length=4 from J];omega
theorem y5(n:Int):∀x∈eD n,0≤x∧x<256:=fun x hx=>by
 simp only [eD,List.mem_cons,List.not_mem_nil,or_false]at hx;rcases hx with rfl|rfl|rfl|rfl<;>omega
theorem qJ(l:List Qi):∀x∈dy l,0≤x∧x<256:=fun x hx=>by
 obtain⟨q,_,hq⟩:=List.mem_flatMap.1 hx;exact y5 _ x hq
theorem jJ:∀l:List Int,(∀x∈l,0≤x∧x<256)→bn (jZ l)=l:=by
 have h0:∀(l:List Int)(r:ByteArray),(l.foldl (fun r n=>r.push (UInt8.ofNat n.toNat)) r).data.toList=r.data.toList++l.map fun n=>UInt8.ofNat n.toNat:=by
  intro l
  induction l with
  | nil=>intro r;simp
  | cons n l ih=>intro r;rw [List.foldl_cons,ih];simp [ByteArray.push]
 intro l hl;unfold bn jZ;rw [h0];simp only [List.map_append,List.map_map];show(ByteArray.empty.data.toList).map _++_=l;rw [show ByteArray.empty.data.toList= []from J,List.map_nil,List.nil_append];refine(List.map_congr_left (g:=id) fun n hn=> ?_).trans (List.map_id l);have:=hl n hn;show(((UInt8.ofNat n.toNat).toNat:Nat):Int)=n;rw [UInt8.toNat_ofNat'];omega
theorem yl{l:List Qi}{i:Nat}{q:Qi}(h:l[i]?=some q):dy (l.take (i+1))=dy (l.take i)++bn (jZ (eD (rN q))):=by
 rw [bT h,jJ _ (y5 _)];unfold dy;rw [List.flatMap_append];simp
theorem IZ(x:Int):IntKind.u32.wrap (IntKind.i64.wrap x)=wU x:=by
 unfold wU;simp only [IntKind.wrap_u32,IntKind.wrap_i64];omega
theorem vF(e:Ga)(s:Qg)(hs:okG s)(hz:s.sz≤240000)(hne:s.code≠ []):
  Spec prog 55 [.pointer (some ⟨e.g,0,none⟩)] [gA e s] [] (X:=Unit) (fun _=>True) (fun _=> .string (jZ (dy (mS s.labs s.fixes s.code)))) (fun _=> []) (fun _=> []):=by
 refine aI func55 J ntmps55 J fun w0 M H=> ?_
 unfold Qg.sz at hz;refine tj 0 [0,21,22,23] J (by decide) J fun vc vf vl=>aj (ai J J (ac (aS (ad J J (bG J J (az o_ J J (aP 0 Fp J J J J J (aO (aU underlying107 J (bs (k:=22) J)) J (ad J J (ac (aB (bv (X:=Nat) (fun i=>i≤s.fixes.length) (fun i=> [(0,.pointer (some ⟨e.g,0,none⟩)),(2,.string ⟨#[]⟩),(13,sv vf),(14,.int .i64 (s.fixes.length:Int)),(15,.int .i64 (i:Int))]) (fun i=> [(0,bj e.g 111 (gR e.vp vc vf vl e.ms e.mo e.mp e.en)),(21,own 118 5 gL (sv vc) (mS s.labs (s.fixes.take i) s.code)),(22,own 171 2 uq (sv vf) s.fixes),(23,own 3 1 eI (sv vl) s.labs)]) (fun i=> []) (fun i=>s.fixes.length-i) 0 (Nat.zero_le _) J J J (fun i n1=>aj (ar J J ci J ?_))))))))))))))
 refine ac (a_ (ae J (fun h1=> ?_) (fun h1=> ?_)))
 ·(try simp only [be]at h1)
  have hi:i<s.fixes.length:=by omega
  obtain⟨f,hf⟩:∃f,s.fixes[i]?=some f:=⟨_,List.getElem?_eq_getElem hi⟩
  have hfx:=hs.fx f (List.mem_of_getElem? hf);have hfl:(mS s.labs (s.fixes.take i) s.code).length=s.code.length:=(tR s.labs (s.fixes.take i) s.code hs.im).2;obtain⟨q,hq⟩:∃q,(mS s.labs (s.fixes.take i) s.code)[f.1.toNat]?=some q:=⟨_,List.getElem?_eq_getElem (by rw [hfl];omega)⟩
  obtain⟨lb,hlb⟩:∃lb,s.labs[f.2.toNat]?=some lb:=⟨_,List.getElem?_eq_getElem (by omega)⟩
  have hgd:s.labs.getD f.2.toNat 0=lb:=by rw [List.getD_eq_getElem?_getD,hlb];rfl
  refine ax (a_ (aB (aj (aO (aR (j:=i) underlying107 wZ J J (bs (k:=22) J) (by first|rfl|omega) (by first|omega|(simp;done)|(simp;omega))) J (aO (aL wZ J J J (bD (bs (k:=22) J) (by intro _;rfl) hf (by rfl))) J (aZ wZ J J fun b4=>aq (k:=4) wZ J J J J J J (ac ?_)))))));refine bH [19,20,21,22,23,24,25,26,27,28,29,30,31,32,33,34,35,36,37,38] _ J (bI (V:= [(0,19,_),(1,20,_),(2,21,_),(3,22,_),(4,23,_),(5,24,_),(6,25,_),(7,26,_),(8,27,_),(9,28,_),(10,29,_),(11,30,_),(12,31,_),(13,32,_),(14,33,_),(15,34,_),(16,35,_),(17,36,_),(18,37,_),(19,38,_)]) [0,1,2,3,4,5,6,7,8,9,10,11,12,13,14,15,16,17,18,19] 20 [20,19,18,17,16,15,14,13,12,11,10,9,8,7,6,5,4,3,2,1,0] [] (fun _=> []) J J (aa (aD J (am J)) (aa (aD J (aF J)) (aa (aD J (ag kY J)) (aa (aD J (ah AM J J (ay (k:=0) J J))) (aa (aD J (ag zU J)) (aa (aD J (ah t3 J J (ay (k:=4) J J))) (aa (aD J (am J)) (aa (aD J (aF J)) (aa (aD J (ag m5 J)) (aa (aD J (ah Fl J J (ay (k:=0) J J))) (aa (aD J (ag GU J)) (aa (aD J (ah t3 J J (ay (k:=4) J J))) (aa (aD J (aR (j:=f.2.toNat) underlying22 t3 J J (bs (k:=23) J) (by omega) (by omega))) (aa (aD J (ah t3 J J (bD (bs (k:=23) J) (by intro _;rfl) hlb (by rfl)))) (aa (aD J (ag zU J)) (aa (aD J (ah t3 J J (ay (k:=4) J J))) (aa (aD J (aT J J (fX J))) (aa (aD J (bX underlying3 underlying41 J (IZ _))) (aa (aD J (aR (j:=f.1.toNat) underlying106 ew J J (bs (k:=21) J) (by omega) (by rw [hfl];omega))) (aa (aD J (dw dk J)) aw)))))))))))))))))))) J J J J J J J J J (fun _ _=>J) J (mH (k:=21) (o:=4) (e':={q with imm:=wU (lb-f.1)}) cB J J J J J J (by intro _;rfl) hq (by show _+1≤_;decide) J) (fun _ _=>bp [] J J aw J J J ?_));refine ap (ar J J (bi (by first|exact bc (by omega) (by omega)|rfl)) J (ad J J (ac ?_)));refine aM (i+1) ⟨by omega,by omega⟩ J (by rw [sq s.labs s.code hf,pF _ _ _ q hq,hgd];rfl) J
 ·(try simp only [be]at h1)
  have hi:i=s.fixes.length:=by omega
  subst hi;refine bx (a_ ?_);rw [List.take_length];obtain⟨C,hC⟩:∃C,C=mS s.labs s.fixes s.code:=⟨_,J⟩
  rw [←hC];have hCo:=tR s.labs s.fixes s.code hs.im;rw [←hC]at hCo;have hCl:=hCo.2;refine ap (aZ Fm J J fun b5=>ac (aS (ad J J (bG J J (az kY J J (aP 0 AM J J J J J (aO (aU underlying106 J (bs (k:=21) J)) J (ad J J (ac (aB (cJ 31 (α:=Int) (S:=5) (s:=1) (enc:=bZ) (bv (X:=Nat×Option Addr×SV) (fun x=>x.1≤C.length∧(x.2.1=none∨x.2.1=some ⟨b5,0,none⟩)) (fun x=> [(0,.pointer (some ⟨e.g,0,none⟩)),(2,.string ⟨#[]⟩),(5,.pointer (some ⟨b5,0,none⟩)),(43,sv vc),(44,.int .i64 (C.length:Int)),(45,.int .i64 (x.1:Int))]) (fun x=> [(0,bj e.g 111 (gR e.vp vc vf vl e.ms e.mo e.mp e.en)),(21,own 118 5 gL (sv vc) C),(5,bj b5 177 [.pointer x.2.1,sv x.2.2]),(31,own 5 1 bZ (sv x.2.2) (dy (C.take x.1)))]) (fun x=> []) (fun x=>C.length-x.1) (0,none,bJ) ⟨Nat.zero_le _,.inl J⟩ J J J (fun x hx0=>aj (ar J J ci J (ac ?_)))))))))))))));refine a_ (ae J (fun h2=> ?_) (fun h2=> ?_))
  ·(try simp only [be]at h2)
   have hi:x.1<C.length:=by omega
   obtain⟨q,hq⟩:∃q,C[x.1]?=some q:=⟨_,List.getElem?_eq_getElem hi⟩
   have hqi:=hCo.1 q (List.mem_of_getElem? hq);have hcl:=eV (C.take x.1);have htl:=List.length_take (i:=x.1) (l:=C);have hps:(jZ (eD (rN q))).size=4:=by rw [ga];rfl
   refine ax (a_ (aB (aj (aO (aR (j:=x.1) underlying106 ew J J (bs (k:=21) J) (by first|rfl|omega) (by first|omega|(simp;done)|(simp;omega))) J (aO (aL ew J J J (bD (bs (k:=21) J) (by intro _;rfl) hq (by rfl))) J (aZ ew J J fun b7=>aq (k:=7) ew J J J J J J (aG J (aO (aL ew J J J (aX (k:=7) J)) J (ak (xs:= [.tmp 50]) (vZ q hqi) P7 [] [] [] (fun _ _=>ad J J (aO (ce J J) J (aO (ce J J) J (ai J J (ai J J (ac ?_)))))))))))))));refine ap (ad J J (ak (xs:= [.tmp 54,.const (.int .i64 4)]) (CN (rN q) (Kq q)) NY [] [] [] (fun _ _=>ak (xs:= [.tmp 5,.tmp 55]) (AD b5 x.2.1 hx0.2 x.2.2 (dy (C.take x.1)) (jZ (eD (rN q))) (by omega)) P6 [5,31] [] [5,31] (fun v56 _=>ac (ap (ar J J (bi (by first|exact bc (by omega) (by omega)|rfl)) J (ad J J (ac ?_))))))));refine aM (x.1+1,some ⟨b5,0,none⟩,v56) ⟨⟨by dsimp only;omega,.inr rfl⟩,by dsimp only;omega⟩ J (by dsimp only;rw [yl hq];rfl) J
  ·(try simp only [be]at h2)
   have hi:x.1=C.length:=by omega
   rw [hi,List.take_length];refine bx (aj (ak (xs:= [.tmp 5]) (BG b5 x.2.1 x.2.2 (dy C) (by intro h;have:=eV C;rw [h]at this;simp at this;exact hne (List.length_eq_zero_iff.1 (by omega))) (qJ C)) NX [5,31] [] [5] (fun _ _=>ai J J (ac (au (aH () O J (bE (aJ J)) (by rw [hC]) [] [] J J J))))))
end Go.Proofs.YtedmdgbmdplifaaGreat
