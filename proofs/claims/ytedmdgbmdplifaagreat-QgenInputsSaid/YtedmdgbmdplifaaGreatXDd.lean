/-
  A part of the proof. Conditions are with the theorems.
-/
import Derived.Test.YtedmdgbmdplifaaGreatXDa
import Derived.Test.YtedmdgbmdplifaaGreatXDb
import Derived.Test.YtedmdgbmdplifaaGreatXDc
set_option maxHeartbeats 32000000
set_option maxRecDepth 100000
set_option linter.unusedSimpArgs false
set_option linter.unusedVariables false
namespace Go.Proofs.YtedmdgbmdplifaaGreat
open Go.RowKit Tryz
structure Me where
 m:Nat
 vd:SV
 vi:SV
 vo:SV
 vp:SV
 vr:SV
structure Mm where
 d:List Int
 i:List Int
 r:List Int
def mR(e:Me):List Value:= [sv e.vd,sv e.vi,sv e.vo,sv e.vp,sv e.vr,.bool false]
structure MO(s:Mm)(n:Nat):Prop where
 d:s.d.length=n*256
 i:s.i.length=n*256
 r:s.r.length=n
 n:n≤5000
 rb:∀x∈s.r,0≤x∧x<8
def zc(s:Mm)(a r:Int):Bool:=decide (a<s.d.length)&&decide (s.r.getD (a/256).toNat 0/r%2=1)
def pk:List Int→Nat→List Int→List Int
 | d,_,[]=>d
 | d,a,x::l=>pk (d.set a x) (a+1) l
theorem fL:∀(l:List Int)(d:List Int)(a:Nat),(pk d a l).length=d.length
 | [],d,a=>rfl
 | x::l,d,a=>by unfold pk;rw [fL l,List.length_set]
theorem mJ:∀(l:List Int)(d:List Int)(a:Nat)(x:Int),pk d a (l++ [x])=(pk d a l).set (a+l.length) x
 | [],d,a,x=>rfl
 | y::l,d,a,x=>by
  show pk (d.set a y) (a+1) (l++ [x])=(pk (d.set a y) (a+1) l).set (a+(l.length+1)) x;rw [mJ l,show a+1+l.length=a+(l.length+1) by omega]
theorem pY:∀(l:List Int)(d:List Int)(a k:Nat),(pk d a l)[k]?=if a≤k∧k<a+l.length∧k<d.length then l[k-a]? else d[k]?
 | [],d,a,k=>by
  rw [ae (by simp only [bK];omega)];rfl
 | x::l,d,a,k=>by
  show(pk (d.set a x) (a+1) l)[k]?=_;rw [pY l,List.length_set,bP];by_cases h:a+1≤k∧k<a+1+l.length∧k<d.length
  ·rw [ar h,ar (by omega),show k-a=(k-(a+1))+1 by omega];rfl
  ·rw [ae h,List.getElem?_set];by_cases h2:a=k
   ·subst h2;rw [ar J];by_cases h3:a<d.length
    ·rw [ar h3,ar (by omega),Nat.sub_self];rfl
    ·rw [ae h3,ae (by omega),List.getElem?_eq_none (by omega)]
   ·rw [ae h2,ae (by omega)]
def F2(d:List Int)(a:Nat):Nat→Int
 | 0=>0
 | m+1=>F2 d a m*256+d.getD (a+(3-m)) 0
def BV(d:List Int)(a:Nat):Int:=F2 d a 4
def byL(d:List Int):Prop:=∀x∈d,0≤x∧x<256
theorem byL.get{d:List Int}(h:byL d)(k:Nat):0≤d.getD k 0∧d.getD k 0<256:=by
 rw [List.getD_eq_getElem?_getD];cases hk:d[k]? with
 | none=>decide
 | some x=>exact h x (bT hk)
theorem Ak{d:List Int}(h:byL d)(a:Nat):∀m,0≤F2 d a m∧F2 d a m<256^m
 | 0=>⟨Int.le_refl _,by show(0:Int)<1;decide⟩
 | m+1=>by
  have h1:=Ak h a m;have h2:=h.get (a+(3-m));show 0≤F2 d a m*256+_∧F2 d a m*256+_<256^(m+1);rw [Int.pow_succ];omega
theorem M6{d:List Int}(h:byL d)(a:Nat){m:Nat}(hm:m≤3):0≤F2 d a m∧F2 d a m<16777216:=by
 have h1:=Ak h a m;have h2:(256:Int)^m≤16777216:=by
  have:m=0∨m=1∨m=2∨m=3:=by omega
  rcases this with rfl|rfl|rfl|rfl<;>decide
 omega
theorem Gp{l:List Int}{k:Nat}{x:Int}(h:l[k]?=some x):l.getD k 0=x:=by rw [List.getD_eq_getElem?_getD,h];rfl
theorem oL(e:Me)(s:Mm)(n:Nat)(hs:MO s n)(a:Int)(ha:0≤a∧a<4294967296):
  bi prog 75 [Pt e.m,I3 a] [bh e.m 157 (mR e),own 5 1 co (sv e.vd) (s).d,own 5 1 co (sv e.vi) (s).i,own 3 1 eI (sv e.vr) (s).r] [] (.bool (decide (a<s.d.length))) [bh e.m 157 (mR e),own 5 1 co (sv e.vd) (s).d,own 5 1 co (sv e.vi) (s).i,own 3 1 eI (sv e.vr) (s).r]:=by
 refine aI func75 J ntmps75 J fun w0 M H=>ap (ak J (aF J (ad J (aP (cC underlying41 underlying3 J (by first|exact bU (by omega)|rfl)) (ad J (bI J (aC mU J (aQ 0 zv J J J J (aP (aS underlying84 J (be (k:=1) J)) (aw J J cr (ak J (aa (ax (aH () O J (bQ (aL J)) J [0,1,2,3] [] J J J))))))))))))))
theorem qF(e:Me)(s:Mm)(n:Nat)(hs:MO s n)(a:Int)(ha:0≤a∧a<4294967296)(r:Int)(hr:r=1∨r=2∨r=4):
  bi prog 196 [Pt e.m,I3 a,I6 r] [bh e.m 157 (mR e),own 5 1 co (sv e.vd) (s).d,own 5 1 co (sv e.vi) (s).i,own 3 1 eI (sv e.vr) (s).r] [] (.bool (zc s a r)) [bh e.m 157 (mR e),own 5 1 co (sv e.vd) (s).d,own 5 1 co (sv e.vi) (s).i,own 3 1 eI (sv e.vr) (s).r]:=by
 refine aI func196 J ntmps196 J fun w0 M H=>ap (ak J (aF J (ad J (ad J (aj (xs:= [.tmp 8,.tmp 9]) (oL e s n hs a ha) Hf [0,1,2,3] [] [0,1,2,3] (fun _ _=>ak J (aF J (ad J (ad J (iQ (t:=12) J (fun h1=> ?_) (fun h1=> ?_)))))))))))
 ·(try simp only [bj]at h1);have hq:a<s.d.length:=by simpa using h1
  have hd:=hs.d;have hrl:=hs.r;obtain⟨x,hx⟩:∃x,s.r[(a/256).toNat]?=some x:=⟨_,bN (by omega)⟩
  have hxb:=hs.rb x (bT hx);have hrt:zc s a r=decide (x/r%2=1):=by
   unfold zc;rw [decide_eq_true hq,Bool.true_and,Gp hx]
  rw [hrt];refine cI J J (ad J (cI J J (bI J (cI J J (aC rL J (cI J J (aQ 0 EL J J J J (cI J J (ad J (cI J J (aw J J (lO (by decide) (qB ha (by decide))) (cI J J (aP (aN (j:=(a/256).toNat) underlying22 t3 J J (be (k:=3) J) (by omega) (by omega)) (cI J J (aP (ah t3 J J (bA (be (k:=3) J) (by intro _;rfl) hx (by rfl))) (cI J J (ad J (cI J J ?_))))))))))))))))));refine sE (aR J J (lO (by omega) (show IntKind.i64.wrap (x.tdiv r)=x/r from(by rw [Int.tdiv_eq_ediv_of_nonneg hxb.1];exact qu (by have:=Int.ediv_nonneg hxb.1 (show 0≤r by omega);omega) (by have:=Int.ediv_le_self r hxb.1;omega))))) J ?_;refine cI J J (aw J J (jt (by decide) (Int.tmod_eq_emod_of_nonneg (Int.ediv_nonneg hxb.1 (by omega)))) (cI J J (aw J J bn (aP (bH J J J) (ak J (aa (ax (aH () O J (bQ (aL J)) J [0,1,2,3] [] J J J))))))))
 ·(try simp only [bj]at h1);have hrt:zc s a r=false:=by
   unfold zc;rw [decide_eq_false (by omega),Bool.false_and]
  rw [hrt];refine ed J J J J (ed J J J J (ed J J J J (ed J J J J (ed J J J J (ed J J J J (ed J J J J (ed J J J J (ed J J J J (ed J J J J (ed J J J J (ed J J J J (aP (bH J J J) (ak J (aa (ax (aH () O J (bQ (aL J)) J [0,1,2,3] [] J J J))))))))))))))))
theorem yN(e:Me)(s:Mm)(n:Nat)(hs:MO s n)(a:Int)(ha:0≤a∧a<4294967296)(c r:Int)(hc:1≤c∧c≤4)(hr:r=1∨r=2∨r=4)(hok:∀k:Int,0≤k→k<c→zc s (IntKind.u32.wrap (a+k)) r=true):
  bi prog 183 [Pt e.m,I3 a,I6 c,I6 r] [bh e.m 157 (mR e),own 5 1 co (sv e.vd) (s).d,own 5 1 co (sv e.vi) (s).i,own 3 1 eI (sv e.vr) (s).r] [] (.agg #[I3 0,I3 0,.bool true]) [bh e.m 157 (mR e),own 5 1 co (sv e.vd) (s).d,own 5 1 co (sv e.vi) (s).i,own 3 1 eI (sv e.vr) (s).r]:=by
 refine aI func183 J ntmps183 J fun w0 M H=>ap (aY iV J J fun b8=>aa (aT (ad J (aw J J cr (ad J (aG [] J J O (fun hg1=>bc J) J (aG [(14,_)] J J ⟨J,O⟩ (fun hg2=>aR J J ec) J (aP (bH J J J) (aa (ai J (fun h3=> ?_) (fun h3=> ?_)))))))))))
 ·exact absurd h3 (by simp;omega)
 ·refine az (aT (ak J (aa (aB (bC (X:=Nat) (fun i=>(i:Int)≤c) (fun i=> [(0,Pt e.m),(1,I3 a),(2,I6 c),(3,I6 r),(8,Pt b8),(9,I6 (i:Int))]) (fun i=> [(0,bh e.m 157 (mR e)),(1,own 5 1 co (sv e.vd) s.d),(2,own 5 1 co (sv e.vi) s.i),(3,own 3 1 eI (sv e.vr) s.r),(8,bh b8 241 [I3 0,I3 0,.bool false])]) (fun i=> []) (fun i=>c.toNat-i) 0 (by omega) J J J (fun i n1=>aT (ad J (ad J (aw J J cr (aa (ai J (fun h4=> ?_) (fun h4=> ?_))))))))))))
  ·(try simp only [bj]at h4);have hi:(i:Int)<c:=by omega
   refine az (a_ (aB (ap (ad J (ad J (ad J (aP (cC underlying3 underlying41 J (c:=(i:Int)) (cd (by omega))) (aw J J (cw J) (ad J (db (xs:= [.tmp 24,.tmp 28,.tmp 29]) (qF e s n hs (IntKind.u32.wrap (a+i)) (l6 _) r hr) Lh [0,1,2,3] [] [0,1,2,3] J J J (fun _ _=> ?_)))))))))));rw [hok i (by omega) (by omega)];refine ak J (aF J (ad J (aP (cz J) (aa (ai J (fun h5=> ?_) (fun h5=> ?_))))))
   ·cases h5
   ·(try simp only [bj]at h5);refine az (am (ad J (aw J J aO (ak J (aa ?_)))));refine aJ (i+1) ⟨by omega,by omega⟩ J J J
  ·(try simp only [bj]at h4);have hi:(i:Int)=c:=by omega
   refine bF (ap (aP (aU (parts:= [(2,.const (.bool Bool.true))]) iV KL J J) (aq (k:=8) iV J J J J J J (aa (ax (aH () O J (bQ (aV iV J J J (aX (k:=8) J))) J [0,1,2,3] [] J J J))))))
theorem D2(e:Me)(s:Mm)(n:Nat)(hs:MO s n)(a:Int)(ha:0≤a∧a<4294967296):
  bi prog 43 [Pt e.m,I3 a] [bh e.m 157 (mR e),own 5 1 co (sv e.vd) (s).d,own 5 1 co (sv e.vi) (s).i,own 3 1 eI (sv e.vr) (s).r] [] (.int .u8 (if a<s.d.length then s.i.getD a.toNat 0 else 0)) [bh e.m 157 (mR e),own 5 1 co (sv e.vd) (s).d,own 5 1 co (sv e.vi) (s).i,own 3 1 eI (sv e.vr) (s).r]:=by
 refine aI func43 J ntmps43 J fun w0 M H=>ap (ak J (aF J (ad J (ad J (aj (xs:= [.tmp 6,.tmp 7]) (oL e s n hs a ha) Hf [0,1,2,3] [] [0,1,2,3] (fun _ _=>ak J (aa (aT (ad J (aP (cz J) (aa (ai J (fun h1=> ?_) (fun h1=> ?_)))))))))))))
 ·(try simp only [bj]at h1);have hq:¬a<s.d.length:=by simpa using h1
  rw [ae hq];refine ap (ak J (aa (ax (aH () O J (bQ (aL J)) J [0,1,2,3] [] J J J))))
 ·(try simp only [bj]at h1);have hq:a<s.d.length:=by simpa using h1
  have hd:=hs.d;have hil:=hs.i;have hrl:=hs.r;have hnn:=hs.n;obtain⟨x,hx⟩:∃x,s.i[a.toNat]?=some x:=⟨_,bN (by omega)⟩
  rw [ar hq,Gp hx];refine az (aT (ad J (bI J (aC wV J (aQ 0 t4 J J J J (aa (ai J (fun h2=> ?_) (fun h2=> ?_))))))))
  ·cases h2
  ·(try simp only [bj]at h2);refine az (ap (ad J (bI J (aC rM J (aQ 0 zv J J J J (ad J (aP (aN (j:=a.toNat) underlying84 t5 J J (be (k:=2) J) (by omega) (by omega)) (aP (ah t5 J J (bA (be (k:=2) J) (by intro _;rfl) hx (by rfl))) (ak J (aa (ax (aH () O J (bQ (aL J)) J [0,1,2,3] [] J J J))))))))))))
theorem Ag(e:Me)(s:Mm)(n:Nat)(hs:MO s n)(a:Int)(ha:0≤a∧a<4294967296):
  bi prog 41 [Pt e.m,I3 a] [bh e.m 157 (mR e),own 5 1 co (sv e.vd) (s).d,own 5 1 co (sv e.vi) (s).i,own 3 1 eI (sv e.vr) (s).r] [] (.int .u8 (if a<s.d.length then s.d.getD a.toNat 0 else 0)) [bh e.m 157 (mR e),own 5 1 co (sv e.vd) (s).d,own 5 1 co (sv e.vi) (s).i,own 3 1 eI (sv e.vr) (s).r]:=by
 refine aI func41 J ntmps41 J fun w0 M H=>ap (ak J (aF J (ad J (ad J (aj (xs:= [.tmp 6,.tmp 7]) (oL e s n hs a ha) Hf [0,1,2,3] [] [0,1,2,3] (fun _ _=>ak J (aa (aT (ad J (aP (cz J) (aa (ai J (fun h1=> ?_) (fun h1=> ?_)))))))))))))
 ·(try simp only [bj]at h1);have hq:¬a<s.d.length:=by simpa using h1
  rw [ae hq];refine ap (ak J (aa (ax (aH () O J (bQ (aL J)) J [0,1,2,3] [] J J J))))
 ·(try simp only [bj]at h1);have hq:a<s.d.length:=by simpa using h1
  have hd:=hs.d;have hil:=hs.i;have hrl:=hs.r;have hnn:=hs.n;obtain⟨x,hx⟩:∃x,s.d[a.toNat]?=some x:=⟨_,bN (by omega)⟩
  rw [ar hq,Gp hx];refine az (ap (ad J (bI J (aC mU J (aQ 0 zv J J J J (ad J (aP (aN (j:=a.toNat) underlying84 t5 J J (be (k:=1) J) (by omega) (by omega)) (aP (ah t5 J J (bA (be (k:=1) J) (by intro _;rfl) hx (by rfl))) (ak J (aa (ax (aH () O J (bQ (aL J)) J [0,1,2,3] [] J J J))))))))))))
theorem DT(e:Me)(s:Mm)(n:Nat)(hs:MO s n)(a:Int)(ha:0≤a∧a<4294967296)(hok:zc s a 4=true)(x:Int)(hx:s.i[a.toNat]?=some x)(hxb:0≤x∧x<256):
  bi prog 179 [Pt e.m,I3 a] [bh e.m 157 (mR e),own 5 1 co (sv e.vd) (s).d,own 5 1 co (sv e.vi) (s).i,own 3 1 eI (sv e.vr) (s).r] [] (.agg #[I3 x,I3 0,.bool true]) [bh e.m 157 (mR e),own 5 1 co (sv e.vd) (s).d,own 5 1 co (sv e.vi) (s).i,own 3 1 eI (sv e.vr) (s).r]:=by
 refine aI func179 J ntmps179 J fun w0 M H=> ?_
 have hq:a<s.d.length:=by
  unfold zc at hok;simp only [Bool.and_eq_true,decide_eq_true_eq]at hok;exact hok.1
 refine ap (aY iV J J fun b4=>aF J (ad J (ad J (aj (xs:= [.tmp 6,.tmp 7,.const (I6 4)]) (qF e s n hs a ha 4 (by decide)) Lh [0,1,2,3] [] [0,1,2,3] (fun _ _=> ?_)))));rw [hok];refine ak J (aa (aT (ad J (aP (cz J) (aa (ai J (fun h1=> ?_) (fun h1=> ?_)))))))
 ·cases h1
 ·(try simp only [bj]at h1);refine az (ap (ad J (ad J (aj (xs:= [.tmp 13,.tmp 14]) (D2 e s n hs a ha) Tv [0,1,2,3] [] [0,1,2,3] (fun _ _=> ?_)))));rw [ar hq,Gp hx];refine aP (cC underlying5 underlying41 J (c:=x) (cd (by omega))) (aP (aU (parts:= [(0,.tmp 16),(2,.const (.bool Bool.true))]) iV KL J J) (aq (k:=4) iV J J J J J J (aa (ax (aH () O J (bQ (aV iV J J J (aX (k:=4) J))) J [0,1,2,3] [] J J J)))))
theorem FZ(e:Me)(s:Mm)(n:Nat)(hs:MO s n)(a:Int)(ha:0≤a∧a<4294967296)(hb:byL s.d)(h4:a+4≤s.d.length)(hok:∀k:Int,0≤k→k<4→zc s (IntKind.u32.wrap (a+k)) 1=true):
  bi prog 151 [Pt e.m,I3 a,I6 4] [bh e.m 157 (mR e),own 5 1 co (sv e.vd) (s).d,own 5 1 co (sv e.vi) (s).i,own 3 1 eI (sv e.vr) (s).r] [] (.agg #[I3 (BV s.d a.toNat),I3 0,.bool true]) [bh e.m 157 (mR e),own 5 1 co (sv e.vd) (s).d,own 5 1 co (sv e.vi) (s).i,own 3 1 eI (sv e.vr) (s).r]:=by
 refine aI func151 J ntmps151 J fun w0 M H=> ?_
 have hd:=hs.d;have hil:=hs.i;have hrl:=hs.r;have hnn:=hs.n;refine ap (aY iV J J fun b6=>aF J (ad J (ad J (ad J (aj (xs:= [.tmp 9,.tmp 10,.tmp 11,.const (I6 1)]) (yN e s n hs a ha 4 1 (by decide) (by decide) hok) Lm [0,1,2,3] [] [0,1,2,3] (fun _ _=>aY iV J J fun b7=>aq (k:=7) iV J J J J J J (aa (aT (aC oS J (aQ 7 t4 J J J J (aa (ai J (fun h1=> ?_) (fun h1=> ?_)))))))))))))
 ·(try simp only [bj]at h1);refine ap (ad J (aw J J ew (ak J (aa (aB (bC (X:=Nat) (fun m=>m≤4) (fun m=> [(0,Pt e.m),(1,I3 a),(6,Pt b6),(7,Pt b7),(8,I6 (3-(m:Int)))]) (fun m=> [(0,bh e.m 157 (mR e)),(1,own 5 1 co (sv e.vd) s.d),(2,own 5 1 co (sv e.vi) s.i),(3,own 3 1 eI (sv e.vr) s.r),(6,bh b6 241 [I3 0,I3 0,.bool false]),(7,bh b7 241 [I3 (F2 s.d a.toNat m),I3 0,.bool true])]) (fun m=> []) (fun m=>4-m) 0 (by omega) J J J (fun m n1=>aT (ad J (aw J J gI (aa (ai J (fun h2=> ?_) (fun h2=> ?_))))))))))))
  ·(try simp only [bj]at h2);have hi:m<4:=by omega
   obtain⟨x,hx⟩:∃x,s.d[a.toNat+(3-m)]?=some x:=⟨_,bN (by omega)⟩
   have hxb:=hb x (bT hx);have hlb:=M6 hb a.toNat (m:=m) (by omega)
   refine az (a_ (aB ?_));refine bJ [21,22,23,24,25,26,27,28,29,30,31,32,33,34,35,36] _ J (bE (V:= [(0,21,_),(1,22,_),(2,23,_),(3,24,_),(4,25,_),(5,26,_),(6,27,_),(7,28,_),(8,29,_),(9,30,_),(10,31,_),(11,32,_),(12,33,_),(13,34,_),(14,35,_),(15,36,_)]) [0,1,2,3,4,5,6,7,8,9,10,11,12,13,14,15] 16 [16,15,14,13,12,11,10,9,8,7,6,5,4,3,2,1,0] [] (fun _=> []) J J (ac J (ag rC J) (ac J (ah dm J J (ay (k:=7) J J)) (ac J (aR J J (fG (cd (by omega)))) (aD J J (ac J (au J) (ac J (ag mU J) (ac J (ah zv J J (ay (k:=0) J J)) (aD J J (aD J J (ac J (cC underlying3 underlying41 J (c:=3-(m:Int)) (cd (by omega))) (bp (IU J (aR J J (cw (c:=((a.toNat+(3-m):Nat):Int)) (by rw [cd (by omega)];omega)))) (ac J (aN (j:=a.toNat+(3-m)) underlying84 t5 J J (be (k:=1) J) J (by omega)) (ac J (ah t5 J J (bA (be (k:=1) J) (by intro _;rfl) hx (by rfl))) (ac J (cC underlying5 underlying41 J (c:=x) (cd (by omega))) (ac J (aR J J (cw (c:=F2 s.d a.toNat (m+1)) (by rw [cd (by omega)];show _=F2 s.d a.toNat m*256+s.d.getD (a.toNat+(3-m)) 0;rw [Gp hx]))) (ac J (ag rC J) av)))))))))))))))) J J J J J J J J J (fun _ _=>J) J (c9 (k:=7) dm J J J J J J J J) (fun _ _=>bl [] J J av J J J ?_));refine am (ad J (aw J J (gu (c:=3-((m+1:Nat):Int)) (by rw [bU (by omega)];omega)) (ak J (aa ?_))));refine aJ (m+1) ⟨by omega,by omega⟩ J J J
  ·(try simp only [bj]at h2);have hi:m=4:=by omega
   subst hi;refine bF (ap (aP (aM iV J J J (aX (k:=7) J)) (aq (k:=6) iV J J J J J J (aa (ax (aH () O J (bQ (aV iV J J J (aX (k:=6) J))) J [0,1,2,3] [] J J J))))))
 ·cases h1
def m9(x:Int):Nat→Int
 | 0=>x
 | k+1=>m9 x k/256
theorem Bo{x:Int}(hx:0≤x∧x<4294967296):∀k,0≤m9 x k∧m9 x k<4294967296
 | 0=>hx
 | k+1=>by
  have:=Bo hx k;show 0≤m9 x k/256∧m9 x k/256<_;omega
theorem BC{x:Int}(hx:0≤x∧x<4294967296){k:Nat}(hk:k<4):(fK x)[k]?=some (m9 x k%256):=by
 have:k=0∨k=1∨k=2∨k=3:=by omega
 rcases this with rfl|rfl|rfl|rfl
 ·rfl
 ·rfl
 ·show some (x/65536%256)=some (x/256/256%256);rw [Int.ediv_ediv_of_nonneg (by decide)];rfl
 ·show some (x/16777216%256)=some (x/256/256/256%256);rw [Int.ediv_ediv_of_nonneg (by decide),Int.ediv_ediv_of_nonneg (by decide)];rfl
theorem Dc(e:Me)(s:Mm)(n:Nat)(hs:MO s n)(a:Int)(ha:0≤a∧a<4294967296)(x:Int)(hx:0≤x∧x<4294967296)(h4:a+4≤s.d.length)(hok:∀k:Int,0≤k→k<4→zc s (IntKind.u32.wrap (a+k)) 2=true):
  bi prog 152 [Pt e.m,I3 a,I6 4,I3 x] [bh e.m 157 (mR e),own 5 1 co (sv e.vd) (s).d,own 5 1 co (sv e.vi) (s).i,own 3 1 eI (sv e.vr) (s).r] [] (.agg #[I3 0,I3 0,.bool true]) [bh e.m 157 (mR e),own 5 1 co (sv e.vd) ({s with d:=pk s.d a.toNat (fK x)}).d,own 5 1 co (sv e.vi) ({s with d:=pk s.d a.toNat (fK x)}).i,own 3 1 eI (sv e.vr) ({s with d:=pk s.d a.toNat (fK x)}).r]:=by
 refine aI func152 J ntmps152 J fun w0 M H=> ?_
 have hd:=hs.d;have hil:=hs.i;have hrl:=hs.r;have hnn:=hs.n;refine ap (aY iV J J fun b8=>aF J (ad J (ad J (ad J (aj (xs:= [.tmp 11,.tmp 12,.tmp 13,.const (I6 2)]) (yN e s n hs a ha 4 2 (by decide) (by decide) hok) Lm [0,1,2,3] [] [0,1,2,3] (fun _ _=>aY iV J J fun b9=>aq (k:=9) iV J J J J J J (aa (aT (aC oS J (aQ 9 t4 J J J J (aa (ai J (fun h1=> ?_) (fun h1=> ?_)))))))))))))
 ·(try simp only [bj]at h1);refine ap (ak J (aa (aB (bC (X:=Nat) (fun i=>i≤4) (fun i=> [(0,Pt e.m),(1,I3 a),(2,I6 4),(3,I3 (m9 x i)),(8,Pt b8),(9,Pt b9),(10,I6 (i:Int))]) (fun i=> [(0,bh e.m 157 (mR e)),(1,own 5 1 co (sv e.vd) (pk s.d a.toNat ((fK x).take i))),(2,own 5 1 co (sv e.vi) s.i),(3,own 3 1 eI (sv e.vr) s.r),(8,bh b8 241 [I3 0,I3 0,.bool false]),(9,bh b9 241 [I3 0,I3 0,.bool true])]) (fun i=> []) (fun i=>4-i) 0 (by omega) J J J (fun i n1=>aT (ad J (ad J (aw J J cr (aa (ai J (fun h2=> ?_) (fun h2=> ?_)))))))))))
  ·(try simp only [bj]at h2);have hi:i<4:=by omega
   have hpl:=fL ((fK x).take i) s.d a.toNat
   have hsb:=Bo hx i;obtain⟨y,hy⟩:∃y,(pk s.d a.toNat ((fK x).take i))[a.toNat+i]?=some y:=⟨_,bN (by omega)⟩
   refine az (a_ (aB (ap (ad J (bI J (aC mU J (aQ 0 zv J J J J (ad J (ad J (aP (cC underlying3 underlying41 J (c:=(i:Int)) (cd (by omega))) (aw J J (cw (c:=((a.toNat+i:Nat):Int)) (by rw [cd (by omega)];omega)) (ad J (aP (cC underlying41 underlying5 J (c:=m9 x i%256) (IntKind.wrap_u8 _)) (aP (aN (j:=a.toNat+i) underlying84 t5 J J (be (k:=1) J) J (by omega)) (nH (k:=1) (e':=(m9 x i%256)) t5 J J J (by intro _;rfl) hy J J (aa (am (ad J ?_))))))))))))))))));refine aw J J (lO (by decide) (qB hsb (by decide))) (ak J (aa (am (ad J (aw J J aO (ak J (aa ?_)))))));refine aJ (i+1) ⟨by omega,by omega⟩ J (by rw [cj (BC hx hi),mJ,List.length_take,Nat.min_eq_left (by show i≤4;omega)];rfl) J
  ·(try simp only [bj]at h2);have hi:i=4:=by omega
   subst hi;refine bF (ap (aP (aM iV J J J (aX (k:=9) J)) (aq (k:=8) iV J J J J J J (aa (ax (aH () O J (bQ (aV iV J J J (aX (k:=8) J))) J [0,1,2,3] [] J J J))))))
 ·cases h1
theorem LL{s:Ba}{i:Nat}(h:i<s.size):(bv s)[i]?=some ((bv s).getD i 0):=by
 have hl:=iN s;rw [List.getD_eq_getElem?_getD,bN (by omega)];rfl
theorem Mz{d:List Int}{k:Nat}{x:Int}(h:d.length≤k):d.set k x=d:=List.set_eq_of_length_le h
theorem MO.dd{s:Mm}{n:Nat}(h:MO s n){d:List Int}(hd:d.length=s.d.length):MO {s with d:=d} n:=⟨hd.trans h.d,h.i,h.r,h.n,h.rb⟩
theorem MO.ii{s:Mm}{n:Nat}(h:MO s n){d:List Int}(hd:d.length=s.i.length):MO {s with i:=d} n:=⟨h.d,hd.trans h.i,h.r,h.n,h.rb⟩
theorem sr(e:Me)(s:Mm)(n:Nat)(hs:MO s n)(a:Nat)(t:Ba)(ht:a+t.size<4294967296)(ht2:t.size≤1000000):
  bi prog 35 [Pt e.m,I3 (a:Int),Sg t] [bh e.m 157 (mR e),own 5 1 co (sv e.vd) (s).d,own 5 1 co (sv e.vi) (s).i,own 3 1 eI (sv e.vr) (s).r] [] (.tuple #[]) [bh e.m 157 (mR e),own 5 1 co (sv e.vd) ({s with d:=pk s.d a (bv t)}).d,own 5 1 co (sv e.vi) ({s with d:=pk s.d a (bv t)}).i,own 3 1 eI (sv e.vr) ({s with d:=pk s.d a (bv t)}).r]:=by
 refine aI func35 J ntmps35 J fun w0 M H=> ?_
 have hd:=hs.d;have hil:=hs.i;have hrl:=hs.r;have hnn:=hs.n;have hbl:=iN t;refine ap (ak J (aa (aB (bC (X:=Nat) (fun i=>i≤t.size) (fun i=> [(0,Pt e.m),(1,I3 (a:Int)),(2,Sg t),(6,I6 (i:Int))]) (fun i=> [(0,bh e.m 157 (mR e)),(1,own 5 1 co (sv e.vd) (pk s.d a ((bv t).take i))),(2,own 5 1 co (sv e.vi) s.i),(3,own 3 1 eI (sv e.vr) s.r)]) (fun i=> []) (fun i=>t.size-i) 0 (br _) J J J (fun i n1=>aT (ad J (ad J (aP (cT underlying9 J) (aw J J cr (aa (ai J (fun h1=> ?_) (fun h1=> ?_))))))))))))
 ·(try simp only [bj]at h1);have hi:i<t.size:=by omega
  have hpl:=fL ((bv t).take i) s.d a;have hxx:=LL hi;refine az (a_ (aB (ap (ad J (ad J (ad J (aP (cC underlying3 underlying41 J (c:=(i:Int)) (cd (by omega))) (aw J J (cw (c:=((a+i:Nat):Int)) (by rw [cd (by omega)];omega)) (db (xs:= [.tmp 14,.tmp 18]) (oL e {s with d:=pk s.d a ((bv t).take i)} n (hs.dd (fL _ _ _)) ((a+i:Nat):Int) (by omega)) Hf [0,1,2,3] [] [0,1,2,3] J J J (fun _ _=>ak J (aF J (ad J (aa (ai J (fun h2=> ?_) (fun h2=> ?_)))))))))))))))
  ·(try simp only [bj]at h2);have hq:a+i<s.d.length:=by simp at h2;omega
   obtain⟨y,hy⟩:∃y,(pk s.d a ((bv t).take i))[a+i]?=some y:=⟨_,bN (by omega)⟩
   refine bJ [21,22,23,24,25,26,27,28,29,30,31,32] _ J (bE (V:= [(0,21,_),(1,22,_),(2,23,_),(3,24,_),(4,25,_),(5,26,_),(6,27,_),(7,28,_),(8,29,_),(9,30,_),(10,31,_),(11,32,_)]) [0,1,2,3,4,5,6,7,8,9,10,11] 12 [12,11,10,9,8,7,6,5,4,3,2,1,0] [] (fun _=> []) J J (aD J J (ac J (au J) (ac J (ag mU J) (ac J (ah zv J J (ay (k:=0) J J)) (aD J J (aD J J (ac J (cC underlying3 underlying41 J (c:=(i:Int)) (cd (by omega))) (ac J (aR J J (cw (c:=((a+i:Nat):Int)) (by rw [cd (by omega)];omega))) (aD J J (aD J J (ac J (eg (j:=i) underlying9 J J J (by omega)) (ac J (aN (j:=a+i) underlying84 t5 J J (be (k:=1) J) J (by show _<(pk s.d a ((bv t).take i)).length;omega)) av)))))))))))) J J J J J J J J J (fun _ _=>J) J (iX (k:=1) (e':=((bv t).getD i 0)) t5 J J J (by intro _;rfl) hy J J) (fun _ _=>bl [] J J av J J J ?_));refine am (ad J (aw J J aO (ak J (aa ?_))));refine aJ (i+1) ⟨by omega,by omega⟩ J (by rw [cj hxx,mJ,List.length_take,Nat.min_eq_left (by omega)];rfl) J
  ·(try simp only [bj]at h2);have hq:¬a+i<s.d.length:=by simp at h2;omega
   refine az (am (ad J (aw J J aO (ak J (aa ?_)))));refine aJ (i+1) ⟨by omega,by omega⟩ J (by rw [cj hxx,mJ,List.length_take,Nat.min_eq_left (by omega),Mz (by omega)];rfl) J
 ·(try simp only [bj]at h1);have hi:i=t.size:=by omega
  subst hi;refine bF (cm () O J gn J [0,1,2,3] [] J (by rw [List.take_of_length_le (Nat.le_of_eq hbl)];rfl) J)
theorem t_(e:Me)(s:Mm)(n:Nat)(hs:MO s n)(p:Nat)(hp:p<n)(t:Ba)(ht2:t.size≤1000000):
  bi prog 37 [Pt e.m,I6 (p:Int),Sg t] [bh e.m 157 (mR e),own 5 1 co (sv e.vd) (s).d,own 5 1 co (sv e.vi) (s).i,own 3 1 eI (sv e.vr) (s).r] [] (.tuple #[]) [bh e.m 157 (mR e),own 5 1 co (sv e.vd) ({s with i:=pk s.i (256*p) ((bv t).take 256)}).d,own 5 1 co (sv e.vi) ({s with i:=pk s.i (256*p) ((bv t).take 256)}).i,own 3 1 eI (sv e.vr) ({s with i:=pk s.i (256*p) ((bv t).take 256)}).r]:=by
 refine aI func37 J ntmps37 J fun w0 M H=> ?_
 have hd:=hs.d;have hil:=hs.i;have hrl:=hs.r;have hnn:=hs.n;have hbl:=iN t;refine aT (ad J (aw J J cr (ad J (aG [] J J O (fun hg1=>bc J) J (aG [(10,_)] J J ⟨J,O⟩ (fun hg2=>bc J) J (aG [(10,_),(11,_)] J J ⟨J,J,O⟩ (fun hg3=>au J) J (aG [(10,_),(11,_),(12,_)] J J ⟨J,J,J,O⟩ (fun hg4=>ag rL J) J (aG [(10,_),(11,_),(12,_),(13,_)] J J ⟨J,J,J,J,O⟩ (fun hg5=>ah EL J J (ay (k:=0) J J)) J (aG [(10,_),(11,_),(12,_),(13,_),(14,_)] J J ⟨J,J,J,J,J,O⟩ (fun hg6=>aS underlying22 J (be (k:=3) J)) J (aG [(10,_),(11,_),(12,_),(13,_),(14,_),(15,_)] J J ⟨J,J,J,J,J,J,O⟩ (fun hg7=>aR J J gI) J (aP (bH J J J) (ad J (aG [] J J O (fun hg8=>bc J) J (aG [(19,_)] J J ⟨J,O⟩ (fun hg9=>au J) J (aG [(19,_),(20,_)] J J ⟨J,J,O⟩ (fun hg10=>ag wV J) J (aG [(19,_),(20,_),(21,_)] J J ⟨J,J,J,O⟩ (fun hg11=>ah t4 J J (ay (k:=0) J J)) J (aP (bH J J J) ?_)))))))))))))))));refine aa (ai J (fun h12=> ?_) (fun h12=> ?_))
 ·exact absurd h12 (by simp;omega)
 ·refine az (ap (ak J (aa (aB (bC (X:=Nat) (fun i=>i≤t.size∧i≤256) (fun i=> [(0,Pt e.m),(1,I6 (p:Int)),(2,Sg t),(6,I6 (i:Int))]) (fun i=> [(0,bh e.m 157 (mR e)),(1,own 5 1 co (sv e.vd) s.d),(2,own 5 1 co (sv e.vi) (pk s.i (256*p) ((bv t).take i))),(3,own 3 1 eI (sv e.vr) s.r)]) (fun i=> []) (fun i=>t.size-i) 0 ⟨br _,br _⟩ J J J (fun i n1=>aT (ad J (ad J (aP (cT underlying9 J) (aw J J cr (ad J (aG [] J J O (fun hg13=>bc J) J (aG [(29,_)] J J ⟨J,O⟩ (fun hg14=>aR J J cr) J (aP (bH J J J) (aa (ai J (fun h15=> ?_) (fun h15=> ?_)))))))))))))))))
  ·(try simp only [bj]at h15);have hi:i<t.size∧i<256:=by omega
   have hpl:=fL ((bv t).take i) s.i (256*p);have hxx:=LL hi.1;obtain⟨y,hy⟩:∃y,(pk s.i (256*p) ((bv t).take i))[256*p+i]?=some y:=⟨_,bN (by omega)⟩
   refine az (a_ (aB ?_));refine bJ [34,35,36,37,38,39,40,41,42,43,44,45] _ J (bE (V:= [(0,34,_),(1,35,_),(2,36,_),(3,37,_),(4,38,_),(5,39,_),(6,40,_),(7,41,_),(8,42,_),(9,43,_),(10,44,_),(11,45,_)]) [0,1,2,3,4,5,6,7,8,9,10,11] 12 [12,11,10,9,8,7,6,5,4,3,2,1,0] [] (fun _=> []) J J (aD J J (ac J (au J) (ac J (ag rM J) (ac J (ah zv J J (ay (k:=0) J J)) (aD J J (ac J (aR J J (fG (bU (by omega)))) (aD J J (ac J (aR J J (cw (c:=((256*p+i:Nat):Int)) (by rw [bU (by omega)];omega))) (aD J J (aD J J (ac J (eg (j:=i) underlying9 J J J (by omega)) (ac J (aN (j:=256*p+i) underlying84 t5 J J (be (k:=2) J) J (by omega)) av)))))))))))) J J J J J J J J J (fun _ _=>J) J (iX (k:=2) (e':=((bv t).getD i 0)) t5 J J J (by intro _;rfl) hy J J) (fun _ _=>bl [] J J av J J J ?_));refine am (ad J (aw J J aO (ak J (aa ?_))));refine aJ (i+1) ⟨by omega,by omega⟩ J (by rw [cj hxx,mJ,List.length_take,Nat.min_eq_left (by omega)];rfl) J
  ·(try simp only [bj]at h15);have hi:i=min t.size 256:=by omega
   have htk:(bv t).take i=(bv t).take 256:=by
    rw [hi];by_cases h:t.size≤256
    ·rw [Nat.min_eq_left h,List.take_of_length_le (by omega),List.take_of_length_le (by omega)]
    ·rw [Nat.min_eq_right (by omega)]
   refine bF (cm () O J gn J [0,1,2,3] [] J (by rw [htk];rfl) J)
theorem ua(e:Me)(s:Mm)(n:Nat)(hs:MO s n)(p:Nat)(hp:p<n)(z q:Int)(hq:bits .and .i64 z 7=q):
  bi prog 38 [Pt e.m,I6 (p:Int),I6 z] [bh e.m 157 (mR e),own 5 1 co (sv e.vd) (s).d,own 5 1 co (sv e.vi) (s).i,own 3 1 eI (sv e.vr) (s).r] [] (.tuple #[]) [bh e.m 157 (mR e),own 5 1 co (sv e.vd) ({s with r:=s.r.set p q}).d,own 5 1 co (sv e.vi) ({s with r:=s.r.set p q}).i,own 3 1 eI (sv e.vr) ({s with r:=s.r.set p q}).r]:=by
 refine aI func38 J ntmps38 J fun w0 M H=> ?_
 have hd:=hs.d;have hil:=hs.i;have hrl:=hs.r;have hnn:=hs.n;obtain⟨y,hy⟩:∃y,s.r[p]?=some y:=⟨_,bN (by omega)⟩
 refine ap (ad J (aw J J gI (ad J (aG [] J J O (fun hg1=>bc J) J (aG [(9,_)] J J ⟨J,O⟩ (fun hg2=>bc J) J (aG [(9,_),(10,_)] J J ⟨J,J,O⟩ (fun hg3=>au J) J (aG [(9,_),(10,_),(11,_)] J J ⟨J,J,J,O⟩ (fun hg4=>ag rL J) J (aG [(9,_),(10,_),(11,_),(12,_)] J J ⟨J,J,J,J,O⟩ (fun hg5=>ah EL J J (ay (k:=0) J J)) J (aG [(9,_),(10,_),(11,_),(12,_),(13,_)] J J ⟨J,J,J,J,J,O⟩ (fun hg6=>aS underlying22 J (be (k:=3) J)) J (aG [(9,_),(10,_),(11,_),(12,_),(13,_),(14,_)] J J ⟨J,J,J,J,J,J,O⟩ (fun hg7=>aR J J cr) J (aP (bH J J J) (aa (ai J (fun h8=> ?_) (fun h8=> ?_))))))))))))))
 ·refine am (ad J (bI J (aC rL J (aQ 0 EL J J J J (ad J (ad J (aw J J (tK hq) (aP (aN (j:=p) underlying22 t3 J J (be (k:=3) J) J (by omega)) (nH (k:=3) (e':=q) t3 J J J (by intro _;rfl) hy J J (aa (cm () O J gn J [0,1,2,3] [] J J J)))))))))))
 ·exact absurd h8 (by simp;omega)
theorem zK(e:Me)(s:Mm)(n:Nat)(hs:MO s n)(a:Int)(ha:0≤a∧a<s.d.length):
  bi prog 76 [Pt e.m,I3 a] [bh e.m 157 (mR e),own 5 1 co (sv e.vd) (s).d,own 5 1 co (sv e.vi) (s).i,own 3 1 eI (sv e.vr) (s).r] [] (.bool true) [bh e.m 157 (mR e),own 5 1 co (sv e.vd) ({s with i:=pk s.i (a.toNat/256*256) ((s.d.drop (a.toNat/256*256)).take 256)}).d,own 5 1 co (sv e.vi) ({s with i:=pk s.i (a.toNat/256*256) ((s.d.drop (a.toNat/256*256)).take 256)}).i,own 3 1 eI (sv e.vr) ({s with i:=pk s.i (a.toNat/256*256) ((s.d.drop (a.toNat/256*256)).take 256)}).r]:=by
 refine aI func76 J ntmps76 J fun w0 M H=> ?_
 have hd:=hs.d;have hil:=hs.i;have hrl:=hs.r;have hnn:=hs.n;have hpp:a.toNat/256<n:=by omega
 refine ap (ak J (aF J (ad J (ad J (aj (xs:= [.tmp 8,.tmp 9]) (oL e s n hs a (by omega)) Hf [0,1,2,3] [] [0,1,2,3] (fun _ _=> ?_))))));rw [decide_eq_true ha.2];refine ak J (aa (aT (ad J (ad J (aG [] J J O (fun hg1=>bc J) J (aG [(13,_)] J J ⟨J,O⟩ (fun hg2=>au J) J (aG [(13,_),(14,_)] J J ⟨J,J,O⟩ (fun hg3=>ag wV J) J (aG [(13,_),(14,_),(15,_)] J J ⟨J,J,J,O⟩ (fun hg4=>ah t4 J J (ay (k:=0) J J)) J (aG [(13,_),(14,_),(15,_),(16,_)] J J ⟨J,J,J,J,O⟩ (fun hg5=>cz J) J (aP (bH J J J) (aa (ai J (fun h6=> ?_) (fun h6=> ?_)))))))))))))
 ·refine ap (ad J (aP (cC underlying41 underlying3 J (c:=a) (bU (by omega))) (aw J J (lO (by decide) (c:=((a.toNat/256:Nat):Int)) (by rw [Int.tdiv_eq_ediv_of_nonneg ha.1,bU (by omega)];omega)) (aw J J (fG (c:=((a.toNat/256*256:Nat):Int)) (by rw [bU (by omega)];omega)) (ak J (aF J (ad J (ak J (aa (aB ?_))))))))));refine bC (X:=Nat) (fun k=>k≤256) (fun k=> [(0,Pt e.m),(5,.bool true),(6,I6 ((a.toNat/256*256:Nat):Int)),(7,I6 (((a.toNat/256*256:Nat):Int)+(k:Int)))]) (fun k=> [(0,bh e.m 157 (mR e)),(1,own 5 1 co (sv e.vd) s.d),(2,own 5 1 co (sv e.vi) (pk s.i (a.toNat/256*256) ((s.d.drop (a.toNat/256*256)).take k))),(3,own 3 1 eI (sv e.vr) s.r)]) (fun k=> []) (fun k=>256-k) 0 (br _) (by rw [show((a.toNat/256*256:Nat):Int)+((0:Nat):Int)=((a.toNat/256*256:Nat):Int) by omega];rfl) J J (fun k n1=> ?_);refine aT (ad J (ad J (aw J J aO (aw J J cr (aa (ai J (fun h7=> ?_) (fun h7=> ?_)))))))
  ·(try simp only [bj]at h7);have hi:k<256:=by omega
   have hpl:=fL ((s.d.drop (a.toNat/256*256)).take k) s.i (a.toNat/256*256);obtain⟨x,hxx⟩:∃x,s.d[a.toNat/256*256+k]?=some x:=⟨_,bN (by omega)⟩
   have hxd:(s.d.drop (a.toNat/256*256))[k]?=some x:=by rw [List.getElem?_drop];exact hxx
   obtain⟨y,hy⟩:∃y,(pk s.i (a.toNat/256*256) ((s.d.drop (a.toNat/256*256)).take k))[a.toNat/256*256+k]?=some y:=⟨_,bN (by omega)⟩
   refine az (a_ (aB ?_));refine bJ [30,31,32,33,34,35,36,37,38,39,40,41,42] _ J (bE (V:= [(0,30,_),(1,31,_),(2,32,_),(3,33,_),(4,34,_),(5,35,_),(6,36,_),(7,37,_),(8,38,_),(9,39,_),(10,40,_),(11,41,_),(12,42,_)]) [0,1,2,3,4,5,6,7,8,9,10,11,12] 13 [13,12,11,10,9,8,7,6,5,4,3,2,1,0] [] (fun _=> []) J J (aD J J (ac J (au J) (ac J (ag rM J) (ac J (ah zv J J (ay (k:=0) J J)) (aD J J (aD J J (ac J (au J) (ac J (ag mU J) (ac J (ah zv J J (ay (k:=0) J J)) (aD J J (ac J (aN (j:=a.toNat/256*256+k) underlying84 t5 J J (be (k:=1) J) (by omega) (by omega)) (ac J (ah t5 J J (bA (be (k:=1) J) (by intro _;rfl) hxx (by rfl))) (ac J (aN (j:=a.toNat/256*256+k) underlying84 t5 J J (be (k:=2) J) (by omega) (by omega)) av))))))))))))) J J J J J J J J J (fun _ _=>J) J (iX (k:=2) (e':=x) t5 J J J (by intro _;rfl) hy J J) (fun _ _=>bl [] J J av J J J ?_));refine am (ad J (aw J J (cw (c:=((a.toNat/256*256:Nat):Int)+((k+1:Nat):Int)) (by rw [bU (by omega)];omega)) (ak J (aa ?_))));refine aJ (k+1) ⟨by omega,by omega⟩ J (by rw [cj hxd,mJ,List.length_take,Nat.min_eq_left (by rw [List.length_drop];omega)];rfl) J
  ·(try simp only [bj]at h7);have hi:k=256:=by omega
   subst hi;refine bF (ap (ad J (ak J (aa (ax (aH () O J (bQ (aL J)) J [0,1,2,3] [] J J J))))))
 ·exact absurd h6 (by simp)
theorem dk{c:Prop} [Decidable c]{a b:Qg}{n:Nat}(h1:a.sz≤n)(h2:b.sz≤n):(if c then a else b).sz≤n:=by
 by_cases h:c
 ·rw [ar h];exact h1
 ·rw [ae h];exact h2
theorem Np(o:Ba)(s:Qg):(qT o s).sz≤s.sz+9:=by
 unfold qT;refine dk ?_ (dk ?_ (dk ?_ (dk ?_ (dk ?_ (dk ?_ (dk ?_ (dk ?_ (dk ?_ (dk ?_ (dk ?_ (dk ?_ (dk ?_ (dk ?_ (dk ?_ (dk ?_ ?_)))))))))))))));all_goals
  (try simp only [bL,cu,ca,b_,cE,bP,bK])
  omega
theorem No(o:Ba)(s:Qg):(Gz o s).sz≤s.sz+2:=by
 unfold Gz;refine dk ?_ (dk ?_ (dk ?_ ?_));all_goals
  (try simp only [bL,cE,bP,bK])
  omega
theorem JC(n:Int)(s:Qg):(s6 n s).sz≤s.sz+2:=by
 unfold s6;refine dk ?_ ?_;all_goals
  (try simp only [bL,cE,bP,bK])
  omega
mutual
theorem nu(o st:Om):∀(t:Tx)(s:Qg),(gX o st t s).sz+2≤s.sz+22*nX t
 | .mk k n nm _ kids,s=>by
  have h0:=Az o st kids;have h1:=fun s=>B4 o st kids s
  have hs:=wJ o st kids;have hu:=No nm (mP o st kids s);have hn:=JC n s;have ho:=Np nm ((On o st kids ((mP o st kids s).push 1)).pop 2);have i0:=h0 s;have i1:=h1 s;have is:=hs s;rw [dY]at ho;unfold gX nX
  suffices h:∀x:Qg,x.sz≤s.sz+22*dW kids+20→x.sz+2≤s.sz+22*(dW kids+1)from h _ (by
   refine dk (by omega) (dk ?_ (dk ?_ (dk ?_ (dk (by omega) (dk (by omega) (dk ?_ (by omega)))))))
   ·simp only [bL,cE];omega
   ·simp only [bL,cE];omega
   ·simp only [bL,dO,cE];omega
   ·dsimp only;refine dk ?_ ?_
    ·simp only [bL,ca,cE];omega
    ·simp only [ca];omega)
  intro x hx;omega
theorem Az(o st:Om):∀(l:List Tx)(s:Qg),(mP o st l s).sz≤s.sz+22*dW l
 | [],s=>Nat.le_add_right _ _
 | t::r,s=>by
  have:=nu o st t s;unfold mP dW;omega
theorem B4(o st:Om):∀(l:List Tx)(s:Qg),(On o st l ((mP o st l s).push 1)).sz≤s.sz+22*dW l+2
 | [],s=>by
  show(s.push 1).sz≤_;rw [da];omega
 | t::r,s=>by
  have h1:=nu o st t s;have h2:=Az o st r ((gX o st t s).push 1);rw [da]at h2;show(mP o st r ((gX o st t s).push 1)).sz≤_;unfold dW;omega
theorem wJ(o st:Om):∀(l:List Tx)(s:Qg),(uU o st l s).sz≤s.sz+22*dW l
 | [],s=>Nat.le_add_right _ _
 | t::r,s=>by
  have h1:=nu o st t s;have h2:=wJ o st r ((gX o st t s).push 1);rw [da]at h2;unfold uU dW;omega
end
theorem Spec.roW{P:Program}{n:Nat}{vs:List Value}{X:Type}{L R:List Asn}{φ:X→Prop}{v:X→Value}{L1:X→List Asn}{B:Asn}(h:∀A∈R,∀w G,B.pred w G→(∀b,G b→b<w.heap.size)→∃G':Nat→Prop,A.pred w G'∧∀b,G' b→G b)
  (hs:Spec P n vs L R φ v L1 (fun _=> [])):Spec P n vs L [B] φ v L1 (fun _=> []):=by
 intro w M H hl;refine hs w M H ?_;obtain⟨F,hF⟩:=hl;refine⟨F,hF.touch,hF.has,hF.lt,hF.mine,hF.apart,fun k A hk=> ?_⟩;obtain⟨G,g1,g2⟩:=hF.ro 0 B J;obtain⟨G',a1,a2⟩:=h A (bT hk) w G g1 fun b hb=>(g2 b hb).1
 exact⟨G',a1,fun b hb=>g2 b (a2 b hb)⟩
def RA(e:Ga)(c:Oq)(o:Ba)(s:Qg):Prop:=
 ∃n l,(TV c).find? (fun x=>decide (Prod.fst x=o))=some (o,cK n l)∧Cb prog n∧bi prog n (l.map fun b=>Value.pointer (some ⟨b,0,none⟩)) [gA e s] [jv e.g c] (.tuple #[]) [gA e (qT o s)]
theorem fy{g:Nat}{c:Oq}{R:List Asn}(h:∀A∈R,∃i:Nat,(Ps g c)[i]?=some A):∀A∈R,∀w G,(jv g c).pred w G→(∀b,G b→b<w.heap.size)→∃G':Nat→Prop,A.pred w G'∧∀b,G' b→G b:=fun A hA w G h1 h2=>by
 obtain⟨i,hi⟩:=h A hA;exact FD i hi w G h1 h2
theorem MP(e:Ga)(c:Oq)(o:Ba)(s:Qg)(hz:s.sz≤890000)(h:il o=true):RA e c o s:=by
 by_cases h0:o=fU
 ·subst h0;refine⟨85,[c.bg,c.b0],J,ut,?_⟩;rw [show qT fU s=s.emit [q3 1 1 2 1]from J];exact Spec.roW (fy (fun A hA=>by
    simp only [List.mem_cons,List.not_mem_nil,or_false]at hA;rcases hA with rfl|rfl
    ·exact⟨1,J⟩
    ·exact⟨2,J⟩
   )) (g9 e s (by omega) c.bg c.b0 1)
 by_cases h1:o=dR
 ·subst h1;refine⟨85,[c.bg,c.b1],J,ut,?_⟩;rw [show qT dR s=s.emit [q3 2 1 2 1]from J];exact Spec.roW (fy (fun A hA=>by
    simp only [List.mem_cons,List.not_mem_nil,or_false]at hA;rcases hA with rfl|rfl
    ·exact⟨1,J⟩
    ·exact⟨3,J⟩
   )) (g9 e s (by omega) c.bg c.b1 2)
 by_cases h2:o=gB
 ·subst h2;refine⟨85,[c.bg,c.b2],J,ut,?_⟩;rw [show qT gB s=s.emit [q3 9 1 2 1]from J];exact Spec.roW (fy (fun A hA=>by
    simp only [List.mem_cons,List.not_mem_nil,or_false]at hA;rcases hA with rfl|rfl
    ·exact⟨1,J⟩
    ·exact⟨4,J⟩
   )) (g9 e s (by omega) c.bg c.b2 9)
 by_cases h3:o=ff
 ·subst h3;refine⟨85,[c.bg,c.b3],J,ut,?_⟩;rw [show qT ff s=s.emit [q3 3 1 2 1]from J];exact Spec.roW (fy (fun A hA=>by
    simp only [List.mem_cons,List.not_mem_nil,or_false]at hA;rcases hA with rfl|rfl
    ·exact⟨1,J⟩
    ·exact⟨5,J⟩
   )) (g9 e s (by omega) c.bg c.b3 3)
 by_cases h4:o=j9
 ·subst h4;refine⟨85,[c.bg,c.b4],J,ut,?_⟩;rw [show qT j9 s=s.emit [q3 4 1 2 1]from J];exact Spec.roW (fy (fun A hA=>by
    simp only [List.mem_cons,List.not_mem_nil,or_false]at hA;rcases hA with rfl|rfl
    ·exact⟨1,J⟩
    ·exact⟨6,J⟩
   )) (g9 e s (by omega) c.bg c.b4 4)
 by_cases h5:o=fo
 ·subst h5;refine⟨85,[c.bg,c.b5],J,ut,?_⟩;rw [show qT fo s=s.emit [q3 5 1 2 1]from J];exact Spec.roW (fy (fun A hA=>by
    simp only [List.mem_cons,List.not_mem_nil,or_false]at hA;rcases hA with rfl|rfl
    ·exact⟨1,J⟩
    ·exact⟨7,J⟩
   )) (g9 e s (by omega) c.bg c.b5 5)
 by_cases h6:o=gw
 ·subst h6;refine⟨85,[c.bg,c.b6],J,ut,?_⟩;rw [show qT gw s=s.emit [q3 6 1 2 1]from J];exact Spec.roW (fy (fun A hA=>by
    simp only [List.mem_cons,List.not_mem_nil,or_false]at hA;rcases hA with rfl|rfl
    ·exact⟨1,J⟩
    ·exact⟨8,J⟩
   )) (g9 e s (by omega) c.bg c.b6 6)
 by_cases h7:o=gU
 ·subst h7;refine⟨85,[c.bg,c.b7],J,ut,?_⟩;rw [show qT gU s=s.emit [q3 7 1 2 1]from J];exact Spec.roW (fy (fun A hA=>by
    simp only [List.mem_cons,List.not_mem_nil,or_false]at hA;rcases hA with rfl|rfl
    ·exact⟨1,J⟩
    ·exact⟨9,J⟩
   )) (g9 e s (by omega) c.bg c.b7 7)
 by_cases h8:o=lU
 ·subst h8;refine⟨85,[c.bg,c.b8],J,ut,?_⟩;rw [show qT lU s=s.emit [q3 11 1 2 1]from J];exact Spec.roW (fy (fun A hA=>by
    simp only [List.mem_cons,List.not_mem_nil,or_false]at hA;rcases hA with rfl|rfl
    ·exact⟨1,J⟩
    ·exact⟨10,J⟩
   )) (g9 e s (by omega) c.bg c.b8 11)
 by_cases h9:o=ng
 ·subst h9;refine⟨87,[c.bg],J,Qd,?_⟩;rw [show qT ng s=s.emit [q3 11 1 1 2]from J];exact Spec.roW (fy (fun A hA=>by
    simp only [List.mem_cons,List.not_mem_nil,or_false]at hA;rcases hA with rfl
    ·exact⟨1,J⟩
   )) (yX e s (by omega) c.bg)
 by_cases h10:o=nf
 ·subst h10;refine⟨89,[c.f0,c.bg],J,NP,?_⟩;rw [show qT nf s=(s.emit [q3 11 1 1 2]).emit [qi 19 1 1 1]from J];exact Spec.roW (fy (fun A hA=>by
    simp only [List.mem_cons,List.not_mem_nil,or_false]at hA;rcases hA with rfl|rfl
    ·exact⟨12,J⟩
    ·exact⟨1,J⟩
   )) (vz e s (by omega) c.bg c.f0 87 (s.emit [q3 11 1 1 2]) (by rw [bL];simp;omega) Qd (yX e s (by omega) c.bg))
 by_cases h11:o=n8
 ·subst h11;refine⟨89,[c.f1,c.bg],J,NP,?_⟩;rw [show qT n8 s=(s.emit [q3 11 1 2 1]).emit [qi 19 1 1 1]from J];exact Spec.roW (fy (fun A hA=>by
    simp only [List.mem_cons,List.not_mem_nil,or_false]at hA;rcases hA with rfl|rfl|rfl
    ·exact⟨13,J⟩
    ·exact⟨1,J⟩
    ·exact⟨11,J⟩
   )) (D9 e s (by omega) c.bg c.b9 c.f1 85 (s.emit [q3 11 1 2 1]) (by rw [bL];simp;omega) ut (g9 e s (by omega) c.bg c.b9 11))
 by_cases h12:o=na
 ·subst h12;refine⟨90,[c.bg],J,Qc,?_⟩;rw [show qT na s=(s.emit [q3 5 1 2 1]).emit [q3 11 1 0 1]from J];exact Spec.roW (fy (fun A hA=>by
    simp only [List.mem_cons,List.not_mem_nil,or_false]at hA;rcases hA with rfl
    ·exact⟨1,J⟩
   )) (yW e s (by omega) c.bg)
 by_cases h13:o=nh
 ·subst h13;refine⟨89,[c.f2,c.bg],J,NP,?_⟩;rw [show qT nh s=((s.emit [q3 5 1 2 1]).emit [q3 11 1 0 1]).emit [qi 19 1 1 1]from J];exact Spec.roW (fy (fun A hA=>by
    simp only [List.mem_cons,List.not_mem_nil,or_false]at hA;rcases hA with rfl|rfl
    ·exact⟨14,J⟩
    ·exact⟨1,J⟩
   )) (vz e s (by omega) c.bg c.f2 90 ((s.emit [q3 5 1 2 1]).emit [q3 11 1 0 1]) (by rw [bL,bL];simp;omega) Qc (yW e s (by omega) c.bg))
 by_cases h14:o=kA
 ·subst h14;refine⟨91,[c.bg],J,Td,?_⟩;rw [show qT kA s=((s.lab.jump 32 1 0 s.labs.length).emit [q3 10 1 2 1]).place s.labs.length from J];exact Spec.roW (fy (fun A hA=>by
    simp only [List.mem_cons,List.not_mem_nil,or_false]at hA;rcases hA with rfl
    ·exact⟨1,J⟩
   )) (Hu e s (by omega) c.bg)
 by_cases h15:o=lg
 ·subst h15;refine⟨93,[c.bg],J,Tc,?_⟩;rw [show qT lg s=((((((s.lab.emit [q3 1 3 1 0]).jump 32 1 0 s.labs.length).emit [q3 10 3 2 1]).emit [q3 9 3 3 1]).place s.labs.length)).emit [q3 2 1 2 3]from J];exact Spec.roW (fy (fun A hA=>by
    simp only [List.mem_cons,List.not_mem_nil,or_false]at hA;rcases hA with rfl
    ·exact⟨1,J⟩
   )) (Ht e s (by omega) c.bg)
 exfalso;unfold il at h;rw [Option.isSome_iff_exists]at h;obtain⟨x,hx⟩:=h;have hm:=List.mem_of_find?_eq_some hx;have he:=List.find?_some hx;simp only [decide_eq_true_eq]at he;simp only [lvL,List.mem_cons,List.not_mem_nil,or_false]at hm;rcases hm with rfl|rfl|rfl|rfl|rfl|rfl|rfl|rfl|rfl|rfl|rfl|rfl|rfl|rfl|rfl|rfl
 ·exact h15 he.symm
 ·exact h14 he.symm
 ·exact h2 he.symm
 ·exact h1 he.symm
 ·exact h0 he.symm
 ·exact h7 he.symm
 ·exact h6 he.symm
 ·exact h11 he.symm
 ·exact h9 he.symm
 ·exact h10 he.symm
 ·exact h8 he.symm
 ·exact h12 he.symm
 ·exact h13 he.symm
 ·exact h3 he.symm
 ·exact h5 he.symm
 ·exact h4 he.symm
section
variable{P:Program}{N:Nat}{w0:World}{M H:Nat→Prop}{E:fv}{Γ R:ey}
theorem qb{k o b:Nat}{e:Ga}{s:Qg}{u:Value}(hk:ci Γ k=some (gA e s))(hu:∀x:SV×SV×SV,(gR e.vp x.1 x.2.1 x.2.2 e.ms e.mo e.mp e.en)[o]?=some u)(hb:e.g=b):Gives w0 M H Γ R b o [u]:=by
 subst hb;intro w hC j u' hj;obtain⟨G,⟨x,Fs,h1,-,-⟩,-⟩:=hC.reads (.inl hk);obtain⟨-,h2⟩:=h1 0 _ J;cases j with
 | zero=>
  simp at hj;subst hj;rw [cell_of_row w e.g (o+0) _ 111 (0,0) h2];simpa using hu x
 | succ j=>simp at hj
def vQ(p:Ba×Int):Value:=I3 p.2
theorem Fw{S kt et:TypeId}{x y:Operand}{o:Option Nat}{k:Ba}{L:Om}{D:TypeDesc}{s bb:Nat}(hS:P.underlying S=some (.map kt et))(hK:KeyLaw P kt gV)(ht:TI P et D (I3 0) s bb)(hx:ev E x=some (.map o))(hy:ev E y=some (gV k))(hm:HasMp Γ R gV Prod.fst vQ o L):
  PR P N w0 M H E Γ R (.lookup S x y false) (I3 (bM L k)):=by
 have:=ow (w0:=w0) (M:=M) (H:=H) (N:=N) (ok:=false) hS hK ht hx hy hm J;have e:((L.find? (fun a=>decide (Prod.fst a=k))).map vQ).getD (I3 0)=I3 (bM L k):=by
  unfold bM;cases L.find? (fun a=>decide (Prod.fst a=k))<;>rfl
 rw [←e];exact this
theorem Fy{S kt et:TypeId}{x y:Operand}{o:Option Nat}{k:Ba}{L:Om}{D:TypeDesc}{s bb:Nat}(hS:P.underlying S=some (.map kt et))(hK:KeyLaw P kt gV)(ht:TI P et D (I6 0) s bb)(hx:ev E x=some (.map o))(hy:ev E y=some (gV k))(hm:HasMp Γ R gV Prod.fst vI o L):
  PR P N w0 M H E Γ R (.lookup S x y false) (I6 (bM L k)):=by
 have:=ow (w0:=w0) (M:=M) (H:=H) (N:=N) (ok:=false) hS hK ht hx hy hm J;have e:((L.find? (fun a=>decide (Prod.fst a=k))).map vI).getD (I6 0)=I6 (bM L k):=by
  unfold bM;cases L.find? (fun a=>decide (Prod.fst a=k))<;>rfl
 rw [←e];exact this
end
theorem S2{o st:Om}{t:Tx}{s:Qg}(h:t.kind=1):gX o st t s=s6 t.n s:=by
 obtain⟨k,n,nm,v,kids⟩:=t;obtain rfl:k=1:=h;rfl
theorem S1{o st:Om}{t:Tx}{s:Qg}(h:t.kind=2):gX o st t s=s.emit [qi 23 1 13 (bM o t.name)]:=by
 obtain⟨k,n,nm,v,kids⟩:=t;obtain rfl:k=2:=h;rfl
theorem SX{o st:Om}{t:Tx}{s:Qg}(h:t.kind=5):gX o st t s=s.emit [⟨48,0,0,0,2⟩]:=by
 obtain⟨k,n,nm,v,kids⟩:=t;obtain rfl:k=5:=h;rfl
theorem SY{o st:Om}{t u:Tx}{s:Qg}(h:t.kind=4)(hk:t.kids= [u]):gX o st t s=((gX o st u s).elem 1).emit [qi 23 1 1 8192]:=by
 obtain⟨k,n,nm,v,kids⟩:=t;obtain rfl:k=4:=h;obtain rfl:kids= [u]:=hk;rfl
theorem SW{o st:Om}{t u:Tx}{s:Qg}(h:t.kind=6)(hk:t.kids= [u]):gX o st t s=Gz t.name (gX o st u s):=by
 obtain⟨k,n,nm,v,kids⟩:=t;obtain rfl:k=6:=h;obtain rfl:kids= [u]:=hk;rfl
theorem SU{o st:Om}{t a b:Tx}{s:Qg}(h:t.kind=7)(hk:t.kids= [a,b]):gX o st t s=qT t.name ((gX o st b ((gX o st a s).push 1)).pop 2):=by
 obtain⟨k,n,nm,v,kids⟩:=t;obtain rfl:k=7:=h;obtain rfl:kids= [a,b]:=hk;rfl
theorem SZ{o st:Om}{t:Tx}{s:Qg}(h:t.kind=3):gX o st t s=if t.kids.length>0 then((uU o st t.kids s).jump 40 15 0 (bM st t.name)).emit [qi 16 14 14 (4*t.kids.length)]else(uU o st t.kids s).jump 40 15 0 (bM st t.name):=by
 obtain⟨k,n,nm,v,kids⟩:=t;obtain rfl:k=3:=h;rfl
theorem yv{o st:Om}:∀{l:List Tx}{i:Nat}{u:Tx}(s:Qg),l[i]?=some u→uU o st (l.take (i+1)) s=(gX o st u (uU o st (l.take i) s)).push 1
 | [],i,u,s,h=>by simp at h
 | x::r,0,u,s,h=>by cases h;rfl
 | x::r,i+1,u,s,h=>yv (l:=r) _ h
structure Wx(t:Tx):Prop where
 one:t.kind=4∨t.kind=6→∃u,t.kids= [u]
 un:t.kind=6→t.name=dR∨t.name=sK∨t.name=ug
 two:t.kind=7→il t.name=true∧∃a b,t.kids= [a,b]
 kids:∀u∈t.kids,rX u=true
 kind:t.kind=1∨t.kind=2∨t.kind=3∨t.kind=4∨t.kind=5∨t.kind=6∨t.kind=7
theorem wj:∀{l:List Tx},nq l=true→∀u∈l,rX u=true
 | [],_,_,h=>by simp at h
 | t::r,h,u,hu=>by
  unfold nq at h;rw [Bool.and_eq_true]at h;rcases List.mem_cons.1 hu with rfl|hu
  ·exact h.1
  ·exact wj h.2 u hu
theorem wr{l:List Tx}(h:l.length=1):∃u,l= [u]:=by
 match l,h with
 | [u],_=>exact⟨u,rfl⟩
theorem EG{l:List Tx}(h:l.length=2):∃a b,l= [a,b]:=by
 match l,h with
 | [a,b],_=>exact⟨a,b,rfl⟩
theorem Ky{t:Tx}(h:rX t=true):Wx t:=by
 obtain⟨k,n,nm,v,kids⟩:=t;unfold rX at h;simp only [Bool.and_eq_true]at h;obtain⟨⟨h1,-⟩,h3⟩:=h;unfold nZ at h1;refine⟨fun hk=> ?_,fun hk=> ?_,fun hk=> ?_,wj h3,?_⟩
 ·show ∃u,kids= [u];rcases hk with hk|hk
  ·obtain rfl:k=4:=hk;simp at h1;exact wr h1.2
  ·obtain rfl:k=6:=hk;simp at h1;exact wr h1.2
 ·obtain rfl:k=6:=hk;simp [cn,tQ]at h1;rcases h1.1 with h|h|h
  ·exact .inl h
  ·exact .inr (.inl h)
  ·exact .inr (.inr h)
 ·obtain rfl:k=7:=hk;simp at h1;exact⟨h1.1,EG h1.2⟩
 ·show k=1∨k=2∨k=3∨k=4∨k=5∨k=6∨k=7;by_cases k1:k=1
  ·exact .inl k1
  by_cases k2:k=2
  ·exact .inr (.inl k2)
  by_cases k3:k=3
  ·exact .inr (.inr (.inl k3))
  by_cases k4:k=4
  ·exact .inr (.inr (.inr (.inl k4)))
  by_cases k5:k=5
  ·exact .inr (.inr (.inr (.inr (.inl k5))))
  by_cases k6:k=6
  ·exact .inr (.inr (.inr (.inr (.inr (.inl k6)))))
  by_cases k7:k=7
  ·exact .inr (.inr (.inr (.inr (.inr (.inr k7)))))
  simp [k1,k2,k3,k4,k5,k6,k7]at h1
theorem Ja{q:Prop}{k:Int}(h:k=1∨k=2∨k=3∨k=4∨k=5∨k=6∨k=7)(n1:¬k=1)(n2:¬k=2)(n3:¬k=3)(n4:¬k=4)(n5:¬k=5)(n6:¬k=6)(n7:¬k=7):q:=by omega
theorem TQ{t:Tx}(h:GX t):oW t.n:=by cases t;exact h.1
theorem Gn(e:Ga)(c:Oq)(om sm:Om)(hm:e.mp=c.m)(t:Tx)(hw:Wx t)(hg:GX t)(ih:∀u∈t.kids,∀s:Qg,s.sz+22*nX u≤780000→Spec prog 167 [Pt e.g,xV u] [gA e s] [ce u.v u.kids,jv e.g c,mp gV Prod.fst vQ e.mo om,mp gV Prod.fst vI (some e.ms) sm] (X:=Unit) (fun _=>True) (fun _=> .tuple #[]) (fun _=> [gA e (gX om sm u s)]) (fun _=> []))(s:Qg)(hz:s.sz+22*nX t≤780000):
  bi prog 167 [Pt e.g,xV t] [gA e s] [ce t.v t.kids,jv e.g c,mp gV Prod.fst vQ e.mo om,mp gV Prod.fst vI (some e.ms) sm] (.tuple #[]) [gA e (gX om sm t s)]:=by
 refine aI func167 J ntmps167 J fun w0 M H=>aZ 0 9 J gd (ap (ck J J fun b3=>aF J (aC jQ J (aQ 3 t3 J J J J (aa (aB (ap (aw J J bn (ak J (aa (ai J (fun h1=> ?_) (fun h1=> ?_))))))))))))
 ·(try simp only [bj]at h1);have hk:t.kind=1:=h1;rw [S2 hk];refine am (ad J (aC wP J (aQ 3 dm J J J J (aj (xs:= [.tmp 11,.tmp 13]) (FG e s (by omega) t.n (TQ hg)) Qy [0] [] [0] (fun _ _=>aa (cm () O J gn J [0] [] J J J))))))
 ·(try simp only [bj]at h1);have n1:¬t.kind=1:=h1;refine ap (aw J J bn (ak J (aa (ai J (fun h2=> ?_) (fun h2=> ?_)))))
  ·(try simp only [bj]at h2);have hk:t.kind=2:=h2;rw [S1 hk];refine bJ [17,18,19,20,21,22,23,24,25] _ J (aW (V:= [(0,17,_),(1,18,_),(2,19,_),(3,20,_),(4,21,_),(5,22,_),(6,23,_),(7,24,_)]) [0,1,2,3,4,5,6,7] 8 [8,7,6,5,4,3,2,1,0] [] (fun _=> []) J J (aD J J (aD J J (ac J (au J) (ac J (ag mX J) (ac J (ah Da J J (qb (k:=0) J (fun _=>J) J)) (ac J (ag dI J) (ac J (ah t9 J J (ay (k:=3) J J)) (ac J (Fw underlying108 fp dm J J (uS (k:=2) J)) av)))))))) J J J J J J J J J J J (fun _ _=>J) J (bB (xs:= [.tmp 17,.const (I6 23),.const (I6 1),.const (I6 13),.tmp 24]) (dw e (s) (by omega) 23 1 13 (bM om t.name)) kb [0] [] [0]) (fun _ _=>bl [] J J av J J J (cm () O J gn J [0] [] J J J)))
  ·(try simp only [bj]at h2);have n2:¬t.kind=2:=h2;refine ap (aw J J bn (ak J (aa (ai J (fun h3=> ?_) (fun h3=> ?_)))))
   ·(try simp only [bj]at h3);have hk:t.kind=5:=h3;rw [SX hk];refine am (ad J (aP (aU (parts:= [(0,.const (I6 48)),(4,.const (I3 2))]) fA nr J J) (bq ja ⟨48,0,0,0,2⟩ underlying106 fA J (by decide) (by decide) J J J J fun v30=>cQ 30 7 J bO (aj (xs:= [.tmp 28,.tmp 30]) (iM e s (by omega) v30 [⟨48,0,0,0,2⟩] (by simp)) yR [0] [(false,7)] [0] (fun _ _=>aa (cm () O J gn J [0] [] J J J))))))
   ·(try simp only [bj]at h3);have n5:¬t.kind=5:=h3;refine ap (aw J J bn (ak J (aa (ai J (fun h4=> ?_) (fun h4=> ?_)))))
    ·(try simp only [bj]at h4);have hk:t.kind=4:=h4;obtain⟨u,hku⟩:=hw.one (.inl hk);have hnu:nX t=nX u+1:=by rw [uO,hku];simp [dW]
     have hsz:=nu om sm u s;rw [SY hk hku];refine ap (ad J (aC dx J (aQ 3 jh J J J J (aP (aN (j:=0) underlying59 cl J J (aK (k:=9) J) J (by rw [hku];simp)) ?_))));refine sE (aM cl J J J (bA (aK (k:=9) J) (by intro _;rfl) (show t.kids[0]?=some u by rw [hku];rfl) (by rfl))) J ?_;refine aZ 0 8 J (dD (show u∈t.kids by rw [hku];simp)) ?_;refine dh (xs:= [.tmp 34,.tmp 38]) (ih u (show u∈t.kids by rw [hku];simp) (s) (by omega)) tG [0] [(false,8),(false,1),(false,2),(false,3)] [0] J J J J J J J J (fun _ _=>J) (fun _ _ _=>J) J (fun _ _=> ?_);refine aF J (ad J (aj (xs:= [.tmp 40,.const (I6 1)]) (u7 e (gX om sm u s) (by omega) 1) Lr [0] [] [0] (fun _ _=>aa (am (ad J (aj (xs:= [.tmp 42,.const (I6 23),.const (I6 1),.const (I6 1),.const (I3 8192)]) (dw e ((gX om sm u s).elem 1) (by rw [dO];omega) 23 1 1 8192) kb [0] [] [0] (fun _ _=>aa (cm () O J gn J [0] [] J J J))))))))
    ·(try simp only [bj]at h4);have n4:¬t.kind=4:=h4;refine ap (aw J J bn (ak J (aa (ai J (fun h5=> ?_) (fun h5=> ?_)))))
     ·(try simp only [bj]at h5);have hk:t.kind=6:=h5;obtain⟨u,hku⟩:=hw.one (.inr hk);have hnu:nX t=nX u+1:=by rw [uO,hku];simp [dW]
      have hsz:=nu om sm u s;rw [SW hk hku];refine ap (ad J (aC dx J (aQ 3 jh J J J J (aP (aN (j:=0) underlying59 cl J J (aK (k:=9) J) J (by rw [hku];simp)) ?_))));refine sE (aM cl J J J (bA (aK (k:=9) J) (by intro _;rfl) (show t.kids[0]?=some u by rw [hku];rfl) (by rfl))) J ?_;refine aZ 0 8 J (dD (show u∈t.kids by rw [hku];simp)) ?_;refine dh (xs:= [.tmp 46,.tmp 50]) (ih u (show u∈t.kids by rw [hku];simp) (s) (by omega)) tG [0] [(false,8),(false,1),(false,2),(false,3)] [0] J J J J J J J J (fun _ _=>J) (fun _ _ _=>J) J (fun _ _=> ?_);refine aF J (aC dI J (aQ 3 t9 J J J J (aa (aB (ap (aw J J cW (ak J (aa (ai J (fun h6=> ?_) (fun h6=> ?_))))))))))
      ·(try simp only [bj]at h6);have ho:t.name=dR:=bW ((cq _ _).symm.trans h6);rw [ho,show Gz dR (gX om sm u s)=(gX om sm u s).emit [q3 2 1 0 1]from J];refine am (ad J (aj (xs:= [.tmp 56,.const (I6 2),.const (I6 1),.const (I6 0),.const (I6 1)]) (dG e (gX om sm u s) (by omega) 2 1 0 1) nU [0] [] [0] (fun _ _=>aa (cm () O J gn J [0] [] J J J))))
      ·(try simp only [bj]at h6);have u1:¬t.name=dR:=cg ((cq _ _).symm.trans h6);refine ap (aw J J cW (ak J (aa (ai J (fun h7=> ?_) (fun h7=> ?_)))))
       ·(try simp only [bj]at h7);have ho:t.name=sK:=bW ((cq _ _).symm.trans h7);rw [ho,show Gz sK (gX om sm u s)=((gX om sm u s).emit [qi 16 2 0 4294967295]).emit [q3 5 1 1 2]from J];refine ap (ad J (aj (xs:= [.tmp 60,.const (I6 16),.const (I6 2),.const (I6 0),.const (I3 4294967295)]) (dw e (gX om sm u s) (by omega) 16 2 0 4294967295) kb [0] [] [0] (fun _ _=>aa (am (ad J (aj (xs:= [.tmp 62,.const (I6 5),.const (I6 1),.const (I6 1),.const (I6 2)]) (dG e ((gX om sm u s).emit [qi 16 2 0 4294967295]) (by rw [bL];simp;omega) 5 1 1 2) nU [0] [] [0] (fun _ _=>aa (cm () O J gn J [0] [] J J J))))))))
       ·(try simp only [bj]at h7);have u2:¬t.name=sK:=cg ((cq _ _).symm.trans h7);refine ap (aw J J cW (ak J (aa (ai J (fun h8=> ?_) (fun h8=> ?_)))))
        ·(try simp only [bj]at h8);have ho:t.name=ug:=bW ((cq _ _).symm.trans h8);rw [ho,show Gz ug (gX om sm u s)=((gX om sm u s).emit [qi 16 2 0 1]).emit [q3 11 1 1 2]from J];refine ap (ad J (aj (xs:= [.tmp 66,.const (I6 16),.const (I6 2),.const (I6 0),.const (I3 1)]) (dw e (gX om sm u s) (by omega) 16 2 0 1) kb [0] [] [0] (fun _ _=>aa (am (ad J (aj (xs:= [.tmp 68,.const (I6 11),.const (I6 1),.const (I6 1),.const (I6 2)]) (dG e ((gX om sm u s).emit [qi 16 2 0 1]) (by rw [bL];simp;omega) 11 1 1 2) nU [0] [] [0] (fun _ _=>aa (cm () O J gn J [0] [] J J J))))))))
        ·exact absurd ((hw.un hk).resolve_left u1 |>.resolve_left u2) (cg ((cq _ _).symm.trans h8))
     ·(try simp only [bj]at h5);have n6:¬t.kind=6:=h5;refine ap (aw J J bn (ak J (aa (ai J (fun h9=> ?_) (fun h9=> ?_)))))
      ·(try simp only [bj]at h9);have hk:t.kind=7:=h9;obtain⟨hbin,a,b,hkab⟩:=hw.two hk;have hnu:nX t=nX a+nX b+1:=by rw [uO,hkab];simp [dW]
       have hsa:=nu om sm a s;have hsb:=nu om sm b ((gX om sm a s).push 1);rw [da]at hsb;rw [SU hk hkab];obtain⟨nc,lc,hfc,hcb,hop⟩:=MP e c t.name ((gX om sm b ((gX om sm a s).push 1)).pop 2) (by rw [dY];omega) hbin;refine aZ 1 10 J (FD 0 J) ?_;rw [←hm];refine ap (ad J (aC dx J (aQ 3 jh J J J J (aP (aN (j:=0) underlying59 cl J J (aK (k:=9) J) J (by rw [hkab];simp)) ?_))));refine sE (aM cl J J J (bA (aK (k:=9) J) (by intro _;rfl) (show t.kids[0]?=some a by rw [hkab];rfl) (by rfl))) J ?_;refine aZ 0 8 J (dD (show a∈t.kids by rw [hkab];simp)) ?_;refine dh (xs:= [.tmp 72,.tmp 76]) (ih a (show a∈t.kids by rw [hkab];simp) (s) (by omega)) tG [0] [(false,8),(false,1),(false,2),(false,3)] [0] J J J J J J J J (fun _ _=>J) (fun _ _ _=>J) J (fun _ _=> ?_);refine aF J (ad J (aj (xs:= [.tmp 78,.const (I6 1)]) (jC e (gX om sm a s) (by omega) 1) D5 [0] [] [0] (fun _ _=>aF J (ad J (aC dx J (aQ 3 jh J J J J (aP (aN (j:=1) underlying59 cl J J (aK (k:=9) J) J (by rw [hkab];simp)) ?_)))))));refine sE (aM cl J J J (bA (aK (k:=9) J) (by intro _;rfl) (show t.kids[1]?=some b by rw [hkab];rfl) (by rfl))) J ?_;refine aZ 0 8 J (dD (show b∈t.kids by rw [hkab];simp)) ?_;refine dh (xs:= [.tmp 80,.tmp 84]) (ih b (show b∈t.kids by rw [hkab];simp) ((gX om sm a s).push 1) (by rw [da];omega)) tG [0] [(false,8),(false,1),(false,2),(false,3)] [0] J J J J J J J J (fun _ _=>J) (fun _ _ _=>J) J (fun _ _=> ?_)
       refine aF J (ad J (aj (xs:= [.tmp 86,.const (I6 2)]) (ot e (gX om sm b ((gX om sm a s).push 1)) (by omega) 2) Kb [0] [] [0] (fun _ _=>aa (bJ [88,89,90,91,92,93,94,95] _ J (aW (V:= [(0,88,_),(1,89,_),(2,90,_),(3,91,_),(4,92,_),(5,93,_),(6,94,_)]) [0,1,2,3,4,5,6] 7 [7,6,5,4,3,2,1,0] [] (fun _=> []) J J (aD J J (ac J (au J) (ac J (ag Cw J) (ac J (ah OT J J (qb (k:=0) J (fun _=>J) J)) (ac J (ag dI J) (ac J (ah t9 J J (ay (k:=3) J J)) (ac J (ow underlying109 fp t1 J J (uS (k:=10) J) hfc) av))))))) J J J J J J J J J J J (fun _ _=>J) J (bB (xs:= []) hop hcb [0] [(false,1)] [0]) (fun _ _=>bl [] J J av J J J (cm () O J gn J [0] [] J J J)))))))
      ·(try simp only [bj]at h9);have n7:¬t.kind=7:=h9;refine ap (aw J J bn (ak J (aa (ai J (fun h10=> ?_) (fun h10=> ?_)))))
       ·(try simp only [bj]at h10);have hk:t.kind=3:=h10;have hnx:=uO t;have hss:=wJ om sm t.kids s;have hkl:=mC hg;rw [SZ hk];refine aT (aC dx J (aQ 3 jh J J J J (aP (aS underlying59 J (aK (k:=9) J)) (ad J (aa (aB (bC (X:=Nat) (fun i=>i≤t.kids.length) (fun i=> [(0,Pt e.g),(3,Pt b3),(99,sv t.v),(100,I6 (t.kids.length:Int)),(101,I6 (i:Int))]) (fun i=> [(0,gA e (uU om sm (t.kids.take i) s)),(3,bh b3 61 (dT t))]) (fun i=> [(0,ce t.v t.kids),(1,jv e.g c),(2,mp gV Prod.fst vQ e.mo om),(3,mp gV Prod.fst vI (some e.ms) sm),(9,sl 4 dT (sv t.v) t.kids)]) (fun i=>t.kids.length-i) 0 (br _) J J J (fun i n1=>ap (aw J J cr (aa (a_ (ai J (fun h11=> ?_) (fun h11=> ?_)))))))))))))
        ·(try simp only [bj]at h11);have hi:i<t.kids.length:=by omega
         obtain⟨kid,hkid⟩:∃k,t.kids[i]?=some k:=⟨_,bN hi⟩
         have hkm:=bT hkid;have hle:=mn t.kids (i+1);rw [fg hkid]at hle;have hsi:=wJ om sm (t.kids.take i) s;have hsk:=nu om sm kid (uU om sm (t.kids.take i) s);refine az (a_ (aB (ap (aP (aN (j:=i) underlying59 cl J J (aK (k:=9) J) (by first|rfl|omega) (by first|omega|(simp;done)|(simp;omega))) (aP (aM cl J J J (bA (aK (k:=9) J) (by intro _;rfl) hkid (by rfl))) (aY cl J J fun b5=>aq (k:=5) cl J J J J J J (aF J (ad J (aP (aM cl J J J (aX (k:=5) J)) (aZ 0 8 J (dD (hkm)) (aj (xs:= [.tmp 105,.tmp 106]) (ih kid (hkm) (uU om sm (t.kids.take i) s) (by omega)) tG [0] [(false,8),(false,1),(false,2),(false,3)] [0] (fun _ _=>aa (am (ad J (aj (xs:= [.tmp 108,.const (I6 1)]) (jC e (gX om sm kid (uU om sm (t.kids.take i) s)) (by omega) 1) D5 [0] [] [0] (fun _ _=> ?_))))))))))))))));refine aa (am (aw J J aO (ad J (aa ?_))));refine aJ (i+1) ⟨by omega,by omega⟩ J (by rw [yv s hkid];rfl) J
        ·(try simp only [bj]at h11);have hi:i=t.kids.length:=by omega
         subst hi;rw [cS];refine bF (a_ (bJ [111,112,113,114,115,116,117,118,119] _ J (aW (V:= [(0,111,_),(1,112,_),(2,113,_),(3,114,_),(4,115,_),(5,116,_),(6,117,_),(7,118,_)]) [0,1,2,3,4,5,6,7] 8 [8,7,6,5,4,3,2,1,0] [] (fun _=> []) J J (aD J J (aD J J (ac J (au J) (ac J (ag oZ J) (ac J (ah EM J J (qb (k:=0) J (fun _=>J) J)) (ac J (ag dI J) (ac J (ah t9 J J (ay (k:=3) J J)) (ac J (Fy underlying105 fp t3 J J (uS (k:=3) J)) av)))))))) J J J J J J J J J J J (fun _ _=>J) J (bB (xs:= [.tmp 111,.const (I6 40),.const (I6 15),.const (I6 0),.tmp 118]) (fZ e (uU om sm t.kids s) (by omega) 40 15 0 (bM sm t.name)) uv [0] [] [0]) (fun _ _=>bl [] J J av J J J (ap (aC dx J (aQ 3 jh J J J J (aP (aS underlying59 J (aK (k:=9) J)) (ak J (aF J (ad J (aw J J ec (aa (ai J (fun h12=> ?_) (fun h12=> ?_)))))))))))))))
         ·(try simp only [bj]at h12);rw [ar (show t.kids.length>0 by omega)];refine am (ad J (ad J (aw J J kW (aP (cC underlying3 underlying41 J (by first|exact cd (by omega)|rfl)) (aj (xs:= [.tmp 125,.const (I6 16),.const (I6 14),.const (I6 14),.tmp 128]) (dw e ((uU om sm t.kids s).jump 40 15 0 (bM sm t.name)) (by rw [ca];omega) 16 14 14 (4*t.kids.length)) kb [0] [] [0] (fun _ _=>aa (cm () O J gn J [0] [] J J J)))))))
         ·(try simp only [bj]at h12);rw [ae (show ¬t.kids.length>0 by omega)];refine az (cm () O J gn J [0] [] J J J)
       ·exact Ja hw.kind n1 n2 (by simpa using h10) n4 n5 n6 n7
theorem B1(e:Ga)(c:Oq)(om sm:Om)(hm:e.mp=c.m):∀(n:Nat)(t:Tx),SizeOf.sizeOf t<n→rX t=true→GX t→∀s:Qg,s.sz+22*nX t≤780000→bi prog 167 [Pt e.g,xV t] [gA e s] [ce t.v t.kids,jv e.g c,mp gV Prod.fst vQ e.mo om,mp gV Prod.fst vI (some e.ms) sm] (.tuple #[]) [gA e (gX om sm t s)]
 | 0,_,h,_,_=>absurd h (Nat.not_lt_zero _)
 | n+1,t,h,hr,hg=>fun s hz=>Gn e c om sm hm t (Ky hr) hg (fun u hu=>B1 e c om sm hm n u (by have:=qy hu;omega) ((Ky hr).kids u hu) ((kx hg).mem u hu)) s hz
theorem yq(e:Ga)(c:Oq)(om sm:Om)(hm:e.mp=c.m)(t:Tx)(hr:rX t=true)(hg:GX t)(s:Qg)(hz:s.sz+22*nX t≤780000):bi prog 167 [Pt e.g,xV t] [gA e s] [ce t.v t.kids,jv e.g c,mp gV Prod.fst vQ e.mo om,mp gV Prod.fst vI (some e.ms) sm] (.tuple #[]) [gA e (gX om sm t s)]:=B1 e c om sm hm _ t (Nat.lt_succ_self _) hr hg s hz
variable{K:(Int→Int)→Prop}
theorem Res.len{s s':Qg}{r:List Qi}(h:Res K s s' r):s'.code.length=s.code.length+r.length:=by
 obtain⟨raw,fs,ls,a1,a2,-⟩:=h.ex;rw [a1,bG,a2]
theorem Br(a:List Int)(x y:Int)(b:List Int):(a++ [x]++b).set a.length y=a++ [y]++b:=by
 rw [List.append_assoc,List.set_append_right _ _ (bX _),Nat.sub_self,List.append_assoc];rfl
theorem xH(a:List Int)(x z y:Int)(b:List Int):(a++ [x,z]++b).set (a.length+1) y=a++ [x,y]++b:=by
 rw [List.append_assoc,List.set_append_right _ _ (by omega),show a.length+1-a.length=1 by omega,List.append_assoc];rfl
theorem Res.one{s s':Qg}{r:List Qi}(m:Int)(h:Res (fun L=>K L∧L (s.labs.length:Int)=m) s.lab s' r)(hm:m=s'.code.length):Res K s (s'.place s.labs.length) r:=by
 refine Res.labels [0] [m] J (s':=s') (h.weaken fun L hL=>⟨hL.1,hL.2 0 m J⟩) J J fun ls hls=> ?_
 show s'.labs.set ((s.labs.length:Int).toNat) s'.code.length=_;rw [hls,Int.toNat_natCast,Br,hm]
theorem dy{c:Prop} [Decidable c]{s a b:Qg}{r t:List Qi}(h1:Res K s a r)(h2:Res K s b t):Res K s (if c then a else b) (if c then r else t):=by
 by_cases h:c
 ·rw [ar h,ar h];exact h1
 ·rw [ae h,ae h];exact h2
theorem zm{n:Nat}(h:n<4294967296):wU (n:Int)=n:=by
 unfold wU;show((n:Int))%4294967296=n;omega
theorem JB(o:Ba)(s:Qg):Res K s (qT o s) (C0 o):=by
 unfold qT C0;refine dy ?_ ?_
 ·exact Res.emit _ _
 refine dy ?_ ?_
 ·exact Res.emit _ _
 refine dy ?_ ?_
 ·exact Res.emit _ _
 refine dy ?_ ?_
 ·exact Res.emit _ _
 refine dy ?_ ?_
 ·exact Res.emit _ _
 refine dy ?_ ?_
 ·exact Res.emit _ _
 refine dy ?_ ?_
 ·exact Res.emit _ _
 refine dy ?_ ?_
 ·exact Res.emit _ _
 refine dy ?_ ?_
 ·exact Res.emit _ _
 refine dy ?_ ?_
 ·exact Res.emit _ _
 refine dy ?_ ?_
 ·exact(Res.emit _ [_]).seq (Res.emit _ [_])
 refine dy ?_ ?_
 ·exact(Res.emit _ [_]).seq (Res.emit _ [_])
 refine dy ?_ ?_
 ·exact(Res.emit _ [_]).seq (Res.emit _ [_])
 refine dy ?_ ?_
 ·exact((Res.emit _ [_]).seq (Res.emit _ [_])).seq (Res.emit _ [_])
 refine dy ?_ ?_
 ·refine Res.one ((s.code.length:Int)+2) ((Res.jump s.lab 32 1 0 _ 2 fun L hL=> ?_).seq (Res.emit _ [_])) ?_
  ·rw [hL.2];show wU ((s.code.length:Int)+2-s.code.length)=2;rw [show(s.code.length:Int)+2-s.code.length=((2:Nat):Int) by omega];exact zm (by decide)
  ·show _=((((s.code++ [_])++ [_]).length:Nat):Int);simp only [bG,bP,bK];omega
 refine dy ?_ ?_
 ·refine(Res.one (r:= [q3 1 3 1 0,qi 32 1 0 3,q3 10 3 2 1,q3 9 3 3 1]) ((s.code.length:Int)+4) (((((Res.emit s.lab [_]).seq (Res.jump _ 32 1 0 _ 3 fun L hL=> ?_)).seq (Res.emit _ [_])).seq (Res.emit _ [_]))) ?_).seq (Res.emit _ [_])
  ·rw [hL.2];show wU ((s.code.length:Int)+4-(((s.code++ [_]).length:Nat):Int))=3;rw [bG,cE,show(s.code.length:Int)+4-((s.code.length+1:Nat):Int)=((3:Nat):Int) by omega];exact zm (by decide)
  ·show _=((((((s.code++ [_])++ [_])++ [_])++ [_]).length:Nat):Int);simp only [bG,bP,bK];omega
 ·exact Res.nil s
theorem Jz(o:Ba)(s:Qg):Res K s (Gz o s) (Eb o):=by
 unfold Gz Eb;refine dy ?_ ?_
 ·exact Res.emit _ _
 refine dy ?_ ?_
 ·exact(Res.emit _ [_]).seq (Res.emit _ [_])
 refine dy ?_ ?_
 ·exact(Res.emit _ [_]).seq (Res.emit _ [_])
 ·exact Res.nil s
theorem GC(n:Int)(s:Qg):Res K s (s6 n s) (qP n):=by
 unfold s6 qP;refine dy ?_ ?_
 ·exact Res.emit _ _
 ·exact Res.emit _ _
mutual
theorem Ay{o st:Om}{S:Ba→Int}(hK:∀L,K L→∀x,L (bM st x)=S x):∀(t:Tx)(s:Qg),Res K s (gX o st t s) (zX o S t s.code.length)
 | .mk k n nm v kids,s=>by
  have h0:=rB (o:=o) hK kids;have h1:=B2 (o:=o) hK kids;have hs:=wK (o:=o) hK kids;unfold gX zX;split
  ·exact GC n s
  split
  ·exact Res.emit _ _
  split
  ·exact Res.emit _ _
  split
  ·exact(h0 s).seq ((Res.elem _ 1).seq (Res.emit _ _))
  split
  ·exact(h0 s).seq (Jz nm _)
  split
  ·have e1:=(h0 s).len;have e2:=(Res.push (K:=K) (mP o st kids s) 1).len;have e3:s.code.length+(y9 o S kids s.code.length).length+2=((mP o st kids s).push 1).code.length:=by
    rw [e2,e1];rfl
   rw [e3];exact(h0 s).seq ((Res.push _ 1).seq ((h1 _).seq ((Res.pop _ 2).seq (JB nm _))))
  split
  ·have e1:=(hs s).len;have e2:Res K (uU o st kids s) ((uU o st kids s).jump 40 15 0 (bM st nm)) [qi 40 15 0 (wU (S nm-((s.code.length+(zg o S kids s.code.length).length:Nat):Int)))]:=by
    refine Res.jump _ 40 15 0 _ _ fun L hL=> ?_
    rw [hK L hL nm,e1]
   refine(hs s).seq (e2.seq ?_);dsimp only;split
   ·exact Res.emit _ _
   ·exact Res.nil _
  ·exact Res.nil s
theorem rB{o st:Om}{S:Ba→Int}(hK:∀L,K L→∀x,L (bM st x)=S x):∀(l:List Tx)(s:Qg),Res K s (mP o st l s) (y9 o S l s.code.length)
 | [],s=>Res.nil s
 | t::_,s=>Ay hK t s
theorem B2{o st:Om}{S:Ba→Int}(hK:∀L,K L→∀x,L (bM st x)=S x):∀(l:List Tx)(s:Qg),Res K s (On o st l s) (Oy o S l s.code.length)
 | [],s=>Res.nil s
 | _::r,s=>rB hK r s
theorem wK{o st:Om}{S:Ba→Int}(hK:∀L,K L→∀x,L (bM st x)=S x):∀(l:List Tx)(s:Qg),Res K s (uU o st l s) (zg o S l s.code.length)
 | [],s=>Res.nil s
 | t::r,s=>by
  have h:=Ay (o:=o) hK t s;have e1:=h.len;have e2:=(Res.push (K:=K) (gX o st t s) 1).len;have e3:s.code.length+(zX o S t s.code.length).length+2=((gX o st t s).push 1).code.length:=by
   rw [e2,e1];rfl
  unfold uU zg;rw [e3];exact h.seq ((Res.push _ 1).seq (wK hK r _))
end
variable{K:(Int→Int)→Prop}
theorem Res.relab{s s1 s2:Qg}{r:List Qi}(ns ms:List Int)(hl:ns.length=ms.length)(h:Res K {s with labs:=s.labs++ns} s1 r)
  (hc:s2.code=s1.code) (hf:s2.fixes=s1.fixes) (hs:∀ls,s1.labs=(s.labs++ns)++ls→s2.labs=(s.labs++ms)++ls):Res K {s with labs:=s.labs++ms} s2 r:=by
 obtain⟨raw,fs,ls,a1,a2,a3,a4,a5,a6⟩:=h.ex;refine⟨⟨raw,fs,ls,hc.trans a1,a2,hf.trans a3,hs ls a4,a5,fun L hK hL=>a6 L hK fun i n hi=> ?_⟩⟩;have:=hL i n hi;show L (((s.labs++ns).length+i:Nat):Int)=n;rw [bG,hl,←bG];exact this
theorem L4(s:Qg):s.lab.place s.labs.length={s with labs:=s.labs++ [(s.code.length:Int)]}:=by
 show Qg.mk _ _ ((s.labs++ [0]).set ((s.labs.length:Int).toNat) s.code.length)=_;have:=Br s.labs 0 (s.code.length:Int) [];simp only [List.append_nil]at this;rw [Int.toNat_natCast,this];rfl
mutual
theorem Gv{o st:Om}{S:Ba→Int}{en E:Int}:∀{K:(Int→Int)→Prop}(t:Ty)(s:Qg),(∀L,K L→∀x,L (bM st x)=S x)→(∀L,K L→L en=E)→Res K s (gY o st en t s) (zY o S E t s.code.length)
 | K,.mk k nm ve es vb body vl els,s,hK,hE=>by
  refine Res.labels [(s.code.length:Int)] [(s.code.length:Int)] J (s':=gY o st en (.mk k nm ve es vb body vl els) s) ?_ J J (fun ls h=>h);generalize hK':(fun L=>K L∧∀(i:Nat)(n:Int),[(s.code.length:Int)][i]?=some n→L ((s.labs.length+i:Nat):Int)=n)=K';have k1:∀L,K' L→∀x,L (bM st x)=S x:=fun L h=>hK L (by rw [←hK']at h;exact h.1)
  have k2:∀L,K' L→L en=E:=fun L h=>hE L (by rw [←hK']at h;exact h.1)
  have k3:∀L,K' L→L (s.labs.length:Int)=s.code.length:=fun L h=>by rw [←hK']at h;exact h.2 0 _ J
  clear hK';unfold gY zY;dsimp only;rw [L4];generalize hs0:({s with labs:=s.labs++ [(s.code.length:Int)]}:Qg)=s0;have c0:s0.code.length=s.code.length:=by rw [←hs0]
  have h0:=rB (K:=K') (o:=o) k1 es s0;rw [c0]at h0;have e0:=h0.len;rw [c0,oa]at e0;refine dy (h0.seq (Res.emit _ _)) (dy ?_ (dy (h0.seq (Res.emit _ _)) (dy ?_ (dy ?_ (dy ?_ h0)))))
  ·have e2:=(Res.push (K:=K') (mP o st es s0) 1).len;have e3:s.code.length+jZ es+2=((mP o st es s0).push 1).code.length:=by
    rw [e2,e0];rfl
   rw [e3];exact h0.seq ((Res.push _ 1).seq ((B2 k1 es _).seq ((Res.pop _ 2).seq ((Res.elem _ 2).seq (Res.emit _ _)))))
  ·exact h0.seq (Res.jump _ 40 0 0 _ _ fun L hL=>by rw [k2 L hL,e0])
  ·refine h0.seq ?_;generalize hs1:mP o st es s0=s1;rw [hs1]at e0;have hb:=fun(K:(Int→Int)→Prop)(a:∀L,K L→∀x,L (bM st x)=S x)(b:∀L,K L→L en=E)(s:Qg)=>mO (o:=o) (st:=st) (en:=en) (E:=E) (S:=S) (K:=K) body s a b
   have he:=fun(K:(Int→Int)→Prop)(a:∀L,K L→∀x,L (bM st x)=S x)(b:∀L,K L→L en=E)(s:Qg)=>mO (o:=o) (st:=st) (en:=en) (E:=E) (S:=S) (K:=K) els s a b
   simp only [fJ];obtain⟨po,hpo⟩:∃po,po=s.code.length+jZ es+1+fR body+(if els.length>0 then 1 else 0):=⟨_,J⟩
   obtain⟨sA,hsA⟩:∃x,x=((s1.lab.lab).jump 32 1 0 s1.labs.length):=⟨_,J⟩
   obtain⟨sB,hsB⟩:∃x,x=iE o st en body sA:=⟨_,J⟩
   obtain⟨sC,hsC⟩:∃x,x=(if els.length>0 then sB.jump 40 0 0 (s1.labs.length+1)else sB):=⟨_,J⟩
   obtain⟨sD,hsD⟩:∃x,x=iE o st en els (sC.place s1.labs.length):=⟨_,J⟩
   rw [←hsA,←hsB,←hsC,←hsD,←hpo];obtain⟨K2,hK2⟩:∃K2:(Int→Int)→Prop,K2=(fun L=>K' L∧∀(i:Nat)(n:Int),[(po:Int),((po+fR els:Nat):Int)][i]?=some n→L ((s1.labs.length+i:Nat):Int)=n):=⟨_,J⟩
   have j1:∀L,K2 L→∀x,L (bM st x)=S x:=fun L h=>k1 L (by rw [hK2]at h;exact h.1)
   have j2:∀L,K2 L→L en=E:=fun L h=>k2 L (by rw [hK2]at h;exact h.1)
   have j3:∀L,K2 L→L (s1.labs.length:Int)=(po:Int):=fun L h=>by rw [hK2]at h;exact h.2 0 _ J
   have j4:∀L,K2 L→L (s1.labs.length+1)=((po+fR els:Nat):Int):=fun L h=>by rw [hK2]at h;exact h.2 1 _ J
   have g1:Res K2 s1.lab.lab sA [qi 32 1 0 (wU ((fR body+(if els.length>0 then 1 else 0)+1:Nat):Int))]:=by
    rw [hsA];refine Res.jump _ 32 1 0 _ _ fun L hL=> ?_
    rw [j3 L hL,hpo];show wU (_-(s1.code.length:Int))=_;rw [e0]
    congr 1
    omega
   have e1:sA.code.length=s.code.length+jZ es+1:=by
    rw [g1.len];show s1.code.length+1=_;rw [e0]
   have g2:=hb K2 j1 j2 sA;rw [e1,←hsB]at g2;have e2:=g2.len;rw [fJ,e1]at e2;have g3:Res K2 sB sC (if els.length>0 then [qi 40 0 0 (wU ((fR els+1:Nat):Int))]else []):=by
    rw [hsC];by_cases h:els.length>0
    ·rw [ar h,ar h];refine Res.jump _ 40 0 0 _ _ fun L hL=> ?_
     rw [j4 L hL,e2,hpo,ar h]
     congr 1
     omega
    ·rw [ae h,ae h];exact Res.nil _
   have e3:=g3.len;have e4:s.code.length+jZ es+1+fR body+(if els.length>0 then [qi 40 0 0 (wU ((fR els+1:Nat):Int))]else []).length=po:=by
    rw [hpo];split<;>rfl
   rw [e2,e4]at e3;have g4:=(g1.seq (g2.seq g3))
   have ee:({s1 with labs:=s1.labs++ [0,0]}:Qg)=s1.lab.lab:=by
    show _=Qg.mk _ _ ((s1.labs++ [0])++ [0]);rw [List.append_assoc];rfl
   rw [←ee]at g4;have g6:=Res.relab (s2:=sC.place s1.labs.length) [0,0] [(po:Int),0] J g4 J J (fun ls hls=>by
     show List.set sC.labs ((s1.labs.length:Int).toNat) (sC.code.length:Int)=_;rw [hls,e3,Int.toNat_natCast];simp)
   have g5:=he K2 j1 j2 (sC.place s1.labs.length);have e5:(sC.place s1.labs.length).code.length=po:=e3;rw [e5,←hsD]at g5;have e6:=g5.len;rw [e5,fJ]at e6;have g7:=g6.seq g5;rw [hK2]at g7;refine Res.labels [(po:Int),0] [(po:Int),((po+fR els:Nat):Int)] J (s':=sD) ?_ J J (fun ls hls=> ?_)
   ·simpa only [List.append_assoc]using g7
   ·show List.set sD.labs (((s1.labs.length:Int)+1).toNat) (sD.code.length:Int)=_;rw [hls,e6,show((s1.labs.length:Int)+1).toNat=s1.labs.length+1 by omega,xH]
  ·refine h0.seq ?_;generalize hs1:mP o st es s0=s1;rw [hs1]at e0;have hb:=fun(K:(Int→Int)→Prop)(a:∀L,K L→∀x,L (bM st x)=S x)(b:∀L,K L→L en=E)(s:Qg)=>mO (o:=o) (st:=st) (en:=en) (E:=E) (S:=S) (K:=K) body s a b
   simp only [fJ];obtain⟨sA,hsA⟩:∃x,x=s1.lab.jump 32 1 0 s1.labs.length:=⟨_,J⟩
   obtain⟨sB,hsB⟩:∃x,x=iE o st en body sA:=⟨_,J⟩
   obtain⟨K2,hK2⟩:∃K2:(Int→Int)→Prop,K2=(fun L=>K' L∧L (s1.labs.length:Int)=((s.code.length+jZ es+fR body+2:Nat):Int)):=⟨_,J⟩
   have j1:∀L,K2 L→∀x,L (bM st x)=S x:=fun L h=>k1 L (by rw [hK2]at h;exact h.1)
   have j2:∀L,K2 L→L en=E:=fun L h=>k2 L (by rw [hK2]at h;exact h.1)
   have g1:Res K2 s1.lab sA [qi 32 1 0 (wU ((fR body+2:Nat):Int))]:=by
    rw [hsA];refine Res.jump _ 32 1 0 _ _ fun L hL=> ?_
    rw [hK2]at hL;rw [hL.2];show wU (_-(s1.code.length:Int))=_;rw [e0]
    congr 1
    omega
   have e1:sA.code.length=s.code.length+jZ es+1:=by
    rw [g1.len];show s1.code.length+1=_;rw [e0]
   have g2:=hb K2 j1 j2 sA;rw [e1,←hsB]at g2;have e2:=g2.len;rw [fJ,e1]at e2;have g3:Res K2 sB (sB.jump 40 0 0 s.labs.length) [qi 40 0 0 (wU (-((fR body+jZ es+1:Nat):Int)))]:=by
    refine Res.jump _ 40 0 0 _ _ fun L hL=> ?_
    rw [hK2]at hL;rw [k3 L hL.1,e2]
    congr 1
    omega
   have g4:=g1.seq (g2.seq g3);have e4:=g3.len;rw [e2]at e4;rw [hK2]at g4;rw [←hsA,←hsB];refine Res.one _ g4 ?_;rw [e4];show _=((s.code.length+jZ es+1+fR body+1:Nat):Int);omega
theorem mO{o st:Om}{S:Ba→Int}{en E:Int}:∀{K:(Int→Int)→Prop}(l:List Ty)(s:Qg),(∀L,K L→∀x,L (bM st x)=S x)→(∀L,K L→L en=E)→Res K s (iE o st en l s) (lS o S E l s.code.length)
 | K,[],s,_,_=>Res.nil s
 | K,t::r,s,hK,hE=>by
  have h:=Gv (o:=o) t s hK hE;unfold iE lS;rw [←h.len];exact h.seq (mO r _ hK hE)
end
theorem sZ:∀(n:Nat)(s:Qg),Res K s (d5 n s) (jE n)
 | 0,s=>Res.nil s
 | n+1,s=>(Res.push s 0).seq (sZ n _)
theorem Nq{st:Om}{S:Ba→Int}(hK:∀L,K L→∀x,L (bM st x)=S x)(f:Tf)(s:Qg)(hi:(bM st f.name).toNat<s.labs.length):
  Res K {s with labs:=s.labs.set (bM st f.name).toNat s.code.length} (gF st f s) (zF S f s.code.length):=by
 obtain⟨i,hi'⟩:∃i,i=(bM st f.name).toNat:=⟨_,J⟩
 obtain⟨s0,hs0⟩:∃s0:Qg,s0={s with labs:=s.labs.set i s.code.length}:=⟨_,J⟩
 obtain⟨lb,hlb⟩:∃lb,lb=s.labs.length:=⟨_,J⟩
 rw [←hi']at hi ⊢;have l0:s0.labs.length=lb:=by rw [hs0,hlb];exact List.length_set
 have c0:s0.code.length=s.code.length:=by rw [hs0]
 obtain⟨n,hn⟩:∃n,n=(dF f).2.toNat:=⟨_,J⟩
 obtain⟨E,hE⟩:∃E,E=s.code.length+10+2*n+fR f.body:=⟨_,J⟩
 obtain⟨K2,hK2⟩:∃K2:(Int→Int)→Prop,K2=(fun L=>K L∧∀(i:Nat)(n:Int),[((s.code.length+4:Nat):Int),(E:Int)][i]?=some n→L ((s0.labs.length+i:Nat):Int)=n):=⟨_,J⟩
 have j1:∀L,K2 L→∀x,L (bM st x)=S x:=fun L h=>hK L (by rw [hK2]at h;exact h.1)
 have j2:∀L,K2 L→L (lb:Int)=((s.code.length+4:Nat):Int):=fun L h=>by rw [hK2]at h;rw [←l0];exact h.2 0 _ J
 have j3:∀L,K2 L→L ((lb:Int)+1)=(E:Int):=fun L h=>by
  rw [hK2]at h;have:=h.2 1 _ J;rw [l0]at this;exact this
 obtain⟨sP,hsP⟩:∃x:Qg,x={s0 with labs:=s0.labs++ [0,0]}:=⟨_,J⟩
 have cP:sP.code.length=s.code.length:=by rw [hsP];exact c0
 have eP:(s.lab.lab).place (bM st f.name)=sP:=by
  rw [hsP,hs0];show Qg.mk _ _ (((s.labs++ [0])++ [0]).set (bM st f.name).toNat s.code.length)=_;rw [←hi',List.append_assoc,List.set_append_left _ _ hi];rfl
 obtain⟨sA,hsA⟩:∃x,x=(((sP.emit [qi 16 12 12 1]).emit [qi 16 2 0 12]).jump 35 2 12 lb).emit [⟨49,0,0,0,0⟩]:=⟨_,J⟩
 have g1:Res K2 sP sA [qi 16 12 12 1,qi 16 2 0 12,qi 35 2 12 2,⟨49,0,0,0,0⟩]:=by
  rw [hsA];refine(((Res.emit _ [_]).seq (Res.emit _ [_])).seq (Res.jump _ 35 2 12 _ 2 fun L hL=> ?_)).seq (Res.emit _ [_]);rw [j2 L hL];show wU (_-((((sP.code++ [_])++ [_]).length:Nat):Int))=2;rw [bG,bG,cP];show wU (_-((s.code.length+1+1:Nat):Int))=2;rw [show((s.code.length+4:Nat):Int)-((s.code.length+1+1:Nat):Int)=((2:Nat):Int) by omega];exact zm (by decide)
 have e1:sA.code.length=s.code.length+4:=by rw [g1.len,cP];rfl
 have g1b:Res K2 {s0 with labs:=s0.labs++ [((s.code.length+4:Nat):Int),0]} (sA.place lb) [qi 16 12 12 1,qi 16 2 0 12,qi 35 2 12 2,⟨49,0,0,0,0⟩]:=by
  rw [hsP]at g1;refine Res.relab [0,0] _ J g1 J J fun ls hls=> ?_
  show List.set sA.labs ((lb:Int).toNat) (sA.code.length:Int)=_;rw [hls,e1,Int.toNat_natCast,←l0];simp
 obtain⟨sB,hsB⟩:∃x,x=d5 n ((((sA.place lb).push 15).push 13).emit [q3 1 13 14 0]):=⟨_,J⟩
 have g2:Res K2 (sA.place lb) sB (fQ 15++(fQ 13++([q3 1 13 14 0]++jE n))):=by
  rw [hsB];exact(Res.push _ 15).seq ((Res.push _ 13).seq ((Res.emit _ [_]).seq (sZ n _)))
 have e2:sB.code.length=s.code.length+9+2*n:=by
  rw [g2.len];simp only [bG,kX];show sA.code.length+_=_;rw [e1];simp only [fQ,bP,bK];omega
 obtain⟨sC,hsC⟩:∃x,x=(iE (dF f).1 st (lb+1) f.body sB).emit [q3 1 1 0 0]:=⟨_,J⟩
 have g3:Res K2 sB sC (lS (dF f).1 S E f.body (s.code.length+9+2*n)++ [q3 1 1 0 0]):=by
  rw [hsC,←e2];exact(mO f.body sB j1 j3).seq (Res.emit _ _)
 have e3:sC.code.length=E:=by
  rw [g3.len,e2,hE];simp only [bG,fJ,bP,bK];omega
 have g4:=g1b.seq (g2.seq g3);have g5:=Res.relab (s2:=sC.place (lb+1)) [((s.code.length+4:Nat):Int),0] [((s.code.length+4:Nat):Int),(E:Int)] J g4 J J (fun ls hls=>by
  show List.set sC.labs (((lb:Int)+1).toNat) (sC.code.length:Int)=_;rw [hls,e3,show((lb:Int)+1).toNat=s0.labs.length+1 by omega,xH])
 have g6:=g5.seq ((Res.emit (sC.place (lb+1)) [q3 1 14 13 0]).seq ((Res.pop _ 13).seq ((Res.pop _ 15).seq ((Res.emit _ [qi 16 12 12 4294967295]).seq (Res.emit _ [qi 27 0 15 0])))));have g7:Res K s0 (((((sC.place (lb+1)).emit [q3 1 14 13 0]).pop 13).pop 15).emit [qi 16 12 12 4294967295] |>.emit [qi 27 0 15 0]) (zF S f s.code.length):=by
  refine Res.labels [((s.code.length+4:Nat):Int),(E:Int)] [((s.code.length+4:Nat):Int),(E:Int)] J (s':=((((sC.place (lb+1)).emit [q3 1 14 13 0]).pop 13).pop 15).emit [qi 16 12 12 4294967295] |>.emit [qi 27 0 15 0]) ?_ J J (fun ls h=>h);rw [←hK2];have:zF S f s.code.length=([qi 16 12 12 1,qi 16 2 0 12,qi 35 2 12 2,⟨49,0,0,0,0⟩]++((fQ 15++(fQ 13++([q3 1 13 14 0]++jE n)))++(lS (dF f).1 S E f.body (s.code.length+9+2*n)++ [q3 1 1 0 0])))++([q3 1 14 13 0]++(lX 13++(lX 15++([qi 16 12 12 4294967295]++ [qi 27 0 15 0])))):=by
   unfold zF;rw [hE,hn];simp only [List.append_assoc];rfl
  rw [this];exact g6
 rw [hs0]at g7;have:gF st f s=(((((sC.place (lb+1)).emit [q3 1 14 13 0]).pop 13).pop 15).emit [qi 16 12 12 4294967295] |>.emit [qi 27 0 15 0]):=by
  rw [hsC,hsB,hsA,←eP,hn,hlb];rfl
 rw [this];exact g7
def ep(st:Om):List Tf→Nat→List Int→List Int
 | [],_,l=>l
 | f::r,p,l=>ep st r (p+wF f) (l.set (bM st f.name).toNat p)
theorem ny(st:Om):∀(fs:List Tf)(p:Nat)(l:List Int),(ep st fs p l).length=l.length
 | [],_,_=>rfl
 | f::r,p,l=>by
  unfold ep;rw [ny st r,List.length_set]
theorem sj(st:Om):∀(fs:List Tf)(p:Nat)(a b:List Int),(∀f∈fs,(bM st f.name).toNat<a.length)→ep st fs p (a++b)=ep st fs p a++b
 | [],_,_,_,_=>rfl
 | f::r,p,a,b,h=>by
  unfold ep;rw [List.set_append_left _ _ (h f (by simp)),sj st r _ _ b fun g hg=>by rw [List.length_set];exact h g (by simp [hg])]
theorem B9{st:Om}{S:Ba→Int}(hK:∀L,K L→∀x,L (bM st x)=S x):∀(fs:List Tf)(s:Qg),(∀f∈fs,(bM st f.name).toNat<s.labs.length)→
  Res K {s with labs:=ep st fs s.code.length s.labs} (s_ st fs s) (Eq S fs s.code.length)
 | [],s,_=>Res.nil s
 | f::r,s,h=>by
  have hf:=h f (by simp);have g1:=Nq hK f s hf;have e1:(gF st f s).code.length=s.code.length+wF f:=by
   have:=g1.len;rw [zj]at this;exact this
  obtain⟨raw,fx,ls,a1,a2,a3,a4,a5,a6⟩:=g1.ex;have hl:(gF st f s).labs.length≥s.labs.length:=by
   rw [a4,bG,List.length_set];omega
  have g2:=B9 hK r (gF st f s) (fun g hg=>by have:=h g (by simp [hg]);omega);rw [e1]at g2;have hr:∀g∈r,(bM st g.name).toNat<(s.labs.set (bM st f.name).toNat s.code.length).length:=fun g hg=>by rw [List.length_set];exact h g (by simp [hg])
  have g3:Res K {s with labs:=ep st (f::r) s.code.length s.labs} {gF st f s with labs:=ep st r (s.code.length+wF f) (gF st f s).labs} (zF S f s.code.length):=by
   refine⟨⟨raw,fx,ls,a1,a2,a3,?_,a5,fun L hL hi=>a6 L hL fun i n hn=> ?_⟩⟩
   ·show ep st r _ (gF st f s).labs=_;rw [a4,sj st r _ _ _ hr];rfl
   ·have:=hi i n hn;show L (((s.labs.set (bM st f.name).toNat s.code.length).length+i:Nat):Int)=n;rw [List.length_set];rw [show({s with labs:=ep st (f::r) s.code.length s.labs}:Qg).labs.length=s.labs.length from ny st _ _ _]at this;exact this
  exact g3.seq g2
theorem Res.labs_le{K:(Int→Int)→Prop}{s s':Qg}{r:List Qi}(h:Res K s s' r):s.labs.length≤s'.labs.length:=by
 obtain⟨raw,fs,ls,-,-,-,a4,-⟩:=h.ex;rw [a4,bG];omega
theorem Gx(o st:Om)(t:Tx)(s:Qg):s.labs.length≤(gX o st t s).labs.length:=(Ay (K:=fun _=>False) (S:=fun _=>0) (fun _ h=>h.elim) t s).labs_le
theorem B3(o st:Om)(t:List Tx)(s:Qg):s.labs.length≤(mP o st t s).labs.length:=(rB (K:=fun _=>False) (S:=fun _=>0) (fun _ h=>h.elim) t s).labs_le
theorem kq(o st:Om)(en:Int)(l:List Ty)(s:Qg):s.labs.length≤(iE o st en l s).labs.length:=(mO (K:=fun _=>False) (S:=fun _=>0) (E:=0) l s (fun _ h=>h.elim) (fun _ h=>h.elim)).labs_le
mutual
theorem PQ(o st:Om)(en:Int):∀(t:Ty)(s:Qg),(gY o st en t s).sz≤s.sz+22*nY t
 | .mk k nm _ es _ body _ els,s=>by
  have hb:=kB o st en body;have hl:=kB o st en els;have h0:=Az o st es (s.lab.place s.labs.length);have h1:=B4 o st es (s.lab.place s.labs.length);rw [b_,cu]at h0 h1;unfold gY nY;dsimp only;refine dk ?_ (dk ?_ (dk ?_ (dk ?_ (dk ?_ (dk ?_ (by omega))))))
  ·simp only [bL,cE];omega
  ·simp only [bL,dO,dY,cE];omega
  ·simp only [bL,cE];omega
  ·simp only [ca];omega
  ·have b1:=hb (((mP o st es (s.lab.place s.labs.length)).lab.lab).jump 32 1 0 (mP o st es (s.lab.place s.labs.length)).labs.length);rw [ca,cu,cu]at b1;rw [b_];refine Nat.le_trans (hl _) ?_;rw [b_];have:(if els.length>0 then(iE o st en body (((mP o st es (s.lab.place s.labs.length)).lab.lab).jump 32 1 0 (mP o st es (s.lab.place s.labs.length)).labs.length)).jump 40 0 0 ((mP o st es (s.lab.place s.labs.length)).labs.length+1)else iE o st en body (((mP o st es (s.lab.place s.labs.length)).lab.lab).jump 32 1 0 (mP o st es (s.lab.place s.labs.length)).labs.length)).sz≤s.sz+22*dW es+22*cB body+7:=by
    refine dk ?_ ?_
    ·rw [ca];omega
    ·omega
   omega
  ·have b1:=hb ((mP o st es (s.lab.place s.labs.length)).lab.jump 32 1 0 (mP o st es (s.lab.place s.labs.length)).labs.length);rw [ca,cu]at b1;rw [b_,ca];omega
theorem kB(o st:Om)(en:Int):∀(l:List Ty)(s:Qg),(iE o st en l s).sz≤s.sz+22*cB l
 | [],s=>Nat.le_add_right _ _
 | t::r,s=>by
  have h1:=PQ o st en t s;have h2:=kB o st en r (gY o st en t s);unfold iE cB;omega
end
theorem yu{o st:Om}{en:Int}:∀{l:List Ty}{i:Nat}{u:Ty}(s:Qg),l[i]?=some u→iE o st en (l.take (i+1)) s=gY o st en u (iE o st en (l.take i) s)
 | [],i,u,s,h=>by simp at h
 | x::r,0,u,s,h=>by cases h;rfl
 | x::r,i+1,u,s,h=>yu (l:=r) _ h
structure Wy(t:Ty):Prop where
 one:t.kind≠3→∃a,t.es= [a]
 two:t.kind=3→∃a b,t.es= [a,b]
 es:∀u∈t.es,rX u=true
 body:lK t.body=true
 els:lK t.els=true
theorem OF{t:Ty}(h:rY t=true):Wy t:=by
 obtain⟨k,nm,ve,es,vb,body,vl,els⟩:=t;unfold rY at h;simp only [Bool.and_eq_true]at h;obtain⟨⟨⟨h1,h2⟩,h3⟩,h4⟩:=h;unfold uf at h1;simp only [Bool.and_eq_true,decide_eq_true_eq]at h1;have h5:=h1.1.1.1.2;refine⟨fun hk=> ?_,fun hk=> ?_,wj h2,h3,h4⟩
 ·rw [ae (show ¬k=3 from hk)]at h5;exact wr h5
 ·rw [ar (show k=3 from hk)]at h5;exact EG h5
theorem By:∀{l:List Ty},lK l=true→∀u∈l,rY u=true
 | [],_,_,h=>by simp at h
 | t::r,h,u,hu=>by
  unfold lK at h;rw [Bool.and_eq_true]at h;rcases List.mem_cons.1 hu with rfl|hu
  ·exact h.1
  ·exact By h.2 u hu
abbrev jP(s:Qg):Qg:=s.lab.place s.labs.length
theorem PT{o st:Om}{en:Int}{t:Ty}{a:Tx}{s:Qg}(h:t.kind=1∨t.kind=2)(he:t.es= [a]):gY o st en t s=(gX o st a (jP s)).emit [qi 25 1 13 (bM o t.name)]:=by
 obtain⟨k,nm,ve,es,vb,body,vl,els⟩:=t;obtain rfl:es= [a]:=he;exact ar h
theorem ST{o st:Om}{en:Int}{t:Ty}{a b:Tx}{s:Qg}(h:t.kind=3)(he:t.es= [a,b]):gY o st en t s=(((gX o st b ((gX o st a (jP s)).push 1)).pop 2).elem 2).emit [qi 25 1 2 8192]:=by
 obtain⟨k,nm,ve,es,vb,body,vl,els⟩:=t;obtain rfl:es= [a,b]:=he;obtain rfl:k=3:=h;rfl
theorem SM{o st:Om}{en:Int}{t:Ty}{a:Tx}{s:Qg}(h:t.kind=7)(he:t.es= [a]):gY o st en t s=(gX o st a (jP s)).emit [⟨48,0,0,0,1⟩]:=by
 obtain⟨k,nm,ve,es,vb,body,vl,els⟩:=t;obtain rfl:es= [a]:=he;obtain rfl:k=7:=h;rfl
theorem SN{o st:Om}{en:Int}{t:Ty}{a:Tx}{s:Qg}(h:t.kind=6)(he:t.es= [a]):gY o st en t s=(gX o st a (jP s)).jump 40 0 0 en:=by
 obtain⟨k,nm,ve,es,vb,body,vl,els⟩:=t;obtain rfl:es= [a]:=he;obtain rfl:k=6:=h;rfl
theorem SQ{o st:Om}{en:Int}{t:Ty}{a:Tx}{s s1:Qg}(h:t.kind=4)(he:t.es= [a])(h1:s1=gX o st a (jP s)):gY o st en t s=
  (iE o st en t.els ((if t.els.length>0 then(iE o st en t.body ((s1.lab.lab).jump 32 1 0 s1.labs.length)).jump 40 0 0 (s1.labs.length+1)else iE o st en t.body ((s1.lab.lab).jump 32 1 0 s1.labs.length)).place s1.labs.length)).place (s1.labs.length+1):=by
 obtain⟨k,nm,ve,es,vb,body,vl,els⟩:=t;obtain rfl:es= [a]:=he;obtain rfl:k=4:=h;subst h1;rfl
theorem SP{o st:Om}{en:Int}{t:Ty}{a:Tx}{s s1:Qg}(h:t.kind=5)(he:t.es= [a])(h1:s1=gX o st a (jP s)):gY o st en t s=((iE o st en t.body (s1.lab.jump 32 1 0 s1.labs.length)).jump 40 0 0 s.labs.length).place s1.labs.length:=by
 obtain⟨k,nm,ve,es,vb,body,vl,els⟩:=t;obtain rfl:es= [a]:=he;obtain rfl:k=5:=h;subst h1;rfl
theorem SL{o st:Om}{en:Int}{t:Ty}{a:Tx}{s:Qg}(n1:¬t.kind=1)(n2:¬t.kind=2)(n3:¬t.kind=3)(n4:¬t.kind=4)(n5:¬t.kind=5)(n6:¬t.kind=6)(n7:¬t.kind=7)(he:t.es= [a]):gY o st en t s=gX o st a (jP s):=by
 obtain⟨k,nm,ve,es,vb,body,vl,els⟩:=t;obtain rfl:es= [a]:=he;have n1:¬k=1:=n1;have n2:¬k=2:=n2;have n3:¬k=3:=n3;have n4:¬k=4:=n4;have n5:¬k=5:=n5;have n6:¬k=6:=n6;have n7:¬k=7:=n7;unfold gY;dsimp only;rw [ae (fun h=>h.elim n1 n2),ae n3,ae n7,ae n6,ae n4,ae n5];rfl
theorem nN{t:Ty}{a:Tx}{r:List Tx}(hw:Wy t)(h:t.kind≠3)(he:t.es=a::r):t.es= [a]:=by
 obtain⟨b,hb⟩:=hw.one h;rw [hb]at he;cases he;exact hb
theorem NA{t:Ty}{a:Tx}{r:List Tx}(hw:Wy t)(h:t.kind=3)(he:t.es=a::r):∃b,t.es= [a,b]:=by
 obtain⟨c,b,hb⟩:=hw.two h;rw [hb]at he;cases he;exact⟨b,hb⟩
theorem Gj(e:Ga)(c:Oq)(om sm:Om)(hm:e.mp=c.m)(t:Ty)(hw:Wy t)(hg:GY t)(ihb:∀s:Qg,s.sz+22*cB t.body≤780000→Spec prog 96 [Pt e.g,sv t.vb] [gA e s] [bV t.vb t.body,jv e.g c,mp gV Prod.fst vQ e.mo om,mp gV Prod.fst vI (some e.ms) sm] (X:=Unit) (fun _=>True) (fun _=> .tuple #[]) (fun _=> [gA e (iE om sm e.en t.body s)]) (fun _=> []))(ihe:∀s:Qg,s.sz+22*cB t.els≤780000→Spec prog 96 [Pt e.g,sv t.vl] [gA e s] [bV t.vl t.els,jv e.g c,mp gV Prod.fst vQ e.mo om,mp gV Prod.fst vI (some e.ms) sm] (X:=Unit) (fun _=>True) (fun _=> .tuple #[]) (fun _=> [gA e (iE om sm e.en t.els s)]) (fun _=> []))(s:Qg)(hz:s.sz+22*nY t≤780000)(he0:0≤e.en):
  bi prog 130 [Pt e.g,yV t] [gA e s] [ce t.ve t.es,bV t.vb t.body,bV t.vl t.els,jv e.g c,mp gV Prod.fst vQ e.mo om,mp gV Prod.fst vI (some e.ms) sm] (.tuple #[]) [gA e (gY om sm e.en t s)]:=by
 refine aI func130 J ntmps130 J fun w0 M H=>aZ 0 9 J gd (aZ 2 11 J ic ?_)
 have hne:=FL t;obtain⟨a,ra,hea⟩:∃a r,t.es=a::r:=by
  by_cases h3:t.kind=3
  ·obtain⟨a,b,h⟩:=hw.two h3;exact⟨a,[b],h⟩
  ·obtain⟨a,h⟩:=hw.one h3;exact⟨a,[],h⟩
 have hna:dW t.es=nX a+dW ra:=by rw [hea];rfl
 have ham:a∈t.es:=by rw [hea];simp
 have hgt:(jP s).sz=s.sz+1:=by rw [b_,cu]
 have hsa:=nu om sm a (jP s);rw [hgt]at hsa;have hla:=Gx om sm a (jP s);refine ap (ck J J fun b3=>aF J (ad J (aj (xs:= [.tmp 8]) (fO e (s) (by omega)) xd [0] [] [0] (fun _ _=>ak J (aF J (ad J (ad J (aj (xs:= [.tmp 10,.tmp 11]) (eK e (s.lab) (by rw [cu];omega) ((s.labs.length:Int)) (by simp [Qg.lab];omega)) tE [0] [] [0] (fun _ _=>aF J (ad J (aC gj J ?_)))))))))));refine aQ 3 jh J J J J (aP (aN (j:=0) underlying59 cl J J (aK (k:=9) J) J (by rw [hea];simp)) ?_);refine sE (aM cl J J J (bA (aK (k:=9) J) (by intro _;rfl) (show t.es[0]?=some a by rw [hea];rfl) (by rfl))) J ?_;refine aZ 0 10 J (dD ham) (db (xs:= [.tmp 13,.tmp 17]) (yq e c om sm hm a (hw.es _ ham) ((pn hg).2.mem _ ham) (jP s) (by omega)) tG [0] [(false,10),(false,3),(false,4),(false,5)] [0] J J J (fun _ _=>aF J (aC eM J (aQ 3 t3 J J J J (aa (aB (aT (aw J J bn (ak J (aa (ai J (fun h1=> ?_) (fun h1=> ?_))))))))))))
 ·(try simp only [bj]at h1);have k1:t.kind=1:=h1;refine az (ai J (fun h2=> ?_) (fun h2=> ?_))
  ·(try simp only [bj]at h2);rw [PT (.inl k1) (nN hw (by omega) hea)];refine bJ [24,25,26,27,28,29,30,31,32] _ J (aW (V:= [(0,24,_),(1,25,_),(2,26,_),(3,27,_),(4,28,_),(5,29,_),(6,30,_),(7,31,_)]) [0,1,2,3,4,5,6,7] 8 [8,7,6,5,4,3,2,1,0] [] (fun _=> []) J J (aD J J (aD J J (ac J (au J) (ac J (ag mX J) (ac J (ah Da J J (qb (k:=0) J (fun _=>J) J)) (ac J (ag iK J) (ac J (ah t9 J J (ay (k:=3) J J)) (ac J (Fw underlying108 fp dm J J (uS (k:=4) J)) av)))))))) J J J J J J J J J J J (fun _ _=>J) J (bB (xs:= [.tmp 24,.const (I6 25),.const (I6 1),.const (I6 13),.tmp 31]) (dw e (gX om sm a (jP s)) (by omega) 25 1 13 (bM om t.name)) kb [0] [] [0]) (fun _ _=>bl [] J J av J J J (cm () O J gn J [0] [] J J J)))
  ·exact absurd k1 (cg h2)
 ·(try simp only [bj]at h1);have n1:¬t.kind=1:=h1;refine am (aw J J bn (ak J (aa (ai J (fun h3=> ?_) (fun h3=> ?_)))))
  ·(try simp only [bj]at h3);have k2:t.kind=2:=h3;rw [PT (.inr k2) (nN hw (by omega) hea)];refine bJ [24,25,26,27,28,29,30,31,32] _ J (aW (V:= [(0,24,_),(1,25,_),(2,26,_),(3,27,_),(4,28,_),(5,29,_),(6,30,_),(7,31,_)]) [0,1,2,3,4,5,6,7] 8 [8,7,6,5,4,3,2,1,0] [] (fun _=> []) J J (aD J J (aD J J (ac J (au J) (ac J (ag mX J) (ac J (ah Da J J (qb (k:=0) J (fun _=>J) J)) (ac J (ag iK J) (ac J (ah t9 J J (ay (k:=3) J J)) (ac J (Fw underlying108 fp dm J J (uS (k:=4) J)) av)))))))) J J J J J J J J J J J (fun _ _=>J) J (bB (xs:= [.tmp 24,.const (I6 25),.const (I6 1),.const (I6 13),.tmp 31]) (dw e (gX om sm a (jP s)) (by omega) 25 1 13 (bM om t.name)) kb [0] [] [0]) (fun _ _=>bl [] J J av J J J (cm () O J gn J [0] [] J J J)))
  ·(try simp only [bj]at h3);have n2:¬t.kind=2:=h3;refine ap (aw J J bn (ak J (aa (ai J (fun h4=> ?_) (fun h4=> ?_)))))
   ·(try simp only [bj]at h4);have hk:t.kind=3:=h4;obtain⟨b,heb⟩:=NA hw hk hea;have hbm:b∈t.es:=by rw [heb];simp
    have hnb:dW t.es=nX a+nX b:=by rw [heb];simp [dW]
    have hsb:=nu om sm b ((gX om sm a (jP s)).push 1);rw [da]at hsb;rw [ST hk heb];refine ap (ad J (aj (xs:= [.tmp 35,.const (I6 1)]) (jC e (gX om sm a (jP s)) (by omega) 1) D5 [0] [] [0] (fun _ _=>aF J (ad J (aC gj J (aQ 3 jh J J J J (aP (aN (j:=1) underlying59 cl J J (aK (k:=9) J) J (by rw [heb];simp)) ?_)))))));refine sE (aM cl J J J (bA (aK (k:=9) J) (by intro _;rfl) (show t.es[1]?=some b by rw [heb];rfl) (by rfl))) J ?_;refine aZ 0 10 J (dD hbm) (db (xs:= [.tmp 37,.tmp 41]) (yq e c om sm hm b (hw.es _ hbm) ((pn hg).2.mem _ hbm) ((gX om sm a (jP s)).push 1) (by rw [da];omega)) tG [0] [(false,10),(false,3),(false,4),(false,5)] [0] J J J (fun _ _=>aF J (ad J (aj (xs:= [.tmp 43,.const (I6 2)]) (ot e (gX om sm b ((gX om sm a (jP s)).push 1)) (by omega) 2) Kb [0] [] [0] (fun _ _=>aF J (ad J (aj (xs:= [.tmp 45,.const (I6 2)]) (u7 e ((gX om sm b ((gX om sm a (jP s)).push 1)).pop 2) (by rw [dY];omega) 2) Lr [0] [] [0] (fun _ _=>aa (am (ad J (aj (xs:= [.tmp 47,.const (I6 25),.const (I6 1),.const (I6 2),.const (I3 8192)]) (dw e (((gX om sm b ((gX om sm a (jP s)).push 1)).pop 2).elem 2) (by rw [dO,dY];omega) 25 1 2 8192) kb [0] [] [0] (fun _ _=>aa (cm () O J gn J [0] [] J J J)))))))))))))
   ·(try simp only [bj]at h4);have n3:¬t.kind=3:=h4;refine ap (aw J J bn (ak J (aa (ai J (fun h5=> ?_) (fun h5=> ?_)))))
    ·(try simp only [bj]at h5);have hk:t.kind=7:=h5;rw [SM hk (nN hw (by omega) hea)];refine am (ad J (aP (aU (parts:= [(0,.const (I6 48)),(4,.const (I3 1))]) fA nr J J) (bq ja ⟨48,0,0,0,1⟩ underlying106 fA J (by decide) (by decide) J J J J fun v53=>cQ 53 7 J bO (aj (xs:= [.tmp 51,.tmp 53]) (iM e (gX om sm a (jP s)) (by omega) v53 [⟨48,0,0,0,1⟩] (by simp)) yR [0] [(false,7)] [0] (fun _ _=>aa (cm () O J gn J [0] [] J J J))))))
    ·(try simp only [bj]at h5);have n7:¬t.kind=7:=h5;refine ap (aw J J bn (ak J (aa (ai J (fun h6=> ?_) (fun h6=> ?_)))))
     ·(try simp only [bj]at h6);have hk:t.kind=6:=h6;rw [SN hk (nN hw (by omega) hea)];refine am (ad J (ad J (bI J (aC wW J (aP (ah t3 J J (qb (k:=0) J (fun _=>J) J)) (aj (xs:= [.tmp 57,.const (I6 40),.const (I6 0),.const (I6 0),.tmp 61]) (fZ e (gX om sm a (jP s)) (by omega) 40 0 0 e.en) uv [0] [] [0] (fun _ _=>aa (cm () O J gn J [0] [] J J J))))))))
     ·(try simp only [bj]at h6);have n6:¬t.kind=6:=h6;refine ap (aw J J bn (ak J (aa (ai J (fun h7=> ?_) (fun h7=> ?_)))))
      ·(try simp only [bj]at h7);have hk:t.kind=4:=h7;obtain⟨s1,hs1⟩:∃s1,s1=gX om sm a (jP s):=⟨_,J⟩
       rw [SQ hk (nN hw (by omega) hea) hs1];rw [←hs1]at hsa hla ⊢;have hb:=kB om sm e.en t.body ((s1.lab.lab).jump 32 1 0 s1.labs.length);rw [ca,cu,cu]at hb;have lb:=kq om sm e.en t.body ((s1.lab.lab).jump 32 1 0 s1.labs.length);have ll:((s1.lab.lab).jump 32 1 0 s1.labs.length).labs.length=s1.labs.length+2:=by simp [Qg.lab,Qg.jump]
       
       refine ap (ad J (aj (xs:= [.tmp 65]) (fO e (s1) (by omega)) xd [0] [] [0] (fun _ _=>ad J (aj (xs:= [.tmp 67]) (fO e (s1.lab) (by rw [cu];omega)) xd [0] [] [0] (fun _ _=> ?_)))))
       with_reducible rw [show((s1.lab.labs.length:Nat):Int)=(s1.labs.length:Int)+1 from by simp [Qg.lab]]
       refine ak J (ak J (aF J (ad J (ad J (aj (xs:= [.tmp 69,.const (I6 32),.const (I6 1),.const (I6 0),.tmp 70]) (fZ e (s1.lab.lab) (by rw [cu,cu];omega) 32 1 0 (s1.labs.length:Int)) uv [0] [] [0] (fun _ _=>aF J (ad J (aC ft J (aQ 3 iP J J J J (aj (xs:= [.tmp 72,.tmp 74]) (ihb ((s1.lab.lab).jump 32 1 0 s1.labs.length) (by rw [ca,cu,cu];omega)) He [0] [(false,1),(false,3),(false,4),(false,5)] [0] (fun _ _=>aa (aT (aC fq J ?_)))))))))))));refine aQ 3 iP J J J J (aP (aS underlying62 J (aK (k:=11) J)) (aw J J ec (aa (ai J (fun h8=> ?_) (fun h8=> ?_)))))
       ·(try simp only [bj]at h8);obtain⟨sC,hC⟩:∃sC,sC=(iE om sm e.en t.body ((s1.lab.lab).jump 32 1 0 s1.labs.length)).jump 40 0 0 (s1.labs.length+1):=⟨_,J⟩
        rw [ar (show t.els.length>0 by omega),←hC];have hsC:sC.sz≤s1.sz+22*cB t.body+6∧s1.labs.length+2≤sC.labs.length:=by rw [hC];(refine⟨?_,?_⟩;rw [ca];omega;show _≤(iE om sm e.en t.body ((s1.lab.lab).jump 32 1 0 s1.labs.length)).labs.length;omega)
        have hle:=kB om sm e.en t.els (sC.place s1.labs.length);rw [b_]at hle;have lle:=kq om sm e.en t.els (sC.place s1.labs.length);have lpl:(sC.place s1.labs.length).labs.length=sC.labs.length:=by simp [Qg.place]
        refine am (ad J (ad J (aj (xs:= [.tmp 80,.const (I6 40),.const (I6 0),.const (I6 0),.tmp 81]) (fZ e (iE om sm e.en t.body ((s1.lab.lab).jump 32 1 0 s1.labs.length)) (by omega) 40 0 0 (s1.labs.length+1)) uv [0] [] [0] (fun _ _=> ?_))));rw [←hC];refine aF J (ad J (ad J (aj (xs:= [.tmp 83,.tmp 84]) (eK e (sC) (by omega) ((s1.labs.length:Int)) (by omega)) tE [0] [] [0] (fun _ _=>aF J (ad J (aC fq J (aQ 3 iP J J J J (aj (xs:= [.tmp 86,.tmp 88]) (ihe (sC.place s1.labs.length) (by rw [b_];omega)) He [0] [(false,2),(false,3),(false,4),(false,5)] [0] (fun _ _=>aa (am (ad J (ad J (aj (xs:= [.tmp 90,.tmp 91]) (eK e (iE om sm e.en t.els (sC.place s1.labs.length)) (by omega) ((s1.labs.length+1:Int)) (by omega)) tE [0] [] [0] (fun _ _=>aa (cm () O J gn J [0] [] J J J)))))))))))))))
       ·(try simp only [bj]at h8);obtain⟨sC,hC⟩:∃sC,sC=iE om sm e.en t.body ((s1.lab.lab).jump 32 1 0 s1.labs.length):=⟨_,J⟩
        rw [ae (show ¬t.els.length>0 by omega),←hC];have hsC:sC.sz≤s1.sz+22*cB t.body+6∧s1.labs.length+2≤sC.labs.length:=by rw [hC];(refine⟨?_,?_⟩<;>omega)
        have hle:=kB om sm e.en t.els (sC.place s1.labs.length);rw [b_]at hle;have lle:=kq om sm e.en t.els (sC.place s1.labs.length);have lpl:(sC.place s1.labs.length).labs.length=sC.labs.length:=by simp [Qg.place]
        refine az (ap (ad J (ad J (aj (xs:= [.tmp 83,.tmp 84]) (eK e (sC) (by omega) ((s1.labs.length:Int)) (by omega)) tE [0] [] [0] (fun _ _=>aF J (ad J (aC fq J (aQ 3 iP J J J J (aj (xs:= [.tmp 86,.tmp 88]) (ihe (sC.place s1.labs.length) (by rw [b_];omega)) He [0] [(false,2),(false,3),(false,4),(false,5)] [0] (fun _ _=>aa (am (ad J (ad J (aj (xs:= [.tmp 90,.tmp 91]) (eK e (iE om sm e.en t.els (sC.place s1.labs.length)) (by omega) ((s1.labs.length+1:Int)) (by omega)) tE [0] [] [0] (fun _ _=>aa (cm () O J gn J [0] [] J J J))))))))))))))))
      ·(try simp only [bj]at h7);have n4:¬t.kind=4:=h7;refine ap (aw J J bn (ak J (aa (ai J (fun h9=> ?_) (fun h9=> ?_)))))
       ·(try simp only [bj]at h9);have hk:t.kind=5:=h9;obtain⟨s1,hs1⟩:∃s1,s1=gX om sm a (jP s):=⟨_,J⟩
        rw [SP hk (nN hw (by omega) hea) hs1];rw [←hs1]at hsa hla ⊢;have hb:=kB om sm e.en t.body (s1.lab.jump 32 1 0 s1.labs.length);rw [ca,cu]at hb;have lb:=kq om sm e.en t.body (s1.lab.jump 32 1 0 s1.labs.length);have ll:(s1.lab.jump 32 1 0 s1.labs.length).labs.length=s1.labs.length+1:=by simp [Qg.lab,Qg.jump]
        have lj:((iE om sm e.en t.body (s1.lab.jump 32 1 0 s1.labs.length)).jump 40 0 0 s.labs.length).labs.length=(iE om sm e.en t.body (s1.lab.jump 32 1 0 s1.labs.length)).labs.length:=by simp [Qg.jump]
        refine ap (ad J (aj (xs:= [.tmp 95]) (fO e (s1) (by omega)) xd [0] [] [0] (fun _ _=>ak J (aF J (ad J (ad J (aj (xs:= [.tmp 97,.const (I6 32),.const (I6 1),.const (I6 0),.tmp 98]) (fZ e (s1.lab) (by rw [cu];omega) 32 1 0 (s1.labs.length:Int)) uv [0] [] [0] (fun _ _=>aF J (ad J (aC ft J (aQ 3 iP J J J J (aj (xs:= [.tmp 100,.tmp 102]) (ihb (s1.lab.jump 32 1 0 s1.labs.length) (by rw [ca,cu];omega)) He [0] [(false,1),(false,3),(false,4),(false,5)] [0] (fun _ _=>aa (a_ ?_))))))))))))));refine am (ad J (ad J (aj (xs:= [.tmp 104,.const (I6 40),.const (I6 0),.const (I6 0),.tmp 105]) (fZ e (iE om sm e.en t.body (s1.lab.jump 32 1 0 s1.labs.length)) (by omega) 40 0 0 (s.labs.length:Int)) uv [0] [] [0] (fun _ _=>aa (am (ad J (ad J (aj (xs:= [.tmp 107,.tmp 108]) (eK e ((iE om sm e.en t.body (s1.lab.jump 32 1 0 s1.labs.length)).jump 40 0 0 s.labs.length) (by rw [ca];omega) ((s1.labs.length:Int)) (by omega)) tE [0] [] [0] (fun _ _=>aa (cm () O J gn J [0] [] J J J))))))))))
       ·(try simp only [bj]at h9);have n5:¬t.kind=5:=h9;rw [SL n1 n2 n3 n4 n5 n6 n7 (nN hw (by omega) hea)];refine az (cm () O J gn J [0] [] J J J)
theorem Gr(e:Ga)(c:Oq)(om sm:Om)(v:SV)(l:List Ty)(hl:l.length≤1000000)(ih:∀u∈l,∀s:Qg,s.sz+22*nY u≤780000→Spec prog 130 [Pt e.g,yV u] [gA e s] [ce u.ve u.es,bV u.vb u.body,bV u.vl u.els,jv e.g c,mp gV Prod.fst vQ e.mo om,mp gV Prod.fst vI (some e.ms) sm] (X:=Unit) (fun _=>True) (fun _=> .tuple #[]) (fun _=> [gA e (gY om sm e.en u s)]) (fun _=> []))(s:Qg)(hz:s.sz+22*cB l≤780000):
  bi prog 96 [Pt e.g,sv v] [gA e s] [bV v l,jv e.g c,mp gV Prod.fst vQ e.mo om,mp gV Prod.fst vI (some e.ms) sm] (.tuple #[]) [gA e (iE om sm e.en l s)]:=by
 refine aI func96 J ntmps96 J fun w0 M H=>aZ 0 9 J ic (ap (ad J (aP (aS underlying62 J (aK (k:=9) J)) (ad J (aa (aB (bC (X:=Nat) (fun i=>i≤l.length) (fun i=> [(0,Pt e.g),(6,sv v),(7,I6 (l.length:Int)),(8,I6 (i:Int))]) (fun i=> [(0,gA e (iE om sm e.en (l.take i) s))]) (fun i=> [(0,bV v l),(1,jv e.g c),(2,mp gV Prod.fst vQ e.mo om),(3,mp gV Prod.fst vI (some e.ms) sm),(9,sl 5 eE (sv v) l)]) (fun i=>l.length-i) 0 (br _) J J J (fun i n1=>ap (aw J J cr (aa (a_ (ai J (fun h1=> ?_) (fun h1=> ?_)))))))))))))
 ·(try simp only [bj]at h1);have hi:i<l.length:=by omega
  obtain⟨kid,hkid⟩:∃k,l[i]?=some k:=⟨_,bN hi⟩
  have hkm:=bT hkid;have hle:=nK l (i+1);rw [iW hkid]at hle;have hsi:=kB om sm e.en (l.take i) s;refine az (a_ (aB (ap (aP (aN (j:=i) underlying62 dK J J (aK (k:=9) J) (by first|rfl|omega) (by first|omega|(simp;done)|(simp;omega))) (aP (aM dK J J J (bA (aK (k:=9) J) (by intro _;rfl) hkid (by rfl))) (aY dK J J fun b5=>aq (k:=5) dK J J J J J J (aa (am (ad J (aP (aM dK J J J (aX (k:=5) J)) (aZ 0 11 J (kZ hkm) (aZ 0 12 J (gS hkm) (aZ 0 13 J (iO hkm) (aj (xs:= [.tmp 12,.tmp 13]) (ih kid hkm (iE om sm e.en (l.take i) s) (by omega)) Q6 [0] [(false,11),(false,12),(false,13),(false,1),(false,2),(false,3)] [0] (fun _ _=>aa (am (aw J J aO ?_)))))))))))))))));refine ad J (aa ?_);refine aJ (i+1) ⟨by omega,by omega⟩ J (by rw [yu s hkid];rfl) J
 ·(try simp only [bj]at h1);have hi:i=l.length:=by omega
  subst hi;rw [cS];refine bF (cm () O J gn J [0] [] J J J)
theorem wI(e:Ga)(c:Oq)(om sm:Om)(hm:e.mp=c.m)(he0:0≤e.en):∀(n:Nat)(v:SV)(l:List Ty),SizeOf.sizeOf l<n→lK l=true→GYs l→l.length≤1000000→∀s:Qg,s.sz+22*cB l≤780000→bi prog 96 [Pt e.g,sv v] [gA e s] [bV v l,jv e.g c,mp gV Prod.fst vQ e.mo om,mp gV Prod.fst vI (some e.ms) sm] (.tuple #[]) [gA e (iE om sm e.en l s)]
 | 0,_,_,h,_,_,_=>absurd h (Nat.not_lt_zero _)
 | n+1,v,l,h,hr,hg,hl=>fun s hz=>Gr e c om sm v l hl (fun u hu s hz=>by
   have hlt:=List.sizeOf_lt_of_mem hu;have hw:=OF (By hr u hu);have hgu:=hg.mem u hu;have hb:SizeOf.sizeOf u.body<SizeOf.sizeOf u:=by cases u;simp [Ty.body];omega
   have hl':SizeOf.sizeOf u.els<SizeOf.sizeOf u:=by cases u;simp [Ty.els];omega
   exact Gj e c om sm hm u hw hgu (fun s hz=>wI e c om sm hm he0 n u.vb u.body (by omega) hw.body (eW hgu).2 (eW hgu).1 s hz) (fun s hz=>wI e c om sm hm he0 n u.vl u.els (by omega) hw.els (gk hgu).2 (gk hgu).1 s hz) s hz he0) s hz
theorem Gt(e:Ga)(c:Oq)(om sm:Om)(hm:e.mp=c.m)(he0:0≤e.en)(v:SV)(l:List Ty)(hr:lK l=true)(hg:GYs l)(hl:l.length≤1000000)(s:Qg)(hz:s.sz+22*cB l≤780000):bi prog 96 [Pt e.g,sv v] [gA e s] [bV v l,jv e.g c,mp gV Prod.fst vQ e.mo om,mp gV Prod.fst vI (some e.ms) sm] (.tuple #[]) [gA e (iE om sm e.en l s)]:=wI e c om sm hm he0 _ v l (Nat.lt_succ_self _) hr hg hl s hz
theorem yz:∀{l:List Ty}{i:Nat}{u:Ty}(p:Om×Int),l[i]?=some u→gDs (l.take (i+1)) p=gD u (gDs (l.take i) p)
 | [],i,u,p,h=>by simp at h
 | x::r,0,u,p,h=>by cases h;rfl
 | x::r,i+1,u,p,h=>yz (l:=r) _ h
theorem GH(t:Ty)(p:Om×Int):gD t p=gDs t.els (gDs t.body (if t.kind=1 then(fc p.1 t.name (wU (-(4*(p.2+1)))),p.2+1)else p)):=by cases t;rfl
mutual
theorem S4:∀(t:Ty)(p:Om×Int),(gD t p).2=p.2+vY t
 | .mk k nm _ _ _ body _ els,p=>by
  rw [GH];show(gDs els (gDs body _)).2=_;rw [qI els,qI body];unfold vY;show(if k=1 then _ else p).2+_+_=_;by_cases h:k=1
  ·rw [ar h,ar h];show p.2+1+_+_=_;omega
  ·rw [ae h,ae h];omega
theorem qI:∀(l:List Ty)(p:Om×Int),(gDs l p).2=p.2+dg l
 | [],p=>by show p.2=p.2+((0:Nat):Int);omega
 | t::r,p=>by
  show(gDs r (gD t p)).2=_;rw [qI r,S4 t,show dg (t::r)=vY t+dg r from J];omega
end
theorem DR(g:Nat)(vp:SV)(ms mo mq:Nat)(en:Int)(s:Qg)(cb:Nat)(v:SV)(l:List Ty)(hl:l.length≤1000000)(ihb:∀u∈l,∀p:Om×Int,0≤p.2→p.2+dg u.body≤1000000→Spec prog 94 [Pt g,sv u.vb,Pt cb] [gA (⟨g,vp,ms,some mo,mq,en⟩:Ga) s,mp gV Prod.fst vQ (some mo) (p).1,bh cb 3 [I6 (p).2]] [bV u.vb u.body] (X:=Unit) (fun _=>True) (fun _=> .tuple #[]) (fun _=> [gA (⟨g,vp,ms,some mo,mq,en⟩:Ga) s,mp gV Prod.fst vQ (some mo) (gDs u.body p).1,bh cb 3 [I6 (gDs u.body p).2]]) (fun _=> []))(ihe:∀u∈l,∀p:Om×Int,0≤p.2→p.2+dg u.els≤1000000→Spec prog 94 [Pt g,sv u.vl,Pt cb] [gA (⟨g,vp,ms,some mo,mq,en⟩:Ga) s,mp gV Prod.fst vQ (some mo) (p).1,bh cb 3 [I6 (p).2]] [bV u.vl u.els] (X:=Unit) (fun _=>True) (fun _=> .tuple #[]) (fun _=> [gA (⟨g,vp,ms,some mo,mq,en⟩:Ga) s,mp gV Prod.fst vQ (some mo) (gDs u.els p).1,bh cb 3 [I6 (gDs u.els p).2]]) (fun _=> []))(p:Om×Int)(h0:0≤p.2)(hn:p.2+dg l≤1000000):
  bi prog 94 [Pt g,sv v,Pt cb] [gA (⟨g,vp,ms,some mo,mq,en⟩:Ga) s,mp gV Prod.fst vQ (some mo) (p).1,bh cb 3 [I6 (p).2]] [bV v l] (.tuple #[]) [gA (⟨g,vp,ms,some mo,mq,en⟩:Ga) s,mp gV Prod.fst vQ (some mo) (gDs l p).1,bh cb 3 [I6 (gDs l p).2]]:=by
 refine aI func94 J ntmps94 J fun w0 M H=>aZ 0 9 J ic (ap (ad J (aP (aS underlying62 J (aK (k:=9) J)) (ad J (aa (aB (bC (X:=Nat) (fun i=>i≤l.length) (fun i=> [(0,Pt g),(2,Pt cb),(8,sv v),(9,I6 (l.length:Int)),(10,I6 (i:Int))]) (fun i=> [(0,gA (⟨g,vp,ms,some mo,mq,en⟩:Ga) s),(1,mp gV Prod.fst vQ (some mo) (gDs (l.take i) p).1),(2,bh cb 3 [I6 (gDs (l.take i) p).2])]) (fun i=> [(0,bV v l),(9,sl 5 eE (sv v) l)]) (fun i=>l.length-i) 0 (br _) J J J (fun i n1=>ap (aw J J cr (aa (a_ (ai J (fun h1=> ?_) (fun h1=> ?_)))))))))))))
 ·(try simp only [bj]at h1);have hi:i<l.length:=by omega
  obtain⟨kid,hkid⟩:∃k,l[i]?=some k:=⟨_,bN hi⟩
  have hkm:=bT hkid;have hn1:=qI (l.take i) p;have hn2:=qI (l.take (i+1)) p;have hvt:=kI hkid;have hvl:=qx hkid;have hve:=EE kid;obtain⟨q,hq⟩:∃q,q=(if kid.kind=1 then(fc (gDs (l.take i) p).1 kid.name (wU (-(4*((gDs (l.take i) p).2+1)))),(gDs (l.take i) p).2+1)else gDs (l.take i) p):=⟨_,J⟩
  have hq2:q.2=(gDs (l.take i) p).2+((if kid.kind=1 then 1 else 0:Nat):Int):=by rw [hq];split<;>simp
  refine az (a_ (aB (ap (aP (aN (j:=i) underlying62 dK J J (aK (k:=9) J) (by first|rfl|omega) (by first|omega|(simp;done)|(simp;omega))) (aP (aM dK J J J (bA (aK (k:=9) J) (by intro _;rfl) hkid (by rfl))) (aY dK J J fun b7=>aq (k:=7) dK J J J J J J (aa (bx (X:=Unit) (fun _=>True) (fun _=> [(0,Pt g),(2,Pt cb),(7,Pt b7),(8,sv v),(9,I6 (l.length:Int)),(10,I6 (i:Int))]) (fun _=> [(0,gA (⟨g,vp,ms,some mo,mq,en⟩:Ga) s),(1,mp gV Prod.fst vQ (some mo) q.1),(2,bh cb 3 [I6 q.2]),(7,bh b7 64 (eE kid))]) (fun _=> [(0,bV v l),(9,sl 5 eE (sv v) l)]) ?_ (fun _ _=> ?_)))))))))
  ·refine ap (aC eM J (aQ 7 t3 J J J J (aw J J bn (aa (ai J (fun h2=> ?_) (fun h2=> ?_))))))
   ·(try simp only [bj]at h2);have hk:kid.kind=1:=h2;rw [ar hk]at hve;have hqe:q=(fc (gDs (l.take i) p).1 kid.name (wU (-(4*((gDs (l.take i) p).2+1)))),(gDs (l.take i) p).2+1):=by rw [hq,ar hk]
    refine ap (ad J (bI J (aQ 2 t3 J J J J (aw J J aO (bI J (aA (k:=2) t3 J J J J J J J J (aa ?_)))))));refine bJ [22,23,24,25,26,27,28,29,30,31,32,33] _ J (bE (V:= [(0,22,_),(1,23,_),(2,24,_),(3,25,_),(4,26,_),(5,27,_),(6,28,_),(7,29,_),(8,30,_),(9,31,_),(10,32,_),(11,33,_)]) [0,1,2,3,4,5,6,7,8,9,10,11] 12 [12,11,10,9,8,7,6,5,4,3,2,1,0] [] (fun _=> []) J J (aD J J (ac J (au J) (ac J (ag mX J) (ac J (ah Da J J (qb (k:=0) J (fun _=>J) J)) (ac J (ag iK J) (ac J (ah t9 J J (ay (k:=7) J J)) (aD J J (ac J (au J) (ac J (ah t3 J J (ay (k:=2) J J)) (ac J (aR J J kW) (ac J (cC underlying3 underlying41 J (by first|exact cd (by omega)|rfl)) (ac J (Pp J J) av)))))))))))) J J J J J J J J J (fun _ _=>J) J (jw (k:=1) (α:=Ba×Int) (kf:=Prod.fst) (vf:=vQ) (kid.name,wU (-(4*((gDs (l.take i) p).2+1)))) (fc (gDs (l.take i) p).1 kid.name (wU (-(4*((gDs (l.take i) p).2+1))))) underlying108 fp J J J J (List.Perm.refl _)) (fun _ _=>bl [] J J av J J J ?_));refine aJ () O J (by rw [hqe];rfl) J
   ·(try simp only [bj]at h2);have hk:¬kid.kind=1:=h2;rw [ae hk]at hve;have hqe:q=gDs (l.take i) p:=by rw [hq,ae hk]
    refine az (aJ () O J (by rw [hqe];rfl) J)
  ·refine ap (ad J (aC ft J (aQ 7 iP J J J J (ad J (aZ 0 11 J (gS hkm) (aj (xs:= [.tmp 34,.tmp 36,.tmp 37]) (ihb kid hkm q (by omega) (by omega)) NO [0,1,2] [(false,11)] [0,1,2] (fun _ _=>aa (am (ad J (aC fq J (aQ 7 iP J J J J (ad J (aZ 0 11 J (iO hkm) (aj (xs:= [.tmp 39,.tmp 41,.tmp 42]) (ihe kid hkm (gDs kid.body q) (by rw [qI];omega) (by rw [qI];omega)) NO [0,1,2] [(false,11)] [0,1,2] (fun _ _=>aa (am (aw J J aO (ad J ?_))))))))))))))))));refine aa ?_;refine aJ (i+1) ⟨by omega,by omega⟩ J (by rw [yz p hkid,GH,←hq];rfl) J
 ·(try simp only [bj]at h1);have hi:i=l.length:=by omega
  subst hi;rw [cS];refine bF (cm () O J gn J [0,1,2] [] J J J)
theorem sV(g:Nat)(vp:SV)(ms mo mq:Nat)(en:Int)(s:Qg)(cb:Nat):∀(n:Nat)(v:SV)(l:List Ty),SizeOf.sizeOf l<n→GYs l→l.length≤1000000→∀p:Om×Int,0≤p.2→p.2+dg l≤1000000→bi prog 94 [Pt g,sv v,Pt cb] [gA (⟨g,vp,ms,some mo,mq,en⟩:Ga) s,mp gV Prod.fst vQ (some mo) (p).1,bh cb 3 [I6 (p).2]] [bV v l] (.tuple #[]) [gA (⟨g,vp,ms,some mo,mq,en⟩:Ga) s,mp gV Prod.fst vQ (some mo) (gDs l p).1,bh cb 3 [I6 (gDs l p).2]]
 | 0,_,_,h,_,_=>absurd h (Nat.not_lt_zero _)
 | n+1,v,l,h,hg,hl=>fun p h0 hn=>DR g vp ms mo mq en s cb v l hl (fun u hu p h0 hn=>by
   have hlt:=List.sizeOf_lt_of_mem hu;have hgu:=hg.mem u hu;have hb:SizeOf.sizeOf u.body<SizeOf.sizeOf u:=by cases u;simp [Ty.body];omega
   exact sV g vp ms mo mq en s cb n u.vb u.body (by omega) (eW hgu).2 (eW hgu).1 p h0 hn) (fun u hu p h0 hn=>by
   have hlt:=List.sizeOf_lt_of_mem hu;have hgu:=hg.mem u hu;have hb:SizeOf.sizeOf u.els<SizeOf.sizeOf u:=by cases u;simp [Ty.els];omega
   exact sV g vp ms mo mq en s cb n u.vl u.els (by omega) (gk hgu).2 (gk hgu).1 p h0 hn) p h0 hn
theorem DS(g:Nat)(vp:SV)(ms mo mq:Nat)(en:Int)(s:Qg)(cb:Nat)(v:SV)(l:List Ty)(hg:GYs l)(hl:l.length≤1000000)(p:Om×Int)(h0:0≤p.2)(hn:p.2+dg l≤1000000):bi prog 94 [Pt g,sv v,Pt cb] [gA (⟨g,vp,ms,some mo,mq,en⟩:Ga) s,mp gV Prod.fst vQ (some mo) (p).1,bh cb 3 [I6 (p).2]] [bV v l] (.tuple #[]) [gA (⟨g,vp,ms,some mo,mq,en⟩:Ga) s,mp gV Prod.fst vQ (some mo) (gDs l p).1,bh cb 3 [I6 (gDs l p).2]]:=sV g vp ms mo mq en s cb _ v l (Nat.lt_succ_self _) hg hl p h0 hn
section
variable{P:Program}{N:Nat}{w0:World}{M H:Nat→Prop}{E:fv}{Γ R:ey}
theorem we(k:Nat)(ns:List Nat){e:Ga}{s:Qg}{Rel:Act→World→Prop}(hk:ci Γ k=some (gA e s))(hns:ns.Nodup)(hl:ns.length=4)
  (h:∀vc vf vl,At N w0 M H E (fV ns [bh e.g 111 (gR e.vp vc vf vl e.ms e.mo e.mp e.en),own 118 5 ja (sv vc) s.code,own 171 2 xj (sv vf) s.fixes,own 3 1 eI (sv vl) s.labs] (fW [k] Γ)) R Rel):At N w0 M H E Γ R Rel:=
 Fh k ns hk hns (fun _=>hl) fun x=>h x.1 x.2.1 x.2.2
theorem wd(k:Nat)(ks:List Nat)(e:Ga)(s:Qg)(vc vf vl:SV){Rel:Act→World→Prop}(hL:eR Γ ks=dr [bh e.g 111 (gR e.vp vc vf vl e.ms e.mo e.mp e.en),own 118 5 ja (sv vc) s.code,own 171 2 xj (sv vf) s.fixes,own 3 1 eI (sv vl) s.labs])(hks:ks.Nodup)
  (h:At N w0 M H E ((k,gA e s)::fW ks Γ) R Rel):At N w0 M H E Γ R Rel:=Mn (f:=fun x:SV×SV×SV=> [bh e.g 111 (gR e.vp x.1 x.2.1 x.2.2 e.ms e.mo e.mp e.en),own 118 5 ja (sv x.1) s.code,own 171 2 xj (sv x.2.1) s.fixes,own 3 1 eI (sv x.2.2) s.labs]) k ks (vc,vf,vl) hL hks h
end
theorem B6(n:Int):∀(l:List Ba)(k:Int)(x:Ba)(o:Om),gP n k (l++ [x]) o=fc (gP n k l o) x (8+4*(n-1-(k+l.length)))
 | [],k,x,o=>by
  show fc o x (8+4*(n-1-k))=fc o x (8+4*(n-1-(k+((0:Nat):Int))));rw [show k+((0:Nat):Int)=k by omega]
 | y::l,k,x,o=>by
  show gP n (k+1) (l++ [x]) _=fc (gP n (k+1) l _) x _;rw [B6 n l (k+1) x];rw [show k+1+(l.length:Int)=k+(((y::l).length:Nat):Int) by rw [bP];omega]
theorem JA{n:Int}{l:List Ba}{i:Nat}{x:Ba}(o:Om)(h:l[i]?=some x):gP n 0 (l.take (i+1)) o=fc (gP n 0 (l.take i) o) x (8+4*(n-1-(i:Int))):=by
 obtain⟨hi,-⟩:=cJ.1 h;rw [cj h,B6,List.length_take,Nat.min_eq_left (by omega),show(0:Int)+(i:Int)=i by omega]
theorem i6:∀(n:Nat)(s:Qg),d5 (n+1) s=(d5 n s).push 0
 | 0,s=>rfl
 | n+1,s=>i6 n (s.push 0)
theorem c8:∀(n:Nat)(s:Qg),(d5 n s).sz=s.sz+2*n
 | 0,s=>rfl
 | n+1,s=>by
  rw [i6,da,c8 n];omega
theorem lp:∀(n:Nat)(s:Qg),(d5 n s).labs=s.labs
 | 0,s=>rfl
 | n+1,s=>by
  rw [i6];exact lp n s
mutual
theorem OM:∀t:Ty,vY t≤nY t
 | .mk k nm ve es vb body vl els=>by
  have h1:=od body;have h2:=od els;show(if k=1 then 1 else 0)+dg body+dg els≤1+dW es+cB body+cB els;split<;>omega
theorem od:∀l:List Ty,dg l≤cB l
 | []=>bX _
 | t::r=>by
  have h1:=OM t;have h2:=od r;show vY t+dg r≤nY t+cB r;omega
end
theorem eT(s:Qg):s.lab.labs.length=s.labs.length+1:=by
 show(s.labs++ [0]).length=_;rw [bG,cE]
theorem eF(s:Qg)(l:Int):(s.place l).labs.length=s.labs.length:=by
 show(s.labs.set _ _).length=_;rw [List.length_set]
theorem B7(f:Tf):(dF f).2=(dg f.body:Int):=by
 show(gDs f.body (gP f.ps.length 0 f.ps [],0)).2=_;rw [qI];show(0:Int)+_=_;omega
theorem PV(sm:Om)(f:Tf)(s:Qg):(gF sm f s).sz≤s.sz+24*cB f.body+60:=by
 have h1:=kB (dF f).1 sm ((s.labs.length:Int)+1) f.body (d5 (dF f).2.toNat ((((((((((s.lab.lab).place (bM sm f.name)).emit [qi 16 12 12 1]).emit [qi 16 2 0 12]).jump 35 2 12 s.labs.length).emit [⟨49,0,0,0,0⟩]).place s.labs.length).push 15).push 13).emit [q3 1 13 14 0]));have h2:=od f.body;have h3:=B7 f;simp only [bL,da,dY,cu,b_,ca,c8,bP,bK]at h1;show((((((((iE (dF f).1 sm ((s.labs.length:Int)+1) f.body (d5 (dF f).2.toNat _)).emit [q3 1 1 0 0]).place ((s.labs.length:Int)+1)).emit [q3 1 14 13 0]).pop 13).pop 15).emit [qi 16 12 12 4294967295]).emit [qi 27 0 15 0]).sz≤_;simp only [bL,da,dY,cu,b_,ca,bP,bK];omega
theorem DP(e:Ga)(c:Oq)(sm:Om)(hm:e.mp=c.m)(f:Tf)(hr:lK f.body=true)(hg:GF f)(s:Qg)(hst:0≤bM sm f.name∧bM sm f.name<s.labs.length)(hz:s.sz+24*cB f.body+100≤780000):
  Spec prog 54 [Pt e.g,Iq f] [gA e s] [Bn f,jv e.g c,mp gV Prod.fst vI (some e.ms) sm] (X:=Nat) (fun _=>True) (fun _=> .tuple #[]) (fun b=> [gA ({e with mo:=some b,en:=((s.labs.length:Nat):Int)+1}:Ga) (gF sm f s)]) (fun _=> []):=by
 refine aI func54 J ntmps54 J fun w0 M H=> ?_
 have hpl:=hg.2.2.1;have hbl:=hg.2.2.2.1;have hgn:=hg.2.2.2.2.2;have hvn:=od f.body;have hon:=B7 f;obtain⟨nv,hnv⟩:∃nv,nv=(dF f).2.toNat:=⟨_,J⟩
 have hnl:(s.lab.labs.length:Int)=((s.labs.length:Nat):Int)+1:=by rw [eT];omega
 refine aZ 0 3 J ma (aZ 0 4 J k8 (ap (ck J J fun b3=>aF J (ad J (mH (Prod.fst:Ba×Int→Ba) gV vQ J fun b8=>bI J (aC mX J (we 0 [0,21,22,23] J (by decide) J fun vc vf vl=>aA (k:=0) Da J J J J J J J J (wd 0 [0,21,22,23] ({e with mo:=some b8}:Ga) s vc vf vl J (by decide) (aa (aT (aC d6 J ?_)))))))))));refine aQ 3 gO J J J J (aP (aS underlying46 J (aK (k:=3) J)) (ad J (aa (aB (bC (X:=Nat) (fun i=>i≤f.ps.length) (fun i=> [(0,Pt e.g),(3,Pt b3),(13,I6 (f.ps.length:Int)),(14,I6 (i:Int))]) (fun i=> [(0,gA ({e with mo:=some b8}:Ga) s),(3,bh b3 66 (ip f)),(8,mp gV Prod.fst vQ (some b8) (gP (f.ps.length:Int) 0 (f.ps.take i) []))]) (fun i=> [(0,Bn f),(1,jv e.g c),(2,mp gV Prod.fst vI (some e.ms) sm),(3,sl 1 eS (sv f.vp) f.ps),(4,bV f.vb f.body)]) (fun i=>f.ps.length-i) 0 (br _) J J J (fun i n1=>ap (aw J J cr (aa (a_ (ai J (fun h1=> ?_) (fun h1=> ?_)))))))))))
 ·(try simp only [bj]at h1);have hi:i<f.ps.length:=by omega
  obtain⟨x,hx⟩:∃x,f.ps[i]?=some x:=⟨_,bN hi⟩
  refine az (a_ (aB (ap (ad J (ak J (aa ?_))))));refine bJ [17,18,19,20,21,22,23,24,25,26,27,28,29,30,31,32,33,34] _ J (bE (V:= [(0,17,_),(1,18,_),(2,19,_),(3,20,_),(4,21,_),(5,22,_),(6,23,_),(7,24,_),(8,25,_),(9,26,_),(10,27,_),(11,28,_),(12,29,_),(13,30,_),(14,31,_),(15,32,_),(16,33,_),(17,34,_)]) [0,1,2,3,4,5,6,7,8,9,10,11,12,13,14,15,16,17] 18 [18,17,16,15,14,13,12,11,10,9,8,7,6,5,4,3,2,1,0] [] (fun _=> []) J J (aD J J (ac J (au J) (ac J (ag mX J) (ac J (ah Da J J (qb (k:=0) J (fun _=>J) J)) (ac J (ag d6 J) (ac J (ah gO J J (ay (k:=3) J J)) (aD J J (ac J (aN (j:=i) underlying46 t9 J J (aK (k:=3) J) (by first|rfl|omega) (by first|omega|(simp;done)|(simp;omega))) (ac J (ah t9 J J (bA (aK (k:=3) J) (by intro _;rfl) hx (by rfl))) (ac J (ag d6 J) (ac J (ah gO J J (ay (k:=3) J J)) (ac J (aS underlying46 J (aK (k:=3) J)) (ac J (aR J J ew) (aD J J (ac J (aR J J ew) (ac J (aR J J kW) (ac J (aR J J aO) (ac J (cC underlying3 underlying41 J (by first|exact cd (by omega)|rfl)) av)))))))))))))))))) J J J J J J J J J (fun _ _=>J) J (jw (k:=8) (α:=Ba×Int) (kf:=Prod.fst) (vf:=vQ) (x,8+4*((f.ps.length:Int)-1-i)) (fc (gP (f.ps.length:Int) 0 (f.ps.take i) []) x (8+4*((f.ps.length:Int)-1-i))) underlying108 fp J J J J (List.Perm.refl _)) (fun _ _=>bl [] J J av J J J ?_));refine am (aw J J aO (ad J (aa ?_)));refine aJ (i+1) ⟨by omega,by omega⟩ J (by rw [JA [] hx];rfl) J
 ·(try simp only [bj]at h1);have hi:i=f.ps.length:=by omega
  subst hi;refine bF (ap (aY t3 J J fun b5=>aA (k:=5) t3 J J J J J J J J (aa (a_ ?_))));rw [cS];refine am (ad J (aC jl J (aQ 3 iP J J J J (db (xs:= [.tmp 36,.tmp 38,.tmp 5]) (DS e.g e.vp e.ms b8 e.mp e.en s b5 f.vb f.body hg.2.2.2.2.1 hbl (gP (f.ps.length:Int) 0 f.ps [],0) (Int.le_refl _) (by dsimp only;omega)) NO [0,8,5] [(false,4)] [0,8,5] J J J (fun _ _=> ?_)))));obtain⟨om,hom⟩:∃om,om=(dF f).1:=⟨_,J⟩
  refine aF J (ad J (aj (xs:= [.tmp 40]) (fO ({e with mo:=some b8}:Ga) (s) (by omega)) xd [0] [] [0] (fun _ _=>ak J (aF J (ad J (ad J (aj (xs:= [.tmp 43]) (fO ({e with mo:=some b8}:Ga) ((s).lab) (by(try simp only [bL,da,dY,dO,cu,b_,ca,c8,bP,bK]);omega)) xd [0] [] [0] (fun _ _=> ?_))))))));rw [hnl];refine bI J (aC wW J (we 0 [0,21,22,23] J (by decide) J fun vc vf vl=>aA (k:=0) t3 J J J J J J J J (wd 0 [0,21,22,23] ({e with mo:=some b8,en:=((s.labs.length:Nat):Int)+1}:Ga) (((s).lab).lab) vc vf vl J (by decide) (aa (a_ ?_)))));refine bJ [47,48,49,50,51,52,53,54,55] _ J (aW (V:= [(0,47,_),(1,48,_),(2,49,_),(3,50,_),(4,51,_),(5,52,_),(6,53,_),(7,54,_)]) [0,1,2,3,4,5,6,7] 8 [8,7,6,5,4,3,2,1,0] [] (fun _=> []) J J (aD J J (aD J J (ac J (au J) (ac J (ag oZ J) (ac J (ah EM J J (qb (k:=0) J (fun _=>J) J)) (ac J (ag kC J) (ac J (ah t9 J J (ay (k:=3) J J)) (ac J (Fy underlying105 fp t3 J J (uS (k:=2) J)) av)))))))) J J J J J J J J J J J (fun _ _=>J) J (bB (xs:= [.tmp 47,.tmp 54]) (eK ({e with mo:=some b8,en:=((s.labs.length:Nat):Int)+1}:Ga) (((s).lab).lab) (by(try simp only [bL,da,dY,dO,cu,b_,ca,c8,bP,bK]);omega) (bM sm f.name) ⟨hst.1,by rw [eT,eT];omega⟩) tE [0] [] [0]) (fun _ _=>bl [] J J av J J J ?_))
  refine ap (ad J (aj (xs:= [.tmp 56,.const (I6 16),.const (I6 12),.const (I6 12),.const (I3 1)]) (dw ({e with mo:=some b8,en:=((s.labs.length:Nat):Int)+1}:Ga) ((((s).lab).lab).place (bM sm f.name)) (by(try simp only [bL,da,dY,dO,cu,b_,ca,c8,bP,bK]);omega) 16 12 12 1) kb [0] [] [0] (fun _ _=>aF J (ad J (aj (xs:= [.tmp 58,.const (I6 16),.const (I6 2),.const (I6 0),.const (I3 12)]) (dw ({e with mo:=some b8,en:=((s.labs.length:Nat):Int)+1}:Ga) (((((s).lab).lab).place (bM sm f.name)).emit [qi 16 12 12 1]) (by(try simp only [bL,da,dY,dO,cu,b_,ca,c8,bP,bK]);omega) 16 2 0 12) kb [0] [] [0] (fun _ _=>aF J (ad J (ad J (aj (xs:= [.tmp 60,.const (I6 35),.const (I6 2),.const (I6 12),.tmp 61]) (fZ ({e with mo:=some b8,en:=((s.labs.length:Nat):Int)+1}:Ga) ((((((s).lab).lab).place (bM sm f.name)).emit [qi 16 12 12 1]).emit [qi 16 2 0 12]) (by(try simp only [bL,da,dY,dO,cu,b_,ca,c8,bP,bK]);omega) 35 2 12 ((s.labs.length:Nat):Int)) uv [0] [] [0] (fun _ _=>aF J (ad J (aP (aU (parts:= [(0,.const (I6 49))]) fA nr J J) ?_))))))))))));refine bq ja ⟨49,0,0,0,0⟩ underlying106 fA J (by decide) (by decide) J J J J fun v65=>cQ 65 7 J bO (aj (xs:= [.tmp 63,.tmp 65]) (iM ({e with mo:=some b8,en:=((s.labs.length:Nat):Int)+1}:Ga) (((((((s).lab).lab).place (bM sm f.name)).emit [qi 16 12 12 1]).emit [qi 16 2 0 12]).jump 35 2 12 ((s.labs.length:Nat):Int)) (by(try simp only [bL,da,dY,dO,cu,b_,ca,c8,bP,bK]);omega) v65 [⟨49,0,0,0,0⟩] (by simp)) yR [0] [(false,7)] [0] (fun _ _=>aF J (ad J (ad J ?_))))
  refine dh (xs:= [.tmp 67,.tmp 68]) (eK ({e with mo:=some b8,en:=((s.labs.length:Nat):Int)+1}:Ga) ((((((((s).lab).lab).place (bM sm f.name)).emit [qi 16 12 12 1]).emit [qi 16 2 0 12]).jump 35 2 12 ((s.labs.length:Nat):Int)).emit [⟨49,0,0,0,0⟩]) (by(try simp only [bL,da,dY,dO,cu,b_,ca,c8,bP,bK]);omega) ((s.labs.length:Nat):Int) ⟨by omega,by show _<(((((((s).lab).lab).place (bM sm f.name)).labs.length:Nat)):Int);rw [eF,eT,eT];omega⟩) tE [0] [] [0] J J J J J J J J (fun _ _=>J) (fun _ _ _=>J) J (fun _ _=> ?_);refine aF J (ad J (aj (xs:= [.tmp 70,.const (I6 15)]) (jC ({e with mo:=some b8,en:=((s.labs.length:Nat):Int)+1}:Ga) (((((((((s).lab).lab).place (bM sm f.name)).emit [qi 16 12 12 1]).emit [qi 16 2 0 12]).jump 35 2 12 ((s.labs.length:Nat):Int)).emit [⟨49,0,0,0,0⟩]).place ((s.labs.length:Nat):Int)) (by(try simp only [bL,da,dY,dO,cu,b_,ca,c8,bP,bK]);omega) 15) D5 [0] [] [0] (fun _ _=>aF J (ad J (aj (xs:= [.tmp 72,.const (I6 13)]) (jC ({e with mo:=some b8,en:=((s.labs.length:Nat):Int)+1}:Ga) ((((((((((s).lab).lab).place (bM sm f.name)).emit [qi 16 12 12 1]).emit [qi 16 2 0 12]).jump 35 2 12 ((s.labs.length:Nat):Int)).emit [⟨49,0,0,0,0⟩]).place ((s.labs.length:Nat):Int)).push 15) (by(try simp only [bL,da,dY,dO,cu,b_,ca,c8,bP,bK]);omega) 13) D5 [0] [] [0] (fun _ _=>aF J (ad J (aj (xs:= [.tmp 74,.const (I6 1),.const (I6 13),.const (I6 14),.const (I6 0)]) (dG ({e with mo:=some b8,en:=((s.labs.length:Nat):Int)+1}:Ga) (((((((((((s).lab).lab).place (bM sm f.name)).emit [qi 16 12 12 1]).emit [qi 16 2 0 12]).jump 35 2 12 ((s.labs.length:Nat):Int)).emit [⟨49,0,0,0,0⟩]).place ((s.labs.length:Nat):Int)).push 15).push 13) (by(try simp only [bL,da,dY,dO,cu,b_,ca,c8,bP,bK]);omega) 1 13 14 0) nU [0] [] [0] (fun _ _=>aa (aT (aQ 5 t3 J J J J ?_)))))))))));refine ad J (aa (aB ?_));have hnc:((gDs f.body (gP (f.ps.length:Int) 0 f.ps [],0)).2:Int)=(nv:Int):=by
   have:(dF f).2=(nv:Int):=by omega
   exact this
  rw [hnc];refine bC (X:=Nat) (fun i=>i≤nv) (fun i=> [(0,Pt e.g),(3,Pt b3),(76,I6 (nv:Int)),(77,I6 (i:Int))]) (fun i=> [(0,gA ({e with mo:=some b8,en:=((s.labs.length:Nat):Int)+1}:Ga) (d5 i ((((((((((((s).lab).lab).place (bM sm f.name)).emit [qi 16 12 12 1]).emit [qi 16 2 0 12]).jump 35 2 12 ((s.labs.length:Nat):Int)).emit [⟨49,0,0,0,0⟩]).place ((s.labs.length:Nat):Int)).push 15).push 13).emit [q3 1 13 14 0]))),(3,bh b3 66 (ip f)),(8,mp gV Prod.fst vQ (some b8) om)]) (fun i=> [(0,Bn f),(1,jv e.g c),(2,mp gV Prod.fst vI (some e.ms) sm),(3,sl 1 eS (sv f.vp) f.ps),(4,bV f.vb f.body)]) (fun i=>nv-i) 0 (br _) J (by rw [hom];rfl) J (fun i n1=>ap (aw J J cr (aa (a_ (ai J (fun h2=> ?_) (fun h2=> ?_))))))
  ·(try simp only [bj]at h2);have hi:i<nv:=by omega
   refine az (a_ (aB (am (ad J (aj (xs:= [.tmp 79,.const (I6 0)]) (jC ({e with mo:=some b8,en:=((s.labs.length:Nat):Int)+1}:Ga) (d5 i ((((((((((((s).lab).lab).place (bM sm f.name)).emit [qi 16 12 12 1]).emit [qi 16 2 0 12]).jump 35 2 12 ((s.labs.length:Nat):Int)).emit [⟨49,0,0,0,0⟩]).place ((s.labs.length:Nat):Int)).push 15).push 13).emit [q3 1 13 14 0])) (by(try simp only [bL,da,dY,dO,cu,b_,ca,c8,bP,bK]);omega) 0) D5 [0] [] [0] (fun _ _=>aa (am (aw J J aO (ad J (aa ?_))))))))));refine aJ (i+1) ⟨by omega,by omega⟩ J (by rw [i6];rfl) J
  ·(try simp only [bj]at h2);have hi:nv=i:=by omega
   subst hi;refine bF (ap (ad J (aC jl J (aQ 3 iP J J J J (dh (xs:= [.tmp 82,.tmp 84]) (Gt ({e with mo:=some b8,en:=((s.labs.length:Nat):Int)+1}:Ga) c om sm hm (by dsimp only;omega) f.vb f.body hr hg.2.2.2.2.1 hbl (d5 nv ((((((((((((s).lab).lab).place (bM sm f.name)).emit [qi 16 12 12 1]).emit [qi 16 2 0 12]).jump 35 2 12 ((s.labs.length:Nat):Int)).emit [⟨49,0,0,0,0⟩]).place ((s.labs.length:Nat):Int)).push 15).push 13).emit [q3 1 13 14 0])) (by(try simp only [bL,da,dY,dO,cu,b_,ca,c8,bP,bK]);omega)) He [0] [(false,4),(false,1),(true,8),(false,2)] [0] J J J J J (by rw [hom];rfl) J J (fun _ _=>J) (fun _ _ _=>J) J (fun _ _=> ?_))))));have hbz:=kB om sm (((s.labs.length:Nat):Int)+1) f.body (d5 nv ((((((((((((s).lab).lab).place (bM sm f.name)).emit [qi 16 12 12 1]).emit [qi 16 2 0 12]).jump 35 2 12 ((s.labs.length:Nat):Int)).emit [⟨49,0,0,0,0⟩]).place ((s.labs.length:Nat):Int)).push 15).push 13).emit [q3 1 13 14 0]));simp only [bL,da,dY,dO,cu,b_,ca,c8,bP,bK]at hbz;have hbl2:=kq om sm (((s.labs.length:Nat):Int)+1) f.body (d5 nv ((((((((((((s).lab).lab).place (bM sm f.name)).emit [qi 16 12 12 1]).emit [qi 16 2 0 12]).jump 35 2 12 ((s.labs.length:Nat):Int)).emit [⟨49,0,0,0,0⟩]).place ((s.labs.length:Nat):Int)).push 15).push 13).emit [q3 1 13 14 0]));rw [lp]at hbl2;have hbl3:((((((((((((s).lab).lab).place (bM sm f.name)).emit [qi 16 12 12 1]).emit [qi 16 2 0 12]).jump 35 2 12 ((s.labs.length:Nat):Int)).emit [⟨49,0,0,0,0⟩]).place ((s.labs.length:Nat):Int)).push 15).push 13).emit [q3 1 13 14 0]).labs.length=s.labs.length+2:=by
    show(((((((((s).lab).lab).place (bM sm f.name)).emit [qi 16 12 12 1]).emit [qi 16 2 0 12]).jump 35 2 12 ((s.labs.length:Nat):Int)).emit [⟨49,0,0,0,0⟩]).place ((s.labs.length:Nat):Int)).labs.length=_;rw [eF];show((((s).lab).lab).place (bM sm f.name)).labs.length=_;rw [eF,eT,eT]
   refine aF J (ad J (aj (xs:= [.tmp 86,.const (I6 1),.const (I6 1),.const (I6 0),.const (I6 0)]) (dG ({e with mo:=some b8,en:=((s.labs.length:Nat):Int)+1}:Ga) (iE om sm (((s.labs.length:Nat):Int)+1) f.body (d5 nv ((((((((((((s).lab).lab).place (bM sm f.name)).emit [qi 16 12 12 1]).emit [qi 16 2 0 12]).jump 35 2 12 ((s.labs.length:Nat):Int)).emit [⟨49,0,0,0,0⟩]).place ((s.labs.length:Nat):Int)).push 15).push 13).emit [q3 1 13 14 0]))) (by(try simp only [bL,da,dY,dO,cu,b_,ca,c8,bP,bK]);omega) 1 1 0 0) nU [0] [] [0] (fun _ _=>aF J (ad J (ad J (bI J (aC wW J (aP (ah t3 J J (qb (k:=0) J (fun _=>J) J)) ?_))))))));refine dh (xs:= [.tmp 88,.tmp 92]) (eK ({e with mo:=some b8,en:=((s.labs.length:Nat):Int)+1}:Ga) ((iE om sm (((s.labs.length:Nat):Int)+1) f.body (d5 nv ((((((((((((s).lab).lab).place (bM sm f.name)).emit [qi 16 12 12 1]).emit [qi 16 2 0 12]).jump 35 2 12 ((s.labs.length:Nat):Int)).emit [⟨49,0,0,0,0⟩]).place ((s.labs.length:Nat):Int)).push 15).push 13).emit [q3 1 13 14 0]))).emit [q3 1 1 0 0]) (by(try simp only [bL,da,dY,dO,cu,b_,ca,c8,bP,bK]);omega) (((s.labs.length:Nat):Int)+1) ⟨by omega,by show _<((((iE om sm (((s.labs.length:Nat):Int)+1) f.body (d5 nv ((((((((((((s).lab).lab).place (bM sm f.name)).emit [qi 16 12 12 1]).emit [qi 16 2 0 12]).jump 35 2 12 ((s.labs.length:Nat):Int)).emit [⟨49,0,0,0,0⟩]).place ((s.labs.length:Nat):Int)).push 15).push 13).emit [q3 1 13 14 0]))).labs.length:Nat)):Int);omega⟩) tE [0] [] [0] J J J J J J J J (fun _ _=>J) (fun _ _ _=>J) J (fun _ _=> ?_)
   refine aF J (ad J (aj (xs:= [.tmp 94,.const (I6 1),.const (I6 14),.const (I6 13),.const (I6 0)]) (dG ({e with mo:=some b8,en:=((s.labs.length:Nat):Int)+1}:Ga) (((iE om sm (((s.labs.length:Nat):Int)+1) f.body (d5 nv ((((((((((((s).lab).lab).place (bM sm f.name)).emit [qi 16 12 12 1]).emit [qi 16 2 0 12]).jump 35 2 12 ((s.labs.length:Nat):Int)).emit [⟨49,0,0,0,0⟩]).place ((s.labs.length:Nat):Int)).push 15).push 13).emit [q3 1 13 14 0]))).emit [q3 1 1 0 0]).place (((s.labs.length:Nat):Int)+1)) (by(try simp only [bL,da,dY,dO,cu,b_,ca,c8,bP,bK]);omega) 1 14 13 0) nU [0] [] [0] (fun _ _=>aF J (ad J (aj (xs:= [.tmp 96,.const (I6 13)]) (ot ({e with mo:=some b8,en:=((s.labs.length:Nat):Int)+1}:Ga) ((((iE om sm (((s.labs.length:Nat):Int)+1) f.body (d5 nv ((((((((((((s).lab).lab).place (bM sm f.name)).emit [qi 16 12 12 1]).emit [qi 16 2 0 12]).jump 35 2 12 ((s.labs.length:Nat):Int)).emit [⟨49,0,0,0,0⟩]).place ((s.labs.length:Nat):Int)).push 15).push 13).emit [q3 1 13 14 0]))).emit [q3 1 1 0 0]).place (((s.labs.length:Nat):Int)+1)).emit [q3 1 14 13 0]) (by(try simp only [bL,da,dY,dO,cu,b_,ca,c8,bP,bK]);omega) 13) Kb [0] [] [0] (fun _ _=>aF J (ad J (aj (xs:= [.tmp 98,.const (I6 15)]) (ot ({e with mo:=some b8,en:=((s.labs.length:Nat):Int)+1}:Ga) (((((iE om sm (((s.labs.length:Nat):Int)+1) f.body (d5 nv ((((((((((((s).lab).lab).place (bM sm f.name)).emit [qi 16 12 12 1]).emit [qi 16 2 0 12]).jump 35 2 12 ((s.labs.length:Nat):Int)).emit [⟨49,0,0,0,0⟩]).place ((s.labs.length:Nat):Int)).push 15).push 13).emit [q3 1 13 14 0]))).emit [q3 1 1 0 0]).place (((s.labs.length:Nat):Int)+1)).emit [q3 1 14 13 0]).pop 13) (by(try simp only [bL,da,dY,dO,cu,b_,ca,c8,bP,bK]);omega) 15) Kb [0] [] [0] (fun _ _=> ?_)))))))))
   refine aF J (ad J (aj (xs:= [.tmp 100,.const (I6 16),.const (I6 12),.const (I6 12),.const (I3 4294967295)]) (dw ({e with mo:=some b8,en:=((s.labs.length:Nat):Int)+1}:Ga) ((((((iE om sm (((s.labs.length:Nat):Int)+1) f.body (d5 nv ((((((((((((s).lab).lab).place (bM sm f.name)).emit [qi 16 12 12 1]).emit [qi 16 2 0 12]).jump 35 2 12 ((s.labs.length:Nat):Int)).emit [⟨49,0,0,0,0⟩]).place ((s.labs.length:Nat):Int)).push 15).push 13).emit [q3 1 13 14 0]))).emit [q3 1 1 0 0]).place (((s.labs.length:Nat):Int)+1)).emit [q3 1 14 13 0]).pop 13).pop 15) (by(try simp only [bL,da,dY,dO,cu,b_,ca,c8,bP,bK]);omega) 16 12 12 4294967295) kb [0] [] [0] (fun _ _=>aa (am (ad J (aj (xs:= [.tmp 102,.const (I6 27),.const (I6 0),.const (I6 15),.const (I3 0)]) (dw ({e with mo:=some b8,en:=((s.labs.length:Nat):Int)+1}:Ga) (((((((iE om sm (((s.labs.length:Nat):Int)+1) f.body (d5 nv ((((((((((((s).lab).lab).place (bM sm f.name)).emit [qi 16 12 12 1]).emit [qi 16 2 0 12]).jump 35 2 12 ((s.labs.length:Nat):Int)).emit [⟨49,0,0,0,0⟩]).place ((s.labs.length:Nat):Int)).push 15).push 13).emit [q3 1 13 14 0]))).emit [q3 1 1 0 0]).place (((s.labs.length:Nat):Int)+1)).emit [q3 1 14 13 0]).pop 13).pop 15).emit [qi 16 12 12 4294967295]) (by(try simp only [bL,da,dY,dO,cu,b_,ca,c8,bP,bK]);omega) 27 0 15 0) kb [0] [] [0] (fun _ _=>aa (cm b8 O J gn J [0] [] J (by rw [hom,hnv];rfl) J))))))))
structure okG(s:Qg):Prop where
 fx:∀p∈s.fixes,(0≤p.1∧p.1<s.code.length)∧(0≤p.2∧p.2<s.labs.length)
 im:∀q∈s.code,oW q.imm
theorem okG.emit{s:Qg}(h:okG s){l:List Qi}(hl:∀q∈l,oW q.imm):okG (s.emit l):=by
 refine⟨fun p hp=> ?_,fun q hq=> ?_⟩
 ·have:=h.fx p hp;show(_∧p.1<((s.code++l).length:Int))∧(_∧p.2<(s.labs.length:Int));rw [bG];omega
 ·rcases List.mem_append.1 hq with hq|hq
  ·exact h.im q hq
  ·exact hl q hq
theorem okG.lab{s:Qg}(h:okG s):okG s.lab:=by
 refine⟨fun p hp=> ?_,h.im⟩;have:=h.fx p hp;rw [eT];exact⟨this.1,this.2.1,by omega⟩
theorem okG.place{s:Qg}(h:okG s)(l:Int):okG (s.place l):=by
 refine⟨fun p hp=> ?_,h.im⟩;have:=h.fx p hp;rw [eF];exact this
theorem okG.jump{s:Qg}(h:okG s)(op d a:Int){l:Int}(hl:0≤l∧l<s.labs.length):okG (s.jump op d a l):=by
 refine⟨fun p hp=> ?_,fun q hq=> ?_⟩
 ·show(_∧p.1<((s.code++ [qi op d a 0]).length:Int))∧(_∧p.2<(s.labs.length:Int));rw [bG,cE];rcases List.mem_append.1 hp with hp|hp
  ·have:=h.fx p hp;omega
  ·rw [List.mem_singleton.1 hp];dsimp only;omega
 ·rcases List.mem_append.1 hq with hq|hq
  ·exact h.im q hq
  ·rw [List.mem_singleton.1 hq];exact m_
theorem TF{q:Qi}(h:oW q.imm):∀x∈ [q],oW x.imm:=fun x hx=>by rw [List.mem_singleton.1 hx];exact h
theorem okG.one{s:Qg}(h:okG s){q:Qi}(hq:oW q.imm):okG (s.emit [q]):=h.emit (TF hq)
theorem okG.push{s:Qg}(h:okG s)(r:Int):okG (s.push r):=(h.one (q:=qi 16 14 14 4294967292) ⟨by decide,by decide⟩).one (q:=qi 25 r 14 0) m_
theorem okG.pop{s:Qg}(h:okG s)(r:Int):okG (s.pop r):=(h.one (q:=qi 23 r 14 0) m_).one (q:=qi 16 14 14 4) ⟨by decide,by decide⟩
theorem okG.elem{s:Qg}(h:okG s)(r:Int):okG (s.elem r):=(h.one (q:=qi 17 r r 255) (show oW 255 from⟨by decide,by decide⟩)).one (q:=qi 20 r r 2) (show oW 2 from⟨by decide,by decide⟩)
theorem okG.ite{c:Prop} [Decidable c]{a b:Qg}(h1:okG a)(h2:okG b):okG (if c then a else b):=by split;exact h1;exact h2
theorem okG.op{s:Qg}(h:okG s)(o:Ba):okG (qT o s):=by
 have w1:oW 1:=⟨by decide,by decide⟩
 have t:∀{s:Qg},okG s→∀op d a b,okG (s.emit [q3 op d a b]):=fun h op d a b=>h.one m_
 have i1:∀{s:Qg},okG s→okG (s.emit [qi 19 1 1 1]):=fun h=>h.one w1
 have l2:(s.labs.length:Int)<s.lab.labs.length:=by rw [eT];omega
 unfold qT
 repeat' (refine okG.ite ?_ ?_)
 ·exact t h _ _ _ _
 ·exact t h _ _ _ _
 ·exact t h _ _ _ _
 ·exact t h _ _ _ _
 ·exact t h _ _ _ _
 ·exact t h _ _ _ _
 ·exact t h _ _ _ _
 ·exact t h _ _ _ _
 ·exact t h _ _ _ _
 ·exact t h _ _ _ _
 ·exact i1 (t h _ _ _ _)
 ·exact i1 (t h _ _ _ _)
 ·exact t (t h _ _ _ _) _ _ _ _
 ·exact i1 (t (t h _ _ _ _) _ _ _ _)
 ·exact(t (h.lab.jump 32 1 0 ⟨by omega,l2⟩) _ _ _ _).place _
 ·exact t ((t (t ((t h.lab _ _ _ _).jump 32 1 0 (l:=(s.labs.length:Int)) ⟨by omega,l2⟩) _ _ _ _) _ _ _ _).place _) _ _ _ _
 ·exact h
theorem okG.un{s:Qg}(h:okG s)(o:Ba):okG (Gz o s):=by
 unfold Gz
 repeat' (refine okG.ite ?_ ?_)
 ·exact h.one m_
 ·exact(h.one (q:=qi 16 2 0 4294967295) ⟨by decide,by decide⟩).one m_
 ·exact(h.one (q:=qi 16 2 0 1) ⟨by decide,by decide⟩).one m_
 ·exact h
theorem okG.num{s:Qg}(h:okG s){n:Int}(hn:oW n):okG (s6 n s):=by
 have h1:=hn.1;have h2:=hn.2;unfold s6;refine okG.ite (h.one hn) (h.emit fun q hq=> ?_);simp only [List.mem_cons,List.not_mem_nil,or_false]at hq;rcases hq with rfl|rfl
 ·show oW (n/1024);exact⟨by omega,by omega⟩
 ·show oW (n%1024);exact⟨by omega,by omega⟩
structure okL(o st:Om)(k:Nat):Prop where
 o:∀x,oW (bM o x)
 st:∀x,0≤bM st x∧bM st x<k
mutual
theorem Ld{o st:Om}{k:Nat}(hk:okL o st k):∀(t:Tx)(s:Qg),GX t→k≤s.labs.length→okG s→okG (gX o st t s)
 | .mk kd n nm v kids,s,hg,hs,h=>by
  have h0:=AA hk kids s hg.2.2.2 hs h;have l0:=B3 o st kids s;have h1:=Gy hk kids ((mP o st kids s).push 1) hg.2.2.2 (by show k≤(mP o st kids s).labs.length;omega) (h0.push 1);have h2:=Gw hk kids s hg.2.2.2 hs h;have l2:s.labs.length≤(uU o st kids s).labs.length:=(wK (K:=fun _=>False) (S:=fun _=>0) (fun _ h=>h.elim) kids s).labs_le;have hst:=hk.st nm;have hkl:=hg.2.2.1;unfold gX;refine okG.ite (h.num hg.1) (okG.ite (h.one (q:=qi 23 1 13 (bM o nm)) (hk.o nm)) (okG.ite (h.one (q:=⟨48,0,0,0,2⟩) ⟨by decide,by decide⟩) (okG.ite ((h0.elem 1).one (q:=qi 23 1 1 8192) ⟨by decide,by decide⟩) (okG.ite (h0.un nm) (okG.ite ((h1.pop 2).op nm) (okG.ite ?_ h))))));have hj:=h2.jump 40 15 0 (l:=bM st nm) ⟨hst.1,by omega⟩;refine okG.ite (hj.one (q:=qi 16 14 14 (4*kids.length)) ?_) hj;show oW (4*(kids.length:Int));exact⟨by omega,by omega⟩
theorem AA{o st:Om}{k:Nat}(hk:okL o st k):∀(l:List Tx)(s:Qg),GXs l→k≤s.labs.length→okG s→okG (mP o st l s)
 | [],s,_,_,h=>h
 | t::_,s,hg,hs,h=>Ld hk t s hg.1 hs h
theorem Gy{o st:Om}{k:Nat}(hk:okL o st k):∀(l:List Tx)(s:Qg),GXs l→k≤s.labs.length→okG s→okG (On o st l s)
 | [],s,_,_,h=>h
 | _::r,s,hg,hs,h=>AA hk r s hg.2 hs h
theorem Gw{o st:Om}{k:Nat}(hk:okL o st k):∀(l:List Tx)(s:Qg),GXs l→k≤s.labs.length→okG s→okG (uU o st l s)
 | [],s,_,_,h=>h
 | t::r,s,hg,hs,h=>Gw hk r _ hg.2 (by have:=Gx o st t s;show k≤(gX o st t s).labs.length;omega) ((Ld hk t s hg.1 hs h).push 1)
end
mutual
theorem PS{o st:Om}{k:Nat}(hk:okL o st k){en:Int}(he:0≤en∧en<k):∀(t:Ty)(s:Qg),GY t→k≤s.labs.length→okG s→okG (gY o st en t s)
 | .mk kd nm ve es vb body vl els,s,hg,hs,h=>by
  have hs0:k≤((s.lab.place s.labs.length)).labs.length:=by rw [eF,eT];omega
  have hl0:s.labs.length<((s.lab.place s.labs.length)).labs.length:=by rw [eF,eT];omega
  have h0:=AA hk es _ hg.2.1.2 hs0 (h.lab.place s.labs.length);have l0:=B3 o st es (s.lab.place s.labs.length);have h1:=Gy hk es ((mP o st es (s.lab.place s.labs.length)).push 1) hg.2.1.2 (by show k≤(mP o st es _).labs.length;omega) (h0.push 1);unfold gY;dsimp only;generalize mP o st es (s.lab.place s.labs.length)=s1 at h0 l0 h1;refine okG.ite (h0.one (q:=qi 25 1 13 (bM o nm)) (hk.o nm)) (okG.ite (((h1.pop 2).elem 2).one (q:=qi 25 1 2 8192) ⟨by decide,by decide⟩) (okG.ite (h0.one (q:=⟨48,0,0,0,1⟩) ⟨by decide,by decide⟩) (okG.ite (h0.jump 40 0 0 ⟨he.1,by omega⟩) (okG.ite ?_ (okG.ite ?_ h0)))))
  ·have e2:(s1.lab.lab).labs.length=s1.labs.length+2:=by rw [eT,eT]
   have h2:=sX hk he body _ hg.2.2.1.2 (by show k≤(s1.lab.lab).labs.length;omega) (h0.lab.lab.jump 32 1 0 (l:=(s1.labs.length:Int)) ⟨by omega,by omega⟩);have l2:=kq o st en body ((s1.lab.lab).jump 32 1 0 s1.labs.length);have l2':(s1.lab.lab).labs.length≤_:=l2;have h3:okG (if els.length>0 then(iE o st en body ((s1.lab.lab).jump 32 1 0 s1.labs.length)).jump 40 0 0 ((s1.labs.length:Int)+1)else iE o st en body ((s1.lab.lab).jump 32 1 0 s1.labs.length)):=okG.ite (h2.jump 40 0 0 ⟨by omega,by omega⟩) h2;have l3:k≤(if els.length>0 then(iE o st en body ((s1.lab.lab).jump 32 1 0 s1.labs.length)).jump 40 0 0 ((s1.labs.length:Int)+1)else iE o st en body ((s1.lab.lab).jump 32 1 0 s1.labs.length)).labs.length:=by
    split
    ·show k≤(iE o st en body _).labs.length;omega
    ·omega
   exact(sX hk he els _ hg.2.2.2.2 (by rw [eF];exact l3) (h3.place _)).place _
  ·have e2:(s1.lab).labs.length=s1.labs.length+1:=eT s1;have h2:=sX hk he body _ hg.2.2.1.2 (by show k≤(s1.lab).labs.length;omega) (h0.lab.jump 32 1 0 (l:=(s1.labs.length:Int)) ⟨by omega,by omega⟩);have l2:=kq o st en body ((s1.lab).jump 32 1 0 s1.labs.length);have l2':(s1.lab).labs.length≤_:=l2;exact(h2.jump 40 0 0 (l:=(s.labs.length:Int)) ⟨by omega,by omega⟩).place _
theorem sX{o st:Om}{k:Nat}(hk:okL o st k){en:Int}(he:0≤en∧en<k):∀(l:List Ty)(s:Qg),GYs l→k≤s.labs.length→okG s→okG (iE o st en l s)
 | [],s,_,_,h=>h
 | t::r,s,hg,hs,h=>sX hk he r _ hg.2 (by
   have:=(Gv (K:=fun _=>False) (S:=fun _=>0) (E:=0) t s (fun _ h=>h.elim) (fun _ h=>h.elim):Res (fun _=>False) s (gY o st en t s) _).labs_le;omega) (PS hk he t s hg.1 hs h)
end
theorem iv(o:Om)(x y:Ba)(n:Int):bM (fc o x n) y=if x=y then n else bM o y:=by
 unfold bM fc;rw [List.find?_cons];by_cases h:x=y
 ·rw [ar h];simp only [decide_eq_true h]
 ·rw [ae h];simp only [decide_eq_false h]
  induction o with
  | nil=>rfl
  | cons p r ih=>
   rw [List.filter_cons];by_cases hp:p.1=x
   ·rw [ae (by simp [hp]),ih,List.find?_cons];simp only [decide_eq_false (show ¬p.1=y from fun e=>h (hp.symm.trans e))]
   ·rw [ar (by simp [hp]),List.find?_cons,List.find?_cons];by_cases hy:p.1=y
    ·simp only [decide_eq_true hy]
    ·simp only [decide_eq_false hy];exact ih
def pW:List Tf→Ba→Nat
 | [],_=>0
 | f::r,x=>if f.name=x then 0 else pW r x+1
theorem B5:∀(fs:List Tf)(p:Om×Qg)(x:Ba),(fs.map Tf.name).Nodup→(x∈fs.map Tf.name→bM (pz fs p).1 x=((p.2.labs.length+pW fs x:Nat):Int))∧(x∉fs.map Tf.name→bM (pz fs p).1 x=bM p.1 x)
 | [],p,x,_=>⟨fun h=>by simp at h,fun _=>rfl⟩
 | f::r,p,x,h=>by
  rw [List.map_cons,List.nodup_cons]at h;unfold pz;obtain⟨i1,i2⟩:=B5 r (fc p.1 f.name p.2.labs.length,p.2.lab) x h.2;have hl:(p.2.lab).labs.length=p.2.labs.length+1:=by
   show(p.2.labs++ [0]).length=_;rw [bG,cE]
  rw [hl]at i1;by_cases hx:x∈r.map Tf.name
  ·have hf:¬f.name=x:=fun e=>h.1 (by rw [e];exact hx)
   refine⟨fun _=> ?_,fun hn=>absurd (List.mem_cons_of_mem _ hx) hn⟩;rw [i1 hx,show pW (f::r) x=pW r x+1 from ae hf]
   congr 1
   omega
  ·rw [i2 hx];show(_→bM (fc p.1 f.name (p.2.labs.length:Int)) x=_)∧(_→bM (fc p.1 f.name (p.2.labs.length:Int)) x=_);rw [iv];by_cases hf:f.name=x
   ·rw [ar hf];refine⟨fun _=> ?_,fun hn=>absurd (by rw [List.map_cons,hf];exact List.mem_cons_self) hn⟩;unfold pW;rw [ar hf];rfl
   ·rw [ae hf];refine⟨fun hn=> ?_,fun _=>J⟩;rw [List.map_cons,List.mem_cons]at hn;exact absurd (hn.resolve_left fun e=>hf e.symm) hx
theorem yw:∀(fs:List Tf)(p:Om×Qg),(pz fs p).2={p.2 with labs:=p.2.labs++List.replicate fs.length 0}
 | [],p=>by
  show p.2={p.2 with labs:=p.2.labs++ []};rw [List.append_nil]
 | f::r,p=>by
  unfold pz;rw [yw r];show Qg.mk _ _ ((p.2.labs++ [0])++List.replicate r.length 0)=_;rw [List.append_assoc];rfl
theorem wn:∀(fs:List Tf)(x:Ba),x∈fs.map Tf.name→pW fs x<fs.length
 | [],x,h=>by simp at h
 | f::r,x,h=>by
  unfold pW;split
  ·simp
  ·have:=wn r x ((List.mem_cons.1 h).resolve_left fun e=>by subst e;contradiction);simp only [bP];omega
theorem xW:∀(fs:List Tf)(x y:Ba),x∈fs.map Tf.name→y∈fs.map Tf.name→pW fs x=pW fs y→x=y
 | [],x,_,h,_,_=>by simp at h
 | f::r,x,y,hx,hy,he=>by
  unfold pW at he;by_cases h1:f.name=x
  ·by_cases h2:f.name=y
   ·rw [←h1,h2]
   ·rw [ar h1,ae h2]at he;omega
  ·by_cases h2:f.name=y
   ·rw [ae h1,ar h2]at he;omega
   ·rw [ae h1,ae h2]at he;exact xW r x y ((List.mem_cons.1 hx).resolve_left fun e=>h1 e.symm) ((List.mem_cons.1 hy).resolve_left fun e=>h2 e.symm) (by omega)
theorem oh(st:Om):∀(fs:List Tf)(p:Nat)(l:List Int)(k:Nat),(∀f∈fs,(bM st f.name).toNat≠k)→(ep st fs p l)[k]?=l[k]?
 | [],_,_,_,_=>rfl
 | f::r,p,l,k,h=>by
  unfold ep;rw [oh st r _ _ k fun g hg=>h g (by simp [hg]),List.getElem?_set_ne (h f (by simp))]
theorem si(st:Om):∀(fs:List Tf)(p:Nat)(l:List Int)(x:Ba),(fs.map Tf.name).Nodup→(∀a∈fs.map Tf.name,∀b∈fs.map Tf.name,(bM st a).toNat=(bM st b).toNat→a=b)→
  (∀a∈fs.map Tf.name,(bM st a).toNat<l.length)→x∈fs.map Tf.name→(ep st fs p l)[(bM st x).toNat]?=some (iU fs p x)
 | [],_,_,x,_,_,_,h=>by simp at h
 | f::r,p,l,x,hn,hi,hl,hx=>by
  rw [List.map_cons,List.nodup_cons]at hn;unfold ep iU;by_cases hf:f.name=x
  ·rw [ar hf,oh st r _ _ _ fun g hg e=>hn.1 (by
    have hm:g.name∈(f::r).map Tf.name:=List.mem_map_of_mem (by simp [hg]);have:=hi g.name hm x hx e;rw [hf,←this];exact List.mem_map_of_mem hg),hf,List.getElem?_set_self (hl x hx)]
  ·rw [ae hf];exact si st r _ _ x hn.2 (fun a ha b hb=>hi a (List.mem_cons_of_mem _ ha) b (List.mem_cons_of_mem _ hb)) (fun a ha=>by rw [List.length_set];exact hl a (List.mem_cons_of_mem _ ha)) ((List.mem_cons.1 hx).resolve_left fun e=>hf e.symm)
theorem yy(labs:List Int):∀(fs:List (Int×Int))(l:List Qi),oQ labs fs l=tN (fun i=>labs.getD i.toNat 0) 0 fs l
 | [],l=>rfl
 | f::r,l=>by
  unfold oQ tN;rw [Nat.sub_zero];exact yy labs r _
theorem A_:∀(fs:List Tf)(p:Nat)(x:Ba),x∉fs.map Tf.name→iU fs p x=3
 | [],_,_,_=>rfl
 | f::r,p,x,h=>by
  rw [List.map_cons,List.mem_cons]at h;unfold iU;rw [ae fun e=>h (Or.inl e.symm)];exact A_ r _ x fun e=>h (Or.inr e)
theorem wM(fs:List Tf)(hn:(fs.map Tf.name).Nodup)(h0:fs≠ []):gJ fs=jY fs:=by
 obtain⟨st,hst⟩:∃st,st=(pz fs ([],⟨[],[],[]⟩)).1:=⟨_,J⟩
 have ho:∀x,x∉fs.map Tf.name→bM st x=0:=fun x hx=>by
  rw [hst,(B5 fs _ x hn).2 hx];rfl
 have hm:∀x∈fs.map Tf.name,(bM st x).toNat=pW fs x:=fun x hx=>by
  rw [hst,(B5 fs _ x hn).1 hx];show((0+pW fs x:Nat):Int).toNat=_;rw [Nat.zero_add,Int.toNat_natCast]
 obtain⟨s0,hs0⟩:∃s0,s0=(pz fs ([],⟨[],[],[]⟩)).2:=⟨_,J⟩
 have e0:s0=⟨[],[],List.replicate fs.length 0⟩:=by
  rw [hs0,yw];rfl
 obtain⟨s1,hs1⟩:∃s1:Qg,s1=((s0.emit [qi 16 14 0 16384]).jump 40 15 0 (bM st dM)).emit [⟨48,0,0,0,0⟩]:=⟨_,J⟩
 have hA:AD fs=s_ st fs s1:=by
  rw [hs1,hs0,hst];rfl
 have c1:s1.code.length=3:=by rw [hs1,e0];rfl
 have l1:s1.labs=List.replicate fs.length 0:=by rw [hs1,e0];rfl
 obtain⟨S,hS⟩:∃S,S=iU fs 3:=⟨_,J⟩
 have hlt:∀f∈fs,(bM st f.name).toNat<s1.labs.length:=fun f hf=>by
  have hx:f.name∈fs.map Tf.name:=List.mem_map_of_mem hf;rw [hm _ hx,l1,List.length_replicate];exact wn fs _ hx
 have g2:=B9 (K:=fun L=>∀x,L (bM st x)=S x) (S:=S) (fun L h=>h) fs s1 hlt;rw [c1]at g2;have g1:Res (fun L=>∀x,L (bM st x)=S x) {s0 with labs:=ep st fs 3 s1.labs} {s1 with labs:=ep st fs 3 s1.labs} [qi 16 14 0 16384,qi 40 15 0 (wU (S dM-1)),⟨48,0,0,0,0⟩]:=by
  rw [hs1];refine(((Res.emit _ [_]).seq (Res.jump _ 40 15 0 (bM st dM) _ fun L hL=> ?_)).seq (Res.emit _ [_]));rw [hL dM];show wU (_-(((s0.code++ [_]).length:Nat):Int))=_;rw [e0];rfl
 obtain⟨raw,fx,ls,a1,a2,a3,a4,a5,a6⟩:=(g1.seq g2).ex;unfold gJ;rw [hA,yy,a1,a3];have hc:s0.code= []:=by rw [e0]
 have hf:s0.fixes= []:=by rw [e0]
 show tN _ 0 (s0.fixes++fx) (s0.code++raw)=jY fs;rw [hc,hf,List.nil_append,List.nil_append];have hcl:s0.code.length=0:=by rw [hc];rfl
 have hget:∀x∈fs.map Tf.name,(ep st fs 3 s1.labs)[(bM st x).toNat]?=some (iU fs 3 x):=fun x hx=>
  si st fs 3 s1.labs x hn (fun a ha b hb e=>xW fs a b ha hb (by rw [←hm a ha,←hm b hb];exact e)) (fun a ha=>by
   obtain⟨f,hf,rfl⟩:=List.mem_map.1 ha;exact hlt f hf) hx
 have a6':=a6 (fun i=>(s_ st fs s1).labs.getD i.toNat 0) (fun x=> ?_) (fun i n hi=> ?_)
 ·rw [show({s0 with labs:=ep st fs 3 s1.labs}:Qg).code.length=0 from hcl]at a6';rw [a6',hS];rfl
 ·show(s_ st fs s1).labs.getD (bM st x).toNat 0=S x;rw [a4,hS];show(ep st fs 3 s1.labs++ls).getD _ 0=_;have hlen:∀y∈fs.map Tf.name,(bM st y).toNat<(ep st fs 3 s1.labs).length:=fun y hy=>by
   rw [ny];obtain⟨f,hf,rfl⟩:=List.mem_map.1 hy;exact hlt f hf
  by_cases hx:x∈fs.map Tf.name
  ·rw [List.getD_eq_getElem?_getD,List.getElem?_append_left (hlen x hx),hget x hx];rfl
  ·rw [A_ fs 3 x hx,ho x hx];cases fs with
   | nil=>exact absurd rfl h0
   | cons f r=>
    have hy:f.name∈(f::r).map Tf.name:=by simp
    have h3:=hget f.name hy;have h4:=hlen f.name hy;have h5:(bM st f.name).toNat=0:=by
     rw [hm _ hy];unfold pW;rw [ar J]
    rw [h5]at h3 h4;rw [List.getD_eq_getElem?_getD,show(0:Int).toNat=0 from J,List.getElem?_append_left h4,h3];unfold iU;rw [ar J];rfl
 ·show(s_ st fs s1).labs.getD (((ep st fs 3 s1.labs).length+i:Nat):Int).toNat 0=n;rw [a4];show(ep st fs 3 s1.labs++ls).getD _ 0=_;rw [Int.toNat_natCast,List.getD_eq_getElem?_getD,List.getElem?_append_right (by omega),show(ep st fs 3 s1.labs).length+i-(ep st fs 3 s1.labs).length=i by omega,hi];rfl
def okO(o:Om):Prop:=∀x,oW (bM o x)
theorem okO.put{o:Om}(h:okO o)(x:Ba){n:Int}(hn:oW n):okO (fc o x n):=fun y=>by
 rw [iv];split
 ·exact hn
 ·exact h y
theorem okO.nil:okO []:=fun _=>m_
theorem okO.gP{n:Int}(hn:n≤1000000):∀(l:List Ba)(k:Int)(o:Om),okO o→0≤k→k+l.length≤n→okO (gP n k l o)
 | [],k,o,h,_,_=>h
 | p::r,k,o,h,hk,hl=>by
  rw [bP]at hl;exact okO.gP hn r (k+1) _ (h.put p ⟨by omega,by omega⟩) (by omega) (by omega)
mutual
theorem okO.gD:∀(t:Ty)(p:Om×Int),okO p.1→okO (gD t p).1
 | .mk k nm ve es vb body vl els,p,h=>by
  rw [GH];refine okO.gDs els _ (okO.gDs body _ ?_);show okO (if k=1 then _ else p).1;split
  ·exact h.put nm (sI _)
  ·exact h
theorem okO.gDs:∀(l:List Ty)(p:Om×Int),okO p.1→okO (gDs l p).1
 | [],p,h=>h
 | t::r,p,h=>okO.gDs r _ (okO.gD t p h)
end
theorem okO.offs{f:Tf}(hg:GF f):okO (dF f).1:=okO.gDs f.body _ (okO.gP (by have:=hg.2.2.1;omega) f.ps 0 [] okO.nil (Int.le_refl _) (by omega))
theorem okG.push0:∀(n:Nat){s:Qg},okG s→okG (d5 n s)
 | 0,s,h=>h
 | n+1,s,h=>by
  rw [i6];exact(okG.push0 n h).push 0
theorem PW{st:Om}{f:Tf}{s:Qg}(hg:GF f)(hst:∀x,0≤bM st x∧bM st x<s.labs.length)(h:okG s):okG (gF st f s):=by
 have e2:(s.lab.lab).labs.length=s.labs.length+2:=by rw [eT,eT]
 have h1:=(((h.lab.lab.place (bM st f.name)).one (q:=qi 16 12 12 1) ⟨by decide,by decide⟩).one (q:=qi 16 2 0 12) ⟨by decide,by decide⟩).jump 35 2 12 (l:=(s.labs.length:Int)) ⟨by omega,by show(s.labs.length:Int)<((s.lab.lab).place (bM st f.name)).labs.length;rw [eF];omega⟩;have h2:=(h1.one (q:=⟨49,0,0,0,0⟩) m_).place s.labs.length;have h3:=((((h2.push 15).push 13).one (q:=q3 1 13 14 0) m_).push0 (dF f).2.toNat)
 have l3:(d5 (dF f).2.toNat ((((((((((s.lab.lab).place (bM st f.name)).emit [qi 16 12 12 1]).emit [qi 16 2 0 12]).jump 35 2 12 s.labs.length).emit [⟨49,0,0,0,0⟩]).place s.labs.length).push 15).push 13).emit [q3 1 13 14 0])).labs.length=s.labs.length+2:=by
  rw [lp];show(((((((s.lab.lab).place (bM st f.name)).emit [qi 16 12 12 1]).emit [qi 16 2 0 12]).jump 35 2 12 s.labs.length).emit [⟨49,0,0,0,0⟩]).place s.labs.length).labs.length=_;rw [eF];show((s.lab.lab).place (bM st f.name)).labs.length=_;rw [eF,e2]
 have h4:=sX (o:=(dF f).1) (st:=st) (k:=s.labs.length+2) ⟨okO.offs hg,fun x=>by have:=hst x;omega⟩ (en:=(s.labs.length:Int)+1) ⟨by omega,by omega⟩ f.body _ hg.2.2.2.2.1 (by rw [l3];exact bX _) h3;exact(((((((h4.one (q:=q3 1 1 0 0) m_).place _).one (q:=q3 1 14 13 0) m_).pop 13).pop 15).one (q:=qi 16 12 12 4294967295) ⟨by decide,by decide⟩).one (q:=qi 27 0 15 0) m_)
theorem GG(st:Om)(f:Tf)(s:Qg):s.labs.length≤(gF st f s).labs.length:=by
 have h1:=kq (dF f).1 st ((s.labs.length:Int)+1) f.body (d5 (dF f).2.toNat ((((((((((s.lab.lab).place (bM st f.name)).emit [qi 16 12 12 1]).emit [qi 16 2 0 12]).jump 35 2 12 s.labs.length).emit [⟨49,0,0,0,0⟩]).place s.labs.length).push 15).push 13).emit [q3 1 13 14 0]));rw [lp]at h1;have h2:s.labs.length+2≤(iE (dF f).1 st ((s.labs.length:Int)+1) f.body (d5 (dF f).2.toNat ((((((((((s.lab.lab).place (bM st f.name)).emit [qi 16 12 12 1]).emit [qi 16 2 0 12]).jump 35 2 12 s.labs.length).emit [⟨49,0,0,0,0⟩]).place s.labs.length).push 15).push 13).emit [q3 1 13 14 0]))).labs.length:=by
  refine Nat.le_trans ?_ h1;show _≤(((((((s.lab.lab).place (bM st f.name)).emit [qi 16 12 12 1]).emit [qi 16 2 0 12]).jump 35 2 12 s.labs.length).emit [⟨49,0,0,0,0⟩]).place s.labs.length).labs.length;rw [eF];show _≤((s.lab.lab).place (bM st f.name)).labs.length;rw [eF,eT,eT];exact bX _
 show _≤(((iE (dF f).1 st ((s.labs.length:Int)+1) f.body _).emit [q3 1 1 0 0]).place ((s.labs.length:Int)+1)).labs.length;rw [eF];exact Nat.le_trans (Nat.le_add_right _ 2) h2
theorem GE{st:Om}:∀(l:List Tf)(s:Qg),(∀f∈l,GF f)→(∀x,0≤bM st x∧bM st x<s.labs.length)→okG s→okG (s_ st l s)
 | [],s,_,_,h=>h
 | f::r,s,hg,hst,h=>GE r _ (fun g hm=>hg g (by simp [hm])) (fun x=>by have:=hst x;have:=GG st f s;omega) (PW (hg f (by simp)) hst h)
theorem GA{fs:List Tf}(hn:(fs.map Tf.name).Nodup)(h0:fs≠ [])(x:Ba):0≤bM (pz fs ([],⟨[],[],[]⟩)).1 x∧bM (pz fs ([],⟨[],[],[]⟩)).1 x<fs.length:=by
 have hl:0<fs.length:=by cases fs with|nil=>exact absurd J h0|cons _ _=>simp
 obtain⟨h1,h2⟩:=B5 fs ([],⟨[],[],[]⟩) x hn;by_cases hx:x∈fs.map Tf.name
 ·have:=wn fs x hx;rw [h1 hx];simp only [bK];omega
 ·rw [h2 hx];show(0:Int)≤0∧(0:Int)<_;omega
theorem JG{fs:List Tf}(hg:GP fs)(hn:(fs.map Tf.name).Nodup)(h0:fs≠ []):okG (AD fs):=by
 have hb:=GA hn h0;have hs:=yw fs ([],⟨[],[],[]⟩);have hl:(pz fs ([],⟨[],[],[]⟩)).2.labs.length=fs.length:=by
  rw [hs];simp
 have ok0:okG (pz fs ([],⟨[],[],[]⟩)).2:=by
  rw [hs];exact⟨fun p hp=>by simp at hp,fun q hq=>by simp at hq⟩
 have h1:=((ok0.one (q:=qi 16 14 0 16384) ⟨by decide,by decide⟩).jump 40 15 0 (l:=bM (pz fs ([],⟨[],[],[]⟩)).1 dM) ⟨(hb dM).1,by show _<((pz fs ([],⟨[],[],[]⟩)).2.labs.length:Int);rw [hl];exact(hb dM).2⟩).one (q:=⟨48,0,0,0,0⟩) m_;exact GE fs _ hg.2 (fun x=>by
  show _∧_<((pz fs ([],⟨[],[],[]⟩)).2.labs.length:Int);rw [hl];exact hb x) h1
theorem uG:∀(l:List Qi)(k:Nat)(n:Int),oW n→(∀q∈l,oW q.imm)→∀q∈iG l k n,oW q.imm
 | [],_,_,_,h=>h
 | i::l,0,n,hn,h=>fun q hq=>by
  rcases List.mem_cons.1 hq with rfl|hq
  ·exact hn
  ·exact h q (by simp [hq])
 | i::l,k+1,n,hn,h=>fun q hq=>by
  rcases List.mem_cons.1 hq with rfl|hq
  ·exact h q (by simp)
  ·exact uG l k n hn (fun q hq=>h q (by simp [hq])) q hq
theorem wL(labs:List Int):∀(fs:List (Int×Int))(l:List Qi),(∀q∈l,oW q.imm)→(∀q∈oQ labs fs l,oW q.imm)∧(oQ labs fs l).length=l.length
 | [],l,h=>⟨h,rfl⟩
 | p::r,l,h=>by
  obtain⟨h1,h2⟩:=wL labs r (iG l p.1.toNat (wU (labs.getD p.2.toNat 0-p.1))) (uG l _ _ (sI _) h);exact⟨h1,h2.trans (jH l _ _)⟩
theorem uV(labs:List Int):∀{fs:List (Int×Int)}{i:Nat}{f:Int×Int}(l:List Qi),fs[i]?=some f→oQ labs (fs.take (i+1)) l=iG (oQ labs (fs.take i) l) f.1.toNat (wU (labs.getD f.2.toNat 0-f.1))
 | [],i,f,l,h=>by simp at h
 | p::r,0,f,l,h=>by cases h;rfl
 | p::r,i+1,f,l,h=>uV labs (fs:=r) _ h
theorem sk:∀(l:List Qi)(k:Nat)(n:Int)(q:Qi),l[k]?=some q→iG l k n=l.set k {q with imm:=n}
 | [],k,n,q,h=>by simp at h
 | i::l,0,n,q,h=>by cases h;rfl
 | i::l,k+1,n,q,h=>congrArg (i:: ·) (sk l k n q h)
def eo(l:List Qi):List Int:=l.flatMap fun q=>fK (ur q)
theorem ga:∀l:List Qi,(eo l).length=4*l.length
 | []=>rfl
 | q::r=>by
  show(fK (ur q)++eo r).length=_;rw [bG,ga r,bP,show(fK (ur q)).length=4 from J];omega
theorem BB(n:Int):∀x∈fK n,0≤x∧x<256:=fun x hx=>by
 simp only [fK,List.mem_cons,List.not_mem_nil,or_false]at hx;rcases hx with rfl|rfl|rfl|rfl<;>omega
theorem tB(l:List Qi):∀x∈eo l,0≤x∧x<256:=fun x hx=>by
 obtain⟨q,_,hq⟩:=List.mem_flatMap.1 hx;exact BB _ x hq
theorem lA:∀l:List Int,(∀x∈l,0≤x∧x<256)→bv (lT l)=l:=by
 have h0:∀(l:List Int)(r:Ba),(l.foldl (fun r n=>r.push (UInt8.ofNat n.toNat)) r).data.toList=r.data.toList++l.map fun n=>UInt8.ofNat n.toNat:=by
  intro l
  induction l with
  | nil=>intro r;simp
  | cons n l ih=>intro r;rw [List.foldl_cons,ih];simp [ByteArray.push]
 intro l hl;unfold bv lT;rw [h0];simp only [List.map_append,List.map_map];show(ByteArray.empty.data.toList).map _++_=l;rw [show ByteArray.empty.data.toList= []from J,List.map_nil,List.nil_append];refine(List.map_congr_left (g:=id) fun n hn=> ?_).trans (List.map_id l);have:=hl n hn;show(((UInt8.ofNat n.toNat).toNat:Nat):Int)=n;rw [UInt8.toNat_ofNat'];omega
theorem AW{l:List Qi}{i:Nat}{q:Qi}(h:l[i]?=some q):eo (l.take (i+1))=eo (l.take i)++bv (lT (fK (ur q))):=by
 rw [cj h,lA _ (BB _)];unfold eo;rw [List.flatMap_append];simp
theorem LW(x:Int):IntKind.u32.wrap (IntKind.i64.wrap x)=wU x:=by
 unfold wU;simp only [IntKind.wrap_u32,IntKind.wrap_i64];omega
theorem yt(e:Ga)(s:Qg)(hs:okG s)(hz:s.sz≤240000)(hne:s.code≠ []):
  bi prog 55 [Pt e.g] [gA e s] [] (Sg (lT (eo (oQ s.labs s.fixes s.code)))) []:=by
 refine aI func55 J ntmps55 J fun w0 M H=> ?_
 unfold Qg.sz at hz;refine we 0 [0,21,22,23] J (by decide) J fun vc vf vl=>ap (ak J (aa (aT (ad J (bI J (aC rN J (aQ 0 It J J J J (aP (aS underlying107 J (be (k:=22) J)) (ad J (aa (aB (bC (X:=Nat) (fun i=>i≤s.fixes.length) (fun i=> [(0,Pt e.g),(2,Sg ⟨#[]⟩),(13,sv vf),(14,I6 (s.fixes.length:Int)),(15,I6 (i:Int))]) (fun i=> [(0,bh e.g 111 (gR e.vp vc vf vl e.ms e.mo e.mp e.en)),(21,own 118 5 ja (sv vc) (oQ s.labs (s.fixes.take i) s.code)),(22,own 171 2 xj (sv vf) s.fixes),(23,own 3 1 eI (sv vl) s.labs)]) (fun i=> []) (fun i=>s.fixes.length-i) 0 (br _) J J J (fun i n1=>ap (aw J J cr ?_))))))))))))))
 refine aa (a_ (ai J (fun h1=> ?_) (fun h1=> ?_)))
 ·(try simp only [bj]at h1);have hi:i<s.fixes.length:=by omega
  obtain⟨f,hf⟩:∃f,s.fixes[i]?=some f:=⟨_,bN hi⟩
  have hfx:=hs.fx f (bT hf);have hfl:(oQ s.labs (s.fixes.take i) s.code).length=s.code.length:=(wL s.labs (s.fixes.take i) s.code hs.im).2;obtain⟨q,hq⟩:∃q,(oQ s.labs (s.fixes.take i) s.code)[f.1.toNat]?=some q:=⟨_,bN (by rw [hfl];omega)⟩
  obtain⟨lb,hlb⟩:∃lb,s.labs[f.2.toNat]?=some lb:=⟨_,bN (by omega)⟩
  have hgd:s.labs.getD f.2.toNat 0=lb:=by rw [List.getD_eq_getElem?_getD,hlb];rfl
  refine az (a_ (aB (ap (aP (aN (j:=i) underlying107 zy J J (be (k:=22) J) (by first|rfl|omega) (by first|omega|(simp;done)|(simp;omega))) (aP (aM zy J J J (bA (be (k:=22) J) (by intro _;rfl) hf (by rfl))) (aY zy J J fun b4=>aq (k:=4) zy J J J J J J (aa ?_)))))));refine bJ [19,20,21,22,23,24,25,26,27,28,29,30,31,32,33,34,35,36,37,38] _ J (bE (V:= [(0,19,_),(1,20,_),(2,21,_),(3,22,_),(4,23,_),(5,24,_),(6,25,_),(7,26,_),(8,27,_),(9,28,_),(10,29,_),(11,30,_),(12,31,_),(13,32,_),(14,33,_),(15,34,_),(16,35,_),(17,36,_),(18,37,_),(19,38,_)]) [0,1,2,3,4,5,6,7,8,9,10,11,12,13,14,15,16,17,18,19] 20 [20,19,18,17,16,15,14,13,12,11,10,9,8,7,6,5,4,3,2,1,0] [] (fun _=> []) J J (aD J J (ac J (au J) (ac J (ag mY J) (ac J (ah Db J J (ay (k:=0) J J)) (ac J (ag Cr J) (ac J (ah t3 J J (ay (k:=4) J J)) (aD J J (ac J (au J) (ac J (ag o8 J) (ac J (ah EL J J (ay (k:=0) J J)) (ac J (ag JX J) (ac J (ah t3 J J (ay (k:=4) J J)) (ac J (aN (j:=f.2.toNat) underlying22 t3 J J (be (k:=23) J) (by omega) (by omega)) (ac J (ah t3 J J (bA (be (k:=23) J) (by intro _;rfl) hlb (by rfl))) (ac J (ag Cr J) (ac J (ah t3 J J (ay (k:=4) J J)) (ac J (aR J J (gu J)) (ac J (cC underlying3 underlying41 J (LW _)) (ac J (aN (j:=f.1.toNat) underlying106 fA J J (be (k:=21) J) (by omega) (by rw [hfl];omega)) (ac J (ek d9 J) av)))))))))))))))))))) J J J J J J J J J (fun _ _=>J) J (oE (k:=21) (o:=4) (e':={q with imm:=wU (lb-f.1)}) dm J J J J J J (by intro _;rfl) hq (by show _+1≤_;decide) J) (fun _ _=>bl [] J J av J J J ?_));refine am (aw J J aO (ad J (aa ?_)));refine aJ (i+1) ⟨by omega,by omega⟩ J (by rw [uV s.labs s.code hf,sk _ _ _ q hq,hgd];rfl) J
 ·(try simp only [bj]at h1);have hi:i=s.fixes.length:=by omega
  subst hi;refine bF (a_ ?_);rw [cS];obtain⟨C,hC⟩:∃C,C=oQ s.labs s.fixes s.code:=⟨_,J⟩
  rw [←hC];have hCo:=wL s.labs s.fixes s.code hs.im;rw [←hC]at hCo;have hCl:=hCo.2;refine am (aY Ir J J fun b5=>aa (aT (ad J (bI J (aC mY J (aQ 0 Db J J J J (aP (aS underlying106 J (be (k:=21) J)) (ad J (aa (aB (cZ 31 (α:=Int) (S:=5) (s:=1) (enc:=co) (bC (X:=Nat×Option Addr×SV) (fun x=>x.1≤C.length∧(x.2.1=none∨x.2.1=some ⟨b5,0,none⟩)) (fun x=> [(0,Pt e.g),(2,Sg ⟨#[]⟩),(5,Pt b5),(43,sv vc),(44,I6 (C.length:Int)),(45,I6 (x.1:Int))]) (fun x=> [(0,bh e.g 111 (gR e.vp vc vf vl e.ms e.mo e.mp e.en)),(21,own 118 5 ja (sv vc) C),(5,bh b5 177 [.pointer x.2.1,sv x.2.2]),(31,own 5 1 co (sv x.2.2) (eo (C.take x.1)))]) (fun x=> []) (fun x=>C.length-x.1) (0,none,bk) ⟨br _,.inl J⟩ J J J (fun x hx0=>ap (aw J J cr (aa ?_)))))))))))))));refine a_ (ai J (fun h2=> ?_) (fun h2=> ?_))
  ·(try simp only [bj]at h2);have hi:x.1<C.length:=by omega
   obtain⟨q,hq⟩:∃q,C[x.1]?=some q:=⟨_,bN hi⟩
   have hqi:=hCo.1 q (bT hq);have hcl:=ga (C.take x.1);have htl:=List.length_take (i:=x.1) (l:=C);have hps:(lT (fK (ur q))).size=4:=by rw [iw];rfl
   refine az (a_ (aB (ap (aP (aN (j:=x.1) underlying106 fA J J (be (k:=21) J) (by first|rfl|omega) (by first|omega|(simp;done)|(simp;omega))) (aP (aM fA J J J (bA (be (k:=21) J) (by intro _;rfl) hq (by rfl))) (aY fA J J fun b7=>aq (k:=7) fA J J J J J J (aF J (aP (aM fA J J J (aX (k:=7) J)) (aj (xs:= [.tmp 50]) (yG q hqi) Tb [] [] [] (fun _ _=>ad J (aP (cG J J) (aP (cG J J) (ak J (ak J (aa ?_)))))))))))))));refine am (ad J (aj (xs:= [.tmp 54,.const (I6 4)]) (Fm (ur q) (NE q)) Rf [] [] [] (fun _ _=>aj (xs:= [.tmp 5,.tmp 55]) (C3 b5 x.2.1 hx0.2 x.2.2 (eo (C.take x.1)) (lT (fK (ur q))) (by omega)) Ta [5,31] [] [5,31] (fun v56 _=>aa (am (aw J J aO (ad J (aa ?_))))))));refine aJ (x.1+1,some ⟨b5,0,none⟩,v56) ⟨⟨by dsimp only;omega,.inr rfl⟩,by dsimp only;omega⟩ J (by dsimp only;rw [AW hq];rfl) J
  ·(try simp only [bj]at h2);have hi:x.1=C.length:=by omega
   rw [hi,cS];refine bF (ap (aj (xs:= [.tmp 5]) (D_ b5 x.2.1 x.2.2 (eo C) (by intro h;have:=ga C;rw [h]at this;simp at this;exact hne (List.length_eq_zero_iff.1 (by omega))) (tB C)) Rd [5,31] [] [5] (fun _ _=>ak J (aa (ax (aH () O J (bQ (aL J)) (by rw [hC]) [] [] J J J))))))
end Go.Proofs.YtedmdgbmdplifaaGreat
