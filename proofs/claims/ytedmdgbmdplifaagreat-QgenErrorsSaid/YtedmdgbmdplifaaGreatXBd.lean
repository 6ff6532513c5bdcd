/-
  A part of the proof. Conditions are with the theorems.
-/
import Derived.Test.YtedmdgbmdplifaaGreatXBa
import Derived.Test.YtedmdgbmdplifaaGreatXBb
import Derived.Test.YtedmdgbmdplifaaGreatXBc
set_option maxHeartbeats 32000000
set_option maxRecDepth 100000
set_option linter.unusedSimpArgs false
set_option linter.unusedVariables false
namespace Go.Proofs.YtedmdgbmdplifaaGreat
open Go.RowKit Tryz
theorem Jt{s:Ba}{i:Nat}(h:i<s.size):(bx s)[i]?=some ((bx s).getD i 0):=by
 have hl:=iK s;rw [List.getD_eq_getElem?_getD,bT (by omega)];rfl
theorem J8{d:List Int}{k:Nat}{x:Int}(h:d.length≤k):d.set k x=d:=List.set_eq_of_length_le h
theorem MO.dd{s:Mm}{n:Nat}(h:MO s n){d:List Int}(hd:d.length=s.d.length):MO {s with d:=d} n:=⟨hd.trans h.d,h.i,h.r,h.n,h.rb⟩
theorem MO.ii{s:Mm}{n:Nat}(h:MO s n){d:List Int}(hd:d.length=s.i.length):MO {s with i:=d} n:=⟨h.d,hd.trans h.i,h.r,h.n,h.rb⟩
theorem rI(e:Me)(s:Mm)(n:Nat)(hs:MO s n)(a:Nat)(t:Ba)(ht:a+t.size<4294967296)(ht2:t.size≤1000000):
  bi prog 35 [Pt e.m,I3 (a:Int),Sg t] [be e.m 157 (mR e),own 5 1 ct (sv e.vd) (s).d,own 5 1 ct (sv e.vi) (s).i,own 3 1 eI (sv e.vr) (s).r] [] (.tuple #[]) [be e.m 157 (mR e),own 5 1 ct (sv e.vd) ({s with d:=pk s.d a (bx t)}).d,own 5 1 ct (sv e.vi) ({s with d:=pk s.d a (bx t)}).i,own 3 1 eI (sv e.vr) ({s with d:=pk s.d a (bx t)}).r]:=by
 refine aM func35 J ntmps35 J fun w0 M H=> ?_
 have hd:=hs.d;have hil:=hs.i;have hrl:=hs.r;have hnn:=hs.n;have hbl:=iK t;refine ar (aq J (aa (aC (bI (X:=Nat) (fun i=>i≤t.size) (fun i=> [(0,Pt e.m),(1,I3 (a:Int)),(2,Sg t),(6,I6 (i:Int))]) (fun i=> [(0,be e.m 157 (mR e)),(1,own 5 1 ct (sv e.vd) (pk s.d a ((bx t).take i))),(2,own 5 1 ct (sv e.vi) s.i),(3,own 3 1 eI (sv e.vr) s.r)]) (fun i=> []) (fun i=>t.size-i) 0 (bq _) J J J (fun i n1=>aV (ad J (ad J (aS (c9 underlying9 J) (av J J cy (aa (am J (fun h1=> ?_) (fun h1=> ?_))))))))))))
 ·(try simp only [bk]at h1);have hi:i<t.size:=by omega
  have hpl:=fS ((bx t).take i) s.d a;have hxx:=Jt hi;refine aA (aZ (aC (ar (ad J (ad J (ad J (aS (cB underlying3 underlying41 J (c:=(i:Int)) (cf (by omega))) (av J J (cC (c:=((a+i:Nat):Int)) (by rw [cf (by omega)];omega)) (dj (xs:= [.tmp 14,.tmp 18]) (oh e {s with d:=pk s.d a ((bx t).take i)} n (hs.dd (fS _ _ _)) ((a+i:Nat):Int) (by omega)) Fy [0,1,2,3] [] [0,1,2,3] J J J (fun _ _=>aq J (aF J (ad J (aa (am J (fun h2=> ?_) (fun h2=> ?_)))))))))))))))
  ·(try simp only [bk]at h2);have hq:a+i<s.d.length:=by simp at h2;omega
   obtain⟨y,hy⟩:∃y,(pk s.d a ((bx t).take i))[a+i]?=some y:=⟨_,bT (by omega)⟩
   refine bQ [21,22,23,24,25,26,27,28,29,30,31,32] _ J (bH (V:= [(0,21,_),(1,22,_),(2,23,_),(3,24,_),(4,25,_),(5,26,_),(6,27,_),(7,28,_),(8,29,_),(9,30,_),(10,31,_),(11,32,_)]) [0,1,2,3,4,5,6,7,8,9,10,11] 12 [12,11,10,9,8,7,6,5,4,3,2,1,0] [] (fun _=> []) J J (ay J J (ac J (aj J) (ac J (ah mz J) (ac J (ae yh J J (ax (k:=0) J J)) (ay J J (ay J J (ac J (cB underlying3 underlying41 J (c:=(i:Int)) (cf (by omega))) (ac J (aU J J (cC (c:=((a+i:Nat):Int)) (by rw [cf (by omega)];omega))) (ay J J (ay J J (ac J (eA (j:=i) underlying9 J J J (by omega)) (ac J (aK (j:=a+i) underlying84 t5 J J (aH (k:=1) J) J (by show _<(pk s.d a ((bx t).take i)).length;omega)) ag)))))))))))) J J J J J J J J J (fun _ _=>J) J (dn (k:=1) (e':=((bx t).getD i 0)) t5 J J J (by intro _;rfl) hy J J) (fun _ _=>bn [] J J ag J J J ?_));refine ap (ad J (av J J aO (aq J (aa ?_))));refine aG (i+1) ⟨by omega,by omega⟩ J (by rw [cw hxx,mg,List.length_take,Nat.min_eq_left (by omega)];rfl) J
  ·(try simp only [bk]at h2);have hq:¬a+i<s.d.length:=by simp at h2;omega
   refine aA (ap (ad J (av J J aO (aq J (aa ?_)))));refine aG (i+1) ⟨by omega,by omega⟩ J (by rw [cw hxx,mg,List.length_take,Nat.min_eq_left (by omega),J8 (by omega)];rfl) J
 ·(try simp only [bk]at h1);have hi:i=t.size:=by omega
  subst hi;refine bM (cQ () O J iz J [0,1,2,3] [] J (by rw [List.take_of_length_le (Nat.le_of_eq hbl)];rfl) J)
theorem tp(e:Me)(s:Mm)(n:Nat)(hs:MO s n)(p:Nat)(hp:p<n)(t:Ba)(ht2:t.size≤1000000):
  bi prog 37 [Pt e.m,I6 (p:Int),Sg t] [be e.m 157 (mR e),own 5 1 ct (sv e.vd) (s).d,own 5 1 ct (sv e.vi) (s).i,own 3 1 eI (sv e.vr) (s).r] [] (.tuple #[]) [be e.m 157 (mR e),own 5 1 ct (sv e.vd) ({s with i:=pk s.i (256*p) ((bx t).take 256)}).d,own 5 1 ct (sv e.vi) ({s with i:=pk s.i (256*p) ((bx t).take 256)}).i,own 3 1 eI (sv e.vr) ({s with i:=pk s.i (256*p) ((bx t).take 256)}).r]:=by
 refine aM func37 J ntmps37 J fun w0 M H=> ?_
 have hd:=hs.d;have hil:=hs.i;have hrl:=hs.r;have hnn:=hs.n;have hbl:=iK t;refine aV (ad J (av J J cy (ad J (aI [] J J O (fun hg1=>aY J) J (aI [(10,_)] J J ⟨J,O⟩ (fun hg2=>aY J) J (aI [(10,_),(11,_)] J J ⟨J,J,O⟩ (fun hg3=>aj J) J (aI [(10,_),(11,_),(12,_)] J J ⟨J,J,J,O⟩ (fun hg4=>ah qT J) J (aI [(10,_),(11,_),(12,_),(13,_)] J J ⟨J,J,J,J,O⟩ (fun hg5=>ae Dj J J (ax (k:=0) J J)) J (aI [(10,_),(11,_),(12,_),(13,_),(14,_)] J J ⟨J,J,J,J,J,O⟩ (fun hg6=>aL underlying22 J (aH (k:=3) J)) J (aI [(10,_),(11,_),(12,_),(13,_),(14,_),(15,_)] J J ⟨J,J,J,J,J,J,O⟩ (fun hg7=>aU J J ig) J (aS (bK J J J) (ad J (aI [] J J O (fun hg8=>aY J) J (aI [(19,_)] J J ⟨J,O⟩ (fun hg9=>aj J) J (aI [(19,_),(20,_)] J J ⟨J,J,O⟩ (fun hg10=>ah vM J) J (aI [(19,_),(20,_),(21,_)] J J ⟨J,J,J,O⟩ (fun hg11=>ae t4 J J (ax (k:=0) J J)) J (aS (bK J J J) ?_)))))))))))))))));refine aa (am J (fun h12=> ?_) (fun h12=> ?_))
 ·exact absurd h12 (by simp;omega)
 ·refine aA (ar (aq J (aa (aC (bI (X:=Nat) (fun i=>i≤t.size∧i≤256) (fun i=> [(0,Pt e.m),(1,I6 (p:Int)),(2,Sg t),(6,I6 (i:Int))]) (fun i=> [(0,be e.m 157 (mR e)),(1,own 5 1 ct (sv e.vd) s.d),(2,own 5 1 ct (sv e.vi) (pk s.i (256*p) ((bx t).take i))),(3,own 3 1 eI (sv e.vr) s.r)]) (fun i=> []) (fun i=>t.size-i) 0 ⟨bq _,bq _⟩ J J J (fun i n1=>aV (ad J (ad J (aS (c9 underlying9 J) (av J J cy (ad J (aI [] J J O (fun hg13=>aY J) J (aI [(29,_)] J J ⟨J,O⟩ (fun hg14=>aU J J cy) J (aS (bK J J J) (aa (am J (fun h15=> ?_) (fun h15=> ?_)))))))))))))))))
  ·(try simp only [bk]at h15);have hi:i<t.size∧i<256:=by omega
   have hpl:=fS ((bx t).take i) s.i (256*p);have hxx:=Jt hi.1;obtain⟨y,hy⟩:∃y,(pk s.i (256*p) ((bx t).take i))[256*p+i]?=some y:=⟨_,bT (by omega)⟩
   refine aA (aZ (aC ?_));refine bQ [34,35,36,37,38,39,40,41,42,43,44,45] _ J (bH (V:= [(0,34,_),(1,35,_),(2,36,_),(3,37,_),(4,38,_),(5,39,_),(6,40,_),(7,41,_),(8,42,_),(9,43,_),(10,44,_),(11,45,_)]) [0,1,2,3,4,5,6,7,8,9,10,11] 12 [12,11,10,9,8,7,6,5,4,3,2,1,0] [] (fun _=> []) J J (ay J J (ac J (aj J) (ac J (ah qU J) (ac J (ae yh J J (ax (k:=0) J J)) (ay J J (ac J (aU J J (gd (bU (by omega)))) (ay J J (ac J (aU J J (cC (c:=((256*p+i:Nat):Int)) (by rw [bU (by omega)];omega))) (ay J J (ay J J (ac J (eA (j:=i) underlying9 J J J (by omega)) (ac J (aK (j:=256*p+i) underlying84 t5 J J (aH (k:=2) J) J (by omega)) ag)))))))))))) J J J J J J J J J (fun _ _=>J) J (dn (k:=2) (e':=((bx t).getD i 0)) t5 J J J (by intro _;rfl) hy J J) (fun _ _=>bn [] J J ag J J J ?_));refine ap (ad J (av J J aO (aq J (aa ?_))));refine aG (i+1) ⟨by omega,by omega⟩ J (by rw [cw hxx,mg,List.length_take,Nat.min_eq_left (by omega)];rfl) J
  ·(try simp only [bk]at h15);have hi:i=min t.size 256:=by omega
   have htk:(bx t).take i=(bx t).take 256:=by
    rw [hi];by_cases h:t.size≤256
    ·rw [Nat.min_eq_left h,List.take_of_length_le (by omega),List.take_of_length_le (by omega)]
    ·rw [Nat.min_eq_right (by omega)]
   refine bM (cQ () O J iz J [0,1,2,3] [] J (by rw [htk];rfl) J)
theorem tq(e:Me)(s:Mm)(n:Nat)(hs:MO s n)(p:Nat)(hp:p<n)(z q:Int)(hq:bits .and .i64 z 7=q):
  bi prog 38 [Pt e.m,I6 (p:Int),I6 z] [be e.m 157 (mR e),own 5 1 ct (sv e.vd) (s).d,own 5 1 ct (sv e.vi) (s).i,own 3 1 eI (sv e.vr) (s).r] [] (.tuple #[]) [be e.m 157 (mR e),own 5 1 ct (sv e.vd) ({s with r:=s.r.set p q}).d,own 5 1 ct (sv e.vi) ({s with r:=s.r.set p q}).i,own 3 1 eI (sv e.vr) ({s with r:=s.r.set p q}).r]:=by
 refine aM func38 J ntmps38 J fun w0 M H=> ?_
 have hd:=hs.d;have hil:=hs.i;have hrl:=hs.r;have hnn:=hs.n;obtain⟨y,hy⟩:∃y,s.r[p]?=some y:=⟨_,bT (by omega)⟩
 refine ar (ad J (av J J ig (ad J (aI [] J J O (fun hg1=>aY J) J (aI [(9,_)] J J ⟨J,O⟩ (fun hg2=>aY J) J (aI [(9,_),(10,_)] J J ⟨J,J,O⟩ (fun hg3=>aj J) J (aI [(9,_),(10,_),(11,_)] J J ⟨J,J,J,O⟩ (fun hg4=>ah qT J) J (aI [(9,_),(10,_),(11,_),(12,_)] J J ⟨J,J,J,J,O⟩ (fun hg5=>ae Dj J J (ax (k:=0) J J)) J (aI [(9,_),(10,_),(11,_),(12,_),(13,_)] J J ⟨J,J,J,J,J,O⟩ (fun hg6=>aL underlying22 J (aH (k:=3) J)) J (aI [(9,_),(10,_),(11,_),(12,_),(13,_),(14,_)] J J ⟨J,J,J,J,J,J,O⟩ (fun hg7=>aU J J cy) J (aS (bK J J J) (aa (am J (fun h8=> ?_) (fun h8=> ?_))))))))))))))
 ·refine ap (ad J (bS J (aD qT J (aT 0 Dj J J J J (ad J (ad J (av J J (BD hq) (aS (aK (j:=p) underlying22 t3 J J (aH (k:=3) J) J (by omega)) (rL (k:=3) (e':=q) t3 J J J (by intro _;rfl) hy J J (aa (cQ () O J iz J [0,1,2,3] [] J J J)))))))))))
 ·exact absurd h8 (by simp;omega)
theorem yv(e:Me)(s:Mm)(n:Nat)(hs:MO s n)(a:Int)(ha:0≤a∧a<s.d.length):
  bi prog 76 [Pt e.m,I3 a] [be e.m 157 (mR e),own 5 1 ct (sv e.vd) (s).d,own 5 1 ct (sv e.vi) (s).i,own 3 1 eI (sv e.vr) (s).r] [] (.bool true) [be e.m 157 (mR e),own 5 1 ct (sv e.vd) ({s with i:=pk s.i (a.toNat/256*256) ((s.d.drop (a.toNat/256*256)).take 256)}).d,own 5 1 ct (sv e.vi) ({s with i:=pk s.i (a.toNat/256*256) ((s.d.drop (a.toNat/256*256)).take 256)}).i,own 3 1 eI (sv e.vr) ({s with i:=pk s.i (a.toNat/256*256) ((s.d.drop (a.toNat/256*256)).take 256)}).r]:=by
 refine aM func76 J ntmps76 J fun w0 M H=> ?_
 have hd:=hs.d;have hil:=hs.i;have hrl:=hs.r;have hnn:=hs.n;have hpp:a.toNat/256<n:=by omega
 refine ar (aq J (aF J (ad J (ad J (ak (xs:= [.tmp 8,.tmp 9]) (oh e s n hs a (by omega)) Fy [0,1,2,3] [] [0,1,2,3] (fun _ _=> ?_))))));rw [decide_eq_true ha.2];refine aq J (aa (aV (ad J (ad J (aI [] J J O (fun hg1=>aY J) J (aI [(13,_)] J J ⟨J,O⟩ (fun hg2=>aj J) J (aI [(13,_),(14,_)] J J ⟨J,J,O⟩ (fun hg3=>ah vM J) J (aI [(13,_),(14,_),(15,_)] J J ⟨J,J,J,O⟩ (fun hg4=>ae t4 J J (ax (k:=0) J J)) J (aI [(13,_),(14,_),(15,_),(16,_)] J J ⟨J,J,J,J,O⟩ (fun hg5=>cZ J) J (aS (bK J J J) (aa (am J (fun h6=> ?_) (fun h6=> ?_)))))))))))))
 ·refine ar (ad J (aS (cB underlying41 underlying3 J (c:=a) (bU (by omega))) (av J J (iE (by decide) (c:=((a.toNat/256:Nat):Int)) (by rw [Int.tdiv_eq_ediv_of_nonneg ha.1,bU (by omega)];omega)) (av J J (gd (c:=((a.toNat/256*256:Nat):Int)) (by rw [bU (by omega)];omega)) (aq J (aF J (ad J (aq J (aa (aC ?_))))))))));refine bI (X:=Nat) (fun k=>k≤256) (fun k=> [(0,Pt e.m),(5,.bool true),(6,I6 ((a.toNat/256*256:Nat):Int)),(7,I6 (((a.toNat/256*256:Nat):Int)+(k:Int)))]) (fun k=> [(0,be e.m 157 (mR e)),(1,own 5 1 ct (sv e.vd) s.d),(2,own 5 1 ct (sv e.vi) (pk s.i (a.toNat/256*256) ((s.d.drop (a.toNat/256*256)).take k))),(3,own 3 1 eI (sv e.vr) s.r)]) (fun k=> []) (fun k=>256-k) 0 (bq _) (by rw [show((a.toNat/256*256:Nat):Int)+((0:Nat):Int)=((a.toNat/256*256:Nat):Int) by omega];rfl) J J (fun k n1=> ?_);refine aV (ad J (ad J (av J J aO (av J J cy (aa (am J (fun h7=> ?_) (fun h7=> ?_)))))))
  ·(try simp only [bk]at h7);have hi:k<256:=by omega
   have hpl:=fS ((s.d.drop (a.toNat/256*256)).take k) s.i (a.toNat/256*256);obtain⟨x,hxx⟩:∃x,s.d[a.toNat/256*256+k]?=some x:=⟨_,bT (by omega)⟩
   have hxd:(s.d.drop (a.toNat/256*256))[k]?=some x:=by rw [List.getElem?_drop];exact hxx
   obtain⟨y,hy⟩:∃y,(pk s.i (a.toNat/256*256) ((s.d.drop (a.toNat/256*256)).take k))[a.toNat/256*256+k]?=some y:=⟨_,bT (by omega)⟩
   refine aA (aZ (aC ?_));refine bQ [30,31,32,33,34,35,36,37,38,39,40,41,42] _ J (bH (V:= [(0,30,_),(1,31,_),(2,32,_),(3,33,_),(4,34,_),(5,35,_),(6,36,_),(7,37,_),(8,38,_),(9,39,_),(10,40,_),(11,41,_),(12,42,_)]) [0,1,2,3,4,5,6,7,8,9,10,11,12] 13 [13,12,11,10,9,8,7,6,5,4,3,2,1,0] [] (fun _=> []) J J (ay J J (ac J (aj J) (ac J (ah qU J) (ac J (ae yh J J (ax (k:=0) J J)) (ay J J (ay J J (ac J (aj J) (ac J (ah mz J) (ac J (ae yh J J (ax (k:=0) J J)) (ay J J (ac J (aK (j:=a.toNat/256*256+k) underlying84 t5 J J (aH (k:=1) J) (by omega) (by omega)) (ac J (ae t5 J J (bJ (aH (k:=1) J) (by intro _;rfl) hxx (by rfl))) (ac J (aK (j:=a.toNat/256*256+k) underlying84 t5 J J (aH (k:=2) J) (by omega) (by omega)) ag))))))))))))) J J J J J J J J J (fun _ _=>J) J (dn (k:=2) (e':=x) t5 J J J (by intro _;rfl) hy J J) (fun _ _=>bn [] J J ag J J J ?_));refine ap (ad J (av J J (cC (c:=((a.toNat/256*256:Nat):Int)+((k+1:Nat):Int)) (by rw [bU (by omega)];omega)) (aq J (aa ?_))));refine aG (k+1) ⟨by omega,by omega⟩ J (by rw [cw hxd,mg,List.length_take,Nat.min_eq_left (by rw [List.length_drop];omega)];rfl) J
  ·(try simp only [bk]at h7);have hi:k=256:=by omega
   subst hi;refine bM (ar (ad J (aq J (aa (az (aQ () O J (cc (aP J)) J [0,1,2,3] [] J J J))))))
 ·exact absurd h6 (by simp)
theorem dr{c:Prop} [Decidable c]{a b:Qg}{n:Nat}(h1:a.sz≤n)(h2:b.sz≤n):(if c then a else b).sz≤n:=by
 by_cases h:c
 ·rw [aw h];exact h1
 ·rw [ai h];exact h2
theorem KY(o:Ba)(s:Qg):(qu o s).sz≤s.sz+9:=by
 unfold qu;refine dr ?_ (dr ?_ (dr ?_ (dr ?_ (dr ?_ (dr ?_ (dr ?_ (dr ?_ (dr ?_ (dr ?_ (dr ?_ (dr ?_ (dr ?_ (dr ?_ (dr ?_ (dr ?_ ?_)))))))))))))));all_goals
  (try simp only [bN,cx,ce,bZ,bV,bR,bG])
  omega
theorem KX(o:Ba)(s:Qg):(EU o s).sz≤s.sz+2:=by
 unfold EU;refine dr ?_ (dr ?_ (dr ?_ ?_));all_goals
  (try simp only [bN,bV,bR,bG])
  omega
theorem Hx(n:Int)(s:Qg):(sd n s).sz≤s.sz+2:=by
 unfold sd;refine dr ?_ ?_;all_goals
  (try simp only [bN,bV,bR,bG])
  omega
mutual
theorem mW(o st:Om):∀(t:Tx)(s:Qg),(gX o st t s).sz+2≤s.sz+22*nX t
 | .mk k n nm _ kids,s=>by
  have h0:=zb o st kids;have h1:=fun s=>AT o st kids s
  have hs:=vF o st kids;have hu:=KX nm (mu o st kids s);have hn:=Hx n s;have ho:=KY nm ((L4 o st kids ((mu o st kids s).push 1)).pop 2);have i0:=h0 s;have i1:=h1 s;have is:=hs s;rw [ef]at ho;unfold gX nX
  suffices h:∀x:Qg,x.sz≤s.sz+22*eH kids+20→x.sz+2≤s.sz+22*(eH kids+1)from h _ (by
   refine dr (by omega) (dr ?_ (dr ?_ (dr ?_ (dr (by omega) (dr (by omega) (dr ?_ (by omega)))))))
   ·simp only [bN,bV];omega
   ·simp only [bN,bV];omega
   ·simp only [bN,dV,bV];omega
   ·dsimp only;refine dr ?_ ?_
    ·simp only [bN,ce,bV];omega
    ·simp only [ce];omega)
  intro x hx;omega
theorem zb(o st:Om):∀(l:List Tx)(s:Qg),(mu o st l s).sz≤s.sz+22*eH l
 | [],s=>Nat.le_add_right _ _
 | t::r,s=>by
  have:=mW o st t s;unfold mu eH;omega
theorem AT(o st:Om):∀(l:List Tx)(s:Qg),(L4 o st l ((mu o st l s).push 1)).sz≤s.sz+22*eH l+2
 | [],s=>by
  show(s.push 1).sz≤_;rw [df];omega
 | t::r,s=>by
  have h1:=mW o st t s;have h2:=zb o st r ((gX o st t s).push 1);rw [df]at h2;show(mu o st r ((gX o st t s).push 1)).sz≤_;unfold eH;omega
theorem vF(o st:Om):∀(l:List Tx)(s:Qg),(ud o st l s).sz≤s.sz+22*eH l
 | [],s=>Nat.le_add_right _ _
 | t::r,s=>by
  have h1:=mW o st t s;have h2:=vF o st r ((gX o st t s).push 1);rw [df]at h2;unfold ud eH;omega
end
theorem Spec.roW{P:Program}{n:Nat}{vs:List Value}{X:Type}{L R:List Asn}{φ:X→Prop}{v:X→Value}{L1:X→List Asn}{B:Asn}(h:∀A∈R,∀w G,B.pred w G→(∀b,G b→b<w.heap.size)→∃G':Nat→Prop,A.pred w G'∧∀b,G' b→G b)
  (hs:Spec P n vs L R φ v L1 (fun _=> [])):Spec P n vs L [B] φ v L1 (fun _=> []):=by
 intro w M H hl;refine hs w M H ?_;obtain⟨F,hF⟩:=hl;refine⟨F,hF.touch,hF.has,hF.lt,hF.mine,hF.apart,fun k A hk=> ?_⟩;obtain⟨G,g1,g2⟩:=hF.ro 0 B J;obtain⟨G',a1,a2⟩:=h A (cd hk) w G g1 fun b hb=>(g2 b hb).1
 exact⟨G',a1,fun b hb=>g2 b (a2 b hb)⟩
def OM(e:Ga)(c:Oq)(o:Ba)(s:Qg):Prop:=
 ∃n l,(QT c).find? (fun x=>decide (Prod.fst x=o))=some (o,cK n l)∧Cb prog n∧bi prog n (l.map fun b=>Value.pointer (some ⟨b,0,none⟩)) [gA e s] [jj e.g c] (.tuple #[]) [gA e (qu o s)]
theorem fE{g:Nat}{c:Oq}{R:List Asn}(h:∀A∈R,∃i:Nat,(MZ g c)[i]?=some A):∀A∈R,∀w G,(jj g c).pred w G→(∀b,G b→b<w.heap.size)→∃G':Nat→Prop,A.pred w G'∧∀b,G' b→G b:=fun A hA w G h1 h2=>by
 obtain⟨i,hi⟩:=h A hA;exact D6 i hi w G h1 h2
theorem Kn(e:Ga)(c:Oq)(o:Ba)(s:Qg)(hz:s.sz≤890000)(h:iW o=true):OM e c o s:=by
 by_cases h0:o=gm
 ·subst h0;refine⟨85,[c.bg,c.b0],J,tH,?_⟩;rw [show qu gm s=s.emit [q3 1 1 2 1]from J];exact Spec.roW (fE (fun A hA=>by
    simp only [List.mem_cons,List.not_mem_nil,or_false]at hA;rcases hA with rfl|rfl
    ·exact⟨1,J⟩
    ·exact⟨2,J⟩
   )) (gV e s (by omega) c.bg c.b0 1)
 by_cases h1:o=eJ
 ·subst h1;refine⟨85,[c.bg,c.b1],J,tH,?_⟩;rw [show qu eJ s=s.emit [q3 2 1 2 1]from J];exact Spec.roW (fE (fun A hA=>by
    simp only [List.mem_cons,List.not_mem_nil,or_false]at hA;rcases hA with rfl|rfl
    ·exact⟨1,J⟩
    ·exact⟨3,J⟩
   )) (gV e s (by omega) c.bg c.b1 2)
 by_cases h2:o=gM
 ·subst h2;refine⟨85,[c.bg,c.b2],J,tH,?_⟩;rw [show qu gM s=s.emit [q3 9 1 2 1]from J];exact Spec.roW (fE (fun A hA=>by
    simp only [List.mem_cons,List.not_mem_nil,or_false]at hA;rcases hA with rfl|rfl
    ·exact⟨1,J⟩
    ·exact⟨4,J⟩
   )) (gV e s (by omega) c.bg c.b2 9)
 by_cases h3:o=fD
 ·subst h3;refine⟨85,[c.bg,c.b3],J,tH,?_⟩;rw [show qu fD s=s.emit [q3 3 1 2 1]from J];exact Spec.roW (fE (fun A hA=>by
    simp only [List.mem_cons,List.not_mem_nil,or_false]at hA;rcases hA with rfl|rfl
    ·exact⟨1,J⟩
    ·exact⟨5,J⟩
   )) (gV e s (by omega) c.bg c.b3 3)
 by_cases h4:o=ke
 ·subst h4;refine⟨85,[c.bg,c.b4],J,tH,?_⟩;rw [show qu ke s=s.emit [q3 4 1 2 1]from J];exact Spec.roW (fE (fun A hA=>by
    simp only [List.mem_cons,List.not_mem_nil,or_false]at hA;rcases hA with rfl|rfl
    ·exact⟨1,J⟩
    ·exact⟨6,J⟩
   )) (gV e s (by omega) c.bg c.b4 4)
 by_cases h5:o=fJ
 ·subst h5;refine⟨85,[c.bg,c.b5],J,tH,?_⟩;rw [show qu fJ s=s.emit [q3 5 1 2 1]from J];exact Spec.roW (fE (fun A hA=>by
    simp only [List.mem_cons,List.not_mem_nil,or_false]at hA;rcases hA with rfl|rfl
    ·exact⟨1,J⟩
    ·exact⟨7,J⟩
   )) (gV e s (by omega) c.bg c.b5 5)
 by_cases h6:o=gL
 ·subst h6;refine⟨85,[c.bg,c.b6],J,tH,?_⟩;rw [show qu gL s=s.emit [q3 6 1 2 1]from J];exact Spec.roW (fE (fun A hA=>by
    simp only [List.mem_cons,List.not_mem_nil,or_false]at hA;rcases hA with rfl|rfl
    ·exact⟨1,J⟩
    ·exact⟨8,J⟩
   )) (gV e s (by omega) c.bg c.b6 6)
 by_cases h7:o=iq
 ·subst h7;refine⟨85,[c.bg,c.b7],J,tH,?_⟩;rw [show qu iq s=s.emit [q3 7 1 2 1]from J];exact Spec.roW (fE (fun A hA=>by
    simp only [List.mem_cons,List.not_mem_nil,or_false]at hA;rcases hA with rfl|rfl
    ·exact⟨1,J⟩
    ·exact⟨9,J⟩
   )) (gV e s (by omega) c.bg c.b7 7)
 by_cases h8:o=mj
 ·subst h8;refine⟨85,[c.bg,c.b8],J,tH,?_⟩;rw [show qu mj s=s.emit [q3 11 1 2 1]from J];exact Spec.roW (fE (fun A hA=>by
    simp only [List.mem_cons,List.not_mem_nil,or_false]at hA;rcases hA with rfl|rfl
    ·exact⟨1,J⟩
    ·exact⟨10,J⟩
   )) (gV e s (by omega) c.bg c.b8 11)
 by_cases h9:o=nj
 ·subst h9;refine⟨87,[c.bg],J,NB,?_⟩;rw [show qu nj s=s.emit [q3 11 1 1 2]from J];exact Spec.roW (fE (fun A hA=>by
    simp only [List.mem_cons,List.not_mem_nil,or_false]at hA;rcases hA with rfl
    ·exact⟨1,J⟩
   )) (xH e s (by omega) c.bg)
 by_cases h10:o=nh
 ·subst h10;refine⟨89,[c.f0,c.bg],J,Lr,?_⟩;rw [show qu nh s=(s.emit [q3 11 1 1 2]).emit [qi 19 1 1 1]from J];exact Spec.roW (fE (fun A hA=>by
    simp only [List.mem_cons,List.not_mem_nil,or_false]at hA;rcases hA with rfl|rfl
    ·exact⟨12,J⟩
    ·exact⟨1,J⟩
   )) (uv e s (by omega) c.bg c.f0 87 (s.emit [q3 11 1 1 2]) (by rw [bN];simp;omega) NB (xH e s (by omega) c.bg))
 by_cases h11:o=oO
 ·subst h11;refine⟨89,[c.f1,c.bg],J,Lr,?_⟩;rw [show qu oO s=(s.emit [q3 11 1 2 1]).emit [qi 19 1 1 1]from J];exact Spec.roW (fE (fun A hA=>by
    simp only [List.mem_cons,List.not_mem_nil,or_false]at hA;rcases hA with rfl|rfl|rfl
    ·exact⟨13,J⟩
    ·exact⟨1,J⟩
    ·exact⟨11,J⟩
   )) (CL e s (by omega) c.bg c.b9 c.f1 85 (s.emit [q3 11 1 2 1]) (by rw [bN];simp;omega) tH (gV e s (by omega) c.bg c.b9 11))
 by_cases h12:o=ng
 ·subst h12;refine⟨90,[c.bg],J,NA,?_⟩;rw [show qu ng s=(s.emit [q3 5 1 2 1]).emit [q3 11 1 0 1]from J];exact Spec.roW (fE (fun A hA=>by
    simp only [List.mem_cons,List.not_mem_nil,or_false]at hA;rcases hA with rfl
    ·exact⟨1,J⟩
   )) (xG e s (by omega) c.bg)
 by_cases h13:o=nk
 ·subst h13;refine⟨89,[c.f2,c.bg],J,Lr,?_⟩;rw [show qu nk s=((s.emit [q3 5 1 2 1]).emit [q3 11 1 0 1]).emit [qi 19 1 1 1]from J];exact Spec.roW (fE (fun A hA=>by
    simp only [List.mem_cons,List.not_mem_nil,or_false]at hA;rcases hA with rfl|rfl
    ·exact⟨14,J⟩
    ·exact⟨1,J⟩
   )) (uv e s (by omega) c.bg c.f2 90 ((s.emit [q3 5 1 2 1]).emit [q3 11 1 0 1]) (by rw [bN,bN];simp;omega) NA (xG e s (by omega) c.bg))
 by_cases h14:o=kM
 ·subst h14;refine⟨91,[c.bg],J,Qe,?_⟩;rw [show qu kM s=((s.lab.jump 32 1 0 s.labs.length).emit [q3 10 1 2 1]).place s.labs.length from J];exact Spec.roW (fE (fun A hA=>by
    simp only [List.mem_cons,List.not_mem_nil,or_false]at hA;rcases hA with rfl
    ·exact⟨1,J⟩
   )) (FK e s (by omega) c.bg)
 by_cases h15:o=lS
 ·subst h15;refine⟨93,[c.bg],J,Qd,?_⟩;rw [show qu lS s=((((((s.lab.emit [q3 1 3 1 0]).jump 32 1 0 s.labs.length).emit [q3 10 3 2 1]).emit [q3 9 3 3 1]).place s.labs.length)).emit [q3 2 1 2 3]from J];exact Spec.roW (fE (fun A hA=>by
    simp only [List.mem_cons,List.not_mem_nil,or_false]at hA;rcases hA with rfl
    ·exact⟨1,J⟩
   )) (FJ e s (by omega) c.bg)
 exfalso;unfold iW at h;rw [Option.isSome_iff_exists]at h;obtain⟨x,hx⟩:=h;have hm:=List.mem_of_find?_eq_some hx;have he:=List.find?_some hx;simp only [decide_eq_true_eq]at he;simp only [lvL,List.mem_cons,List.not_mem_nil,or_false]at hm;rcases hm with rfl|rfl|rfl|rfl|rfl|rfl|rfl|rfl|rfl|rfl|rfl|rfl|rfl|rfl|rfl|rfl
 ·exact h15 he.symm
 ·exact h14 he.symm
 ·exact h2 he.symm
 ·exact h1 he.symm
 ·exact h0 he.symm
 ·exact h7 he.symm
 ·exact h6 he.symm
 ·exact h11 he.symm
 ·exact h9 he.symm
 ·exact h10 he.symm
 ·exact h8 he.symm
 ·exact h12 he.symm
 ·exact h13 he.symm
 ·exact h3 he.symm
 ·exact h5 he.symm
 ·exact h4 he.symm
section
variable{P:Program}{N:Nat}{w0:World}{M H:Nat→Prop}{E:fz}{Γ R:ey}
theorem pi{k o b:Nat}{e:Ga}{s:Qg}{u:Value}(hk:cn Γ k=some (gA e s))(hu:∀x:SV×SV×SV,(gR e.vp x.1 x.2.1 x.2.2 e.ms e.mo e.mp e.en)[o]?=some u)(hb:e.g=b):Gives w0 M H Γ R b o [u]:=by
 subst hb;intro w hC j u' hj;obtain⟨G,⟨x,Fs,h1,-,-⟩,-⟩:=hC.reads (.inl hk);obtain⟨-,h2⟩:=h1 0 _ J;cases j with
 | zero=>
  simp at hj;subst hj;rw [cell_of_row w e.g (o+0) _ 111 (0,0) h2];simpa using hu x
 | succ j=>simp at hj
def vQ(p:Ba×Int):Value:=I3 p.2
theorem DZ{S kt et:TypeId}{x y:Operand}{o:Option Nat}{k:Ba}{L:Om}{D:TypeDesc}{s bb:Nat}(hS:P.underlying S=some (.map kt et))(hK:KeyLaw P kt gQ)(ht:TI P et D (I3 0) s bb)(hx:ev E x=some (.map o))(hy:ev E y=some (gQ k))(hm:HasMp Γ R gQ Prod.fst vQ o L):
  PR P N w0 M H E Γ R (.lookup S x y false) (I3 (bO L k)):=by
 have:=nZ (w0:=w0) (M:=M) (H:=H) (N:=N) (ok:=false) hS hK ht hx hy hm J;have e:((L.find? (fun a=>decide (Prod.fst a=k))).map vQ).getD (I3 0)=I3 (bO L k):=by
  unfold bO;cases L.find? (fun a=>decide (Prod.fst a=k))<;>rfl
 rw [←e];exact this
theorem D0{S kt et:TypeId}{x y:Operand}{o:Option Nat}{k:Ba}{L:Om}{D:TypeDesc}{s bb:Nat}(hS:P.underlying S=some (.map kt et))(hK:KeyLaw P kt gQ)(ht:TI P et D (I6 0) s bb)(hx:ev E x=some (.map o))(hy:ev E y=some (gQ k))(hm:HasMp Γ R gQ Prod.fst vI o L):
  PR P N w0 M H E Γ R (.lookup S x y false) (I6 (bO L k)):=by
 have:=nZ (w0:=w0) (M:=M) (H:=H) (N:=N) (ok:=false) hS hK ht hx hy hm J;have e:((L.find? (fun a=>decide (Prod.fst a=k))).map vI).getD (I6 0)=I6 (bO L k):=by
  unfold bO;cases L.find? (fun a=>decide (Prod.fst a=k))<;>rfl
 rw [←e];exact this
end
theorem P3{o st:Om}{t:Tx}{s:Qg}(h:t.kind=1):gX o st t s=sd t.n s:=by
 obtain⟨k,n,nm,v,kids⟩:=t;obtain rfl:k=1:=h;rfl
theorem P2{o st:Om}{t:Tx}{s:Qg}(h:t.kind=2):gX o st t s=s.emit [qi 23 1 13 (bO o t.name)]:=by
 obtain⟨k,n,nm,v,kids⟩:=t;obtain rfl:k=2:=h;rfl
theorem PZ{o st:Om}{t:Tx}{s:Qg}(h:t.kind=5):gX o st t s=s.emit [⟨48,0,0,0,2⟩]:=by
 obtain⟨k,n,nm,v,kids⟩:=t;obtain rfl:k=5:=h;rfl
theorem P0{o st:Om}{t u:Tx}{s:Qg}(h:t.kind=4)(hk:t.kids= [u]):gX o st t s=((gX o st u s).elem 1).emit [qi 23 1 1 8192]:=by
 obtain⟨k,n,nm,v,kids⟩:=t;obtain rfl:k=4:=h;obtain rfl:kids= [u]:=hk;rfl
theorem PY{o st:Om}{t u:Tx}{s:Qg}(h:t.kind=6)(hk:t.kids= [u]):gX o st t s=EU t.name (gX o st u s):=by
 obtain⟨k,n,nm,v,kids⟩:=t;obtain rfl:k=6:=h;obtain rfl:kids= [u]:=hk;rfl
theorem PX{o st:Om}{t a b:Tx}{s:Qg}(h:t.kind=7)(hk:t.kids= [a,b]):gX o st t s=qu t.name ((gX o st b ((gX o st a s).push 1)).pop 2):=by
 obtain⟨k,n,nm,v,kids⟩:=t;obtain rfl:k=7:=h;obtain rfl:kids= [a,b]:=hk;rfl
theorem P1{o st:Om}{t:Tx}{s:Qg}(h:t.kind=3):gX o st t s=if t.kids.length>0 then((ud o st t.kids s).jump 40 15 0 (bO st t.name)).emit [qi 16 14 14 (4*t.kids.length)]else(ud o st t.kids s).jump 40 15 0 (bO st t.name):=by
 obtain⟨k,n,nm,v,kids⟩:=t;obtain rfl:k=3:=h;rfl
theorem xf{o st:Om}:∀{l:List Tx}{i:Nat}{u:Tx}(s:Qg),l[i]?=some u→ud o st (l.take (i+1)) s=(gX o st u (ud o st (l.take i) s)).push 1
 | [],i,u,s,h=>by simp at h
 | x::r,0,u,s,h=>by cases h;rfl
 | x::r,i+1,u,s,h=>xf (l:=r) _ h
structure Wx(t:Tx):Prop where
 one:t.kind=4∨t.kind=6→∃u,t.kids= [u]
 un:t.kind=6→t.name=eJ∨t.name=u_∨t.name=tx
 two:t.kind=7→iW t.name=true∧∃a b,t.kids= [a,b]
 kids:∀u∈t.kids,rX u=true
 kind:t.kind=1∨t.kind=2∨t.kind=3∨t.kind=4∨t.kind=5∨t.kind=6∨t.kind=7
theorem uW:∀{l:List Tx},qH l=true→∀u∈l,rX u=true
 | [],_,_,h=>by simp at h
 | t::r,h,u,hu=>by
  unfold qH at h;rw [Bool.and_eq_true]at h;rcases List.mem_cons.1 hu with rfl|hu
  ·exact h.1
  ·exact uW h.2 u hu
theorem u6{l:List Tx}(h:l.length=1):∃u,l= [u]:=by
 match l,h with
 | [u],_=>exact⟨u,rfl⟩
theorem Df{l:List Tx}(h:l.length=2):∃a b,l= [a,b]:=by
 match l,h with
 | [a,b],_=>exact⟨a,b,rfl⟩
theorem Iq{t:Tx}(h:rX t=true):Wx t:=by
 obtain⟨k,n,nm,v,kids⟩:=t;unfold rX at h;simp only [Bool.and_eq_true]at h;obtain⟨⟨h1,-⟩,h3⟩:=h;unfold qK at h1;refine⟨fun hk=> ?_,fun hk=> ?_,fun hk=> ?_,uW h3,?_⟩
 ·show ∃u,kids= [u];rcases hk with hk|hk
  ·obtain rfl:k=4:=hk;simp at h1;exact u6 h1.2
  ·obtain rfl:k=6:=hk;simp at h1;exact u6 h1.2
 ·obtain rfl:k=6:=hk;simp [cD,ti]at h1;rcases h1.1 with h|h|h
  ·exact .inl h
  ·exact .inr (.inl h)
  ·exact .inr (.inr h)
 ·obtain rfl:k=7:=hk;simp at h1;exact⟨h1.1,Df h1.2⟩
 ·show k=1∨k=2∨k=3∨k=4∨k=5∨k=6∨k=7;by_cases k1:k=1
  ·exact .inl k1
  by_cases k2:k=2
  ·exact .inr (.inl k2)
  by_cases k3:k=3
  ·exact .inr (.inr (.inl k3))
  by_cases k4:k=4
  ·exact .inr (.inr (.inr (.inl k4)))
  by_cases k5:k=5
  ·exact .inr (.inr (.inr (.inr (.inl k5))))
  by_cases k6:k=6
  ·exact .inr (.inr (.inr (.inr (.inr (.inl k6)))))
  by_cases k7:k=7
  ·exact .inr (.inr (.inr (.inr (.inr (.inr k7)))))
  simp [k1,k2,k3,k4,k5,k6,k7]at h1
theorem Hb{q:Prop}{k:Int}(h:k=1∨k=2∨k=3∨k=4∨k=5∨k=6∨k=7)(n1:¬k=1)(n2:¬k=2)(n3:¬k=3)(n4:¬k=4)(n5:¬k=5)(n6:¬k=6)(n7:¬k=7):q:=by omega
theorem QP{t:Tx}(h:GX t):oW t.n:=by cases t;exact h.1
theorem EK(e:Ga)(c:Oq)(om sm:Om)(hm:e.mp=c.m)(t:Tx)(hw:Wx t)(hg:GX t)(ih:∀u∈t.kids,∀s:Qg,s.sz+22*nX u≤780000→Spec prog 167 [Pt e.g,xV u] [gA e s] [cm u.v u.kids,jj e.g c,mp gQ Prod.fst vQ e.mo om,mp gQ Prod.fst vI (some e.ms) sm] (X:=Unit) (fun _=>True) (fun _=> .tuple #[]) (fun _=> [gA e (gX om sm u s)]) (fun _=> []))(s:Qg)(hz:s.sz+22*nX t≤780000):
  bi prog 167 [Pt e.g,xV t] [gA e s] [cm t.v t.kids,jj e.g c,mp gQ Prod.fst vQ e.mo om,mp gQ Prod.fst vI (some e.ms) sm] (.tuple #[]) [gA e (gX om sm t s)]:=by
 refine aM func167 J ntmps167 J fun w0 M H=>bc 0 9 J gE (ar (cA J J fun b3=>aF J (aD ki J (aT 3 t3 J J J J (aa (aC (ar (av J J br (aq J (aa (am J (fun h1=> ?_) (fun h1=> ?_))))))))))))
 ·(try simp only [bk]at h1);have hk:t.kind=1:=h1;rw [P3 hk];refine ap (ad J (aD zh J (aT 3 eG J J J J (ak (xs:= [.tmp 11,.tmp 13]) (D9 e s (by omega) t.n (QP hg)) NQ [0] [] [0] (fun _ _=>aa (cQ () O J iz J [0] [] J J J))))))
 ·(try simp only [bk]at h1);have n1:¬t.kind=1:=h1;refine ar (av J J br (aq J (aa (am J (fun h2=> ?_) (fun h2=> ?_)))))
  ·(try simp only [bk]at h2);have hk:t.kind=2:=h2;rw [P2 hk];refine bQ [17,18,19,20,21,22,23,24,25] _ J (aW (V:= [(0,17,_),(1,18,_),(2,19,_),(3,20,_),(4,21,_),(5,22,_),(6,23,_),(7,24,_)]) [0,1,2,3,4,5,6,7] 8 [8,7,6,5,4,3,2,1,0] [] (fun _=> []) J J (ay J J (ay J J (ac J (aj J) (ac J (ah mC J) (ac J (ae BS J J (pi (k:=0) J (fun _=>J) J)) (ac J (ah el J) (ac J (ae t9 J J (ax (k:=3) J J)) (ac J (DZ underlying108 fB eG J J (ub (k:=2) J)) ag)))))))) J J J J J J J J J J J (fun _ _=>J) J (bw (xs:= [.tmp 17,.const (I6 23),.const (I6 1),.const (I6 13),.tmp 24]) (dA e (s) (by omega) 23 1 13 (bO om t.name)) jT [0] [] [0]) (fun _ _=>bn [] J J ag J J J (cQ () O J iz J [0] [] J J J)))
  ·(try simp only [bk]at h2);have n2:¬t.kind=2:=h2;refine ar (av J J br (aq J (aa (am J (fun h3=> ?_) (fun h3=> ?_)))))
   ·(try simp only [bk]at h3);have hk:t.kind=5:=h3;rw [PZ hk];refine ap (ad J (aS (aR (parts:= [(0,.const (I6 48)),(4,.const (I3 2))]) fH mS J J) (bj iY ⟨48,0,0,0,2⟩ underlying106 fH J (by decide) (by decide) J J J J fun v30=>cW 30 7 J ch (ak (xs:= [.tmp 28,.tmp 30]) (iJ e s (by omega) v30 [⟨48,0,0,0,2⟩] (by simp)) xD [0] [(false,7)] [0] (fun _ _=>aa (cQ () O J iz J [0] [] J J J))))))
   ·(try simp only [bk]at h3);have n5:¬t.kind=5:=h3;refine ar (av J J br (aq J (aa (am J (fun h4=> ?_) (fun h4=> ?_)))))
    ·(try simp only [bk]at h4);have hk:t.kind=4:=h4;obtain⟨u,hku⟩:=hw.one (.inl hk);have hnu:nX t=nX u+1:=by rw [t7,hku];simp [eH]
     have hsz:=mW om sm u s;rw [P0 hk hku];refine ar (ad J (aD dT J (aT 3 jM J J J J (aS (aK (j:=0) underlying59 ca J J (aN (k:=9) J) J (by rw [hku];simp)) ?_))));refine te (aJ ca J J J (bJ (aN (k:=9) J) (by intro _;rfl) (show t.kids[0]?=some u by rw [hku];rfl) (by rfl))) J ?_;refine bc 0 8 J (eb (show u∈t.kids by rw [hku];simp)) ?_;refine dG (xs:= [.tmp 34,.tmp 38]) (ih u (show u∈t.kids by rw [hku];simp) (s) (by omega)) sW [0] [(false,8),(false,1),(false,2),(false,3)] [0] J J J J J J J J (fun _ _=>J) (fun _ _ _=>J) J (fun _ _=> ?_);refine aF J (ad J (ak (xs:= [.tmp 40,.const (I6 1)]) (uk e (gX om sm u s) (by omega) 1) Jc [0] [] [0] (fun _ _=>aa (ap (ad J (ak (xs:= [.tmp 42,.const (I6 23),.const (I6 1),.const (I6 1),.const (I3 8192)]) (dA e ((gX om sm u s).elem 1) (by rw [dV];omega) 23 1 1 8192) jT [0] [] [0] (fun _ _=>aa (cQ () O J iz J [0] [] J J J))))))))
    ·(try simp only [bk]at h4);have n4:¬t.kind=4:=h4;refine ar (av J J br (aq J (aa (am J (fun h5=> ?_) (fun h5=> ?_)))))
     ·(try simp only [bk]at h5);have hk:t.kind=6:=h5;obtain⟨u,hku⟩:=hw.one (.inr hk);have hnu:nX t=nX u+1:=by rw [t7,hku];simp [eH]
      have hsz:=mW om sm u s;rw [PY hk hku];refine ar (ad J (aD dT J (aT 3 jM J J J J (aS (aK (j:=0) underlying59 ca J J (aN (k:=9) J) J (by rw [hku];simp)) ?_))));refine te (aJ ca J J J (bJ (aN (k:=9) J) (by intro _;rfl) (show t.kids[0]?=some u by rw [hku];rfl) (by rfl))) J ?_;refine bc 0 8 J (eb (show u∈t.kids by rw [hku];simp)) ?_;refine dG (xs:= [.tmp 46,.tmp 50]) (ih u (show u∈t.kids by rw [hku];simp) (s) (by omega)) sW [0] [(false,8),(false,1),(false,2),(false,3)] [0] J J J J J J J J (fun _ _=>J) (fun _ _ _=>J) J (fun _ _=> ?_);refine aF J (aD el J (aT 3 t9 J J J J (aa (aC (ar (av J J eT (aq J (aa (am J (fun h6=> ?_) (fun h6=> ?_))))))))))
      ·(try simp only [bk]at h6);have ho:t.name=eJ:=cH ((gt _ _).symm.trans h6);rw [ho,show EU eJ (gX om sm u s)=(gX om sm u s).emit [q3 2 1 0 1]from J];refine ap (ad J (ak (xs:= [.tmp 56,.const (I6 2),.const (I6 1),.const (I6 0),.const (I6 1)]) (dQ e (gX om sm u s) (by omega) 2 1 0 1) nG [0] [] [0] (fun _ _=>aa (cQ () O J iz J [0] [] J J J))))
      ·(try simp only [bk]at h6);have u1:¬t.name=eJ:=dk ((gt _ _).symm.trans h6);refine ar (av J J eT (aq J (aa (am J (fun h7=> ?_) (fun h7=> ?_)))))
       ·(try simp only [bk]at h7);have ho:t.name=u_:=cH ((gt _ _).symm.trans h7);rw [ho,show EU u_ (gX om sm u s)=((gX om sm u s).emit [qi 16 2 0 4294967295]).emit [q3 5 1 1 2]from J];refine ar (ad J (ak (xs:= [.tmp 60,.const (I6 16),.const (I6 2),.const (I6 0),.const (I3 4294967295)]) (dA e (gX om sm u s) (by omega) 16 2 0 4294967295) jT [0] [] [0] (fun _ _=>aa (ap (ad J (ak (xs:= [.tmp 62,.const (I6 5),.const (I6 1),.const (I6 1),.const (I6 2)]) (dQ e ((gX om sm u s).emit [qi 16 2 0 4294967295]) (by rw [bN];simp;omega) 5 1 1 2) nG [0] [] [0] (fun _ _=>aa (cQ () O J iz J [0] [] J J J))))))))
       ·(try simp only [bk]at h7);have u2:¬t.name=u_:=dk ((gt _ _).symm.trans h7);refine ar (av J J eT (aq J (aa (am J (fun h8=> ?_) (fun h8=> ?_)))))
        ·(try simp only [bk]at h8);have ho:t.name=tx:=cH ((gt _ _).symm.trans h8);rw [ho,show EU tx (gX om sm u s)=((gX om sm u s).emit [qi 16 2 0 1]).emit [q3 11 1 1 2]from J];refine ar (ad J (ak (xs:= [.tmp 66,.const (I6 16),.const (I6 2),.const (I6 0),.const (I3 1)]) (dA e (gX om sm u s) (by omega) 16 2 0 1) jT [0] [] [0] (fun _ _=>aa (ap (ad J (ak (xs:= [.tmp 68,.const (I6 11),.const (I6 1),.const (I6 1),.const (I6 2)]) (dQ e ((gX om sm u s).emit [qi 16 2 0 1]) (by rw [bN];simp;omega) 11 1 1 2) nG [0] [] [0] (fun _ _=>aa (cQ () O J iz J [0] [] J J J))))))))
        ·exact absurd ((hw.un hk).resolve_left u1 |>.resolve_left u2) (dk ((gt _ _).symm.trans h8))
     ·(try simp only [bk]at h5);have n6:¬t.kind=6:=h5;refine ar (av J J br (aq J (aa (am J (fun h9=> ?_) (fun h9=> ?_)))))
      ·(try simp only [bk]at h9);have hk:t.kind=7:=h9;obtain⟨hbin,a,b,hkab⟩:=hw.two hk;have hnu:nX t=nX a+nX b+1:=by rw [t7,hkab];simp [eH]
       have hsa:=mW om sm a s;have hsb:=mW om sm b ((gX om sm a s).push 1);rw [df]at hsb;rw [PX hk hkab];obtain⟨nc,lc,hfc,hcb,hop⟩:=Kn e c t.name ((gX om sm b ((gX om sm a s).push 1)).pop 2) (by rw [ef];omega) hbin;refine bc 1 10 J (D6 0 J) ?_;rw [←hm];refine ar (ad J (aD dT J (aT 3 jM J J J J (aS (aK (j:=0) underlying59 ca J J (aN (k:=9) J) J (by rw [hkab];simp)) ?_))));refine te (aJ ca J J J (bJ (aN (k:=9) J) (by intro _;rfl) (show t.kids[0]?=some a by rw [hkab];rfl) (by rfl))) J ?_;refine bc 0 8 J (eb (show a∈t.kids by rw [hkab];simp)) ?_;refine dG (xs:= [.tmp 72,.tmp 76]) (ih a (show a∈t.kids by rw [hkab];simp) (s) (by omega)) sW [0] [(false,8),(false,1),(false,2),(false,3)] [0] J J J J J J J J (fun _ _=>J) (fun _ _ _=>J) J (fun _ _=> ?_);refine aF J (ad J (ak (xs:= [.tmp 78,.const (I6 1)]) (jq e (gX om sm a s) (by omega) 1) CH [0] [] [0] (fun _ _=>aF J (ad J (aD dT J (aT 3 jM J J J J (aS (aK (j:=1) underlying59 ca J J (aN (k:=9) J) J (by rw [hkab];simp)) ?_)))))));refine te (aJ ca J J J (bJ (aN (k:=9) J) (by intro _;rfl) (show t.kids[1]?=some b by rw [hkab];rfl) (by rfl))) J ?_;refine bc 0 8 J (eb (show b∈t.kids by rw [hkab];simp)) ?_;refine dG (xs:= [.tmp 80,.tmp 84]) (ih b (show b∈t.kids by rw [hkab];simp) ((gX om sm a s).push 1) (by rw [df];omega)) sW [0] [(false,8),(false,1),(false,2),(false,3)] [0] J J J J J J J J (fun _ _=>J) (fun _ _ _=>J) J (fun _ _=> ?_)
       refine aF J (ad J (ak (xs:= [.tmp 86,.const (I6 2)]) (nW e (gX om sm b ((gX om sm a s).push 1)) (by omega) 2) Id [0] [] [0] (fun _ _=>aa (bQ [88,89,90,91,92,93,94,95] _ J (aW (V:= [(0,88,_),(1,89,_),(2,90,_),(3,91,_),(4,92,_),(5,93,_),(6,94,_)]) [0,1,2,3,4,5,6] 7 [7,6,5,4,3,2,1,0] [] (fun _=> []) J J (ay J J (ac J (aj J) (ac J (ah Bg J) (ac J (ae Mr J J (pi (k:=0) J (fun _=>J) J)) (ac J (ah el J) (ac J (ae t9 J J (ax (k:=3) J J)) (ac J (nZ underlying109 fB t1 J J (ub (k:=10) J) hfc) ag))))))) J J J J J J J J J J J (fun _ _=>J) J (bw (xs:= []) hop hcb [0] [(false,1)] [0]) (fun _ _=>bn [] J J ag J J J (cQ () O J iz J [0] [] J J J)))))))
      ·(try simp only [bk]at h9);have n7:¬t.kind=7:=h9;refine ar (av J J br (aq J (aa (am J (fun h10=> ?_) (fun h10=> ?_)))))
       ·(try simp only [bk]at h10);have hk:t.kind=3:=h10;have hnx:=t7 t;have hss:=vF om sm t.kids s;have hkl:=l8 hg;rw [P1 hk];refine aV (aD dT J (aT 3 jM J J J J (aS (aL underlying59 J (aN (k:=9) J)) (ad J (aa (aC (bI (X:=Nat) (fun i=>i≤t.kids.length) (fun i=> [(0,Pt e.g),(3,Pt b3),(99,sv t.v),(100,I6 (t.kids.length:Int)),(101,I6 (i:Int))]) (fun i=> [(0,gA e (ud om sm (t.kids.take i) s)),(3,be b3 61 (dB t))]) (fun i=> [(0,cm t.v t.kids),(1,jj e.g c),(2,mp gQ Prod.fst vQ e.mo om),(3,mp gQ Prod.fst vI (some e.ms) sm),(9,sl 4 dB (sv t.v) t.kids)]) (fun i=>t.kids.length-i) 0 (bq _) J J J (fun i n1=>ar (av J J cy (aa (aZ (am J (fun h11=> ?_) (fun h11=> ?_)))))))))))))
        ·(try simp only [bk]at h11);have hi:i<t.kids.length:=by omega
         obtain⟨kid,hkid⟩:∃k,t.kids[i]?=some k:=⟨_,bT hi⟩
         have hkm:=cd hkid;have hle:=lT t.kids (i+1);rw [ft hkid]at hle;have hsi:=vF om sm (t.kids.take i) s;have hsk:=mW om sm kid (ud om sm (t.kids.take i) s);refine aA (aZ (aC (ar (aS (aK (j:=i) underlying59 ca J J (aN (k:=9) J) (by first|rfl|omega) (by first|omega|(simp;done)|(simp;omega))) (aS (aJ ca J J J (bJ (aN (k:=9) J) (by intro _;rfl) hkid (by rfl))) (aX ca J J fun b5=>au (k:=5) ca J J J J J J (aF J (ad J (aS (aJ ca J J J (a_ (k:=5) J)) (bc 0 8 J (eb (hkm)) (ak (xs:= [.tmp 105,.tmp 106]) (ih kid (hkm) (ud om sm (t.kids.take i) s) (by omega)) sW [0] [(false,8),(false,1),(false,2),(false,3)] [0] (fun _ _=>aa (ap (ad J (ak (xs:= [.tmp 108,.const (I6 1)]) (jq e (gX om sm kid (ud om sm (t.kids.take i) s)) (by omega) 1) CH [0] [] [0] (fun _ _=> ?_))))))))))))))));refine aa (ap (av J J aO (ad J (aa ?_))));refine aG (i+1) ⟨by omega,by omega⟩ J (by rw [xf s hkid];rfl) J
        ·(try simp only [bk]at h11);have hi:i=t.kids.length:=by omega
         subst hi;rw [cV];refine bM (aZ (bQ [111,112,113,114,115,116,117,118,119] _ J (aW (V:= [(0,111,_),(1,112,_),(2,113,_),(3,114,_),(4,115,_),(5,116,_),(6,117,_),(7,118,_)]) [0,1,2,3,4,5,6,7] 8 [8,7,6,5,4,3,2,1,0] [] (fun _=> []) J J (ay J J (ay J J (ac J (aj J) (ac J (ah oz J) (ac J (ae Dk J J (pi (k:=0) J (fun _=>J) J)) (ac J (ah el J) (ac J (ae t9 J J (ax (k:=3) J J)) (ac J (D0 underlying105 fB t3 J J (ub (k:=3) J)) ag)))))))) J J J J J J J J J J J (fun _ _=>J) J (bw (xs:= [.tmp 111,.const (I6 40),.const (I6 15),.const (I6 0),.tmp 118]) (gf e (ud om sm t.kids s) (by omega) 40 15 0 (bO sm t.name)) tJ [0] [] [0]) (fun _ _=>bn [] J J ag J J J (ar (aD dT J (aT 3 jM J J J J (aS (aL underlying59 J (aN (k:=9) J)) (aq J (aF J (ad J (av J J fh (aa (am J (fun h12=> ?_) (fun h12=> ?_)))))))))))))))
         ·(try simp only [bk]at h12);rw [aw (show t.kids.length>0 by omega)];refine ap (ad J (ad J (av J J kB (aS (cB underlying3 underlying41 J (by first|exact cf (by omega)|rfl)) (ak (xs:= [.tmp 125,.const (I6 16),.const (I6 14),.const (I6 14),.tmp 128]) (dA e ((ud om sm t.kids s).jump 40 15 0 (bO sm t.name)) (by rw [ce];omega) 16 14 14 (4*t.kids.length)) jT [0] [] [0] (fun _ _=>aa (cQ () O J iz J [0] [] J J J)))))))
         ·(try simp only [bk]at h12);rw [ai (show ¬t.kids.length>0 by omega)];refine aA (cQ () O J iz J [0] [] J J J)
       ·exact Hb hw.kind n1 n2 (by simpa using h10) n4 n5 n6 n7
theorem AQ(e:Ga)(c:Oq)(om sm:Om)(hm:e.mp=c.m):∀(n:Nat)(t:Tx),SizeOf.sizeOf t<n→rX t=true→GX t→∀s:Qg,s.sz+22*nX t≤780000→bi prog 167 [Pt e.g,xV t] [gA e s] [cm t.v t.kids,jj e.g c,mp gQ Prod.fst vQ e.mo om,mp gQ Prod.fst vI (some e.ms) sm] (.tuple #[]) [gA e (gX om sm t s)]
 | 0,_,h,_,_=>absurd h (Nat.not_lt_zero _)
 | n+1,t,h,hr,hg=>fun s hz=>EK e c om sm hm t (Iq hr) hg (fun u hu=>AQ e c om sm hm n u (by have:=pJ hu;omega) ((Iq hr).kids u hu) ((ka hg).mem u hu)) s hz
theorem w_(e:Ga)(c:Oq)(om sm:Om)(hm:e.mp=c.m)(t:Tx)(hr:rX t=true)(hg:GX t)(s:Qg)(hz:s.sz+22*nX t≤780000):bi prog 167 [Pt e.g,xV t] [gA e s] [cm t.v t.kids,jj e.g c,mp gQ Prod.fst vQ e.mo om,mp gQ Prod.fst vI (some e.ms) sm] (.tuple #[]) [gA e (gX om sm t s)]:=AQ e c om sm hm _ t (Nat.lt_succ_self _) hr hg s hz
variable{K:(Int→Int)→Prop}
theorem Res.len{s s':Qg}{r:List Qi}(h:Res K s s' r):s'.code.length=s.code.length+r.length:=by
 obtain⟨raw,fs,ls,a1,a2,-⟩:=h.ex;rw [a1,bA,a2]
theorem Af(a:List Int)(x y:Int)(b:List Int):(a++ [x]++b).set a.length y=a++ [y]++b:=by
 rw [List.append_assoc,List.set_append_right _ _ (cj _),Nat.sub_self,List.append_assoc];rfl
theorem wv(a:List Int)(x z y:Int)(b:List Int):(a++ [x,z]++b).set (a.length+1) y=a++ [x,y]++b:=by
 rw [List.append_assoc,List.set_append_right _ _ (by omega),show a.length+1-a.length=1 by omega,List.append_assoc];rfl
theorem Res.one{s s':Qg}{r:List Qi}(m:Int)(h:Res (fun L=>K L∧L (s.labs.length:Int)=m) s.lab s' r)(hm:m=s'.code.length):Res K s (s'.place s.labs.length) r:=by
 refine Res.labels [0] [m] J (s':=s') (h.weaken fun L hL=>⟨hL.1,hL.2 0 m J⟩) J J fun ls hls=> ?_
 show s'.labs.set ((s.labs.length:Int).toNat) s'.code.length=_;rw [hls,Int.toNat_natCast,Af,hm]
theorem dF{c:Prop} [Decidable c]{s a b:Qg}{r t:List Qi}(h1:Res K s a r)(h2:Res K s b t):Res K s (if c then a else b) (if c then r else t):=by
 by_cases h:c
 ·rw [aw h,aw h];exact h1
 ·rw [ai h,ai h];exact h2
theorem x8{n:Nat}(h:n<4294967296):wU (n:Int)=n:=by
 unfold wU;show((n:Int))%4294967296=n;omega
theorem Hw(o:Ba)(s:Qg):Res K s (qu o s) (BI o):=by
 unfold qu BI;refine dF ?_ ?_
 ·exact Res.emit _ _
 refine dF ?_ ?_
 ·exact Res.emit _ _
 refine dF ?_ ?_
 ·exact Res.emit _ _
 refine dF ?_ ?_
 ·exact Res.emit _ _
 refine dF ?_ ?_
 ·exact Res.emit _ _
 refine dF ?_ ?_
 ·exact Res.emit _ _
 refine dF ?_ ?_
 ·exact Res.emit _ _
 refine dF ?_ ?_
 ·exact Res.emit _ _
 refine dF ?_ ?_
 ·exact Res.emit _ _
 refine dF ?_ ?_
 ·exact Res.emit _ _
 refine dF ?_ ?_
 ·exact(Res.emit _ [_]).seq (Res.emit _ [_])
 refine dF ?_ ?_
 ·exact(Res.emit _ [_]).seq (Res.emit _ [_])
 refine dF ?_ ?_
 ·exact(Res.emit _ [_]).seq (Res.emit _ [_])
 refine dF ?_ ?_
 ·exact((Res.emit _ [_]).seq (Res.emit _ [_])).seq (Res.emit _ [_])
 refine dF ?_ ?_
 ·refine Res.one ((s.code.length:Int)+2) ((Res.jump s.lab 32 1 0 _ 2 fun L hL=> ?_).seq (Res.emit _ [_])) ?_
  ·rw [hL.2];show wU ((s.code.length:Int)+2-s.code.length)=2;rw [show(s.code.length:Int)+2-s.code.length=((2:Nat):Int) by omega];exact x8 (by decide)
  ·show _=((((s.code++ [_])++ [_]).length:Nat):Int);simp only [bA,bR,bG];omega
 refine dF ?_ ?_
 ·refine(Res.one (r:= [q3 1 3 1 0,qi 32 1 0 3,q3 10 3 2 1,q3 9 3 3 1]) ((s.code.length:Int)+4) (((((Res.emit s.lab [_]).seq (Res.jump _ 32 1 0 _ 3 fun L hL=> ?_)).seq (Res.emit _ [_])).seq (Res.emit _ [_]))) ?_).seq (Res.emit _ [_])
  ·rw [hL.2];show wU ((s.code.length:Int)+4-(((s.code++ [_]).length:Nat):Int))=3;rw [bA,bV,show(s.code.length:Int)+4-((s.code.length+1:Nat):Int)=((3:Nat):Int) by omega];exact x8 (by decide)
  ·show _=((((((s.code++ [_])++ [_])++ [_])++ [_]).length:Nat):Int);simp only [bA,bR,bG];omega
 ·exact Res.nil s
theorem Hu(o:Ba)(s:Qg):Res K s (EU o s) (CN o):=by
 unfold EU CN;refine dF ?_ ?_
 ·exact Res.emit _ _
 refine dF ?_ ?_
 ·exact(Res.emit _ [_]).seq (Res.emit _ [_])
 refine dF ?_ ?_
 ·exact(Res.emit _ [_]).seq (Res.emit _ [_])
 ·exact Res.nil s
theorem EX(n:Int)(s:Qg):Res K s (sd n s) (qn n):=by
 unfold sd qn;refine dF ?_ ?_
 ·exact Res.emit _ _
 ·exact Res.emit _ _
mutual
theorem za{o st:Om}{S:Ba→Int}(hK:∀L,K L→∀x,L (bO st x)=S x):∀(t:Tx)(s:Qg),Res K s (gX o st t s) (zX o S t s.code.length)
 | .mk k n nm v kids,s=>by
  have h0:=qO (o:=o) hK kids;have h1:=AR (o:=o) hK kids;have hs:=vG (o:=o) hK kids;unfold gX zX;split
  ·exact EX n s
  split
  ·exact Res.emit _ _
  split
  ·exact Res.emit _ _
  split
  ·exact(h0 s).seq ((Res.elem _ 1).seq (Res.emit _ _))
  split
  ·exact(h0 s).seq (Hu nm _)
  split
  ·have e1:=(h0 s).len;have e2:=(Res.push (K:=K) (mu o st kids s) 1).len;have e3:s.code.length+(xO o S kids s.code.length).length+2=((mu o st kids s).push 1).code.length:=by
    rw [e2,e1];rfl
   rw [e3];exact(h0 s).seq ((Res.push _ 1).seq ((h1 _).seq ((Res.pop _ 2).seq (Hw nm _))))
  split
  ·have e1:=(hs s).len;have e2:Res K (ud o st kids s) ((ud o st kids s).jump 40 15 0 (bO st nm)) [qi 40 15 0 (wU (S nm-((s.code.length+(xX o S kids s.code.length).length:Nat):Int)))]:=by
    refine Res.jump _ 40 15 0 _ _ fun L hL=> ?_
    rw [hK L hL nm,e1]
   refine(hs s).seq (e2.seq ?_);dsimp only;split
   ·exact Res.emit _ _
   ·exact Res.nil _
  ·exact Res.nil s
theorem qO{o st:Om}{S:Ba→Int}(hK:∀L,K L→∀x,L (bO st x)=S x):∀(l:List Tx)(s:Qg),Res K s (mu o st l s) (xO o S l s.code.length)
 | [],s=>Res.nil s
 | t::_,s=>za hK t s
theorem AR{o st:Om}{S:Ba→Int}(hK:∀L,K L→∀x,L (bO st x)=S x):∀(l:List Tx)(s:Qg),Res K s (L4 o st l s) (L_ o S l s.code.length)
 | [],s=>Res.nil s
 | _::r,s=>qO hK r s
theorem vG{o st:Om}{S:Ba→Int}(hK:∀L,K L→∀x,L (bO st x)=S x):∀(l:List Tx)(s:Qg),Res K s (ud o st l s) (xX o S l s.code.length)
 | [],s=>Res.nil s
 | t::r,s=>by
  have h:=za (o:=o) hK t s;have e1:=h.len;have e2:=(Res.push (K:=K) (gX o st t s) 1).len;have e3:s.code.length+(zX o S t s.code.length).length+2=((gX o st t s).push 1).code.length:=by
   rw [e2,e1];rfl
  unfold ud xX;rw [e3];exact h.seq ((Res.push _ 1).seq (vG hK r _))
end
variable{K:(Int→Int)→Prop}
theorem Res.relab{s s1 s2:Qg}{r:List Qi}(ns ms:List Int)(hl:ns.length=ms.length)(h:Res K {s with labs:=s.labs++ns} s1 r)
  (hc:s2.code=s1.code) (hf:s2.fixes=s1.fixes) (hs:∀ls,s1.labs=(s.labs++ns)++ls→s2.labs=(s.labs++ms)++ls):Res K {s with labs:=s.labs++ms} s2 r:=by
 obtain⟨raw,fs,ls,a1,a2,a3,a4,a5,a6⟩:=h.ex;refine⟨⟨raw,fs,ls,hc.trans a1,a2,hf.trans a3,hs ls a4,a5,fun L hK hL=>a6 L hK fun i n hi=> ?_⟩⟩;have:=hL i n hi;show L (((s.labs++ns).length+i:Nat):Int)=n;rw [bA,hl,←bA];exact this
theorem JF(s:Qg):s.lab.place s.labs.length={s with labs:=s.labs++ [(s.code.length:Int)]}:=by
 show Qg.mk _ _ ((s.labs++ [0]).set ((s.labs.length:Int).toNat) s.code.length)=_;have:=Af s.labs 0 (s.code.length:Int) [];simp only [List.append_nil]at this;rw [Int.toNat_natCast,this];rfl
mutual
theorem EQ{o st:Om}{S:Ba→Int}{en E:Int}:∀{K:(Int→Int)→Prop}(t:Ty)(s:Qg),(∀L,K L→∀x,L (bO st x)=S x)→(∀L,K L→L en=E)→Res K s (gY o st en t s) (zY o S E t s.code.length)
 | K,.mk k nm ve es vb body vl els,s,hK,hE=>by
  refine Res.labels [(s.code.length:Int)] [(s.code.length:Int)] J (s':=gY o st en (.mk k nm ve es vb body vl els) s) ?_ J J (fun ls h=>h);generalize hK':(fun L=>K L∧∀(i:Nat)(n:Int),[(s.code.length:Int)][i]?=some n→L ((s.labs.length+i:Nat):Int)=n)=K';have k1:∀L,K' L→∀x,L (bO st x)=S x:=fun L h=>hK L (by rw [←hK']at h;exact h.1)
  have k2:∀L,K' L→L en=E:=fun L h=>hE L (by rw [←hK']at h;exact h.1)
  have k3:∀L,K' L→L (s.labs.length:Int)=s.code.length:=fun L h=>by rw [←hK']at h;exact h.2 0 _ J
  clear hK';unfold gY zY;dsimp only;rw [JF];generalize hs0:({s with labs:=s.labs++ [(s.code.length:Int)]}:Qg)=s0;have c0:s0.code.length=s.code.length:=by rw [←hs0]
  have h0:=qO (K:=K') (o:=o) k1 es s0;rw [c0]at h0;have e0:=h0.len;rw [c0,nK]at e0;refine dF (h0.seq (Res.emit _ _)) (dF ?_ (dF (h0.seq (Res.emit _ _)) (dF ?_ (dF ?_ (dF ?_ h0)))))
  ·have e2:=(Res.push (K:=K') (mu o st es s0) 1).len;have e3:s.code.length+jO es+2=((mu o st es s0).push 1).code.length:=by
    rw [e2,e0];rfl
   rw [e3];exact h0.seq ((Res.push _ 1).seq ((AR k1 es _).seq ((Res.pop _ 2).seq ((Res.elem _ 2).seq (Res.emit _ _)))))
  ·exact h0.seq (Res.jump _ 40 0 0 _ _ fun L hL=>by rw [k2 L hL,e0])
  ·refine h0.seq ?_;generalize hs1:mu o st es s0=s1;rw [hs1]at e0;have hb:=fun(K:(Int→Int)→Prop)(a:∀L,K L→∀x,L (bO st x)=S x)(b:∀L,K L→L en=E)(s:Qg)=>mt (o:=o) (st:=st) (en:=en) (E:=E) (S:=S) (K:=K) body s a b
   have he:=fun(K:(Int→Int)→Prop)(a:∀L,K L→∀x,L (bO st x)=S x)(b:∀L,K L→L en=E)(s:Qg)=>mt (o:=o) (st:=st) (en:=en) (E:=E) (S:=S) (K:=K) els s a b
   simp only [fQ];obtain⟨po,hpo⟩:∃po,po=s.code.length+jO es+1+fY body+(if els.length>0 then 1 else 0):=⟨_,J⟩
   obtain⟨sA,hsA⟩:∃x,x=((s1.lab.lab).jump 32 1 0 s1.labs.length):=⟨_,J⟩
   obtain⟨sB,hsB⟩:∃x,x=iB o st en body sA:=⟨_,J⟩
   obtain⟨sC,hsC⟩:∃x,x=(if els.length>0 then sB.jump 40 0 0 (s1.labs.length+1)else sB):=⟨_,J⟩
   obtain⟨sD,hsD⟩:∃x,x=iB o st en els (sC.place s1.labs.length):=⟨_,J⟩
   rw [←hsA,←hsB,←hsC,←hsD,←hpo];obtain⟨K2,hK2⟩:∃K2:(Int→Int)→Prop,K2=(fun L=>K' L∧∀(i:Nat)(n:Int),[(po:Int),((po+fY els:Nat):Int)][i]?=some n→L ((s1.labs.length+i:Nat):Int)=n):=⟨_,J⟩
   have j1:∀L,K2 L→∀x,L (bO st x)=S x:=fun L h=>k1 L (by rw [hK2]at h;exact h.1)
   have j2:∀L,K2 L→L en=E:=fun L h=>k2 L (by rw [hK2]at h;exact h.1)
   have j3:∀L,K2 L→L (s1.labs.length:Int)=(po:Int):=fun L h=>by rw [hK2]at h;exact h.2 0 _ J
   have j4:∀L,K2 L→L (s1.labs.length+1)=((po+fY els:Nat):Int):=fun L h=>by rw [hK2]at h;exact h.2 1 _ J
   have g1:Res K2 s1.lab.lab sA [qi 32 1 0 (wU ((fY body+(if els.length>0 then 1 else 0)+1:Nat):Int))]:=by
    rw [hsA];refine Res.jump _ 32 1 0 _ _ fun L hL=> ?_
    rw [j3 L hL,hpo];show wU (_-(s1.code.length:Int))=_;rw [e0]
    congr 1
    omega
   have e1:sA.code.length=s.code.length+jO es+1:=by
    rw [g1.len];show s1.code.length+1=_;rw [e0]
   have g2:=hb K2 j1 j2 sA;rw [e1,←hsB]at g2;have e2:=g2.len;rw [fQ,e1]at e2;have g3:Res K2 sB sC (if els.length>0 then [qi 40 0 0 (wU ((fY els+1:Nat):Int))]else []):=by
    rw [hsC];by_cases h:els.length>0
    ·rw [aw h,aw h];refine Res.jump _ 40 0 0 _ _ fun L hL=> ?_
     rw [j4 L hL,e2,hpo,aw h]
     congr 1
     omega
    ·rw [ai h,ai h];exact Res.nil _
   have e3:=g3.len;have e4:s.code.length+jO es+1+fY body+(if els.length>0 then [qi 40 0 0 (wU ((fY els+1:Nat):Int))]else []).length=po:=by
    rw [hpo];split<;>rfl
   rw [e2,e4]at e3;have g4:=(g1.seq (g2.seq g3))
   have ee:({s1 with labs:=s1.labs++ [0,0]}:Qg)=s1.lab.lab:=by
    show _=Qg.mk _ _ ((s1.labs++ [0])++ [0]);rw [List.append_assoc];rfl
   rw [←ee]at g4;have g6:=Res.relab (s2:=sC.place s1.labs.length) [0,0] [(po:Int),0] J g4 J J (fun ls hls=>by
     show List.set sC.labs ((s1.labs.length:Int).toNat) (sC.code.length:Int)=_;rw [hls,e3,Int.toNat_natCast];simp)
   have g5:=he K2 j1 j2 (sC.place s1.labs.length);have e5:(sC.place s1.labs.length).code.length=po:=e3;rw [e5,←hsD]at g5;have e6:=g5.len;rw [e5,fQ]at e6;have g7:=g6.seq g5;rw [hK2]at g7;refine Res.labels [(po:Int),0] [(po:Int),((po+fY els:Nat):Int)] J (s':=sD) ?_ J J (fun ls hls=> ?_)
   ·simpa only [List.append_assoc]using g7
   ·show List.set sD.labs (((s1.labs.length:Int)+1).toNat) (sD.code.length:Int)=_;rw [hls,e6,show((s1.labs.length:Int)+1).toNat=s1.labs.length+1 by omega,wv]
  ·refine h0.seq ?_;generalize hs1:mu o st es s0=s1;rw [hs1]at e0;have hb:=fun(K:(Int→Int)→Prop)(a:∀L,K L→∀x,L (bO st x)=S x)(b:∀L,K L→L en=E)(s:Qg)=>mt (o:=o) (st:=st) (en:=en) (E:=E) (S:=S) (K:=K) body s a b
   simp only [fQ];obtain⟨sA,hsA⟩:∃x,x=s1.lab.jump 32 1 0 s1.labs.length:=⟨_,J⟩
   obtain⟨sB,hsB⟩:∃x,x=iB o st en body sA:=⟨_,J⟩
   obtain⟨K2,hK2⟩:∃K2:(Int→Int)→Prop,K2=(fun L=>K' L∧L (s1.labs.length:Int)=((s.code.length+jO es+fY body+2:Nat):Int)):=⟨_,J⟩
   have j1:∀L,K2 L→∀x,L (bO st x)=S x:=fun L h=>k1 L (by rw [hK2]at h;exact h.1)
   have j2:∀L,K2 L→L en=E:=fun L h=>k2 L (by rw [hK2]at h;exact h.1)
   have g1:Res K2 s1.lab sA [qi 32 1 0 (wU ((fY body+2:Nat):Int))]:=by
    rw [hsA];refine Res.jump _ 32 1 0 _ _ fun L hL=> ?_
    rw [hK2]at hL;rw [hL.2];show wU (_-(s1.code.length:Int))=_;rw [e0]
    congr 1
    omega
   have e1:sA.code.length=s.code.length+jO es+1:=by
    rw [g1.len];show s1.code.length+1=_;rw [e0]
   have g2:=hb K2 j1 j2 sA;rw [e1,←hsB]at g2;have e2:=g2.len;rw [fQ,e1]at e2;have g3:Res K2 sB (sB.jump 40 0 0 s.labs.length) [qi 40 0 0 (wU (-((fY body+jO es+1:Nat):Int)))]:=by
    refine Res.jump _ 40 0 0 _ _ fun L hL=> ?_
    rw [hK2]at hL;rw [k3 L hL.1,e2]
    congr 1
    omega
   have g4:=g1.seq (g2.seq g3);have e4:=g3.len;rw [e2]at e4;rw [hK2]at g4;rw [←hsA,←hsB];refine Res.one _ g4 ?_;rw [e4];show _=((s.code.length+jO es+1+fY body+1:Nat):Int);omega
theorem mt{o st:Om}{S:Ba→Int}{en E:Int}:∀{K:(Int→Int)→Prop}(l:List Ty)(s:Qg),(∀L,K L→∀x,L (bO st x)=S x)→(∀L,K L→L en=E)→Res K s (iB o st en l s) (lw o S E l s.code.length)
 | K,[],s,_,_=>Res.nil s
 | K,t::r,s,hK,hE=>by
  have h:=EQ (o:=o) t s hK hE;unfold iB lw;rw [←h.len];exact h.seq (mt r _ hK hE)
end
theorem sc:∀(n:Nat)(s:Qg),Res K s (ek n s) (jv n)
 | 0,s=>Res.nil s
 | n+1,s=>(Res.push s 0).seq (sc n _)
theorem KZ{st:Om}{S:Ba→Int}(hK:∀L,K L→∀x,L (bO st x)=S x)(f:Tf)(s:Qg)(hi:(bO st f.name).toNat<s.labs.length):
  Res K {s with labs:=s.labs.set (bO st f.name).toNat s.code.length} (gF st f s) (zF S f s.code.length):=by
 obtain⟨i,hi'⟩:∃i,i=(bO st f.name).toNat:=⟨_,J⟩
 obtain⟨s0,hs0⟩:∃s0:Qg,s0={s with labs:=s.labs.set i s.code.length}:=⟨_,J⟩
 obtain⟨lb,hlb⟩:∃lb,lb=s.labs.length:=⟨_,J⟩
 rw [←hi']at hi ⊢;have l0:s0.labs.length=lb:=by rw [hs0,hlb];exact List.length_set
 have c0:s0.code.length=s.code.length:=by rw [hs0]
 obtain⟨n,hn⟩:∃n,n=(dP f).2.toNat:=⟨_,J⟩
 obtain⟨E,hE⟩:∃E,E=s.code.length+10+2*n+fY f.body:=⟨_,J⟩
 obtain⟨K2,hK2⟩:∃K2:(Int→Int)→Prop,K2=(fun L=>K L∧∀(i:Nat)(n:Int),[((s.code.length+4:Nat):Int),(E:Int)][i]?=some n→L ((s0.labs.length+i:Nat):Int)=n):=⟨_,J⟩
 have j1:∀L,K2 L→∀x,L (bO st x)=S x:=fun L h=>hK L (by rw [hK2]at h;exact h.1)
 have j2:∀L,K2 L→L (lb:Int)=((s.code.length+4:Nat):Int):=fun L h=>by rw [hK2]at h;rw [←l0];exact h.2 0 _ J
 have j3:∀L,K2 L→L ((lb:Int)+1)=(E:Int):=fun L h=>by
  rw [hK2]at h;have:=h.2 1 _ J;rw [l0]at this;exact this
 obtain⟨sP,hsP⟩:∃x:Qg,x={s0 with labs:=s0.labs++ [0,0]}:=⟨_,J⟩
 have cP:sP.code.length=s.code.length:=by rw [hsP];exact c0
 have eP:(s.lab.lab).place (bO st f.name)=sP:=by
  rw [hsP,hs0];show Qg.mk _ _ (((s.labs++ [0])++ [0]).set (bO st f.name).toNat s.code.length)=_;rw [←hi',List.append_assoc,List.set_append_left _ _ hi];rfl
 obtain⟨sA,hsA⟩:∃x,x=(((sP.emit [qi 16 12 12 1]).emit [qi 16 2 0 12]).jump 35 2 12 lb).emit [⟨49,0,0,0,0⟩]:=⟨_,J⟩
 have g1:Res K2 sP sA [qi 16 12 12 1,qi 16 2 0 12,qi 35 2 12 2,⟨49,0,0,0,0⟩]:=by
  rw [hsA];refine(((Res.emit _ [_]).seq (Res.emit _ [_])).seq (Res.jump _ 35 2 12 _ 2 fun L hL=> ?_)).seq (Res.emit _ [_]);rw [j2 L hL];show wU (_-((((sP.code++ [_])++ [_]).length:Nat):Int))=2;rw [bA,bA,cP];show wU (_-((s.code.length+1+1:Nat):Int))=2;rw [show((s.code.length+4:Nat):Int)-((s.code.length+1+1:Nat):Int)=((2:Nat):Int) by omega];exact x8 (by decide)
 have e1:sA.code.length=s.code.length+4:=by rw [g1.len,cP];rfl
 have g1b:Res K2 {s0 with labs:=s0.labs++ [((s.code.length+4:Nat):Int),0]} (sA.place lb) [qi 16 12 12 1,qi 16 2 0 12,qi 35 2 12 2,⟨49,0,0,0,0⟩]:=by
  rw [hsP]at g1;refine Res.relab [0,0] _ J g1 J J fun ls hls=> ?_
  show List.set sA.labs ((lb:Int).toNat) (sA.code.length:Int)=_;rw [hls,e1,Int.toNat_natCast,←l0];simp
 obtain⟨sB,hsB⟩:∃x,x=ek n ((((sA.place lb).push 15).push 13).emit [q3 1 13 14 0]):=⟨_,J⟩
 have g2:Res K2 (sA.place lb) sB (fX 15++(fX 13++([q3 1 13 14 0]++jv n))):=by
  rw [hsB];exact(Res.push _ 15).seq ((Res.push _ 13).seq ((Res.emit _ [_]).seq (sc n _)))
 have e2:sB.code.length=s.code.length+9+2*n:=by
  rw [g2.len];simp only [bA,kD];show sA.code.length+_=_;rw [e1];simp only [fX,bR,bG];omega
 obtain⟨sC,hsC⟩:∃x,x=(iB (dP f).1 st (lb+1) f.body sB).emit [q3 1 1 0 0]:=⟨_,J⟩
 have g3:Res K2 sB sC (lw (dP f).1 S E f.body (s.code.length+9+2*n)++ [q3 1 1 0 0]):=by
  rw [hsC,←e2];exact(mt f.body sB j1 j3).seq (Res.emit _ _)
 have e3:sC.code.length=E:=by
  rw [g3.len,e2,hE];simp only [bA,fQ,bR,bG];omega
 have g4:=g1b.seq (g2.seq g3);have g5:=Res.relab (s2:=sC.place (lb+1)) [((s.code.length+4:Nat):Int),0] [((s.code.length+4:Nat):Int),(E:Int)] J g4 J J (fun ls hls=>by
  show List.set sC.labs (((lb:Int)+1).toNat) (sC.code.length:Int)=_;rw [hls,e3,show((lb:Int)+1).toNat=s0.labs.length+1 by omega,wv])
 have g6:=g5.seq ((Res.emit (sC.place (lb+1)) [q3 1 14 13 0]).seq ((Res.pop _ 13).seq ((Res.pop _ 15).seq ((Res.emit _ [qi 16 12 12 4294967295]).seq (Res.emit _ [qi 27 0 15 0])))));have g7:Res K s0 (((((sC.place (lb+1)).emit [q3 1 14 13 0]).pop 13).pop 15).emit [qi 16 12 12 4294967295] |>.emit [qi 27 0 15 0]) (zF S f s.code.length):=by
  refine Res.labels [((s.code.length+4:Nat):Int),(E:Int)] [((s.code.length+4:Nat):Int),(E:Int)] J (s':=((((sC.place (lb+1)).emit [q3 1 14 13 0]).pop 13).pop 15).emit [qi 16 12 12 4294967295] |>.emit [qi 27 0 15 0]) ?_ J J (fun ls h=>h);rw [←hK2];have:zF S f s.code.length=([qi 16 12 12 1,qi 16 2 0 12,qi 35 2 12 2,⟨49,0,0,0,0⟩]++((fX 15++(fX 13++([q3 1 13 14 0]++jv n)))++(lw (dP f).1 S E f.body (s.code.length+9+2*n)++ [q3 1 1 0 0])))++([q3 1 14 13 0]++(lA 13++(lA 15++([qi 16 12 12 4294967295]++ [qi 27 0 15 0])))):=by
   unfold zF;rw [hE,hn];simp only [List.append_assoc];rfl
  rw [this];exact g6
 rw [hs0]at g7;have:gF st f s=(((((sC.place (lb+1)).emit [q3 1 14 13 0]).pop 13).pop 15).emit [qi 16 12 12 4294967295] |>.emit [qi 27 0 15 0]):=by
  rw [hsC,hsB,hsA,←eP,hn,hlb];rfl
 rw [this];exact g7
def eD(st:Om):List Tf→Nat→List Int→List Int
 | [],_,l=>l
 | f::r,p,l=>eD st r (p+wF f) (l.set (bO st f.name).toNat p)
theorem m4(st:Om):∀(fs:List Tf)(p:Nat)(l:List Int),(eD st fs p l).length=l.length
 | [],_,_=>rfl
 | f::r,p,l=>by
  unfold eD;rw [m4 st r,List.length_set]
theorem rD(st:Om):∀(fs:List Tf)(p:Nat)(a b:List Int),(∀f∈fs,(bO st f.name).toNat<a.length)→eD st fs p (a++b)=eD st fs p a++b
 | [],_,_,_,_=>rfl
 | f::r,p,a,b,h=>by
  unfold eD;rw [List.set_append_left _ _ (h f (by simp)),rD st r _ _ b fun g hg=>by rw [List.length_set];exact h g (by simp [hg])]
theorem AY{st:Om}{S:Ba→Int}(hK:∀L,K L→∀x,L (bO st x)=S x):∀(fs:List Tf)(s:Qg),(∀f∈fs,(bO st f.name).toNat<s.labs.length)→
  Res K {s with labs:=eD st fs s.code.length s.labs} (sf st fs s) (C0 S fs s.code.length)
 | [],s,_=>Res.nil s
 | f::r,s,h=>by
  have hf:=h f (by simp);have g1:=KZ hK f s hf;have e1:(gF st f s).code.length=s.code.length+wF f:=by
   have:=g1.len;rw [xZ]at this;exact this
  obtain⟨raw,fx,ls,a1,a2,a3,a4,a5,a6⟩:=g1.ex;have hl:(gF st f s).labs.length≥s.labs.length:=by
   rw [a4,bA,List.length_set];omega
  have g2:=AY hK r (gF st f s) (fun g hg=>by have:=h g (by simp [hg]);omega);rw [e1]at g2;have hr:∀g∈r,(bO st g.name).toNat<(s.labs.set (bO st f.name).toNat s.code.length).length:=fun g hg=>by rw [List.length_set];exact h g (by simp [hg])
  have g3:Res K {s with labs:=eD st (f::r) s.code.length s.labs} {gF st f s with labs:=eD st r (s.code.length+wF f) (gF st f s).labs} (zF S f s.code.length):=by
   refine⟨⟨raw,fx,ls,a1,a2,a3,?_,a5,fun L hL hi=>a6 L hL fun i n hn=> ?_⟩⟩
   ·show eD st r _ (gF st f s).labs=_;rw [a4,rD st r _ _ _ hr];rfl
   ·have:=hi i n hn;show L (((s.labs.set (bO st f.name).toNat s.code.length).length+i:Nat):Int)=n;rw [List.length_set];rw [show({s with labs:=eD st (f::r) s.code.length s.labs}:Qg).labs.length=s.labs.length from m4 st _ _ _]at this;exact this
  exact g3.seq g2
theorem Res.labs_le{K:(Int→Int)→Prop}{s s':Qg}{r:List Qi}(h:Res K s s' r):s.labs.length≤s'.labs.length:=by
 obtain⟨raw,fs,ls,-,-,-,a4,-⟩:=h.ex;rw [a4,bA];omega
theorem ES(o st:Om)(t:Tx)(s:Qg):s.labs.length≤(gX o st t s).labs.length:=(za (K:=fun _=>False) (S:=fun _=>0) (fun _ h=>h.elim) t s).labs_le
theorem AS(o st:Om)(t:List Tx)(s:Qg):s.labs.length≤(mu o st t s).labs.length:=(qO (K:=fun _=>False) (S:=fun _=>0) (fun _ h=>h.elim) t s).labs_le
theorem jZ(o st:Om)(en:Int)(l:List Ty)(s:Qg):s.labs.length≤(iB o st en l s).labs.length:=(mt (K:=fun _=>False) (S:=fun _=>0) (E:=0) l s (fun _ h=>h.elim) (fun _ h=>h.elim)).labs_le
mutual
theorem Nf(o st:Om)(en:Int):∀(t:Ty)(s:Qg),(gY o st en t s).sz≤s.sz+22*nY t
 | .mk k nm _ es _ body _ els,s=>by
  have hb:=kg o st en body;have hl:=kg o st en els;have h0:=zb o st es (s.lab.place s.labs.length);have h1:=AT o st es (s.lab.place s.labs.length);rw [bZ,cx]at h0 h1;unfold gY nY;dsimp only;refine dr ?_ (dr ?_ (dr ?_ (dr ?_ (dr ?_ (dr ?_ (by omega))))))
  ·simp only [bN,bV];omega
  ·simp only [bN,dV,ef,bV];omega
  ·simp only [bN,bV];omega
  ·simp only [ce];omega
  ·have b1:=hb (((mu o st es (s.lab.place s.labs.length)).lab.lab).jump 32 1 0 (mu o st es (s.lab.place s.labs.length)).labs.length);rw [ce,cx,cx]at b1;rw [bZ];refine Nat.le_trans (hl _) ?_;rw [bZ];have:(if els.length>0 then(iB o st en body (((mu o st es (s.lab.place s.labs.length)).lab.lab).jump 32 1 0 (mu o st es (s.lab.place s.labs.length)).labs.length)).jump 40 0 0 ((mu o st es (s.lab.place s.labs.length)).labs.length+1)else iB o st en body (((mu o st es (s.lab.place s.labs.length)).lab.lab).jump 32 1 0 (mu o st es (s.lab.place s.labs.length)).labs.length)).sz≤s.sz+22*eH es+22*cM body+7:=by
    refine dr ?_ ?_
    ·rw [ce];omega
    ·omega
   omega
  ·have b1:=hb ((mu o st es (s.lab.place s.labs.length)).lab.jump 32 1 0 (mu o st es (s.lab.place s.labs.length)).labs.length);rw [ce,cx]at b1;rw [bZ,ce];omega
theorem kg(o st:Om)(en:Int):∀(l:List Ty)(s:Qg),(iB o st en l s).sz≤s.sz+22*cM l
 | [],s=>Nat.le_add_right _ _
 | t::r,s=>by
  have h1:=Nf o st en t s;have h2:=kg o st en r (gY o st en t s);unfold iB cM;omega
end
theorem xe{o st:Om}{en:Int}:∀{l:List Ty}{i:Nat}{u:Ty}(s:Qg),l[i]?=some u→iB o st en (l.take (i+1)) s=gY o st en u (iB o st en (l.take i) s)
 | [],i,u,s,h=>by simp at h
 | x::r,0,u,s,h=>by cases h;rfl
 | x::r,i+1,u,s,h=>xe (l:=r) _ h
structure Wy(t:Ty):Prop where
 one:t.kind≠3→∃a,t.es= [a]
 two:t.kind=3→∃a b,t.es= [a,b]
 es:∀u∈t.es,rX u=true
 body:mQ t.body=true
 els:mQ t.els=true
theorem Mc{t:Ty}(h:rY t=true):Wy t:=by
 obtain⟨k,nm,ve,es,vb,body,vl,els⟩:=t;unfold rY at h;simp only [Bool.and_eq_true]at h;obtain⟨⟨⟨h1,h2⟩,h3⟩,h4⟩:=h;unfold Ay at h1;simp only [Bool.and_eq_true,decide_eq_true_eq]at h1;have h5:=h1.1.1.1.2;refine⟨fun hk=> ?_,fun hk=> ?_,uW h2,h3,h4⟩
 ·rw [ai (show ¬k=3 from hk)]at h5;exact u6 h5
 ·rw [aw (show k=3 from hk)]at h5;exact Df h5
theorem Ak:∀{l:List Ty},mQ l=true→∀u∈l,rY u=true
 | [],_,_,h=>by simp at h
 | t::r,h,u,hu=>by
  unfold mQ at h;rw [Bool.and_eq_true]at h;rcases List.mem_cons.1 hu with rfl|hu
  ·exact h.1
  ·exact Ak h.2 u hu
abbrev jF(s:Qg):Qg:=s.lab.place s.labs.length
theorem Nh{o st:Om}{en:Int}{t:Ty}{a:Tx}{s:Qg}(h:t.kind=1∨t.kind=2)(he:t.es= [a]):gY o st en t s=(gX o st a (jF s)).emit [qi 25 1 13 (bO o t.name)]:=by
 obtain⟨k,nm,ve,es,vb,body,vl,els⟩:=t;obtain rfl:es= [a]:=he;exact aw h
theorem PW{o st:Om}{en:Int}{t:Ty}{a b:Tx}{s:Qg}(h:t.kind=3)(he:t.es= [a,b]):gY o st en t s=(((gX o st b ((gX o st a (jF s)).push 1)).pop 2).elem 2).emit [qi 25 1 2 8192]:=by
 obtain⟨k,nm,ve,es,vb,body,vl,els⟩:=t;obtain rfl:es= [a,b]:=he;obtain rfl:k=3:=h;rfl
theorem PS{o st:Om}{en:Int}{t:Ty}{a:Tx}{s:Qg}(h:t.kind=7)(he:t.es= [a]):gY o st en t s=(gX o st a (jF s)).emit [⟨48,0,0,0,1⟩]:=by
 obtain⟨k,nm,ve,es,vb,body,vl,els⟩:=t;obtain rfl:es= [a]:=he;obtain rfl:k=7:=h;rfl
theorem PT{o st:Om}{en:Int}{t:Ty}{a:Tx}{s:Qg}(h:t.kind=6)(he:t.es= [a]):gY o st en t s=(gX o st a (jF s)).jump 40 0 0 en:=by
 obtain⟨k,nm,ve,es,vb,body,vl,els⟩:=t;obtain rfl:es= [a]:=he;obtain rfl:k=6:=h;rfl
theorem PV{o st:Om}{en:Int}{t:Ty}{a:Tx}{s s1:Qg}(h:t.kind=4)(he:t.es= [a])(h1:s1=gX o st a (jF s)):gY o st en t s=
  (iB o st en t.els ((if t.els.length>0 then(iB o st en t.body ((s1.lab.lab).jump 32 1 0 s1.labs.length)).jump 40 0 0 (s1.labs.length+1)else iB o st en t.body ((s1.lab.lab).jump 32 1 0 s1.labs.length)).place s1.labs.length)).place (s1.labs.length+1):=by
 obtain⟨k,nm,ve,es,vb,body,vl,els⟩:=t;obtain rfl:es= [a]:=he;obtain rfl:k=4:=h;subst h1;rfl
theorem PU{o st:Om}{en:Int}{t:Ty}{a:Tx}{s s1:Qg}(h:t.kind=5)(he:t.es= [a])(h1:s1=gX o st a (jF s)):gY o st en t s=((iB o st en t.body (s1.lab.jump 32 1 0 s1.labs.length)).jump 40 0 0 s.labs.length).place s1.labs.length:=by
 obtain⟨k,nm,ve,es,vb,body,vl,els⟩:=t;obtain rfl:es= [a]:=he;obtain rfl:k=5:=h;subst h1;rfl
theorem PQ{o st:Om}{en:Int}{t:Ty}{a:Tx}{s:Qg}(n1:¬t.kind=1)(n2:¬t.kind=2)(n3:¬t.kind=3)(n4:¬t.kind=4)(n5:¬t.kind=5)(n6:¬t.kind=6)(n7:¬t.kind=7)(he:t.es= [a]):gY o st en t s=gX o st a (jF s):=by
 obtain⟨k,nm,ve,es,vb,body,vl,els⟩:=t;obtain rfl:es= [a]:=he;have n1:¬k=1:=n1;have n2:¬k=2:=n2;have n3:¬k=3:=n3;have n4:¬k=4:=n4;have n5:¬k=5:=n5;have n6:¬k=6:=n6;have n7:¬k=7:=n7;unfold gY;dsimp only;rw [ai (fun h=>h.elim n1 n2),ai n3,ai n7,ai n6,ai n4,ai n5];rfl
theorem nw{t:Ty}{a:Tx}{r:List Tx}(hw:Wy t)(h:t.kind≠3)(he:t.es=a::r):t.es= [a]:=by
 obtain⟨b,hb⟩:=hw.one h;rw [hb]at he;cases he;exact hb
theorem K8{t:Ty}{a:Tx}{r:List Tx}(hw:Wy t)(h:t.kind=3)(he:t.es=a::r):∃b,t.es= [a,b]:=by
 obtain⟨c,b,hb⟩:=hw.two h;rw [hb]at he;cases he;exact⟨b,hb⟩
theorem EG(e:Ga)(c:Oq)(om sm:Om)(hm:e.mp=c.m)(t:Ty)(hw:Wy t)(hg:GY t)(ihb:∀s:Qg,s.sz+22*cM t.body≤780000→Spec prog 96 [Pt e.g,sv t.vb] [gA e s] [b_ t.vb t.body,jj e.g c,mp gQ Prod.fst vQ e.mo om,mp gQ Prod.fst vI (some e.ms) sm] (X:=Unit) (fun _=>True) (fun _=> .tuple #[]) (fun _=> [gA e (iB om sm e.en t.body s)]) (fun _=> []))(ihe:∀s:Qg,s.sz+22*cM t.els≤780000→Spec prog 96 [Pt e.g,sv t.vl] [gA e s] [b_ t.vl t.els,jj e.g c,mp gQ Prod.fst vQ e.mo om,mp gQ Prod.fst vI (some e.ms) sm] (X:=Unit) (fun _=>True) (fun _=> .tuple #[]) (fun _=> [gA e (iB om sm e.en t.els s)]) (fun _=> []))(s:Qg)(hz:s.sz+22*nY t≤780000)(he0:0≤e.en):
  bi prog 130 [Pt e.g,yV t] [gA e s] [cm t.ve t.es,b_ t.vb t.body,b_ t.vl t.els,jj e.g c,mp gQ Prod.fst vQ e.mo om,mp gQ Prod.fst vI (some e.ms) sm] (.tuple #[]) [gA e (gY om sm e.en t s)]:=by
 refine aM func130 J ntmps130 J fun w0 M H=>bc 0 9 J gE (bc 2 11 J hZ ?_)
 have hne:=Ed t;obtain⟨a,ra,hea⟩:∃a r,t.es=a::r:=by
  by_cases h3:t.kind=3
  ·obtain⟨a,b,h⟩:=hw.two h3;exact⟨a,[b],h⟩
  ·obtain⟨a,h⟩:=hw.one h3;exact⟨a,[],h⟩
 have hna:eH t.es=nX a+eH ra:=by rw [hea];rfl
 have ham:a∈t.es:=by rw [hea];simp
 have hgt:(jF s).sz=s.sz+1:=by rw [bZ,cx]
 have hsa:=mW om sm a (jF s);rw [hgt]at hsa;have hla:=ES om sm a (jF s);refine ar (cA J J fun b3=>aF J (ad J (ak (xs:= [.tmp 8]) (fU e (s) (by omega)) vX [0] [] [0] (fun _ _=>aq J (aF J (ad J (ad J (ak (xs:= [.tmp 10,.tmp 11]) (eZ e (s.lab) (by rw [cx];omega) ((s.labs.length:Int)) (by simp [Qg.lab];omega)) sV [0] [] [0] (fun _ _=>aF J (ad J (aD ie J ?_)))))))))));refine aT 3 jM J J J J (aS (aK (j:=0) underlying59 ca J J (aN (k:=9) J) J (by rw [hea];simp)) ?_);refine te (aJ ca J J J (bJ (aN (k:=9) J) (by intro _;rfl) (show t.es[0]?=some a by rw [hea];rfl) (by rfl))) J ?_;refine bc 0 10 J (eb ham) (dj (xs:= [.tmp 13,.tmp 17]) (w_ e c om sm hm a (hw.es _ ham) ((oM hg).2.mem _ ham) (jF s) (by omega)) sW [0] [(false,10),(false,3),(false,4),(false,5)] [0] J J J (fun _ _=>aF J (aD fj J (aT 3 t3 J J J J (aa (aC (aV (av J J br (aq J (aa (am J (fun h1=> ?_) (fun h1=> ?_))))))))))))
 ·(try simp only [bk]at h1);have k1:t.kind=1:=h1;refine aA (am J (fun h2=> ?_) (fun h2=> ?_))
  ·(try simp only [bk]at h2);rw [Nh (.inl k1) (nw hw (by omega) hea)];refine bQ [24,25,26,27,28,29,30,31,32] _ J (aW (V:= [(0,24,_),(1,25,_),(2,26,_),(3,27,_),(4,28,_),(5,29,_),(6,30,_),(7,31,_)]) [0,1,2,3,4,5,6,7] 8 [8,7,6,5,4,3,2,1,0] [] (fun _=> []) J J (ay J J (ay J J (ac J (aj J) (ac J (ah mC J) (ac J (ae BS J J (pi (k:=0) J (fun _=>J) J)) (ac J (ah jH J) (ac J (ae t9 J J (ax (k:=3) J J)) (ac J (DZ underlying108 fB eG J J (ub (k:=4) J)) ag)))))))) J J J J J J J J J J J (fun _ _=>J) J (bw (xs:= [.tmp 24,.const (I6 25),.const (I6 1),.const (I6 13),.tmp 31]) (dA e (gX om sm a (jF s)) (by omega) 25 1 13 (bO om t.name)) jT [0] [] [0]) (fun _ _=>bn [] J J ag J J J (cQ () O J iz J [0] [] J J J)))
  ·exact absurd k1 (dk h2)
 ·(try simp only [bk]at h1);have n1:¬t.kind=1:=h1;refine ap (av J J br (aq J (aa (am J (fun h3=> ?_) (fun h3=> ?_)))))
  ·(try simp only [bk]at h3);have k2:t.kind=2:=h3;rw [Nh (.inr k2) (nw hw (by omega) hea)];refine bQ [24,25,26,27,28,29,30,31,32] _ J (aW (V:= [(0,24,_),(1,25,_),(2,26,_),(3,27,_),(4,28,_),(5,29,_),(6,30,_),(7,31,_)]) [0,1,2,3,4,5,6,7] 8 [8,7,6,5,4,3,2,1,0] [] (fun _=> []) J J (ay J J (ay J J (ac J (aj J) (ac J (ah mC J) (ac J (ae BS J J (pi (k:=0) J (fun _=>J) J)) (ac J (ah jH J) (ac J (ae t9 J J (ax (k:=3) J J)) (ac J (DZ underlying108 fB eG J J (ub (k:=4) J)) ag)))))))) J J J J J J J J J J J (fun _ _=>J) J (bw (xs:= [.tmp 24,.const (I6 25),.const (I6 1),.const (I6 13),.tmp 31]) (dA e (gX om sm a (jF s)) (by omega) 25 1 13 (bO om t.name)) jT [0] [] [0]) (fun _ _=>bn [] J J ag J J J (cQ () O J iz J [0] [] J J J)))
  ·(try simp only [bk]at h3);have n2:¬t.kind=2:=h3;refine ar (av J J br (aq J (aa (am J (fun h4=> ?_) (fun h4=> ?_)))))
   ·(try simp only [bk]at h4);have hk:t.kind=3:=h4;obtain⟨b,heb⟩:=K8 hw hk hea;have hbm:b∈t.es:=by rw [heb];simp
    have hnb:eH t.es=nX a+nX b:=by rw [heb];simp [eH]
    have hsb:=mW om sm b ((gX om sm a (jF s)).push 1);rw [df]at hsb;rw [PW hk heb];refine ar (ad J (ak (xs:= [.tmp 35,.const (I6 1)]) (jq e (gX om sm a (jF s)) (by omega) 1) CH [0] [] [0] (fun _ _=>aF J (ad J (aD ie J (aT 3 jM J J J J (aS (aK (j:=1) underlying59 ca J J (aN (k:=9) J) J (by rw [heb];simp)) ?_)))))));refine te (aJ ca J J J (bJ (aN (k:=9) J) (by intro _;rfl) (show t.es[1]?=some b by rw [heb];rfl) (by rfl))) J ?_;refine bc 0 10 J (eb hbm) (dj (xs:= [.tmp 37,.tmp 41]) (w_ e c om sm hm b (hw.es _ hbm) ((oM hg).2.mem _ hbm) ((gX om sm a (jF s)).push 1) (by rw [df];omega)) sW [0] [(false,10),(false,3),(false,4),(false,5)] [0] J J J (fun _ _=>aF J (ad J (ak (xs:= [.tmp 43,.const (I6 2)]) (nW e (gX om sm b ((gX om sm a (jF s)).push 1)) (by omega) 2) Id [0] [] [0] (fun _ _=>aF J (ad J (ak (xs:= [.tmp 45,.const (I6 2)]) (uk e ((gX om sm b ((gX om sm a (jF s)).push 1)).pop 2) (by rw [ef];omega) 2) Jc [0] [] [0] (fun _ _=>aa (ap (ad J (ak (xs:= [.tmp 47,.const (I6 25),.const (I6 1),.const (I6 2),.const (I3 8192)]) (dA e (((gX om sm b ((gX om sm a (jF s)).push 1)).pop 2).elem 2) (by rw [dV,ef];omega) 25 1 2 8192) jT [0] [] [0] (fun _ _=>aa (cQ () O J iz J [0] [] J J J)))))))))))))
   ·(try simp only [bk]at h4);have n3:¬t.kind=3:=h4;refine ar (av J J br (aq J (aa (am J (fun h5=> ?_) (fun h5=> ?_)))))
    ·(try simp only [bk]at h5);have hk:t.kind=7:=h5;rw [PS hk (nw hw (by omega) hea)];refine ap (ad J (aS (aR (parts:= [(0,.const (I6 48)),(4,.const (I3 1))]) fH mS J J) (bj iY ⟨48,0,0,0,1⟩ underlying106 fH J (by decide) (by decide) J J J J fun v53=>cW 53 7 J ch (ak (xs:= [.tmp 51,.tmp 53]) (iJ e (gX om sm a (jF s)) (by omega) v53 [⟨48,0,0,0,1⟩] (by simp)) xD [0] [(false,7)] [0] (fun _ _=>aa (cQ () O J iz J [0] [] J J J))))))
    ·(try simp only [bk]at h5);have n7:¬t.kind=7:=h5;refine ar (av J J br (aq J (aa (am J (fun h6=> ?_) (fun h6=> ?_)))))
     ·(try simp only [bk]at h6);have hk:t.kind=6:=h6;rw [PT hk (nw hw (by omega) hea)];refine ap (ad J (ad J (bS J (aD vN J (aS (ae t3 J J (pi (k:=0) J (fun _=>J) J)) (ak (xs:= [.tmp 57,.const (I6 40),.const (I6 0),.const (I6 0),.tmp 61]) (gf e (gX om sm a (jF s)) (by omega) 40 0 0 e.en) tJ [0] [] [0] (fun _ _=>aa (cQ () O J iz J [0] [] J J J))))))))
     ·(try simp only [bk]at h6);have n6:¬t.kind=6:=h6;refine ar (av J J br (aq J (aa (am J (fun h7=> ?_) (fun h7=> ?_)))))
      ·(try simp only [bk]at h7);have hk:t.kind=4:=h7;obtain⟨s1,hs1⟩:∃s1,s1=gX om sm a (jF s):=⟨_,J⟩
       rw [PV hk (nw hw (by omega) hea) hs1];rw [←hs1]at hsa hla ⊢;have hb:=kg om sm e.en t.body ((s1.lab.lab).jump 32 1 0 s1.labs.length);rw [ce,cx,cx]at hb;have lb:=jZ om sm e.en t.body ((s1.lab.lab).jump 32 1 0 s1.labs.length);have ll:((s1.lab.lab).jump 32 1 0 s1.labs.length).labs.length=s1.labs.length+2:=by simp [Qg.lab,Qg.jump]
       
       refine ar (ad J (ak (xs:= [.tmp 65]) (fU e (s1) (by omega)) vX [0] [] [0] (fun _ _=>ad J (ak (xs:= [.tmp 67]) (fU e (s1.lab) (by rw [cx];omega)) vX [0] [] [0] (fun _ _=> ?_)))))
       with_reducible rw [show((s1.lab.labs.length:Nat):Int)=(s1.labs.length:Int)+1 from by simp [Qg.lab]]
       refine aq J (aq J (aF J (ad J (ad J (ak (xs:= [.tmp 69,.const (I6 32),.const (I6 1),.const (I6 0),.tmp 70]) (gf e (s1.lab.lab) (by rw [cx,cx];omega) 32 1 0 (s1.labs.length:Int)) tJ [0] [] [0] (fun _ _=>aF J (ad J (aD fV J (aT 3 eR J J J J (ak (xs:= [.tmp 72,.tmp 74]) (ihb ((s1.lab.lab).jump 32 1 0 s1.labs.length) (by rw [ce,cx,cx];omega)) Fw [0] [(false,1),(false,3),(false,4),(false,5)] [0] (fun _ _=>aa (aV (aD fK J ?_)))))))))))));refine aT 3 eR J J J J (aS (aL underlying62 J (aN (k:=11) J)) (av J J fh (aa (am J (fun h8=> ?_) (fun h8=> ?_)))))
       ·(try simp only [bk]at h8);obtain⟨sC,hC⟩:∃sC,sC=(iB om sm e.en t.body ((s1.lab.lab).jump 32 1 0 s1.labs.length)).jump 40 0 0 (s1.labs.length+1):=⟨_,J⟩
        rw [aw (show t.els.length>0 by omega),←hC];have hsC:sC.sz≤s1.sz+22*cM t.body+6∧s1.labs.length+2≤sC.labs.length:=by rw [hC];(refine⟨?_,?_⟩;rw [ce];omega;show _≤(iB om sm e.en t.body ((s1.lab.lab).jump 32 1 0 s1.labs.length)).labs.length;omega)
        have hle:=kg om sm e.en t.els (sC.place s1.labs.length);rw [bZ]at hle;have lle:=jZ om sm e.en t.els (sC.place s1.labs.length);have lpl:(sC.place s1.labs.length).labs.length=sC.labs.length:=by simp [Qg.place]
        refine ap (ad J (ad J (ak (xs:= [.tmp 80,.const (I6 40),.const (I6 0),.const (I6 0),.tmp 81]) (gf e (iB om sm e.en t.body ((s1.lab.lab).jump 32 1 0 s1.labs.length)) (by omega) 40 0 0 (s1.labs.length+1)) tJ [0] [] [0] (fun _ _=> ?_))));rw [←hC];refine aF J (ad J (ad J (ak (xs:= [.tmp 83,.tmp 84]) (eZ e (sC) (by omega) ((s1.labs.length:Int)) (by omega)) sV [0] [] [0] (fun _ _=>aF J (ad J (aD fK J (aT 3 eR J J J J (ak (xs:= [.tmp 86,.tmp 88]) (ihe (sC.place s1.labs.length) (by rw [bZ];omega)) Fw [0] [(false,2),(false,3),(false,4),(false,5)] [0] (fun _ _=>aa (ap (ad J (ad J (ak (xs:= [.tmp 90,.tmp 91]) (eZ e (iB om sm e.en t.els (sC.place s1.labs.length)) (by omega) ((s1.labs.length+1:Int)) (by omega)) sV [0] [] [0] (fun _ _=>aa (cQ () O J iz J [0] [] J J J)))))))))))))))
       ·(try simp only [bk]at h8);obtain⟨sC,hC⟩:∃sC,sC=iB om sm e.en t.body ((s1.lab.lab).jump 32 1 0 s1.labs.length):=⟨_,J⟩
        rw [ai (show ¬t.els.length>0 by omega),←hC];have hsC:sC.sz≤s1.sz+22*cM t.body+6∧s1.labs.length+2≤sC.labs.length:=by rw [hC];(refine⟨?_,?_⟩<;>omega)
        have hle:=kg om sm e.en t.els (sC.place s1.labs.length);rw [bZ]at hle;have lle:=jZ om sm e.en t.els (sC.place s1.labs.length);have lpl:(sC.place s1.labs.length).labs.length=sC.labs.length:=by simp [Qg.place]
        refine aA (ar (ad J (ad J (ak (xs:= [.tmp 83,.tmp 84]) (eZ e (sC) (by omega) ((s1.labs.length:Int)) (by omega)) sV [0] [] [0] (fun _ _=>aF J (ad J (aD fK J (aT 3 eR J J J J (ak (xs:= [.tmp 86,.tmp 88]) (ihe (sC.place s1.labs.length) (by rw [bZ];omega)) Fw [0] [(false,2),(false,3),(false,4),(false,5)] [0] (fun _ _=>aa (ap (ad J (ad J (ak (xs:= [.tmp 90,.tmp 91]) (eZ e (iB om sm e.en t.els (sC.place s1.labs.length)) (by omega) ((s1.labs.length+1:Int)) (by omega)) sV [0] [] [0] (fun _ _=>aa (cQ () O J iz J [0] [] J J J))))))))))))))))
      ·(try simp only [bk]at h7);have n4:¬t.kind=4:=h7;refine ar (av J J br (aq J (aa (am J (fun h9=> ?_) (fun h9=> ?_)))))
       ·(try simp only [bk]at h9);have hk:t.kind=5:=h9;obtain⟨s1,hs1⟩:∃s1,s1=gX om sm a (jF s):=⟨_,J⟩
        rw [PU hk (nw hw (by omega) hea) hs1];rw [←hs1]at hsa hla ⊢;have hb:=kg om sm e.en t.body (s1.lab.jump 32 1 0 s1.labs.length);rw [ce,cx]at hb;have lb:=jZ om sm e.en t.body (s1.lab.jump 32 1 0 s1.labs.length);have ll:(s1.lab.jump 32 1 0 s1.labs.length).labs.length=s1.labs.length+1:=by simp [Qg.lab,Qg.jump]
        have lj:((iB om sm e.en t.body (s1.lab.jump 32 1 0 s1.labs.length)).jump 40 0 0 s.labs.length).labs.length=(iB om sm e.en t.body (s1.lab.jump 32 1 0 s1.labs.length)).labs.length:=by simp [Qg.jump]
        refine ar (ad J (ak (xs:= [.tmp 95]) (fU e (s1) (by omega)) vX [0] [] [0] (fun _ _=>aq J (aF J (ad J (ad J (ak (xs:= [.tmp 97,.const (I6 32),.const (I6 1),.const (I6 0),.tmp 98]) (gf e (s1.lab) (by rw [cx];omega) 32 1 0 (s1.labs.length:Int)) tJ [0] [] [0] (fun _ _=>aF J (ad J (aD fV J (aT 3 eR J J J J (ak (xs:= [.tmp 100,.tmp 102]) (ihb (s1.lab.jump 32 1 0 s1.labs.length) (by rw [ce,cx];omega)) Fw [0] [(false,1),(false,3),(false,4),(false,5)] [0] (fun _ _=>aa (aZ ?_))))))))))))));refine ap (ad J (ad J (ak (xs:= [.tmp 104,.const (I6 40),.const (I6 0),.const (I6 0),.tmp 105]) (gf e (iB om sm e.en t.body (s1.lab.jump 32 1 0 s1.labs.length)) (by omega) 40 0 0 (s.labs.length:Int)) tJ [0] [] [0] (fun _ _=>aa (ap (ad J (ad J (ak (xs:= [.tmp 107,.tmp 108]) (eZ e ((iB om sm e.en t.body (s1.lab.jump 32 1 0 s1.labs.length)).jump 40 0 0 s.labs.length) (by rw [ce];omega) ((s1.labs.length:Int)) (by omega)) sV [0] [] [0] (fun _ _=>aa (cQ () O J iz J [0] [] J J J))))))))))
       ·(try simp only [bk]at h9);have n5:¬t.kind=5:=h9;rw [PQ n1 n2 n3 n4 n5 n6 n7 (nw hw (by omega) hea)];refine aA (cQ () O J iz J [0] [] J J J)
theorem EN(e:Ga)(c:Oq)(om sm:Om)(v:SV)(l:List Ty)(hl:l.length≤1000000)(ih:∀u∈l,∀s:Qg,s.sz+22*nY u≤780000→Spec prog 130 [Pt e.g,yV u] [gA e s] [cm u.ve u.es,b_ u.vb u.body,b_ u.vl u.els,jj e.g c,mp gQ Prod.fst vQ e.mo om,mp gQ Prod.fst vI (some e.ms) sm] (X:=Unit) (fun _=>True) (fun _=> .tuple #[]) (fun _=> [gA e (gY om sm e.en u s)]) (fun _=> []))(s:Qg)(hz:s.sz+22*cM l≤780000):
  bi prog 96 [Pt e.g,sv v] [gA e s] [b_ v l,jj e.g c,mp gQ Prod.fst vQ e.mo om,mp gQ Prod.fst vI (some e.ms) sm] (.tuple #[]) [gA e (iB om sm e.en l s)]:=by
 refine aM func96 J ntmps96 J fun w0 M H=>bc 0 9 J hZ (ar (ad J (aS (aL underlying62 J (aN (k:=9) J)) (ad J (aa (aC (bI (X:=Nat) (fun i=>i≤l.length) (fun i=> [(0,Pt e.g),(6,sv v),(7,I6 (l.length:Int)),(8,I6 (i:Int))]) (fun i=> [(0,gA e (iB om sm e.en (l.take i) s))]) (fun i=> [(0,b_ v l),(1,jj e.g c),(2,mp gQ Prod.fst vQ e.mo om),(3,mp gQ Prod.fst vI (some e.ms) sm),(9,sl 5 dM (sv v) l)]) (fun i=>l.length-i) 0 (bq _) J J J (fun i n1=>ar (av J J cy (aa (aZ (am J (fun h1=> ?_) (fun h1=> ?_)))))))))))))
 ·(try simp only [bk]at h1);have hi:i<l.length:=by omega
  obtain⟨kid,hkid⟩:∃k,l[i]?=some k:=⟨_,bT hi⟩
  have hkm:=cd hkid;have hle:=no l (i+1);rw [iT hkid]at hle;have hsi:=kg om sm e.en (l.take i) s;refine aA (aZ (aC (ar (aS (aK (j:=i) underlying62 cr J J (aN (k:=9) J) (by first|rfl|omega) (by first|omega|(simp;done)|(simp;omega))) (aS (aJ cr J J J (bJ (aN (k:=9) J) (by intro _;rfl) hkid (by rfl))) (aX cr J J fun b5=>au (k:=5) cr J J J J J J (aa (ap (ad J (aS (aJ cr J J J (a_ (k:=5) J)) (bc 0 11 J (lF hkm) (bc 0 12 J (iv hkm) (bc 0 13 J (ji hkm) (ak (xs:= [.tmp 12,.tmp 13]) (ih kid hkm (iB om sm e.en (l.take i) s) (by omega)) Oj [0] [(false,11),(false,12),(false,13),(false,1),(false,2),(false,3)] [0] (fun _ _=>aa (ap (av J J aO ?_)))))))))))))))));refine ad J (aa ?_);refine aG (i+1) ⟨by omega,by omega⟩ J (by rw [xe s hkid];rfl) J
 ·(try simp only [bk]at h1);have hi:i=l.length:=by omega
  subst hi;rw [cV];refine bM (cQ () O J iz J [0] [] J J J)
theorem vE(e:Ga)(c:Oq)(om sm:Om)(hm:e.mp=c.m)(he0:0≤e.en):∀(n:Nat)(v:SV)(l:List Ty),SizeOf.sizeOf l<n→mQ l=true→GYs l→l.length≤1000000→∀s:Qg,s.sz+22*cM l≤780000→bi prog 96 [Pt e.g,sv v] [gA e s] [b_ v l,jj e.g c,mp gQ Prod.fst vQ e.mo om,mp gQ Prod.fst vI (some e.ms) sm] (.tuple #[]) [gA e (iB om sm e.en l s)]
 | 0,_,_,h,_,_,_=>absurd h (Nat.not_lt_zero _)
 | n+1,v,l,h,hr,hg,hl=>fun s hz=>EN e c om sm v l hl (fun u hu s hz=>by
   have hlt:=List.sizeOf_lt_of_mem hu;have hw:=Mc (Ak hr u hu);have hgu:=hg.mem u hu;have hb:SizeOf.sizeOf u.body<SizeOf.sizeOf u:=by cases u;simp [Ty.body];omega
   have hl':SizeOf.sizeOf u.els<SizeOf.sizeOf u:=by cases u;simp [Ty.els];omega
   exact EG e c om sm hm u hw hgu (fun s hz=>vE e c om sm hm he0 n u.vb u.body (by omega) hw.body (ff hgu).2 (ff hgu).1 s hz) (fun s hz=>vE e c om sm hm he0 n u.vl u.els (by omega) hw.els (gk hgu).2 (gk hgu).1 s hz) s hz he0) s hz
theorem EO(e:Ga)(c:Oq)(om sm:Om)(hm:e.mp=c.m)(he0:0≤e.en)(v:SV)(l:List Ty)(hr:mQ l=true)(hg:GYs l)(hl:l.length≤1000000)(s:Qg)(hz:s.sz+22*cM l≤780000):bi prog 96 [Pt e.g,sv v] [gA e s] [b_ v l,jj e.g c,mp gQ Prod.fst vQ e.mo om,mp gQ Prod.fst vI (some e.ms) sm] (.tuple #[]) [gA e (iB om sm e.en l s)]:=vE e c om sm hm he0 _ v l (Nat.lt_succ_self _) hr hg hl s hz
theorem xl:∀{l:List Ty}{i:Nat}{u:Ty}(p:Om×Int),l[i]?=some u→gDs (l.take (i+1)) p=gD u (gDs (l.take i) p)
 | [],i,u,p,h=>by simp at h
 | x::r,0,u,p,h=>by cases h;rfl
 | x::r,i+1,u,p,h=>xl (l:=r) _ h
theorem E1(t:Ty)(p:Om×Int):gD t p=gDs t.els (gDs t.body (if t.kind=1 then(gH p.1 t.name (wU (-(4*(p.2+1)))),p.2+1)else p)):=by cases t;rfl
mutual
theorem P4:∀(t:Ty)(p:Om×Int),(gD t p).2=p.2+vY t
 | .mk k nm _ _ _ body _ els,p=>by
  rw [E1];show(gDs els (gDs body _)).2=_;rw [qf els,qf body];unfold vY;show(if k=1 then _ else p).2+_+_=_;by_cases h:k=1
  ·rw [aw h,aw h];show p.2+1+_+_=_;omega
  ·rw [ai h,ai h];omega
theorem qf:∀(l:List Ty)(p:Om×Int),(gDs l p).2=p.2+dD l
 | [],p=>by show p.2=p.2+((0:Nat):Int);omega
 | t::r,p=>by
  show(gDs r (gD t p)).2=_;rw [qf r,P4 t,show dD (t::r)=vY t+dD r from J];omega
end
theorem Cv(g:Nat)(vp:SV)(ms mo mq:Nat)(en:Int)(s:Qg)(cb:Nat)(v:SV)(l:List Ty)(hl:l.length≤1000000)(ihb:∀u∈l,∀p:Om×Int,0≤p.2→p.2+dD u.body≤1000000→Spec prog 94 [Pt g,sv u.vb,Pt cb] [gA (⟨g,vp,ms,some mo,mq,en⟩:Ga) s,mp gQ Prod.fst vQ (some mo) (p).1,be cb 3 [I6 (p).2]] [b_ u.vb u.body] (X:=Unit) (fun _=>True) (fun _=> .tuple #[]) (fun _=> [gA (⟨g,vp,ms,some mo,mq,en⟩:Ga) s,mp gQ Prod.fst vQ (some mo) (gDs u.body p).1,be cb 3 [I6 (gDs u.body p).2]]) (fun _=> []))(ihe:∀u∈l,∀p:Om×Int,0≤p.2→p.2+dD u.els≤1000000→Spec prog 94 [Pt g,sv u.vl,Pt cb] [gA (⟨g,vp,ms,some mo,mq,en⟩:Ga) s,mp gQ Prod.fst vQ (some mo) (p).1,be cb 3 [I6 (p).2]] [b_ u.vl u.els] (X:=Unit) (fun _=>True) (fun _=> .tuple #[]) (fun _=> [gA (⟨g,vp,ms,some mo,mq,en⟩:Ga) s,mp gQ Prod.fst vQ (some mo) (gDs u.els p).1,be cb 3 [I6 (gDs u.els p).2]]) (fun _=> []))(p:Om×Int)(h0:0≤p.2)(hn:p.2+dD l≤1000000):
  bi prog 94 [Pt g,sv v,Pt cb] [gA (⟨g,vp,ms,some mo,mq,en⟩:Ga) s,mp gQ Prod.fst vQ (some mo) (p).1,be cb 3 [I6 (p).2]] [b_ v l] (.tuple #[]) [gA (⟨g,vp,ms,some mo,mq,en⟩:Ga) s,mp gQ Prod.fst vQ (some mo) (gDs l p).1,be cb 3 [I6 (gDs l p).2]]:=by
 refine aM func94 J ntmps94 J fun w0 M H=>bc 0 9 J hZ (ar (ad J (aS (aL underlying62 J (aN (k:=9) J)) (ad J (aa (aC (bI (X:=Nat) (fun i=>i≤l.length) (fun i=> [(0,Pt g),(2,Pt cb),(8,sv v),(9,I6 (l.length:Int)),(10,I6 (i:Int))]) (fun i=> [(0,gA (⟨g,vp,ms,some mo,mq,en⟩:Ga) s),(1,mp gQ Prod.fst vQ (some mo) (gDs (l.take i) p).1),(2,be cb 3 [I6 (gDs (l.take i) p).2])]) (fun i=> [(0,b_ v l),(9,sl 5 dM (sv v) l)]) (fun i=>l.length-i) 0 (bq _) J J J (fun i n1=>ar (av J J cy (aa (aZ (am J (fun h1=> ?_) (fun h1=> ?_)))))))))))))
 ·(try simp only [bk]at h1);have hi:i<l.length:=by omega
  obtain⟨kid,hkid⟩:∃k,l[i]?=some k:=⟨_,bT hi⟩
  have hkm:=cd hkid;have hn1:=qf (l.take i) p;have hn2:=qf (l.take (i+1)) p;have hvt:=km hkid;have hvl:=pI hkid;have hve:=Dc kid;obtain⟨q,hq⟩:∃q,q=(if kid.kind=1 then(gH (gDs (l.take i) p).1 kid.name (wU (-(4*((gDs (l.take i) p).2+1)))),(gDs (l.take i) p).2+1)else gDs (l.take i) p):=⟨_,J⟩
  have hq2:q.2=(gDs (l.take i) p).2+((if kid.kind=1 then 1 else 0:Nat):Int):=by rw [hq];split<;>simp
  refine aA (aZ (aC (ar (aS (aK (j:=i) underlying62 cr J J (aN (k:=9) J) (by first|rfl|omega) (by first|omega|(simp;done)|(simp;omega))) (aS (aJ cr J J J (bJ (aN (k:=9) J) (by intro _;rfl) hkid (by rfl))) (aX cr J J fun b7=>au (k:=7) cr J J J J J J (aa (bz (X:=Unit) (fun _=>True) (fun _=> [(0,Pt g),(2,Pt cb),(7,Pt b7),(8,sv v),(9,I6 (l.length:Int)),(10,I6 (i:Int))]) (fun _=> [(0,gA (⟨g,vp,ms,some mo,mq,en⟩:Ga) s),(1,mp gQ Prod.fst vQ (some mo) q.1),(2,be cb 3 [I6 q.2]),(7,be b7 64 (dM kid))]) (fun _=> [(0,b_ v l),(9,sl 5 dM (sv v) l)]) ?_ (fun _ _=> ?_)))))))))
  ·refine ar (aD fj J (aT 7 t3 J J J J (av J J br (aa (am J (fun h2=> ?_) (fun h2=> ?_))))))
   ·(try simp only [bk]at h2);have hk:kid.kind=1:=h2;rw [aw hk]at hve;have hqe:q=(gH (gDs (l.take i) p).1 kid.name (wU (-(4*((gDs (l.take i) p).2+1)))),(gDs (l.take i) p).2+1):=by rw [hq,aw hk]
    refine ar (ad J (bS J (aT 2 t3 J J J J (av J J aO (bS J (aB (k:=2) t3 J J J J J J J J (aa ?_)))))));refine bQ [22,23,24,25,26,27,28,29,30,31,32,33] _ J (bH (V:= [(0,22,_),(1,23,_),(2,24,_),(3,25,_),(4,26,_),(5,27,_),(6,28,_),(7,29,_),(8,30,_),(9,31,_),(10,32,_),(11,33,_)]) [0,1,2,3,4,5,6,7,8,9,10,11] 12 [12,11,10,9,8,7,6,5,4,3,2,1,0] [] (fun _=> []) J J (ay J J (ac J (aj J) (ac J (ah mC J) (ac J (ae BS J J (pi (k:=0) J (fun _=>J) J)) (ac J (ah jH J) (ac J (ae t9 J J (ax (k:=7) J J)) (ay J J (ac J (aj J) (ac J (ae t3 J J (ax (k:=2) J J)) (ac J (aU J J kB) (ac J (cB underlying3 underlying41 J (by first|exact cf (by omega)|rfl)) (ac J (MX J J) ag)))))))))))) J J J J J J J J J (fun _ _=>J) J (jk (k:=1) (α:=Ba×Int) (kf:=Prod.fst) (vf:=vQ) (kid.name,wU (-(4*((gDs (l.take i) p).2+1)))) (gH (gDs (l.take i) p).1 kid.name (wU (-(4*((gDs (l.take i) p).2+1))))) underlying108 fB J J J J (List.Perm.refl _)) (fun _ _=>bn [] J J ag J J J ?_));refine aG () O J (by rw [hqe];rfl) J
   ·(try simp only [bk]at h2);have hk:¬kid.kind=1:=h2;rw [ai hk]at hve;have hqe:q=gDs (l.take i) p:=by rw [hq,ai hk]
    refine aA (aG () O J (by rw [hqe];rfl) J)
  ·refine ar (ad J (aD fV J (aT 7 eR J J J J (ad J (bc 0 11 J (iv hkm) (ak (xs:= [.tmp 34,.tmp 36,.tmp 37]) (ihb kid hkm q (by omega) (by omega)) Ln [0,1,2] [(false,11)] [0,1,2] (fun _ _=>aa (ap (ad J (aD fK J (aT 7 eR J J J J (ad J (bc 0 11 J (ji hkm) (ak (xs:= [.tmp 39,.tmp 41,.tmp 42]) (ihe kid hkm (gDs kid.body q) (by rw [qf];omega) (by rw [qf];omega)) Ln [0,1,2] [(false,11)] [0,1,2] (fun _ _=>aa (ap (av J J aO (ad J ?_))))))))))))))))));refine aa ?_;refine aG (i+1) ⟨by omega,by omega⟩ J (by rw [xl p hkid,E1,←hq];rfl) J
 ·(try simp only [bk]at h1);have hi:i=l.length:=by omega
  subst hi;rw [cV];refine bM (cQ () O J iz J [0,1,2] [] J J J)
theorem r7(g:Nat)(vp:SV)(ms mo mq:Nat)(en:Int)(s:Qg)(cb:Nat):∀(n:Nat)(v:SV)(l:List Ty),SizeOf.sizeOf l<n→GYs l→l.length≤1000000→∀p:Om×Int,0≤p.2→p.2+dD l≤1000000→bi prog 94 [Pt g,sv v,Pt cb] [gA (⟨g,vp,ms,some mo,mq,en⟩:Ga) s,mp gQ Prod.fst vQ (some mo) (p).1,be cb 3 [I6 (p).2]] [b_ v l] (.tuple #[]) [gA (⟨g,vp,ms,some mo,mq,en⟩:Ga) s,mp gQ Prod.fst vQ (some mo) (gDs l p).1,be cb 3 [I6 (gDs l p).2]]
 | 0,_,_,h,_,_=>absurd h (Nat.not_lt_zero _)
 | n+1,v,l,h,hg,hl=>fun p h0 hn=>Cv g vp ms mo mq en s cb v l hl (fun u hu p h0 hn=>by
   have hlt:=List.sizeOf_lt_of_mem hu;have hgu:=hg.mem u hu;have hb:SizeOf.sizeOf u.body<SizeOf.sizeOf u:=by cases u;simp [Ty.body];omega
   exact r7 g vp ms mo mq en s cb n u.vb u.body (by omega) (ff hgu).2 (ff hgu).1 p h0 hn) (fun u hu p h0 hn=>by
   have hlt:=List.sizeOf_lt_of_mem hu;have hgu:=hg.mem u hu;have hb:SizeOf.sizeOf u.els<SizeOf.sizeOf u:=by cases u;simp [Ty.els];omega
   exact r7 g vp ms mo mq en s cb n u.vl u.els (by omega) (gk hgu).2 (gk hgu).1 p h0 hn) p h0 hn
theorem Cw(g:Nat)(vp:SV)(ms mo mq:Nat)(en:Int)(s:Qg)(cb:Nat)(v:SV)(l:List Ty)(hg:GYs l)(hl:l.length≤1000000)(p:Om×Int)(h0:0≤p.2)(hn:p.2+dD l≤1000000):bi prog 94 [Pt g,sv v,Pt cb] [gA (⟨g,vp,ms,some mo,mq,en⟩:Ga) s,mp gQ Prod.fst vQ (some mo) (p).1,be cb 3 [I6 (p).2]] [b_ v l] (.tuple #[]) [gA (⟨g,vp,ms,some mo,mq,en⟩:Ga) s,mp gQ Prod.fst vQ (some mo) (gDs l p).1,be cb 3 [I6 (gDs l p).2]]:=r7 g vp ms mo mq en s cb _ v l (Nat.lt_succ_self _) hg hl p h0 hn
section
variable{P:Program}{N:Nat}{w0:World}{M H:Nat→Prop}{E:fz}{Γ R:ey}
theorem uT(k:Nat)(ns:List Nat){e:Ga}{s:Qg}{Rel:Act→World→Prop}(hk:cn Γ k=some (gA e s))(hns:ns.Nodup)(hl:ns.length=4)
  (h:∀vc vf vl,At N w0 M H E (f_ ns [be e.g 111 (gR e.vp vc vf vl e.ms e.mo e.mp e.en),own 118 5 iY (sv vc) s.code,own 171 2 wg (sv vf) s.fixes,own 3 1 eI (sv vl) s.labs] (ga [k] Γ)) R Rel):At N w0 M H E Γ R Rel:=
 DO k ns hk hns (fun _=>hl) fun x=>h x.1 x.2.1 x.2.2
theorem uS(k:Nat)(ks:List Nat)(e:Ga)(s:Qg)(vc vf vl:SV){Rel:Act→World→Prop}(hL:e_ Γ ks=du [be e.g 111 (gR e.vp vc vf vl e.ms e.mo e.mp e.en),own 118 5 iY (sv vc) s.code,own 171 2 wg (sv vf) s.fixes,own 3 1 eI (sv vl) s.labs])(hks:ks.Nodup)
  (h:At N w0 M H E ((k,gA e s)::ga ks Γ) R Rel):At N w0 M H E Γ R Rel:=J0 (f:=fun x:SV×SV×SV=> [be e.g 111 (gR e.vp x.1 x.2.1 x.2.2 e.ms e.mo e.mp e.en),own 118 5 iY (sv x.1) s.code,own 171 2 wg (sv x.2.1) s.fixes,own 3 1 eI (sv x.2.2) s.labs]) k ks (vc,vf,vl) hL hks h
end
theorem AV(n:Int):∀(l:List Ba)(k:Int)(x:Ba)(o:Om),gP n k (l++ [x]) o=gH (gP n k l o) x (8+4*(n-1-(k+l.length)))
 | [],k,x,o=>by
  show gH o x (8+4*(n-1-k))=gH o x (8+4*(n-1-(k+((0:Nat):Int))));rw [show k+((0:Nat):Int)=k by omega]
 | y::l,k,x,o=>by
  show gP n (k+1) (l++ [x]) _=gH (gP n (k+1) l _) x _;rw [AV n l (k+1) x];rw [show k+1+(l.length:Int)=k+(((y::l).length:Nat):Int) by rw [bR];omega]
theorem Hv{n:Int}{l:List Ba}{i:Nat}{x:Ba}(o:Om)(h:l[i]?=some x):gP n 0 (l.take (i+1)) o=gH (gP n 0 (l.take i) o) x (8+4*(n-1-(i:Int))):=by
 obtain⟨hi,-⟩:=db.1 h;rw [cw h,AV,List.length_take,Nat.min_eq_left (by omega),show(0:Int)+(i:Int)=i by omega]
theorem iX:∀(n:Nat)(s:Qg),ek (n+1) s=(ek n s).push 0
 | 0,s=>rfl
 | n+1,s=>iX n (s.push 0)
theorem c_:∀(n:Nat)(s:Qg),(ek n s).sz=s.sz+2*n
 | 0,s=>rfl
 | n+1,s=>by
  rw [iX,df,c_ n];omega
theorem kO:∀(n:Nat)(s:Qg),(ek n s).labs=s.labs
 | 0,s=>rfl
 | n+1,s=>by
  rw [iX];exact kO n s
mutual
theorem Mk:∀t:Ty,vY t≤nY t
 | .mk k nm ve es vb body vl els=>by
  have h1:=nM body;have h2:=nM els;show(if k=1 then 1 else 0)+dD body+dD els≤1+eH es+cM body+cM els;split<;>omega
theorem nM:∀l:List Ty,dD l≤cM l
 | []=>cj _
 | t::r=>by
  have h1:=Mk t;have h2:=nM r;show vY t+dD r≤nY t+cM r;omega
end
theorem fc(s:Qg):s.lab.labs.length=s.labs.length+1:=by
 show(s.labs++ [0]).length=_;rw [bA,bV]
theorem eV(s:Qg)(l:Int):(s.place l).labs.length=s.labs.length:=by
 show(s.labs.set _ _).length=_;rw [List.length_set]
theorem AW(f:Tf):(dP f).2=(dD f.body:Int):=by
 show(gDs f.body (gP f.ps.length 0 f.ps [],0)).2=_;rw [qf];show(0:Int)+_=_;omega
theorem Ni(sm:Om)(f:Tf)(s:Qg):(gF sm f s).sz≤s.sz+24*cM f.body+60:=by
 have h1:=kg (dP f).1 sm ((s.labs.length:Int)+1) f.body (ek (dP f).2.toNat ((((((((((s.lab.lab).place (bO sm f.name)).emit [qi 16 12 12 1]).emit [qi 16 2 0 12]).jump 35 2 12 s.labs.length).emit [⟨49,0,0,0,0⟩]).place s.labs.length).push 15).push 13).emit [q3 1 13 14 0]));have h2:=nM f.body;have h3:=AW f;simp only [bN,df,ef,cx,bZ,ce,c_,bR,bG]at h1;show((((((((iB (dP f).1 sm ((s.labs.length:Int)+1) f.body (ek (dP f).2.toNat _)).emit [q3 1 1 0 0]).place ((s.labs.length:Int)+1)).emit [q3 1 14 13 0]).pop 13).pop 15).emit [qi 16 12 12 4294967295]).emit [qi 27 0 15 0]).sz≤_;simp only [bN,df,ef,cx,bZ,ce,bR,bG];omega
theorem Cu(e:Ga)(c:Oq)(sm:Om)(hm:e.mp=c.m)(f:Tf)(hr:mQ f.body=true)(hg:GF f)(s:Qg)(hst:0≤bO sm f.name∧bO sm f.name<s.labs.length)(hz:s.sz+24*cM f.body+100≤780000):
  Spec prog 54 [Pt e.g,Gp f] [gA e s] [CQ f,jj e.g c,mp gQ Prod.fst vI (some e.ms) sm] (X:=Nat) (fun _=>True) (fun _=> .tuple #[]) (fun b=> [gA ({e with mo:=some b,en:=((s.labs.length:Nat):Int)+1}:Ga) (gF sm f s)]) (fun _=> []):=by
 refine aM func54 J ntmps54 J fun w0 M H=> ?_
 have hpl:=hg.2.2.1;have hbl:=hg.2.2.2.1;have hgn:=hg.2.2.2.2.2;have hvn:=nM f.body;have hon:=AW f;obtain⟨nv,hnv⟩:∃nv,nv=(dP f).2.toNat:=⟨_,J⟩
 have hnl:(s.lab.labs.length:Int)=((s.labs.length:Nat):Int)+1:=by rw [fc];omega
 refine bc 0 3 J lJ (bc 0 4 J kF (ar (cA J J fun b3=>aF J (ad J (md (Prod.fst:Ba×Int→Ba) gQ vQ J fun b8=>bS J (aD mC J (uT 0 [0,21,22,23] J (by decide) J fun vc vf vl=>aB (k:=0) BS J J J J J J J J (uS 0 [0,21,22,23] ({e with mo:=some b8}:Ga) s vc vf vl J (by decide) (aa (aV (aD dW J ?_)))))))))));refine aT 3 h_ J J J J (aS (aL underlying46 J (aN (k:=3) J)) (ad J (aa (aC (bI (X:=Nat) (fun i=>i≤f.ps.length) (fun i=> [(0,Pt e.g),(3,Pt b3),(13,I6 (f.ps.length:Int)),(14,I6 (i:Int))]) (fun i=> [(0,gA ({e with mo:=some b8}:Ga) s),(3,be b3 66 (gu f)),(8,mp gQ Prod.fst vQ (some b8) (gP (f.ps.length:Int) 0 (f.ps.take i) []))]) (fun i=> [(0,CQ f),(1,jj e.g c),(2,mp gQ Prod.fst vI (some e.ms) sm),(3,sl 1 eS (sv f.vp) f.ps),(4,b_ f.vb f.body)]) (fun i=>f.ps.length-i) 0 (bq _) J J J (fun i n1=>ar (av J J cy (aa (aZ (am J (fun h1=> ?_) (fun h1=> ?_)))))))))))
 ·(try simp only [bk]at h1);have hi:i<f.ps.length:=by omega
  obtain⟨x,hx⟩:∃x,f.ps[i]?=some x:=⟨_,bT hi⟩
  refine aA (aZ (aC (ar (ad J (aq J (aa ?_))))));refine bQ [17,18,19,20,21,22,23,24,25,26,27,28,29,30,31,32,33,34] _ J (bH (V:= [(0,17,_),(1,18,_),(2,19,_),(3,20,_),(4,21,_),(5,22,_),(6,23,_),(7,24,_),(8,25,_),(9,26,_),(10,27,_),(11,28,_),(12,29,_),(13,30,_),(14,31,_),(15,32,_),(16,33,_),(17,34,_)]) [0,1,2,3,4,5,6,7,8,9,10,11,12,13,14,15,16,17] 18 [18,17,16,15,14,13,12,11,10,9,8,7,6,5,4,3,2,1,0] [] (fun _=> []) J J (ay J J (ac J (aj J) (ac J (ah mC J) (ac J (ae BS J J (pi (k:=0) J (fun _=>J) J)) (ac J (ah dW J) (ac J (ae h_ J J (ax (k:=3) J J)) (ay J J (ac J (aK (j:=i) underlying46 t9 J J (aN (k:=3) J) (by first|rfl|omega) (by first|omega|(simp;done)|(simp;omega))) (ac J (ae t9 J J (bJ (aN (k:=3) J) (by intro _;rfl) hx (by rfl))) (ac J (ah dW J) (ac J (ae h_ J J (ax (k:=3) J J)) (ac J (aL underlying46 J (aN (k:=3) J)) (ac J (aU J J eL) (ay J J (ac J (aU J J eL) (ac J (aU J J kB) (ac J (aU J J aO) (ac J (cB underlying3 underlying41 J (by first|exact cf (by omega)|rfl)) ag)))))))))))))))))) J J J J J J J J J (fun _ _=>J) J (jk (k:=8) (α:=Ba×Int) (kf:=Prod.fst) (vf:=vQ) (x,8+4*((f.ps.length:Int)-1-i)) (gH (gP (f.ps.length:Int) 0 (f.ps.take i) []) x (8+4*((f.ps.length:Int)-1-i))) underlying108 fB J J J J (List.Perm.refl _)) (fun _ _=>bn [] J J ag J J J ?_));refine ap (av J J aO (ad J (aa ?_)));refine aG (i+1) ⟨by omega,by omega⟩ J (by rw [Hv [] hx];rfl) J
 ·(try simp only [bk]at h1);have hi:i=f.ps.length:=by omega
  subst hi;refine bM (ar (aX t3 J J fun b5=>aB (k:=5) t3 J J J J J J J J (aa (aZ ?_))));rw [cV];refine ap (ad J (aD bX J (aT 3 eR J J J J (dj (xs:= [.tmp 36,.tmp 38,.tmp 5]) (Cw e.g e.vp e.ms b8 e.mp e.en s b5 f.vb f.body hg.2.2.2.2.1 hbl (gP (f.ps.length:Int) 0 f.ps [],0) (Int.le_refl _) (by dsimp only;omega)) Ln [0,8,5] [(false,4)] [0,8,5] J J J (fun _ _=> ?_)))));obtain⟨om,hom⟩:∃om,om=(dP f).1:=⟨_,J⟩
  refine aF J (ad J (ak (xs:= [.tmp 40]) (fU ({e with mo:=some b8}:Ga) (s) (by omega)) vX [0] [] [0] (fun _ _=>aq J (aF J (ad J (ad J (ak (xs:= [.tmp 43]) (fU ({e with mo:=some b8}:Ga) ((s).lab) (by(try simp only [bN,df,ef,dV,cx,bZ,ce,c_,bR,bG]);omega)) vX [0] [] [0] (fun _ _=> ?_))))))));rw [hnl];refine bS J (aD vN J (uT 0 [0,21,22,23] J (by decide) J fun vc vf vl=>aB (k:=0) t3 J J J J J J J J (uS 0 [0,21,22,23] ({e with mo:=some b8,en:=((s.labs.length:Nat):Int)+1}:Ga) (((s).lab).lab) vc vf vl J (by decide) (aa (aZ ?_)))));refine bQ [47,48,49,50,51,52,53,54,55] _ J (aW (V:= [(0,47,_),(1,48,_),(2,49,_),(3,50,_),(4,51,_),(5,52,_),(6,53,_),(7,54,_)]) [0,1,2,3,4,5,6,7] 8 [8,7,6,5,4,3,2,1,0] [] (fun _=> []) J J (ay J J (ay J J (ac J (aj J) (ac J (ah oz J) (ac J (ae Dk J J (pi (k:=0) J (fun _=>J) J)) (ac J (ah jG J) (ac J (ae t9 J J (ax (k:=3) J J)) (ac J (D0 underlying105 fB t3 J J (ub (k:=2) J)) ag)))))))) J J J J J J J J J J J (fun _ _=>J) J (bw (xs:= [.tmp 47,.tmp 54]) (eZ ({e with mo:=some b8,en:=((s.labs.length:Nat):Int)+1}:Ga) (((s).lab).lab) (by(try simp only [bN,df,ef,dV,cx,bZ,ce,c_,bR,bG]);omega) (bO sm f.name) ⟨hst.1,by rw [fc,fc];omega⟩) sV [0] [] [0]) (fun _ _=>bn [] J J ag J J J ?_))
  refine ar (ad J (ak (xs:= [.tmp 56,.const (I6 16),.const (I6 12),.const (I6 12),.const (I3 1)]) (dA ({e with mo:=some b8,en:=((s.labs.length:Nat):Int)+1}:Ga) ((((s).lab).lab).place (bO sm f.name)) (by(try simp only [bN,df,ef,dV,cx,bZ,ce,c_,bR,bG]);omega) 16 12 12 1) jT [0] [] [0] (fun _ _=>aF J (ad J (ak (xs:= [.tmp 58,.const (I6 16),.const (I6 2),.const (I6 0),.const (I3 12)]) (dA ({e with mo:=some b8,en:=((s.labs.length:Nat):Int)+1}:Ga) (((((s).lab).lab).place (bO sm f.name)).emit [qi 16 12 12 1]) (by(try simp only [bN,df,ef,dV,cx,bZ,ce,c_,bR,bG]);omega) 16 2 0 12) jT [0] [] [0] (fun _ _=>aF J (ad J (ad J (ak (xs:= [.tmp 60,.const (I6 35),.const (I6 2),.const (I6 12),.tmp 61]) (gf ({e with mo:=some b8,en:=((s.labs.length:Nat):Int)+1}:Ga) ((((((s).lab).lab).place (bO sm f.name)).emit [qi 16 12 12 1]).emit [qi 16 2 0 12]) (by(try simp only [bN,df,ef,dV,cx,bZ,ce,c_,bR,bG]);omega) 35 2 12 ((s.labs.length:Nat):Int)) tJ [0] [] [0] (fun _ _=>aF J (ad J (aS (aR (parts:= [(0,.const (I6 49))]) fH mS J J) ?_))))))))))));refine bj iY ⟨49,0,0,0,0⟩ underlying106 fH J (by decide) (by decide) J J J J fun v65=>cW 65 7 J ch (ak (xs:= [.tmp 63,.tmp 65]) (iJ ({e with mo:=some b8,en:=((s.labs.length:Nat):Int)+1}:Ga) (((((((s).lab).lab).place (bO sm f.name)).emit [qi 16 12 12 1]).emit [qi 16 2 0 12]).jump 35 2 12 ((s.labs.length:Nat):Int)) (by(try simp only [bN,df,ef,dV,cx,bZ,ce,c_,bR,bG]);omega) v65 [⟨49,0,0,0,0⟩] (by simp)) xD [0] [(false,7)] [0] (fun _ _=>aF J (ad J (ad J ?_))))
  refine dG (xs:= [.tmp 67,.tmp 68]) (eZ ({e with mo:=some b8,en:=((s.labs.length:Nat):Int)+1}:Ga) ((((((((s).lab).lab).place (bO sm f.name)).emit [qi 16 12 12 1]).emit [qi 16 2 0 12]).jump 35 2 12 ((s.labs.length:Nat):Int)).emit [⟨49,0,0,0,0⟩]) (by(try simp only [bN,df,ef,dV,cx,bZ,ce,c_,bR,bG]);omega) ((s.labs.length:Nat):Int) ⟨by omega,by show _<(((((((s).lab).lab).place (bO sm f.name)).labs.length:Nat)):Int);rw [eV,fc,fc];omega⟩) sV [0] [] [0] J J J J J J J J (fun _ _=>J) (fun _ _ _=>J) J (fun _ _=> ?_);refine aF J (ad J (ak (xs:= [.tmp 70,.const (I6 15)]) (jq ({e with mo:=some b8,en:=((s.labs.length:Nat):Int)+1}:Ga) (((((((((s).lab).lab).place (bO sm f.name)).emit [qi 16 12 12 1]).emit [qi 16 2 0 12]).jump 35 2 12 ((s.labs.length:Nat):Int)).emit [⟨49,0,0,0,0⟩]).place ((s.labs.length:Nat):Int)) (by(try simp only [bN,df,ef,dV,cx,bZ,ce,c_,bR,bG]);omega) 15) CH [0] [] [0] (fun _ _=>aF J (ad J (ak (xs:= [.tmp 72,.const (I6 13)]) (jq ({e with mo:=some b8,en:=((s.labs.length:Nat):Int)+1}:Ga) ((((((((((s).lab).lab).place (bO sm f.name)).emit [qi 16 12 12 1]).emit [qi 16 2 0 12]).jump 35 2 12 ((s.labs.length:Nat):Int)).emit [⟨49,0,0,0,0⟩]).place ((s.labs.length:Nat):Int)).push 15) (by(try simp only [bN,df,ef,dV,cx,bZ,ce,c_,bR,bG]);omega) 13) CH [0] [] [0] (fun _ _=>aF J (ad J (ak (xs:= [.tmp 74,.const (I6 1),.const (I6 13),.const (I6 14),.const (I6 0)]) (dQ ({e with mo:=some b8,en:=((s.labs.length:Nat):Int)+1}:Ga) (((((((((((s).lab).lab).place (bO sm f.name)).emit [qi 16 12 12 1]).emit [qi 16 2 0 12]).jump 35 2 12 ((s.labs.length:Nat):Int)).emit [⟨49,0,0,0,0⟩]).place ((s.labs.length:Nat):Int)).push 15).push 13) (by(try simp only [bN,df,ef,dV,cx,bZ,ce,c_,bR,bG]);omega) 1 13 14 0) nG [0] [] [0] (fun _ _=>aa (aV (aT 5 t3 J J J J ?_)))))))))));refine ad J (aa (aC ?_));have hnc:((gDs f.body (gP (f.ps.length:Int) 0 f.ps [],0)).2:Int)=(nv:Int):=by
   have:(dP f).2=(nv:Int):=by omega
   exact this
  rw [hnc];refine bI (X:=Nat) (fun i=>i≤nv) (fun i=> [(0,Pt e.g),(3,Pt b3),(76,I6 (nv:Int)),(77,I6 (i:Int))]) (fun i=> [(0,gA ({e with mo:=some b8,en:=((s.labs.length:Nat):Int)+1}:Ga) (ek i ((((((((((((s).lab).lab).place (bO sm f.name)).emit [qi 16 12 12 1]).emit [qi 16 2 0 12]).jump 35 2 12 ((s.labs.length:Nat):Int)).emit [⟨49,0,0,0,0⟩]).place ((s.labs.length:Nat):Int)).push 15).push 13).emit [q3 1 13 14 0]))),(3,be b3 66 (gu f)),(8,mp gQ Prod.fst vQ (some b8) om)]) (fun i=> [(0,CQ f),(1,jj e.g c),(2,mp gQ Prod.fst vI (some e.ms) sm),(3,sl 1 eS (sv f.vp) f.ps),(4,b_ f.vb f.body)]) (fun i=>nv-i) 0 (bq _) J (by rw [hom];rfl) J (fun i n1=>ar (av J J cy (aa (aZ (am J (fun h2=> ?_) (fun h2=> ?_))))))
  ·(try simp only [bk]at h2);have hi:i<nv:=by omega
   refine aA (aZ (aC (ap (ad J (ak (xs:= [.tmp 79,.const (I6 0)]) (jq ({e with mo:=some b8,en:=((s.labs.length:Nat):Int)+1}:Ga) (ek i ((((((((((((s).lab).lab).place (bO sm f.name)).emit [qi 16 12 12 1]).emit [qi 16 2 0 12]).jump 35 2 12 ((s.labs.length:Nat):Int)).emit [⟨49,0,0,0,0⟩]).place ((s.labs.length:Nat):Int)).push 15).push 13).emit [q3 1 13 14 0])) (by(try simp only [bN,df,ef,dV,cx,bZ,ce,c_,bR,bG]);omega) 0) CH [0] [] [0] (fun _ _=>aa (ap (av J J aO (ad J (aa ?_))))))))));refine aG (i+1) ⟨by omega,by omega⟩ J (by rw [iX];rfl) J
  ·(try simp only [bk]at h2);have hi:nv=i:=by omega
   subst hi;refine bM (ar (ad J (aD bX J (aT 3 eR J J J J (dG (xs:= [.tmp 82,.tmp 84]) (EO ({e with mo:=some b8,en:=((s.labs.length:Nat):Int)+1}:Ga) c om sm hm (by dsimp only;omega) f.vb f.body hr hg.2.2.2.2.1 hbl (ek nv ((((((((((((s).lab).lab).place (bO sm f.name)).emit [qi 16 12 12 1]).emit [qi 16 2 0 12]).jump 35 2 12 ((s.labs.length:Nat):Int)).emit [⟨49,0,0,0,0⟩]).place ((s.labs.length:Nat):Int)).push 15).push 13).emit [q3 1 13 14 0])) (by(try simp only [bN,df,ef,dV,cx,bZ,ce,c_,bR,bG]);omega)) Fw [0] [(false,4),(false,1),(true,8),(false,2)] [0] J J J J J (by rw [hom];rfl) J J (fun _ _=>J) (fun _ _ _=>J) J (fun _ _=> ?_))))));have hbz:=kg om sm (((s.labs.length:Nat):Int)+1) f.body (ek nv ((((((((((((s).lab).lab).place (bO sm f.name)).emit [qi 16 12 12 1]).emit [qi 16 2 0 12]).jump 35 2 12 ((s.labs.length:Nat):Int)).emit [⟨49,0,0,0,0⟩]).place ((s.labs.length:Nat):Int)).push 15).push 13).emit [q3 1 13 14 0]));simp only [bN,df,ef,dV,cx,bZ,ce,c_,bR,bG]at hbz;have hbl2:=jZ om sm (((s.labs.length:Nat):Int)+1) f.body (ek nv ((((((((((((s).lab).lab).place (bO sm f.name)).emit [qi 16 12 12 1]).emit [qi 16 2 0 12]).jump 35 2 12 ((s.labs.length:Nat):Int)).emit [⟨49,0,0,0,0⟩]).place ((s.labs.length:Nat):Int)).push 15).push 13).emit [q3 1 13 14 0]));rw [kO]at hbl2;have hbl3:((((((((((((s).lab).lab).place (bO sm f.name)).emit [qi 16 12 12 1]).emit [qi 16 2 0 12]).jump 35 2 12 ((s.labs.length:Nat):Int)).emit [⟨49,0,0,0,0⟩]).place ((s.labs.length:Nat):Int)).push 15).push 13).emit [q3 1 13 14 0]).labs.length=s.labs.length+2:=by
    show(((((((((s).lab).lab).place (bO sm f.name)).emit [qi 16 12 12 1]).emit [qi 16 2 0 12]).jump 35 2 12 ((s.labs.length:Nat):Int)).emit [⟨49,0,0,0,0⟩]).place ((s.labs.length:Nat):Int)).labs.length=_;rw [eV];show((((s).lab).lab).place (bO sm f.name)).labs.length=_;rw [eV,fc,fc]
   refine aF J (ad J (ak (xs:= [.tmp 86,.const (I6 1),.const (I6 1),.const (I6 0),.const (I6 0)]) (dQ ({e with mo:=some b8,en:=((s.labs.length:Nat):Int)+1}:Ga) (iB om sm (((s.labs.length:Nat):Int)+1) f.body (ek nv ((((((((((((s).lab).lab).place (bO sm f.name)).emit [qi 16 12 12 1]).emit [qi 16 2 0 12]).jump 35 2 12 ((s.labs.length:Nat):Int)).emit [⟨49,0,0,0,0⟩]).place ((s.labs.length:Nat):Int)).push 15).push 13).emit [q3 1 13 14 0]))) (by(try simp only [bN,df,ef,dV,cx,bZ,ce,c_,bR,bG]);omega) 1 1 0 0) nG [0] [] [0] (fun _ _=>aF J (ad J (ad J (bS J (aD vN J (aS (ae t3 J J (pi (k:=0) J (fun _=>J) J)) ?_))))))));refine dG (xs:= [.tmp 88,.tmp 92]) (eZ ({e with mo:=some b8,en:=((s.labs.length:Nat):Int)+1}:Ga) ((iB om sm (((s.labs.length:Nat):Int)+1) f.body (ek nv ((((((((((((s).lab).lab).place (bO sm f.name)).emit [qi 16 12 12 1]).emit [qi 16 2 0 12]).jump 35 2 12 ((s.labs.length:Nat):Int)).emit [⟨49,0,0,0,0⟩]).place ((s.labs.length:Nat):Int)).push 15).push 13).emit [q3 1 13 14 0]))).emit [q3 1 1 0 0]) (by(try simp only [bN,df,ef,dV,cx,bZ,ce,c_,bR,bG]);omega) (((s.labs.length:Nat):Int)+1) ⟨by omega,by show _<((((iB om sm (((s.labs.length:Nat):Int)+1) f.body (ek nv ((((((((((((s).lab).lab).place (bO sm f.name)).emit [qi 16 12 12 1]).emit [qi 16 2 0 12]).jump 35 2 12 ((s.labs.length:Nat):Int)).emit [⟨49,0,0,0,0⟩]).place ((s.labs.length:Nat):Int)).push 15).push 13).emit [q3 1 13 14 0]))).labs.length:Nat)):Int);omega⟩) sV [0] [] [0] J J J J J J J J (fun _ _=>J) (fun _ _ _=>J) J (fun _ _=> ?_)
   refine aF J (ad J (ak (xs:= [.tmp 94,.const (I6 1),.const (I6 14),.const (I6 13),.const (I6 0)]) (dQ ({e with mo:=some b8,en:=((s.labs.length:Nat):Int)+1}:Ga) (((iB om sm (((s.labs.length:Nat):Int)+1) f.body (ek nv ((((((((((((s).lab).lab).place (bO sm f.name)).emit [qi 16 12 12 1]).emit [qi 16 2 0 12]).jump 35 2 12 ((s.labs.length:Nat):Int)).emit [⟨49,0,0,0,0⟩]).place ((s.labs.length:Nat):Int)).push 15).push 13).emit [q3 1 13 14 0]))).emit [q3 1 1 0 0]).place (((s.labs.length:Nat):Int)+1)) (by(try simp only [bN,df,ef,dV,cx,bZ,ce,c_,bR,bG]);omega) 1 14 13 0) nG [0] [] [0] (fun _ _=>aF J (ad J (ak (xs:= [.tmp 96,.const (I6 13)]) (nW ({e with mo:=some b8,en:=((s.labs.length:Nat):Int)+1}:Ga) ((((iB om sm (((s.labs.length:Nat):Int)+1) f.body (ek nv ((((((((((((s).lab).lab).place (bO sm f.name)).emit [qi 16 12 12 1]).emit [qi 16 2 0 12]).jump 35 2 12 ((s.labs.length:Nat):Int)).emit [⟨49,0,0,0,0⟩]).place ((s.labs.length:Nat):Int)).push 15).push 13).emit [q3 1 13 14 0]))).emit [q3 1 1 0 0]).place (((s.labs.length:Nat):Int)+1)).emit [q3 1 14 13 0]) (by(try simp only [bN,df,ef,dV,cx,bZ,ce,c_,bR,bG]);omega) 13) Id [0] [] [0] (fun _ _=>aF J (ad J (ak (xs:= [.tmp 98,.const (I6 15)]) (nW ({e with mo:=some b8,en:=((s.labs.length:Nat):Int)+1}:Ga) (((((iB om sm (((s.labs.length:Nat):Int)+1) f.body (ek nv ((((((((((((s).lab).lab).place (bO sm f.name)).emit [qi 16 12 12 1]).emit [qi 16 2 0 12]).jump 35 2 12 ((s.labs.length:Nat):Int)).emit [⟨49,0,0,0,0⟩]).place ((s.labs.length:Nat):Int)).push 15).push 13).emit [q3 1 13 14 0]))).emit [q3 1 1 0 0]).place (((s.labs.length:Nat):Int)+1)).emit [q3 1 14 13 0]).pop 13) (by(try simp only [bN,df,ef,dV,cx,bZ,ce,c_,bR,bG]);omega) 15) Id [0] [] [0] (fun _ _=> ?_)))))))))
   refine aF J (ad J (ak (xs:= [.tmp 100,.const (I6 16),.const (I6 12),.const (I6 12),.const (I3 4294967295)]) (dA ({e with mo:=some b8,en:=((s.labs.length:Nat):Int)+1}:Ga) ((((((iB om sm (((s.labs.length:Nat):Int)+1) f.body (ek nv ((((((((((((s).lab).lab).place (bO sm f.name)).emit [qi 16 12 12 1]).emit [qi 16 2 0 12]).jump 35 2 12 ((s.labs.length:Nat):Int)).emit [⟨49,0,0,0,0⟩]).place ((s.labs.length:Nat):Int)).push 15).push 13).emit [q3 1 13 14 0]))).emit [q3 1 1 0 0]).place (((s.labs.length:Nat):Int)+1)).emit [q3 1 14 13 0]).pop 13).pop 15) (by(try simp only [bN,df,ef,dV,cx,bZ,ce,c_,bR,bG]);omega) 16 12 12 4294967295) jT [0] [] [0] (fun _ _=>aa (ap (ad J (ak (xs:= [.tmp 102,.const (I6 27),.const (I6 0),.const (I6 15),.const (I3 0)]) (dA ({e with mo:=some b8,en:=((s.labs.length:Nat):Int)+1}:Ga) (((((((iB om sm (((s.labs.length:Nat):Int)+1) f.body (ek nv ((((((((((((s).lab).lab).place (bO sm f.name)).emit [qi 16 12 12 1]).emit [qi 16 2 0 12]).jump 35 2 12 ((s.labs.length:Nat):Int)).emit [⟨49,0,0,0,0⟩]).place ((s.labs.length:Nat):Int)).push 15).push 13).emit [q3 1 13 14 0]))).emit [q3 1 1 0 0]).place (((s.labs.length:Nat):Int)+1)).emit [q3 1 14 13 0]).pop 13).pop 15).emit [qi 16 12 12 4294967295]) (by(try simp only [bN,df,ef,dV,cx,bZ,ce,c_,bR,bG]);omega) 27 0 15 0) jT [0] [] [0] (fun _ _=>aa (cQ b8 O J iz J [0] [] J (by rw [hom,hnv];rfl) J))))))))
structure okG(s:Qg):Prop where
 fx:∀p∈s.fixes,(0≤p.1∧p.1<s.code.length)∧(0≤p.2∧p.2<s.labs.length)
 im:∀q∈s.code,oW q.imm
theorem okG.emit{s:Qg}(h:okG s){l:List Qi}(hl:∀q∈l,oW q.imm):okG (s.emit l):=by
 refine⟨fun p hp=> ?_,fun q hq=> ?_⟩
 ·have:=h.fx p hp;show(_∧p.1<((s.code++l).length:Int))∧(_∧p.2<(s.labs.length:Int));rw [bA];omega
 ·rcases List.mem_append.1 hq with hq|hq
  ·exact h.im q hq
  ·exact hl q hq
theorem okG.lab{s:Qg}(h:okG s):okG s.lab:=by
 refine⟨fun p hp=> ?_,h.im⟩;have:=h.fx p hp;rw [fc];exact⟨this.1,this.2.1,by omega⟩
theorem okG.place{s:Qg}(h:okG s)(l:Int):okG (s.place l):=by
 refine⟨fun p hp=> ?_,h.im⟩;have:=h.fx p hp;rw [eV];exact this
theorem okG.jump{s:Qg}(h:okG s)(op d a:Int){l:Int}(hl:0≤l∧l<s.labs.length):okG (s.jump op d a l):=by
 refine⟨fun p hp=> ?_,fun q hq=> ?_⟩
 ·show(_∧p.1<((s.code++ [qi op d a 0]).length:Int))∧(_∧p.2<(s.labs.length:Int));rw [bA,bV];rcases List.mem_append.1 hp with hp|hp
  ·have:=h.fx p hp;omega
  ·rw [List.mem_singleton.1 hp];dsimp only;omega
 ·rcases List.mem_append.1 hq with hq|hq
  ·exact h.im q hq
  ·rw [List.mem_singleton.1 hq];exact lm
theorem QF{q:Qi}(h:oW q.imm):∀x∈ [q],oW x.imm:=fun x hx=>by rw [List.mem_singleton.1 hx];exact h
theorem okG.one{s:Qg}(h:okG s){q:Qi}(hq:oW q.imm):okG (s.emit [q]):=h.emit (QF hq)
theorem okG.push{s:Qg}(h:okG s)(r:Int):okG (s.push r):=(h.one (q:=qi 16 14 14 4294967292) ⟨by decide,by decide⟩).one (q:=qi 25 r 14 0) lm
theorem okG.pop{s:Qg}(h:okG s)(r:Int):okG (s.pop r):=(h.one (q:=qi 23 r 14 0) lm).one (q:=qi 16 14 14 4) ⟨by decide,by decide⟩
theorem okG.elem{s:Qg}(h:okG s)(r:Int):okG (s.elem r):=(h.one (q:=qi 17 r r 255) (show oW 255 from⟨by decide,by decide⟩)).one (q:=qi 20 r r 2) (show oW 2 from⟨by decide,by decide⟩)
theorem okG.ite{c:Prop} [Decidable c]{a b:Qg}(h1:okG a)(h2:okG b):okG (if c then a else b):=by split;exact h1;exact h2
theorem okG.op{s:Qg}(h:okG s)(o:Ba):okG (qu o s):=by
 have w1:oW 1:=⟨by decide,by decide⟩
 have t:∀{s:Qg},okG s→∀op d a b,okG (s.emit [q3 op d a b]):=fun h op d a b=>h.one lm
 have i1:∀{s:Qg},okG s→okG (s.emit [qi 19 1 1 1]):=fun h=>h.one w1
 have l2:(s.labs.length:Int)<s.lab.labs.length:=by rw [fc];omega
 unfold qu
 repeat' (refine okG.ite ?_ ?_)
 ·exact t h _ _ _ _
 ·exact t h _ _ _ _
 ·exact t h _ _ _ _
 ·exact t h _ _ _ _
 ·exact t h _ _ _ _
 ·exact t h _ _ _ _
 ·exact t h _ _ _ _
 ·exact t h _ _ _ _
 ·exact t h _ _ _ _
 ·exact t h _ _ _ _
 ·exact i1 (t h _ _ _ _)
 ·exact i1 (t h _ _ _ _)
 ·exact t (t h _ _ _ _) _ _ _ _
 ·exact i1 (t (t h _ _ _ _) _ _ _ _)
 ·exact(t (h.lab.jump 32 1 0 ⟨by omega,l2⟩) _ _ _ _).place _
 ·exact t ((t (t ((t h.lab _ _ _ _).jump 32 1 0 (l:=(s.labs.length:Int)) ⟨by omega,l2⟩) _ _ _ _) _ _ _ _).place _) _ _ _ _
 ·exact h
theorem okG.un{s:Qg}(h:okG s)(o:Ba):okG (EU o s):=by
 unfold EU
 repeat' (refine okG.ite ?_ ?_)
 ·exact h.one lm
 ·exact(h.one (q:=qi 16 2 0 4294967295) ⟨by decide,by decide⟩).one lm
 ·exact(h.one (q:=qi 16 2 0 1) ⟨by decide,by decide⟩).one lm
 ·exact h
theorem okG.num{s:Qg}(h:okG s){n:Int}(hn:oW n):okG (sd n s):=by
 have h1:=hn.1;have h2:=hn.2;unfold sd;refine okG.ite (h.one hn) (h.emit fun q hq=> ?_);simp only [List.mem_cons,List.not_mem_nil,or_false]at hq;rcases hq with rfl|rfl
 ·show oW (n/1024);exact⟨by omega,by omega⟩
 ·show oW (n%1024);exact⟨by omega,by omega⟩
structure okL(o st:Om)(k:Nat):Prop where
 o:∀x,oW (bO o x)
 st:∀x,0≤bO st x∧bO st x<k
mutual
theorem I0{o st:Om}{k:Nat}(hk:okL o st k):∀(t:Tx)(s:Qg),GX t→k≤s.labs.length→okG s→okG (gX o st t s)
 | .mk kd n nm v kids,s,hg,hs,h=>by
  have h0:=zc hk kids s hg.2.2.2 hs h;have l0:=AS o st kids s;have h1:=ET hk kids ((mu o st kids s).push 1) hg.2.2.2 (by show k≤(mu o st kids s).labs.length;omega) (h0.push 1);have h2:=ER hk kids s hg.2.2.2 hs h;have l2:s.labs.length≤(ud o st kids s).labs.length:=(vG (K:=fun _=>False) (S:=fun _=>0) (fun _ h=>h.elim) kids s).labs_le;have hst:=hk.st nm;have hkl:=hg.2.2.1;unfold gX;refine okG.ite (h.num hg.1) (okG.ite (h.one (q:=qi 23 1 13 (bO o nm)) (hk.o nm)) (okG.ite (h.one (q:=⟨48,0,0,0,2⟩) ⟨by decide,by decide⟩) (okG.ite ((h0.elem 1).one (q:=qi 23 1 1 8192) ⟨by decide,by decide⟩) (okG.ite (h0.un nm) (okG.ite ((h1.pop 2).op nm) (okG.ite ?_ h))))));have hj:=h2.jump 40 15 0 (l:=bO st nm) ⟨hst.1,by omega⟩;refine okG.ite (hj.one (q:=qi 16 14 14 (4*kids.length)) ?_) hj;show oW (4*(kids.length:Int));exact⟨by omega,by omega⟩
theorem zc{o st:Om}{k:Nat}(hk:okL o st k):∀(l:List Tx)(s:Qg),GXs l→k≤s.labs.length→okG s→okG (mu o st l s)
 | [],s,_,_,h=>h
 | t::_,s,hg,hs,h=>I0 hk t s hg.1 hs h
theorem ET{o st:Om}{k:Nat}(hk:okL o st k):∀(l:List Tx)(s:Qg),GXs l→k≤s.labs.length→okG s→okG (L4 o st l s)
 | [],s,_,_,h=>h
 | _::r,s,hg,hs,h=>zc hk r s hg.2 hs h
theorem ER{o st:Om}{k:Nat}(hk:okL o st k):∀(l:List Tx)(s:Qg),GXs l→k≤s.labs.length→okG s→okG (ud o st l s)
 | [],s,_,_,h=>h
 | t::r,s,hg,hs,h=>ER hk r _ hg.2 (by have:=ES o st t s;show k≤(gX o st t s).labs.length;omega) ((I0 hk t s hg.1 hs h).push 1)
end
mutual
theorem Ng{o st:Om}{k:Nat}(hk:okL o st k){en:Int}(he:0≤en∧en<k):∀(t:Ty)(s:Qg),GY t→k≤s.labs.length→okG s→okG (gY o st en t s)
 | .mk kd nm ve es vb body vl els,s,hg,hs,h=>by
  have hs0:k≤((s.lab.place s.labs.length)).labs.length:=by rw [eV,fc];omega
  have hl0:s.labs.length<((s.lab.place s.labs.length)).labs.length:=by rw [eV,fc];omega
  have h0:=zc hk es _ hg.2.1.2 hs0 (h.lab.place s.labs.length);have l0:=AS o st es (s.lab.place s.labs.length);have h1:=ET hk es ((mu o st es (s.lab.place s.labs.length)).push 1) hg.2.1.2 (by show k≤(mu o st es _).labs.length;omega) (h0.push 1);unfold gY;dsimp only;generalize mu o st es (s.lab.place s.labs.length)=s1 at h0 l0 h1;refine okG.ite (h0.one (q:=qi 25 1 13 (bO o nm)) (hk.o nm)) (okG.ite (((h1.pop 2).elem 2).one (q:=qi 25 1 2 8192) ⟨by decide,by decide⟩) (okG.ite (h0.one (q:=⟨48,0,0,0,1⟩) ⟨by decide,by decide⟩) (okG.ite (h0.jump 40 0 0 ⟨he.1,by omega⟩) (okG.ite ?_ (okG.ite ?_ h0)))))
  ·have e2:(s1.lab.lab).labs.length=s1.labs.length+2:=by rw [fc,fc]
   have h2:=r9 hk he body _ hg.2.2.1.2 (by show k≤(s1.lab.lab).labs.length;omega) (h0.lab.lab.jump 32 1 0 (l:=(s1.labs.length:Int)) ⟨by omega,by omega⟩);have l2:=jZ o st en body ((s1.lab.lab).jump 32 1 0 s1.labs.length);have l2':(s1.lab.lab).labs.length≤_:=l2;have h3:okG (if els.length>0 then(iB o st en body ((s1.lab.lab).jump 32 1 0 s1.labs.length)).jump 40 0 0 ((s1.labs.length:Int)+1)else iB o st en body ((s1.lab.lab).jump 32 1 0 s1.labs.length)):=okG.ite (h2.jump 40 0 0 ⟨by omega,by omega⟩) h2;have l3:k≤(if els.length>0 then(iB o st en body ((s1.lab.lab).jump 32 1 0 s1.labs.length)).jump 40 0 0 ((s1.labs.length:Int)+1)else iB o st en body ((s1.lab.lab).jump 32 1 0 s1.labs.length)).labs.length:=by
    split
    ·show k≤(iB o st en body _).labs.length;omega
    ·omega
   exact(r9 hk he els _ hg.2.2.2.2 (by rw [eV];exact l3) (h3.place _)).place _
  ·have e2:(s1.lab).labs.length=s1.labs.length+1:=fc s1;have h2:=r9 hk he body _ hg.2.2.1.2 (by show k≤(s1.lab).labs.length;omega) (h0.lab.jump 32 1 0 (l:=(s1.labs.length:Int)) ⟨by omega,by omega⟩);have l2:=jZ o st en body ((s1.lab).jump 32 1 0 s1.labs.length);have l2':(s1.lab).labs.length≤_:=l2;exact(h2.jump 40 0 0 (l:=(s.labs.length:Int)) ⟨by omega,by omega⟩).place _
theorem r9{o st:Om}{k:Nat}(hk:okL o st k){en:Int}(he:0≤en∧en<k):∀(l:List Ty)(s:Qg),GYs l→k≤s.labs.length→okG s→okG (iB o st en l s)
 | [],s,_,_,h=>h
 | t::r,s,hg,hs,h=>r9 hk he r _ hg.2 (by
   have:=(EQ (K:=fun _=>False) (S:=fun _=>0) (E:=0) t s (fun _ h=>h.elim) (fun _ h=>h.elim):Res (fun _=>False) s (gY o st en t s) _).labs_le;omega) (Ng hk he t s hg.1 hs h)
end
theorem iw(o:Om)(x y:Ba)(n:Int):bO (gH o x n) y=if x=y then n else bO o y:=by
 unfold bO gH;rw [List.find?_cons];by_cases h:x=y
 ·rw [aw h];simp only [decide_eq_true h]
 ·rw [ai h];simp only [decide_eq_false h]
  induction o with
  | nil=>rfl
  | cons p r ih=>
   rw [List.filter_cons];by_cases hp:p.1=x
   ·rw [ai (by simp [hp]),ih,List.find?_cons];simp only [decide_eq_false (show ¬p.1=y from fun e=>h (hp.symm.trans e))]
   ·rw [aw (by simp [hp]),List.find?_cons,List.find?_cons];by_cases hy:p.1=y
    ·simp only [decide_eq_true hy]
    ·simp only [decide_eq_false hy];exact ih
def o9:List Tf→Ba→Nat
 | [],_=>0
 | f::r,x=>if f.name=x then 0 else o9 r x+1
theorem AU:∀(fs:List Tf)(p:Om×Qg)(x:Ba),(fs.map Tf.name).Nodup→(x∈fs.map Tf.name→bO (oR fs p).1 x=((p.2.labs.length+o9 fs x:Nat):Int))∧(x∉fs.map Tf.name→bO (oR fs p).1 x=bO p.1 x)
 | [],p,x,_=>⟨fun h=>by simp at h,fun _=>rfl⟩
 | f::r,p,x,h=>by
  rw [List.map_cons,List.nodup_cons]at h;unfold oR;obtain⟨i1,i2⟩:=AU r (gH p.1 f.name p.2.labs.length,p.2.lab) x h.2;have hl:(p.2.lab).labs.length=p.2.labs.length+1:=by
   show(p.2.labs++ [0]).length=_;rw [bA,bV]
  rw [hl]at i1;by_cases hx:x∈r.map Tf.name
  ·have hf:¬f.name=x:=fun e=>h.1 (by rw [e];exact hx)
   refine⟨fun _=> ?_,fun hn=>absurd (List.mem_cons_of_mem _ hx) hn⟩;rw [i1 hx,show o9 (f::r) x=o9 r x+1 from ai hf]
   congr 1
   omega
  ·rw [i2 hx];show(_→bO (gH p.1 f.name (p.2.labs.length:Int)) x=_)∧(_→bO (gH p.1 f.name (p.2.labs.length:Int)) x=_);rw [iw];by_cases hf:f.name=x
   ·rw [aw hf];refine⟨fun _=> ?_,fun hn=>absurd (by rw [List.map_cons,hf];exact List.mem_cons_self) hn⟩;unfold o9;rw [aw hf];rfl
   ·rw [ai hf];refine⟨fun hn=> ?_,fun _=>J⟩;rw [List.map_cons,List.mem_cons]at hn;exact absurd (hn.resolve_left fun e=>hf e.symm) hx
theorem xg:∀(fs:List Tf)(p:Om×Qg),(oR fs p).2={p.2 with labs:=p.2.labs++List.replicate fs.length 0}
 | [],p=>by
  show p.2={p.2 with labs:=p.2.labs++ []};rw [List.append_nil]
 | f::r,p=>by
  unfold oR;rw [xg r];show Qg.mk _ _ ((p.2.labs++ [0])++List.replicate r.length 0)=_;rw [List.append_assoc];rfl
theorem u4:∀(fs:List Tf)(x:Ba),x∈fs.map Tf.name→o9 fs x<fs.length
 | [],x,h=>by simp at h
 | f::r,x,h=>by
  unfold o9;split
  ·simp
  ·have:=u4 r x ((List.mem_cons.1 h).resolve_left fun e=>by subst e;contradiction);simp only [bR];omega
theorem wH:∀(fs:List Tf)(x y:Ba),x∈fs.map Tf.name→y∈fs.map Tf.name→o9 fs x=o9 fs y→x=y
 | [],x,_,h,_,_=>by simp at h
 | f::r,x,y,hx,hy,he=>by
  unfold o9 at he;by_cases h1:f.name=x
  ·by_cases h2:f.name=y
   ·rw [←h1,h2]
   ·rw [aw h1,ai h2]at he;omega
  ·by_cases h2:f.name=y
   ·rw [ai h1,aw h2]at he;omega
   ·rw [ai h1,ai h2]at he;exact wH r x y ((List.mem_cons.1 hx).resolve_left fun e=>h1 e.symm) ((List.mem_cons.1 hy).resolve_left fun e=>h2 e.symm) (by omega)
theorem nP(st:Om):∀(fs:List Tf)(p:Nat)(l:List Int)(k:Nat),(∀f∈fs,(bO st f.name).toNat≠k)→(eD st fs p l)[k]?=l[k]?
 | [],_,_,_,_=>rfl
 | f::r,p,l,k,h=>by
  unfold eD;rw [nP st r _ _ k fun g hg=>h g (by simp [hg]),List.getElem?_set_ne (h f (by simp))]
theorem rC(st:Om):∀(fs:List Tf)(p:Nat)(l:List Int)(x:Ba),(fs.map Tf.name).Nodup→(∀a∈fs.map Tf.name,∀b∈fs.map Tf.name,(bO st a).toNat=(bO st b).toNat→a=b)→
  (∀a∈fs.map Tf.name,(bO st a).toNat<l.length)→x∈fs.map Tf.name→(eD st fs p l)[(bO st x).toNat]?=some (iO fs p x)
 | [],_,_,x,_,_,_,h=>by simp at h
 | f::r,p,l,x,hn,hi,hl,hx=>by
  rw [List.map_cons,List.nodup_cons]at hn;unfold eD iO;by_cases hf:f.name=x
  ·rw [aw hf,nP st r _ _ _ fun g hg e=>hn.1 (by
    have hm:g.name∈(f::r).map Tf.name:=List.mem_map_of_mem (by simp [hg]);have:=hi g.name hm x hx e;rw [hf,←this];exact List.mem_map_of_mem hg),hf,List.getElem?_set_self (hl x hx)]
  ·rw [ai hf];exact rC st r _ _ x hn.2 (fun a ha b hb=>hi a (List.mem_cons_of_mem _ ha) b (List.mem_cons_of_mem _ hb)) (fun a ha=>by rw [List.length_set];exact hl a (List.mem_cons_of_mem _ ha)) ((List.mem_cons.1 hx).resolve_left fun e=>hf e.symm)
theorem xk(labs:List Int):∀(fs:List (Int×Int))(l:List Qi),ol labs fs l=s9 (fun i=>labs.getD i.toNat 0) 0 fs l
 | [],l=>rfl
 | f::r,l=>by
  unfold ol s9;rw [Nat.sub_zero];exact xk labs r _
theorem zP:∀(fs:List Tf)(p:Nat)(x:Ba),x∉fs.map Tf.name→iO fs p x=3
 | [],_,_,_=>rfl
 | f::r,p,x,h=>by
  rw [List.map_cons,List.mem_cons]at h;unfold iO;rw [ai fun e=>h (Or.inl e.symm)];exact zP r _ x fun e=>h (Or.inr e)
theorem A0(fs:List Tf)(hn:(fs.map Tf.name).Nodup)(h0:fs≠ []):jb fs=jN fs:=by
 obtain⟨st,hst⟩:∃st,st=(oR fs ([],⟨[],[],[]⟩)).1:=⟨_,J⟩
 have ho:∀x,x∉fs.map Tf.name→bO st x=0:=fun x hx=>by
  rw [hst,(AU fs _ x hn).2 hx];rfl
 have hm:∀x∈fs.map Tf.name,(bO st x).toNat=o9 fs x:=fun x hx=>by
  rw [hst,(AU fs _ x hn).1 hx];show((0+o9 fs x:Nat):Int).toNat=_;rw [Nat.zero_add,Int.toNat_natCast]
 obtain⟨s0,hs0⟩:∃s0,s0=(oR fs ([],⟨[],[],[]⟩)).2:=⟨_,J⟩
 have e0:s0=⟨[],[],List.replicate fs.length 0⟩:=by
  rw [hs0,xg];rfl
 obtain⟨s1,hs1⟩:∃s1:Qg,s1=((s0.emit [qi 16 14 0 16384]).jump 40 15 0 (bO st ed)).emit [⟨48,0,0,0,0⟩]:=⟨_,J⟩
 have hA:zf fs=sf st fs s1:=by
  rw [hs1,hs0,hst];rfl
 have c1:s1.code.length=3:=by rw [hs1,e0];rfl
 have l1:s1.labs=List.replicate fs.length 0:=by rw [hs1,e0];rfl
 obtain⟨S,hS⟩:∃S,S=iO fs 3:=⟨_,J⟩
 have hlt:∀f∈fs,(bO st f.name).toNat<s1.labs.length:=fun f hf=>by
  have hx:f.name∈fs.map Tf.name:=List.mem_map_of_mem hf;rw [hm _ hx,l1,List.length_replicate];exact u4 fs _ hx
 have g2:=AY (K:=fun L=>∀x,L (bO st x)=S x) (S:=S) (fun L h=>h) fs s1 hlt;rw [c1]at g2;have g1:Res (fun L=>∀x,L (bO st x)=S x) {s0 with labs:=eD st fs 3 s1.labs} {s1 with labs:=eD st fs 3 s1.labs} [qi 16 14 0 16384,qi 40 15 0 (wU (S ed-1)),⟨48,0,0,0,0⟩]:=by
  rw [hs1];refine(((Res.emit _ [_]).seq (Res.jump _ 40 15 0 (bO st ed) _ fun L hL=> ?_)).seq (Res.emit _ [_]));rw [hL ed];show wU (_-(((s0.code++ [_]).length:Nat):Int))=_;rw [e0];rfl
 obtain⟨raw,fx,ls,a1,a2,a3,a4,a5,a6⟩:=(g1.seq g2).ex;unfold jb;rw [hA,xk,a1,a3];have hc:s0.code= []:=by rw [e0]
 have hf:s0.fixes= []:=by rw [e0]
 show s9 _ 0 (s0.fixes++fx) (s0.code++raw)=jN fs;rw [hc,hf,List.nil_append,List.nil_append];have hcl:s0.code.length=0:=by rw [hc];rfl
 have hget:∀x∈fs.map Tf.name,(eD st fs 3 s1.labs)[(bO st x).toNat]?=some (iO fs 3 x):=fun x hx=>
  rC st fs 3 s1.labs x hn (fun a ha b hb e=>wH fs a b ha hb (by rw [←hm a ha,←hm b hb];exact e)) (fun a ha=>by
   obtain⟨f,hf,rfl⟩:=List.mem_map.1 ha;exact hlt f hf) hx
 have a6':=a6 (fun i=>(sf st fs s1).labs.getD i.toNat 0) (fun x=> ?_) (fun i n hi=> ?_)
 ·rw [show({s0 with labs:=eD st fs 3 s1.labs}:Qg).code.length=0 from hcl]at a6';rw [a6',hS];rfl
 ·show(sf st fs s1).labs.getD (bO st x).toNat 0=S x;rw [a4,hS];show(eD st fs 3 s1.labs++ls).getD _ 0=_;have hlen:∀y∈fs.map Tf.name,(bO st y).toNat<(eD st fs 3 s1.labs).length:=fun y hy=>by
   rw [m4];obtain⟨f,hf,rfl⟩:=List.mem_map.1 hy;exact hlt f hf
  by_cases hx:x∈fs.map Tf.name
  ·rw [List.getD_eq_getElem?_getD,List.getElem?_append_left (hlen x hx),hget x hx];rfl
  ·rw [zP fs 3 x hx,ho x hx];cases fs with
   | nil=>exact absurd rfl h0
   | cons f r=>
    have hy:f.name∈(f::r).map Tf.name:=by simp
    have h3:=hget f.name hy;have h4:=hlen f.name hy;have h5:(bO st f.name).toNat=0:=by
     rw [hm _ hy];unfold o9;rw [aw J]
    rw [h5]at h3 h4;rw [List.getD_eq_getElem?_getD,show(0:Int).toNat=0 from J,List.getElem?_append_left h4,h3];unfold iO;rw [aw J];rfl
 ·show(sf st fs s1).labs.getD (((eD st fs 3 s1.labs).length+i:Nat):Int).toNat 0=n;rw [a4];show(eD st fs 3 s1.labs++ls).getD _ 0=_;rw [Int.toNat_natCast,List.getD_eq_getElem?_getD,List.getElem?_append_right (by omega),show(eD st fs 3 s1.labs).length+i-(eD st fs 3 s1.labs).length=i by omega,hi];rfl
def okO(o:Om):Prop:=∀x,oW (bO o x)
theorem okO.put{o:Om}(h:okO o)(x:Ba){n:Int}(hn:oW n):okO (gH o x n):=fun y=>by
 rw [iw];split
 ·exact hn
 ·exact h y
theorem okO.nil:okO []:=fun _=>lm
theorem okO.gP{n:Int}(hn:n≤1000000):∀(l:List Ba)(k:Int)(o:Om),okO o→0≤k→k+l.length≤n→okO (gP n k l o)
 | [],k,o,h,_,_=>h
 | p::r,k,o,h,hk,hl=>by
  rw [bR]at hl;exact okO.gP hn r (k+1) _ (h.put p ⟨by omega,by omega⟩) (by omega) (by omega)
mutual
theorem okO.gD:∀(t:Ty)(p:Om×Int),okO p.1→okO (gD t p).1
 | .mk k nm ve es vb body vl els,p,h=>by
  rw [E1];refine okO.gDs els _ (okO.gDs body _ ?_);show okO (if k=1 then _ else p).1;split
  ·exact h.put nm (pY _)
  ·exact h
theorem okO.gDs:∀(l:List Ty)(p:Om×Int),okO p.1→okO (gDs l p).1
 | [],p,h=>h
 | t::r,p,h=>okO.gDs r _ (okO.gD t p h)
end
theorem okO.offs{f:Tf}(hg:GF f):okO (dP f).1:=okO.gDs f.body _ (okO.gP (by have:=hg.2.2.1;omega) f.ps 0 [] okO.nil (Int.le_refl _) (by omega))
theorem okG.push0:∀(n:Nat){s:Qg},okG s→okG (ek n s)
 | 0,s,h=>h
 | n+1,s,h=>by
  rw [iX];exact(okG.push0 n h).push 0
theorem Nj{st:Om}{f:Tf}{s:Qg}(hg:GF f)(hst:∀x,0≤bO st x∧bO st x<s.labs.length)(h:okG s):okG (gF st f s):=by
 have e2:(s.lab.lab).labs.length=s.labs.length+2:=by rw [fc,fc]
 have h1:=(((h.lab.lab.place (bO st f.name)).one (q:=qi 16 12 12 1) ⟨by decide,by decide⟩).one (q:=qi 16 2 0 12) ⟨by decide,by decide⟩).jump 35 2 12 (l:=(s.labs.length:Int)) ⟨by omega,by show(s.labs.length:Int)<((s.lab.lab).place (bO st f.name)).labs.length;rw [eV];omega⟩;have h2:=(h1.one (q:=⟨49,0,0,0,0⟩) lm).place s.labs.length;have h3:=((((h2.push 15).push 13).one (q:=q3 1 13 14 0) lm).push0 (dP f).2.toNat)
 have l3:(ek (dP f).2.toNat ((((((((((s.lab.lab).place (bO st f.name)).emit [qi 16 12 12 1]).emit [qi 16 2 0 12]).jump 35 2 12 s.labs.length).emit [⟨49,0,0,0,0⟩]).place s.labs.length).push 15).push 13).emit [q3 1 13 14 0])).labs.length=s.labs.length+2:=by
  rw [kO];show(((((((s.lab.lab).place (bO st f.name)).emit [qi 16 12 12 1]).emit [qi 16 2 0 12]).jump 35 2 12 s.labs.length).emit [⟨49,0,0,0,0⟩]).place s.labs.length).labs.length=_;rw [eV];show((s.lab.lab).place (bO st f.name)).labs.length=_;rw [eV,e2]
 have h4:=r9 (o:=(dP f).1) (st:=st) (k:=s.labs.length+2) ⟨okO.offs hg,fun x=>by have:=hst x;omega⟩ (en:=(s.labs.length:Int)+1) ⟨by omega,by omega⟩ f.body _ hg.2.2.2.2.1 (by rw [l3];exact cj _) h3;exact(((((((h4.one (q:=q3 1 1 0 0) lm).place _).one (q:=q3 1 14 13 0) lm).pop 13).pop 15).one (q:=qi 16 12 12 4294967295) ⟨by decide,by decide⟩).one (q:=qi 27 0 15 0) lm)
theorem E0(st:Om)(f:Tf)(s:Qg):s.labs.length≤(gF st f s).labs.length:=by
 have h1:=jZ (dP f).1 st ((s.labs.length:Int)+1) f.body (ek (dP f).2.toNat ((((((((((s.lab.lab).place (bO st f.name)).emit [qi 16 12 12 1]).emit [qi 16 2 0 12]).jump 35 2 12 s.labs.length).emit [⟨49,0,0,0,0⟩]).place s.labs.length).push 15).push 13).emit [q3 1 13 14 0]));rw [kO]at h1;have h2:s.labs.length+2≤(iB (dP f).1 st ((s.labs.length:Int)+1) f.body (ek (dP f).2.toNat ((((((((((s.lab.lab).place (bO st f.name)).emit [qi 16 12 12 1]).emit [qi 16 2 0 12]).jump 35 2 12 s.labs.length).emit [⟨49,0,0,0,0⟩]).place s.labs.length).push 15).push 13).emit [q3 1 13 14 0]))).labs.length:=by
  refine Nat.le_trans ?_ h1;show _≤(((((((s.lab.lab).place (bO st f.name)).emit [qi 16 12 12 1]).emit [qi 16 2 0 12]).jump 35 2 12 s.labs.length).emit [⟨49,0,0,0,0⟩]).place s.labs.length).labs.length;rw [eV];show _≤((s.lab.lab).place (bO st f.name)).labs.length;rw [eV,fc,fc];exact cj _
 show _≤(((iB (dP f).1 st ((s.labs.length:Int)+1) f.body _).emit [q3 1 1 0 0]).place ((s.labs.length:Int)+1)).labs.length;rw [eV];exact Nat.le_trans (Nat.le_add_right _ 2) h2
theorem EZ{st:Om}:∀(l:List Tf)(s:Qg),(∀f∈l,GF f)→(∀x,0≤bO st x∧bO st x<s.labs.length)→okG s→okG (sf st l s)
 | [],s,_,_,h=>h
 | f::r,s,hg,hst,h=>EZ r _ (fun g hm=>hg g (by simp [hm])) (fun x=>by have:=hst x;have:=E0 st f s;omega) (Nj (hg f (by simp)) hst h)
theorem EV{fs:List Tf}(hn:(fs.map Tf.name).Nodup)(h0:fs≠ [])(x:Ba):0≤bO (oR fs ([],⟨[],[],[]⟩)).1 x∧bO (oR fs ([],⟨[],[],[]⟩)).1 x<fs.length:=by
 have hl:0<fs.length:=by cases fs with|nil=>exact absurd J h0|cons _ _=>simp
 obtain⟨h1,h2⟩:=AU fs ([],⟨[],[],[]⟩) x hn;by_cases hx:x∈fs.map Tf.name
 ·have:=u4 fs x hx;rw [h1 hx];simp only [bG];omega
 ·rw [h2 hx];show(0:Int)≤0∧(0:Int)<_;omega
theorem HE{fs:List Tf}(hg:GP fs)(hn:(fs.map Tf.name).Nodup)(h0:fs≠ []):okG (zf fs):=by
 have hb:=EV hn h0;have hs:=xg fs ([],⟨[],[],[]⟩);have hl:(oR fs ([],⟨[],[],[]⟩)).2.labs.length=fs.length:=by
  rw [hs];simp
 have ok0:okG (oR fs ([],⟨[],[],[]⟩)).2:=by
  rw [hs];exact⟨fun p hp=>by simp at hp,fun q hq=>by simp at hq⟩
 have h1:=((ok0.one (q:=qi 16 14 0 16384) ⟨by decide,by decide⟩).jump 40 15 0 (l:=bO (oR fs ([],⟨[],[],[]⟩)).1 ed) ⟨(hb ed).1,by show _<((oR fs ([],⟨[],[],[]⟩)).2.labs.length:Int);rw [hl];exact(hb ed).2⟩).one (q:=⟨48,0,0,0,0⟩) lm;exact EZ fs _ hg.2 (fun x=>by
  show _∧_<((oR fs ([],⟨[],[],[]⟩)).2.labs.length:Int);rw [hl];exact hb x) h1
theorem tR:∀(l:List Qi)(k:Nat)(n:Int),oW n→(∀q∈l,oW q.imm)→∀q∈iF l k n,oW q.imm
 | [],_,_,_,h=>h
 | i::l,0,n,hn,h=>fun q hq=>by
  rcases List.mem_cons.1 hq with rfl|hq
  ·exact hn
  ·exact h q (by simp [hq])
 | i::l,k+1,n,hn,h=>fun q hq=>by
  rcases List.mem_cons.1 hq with rfl|hq
  ·exact h q (by simp)
  ·exact tR l k n hn (fun q hq=>h q (by simp [hq])) q hq
theorem vH(labs:List Int):∀(fs:List (Int×Int))(l:List Qi),(∀q∈l,oW q.imm)→(∀q∈ol labs fs l,oW q.imm)∧(ol labs fs l).length=l.length
 | [],l,h=>⟨h,rfl⟩
 | p::r,l,h=>by
  obtain⟨h1,h2⟩:=vH labs r (iF l p.1.toNat (wU (labs.getD p.2.toNat 0-p.1))) (tR l _ _ (pY _) h);exact⟨h1,h2.trans (jx l _ _)⟩
theorem ue(labs:List Int):∀{fs:List (Int×Int)}{i:Nat}{f:Int×Int}(l:List Qi),fs[i]?=some f→ol labs (fs.take (i+1)) l=iF (ol labs (fs.take i) l) f.1.toNat (wU (labs.getD f.2.toNat 0-f.1))
 | [],i,f,l,h=>by simp at h
 | p::r,0,f,l,h=>by cases h;rfl
 | p::r,i+1,f,l,h=>ue labs (fs:=r) _ h
theorem rE:∀(l:List Qi)(k:Nat)(n:Int)(q:Qi),l[k]?=some q→iF l k n=l.set k {q with imm:=n}
 | [],k,n,q,h=>by simp at h
 | i::l,0,n,q,h=>by cases h;rfl
 | i::l,k+1,n,q,h=>congrArg (i:: ·) (rE l k n q h)
def fi(l:List Qi):List Int:=l.flatMap fun q=>fR (tG q)
theorem il:∀l:List Qi,(fi l).length=4*l.length
 | []=>rfl
 | q::r=>by
  show(fR (tG q)++fi r).length=_;rw [bA,il r,bR,show(fR (tG q)).length=4 from J];omega
theorem An(n:Int):∀x∈fR n,0≤x∧x<256:=fun x hx=>by
 simp only [fR,List.mem_cons,List.not_mem_nil,or_false]at hx;rcases hx with rfl|rfl|rfl|rfl<;>omega
theorem sQ(l:List Qi):∀x∈fi l,0≤x∧x<256:=fun x hx=>by
 obtain⟨q,_,hq⟩:=List.mem_flatMap.1 hx;exact An _ x hq
theorem kX:∀l:List Int,(∀x∈l,0≤x∧x<256)→bx (mU l)=l:=by
 have h0:∀(l:List Int)(r:Ba),(l.foldl (fun r n=>r.push (UInt8.ofNat n.toNat)) r).data.toList=r.data.toList++l.map fun n=>UInt8.ofNat n.toNat:=by
  intro l
  induction l with
  | nil=>intro r;simp
  | cons n l ih=>intro r;rw [List.foldl_cons,ih];simp [ByteArray.push]
 intro l hl;unfold bx mU;rw [h0];simp only [List.map_append,List.map_map];show(ByteArray.empty.data.toList).map _++_=l;rw [show ByteArray.empty.data.toList= []from J,List.map_nil,List.nil_append];refine(List.map_congr_left (g:=id) fun n hn=> ?_).trans (List.map_id l);have:=hl n hn;show(((UInt8.ofNat n.toNat).toNat:Nat):Int)=n;rw [UInt8.toNat_ofNat'];omega
theorem zC{l:List Qi}{i:Nat}{q:Qi}(h:l[i]?=some q):fi (l.take (i+1))=fi (l.take i)++bx (mU (fR (tG q))):=by
 rw [cw h,kX _ (An _)];unfold fi;rw [List.flatMap_append];simp
theorem JB(x:Int):IntKind.u32.wrap (IntKind.i64.wrap x)=wU x:=by
 unfold wU;simp only [IntKind.wrap_u32,IntKind.wrap_i64];omega
theorem xd(e:Ga)(s:Qg)(hs:okG s)(hz:s.sz≤240000)(hne:s.code≠ []):
  bi prog 55 [Pt e.g] [gA e s] [] (Sg (mU (fi (ol s.labs s.fixes s.code)))) []:=by
 refine aM func55 J ntmps55 J fun w0 M H=> ?_
 unfold Qg.sz at hz;refine uT 0 [0,21,22,23] J (by decide) J fun vc vf vl=>ar (aq J (aa (aV (ad J (bS J (aD qV J (aT 0 Gr J J J J (aS (aL underlying107 J (aH (k:=22) J)) (ad J (aa (aC (bI (X:=Nat) (fun i=>i≤s.fixes.length) (fun i=> [(0,Pt e.g),(2,Sg ⟨#[]⟩),(13,sv vf),(14,I6 (s.fixes.length:Int)),(15,I6 (i:Int))]) (fun i=> [(0,be e.g 111 (gR e.vp vc vf vl e.ms e.mo e.mp e.en)),(21,own 118 5 iY (sv vc) (ol s.labs (s.fixes.take i) s.code)),(22,own 171 2 wg (sv vf) s.fixes),(23,own 3 1 eI (sv vl) s.labs)]) (fun i=> []) (fun i=>s.fixes.length-i) 0 (bq _) J J J (fun i n1=>ar (av J J cy ?_))))))))))))))
 refine aa (aZ (am J (fun h1=> ?_) (fun h1=> ?_)))
 ·(try simp only [bk]at h1);have hi:i<s.fixes.length:=by omega
  obtain⟨f,hf⟩:∃f,s.fixes[i]?=some f:=⟨_,bT hi⟩
  have hfx:=hs.fx f (cd hf);have hfl:(ol s.labs (s.fixes.take i) s.code).length=s.code.length:=(vH s.labs (s.fixes.take i) s.code hs.im).2;obtain⟨q,hq⟩:∃q,(ol s.labs (s.fixes.take i) s.code)[f.1.toNat]?=some q:=⟨_,bT (by rw [hfl];omega)⟩
  obtain⟨lb,hlb⟩:∃lb,s.labs[f.2.toNat]?=some lb:=⟨_,bT (by omega)⟩
  have hgd:s.labs.getD f.2.toNat 0=lb:=by rw [List.getD_eq_getElem?_getD,hlb];rfl
  refine aA (aZ (aC (ar (aS (aK (j:=i) underlying107 yj J J (aH (k:=22) J) (by first|rfl|omega) (by first|omega|(simp;done)|(simp;omega))) (aS (aJ yj J J J (bJ (aH (k:=22) J) (by intro _;rfl) hf (by rfl))) (aX yj J J fun b4=>au (k:=4) yj J J J J J J (aa ?_)))))));refine bQ [19,20,21,22,23,24,25,26,27,28,29,30,31,32,33,34,35,36,37,38] _ J (bH (V:= [(0,19,_),(1,20,_),(2,21,_),(3,22,_),(4,23,_),(5,24,_),(6,25,_),(7,26,_),(8,27,_),(9,28,_),(10,29,_),(11,30,_),(12,31,_),(13,32,_),(14,33,_),(15,34,_),(16,35,_),(17,36,_),(18,37,_),(19,38,_)]) [0,1,2,3,4,5,6,7,8,9,10,11,12,13,14,15,16,17,18,19] 20 [20,19,18,17,16,15,14,13,12,11,10,9,8,7,6,5,4,3,2,1,0] [] (fun _=> []) J J (ay J J (ac J (aj J) (ac J (ah mD J) (ac J (ae BT J J (ax (k:=0) J J)) (ac J (ah Bd J) (ac J (ae t3 J J (ax (k:=4) J J)) (ay J J (ac J (aj J) (ac J (ah oA J) (ac J (ae Dj J J (ax (k:=0) J J)) (ac J (ah HU J) (ac J (ae t3 J J (ax (k:=4) J J)) (ac J (aK (j:=f.2.toNat) underlying22 t3 J J (aH (k:=23) J) (by omega) (by omega)) (ac J (ae t3 J J (bJ (aH (k:=23) J) (by intro _;rfl) hlb (by rfl))) (ac J (ah Bd J) (ac J (ae t3 J J (ax (k:=4) J J)) (ac J (aU J J (gZ J)) (ac J (cB underlying3 underlying41 J (JB _)) (ac J (aK (j:=f.1.toNat) underlying106 fH J J (aH (k:=21) J) (by omega) (by rw [hfl];omega)) (ac J (bB eo J) ag)))))))))))))))))))) J J J J J J J J J (fun _ _=>J) J (dO (k:=21) (o:=4) (e':={q with imm:=wU (lb-f.1)}) eG J J J J J J (by intro _;rfl) hq (by show _+1≤_;decide) J) (fun _ _=>bn [] J J ag J J J ?_));refine ap (av J J aO (ad J (aa ?_)));refine aG (i+1) ⟨by omega,by omega⟩ J (by rw [ue s.labs s.code hf,rE _ _ _ q hq,hgd];rfl) J
 ·(try simp only [bk]at h1);have hi:i=s.fixes.length:=by omega
  subst hi;refine bM (aZ ?_);rw [cV];obtain⟨C,hC⟩:∃C,C=ol s.labs s.fixes s.code:=⟨_,J⟩
  rw [←hC];have hCo:=vH s.labs s.fixes s.code hs.im;rw [←hC]at hCo;have hCl:=hCo.2;refine ap (aX Gq J J fun b5=>aa (aV (ad J (bS J (aD mD J (aT 0 BT J J J J (aS (aL underlying106 J (aH (k:=21) J)) (ad J (aa (aC (dI 31 (α:=Int) (S:=5) (s:=1) (enc:=ct) (bI (X:=Nat×Option Addr×SV) (fun x=>x.1≤C.length∧(x.2.1=none∨x.2.1=some ⟨b5,0,none⟩)) (fun x=> [(0,Pt e.g),(2,Sg ⟨#[]⟩),(5,Pt b5),(43,sv vc),(44,I6 (C.length:Int)),(45,I6 (x.1:Int))]) (fun x=> [(0,be e.g 111 (gR e.vp vc vf vl e.ms e.mo e.mp e.en)),(21,own 118 5 iY (sv vc) C),(5,be b5 177 [.pointer x.2.1,sv x.2.2]),(31,own 5 1 ct (sv x.2.2) (fi (C.take x.1)))]) (fun x=> []) (fun x=>C.length-x.1) (0,none,bv) ⟨bq _,.inl J⟩ J J J (fun x hx0=>ar (av J J cy (aa ?_)))))))))))))));refine aZ (am J (fun h2=> ?_) (fun h2=> ?_))
  ·(try simp only [bk]at h2);have hi:x.1<C.length:=by omega
   obtain⟨q,hq⟩:∃q,C[x.1]?=some q:=⟨_,bT hi⟩
   have hqi:=hCo.1 q (cd hq);have hcl:=il (C.take x.1);have htl:=List.length_take (i:=x.1) (l:=C);have hps:(mU (fR (tG q))).size=4:=by rw [jB];rfl
   refine aA (aZ (aC (ar (aS (aK (j:=x.1) underlying106 fH J J (aH (k:=21) J) (by first|rfl|omega) (by first|omega|(simp;done)|(simp;omega))) (aS (aJ fH J J J (bJ (aH (k:=21) J) (by intro _;rfl) hq (by rfl))) (aX fH J J fun b7=>au (k:=7) fH J J J J J J (aF J (aS (aJ fH J J J (a_ (k:=7) J)) (ak (xs:= [.tmp 50]) (xp q hqi) Qc [] [] [] (fun _ _=>ad J (aS (cS J J) (aS (cS J J) (aq J (aq J (aa ?_)))))))))))))));refine ap (ad J (ak (xs:= [.tmp 54,.const (I6 4)]) (DT (tG q) (Ld q)) Oy [] [] [] (fun _ _=>ak (xs:= [.tmp 5,.tmp 55]) (BJ b5 x.2.1 hx0.2 x.2.2 (fi (C.take x.1)) (mU (fR (tG q))) (by omega)) Qb [5,31] [] [5,31] (fun v56 _=>aa (ap (av J J aO (ad J (aa ?_))))))));refine aG (x.1+1,some ⟨b5,0,none⟩,v56) ⟨⟨by dsimp only;omega,.inr rfl⟩,by dsimp only;omega⟩ J (by dsimp only;rw [zC hq];rfl) J
  ·(try simp only [bk]at h2);have hi:x.1=C.length:=by omega
   rw [hi,cV];refine bM (ar (ak (xs:= [.tmp 5]) (CM b5 x.2.1 x.2.2 (fi C) (by intro h;have:=il C;rw [h]at this;simp at this;exact hne (List.length_eq_zero_iff.1 (by omega))) (sQ C)) Ox [5,31] [] [5] (fun _ _=>aq J (aa (az (aQ () O J (cc (aP J)) (by rw [hC]) [] [] J J J))))))
def sR(pc:Int)(r:Int→Int)(st:Int):List Value:=I3 pc::((List.range 16).map (fun k=>Value.int .u32 (r ((k:Nat):Int)))++ [I3 0,I3 0,I3 0,I3 0,I3 0,I6 st,I6 0])
def qj(pc:Int)(r:Int→Int)(st:Int)(m:Nat):List Value:=sR pc r st++ [Pt m]
def qI:Int→Int:=fun _=>0
theorem Ci(n:Nat)(hn:n≤4096):
  Spec prog 74 [I6 (n:Int),.bool false] [] [] (X:=Me) (fun _=>True) (fun e=>Pt e.m) (fun e=> [be e.m 157 (mR e),own 5 1 ct (sv e.vd) ((⟨List.replicate (256*n) 0,List.replicate (256*n) 0,List.replicate n 0⟩:Mm)).d,own 5 1 ct (sv e.vi) ((⟨List.replicate (256*n) 0,List.replicate (256*n) 0,List.replicate n 0⟩:Mm)).i,own 3 1 eI (sv e.vr) ((⟨List.replicate (256*n) 0,List.replicate (256*n) 0,List.replicate n 0⟩:Mm)).r]) (fun _=> []):=by
 refine aM func74 J ntmps74 J fun w0 M H=>ar (aq J (aF J (ad J (aS (IC (c:=(n:Int)) J J (by omega)) (aS (rO (c:=(n:Int)) J J (by omega)) (aq J (aa (bz (X:=Nat×SV×SV×SV) (fun _=>True) (fun x=> [(1,.bool false),(5,I6 (n:Int)),(6,Pt x.1)]) (fun x=> [(20,be x.1 157 [sv x.2.1,.slice none 0 0,sv x.2.2.1,.slice none 0 0,sv x.2.2.2,.bool false]),(12,own 5 1 ct (sv x.2.1) (List.replicate (256*n) 0)),(17,own 3 1 eI (sv x.2.2.2) (List.replicate n 0))]) (fun x=> []) ?_ (fun x _=> ?_)))))))))
 ·refine bQ [10,11,12,13,14,15,16,17,18,19,20,6] _ J (fp (V:= [(0,10,_),(1,11,_),(3,13,_),(4,14,_),(6,16,_),(8,18,_)]) [0,1,3,4,6,8] J J (ay J J (ac J (aU J J (gd (c:=((256*n:Nat):Int)) (by rw [bU (by omega)];omega))) (ay J J (ac J (aU J J (gd (c:=((256*n:Nat):Int)) (by rw [bU (by omega)];omega))) (ay J J (ay J J ag)))))) J [2,5,7] J J (bC (ea 2 [2,1,0] [] (fun v12=> []) J J J J J J J J J (fun _ _=>J) J (eK ct 0 underlying84 t5 J J J J (c:=256*n) J J (by omega) (by simp only [maxLen];omega)) (fun v12 _=>fp [3,4,6,8] J J (ay J J (ac J (aU J J (gd (c:=((256*n:Nat):Int)) (by rw [bU (by omega)];omega))) (ay J J (ay J J ag)))) J [5,7] J J (bC (ea 5 [5,4,3,2,1,0] [] (fun v15=> []) J J J J J J J J J (fun _ _=>J) J (eK ct 0 underlying84 t5 J J J J (c:=256*n) J J (by omega) (by simp only [maxLen];omega)) (fun v15 _=>aW [6,8] 7 [7,6,5,4,3,2,1,0] [9] (fun v17=> [(9,19,_)]) J J (ay J J (ay J J ag)) J J J J J J J J J J J (fun _ _=>J) J (eK eI 0 underlying22 t3 J J J J (c:=n) J J (by omega) (by simp only [maxLen];omega)) (fun v17 _=>aW [9,8] 10 [10,9,8,7,6,5,4,3,2,1,0] [11] (fun b20=> [(11,6,_)]) J J (ac J (aR (parts:= [(0,.tmp 12),(2,.tmp 15),(4,.tmp 17),(5,.tmp 18)]) BR tU J J) (ay J J ag)) J J J J J J J J J J J (fun _ _=>J) J (pd J (by rfl)) (fun b20 _=>bn [11] J J (ac J (cT J) ag) J J J ?_)))) (bC (ea 7 [7,6,2,1,0] [] (fun v17=> []) J J J J J J J J J (fun _ _=>J) J (eK eI 0 underlying22 t3 J J J J (c:=n) J J (by omega) (by simp only [maxLen];omega)) (fun v17 _=>aW [3,4,8] 5 [7,6,5,4,3,2,1,0] [9] (fun v15=> [(9,19,_)]) J J (ay J J (ac J (aU J J (gd (c:=((256*n:Nat):Int)) (by rw [bU (by omega)];omega))) (ay J J ag))) J J J J J J J J J J J (fun _ _=>J) J (eK ct 0 underlying84 t5 J J J J (c:=256*n) J J (by omega) (by simp only [maxLen];omega)) (fun v15 _=>aW [9,8] 10 [10,9,8,7,6,5,4,3,2,1,0] [11] (fun b20=> [(11,6,_)]) J J (ac J (aR (parts:= [(0,.tmp 12),(2,.tmp 15),(4,.tmp 17),(5,.tmp 18)]) BR tU J J) (ay J J ag)) J J J J J J J J J J J (fun _ _=>J) J (pd J (by rfl)) (fun b20 _=>bn [11] J J (ac J (cT J) ag) J J J ?_)))) dv)))) (bC (ea 5 [5,4,3] [] (fun v15=> []) J J J J J J J J J (fun _ _=>J) J (eK ct 0 underlying84 t5 J J J J (c:=256*n) J J (by omega) (by simp only [maxLen];omega)) (fun v15 _=>fp [0,1,6,8] J J (ay J J (ac J (aU J J (gd (c:=((256*n:Nat):Int)) (by rw [bU (by omega)];omega))) (ay J J (ay J J ag)))) J [2,7] J J (bC (ea 2 [5,4,3,2,1,0] [] (fun v12=> []) J J J J J J J J J (fun _ _=>J) J (eK ct 0 underlying84 t5 J J J J (c:=256*n) J J (by omega) (by simp only [maxLen];omega)) (fun v12 _=>aW [6,8] 7 [7,6,5,4,3,2,1,0] [9] (fun v17=> [(9,19,_)]) J J (ay J J (ay J J ag)) J J J J J J J J J J J (fun _ _=>J) J (eK eI 0 underlying22 t3 J J J J (c:=n) J J (by omega) (by simp only [maxLen];omega)) (fun v17 _=>aW [9,8] 10 [10,9,8,7,6,5,4,3,2,1,0] [11] (fun b20=> [(11,6,_)]) J J (ac J (aR (parts:= [(0,.tmp 12),(2,.tmp 15),(4,.tmp 17),(5,.tmp 18)]) BR tU J J) (ay J J ag)) J J J J J J J J J J J (fun _ _=>J) J (pd J (by rfl)) (fun b20 _=>bn [11] J J (ac J (cT J) ag) J J J ?_)))) (bC (ea 7 [7,6,5,4,3] [] (fun v17=> []) J J J J J J J J J (fun _ _=>J) J (eK eI 0 underlying22 t3 J J J J (c:=n) J J (by omega) (by simp only [maxLen];omega)) (fun v17 _=>aW [0,1,8] 2 [7,6,5,4,3,2,1,0] [9] (fun v12=> [(9,19,_)]) J J (ay J J (ac J (aU J J (gd (c:=((256*n:Nat):Int)) (by rw [bU (by omega)];omega))) (ay J J ag))) J J J J J J J J J J J (fun _ _=>J) J (eK ct 0 underlying84 t5 J J J J (c:=256*n) J J (by omega) (by simp only [maxLen];omega)) (fun v12 _=>aW [9,8] 10 [10,9,8,7,6,5,4,3,2,1,0] [11] (fun b20=> [(11,6,_)]) J J (ac J (aR (parts:= [(0,.tmp 12),(2,.tmp 15),(4,.tmp 17),(5,.tmp 18)]) BR tU J J) (ay J J ag)) J J J J J J J J J J J (fun _ _=>J) J (pd J (by rfl)) (fun b20 _=>bn [11] J J (ac J (cT J) ag) J J J ?_)))) dv)))) (bC (ea 7 [7,6] [] (fun v17=> []) J J J J J J J J J (fun _ _=>J) J (eK eI 0 underlying22 t3 J J J J (c:=n) J J (by omega) (by simp only [maxLen];omega)) (fun v17 _=>fp [0,1,3,4,8] J J (ay J J (ac J (aU J J (gd (c:=((256*n:Nat):Int)) (by rw [bU (by omega)];omega))) (ay J J (ac J (aU J J (gd (c:=((256*n:Nat):Int)) (by rw [bU (by omega)];omega))) (ay J J ag))))) J [2,5] J J (bC (ea 2 [7,6,2,1,0] [] (fun v12=> []) J J J J J J J J J (fun _ _=>J) J (eK ct 0 underlying84 t5 J J J J (c:=256*n) J J (by omega) (by simp only [maxLen];omega)) (fun v12 _=>aW [3,4,8] 5 [7,6,5,4,3,2,1,0] [9] (fun v15=> [(9,19,_)]) J J (ay J J (ac J (aU J J (gd (c:=((256*n:Nat):Int)) (by rw [bU (by omega)];omega))) (ay J J ag))) J J J J J J J J J J J (fun _ _=>J) J (eK ct 0 underlying84 t5 J J J J (c:=256*n) J J (by omega) (by simp only [maxLen];omega)) (fun v15 _=>aW [9,8] 10 [10,9,8,7,6,5,4,3,2,1,0] [11] (fun b20=> [(11,6,_)]) J J (ac J (aR (parts:= [(0,.tmp 12),(2,.tmp 15),(4,.tmp 17),(5,.tmp 18)]) BR tU J J) (ay J J ag)) J J J J J J J J J J J (fun _ _=>J) J (pd J (by rfl)) (fun b20 _=>bn [11] J J (ac J (cT J) ag) J J J ?_)))) (bC (ea 5 [7,6,5,4,3] [] (fun v15=> []) J J J J J J J J J (fun _ _=>J) J (eK ct 0 underlying84 t5 J J J J (c:=256*n) J J (by omega) (by simp only [maxLen];omega)) (fun v15 _=>aW [0,1,8] 2 [7,6,5,4,3,2,1,0] [9] (fun v12=> [(9,19,_)]) J J (ay J J (ac J (aU J J (gd (c:=((256*n:Nat):Int)) (by rw [bU (by omega)];omega))) (ay J J ag))) J J J J J J J J J J J (fun _ _=>J) J (eK ct 0 underlying84 t5 J J J J (c:=256*n) J J (by omega) (by simp only [maxLen];omega)) (fun v12 _=>aW [9,8] 10 [10,9,8,7,6,5,4,3,2,1,0] [11] (fun b20=> [(11,6,_)]) J J (ac J (aR (parts:= [(0,.tmp 12),(2,.tmp 15),(4,.tmp 17),(5,.tmp 18)]) BR tU J J) (ay J J ag)) J J J J J J J J J J J (fun _ _=>J) J (pd J (by rfl)) (fun b20 _=>bn [11] J J (ac J (cT J) ag) J J J ?_)))) dv)))) dv))))
  ·refine aG (b20,v12,v15,v17) O J J J
  ·refine aG (b20,v12,v15,v17) O J J J
  ·refine aG (b20,v12,v15,v17) O J J J
  ·refine aG (b20,v12,v15,v17) O J J J
  ·refine aG (b20,v12,v15,v17) O J J J
  ·refine aG (b20,v12,v15,v17) O J J J
 ·refine aV (ad J (aS (cZ J) (aa (am J (fun h1=> ?_) (fun h1=> ?_)))))
  ·refine ar (ad J (ad J (av J J (gd (c:=((256*n:Nat):Int)) (by rw [bU (by omega)];omega)) (uU ct 0 underlying84 t5 J J J J (c:=256*n) J J (by omega) (by simp only [maxLen];omega) J fun v26=>bS J (aD qU J (aB (k:=20) yh J J J J J J J J (aa (ap (ad J (ad J (av J J (gd (c:=((256*n:Nat):Int)) (by rw [bU (by omega)];omega)) (uU ct 0 underlying84 t5 J J J J (c:=256*n) J J (by omega) (by simp only [maxLen];omega) J fun v32=>bS J (aD HV J (aB (k:=20) yh J J J J J J J J (aa (aZ ?_))))))))))))))));refine ap (ad J (aq J (aa (az (aQ ⟨x.1,x.2.1,v26,x.2.2.1,v32,x.2.2.2⟩ O J (cc (aP J)) J [20,12,26,17] [] J J J)))))
  ·exact absurd h1 (by simp)
theorem B7(n:Nat)(hn:n≤4096):
  Spec prog 34 [I6 (n:Int)] [] [] (X:=Nat×Me) (fun _=>True) (fun x=>Pt x.1) (fun x=> [be x.1 93 (qj 0 qI 0 x.2.m),be x.2.m 157 (mR x.2),own 5 1 ct (sv x.2.vd) ((⟨List.replicate (256*n) 0,List.replicate (256*n) 0,List.replicate n 0⟩:Mm)).d,own 5 1 ct (sv x.2.vi) ((⟨List.replicate (256*n) 0,List.replicate (256*n) 0,List.replicate n 0⟩:Mm)).i,own 3 1 eI (sv x.2.vr) ((⟨List.replicate (256*n) 0,List.replicate (256*n) 0,List.replicate n 0⟩:Mm)).r]) (fun _=> []):=by
 refine aM func34 J ntmps34 J fun w0 M H=>ar (aq J (aF J (ad J (ak (xs:= [.tmp 3,.const (.bool Bool.false)]) (Ci n hn) Ql [] [] [10,11,12,13] (fun e _=>aS (aR (cs:=(qj 0 qI 0 e.m).toArray) (parts:= [(1,.tmp 4)]) Rj Po J (by kernel_rfl)) (cA J J fun b6=>aq J (aa (az (aQ (b6,e) O J (cc (aP J)) J [6,10,11,12,13] [] J J J)))))))))
theorem B3(c m:Nat):
  bi prog 77 [Pt c,.agg (sR 256 qI 0).toArray] [be c 93 (qj 0 qI 0 m)] [] (.tuple #[]) [be c 93 (qj 256 qI 0 m)]:=by
 refine aM func77 J ntmps77 J fun w0 M H=>ar (cA J J fun b3=>aF J (aD ic J (aS (d9 (j:=0) underlying75 eG J J (by rfl) (by decide)) (aB (k:=3) eG J J J J J J J J (aF J (aD K6 J (aB (k:=3) eG J J J J J J J J (aF J (aD i7 J (aT 3 t3 J J J J ?_))))))))))
 refine aS (rO J J J) (aD i7 J (aB (k:=3) t3 J J J J J J J J (aF J (aD vJ J (aT 3 t3 J J J J (aS (rO J J J) (aD vJ J (aB (k:=3) t3 J J J J J J J J (aa (ap (ad J (aS (aJ xP J J J (a_ (k:=3) J)) (bS J (aD eN J (aB (k:=0) xP J J J J J J J J (aa (cQ () O J iz J [0] [] J J J)))))))))))))))))
@[irreducible] def zer:List Int:=List.replicate 256 0
theorem re:zer=List.replicate 256 0:=by unfold zer;rfl
theorem zN:zer.length=256:=by rw [re];exact List.length_replicate ..
theorem CU:zer.take 256=zer:=List.take_of_length_le (by rw [zN];omega)
def we(p:Nat):Int:=if p≥32 then 3 else if p>0 then 5 else 0
def iA(s:Mm):Nat→Mm
 | 0=>s
 | p+1=>⟨pk (iA s p).d (256*p) zer,pk (iA s p).i (256*p) zer,(iA s p).r.set p (we p)⟩
def tA(s:Mm):Nat→Mm
 | 0=>s
 | p+1=>{tA s p with i:=pk (tA s p).i ((p+1)*256) (((tA s p).d.drop ((p+1)*256)).take 256)}
def L0(s:Mm)(code:List Int):Mm:=tA {iA s 64 with d:=pk (iA s 64).d 256 code} 31
theorem yz(p:Nat):0≤we p∧we p<8∧bits .and .i64 (we p) 7=we p:=by
 unfold we;split
 ·decide
 ·split<;>decide
theorem JW{l:List Int}{k:Nat}{x:Int}(h:∀y∈l,0≤y∧y<8)(hx:0≤x∧x<8):∀y∈l.set k x,0≤y∧y<8:=fun y hy=>by
 rcases List.mem_or_eq_of_mem_set hy with hy|hy
 ·exact h y hy
 ·exact hy▸hx
theorem lV{s:Mm}{n:Nat}(h:MO s n):∀p,MO (iA s p) n
 | 0=>h
 | p+1=>by
  have ih:=lV h p;exact⟨(fS _ _ _).trans ih.d,(fS _ _ _).trans ih.i,(List.length_set ..).trans ih.r,ih.n,JW ih.rb ⟨(yz p).1,(yz p).2.1⟩⟩
theorem AH(s:Mm):∀p,(tA s p).d=s.d
 | 0=>rfl
 | p+1=>AH s p
theorem yW{s:Mm}{n:Nat}(h:MO s n):∀p,MO (tA s p) n
 | 0=>h
 | p+1=>by
  have ih:=yW h p;exact ih.ii (fS _ _ _)
theorem OH:bx (mU zer)=zer:=kX _ fun x hx=>by rw [re]at hx;rw [List.eq_of_mem_replicate hx];decide
theorem rS:(mU zer).size=256:=by rw [jB,zN]
theorem yx(c:Nat)(e:Me)(s:Mm)(n:Nat)(hs:MO s n)(hn:64≤n)(code:Ba)(hc:code.size≤7936):
  bi prog 39 [Pt c,Sg code] [be e.m 157 (mR e),own 5 1 ct (sv e.vd) (s).d,own 5 1 ct (sv e.vi) (s).i,own 3 1 eI (sv e.vr) (s).r,be c 93 (qj 0 qI 0 e.m)] [] (.tuple #[]) [be e.m 157 (mR e),own 5 1 ct (sv e.vd) (L0 s (bx code)).d,own 5 1 ct (sv e.vi) (L0 s (bx code)).i,own 3 1 eI (sv e.vr) (L0 s (bx code)).r,be c 93 (qj 256 qI 0 e.m)]:=by
 refine aM func39 J ntmps39 J fun w0 M H=> ?_
 have hdl:=hs.d;have hnn:=hs.n;have hcl:=iK code;refine ar (uU ct 0 underlying84 t5 J J J J (c:=256) J J (by omega) (by simp only [maxLen];omega) J fun v8=>aS (D2 underlying84 underlying5 underlying9 J (aH (k:=8) J) (by decide)) ?_);rw [←re];refine aq J (aa (aV (aq J (aa (aC (bI (X:=Nat) (fun p=>p≤64) (fun p=> [(0,Pt c),(1,Sg code),(4,Sg (mU zer)),(5,I6 (p:Int))]) (fun p=> [(0,be e.m 157 (mR e)),(1,own 5 1 ct (sv e.vd) (iA s p).d),(2,own 5 1 ct (sv e.vi) (iA s p).i),(3,own 3 1 eI (sv e.vr) (iA s p).r),(4,be c 93 (qj 0 qI 0 e.m))]) (fun p=> []) (fun p=>64-p) 0 (bq _) J J J (fun p n1=>aV (ad J (av J J cy (aa (am J (fun h1=> ?_) (fun h1=> ?_))))))))))))
 ·(try simp only [bk]at h1);have hi:p<64:=by omega
  refine aA (aZ (aC (ar (ad J (bS J (aD gq J (aT 4 wo J J J J (ad J (av J J (gd (c:=((256*p:Nat):Int)) (by rw [bU (by omega)];omega)) (aS (cB underlying3 underlying41 J (c:=((256*p:Nat):Int)) (cf (by omega))) (ad J (ak (xs:= [.tmp 17,.tmp 20,.tmp 21]) (rI e (iA s p) n (lV hs p) (256*p) (mU zer) (by rw [rS];omega) (by rw [rS];omega)) NE [0,1,2,3] [] [0,1,2,3] (fun _ _=> ?_)))))))))))));rw [OH];refine aF J (ad J (bS J (aD gq J (aT 4 wo J J J J (ad J (ad J (dj (xs:= [.tmp 26,.tmp 27,.tmp 28]) (tp e {iA s p with d:=pk (iA s p).d (256*p) zer} n ((lV hs p).dd (fS _ _ _)) p (by omega) (mU zer) (by rw [rS];omega)) Qz [0,1,2,3] [] [0,1,2,3] J J J (fun _ _=> ?_))))))));rw [OH,CU];refine aF J (aq J (aa (bz (X:=Unit) (fun _=>True) (fun _=> [(0,Pt c),(1,Sg code),(4,Sg (mU zer)),(5,I6 (p:Int)),(6,I6 (if p>0 then 5 else 0))]) (fun _=> [(0,be e.m 157 (mR e)),(1,own 5 1 ct (sv e.vd) ({iA s p with d:=pk (iA s p).d (256*p) zer,i:=pk (iA s p).i (256*p) zer}).d),(2,own 5 1 ct (sv e.vi) ({iA s p with d:=pk (iA s p).d (256*p) zer,i:=pk (iA s p).i (256*p) zer}).i),(3,own 3 1 eI (sv e.vr) ({iA s p with d:=pk (iA s p).d (256*p) zer,i:=pk (iA s p).i (256*p) zer}).r),(4,be c 93 (qj 0 qI 0 e.m))]) (fun _=> []) ?_ (fun _ _=> ?_))))
  ·refine ar (ad J (av J J fh (aa (am J (fun h2=> ?_) (fun h2=> ?_)))))
   ·(try simp only [bk]at h2);refine ap (aq J (aa ?_));refine aG () O (by rw [aw (show p>0 by omega)];rfl) J J
   ·(try simp only [bk]at h2);refine aA ?_;refine aG () O (by rw [ai (show ¬p>0 by omega)];rfl) J J
  ·refine bz (X:=Unit) (fun _=>True) (fun _=> [(0,Pt c),(1,Sg code),(4,Sg (mU zer)),(5,I6 (p:Int)),(6,I6 (we p))]) (fun _=> [(0,be e.m 157 (mR e)),(1,own 5 1 ct (sv e.vd) ({iA s p with d:=pk (iA s p).d (256*p) zer,i:=pk (iA s p).i (256*p) zer}).d),(2,own 5 1 ct (sv e.vi) ({iA s p with d:=pk (iA s p).d (256*p) zer,i:=pk (iA s p).i (256*p) zer}).i),(3,own 3 1 eI (sv e.vr) ({iA s p with d:=pk (iA s p).d (256*p) zer,i:=pk (iA s p).i (256*p) zer}).r),(4,be c 93 (qj 0 qI 0 e.m))]) (fun _=> []) ?_ (fun _ _=> ?_)
   ·refine ar (ad J (av J J ig (aa (am J (fun h3=> ?_) (fun h3=> ?_)))))
    ·(try simp only [bk]at h3);refine ap (aq J (aa ?_));refine aG () O (by unfold we;rw [aw (show p≥32 by omega)];rfl) J J
    ·(try simp only [bk]at h3);refine aA ?_;refine aG () O (by unfold we;rw [ai (show ¬p≥32 by omega)];rfl) J J
   ·refine ap (ad J (bS J (aD gq J (aT 4 wo J J J J (ad J (ad J (dj (xs:= [.tmp 37,.tmp 38,.tmp 39]) (tq e {iA s p with d:=pk (iA s p).d (256*p) zer,i:=pk (iA s p).i (256*p) zer} n (((lV hs p).dd (fS _ _ _)).ii (fS _ _ _)) p (by omega) (we p) (we p) (yz p).2.2) Qy [0,1,2,3] [] [0,1,2,3] J J J (fun _ _=>aa (ap (ad J (av J J aO (aq J (aa ?_)))))))))))));refine aG (p+1) ⟨by omega,by omega⟩ J J J
 ·(try simp only [bk]at h1);have hi:p=64:=by omega
  subst hi;refine bM (ar (ad J (bS J (aD gq J (aT 4 wo J J J J (ad J (ak (xs:= [.tmp 44,.const (I3 256),.tmp 45]) (rI e (iA s 64) n (lV hs 64) 256 code (by omega) (by omega)) NE [0,1,2,3] [] [0,1,2,3] (fun _ _=>aa (aV (aq J (aa (aC (bI (X:=Nat) (fun p=>p≤31) (fun p=> [(0,Pt c),(7,I6 ((p+1:Nat):Int))]) (fun p=> [(0,be e.m 157 (mR e)),(1,own 5 1 ct (sv e.vd) (tA {iA s 64 with d:=pk (iA s 64).d 256 (bx code)} p).d),(2,own 5 1 ct (sv e.vi) (tA {iA s 64 with d:=pk (iA s 64).d 256 (bx code)} p).i),(3,own 3 1 eI (sv e.vr) (tA {iA s 64 with d:=pk (iA s 64).d 256 (bx code)} p).r),(4,be c 93 (qj 0 qI 0 e.m))]) (fun p=> []) (fun p=>31-p) 0 (bq _) J J J (fun p n2=>aV ?_))))))))))))));refine ad J (av J J cy (aa (am J (fun h4=> ?_) (fun h4=> ?_))))
  ·(try simp only [bk]at h4);have hi:p<31:=by omega
   refine aA (aZ (aC (ap (ad J (bS J (aD gq J (aT 4 wo J J J J (ad J (av J J (gd (c:=(((p+1)*256:Nat):Int)) (by rw [bU (by omega)];omega)) (aS (cB underlying3 underlying41 J (c:=(((p+1)*256:Nat):Int)) (cf (by omega))) (dj (xs:= [.tmp 54,.tmp 57]) (yv e (tA {iA s 64 with d:=pk (iA s 64).d 256 (bx code)} p) n (yW ((lV hs 64).dd (fS _ _ _)) p) (((p+1)*256:Nat):Int) (by rw [AH];have h1:=fS (bx code) (iA s 64).d 256;have h2:=(lV hs 64).d;dsimp only;omega)) Qk [0,1,2,3] [] [0,1,2,3] J J J (fun _ _=> ?_))))))))))));rw [show((((p+1)*256:Nat):Int)).toNat/256*256=(p+1)*256 by omega];refine aa (ap (ad J (av J J aO (aq J (aa ?_)))));refine aG (p+1) ⟨by omega,by omega⟩ J J J
  ·(try simp only [bk]at h4);have hi:p=31:=by omega
   subst hi;refine bM (ap (ad J (aS (aR (cs:=(sR 256 qI 0).toArray) (parts:= [(0,.const (I3 256))]) xP Pp J (by kernel_rfl)) (ak (xs:= [.tmp 59,.tmp 60]) (B3 c e.m) Qj [4] [] [4] (fun _ _=>aa (cQ () O J iz J [0,1,2,3,4] [] J J J))))))
structure Qs where
 pc:Nat
 r:Int→Int
 m:Int→Int
 inp:List Int
 out:List Int
def rp(r:Int→Int)(d v:Int):Int→Int:=fun k=>if k=d∧d≠0 then v else r k
def mw(m:Int→Int)(a v:Int):Int→Int:=fun k=>if k=a then v else m k
def tV(x:Int):Nat:=if 256≤x∧x%4=0 then((x-256)/4).toNat else 5000
def ja(p:Nat):Int:=256+4*(p:Int)
def AB(a:Int):Prop:=8192≤a∧a<16384∧a%4=0
instance(a:Int):Decidable (AB a):=by unfold AB;exact inferInstance
def xL(op a b:Int):Option Int:=
 if op=1∨op=16 then some (wU (a+b))else if op=2 then some (wU (a-b))else if op=3∨op=17 then some (bits .and .u32 a b)else
 if op=4∨op=18 then some (bits .or .u32 a b)else if op=5∨op=19 then some (bits .xor .u32 a b)else
 if op=6∨op=20 then some (wU (a*2^(b%32).toNat))else if op=7 then some (a/2^(b%32).toNat)else
 if op=9 then some (wU (a*b))else if op=10 then(if b=0 then none else some (a/b))else if op=11 then some (tr (decide (a<b)))else none
def wq(i:Qi)(c:Qs):Option Qs:=
 match xL i.op (c.r i.a) (if i.op<16 then c.r i.b else i.imm)with
 | some v=>some {c with pc:=c.pc+1,r:=rp c.r i.d v}
 | none=>
  if i.op=23 then(if AB (wU (c.r i.a+i.imm))then some {c with pc:=c.pc+1,r:=rp c.r i.d (c.m (wU (c.r i.a+i.imm)))}else none)else
  if i.op=25 then(if AB (wU (c.r i.a+i.imm))then some {c with pc:=c.pc+1,m:=mw c.m (wU (c.r i.a+i.imm)) (c.r i.d)}else none)else
  if i.op=27 then some {c with pc:=tV (wU (c.r i.a+i.imm)),r:=rp c.r i.d (ja (c.pc+1))}else
  if i.op=32 then some {c with pc:=if c.r i.d=c.r i.a then tV (wU (ja c.pc+4*i.imm))else c.pc+1}else
  if i.op=35 then some {c with pc:=if c.r i.d≥c.r i.a then tV (wU (ja c.pc+4*i.imm))else c.pc+1}else
  if i.op=40 then some {c with pc:=tV (wU (ja c.pc+4*i.imm)),r:=rp c.r i.d (ja (c.pc+1))}else
  if i.op=41 then some {c with pc:=c.pc+1,r:=rp c.r i.d (wU (i.imm*1024))}else
  if i.op=48∧i.imm=1 then some {c with pc:=c.pc+1,out:=c.out++ [c.r 1]}else
  if i.op=48∧i.imm=2 then some {c with pc:=c.pc+1,r:=rp c.r 1 (c.inp.headD 0),inp:=c.inp.tail}else none
def rn(code:List Qi):Nat→Qs→Qs→Prop
 | 0,c,c'=>c=c'
 | n+1,c,c'=>∃i c1,code[c.pc]?=some i∧wq i c=some c1∧rn code n c1 c'
theorem rn.trans{code:List Qi}:∀{n m:Nat}{a b c:Qs},rn code n a b→rn code m b c→rn code (n+m) a c
 | 0,m,a,b,c,h,h2=>by
  have:a=b:=h;subst this;rw [Nat.zero_add];exact h2
 | n+1,m,a,b,c,h,h2=>by
  obtain⟨i,c1,g1,g2,g3⟩:=h;rw [Nat.succ_add];exact⟨i,c1,g1,g2,g3.trans h2⟩
def cAt(code:List Qi)(p:Nat)(l:List Qi):Prop:=∀j i,l[j]?=some i→code[p+j]?=some i
theorem cAt.app{code:List Qi}{p:Nat}{a b:List Qi}(h:cAt code p (a++b)):cAt code p a∧cAt code (p+a.length) b:=by
 refine⟨fun j i hj=>h j i ?_,fun j i hj=> ?_⟩
 ·rw [List.getElem?_append_left (by obtain⟨h,-⟩:=db.1 hj;exact h)];exact hj
 ·have:=h (a.length+j) i (by rw [List.getElem?_append_right (by omega),show a.length+j-a.length=j by omega];exact hj);rw [Nat.add_assoc];exact this
theorem cAt.head{code:List Qi}{p:Nat}{i:Qi}{l:List Qi}(h:cAt code p (i::l)):code[p]?=some i∧cAt code (p+1) l:=
 ⟨h 0 i rfl,fun j x hj=>by
  have:=h (j+1) x hj;rw [show p+1+j=p+(j+1) by omega];exact this⟩
theorem cAt.of{a b l:List Qi}:cAt (a++l++b) a.length l:=fun j i hj=>by
 rw [List.append_assoc,List.getElem?_append_right (by omega),show a.length+j-a.length=j by omega,List.getElem?_append_left (by obtain⟨h,-⟩:=db.1 hj;exact h)];exact hj
def Go(code:List Qi)(n:Int)(c:Qs)(P:Qs→Prop):Prop:=∃(k:Nat)(c':Qs),(k:Int)≤n∧rn code k c c'∧P c'
theorem Go.done{code:List Qi}{n:Int}{c:Qs}{P:Qs→Prop}(hn:0≤n)(h:P c):Go code n c P:=⟨0,c,hn,rfl,h⟩
theorem Go.seq{code:List Qi}{n m k:Int}{c:Qs}{P Q:Qs→Prop}(h:Go code n c P)(h2:∀c',P c'→Go code m c' Q)(hk:n+m≤k):Go code k c Q:=by
 obtain⟨a,c1,h3,h4,h5⟩:=h;obtain⟨b,c2,h6,h7,h8⟩:=h2 c1 h5;exact⟨a+b,c2,by omega,h4.trans h7,h8⟩
theorem Go.weak{code:List Qi}{n m:Int}{c:Qs}{P Q:Qs→Prop}(h:Go code n c P)(h2:∀c',P c'→Q c')(hk:n≤m):Go code m c Q:=by
 obtain⟨a,c1,h3,h4,h5⟩:=h;exact⟨a,c1,by omega,h4,h2 c1 h5⟩
theorem Go.step{code:List Qi}{n:Int}{c c1:Qs}{i:Qi}{P:Qs→Prop}(h:code[c.pc]?=some i)(h2:wq i c=some c1)(h3:Go code (n-1) c1 P):Go code n c P:=by
 obtain⟨k,c2,h4,h5,h6⟩:=h3;exact⟨k+1,c2,by omega,⟨i,c1,h,h2,h5⟩,h6⟩
/-! The instructions that the compiler uses. -/
section
variable{code:List Qi}{n:Int}{c:Qs}{P:Qs→Prop}{d a b x:Int}
theorem gG{n:Int}(h:0≤n∧n<4294967296):wU n=n:=lg h.1 h.2
theorem EI{i:Qi}{v:Int}(h:code[c.pc]?=some i)(h2:xL i.op (c.r i.a) (if i.op<16 then c.r i.b else i.imm)=some v)(h3:Go code (n-1) {c with pc:=c.pc+1,r:=rp c.r i.d v} P):Go code n c P:=
 Go.step h (by unfold wq;rw [h2]) h3
theorem y9(h:code[c.pc]?=some (qi 23 d a x))(h2:AB (wU (c.r a+x)))(h3:Go code (n-1) {c with pc:=c.pc+1,r:=rp c.r d (c.m (wU (c.r a+x)))} P):Go code n c P:=
 Go.step (i:=qi 23 d a x) (c1:={c with pc:=c.pc+1,r:=rp c.r d (c.m (wU (c.r a+x)))}) h (by
  have e:wq (qi 23 d a x) c=(if AB (wU (c.r a+x))then some {c with pc:=c.pc+1,r:=rp c.r d (c.m (wU (c.r a+x)))}else none):=J;rw [e,aw h2]) h3
theorem y8(h:code[c.pc]?=some (qi 25 d a x))(h2:AB (wU (c.r a+x)))(h3:Go code (n-1) {c with pc:=c.pc+1,m:=mw c.m (wU (c.r a+x)) (c.r d)} P):Go code n c P:=
 Go.step (i:=qi 25 d a x) (c1:={c with pc:=c.pc+1,m:=mw c.m (wU (c.r a+x)) (c.r d)}) h (by
  have e:wq (qi 25 d a x) c=(if AB (wU (c.r a+x))then some {c with pc:=c.pc+1,m:=mw c.m (wU (c.r a+x)) (c.r d)}else none):=J;rw [e,aw h2]) h3
theorem Hs(h:code[c.pc]?=some (qi 27 d a x))(h3:Go code (n-1) {c with pc:=tV (wU (c.r a+x)),r:=rp c.r d (ja (c.pc+1))} P):Go code n c P:=
 Go.step h rfl h3
theorem vB(h:code[c.pc]?=some (qi 32 d a x))(h3:Go code (n-1) {c with pc:=if c.r d=c.r a then tV (wU (ja c.pc+4*x))else c.pc+1} P):Go code n c P:=
 Go.step h rfl h3
theorem Ht(h:code[c.pc]?=some (qi 35 d a x))(h3:Go code (n-1) {c with pc:=if c.r d≥c.r a then tV (wU (ja c.pc+4*x))else c.pc+1} P):Go code n c P:=
 Go.step h rfl h3
theorem r5(h:code[c.pc]?=some (qi 40 d a x))(h3:Go code (n-1) {c with pc:=tV (wU (ja c.pc+4*x)),r:=rp c.r d (ja (c.pc+1))} P):Go code n c P:=
 Go.step h rfl h3
theorem KQ(h:code[c.pc]?=some (qi 41 d a x))(h3:Go code (n-1) {c with pc:=c.pc+1,r:=rp c.r d (wU (x*1024))} P):Go code n c P:=
 Go.step h rfl h3
theorem KP(h:code[c.pc]?=some ⟨48,0,0,0,1⟩)(h3:Go code (n-1) {c with pc:=c.pc+1,out:=c.out++ [c.r 1]} P):Go code n c P:=
 Go.step h rfl h3
theorem Nb(h:code[c.pc]?=some ⟨48,0,0,0,2⟩)(h3:Go code (n-1) {c with pc:=c.pc+1,r:=rp c.r 1 (c.inp.headD 0),inp:=c.inp.tail} P):Go code n c P:=
 Go.step h rfl h3
end
theorem mT{p q:Nat}{x:Int}(hx:x=wU ((q:Int)-(p:Int)))(hq:q<10000)(hp:p<10000):tV (wU (ja p+4*x))=q:=by
 have e:wU (ja p+4*x)=256+4*(q:Int):=by
  rw [hx];unfold ja;have h1:∀n:Int,wU n=n%4294967296:=fun n=>J
  rw [h1,h1];omega
 unfold tV;rw [e,aw (by omega)];omega
theorem GW{p:Nat}(hp:p<10000):tV (wU (ja p+0))=p:=by
 rw [Int.add_zero];unfold ja;rw [gG (by omega)];unfold tV;rw [aw (by omega)];omega
def jQ(op:Int):Int:=
 if op=1∨op=16 then 3 else if op=2 then 4 else if op=3∨op=17 then 5 else if op=4∨op=18 then 6 else if op=5∨op=19 then 7 else
 if op=6∨op=20 then 8 else if op=7∨op=21 then 9 else if op=8∨op=22 then 10 else if op=9 then 11 else if op=10 then 12 else if op=11 then 14 else if op=12 then 15 else 0
def QG(k a b:Int):Option Int:=
 if k=3 then some (wU (a+b))else if k=4 then some (wU (a-b))else if k=5 then some (bits .and .u32 a b)else if k=6 then some (bits .or .u32 a b)else if k=7 then some (bits .xor .u32 a b)else
 if k=8 then some (wU (a*2^(b%32).toNat))else if k=9 then some (a/2^(b%32).toNat)else if k=11 then some (wU (a*b))else if k=12 then(if b=0 then none else some (a/b))else if k=14 then some (tr (decide (a<b)))else none
theorem LK{op a b v:Int}(h:xL op a b=some v):QG (jQ op) a b=some v:=by
 unfold xL at h;by_cases h1:op=1∨op=16
 ·rw [aw h1]at h;unfold jQ;rw [aw h1];exact h
 rw [ai h1]at h;unfold jQ;rw [ai h1];by_cases h2:op=2
 ·rw [aw h2]at h;rw [aw h2];exact h
 rw [ai h2]at h;rw [ai h2];by_cases h3:op=3∨op=17
 ·rw [aw h3]at h;rw [aw h3];exact h
 rw [ai h3]at h;rw [ai h3];by_cases h4:op=4∨op=18
 ·rw [aw h4]at h;rw [aw h4];exact h
 rw [ai h4]at h;rw [ai h4];by_cases h5:op=5∨op=19
 ·rw [aw h5]at h;rw [aw h5];exact h
 rw [ai h5]at h;rw [ai h5];by_cases h6:op=6∨op=20
 ·rw [aw h6]at h;rw [aw h6];exact h
 rw [ai h6]at h;rw [ai h6];by_cases h7:op=7
 ·rw [aw h7]at h;rw [aw (Or.inl h7)];exact h
 rw [ai h7]at h;by_cases h8:op=9
 ·rw [aw h8]at h;rw [ai (by omega),ai (by omega),aw h8];exact h
 rw [ai h8]at h;by_cases h9:op=10
 ·rw [aw h9]at h;rw [ai (by omega),ai (by omega),ai h8,aw h9];exact h
 rw [ai h9]at h;by_cases h10:op=11
 ·rw [aw h10]at h;rw [ai (by omega),ai (by omega),ai h8,ai h9,aw h10];exact h
 rw [ai h10]at h;cases h
theorem LJ{op a b v:Int}(h:xL op a b=some v):(1≤op∧op≤7∨9≤op∧op≤11∨16≤op∧op≤20)∧(op=10→b≠0)∧jQ op≠0:=by
 unfold xL at h;unfold jQ;by_cases h1:op=1∨op=16
 ·rw [aw h1];exact⟨by omega,by omega,by decide⟩
 rw [ai h1]at h;rw [ai h1];by_cases h2:op=2
 ·rw [aw h2];exact⟨by omega,by omega,by decide⟩
 rw [ai h2]at h;rw [ai h2];by_cases h3:op=3∨op=17
 ·rw [aw h3];exact⟨by omega,by omega,by decide⟩
 rw [ai h3]at h;rw [ai h3];by_cases h4:op=4∨op=18
 ·rw [aw h4];exact⟨by omega,by omega,by decide⟩
 rw [ai h4]at h;rw [ai h4];by_cases h5:op=5∨op=19
 ·rw [aw h5];exact⟨by omega,by omega,by decide⟩
 rw [ai h5]at h;rw [ai h5];by_cases h6:op=6∨op=20
 ·rw [aw h6];exact⟨by omega,by omega,by decide⟩
 rw [ai h6]at h;rw [ai h6];by_cases h7:op=7
 ·rw [aw (Or.inl h7)];exact⟨by omega,by omega,by decide⟩
 rw [ai h7]at h;by_cases h8:op=9
 ·rw [ai (by omega),ai (by omega),aw h8];exact⟨by omega,by omega,by decide⟩
 rw [ai h8]at h;by_cases h9:op=10
 ·rw [aw h9]at h;rw [ai (by omega),ai (by omega),ai h8,aw h9];refine⟨by omega,fun _ hb=> ?_,by decide⟩;rw [aw hb]at h;cases h
 rw [ai h9]at h;by_cases h10:op=11
 ·rw [ai (by omega),ai (by omega),ai h8,ai h9,aw h10];exact⟨by omega,by omega,by decide⟩
 rw [ai h10]at h;cases h
theorem B9(t:Bool):
  bi prog 182 [.bool t] [] [] (I3 (tr t)) []:=by
 refine aM func182 J ntmps182 J fun w0 M H=>ar (aq J (aa (aV (ad J (aa (am J (fun h1=> ?_) (fun h1=> ?_)))))))
 ·obtain rfl:t=true:=h1;refine ar (aq J (aa (az (aQ () O J (cc (aP J)) J [] [] J J J))))
 ·obtain rfl:t=false:=h1;refine aA (ar (aq J (aa (az (aQ () O J (cc (aP J)) J [] [] J J J)))))
theorem DM(k a b v:Int)(ha:0≤a∧a<4294967296)(hb:0≤b∧b<4294967296)(hv:QG k a b=some v):
  bi prog 150 [I6 k,I3 a,I3 b] [] [] (I3 v) []:=by
 refine aM func150 J ntmps150 J fun w0 M H=>ar (aq J (aa (aV (ad J (aa (aC (ar (av J J br (aq J (aa (am J (fun h1=> ?_) (fun h1=> ?_))))))))))))
 ·(try simp only [bk]at h1);obtain rfl:k=3:=h1;obtain rfl:wU (a+b)=v:=d5 hv;refine ar (ad J (ad J (av J J (cC J) (aq J (aa (az (aQ () O J (cc (aP J)) J [] [] J J J)))))))
 ·(try simp only [bk]at h1);refine ar (av J J br (aq J (aa (am J (fun h2=> ?_) (fun h2=> ?_)))))
  ·(try simp only [bk]at h2);obtain rfl:k=4:=h2;obtain rfl:wU (a-b)=v:=d5 hv;refine ar (ad J (ad J (av J J (gZ J) (aq J (aa (az (aQ () O J (cc (aP J)) J [] [] J J J)))))))
  ·(try simp only [bk]at h2);refine ar (av J J br (aq J (aa (am J (fun h3=> ?_) (fun h3=> ?_)))))
   ·(try simp only [bk]at h3);obtain rfl:k=5:=h3;obtain rfl:bits .and .u32 a b=v:=d5 hv;refine ar (ad J (ad J (av J J (BD J) (aq J (aa (az (aQ () O J (cc (aP J)) J [] [] J J J)))))))
   ·(try simp only [bk]at h3);refine ar (av J J br (aq J (aa (am J (fun h4=> ?_) (fun h4=> ?_)))))
    ·(try simp only [bk]at h4);obtain rfl:k=6:=h4;obtain rfl:bits .or .u32 a b=v:=d5 hv;refine ar (ad J (ad J (av J J (qFS J) (aq J (aa (az (aQ () O J (cc (aP J)) J [] [] J J J)))))))
    ·(try simp only [bk]at h4);refine ar (av J J br (aq J (aa (am J (fun h5=> ?_) (fun h5=> ?_)))))
     ·(try simp only [bk]at h5);obtain rfl:k=7:=h5;obtain rfl:bits .xor .u32 a b=v:=d5 hv;refine ar (ad J (ad J (av J J (OD J) (aq J (aa (az (aQ () O J (cc (aP J)) J [] [] J J J)))))))
     ·(try simp only [bk]at h5);refine ar (av J J br (aq J (aa (am J (fun h6=> ?_) (fun h6=> ?_)))))
      ·(try simp only [bk]at h6);obtain rfl:k=8:=h6;obtain rfl:wU (a*2^(b%32).toNat)=v:=d5 hv;refine ar (ad J (ad J (av J J (kA (by omega) (by first|exact rr (by omega)|rfl)) (av J J (jd (by omega) (by show _≤(32:Int);omega) J) (aq J (aa (az (aQ () O J (cc (aP J)) J [] [] J J J))))))))
      ·(try simp only [bk]at h6);refine ar (av J J br (aq J (aa (am J (fun h7=> ?_) (fun h7=> ?_)))))
       ·(try simp only [bk]at h7);obtain rfl:k=9:=h7;obtain rfl:a/2^(b%32).toNat=v:=d5 hv;refine ar (ad J (ad J (av J J (kA (by omega) (by first|exact rr (by omega)|rfl)) (av J J (s6 (by omega) (by show _≤(32:Int);omega) J) (aq J (aa (az (aQ () O J (cc (aP J)) J [] [] J J J))))))))
       ·(try simp only [bk]at h7);refine ar (av J J br (aq J (aa (am J (fun h8=> ?_) (fun h8=> ?_)))))
        ·(have hk:k=10:=by simpa using h8);subst hk;cases hv
        ·(try simp only [bk]at h8);refine ar (av J J br (aq J (aa (am J (fun h9=> ?_) (fun h9=> ?_)))))
         ·(try simp only [bk]at h9);obtain rfl:k=11:=h9;obtain rfl:wU (a*b)=v:=d5 hv;refine ar (ad J (ad J (av J J (gd J) (aq J (aa (az (aQ () O J (cc (aP J)) J [] [] J J J)))))))
         ·(try simp only [bk]at h9);refine ar (av J J br (aq J (aa (am J (fun h10=> ?_) (fun h10=> ?_)))))
          ·(try simp only [bk]at h10);obtain rfl:k=12:=h10;have hq:(if b=0 then none else some (a/b))=some v:=hv;refine aV (ad J (av J J br (aa (am J (fun h11=> ?_) (fun h11=> ?_)))))
           ·(have hz:b=0:=by simpa using h11);rw [aw hz]at hq;cases hq
           ·(try simp only [bk]at h11);have hz:¬b=0:=by simpa using h11
            rw [ai hz]at hq;obtain rfl:a/b=v:=d5 hq;refine aA (ar (ad J (ad J (av J J (iE (by omega) (pW ha (by omega))) (aq J (aa (az (aQ () O J (cc (aP J)) J [] [] J J J))))))))
          ·(try simp only [bk]at h10);refine ar (av J J br (aq J (aa (am J (fun h12=> ?_) (fun h12=> ?_)))))
           ·(have hk:k=13:=by simpa using h12);subst hk;cases hv
           ·(try simp only [bk]at h12);refine ar (av J J br (aq J (aa (am J (fun h13=> ?_) (fun h13=> ?_)))))
            ·(try simp only [bk]at h13);obtain rfl:k=14:=h13;obtain rfl:tr (decide (a<b))=v:=d5 hv;refine ar (ad J (ad J (av J J cy (ak (xs:= [.tmp 75]) (B9 (decide (a<b))) NU [] [] [] (fun _ _=>aq J (aa (az (aQ () O J (cc (aP J)) J [] [] J J J))))))))
            ·(try simp only [bk]at h13);refine ar (av J J br (aq J (aa (am J (fun h14=> ?_) (fun h14=> ?_)))))
             ·(have hk:k=15:=by simpa using h14);subst hk;cases hv
             ·(try simp only [bk]at h14);exfalso;unfold QG at hv;rw [ai (by omega),ai (by omega),ai (by omega),ai (by omega),ai (by omega),ai (by omega),ai (by omega),ai (by omega),ai (by omega),ai (by omega)]at hv;cases hv
end Go.Proofs.YtedmdgbmdplifaaGreat
