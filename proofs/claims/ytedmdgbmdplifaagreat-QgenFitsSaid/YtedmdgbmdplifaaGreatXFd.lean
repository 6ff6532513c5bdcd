/-
  A part of the proof. Conditions are with the theorems.
-/
import Derived.Test.YtedmdgbmdplifaaGreatXFa
import Derived.Test.YtedmdgbmdplifaaGreatXFb
import Derived.Test.YtedmdgbmdplifaaGreatXFc
set_option maxHeartbeats 32000000
set_option maxRecDepth 100000
set_option linter.unusedSimpArgs false
set_option linter.unusedVariables false
namespace Go.Proofs.YtedmdgbmdplifaaGreat
open Go.RowKit Tryz
theorem Ma{s:Ba}{i:Nat}(h:i<s.size):(br s)[i]?=some ((br s).getD i 0):=by
 have hl:=fY s;rw [List.getD_eq_getElem?_getD,bQ (by omega)];rfl
theorem MY{d:List Int}{k:Nat}{x:Int}(h:d.length≤k):d.set k x=d:=List.set_eq_of_length_le h
theorem MO.dd{s:Mm}{n:Nat}(h:MO s n){d:List Int}(hd:d.length=s.d.length):MO {s with d:=d} n:=⟨hd.trans h.d,h.i,h.r,h.n,h.rb⟩
theorem MO.ii{s:Mm}{n:Nat}(h:MO s n){d:List Int}(hd:d.length=s.i.length):MO {s with i:=d} n:=⟨h.d,hd.trans h.i,h.r,h.n,h.rb⟩
theorem td(e:Me)(s:Mm)(n:Nat)(hs:MO s n)(a:Nat)(t:Ba)(ht:a+t.size<4294967296)(ht2:t.size≤1000000):
  aW prog 35 [Pt e.m,I3 (a:Int),Sg t] [bj e.m 157 (mR e),own 5 1 cn (sv e.vd) (s).d,own 5 1 cn (sv e.vi) (s).i,own 3 1 eI (sv e.vr) (s).r] [] (.tuple #[]) [bj e.m 157 (mR e),own 5 1 cn (sv e.vd) ({s with d:=pk s.d a (br t)}).d,own 5 1 cn (sv e.vi) ({s with d:=pk s.d a (br t)}).i,own 3 1 eI (sv e.vr) ({s with d:=pk s.d a (br t)}).r]:=by
 refine aI func35 J ntmps35 J fun w0 M H=> ?_
 have hd:=hs.d;have hil:=hs.i;have hrl:=hs.r;have hnn:=hs.n;have hbl:=fY t;refine aq (am J (aa (aA (bJ (X:=Nat) (fun i=>i≤t.size) (fun i=> [(0,Pt e.m),(1,I3 (a:Int)),(2,Sg t),(6,I6 (i:Int))]) (fun i=> [(0,bj e.m 157 (mR e)),(1,own 5 1 cn (sv e.vd) (pk s.d a ((br t).take i))),(2,own 5 1 cn (sv e.vi) s.i),(3,own 3 1 eI (sv e.vr) s.r)]) (fun i=> []) (fun i=>t.size-i) 0 (bn _) J J J (fun i n1=>aU (ad J (ad J (aP (cH underlying9 J) (ar J J cy (aa (ap J (fun h1=> ?_) (fun h1=> ?_))))))))))))
 ·(try simp only [bl]at h1);have hi:i<t.size:=by omega
  have hpl:=fQ ((br t).take i) s.d a;have hxx:=Ma hi;refine aC (be (aA (aq (ad J (ad J (ad J (aP (cw underlying3 underlying41 J (c:=(i:Int)) (cc (by omega))) (ar J J (co (c:=((a+i:Nat):Int)) (by rw [cc (by omega)];omega)) (c_ (xs:= [.tmp 14,.tmp 18]) (pT e {s with d:=pk s.d a ((br t).take i)} n (hs.dd (fQ _ _ _)) ((a+i:Nat):Int) (by omega)) HO [0,1,2,3] [] [0,1,2,3] J J J (fun _ _=>am J (az J (ad J (aa (ap J (fun h2=> ?_) (fun h2=> ?_)))))))))))))))
  ·(try simp only [bl]at h2);have hq:a+i<s.d.length:=by simp at h2;omega
   obtain⟨y,hy⟩:∃y,(pk s.d a ((br t).take i))[a+i]?=some y:=⟨_,bQ (by omega)⟩
   refine bX [21,22,23,24,25,26,27,28,29,30,31,32] _ J (bP (V:= [(0,21,_),(1,22,_),(2,23,_),(3,24,_),(4,25,_),(5,26,_),(6,27,_),(7,28,_),(8,29,_),(9,30,_),(10,31,_),(11,32,_)]) [0,1,2,3,4,5,6,7,8,9,10,11] 12 [12,11,10,9,8,7,6,5,4,3,2,1,0] [] (fun _=> []) J J (aF J J (ae J (au J) (ae J (ah nz J) (ae J (ag Ab J J (ax (k:=0) J J)) (aF J J (aF J J (ae J (cw underlying3 underlying41 J (c:=(i:Int)) (cc (by omega))) (ae J (aQ J J (co (c:=((a+i:Nat):Int)) (by rw [cc (by omega)];omega))) (aF J J (aF J J (ae J (ew (j:=i) underlying9 J J J (by omega)) (ae J (aO (j:=a+i) underlying84 t5 J J (bh (k:=1) J) J (by show _<(pk s.d a ((br t).take i)).length;omega)) aw)))))))))))) J J J J J J J J J (fun _ _=>J) J (jp (k:=1) (e':=((br t).getD i 0)) t5 J J J (by intro _;rfl) hy J J) (fun _ _=>bA [] J J aw J J J ?_));refine ak (ad J (ar J J aK (am J (aa ?_))));refine aG (i+1) ⟨by omega,by omega⟩ J (by rw [cj hxx,nk,List.length_take,Nat.min_eq_left (by omega)];rfl) J
  ·(try simp only [bl]at h2);have hq:¬a+i<s.d.length:=by simp at h2;omega
   refine aC (ak (ad J (ar J J aK (am J (aa ?_)))));refine aG (i+1) ⟨by omega,by omega⟩ J (by rw [cj hxx,nk,List.length_take,Nat.min_eq_left (by omega),MY (by omega)];rfl) J
 ·(try simp only [bl]at h1);have hi:i=t.size:=by omega
  subst hi;refine bL (cJ () O J iU J [0,1,2,3] [] J (by rw [List.take_of_length_le (Nat.le_of_eq hbl)];rfl) J)
theorem uL(e:Me)(s:Mm)(n:Nat)(hs:MO s n)(p:Nat)(hp:p<n)(t:Ba)(ht2:t.size≤1000000):
  aW prog 37 [Pt e.m,I6 (p:Int),Sg t] [bj e.m 157 (mR e),own 5 1 cn (sv e.vd) (s).d,own 5 1 cn (sv e.vi) (s).i,own 3 1 eI (sv e.vr) (s).r] [] (.tuple #[]) [bj e.m 157 (mR e),own 5 1 cn (sv e.vd) ({s with i:=pk s.i (256*p) ((br t).take 256)}).d,own 5 1 cn (sv e.vi) ({s with i:=pk s.i (256*p) ((br t).take 256)}).i,own 3 1 eI (sv e.vr) ({s with i:=pk s.i (256*p) ((br t).take 256)}).r]:=by
 refine aI func37 J ntmps37 J fun w0 M H=> ?_
 have hd:=hs.d;have hil:=hs.i;have hrl:=hs.r;have hnn:=hs.n;have hbl:=fY t;refine aU (ad J (ar J J cy (ad J (aH [] J J O (fun hg1=>aV J) J (aH [(10,_)] J J ⟨J,O⟩ (fun hg2=>aV J) J (aH [(10,_),(11,_)] J J ⟨J,J,O⟩ (fun hg3=>au J) J (aH [(10,_),(11,_),(12,_)] J J ⟨J,J,J,O⟩ (fun hg4=>ah sF J) J (aH [(10,_),(11,_),(12,_),(13,_)] J J ⟨J,J,J,J,O⟩ (fun hg5=>ag Fa J J (ax (k:=0) J J)) J (aH [(10,_),(11,_),(12,_),(13,_),(14,_)] J J ⟨J,J,J,J,J,O⟩ (fun hg6=>aT underlying22 J (bh (k:=3) J)) J (aH [(10,_),(11,_),(12,_),(13,_),(14,_),(15,_)] J J ⟨J,J,J,J,J,J,O⟩ (fun hg7=>aQ J J iz) J (aP (bH J J J) (ad J (aH [] J J O (fun hg8=>aV J) J (aH [(19,_)] J J ⟨J,O⟩ (fun hg9=>au J) J (aH [(19,_),(20,_)] J J ⟨J,J,O⟩ (fun hg10=>ah xB J) J (aH [(19,_),(20,_),(21,_)] J J ⟨J,J,J,O⟩ (fun hg11=>ag t4 J J (ax (k:=0) J J)) J (aP (bH J J J) ?_)))))))))))))))));refine aa (ap J (fun h12=> ?_) (fun h12=> ?_))
 ·exact absurd h12 (by simp;omega)
 ·refine aC (aq (am J (aa (aA (bJ (X:=Nat) (fun i=>i≤t.size∧i≤256) (fun i=> [(0,Pt e.m),(1,I6 (p:Int)),(2,Sg t),(6,I6 (i:Int))]) (fun i=> [(0,bj e.m 157 (mR e)),(1,own 5 1 cn (sv e.vd) s.d),(2,own 5 1 cn (sv e.vi) (pk s.i (256*p) ((br t).take i))),(3,own 3 1 eI (sv e.vr) s.r)]) (fun i=> []) (fun i=>t.size-i) 0 ⟨bn _,bn _⟩ J J J (fun i n1=>aU (ad J (ad J (aP (cH underlying9 J) (ar J J cy (ad J (aH [] J J O (fun hg13=>aV J) J (aH [(29,_)] J J ⟨J,O⟩ (fun hg14=>aQ J J cy) J (aP (bH J J J) (aa (ap J (fun h15=> ?_) (fun h15=> ?_)))))))))))))))))
  ·(try simp only [bl]at h15);have hi:i<t.size∧i<256:=by omega
   have hpl:=fQ ((br t).take i) s.i (256*p);have hxx:=Ma hi.1;obtain⟨y,hy⟩:∃y,(pk s.i (256*p) ((br t).take i))[256*p+i]?=some y:=⟨_,bQ (by omega)⟩
   refine aC (be (aA ?_));refine bX [34,35,36,37,38,39,40,41,42,43,44,45] _ J (bP (V:= [(0,34,_),(1,35,_),(2,36,_),(3,37,_),(4,38,_),(5,39,_),(6,40,_),(7,41,_),(8,42,_),(9,43,_),(10,44,_),(11,45,_)]) [0,1,2,3,4,5,6,7,8,9,10,11] 12 [12,11,10,9,8,7,6,5,4,3,2,1,0] [] (fun _=> []) J J (aF J J (ae J (au J) (ae J (ah sG J) (ae J (ag Ab J J (ax (k:=0) J J)) (aF J J (ae J (aQ J J (fN (bM (by omega)))) (aF J J (ae J (aQ J J (co (c:=((256*p+i:Nat):Int)) (by rw [bM (by omega)];omega))) (aF J J (aF J J (ae J (ew (j:=i) underlying9 J J J (by omega)) (ae J (aO (j:=256*p+i) underlying84 t5 J J (bh (k:=2) J) J (by omega)) aw)))))))))))) J J J J J J J J J (fun _ _=>J) J (jp (k:=2) (e':=((br t).getD i 0)) t5 J J J (by intro _;rfl) hy J J) (fun _ _=>bA [] J J aw J J J ?_));refine ak (ad J (ar J J aK (am J (aa ?_))));refine aG (i+1) ⟨by omega,by omega⟩ J (by rw [cj hxx,nk,List.length_take,Nat.min_eq_left (by omega)];rfl) J
  ·(try simp only [bl]at h15);have hi:i=min t.size 256:=by omega
   have htk:(br t).take i=(br t).take 256:=by
    rw [hi];by_cases h:t.size≤256
    ·rw [Nat.min_eq_left h,List.take_of_length_le (by omega),List.take_of_length_le (by omega)]
    ·rw [Nat.min_eq_right (by omega)]
   refine bL (cJ () O J iU J [0,1,2,3] [] J (by rw [htk];rfl) J)
theorem uM(e:Me)(s:Mm)(n:Nat)(hs:MO s n)(p:Nat)(hp:p<n)(z q:Int)(hq:bits .and .i64 z 7=q):
  aW prog 38 [Pt e.m,I6 (p:Int),I6 z] [bj e.m 157 (mR e),own 5 1 cn (sv e.vd) (s).d,own 5 1 cn (sv e.vi) (s).i,own 3 1 eI (sv e.vr) (s).r] [] (.tuple #[]) [bj e.m 157 (mR e),own 5 1 cn (sv e.vd) ({s with r:=s.r.set p q}).d,own 5 1 cn (sv e.vi) ({s with r:=s.r.set p q}).i,own 3 1 eI (sv e.vr) ({s with r:=s.r.set p q}).r]:=by
 refine aI func38 J ntmps38 J fun w0 M H=> ?_
 have hd:=hs.d;have hil:=hs.i;have hrl:=hs.r;have hnn:=hs.n;obtain⟨y,hy⟩:∃y,s.r[p]?=some y:=⟨_,bQ (by omega)⟩
 refine aq (ad J (ar J J iz (ad J (aH [] J J O (fun hg1=>aV J) J (aH [(9,_)] J J ⟨J,O⟩ (fun hg2=>aV J) J (aH [(9,_),(10,_)] J J ⟨J,J,O⟩ (fun hg3=>au J) J (aH [(9,_),(10,_),(11,_)] J J ⟨J,J,J,O⟩ (fun hg4=>ah sF J) J (aH [(9,_),(10,_),(11,_),(12,_)] J J ⟨J,J,J,J,O⟩ (fun hg5=>ag Fa J J (ax (k:=0) J J)) J (aH [(9,_),(10,_),(11,_),(12,_),(13,_)] J J ⟨J,J,J,J,J,O⟩ (fun hg6=>aT underlying22 J (bh (k:=3) J)) J (aH [(9,_),(10,_),(11,_),(12,_),(13,_),(14,_)] J J ⟨J,J,J,J,J,J,O⟩ (fun hg7=>aQ J J cy) J (aP (bH J J J) (aa (ap J (fun h8=> ?_) (fun h8=> ?_))))))))))))))
 ·refine ak (ad J (bS J (aD sF J (aR 0 Fa J J J J (ad J (ad J (ar J J (Dq hq) (aP (aO (j:=p) underlying22 t3 J J (bh (k:=3) J) J (by omega)) (th (k:=3) (e':=q) t3 J J J (by intro _;rfl) hy J J (aa (cJ () O J iU J [0,1,2,3] [] J J J)))))))))))
 ·exact absurd h8 (by simp;omega)
theorem Ao(e:Me)(s:Mm)(n:Nat)(hs:MO s n)(a:Int)(ha:0≤a∧a<s.d.length):
  aW prog 76 [Pt e.m,I3 a] [bj e.m 157 (mR e),own 5 1 cn (sv e.vd) (s).d,own 5 1 cn (sv e.vi) (s).i,own 3 1 eI (sv e.vr) (s).r] [] (.bool true) [bj e.m 157 (mR e),own 5 1 cn (sv e.vd) ({s with i:=pk s.i (a.toNat/256*256) ((s.d.drop (a.toNat/256*256)).take 256)}).d,own 5 1 cn (sv e.vi) ({s with i:=pk s.i (a.toNat/256*256) ((s.d.drop (a.toNat/256*256)).take 256)}).i,own 3 1 eI (sv e.vr) ({s with i:=pk s.i (a.toNat/256*256) ((s.d.drop (a.toNat/256*256)).take 256)}).r]:=by
 refine aI func76 J ntmps76 J fun w0 M H=> ?_
 have hd:=hs.d;have hil:=hs.i;have hrl:=hs.r;have hnn:=hs.n;have hpp:a.toNat/256<n:=by omega
 refine aq (am J (az J (ad J (ad J (ai (xs:= [.tmp 8,.tmp 9]) (pT e s n hs a (by omega)) HO [0,1,2,3] [] [0,1,2,3] (fun _ _=> ?_))))));rw [decide_eq_true ha.2];refine am J (aa (aU (ad J (ad J (aH [] J J O (fun hg1=>aV J) J (aH [(13,_)] J J ⟨J,O⟩ (fun hg2=>au J) J (aH [(13,_),(14,_)] J J ⟨J,J,O⟩ (fun hg3=>ah xB J) J (aH [(13,_),(14,_),(15,_)] J J ⟨J,J,J,O⟩ (fun hg4=>ag t4 J J (ax (k:=0) J J)) J (aH [(13,_),(14,_),(15,_),(16,_)] J J ⟨J,J,J,J,O⟩ (fun hg5=>cZ J) J (aP (bH J J J) (aa (ap J (fun h6=> ?_) (fun h6=> ?_)))))))))))))
 ·refine aq (ad J (aP (cw underlying41 underlying3 J (c:=a) (bM (by omega))) (ar J J (ml (by decide) (c:=((a.toNat/256:Nat):Int)) (by rw [Int.tdiv_eq_ediv_of_nonneg ha.1,bM (by omega)];omega)) (ar J J (fN (c:=((a.toNat/256*256:Nat):Int)) (by rw [bM (by omega)];omega)) (am J (az J (ad J (am J (aa (aA ?_))))))))));refine bJ (X:=Nat) (fun k=>k≤256) (fun k=> [(0,Pt e.m),(5,.bool true),(6,I6 ((a.toNat/256*256:Nat):Int)),(7,I6 (((a.toNat/256*256:Nat):Int)+(k:Int)))]) (fun k=> [(0,bj e.m 157 (mR e)),(1,own 5 1 cn (sv e.vd) s.d),(2,own 5 1 cn (sv e.vi) (pk s.i (a.toNat/256*256) ((s.d.drop (a.toNat/256*256)).take k))),(3,own 3 1 eI (sv e.vr) s.r)]) (fun k=> []) (fun k=>256-k) 0 (bn _) (by rw [show((a.toNat/256*256:Nat):Int)+((0:Nat):Int)=((a.toNat/256*256:Nat):Int) by omega];rfl) J J (fun k n1=> ?_);refine aU (ad J (ad J (ar J J aK (ar J J cy (aa (ap J (fun h7=> ?_) (fun h7=> ?_)))))))
  ·(try simp only [bl]at h7);have hi:k<256:=by omega
   have hpl:=fQ ((s.d.drop (a.toNat/256*256)).take k) s.i (a.toNat/256*256);obtain⟨x,hxx⟩:∃x,s.d[a.toNat/256*256+k]?=some x:=⟨_,bQ (by omega)⟩
   have hxd:(s.d.drop (a.toNat/256*256))[k]?=some x:=by rw [List.getElem?_drop];exact hxx
   obtain⟨y,hy⟩:∃y,(pk s.i (a.toNat/256*256) ((s.d.drop (a.toNat/256*256)).take k))[a.toNat/256*256+k]?=some y:=⟨_,bQ (by omega)⟩
   refine aC (be (aA ?_));refine bX [30,31,32,33,34,35,36,37,38,39,40,41,42] _ J (bP (V:= [(0,30,_),(1,31,_),(2,32,_),(3,33,_),(4,34,_),(5,35,_),(6,36,_),(7,37,_),(8,38,_),(9,39,_),(10,40,_),(11,41,_),(12,42,_)]) [0,1,2,3,4,5,6,7,8,9,10,11,12] 13 [13,12,11,10,9,8,7,6,5,4,3,2,1,0] [] (fun _=> []) J J (aF J J (ae J (au J) (ae J (ah sG J) (ae J (ag Ab J J (ax (k:=0) J J)) (aF J J (aF J J (ae J (au J) (ae J (ah nz J) (ae J (ag Ab J J (ax (k:=0) J J)) (aF J J (ae J (aO (j:=a.toNat/256*256+k) underlying84 t5 J J (bh (k:=1) J) (by omega) (by omega)) (ae J (ag t5 J J (bF (bh (k:=1) J) (by intro _;rfl) hxx (by rfl))) (ae J (aO (j:=a.toNat/256*256+k) underlying84 t5 J J (bh (k:=2) J) (by omega) (by omega)) aw))))))))))))) J J J J J J J J J (fun _ _=>J) J (jp (k:=2) (e':=x) t5 J J J (by intro _;rfl) hy J J) (fun _ _=>bA [] J J aw J J J ?_));refine ak (ad J (ar J J (co (c:=((a.toNat/256*256:Nat):Int)+((k+1:Nat):Int)) (by rw [bM (by omega)];omega)) (am J (aa ?_))));refine aG (k+1) ⟨by omega,by omega⟩ J (by rw [cj hxd,nk,List.length_take,Nat.min_eq_left (by rw [List.length_drop];omega)];rfl) J
  ·(try simp only [bl]at h7);have hi:k=256:=by omega
   subst hi;refine bL (aq (ad J (am J (aa (ay (aN () O J (ce (aL J)) J [0,1,2,3] [] J J J))))))
 ·exact absurd h6 (by simp)
theorem dn{c:Prop} [Decidable c]{a b:Qg}{n:Nat}(h1:a.sz≤n)(h2:b.sz≤n):(if c then a else b).sz≤n:=by
 by_cases h:c
 ·rw [aj h];exact h1
 ·rw [ac h];exact h2
theorem NR(o:Ba)(s:Qg):(rS o s).sz≤s.sz+9:=by
 unfold rS;refine dn ?_ (dn ?_ (dn ?_ (dn ?_ (dn ?_ (dn ?_ (dn ?_ (dn ?_ (dn ?_ (dn ?_ (dn ?_ (dn ?_ (dn ?_ (dn ?_ (dn ?_ (dn ?_ ?_)))))))))))))));all_goals
  (try simp only [bG,cr,ca,bW,dk,aY,aS])
  omega
theorem NQ(o:Ba)(s:Qg):(Hb o s).sz≤s.sz+2:=by
 unfold Hb;refine dn ?_ (dn ?_ (dn ?_ ?_));all_goals
  (try simp only [bG,dk,aY,aS])
  omega
theorem J8(n:Int)(s:Qg):(tM n s).sz≤s.sz+2:=by
 unfold tM;refine dn ?_ ?_;all_goals
  (try simp only [bG,dk,aY,aS])
  omega
mutual
theorem og(o st:Om):∀(t:Tx)(s:Qg),(gX o st t s).sz+2≤s.sz+22*nX t
 | .mk k n nm _ kids,s=>by
  have h0:=A3 o st kids;have h1:=fun s=>CE o st kids s
  have hs:=xq o st kids;have hu:=NQ nm (nu o st kids s);have hn:=J8 n s;have ho:=NR nm ((OR o st kids ((nu o st kids s).push 1)).pop 2);have i0:=h0 s;have i1:=h1 s;have is:=hs s;rw [d5]at ho;unfold gX nX
  suffices h:∀x:Qg,x.sz≤s.sz+22*dD kids+20→x.sz+2≤s.sz+22*(dD kids+1)from h _ (by
   refine dn (by omega) (dn ?_ (dn ?_ (dn ?_ (dn (by omega) (dn (by omega) (dn ?_ (by omega)))))))
   ·simp only [bG,dk];omega
   ·simp only [bG,dk];omega
   ·simp only [bG,dM,dk];omega
   ·dsimp only;refine dn ?_ ?_
    ·simp only [bG,ca,dk];omega
    ·simp only [ca];omega)
  intro x hx;omega
theorem A3(o st:Om):∀(l:List Tx)(s:Qg),(nu o st l s).sz≤s.sz+22*dD l
 | [],s=>Nat.le_add_right _ _
 | t::r,s=>by
  have:=og o st t s;unfold nu dD;omega
theorem CE(o st:Om):∀(l:List Tx)(s:Qg),(OR o st l ((nu o st l s).push 1)).sz≤s.sz+22*dD l+2
 | [],s=>by
  show(s.push 1).sz≤_;rw [c9];omega
 | t::r,s=>by
  have h1:=og o st t s;have h2:=A3 o st r ((gX o st t s).push 1);rw [c9]at h2;show(nu o st r ((gX o st t s).push 1)).sz≤_;unfold dD;omega
theorem xq(o st:Om):∀(l:List Tx)(s:Qg),(vL o st l s).sz≤s.sz+22*dD l
 | [],s=>Nat.le_add_right _ _
 | t::r,s=>by
  have h1:=og o st t s;have h2:=xq o st r ((gX o st t s).push 1);rw [c9]at h2;unfold vL dD;omega
end
theorem Spec.roW{P:Program}{n:Nat}{vs:List Value}{X:Type}{L R:List Asn}{φ:X→Prop}{v:X→Value}{L1:X→List Asn}{B:Asn}(h:∀A∈R,∀w G,B.pred w G→(∀b,G b→b<w.heap.size)→∃G':Nat→Prop,A.pred w G'∧∀b,G' b→G b)
  (hs:Spec P n vs L R φ v L1 (fun _=> [])):Spec P n vs L [B] φ v L1 (fun _=> []):=by
 intro w M H hl;refine hs w M H ?_;obtain⟨F,hF⟩:=hl;refine⟨F,hF.touch,hF.has,hF.lt,hF.mine,hF.apart,fun k A hk=> ?_⟩;obtain⟨G,g1,g2⟩:=hF.ro 0 B J;obtain⟨G',a1,a2⟩:=h A (bV hk) w G g1 fun b hb=>(g2 b hb).1
 exact⟨G',a1,fun b hb=>g2 b (a2 b hb)⟩
def R6(e:Ga)(c:Oq)(o:Ba)(s:Qg):Prop:=
 ∃n l,(UQ c).find? (fun x=>decide (Prod.fst x=o))=some (o,cE n l)∧Cb prog n∧aW prog n (l.map fun b=>Value.pointer (some ⟨b,0,none⟩)) [gA e s] [jU e.g c] (.tuple #[]) [gA e (rS o s)]
theorem fC{g:Nat}{c:Oq}{R:List Asn}(h:∀A∈R,∃i:Nat,(P2 g c)[i]?=some A):∀A∈R,∀w G,(jU g c).pred w G→(∀b,G b→b<w.heap.size)→∃G':Nat→Prop,A.pred w G'∧∀b,G' b→G b:=fun A hA w G h1 h2=>by
 obtain⟨i,hi⟩:=h A hA;exact F8 i hi w G h1 h2
theorem Ni(e:Ga)(c:Oq)(o:Ba)(s:Qg)(hz:s.sz≤890000)(h:gJ o=true):R6 e c o s:=by
 by_cases h0:o=gg
 ·subst h0;refine⟨85,[c.bg,c.b0],J,u5,?_⟩;rw [show rS gg s=s.emit [q3 1 1 2 1]from J];exact Spec.roW (fC (fun A hA=>by
    simp only [List.mem_cons,List.not_mem_nil,or_false]at hA;rcases hA with rfl|rfl
    ·exact⟨1,J⟩
    ·exact⟨2,J⟩
   )) (ik e s (by omega) c.bg c.b0 1)
 by_cases h1:o=dU
 ·subst h1;refine⟨85,[c.bg,c.b1],J,u5,?_⟩;rw [show rS dU s=s.emit [q3 2 1 2 1]from J];exact Spec.roW (fC (fun A hA=>by
    simp only [List.mem_cons,List.not_mem_nil,or_false]at hA;rcases hA with rfl|rfl
    ·exact⟨1,J⟩
    ·exact⟨3,J⟩
   )) (ik e s (by omega) c.bg c.b1 2)
 by_cases h2:o=gT
 ·subst h2;refine⟨85,[c.bg,c.b2],J,u5,?_⟩;rw [show rS gT s=s.emit [q3 9 1 2 1]from J];exact Spec.roW (fC (fun A hA=>by
    simp only [List.mem_cons,List.not_mem_nil,or_false]at hA;rcases hA with rfl|rfl
    ·exact⟨1,J⟩
    ·exact⟨4,J⟩
   )) (ik e s (by omega) c.bg c.b2 9)
 by_cases h3:o=fo
 ·subst h3;refine⟨85,[c.bg,c.b3],J,u5,?_⟩;rw [show rS fo s=s.emit [q3 3 1 2 1]from J];exact Spec.roW (fC (fun A hA=>by
    simp only [List.mem_cons,List.not_mem_nil,or_false]at hA;rcases hA with rfl|rfl
    ·exact⟨1,J⟩
    ·exact⟨5,J⟩
   )) (ik e s (by omega) c.bg c.b3 3)
 by_cases h4:o=kK
 ·subst h4;refine⟨85,[c.bg,c.b4],J,u5,?_⟩;rw [show rS kK s=s.emit [q3 4 1 2 1]from J];exact Spec.roW (fC (fun A hA=>by
    simp only [List.mem_cons,List.not_mem_nil,or_false]at hA;rcases hA with rfl|rfl
    ·exact⟨1,J⟩
    ·exact⟨6,J⟩
   )) (ik e s (by omega) c.bg c.b4 4)
 by_cases h5:o=fw
 ·subst h5;refine⟨85,[c.bg,c.b5],J,u5,?_⟩;rw [show rS fw s=s.emit [q3 5 1 2 1]from J];exact Spec.roW (fC (fun A hA=>by
    simp only [List.mem_cons,List.not_mem_nil,or_false]at hA;rcases hA with rfl|rfl
    ·exact⟨1,J⟩
    ·exact⟨7,J⟩
   )) (ik e s (by omega) c.bg c.b5 5)
 by_cases h6:o=gQ
 ·subst h6;refine⟨85,[c.bg,c.b6],J,u5,?_⟩;rw [show rS gQ s=s.emit [q3 6 1 2 1]from J];exact Spec.roW (fC (fun A hA=>by
    simp only [List.mem_cons,List.not_mem_nil,or_false]at hA;rcases hA with rfl|rfl
    ·exact⟨1,J⟩
    ·exact⟨8,J⟩
   )) (ik e s (by omega) c.bg c.b6 6)
 by_cases h7:o=ib
 ·subst h7;refine⟨85,[c.bg,c.b7],J,u5,?_⟩;rw [show rS ib s=s.emit [q3 7 1 2 1]from J];exact Spec.roW (fC (fun A hA=>by
    simp only [List.mem_cons,List.not_mem_nil,or_false]at hA;rcases hA with rfl|rfl
    ·exact⟨1,J⟩
    ·exact⟨9,J⟩
   )) (ik e s (by omega) c.bg c.b7 7)
 by_cases h8:o=mx
 ·subst h8;refine⟨85,[c.bg,c.b8],J,u5,?_⟩;rw [show rS mx s=s.emit [q3 11 1 2 1]from J];exact Spec.roW (fC (fun A hA=>by
    simp only [List.mem_cons,List.not_mem_nil,or_false]at hA;rcases hA with rfl|rfl
    ·exact⟨1,J⟩
    ·exact⟨10,J⟩
   )) (ik e s (by omega) c.bg c.b8 11)
 by_cases h9:o=nQ
 ·subst h9;refine⟨87,[c.bg],J,QS,?_⟩;rw [show rS nQ s=s.emit [q3 11 1 1 2]from J];exact Spec.roW (fC (fun A hA=>by
    simp only [List.mem_cons,List.not_mem_nil,or_false]at hA;rcases hA with rfl
    ·exact⟨1,J⟩
   )) (zA e s (by omega) c.bg)
 by_cases h10:o=nP
 ·subst h10;refine⟨89,[c.f0,c.bg],J,Oh,?_⟩;rw [show rS nP s=(s.emit [q3 11 1 1 2]).emit [qi 19 1 1 1]from J];exact Spec.roW (fC (fun A hA=>by
    simp only [List.mem_cons,List.not_mem_nil,or_false]at hA;rcases hA with rfl|rfl
    ·exact⟨12,J⟩
    ·exact⟨1,J⟩
   )) (wh e s (by omega) c.bg c.f0 87 (s.emit [q3 11 1 1 2]) (by rw [bG];simp;omega) QS (zA e s (by omega) c.bg))
 by_cases h11:o=oU
 ·subst h11;refine⟨89,[c.f1,c.bg],J,Oh,?_⟩;rw [show rS oU s=(s.emit [q3 11 1 2 1]).emit [qi 19 1 1 1]from J];exact Spec.roW (fC (fun A hA=>by
    simp only [List.mem_cons,List.not_mem_nil,or_false]at hA;rcases hA with rfl|rfl|rfl
    ·exact⟨13,J⟩
    ·exact⟨1,J⟩
    ·exact⟨11,J⟩
   )) (EG e s (by omega) c.bg c.b9 c.f1 85 (s.emit [q3 11 1 2 1]) (by rw [bG];simp;omega) u5 (ik e s (by omega) c.bg c.b9 11))
 by_cases h12:o=nO
 ·subst h12;refine⟨90,[c.bg],J,QR,?_⟩;rw [show rS nO s=(s.emit [q3 5 1 2 1]).emit [q3 11 1 0 1]from J];exact Spec.roW (fC (fun A hA=>by
    simp only [List.mem_cons,List.not_mem_nil,or_false]at hA;rcases hA with rfl
    ·exact⟨1,J⟩
   )) (zz e s (by omega) c.bg)
 by_cases h13:o=nR
 ·subst h13;refine⟨89,[c.f2,c.bg],J,Oh,?_⟩;rw [show rS nR s=((s.emit [q3 5 1 2 1]).emit [q3 11 1 0 1]).emit [qi 19 1 1 1]from J];exact Spec.roW (fC (fun A hA=>by
    simp only [List.mem_cons,List.not_mem_nil,or_false]at hA;rcases hA with rfl|rfl
    ·exact⟨14,J⟩
    ·exact⟨1,J⟩
   )) (wh e s (by omega) c.bg c.f2 90 ((s.emit [q3 5 1 2 1]).emit [q3 11 1 0 1]) (by rw [bG,bG];simp;omega) QR (zz e s (by omega) c.bg))
 by_cases h14:o=la
 ·subst h14;refine⟨91,[c.bg],J,Ua,?_⟩;rw [show rS la s=((s.lab.jump 32 1 0 s.labs.length).emit [q3 10 1 2 1]).place s.labs.length from J];exact Spec.roW (fC (fun A hA=>by
    simp only [List.mem_cons,List.not_mem_nil,or_false]at hA;rcases hA with rfl
    ·exact⟨1,J⟩
   )) (Ie e s (by omega) c.bg)
 by_cases h15:o=lR
 ·subst h15;refine⟨93,[c.bg],J,T_,?_⟩;rw [show rS lR s=((((((s.lab.emit [q3 1 3 1 0]).jump 32 1 0 s.labs.length).emit [q3 10 3 2 1]).emit [q3 9 3 3 1]).place s.labs.length)).emit [q3 2 1 2 3]from J];exact Spec.roW (fC (fun A hA=>by
    simp only [List.mem_cons,List.not_mem_nil,or_false]at hA;rcases hA with rfl
    ·exact⟨1,J⟩
   )) (Id e s (by omega) c.bg)
 exfalso;unfold gJ at h;rw [Option.isSome_iff_exists]at h;obtain⟨x,hx⟩:=h;have hm:=List.mem_of_find?_eq_some hx;have he:=List.find?_some hx;simp only [decide_eq_true_eq]at he;simp only [lvL,List.mem_cons,List.not_mem_nil,or_false]at hm;rcases hm with rfl|rfl|rfl|rfl|rfl|rfl|rfl|rfl|rfl|rfl|rfl|rfl|rfl|rfl|rfl|rfl
 ·exact h15 he.symm
 ·exact h14 he.symm
 ·exact h2 he.symm
 ·exact h1 he.symm
 ·exact h0 he.symm
 ·exact h7 he.symm
 ·exact h6 he.symm
 ·exact h11 he.symm
 ·exact h9 he.symm
 ·exact h10 he.symm
 ·exact h8 he.symm
 ·exact h12 he.symm
 ·exact h13 he.symm
 ·exact h3 he.symm
 ·exact h5 he.symm
 ·exact h4 he.symm
section
variable{P:Program}{N:Nat}{w0:World}{M H:Nat→Prop}{E:ft}{Γ R:eD}
theorem qQ{k o b:Nat}{e:Ga}{s:Qg}{u:Value}(hk:ch Γ k=some (gA e s))(hu:∀x:SV×SV×SV,(gR e.vp x.1 x.2.1 x.2.2 e.ms e.mo e.mp e.en)[o]?=some u)(hb:e.g=b):Gives w0 M H Γ R b o [u]:=by
 subst hb;intro w hC j u' hj;obtain⟨G,⟨x,Fs,h1,-,-⟩,-⟩:=hC.reads (.inl hk);obtain⟨-,h2⟩:=h1 0 _ J;cases j with
 | zero=>
  simp at hj;subst hj;rw [cell_of_row w e.g (o+0) _ 111 (0,0) h2];simpa using hu x
 | succ j=>simp at hj
def vQ(p:Ba×Int):Value:=I3 p.2
theorem FY{S kt et:TypeId}{x y:Operand}{o:Option Nat}{k:Ba}{L:Om}{D:TypeDesc}{s bb:Nat}(hS:P.underlying S=some (.map kt et))(hK:KeyLaw P kt ie)(ht:TI P et D (I3 0) s bb)(hx:ev E x=some (.map o))(hy:ev E y=some (ie k))(hm:HasMp Γ R ie Prod.fst vQ o L):
  PR P N w0 M H E Γ R (.lookup S x y false) (I3 (bI L k)):=by
 have:=pn (w0:=w0) (M:=M) (H:=H) (N:=N) (ok:=false) hS hK ht hx hy hm J;have e:((L.find? (fun a=>decide (Prod.fst a=k))).map vQ).getD (I3 0)=I3 (bI L k):=by
  unfold bI;cases L.find? (fun a=>decide (Prod.fst a=k))<;>rfl
 rw [←e];exact this
theorem FZ{S kt et:TypeId}{x y:Operand}{o:Option Nat}{k:Ba}{L:Om}{D:TypeDesc}{s bb:Nat}(hS:P.underlying S=some (.map kt et))(hK:KeyLaw P kt ie)(ht:TI P et D (I6 0) s bb)(hx:ev E x=some (.map o))(hy:ev E y=some (ie k))(hm:HasMp Γ R ie Prod.fst vI o L):
  PR P N w0 M H E Γ R (.lookup S x y false) (I6 (bI L k)):=by
 have:=pn (w0:=w0) (M:=M) (H:=H) (N:=N) (ok:=false) hS hK ht hx hy hm J;have e:((L.find? (fun a=>decide (Prod.fst a=k))).map vI).getD (I6 0)=I6 (bI L k):=by
  unfold bI;cases L.find? (fun a=>decide (Prod.fst a=k))<;>rfl
 rw [←e];exact this
end
theorem TV{o st:Om}{t:Tx}{s:Qg}(h:t.kind=1):gX o st t s=tM t.n s:=by
 obtain⟨k,n,nm,v,kids⟩:=t;obtain rfl:k=1:=h;rfl
theorem TU{o st:Om}{t:Tx}{s:Qg}(h:t.kind=2):gX o st t s=s.emit [qi 23 1 13 (bI o t.name)]:=by
 obtain⟨k,n,nm,v,kids⟩:=t;obtain rfl:k=2:=h;rfl
theorem TR{o st:Om}{t:Tx}{s:Qg}(h:t.kind=5):gX o st t s=s.emit [⟨48,0,0,0,2⟩]:=by
 obtain⟨k,n,nm,v,kids⟩:=t;obtain rfl:k=5:=h;rfl
theorem TS{o st:Om}{t u:Tx}{s:Qg}(h:t.kind=4)(hk:t.kids= [u]):gX o st t s=((gX o st u s).elem 1).emit [qi 23 1 1 8192]:=by
 obtain⟨k,n,nm,v,kids⟩:=t;obtain rfl:k=4:=h;obtain rfl:kids= [u]:=hk;rfl
theorem TQ{o st:Om}{t u:Tx}{s:Qg}(h:t.kind=6)(hk:t.kids= [u]):gX o st t s=Hb t.name (gX o st u s):=by
 obtain⟨k,n,nm,v,kids⟩:=t;obtain rfl:k=6:=h;obtain rfl:kids= [u]:=hk;rfl
theorem TP{o st:Om}{t a b:Tx}{s:Qg}(h:t.kind=7)(hk:t.kids= [a,b]):gX o st t s=rS t.name ((gX o st b ((gX o st a s).push 1)).pop 2):=by
 obtain⟨k,n,nm,v,kids⟩:=t;obtain rfl:k=7:=h;obtain rfl:kids= [a,b]:=hk;rfl
theorem TT{o st:Om}{t:Tx}{s:Qg}(h:t.kind=3):gX o st t s=if t.kids.length>0 then((vL o st t.kids s).jump 40 15 0 (bI st t.name)).emit [qi 16 14 14 (4*t.kids.length)]else(vL o st t.kids s).jump 40 15 0 (bI st t.name):=by
 obtain⟨k,n,nm,v,kids⟩:=t;obtain rfl:k=3:=h;rfl
theorem zc{o st:Om}:∀{l:List Tx}{i:Nat}{u:Tx}(s:Qg),l[i]?=some u→vL o st (l.take (i+1)) s=(gX o st u (vL o st (l.take i) s)).push 1
 | [],i,u,s,h=>by simp at h
 | x::r,0,u,s,h=>by cases h;rfl
 | x::r,i+1,u,s,h=>zc (l:=r) _ h
structure Wx(t:Tx):Prop where
 one:t.kind=4∨t.kind=6→∃u,t.kids= [u]
 un:t.kind=6→t.name=dU∨t.name=rQ∨t.name=tt
 two:t.kind=7→gJ t.name=true∧∃a b,t.kids= [a,b]
 kids:∀u∈t.kids,rX u=true
 kind:t.kind=1∨t.kind=2∨t.kind=3∨t.kind=4∨t.kind=5∨t.kind=6∨t.kind=7
theorem wL:∀{l:List Tx},ji l=true→∀u∈l,rX u=true
 | [],_,_,h=>by simp at h
 | t::r,h,u,hu=>by
  unfold ji at h;rw [Bool.and_eq_true]at h;rcases List.mem_cons.1 hu with rfl|hu
  ·exact h.1
  ·exact wL h.2 u hu
theorem wR{l:List Tx}(h:l.length=1):∃u,l= [u]:=by
 match l,h with
 | [u],_=>exact⟨u,rfl⟩
theorem E6{l:List Tx}(h:l.length=2):∃a b,l= [a,b]:=by
 match l,h with
 | [a,b],_=>exact⟨a,b,rfl⟩
theorem KW{t:Tx}(h:rX t=true):Wx t:=by
 obtain⟨k,n,nm,v,kids⟩:=t;unfold rX at h;simp only [Bool.and_eq_true]at h;obtain⟨⟨h1,-⟩,h3⟩:=h;unfold jC at h1;refine⟨fun hk=> ?_,fun hk=> ?_,fun hk=> ?_,wL h3,?_⟩
 ·show ∃u,kids= [u];rcases hk with hk|hk
  ·obtain rfl:k=4:=hk;simp at h1;exact wR h1.2
  ·obtain rfl:k=6:=hk;simp at h1;exact wR h1.2
 ·obtain rfl:k=6:=hk;simp [cx,rf]at h1;rcases h1.1 with h|h|h
  ·exact .inl h
  ·exact .inr (.inl h)
  ·exact .inr (.inr h)
 ·obtain rfl:k=7:=hk;simp at h1;exact⟨h1.1,E6 h1.2⟩
 ·show k=1∨k=2∨k=3∨k=4∨k=5∨k=6∨k=7;by_cases k1:k=1
  ·exact .inl k1
  by_cases k2:k=2
  ·exact .inr (.inl k2)
  by_cases k3:k=3
  ·exact .inr (.inr (.inl k3))
  by_cases k4:k=4
  ·exact .inr (.inr (.inr (.inl k4)))
  by_cases k5:k=5
  ·exact .inr (.inr (.inr (.inr (.inl k5))))
  by_cases k6:k=6
  ·exact .inr (.inr (.inr (.inr (.inr (.inl k6)))))
  by_cases k7:k=7
  ·exact .inr (.inr (.inr (.inr (.inr (.inr k7)))))
  simp [k1,k2,k3,k4,k5,k6,k7]at h1
theorem JF{q:Prop}{k:Int}(h:k=1∨k=2∨k=3∨k=4∨k=5∨k=6∨k=7)(n1:¬k=1)(n2:¬k=2)(n3:¬k=3)(n4:¬k=4)(n5:¬k=5)(n6:¬k=6)(n7:¬k=7):q:=by omega
theorem UL{t:Tx}(h:GX t):oW t.n:=by cases t;exact h.1
theorem G1(e:Ga)(c:Oq)(om sm:Om)(hm:e.mp=c.m)(t:Tx)(hw:Wx t)(hg:GX t)(ih:∀u∈t.kids,∀s:Qg,s.sz+22*nX u≤780000→Spec prog 167 [Pt e.g,xV u] [gA e s] [ck u.v u.kids,jU e.g c,mp ie Prod.fst vQ e.mo om,mp ie Prod.fst vI (some e.ms) sm] (X:=Unit) (fun _=>True) (fun _=> .tuple #[]) (fun _=> [gA e (gX om sm u s)]) (fun _=> []))(s:Qg)(hz:s.sz+22*nX t≤780000):
  aW prog 167 [Pt e.g,xV t] [gA e s] [ck t.v t.kids,jU e.g c,mp ie Prod.fst vQ e.mo om,mp ie Prod.fst vI (some e.ms) sm] (.tuple #[]) [gA e (gX om sm t s)]:=by
 refine aI func167 J ntmps167 J fun w0 M H=>a_ 0 9 J iM (aq (cM J J fun b3=>az J (aD jG J (aR 3 t3 J J J J (aa (aA (aq (ar J J bv (am J (aa (ap J (fun h1=> ?_) (fun h1=> ?_))))))))))))
 ·(try simp only [bl]at h1);have hk:t.kind=1:=h1;rw [TV hk];refine ak (ad J (aD xy J (aR 3 eA J J J J (ai (xs:= [.tmp 11,.tmp 13]) (Gg e s (by omega) t.n (UL hg)) Q7 [0] [] [0] (fun _ _=>aa (cJ () O J iU J [0] [] J J J))))))
 ·(try simp only [bl]at h1);have n1:¬t.kind=1:=h1;refine aq (ar J J bv (am J (aa (ap J (fun h2=> ?_) (fun h2=> ?_)))))
  ·(try simp only [bl]at h2);have hk:t.kind=2:=h2;rw [TU hk];refine bX [17,18,19,20,21,22,23,24,25] _ J (bi (V:= [(0,17,_),(1,18,_),(2,19,_),(3,20,_),(4,21,_),(5,22,_),(6,23,_),(7,24,_)]) [0,1,2,3,4,5,6,7] 8 [8,7,6,5,4,3,2,1,0] [] (fun _=> []) J J (aF J J (aF J J (ae J (au J) (ae J (ah nD J) (ae J (ag DI J J (qQ (k:=0) J (fun _=>J) J)) (ae J (ah di J) (ae J (ag t9 J J (ax (k:=3) J J)) (ae J (FY underlying108 fz eA J J (vJ (k:=2) J)) aw)))))))) J J J J J J J J J J J (fun _ _=>J) J (b_ (xs:= [.tmp 17,.const (I6 23),.const (I6 1),.const (I6 13),.tmp 24]) (dA e (s) (by omega) 23 1 13 (bI om t.name)) kM [0] [] [0]) (fun _ _=>bA [] J J aw J J J (cJ () O J iU J [0] [] J J J)))
  ·(try simp only [bl]at h2);have n2:¬t.kind=2:=h2;refine aq (ar J J bv (am J (aa (ap J (fun h3=> ?_) (fun h3=> ?_)))))
   ·(try simp only [bl]at h3);have hk:t.kind=5:=h3;rw [TR hk];refine ak (ad J (aP (aX (parts:= [(0,.const (I6 48)),(4,.const (I3 2))]) fF nZ J J) (bq jw ⟨48,0,0,0,2⟩ underlying106 fF J (by decide) (by decide) J J J J fun v30=>cK 30 7 J cf (ai (xs:= [.tmp 28,.tmp 30]) (jd e s (by omega) v30 [⟨48,0,0,0,2⟩] (by simp)) zw [0] [(false,7)] [0] (fun _ _=>aa (cJ () O J iU J [0] [] J J J))))))
   ·(try simp only [bl]at h3);have n5:¬t.kind=5:=h3;refine aq (ar J J bv (am J (aa (ap J (fun h4=> ?_) (fun h4=> ?_)))))
    ·(try simp only [bl]at h4);have hk:t.kind=4:=h4;obtain⟨u,hku⟩:=hw.one (.inl hk);have hnu:nX t=nX u+1:=by rw [vD,hku];simp [dD]
     have hsz:=og om sm u s;rw [TS hk hku];refine aq (ad J (aD dq J (aR 3 kc J J J J (aP (aO (j:=0) underlying59 ci J J (aJ (k:=9) J) J (by rw [hku];simp)) ?_))));refine uE (aM ci J J J (bF (aJ (k:=9) J) (by intro _;rfl) (show t.kids[0]?=some u by rw [hku];rfl) (by rfl))) J ?_;refine a_ 0 8 J (dH (show u∈t.kids by rw [hku];simp)) ?_;refine dI (xs:= [.tmp 34,.tmp 38]) (ih u (show u∈t.kids by rw [hku];simp) (s) (by omega)) uk [0] [(false,8),(false,1),(false,2),(false,3)] [0] J J J J J J J J (fun _ _=>J) (fun _ _ _=>J) J (fun _ _=> ?_);refine az J (ad J (ai (xs:= [.tmp 40,.const (I6 1)]) (vT e (gX om sm u s) (by omega) 1) LS [0] [] [0] (fun _ _=>aa (ak (ad J (ai (xs:= [.tmp 42,.const (I6 23),.const (I6 1),.const (I6 1),.const (I3 8192)]) (dA e ((gX om sm u s).elem 1) (by rw [dM];omega) 23 1 1 8192) kM [0] [] [0] (fun _ _=>aa (cJ () O J iU J [0] [] J J J))))))))
    ·(try simp only [bl]at h4);have n4:¬t.kind=4:=h4;refine aq (ar J J bv (am J (aa (ap J (fun h5=> ?_) (fun h5=> ?_)))))
     ·(try simp only [bl]at h5);have hk:t.kind=6:=h5;obtain⟨u,hku⟩:=hw.one (.inr hk);have hnu:nX t=nX u+1:=by rw [vD,hku];simp [dD]
      have hsz:=og om sm u s;rw [TQ hk hku];refine aq (ad J (aD dq J (aR 3 kc J J J J (aP (aO (j:=0) underlying59 ci J J (aJ (k:=9) J) J (by rw [hku];simp)) ?_))));refine uE (aM ci J J J (bF (aJ (k:=9) J) (by intro _;rfl) (show t.kids[0]?=some u by rw [hku];rfl) (by rfl))) J ?_;refine a_ 0 8 J (dH (show u∈t.kids by rw [hku];simp)) ?_;refine dI (xs:= [.tmp 46,.tmp 50]) (ih u (show u∈t.kids by rw [hku];simp) (s) (by omega)) uk [0] [(false,8),(false,1),(false,2),(false,3)] [0] J J J J J J J J (fun _ _=>J) (fun _ _ _=>J) J (fun _ _=> ?_);refine az J (aD di J (aR 3 t9 J J J J (aa (aA (aq (ar J J e_ (am J (aa (ap J (fun h6=> ?_) (fun h6=> ?_))))))))))
      ·(try simp only [bl]at h6);have ho:t.name=dU:=cB ((eT _ _).symm.trans h6);rw [ho,show Hb dU (gX om sm u s)=(gX om sm u s).emit [q3 2 1 0 1]from J];refine ak (ad J (ai (xs:= [.tmp 56,.const (I6 2),.const (I6 1),.const (I6 0),.const (I6 1)]) (dJ e (gX om sm u s) (by omega) 2 1 0 1) oQ [0] [] [0] (fun _ _=>aa (cJ () O J iU J [0] [] J J J))))
      ·(try simp only [bl]at h6);have u1:¬t.name=dU:=dl ((eT _ _).symm.trans h6);refine aq (ar J J e_ (am J (aa (ap J (fun h7=> ?_) (fun h7=> ?_)))))
       ·(try simp only [bl]at h7);have ho:t.name=rQ:=cB ((eT _ _).symm.trans h7);rw [ho,show Hb rQ (gX om sm u s)=((gX om sm u s).emit [qi 16 2 0 4294967295]).emit [q3 5 1 1 2]from J];refine aq (ad J (ai (xs:= [.tmp 60,.const (I6 16),.const (I6 2),.const (I6 0),.const (I3 4294967295)]) (dA e (gX om sm u s) (by omega) 16 2 0 4294967295) kM [0] [] [0] (fun _ _=>aa (ak (ad J (ai (xs:= [.tmp 62,.const (I6 5),.const (I6 1),.const (I6 1),.const (I6 2)]) (dJ e ((gX om sm u s).emit [qi 16 2 0 4294967295]) (by rw [bG];simp;omega) 5 1 1 2) oQ [0] [] [0] (fun _ _=>aa (cJ () O J iU J [0] [] J J J))))))))
       ·(try simp only [bl]at h7);have u2:¬t.name=rQ:=dl ((eT _ _).symm.trans h7);refine aq (ar J J e_ (am J (aa (ap J (fun h8=> ?_) (fun h8=> ?_)))))
        ·(try simp only [bl]at h8);have ho:t.name=tt:=cB ((eT _ _).symm.trans h8);rw [ho,show Hb tt (gX om sm u s)=((gX om sm u s).emit [qi 16 2 0 1]).emit [q3 11 1 1 2]from J];refine aq (ad J (ai (xs:= [.tmp 66,.const (I6 16),.const (I6 2),.const (I6 0),.const (I3 1)]) (dA e (gX om sm u s) (by omega) 16 2 0 1) kM [0] [] [0] (fun _ _=>aa (ak (ad J (ai (xs:= [.tmp 68,.const (I6 11),.const (I6 1),.const (I6 1),.const (I6 2)]) (dJ e ((gX om sm u s).emit [qi 16 2 0 1]) (by rw [bG];simp;omega) 11 1 1 2) oQ [0] [] [0] (fun _ _=>aa (cJ () O J iU J [0] [] J J J))))))))
        ·exact absurd ((hw.un hk).resolve_left u1 |>.resolve_left u2) (dl ((eT _ _).symm.trans h8))
     ·(try simp only [bl]at h5);have n6:¬t.kind=6:=h5;refine aq (ar J J bv (am J (aa (ap J (fun h9=> ?_) (fun h9=> ?_)))))
      ·(try simp only [bl]at h9);have hk:t.kind=7:=h9;obtain⟨hbin,a,b,hkab⟩:=hw.two hk;have hnu:nX t=nX a+nX b+1:=by rw [vD,hkab];simp [dD]
       have hsa:=og om sm a s;have hsb:=og om sm b ((gX om sm a s).push 1);rw [c9]at hsb;rw [TP hk hkab];obtain⟨nc,lc,hfc,hcb,hop⟩:=Ni e c t.name ((gX om sm b ((gX om sm a s).push 1)).pop 2) (by rw [d5];omega) hbin;refine a_ 1 10 J (F8 0 J) ?_;rw [←hm];refine aq (ad J (aD dq J (aR 3 kc J J J J (aP (aO (j:=0) underlying59 ci J J (aJ (k:=9) J) J (by rw [hkab];simp)) ?_))));refine uE (aM ci J J J (bF (aJ (k:=9) J) (by intro _;rfl) (show t.kids[0]?=some a by rw [hkab];rfl) (by rfl))) J ?_;refine a_ 0 8 J (dH (show a∈t.kids by rw [hkab];simp)) ?_;refine dI (xs:= [.tmp 72,.tmp 76]) (ih a (show a∈t.kids by rw [hkab];simp) (s) (by omega)) uk [0] [(false,8),(false,1),(false,2),(false,3)] [0] J J J J J J J J (fun _ _=>J) (fun _ _ _=>J) J (fun _ _=> ?_);refine az J (ad J (ai (xs:= [.tmp 78,.const (I6 1)]) (jZ e (gX om sm a s) (by omega) 1) ED [0] [] [0] (fun _ _=>az J (ad J (aD dq J (aR 3 kc J J J J (aP (aO (j:=1) underlying59 ci J J (aJ (k:=9) J) J (by rw [hkab];simp)) ?_)))))));refine uE (aM ci J J J (bF (aJ (k:=9) J) (by intro _;rfl) (show t.kids[1]?=some b by rw [hkab];rfl) (by rfl))) J ?_;refine a_ 0 8 J (dH (show b∈t.kids by rw [hkab];simp)) ?_;refine dI (xs:= [.tmp 80,.tmp 84]) (ih b (show b∈t.kids by rw [hkab];simp) ((gX om sm a s).push 1) (by rw [c9];omega)) uk [0] [(false,8),(false,1),(false,2),(false,3)] [0] J J J J J J J J (fun _ _=>J) (fun _ _ _=>J) J (fun _ _=> ?_)
       refine az J (ad J (ai (xs:= [.tmp 86,.const (I6 2)]) (pi e (gX om sm b ((gX om sm a s).push 1)) (by omega) 2) KE [0] [] [0] (fun _ _=>aa (bX [88,89,90,91,92,93,94,95] _ J (bi (V:= [(0,88,_),(1,89,_),(2,90,_),(3,91,_),(4,92,_),(5,93,_),(6,94,_)]) [0,1,2,3,4,5,6] 7 [7,6,5,4,3,2,1,0] [] (fun _=> []) J J (aF J J (ae J (au J) (ae J (ah C3 J) (ae J (ag Pm J J (qQ (k:=0) J (fun _=>J) J)) (ae J (ah di J) (ae J (ag t9 J J (ax (k:=3) J J)) (ae J (pn underlying109 fz t1 J J (vJ (k:=10) J) hfc) aw))))))) J J J J J J J J J J J (fun _ _=>J) J (b_ (xs:= []) hop hcb [0] [(false,1)] [0]) (fun _ _=>bA [] J J aw J J J (cJ () O J iU J [0] [] J J J)))))))
      ·(try simp only [bl]at h9);have n7:¬t.kind=7:=h9;refine aq (ar J J bv (am J (aa (ap J (fun h10=> ?_) (fun h10=> ?_)))))
       ·(try simp only [bl]at h10);have hk:t.kind=3:=h10;have hnx:=vD t;have hss:=xq om sm t.kids s;have hkl:=qY hg;rw [TT hk];refine aU (aD dq J (aR 3 kc J J J J (aP (aT underlying59 J (aJ (k:=9) J)) (ad J (aa (aA (bJ (X:=Nat) (fun i=>i≤t.kids.length) (fun i=> [(0,Pt e.g),(3,Pt b3),(99,sv t.v),(100,I6 (t.kids.length:Int)),(101,I6 (i:Int))]) (fun i=> [(0,gA e (vL om sm (t.kids.take i) s)),(3,bj b3 61 (eH t))]) (fun i=> [(0,ck t.v t.kids),(1,jU e.g c),(2,mp ie Prod.fst vQ e.mo om),(3,mp ie Prod.fst vI (some e.ms) sm),(9,sl 4 eH (sv t.v) t.kids)]) (fun i=>t.kids.length-i) 0 (bn _) J J J (fun i n1=>aq (ar J J cy (aa (be (ap J (fun h11=> ?_) (fun h11=> ?_)))))))))))))
        ·(try simp only [bl]at h11);have hi:i<t.kids.length:=by omega
         obtain⟨kid,hkid⟩:∃k,t.kids[i]?=some k:=⟨_,bQ hi⟩
         have hkm:=bV hkid;have hle:=tz t.kids (i+1);rw [iQ hkid]at hle;have hsi:=xq om sm (t.kids.take i) s;have hsk:=og om sm kid (vL om sm (t.kids.take i) s);refine aC (be (aA (aq (aP (aO (j:=i) underlying59 ci J J (aJ (k:=9) J) (by first|rfl|omega) (by first|omega|(simp;done)|(simp;omega))) (aP (aM ci J J J (bF (aJ (k:=9) J) (by intro _;rfl) hkid (by rfl))) (aZ ci J J fun b5=>av (k:=5) ci J J J J J J (az J (ad J (aP (aM ci J J J (bp (k:=5) J)) (a_ 0 8 J (dH (hkm)) (ai (xs:= [.tmp 105,.tmp 106]) (ih kid (hkm) (vL om sm (t.kids.take i) s) (by omega)) uk [0] [(false,8),(false,1),(false,2),(false,3)] [0] (fun _ _=>aa (ak (ad J (ai (xs:= [.tmp 108,.const (I6 1)]) (jZ e (gX om sm kid (vL om sm (t.kids.take i) s)) (by omega) 1) ED [0] [] [0] (fun _ _=> ?_))))))))))))))));refine aa (ak (ar J J aK (ad J (aa ?_))));refine aG (i+1) ⟨by omega,by omega⟩ J (by rw [zc s hkid];rfl) J
        ·(try simp only [bl]at h11);have hi:i=t.kids.length:=by omega
         subst hi;rw [cQ];refine bL (be (bX [111,112,113,114,115,116,117,118,119] _ J (bi (V:= [(0,111,_),(1,112,_),(2,113,_),(3,114,_),(4,115,_),(5,116,_),(6,117,_),(7,118,_)]) [0,1,2,3,4,5,6,7] 8 [8,7,6,5,4,3,2,1,0] [] (fun _=> []) J J (aF J J (aF J J (ae J (au J) (ae J (ah qg J) (ae J (ag Fb J J (qQ (k:=0) J (fun _=>J) J)) (ae J (ah di J) (ae J (ag t9 J J (ax (k:=3) J J)) (ae J (FZ underlying105 fz t3 J J (vJ (k:=3) J)) aw)))))))) J J J J J J J J J J J (fun _ _=>J) J (b_ (xs:= [.tmp 111,.const (I6 40),.const (I6 15),.const (I6 0),.tmp 118]) (gp e (vL om sm t.kids s) (by omega) 40 15 0 (bI sm t.name)) u7 [0] [] [0]) (fun _ _=>bA [] J J aw J J J (aq (aD dq J (aR 3 kc J J J J (aP (aT underlying59 J (aJ (k:=9) J)) (am J (az J (ad J (ar J J fA (aa (ap J (fun h12=> ?_) (fun h12=> ?_)))))))))))))))
         ·(try simp only [bl]at h12);rw [aj (show t.kids.length>0 by omega)];refine ak (ad J (ad J (ar J J lF (aP (cw underlying3 underlying41 J (by first|exact cc (by omega)|rfl)) (ai (xs:= [.tmp 125,.const (I6 16),.const (I6 14),.const (I6 14),.tmp 128]) (dA e ((vL om sm t.kids s).jump 40 15 0 (bI sm t.name)) (by rw [ca];omega) 16 14 14 (4*t.kids.length)) kM [0] [] [0] (fun _ _=>aa (cJ () O J iU J [0] [] J J J)))))))
         ·(try simp only [bl]at h12);rw [ac (show ¬t.kids.length>0 by omega)];refine aC (cJ () O J iU J [0] [] J J J)
       ·exact JF hw.kind n1 n2 (by simpa using h10) n4 n5 n6 n7
theorem CB(e:Ga)(c:Oq)(om sm:Om)(hm:e.mp=c.m):∀(n:Nat)(t:Tx),SizeOf.sizeOf t<n→rX t=true→GX t→∀s:Qg,s.sz+22*nX t≤780000→aW prog 167 [Pt e.g,xV t] [gA e s] [ck t.v t.kids,jU e.g c,mp ie Prod.fst vQ e.mo om,mp ie Prod.fst vI (some e.ms) sm] (.tuple #[]) [gA e (gX om sm t s)]
 | 0,_,h,_,_=>absurd h (Nat.not_lt_zero _)
 | n+1,t,h,hr,hg=>fun s hz=>G1 e c om sm hm t (KW hr) hg (fun u hu=>CB e c om sm hm n u (by have:=vj hu;omega) ((KW hr).kids u hu) ((nH hg).mem u hu)) s hz
theorem y9(e:Ga)(c:Oq)(om sm:Om)(hm:e.mp=c.m)(t:Tx)(hr:rX t=true)(hg:GX t)(s:Qg)(hz:s.sz+22*nX t≤780000):aW prog 167 [Pt e.g,xV t] [gA e s] [ck t.v t.kids,jU e.g c,mp ie Prod.fst vQ e.mo om,mp ie Prod.fst vI (some e.ms) sm] (.tuple #[]) [gA e (gX om sm t s)]:=CB e c om sm hm _ t (Nat.lt_succ_self _) hr hg s hz
variable{K:(Int→Int)→Prop}
theorem Res.len{s s':Qg}{r:List Qi}(h:Res K s s' r):s'.code.length=s.code.length+r.length:=by
 obtain⟨raw,fs,ls,a1,a2,-⟩:=h.ex;rw [a1,bD,a2]
theorem BW(a:List Int)(x y:Int)(b:List Int):(a++ [x]++b).set a.length y=a++ [y]++b:=by
 rw [List.append_assoc,List.set_append_right _ _ (bU _),Nat.sub_self,List.append_assoc];rfl
theorem yo(a:List Int)(x z y:Int)(b:List Int):(a++ [x,z]++b).set (a.length+1) y=a++ [x,y]++b:=by
 rw [List.append_assoc,List.set_append_right _ _ (by omega),show a.length+1-a.length=1 by omega,List.append_assoc];rfl
theorem Res.one{s s':Qg}{r:List Qi}(m:Int)(h:Res (fun L=>K L∧L (s.labs.length:Int)=m) s.lab s' r)(hm:m=s'.code.length):Res K s (s'.place s.labs.length) r:=by
 refine Res.labels [0] [m] J (s':=s') (h.weaken fun L hL=>⟨hL.1,hL.2 0 m J⟩) J J fun ls hls=> ?_
 show s'.labs.set ((s.labs.length:Int).toNat) s'.code.length=_;rw [hls,Int.toNat_natCast,BW,hm]
theorem dC{c:Prop} [Decidable c]{s a b:Qg}{r t:List Qi}(h1:Res K s a r)(h2:Res K s b t):Res K s (if c then a else b) (if c then r else t):=by
 by_cases h:c
 ·rw [aj h,aj h];exact h1
 ·rw [ac h,ac h];exact h2
theorem zZ{n:Nat}(h:n<4294967296):wU (n:Int)=n:=by
 unfold wU;show((n:Int))%4294967296=n;omega
theorem J6(o:Ba)(s:Qg):Res K s (rS o s) (Dx o):=by
 unfold rS Dx;refine dC ?_ ?_
 ·exact Res.emit _ _
 refine dC ?_ ?_
 ·exact Res.emit _ _
 refine dC ?_ ?_
 ·exact Res.emit _ _
 refine dC ?_ ?_
 ·exact Res.emit _ _
 refine dC ?_ ?_
 ·exact Res.emit _ _
 refine dC ?_ ?_
 ·exact Res.emit _ _
 refine dC ?_ ?_
 ·exact Res.emit _ _
 refine dC ?_ ?_
 ·exact Res.emit _ _
 refine dC ?_ ?_
 ·exact Res.emit _ _
 refine dC ?_ ?_
 ·exact Res.emit _ _
 refine dC ?_ ?_
 ·exact(Res.emit _ [_]).seq (Res.emit _ [_])
 refine dC ?_ ?_
 ·exact(Res.emit _ [_]).seq (Res.emit _ [_])
 refine dC ?_ ?_
 ·exact(Res.emit _ [_]).seq (Res.emit _ [_])
 refine dC ?_ ?_
 ·exact((Res.emit _ [_]).seq (Res.emit _ [_])).seq (Res.emit _ [_])
 refine dC ?_ ?_
 ·refine Res.one ((s.code.length:Int)+2) ((Res.jump s.lab 32 1 0 _ 2 fun L hL=> ?_).seq (Res.emit _ [_])) ?_
  ·rw [hL.2];show wU ((s.code.length:Int)+2-s.code.length)=2;rw [show(s.code.length:Int)+2-s.code.length=((2:Nat):Int) by omega];exact zZ (by decide)
  ·show _=((((s.code++ [_])++ [_]).length:Nat):Int);simp only [bD,aY,aS];omega
 refine dC ?_ ?_
 ·refine(Res.one (r:= [q3 1 3 1 0,qi 32 1 0 3,q3 10 3 2 1,q3 9 3 3 1]) ((s.code.length:Int)+4) (((((Res.emit s.lab [_]).seq (Res.jump _ 32 1 0 _ 3 fun L hL=> ?_)).seq (Res.emit _ [_])).seq (Res.emit _ [_]))) ?_).seq (Res.emit _ [_])
  ·rw [hL.2];show wU ((s.code.length:Int)+4-(((s.code++ [_]).length:Nat):Int))=3;rw [bD,dk,show(s.code.length:Int)+4-((s.code.length+1:Nat):Int)=((3:Nat):Int) by omega];exact zZ (by decide)
  ·show _=((((((s.code++ [_])++ [_])++ [_])++ [_]).length:Nat):Int);simp only [bD,aY,aS];omega
 ·exact Res.nil s
theorem J4(o:Ba)(s:Qg):Res K s (Hb o s) (EI o):=by
 unfold Hb EI;refine dC ?_ ?_
 ·exact Res.emit _ _
 refine dC ?_ ?_
 ·exact(Res.emit _ [_]).seq (Res.emit _ [_])
 refine dC ?_ ?_
 ·exact(Res.emit _ [_]).seq (Res.emit _ [_])
 ·exact Res.nil s
theorem He(n:Int)(s:Qg):Res K s (tM n s) (rK n):=by
 unfold tM rK;refine dC ?_ ?_
 ·exact Res.emit _ _
 ·exact Res.emit _ _
mutual
theorem A2{o st:Om}{S:Ba→Int}(hK:∀L,K L→∀x,L (bI st x)=S x):∀(t:Tx)(s:Qg),Res K s (gX o st t s) (zX o S t s.code.length)
 | .mk k n nm v kids,s=>by
  have h0:=sr (o:=o) hK kids;have h1:=CC (o:=o) hK kids;have hs:=xr (o:=o) hK kids;unfold gX zX;split
  ·exact He n s
  split
  ·exact Res.emit _ _
  split
  ·exact Res.emit _ _
  split
  ·exact(h0 s).seq ((Res.elem _ 1).seq (Res.emit _ _))
  split
  ·exact(h0 s).seq (J4 nm _)
  split
  ·have e1:=(h0 s).len;have e2:=(Res.push (K:=K) (nu o st kids s) 1).len;have e3:s.code.length+(u_ o S kids s.code.length).length+2=((nu o st kids s).push 1).code.length:=by
    rw [e2,e1];rfl
   rw [e3];exact(h0 s).seq ((Res.push _ 1).seq ((h1 _).seq ((Res.pop _ 2).seq (J6 nm _))))
  split
  ·have e1:=(hs s).len;have e2:Res K (vL o st kids s) ((vL o st kids s).jump 40 15 0 (bI st nm)) [qi 40 15 0 (wU (S nm-((s.code.length+(wl o S kids s.code.length).length:Nat):Int)))]:=by
    refine Res.jump _ 40 15 0 _ _ fun L hL=> ?_
    rw [hK L hL nm,e1]
   refine(hs s).seq (e2.seq ?_);dsimp only;split
   ·exact Res.emit _ _
   ·exact Res.nil _
  ·exact Res.nil s
theorem sr{o st:Om}{S:Ba→Int}(hK:∀L,K L→∀x,L (bI st x)=S x):∀(l:List Tx)(s:Qg),Res K s (nu o st l s) (u_ o S l s.code.length)
 | [],s=>Res.nil s
 | t::_,s=>A2 hK t s
theorem CC{o st:Om}{S:Ba→Int}(hK:∀L,K L→∀x,L (bI st x)=S x):∀(l:List Tx)(s:Qg),Res K s (OR o st l s) (Md o S l s.code.length)
 | [],s=>Res.nil s
 | _::r,s=>sr hK r s
theorem xr{o st:Om}{S:Ba→Int}(hK:∀L,K L→∀x,L (bI st x)=S x):∀(l:List Tx)(s:Qg),Res K s (vL o st l s) (wl o S l s.code.length)
 | [],s=>Res.nil s
 | t::r,s=>by
  have h:=A2 (o:=o) hK t s;have e1:=h.len;have e2:=(Res.push (K:=K) (gX o st t s) 1).len;have e3:s.code.length+(zX o S t s.code.length).length+2=((gX o st t s).push 1).code.length:=by
   rw [e2,e1];rfl
  unfold vL wl;rw [e3];exact h.seq ((Res.push _ 1).seq (xr hK r _))
end
variable{K:(Int→Int)→Prop}
theorem Res.relab{s s1 s2:Qg}{r:List Qi}(ns ms:List Int)(hl:ns.length=ms.length)(h:Res K {s with labs:=s.labs++ns} s1 r)
  (hc:s2.code=s1.code) (hf:s2.fixes=s1.fixes) (hs:∀ls,s1.labs=(s.labs++ns)++ls→s2.labs=(s.labs++ms)++ls):Res K {s with labs:=s.labs++ms} s2 r:=by
 obtain⟨raw,fs,ls,a1,a2,a3,a4,a5,a6⟩:=h.ex;refine⟨⟨raw,fs,ls,hc.trans a1,a2,hf.trans a3,hs ls a4,a5,fun L hK hL=>a6 L hK fun i n hi=> ?_⟩⟩;have:=hL i n hi;show L (((s.labs++ns).length+i:Nat):Int)=n;rw [bD,hl,←bD];exact this
theorem Mr(s:Qg):s.lab.place s.labs.length={s with labs:=s.labs++ [(s.code.length:Int)]}:=by
 show Qg.mk _ _ ((s.labs++ [0]).set ((s.labs.length:Int).toNat) s.code.length)=_;have:=BW s.labs 0 (s.code.length:Int) [];simp only [List.append_nil]at this;rw [Int.toNat_natCast,this];rfl
mutual
theorem G8{o st:Om}{S:Ba→Int}{en E:Int}:∀{K:(Int→Int)→Prop}(t:Ty)(s:Qg),(∀L,K L→∀x,L (bI st x)=S x)→(∀L,K L→L en=E)→Res K s (gY o st en t s) (zY o S E t s.code.length)
 | K,.mk k nm ve es vb body vl els,s,hK,hE=>by
  refine Res.labels [(s.code.length:Int)] [(s.code.length:Int)] J (s':=gY o st en (.mk k nm ve es vb body vl els) s) ?_ J J (fun ls h=>h);generalize hK':(fun L=>K L∧∀(i:Nat)(n:Int),[(s.code.length:Int)][i]?=some n→L ((s.labs.length+i:Nat):Int)=n)=K';have k1:∀L,K' L→∀x,L (bI st x)=S x:=fun L h=>hK L (by rw [←hK']at h;exact h.1)
  have k2:∀L,K' L→L en=E:=fun L h=>hE L (by rw [←hK']at h;exact h.1)
  have k3:∀L,K' L→L (s.labs.length:Int)=s.code.length:=fun L h=>by rw [←hK']at h;exact h.2 0 _ J
  clear hK';unfold gY zY;dsimp only;rw [Mr];generalize hs0:({s with labs:=s.labs++ [(s.code.length:Int)]}:Qg)=s0;have c0:s0.code.length=s.code.length:=by rw [←hs0]
  have h0:=sr (K:=K') (o:=o) k1 es s0;rw [c0]at h0;have e0:=h0.len;rw [c0,lH]at e0;refine dC (h0.seq (Res.emit _ _)) (dC ?_ (dC (h0.seq (Res.emit _ _)) (dC ?_ (dC ?_ (dC ?_ h0)))))
  ·have e2:=(Res.push (K:=K') (nu o st es s0) 1).len;have e3:s.code.length+j_ es+2=((nu o st es s0).push 1).code.length:=by
    rw [e2,e0];rfl
   rw [e3];exact h0.seq ((Res.push _ 1).seq ((CC k1 es _).seq ((Res.pop _ 2).seq ((Res.elem _ 2).seq (Res.emit _ _)))))
  ·exact h0.seq (Res.jump _ 40 0 0 _ _ fun L hL=>by rw [k2 L hL,e0])
  ·refine h0.seq ?_;generalize hs1:nu o st es s0=s1;rw [hs1]at e0;have hb:=fun(K:(Int→Int)→Prop)(a:∀L,K L→∀x,L (bI st x)=S x)(b:∀L,K L→L en=E)(s:Qg)=>nt (o:=o) (st:=st) (en:=en) (E:=E) (S:=S) (K:=K) body s a b
   have he:=fun(K:(Int→Int)→Prop)(a:∀L,K L→∀x,L (bI st x)=S x)(b:∀L,K L→L en=E)(s:Qg)=>nt (o:=o) (st:=st) (en:=en) (E:=E) (S:=S) (K:=K) els s a b
   simp only [fk];obtain⟨po,hpo⟩:∃po,po=s.code.length+j_ es+1+fO body+(if els.length>0 then 1 else 0):=⟨_,J⟩
   obtain⟨sA,hsA⟩:∃x,x=((s1.lab.lab).jump 32 1 0 s1.labs.length):=⟨_,J⟩
   obtain⟨sB,hsB⟩:∃x,x=iX o st en body sA:=⟨_,J⟩
   obtain⟨sC,hsC⟩:∃x,x=(if els.length>0 then sB.jump 40 0 0 (s1.labs.length+1)else sB):=⟨_,J⟩
   obtain⟨sD,hsD⟩:∃x,x=iX o st en els (sC.place s1.labs.length):=⟨_,J⟩
   rw [←hsA,←hsB,←hsC,←hsD,←hpo];obtain⟨K2,hK2⟩:∃K2:(Int→Int)→Prop,K2=(fun L=>K' L∧∀(i:Nat)(n:Int),[(po:Int),((po+fO els:Nat):Int)][i]?=some n→L ((s1.labs.length+i:Nat):Int)=n):=⟨_,J⟩
   have j1:∀L,K2 L→∀x,L (bI st x)=S x:=fun L h=>k1 L (by rw [hK2]at h;exact h.1)
   have j2:∀L,K2 L→L en=E:=fun L h=>k2 L (by rw [hK2]at h;exact h.1)
   have j3:∀L,K2 L→L (s1.labs.length:Int)=(po:Int):=fun L h=>by rw [hK2]at h;exact h.2 0 _ J
   have j4:∀L,K2 L→L (s1.labs.length+1)=((po+fO els:Nat):Int):=fun L h=>by rw [hK2]at h;exact h.2 1 _ J
   have g1:Res K2 s1.lab.lab sA [qi 32 1 0 (wU ((fO body+(if els.length>0 then 1 else 0)+1:Nat):Int))]:=by
    rw [hsA];refine Res.jump _ 32 1 0 _ _ fun L hL=> ?_
    rw [j3 L hL,hpo];show wU (_-(s1.code.length:Int))=_;rw [e0]
    congr 1
    omega
   have e1:sA.code.length=s.code.length+j_ es+1:=by
    rw [g1.len];show s1.code.length+1=_;rw [e0]
   have g2:=hb K2 j1 j2 sA;rw [e1,←hsB]at g2;have e2:=g2.len;rw [fk,e1]at e2;have g3:Res K2 sB sC (if els.length>0 then [qi 40 0 0 (wU ((fO els+1:Nat):Int))]else []):=by
    rw [hsC];by_cases h:els.length>0
    ·rw [aj h,aj h];refine Res.jump _ 40 0 0 _ _ fun L hL=> ?_
     rw [j4 L hL,e2,hpo,aj h]
     congr 1
     omega
    ·rw [ac h,ac h];exact Res.nil _
   have e3:=g3.len;have e4:s.code.length+j_ es+1+fO body+(if els.length>0 then [qi 40 0 0 (wU ((fO els+1:Nat):Int))]else []).length=po:=by
    rw [hpo];split<;>rfl
   rw [e2,e4]at e3;have g4:=(g1.seq (g2.seq g3))
   have ee:({s1 with labs:=s1.labs++ [0,0]}:Qg)=s1.lab.lab:=by
    show _=Qg.mk _ _ ((s1.labs++ [0])++ [0]);rw [List.append_assoc];rfl
   rw [←ee]at g4;have g6:=Res.relab (s2:=sC.place s1.labs.length) [0,0] [(po:Int),0] J g4 J J (fun ls hls=>by
     show List.set sC.labs ((s1.labs.length:Int).toNat) (sC.code.length:Int)=_;rw [hls,e3,Int.toNat_natCast];simp)
   have g5:=he K2 j1 j2 (sC.place s1.labs.length);have e5:(sC.place s1.labs.length).code.length=po:=e3;rw [e5,←hsD]at g5;have e6:=g5.len;rw [e5,fk]at e6;have g7:=g6.seq g5;rw [hK2]at g7;refine Res.labels [(po:Int),0] [(po:Int),((po+fO els:Nat):Int)] J (s':=sD) ?_ J J (fun ls hls=> ?_)
   ·simpa only [List.append_assoc]using g7
   ·show List.set sD.labs (((s1.labs.length:Int)+1).toNat) (sD.code.length:Int)=_;rw [hls,e6,show((s1.labs.length:Int)+1).toNat=s1.labs.length+1 by omega,yo]
  ·refine h0.seq ?_;generalize hs1:nu o st es s0=s1;rw [hs1]at e0;have hb:=fun(K:(Int→Int)→Prop)(a:∀L,K L→∀x,L (bI st x)=S x)(b:∀L,K L→L en=E)(s:Qg)=>nt (o:=o) (st:=st) (en:=en) (E:=E) (S:=S) (K:=K) body s a b
   simp only [fk];obtain⟨sA,hsA⟩:∃x,x=s1.lab.jump 32 1 0 s1.labs.length:=⟨_,J⟩
   obtain⟨sB,hsB⟩:∃x,x=iX o st en body sA:=⟨_,J⟩
   obtain⟨K2,hK2⟩:∃K2:(Int→Int)→Prop,K2=(fun L=>K' L∧L (s1.labs.length:Int)=((s.code.length+j_ es+fO body+2:Nat):Int)):=⟨_,J⟩
   have j1:∀L,K2 L→∀x,L (bI st x)=S x:=fun L h=>k1 L (by rw [hK2]at h;exact h.1)
   have j2:∀L,K2 L→L en=E:=fun L h=>k2 L (by rw [hK2]at h;exact h.1)
   have g1:Res K2 s1.lab sA [qi 32 1 0 (wU ((fO body+2:Nat):Int))]:=by
    rw [hsA];refine Res.jump _ 32 1 0 _ _ fun L hL=> ?_
    rw [hK2]at hL;rw [hL.2];show wU (_-(s1.code.length:Int))=_;rw [e0]
    congr 1
    omega
   have e1:sA.code.length=s.code.length+j_ es+1:=by
    rw [g1.len];show s1.code.length+1=_;rw [e0]
   have g2:=hb K2 j1 j2 sA;rw [e1,←hsB]at g2;have e2:=g2.len;rw [fk,e1]at e2;have g3:Res K2 sB (sB.jump 40 0 0 s.labs.length) [qi 40 0 0 (wU (-((fO body+j_ es+1:Nat):Int)))]:=by
    refine Res.jump _ 40 0 0 _ _ fun L hL=> ?_
    rw [hK2]at hL;rw [k3 L hL.1,e2]
    congr 1
    omega
   have g4:=g1.seq (g2.seq g3);have e4:=g3.len;rw [e2]at e4;rw [hK2]at g4;rw [←hsA,←hsB];refine Res.one _ g4 ?_;rw [e4];show _=((s.code.length+j_ es+1+fO body+1:Nat):Int);omega
theorem nt{o st:Om}{S:Ba→Int}{en E:Int}:∀{K:(Int→Int)→Prop}(l:List Ty)(s:Qg),(∀L,K L→∀x,L (bI st x)=S x)→(∀L,K L→L en=E)→Res K s (iX o st en l s) (lG o S E l s.code.length)
 | K,[],s,_,_=>Res.nil s
 | K,t::r,s,hK,hE=>by
  have h:=G8 (o:=o) t s hK hE;unfold iX lG;rw [←h.len];exact h.seq (nt r _ hK hE)
end
theorem tL:∀(n:Nat)(s:Qg),Res K s (d_ n s) (j9 n)
 | 0,s=>Res.nil s
 | n+1,s=>(Res.push s 0).seq (tL n _)
theorem NS{st:Om}{S:Ba→Int}(hK:∀L,K L→∀x,L (bI st x)=S x)(f:Tf)(s:Qg)(hi:(bI st f.name).toNat<s.labs.length):
  Res K {s with labs:=s.labs.set (bI st f.name).toNat s.code.length} (gF st f s) (zF S f s.code.length):=by
 obtain⟨i,hi'⟩:∃i,i=(bI st f.name).toNat:=⟨_,J⟩
 obtain⟨s0,hs0⟩:∃s0:Qg,s0={s with labs:=s.labs.set i s.code.length}:=⟨_,J⟩
 obtain⟨lb,hlb⟩:∃lb,lb=s.labs.length:=⟨_,J⟩
 rw [←hi']at hi ⊢;have l0:s0.labs.length=lb:=by rw [hs0,hlb];exact List.length_set
 have c0:s0.code.length=s.code.length:=by rw [hs0]
 obtain⟨n,hn⟩:∃n,n=(dB f).2.toNat:=⟨_,J⟩
 obtain⟨E,hE⟩:∃E,E=s.code.length+10+2*n+fO f.body:=⟨_,J⟩
 obtain⟨K2,hK2⟩:∃K2:(Int→Int)→Prop,K2=(fun L=>K L∧∀(i:Nat)(n:Int),[((s.code.length+4:Nat):Int),(E:Int)][i]?=some n→L ((s0.labs.length+i:Nat):Int)=n):=⟨_,J⟩
 have j1:∀L,K2 L→∀x,L (bI st x)=S x:=fun L h=>hK L (by rw [hK2]at h;exact h.1)
 have j2:∀L,K2 L→L (lb:Int)=((s.code.length+4:Nat):Int):=fun L h=>by rw [hK2]at h;rw [←l0];exact h.2 0 _ J
 have j3:∀L,K2 L→L ((lb:Int)+1)=(E:Int):=fun L h=>by
  rw [hK2]at h;have:=h.2 1 _ J;rw [l0]at this;exact this
 obtain⟨sP,hsP⟩:∃x:Qg,x={s0 with labs:=s0.labs++ [0,0]}:=⟨_,J⟩
 have cP:sP.code.length=s.code.length:=by rw [hsP];exact c0
 have eP:(s.lab.lab).place (bI st f.name)=sP:=by
  rw [hsP,hs0];show Qg.mk _ _ (((s.labs++ [0])++ [0]).set (bI st f.name).toNat s.code.length)=_;rw [←hi',List.append_assoc,List.set_append_left _ _ hi];rfl
 obtain⟨sA,hsA⟩:∃x,x=(((sP.emit [qi 16 12 12 1]).emit [qi 16 2 0 12]).jump 35 2 12 lb).emit [⟨49,0,0,0,0⟩]:=⟨_,J⟩
 have g1:Res K2 sP sA [qi 16 12 12 1,qi 16 2 0 12,qi 35 2 12 2,⟨49,0,0,0,0⟩]:=by
  rw [hsA];refine(((Res.emit _ [_]).seq (Res.emit _ [_])).seq (Res.jump _ 35 2 12 _ 2 fun L hL=> ?_)).seq (Res.emit _ [_]);rw [j2 L hL];show wU (_-((((sP.code++ [_])++ [_]).length:Nat):Int))=2;rw [bD,bD,cP];show wU (_-((s.code.length+1+1:Nat):Int))=2;rw [show((s.code.length+4:Nat):Int)-((s.code.length+1+1:Nat):Int)=((2:Nat):Int) by omega];exact zZ (by decide)
 have e1:sA.code.length=s.code.length+4:=by rw [g1.len,cP];rfl
 have g1b:Res K2 {s0 with labs:=s0.labs++ [((s.code.length+4:Nat):Int),0]} (sA.place lb) [qi 16 12 12 1,qi 16 2 0 12,qi 35 2 12 2,⟨49,0,0,0,0⟩]:=by
  rw [hsP]at g1;refine Res.relab [0,0] _ J g1 J J fun ls hls=> ?_
  show List.set sA.labs ((lb:Int).toNat) (sA.code.length:Int)=_;rw [hls,e1,Int.toNat_natCast,←l0];simp
 obtain⟨sB,hsB⟩:∃x,x=d_ n ((((sA.place lb).push 15).push 13).emit [q3 1 13 14 0]):=⟨_,J⟩
 have g2:Res K2 (sA.place lb) sB (ga 15++(ga 13++([q3 1 13 14 0]++j9 n))):=by
  rw [hsB];exact(Res.push _ 15).seq ((Res.push _ 13).seq ((Res.emit _ [_]).seq (tL n _)))
 have e2:sB.code.length=s.code.length+9+2*n:=by
  rw [g2.len];simp only [bD,lI];show sA.code.length+_=_;rw [e1];simp only [ga,aY,aS];omega
 obtain⟨sC,hsC⟩:∃x,x=(iX (dB f).1 st (lb+1) f.body sB).emit [q3 1 1 0 0]:=⟨_,J⟩
 have g3:Res K2 sB sC (lG (dB f).1 S E f.body (s.code.length+9+2*n)++ [q3 1 1 0 0]):=by
  rw [hsC,←e2];exact(nt f.body sB j1 j3).seq (Res.emit _ _)
 have e3:sC.code.length=E:=by
  rw [g3.len,e2,hE];simp only [bD,fk,aY,aS];omega
 have g4:=g1b.seq (g2.seq g3);have g5:=Res.relab (s2:=sC.place (lb+1)) [((s.code.length+4:Nat):Int),0] [((s.code.length+4:Nat):Int),(E:Int)] J g4 J J (fun ls hls=>by
  show List.set sC.labs (((lb:Int)+1).toNat) (sC.code.length:Int)=_;rw [hls,e3,show((lb:Int)+1).toNat=s0.labs.length+1 by omega,yo])
 have g6:=g5.seq ((Res.emit (sC.place (lb+1)) [q3 1 14 13 0]).seq ((Res.pop _ 13).seq ((Res.pop _ 15).seq ((Res.emit _ [qi 16 12 12 4294967295]).seq (Res.emit _ [qi 27 0 15 0])))));have g7:Res K s0 (((((sC.place (lb+1)).emit [q3 1 14 13 0]).pop 13).pop 15).emit [qi 16 12 12 4294967295] |>.emit [qi 27 0 15 0]) (zF S f s.code.length):=by
  refine Res.labels [((s.code.length+4:Nat):Int),(E:Int)] [((s.code.length+4:Nat):Int),(E:Int)] J (s':=((((sC.place (lb+1)).emit [q3 1 14 13 0]).pop 13).pop 15).emit [qi 16 12 12 4294967295] |>.emit [qi 27 0 15 0]) ?_ J J (fun ls h=>h);rw [←hK2];have:zF S f s.code.length=([qi 16 12 12 1,qi 16 2 0 12,qi 35 2 12 2,⟨49,0,0,0,0⟩]++((ga 15++(ga 13++([q3 1 13 14 0]++j9 n)))++(lG (dB f).1 S E f.body (s.code.length+9+2*n)++ [q3 1 1 0 0])))++([q3 1 14 13 0]++(mA 13++(mA 15++([qi 16 12 12 4294967295]++ [qi 27 0 15 0])))):=by
   unfold zF;rw [hE,hn];simp only [List.append_assoc];rfl
  rw [this];exact g6
 rw [hs0]at g7;have:gF st f s=(((((sC.place (lb+1)).emit [q3 1 14 13 0]).pop 13).pop 15).emit [qi 16 12 12 4294967295] |>.emit [qi 27 0 15 0]):=by
  rw [hsC,hsB,hsA,←eP,hn,hlb];rfl
 rw [this];exact g7
def eC(st:Om):List Tf→Nat→List Int→List Int
 | [],_,l=>l
 | f::r,p,l=>eC st r (p+wF f) (l.set (bI st f.name).toNat p)
theorem ou(st:Om):∀(fs:List Tf)(p:Nat)(l:List Int),(eC st fs p l).length=l.length
 | [],_,_=>rfl
 | f::r,p,l=>by
  unfold eC;rw [ou st r,List.length_set]
theorem s9(st:Om):∀(fs:List Tf)(p:Nat)(a b:List Int),(∀f∈fs,(bI st f.name).toNat<a.length)→eC st fs p (a++b)=eC st fs p a++b
 | [],_,_,_,_=>rfl
 | f::r,p,a,b,h=>by
  unfold eC;rw [List.set_append_left _ _ (h f (by simp)),s9 st r _ _ b fun g hg=>by rw [List.length_set];exact h g (by simp [hg])]
theorem CK{st:Om}{S:Ba→Int}(hK:∀L,K L→∀x,L (bI st x)=S x):∀(fs:List Tf)(s:Qg),(∀f∈fs,(bI st f.name).toNat<s.labs.length)→
  Res K {s with labs:=eC st fs s.code.length s.labs} (tQ st fs s) (zR S fs s.code.length)
 | [],s,_=>Res.nil s
 | f::r,s,h=>by
  have hf:=h f (by simp);have g1:=NS hK f s hf;have e1:(gF st f s).code.length=s.code.length+wF f:=by
   have:=g1.len;rw [sS]at this;exact this
  obtain⟨raw,fx,ls,a1,a2,a3,a4,a5,a6⟩:=g1.ex;have hl:(gF st f s).labs.length≥s.labs.length:=by
   rw [a4,bD,List.length_set];omega
  have g2:=CK hK r (gF st f s) (fun g hg=>by have:=h g (by simp [hg]);omega);rw [e1]at g2;have hr:∀g∈r,(bI st g.name).toNat<(s.labs.set (bI st f.name).toNat s.code.length).length:=fun g hg=>by rw [List.length_set];exact h g (by simp [hg])
  have g3:Res K {s with labs:=eC st (f::r) s.code.length s.labs} {gF st f s with labs:=eC st r (s.code.length+wF f) (gF st f s).labs} (zF S f s.code.length):=by
   refine⟨⟨raw,fx,ls,a1,a2,a3,?_,a5,fun L hL hi=>a6 L hL fun i n hn=> ?_⟩⟩
   ·show eC st r _ (gF st f s).labs=_;rw [a4,s9 st r _ _ _ hr];rfl
   ·have:=hi i n hn;show L (((s.labs.set (bI st f.name).toNat s.code.length).length+i:Nat):Int)=n;rw [List.length_set];rw [show({s with labs:=eC st (f::r) s.code.length s.labs}:Qg).labs.length=s.labs.length from ou st _ _ _]at this;exact this
  exact g3.seq g2
theorem Res.labs_le{K:(Int→Int)→Prop}{s s':Qg}{r:List Qi}(h:Res K s s' r):s.labs.length≤s'.labs.length:=by
 obtain⟨raw,fs,ls,-,-,-,a4,-⟩:=h.ex;rw [a4,bD];omega
theorem G_(o st:Om)(t:Tx)(s:Qg):s.labs.length≤(gX o st t s).labs.length:=(A2 (K:=fun _=>False) (S:=fun _=>0) (fun _ h=>h.elim) t s).labs_le
theorem CD(o st:Om)(t:List Tx)(s:Qg):s.labs.length≤(nu o st t s).labs.length:=(sr (K:=fun _=>False) (S:=fun _=>0) (fun _ h=>h.elim) t s).labs_le
theorem kX(o st:Om)(en:Int)(l:List Ty)(s:Qg):s.labs.length≤(iX o st en l s).labs.length:=(nt (K:=fun _=>False) (S:=fun _=>0) (E:=0) l s (fun _ h=>h.elim) (fun _ h=>h.elim)).labs_le
mutual
theorem Qu(o st:Om)(en:Int):∀(t:Ty)(s:Qg),(gY o st en t s).sz≤s.sz+22*nY t
 | .mk k nm _ es _ body _ els,s=>by
  have hb:=lh o st en body;have hl:=lh o st en els;have h0:=A3 o st es (s.lab.place s.labs.length);have h1:=CE o st es (s.lab.place s.labs.length);rw [bW,cr]at h0 h1;unfold gY nY;dsimp only;refine dn ?_ (dn ?_ (dn ?_ (dn ?_ (dn ?_ (dn ?_ (by omega))))))
  ·simp only [bG,dk];omega
  ·simp only [bG,dM,d5,dk];omega
  ·simp only [bG,dk];omega
  ·simp only [ca];omega
  ·have b1:=hb (((nu o st es (s.lab.place s.labs.length)).lab.lab).jump 32 1 0 (nu o st es (s.lab.place s.labs.length)).labs.length);rw [ca,cr,cr]at b1;rw [bW];refine Nat.le_trans (hl _) ?_;rw [bW];have:(if els.length>0 then(iX o st en body (((nu o st es (s.lab.place s.labs.length)).lab.lab).jump 32 1 0 (nu o st es (s.lab.place s.labs.length)).labs.length)).jump 40 0 0 ((nu o st es (s.lab.place s.labs.length)).labs.length+1)else iX o st en body (((nu o st es (s.lab.place s.labs.length)).lab.lab).jump 32 1 0 (nu o st es (s.lab.place s.labs.length)).labs.length)).sz≤s.sz+22*dD es+22*cv body+7:=by
    refine dn ?_ ?_
    ·rw [ca];omega
    ·omega
   omega
  ·have b1:=hb ((nu o st es (s.lab.place s.labs.length)).lab.jump 32 1 0 (nu o st es (s.lab.place s.labs.length)).labs.length);rw [ca,cr]at b1;rw [bW,ca];omega
theorem lh(o st:Om)(en:Int):∀(l:List Ty)(s:Qg),(iX o st en l s).sz≤s.sz+22*cv l
 | [],s=>Nat.le_add_right _ _
 | t::r,s=>by
  have h1:=Qu o st en t s;have h2:=lh o st en r (gY o st en t s);unfold iX cv;omega
end
theorem zb{o st:Om}{en:Int}:∀{l:List Ty}{i:Nat}{u:Ty}(s:Qg),l[i]?=some u→iX o st en (l.take (i+1)) s=gY o st en u (iX o st en (l.take i) s)
 | [],i,u,s,h=>by simp at h
 | x::r,0,u,s,h=>by cases h;rfl
 | x::r,i+1,u,s,h=>zb (l:=r) _ h
structure Wy(t:Ty):Prop where
 one:t.kind≠3→∃a,t.es= [a]
 two:t.kind=3→∃a b,t.es= [a,b]
 es:∀u∈t.es,rX u=true
 body:h_ t.body=true
 els:h_ t.els=true
theorem O3{t:Ty}(h:rY t=true):Wy t:=by
 obtain⟨k,nm,ve,es,vb,body,vl,els⟩:=t;unfold rY at h;simp only [Bool.and_eq_true]at h;obtain⟨⟨⟨h1,h2⟩,h3⟩,h4⟩:=h;unfold n_ at h1;simp only [Bool.and_eq_true,decide_eq_true_eq]at h1;have h5:=h1.1.1.1.2;refine⟨fun hk=> ?_,fun hk=> ?_,wL h2,h3,h4⟩
 ·rw [ac (show ¬k=3 from hk)]at h5;exact wR h5
 ·rw [aj (show k=3 from hk)]at h5;exact E6 h5
theorem B3:∀{l:List Ty},h_ l=true→∀u∈l,rY u=true
 | [],_,_,h=>by simp at h
 | t::r,h,u,hu=>by
  unfold h_ at h;rw [Bool.and_eq_true]at h;rcases List.mem_cons.1 hu with rfl|hu
  ·exact h.1
  ·exact B3 h.2 u hu
abbrev ky(s:Qg):Qg:=s.lab.place s.labs.length
theorem Qw{o st:Om}{en:Int}{t:Ty}{a:Tx}{s:Qg}(h:t.kind=1∨t.kind=2)(he:t.es= [a]):gY o st en t s=(gX o st a (ky s)).emit [qi 25 1 13 (bI o t.name)]:=by
 obtain⟨k,nm,ve,es,vb,body,vl,els⟩:=t;obtain rfl:es= [a]:=he;exact aj h
theorem TO{o st:Om}{en:Int}{t:Ty}{a b:Tx}{s:Qg}(h:t.kind=3)(he:t.es= [a,b]):gY o st en t s=(((gX o st b ((gX o st a (ky s)).push 1)).pop 2).elem 2).emit [qi 25 1 2 8192]:=by
 obtain⟨k,nm,ve,es,vb,body,vl,els⟩:=t;obtain rfl:es= [a,b]:=he;obtain rfl:k=3:=h;rfl
theorem TK{o st:Om}{en:Int}{t:Ty}{a:Tx}{s:Qg}(h:t.kind=7)(he:t.es= [a]):gY o st en t s=(gX o st a (ky s)).emit [⟨48,0,0,0,1⟩]:=by
 obtain⟨k,nm,ve,es,vb,body,vl,els⟩:=t;obtain rfl:es= [a]:=he;obtain rfl:k=7:=h;rfl
theorem TL{o st:Om}{en:Int}{t:Ty}{a:Tx}{s:Qg}(h:t.kind=6)(he:t.es= [a]):gY o st en t s=(gX o st a (ky s)).jump 40 0 0 en:=by
 obtain⟨k,nm,ve,es,vb,body,vl,els⟩:=t;obtain rfl:es= [a]:=he;obtain rfl:k=6:=h;rfl
theorem TN{o st:Om}{en:Int}{t:Ty}{a:Tx}{s s1:Qg}(h:t.kind=4)(he:t.es= [a])(h1:s1=gX o st a (ky s)):gY o st en t s=
  (iX o st en t.els ((if t.els.length>0 then(iX o st en t.body ((s1.lab.lab).jump 32 1 0 s1.labs.length)).jump 40 0 0 (s1.labs.length+1)else iX o st en t.body ((s1.lab.lab).jump 32 1 0 s1.labs.length)).place s1.labs.length)).place (s1.labs.length+1):=by
 obtain⟨k,nm,ve,es,vb,body,vl,els⟩:=t;obtain rfl:es= [a]:=he;obtain rfl:k=4:=h;subst h1;rfl
theorem TM{o st:Om}{en:Int}{t:Ty}{a:Tx}{s s1:Qg}(h:t.kind=5)(he:t.es= [a])(h1:s1=gX o st a (ky s)):gY o st en t s=((iX o st en t.body (s1.lab.jump 32 1 0 s1.labs.length)).jump 40 0 0 s.labs.length).place s1.labs.length:=by
 obtain⟨k,nm,ve,es,vb,body,vl,els⟩:=t;obtain rfl:es= [a]:=he;obtain rfl:k=5:=h;subst h1;rfl
theorem TJ{o st:Om}{en:Int}{t:Ty}{a:Tx}{s:Qg}(n1:¬t.kind=1)(n2:¬t.kind=2)(n3:¬t.kind=3)(n4:¬t.kind=4)(n5:¬t.kind=5)(n6:¬t.kind=6)(n7:¬t.kind=7)(he:t.es= [a]):gY o st en t s=gX o st a (ky s):=by
 obtain⟨k,nm,ve,es,vb,body,vl,els⟩:=t;obtain rfl:es= [a]:=he;have n1:¬k=1:=n1;have n2:¬k=2:=n2;have n3:¬k=3:=n3;have n4:¬k=4:=n4;have n5:¬k=5:=n5;have n6:¬k=6:=n6;have n7:¬k=7:=n7;unfold gY;dsimp only;rw [ac (fun h=>h.elim n1 n2),ac n3,ac n7,ac n6,ac n4,ac n5];rfl
theorem oJ{t:Ty}{a:Tx}{r:List Tx}(hw:Wy t)(h:t.kind≠3)(he:t.es=a::r):t.es= [a]:=by
 obtain⟨b,hb⟩:=hw.one h;rw [hb]at he;cases he;exact hb
theorem N1{t:Ty}{a:Tx}{r:List Tx}(hw:Wy t)(h:t.kind=3)(he:t.es=a::r):∃b,t.es= [a,b]:=by
 obtain⟨c,b,hb⟩:=hw.two h;rw [hb]at he;cases he;exact⟨b,hb⟩
theorem GU(e:Ga)(c:Oq)(om sm:Om)(hm:e.mp=c.m)(t:Ty)(hw:Wy t)(hg:GY t)(ihb:∀s:Qg,s.sz+22*cv t.body≤780000→Spec prog 96 [Pt e.g,sv t.vb] [gA e s] [cm t.vb t.body,jU e.g c,mp ie Prod.fst vQ e.mo om,mp ie Prod.fst vI (some e.ms) sm] (X:=Unit) (fun _=>True) (fun _=> .tuple #[]) (fun _=> [gA e (iX om sm e.en t.body s)]) (fun _=> []))(ihe:∀s:Qg,s.sz+22*cv t.els≤780000→Spec prog 96 [Pt e.g,sv t.vl] [gA e s] [cm t.vl t.els,jU e.g c,mp ie Prod.fst vQ e.mo om,mp ie Prod.fst vI (some e.ms) sm] (X:=Unit) (fun _=>True) (fun _=> .tuple #[]) (fun _=> [gA e (iX om sm e.en t.els s)]) (fun _=> []))(s:Qg)(hz:s.sz+22*nY t≤780000)(he0:0≤e.en):
  aW prog 130 [Pt e.g,yV t] [gA e s] [ck t.ve t.es,cm t.vb t.body,cm t.vl t.els,jU e.g c,mp ie Prod.fst vQ e.mo om,mp ie Prod.fst vI (some e.ms) sm] (.tuple #[]) [gA e (gY om sm e.en t s)]:=by
 refine aI func130 J ntmps130 J fun w0 M H=>a_ 0 9 J iM (a_ 2 11 J iK ?_)
 have hne:=Gl t;obtain⟨a,ra,hea⟩:∃a r,t.es=a::r:=by
  by_cases h3:t.kind=3
  ·obtain⟨a,b,h⟩:=hw.two h3;exact⟨a,[b],h⟩
  ·obtain⟨a,h⟩:=hw.one h3;exact⟨a,[],h⟩
 have hna:dD t.es=nX a+dD ra:=by rw [hea];rfl
 have ham:a∈t.es:=by rw [hea];simp
 have hgt:(ky s).sz=s.sz+1:=by rw [bW,cr]
 have hsa:=og om sm a (ky s);rw [hgt]at hsa;have hla:=G_ om sm a (ky s);refine aq (cM J J fun b3=>az J (ad J (ai (xs:= [.tmp 8]) (fU e (s) (by omega)) xJ [0] [] [0] (fun _ _=>am J (az J (ad J (ad J (ai (xs:= [.tmp 10,.tmp 11]) (eY e (s.lab) (by rw [cr];omega) ((s.labs.length:Int)) (by simp [Qg.lab];omega)) uj [0] [] [0] (fun _ _=>az J (ad J (aD jF J ?_)))))))))));refine aR 3 kc J J J J (aP (aO (j:=0) underlying59 ci J J (aJ (k:=9) J) J (by rw [hea];simp)) ?_);refine uE (aM ci J J J (bF (aJ (k:=9) J) (by intro _;rfl) (show t.es[0]?=some a by rw [hea];rfl) (by rfl))) J ?_;refine a_ 0 10 J (dH ham) (c_ (xs:= [.tmp 13,.tmp 17]) (y9 e c om sm hm a (hw.es _ ham) ((uy hg).2.mem _ ham) (ky s) (by omega)) uk [0] [(false,10),(false,3),(false,4),(false,5)] [0] J J J (fun _ _=>az J (aD fV J (aR 3 t3 J J J J (aa (aA (aU (ar J J bv (am J (aa (ap J (fun h1=> ?_) (fun h1=> ?_))))))))))))
 ·(try simp only [bl]at h1);have k1:t.kind=1:=h1;refine aC (ap J (fun h2=> ?_) (fun h2=> ?_))
  ·(try simp only [bl]at h2);rw [Qw (.inl k1) (oJ hw (by omega) hea)];refine bX [24,25,26,27,28,29,30,31,32] _ J (bi (V:= [(0,24,_),(1,25,_),(2,26,_),(3,27,_),(4,28,_),(5,29,_),(6,30,_),(7,31,_)]) [0,1,2,3,4,5,6,7] 8 [8,7,6,5,4,3,2,1,0] [] (fun _=> []) J J (aF J J (aF J J (ae J (au J) (ae J (ah nD J) (ae J (ag DI J J (qQ (k:=0) J (fun _=>J) J)) (ae J (ah kz J) (ae J (ag t9 J J (ax (k:=3) J J)) (ae J (FY underlying108 fz eA J J (vJ (k:=4) J)) aw)))))))) J J J J J J J J J J J (fun _ _=>J) J (b_ (xs:= [.tmp 24,.const (I6 25),.const (I6 1),.const (I6 13),.tmp 31]) (dA e (gX om sm a (ky s)) (by omega) 25 1 13 (bI om t.name)) kM [0] [] [0]) (fun _ _=>bA [] J J aw J J J (cJ () O J iU J [0] [] J J J)))
  ·exact absurd k1 (dl h2)
 ·(try simp only [bl]at h1);have n1:¬t.kind=1:=h1;refine ak (ar J J bv (am J (aa (ap J (fun h3=> ?_) (fun h3=> ?_)))))
  ·(try simp only [bl]at h3);have k2:t.kind=2:=h3;rw [Qw (.inr k2) (oJ hw (by omega) hea)];refine bX [24,25,26,27,28,29,30,31,32] _ J (bi (V:= [(0,24,_),(1,25,_),(2,26,_),(3,27,_),(4,28,_),(5,29,_),(6,30,_),(7,31,_)]) [0,1,2,3,4,5,6,7] 8 [8,7,6,5,4,3,2,1,0] [] (fun _=> []) J J (aF J J (aF J J (ae J (au J) (ae J (ah nD J) (ae J (ag DI J J (qQ (k:=0) J (fun _=>J) J)) (ae J (ah kz J) (ae J (ag t9 J J (ax (k:=3) J J)) (ae J (FY underlying108 fz eA J J (vJ (k:=4) J)) aw)))))))) J J J J J J J J J J J (fun _ _=>J) J (b_ (xs:= [.tmp 24,.const (I6 25),.const (I6 1),.const (I6 13),.tmp 31]) (dA e (gX om sm a (ky s)) (by omega) 25 1 13 (bI om t.name)) kM [0] [] [0]) (fun _ _=>bA [] J J aw J J J (cJ () O J iU J [0] [] J J J)))
  ·(try simp only [bl]at h3);have n2:¬t.kind=2:=h3;refine aq (ar J J bv (am J (aa (ap J (fun h4=> ?_) (fun h4=> ?_)))))
   ·(try simp only [bl]at h4);have hk:t.kind=3:=h4;obtain⟨b,heb⟩:=N1 hw hk hea;have hbm:b∈t.es:=by rw [heb];simp
    have hnb:dD t.es=nX a+nX b:=by rw [heb];simp [dD]
    have hsb:=og om sm b ((gX om sm a (ky s)).push 1);rw [c9]at hsb;rw [TO hk heb];refine aq (ad J (ai (xs:= [.tmp 35,.const (I6 1)]) (jZ e (gX om sm a (ky s)) (by omega) 1) ED [0] [] [0] (fun _ _=>az J (ad J (aD jF J (aR 3 kc J J J J (aP (aO (j:=1) underlying59 ci J J (aJ (k:=9) J) J (by rw [heb];simp)) ?_)))))));refine uE (aM ci J J J (bF (aJ (k:=9) J) (by intro _;rfl) (show t.es[1]?=some b by rw [heb];rfl) (by rfl))) J ?_;refine a_ 0 10 J (dH hbm) (c_ (xs:= [.tmp 37,.tmp 41]) (y9 e c om sm hm b (hw.es _ hbm) ((uy hg).2.mem _ hbm) ((gX om sm a (ky s)).push 1) (by rw [c9];omega)) uk [0] [(false,10),(false,3),(false,4),(false,5)] [0] J J J (fun _ _=>az J (ad J (ai (xs:= [.tmp 43,.const (I6 2)]) (pi e (gX om sm b ((gX om sm a (ky s)).push 1)) (by omega) 2) KE [0] [] [0] (fun _ _=>az J (ad J (ai (xs:= [.tmp 45,.const (I6 2)]) (vT e ((gX om sm b ((gX om sm a (ky s)).push 1)).pop 2) (by rw [d5];omega) 2) LS [0] [] [0] (fun _ _=>aa (ak (ad J (ai (xs:= [.tmp 47,.const (I6 25),.const (I6 1),.const (I6 2),.const (I3 8192)]) (dA e (((gX om sm b ((gX om sm a (ky s)).push 1)).pop 2).elem 2) (by rw [dM,d5];omega) 25 1 2 8192) kM [0] [] [0] (fun _ _=>aa (cJ () O J iU J [0] [] J J J)))))))))))))
   ·(try simp only [bl]at h4);have n3:¬t.kind=3:=h4;refine aq (ar J J bv (am J (aa (ap J (fun h5=> ?_) (fun h5=> ?_)))))
    ·(try simp only [bl]at h5);have hk:t.kind=7:=h5;rw [TK hk (oJ hw (by omega) hea)];refine ak (ad J (aP (aX (parts:= [(0,.const (I6 48)),(4,.const (I3 1))]) fF nZ J J) (bq jw ⟨48,0,0,0,1⟩ underlying106 fF J (by decide) (by decide) J J J J fun v53=>cK 53 7 J cf (ai (xs:= [.tmp 51,.tmp 53]) (jd e (gX om sm a (ky s)) (by omega) v53 [⟨48,0,0,0,1⟩] (by simp)) zw [0] [(false,7)] [0] (fun _ _=>aa (cJ () O J iU J [0] [] J J J))))))
    ·(try simp only [bl]at h5);have n7:¬t.kind=7:=h5;refine aq (ar J J bv (am J (aa (ap J (fun h6=> ?_) (fun h6=> ?_)))))
     ·(try simp only [bl]at h6);have hk:t.kind=6:=h6;rw [TL hk (oJ hw (by omega) hea)];refine ak (ad J (ad J (bS J (aD xC J (aP (ag t3 J J (qQ (k:=0) J (fun _=>J) J)) (ai (xs:= [.tmp 57,.const (I6 40),.const (I6 0),.const (I6 0),.tmp 61]) (gp e (gX om sm a (ky s)) (by omega) 40 0 0 e.en) u7 [0] [] [0] (fun _ _=>aa (cJ () O J iU J [0] [] J J J))))))))
     ·(try simp only [bl]at h6);have n6:¬t.kind=6:=h6;refine aq (ar J J bv (am J (aa (ap J (fun h7=> ?_) (fun h7=> ?_)))))
      ·(try simp only [bl]at h7);have hk:t.kind=4:=h7;obtain⟨s1,hs1⟩:∃s1,s1=gX om sm a (ky s):=⟨_,J⟩
       rw [TN hk (oJ hw (by omega) hea) hs1];rw [←hs1]at hsa hla ⊢;have hb:=lh om sm e.en t.body ((s1.lab.lab).jump 32 1 0 s1.labs.length);rw [ca,cr,cr]at hb;have lb:=kX om sm e.en t.body ((s1.lab.lab).jump 32 1 0 s1.labs.length);have ll:((s1.lab.lab).jump 32 1 0 s1.labs.length).labs.length=s1.labs.length+2:=by simp [Qg.lab,Qg.jump]
       
       refine aq (ad J (ai (xs:= [.tmp 65]) (fU e (s1) (by omega)) xJ [0] [] [0] (fun _ _=>ad J (ai (xs:= [.tmp 67]) (fU e (s1.lab) (by rw [cr];omega)) xJ [0] [] [0] (fun _ _=> ?_)))))
       with_reducible rw [show((s1.lab.labs.length:Nat):Int)=(s1.labs.length:Int)+1 from by simp [Qg.lab]]
       refine am J (am J (az J (ad J (ad J (ai (xs:= [.tmp 69,.const (I6 32),.const (I6 1),.const (I6 0),.tmp 70]) (gp e (s1.lab.lab) (by rw [cr,cr];omega) 32 1 0 (s1.labs.length:Int)) u7 [0] [] [0] (fun _ _=>az J (ad J (aD gu J (aR 3 kO J J J J (ai (xs:= [.tmp 72,.tmp 74]) (ihb ((s1.lab.lab).jump 32 1 0 s1.labs.length) (by rw [ca,cr,cr];omega)) HN [0] [(false,1),(false,3),(false,4),(false,5)] [0] (fun _ _=>aa (aU (aD g9 J ?_)))))))))))));refine aR 3 kO J J J J (aP (aT underlying62 J (aJ (k:=11) J)) (ar J J fA (aa (ap J (fun h8=> ?_) (fun h8=> ?_)))))
       ·(try simp only [bl]at h8);obtain⟨sC,hC⟩:∃sC,sC=(iX om sm e.en t.body ((s1.lab.lab).jump 32 1 0 s1.labs.length)).jump 40 0 0 (s1.labs.length+1):=⟨_,J⟩
        rw [aj (show t.els.length>0 by omega),←hC];have hsC:sC.sz≤s1.sz+22*cv t.body+6∧s1.labs.length+2≤sC.labs.length:=by rw [hC];(refine⟨?_,?_⟩;rw [ca];omega;show _≤(iX om sm e.en t.body ((s1.lab.lab).jump 32 1 0 s1.labs.length)).labs.length;omega)
        have hle:=lh om sm e.en t.els (sC.place s1.labs.length);rw [bW]at hle;have lle:=kX om sm e.en t.els (sC.place s1.labs.length);have lpl:(sC.place s1.labs.length).labs.length=sC.labs.length:=by simp [Qg.place]
        refine ak (ad J (ad J (ai (xs:= [.tmp 80,.const (I6 40),.const (I6 0),.const (I6 0),.tmp 81]) (gp e (iX om sm e.en t.body ((s1.lab.lab).jump 32 1 0 s1.labs.length)) (by omega) 40 0 0 (s1.labs.length+1)) u7 [0] [] [0] (fun _ _=> ?_))));rw [←hC];refine az J (ad J (ad J (ai (xs:= [.tmp 83,.tmp 84]) (eY e (sC) (by omega) ((s1.labs.length:Int)) (by omega)) uj [0] [] [0] (fun _ _=>az J (ad J (aD g9 J (aR 3 kO J J J J (ai (xs:= [.tmp 86,.tmp 88]) (ihe (sC.place s1.labs.length) (by rw [bW];omega)) HN [0] [(false,2),(false,3),(false,4),(false,5)] [0] (fun _ _=>aa (ak (ad J (ad J (ai (xs:= [.tmp 90,.tmp 91]) (eY e (iX om sm e.en t.els (sC.place s1.labs.length)) (by omega) ((s1.labs.length+1:Int)) (by omega)) uj [0] [] [0] (fun _ _=>aa (cJ () O J iU J [0] [] J J J)))))))))))))))
       ·(try simp only [bl]at h8);obtain⟨sC,hC⟩:∃sC,sC=iX om sm e.en t.body ((s1.lab.lab).jump 32 1 0 s1.labs.length):=⟨_,J⟩
        rw [ac (show ¬t.els.length>0 by omega),←hC];have hsC:sC.sz≤s1.sz+22*cv t.body+6∧s1.labs.length+2≤sC.labs.length:=by rw [hC];(refine⟨?_,?_⟩<;>omega)
        have hle:=lh om sm e.en t.els (sC.place s1.labs.length);rw [bW]at hle;have lle:=kX om sm e.en t.els (sC.place s1.labs.length);have lpl:(sC.place s1.labs.length).labs.length=sC.labs.length:=by simp [Qg.place]
        refine aC (aq (ad J (ad J (ai (xs:= [.tmp 83,.tmp 84]) (eY e (sC) (by omega) ((s1.labs.length:Int)) (by omega)) uj [0] [] [0] (fun _ _=>az J (ad J (aD g9 J (aR 3 kO J J J J (ai (xs:= [.tmp 86,.tmp 88]) (ihe (sC.place s1.labs.length) (by rw [bW];omega)) HN [0] [(false,2),(false,3),(false,4),(false,5)] [0] (fun _ _=>aa (ak (ad J (ad J (ai (xs:= [.tmp 90,.tmp 91]) (eY e (iX om sm e.en t.els (sC.place s1.labs.length)) (by omega) ((s1.labs.length+1:Int)) (by omega)) uj [0] [] [0] (fun _ _=>aa (cJ () O J iU J [0] [] J J J))))))))))))))))
      ·(try simp only [bl]at h7);have n4:¬t.kind=4:=h7;refine aq (ar J J bv (am J (aa (ap J (fun h9=> ?_) (fun h9=> ?_)))))
       ·(try simp only [bl]at h9);have hk:t.kind=5:=h9;obtain⟨s1,hs1⟩:∃s1,s1=gX om sm a (ky s):=⟨_,J⟩
        rw [TM hk (oJ hw (by omega) hea) hs1];rw [←hs1]at hsa hla ⊢;have hb:=lh om sm e.en t.body (s1.lab.jump 32 1 0 s1.labs.length);rw [ca,cr]at hb;have lb:=kX om sm e.en t.body (s1.lab.jump 32 1 0 s1.labs.length);have ll:(s1.lab.jump 32 1 0 s1.labs.length).labs.length=s1.labs.length+1:=by simp [Qg.lab,Qg.jump]
        have lj:((iX om sm e.en t.body (s1.lab.jump 32 1 0 s1.labs.length)).jump 40 0 0 s.labs.length).labs.length=(iX om sm e.en t.body (s1.lab.jump 32 1 0 s1.labs.length)).labs.length:=by simp [Qg.jump]
        refine aq (ad J (ai (xs:= [.tmp 95]) (fU e (s1) (by omega)) xJ [0] [] [0] (fun _ _=>am J (az J (ad J (ad J (ai (xs:= [.tmp 97,.const (I6 32),.const (I6 1),.const (I6 0),.tmp 98]) (gp e (s1.lab) (by rw [cr];omega) 32 1 0 (s1.labs.length:Int)) u7 [0] [] [0] (fun _ _=>az J (ad J (aD gu J (aR 3 kO J J J J (ai (xs:= [.tmp 100,.tmp 102]) (ihb (s1.lab.jump 32 1 0 s1.labs.length) (by rw [ca,cr];omega)) HN [0] [(false,1),(false,3),(false,4),(false,5)] [0] (fun _ _=>aa (be ?_))))))))))))));refine ak (ad J (ad J (ai (xs:= [.tmp 104,.const (I6 40),.const (I6 0),.const (I6 0),.tmp 105]) (gp e (iX om sm e.en t.body (s1.lab.jump 32 1 0 s1.labs.length)) (by omega) 40 0 0 (s.labs.length:Int)) u7 [0] [] [0] (fun _ _=>aa (ak (ad J (ad J (ai (xs:= [.tmp 107,.tmp 108]) (eY e ((iX om sm e.en t.body (s1.lab.jump 32 1 0 s1.labs.length)).jump 40 0 0 s.labs.length) (by rw [ca];omega) ((s1.labs.length:Int)) (by omega)) uj [0] [] [0] (fun _ _=>aa (cJ () O J iU J [0] [] J J J))))))))))
       ·(try simp only [bl]at h9);have n5:¬t.kind=5:=h9;rw [TJ n1 n2 n3 n4 n5 n6 n7 (oJ hw (by omega) hea)];refine aC (cJ () O J iU J [0] [] J J J)
theorem G5(e:Ga)(c:Oq)(om sm:Om)(v:SV)(l:List Ty)(hl:l.length≤1000000)(ih:∀u∈l,∀s:Qg,s.sz+22*nY u≤780000→Spec prog 130 [Pt e.g,yV u] [gA e s] [ck u.ve u.es,cm u.vb u.body,cm u.vl u.els,jU e.g c,mp ie Prod.fst vQ e.mo om,mp ie Prod.fst vI (some e.ms) sm] (X:=Unit) (fun _=>True) (fun _=> .tuple #[]) (fun _=> [gA e (gY om sm e.en u s)]) (fun _=> []))(s:Qg)(hz:s.sz+22*cv l≤780000):
  aW prog 96 [Pt e.g,sv v] [gA e s] [cm v l,jU e.g c,mp ie Prod.fst vQ e.mo om,mp ie Prod.fst vI (some e.ms) sm] (.tuple #[]) [gA e (iX om sm e.en l s)]:=by
 refine aI func96 J ntmps96 J fun w0 M H=>a_ 0 9 J iK (aq (ad J (aP (aT underlying62 J (aJ (k:=9) J)) (ad J (aa (aA (bJ (X:=Nat) (fun i=>i≤l.length) (fun i=> [(0,Pt e.g),(6,sv v),(7,I6 (l.length:Int)),(8,I6 (i:Int))]) (fun i=> [(0,gA e (iX om sm e.en (l.take i) s))]) (fun i=> [(0,cm v l),(1,jU e.g c),(2,mp ie Prod.fst vQ e.mo om),(3,mp ie Prod.fst vI (some e.ms) sm),(9,sl 5 fK (sv v) l)]) (fun i=>l.length-i) 0 (bn _) J J J (fun i n1=>aq (ar J J cy (aa (be (ap J (fun h1=> ?_) (fun h1=> ?_)))))))))))))
 ·(try simp only [bl]at h1);have hi:i<l.length:=by omega
  obtain⟨kid,hkid⟩:∃k,l[i]?=some k:=⟨_,bQ hi⟩
  have hkm:=bV hkid;have hle:=wZ l (i+1);rw [mP hkid]at hle;have hsi:=lh om sm e.en (l.take i) s;refine aC (be (aA (aq (aP (aO (j:=i) underlying62 dR J J (aJ (k:=9) J) (by first|rfl|omega) (by first|omega|(simp;done)|(simp;omega))) (aP (aM dR J J J (bF (aJ (k:=9) J) (by intro _;rfl) hkid (by rfl))) (aZ dR J J fun b5=>av (k:=5) dR J J J J J J (aa (ak (ad J (aP (aM dR J J J (bp (k:=5) J)) (a_ 0 11 J (oq hkm) (a_ 0 12 J (iL hkm) (a_ 0 13 J (kN hkm) (ai (xs:= [.tmp 12,.tmp 13]) (ih kid hkm (iX om sm e.en (l.take i) s) (by omega)) RE [0] [(false,11),(false,12),(false,13),(false,1),(false,2),(false,3)] [0] (fun _ _=>aa (ak (ar J J aK ?_)))))))))))))))));refine ad J (aa ?_);refine aG (i+1) ⟨by omega,by omega⟩ J (by rw [zb s hkid];rfl) J
 ·(try simp only [bl]at h1);have hi:i=l.length:=by omega
  subst hi;rw [cQ];refine bL (cJ () O J iU J [0] [] J J J)
theorem xp(e:Ga)(c:Oq)(om sm:Om)(hm:e.mp=c.m)(he0:0≤e.en):∀(n:Nat)(v:SV)(l:List Ty),SizeOf.sizeOf l<n→h_ l=true→GYs l→l.length≤1000000→∀s:Qg,s.sz+22*cv l≤780000→aW prog 96 [Pt e.g,sv v] [gA e s] [cm v l,jU e.g c,mp ie Prod.fst vQ e.mo om,mp ie Prod.fst vI (some e.ms) sm] (.tuple #[]) [gA e (iX om sm e.en l s)]
 | 0,_,_,h,_,_,_=>absurd h (Nat.not_lt_zero _)
 | n+1,v,l,h,hr,hg,hl=>fun s hz=>G5 e c om sm v l hl (fun u hu s hz=>by
   have hlt:=List.sizeOf_lt_of_mem hu;have hw:=O3 (B3 hr u hu);have hgu:=hg.mem u hu;have hb:SizeOf.sizeOf u.body<SizeOf.sizeOf u:=by cases u;simp [Ty.body];omega
   have hl':SizeOf.sizeOf u.els<SizeOf.sizeOf u:=by cases u;simp [Ty.els];omega
   exact GU e c om sm hm u hw hgu (fun s hz=>xp e c om sm hm he0 n u.vb u.body (by omega) hw.body (fZ hgu).2 (fZ hgu).1 s hz) (fun s hz=>xp e c om sm hm he0 n u.vl u.els (by omega) hw.els (iA hgu).2 (iA hgu).1 s hz) s hz he0) s hz
theorem G6(e:Ga)(c:Oq)(om sm:Om)(hm:e.mp=c.m)(he0:0≤e.en)(v:SV)(l:List Ty)(hr:h_ l=true)(hg:GYs l)(hl:l.length≤1000000)(s:Qg)(hz:s.sz+22*cv l≤780000):aW prog 96 [Pt e.g,sv v] [gA e s] [cm v l,jU e.g c,mp ie Prod.fst vQ e.mo om,mp ie Prod.fst vI (some e.ms) sm] (.tuple #[]) [gA e (iX om sm e.en l s)]:=xp e c om sm hm he0 _ v l (Nat.lt_succ_self _) hr hg hl s hz
theorem zg:∀{l:List Ty}{i:Nat}{u:Ty}(p:Om×Int),l[i]?=some u→gDs (l.take (i+1)) p=gD u (gDs (l.take i) p)
 | [],i,u,p,h=>by simp at h
 | x::r,0,u,p,h=>by cases h;rfl
 | x::r,i+1,u,p,h=>zg (l:=r) _ h
theorem Hi(t:Ty)(p:Om×Int):gD t p=gDs t.els (gDs t.body (if t.kind=1 then(g_ p.1 t.name (wU (-(4*(p.2+1)))),p.2+1)else p)):=by cases t;rfl
mutual
theorem TW:∀(t:Ty)(p:Om×Int),(gD t p).2=p.2+vY t
 | .mk k nm _ _ _ body _ els,p=>by
  rw [Hi];show(gDs els (gDs body _)).2=_;rw [rD els,rD body];unfold vY;show(if k=1 then _ else p).2+_+_=_;by_cases h:k=1
  ·rw [aj h,aj h];show p.2+1+_+_=_;omega
  ·rw [ac h,ac h];omega
theorem rD:∀(l:List Ty)(p:Om×Int),(gDs l p).2=p.2+dW l
 | [],p=>by show p.2=p.2+((0:Nat):Int);omega
 | t::r,p=>by
  show(gDs r (gD t p)).2=_;rw [rD r,TW t,show dW (t::r)=vY t+dW r from J];omega
end
theorem Es(g:Nat)(vp:SV)(ms mo mq:Nat)(en:Int)(s:Qg)(cb:Nat)(v:SV)(l:List Ty)(hl:l.length≤1000000)(ihb:∀u∈l,∀p:Om×Int,0≤p.2→p.2+dW u.body≤1000000→Spec prog 94 [Pt g,sv u.vb,Pt cb] [gA (⟨g,vp,ms,some mo,mq,en⟩:Ga) s,mp ie Prod.fst vQ (some mo) (p).1,bj cb 3 [I6 (p).2]] [cm u.vb u.body] (X:=Unit) (fun _=>True) (fun _=> .tuple #[]) (fun _=> [gA (⟨g,vp,ms,some mo,mq,en⟩:Ga) s,mp ie Prod.fst vQ (some mo) (gDs u.body p).1,bj cb 3 [I6 (gDs u.body p).2]]) (fun _=> []))(ihe:∀u∈l,∀p:Om×Int,0≤p.2→p.2+dW u.els≤1000000→Spec prog 94 [Pt g,sv u.vl,Pt cb] [gA (⟨g,vp,ms,some mo,mq,en⟩:Ga) s,mp ie Prod.fst vQ (some mo) (p).1,bj cb 3 [I6 (p).2]] [cm u.vl u.els] (X:=Unit) (fun _=>True) (fun _=> .tuple #[]) (fun _=> [gA (⟨g,vp,ms,some mo,mq,en⟩:Ga) s,mp ie Prod.fst vQ (some mo) (gDs u.els p).1,bj cb 3 [I6 (gDs u.els p).2]]) (fun _=> []))(p:Om×Int)(h0:0≤p.2)(hn:p.2+dW l≤1000000):
  aW prog 94 [Pt g,sv v,Pt cb] [gA (⟨g,vp,ms,some mo,mq,en⟩:Ga) s,mp ie Prod.fst vQ (some mo) (p).1,bj cb 3 [I6 (p).2]] [cm v l] (.tuple #[]) [gA (⟨g,vp,ms,some mo,mq,en⟩:Ga) s,mp ie Prod.fst vQ (some mo) (gDs l p).1,bj cb 3 [I6 (gDs l p).2]]:=by
 refine aI func94 J ntmps94 J fun w0 M H=>a_ 0 9 J iK (aq (ad J (aP (aT underlying62 J (aJ (k:=9) J)) (ad J (aa (aA (bJ (X:=Nat) (fun i=>i≤l.length) (fun i=> [(0,Pt g),(2,Pt cb),(8,sv v),(9,I6 (l.length:Int)),(10,I6 (i:Int))]) (fun i=> [(0,gA (⟨g,vp,ms,some mo,mq,en⟩:Ga) s),(1,mp ie Prod.fst vQ (some mo) (gDs (l.take i) p).1),(2,bj cb 3 [I6 (gDs (l.take i) p).2])]) (fun i=> [(0,cm v l),(9,sl 5 fK (sv v) l)]) (fun i=>l.length-i) 0 (bn _) J J J (fun i n1=>aq (ar J J cy (aa (be (ap J (fun h1=> ?_) (fun h1=> ?_)))))))))))))
 ·(try simp only [bl]at h1);have hi:i<l.length:=by omega
  obtain⟨kid,hkid⟩:∃k,l[i]?=some k:=⟨_,bQ hi⟩
  have hkm:=bV hkid;have hn1:=rD (l.take i) p;have hn2:=rD (l.take (i+1)) p;have hvt:=oY hkid;have hvl:=re hkid;have hve:=E3 kid;obtain⟨q,hq⟩:∃q,q=(if kid.kind=1 then(g_ (gDs (l.take i) p).1 kid.name (wU (-(4*((gDs (l.take i) p).2+1)))),(gDs (l.take i) p).2+1)else gDs (l.take i) p):=⟨_,J⟩
  have hq2:q.2=(gDs (l.take i) p).2+((if kid.kind=1 then 1 else 0:Nat):Int):=by rw [hq];split<;>simp
  refine aC (be (aA (aq (aP (aO (j:=i) underlying62 dR J J (aJ (k:=9) J) (by first|rfl|omega) (by first|omega|(simp;done)|(simp;omega))) (aP (aM dR J J J (bF (aJ (k:=9) J) (by intro _;rfl) hkid (by rfl))) (aZ dR J J fun b7=>av (k:=7) dR J J J J J J (aa (bC (X:=Unit) (fun _=>True) (fun _=> [(0,Pt g),(2,Pt cb),(7,Pt b7),(8,sv v),(9,I6 (l.length:Int)),(10,I6 (i:Int))]) (fun _=> [(0,gA (⟨g,vp,ms,some mo,mq,en⟩:Ga) s),(1,mp ie Prod.fst vQ (some mo) q.1),(2,bj cb 3 [I6 q.2]),(7,bj b7 64 (fK kid))]) (fun _=> [(0,cm v l),(9,sl 5 fK (sv v) l)]) ?_ (fun _ _=> ?_)))))))))
  ·refine aq (aD fV J (aR 7 t3 J J J J (ar J J bv (aa (ap J (fun h2=> ?_) (fun h2=> ?_))))))
   ·(try simp only [bl]at h2);have hk:kid.kind=1:=h2;rw [aj hk]at hve;have hqe:q=(g_ (gDs (l.take i) p).1 kid.name (wU (-(4*((gDs (l.take i) p).2+1)))),(gDs (l.take i) p).2+1):=by rw [hq,aj hk]
    refine aq (ad J (bS J (aR 2 t3 J J J J (ar J J aK (bS J (aB (k:=2) t3 J J J J J J J J (aa ?_)))))));refine bX [22,23,24,25,26,27,28,29,30,31,32,33] _ J (bP (V:= [(0,22,_),(1,23,_),(2,24,_),(3,25,_),(4,26,_),(5,27,_),(6,28,_),(7,29,_),(8,30,_),(9,31,_),(10,32,_),(11,33,_)]) [0,1,2,3,4,5,6,7,8,9,10,11] 12 [12,11,10,9,8,7,6,5,4,3,2,1,0] [] (fun _=> []) J J (aF J J (ae J (au J) (ae J (ah nD J) (ae J (ag DI J J (qQ (k:=0) J (fun _=>J) J)) (ae J (ah kz J) (ae J (ag t9 J J (ax (k:=7) J J)) (aF J J (ae J (au J) (ae J (ag t3 J J (ax (k:=2) J J)) (ae J (aQ J J lF) (ae J (cw underlying3 underlying41 J (by first|exact cc (by omega)|rfl)) (ae J (PY J J) aw)))))))))))) J J J J J J J J J (fun _ _=>J) J (jV (k:=1) (α:=Ba×Int) (kf:=Prod.fst) (vf:=vQ) (kid.name,wU (-(4*((gDs (l.take i) p).2+1)))) (g_ (gDs (l.take i) p).1 kid.name (wU (-(4*((gDs (l.take i) p).2+1))))) underlying108 fz J J J J (List.Perm.refl _)) (fun _ _=>bA [] J J aw J J J ?_));refine aG () O J (by rw [hqe];rfl) J
   ·(try simp only [bl]at h2);have hk:¬kid.kind=1:=h2;rw [ac hk]at hve;have hqe:q=gDs (l.take i) p:=by rw [hq,ac hk]
    refine aC (aG () O J (by rw [hqe];rfl) J)
  ·refine aq (ad J (aD gu J (aR 7 kO J J J J (ad J (a_ 0 11 J (iL hkm) (ai (xs:= [.tmp 34,.tmp 36,.tmp 37]) (ihb kid hkm q (by omega) (by omega)) Og [0,1,2] [(false,11)] [0,1,2] (fun _ _=>aa (ak (ad J (aD g9 J (aR 7 kO J J J J (ad J (a_ 0 11 J (kN hkm) (ai (xs:= [.tmp 39,.tmp 41,.tmp 42]) (ihe kid hkm (gDs kid.body q) (by rw [rD];omega) (by rw [rD];omega)) Og [0,1,2] [(false,11)] [0,1,2] (fun _ _=>aa (ak (ar J J aK (ad J ?_))))))))))))))))));refine aa ?_;refine aG (i+1) ⟨by omega,by omega⟩ J (by rw [zg p hkid,Hi,←hq];rfl) J
 ·(try simp only [bl]at h1);have hi:i=l.length:=by omega
  subst hi;rw [cQ];refine bL (cJ () O J iU J [0,1,2] [] J J J)
theorem tH(g:Nat)(vp:SV)(ms mo mq:Nat)(en:Int)(s:Qg)(cb:Nat):∀(n:Nat)(v:SV)(l:List Ty),SizeOf.sizeOf l<n→GYs l→l.length≤1000000→∀p:Om×Int,0≤p.2→p.2+dW l≤1000000→aW prog 94 [Pt g,sv v,Pt cb] [gA (⟨g,vp,ms,some mo,mq,en⟩:Ga) s,mp ie Prod.fst vQ (some mo) (p).1,bj cb 3 [I6 (p).2]] [cm v l] (.tuple #[]) [gA (⟨g,vp,ms,some mo,mq,en⟩:Ga) s,mp ie Prod.fst vQ (some mo) (gDs l p).1,bj cb 3 [I6 (gDs l p).2]]
 | 0,_,_,h,_,_=>absurd h (Nat.not_lt_zero _)
 | n+1,v,l,h,hg,hl=>fun p h0 hn=>Es g vp ms mo mq en s cb v l hl (fun u hu p h0 hn=>by
   have hlt:=List.sizeOf_lt_of_mem hu;have hgu:=hg.mem u hu;have hb:SizeOf.sizeOf u.body<SizeOf.sizeOf u:=by cases u;simp [Ty.body];omega
   exact tH g vp ms mo mq en s cb n u.vb u.body (by omega) (fZ hgu).2 (fZ hgu).1 p h0 hn) (fun u hu p h0 hn=>by
   have hlt:=List.sizeOf_lt_of_mem hu;have hgu:=hg.mem u hu;have hb:SizeOf.sizeOf u.els<SizeOf.sizeOf u:=by cases u;simp [Ty.els];omega
   exact tH g vp ms mo mq en s cb n u.vl u.els (by omega) (iA hgu).2 (iA hgu).1 p h0 hn) p h0 hn
theorem Et(g:Nat)(vp:SV)(ms mo mq:Nat)(en:Int)(s:Qg)(cb:Nat)(v:SV)(l:List Ty)(hg:GYs l)(hl:l.length≤1000000)(p:Om×Int)(h0:0≤p.2)(hn:p.2+dW l≤1000000):aW prog 94 [Pt g,sv v,Pt cb] [gA (⟨g,vp,ms,some mo,mq,en⟩:Ga) s,mp ie Prod.fst vQ (some mo) (p).1,bj cb 3 [I6 (p).2]] [cm v l] (.tuple #[]) [gA (⟨g,vp,ms,some mo,mq,en⟩:Ga) s,mp ie Prod.fst vQ (some mo) (gDs l p).1,bj cb 3 [I6 (gDs l p).2]]:=tH g vp ms mo mq en s cb _ v l (Nat.lt_succ_self _) hg hl p h0 hn
section
variable{P:Program}{N:Nat}{w0:World}{M H:Nat→Prop}{E:ft}{Γ R:eD}
theorem wH(k:Nat)(ns:List Nat){e:Ga}{s:Qg}{Rel:Act→World→Prop}(hk:ch Γ k=some (gA e s))(hns:ns.Nodup)(hl:ns.length=4)
  (h:∀vc vf vl,At N w0 M H E (gk ns [bj e.g 111 (gR e.vp vc vf vl e.ms e.mo e.mp e.en),own 118 5 jw (sv vc) s.code,own 171 2 xT (sv vf) s.fixes,own 3 1 eI (sv vl) s.labs] (gl [k] Γ)) R Rel):At N w0 M H E Γ R Rel:=
 FK k ns hk hns (fun _=>hl) fun x=>h x.1 x.2.1 x.2.2
theorem wG(k:Nat)(ks:List Nat)(e:Ga)(s:Qg)(vc vf vl:SV){Rel:Act→World→Prop}(hL:e9 Γ ks=dv [bj e.g 111 (gR e.vp vc vf vl e.ms e.mo e.mp e.en),own 118 5 jw (sv vc) s.code,own 171 2 xT (sv vf) s.fixes,own 3 1 eI (sv vl) s.labs])(hks:ks.Nodup)
  (h:At N w0 M H E ((k,gA e s)::gl ks Γ) R Rel):At N w0 M H E Γ R Rel:=MM (f:=fun x:SV×SV×SV=> [bj e.g 111 (gR e.vp x.1 x.2.1 x.2.2 e.ms e.mo e.mp e.en),own 118 5 jw (sv x.1) s.code,own 171 2 xT (sv x.2.1) s.fixes,own 3 1 eI (sv x.2.2) s.labs]) k ks (vc,vf,vl) hL hks h
end
theorem CH(n:Int):∀(l:List Ba)(k:Int)(x:Ba)(o:Om),gP n k (l++ [x]) o=g_ (gP n k l o) x (8+4*(n-1-(k+l.length)))
 | [],k,x,o=>by
  show g_ o x (8+4*(n-1-k))=g_ o x (8+4*(n-1-(k+((0:Nat):Int))));rw [show k+((0:Nat):Int)=k by omega]
 | y::l,k,x,o=>by
  show gP n (k+1) (l++ [x]) _=g_ (gP n (k+1) l _) x _;rw [CH n l (k+1) x];rw [show k+1+(l.length:Int)=k+(((y::l).length:Nat):Int) by rw [aY];omega]
theorem J5{n:Int}{l:List Ba}{i:Nat}{x:Ba}(o:Om)(h:l[i]?=some x):gP n 0 (l.take (i+1)) o=g_ (gP n 0 (l.take i) o) x (8+4*(n-1-(i:Int))):=by
 obtain⟨hi,-⟩:=cU.1 h;rw [cj h,CH,List.length_take,Nat.min_eq_left (by omega),show(0:Int)+(i:Int)=i by omega]
theorem jt:∀(n:Nat)(s:Qg),d_ (n+1) s=(d_ n s).push 0
 | 0,s=>rfl
 | n+1,s=>jt n (s.push 0)
theorem cT:∀(n:Nat)(s:Qg),(d_ n s).sz=s.sz+2*n
 | 0,s=>rfl
 | n+1,s=>by
  rw [jt,c9,cT n];omega
theorem lU:∀(n:Nat)(s:Qg),(d_ n s).labs=s.labs
 | 0,s=>rfl
 | n+1,s=>by
  rw [jt];exact lU n s
mutual
theorem Pg:∀t:Ty,vY t≤nY t
 | .mk k nm ve es vb body vl els=>by
  have h1:=oZ body;have h2:=oZ els;show(if k=1 then 1 else 0)+dW body+dW els≤1+dD es+cv body+cv els;split<;>omega
theorem oZ:∀l:List Ty,dW l≤cv l
 | []=>bU _
 | t::r=>by
  have h1:=Pg t;have h2:=oZ r;show vY t+dW r≤nY t+cv r;omega
end
theorem fc(s:Qg):s.lab.labs.length=s.labs.length+1:=by
 show(s.labs++ [0]).length=_;rw [bD,dk]
theorem eV(s:Qg)(l:Int):(s.place l).labs.length=s.labs.length:=by
 show(s.labs.set _ _).length=_;rw [List.length_set]
theorem CI(f:Tf):(dB f).2=(dW f.body:Int):=by
 show(gDs f.body (gP f.ps.length 0 f.ps [],0)).2=_;rw [rD];show(0:Int)+_=_;omega
theorem Qz(sm:Om)(f:Tf)(s:Qg):(gF sm f s).sz≤s.sz+24*cv f.body+60:=by
 have h1:=lh (dB f).1 sm ((s.labs.length:Int)+1) f.body (d_ (dB f).2.toNat ((((((((((s.lab.lab).place (bI sm f.name)).emit [qi 16 12 12 1]).emit [qi 16 2 0 12]).jump 35 2 12 s.labs.length).emit [⟨49,0,0,0,0⟩]).place s.labs.length).push 15).push 13).emit [q3 1 13 14 0]));have h2:=oZ f.body;have h3:=CI f;simp only [bG,c9,d5,cr,bW,ca,cT,aY,aS]at h1;show((((((((iX (dB f).1 sm ((s.labs.length:Int)+1) f.body (d_ (dB f).2.toNat _)).emit [q3 1 1 0 0]).place ((s.labs.length:Int)+1)).emit [q3 1 14 13 0]).pop 13).pop 15).emit [qi 16 12 12 4294967295]).emit [qi 27 0 15 0]).sz≤_;simp only [bG,c9,d5,cr,bW,ca,aY,aS];omega
theorem Er(e:Ga)(c:Oq)(sm:Om)(hm:e.mp=c.m)(f:Tf)(hr:h_ f.body=true)(hg:GF f)(s:Qg)(hst:0≤bI sm f.name∧bI sm f.name<s.labs.length)(hz:s.sz+24*cv f.body+100≤780000):
  Spec prog 54 [Pt e.g,IW f] [gA e s] [EK f,jU e.g c,mp ie Prod.fst vI (some e.ms) sm] (X:=Nat) (fun _=>True) (fun _=> .tuple #[]) (fun b=> [gA ({e with mo:=some b,en:=((s.labs.length:Nat):Int)+1}:Ga) (gF sm f s)]) (fun _=> []):=by
 refine aI func54 J ntmps54 J fun w0 M H=> ?_
 have hpl:=hg.2.2.1;have hbl:=hg.2.2.2.1;have hgn:=hg.2.2.2.2.2;have hvn:=oZ f.body;have hon:=CI f;obtain⟨nv,hnv⟩:∃nv,nv=(dB f).2.toNat:=⟨_,J⟩
 have hnl:(s.lab.labs.length:Int)=((s.labs.length:Nat):Int)+1:=by rw [fc];omega
 refine a_ 0 3 J ri (a_ 0 4 J m_ (aq (cM J J fun b3=>az J (ad J (ni (Prod.fst:Ba×Int→Ba) ie vQ J fun b8=>bS J (aD nD J (wH 0 [0,21,22,23] J (by decide) J fun vc vf vl=>aB (k:=0) DI J J J J J J J J (wG 0 [0,21,22,23] ({e with mo:=some b8}:Ga) s vc vf vl J (by decide) (aa (aU (aD fj J ?_)))))))))));refine aR 3 jT J J J J (aP (aT underlying46 J (aJ (k:=3) J)) (ad J (aa (aA (bJ (X:=Nat) (fun i=>i≤f.ps.length) (fun i=> [(0,Pt e.g),(3,Pt b3),(13,I6 (f.ps.length:Int)),(14,I6 (i:Int))]) (fun i=> [(0,gA ({e with mo:=some b8}:Ga) s),(3,bj b3 66 (jI f)),(8,mp ie Prod.fst vQ (some b8) (gP (f.ps.length:Int) 0 (f.ps.take i) []))]) (fun i=> [(0,EK f),(1,jU e.g c),(2,mp ie Prod.fst vI (some e.ms) sm),(3,sl 1 eS (sv f.vp) f.ps),(4,cm f.vb f.body)]) (fun i=>f.ps.length-i) 0 (bn _) J J J (fun i n1=>aq (ar J J cy (aa (be (ap J (fun h1=> ?_) (fun h1=> ?_)))))))))))
 ·(try simp only [bl]at h1);have hi:i<f.ps.length:=by omega
  obtain⟨x,hx⟩:∃x,f.ps[i]?=some x:=⟨_,bQ hi⟩
  refine aC (be (aA (aq (ad J (am J (aa ?_))))));refine bX [17,18,19,20,21,22,23,24,25,26,27,28,29,30,31,32,33,34] _ J (bP (V:= [(0,17,_),(1,18,_),(2,19,_),(3,20,_),(4,21,_),(5,22,_),(6,23,_),(7,24,_),(8,25,_),(9,26,_),(10,27,_),(11,28,_),(12,29,_),(13,30,_),(14,31,_),(15,32,_),(16,33,_),(17,34,_)]) [0,1,2,3,4,5,6,7,8,9,10,11,12,13,14,15,16,17] 18 [18,17,16,15,14,13,12,11,10,9,8,7,6,5,4,3,2,1,0] [] (fun _=> []) J J (aF J J (ae J (au J) (ae J (ah nD J) (ae J (ag DI J J (qQ (k:=0) J (fun _=>J) J)) (ae J (ah fj J) (ae J (ag jT J J (ax (k:=3) J J)) (aF J J (ae J (aO (j:=i) underlying46 t9 J J (aJ (k:=3) J) (by first|rfl|omega) (by first|omega|(simp;done)|(simp;omega))) (ae J (ag t9 J J (bF (aJ (k:=3) J) (by intro _;rfl) hx (by rfl))) (ae J (ah fj J) (ae J (ag jT J J (ax (k:=3) J J)) (ae J (aT underlying46 J (aJ (k:=3) J)) (ae J (aQ J J eG) (aF J J (ae J (aQ J J eG) (ae J (aQ J J lF) (ae J (aQ J J aK) (ae J (cw underlying3 underlying41 J (by first|exact cc (by omega)|rfl)) aw)))))))))))))))))) J J J J J J J J J (fun _ _=>J) J (jV (k:=8) (α:=Ba×Int) (kf:=Prod.fst) (vf:=vQ) (x,8+4*((f.ps.length:Int)-1-i)) (g_ (gP (f.ps.length:Int) 0 (f.ps.take i) []) x (8+4*((f.ps.length:Int)-1-i))) underlying108 fz J J J J (List.Perm.refl _)) (fun _ _=>bA [] J J aw J J J ?_));refine ak (ar J J aK (ad J (aa ?_)));refine aG (i+1) ⟨by omega,by omega⟩ J (by rw [J5 [] hx];rfl) J
 ·(try simp only [bl]at h1);have hi:i=f.ps.length:=by omega
  subst hi;refine bL (aq (aZ t3 J J fun b5=>aB (k:=5) t3 J J J J J J J J (aa (be ?_))));rw [cQ];refine ak (ad J (aD li J (aR 3 kO J J J J (c_ (xs:= [.tmp 36,.tmp 38,.tmp 5]) (Et e.g e.vp e.ms b8 e.mp e.en s b5 f.vb f.body hg.2.2.2.2.1 hbl (gP (f.ps.length:Int) 0 f.ps [],0) (Int.le_refl _) (by dsimp only;omega)) Og [0,8,5] [(false,4)] [0,8,5] J J J (fun _ _=> ?_)))));obtain⟨om,hom⟩:∃om,om=(dB f).1:=⟨_,J⟩
  refine az J (ad J (ai (xs:= [.tmp 40]) (fU ({e with mo:=some b8}:Ga) (s) (by omega)) xJ [0] [] [0] (fun _ _=>am J (az J (ad J (ad J (ai (xs:= [.tmp 43]) (fU ({e with mo:=some b8}:Ga) ((s).lab) (by(try simp only [bG,c9,d5,dM,cr,bW,ca,cT,aY,aS]);omega)) xJ [0] [] [0] (fun _ _=> ?_))))))));rw [hnl];refine bS J (aD xC J (wH 0 [0,21,22,23] J (by decide) J fun vc vf vl=>aB (k:=0) t3 J J J J J J J J (wG 0 [0,21,22,23] ({e with mo:=some b8,en:=((s.labs.length:Nat):Int)+1}:Ga) (((s).lab).lab) vc vf vl J (by decide) (aa (be ?_)))));refine bX [47,48,49,50,51,52,53,54,55] _ J (bi (V:= [(0,47,_),(1,48,_),(2,49,_),(3,50,_),(4,51,_),(5,52,_),(6,53,_),(7,54,_)]) [0,1,2,3,4,5,6,7] 8 [8,7,6,5,4,3,2,1,0] [] (fun _=> []) J J (aF J J (aF J J (ae J (au J) (ae J (ah qg J) (ae J (ag Fb J J (qQ (k:=0) J (fun _=>J) J)) (ae J (ah lW J) (ae J (ag t9 J J (ax (k:=3) J J)) (ae J (FZ underlying105 fz t3 J J (vJ (k:=2) J)) aw)))))))) J J J J J J J J J J J (fun _ _=>J) J (b_ (xs:= [.tmp 47,.tmp 54]) (eY ({e with mo:=some b8,en:=((s.labs.length:Nat):Int)+1}:Ga) (((s).lab).lab) (by(try simp only [bG,c9,d5,dM,cr,bW,ca,cT,aY,aS]);omega) (bI sm f.name) ⟨hst.1,by rw [fc,fc];omega⟩) uj [0] [] [0]) (fun _ _=>bA [] J J aw J J J ?_))
  refine aq (ad J (ai (xs:= [.tmp 56,.const (I6 16),.const (I6 12),.const (I6 12),.const (I3 1)]) (dA ({e with mo:=some b8,en:=((s.labs.length:Nat):Int)+1}:Ga) ((((s).lab).lab).place (bI sm f.name)) (by(try simp only [bG,c9,d5,dM,cr,bW,ca,cT,aY,aS]);omega) 16 12 12 1) kM [0] [] [0] (fun _ _=>az J (ad J (ai (xs:= [.tmp 58,.const (I6 16),.const (I6 2),.const (I6 0),.const (I3 12)]) (dA ({e with mo:=some b8,en:=((s.labs.length:Nat):Int)+1}:Ga) (((((s).lab).lab).place (bI sm f.name)).emit [qi 16 12 12 1]) (by(try simp only [bG,c9,d5,dM,cr,bW,ca,cT,aY,aS]);omega) 16 2 0 12) kM [0] [] [0] (fun _ _=>az J (ad J (ad J (ai (xs:= [.tmp 60,.const (I6 35),.const (I6 2),.const (I6 12),.tmp 61]) (gp ({e with mo:=some b8,en:=((s.labs.length:Nat):Int)+1}:Ga) ((((((s).lab).lab).place (bI sm f.name)).emit [qi 16 12 12 1]).emit [qi 16 2 0 12]) (by(try simp only [bG,c9,d5,dM,cr,bW,ca,cT,aY,aS]);omega) 35 2 12 ((s.labs.length:Nat):Int)) u7 [0] [] [0] (fun _ _=>az J (ad J (aP (aX (parts:= [(0,.const (I6 49))]) fF nZ J J) ?_))))))))))));refine bq jw ⟨49,0,0,0,0⟩ underlying106 fF J (by decide) (by decide) J J J J fun v65=>cK 65 7 J cf (ai (xs:= [.tmp 63,.tmp 65]) (jd ({e with mo:=some b8,en:=((s.labs.length:Nat):Int)+1}:Ga) (((((((s).lab).lab).place (bI sm f.name)).emit [qi 16 12 12 1]).emit [qi 16 2 0 12]).jump 35 2 12 ((s.labs.length:Nat):Int)) (by(try simp only [bG,c9,d5,dM,cr,bW,ca,cT,aY,aS]);omega) v65 [⟨49,0,0,0,0⟩] (by simp)) zw [0] [(false,7)] [0] (fun _ _=>az J (ad J (ad J ?_))))
  refine dI (xs:= [.tmp 67,.tmp 68]) (eY ({e with mo:=some b8,en:=((s.labs.length:Nat):Int)+1}:Ga) ((((((((s).lab).lab).place (bI sm f.name)).emit [qi 16 12 12 1]).emit [qi 16 2 0 12]).jump 35 2 12 ((s.labs.length:Nat):Int)).emit [⟨49,0,0,0,0⟩]) (by(try simp only [bG,c9,d5,dM,cr,bW,ca,cT,aY,aS]);omega) ((s.labs.length:Nat):Int) ⟨by omega,by show _<(((((((s).lab).lab).place (bI sm f.name)).labs.length:Nat)):Int);rw [eV,fc,fc];omega⟩) uj [0] [] [0] J J J J J J J J (fun _ _=>J) (fun _ _ _=>J) J (fun _ _=> ?_);refine az J (ad J (ai (xs:= [.tmp 70,.const (I6 15)]) (jZ ({e with mo:=some b8,en:=((s.labs.length:Nat):Int)+1}:Ga) (((((((((s).lab).lab).place (bI sm f.name)).emit [qi 16 12 12 1]).emit [qi 16 2 0 12]).jump 35 2 12 ((s.labs.length:Nat):Int)).emit [⟨49,0,0,0,0⟩]).place ((s.labs.length:Nat):Int)) (by(try simp only [bG,c9,d5,dM,cr,bW,ca,cT,aY,aS]);omega) 15) ED [0] [] [0] (fun _ _=>az J (ad J (ai (xs:= [.tmp 72,.const (I6 13)]) (jZ ({e with mo:=some b8,en:=((s.labs.length:Nat):Int)+1}:Ga) ((((((((((s).lab).lab).place (bI sm f.name)).emit [qi 16 12 12 1]).emit [qi 16 2 0 12]).jump 35 2 12 ((s.labs.length:Nat):Int)).emit [⟨49,0,0,0,0⟩]).place ((s.labs.length:Nat):Int)).push 15) (by(try simp only [bG,c9,d5,dM,cr,bW,ca,cT,aY,aS]);omega) 13) ED [0] [] [0] (fun _ _=>az J (ad J (ai (xs:= [.tmp 74,.const (I6 1),.const (I6 13),.const (I6 14),.const (I6 0)]) (dJ ({e with mo:=some b8,en:=((s.labs.length:Nat):Int)+1}:Ga) (((((((((((s).lab).lab).place (bI sm f.name)).emit [qi 16 12 12 1]).emit [qi 16 2 0 12]).jump 35 2 12 ((s.labs.length:Nat):Int)).emit [⟨49,0,0,0,0⟩]).place ((s.labs.length:Nat):Int)).push 15).push 13) (by(try simp only [bG,c9,d5,dM,cr,bW,ca,cT,aY,aS]);omega) 1 13 14 0) oQ [0] [] [0] (fun _ _=>aa (aU (aR 5 t3 J J J J ?_)))))))))));refine ad J (aa (aA ?_));have hnc:((gDs f.body (gP (f.ps.length:Int) 0 f.ps [],0)).2:Int)=(nv:Int):=by
   have:(dB f).2=(nv:Int):=by omega
   exact this
  rw [hnc];refine bJ (X:=Nat) (fun i=>i≤nv) (fun i=> [(0,Pt e.g),(3,Pt b3),(76,I6 (nv:Int)),(77,I6 (i:Int))]) (fun i=> [(0,gA ({e with mo:=some b8,en:=((s.labs.length:Nat):Int)+1}:Ga) (d_ i ((((((((((((s).lab).lab).place (bI sm f.name)).emit [qi 16 12 12 1]).emit [qi 16 2 0 12]).jump 35 2 12 ((s.labs.length:Nat):Int)).emit [⟨49,0,0,0,0⟩]).place ((s.labs.length:Nat):Int)).push 15).push 13).emit [q3 1 13 14 0]))),(3,bj b3 66 (jI f)),(8,mp ie Prod.fst vQ (some b8) om)]) (fun i=> [(0,EK f),(1,jU e.g c),(2,mp ie Prod.fst vI (some e.ms) sm),(3,sl 1 eS (sv f.vp) f.ps),(4,cm f.vb f.body)]) (fun i=>nv-i) 0 (bn _) J (by rw [hom];rfl) J (fun i n1=>aq (ar J J cy (aa (be (ap J (fun h2=> ?_) (fun h2=> ?_))))))
  ·(try simp only [bl]at h2);have hi:i<nv:=by omega
   refine aC (be (aA (ak (ad J (ai (xs:= [.tmp 79,.const (I6 0)]) (jZ ({e with mo:=some b8,en:=((s.labs.length:Nat):Int)+1}:Ga) (d_ i ((((((((((((s).lab).lab).place (bI sm f.name)).emit [qi 16 12 12 1]).emit [qi 16 2 0 12]).jump 35 2 12 ((s.labs.length:Nat):Int)).emit [⟨49,0,0,0,0⟩]).place ((s.labs.length:Nat):Int)).push 15).push 13).emit [q3 1 13 14 0])) (by(try simp only [bG,c9,d5,dM,cr,bW,ca,cT,aY,aS]);omega) 0) ED [0] [] [0] (fun _ _=>aa (ak (ar J J aK (ad J (aa ?_))))))))));refine aG (i+1) ⟨by omega,by omega⟩ J (by rw [jt];rfl) J
  ·(try simp only [bl]at h2);have hi:nv=i:=by omega
   subst hi;refine bL (aq (ad J (aD li J (aR 3 kO J J J J (dI (xs:= [.tmp 82,.tmp 84]) (G6 ({e with mo:=some b8,en:=((s.labs.length:Nat):Int)+1}:Ga) c om sm hm (by dsimp only;omega) f.vb f.body hr hg.2.2.2.2.1 hbl (d_ nv ((((((((((((s).lab).lab).place (bI sm f.name)).emit [qi 16 12 12 1]).emit [qi 16 2 0 12]).jump 35 2 12 ((s.labs.length:Nat):Int)).emit [⟨49,0,0,0,0⟩]).place ((s.labs.length:Nat):Int)).push 15).push 13).emit [q3 1 13 14 0])) (by(try simp only [bG,c9,d5,dM,cr,bW,ca,cT,aY,aS]);omega)) HN [0] [(false,4),(false,1),(true,8),(false,2)] [0] J J J J J (by rw [hom];rfl) J J (fun _ _=>J) (fun _ _ _=>J) J (fun _ _=> ?_))))));have hbz:=lh om sm (((s.labs.length:Nat):Int)+1) f.body (d_ nv ((((((((((((s).lab).lab).place (bI sm f.name)).emit [qi 16 12 12 1]).emit [qi 16 2 0 12]).jump 35 2 12 ((s.labs.length:Nat):Int)).emit [⟨49,0,0,0,0⟩]).place ((s.labs.length:Nat):Int)).push 15).push 13).emit [q3 1 13 14 0]));simp only [bG,c9,d5,dM,cr,bW,ca,cT,aY,aS]at hbz;have hbl2:=kX om sm (((s.labs.length:Nat):Int)+1) f.body (d_ nv ((((((((((((s).lab).lab).place (bI sm f.name)).emit [qi 16 12 12 1]).emit [qi 16 2 0 12]).jump 35 2 12 ((s.labs.length:Nat):Int)).emit [⟨49,0,0,0,0⟩]).place ((s.labs.length:Nat):Int)).push 15).push 13).emit [q3 1 13 14 0]));rw [lU]at hbl2;have hbl3:((((((((((((s).lab).lab).place (bI sm f.name)).emit [qi 16 12 12 1]).emit [qi 16 2 0 12]).jump 35 2 12 ((s.labs.length:Nat):Int)).emit [⟨49,0,0,0,0⟩]).place ((s.labs.length:Nat):Int)).push 15).push 13).emit [q3 1 13 14 0]).labs.length=s.labs.length+2:=by
    show(((((((((s).lab).lab).place (bI sm f.name)).emit [qi 16 12 12 1]).emit [qi 16 2 0 12]).jump 35 2 12 ((s.labs.length:Nat):Int)).emit [⟨49,0,0,0,0⟩]).place ((s.labs.length:Nat):Int)).labs.length=_;rw [eV];show((((s).lab).lab).place (bI sm f.name)).labs.length=_;rw [eV,fc,fc]
   refine az J (ad J (ai (xs:= [.tmp 86,.const (I6 1),.const (I6 1),.const (I6 0),.const (I6 0)]) (dJ ({e with mo:=some b8,en:=((s.labs.length:Nat):Int)+1}:Ga) (iX om sm (((s.labs.length:Nat):Int)+1) f.body (d_ nv ((((((((((((s).lab).lab).place (bI sm f.name)).emit [qi 16 12 12 1]).emit [qi 16 2 0 12]).jump 35 2 12 ((s.labs.length:Nat):Int)).emit [⟨49,0,0,0,0⟩]).place ((s.labs.length:Nat):Int)).push 15).push 13).emit [q3 1 13 14 0]))) (by(try simp only [bG,c9,d5,dM,cr,bW,ca,cT,aY,aS]);omega) 1 1 0 0) oQ [0] [] [0] (fun _ _=>az J (ad J (ad J (bS J (aD xC J (aP (ag t3 J J (qQ (k:=0) J (fun _=>J) J)) ?_))))))));refine dI (xs:= [.tmp 88,.tmp 92]) (eY ({e with mo:=some b8,en:=((s.labs.length:Nat):Int)+1}:Ga) ((iX om sm (((s.labs.length:Nat):Int)+1) f.body (d_ nv ((((((((((((s).lab).lab).place (bI sm f.name)).emit [qi 16 12 12 1]).emit [qi 16 2 0 12]).jump 35 2 12 ((s.labs.length:Nat):Int)).emit [⟨49,0,0,0,0⟩]).place ((s.labs.length:Nat):Int)).push 15).push 13).emit [q3 1 13 14 0]))).emit [q3 1 1 0 0]) (by(try simp only [bG,c9,d5,dM,cr,bW,ca,cT,aY,aS]);omega) (((s.labs.length:Nat):Int)+1) ⟨by omega,by show _<((((iX om sm (((s.labs.length:Nat):Int)+1) f.body (d_ nv ((((((((((((s).lab).lab).place (bI sm f.name)).emit [qi 16 12 12 1]).emit [qi 16 2 0 12]).jump 35 2 12 ((s.labs.length:Nat):Int)).emit [⟨49,0,0,0,0⟩]).place ((s.labs.length:Nat):Int)).push 15).push 13).emit [q3 1 13 14 0]))).labs.length:Nat)):Int);omega⟩) uj [0] [] [0] J J J J J J J J (fun _ _=>J) (fun _ _ _=>J) J (fun _ _=> ?_)
   refine az J (ad J (ai (xs:= [.tmp 94,.const (I6 1),.const (I6 14),.const (I6 13),.const (I6 0)]) (dJ ({e with mo:=some b8,en:=((s.labs.length:Nat):Int)+1}:Ga) (((iX om sm (((s.labs.length:Nat):Int)+1) f.body (d_ nv ((((((((((((s).lab).lab).place (bI sm f.name)).emit [qi 16 12 12 1]).emit [qi 16 2 0 12]).jump 35 2 12 ((s.labs.length:Nat):Int)).emit [⟨49,0,0,0,0⟩]).place ((s.labs.length:Nat):Int)).push 15).push 13).emit [q3 1 13 14 0]))).emit [q3 1 1 0 0]).place (((s.labs.length:Nat):Int)+1)) (by(try simp only [bG,c9,d5,dM,cr,bW,ca,cT,aY,aS]);omega) 1 14 13 0) oQ [0] [] [0] (fun _ _=>az J (ad J (ai (xs:= [.tmp 96,.const (I6 13)]) (pi ({e with mo:=some b8,en:=((s.labs.length:Nat):Int)+1}:Ga) ((((iX om sm (((s.labs.length:Nat):Int)+1) f.body (d_ nv ((((((((((((s).lab).lab).place (bI sm f.name)).emit [qi 16 12 12 1]).emit [qi 16 2 0 12]).jump 35 2 12 ((s.labs.length:Nat):Int)).emit [⟨49,0,0,0,0⟩]).place ((s.labs.length:Nat):Int)).push 15).push 13).emit [q3 1 13 14 0]))).emit [q3 1 1 0 0]).place (((s.labs.length:Nat):Int)+1)).emit [q3 1 14 13 0]) (by(try simp only [bG,c9,d5,dM,cr,bW,ca,cT,aY,aS]);omega) 13) KE [0] [] [0] (fun _ _=>az J (ad J (ai (xs:= [.tmp 98,.const (I6 15)]) (pi ({e with mo:=some b8,en:=((s.labs.length:Nat):Int)+1}:Ga) (((((iX om sm (((s.labs.length:Nat):Int)+1) f.body (d_ nv ((((((((((((s).lab).lab).place (bI sm f.name)).emit [qi 16 12 12 1]).emit [qi 16 2 0 12]).jump 35 2 12 ((s.labs.length:Nat):Int)).emit [⟨49,0,0,0,0⟩]).place ((s.labs.length:Nat):Int)).push 15).push 13).emit [q3 1 13 14 0]))).emit [q3 1 1 0 0]).place (((s.labs.length:Nat):Int)+1)).emit [q3 1 14 13 0]).pop 13) (by(try simp only [bG,c9,d5,dM,cr,bW,ca,cT,aY,aS]);omega) 15) KE [0] [] [0] (fun _ _=> ?_)))))))))
   refine az J (ad J (ai (xs:= [.tmp 100,.const (I6 16),.const (I6 12),.const (I6 12),.const (I3 4294967295)]) (dA ({e with mo:=some b8,en:=((s.labs.length:Nat):Int)+1}:Ga) ((((((iX om sm (((s.labs.length:Nat):Int)+1) f.body (d_ nv ((((((((((((s).lab).lab).place (bI sm f.name)).emit [qi 16 12 12 1]).emit [qi 16 2 0 12]).jump 35 2 12 ((s.labs.length:Nat):Int)).emit [⟨49,0,0,0,0⟩]).place ((s.labs.length:Nat):Int)).push 15).push 13).emit [q3 1 13 14 0]))).emit [q3 1 1 0 0]).place (((s.labs.length:Nat):Int)+1)).emit [q3 1 14 13 0]).pop 13).pop 15) (by(try simp only [bG,c9,d5,dM,cr,bW,ca,cT,aY,aS]);omega) 16 12 12 4294967295) kM [0] [] [0] (fun _ _=>aa (ak (ad J (ai (xs:= [.tmp 102,.const (I6 27),.const (I6 0),.const (I6 15),.const (I3 0)]) (dA ({e with mo:=some b8,en:=((s.labs.length:Nat):Int)+1}:Ga) (((((((iX om sm (((s.labs.length:Nat):Int)+1) f.body (d_ nv ((((((((((((s).lab).lab).place (bI sm f.name)).emit [qi 16 12 12 1]).emit [qi 16 2 0 12]).jump 35 2 12 ((s.labs.length:Nat):Int)).emit [⟨49,0,0,0,0⟩]).place ((s.labs.length:Nat):Int)).push 15).push 13).emit [q3 1 13 14 0]))).emit [q3 1 1 0 0]).place (((s.labs.length:Nat):Int)+1)).emit [q3 1 14 13 0]).pop 13).pop 15).emit [qi 16 12 12 4294967295]) (by(try simp only [bG,c9,d5,dM,cr,bW,ca,cT,aY,aS]);omega) 27 0 15 0) kM [0] [] [0] (fun _ _=>aa (cJ b8 O J iU J [0] [] J (by rw [hom,hnv];rfl) J))))))))
structure okG(s:Qg):Prop where
 fx:∀p∈s.fixes,(0≤p.1∧p.1<s.code.length)∧(0≤p.2∧p.2<s.labs.length)
 im:∀q∈s.code,oW q.imm
theorem okG.emit{s:Qg}(h:okG s){l:List Qi}(hl:∀q∈l,oW q.imm):okG (s.emit l):=by
 refine⟨fun p hp=> ?_,fun q hq=> ?_⟩
 ·have:=h.fx p hp;show(_∧p.1<((s.code++l).length:Int))∧(_∧p.2<(s.labs.length:Int));rw [bD];omega
 ·rcases List.mem_append.1 hq with hq|hq
  ·exact h.im q hq
  ·exact hl q hq
theorem okG.lab{s:Qg}(h:okG s):okG s.lab:=by
 refine⟨fun p hp=> ?_,h.im⟩;have:=h.fx p hp;rw [fc];exact⟨this.1,this.2.1,by omega⟩
theorem okG.place{s:Qg}(h:okG s)(l:Int):okG (s.place l):=by
 refine⟨fun p hp=> ?_,h.im⟩;have:=h.fx p hp;rw [eV];exact this
theorem okG.jump{s:Qg}(h:okG s)(op d a:Int){l:Int}(hl:0≤l∧l<s.labs.length):okG (s.jump op d a l):=by
 refine⟨fun p hp=> ?_,fun q hq=> ?_⟩
 ·show(_∧p.1<((s.code++ [qi op d a 0]).length:Int))∧(_∧p.2<(s.labs.length:Int));rw [bD,dk];rcases List.mem_append.1 hp with hp|hp
  ·have:=h.fx p hp;omega
  ·rw [List.mem_singleton.1 hp];dsimp only;omega
 ·rcases List.mem_append.1 hq with hq|hq
  ·exact h.im q hq
  ·rw [List.mem_singleton.1 hq];exact nN
theorem UA{q:Qi}(h:oW q.imm):∀x∈ [q],oW x.imm:=fun x hx=>by rw [List.mem_singleton.1 hx];exact h
theorem okG.one{s:Qg}(h:okG s){q:Qi}(hq:oW q.imm):okG (s.emit [q]):=h.emit (UA hq)
theorem okG.push{s:Qg}(h:okG s)(r:Int):okG (s.push r):=(h.one (q:=qi 16 14 14 4294967292) ⟨by decide,by decide⟩).one (q:=qi 25 r 14 0) nN
theorem okG.pop{s:Qg}(h:okG s)(r:Int):okG (s.pop r):=(h.one (q:=qi 23 r 14 0) nN).one (q:=qi 16 14 14 4) ⟨by decide,by decide⟩
theorem okG.elem{s:Qg}(h:okG s)(r:Int):okG (s.elem r):=(h.one (q:=qi 17 r r 255) (show oW 255 from⟨by decide,by decide⟩)).one (q:=qi 20 r r 2) (show oW 2 from⟨by decide,by decide⟩)
theorem okG.ite{c:Prop} [Decidable c]{a b:Qg}(h1:okG a)(h2:okG b):okG (if c then a else b):=by split;exact h1;exact h2
theorem okG.op{s:Qg}(h:okG s)(o:Ba):okG (rS o s):=by
 have w1:oW 1:=⟨by decide,by decide⟩
 have t:∀{s:Qg},okG s→∀op d a b,okG (s.emit [q3 op d a b]):=fun h op d a b=>h.one nN
 have i1:∀{s:Qg},okG s→okG (s.emit [qi 19 1 1 1]):=fun h=>h.one w1
 have l2:(s.labs.length:Int)<s.lab.labs.length:=by rw [fc];omega
 unfold rS
 repeat' (refine okG.ite ?_ ?_)
 ·exact t h _ _ _ _
 ·exact t h _ _ _ _
 ·exact t h _ _ _ _
 ·exact t h _ _ _ _
 ·exact t h _ _ _ _
 ·exact t h _ _ _ _
 ·exact t h _ _ _ _
 ·exact t h _ _ _ _
 ·exact t h _ _ _ _
 ·exact t h _ _ _ _
 ·exact i1 (t h _ _ _ _)
 ·exact i1 (t h _ _ _ _)
 ·exact t (t h _ _ _ _) _ _ _ _
 ·exact i1 (t (t h _ _ _ _) _ _ _ _)
 ·exact(t (h.lab.jump 32 1 0 ⟨by omega,l2⟩) _ _ _ _).place _
 ·exact t ((t (t ((t h.lab _ _ _ _).jump 32 1 0 (l:=(s.labs.length:Int)) ⟨by omega,l2⟩) _ _ _ _) _ _ _ _).place _) _ _ _ _
 ·exact h
theorem okG.un{s:Qg}(h:okG s)(o:Ba):okG (Hb o s):=by
 unfold Hb
 repeat' (refine okG.ite ?_ ?_)
 ·exact h.one nN
 ·exact(h.one (q:=qi 16 2 0 4294967295) ⟨by decide,by decide⟩).one nN
 ·exact(h.one (q:=qi 16 2 0 1) ⟨by decide,by decide⟩).one nN
 ·exact h
theorem okG.num{s:Qg}(h:okG s){n:Int}(hn:oW n):okG (tM n s):=by
 have h1:=hn.1;have h2:=hn.2;unfold tM;refine okG.ite (h.one hn) (h.emit fun q hq=> ?_);simp only [List.mem_cons,List.not_mem_nil,or_false]at hq;rcases hq with rfl|rfl
 ·show oW (n/1024);exact⟨by omega,by omega⟩
 ·show oW (n%1024);exact⟨by omega,by omega⟩
structure okL(o st:Om)(k:Nat):Prop where
 o:∀x,oW (bI o x)
 st:∀x,0≤bI st x∧bI st x<k
mutual
theorem LG{o st:Om}{k:Nat}(hk:okL o st k):∀(t:Tx)(s:Qg),GX t→k≤s.labs.length→okG s→okG (gX o st t s)
 | .mk kd n nm v kids,s,hg,hs,h=>by
  have h0:=A4 hk kids s hg.2.2.2 hs h;have l0:=CD o st kids s;have h1:=Ha hk kids ((nu o st kids s).push 1) hg.2.2.2 (by show k≤(nu o st kids s).labs.length;omega) (h0.push 1);have h2:=G9 hk kids s hg.2.2.2 hs h;have l2:s.labs.length≤(vL o st kids s).labs.length:=(xr (K:=fun _=>False) (S:=fun _=>0) (fun _ h=>h.elim) kids s).labs_le;have hst:=hk.st nm;have hkl:=hg.2.2.1;unfold gX;refine okG.ite (h.num hg.1) (okG.ite (h.one (q:=qi 23 1 13 (bI o nm)) (hk.o nm)) (okG.ite (h.one (q:=⟨48,0,0,0,2⟩) ⟨by decide,by decide⟩) (okG.ite ((h0.elem 1).one (q:=qi 23 1 1 8192) ⟨by decide,by decide⟩) (okG.ite (h0.un nm) (okG.ite ((h1.pop 2).op nm) (okG.ite ?_ h))))));have hj:=h2.jump 40 15 0 (l:=bI st nm) ⟨hst.1,by omega⟩;refine okG.ite (hj.one (q:=qi 16 14 14 (4*kids.length)) ?_) hj;show oW (4*(kids.length:Int));exact⟨by omega,by omega⟩
theorem A4{o st:Om}{k:Nat}(hk:okL o st k):∀(l:List Tx)(s:Qg),GXs l→k≤s.labs.length→okG s→okG (nu o st l s)
 | [],s,_,_,h=>h
 | t::_,s,hg,hs,h=>LG hk t s hg.1 hs h
theorem Ha{o st:Om}{k:Nat}(hk:okL o st k):∀(l:List Tx)(s:Qg),GXs l→k≤s.labs.length→okG s→okG (OR o st l s)
 | [],s,_,_,h=>h
 | _::r,s,hg,hs,h=>A4 hk r s hg.2 hs h
theorem G9{o st:Om}{k:Nat}(hk:okL o st k):∀(l:List Tx)(s:Qg),GXs l→k≤s.labs.length→okG s→okG (vL o st l s)
 | [],s,_,_,h=>h
 | t::r,s,hg,hs,h=>G9 hk r _ hg.2 (by have:=G_ o st t s;show k≤(gX o st t s).labs.length;omega) ((LG hk t s hg.1 hs h).push 1)
end
mutual
theorem Qv{o st:Om}{k:Nat}(hk:okL o st k){en:Int}(he:0≤en∧en<k):∀(t:Ty)(s:Qg),GY t→k≤s.labs.length→okG s→okG (gY o st en t s)
 | .mk kd nm ve es vb body vl els,s,hg,hs,h=>by
  have hs0:k≤((s.lab.place s.labs.length)).labs.length:=by rw [eV,fc];omega
  have hl0:s.labs.length<((s.lab.place s.labs.length)).labs.length:=by rw [eV,fc];omega
  have h0:=A4 hk es _ hg.2.1.2 hs0 (h.lab.place s.labs.length);have l0:=CD o st es (s.lab.place s.labs.length);have h1:=Ha hk es ((nu o st es (s.lab.place s.labs.length)).push 1) hg.2.1.2 (by show k≤(nu o st es _).labs.length;omega) (h0.push 1);unfold gY;dsimp only;generalize nu o st es (s.lab.place s.labs.length)=s1 at h0 l0 h1;refine okG.ite (h0.one (q:=qi 25 1 13 (bI o nm)) (hk.o nm)) (okG.ite (((h1.pop 2).elem 2).one (q:=qi 25 1 2 8192) ⟨by decide,by decide⟩) (okG.ite (h0.one (q:=⟨48,0,0,0,1⟩) ⟨by decide,by decide⟩) (okG.ite (h0.jump 40 0 0 ⟨he.1,by omega⟩) (okG.ite ?_ (okG.ite ?_ h0)))))
  ·have e2:(s1.lab.lab).labs.length=s1.labs.length+2:=by rw [fc,fc]
   have h2:=tJ hk he body _ hg.2.2.1.2 (by show k≤(s1.lab.lab).labs.length;omega) (h0.lab.lab.jump 32 1 0 (l:=(s1.labs.length:Int)) ⟨by omega,by omega⟩);have l2:=kX o st en body ((s1.lab.lab).jump 32 1 0 s1.labs.length);have l2':(s1.lab.lab).labs.length≤_:=l2;have h3:okG (if els.length>0 then(iX o st en body ((s1.lab.lab).jump 32 1 0 s1.labs.length)).jump 40 0 0 ((s1.labs.length:Int)+1)else iX o st en body ((s1.lab.lab).jump 32 1 0 s1.labs.length)):=okG.ite (h2.jump 40 0 0 ⟨by omega,by omega⟩) h2;have l3:k≤(if els.length>0 then(iX o st en body ((s1.lab.lab).jump 32 1 0 s1.labs.length)).jump 40 0 0 ((s1.labs.length:Int)+1)else iX o st en body ((s1.lab.lab).jump 32 1 0 s1.labs.length)).labs.length:=by
    split
    ·show k≤(iX o st en body _).labs.length;omega
    ·omega
   exact(tJ hk he els _ hg.2.2.2.2 (by rw [eV];exact l3) (h3.place _)).place _
  ·have e2:(s1.lab).labs.length=s1.labs.length+1:=fc s1;have h2:=tJ hk he body _ hg.2.2.1.2 (by show k≤(s1.lab).labs.length;omega) (h0.lab.jump 32 1 0 (l:=(s1.labs.length:Int)) ⟨by omega,by omega⟩);have l2:=kX o st en body ((s1.lab).jump 32 1 0 s1.labs.length);have l2':(s1.lab).labs.length≤_:=l2;exact(h2.jump 40 0 0 (l:=(s.labs.length:Int)) ⟨by omega,by omega⟩).place _
theorem tJ{o st:Om}{k:Nat}(hk:okL o st k){en:Int}(he:0≤en∧en<k):∀(l:List Ty)(s:Qg),GYs l→k≤s.labs.length→okG s→okG (iX o st en l s)
 | [],s,_,_,h=>h
 | t::r,s,hg,hs,h=>tJ hk he r _ hg.2 (by
   have:=(G8 (K:=fun _=>False) (S:=fun _=>0) (E:=0) t s (fun _ h=>h.elim) (fun _ h=>h.elim):Res (fun _=>False) s (gY o st en t s) _).labs_le;omega) (Qv hk he t s hg.1 hs h)
end
theorem iN(o:Om)(x y:Ba)(n:Int):bI (g_ o x n) y=if x=y then n else bI o y:=by
 unfold bI g_;rw [List.find?_cons];by_cases h:x=y
 ·rw [aj h];simp only [decide_eq_true h]
 ·rw [ac h];simp only [decide_eq_false h]
  induction o with
  | nil=>rfl
  | cons p r ih=>
   rw [List.filter_cons];by_cases hp:p.1=x
   ·rw [ac (by simp [hp]),ih,List.find?_cons];simp only [decide_eq_false (show ¬p.1=y from fun e=>h (hp.symm.trans e))]
   ·rw [aj (by simp [hp]),List.find?_cons,List.find?_cons];by_cases hy:p.1=y
    ·simp only [decide_eq_true hy]
    ·simp only [decide_eq_false hy];exact ih
def qL:List Tf→Ba→Nat
 | [],_=>0
 | f::r,x=>if f.name=x then 0 else qL r x+1
theorem CG:∀(fs:List Tf)(p:Om×Qg)(x:Ba),(fs.map Tf.name).Nodup→(x∈fs.map Tf.name→bI (qB fs p).1 x=((p.2.labs.length+qL fs x:Nat):Int))∧(x∉fs.map Tf.name→bI (qB fs p).1 x=bI p.1 x)
 | [],p,x,_=>⟨fun h=>by simp at h,fun _=>rfl⟩
 | f::r,p,x,h=>by
  rw [List.map_cons,List.nodup_cons]at h;unfold qB;obtain⟨i1,i2⟩:=CG r (g_ p.1 f.name p.2.labs.length,p.2.lab) x h.2;have hl:(p.2.lab).labs.length=p.2.labs.length+1:=by
   show(p.2.labs++ [0]).length=_;rw [bD,dk]
  rw [hl]at i1;by_cases hx:x∈r.map Tf.name
  ·have hf:¬f.name=x:=fun e=>h.1 (by rw [e];exact hx)
   refine⟨fun _=> ?_,fun hn=>absurd (List.mem_cons_of_mem _ hx) hn⟩;rw [i1 hx,show qL (f::r) x=qL r x+1 from ac hf]
   congr 1
   omega
  ·rw [i2 hx];show(_→bI (g_ p.1 f.name (p.2.labs.length:Int)) x=_)∧(_→bI (g_ p.1 f.name (p.2.labs.length:Int)) x=_);rw [iN];by_cases hf:f.name=x
   ·rw [aj hf];refine⟨fun _=> ?_,fun hn=>absurd (by rw [List.map_cons,hf];exact List.mem_cons_self) hn⟩;unfold qL;rw [aj hf];rfl
   ·rw [ac hf];refine⟨fun hn=> ?_,fun _=>J⟩;rw [List.map_cons,List.mem_cons]at hn;exact absurd (hn.resolve_left fun e=>hf e.symm) hx
theorem zd:∀(fs:List Tf)(p:Om×Qg),(qB fs p).2={p.2 with labs:=p.2.labs++List.replicate fs.length 0}
 | [],p=>by
  show p.2={p.2 with labs:=p.2.labs++ []};rw [List.append_nil]
 | f::r,p=>by
  unfold qB;rw [zd r];show Qg.mk _ _ ((p.2.labs++ [0])++List.replicate r.length 0)=_;rw [List.append_assoc];rfl
theorem wN:∀(fs:List Tf)(x:Ba),x∈fs.map Tf.name→qL fs x<fs.length
 | [],x,h=>by simp at h
 | f::r,x,h=>by
  unfold qL;split
  ·simp
  ·have:=wN r x ((List.mem_cons.1 h).resolve_left fun e=>by subst e;contradiction);simp only [aY];omega
theorem yC:∀(fs:List Tf)(x y:Ba),x∈fs.map Tf.name→y∈fs.map Tf.name→qL fs x=qL fs y→x=y
 | [],x,_,h,_,_=>by simp at h
 | f::r,x,y,hx,hy,he=>by
  unfold qL at he;by_cases h1:f.name=x
  ·by_cases h2:f.name=y
   ·rw [←h1,h2]
   ·rw [aj h1,ac h2]at he;omega
  ·by_cases h2:f.name=y
   ·rw [ac h1,aj h2]at he;omega
   ·rw [ac h1,ac h2]at he;exact yC r x y ((List.mem_cons.1 hx).resolve_left fun e=>h1 e.symm) ((List.mem_cons.1 hy).resolve_left fun e=>h2 e.symm) (by omega)
theorem pb(st:Om):∀(fs:List Tf)(p:Nat)(l:List Int)(k:Nat),(∀f∈fs,(bI st f.name).toNat≠k)→(eC st fs p l)[k]?=l[k]?
 | [],_,_,_,_=>rfl
 | f::r,p,l,k,h=>by
  unfold eC;rw [pb st r _ _ k fun g hg=>h g (by simp [hg]),List.getElem?_set_ne (h f (by simp))]
theorem s8(st:Om):∀(fs:List Tf)(p:Nat)(l:List Int)(x:Ba),(fs.map Tf.name).Nodup→(∀a∈fs.map Tf.name,∀b∈fs.map Tf.name,(bI st a).toNat=(bI st b).toNat→a=b)→
  (∀a∈fs.map Tf.name,(bI st a).toNat<l.length)→x∈fs.map Tf.name→(eC st fs p l)[(bI st x).toNat]?=some (iF fs p x)
 | [],_,_,x,_,_,_,h=>by simp at h
 | f::r,p,l,x,hn,hi,hl,hx=>by
  rw [List.map_cons,List.nodup_cons]at hn;unfold eC iF;by_cases hf:f.name=x
  ·rw [aj hf,pb st r _ _ _ fun g hg e=>hn.1 (by
    have hm:g.name∈(f::r).map Tf.name:=List.mem_map_of_mem (by simp [hg]);have:=hi g.name hm x hx e;rw [hf,←this];exact List.mem_map_of_mem hg),hf,List.getElem?_set_self (hl x hx)]
  ·rw [ac hf];exact s8 st r _ _ x hn.2 (fun a ha b hb=>hi a (List.mem_cons_of_mem _ ha) b (List.mem_cons_of_mem _ hb)) (fun a ha=>by rw [List.length_set];exact hl a (List.mem_cons_of_mem _ ha)) ((List.mem_cons.1 hx).resolve_left fun e=>hf e.symm)
theorem zf(labs:List Int):∀(fs:List (Int×Int))(l:List Qi),p_ labs fs l=ut (fun i=>labs.getD i.toNat 0) 0 fs l
 | [],l=>rfl
 | f::r,l=>by
  unfold p_ ut;rw [Nat.sub_zero];exact zf labs r _
theorem BG:∀(fs:List Tf)(p:Nat)(x:Ba),x∉fs.map Tf.name→iF fs p x=3
 | [],_,_,_=>rfl
 | f::r,p,x,h=>by
  rw [List.map_cons,List.mem_cons]at h;unfold iF;rw [ac fun e=>h (Or.inl e.symm)];exact BG r _ x fun e=>h (Or.inr e)
theorem qb(fs:List Tf)(hn:(fs.map Tf.name).Nodup)(h0:fs≠ []):ig fs=jz fs:=by
 obtain⟨st,hst⟩:∃st,st=(qB fs ([],⟨[],[],[]⟩)).1:=⟨_,J⟩
 have ho:∀x,x∉fs.map Tf.name→bI st x=0:=fun x hx=>by
  rw [hst,(CG fs _ x hn).2 hx];rfl
 have hm:∀x∈fs.map Tf.name,(bI st x).toNat=qL fs x:=fun x hx=>by
  rw [hst,(CG fs _ x hn).1 hx];show((0+qL fs x:Nat):Int).toNat=_;rw [Nat.zero_add,Int.toNat_natCast]
 obtain⟨s0,hs0⟩:∃s0,s0=(qB fs ([],⟨[],[],[]⟩)).2:=⟨_,J⟩
 have e0:s0=⟨[],[],List.replicate fs.length 0⟩:=by
  rw [hs0,zd];rfl
 obtain⟨s1,hs1⟩:∃s1:Qg,s1=((s0.emit [qi 16 14 0 16384]).jump 40 15 0 (bI st eq)).emit [⟨48,0,0,0,0⟩]:=⟨_,J⟩
 have hA:A8 fs=tQ st fs s1:=by
  rw [hs1,hs0,hst];rfl
 have c1:s1.code.length=3:=by rw [hs1,e0];rfl
 have l1:s1.labs=List.replicate fs.length 0:=by rw [hs1,e0];rfl
 obtain⟨S,hS⟩:∃S,S=iF fs 3:=⟨_,J⟩
 have hlt:∀f∈fs,(bI st f.name).toNat<s1.labs.length:=fun f hf=>by
  have hx:f.name∈fs.map Tf.name:=List.mem_map_of_mem hf;rw [hm _ hx,l1,List.length_replicate];exact wN fs _ hx
 have g2:=CK (K:=fun L=>∀x,L (bI st x)=S x) (S:=S) (fun L h=>h) fs s1 hlt;rw [c1]at g2;have g1:Res (fun L=>∀x,L (bI st x)=S x) {s0 with labs:=eC st fs 3 s1.labs} {s1 with labs:=eC st fs 3 s1.labs} [qi 16 14 0 16384,qi 40 15 0 (wU (S eq-1)),⟨48,0,0,0,0⟩]:=by
  rw [hs1];refine(((Res.emit _ [_]).seq (Res.jump _ 40 15 0 (bI st eq) _ fun L hL=> ?_)).seq (Res.emit _ [_]));rw [hL eq];show wU (_-(((s0.code++ [_]).length:Nat):Int))=_;rw [e0];rfl
 obtain⟨raw,fx,ls,a1,a2,a3,a4,a5,a6⟩:=(g1.seq g2).ex;unfold ig;rw [hA,zf,a1,a3];have hc:s0.code= []:=by rw [e0]
 have hf:s0.fixes= []:=by rw [e0]
 show ut _ 0 (s0.fixes++fx) (s0.code++raw)=jz fs;rw [hc,hf,List.nil_append,List.nil_append];have hcl:s0.code.length=0:=by rw [hc];rfl
 have hget:∀x∈fs.map Tf.name,(eC st fs 3 s1.labs)[(bI st x).toNat]?=some (iF fs 3 x):=fun x hx=>
  s8 st fs 3 s1.labs x hn (fun a ha b hb e=>yC fs a b ha hb (by rw [←hm a ha,←hm b hb];exact e)) (fun a ha=>by
   obtain⟨f,hf,rfl⟩:=List.mem_map.1 ha;exact hlt f hf) hx
 have a6':=a6 (fun i=>(tQ st fs s1).labs.getD i.toNat 0) (fun x=> ?_) (fun i n hi=> ?_)
 ·rw [show({s0 with labs:=eC st fs 3 s1.labs}:Qg).code.length=0 from hcl]at a6';rw [a6',hS];rfl
 ·show(tQ st fs s1).labs.getD (bI st x).toNat 0=S x;rw [a4,hS];show(eC st fs 3 s1.labs++ls).getD _ 0=_;have hlen:∀y∈fs.map Tf.name,(bI st y).toNat<(eC st fs 3 s1.labs).length:=fun y hy=>by
   rw [ou];obtain⟨f,hf,rfl⟩:=List.mem_map.1 hy;exact hlt f hf
  by_cases hx:x∈fs.map Tf.name
  ·rw [List.getD_eq_getElem?_getD,List.getElem?_append_left (hlen x hx),hget x hx];rfl
  ·rw [BG fs 3 x hx,ho x hx];cases fs with
   | nil=>exact absurd rfl h0
   | cons f r=>
    have hy:f.name∈(f::r).map Tf.name:=by simp
    have h3:=hget f.name hy;have h4:=hlen f.name hy;have h5:(bI st f.name).toNat=0:=by
     rw [hm _ hy];unfold qL;rw [aj J]
    rw [h5]at h3 h4;rw [List.getD_eq_getElem?_getD,show(0:Int).toNat=0 from J,List.getElem?_append_left h4,h3];unfold iF;rw [aj J];rfl
 ·show(tQ st fs s1).labs.getD (((eC st fs 3 s1.labs).length+i:Nat):Int).toNat 0=n;rw [a4];show(eC st fs 3 s1.labs++ls).getD _ 0=_;rw [Int.toNat_natCast,List.getD_eq_getElem?_getD,List.getElem?_append_right (by omega),show(eC st fs 3 s1.labs).length+i-(eC st fs 3 s1.labs).length=i by omega,hi];rfl
def okO(o:Om):Prop:=∀x,oW (bI o x)
theorem okO.put{o:Om}(h:okO o)(x:Ba){n:Int}(hn:oW n):okO (g_ o x n):=fun y=>by
 rw [iN];split
 ·exact hn
 ·exact h y
theorem okO.nil:okO []:=fun _=>nN
theorem okO.gP{n:Int}(hn:n≤1000000):∀(l:List Ba)(k:Int)(o:Om),okO o→0≤k→k+l.length≤n→okO (gP n k l o)
 | [],k,o,h,_,_=>h
 | p::r,k,o,h,hk,hl=>by
  rw [aY]at hl;exact okO.gP hn r (k+1) _ (h.put p ⟨by omega,by omega⟩) (by omega) (by omega)
mutual
theorem okO.gD:∀(t:Ty)(p:Om×Int),okO p.1→okO (gD t p).1
 | .mk k nm ve es vb body vl els,p,h=>by
  rw [Hi];refine okO.gDs els _ (okO.gDs body _ ?_);show okO (if k=1 then _ else p).1;split
  ·exact h.put nm (tp _)
  ·exact h
theorem okO.gDs:∀(l:List Ty)(p:Om×Int),okO p.1→okO (gDs l p).1
 | [],p,h=>h
 | t::r,p,h=>okO.gDs r _ (okO.gD t p h)
end
theorem okO.offs{f:Tf}(hg:GF f):okO (dB f).1:=okO.gDs f.body _ (okO.gP (by have:=hg.2.2.1;omega) f.ps 0 [] okO.nil (Int.le_refl _) (by omega))
theorem okG.push0:∀(n:Nat){s:Qg},okG s→okG (d_ n s)
 | 0,s,h=>h
 | n+1,s,h=>by
  rw [jt];exact(okG.push0 n h).push 0
theorem QA{st:Om}{f:Tf}{s:Qg}(hg:GF f)(hst:∀x,0≤bI st x∧bI st x<s.labs.length)(h:okG s):okG (gF st f s):=by
 have e2:(s.lab.lab).labs.length=s.labs.length+2:=by rw [fc,fc]
 have h1:=(((h.lab.lab.place (bI st f.name)).one (q:=qi 16 12 12 1) ⟨by decide,by decide⟩).one (q:=qi 16 2 0 12) ⟨by decide,by decide⟩).jump 35 2 12 (l:=(s.labs.length:Int)) ⟨by omega,by show(s.labs.length:Int)<((s.lab.lab).place (bI st f.name)).labs.length;rw [eV];omega⟩;have h2:=(h1.one (q:=⟨49,0,0,0,0⟩) nN).place s.labs.length;have h3:=((((h2.push 15).push 13).one (q:=q3 1 13 14 0) nN).push0 (dB f).2.toNat)
 have l3:(d_ (dB f).2.toNat ((((((((((s.lab.lab).place (bI st f.name)).emit [qi 16 12 12 1]).emit [qi 16 2 0 12]).jump 35 2 12 s.labs.length).emit [⟨49,0,0,0,0⟩]).place s.labs.length).push 15).push 13).emit [q3 1 13 14 0])).labs.length=s.labs.length+2:=by
  rw [lU];show(((((((s.lab.lab).place (bI st f.name)).emit [qi 16 12 12 1]).emit [qi 16 2 0 12]).jump 35 2 12 s.labs.length).emit [⟨49,0,0,0,0⟩]).place s.labs.length).labs.length=_;rw [eV];show((s.lab.lab).place (bI st f.name)).labs.length=_;rw [eV,e2]
 have h4:=tJ (o:=(dB f).1) (st:=st) (k:=s.labs.length+2) ⟨okO.offs hg,fun x=>by have:=hst x;omega⟩ (en:=(s.labs.length:Int)+1) ⟨by omega,by omega⟩ f.body _ hg.2.2.2.2.1 (by rw [l3];exact bU _) h3;exact(((((((h4.one (q:=q3 1 1 0 0) nN).place _).one (q:=q3 1 14 13 0) nN).pop 13).pop 15).one (q:=qi 16 12 12 4294967295) ⟨by decide,by decide⟩).one (q:=qi 27 0 15 0) nN)
theorem Hh(st:Om)(f:Tf)(s:Qg):s.labs.length≤(gF st f s).labs.length:=by
 have h1:=kX (dB f).1 st ((s.labs.length:Int)+1) f.body (d_ (dB f).2.toNat ((((((((((s.lab.lab).place (bI st f.name)).emit [qi 16 12 12 1]).emit [qi 16 2 0 12]).jump 35 2 12 s.labs.length).emit [⟨49,0,0,0,0⟩]).place s.labs.length).push 15).push 13).emit [q3 1 13 14 0]));rw [lU]at h1;have h2:s.labs.length+2≤(iX (dB f).1 st ((s.labs.length:Int)+1) f.body (d_ (dB f).2.toNat ((((((((((s.lab.lab).place (bI st f.name)).emit [qi 16 12 12 1]).emit [qi 16 2 0 12]).jump 35 2 12 s.labs.length).emit [⟨49,0,0,0,0⟩]).place s.labs.length).push 15).push 13).emit [q3 1 13 14 0]))).labs.length:=by
  refine Nat.le_trans ?_ h1;show _≤(((((((s.lab.lab).place (bI st f.name)).emit [qi 16 12 12 1]).emit [qi 16 2 0 12]).jump 35 2 12 s.labs.length).emit [⟨49,0,0,0,0⟩]).place s.labs.length).labs.length;rw [eV];show _≤((s.lab.lab).place (bI st f.name)).labs.length;rw [eV,fc,fc];exact bU _
 show _≤(((iX (dB f).1 st ((s.labs.length:Int)+1) f.body _).emit [q3 1 1 0 0]).place ((s.labs.length:Int)+1)).labs.length;rw [eV];exact Nat.le_trans (Nat.le_add_right _ 2) h2
theorem Hg{st:Om}:∀(l:List Tf)(s:Qg),(∀f∈l,GF f)→(∀x,0≤bI st x∧bI st x<s.labs.length)→okG s→okG (tQ st l s)
 | [],s,_,_,h=>h
 | f::r,s,hg,hst,h=>Hg r _ (fun g hm=>hg g (by simp [hm])) (fun x=>by have:=hst x;have:=Hh st f s;omega) (QA (hg f (by simp)) hst h)
theorem Hc{fs:List Tf}(hn:(fs.map Tf.name).Nodup)(h0:fs≠ [])(x:Ba):0≤bI (qB fs ([],⟨[],[],[]⟩)).1 x∧bI (qB fs ([],⟨[],[],[]⟩)).1 x<fs.length:=by
 have hl:0<fs.length:=by cases fs with|nil=>exact absurd J h0|cons _ _=>simp
 obtain⟨h1,h2⟩:=CG fs ([],⟨[],[],[]⟩) x hn;by_cases hx:x∈fs.map Tf.name
 ·have:=wN fs x hx;rw [h1 hx];simp only [aS];omega
 ·rw [h2 hx];show(0:Int)≤0∧(0:Int)<_;omega
theorem Kb{fs:List Tf}(hg:GP fs)(hn:(fs.map Tf.name).Nodup)(h0:fs≠ []):okG (A8 fs):=by
 have hb:=Hc hn h0;have hs:=zd fs ([],⟨[],[],[]⟩);have hl:(qB fs ([],⟨[],[],[]⟩)).2.labs.length=fs.length:=by
  rw [hs];simp
 have ok0:okG (qB fs ([],⟨[],[],[]⟩)).2:=by
  rw [hs];exact⟨fun p hp=>by simp at hp,fun q hq=>by simp at hq⟩
 have h1:=((ok0.one (q:=qi 16 14 0 16384) ⟨by decide,by decide⟩).jump 40 15 0 (l:=bI (qB fs ([],⟨[],[],[]⟩)).1 eq) ⟨(hb eq).1,by show _<((qB fs ([],⟨[],[],[]⟩)).2.labs.length:Int);rw [hl];exact(hb eq).2⟩).one (q:=⟨48,0,0,0,0⟩) nN;exact Hg fs _ hg.2 (fun x=>by
  show _∧_<((qB fs ([],⟨[],[],[]⟩)).2.labs.length:Int);rw [hl];exact hb x) h1
theorem vu:∀(l:List Qi)(k:Nat)(n:Int),oW n→(∀q∈l,oW q.imm)→∀q∈i7 l k n,oW q.imm
 | [],_,_,_,h=>h
 | i::l,0,n,hn,h=>fun q hq=>by
  rcases List.mem_cons.1 hq with rfl|hq
  ·exact hn
  ·exact h q (by simp [hq])
 | i::l,k+1,n,hn,h=>fun q hq=>by
  rcases List.mem_cons.1 hq with rfl|hq
  ·exact h q (by simp)
  ·exact vu l k n hn (fun q hq=>h q (by simp [hq])) q hq
theorem xw(labs:List Int):∀(fs:List (Int×Int))(l:List Qi),(∀q∈l,oW q.imm)→(∀q∈p_ labs fs l,oW q.imm)∧(p_ labs fs l).length=l.length
 | [],l,h=>⟨h,rfl⟩
 | p::r,l,h=>by
  obtain⟨h1,h2⟩:=xw labs r (i7 l p.1.toNat (wU (labs.getD p.2.toNat 0-p.1))) (vu l _ _ (tp _) h);exact⟨h1,h2.trans (ke l _ _)⟩
theorem vM(labs:List Int):∀{fs:List (Int×Int)}{i:Nat}{f:Int×Int}(l:List Qi),fs[i]?=some f→p_ labs (fs.take (i+1)) l=i7 (p_ labs (fs.take i) l) f.1.toNat (wU (labs.getD f.2.toNat 0-f.1))
 | [],i,f,l,h=>by simp at h
 | p::r,0,f,l,h=>by cases h;rfl
 | p::r,i+1,f,l,h=>vM labs (fs:=r) _ h
theorem s_:∀(l:List Qi)(k:Nat)(n:Int)(q:Qi),l[k]?=some q→i7 l k n=l.set k {q with imm:=n}
 | [],k,n,q,h=>by simp at h
 | i::l,0,n,q,h=>by cases h;rfl
 | i::l,k+1,n,q,h=>congrArg (i:: ·) (s_ l k n q h)
def eR(l:List Qi):List Int:=l.flatMap fun q=>fP (u4 q)
theorem gW:∀l:List Qi,(eR l).length=4*l.length
 | []=>rfl
 | q::r=>by
  show(fP (u4 q)++eR r).length=_;rw [bD,gW r,aY,show(fP (u4 q)).length=4 from J];omega
theorem B6(n:Int):∀x∈fP n,0≤x∧x<256:=fun x hx=>by
 simp only [fP,List.mem_cons,List.not_mem_nil,or_false]at hx;rcases hx with rfl|rfl|rfl|rfl<;>omega
theorem uf(l:List Qi):∀x∈eR l,0≤x∧x<256:=fun x hx=>by
 obtain⟨q,_,hq⟩:=List.mem_flatMap.1 hx;exact B6 _ x hq
theorem kI:∀l:List Int,(∀x∈l,0≤x∧x<256)→br (mM l)=l:=by
 have h0:∀(l:List Int)(r:Ba),(l.foldl (fun r n=>r.push (UInt8.ofNat n.toNat)) r).data.toList=r.data.toList++l.map fun n=>UInt8.ofNat n.toNat:=by
  intro l
  induction l with
  | nil=>intro r;simp
  | cons n l ih=>intro r;rw [List.foldl_cons,ih];simp [ByteArray.push]
 intro l hl;unfold br mM;rw [h0];simp only [List.map_append,List.map_map];show(ByteArray.empty.data.toList).map _++_=l;rw [show ByteArray.empty.data.toList= []from J,List.map_nil,List.nil_append];refine(List.map_congr_left (g:=id) fun n hn=> ?_).trans (List.map_id l);have:=hl n hn;show(((UInt8.ofNat n.toNat).toNat:Nat):Int)=n;rw [UInt8.toNat_ofNat'];omega
theorem Bt{l:List Qi}{i:Nat}{q:Qi}(h:l[i]?=some q):eR (l.take (i+1))=eR (l.take i)++br (mM (fP (u4 q))):=by
 rw [cj h,kI _ (B6 _)];unfold eR;rw [List.flatMap_append];simp
theorem Ml(x:Int):IntKind.u32.wrap (IntKind.i64.wrap x)=wU x:=by
 unfold wU;simp only [IntKind.wrap_u32,IntKind.wrap_i64];omega
theorem za(e:Ga)(s:Qg)(hs:okG s)(hz:s.sz≤240000)(hne:s.code≠ []):
  aW prog 55 [Pt e.g] [gA e s] [] (Sg (mM (eR (p_ s.labs s.fixes s.code)))) []:=by
 refine aI func55 J ntmps55 J fun w0 M H=> ?_
 unfold Qg.sz at hz;refine wH 0 [0,21,22,23] J (by decide) J fun vc vf vl=>aq (am J (aa (aU (ad J (bS J (aD sH J (aR 0 IY J J J J (aP (aT underlying107 J (bh (k:=22) J)) (ad J (aa (aA (bJ (X:=Nat) (fun i=>i≤s.fixes.length) (fun i=> [(0,Pt e.g),(2,Sg ⟨#[]⟩),(13,sv vf),(14,I6 (s.fixes.length:Int)),(15,I6 (i:Int))]) (fun i=> [(0,bj e.g 111 (gR e.vp vc vf vl e.ms e.mo e.mp e.en)),(21,own 118 5 jw (sv vc) (p_ s.labs (s.fixes.take i) s.code)),(22,own 171 2 xT (sv vf) s.fixes),(23,own 3 1 eI (sv vl) s.labs)]) (fun i=> []) (fun i=>s.fixes.length-i) 0 (bn _) J J J (fun i n1=>aq (ar J J cy ?_))))))))))))))
 refine aa (be (ap J (fun h1=> ?_) (fun h1=> ?_)))
 ·(try simp only [bl]at h1);have hi:i<s.fixes.length:=by omega
  obtain⟨f,hf⟩:∃f,s.fixes[i]?=some f:=⟨_,bQ hi⟩
  have hfx:=hs.fx f (bV hf);have hfl:(p_ s.labs (s.fixes.take i) s.code).length=s.code.length:=(xw s.labs (s.fixes.take i) s.code hs.im).2;obtain⟨q,hq⟩:∃q,(p_ s.labs (s.fixes.take i) s.code)[f.1.toNat]?=some q:=⟨_,bQ (by rw [hfl];omega)⟩
  obtain⟨lb,hlb⟩:∃lb,s.labs[f.2.toNat]?=some lb:=⟨_,bQ (by omega)⟩
  have hgd:s.labs.getD f.2.toNat 0=lb:=by rw [List.getD_eq_getElem?_getD,hlb];rfl
  refine aC (be (aA (aq (aP (aO (j:=i) underlying107 Ad J J (bh (k:=22) J) (by first|rfl|omega) (by first|omega|(simp;done)|(simp;omega))) (aP (aM Ad J J J (bF (bh (k:=22) J) (by intro _;rfl) hf (by rfl))) (aZ Ad J J fun b4=>av (k:=4) Ad J J J J J J (aa ?_)))))));refine bX [19,20,21,22,23,24,25,26,27,28,29,30,31,32,33,34,35,36,37,38] _ J (bP (V:= [(0,19,_),(1,20,_),(2,21,_),(3,22,_),(4,23,_),(5,24,_),(6,25,_),(7,26,_),(8,27,_),(9,28,_),(10,29,_),(11,30,_),(12,31,_),(13,32,_),(14,33,_),(15,34,_),(16,35,_),(17,36,_),(18,37,_),(19,38,_)]) [0,1,2,3,4,5,6,7,8,9,10,11,12,13,14,15,16,17,18,19] 20 [20,19,18,17,16,15,14,13,12,11,10,9,8,7,6,5,4,3,2,1,0] [] (fun _=> []) J J (aF J J (ae J (au J) (ae J (ah nF J) (ae J (ag DJ J J (ax (k:=0) J J)) (ae J (ah C1 J) (ae J (ag t3 J J (ax (k:=4) J J)) (aF J J (ae J (au J) (ae J (ah qh J) (ae J (ag Fa J J (ax (k:=0) J J)) (ae J (ah Kw J) (ae J (ag t3 J J (ax (k:=4) J J)) (ae J (aO (j:=f.2.toNat) underlying22 t3 J J (bh (k:=23) J) (by omega) (by omega)) (ae J (ag t3 J J (bF (bh (k:=23) J) (by intro _;rfl) hlb (by rfl))) (ae J (ah C1 J) (ae J (ag t3 J J (ax (k:=4) J J)) (ae J (aQ J J (io J)) (ae J (cw underlying3 underlying41 J (Ml _)) (ae J (aO (j:=f.1.toNat) underlying106 fF J J (bh (k:=21) J) (by omega) (by rw [hfl];omega)) (ae J (fR ef J) aw)))))))))))))))))))) J J J J J J J J J (fun _ _=>J) J (pF (k:=21) (o:=4) (e':={q with imm:=wU (lb-f.1)}) eA J J J J J J (by intro _;rfl) hq (by show _+1≤_;decide) J) (fun _ _=>bA [] J J aw J J J ?_));refine ak (ar J J aK (ad J (aa ?_)));refine aG (i+1) ⟨by omega,by omega⟩ J (by rw [vM s.labs s.code hf,s_ _ _ _ q hq,hgd];rfl) J
 ·(try simp only [bl]at h1);have hi:i=s.fixes.length:=by omega
  subst hi;refine bL (be ?_);rw [cQ];obtain⟨C,hC⟩:∃C,C=p_ s.labs s.fixes s.code:=⟨_,J⟩
  rw [←hC];have hCo:=xw s.labs s.fixes s.code hs.im;rw [←hC]at hCo;have hCl:=hCo.2;refine ak (aZ IX J J fun b5=>aa (aU (ad J (bS J (aD nF J (aR 0 DJ J J J J (aP (aT underlying106 J (bh (k:=21) J)) (ad J (aa (aA (eo 31 (α:=Int) (S:=5) (s:=1) (enc:=cn) (bJ (X:=Nat×Option Addr×SV) (fun x=>x.1≤C.length∧(x.2.1=none∨x.2.1=some ⟨b5,0,none⟩)) (fun x=> [(0,Pt e.g),(2,Sg ⟨#[]⟩),(5,Pt b5),(43,sv vc),(44,I6 (C.length:Int)),(45,I6 (x.1:Int))]) (fun x=> [(0,bj e.g 111 (gR e.vp vc vf vl e.ms e.mo e.mp e.en)),(21,own 118 5 jw (sv vc) C),(5,bj b5 177 [.pointer x.2.1,sv x.2.2]),(31,own 5 1 cn (sv x.2.2) (eR (C.take x.1)))]) (fun x=> []) (fun x=>C.length-x.1) (0,none,bc) ⟨bn _,.inl J⟩ J J J (fun x hx0=>aq (ar J J cy (aa ?_)))))))))))))));refine be (ap J (fun h2=> ?_) (fun h2=> ?_))
  ·(try simp only [bl]at h2);have hi:x.1<C.length:=by omega
   obtain⟨q,hq⟩:∃q,C[x.1]?=some q:=⟨_,bQ hi⟩
   have hqi:=hCo.1 q (bV hq);have hcl:=gW (C.take x.1);have htl:=List.length_take (i:=x.1) (l:=C);have hps:(mM (fP (u4 q))).size=4:=by rw [iO];rfl
   refine aC (be (aA (aq (aP (aO (j:=x.1) underlying106 fF J J (bh (k:=21) J) (by first|rfl|omega) (by first|omega|(simp;done)|(simp;omega))) (aP (aM fF J J J (bF (bh (k:=21) J) (by intro _;rfl) hq (by rfl))) (aZ fF J J fun b7=>av (k:=7) fF J J J J J J (az J (aP (aM fF J J J (bp (k:=7) J)) (ai (xs:= [.tmp 50]) (zk q hqi) T9 [] [] [] (fun _ _=>ad J (aP (cC J J) (aP (cC J J) (am J (am J (aa ?_)))))))))))))));refine ak (ad J (ai (xs:= [.tmp 54,.const (I6 4)]) (qFS (u4 q) (N6 q)) RN [] [] [] (fun _ _=>ai (xs:= [.tmp 5,.tmp 55]) (Dy b5 x.2.1 hx0.2 x.2.2 (eR (C.take x.1)) (mM (fP (u4 q))) (by omega)) T8 [5,31] [] [5,31] (fun v56 _=>aa (ak (ar J J aK (ad J (aa ?_))))))));refine aG (x.1+1,some ⟨b5,0,none⟩,v56) ⟨⟨by dsimp only;omega,.inr rfl⟩,by dsimp only;omega⟩ J (by dsimp only;rw [Bt hq];rfl) J
  ·(try simp only [bl]at h2);have hi:x.1=C.length:=by omega
   rw [hi,cQ];refine bL (aq (ai (xs:= [.tmp 5]) (EH b5 x.2.1 x.2.2 (eR C) (by intro h;have:=gW C;rw [h]at this;simp at this;exact hne (List.length_eq_zero_iff.1 (by omega))) (uf C)) RM [5,31] [] [5] (fun _ _=>am J (aa (ay (aN () O J (ce (aL J)) (by rw [hC]) [] [] J J J))))))
def sR(pc:Int)(r:Int→Int)(st:Int):List Value:=I3 pc::((List.range 16).map (fun k=>Value.int .u32 (r ((k:Nat):Int)))++ [I3 0,I3 0,I3 0,I3 0,I3 0,I6 st,I6 0])
def rH(pc:Int)(r:Int→Int)(st:Int)(m:Nat):List Value:=sR pc r st++ [Pt m]
def sd:Int→Int:=fun _=>0
theorem Ec(n:Nat)(hn:n≤4096):
  Spec prog 74 [I6 (n:Int),.bool false] [] [] (X:=Me) (fun _=>True) (fun e=>Pt e.m) (fun e=> [bj e.m 157 (mR e),own 5 1 cn (sv e.vd) ((⟨List.replicate (256*n) 0,List.replicate (256*n) 0,List.replicate n 0⟩:Mm)).d,own 5 1 cn (sv e.vi) ((⟨List.replicate (256*n) 0,List.replicate (256*n) 0,List.replicate n 0⟩:Mm)).i,own 3 1 eI (sv e.vr) ((⟨List.replicate (256*n) 0,List.replicate (256*n) 0,List.replicate n 0⟩:Mm)).r]) (fun _=> []):=by
 refine aI func74 J ntmps74 J fun w0 M H=>aq (am J (az J (ad J (aP (Lc (c:=(n:Int)) J J (by omega)) (aP (yO (c:=(n:Int)) J J (by omega)) (am J (aa (bC (X:=Nat×SV×SV×SV) (fun _=>True) (fun x=> [(1,.bool false),(5,I6 (n:Int)),(6,Pt x.1)]) (fun x=> [(20,bj x.1 157 [sv x.2.1,.slice none 0 0,sv x.2.2.1,.slice none 0 0,sv x.2.2.2,.bool false]),(12,own 5 1 cn (sv x.2.1) (List.replicate (256*n) 0)),(17,own 3 1 eI (sv x.2.2.2) (List.replicate n 0))]) (fun x=> []) ?_ (fun x _=> ?_)))))))))
 ·refine bX [10,11,12,13,14,15,16,17,18,19,20,6] _ J (hQ (V:= [(0,10,_),(1,11,_),(3,13,_),(4,14,_),(6,16,_),(8,18,_)]) [0,1,3,4,6,8] J J (aF J J (ae J (aQ J J (fN (c:=((256*n:Nat):Int)) (by rw [bM (by omega)];omega))) (aF J J (ae J (aQ J J (fN (c:=((256*n:Nat):Int)) (by rw [bM (by omega)];omega))) (aF J J (aF J J aw)))))) J [2,5,7] J J (ea (fy 2 [2,1,0] [] (fun v12=> []) J J J J J J J J J (fun _ _=>J) J (eE cn 0 underlying84 t5 J J J J (c:=256*n) J J (by omega) (by simp only [maxLen];omega)) (fun v12 _=>hQ [3,4,6,8] J J (aF J J (ae J (aQ J J (fN (c:=((256*n:Nat):Int)) (by rw [bM (by omega)];omega))) (aF J J (aF J J aw)))) J [5,7] J J (ea (fy 5 [5,4,3,2,1,0] [] (fun v15=> []) J J J J J J J J J (fun _ _=>J) J (eE cn 0 underlying84 t5 J J J J (c:=256*n) J J (by omega) (by simp only [maxLen];omega)) (fun v15 _=>bi [6,8] 7 [7,6,5,4,3,2,1,0] [9] (fun v17=> [(9,19,_)]) J J (aF J J (aF J J aw)) J J J J J J J J J J J (fun _ _=>J) J (eE eI 0 underlying22 t3 J J J J (c:=n) J J (by omega) (by simp only [maxLen];omega)) (fun v17 _=>bi [9,8] 10 [10,9,8,7,6,5,4,3,2,1,0] [11] (fun b20=> [(11,6,_)]) J J (ae J (aX (parts:= [(0,.tmp 12),(2,.tmp 15),(4,.tmp 17),(5,.tmp 18)]) DH vw J J) (aF J J aw)) J J J J J J J J J J J (fun _ _=>J) J (qN J (by rfl)) (fun b20 _=>bA [11] J J (ae J (df J) aw) J J J ?_)))) (ea (fy 7 [7,6,2,1,0] [] (fun v17=> []) J J J J J J J J J (fun _ _=>J) J (eE eI 0 underlying22 t3 J J J J (c:=n) J J (by omega) (by simp only [maxLen];omega)) (fun v17 _=>bi [3,4,8] 5 [7,6,5,4,3,2,1,0] [9] (fun v15=> [(9,19,_)]) J J (aF J J (ae J (aQ J J (fN (c:=((256*n:Nat):Int)) (by rw [bM (by omega)];omega))) (aF J J aw))) J J J J J J J J J J J (fun _ _=>J) J (eE cn 0 underlying84 t5 J J J J (c:=256*n) J J (by omega) (by simp only [maxLen];omega)) (fun v15 _=>bi [9,8] 10 [10,9,8,7,6,5,4,3,2,1,0] [11] (fun b20=> [(11,6,_)]) J J (ae J (aX (parts:= [(0,.tmp 12),(2,.tmp 15),(4,.tmp 17),(5,.tmp 18)]) DH vw J J) (aF J J aw)) J J J J J J J J J J J (fun _ _=>J) J (qN J (by rfl)) (fun b20 _=>bA [11] J J (ae J (df J) aw) J J J ?_)))) ld)))) (ea (fy 5 [5,4,3] [] (fun v15=> []) J J J J J J J J J (fun _ _=>J) J (eE cn 0 underlying84 t5 J J J J (c:=256*n) J J (by omega) (by simp only [maxLen];omega)) (fun v15 _=>hQ [0,1,6,8] J J (aF J J (ae J (aQ J J (fN (c:=((256*n:Nat):Int)) (by rw [bM (by omega)];omega))) (aF J J (aF J J aw)))) J [2,7] J J (ea (fy 2 [5,4,3,2,1,0] [] (fun v12=> []) J J J J J J J J J (fun _ _=>J) J (eE cn 0 underlying84 t5 J J J J (c:=256*n) J J (by omega) (by simp only [maxLen];omega)) (fun v12 _=>bi [6,8] 7 [7,6,5,4,3,2,1,0] [9] (fun v17=> [(9,19,_)]) J J (aF J J (aF J J aw)) J J J J J J J J J J J (fun _ _=>J) J (eE eI 0 underlying22 t3 J J J J (c:=n) J J (by omega) (by simp only [maxLen];omega)) (fun v17 _=>bi [9,8] 10 [10,9,8,7,6,5,4,3,2,1,0] [11] (fun b20=> [(11,6,_)]) J J (ae J (aX (parts:= [(0,.tmp 12),(2,.tmp 15),(4,.tmp 17),(5,.tmp 18)]) DH vw J J) (aF J J aw)) J J J J J J J J J J J (fun _ _=>J) J (qN J (by rfl)) (fun b20 _=>bA [11] J J (ae J (df J) aw) J J J ?_)))) (ea (fy 7 [7,6,5,4,3] [] (fun v17=> []) J J J J J J J J J (fun _ _=>J) J (eE eI 0 underlying22 t3 J J J J (c:=n) J J (by omega) (by simp only [maxLen];omega)) (fun v17 _=>bi [0,1,8] 2 [7,6,5,4,3,2,1,0] [9] (fun v12=> [(9,19,_)]) J J (aF J J (ae J (aQ J J (fN (c:=((256*n:Nat):Int)) (by rw [bM (by omega)];omega))) (aF J J aw))) J J J J J J J J J J J (fun _ _=>J) J (eE cn 0 underlying84 t5 J J J J (c:=256*n) J J (by omega) (by simp only [maxLen];omega)) (fun v12 _=>bi [9,8] 10 [10,9,8,7,6,5,4,3,2,1,0] [11] (fun b20=> [(11,6,_)]) J J (ae J (aX (parts:= [(0,.tmp 12),(2,.tmp 15),(4,.tmp 17),(5,.tmp 18)]) DH vw J J) (aF J J aw)) J J J J J J J J J J J (fun _ _=>J) J (qN J (by rfl)) (fun b20 _=>bA [11] J J (ae J (df J) aw) J J J ?_)))) ld)))) (ea (fy 7 [7,6] [] (fun v17=> []) J J J J J J J J J (fun _ _=>J) J (eE eI 0 underlying22 t3 J J J J (c:=n) J J (by omega) (by simp only [maxLen];omega)) (fun v17 _=>hQ [0,1,3,4,8] J J (aF J J (ae J (aQ J J (fN (c:=((256*n:Nat):Int)) (by rw [bM (by omega)];omega))) (aF J J (ae J (aQ J J (fN (c:=((256*n:Nat):Int)) (by rw [bM (by omega)];omega))) (aF J J aw))))) J [2,5] J J (ea (fy 2 [7,6,2,1,0] [] (fun v12=> []) J J J J J J J J J (fun _ _=>J) J (eE cn 0 underlying84 t5 J J J J (c:=256*n) J J (by omega) (by simp only [maxLen];omega)) (fun v12 _=>bi [3,4,8] 5 [7,6,5,4,3,2,1,0] [9] (fun v15=> [(9,19,_)]) J J (aF J J (ae J (aQ J J (fN (c:=((256*n:Nat):Int)) (by rw [bM (by omega)];omega))) (aF J J aw))) J J J J J J J J J J J (fun _ _=>J) J (eE cn 0 underlying84 t5 J J J J (c:=256*n) J J (by omega) (by simp only [maxLen];omega)) (fun v15 _=>bi [9,8] 10 [10,9,8,7,6,5,4,3,2,1,0] [11] (fun b20=> [(11,6,_)]) J J (ae J (aX (parts:= [(0,.tmp 12),(2,.tmp 15),(4,.tmp 17),(5,.tmp 18)]) DH vw J J) (aF J J aw)) J J J J J J J J J J J (fun _ _=>J) J (qN J (by rfl)) (fun b20 _=>bA [11] J J (ae J (df J) aw) J J J ?_)))) (ea (fy 5 [7,6,5,4,3] [] (fun v15=> []) J J J J J J J J J (fun _ _=>J) J (eE cn 0 underlying84 t5 J J J J (c:=256*n) J J (by omega) (by simp only [maxLen];omega)) (fun v15 _=>bi [0,1,8] 2 [7,6,5,4,3,2,1,0] [9] (fun v12=> [(9,19,_)]) J J (aF J J (ae J (aQ J J (fN (c:=((256*n:Nat):Int)) (by rw [bM (by omega)];omega))) (aF J J aw))) J J J J J J J J J J J (fun _ _=>J) J (eE cn 0 underlying84 t5 J J J J (c:=256*n) J J (by omega) (by simp only [maxLen];omega)) (fun v12 _=>bi [9,8] 10 [10,9,8,7,6,5,4,3,2,1,0] [11] (fun b20=> [(11,6,_)]) J J (ae J (aX (parts:= [(0,.tmp 12),(2,.tmp 15),(4,.tmp 17),(5,.tmp 18)]) DH vw J J) (aF J J aw)) J J J J J J J J J J J (fun _ _=>J) J (qN J (by rfl)) (fun b20 _=>bA [11] J J (ae J (df J) aw) J J J ?_)))) ld)))) ld))))
  ·refine aG (b20,v12,v15,v17) O J J J
  ·refine aG (b20,v12,v15,v17) O J J J
  ·refine aG (b20,v12,v15,v17) O J J J
  ·refine aG (b20,v12,v15,v17) O J J J
  ·refine aG (b20,v12,v15,v17) O J J J
  ·refine aG (b20,v12,v15,v17) O J J J
 ·refine aU (ad J (aP (cZ J) (aa (ap J (fun h1=> ?_) (fun h1=> ?_)))))
  ·refine aq (ad J (ad J (ar J J (fN (c:=((256*n:Nat):Int)) (by rw [bM (by omega)];omega)) (wJ cn 0 underlying84 t5 J J J J (c:=256*n) J J (by omega) (by simp only [maxLen];omega) J fun v26=>bS J (aD sG J (aB (k:=20) Ab J J J J J J J J (aa (ak (ad J (ad J (ar J J (fN (c:=((256*n:Nat):Int)) (by rw [bM (by omega)];omega)) (wJ cn 0 underlying84 t5 J J J J (c:=256*n) J J (by omega) (by simp only [maxLen];omega) J fun v32=>bS J (aD Kx J (aB (k:=20) Ab J J J J J J J J (aa (be ?_))))))))))))))));refine ak (ad J (am J (aa (ay (aN ⟨x.1,x.2.1,v26,x.2.2.1,v32,x.2.2.2⟩ O J (ce (aL J)) J [20,12,26,17] [] J J J)))))
  ·exact absurd h1 (by simp)
theorem DZ(n:Nat)(hn:n≤4096):
  Spec prog 34 [I6 (n:Int)] [] [] (X:=Nat×Me) (fun _=>True) (fun x=>Pt x.1) (fun x=> [bj x.1 93 (rH 0 sd 0 x.2.m),bj x.2.m 157 (mR x.2),own 5 1 cn (sv x.2.vd) ((⟨List.replicate (256*n) 0,List.replicate (256*n) 0,List.replicate n 0⟩:Mm)).d,own 5 1 cn (sv x.2.vi) ((⟨List.replicate (256*n) 0,List.replicate (256*n) 0,List.replicate n 0⟩:Mm)).i,own 3 1 eI (sv x.2.vr) ((⟨List.replicate (256*n) 0,List.replicate (256*n) 0,List.replicate n 0⟩:Mm)).r]) (fun _=> []):=by
 refine aI func34 J ntmps34 J fun w0 M H=>aq (am J (az J (ad J (ai (xs:= [.tmp 3,.const (.bool Bool.false)]) (Ec n hn) Uf [] [] [10,11,12,13] (fun e _=>aP (aX (cs:=(rH 0 sd 0 e.m).toArray) (parts:= [(1,.tmp 4)]) Vg S2 J (by kernel_rfl)) (cM J J fun b6=>am J (aa (ay (aN (b6,e) O J (ce (aL J)) J [6,10,11,12,13] [] J J J)))))))))
theorem DV(c m:Nat):
  aW prog 77 [Pt c,.agg (sR 256 sd 0).toArray] [bj c 93 (rH 0 sd 0 m)] [] (.tuple #[]) [bj c 93 (rH 256 sd 0 m)]:=by
 refine aI func77 J ntmps77 J fun w0 M H=>aq (cM J J fun b3=>az J (aD iy J (aP (dT (j:=0) underlying75 eA J J (by rfl) (by decide)) (aB (k:=3) eA J J J J J J J J (az J (aD NY J (aB (k:=3) eA J J J J J J J J (az J (aD jD J (aR 3 t3 J J J J ?_))))))))))
 refine aP (yO J J J) (aD jD J (aB (k:=3) t3 J J J J J J J J (az J (aD xx J (aR 3 t3 J J J J (aP (yO J J J) (aD xx J (aB (k:=3) t3 J J J J J J J J (aa (ak (ad J (aP (aM zL J J J (bp (k:=3) J)) (bS J (aD eK J (aB (k:=0) zL J J J J J J J J (aa (cJ () O J iU J [0] [] J J J)))))))))))))))))
@[irreducible] def zer:List Int:=List.replicate 256 0
theorem sQ:zer=List.replicate 256 0:=by unfold zer;rfl
theorem BD:zer.length=256:=by rw [sQ];exact List.length_replicate ..
theorem EN:zer.take 256=zer:=List.take_of_length_le (by rw [BD];omega)
def xQ(p:Nat):Int:=if p≥32 then 3 else if p>0 then 5 else 0
def iW(s:Mm):Nat→Mm
 | 0=>s
 | p+1=>⟨pk (iW s p).d (256*p) zer,pk (iW s p).i (256*p) zer,(iW s p).r.set p (xQ p)⟩
def uU(s:Mm):Nat→Mm
 | 0=>s
 | p+1=>{uU s p with i:=pk (uU s p).i ((p+1)*256) (((uU s p).d.drop ((p+1)*256)).take 256)}
def OP(s:Mm)(code:List Int):Mm:=uU {iW s 64 with d:=pk (iW s 64).d 256 code} 31
theorem As(p:Nat):0≤xQ p∧xQ p<8∧bits .and .i64 (xQ p) 7=xQ p:=by
 unfold xQ;split
 ·decide
 ·split<;>decide
theorem MH{l:List Int}{k:Nat}{x:Int}(h:∀y∈l,0≤y∧y<8)(hx:0≤x∧x<8):∀y∈l.set k x,0≤y∧y<8:=fun y hy=>by
 rcases List.mem_or_eq_of_mem_set hy with hy|hy
 ·exact h y hy
 ·exact hy▸hx
theorem mS{s:Mm}{n:Nat}(h:MO s n):∀p,MO (iW s p) n
 | 0=>h
 | p+1=>by
  have ih:=mS h p;exact⟨(fQ _ _ _).trans ih.d,(fQ _ _ _).trans ih.i,(List.length_set ..).trans ih.r,ih.n,MH ih.rb ⟨(As p).1,(As p).2.1⟩⟩
theorem Cu(s:Mm):∀p,(uU s p).d=s.d
 | 0=>rfl
 | p+1=>Cu s p
theorem AQ{s:Mm}{n:Nat}(h:MO s n):∀p,MO (uU s p) n
 | 0=>h
 | p+1=>by
  have ih:=AQ h p;exact ih.ii (fQ _ _ _)
theorem RW:br (mM zer)=zer:=kI _ fun x hx=>by rw [sQ]at hx;rw [List.eq_of_mem_replicate hx];decide
theorem tn:(mM zer).size=256:=by rw [iO,BD]
theorem Aq(c:Nat)(e:Me)(s:Mm)(n:Nat)(hs:MO s n)(hn:64≤n)(code:Ba)(hc:code.size≤7936):
  aW prog 39 [Pt c,Sg code] [bj e.m 157 (mR e),own 5 1 cn (sv e.vd) (s).d,own 5 1 cn (sv e.vi) (s).i,own 3 1 eI (sv e.vr) (s).r,bj c 93 (rH 0 sd 0 e.m)] [] (.tuple #[]) [bj e.m 157 (mR e),own 5 1 cn (sv e.vd) (OP s (br code)).d,own 5 1 cn (sv e.vi) (OP s (br code)).i,own 3 1 eI (sv e.vr) (OP s (br code)).r,bj c 93 (rH 256 sd 0 e.m)]:=by
 refine aI func39 J ntmps39 J fun w0 M H=> ?_
 have hdl:=hs.d;have hnn:=hs.n;have hcl:=fY code;refine aq (wJ cn 0 underlying84 t5 J J J J (c:=256) J J (by omega) (by simp only [maxLen];omega) J fun v8=>aP (Cc underlying84 underlying5 underlying9 J (bh (k:=8) J) (by decide)) ?_);rw [←sQ];refine am J (aa (aU (am J (aa (aA (bJ (X:=Nat) (fun p=>p≤64) (fun p=> [(0,Pt c),(1,Sg code),(4,Sg (mM zer)),(5,I6 (p:Int))]) (fun p=> [(0,bj e.m 157 (mR e)),(1,own 5 1 cn (sv e.vd) (iW s p).d),(2,own 5 1 cn (sv e.vi) (iW s p).i),(3,own 3 1 eI (sv e.vr) (iW s p).r),(4,bj c 93 (rH 0 sd 0 e.m))]) (fun p=> []) (fun p=>64-p) 0 (bn _) J J J (fun p n1=>aU (ad J (ar J J cy (aa (ap J (fun h1=> ?_) (fun h1=> ?_))))))))))))
 ·(try simp only [bl]at h1);have hi:p<64:=by omega
  refine aC (be (aA (aq (ad J (bS J (aD gL J (aR 4 yf J J J J (ad J (ar J J (fN (c:=((256*p:Nat):Int)) (by rw [bM (by omega)];omega)) (aP (cw underlying3 underlying41 J (c:=((256*p:Nat):Int)) (cc (by omega))) (ad J (ai (xs:= [.tmp 17,.tmp 20,.tmp 21]) (td e (iW s p) n (mS hs p) (256*p) (mM zer) (by rw [tn];omega) (by rw [tn];omega)) QV [0,1,2,3] [] [0,1,2,3] (fun _ _=> ?_)))))))))))));rw [RW];refine az J (ad J (bS J (aD gL J (aR 4 yf J J J J (ad J (ad J (c_ (xs:= [.tmp 26,.tmp 27,.tmp 28]) (uL e {iW s p with d:=pk (iW s p).d (256*p) zer} n ((mS hs p).dd (fQ _ _ _)) p (by omega) (mM zer) (by rw [tn];omega)) Us [0,1,2,3] [] [0,1,2,3] J J J (fun _ _=> ?_))))))));rw [RW,EN];refine az J (am J (aa (bC (X:=Unit) (fun _=>True) (fun _=> [(0,Pt c),(1,Sg code),(4,Sg (mM zer)),(5,I6 (p:Int)),(6,I6 (if p>0 then 5 else 0))]) (fun _=> [(0,bj e.m 157 (mR e)),(1,own 5 1 cn (sv e.vd) ({iW s p with d:=pk (iW s p).d (256*p) zer,i:=pk (iW s p).i (256*p) zer}).d),(2,own 5 1 cn (sv e.vi) ({iW s p with d:=pk (iW s p).d (256*p) zer,i:=pk (iW s p).i (256*p) zer}).i),(3,own 3 1 eI (sv e.vr) ({iW s p with d:=pk (iW s p).d (256*p) zer,i:=pk (iW s p).i (256*p) zer}).r),(4,bj c 93 (rH 0 sd 0 e.m))]) (fun _=> []) ?_ (fun _ _=> ?_))))
  ·refine aq (ad J (ar J J fA (aa (ap J (fun h2=> ?_) (fun h2=> ?_)))))
   ·(try simp only [bl]at h2);refine ak (am J (aa ?_));refine aG () O (by rw [aj (show p>0 by omega)];rfl) J J
   ·(try simp only [bl]at h2);refine aC ?_;refine aG () O (by rw [ac (show ¬p>0 by omega)];rfl) J J
  ·refine bC (X:=Unit) (fun _=>True) (fun _=> [(0,Pt c),(1,Sg code),(4,Sg (mM zer)),(5,I6 (p:Int)),(6,I6 (xQ p))]) (fun _=> [(0,bj e.m 157 (mR e)),(1,own 5 1 cn (sv e.vd) ({iW s p with d:=pk (iW s p).d (256*p) zer,i:=pk (iW s p).i (256*p) zer}).d),(2,own 5 1 cn (sv e.vi) ({iW s p with d:=pk (iW s p).d (256*p) zer,i:=pk (iW s p).i (256*p) zer}).i),(3,own 3 1 eI (sv e.vr) ({iW s p with d:=pk (iW s p).d (256*p) zer,i:=pk (iW s p).i (256*p) zer}).r),(4,bj c 93 (rH 0 sd 0 e.m))]) (fun _=> []) ?_ (fun _ _=> ?_)
   ·refine aq (ad J (ar J J iz (aa (ap J (fun h3=> ?_) (fun h3=> ?_)))))
    ·(try simp only [bl]at h3);refine ak (am J (aa ?_));refine aG () O (by unfold xQ;rw [aj (show p≥32 by omega)];rfl) J J
    ·(try simp only [bl]at h3);refine aC ?_;refine aG () O (by unfold xQ;rw [ac (show ¬p≥32 by omega)];rfl) J J
   ·refine ak (ad J (bS J (aD gL J (aR 4 yf J J J J (ad J (ad J (c_ (xs:= [.tmp 37,.tmp 38,.tmp 39]) (uM e {iW s p with d:=pk (iW s p).d (256*p) zer,i:=pk (iW s p).i (256*p) zer} n (((mS hs p).dd (fQ _ _ _)).ii (fQ _ _ _)) p (by omega) (xQ p) (xQ p) (As p).2.2) Ur [0,1,2,3] [] [0,1,2,3] J J J (fun _ _=>aa (ak (ad J (ar J J aK (am J (aa ?_)))))))))))));refine aG (p+1) ⟨by omega,by omega⟩ J J J
 ·(try simp only [bl]at h1);have hi:p=64:=by omega
  subst hi;refine bL (aq (ad J (bS J (aD gL J (aR 4 yf J J J J (ad J (ai (xs:= [.tmp 44,.const (I3 256),.tmp 45]) (td e (iW s 64) n (mS hs 64) 256 code (by omega) (by omega)) QV [0,1,2,3] [] [0,1,2,3] (fun _ _=>aa (aU (am J (aa (aA (bJ (X:=Nat) (fun p=>p≤31) (fun p=> [(0,Pt c),(7,I6 ((p+1:Nat):Int))]) (fun p=> [(0,bj e.m 157 (mR e)),(1,own 5 1 cn (sv e.vd) (uU {iW s 64 with d:=pk (iW s 64).d 256 (br code)} p).d),(2,own 5 1 cn (sv e.vi) (uU {iW s 64 with d:=pk (iW s 64).d 256 (br code)} p).i),(3,own 3 1 eI (sv e.vr) (uU {iW s 64 with d:=pk (iW s 64).d 256 (br code)} p).r),(4,bj c 93 (rH 0 sd 0 e.m))]) (fun p=> []) (fun p=>31-p) 0 (bn _) J J J (fun p n2=>aU ?_))))))))))))));refine ad J (ar J J cy (aa (ap J (fun h4=> ?_) (fun h4=> ?_))))
  ·(try simp only [bl]at h4);have hi:p<31:=by omega
   refine aC (be (aA (ak (ad J (bS J (aD gL J (aR 4 yf J J J J (ad J (ar J J (fN (c:=(((p+1)*256:Nat):Int)) (by rw [bM (by omega)];omega)) (aP (cw underlying3 underlying41 J (c:=(((p+1)*256:Nat):Int)) (cc (by omega))) (c_ (xs:= [.tmp 54,.tmp 57]) (Ao e (uU {iW s 64 with d:=pk (iW s 64).d 256 (br code)} p) n (AQ ((mS hs 64).dd (fQ _ _ _)) p) (((p+1)*256:Nat):Int) (by rw [Cu];have h1:=fQ (br code) (iW s 64).d 256;have h2:=(mS hs 64).d;dsimp only;omega)) Ue [0,1,2,3] [] [0,1,2,3] J J J (fun _ _=> ?_))))))))))));rw [show((((p+1)*256:Nat):Int)).toNat/256*256=(p+1)*256 by omega];refine aa (ak (ad J (ar J J aK (am J (aa ?_)))));refine aG (p+1) ⟨by omega,by omega⟩ J J J
  ·(try simp only [bl]at h4);have hi:p=31:=by omega
   subst hi;refine bL (ak (ad J (aP (aX (cs:=(sR 256 sd 0).toArray) (parts:= [(0,.const (I3 256))]) zL S4 J (by kernel_rfl)) (ai (xs:= [.tmp 59,.tmp 60]) (DV c e.m) Ud [4] [] [4] (fun _ _=>aa (cJ () O J iU J [0,1,2,3,4] [] J J J))))))
structure Qs where
 pc:Nat
 r:Int→Int
 m:Int→Int
 inp:List Int
 out:List Int
def rp(r:Int→Int)(d v:Int):Int→Int:=fun k=>if k=d∧d≠0 then v else r k
def mw(m:Int→Int)(a v:Int):Int→Int:=fun k=>if k=a then v else m k
def vz(x:Int):Nat:=if 256≤x∧x%4=0 then((x-256)/4).toNat else 5000
def jL(p:Nat):Int:=256+4*(p:Int)
def Cl(a:Int):Prop:=8192≤a∧a<16384∧a%4=0
instance(a:Int):Decidable (Cl a):=by unfold Cl;exact inferInstance
def zG(op a b:Int):Option Int:=
 if op=1∨op=16 then some (wU (a+b))else if op=2 then some (wU (a-b))else if op=3∨op=17 then some (bits .and .u32 a b)else
 if op=4∨op=18 then some (bits .or .u32 a b)else if op=5∨op=19 then some (bits .xor .u32 a b)else
 if op=6∨op=20 then some (wU (a*2^(b%32).toNat))else if op=7 then some (a/2^(b%32).toNat)else
 if op=9 then some (wU (a*b))else if op=10 then(if b=0 then none else some (a/b))else if op=11 then some (tr (decide (a<b)))else none
def yg(i:Qi)(c:Qs):Option Qs:=
 match zG i.op (c.r i.a) (if i.op<16 then c.r i.b else i.imm)with
 | some v=>some {c with pc:=c.pc+1,r:=rp c.r i.d v}
 | none=>
  if i.op=23 then(if Cl (wU (c.r i.a+i.imm))then some {c with pc:=c.pc+1,r:=rp c.r i.d (c.m (wU (c.r i.a+i.imm)))}else none)else
  if i.op=25 then(if Cl (wU (c.r i.a+i.imm))then some {c with pc:=c.pc+1,m:=mw c.m (wU (c.r i.a+i.imm)) (c.r i.d)}else none)else
  if i.op=27 then some {c with pc:=vz (wU (c.r i.a+i.imm)),r:=rp c.r i.d (jL (c.pc+1))}else
  if i.op=32 then some {c with pc:=if c.r i.d=c.r i.a then vz (wU (jL c.pc+4*i.imm))else c.pc+1}else
  if i.op=35 then some {c with pc:=if c.r i.d≥c.r i.a then vz (wU (jL c.pc+4*i.imm))else c.pc+1}else
  if i.op=40 then some {c with pc:=vz (wU (jL c.pc+4*i.imm)),r:=rp c.r i.d (jL (c.pc+1))}else
  if i.op=41 then some {c with pc:=c.pc+1,r:=rp c.r i.d (wU (i.imm*1024))}else
  if i.op=48∧i.imm=1 then some {c with pc:=c.pc+1,out:=c.out++ [c.r 1]}else
  if i.op=48∧i.imm=2 then some {c with pc:=c.pc+1,r:=rp c.r 1 (c.inp.headD 0),inp:=c.inp.tail}else none
def rn(code:List Qi):Nat→Qs→Qs→Prop
 | 0,c,c'=>c=c'
 | n+1,c,c'=>∃i c1,code[c.pc]?=some i∧yg i c=some c1∧rn code n c1 c'
theorem rn.trans{code:List Qi}:∀{n m:Nat}{a b c:Qs},rn code n a b→rn code m b c→rn code (n+m) a c
 | 0,m,a,b,c,h,h2=>by
  have:a=b:=h;subst this;rw [Nat.zero_add];exact h2
 | n+1,m,a,b,c,h,h2=>by
  obtain⟨i,c1,g1,g2,g3⟩:=h;rw [Nat.succ_add];exact⟨i,c1,g1,g2,g3.trans h2⟩
def cAt(code:List Qi)(p:Nat)(l:List Qi):Prop:=∀j i,l[j]?=some i→code[p+j]?=some i
theorem cAt.app{code:List Qi}{p:Nat}{a b:List Qi}(h:cAt code p (a++b)):cAt code p a∧cAt code (p+a.length) b:=by
 refine⟨fun j i hj=>h j i ?_,fun j i hj=> ?_⟩
 ·rw [List.getElem?_append_left (by obtain⟨h,-⟩:=cU.1 hj;exact h)];exact hj
 ·have:=h (a.length+j) i (by rw [List.getElem?_append_right (by omega),show a.length+j-a.length=j by omega];exact hj);rw [Nat.add_assoc];exact this
theorem cAt.head{code:List Qi}{p:Nat}{i:Qi}{l:List Qi}(h:cAt code p (i::l)):code[p]?=some i∧cAt code (p+1) l:=
 ⟨h 0 i rfl,fun j x hj=>by
  have:=h (j+1) x hj;rw [show p+1+j=p+(j+1) by omega];exact this⟩
theorem cAt.of{a b l:List Qi}:cAt (a++l++b) a.length l:=fun j i hj=>by
 rw [List.append_assoc,List.getElem?_append_right (by omega),show a.length+j-a.length=j by omega,List.getElem?_append_left (by obtain⟨h,-⟩:=cU.1 hj;exact h)];exact hj
def Go(code:List Qi)(n:Int)(c:Qs)(P:Qs→Prop):Prop:=∃(k:Nat)(c':Qs),(k:Int)≤n∧rn code k c c'∧P c'
theorem Go.done{code:List Qi}{n:Int}{c:Qs}{P:Qs→Prop}(hn:0≤n)(h:P c):Go code n c P:=⟨0,c,hn,rfl,h⟩
theorem Go.seq{code:List Qi}{n m k:Int}{c:Qs}{P Q:Qs→Prop}(h:Go code n c P)(h2:∀c',P c'→Go code m c' Q)(hk:n+m≤k):Go code k c Q:=by
 obtain⟨a,c1,h3,h4,h5⟩:=h;obtain⟨b,c2,h6,h7,h8⟩:=h2 c1 h5;exact⟨a+b,c2,by omega,h4.trans h7,h8⟩
theorem Go.weak{code:List Qi}{n m:Int}{c:Qs}{P Q:Qs→Prop}(h:Go code n c P)(h2:∀c',P c'→Q c')(hk:n≤m):Go code m c Q:=by
 obtain⟨a,c1,h3,h4,h5⟩:=h;exact⟨a,c1,by omega,h4,h2 c1 h5⟩
theorem Go.step{code:List Qi}{n:Int}{c c1:Qs}{i:Qi}{P:Qs→Prop}(h:code[c.pc]?=some i)(h2:yg i c=some c1)(h3:Go code (n-1) c1 P):Go code n c P:=by
 obtain⟨k,c2,h4,h5,h6⟩:=h3;exact⟨k+1,c2,by omega,⟨i,c1,h,h2,h5⟩,h6⟩
/-! The instructions that the compiler uses. -/
section
variable{code:List Qi}{n:Int}{c:Qs}{P:Qs→Prop}{d a b x:Int}
theorem gZ{n:Int}(h:0≤n∧n<4294967296):wU n=n:=mc h.1 h.2
theorem GW{i:Qi}{v:Int}(h:code[c.pc]?=some i)(h2:zG i.op (c.r i.a) (if i.op<16 then c.r i.b else i.imm)=some v)(h3:Go code (n-1) {c with pc:=c.pc+1,r:=rp c.r i.d v} P):Go code n c P:=
 Go.step h (by unfold yg;rw [h2]) h3
theorem A0(h:code[c.pc]?=some (qi 23 d a x))(h2:Cl (wU (c.r a+x)))(h3:Go code (n-1) {c with pc:=c.pc+1,r:=rp c.r d (c.m (wU (c.r a+x)))} P):Go code n c P:=
 Go.step (i:=qi 23 d a x) (c1:={c with pc:=c.pc+1,r:=rp c.r d (c.m (wU (c.r a+x)))}) h (by
  have e:yg (qi 23 d a x) c=(if Cl (wU (c.r a+x))then some {c with pc:=c.pc+1,r:=rp c.r d (c.m (wU (c.r a+x)))}else none):=J;rw [e,aj h2]) h3
theorem AZ(h:code[c.pc]?=some (qi 25 d a x))(h2:Cl (wU (c.r a+x)))(h3:Go code (n-1) {c with pc:=c.pc+1,m:=mw c.m (wU (c.r a+x)) (c.r d)} P):Go code n c P:=
 Go.step (i:=qi 25 d a x) (c1:={c with pc:=c.pc+1,m:=mw c.m (wU (c.r a+x)) (c.r d)}) h (by
  have e:yg (qi 25 d a x) c=(if Cl (wU (c.r a+x))then some {c with pc:=c.pc+1,m:=mw c.m (wU (c.r a+x)) (c.r d)}else none):=J;rw [e,aj h2]) h3
theorem J2(h:code[c.pc]?=some (qi 27 d a x))(h3:Go code (n-1) {c with pc:=vz (wU (c.r a+x)),r:=rp c.r d (jL (c.pc+1))} P):Go code n c P:=
 Go.step h rfl h3
theorem xm(h:code[c.pc]?=some (qi 32 d a x))(h3:Go code (n-1) {c with pc:=if c.r d=c.r a then vz (wU (jL c.pc+4*x))else c.pc+1} P):Go code n c P:=
 Go.step h rfl h3
theorem J3(h:code[c.pc]?=some (qi 35 d a x))(h3:Go code (n-1) {c with pc:=if c.r d≥c.r a then vz (wU (jL c.pc+4*x))else c.pc+1} P):Go code n c P:=
 Go.step h rfl h3
theorem tF(h:code[c.pc]?=some (qi 40 d a x))(h3:Go code (n-1) {c with pc:=vz (wU (jL c.pc+4*x)),r:=rp c.r d (jL (c.pc+1))} P):Go code n c P:=
 Go.step h rfl h3
theorem NL(h:code[c.pc]?=some (qi 41 d a x))(h3:Go code (n-1) {c with pc:=c.pc+1,r:=rp c.r d (wU (x*1024))} P):Go code n c P:=
 Go.step h rfl h3
theorem NK(h:code[c.pc]?=some ⟨48,0,0,0,1⟩)(h3:Go code (n-1) {c with pc:=c.pc+1,out:=c.out++ [c.r 1]} P):Go code n c P:=
 Go.step h rfl h3
theorem Qp(h:code[c.pc]?=some ⟨48,0,0,0,2⟩)(h3:Go code (n-1) {c with pc:=c.pc+1,r:=rp c.r 1 (c.inp.headD 0),inp:=c.inp.tail} P):Go code n c P:=
 Go.step h rfl h3
end
theorem n9{p q:Nat}{x:Int}(hx:x=wU ((q:Int)-(p:Int)))(hq:q<10000)(hp:p<10000):vz (wU (jL p+4*x))=q:=by
 have e:wU (jL p+4*x)=256+4*(q:Int):=by
  rw [hx];unfold jL;have h1:∀n:Int,wU n=n%4294967296:=fun n=>J
  rw [h1,h1];omega
 unfold vz;rw [e,aj (by omega)];omega
theorem Jm{p:Nat}(hp:p<10000):vz (wU (jL p+0))=p:=by
 rw [Int.add_zero];unfold jL;rw [gZ (by omega)];unfold vz;rw [aj (by omega)];omega
def kL(op:Int):Int:=
 if op=1∨op=16 then 3 else if op=2 then 4 else if op=3∨op=17 then 5 else if op=4∨op=18 then 6 else if op=5∨op=19 then 7 else
 if op=6∨op=20 then 8 else if op=7∨op=21 then 9 else if op=8∨op=22 then 10 else if op=9 then 11 else if op=10 then 12 else if op=11 then 14 else if op=12 then 15 else 0
def UB(k a b:Int):Option Int:=
 if k=3 then some (wU (a+b))else if k=4 then some (wU (a-b))else if k=5 then some (bits .and .u32 a b)else if k=6 then some (bits .or .u32 a b)else if k=7 then some (bits .xor .u32 a b)else
 if k=8 then some (wU (a*2^(b%32).toNat))else if k=9 then some (a/2^(b%32).toNat)else if k=11 then some (wU (a*b))else if k=12 then(if b=0 then none else some (a/b))else if k=14 then some (tr (decide (a<b)))else none
theorem OD{op a b v:Int}(h:zG op a b=some v):UB (kL op) a b=some v:=by
 unfold zG at h;by_cases h1:op=1∨op=16
 ·rw [aj h1]at h;unfold kL;rw [aj h1];exact h
 rw [ac h1]at h;unfold kL;rw [ac h1];by_cases h2:op=2
 ·rw [aj h2]at h;rw [aj h2];exact h
 rw [ac h2]at h;rw [ac h2];by_cases h3:op=3∨op=17
 ·rw [aj h3]at h;rw [aj h3];exact h
 rw [ac h3]at h;rw [ac h3];by_cases h4:op=4∨op=18
 ·rw [aj h4]at h;rw [aj h4];exact h
 rw [ac h4]at h;rw [ac h4];by_cases h5:op=5∨op=19
 ·rw [aj h5]at h;rw [aj h5];exact h
 rw [ac h5]at h;rw [ac h5];by_cases h6:op=6∨op=20
 ·rw [aj h6]at h;rw [aj h6];exact h
 rw [ac h6]at h;rw [ac h6];by_cases h7:op=7
 ·rw [aj h7]at h;rw [aj (Or.inl h7)];exact h
 rw [ac h7]at h;by_cases h8:op=9
 ·rw [aj h8]at h;rw [ac (by omega),ac (by omega),aj h8];exact h
 rw [ac h8]at h;by_cases h9:op=10
 ·rw [aj h9]at h;rw [ac (by omega),ac (by omega),ac h8,aj h9];exact h
 rw [ac h9]at h;by_cases h10:op=11
 ·rw [aj h10]at h;rw [ac (by omega),ac (by omega),ac h8,ac h9,aj h10];exact h
 rw [ac h10]at h;cases h
theorem OC{op a b v:Int}(h:zG op a b=some v):(1≤op∧op≤7∨9≤op∧op≤11∨16≤op∧op≤20)∧(op=10→b≠0)∧kL op≠0:=by
 unfold zG at h;unfold kL;by_cases h1:op=1∨op=16
 ·rw [aj h1];exact⟨by omega,by omega,by decide⟩
 rw [ac h1]at h;rw [ac h1];by_cases h2:op=2
 ·rw [aj h2];exact⟨by omega,by omega,by decide⟩
 rw [ac h2]at h;rw [ac h2];by_cases h3:op=3∨op=17
 ·rw [aj h3];exact⟨by omega,by omega,by decide⟩
 rw [ac h3]at h;rw [ac h3];by_cases h4:op=4∨op=18
 ·rw [aj h4];exact⟨by omega,by omega,by decide⟩
 rw [ac h4]at h;rw [ac h4];by_cases h5:op=5∨op=19
 ·rw [aj h5];exact⟨by omega,by omega,by decide⟩
 rw [ac h5]at h;rw [ac h5];by_cases h6:op=6∨op=20
 ·rw [aj h6];exact⟨by omega,by omega,by decide⟩
 rw [ac h6]at h;rw [ac h6];by_cases h7:op=7
 ·rw [aj (Or.inl h7)];exact⟨by omega,by omega,by decide⟩
 rw [ac h7]at h;by_cases h8:op=9
 ·rw [ac (by omega),ac (by omega),aj h8];exact⟨by omega,by omega,by decide⟩
 rw [ac h8]at h;by_cases h9:op=10
 ·rw [aj h9]at h;rw [ac (by omega),ac (by omega),ac h8,aj h9];refine⟨by omega,fun _ hb=> ?_,by decide⟩;rw [aj hb]at h;cases h
 rw [ac h9]at h;by_cases h10:op=11
 ·rw [ac (by omega),ac (by omega),ac h8,ac h9,aj h10];exact⟨by omega,by omega,by decide⟩
 rw [ac h10]at h;cases h
theorem D1(t:Bool):
  aW prog 182 [.bool t] [] [] (I3 (tr t)) []:=by
 refine aI func182 J ntmps182 J fun w0 M H=>aq (am J (aa (aU (ad J (aa (ap J (fun h1=> ?_) (fun h1=> ?_)))))))
 ·obtain rfl:t=true:=h1;refine aq (am J (aa (ay (aN () O J (ce (aL J)) J [] [] J J J))))
 ·obtain rfl:t=false:=h1;refine aC (aq (am J (aa (ay (aN () O J (ce (aL J)) J [] [] J J J)))))
theorem FH(k a b v:Int)(ha:0≤a∧a<4294967296)(hb:0≤b∧b<4294967296)(hv:UB k a b=some v):
  aW prog 150 [I6 k,I3 a,I3 b] [] [] (I3 v) []:=by
 refine aI func150 J ntmps150 J fun w0 M H=>aq (am J (aa (aU (ad J (aa (aA (aq (ar J J bv (am J (aa (ap J (fun h1=> ?_) (fun h1=> ?_))))))))))))
 ·(try simp only [bl]at h1);obtain rfl:k=3:=h1;obtain rfl:wU (a+b)=v:=dY hv;refine aq (ad J (ad J (ar J J (co J) (am J (aa (ay (aN () O J (ce (aL J)) J [] [] J J J)))))))
 ·(try simp only [bl]at h1);refine aq (ar J J bv (am J (aa (ap J (fun h2=> ?_) (fun h2=> ?_)))))
  ·(try simp only [bl]at h2);obtain rfl:k=4:=h2;obtain rfl:wU (a-b)=v:=dY hv;refine aq (ad J (ad J (ar J J (io J) (am J (aa (ay (aN () O J (ce (aL J)) J [] [] J J J)))))))
  ·(try simp only [bl]at h2);refine aq (ar J J bv (am J (aa (ap J (fun h3=> ?_) (fun h3=> ?_)))))
   ·(try simp only [bl]at h3);obtain rfl:k=5:=h3;obtain rfl:bits .and .u32 a b=v:=dY hv;refine aq (ad J (ad J (ar J J (Dq J) (am J (aa (ay (aN () O J (ce (aL J)) J [] [] J J J)))))))
   ·(try simp only [bl]at h3);refine aq (ar J J bv (am J (aa (ap J (fun h4=> ?_) (fun h4=> ?_)))))
    ·(try simp only [bl]at h4);obtain rfl:k=6:=h4;obtain rfl:bits .or .u32 a b=v:=dY hv;refine aq (ad J (ad J (ar J J (Ij J) (am J (aa (ay (aN () O J (ce (aL J)) J [] [] J J J)))))))
    ·(try simp only [bl]at h4);refine aq (ar J J bv (am J (aa (ap J (fun h5=> ?_) (fun h5=> ?_)))))
     ·(try simp only [bl]at h5);obtain rfl:k=7:=h5;obtain rfl:bits .xor .u32 a b=v:=dY hv;refine aq (ad J (ad J (ar J J (RR J) (am J (aa (ay (aN () O J (ce (aL J)) J [] [] J J J)))))))
     ·(try simp only [bl]at h5);refine aq (ar J J bv (am J (aa (ap J (fun h6=> ?_) (fun h6=> ?_)))))
      ·(try simp only [bl]at h6);obtain rfl:k=8:=h6;obtain rfl:wU (a*2^(b%32).toNat)=v:=dY hv;refine aq (ad J (ad J (ar J J (k8 (by omega) (by first|exact sZ (by omega)|rfl)) (ar J J (jQ (by omega) (by show _≤(32:Int);omega) J) (am J (aa (ay (aN () O J (ce (aL J)) J [] [] J J J))))))))
      ·(try simp only [bl]at h6);refine aq (ar J J bv (am J (aa (ap J (fun h7=> ?_) (fun h7=> ?_)))))
       ·(try simp only [bl]at h7);obtain rfl:k=9:=h7;obtain rfl:a/2^(b%32).toNat=v:=dY hv;refine aq (ad J (ad J (ar J J (k8 (by omega) (by first|exact sZ (by omega)|rfl)) (ar J J (uq (by omega) (by show _≤(32:Int);omega) J) (am J (aa (ay (aN () O J (ce (aL J)) J [] [] J J J))))))))
       ·(try simp only [bl]at h7);refine aq (ar J J bv (am J (aa (ap J (fun h8=> ?_) (fun h8=> ?_)))))
        ·(have hk:k=10:=by simpa using h8);subst hk;cases hv
        ·(try simp only [bl]at h8);refine aq (ar J J bv (am J (aa (ap J (fun h9=> ?_) (fun h9=> ?_)))))
         ·(try simp only [bl]at h9);obtain rfl:k=11:=h9;obtain rfl:wU (a*b)=v:=dY hv;refine aq (ad J (ad J (ar J J (fN J) (am J (aa (ay (aN () O J (ce (aL J)) J [] [] J J J)))))))
         ·(try simp only [bl]at h9);refine aq (ar J J bv (am J (aa (ap J (fun h10=> ?_) (fun h10=> ?_)))))
          ·(try simp only [bl]at h10);obtain rfl:k=12:=h10;have hq:(if b=0 then none else some (a/b))=some v:=hv;refine aU (ad J (ar J J bv (aa (ap J (fun h11=> ?_) (fun h11=> ?_)))))
           ·(have hz:b=0:=by simpa using h11);rw [aj hz]at hq;cases hq
           ·(try simp only [bl]at h11);have hz:¬b=0:=by simpa using h11
            rw [ac hz]at hq;obtain rfl:a/b=v:=dY hq;refine aC (aq (ad J (ad J (ar J J (ml (by omega) (rm ha (by omega))) (am J (aa (ay (aN () O J (ce (aL J)) J [] [] J J J))))))))
          ·(try simp only [bl]at h10);refine aq (ar J J bv (am J (aa (ap J (fun h12=> ?_) (fun h12=> ?_)))))
           ·(have hk:k=13:=by simpa using h12);subst hk;cases hv
           ·(try simp only [bl]at h12);refine aq (ar J J bv (am J (aa (ap J (fun h13=> ?_) (fun h13=> ?_)))))
            ·(try simp only [bl]at h13);obtain rfl:k=14:=h13;obtain rfl:tr (decide (a<b))=v:=dY hv;refine aq (ad J (ad J (ar J J cy (ai (xs:= [.tmp 75]) (D1 (decide (a<b))) Ra [] [] [] (fun _ _=>am J (aa (ay (aN () O J (ce (aL J)) J [] [] J J J))))))))
            ·(try simp only [bl]at h13);refine aq (ar J J bv (am J (aa (ap J (fun h14=> ?_) (fun h14=> ?_)))))
             ·(have hk:k=15:=by simpa using h14);subst hk;cases hv
             ·(try simp only [bl]at h14);exfalso;unfold UB at hv;rw [ac (by omega),ac (by omega),ac (by omega),ac (by omega),ac (by omega),ac (by omega),ac (by omega),ac (by omega),ac (by omega),ac (by omega)]at hv;cases hv
end Go.Proofs.YtedmdgbmdplifaaGreat
