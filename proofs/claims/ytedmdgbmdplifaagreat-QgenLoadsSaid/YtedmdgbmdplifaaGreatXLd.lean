/-
  A part of the proof. Conditions are with the theorems.
-/
import Derived.Test.YtedmdgbmdplifaaGreatXLa
import Derived.Test.YtedmdgbmdplifaaGreatXLb
import Derived.Test.YtedmdgbmdplifaaGreatXLc
set_option maxHeartbeats 32000000
set_option maxRecDepth 100000
set_option linter.unusedSimpArgs false
set_option linter.unusedVariables false
namespace Go.Proofs.YtedmdgbmdplifaaGreat
open Go.RowKit Tryz
theorem DF{s:Ba}{i:Nat}(h:i<s.size):(aH s)[i]?=some ((aH s).getD i 0):=by
 have hl:=dc s;rw [List.getD_eq_getElem?_getD,bO (by omega)];rfl
theorem Hk{d:List Int}{k:Nat}{x:Int}(h:d.length≤k):d.set k x=d:=List.set_eq_of_length_le h
theorem MO.dd{s:Mm}{n:Nat}(h:MO s n){d:List Int}(hd:d.length=s.d.length):MO {s with d:=d} n:=⟨hd.trans h.d,h.i,h.r,h.n,h.rb⟩
theorem MO.ii{s:Mm}{n:Nat}(h:MO s n){d:List Int}(hd:d.length=s.i.length):MO {s with i:=d} n:=⟨h.d,hd.trans h.i,h.r,h.n,h.rb⟩
theorem lr(e:Me)(s:Mm)(n:Nat)(hs:MO s n)(a:Nat)(t:Ba)(ht:a+t.size<4294967296)(ht2:t.size≤1000000):
  aN prog 35 [Pt e.m,I3 (a:Int),Sg t] [aO e.m 157 (mR e),own 5 1 bJ (sv e.vd) (s).d,own 5 1 bJ (sv e.vi) (s).i,own 3 1 eI (sv e.vr) (s).r] [] (.tuple #[]) [aO e.m 157 (mR e),own 5 1 bJ (sv e.vd) ({s with d:=pk s.d a (aH t)}).d,own 5 1 bJ (sv e.vi) ({s with d:=pk s.d a (aH t)}).i,own 3 1 eI (sv e.vr) ({s with d:=pk s.d a (aH t)}).r]:=by
 refine ay func35 J ntmps35 J fun w0 M H=> ?_
 have hd:=hs.d;have hil:=hs.i;have hrl:=hs.r;have hnn:=hs.n;have hbl:=dc t;refine am (ao J (aa (aC (bC (X:=Nat) (fun i=>i≤t.size) (fun i=> [(0,Pt e.m),(1,I3 (a:Int)),(2,Sg t),(6,I6 (i:Int))]) (fun i=> [(0,aO e.m 157 (mR e)),(1,own 5 1 bJ (sv e.vd) (pk s.d a ((aH t).take i))),(2,own 5 1 bJ (sv e.vi) s.i),(3,own 3 1 eI (sv e.vr) s.r)]) (fun i=> []) (fun i=>t.size-i) 0 (bE _) J J J (fun i n1=>aR (ab J (ab J (aJ (ch underlying9 J) (ap J J cG (aa (ai J (fun h1=> ?_) (fun h1=> ?_))))))))))))
 ·(try simp only [aX]at h1);have hi:i<t.size:=by omega
  have hpl:=da ((aH t).take i) s.d a;have hxx:=DF hi;refine az (aT (aC (am (ab J (ab J (ab J (aJ (bK underlying3 underlying41 J (c:=(i:Int)) (bw (by omega))) (ap J J (bX (c:=((a+i:Nat):Int)) (by rw [bw (by omega)];omega)) (ct (xs:= [.tmp 14,.tmp 18]) (ml e {s with d:=pk s.d a ((aH t).take i)} n (hs.dd (da _ _ _)) ((a+i:Nat):Int) (by omega)) Dg [0,1,2,3] [] [0,1,2,3] J J J (fun _ _=>ao J (aw J (ab J (aa (ai J (fun h2=> ?_) (fun h2=> ?_)))))))))))))))
  ·(try simp only [aX]at h2);have hq:a+i<s.d.length:=by simp at h2;omega
   obtain⟨y,hy⟩:∃y,(pk s.d a ((aH t).take i))[a+i]?=some y:=⟨_,bO (by omega)⟩
   refine bV [21,22,23,24,25,26,27,28,29,30,31,32] _ J (bR (V:= [(0,21,_),(1,22,_),(2,23,_),(3,24,_),(4,25,_),(5,26,_),(6,27,_),(7,28,_),(8,29,_),(9,30,_),(10,31,_),(11,32,_)]) [0,1,2,3,4,5,6,7,8,9,10,11] 12 [12,11,10,9,8,7,6,5,4,3,2,1,0] [] (fun _=> []) J J (aK J J (ad J (av J) (ad J (ah kC J) (ad J (ag wl J J (aB (k:=0) J J)) (aK J J (aK J J (ad J (bK underlying3 underlying41 J (c:=(i:Int)) (bw (by omega))) (ad J (aS J J (bX (c:=((a+i:Nat):Int)) (by rw [bw (by omega)];omega))) (aK J J (aK J J (ad J (ec (j:=i) underlying9 J J J (by omega)) (ad J (aQ (j:=a+i) underlying84 t5 J J (bp (k:=1) J) J (by show _<(pk s.d a ((aH t).take i)).length;omega)) au)))))))))))) J J J J J J J J J (fun _ _=>J) J (gE (k:=1) (e':=((aH t).getD i 0)) t5 J J J (by intro _;rfl) hy J J) (fun _ _=>br [] J J au J J J ?_));refine aj (ab J (ap J J aY (ao J (aa ?_))));refine aI (i+1) ⟨by omega,by omega⟩ J (by rw [cm hxx,kq,List.length_take,Nat.min_eq_left (by omega)];rfl) J
  ·(try simp only [aX]at h2);have hq:¬a+i<s.d.length:=by simp at h2;omega
   refine az (aj (ab J (ap J J aY (ao J (aa ?_)))));refine aI (i+1) ⟨by omega,by omega⟩ J (by rw [cm hxx,kq,List.length_take,Nat.min_eq_left (by omega),Hk (by omega)];rfl) J
 ·(try simp only [aX]at h1);have hi:i=t.size:=by omega
  subst hi;refine bF (bP () O J fw J [0,1,2,3] [] J (by rw [List.take_of_length_le (Nat.le_of_eq hbl)];rfl) J)
theorem kX(e:Me)(s:Mm)(n:Nat)(hs:MO s n)(p:Nat)(hp:p<n)(t:Ba)(ht2:t.size≤1000000):
  aN prog 37 [Pt e.m,I6 (p:Int),Sg t] [aO e.m 157 (mR e),own 5 1 bJ (sv e.vd) (s).d,own 5 1 bJ (sv e.vi) (s).i,own 3 1 eI (sv e.vr) (s).r] [] (.tuple #[]) [aO e.m 157 (mR e),own 5 1 bJ (sv e.vd) ({s with i:=pk s.i (256*p) ((aH t).take 256)}).d,own 5 1 bJ (sv e.vi) ({s with i:=pk s.i (256*p) ((aH t).take 256)}).i,own 3 1 eI (sv e.vr) ({s with i:=pk s.i (256*p) ((aH t).take 256)}).r]:=by
 refine ay func37 J ntmps37 J fun w0 M H=> ?_
 have hd:=hs.d;have hil:=hs.i;have hrl:=hs.r;have hnn:=hs.n;have hbl:=dc t;refine aR (ab J (ap J J cG (ab J (aF [] J J O (fun hg1=>aV J) J (aF [(10,_)] J J ⟨J,O⟩ (fun hg2=>aV J) J (aF [(10,_),(11,_)] J J ⟨J,J,O⟩ (fun hg3=>av J) J (aF [(10,_),(11,_),(12,_)] J J ⟨J,J,J,O⟩ (fun hg4=>ah kB J) J (aF [(10,_),(11,_),(12,_),(13,_)] J J ⟨J,J,J,J,O⟩ (fun hg5=>ag Bc J J (aB (k:=0) J J)) J (aF [(10,_),(11,_),(12,_),(13,_),(14,_)] J J ⟨J,J,J,J,J,O⟩ (fun hg6=>aZ underlying22 J (bp (k:=3) J)) J (aF [(10,_),(11,_),(12,_),(13,_),(14,_),(15,_)] J J ⟨J,J,J,J,J,J,O⟩ (fun hg7=>aS J J fp) J (aJ (bD J J J) (ab J (aF [] J J O (fun hg8=>aV J) J (aF [(19,_)] J J ⟨J,O⟩ (fun hg9=>av J) J (aF [(19,_),(20,_)] J J ⟨J,J,O⟩ (fun hg10=>ah tw J) J (aF [(19,_),(20,_),(21,_)] J J ⟨J,J,J,O⟩ (fun hg11=>ag t4 J J (aB (k:=0) J J)) J (aJ (bD J J J) ?_)))))))))))))))));refine aa (ai J (fun h12=> ?_) (fun h12=> ?_))
 ·exact absurd h12 (by simp;omega)
 ·refine az (am (ao J (aa (aC (bC (X:=Nat) (fun i=>i≤t.size∧i≤256) (fun i=> [(0,Pt e.m),(1,I6 (p:Int)),(2,Sg t),(6,I6 (i:Int))]) (fun i=> [(0,aO e.m 157 (mR e)),(1,own 5 1 bJ (sv e.vd) s.d),(2,own 5 1 bJ (sv e.vi) (pk s.i (256*p) ((aH t).take i))),(3,own 3 1 eI (sv e.vr) s.r)]) (fun i=> []) (fun i=>t.size-i) 0 ⟨bE _,bE _⟩ J J J (fun i n1=>aR (ab J (ab J (aJ (ch underlying9 J) (ap J J cG (ab J (aF [] J J O (fun hg13=>aV J) J (aF [(29,_)] J J ⟨J,O⟩ (fun hg14=>aS J J cG) J (aJ (bD J J J) (aa (ai J (fun h15=> ?_) (fun h15=> ?_)))))))))))))))))
  ·(try simp only [aX]at h15);have hi:i<t.size∧i<256:=by omega
   have hpl:=da ((aH t).take i) s.i (256*p);have hxx:=DF hi.1;obtain⟨y,hy⟩:∃y,(pk s.i (256*p) ((aH t).take i))[256*p+i]?=some y:=⟨_,bO (by omega)⟩
   refine az (aT (aC ?_));refine bV [34,35,36,37,38,39,40,41,42,43,44,45] _ J (bR (V:= [(0,34,_),(1,35,_),(2,36,_),(3,37,_),(4,38,_),(5,39,_),(6,40,_),(7,41,_),(8,42,_),(9,43,_),(10,44,_),(11,45,_)]) [0,1,2,3,4,5,6,7,8,9,10,11] 12 [12,11,10,9,8,7,6,5,4,3,2,1,0] [] (fun _=> []) J J (aK J J (ad J (av J) (ad J (ah oz J) (ad J (ag wl J J (aB (k:=0) J J)) (aK J J (ad J (aS J J (ek (bs (by omega)))) (aK J J (ad J (aS J J (bX (c:=((256*p+i:Nat):Int)) (by rw [bs (by omega)];omega))) (aK J J (aK J J (ad J (ec (j:=i) underlying9 J J J (by omega)) (ad J (aQ (j:=256*p+i) underlying84 t5 J J (bp (k:=2) J) J (by omega)) au)))))))))))) J J J J J J J J J (fun _ _=>J) J (gE (k:=2) (e':=((aH t).getD i 0)) t5 J J J (by intro _;rfl) hy J J) (fun _ _=>br [] J J au J J J ?_));refine aj (ab J (ap J J aY (ao J (aa ?_))));refine aI (i+1) ⟨by omega,by omega⟩ J (by rw [cm hxx,kq,List.length_take,Nat.min_eq_left (by omega)];rfl) J
  ·(try simp only [aX]at h15);have hi:i=min t.size 256:=by omega
   have htk:(aH t).take i=(aH t).take 256:=by
    rw [hi];by_cases h:t.size≤256
    ·rw [Nat.min_eq_left h,List.take_of_length_le (by omega),List.take_of_length_le (by omega)]
    ·rw [Nat.min_eq_right (by omega)]
   refine bF (bP () O J fw J [0,1,2,3] [] J (by rw [htk];rfl) J)
theorem kY(e:Me)(s:Mm)(n:Nat)(hs:MO s n)(p:Nat)(hp:p<n)(z q:Int)(hq:bits .and .i64 z 7=q):
  aN prog 38 [Pt e.m,I6 (p:Int),I6 z] [aO e.m 157 (mR e),own 5 1 bJ (sv e.vd) (s).d,own 5 1 bJ (sv e.vi) (s).i,own 3 1 eI (sv e.vr) (s).r] [] (.tuple #[]) [aO e.m 157 (mR e),own 5 1 bJ (sv e.vd) ({s with r:=s.r.set p q}).d,own 5 1 bJ (sv e.vi) ({s with r:=s.r.set p q}).i,own 3 1 eI (sv e.vr) ({s with r:=s.r.set p q}).r]:=by
 refine ay func38 J ntmps38 J fun w0 M H=> ?_
 have hd:=hs.d;have hil:=hs.i;have hrl:=hs.r;have hnn:=hs.n;obtain⟨y,hy⟩:∃y,s.r[p]?=some y:=⟨_,bO (by omega)⟩
 refine am (ab J (ap J J fp (ab J (aF [] J J O (fun hg1=>aV J) J (aF [(9,_)] J J ⟨J,O⟩ (fun hg2=>aV J) J (aF [(9,_),(10,_)] J J ⟨J,J,O⟩ (fun hg3=>av J) J (aF [(9,_),(10,_),(11,_)] J J ⟨J,J,J,O⟩ (fun hg4=>ah kB J) J (aF [(9,_),(10,_),(11,_),(12,_)] J J ⟨J,J,J,J,O⟩ (fun hg5=>ag Bc J J (aB (k:=0) J J)) J (aF [(9,_),(10,_),(11,_),(12,_),(13,_)] J J ⟨J,J,J,J,J,O⟩ (fun hg6=>aZ underlying22 J (bp (k:=3) J)) J (aF [(9,_),(10,_),(11,_),(12,_),(13,_),(14,_)] J J ⟨J,J,J,J,J,J,O⟩ (fun hg7=>aS J J cG) J (aJ (bD J J J) (aa (ai J (fun h8=> ?_) (fun h8=> ?_))))))))))))))
 ·refine aj (ab J (bq J (aA kB J (aL 0 Bc J J J J (ab J (ab J (ap J J (vJ hq) (aJ (aQ (j:=p) underlying22 t3 J J (bp (k:=3) J) J (by omega)) (lx (k:=3) (e':=q) t3 J J J (by intro _;rfl) hy J J (aa (bP () O J fw J [0,1,2,3] [] J J J)))))))))))
 ·exact absurd h8 (by simp;omega)
theorem wy(e:Me)(s:Mm)(n:Nat)(hs:MO s n)(a:Int)(ha:0≤a∧a<s.d.length):
  aN prog 76 [Pt e.m,I3 a] [aO e.m 157 (mR e),own 5 1 bJ (sv e.vd) (s).d,own 5 1 bJ (sv e.vi) (s).i,own 3 1 eI (sv e.vr) (s).r] [] (.bool true) [aO e.m 157 (mR e),own 5 1 bJ (sv e.vd) ({s with i:=pk s.i (a.toNat/256*256) ((s.d.drop (a.toNat/256*256)).take 256)}).d,own 5 1 bJ (sv e.vi) ({s with i:=pk s.i (a.toNat/256*256) ((s.d.drop (a.toNat/256*256)).take 256)}).i,own 3 1 eI (sv e.vr) ({s with i:=pk s.i (a.toNat/256*256) ((s.d.drop (a.toNat/256*256)).take 256)}).r]:=by
 refine ay func76 J ntmps76 J fun w0 M H=> ?_
 have hd:=hs.d;have hil:=hs.i;have hrl:=hs.r;have hnn:=hs.n;have hpp:a.toNat/256<n:=by omega
 refine am (ao J (aw J (ab J (ab J (ae (xs:= [.tmp 8,.tmp 9]) (ml e s n hs a (by omega)) Dg [0,1,2,3] [] [0,1,2,3] (fun _ _=> ?_))))));rw [decide_eq_true ha.2];refine ao J (aa (aR (ab J (ab J (aF [] J J O (fun hg1=>aV J) J (aF [(13,_)] J J ⟨J,O⟩ (fun hg2=>av J) J (aF [(13,_),(14,_)] J J ⟨J,J,O⟩ (fun hg3=>ah tw J) J (aF [(13,_),(14,_),(15,_)] J J ⟨J,J,J,O⟩ (fun hg4=>ag t4 J J (aB (k:=0) J J)) J (aF [(13,_),(14,_),(15,_),(16,_)] J J ⟨J,J,J,J,O⟩ (fun hg5=>cZ J) J (aJ (bD J J J) (aa (ai J (fun h6=> ?_) (fun h6=> ?_)))))))))))))
 ·refine am (ab J (aJ (bK underlying41 underlying3 J (c:=a) (bs (by omega))) (ap J J (iG (by decide) (c:=((a.toNat/256:Nat):Int)) (by rw [Int.tdiv_eq_ediv_of_nonneg ha.1,bs (by omega)];omega)) (ap J J (ek (c:=((a.toNat/256*256:Nat):Int)) (by rw [bs (by omega)];omega)) (ao J (aw J (ab J (ao J (aa (aC ?_))))))))));refine bC (X:=Nat) (fun k=>k≤256) (fun k=> [(0,Pt e.m),(5,.bool true),(6,I6 ((a.toNat/256*256:Nat):Int)),(7,I6 (((a.toNat/256*256:Nat):Int)+(k:Int)))]) (fun k=> [(0,aO e.m 157 (mR e)),(1,own 5 1 bJ (sv e.vd) s.d),(2,own 5 1 bJ (sv e.vi) (pk s.i (a.toNat/256*256) ((s.d.drop (a.toNat/256*256)).take k))),(3,own 3 1 eI (sv e.vr) s.r)]) (fun k=> []) (fun k=>256-k) 0 (bE _) (by rw [show((a.toNat/256*256:Nat):Int)+((0:Nat):Int)=((a.toNat/256*256:Nat):Int) by omega];rfl) J J (fun k n1=> ?_);refine aR (ab J (ab J (ap J J aY (ap J J cG (aa (ai J (fun h7=> ?_) (fun h7=> ?_)))))))
  ·(try simp only [aX]at h7);have hi:k<256:=by omega
   have hpl:=da ((s.d.drop (a.toNat/256*256)).take k) s.i (a.toNat/256*256);obtain⟨x,hxx⟩:∃x,s.d[a.toNat/256*256+k]?=some x:=⟨_,bO (by omega)⟩
   have hxd:(s.d.drop (a.toNat/256*256))[k]?=some x:=by rw [List.getElem?_drop];exact hxx
   obtain⟨y,hy⟩:∃y,(pk s.i (a.toNat/256*256) ((s.d.drop (a.toNat/256*256)).take k))[a.toNat/256*256+k]?=some y:=⟨_,bO (by omega)⟩
   refine az (aT (aC ?_));refine bV [30,31,32,33,34,35,36,37,38,39,40,41,42] _ J (bR (V:= [(0,30,_),(1,31,_),(2,32,_),(3,33,_),(4,34,_),(5,35,_),(6,36,_),(7,37,_),(8,38,_),(9,39,_),(10,40,_),(11,41,_),(12,42,_)]) [0,1,2,3,4,5,6,7,8,9,10,11,12] 13 [13,12,11,10,9,8,7,6,5,4,3,2,1,0] [] (fun _=> []) J J (aK J J (ad J (av J) (ad J (ah oz J) (ad J (ag wl J J (aB (k:=0) J J)) (aK J J (aK J J (ad J (av J) (ad J (ah kC J) (ad J (ag wl J J (aB (k:=0) J J)) (aK J J (ad J (aQ (j:=a.toNat/256*256+k) underlying84 t5 J J (bp (k:=1) J) (by omega) (by omega)) (ad J (ag t5 J J (ci (bp (k:=1) J) (by intro _;rfl) hxx (by rfl))) (ad J (aQ (j:=a.toNat/256*256+k) underlying84 t5 J J (bp (k:=2) J) (by omega) (by omega)) au))))))))))))) J J J J J J J J J (fun _ _=>J) J (gE (k:=2) (e':=x) t5 J J J (by intro _;rfl) hy J J) (fun _ _=>br [] J J au J J J ?_));refine aj (ab J (ap J J (bX (c:=((a.toNat/256*256:Nat):Int)+((k+1:Nat):Int)) (by rw [bs (by omega)];omega)) (ao J (aa ?_))));refine aI (k+1) ⟨by omega,by omega⟩ J (by rw [cm hxd,kq,List.length_take,Nat.min_eq_left (by rw [List.length_drop];omega)];rfl) J
  ·(try simp only [aX]at h7);have hi:k=256:=by omega
   subst hi;refine bF (am (ab J (ao J (aa (ar (aG () O J (bU (aD J)) J [0,1,2,3] [] J J J))))))
 ·exact absurd h6 (by simp)
theorem cD{c:Prop} [Decidable c]{a b:Qg}{n:Nat}(h1:a.sz≤n)(h2:b.sz≤n):(if c then a else b).sz≤n:=by
 by_cases h:c
 ·rw [ak h];exact h1
 ·rw [ac h];exact h2
theorem Ik(o:Ba)(s:Qg):(nP o s).sz≤s.sz+9:=by
 unfold nP;refine cD ?_ (cD ?_ (cD ?_ (cD ?_ (cD ?_ (cD ?_ (cD ?_ (cD ?_ (cD ?_ (cD ?_ (cD ?_ (cD ?_ (cD ?_ (cD ?_ (cD ?_ (cD ?_ ?_)))))))))))))));all_goals
  (try simp only [bl,bZ,bA,bz,dP,ca,cj])
  omega
theorem Ij(o:Ba)(s:Qg):(CE o s).sz≤s.sz+2:=by
 unfold CE;refine cD ?_ (cD ?_ (cD ?_ ?_));all_goals
  (try simp only [bl,dP,ca,cj])
  omega
theorem E9(n:Int)(s:Qg):(pZ n s).sz≤s.sz+2:=by
 unfold pZ;refine cD ?_ ?_;all_goals
  (try simp only [bl,dP,ca,cj])
  omega
mutual
theorem ld(o st:Om):∀(t:Tx)(s:Qg),(gX o st t s).sz+2≤s.sz+22*nX t
 | .mk k n nm _ kids,s=>by
  have h0:=xk o st kids;have h1:=fun s=>yL o st kids s
  have hs:=tp o st kids;have hu:=Ij nm (ky o st kids s);have hn:=E9 n s;have ho:=Ik nm ((Jk o st kids ((ky o st kids s).push 1)).pop 2);have i0:=h0 s;have i1:=h1 s;have is:=hs s;rw [dj]at ho;unfold gX nX
  suffices h:∀x:Qg,x.sz≤s.sz+22*fO kids+20→x.sz+2≤s.sz+22*(fO kids+1)from h _ (by
   refine cD (by omega) (cD ?_ (cD ?_ (cD ?_ (cD (by omega) (cD (by omega) (cD ?_ (by omega)))))))
   ·simp only [bl,dP];omega
   ·simp only [bl,dP];omega
   ·simp only [bl,cV,dP];omega
   ·dsimp only;refine cD ?_ ?_
    ·simp only [bl,bA,dP];omega
    ·simp only [bA];omega)
  intro x hx;omega
theorem xk(o st:Om):∀(l:List Tx)(s:Qg),(ky o st l s).sz≤s.sz+22*fO l
 | [],s=>Nat.le_add_right _ _
 | t::r,s=>by
  have:=ld o st t s;unfold ky fO;omega
theorem yL(o st:Om):∀(l:List Tx)(s:Qg),(Jk o st l ((ky o st l s).push 1)).sz≤s.sz+22*fO l+2
 | [],s=>by
  show(s.push 1).sz≤_;rw [cr];omega
 | t::r,s=>by
  have h1:=ld o st t s;have h2:=xk o st r ((gX o st t s).push 1);rw [cr]at h2;show(ky o st r ((gX o st t s).push 1)).sz≤_;unfold fO;omega
theorem tp(o st:Om):∀(l:List Tx)(s:Qg),(rM o st l s).sz≤s.sz+22*fO l
 | [],s=>Nat.le_add_right _ _
 | t::r,s=>by
  have h1:=ld o st t s;have h2:=tp o st r ((gX o st t s).push 1);rw [cr]at h2;unfold rM fO;omega
end
theorem Spec.roW{P:Program}{n:Nat}{vs:List Value}{X:Type}{L R:List Asn}{φ:X→Prop}{v:X→Value}{L1:X→List Asn}{B:Asn}(h:∀A∈R,∀w G,B.pred w G→(∀b,G b→b<w.heap.size)→∃G':Nat→Prop,A.pred w G'∧∀b,G' b→G b)
  (hs:Spec P n vs L R φ v L1 (fun _=> [])):Spec P n vs L [B] φ v L1 (fun _=> []):=by
 intro w M H hl;refine hs w M H ?_;obtain⟨F,hF⟩:=hl;refine⟨F,hF.touch,hF.has,hF.lt,hF.mine,hF.apart,fun k A hk=> ?_⟩;obtain⟨G,g1,g2⟩:=hF.ro 0 B J;obtain⟨G',a1,a2⟩:=h A (cO hk) w G g1 fun b hb=>(g2 b hb).1
 exact⟨G',a1,fun b hb=>g2 b (a2 b hb)⟩
def Mg(e:Ga)(c:Oq)(o:Ba)(s:Qg):Prop:=
 ∃n l,(Od c).find? (fun x=>decide (Prod.fst x=o))=some (o,cf n l)∧Cb prog n∧aN prog n (l.map fun b=>Value.pointer (some ⟨b,0,none⟩)) [gA e s] [g9 e.g c] (.tuple #[]) [gA e (nP o s)]
theorem eq{g:Nat}{c:Oq}{R:List Asn}(h:∀A∈R,∃i:Nat,(J6 g c)[i]?=some A):∀A∈R,∀w G,(g9 g c).pred w G→(∀b,G b→b<w.heap.size)→∃G':Nat→Prop,A.pred w G'∧∀b,G' b→G b:=fun A hA w G h1 h2=>by
 obtain⟨i,hi⟩:=h A hA;exact BQ i hi w G h1 h2
theorem HE(e:Ga)(c:Oq)(o:Ba)(s:Qg)(hz:s.sz≤890000)(h:ja o=true):Mg e c o s:=by
 by_cases h0:o=fh
 ·subst h0;refine⟨85,[c.bg,c.b0],J,qY,?_⟩;rw [show nP fh s=s.emit [q3 1 1 2 1]from J];exact Spec.roW (eq (fun A hA=>by
    simp only [List.mem_cons,List.not_mem_nil,or_false]at hA;rcases hA with rfl|rfl
    ·exact⟨1,J⟩
    ·exact⟨2,J⟩
   )) (fH e s (by omega) c.bg c.b0 1)
 by_cases h1:o=ep
 ·subst h1;refine⟨85,[c.bg,c.b1],J,qY,?_⟩;rw [show nP ep s=s.emit [q3 2 1 2 1]from J];exact Spec.roW (eq (fun A hA=>by
    simp only [List.mem_cons,List.not_mem_nil,or_false]at hA;rcases hA with rfl|rfl
    ·exact⟨1,J⟩
    ·exact⟨3,J⟩
   )) (fH e s (by omega) c.bg c.b1 2)
 by_cases h2:o=fN
 ·subst h2;refine⟨85,[c.bg,c.b2],J,qY,?_⟩;rw [show nP fN s=s.emit [q3 9 1 2 1]from J];exact Spec.roW (eq (fun A hA=>by
    simp only [List.mem_cons,List.not_mem_nil,or_false]at hA;rcases hA with rfl|rfl
    ·exact⟨1,J⟩
    ·exact⟨4,J⟩
   )) (fH e s (by omega) c.bg c.b2 9)
 by_cases h3:o=eB
 ·subst h3;refine⟨85,[c.bg,c.b3],J,qY,?_⟩;rw [show nP eB s=s.emit [q3 3 1 2 1]from J];exact Spec.roW (eq (fun A hA=>by
    simp only [List.mem_cons,List.not_mem_nil,or_false]at hA;rcases hA with rfl|rfl
    ·exact⟨1,J⟩
    ·exact⟨5,J⟩
   )) (fH e s (by omega) c.bg c.b3 3)
 by_cases h4:o=iW
 ·subst h4;refine⟨85,[c.bg,c.b4],J,qY,?_⟩;rw [show nP iW s=s.emit [q3 4 1 2 1]from J];exact Spec.roW (eq (fun A hA=>by
    simp only [List.mem_cons,List.not_mem_nil,or_false]at hA;rcases hA with rfl|rfl
    ·exact⟨1,J⟩
    ·exact⟨6,J⟩
   )) (fH e s (by omega) c.bg c.b4 4)
 by_cases h5:o=eD
 ·subst h5;refine⟨85,[c.bg,c.b5],J,qY,?_⟩;rw [show nP eD s=s.emit [q3 5 1 2 1]from J];exact Spec.roW (eq (fun A hA=>by
    simp only [List.mem_cons,List.not_mem_nil,or_false]at hA;rcases hA with rfl|rfl
    ·exact⟨1,J⟩
    ·exact⟨7,J⟩
   )) (fH e s (by omega) c.bg c.b5 5)
 by_cases h6:o=fM
 ·subst h6;refine⟨85,[c.bg,c.b6],J,qY,?_⟩;rw [show nP fM s=s.emit [q3 6 1 2 1]from J];exact Spec.roW (eq (fun A hA=>by
    simp only [List.mem_cons,List.not_mem_nil,or_false]at hA;rcases hA with rfl|rfl
    ·exact⟨1,J⟩
    ·exact⟨8,J⟩
   )) (fH e s (by omega) c.bg c.b6 6)
 by_cases h7:o=fY
 ·subst h7;refine⟨85,[c.bg,c.b7],J,qY,?_⟩;rw [show nP fY s=s.emit [q3 7 1 2 1]from J];exact Spec.roW (eq (fun A hA=>by
    simp only [List.mem_cons,List.not_mem_nil,or_false]at hA;rcases hA with rfl|rfl
    ·exact⟨1,J⟩
    ·exact⟨9,J⟩
   )) (fH e s (by omega) c.bg c.b7 7)
 by_cases h8:o=kP
 ·subst h8;refine⟨85,[c.bg,c.b8],J,qY,?_⟩;rw [show nP kP s=s.emit [q3 11 1 2 1]from J];exact Spec.roW (eq (fun A hA=>by
    simp only [List.mem_cons,List.not_mem_nil,or_false]at hA;rcases hA with rfl|rfl
    ·exact⟨1,J⟩
    ·exact⟨10,J⟩
   )) (fH e s (by omega) c.bg c.b8 11)
 by_cases h9:o=lP
 ·subst h9;refine⟨87,[c.bg],J,KX,?_⟩;rw [show nP lP s=s.emit [q3 11 1 1 2]from J];exact Spec.roW (eq (fun A hA=>by
    simp only [List.mem_cons,List.not_mem_nil,or_false]at hA;rcases hA with rfl
    ·exact⟨1,J⟩
   )) (vG e s (by omega) c.bg)
 by_cases h10:o=lO
 ·subst h10;refine⟨89,[c.f0,c.bg],J,IG,?_⟩;rw [show nP lO s=(s.emit [q3 11 1 1 2]).emit [qi 19 1 1 1]from J];exact Spec.roW (eq (fun A hA=>by
    simp only [List.mem_cons,List.not_mem_nil,or_false]at hA;rcases hA with rfl|rfl
    ·exact⟨12,J⟩
    ·exact⟨1,J⟩
   )) (sa e s (by omega) c.bg c.f0 87 (s.emit [q3 11 1 1 2]) (by rw [bl];simp;omega) KX (vG e s (by omega) c.bg))
 by_cases h11:o=mZ
 ·subst h11;refine⟨89,[c.f1,c.bg],J,IG,?_⟩;rw [show nP mZ s=(s.emit [q3 11 1 2 1]).emit [qi 19 1 1 1]from J];exact Spec.roW (eq (fun A hA=>by
    simp only [List.mem_cons,List.not_mem_nil,or_false]at hA;rcases hA with rfl|rfl|rfl
    ·exact⟨13,J⟩
    ·exact⟨1,J⟩
    ·exact⟨11,J⟩
   )) (AJ e s (by omega) c.bg c.b9 c.f1 85 (s.emit [q3 11 1 2 1]) (by rw [bl];simp;omega) qY (fH e s (by omega) c.bg c.b9 11))
 by_cases h12:o=lN
 ·subst h12;refine⟨90,[c.bg],J,KW,?_⟩;rw [show nP lN s=(s.emit [q3 5 1 2 1]).emit [q3 11 1 0 1]from J];exact Spec.roW (eq (fun A hA=>by
    simp only [List.mem_cons,List.not_mem_nil,or_false]at hA;rcases hA with rfl
    ·exact⟨1,J⟩
   )) (vF e s (by omega) c.bg)
 by_cases h13:o=lQ
 ·subst h13;refine⟨89,[c.f2,c.bg],J,IG,?_⟩;rw [show nP lQ s=((s.emit [q3 5 1 2 1]).emit [q3 11 1 0 1]).emit [qi 19 1 1 1]from J];exact Spec.roW (eq (fun A hA=>by
    simp only [List.mem_cons,List.not_mem_nil,or_false]at hA;rcases hA with rfl|rfl
    ·exact⟨14,J⟩
    ·exact⟨1,J⟩
   )) (sa e s (by omega) c.bg c.f2 90 ((s.emit [q3 5 1 2 1]).emit [q3 11 1 0 1]) (by rw [bl,bl];simp;omega) KW (vF e s (by omega) c.bg))
 by_cases h14:o=jI
 ·subst h14;refine⟨91,[c.bg],J,Ny,?_⟩;rw [show nP jI s=((s.lab.jump 32 1 0 s.labs.length).emit [q3 10 1 2 1]).place s.labs.length from J];exact Spec.roW (eq (fun A hA=>by
    simp only [List.mem_cons,List.not_mem_nil,or_false]at hA;rcases hA with rfl
    ·exact⟨1,J⟩
   )) (Dv e s (by omega) c.bg)
 by_cases h15:o=kO
 ·subst h15;refine⟨93,[c.bg],J,Nw,?_⟩;rw [show nP kO s=((((((s.lab.emit [q3 1 3 1 0]).jump 32 1 0 s.labs.length).emit [q3 10 3 2 1]).emit [q3 9 3 3 1]).place s.labs.length)).emit [q3 2 1 2 3]from J];exact Spec.roW (eq (fun A hA=>by
    simp only [List.mem_cons,List.not_mem_nil,or_false]at hA;rcases hA with rfl
    ·exact⟨1,J⟩
   )) (Du e s (by omega) c.bg)
 exfalso;unfold ja at h;rw [Option.isSome_iff_exists]at h;obtain⟨x,hx⟩:=h;have hm:=List.mem_of_find?_eq_some hx;have he:=List.find?_some hx;simp only [decide_eq_true_eq]at he;simp only [lvL,List.mem_cons,List.not_mem_nil,or_false]at hm;rcases hm with rfl|rfl|rfl|rfl|rfl|rfl|rfl|rfl|rfl|rfl|rfl|rfl|rfl|rfl|rfl|rfl
 ·exact h15 he.symm
 ·exact h14 he.symm
 ·exact h2 he.symm
 ·exact h1 he.symm
 ·exact h0 he.symm
 ·exact h7 he.symm
 ·exact h6 he.symm
 ·exact h11 he.symm
 ·exact h9 he.symm
 ·exact h10 he.symm
 ·exact h8 he.symm
 ·exact h12 he.symm
 ·exact h13 he.symm
 ·exact h3 he.symm
 ·exact h5 he.symm
 ·exact h4 he.symm
section
variable{P:Program}{N:Nat}{w0:World}{M H:Nat→Prop}{E:el}{Γ R:dL}
theorem m7{k o b:Nat}{e:Ga}{s:Qg}{u:Value}(hk:bG Γ k=some (gA e s))(hu:∀x:SV×SV×SV,(gR e.vp x.1 x.2.1 x.2.2 e.ms e.mo e.mp e.en)[o]?=some u)(hb:e.g=b):Gives w0 M H Γ R b o [u]:=by
 subst hb;intro w hC j u' hj;obtain⟨G,⟨x,Fs,h1,-,-⟩,-⟩:=hC.reads (.inl hk);obtain⟨-,h2⟩:=h1 0 _ J;cases j with
 | zero=>
  simp at hj;subst hj;rw [cell_of_row w e.g (o+0) _ 111 (0,0) h2];simpa using hu x
 | succ j=>simp at hj
def vQ(p:Ba×Int):Value:=I3 p.2
theorem BN{S kt et:TypeId}{x y:Operand}{o:Option Nat}{k:Ba}{L:Om}{D:TypeDesc}{s bb:Nat}(hS:P.underlying S=some (.map kt et))(hK:KeyLaw P kt fG)(ht:TI P et D (I3 0) s bb)(hx:ev E x=some (.map o))(hy:ev E y=some (fG k))(hm:HasMp Γ R fG Prod.fst vQ o L):
  PR P N w0 M H E Γ R (.lookup S x y false) (I3 (bn L k)):=by
 have:=mc (w0:=w0) (M:=M) (H:=H) (N:=N) (ok:=false) hS hK ht hx hy hm J;have e:((L.find? (fun a=>decide (Prod.fst a=k))).map vQ).getD (I3 0)=I3 (bn L k):=by
  unfold bn;cases L.find? (fun a=>decide (Prod.fst a=k))<;>rfl
 rw [←e];exact this
theorem BO{S kt et:TypeId}{x y:Operand}{o:Option Nat}{k:Ba}{L:Om}{D:TypeDesc}{s bb:Nat}(hS:P.underlying S=some (.map kt et))(hK:KeyLaw P kt fG)(ht:TI P et D (I6 0) s bb)(hx:ev E x=some (.map o))(hy:ev E y=some (fG k))(hm:HasMp Γ R fG Prod.fst vI o L):
  PR P N w0 M H E Γ R (.lookup S x y false) (I6 (bn L k)):=by
 have:=mc (w0:=w0) (M:=M) (H:=H) (N:=N) (ok:=false) hS hK ht hx hy hm J;have e:((L.find? (fun a=>decide (Prod.fst a=k))).map vI).getD (I6 0)=I6 (bn L k):=by
  unfold bn;cases L.find? (fun a=>decide (Prod.fst a=k))<;>rfl
 rw [←e];exact this
end
theorem Nl{o st:Om}{t:Tx}{s:Qg}(h:t.kind=1):gX o st t s=pZ t.n s:=by
 obtain⟨k,n,nm,v,kids⟩:=t;obtain rfl:k=1:=h;rfl
theorem Nk{o st:Om}{t:Tx}{s:Qg}(h:t.kind=2):gX o st t s=s.emit [qi 23 1 13 (bn o t.name)]:=by
 obtain⟨k,n,nm,v,kids⟩:=t;obtain rfl:k=2:=h;rfl
theorem Nh{o st:Om}{t:Tx}{s:Qg}(h:t.kind=5):gX o st t s=s.emit [⟨48,0,0,0,2⟩]:=by
 obtain⟨k,n,nm,v,kids⟩:=t;obtain rfl:k=5:=h;rfl
theorem Ni{o st:Om}{t u:Tx}{s:Qg}(h:t.kind=4)(hk:t.kids= [u]):gX o st t s=((gX o st u s).elem 1).emit [qi 23 1 1 8192]:=by
 obtain⟨k,n,nm,v,kids⟩:=t;obtain rfl:k=4:=h;obtain rfl:kids= [u]:=hk;rfl
theorem Ng{o st:Om}{t u:Tx}{s:Qg}(h:t.kind=6)(hk:t.kids= [u]):gX o st t s=CE t.name (gX o st u s):=by
 obtain⟨k,n,nm,v,kids⟩:=t;obtain rfl:k=6:=h;obtain rfl:kids= [u]:=hk;rfl
theorem Nf{o st:Om}{t a b:Tx}{s:Qg}(h:t.kind=7)(hk:t.kids= [a,b]):gX o st t s=nP t.name ((gX o st b ((gX o st a s).push 1)).pop 2):=by
 obtain⟨k,n,nm,v,kids⟩:=t;obtain rfl:k=7:=h;obtain rfl:kids= [a,b]:=hk;rfl
theorem Nj{o st:Om}{t:Tx}{s:Qg}(h:t.kind=3):gX o st t s=if t.kids.length>0 then((rM o st t.kids s).jump 40 15 0 (bn st t.name)).emit [qi 16 14 14 (4*t.kids.length)]else(rM o st t.kids s).jump 40 15 0 (bn st t.name):=by
 obtain⟨k,n,nm,v,kids⟩:=t;obtain rfl:k=3:=h;rfl
theorem uZ{o st:Om}:∀{l:List Tx}{i:Nat}{u:Tx}(s:Qg),l[i]?=some u→rM o st (l.take (i+1)) s=(gX o st u (rM o st (l.take i) s)).push 1
 | [],i,u,s,h=>by simp at h
 | x::r,0,u,s,h=>by cases h;rfl
 | x::r,i+1,u,s,h=>uZ (l:=r) _ h
structure Wx(t:Tx):Prop where
 one:t.kind=4∨t.kind=6→∃u,t.kids= [u]
 un:t.kind=6→t.name=ep∨t.name=s5∨t.name=uC
 two:t.kind=7→ja t.name=true∧∃a b,t.kids= [a,b]
 kids:∀u∈t.kids,rX u=true
 kind:t.kind=1∨t.kind=2∨t.kind=3∨t.kind=4∨t.kind=5∨t.kind=6∨t.kind=7
theorem sL:∀{l:List Tx},oh l=true→∀u∈l,rX u=true
 | [],_,_,h=>by simp at h
 | t::r,h,u,hu=>by
  unfold oh at h;rw [Bool.and_eq_true]at h;rcases List.mem_cons.1 hu with rfl|hu
  ·exact h.1
  ·exact sL h.2 u hu
theorem sX{l:List Tx}(h:l.length=1):∃u,l= [u]:=by
 match l,h with
 | [u],_=>exact⟨u,rfl⟩
theorem A8{l:List Tx}(h:l.length=2):∃a b,l= [a,b]:=by
 match l,h with
 | [a,b],_=>exact⟨a,b,rfl⟩
theorem FP{t:Tx}(h:rX t=true):Wx t:=by
 obtain⟨k,n,nm,v,kids⟩:=t;unfold rX at h;simp only [Bool.and_eq_true]at h;obtain⟨⟨h1,-⟩,h3⟩:=h;unfold rE at h1;refine⟨fun hk=> ?_,fun hk=> ?_,fun hk=> ?_,sL h3,?_⟩
 ·show ∃u,kids= [u];rcases hk with hk|hk
  ·obtain rfl:k=4:=hk;simp at h1;exact sX h1.2
  ·obtain rfl:k=6:=hk;simp at h1;exact sX h1.2
 ·obtain rfl:k=6:=hk;simp [cU,AO]at h1;rcases h1.1 with h|h|h
  ·exact .inl h
  ·exact .inr (.inl h)
  ·exact .inr (.inr h)
 ·obtain rfl:k=7:=hk;simp at h1;exact⟨h1.1,A8 h1.2⟩
 ·show k=1∨k=2∨k=3∨k=4∨k=5∨k=6∨k=7;by_cases k1:k=1
  ·exact .inl k1
  by_cases k2:k=2
  ·exact .inr (.inl k2)
  by_cases k3:k=3
  ·exact .inr (.inr (.inl k3))
  by_cases k4:k=4
  ·exact .inr (.inr (.inr (.inl k4)))
  by_cases k5:k=5
  ·exact .inr (.inr (.inr (.inr (.inl k5))))
  by_cases k6:k=6
  ·exact .inr (.inr (.inr (.inr (.inr (.inl k6)))))
  by_cases k7:k=7
  ·exact .inr (.inr (.inr (.inr (.inr (.inr k7)))))
  simp [k1,k2,k3,k4,k5,k6,k7]at h1
theorem EI{q:Prop}{k:Int}(h:k=1∨k=2∨k=3∨k=4∨k=5∨k=6∨k=7)(n1:¬k=1)(n2:¬k=2)(n3:¬k=3)(n4:¬k=4)(n5:¬k=5)(n6:¬k=6)(n7:¬k=7):q:=by omega
theorem N8{t:Tx}(h:GX t):oW t.n:=by cases t;exact h.1
theorem Cu(e:Ga)(c:Oq)(om sm:Om)(hm:e.mp=c.m)(t:Tx)(hw:Wx t)(hg:GX t)(ih:∀u∈t.kids,∀s:Qg,s.sz+22*nX u≤780000→Spec prog 167 [Pt e.g,xV u] [gA e s] [cx u.v u.kids,g9 e.g c,mp fG Prod.fst vQ e.mo om,mp fG Prod.fst vI (some e.ms) sm] (X:=Unit) (fun _=>True) (fun _=> .tuple #[]) (fun _=> [gA e (gX om sm u s)]) (fun _=> []))(s:Qg)(hz:s.sz+22*nX t≤780000):
  aN prog 167 [Pt e.g,xV t] [gA e s] [cx t.v t.kids,g9 e.g c,mp fG Prod.fst vQ e.mo om,mp fG Prod.fst vI (some e.ms) sm] (.tuple #[]) [gA e (gX om sm t s)]:=by
 refine ay func167 J ntmps167 J fun w0 M H=>bx 0 9 J jU (am (cB J J fun b3=>aw J (aA ng J (aL 3 t3 J J J J (aa (aC (am (ap J J bj (ao J (aa (ai J (fun h1=> ?_) (fun h1=> ?_))))))))))))
 ·(try simp only [aX]at h1);have hk:t.kind=1:=h1;rw [Nl hk];refine aj (ab J (aA CQ J (aL 3 dy J J J J (ae (xs:= [.tmp 11,.tmp 13]) (BS e s (by omega) t.n (N8 hg)) Ll [0] [] [0] (fun _ _=>aa (bP () O J fw J [0] [] J J J))))))
 ·(try simp only [aX]at h1);have n1:¬t.kind=1:=h1;refine am (ap J J bj (ao J (aa (ai J (fun h2=> ?_) (fun h2=> ?_)))))
  ·(try simp only [aX]at h2);have hk:t.kind=2:=h2;rw [Nk hk];refine bV [17,18,19,20,21,22,23,24,25] _ J (bk (V:= [(0,17,_),(1,18,_),(2,19,_),(3,20,_),(4,21,_),(5,22,_),(6,23,_),(7,24,_)]) [0,1,2,3,4,5,6,7] 8 [8,7,6,5,4,3,2,1,0] [] (fun _=> []) J J (aK J J (aK J J (ad J (av J) (ad J (ah kI J) (ad J (ag zE J J (m7 (k:=0) J (fun _=>J) J)) (ad J (ah fj J) (ad J (ag t9 J J (aB (k:=3) J J)) (ad J (BN underlying108 eo dy J J (rL (k:=2) J)) au)))))))) J J J J J J J J J J J (fun _ _=>J) J (bS (xs:= [.tmp 17,.const (I6 23),.const (I6 1),.const (I6 13),.tmp 24]) (cJ e (s) (by omega) 23 1 13 (bn om t.name)) iM [0] [] [0]) (fun _ _=>br [] J J au J J J (bP () O J fw J [0] [] J J J)))
  ·(try simp only [aX]at h2);have n2:¬t.kind=2:=h2;refine am (ap J J bj (ao J (aa (ai J (fun h3=> ?_) (fun h3=> ?_)))))
   ·(try simp only [aX]at h3);have hk:t.kind=5:=h3;rw [Nh hk];refine aj (ab J (aJ (aW (parts:= [(0,.const (I6 48)),(4,.const (I3 2))]) ey k8 J J) (bH gM ⟨48,0,0,0,2⟩ underlying106 ey J (by decide) (by decide) J J J J fun v30=>cq 30 7 J bI (ae (xs:= [.tmp 28,.tmp 30]) (gr e s (by omega) v30 [⟨48,0,0,0,2⟩] (by simp)) vC [0] [(false,7)] [0] (fun _ _=>aa (bP () O J fw J [0] [] J J J))))))
   ·(try simp only [aX]at h3);have n5:¬t.kind=5:=h3;refine am (ap J J bj (ao J (aa (ai J (fun h4=> ?_) (fun h4=> ?_)))))
    ·(try simp only [aX]at h4);have hk:t.kind=4:=h4;obtain⟨u,hku⟩:=hw.one (.inl hk);have hnu:nX t=nX u+1:=by rw [uD,hku];simp [fO]
     have hsz:=ld om sm u s;rw [Ni hk hku];refine am (ab J (aA eZ J (aL 3 n9 J J J J (aJ (aQ (j:=0) underlying59 dr J J (aP (k:=9) J) J (by rw [hku];simp)) ?_))));refine vU (aM dr J J J (ci (aP (k:=9) J) (by intro _;rfl) (show t.kids[0]?=some u by rw [hku];rfl) (by rfl))) J ?_;refine bx 0 8 J (ft (show u∈t.kids by rw [hku];simp)) ?_;refine fy (xs:= [.tmp 34,.tmp 38]) (ih u (show u∈t.kids by rw [hku];simp) (s) (by omega)) qA [0] [(false,8),(false,1),(false,2),(false,3)] [0] J J J J J J J J (fun _ _=>J) (fun _ _ _=>J) J (fun _ _=> ?_);refine aw J (ab J (ae (xs:= [.tmp 40,.const (I6 1)]) (rU e (gX om sm u s) (by omega) 1) Gu [0] [] [0] (fun _ _=>aa (aj (ab J (ae (xs:= [.tmp 42,.const (I6 23),.const (I6 1),.const (I6 1),.const (I3 8192)]) (cJ e ((gX om sm u s).elem 1) (by rw [cV];omega) 23 1 1 8192) iM [0] [] [0] (fun _ _=>aa (bP () O J fw J [0] [] J J J))))))))
    ·(try simp only [aX]at h4);have n4:¬t.kind=4:=h4;refine am (ap J J bj (ao J (aa (ai J (fun h5=> ?_) (fun h5=> ?_)))))
     ·(try simp only [aX]at h5);have hk:t.kind=6:=h5;obtain⟨u,hku⟩:=hw.one (.inr hk);have hnu:nX t=nX u+1:=by rw [uD,hku];simp [fO]
      have hsz:=ld om sm u s;rw [Ng hk hku];refine am (ab J (aA eZ J (aL 3 n9 J J J J (aJ (aQ (j:=0) underlying59 dr J J (aP (k:=9) J) J (by rw [hku];simp)) ?_))));refine vU (aM dr J J J (ci (aP (k:=9) J) (by intro _;rfl) (show t.kids[0]?=some u by rw [hku];rfl) (by rfl))) J ?_;refine bx 0 8 J (ft (show u∈t.kids by rw [hku];simp)) ?_;refine fy (xs:= [.tmp 46,.tmp 50]) (ih u (show u∈t.kids by rw [hku];simp) (s) (by omega)) qA [0] [(false,8),(false,1),(false,2),(false,3)] [0] J J J J J J J J (fun _ _=>J) (fun _ _ _=>J) J (fun _ _=> ?_);refine aw J (aA fj J (aL 3 t9 J J J J (aa (aC (am (ap J J eV (ao J (aa (ai J (fun h6=> ?_) (fun h6=> ?_))))))))))
      ·(try simp only [aX]at h6);have ho:t.name=ep:=df ((gn _ _).symm.trans h6);rw [ho,show CE ep (gX om sm u s)=(gX om sm u s).emit [q3 2 1 0 1]from J];refine aj (ab J (ae (xs:= [.tmp 56,.const (I6 2),.const (I6 1),.const (I6 0),.const (I6 1)]) (cS e (gX om sm u s) (by omega) 2 1 0 1) lK [0] [] [0] (fun _ _=>aa (bP () O J fw J [0] [] J J J))))
      ·(try simp only [aX]at h6);have u1:¬t.name=ep:=e9 ((gn _ _).symm.trans h6);refine am (ap J J eV (ao J (aa (ai J (fun h7=> ?_) (fun h7=> ?_)))))
       ·(try simp only [aX]at h7);have ho:t.name=s5:=df ((gn _ _).symm.trans h7);rw [ho,show CE s5 (gX om sm u s)=((gX om sm u s).emit [qi 16 2 0 4294967295]).emit [q3 5 1 1 2]from J];refine am (ab J (ae (xs:= [.tmp 60,.const (I6 16),.const (I6 2),.const (I6 0),.const (I3 4294967295)]) (cJ e (gX om sm u s) (by omega) 16 2 0 4294967295) iM [0] [] [0] (fun _ _=>aa (aj (ab J (ae (xs:= [.tmp 62,.const (I6 5),.const (I6 1),.const (I6 1),.const (I6 2)]) (cS e ((gX om sm u s).emit [qi 16 2 0 4294967295]) (by rw [bl];simp;omega) 5 1 1 2) lK [0] [] [0] (fun _ _=>aa (bP () O J fw J [0] [] J J J))))))))
       ·(try simp only [aX]at h7);have u2:¬t.name=s5:=e9 ((gn _ _).symm.trans h7);refine am (ap J J eV (ao J (aa (ai J (fun h8=> ?_) (fun h8=> ?_)))))
        ·(try simp only [aX]at h8);have ho:t.name=uC:=df ((gn _ _).symm.trans h8);rw [ho,show CE uC (gX om sm u s)=((gX om sm u s).emit [qi 16 2 0 1]).emit [q3 11 1 1 2]from J];refine am (ab J (ae (xs:= [.tmp 66,.const (I6 16),.const (I6 2),.const (I6 0),.const (I3 1)]) (cJ e (gX om sm u s) (by omega) 16 2 0 1) iM [0] [] [0] (fun _ _=>aa (aj (ab J (ae (xs:= [.tmp 68,.const (I6 11),.const (I6 1),.const (I6 1),.const (I6 2)]) (cS e ((gX om sm u s).emit [qi 16 2 0 1]) (by rw [bl];simp;omega) 11 1 1 2) lK [0] [] [0] (fun _ _=>aa (bP () O J fw J [0] [] J J J))))))))
        ·exact absurd ((hw.un hk).resolve_left u1 |>.resolve_left u2) (e9 ((gn _ _).symm.trans h8))
     ·(try simp only [aX]at h5);have n6:¬t.kind=6:=h5;refine am (ap J J bj (ao J (aa (ai J (fun h9=> ?_) (fun h9=> ?_)))))
      ·(try simp only [aX]at h9);have hk:t.kind=7:=h9;obtain⟨hbin,a,b,hkab⟩:=hw.two hk;have hnu:nX t=nX a+nX b+1:=by rw [uD,hkab];simp [fO]
       have hsa:=ld om sm a s;have hsb:=ld om sm b ((gX om sm a s).push 1);rw [cr]at hsb;rw [Nf hk hkab];obtain⟨nc,lc,hfc,hcb,hop⟩:=HE e c t.name ((gX om sm b ((gX om sm a s).push 1)).pop 2) (by rw [dj];omega) hbin;refine bx 1 10 J (BQ 0 J) ?_;rw [←hm];refine am (ab J (aA eZ J (aL 3 n9 J J J J (aJ (aQ (j:=0) underlying59 dr J J (aP (k:=9) J) J (by rw [hkab];simp)) ?_))));refine vU (aM dr J J J (ci (aP (k:=9) J) (by intro _;rfl) (show t.kids[0]?=some a by rw [hkab];rfl) (by rfl))) J ?_;refine bx 0 8 J (ft (show a∈t.kids by rw [hkab];simp)) ?_;refine fy (xs:= [.tmp 72,.tmp 76]) (ih a (show a∈t.kids by rw [hkab];simp) (s) (by omega)) qA [0] [(false,8),(false,1),(false,2),(false,3)] [0] J J J J J J J J (fun _ _=>J) (fun _ _ _=>J) J (fun _ _=> ?_);refine aw J (ab J (ae (xs:= [.tmp 78,.const (I6 1)]) (ib e (gX om sm a s) (by omega) 1) AG [0] [] [0] (fun _ _=>aw J (ab J (aA eZ J (aL 3 n9 J J J J (aJ (aQ (j:=1) underlying59 dr J J (aP (k:=9) J) J (by rw [hkab];simp)) ?_)))))));refine vU (aM dr J J J (ci (aP (k:=9) J) (by intro _;rfl) (show t.kids[1]?=some b by rw [hkab];rfl) (by rfl))) J ?_;refine bx 0 8 J (ft (show b∈t.kids by rw [hkab];simp)) ?_;refine fy (xs:= [.tmp 80,.tmp 84]) (ih b (show b∈t.kids by rw [hkab];simp) ((gX om sm a s).push 1) (by rw [cr];omega)) qA [0] [(false,8),(false,1),(false,2),(false,3)] [0] J J J J J J J J (fun _ _=>J) (fun _ _ _=>J) J (fun _ _=> ?_)
       refine aw J (ab J (ae (xs:= [.tmp 86,.const (I6 2)]) (mb e (gX om sm b ((gX om sm a s).push 1)) (by omega) 2) FC [0] [] [0] (fun _ _=>aa (bV [88,89,90,91,92,93,94,95] _ J (bk (V:= [(0,88,_),(1,89,_),(2,90,_),(3,91,_),(4,92,_),(5,93,_),(6,94,_)]) [0,1,2,3,4,5,6] 7 [7,6,5,4,3,2,1,0] [] (fun _=> []) J J (aK J J (ad J (av J) (ad J (ah zd J) (ad J (ag JG J J (m7 (k:=0) J (fun _=>J) J)) (ad J (ah fj J) (ad J (ag t9 J J (aB (k:=3) J J)) (ad J (mc underlying109 eo t1 J J (rL (k:=10) J) hfc) au))))))) J J J J J J J J J J J (fun _ _=>J) J (bS (xs:= []) hop hcb [0] [(false,1)] [0]) (fun _ _=>br [] J J au J J J (bP () O J fw J [0] [] J J J)))))))
      ·(try simp only [aX]at h9);have n7:¬t.kind=7:=h9;refine am (ap J J bj (ao J (aa (ai J (fun h10=> ?_) (fun h10=> ?_)))))
       ·(try simp only [aX]at h10);have hk:t.kind=3:=h10;have hnx:=uD t;have hss:=tp om sm t.kids s;have hkl:=tM hg;rw [Nj hk];refine aR (aA eZ J (aL 3 n9 J J J J (aJ (aZ underlying59 J (aP (k:=9) J)) (ab J (aa (aC (bC (X:=Nat) (fun i=>i≤t.kids.length) (fun i=> [(0,Pt e.g),(3,Pt b3),(99,sv t.v),(100,I6 (t.kids.length:Int)),(101,I6 (i:Int))]) (fun i=> [(0,gA e (rM om sm (t.kids.take i) s)),(3,aO b3 61 (gk t))]) (fun i=> [(0,cx t.v t.kids),(1,g9 e.g c),(2,mp fG Prod.fst vQ e.mo om),(3,mp fG Prod.fst vI (some e.ms) sm),(9,sl 4 gk (sv t.v) t.kids)]) (fun i=>t.kids.length-i) 0 (bE _) J J J (fun i n1=>am (ap J J cG (aa (aT (ai J (fun h11=> ?_) (fun h11=> ?_)))))))))))))
        ·(try simp only [aX]at h11);have hi:i<t.kids.length:=by omega
         obtain⟨kid,hkid⟩:∃k,t.kids[i]?=some k:=⟨_,bO hi⟩
         have hkm:=cO hkid;have hle:=wV t.kids (i+1);rw [kb hkid]at hle;have hsi:=tp om sm (t.kids.take i) s;have hsk:=ld om sm kid (rM om sm (t.kids.take i) s);refine az (aT (aC (am (aJ (aQ (j:=i) underlying59 dr J J (aP (k:=9) J) (by first|rfl|omega) (by first|omega|(simp;done)|(simp;omega))) (aJ (aM dr J J J (ci (aP (k:=9) J) (by intro _;rfl) hkid (by rfl))) (aU dr J J fun b5=>aq (k:=5) dr J J J J J J (aw J (ab J (aJ (aM dr J J J (bh (k:=5) J)) (bx 0 8 J (ft (hkm)) (ae (xs:= [.tmp 105,.tmp 106]) (ih kid (hkm) (rM om sm (t.kids.take i) s) (by omega)) qA [0] [(false,8),(false,1),(false,2),(false,3)] [0] (fun _ _=>aa (aj (ab J (ae (xs:= [.tmp 108,.const (I6 1)]) (ib e (gX om sm kid (rM om sm (t.kids.take i) s)) (by omega) 1) AG [0] [] [0] (fun _ _=> ?_))))))))))))))));refine aa (aj (ap J J aY (ab J (aa ?_))));refine aI (i+1) ⟨by omega,by omega⟩ J (by rw [uZ s hkid];rfl) J
        ·(try simp only [aX]at h11);have hi:i=t.kids.length:=by omega
         subst hi;rw [eA];refine bF (aT (bV [111,112,113,114,115,116,117,118,119] _ J (bk (V:= [(0,111,_),(1,112,_),(2,113,_),(3,114,_),(4,115,_),(5,116,_),(6,117,_),(7,118,_)]) [0,1,2,3,4,5,6,7] 8 [8,7,6,5,4,3,2,1,0] [] (fun _=> []) J J (aK J J (aK J J (ad J (av J) (ad J (ah my J) (ad J (ag Bd J J (m7 (k:=0) J (fun _=>J) J)) (ad J (ah fj J) (ad J (ag t9 J J (aB (k:=3) J J)) (ad J (BO underlying105 eo t3 J J (rL (k:=3) J)) au)))))))) J J J J J J J J J J J (fun _ _=>J) J (bS (xs:= [.tmp 111,.const (I6 40),.const (I6 15),.const (I6 0),.tmp 118]) (eY e (rM om sm t.kids s) (by omega) 40 15 0 (bn sm t.name)) q_ [0] [] [0]) (fun _ _=>br [] J J au J J J (am (aA eZ J (aL 3 n9 J J J J (aJ (aZ underlying59 J (aP (k:=9) J)) (ao J (aw J (ab J (ap J J ge (aa (ai J (fun h12=> ?_) (fun h12=> ?_)))))))))))))))
         ·(try simp only [aX]at h12);rw [ak (show t.kids.length>0 by omega)];refine aj (ab J (ab J (ap J J iH (aJ (bK underlying3 underlying41 J (by first|exact bw (by omega)|rfl)) (ae (xs:= [.tmp 125,.const (I6 16),.const (I6 14),.const (I6 14),.tmp 128]) (cJ e ((rM om sm t.kids s).jump 40 15 0 (bn sm t.name)) (by rw [bA];omega) 16 14 14 (4*t.kids.length)) iM [0] [] [0] (fun _ _=>aa (bP () O J fw J [0] [] J J J)))))))
         ·(try simp only [aX]at h12);rw [ac (show ¬t.kids.length>0 by omega)];refine az (bP () O J fw J [0] [] J J J)
       ·exact EI hw.kind n1 n2 (by simpa using h10) n4 n5 n6 n7
theorem yI(e:Ga)(c:Oq)(om sm:Om)(hm:e.mp=c.m):∀(n:Nat)(t:Tx),SizeOf.sizeOf t<n→rX t=true→GX t→∀s:Qg,s.sz+22*nX t≤780000→aN prog 167 [Pt e.g,xV t] [gA e s] [cx t.v t.kids,g9 e.g c,mp fG Prod.fst vQ e.mo om,mp fG Prod.fst vI (some e.ms) sm] (.tuple #[]) [gA e (gX om sm t s)]
 | 0,_,h,_,_=>absurd h (Nat.not_lt_zero _)
 | n+1,t,h,hr,hg=>fun s hz=>Cu e c om sm hm t (FP hr) hg (fun u hu=>yI e c om sm hm n u (by have:=x8 hu;omega) ((FP hr).kids u hu) ((oG hg).mem u hu)) s hz
theorem uU(e:Ga)(c:Oq)(om sm:Om)(hm:e.mp=c.m)(t:Tx)(hr:rX t=true)(hg:GX t)(s:Qg)(hz:s.sz+22*nX t≤780000):aN prog 167 [Pt e.g,xV t] [gA e s] [cx t.v t.kids,g9 e.g c,mp fG Prod.fst vQ e.mo om,mp fG Prod.fst vI (some e.ms) sm] (.tuple #[]) [gA e (gX om sm t s)]:=yI e c om sm hm _ t (Nat.lt_succ_self _) hr hg s hz
variable{K:(Int→Int)→Prop}
theorem Res.len{s s':Qg}{r:List Qi}(h:Res K s s' r):s'.code.length=s.code.length+r.length:=by
 obtain⟨raw,fs,ls,a1,a2,-⟩:=h.ex;rw [a1,bQ,a2]
theorem yh(a:List Int)(x y:Int)(b:List Int):(a++ [x]++b).set a.length y=a++ [y]++b:=by
 rw [List.append_assoc,List.set_append_right _ _ (bM _),Nat.sub_self,List.append_assoc];rfl
theorem ua(a:List Int)(x z y:Int)(b:List Int):(a++ [x,z]++b).set (a.length+1) y=a++ [x,y]++b:=by
 rw [List.append_assoc,List.set_append_right _ _ (by omega),show a.length+1-a.length=1 by omega,List.append_assoc];rfl
theorem Res.one{s s':Qg}{r:List Qi}(m:Int)(h:Res (fun L=>K L∧L (s.labs.length:Int)=m) s.lab s' r)(hm:m=s'.code.length):Res K s (s'.place s.labs.length) r:=by
 refine Res.labels [0] [m] J (s':=s') (h.weaken fun L hL=>⟨hL.1,hL.2 0 m J⟩) J J fun ls hls=> ?_
 show s'.labs.set ((s.labs.length:Int).toNat) s'.code.length=_;rw [hls,Int.toNat_natCast,yh,hm]
theorem cL{c:Prop} [Decidable c]{s a b:Qg}{r t:List Qi}(h1:Res K s a r)(h2:Res K s b t):Res K s (if c then a else b) (if c then r else t):=by
 by_cases h:c
 ·rw [ak h,ak h];exact h1
 ·rw [ac h,ac h];exact h2
theorem we{n:Nat}(h:n<4294967296):wU (n:Int)=n:=by
 unfold wU;show((n:Int))%4294967296=n;omega
theorem E8(o:Ba)(s:Qg):Res K s (nP o s) (zv o):=by
 unfold nP zv;refine cL ?_ ?_
 ·exact Res.emit _ _
 refine cL ?_ ?_
 ·exact Res.emit _ _
 refine cL ?_ ?_
 ·exact Res.emit _ _
 refine cL ?_ ?_
 ·exact Res.emit _ _
 refine cL ?_ ?_
 ·exact Res.emit _ _
 refine cL ?_ ?_
 ·exact Res.emit _ _
 refine cL ?_ ?_
 ·exact Res.emit _ _
 refine cL ?_ ?_
 ·exact Res.emit _ _
 refine cL ?_ ?_
 ·exact Res.emit _ _
 refine cL ?_ ?_
 ·exact Res.emit _ _
 refine cL ?_ ?_
 ·exact(Res.emit _ [_]).seq (Res.emit _ [_])
 refine cL ?_ ?_
 ·exact(Res.emit _ [_]).seq (Res.emit _ [_])
 refine cL ?_ ?_
 ·exact(Res.emit _ [_]).seq (Res.emit _ [_])
 refine cL ?_ ?_
 ·exact((Res.emit _ [_]).seq (Res.emit _ [_])).seq (Res.emit _ [_])
 refine cL ?_ ?_
 ·refine Res.one ((s.code.length:Int)+2) ((Res.jump s.lab 32 1 0 _ 2 fun L hL=> ?_).seq (Res.emit _ [_])) ?_
  ·rw [hL.2];show wU ((s.code.length:Int)+2-s.code.length)=2;rw [show(s.code.length:Int)+2-s.code.length=((2:Nat):Int) by omega];exact we (by decide)
  ·show _=((((s.code++ [_])++ [_]).length:Nat):Int);simp only [bQ,ca,cj];omega
 refine cL ?_ ?_
 ·refine(Res.one (r:= [q3 1 3 1 0,qi 32 1 0 3,q3 10 3 2 1,q3 9 3 3 1]) ((s.code.length:Int)+4) (((((Res.emit s.lab [_]).seq (Res.jump _ 32 1 0 _ 3 fun L hL=> ?_)).seq (Res.emit _ [_])).seq (Res.emit _ [_]))) ?_).seq (Res.emit _ [_])
  ·rw [hL.2];show wU ((s.code.length:Int)+4-(((s.code++ [_]).length:Nat):Int))=3;rw [bQ,dP,show(s.code.length:Int)+4-((s.code.length+1:Nat):Int)=((3:Nat):Int) by omega];exact we (by decide)
  ·show _=((((((s.code++ [_])++ [_])++ [_])++ [_]).length:Nat):Int);simp only [bQ,ca,cj];omega
 ·exact Res.nil s
theorem E6(o:Ba)(s:Qg):Res K s (CE o s) (AN o):=by
 unfold CE AN;refine cL ?_ ?_
 ·exact Res.emit _ _
 refine cL ?_ ?_
 ·exact(Res.emit _ [_]).seq (Res.emit _ [_])
 refine cL ?_ ?_
 ·exact(Res.emit _ [_]).seq (Res.emit _ [_])
 ·exact Res.nil s
theorem CI(n:Int)(s:Qg):Res K s (pZ n s) (nM n):=by
 unfold pZ nM;refine cL ?_ ?_
 ·exact Res.emit _ _
 ·exact Res.emit _ _
mutual
theorem xj{o st:Om}{S:Ba→Int}(hK:∀L,K L→∀x,L (bn st x)=S x):∀(t:Tx)(s:Qg),Res K s (gX o st t s) (zX o S t s.code.length)
 | .mk k n nm v kids,s=>by
  have h0:=ot (o:=o) hK kids;have h1:=yJ (o:=o) hK kids;have hs:=tq (o:=o) hK kids;unfold gX zX;split
  ·exact CI n s
  split
  ·exact Res.emit _ _
  split
  ·exact Res.emit _ _
  split
  ·exact(h0 s).seq ((Res.elem _ 1).seq (Res.emit _ _))
  split
  ·exact(h0 s).seq (E6 nm _)
  split
  ·have e1:=(h0 s).len;have e2:=(Res.push (K:=K) (ky o st kids s) 1).len;have e3:s.code.length+(vR o S kids s.code.length).length+2=((ky o st kids s).push 1).code.length:=by
    rw [e2,e1];rfl
   rw [e3];exact(h0 s).seq ((Res.push _ 1).seq ((h1 _).seq ((Res.pop _ 2).seq (E8 nm _))))
  split
  ·have e1:=(hs s).len;have e2:Res K (rM o st kids s) ((rM o st kids s).jump 40 15 0 (bn st nm)) [qi 40 15 0 (wU (S nm-((s.code.length+(wa o S kids s.code.length).length:Nat):Int)))]:=by
    refine Res.jump _ 40 15 0 _ _ fun L hL=> ?_
    rw [hK L hL nm,e1]
   refine(hs s).seq (e2.seq ?_);dsimp only;split
   ·exact Res.emit _ _
   ·exact Res.nil _
  ·exact Res.nil s
theorem ot{o st:Om}{S:Ba→Int}(hK:∀L,K L→∀x,L (bn st x)=S x):∀(l:List Tx)(s:Qg),Res K s (ky o st l s) (vR o S l s.code.length)
 | [],s=>Res.nil s
 | t::_,s=>xj hK t s
theorem yJ{o st:Om}{S:Ba→Int}(hK:∀L,K L→∀x,L (bn st x)=S x):∀(l:List Tx)(s:Qg),Res K s (Jk o st l s) (Jr o S l s.code.length)
 | [],s=>Res.nil s
 | _::r,s=>ot hK r s
theorem tq{o st:Om}{S:Ba→Int}(hK:∀L,K L→∀x,L (bn st x)=S x):∀(l:List Tx)(s:Qg),Res K s (rM o st l s) (wa o S l s.code.length)
 | [],s=>Res.nil s
 | t::r,s=>by
  have h:=xj (o:=o) hK t s;have e1:=h.len;have e2:=(Res.push (K:=K) (gX o st t s) 1).len;have e3:s.code.length+(zX o S t s.code.length).length+2=((gX o st t s).push 1).code.length:=by
   rw [e2,e1];rfl
  unfold rM wa;rw [e3];exact h.seq ((Res.push _ 1).seq (tq hK r _))
end
variable{K:(Int→Int)→Prop}
theorem Res.relab{s s1 s2:Qg}{r:List Qi}(ns ms:List Int)(hl:ns.length=ms.length)(h:Res K {s with labs:=s.labs++ns} s1 r)
  (hc:s2.code=s1.code) (hf:s2.fixes=s1.fixes) (hs:∀ls,s1.labs=(s.labs++ns)++ls→s2.labs=(s.labs++ms)++ls):Res K {s with labs:=s.labs++ms} s2 r:=by
 obtain⟨raw,fs,ls,a1,a2,a3,a4,a5,a6⟩:=h.ex;refine⟨⟨raw,fs,ls,hc.trans a1,a2,hf.trans a3,hs ls a4,a5,fun L hK hL=>a6 L hK fun i n hi=> ?_⟩⟩;have:=hL i n hi;show L (((s.labs++ns).length+i:Nat):Int)=n;rw [bQ,hl,←bQ];exact this
theorem GV(s:Qg):s.lab.place s.labs.length={s with labs:=s.labs++ [(s.code.length:Int)]}:=by
 show Qg.mk _ _ ((s.labs++ [0]).set ((s.labs.length:Int).toNat) s.code.length)=_;have:=yh s.labs 0 (s.code.length:Int) [];simp only [List.append_nil]at this;rw [Int.toNat_natCast,this];rfl
mutual
theorem CA{o st:Om}{S:Ba→Int}{en E:Int}:∀{K:(Int→Int)→Prop}(t:Ty)(s:Qg),(∀L,K L→∀x,L (bn st x)=S x)→(∀L,K L→L en=E)→Res K s (gY o st en t s) (zY o S E t s.code.length)
 | K,.mk k nm ve es vb body vl els,s,hK,hE=>by
  refine Res.labels [(s.code.length:Int)] [(s.code.length:Int)] J (s':=gY o st en (.mk k nm ve es vb body vl els) s) ?_ J J (fun ls h=>h);generalize hK':(fun L=>K L∧∀(i:Nat)(n:Int),[(s.code.length:Int)][i]?=some n→L ((s.labs.length+i:Nat):Int)=n)=K';have k1:∀L,K' L→∀x,L (bn st x)=S x:=fun L h=>hK L (by rw [←hK']at h;exact h.1)
  have k2:∀L,K' L→L en=E:=fun L h=>hE L (by rw [←hK']at h;exact h.1)
  have k3:∀L,K' L→L (s.labs.length:Int)=s.code.length:=fun L h=>by rw [←hK']at h;exact h.2 0 _ J
  clear hK';unfold gY zY;dsimp only;rw [GV];generalize hs0:({s with labs:=s.labs++ [(s.code.length:Int)]}:Qg)=s0;have c0:s0.code.length=s.code.length:=by rw [←hs0]
  have h0:=ot (K:=K') (o:=o) k1 es s0;rw [c0]at h0;have e0:=h0.len;rw [c0,lS]at e0;refine cL (h0.seq (Res.emit _ _)) (cL ?_ (cL (h0.seq (Res.emit _ _)) (cL ?_ (cL ?_ (cL ?_ h0)))))
  ·have e2:=(Res.push (K:=K') (ky o st es s0) 1).len;have e3:s.code.length+iK es+2=((ky o st es s0).push 1).code.length:=by
    rw [e2,e0];rfl
   rw [e3];exact h0.seq ((Res.push _ 1).seq ((yJ k1 es _).seq ((Res.pop _ 2).seq ((Res.elem _ 2).seq (Res.emit _ _)))))
  ·exact h0.seq (Res.jump _ 40 0 0 _ _ fun L hL=>by rw [k2 L hL,e0])
  ·refine h0.seq ?_;generalize hs1:ky o st es s0=s1;rw [hs1]at e0;have hb:=fun(K:(Int→Int)→Prop)(a:∀L,K L→∀x,L (bn st x)=S x)(b:∀L,K L→L en=E)(s:Qg)=>kx (o:=o) (st:=st) (en:=en) (E:=E) (S:=S) (K:=K) body s a b
   have he:=fun(K:(Int→Int)→Prop)(a:∀L,K L→∀x,L (bn st x)=S x)(b:∀L,K L→L en=E)(s:Qg)=>kx (o:=o) (st:=st) (en:=en) (E:=E) (S:=S) (K:=K) els s a b
   simp only [eG];obtain⟨po,hpo⟩:∃po,po=s.code.length+iK es+1+eR body+(if els.length>0 then 1 else 0):=⟨_,J⟩
   obtain⟨sA,hsA⟩:∃x,x=((s1.lab.lab).jump 32 1 0 s1.labs.length):=⟨_,J⟩
   obtain⟨sB,hsB⟩:∃x,x=gj o st en body sA:=⟨_,J⟩
   obtain⟨sC,hsC⟩:∃x,x=(if els.length>0 then sB.jump 40 0 0 (s1.labs.length+1)else sB):=⟨_,J⟩
   obtain⟨sD,hsD⟩:∃x,x=gj o st en els (sC.place s1.labs.length):=⟨_,J⟩
   rw [←hsA,←hsB,←hsC,←hsD,←hpo];obtain⟨K2,hK2⟩:∃K2:(Int→Int)→Prop,K2=(fun L=>K' L∧∀(i:Nat)(n:Int),[(po:Int),((po+eR els:Nat):Int)][i]?=some n→L ((s1.labs.length+i:Nat):Int)=n):=⟨_,J⟩
   have j1:∀L,K2 L→∀x,L (bn st x)=S x:=fun L h=>k1 L (by rw [hK2]at h;exact h.1)
   have j2:∀L,K2 L→L en=E:=fun L h=>k2 L (by rw [hK2]at h;exact h.1)
   have j3:∀L,K2 L→L (s1.labs.length:Int)=(po:Int):=fun L h=>by rw [hK2]at h;exact h.2 0 _ J
   have j4:∀L,K2 L→L (s1.labs.length+1)=((po+eR els:Nat):Int):=fun L h=>by rw [hK2]at h;exact h.2 1 _ J
   have g1:Res K2 s1.lab.lab sA [qi 32 1 0 (wU ((eR body+(if els.length>0 then 1 else 0)+1:Nat):Int))]:=by
    rw [hsA];refine Res.jump _ 32 1 0 _ _ fun L hL=> ?_
    rw [j3 L hL,hpo];show wU (_-(s1.code.length:Int))=_;rw [e0]
    congr 1
    omega
   have e1:sA.code.length=s.code.length+iK es+1:=by
    rw [g1.len];show s1.code.length+1=_;rw [e0]
   have g2:=hb K2 j1 j2 sA;rw [e1,←hsB]at g2;have e2:=g2.len;rw [eG,e1]at e2;have g3:Res K2 sB sC (if els.length>0 then [qi 40 0 0 (wU ((eR els+1:Nat):Int))]else []):=by
    rw [hsC];by_cases h:els.length>0
    ·rw [ak h,ak h];refine Res.jump _ 40 0 0 _ _ fun L hL=> ?_
     rw [j4 L hL,e2,hpo,ak h]
     congr 1
     omega
    ·rw [ac h,ac h];exact Res.nil _
   have e3:=g3.len;have e4:s.code.length+iK es+1+eR body+(if els.length>0 then [qi 40 0 0 (wU ((eR els+1:Nat):Int))]else []).length=po:=by
    rw [hpo];split<;>rfl
   rw [e2,e4]at e3;have g4:=(g1.seq (g2.seq g3))
   have ee:({s1 with labs:=s1.labs++ [0,0]}:Qg)=s1.lab.lab:=by
    show _=Qg.mk _ _ ((s1.labs++ [0])++ [0]);rw [List.append_assoc];rfl
   rw [←ee]at g4;have g6:=Res.relab (s2:=sC.place s1.labs.length) [0,0] [(po:Int),0] J g4 J J (fun ls hls=>by
     show List.set sC.labs ((s1.labs.length:Int).toNat) (sC.code.length:Int)=_;rw [hls,e3,Int.toNat_natCast];simp)
   have g5:=he K2 j1 j2 (sC.place s1.labs.length);have e5:(sC.place s1.labs.length).code.length=po:=e3;rw [e5,←hsD]at g5;have e6:=g5.len;rw [e5,eG]at e6;have g7:=g6.seq g5;rw [hK2]at g7;refine Res.labels [(po:Int),0] [(po:Int),((po+eR els:Nat):Int)] J (s':=sD) ?_ J J (fun ls hls=> ?_)
   ·simpa only [List.append_assoc]using g7
   ·show List.set sD.labs (((s1.labs.length:Int)+1).toNat) (sD.code.length:Int)=_;rw [hls,e6,show((s1.labs.length:Int)+1).toNat=s1.labs.length+1 by omega,ua]
  ·refine h0.seq ?_;generalize hs1:ky o st es s0=s1;rw [hs1]at e0;have hb:=fun(K:(Int→Int)→Prop)(a:∀L,K L→∀x,L (bn st x)=S x)(b:∀L,K L→L en=E)(s:Qg)=>kx (o:=o) (st:=st) (en:=en) (E:=E) (S:=S) (K:=K) body s a b
   simp only [eG];obtain⟨sA,hsA⟩:∃x,x=s1.lab.jump 32 1 0 s1.labs.length:=⟨_,J⟩
   obtain⟨sB,hsB⟩:∃x,x=gj o st en body sA:=⟨_,J⟩
   obtain⟨K2,hK2⟩:∃K2:(Int→Int)→Prop,K2=(fun L=>K' L∧L (s1.labs.length:Int)=((s.code.length+iK es+eR body+2:Nat):Int)):=⟨_,J⟩
   have j1:∀L,K2 L→∀x,L (bn st x)=S x:=fun L h=>k1 L (by rw [hK2]at h;exact h.1)
   have j2:∀L,K2 L→L en=E:=fun L h=>k2 L (by rw [hK2]at h;exact h.1)
   have g1:Res K2 s1.lab sA [qi 32 1 0 (wU ((eR body+2:Nat):Int))]:=by
    rw [hsA];refine Res.jump _ 32 1 0 _ _ fun L hL=> ?_
    rw [hK2]at hL;rw [hL.2];show wU (_-(s1.code.length:Int))=_;rw [e0]
    congr 1
    omega
   have e1:sA.code.length=s.code.length+iK es+1:=by
    rw [g1.len];show s1.code.length+1=_;rw [e0]
   have g2:=hb K2 j1 j2 sA;rw [e1,←hsB]at g2;have e2:=g2.len;rw [eG,e1]at e2;have g3:Res K2 sB (sB.jump 40 0 0 s.labs.length) [qi 40 0 0 (wU (-((eR body+iK es+1:Nat):Int)))]:=by
    refine Res.jump _ 40 0 0 _ _ fun L hL=> ?_
    rw [hK2]at hL;rw [k3 L hL.1,e2]
    congr 1
    omega
   have g4:=g1.seq (g2.seq g3);have e4:=g3.len;rw [e2]at e4;rw [hK2]at g4;rw [←hsA,←hsB];refine Res.one _ g4 ?_;rw [e4];show _=((s.code.length+iK es+1+eR body+1:Nat):Int);omega
theorem kx{o st:Om}{S:Ba→Int}{en E:Int}:∀{K:(Int→Int)→Prop}(l:List Ty)(s:Qg),(∀L,K L→∀x,L (bn st x)=S x)→(∀L,K L→L en=E)→Res K s (gj o st en l s) (jK o S E l s.code.length)
 | K,[],s,_,_=>Res.nil s
 | K,t::r,s,hK,hE=>by
  have h:=CA (o:=o) t s hK hE;unfold gj jK;rw [←h.len];exact h.seq (kx r _ hK hE)
end
theorem pY:∀(n:Nat)(s:Qg),Res K s (dn n s) (ig n)
 | 0,s=>Res.nil s
 | n+1,s=>(Res.push s 0).seq (pY n _)
theorem Il{st:Om}{S:Ba→Int}(hK:∀L,K L→∀x,L (bn st x)=S x)(f:Tf)(s:Qg)(hi:(bn st f.name).toNat<s.labs.length):
  Res K {s with labs:=s.labs.set (bn st f.name).toNat s.code.length} (gF st f s) (zF S f s.code.length):=by
 obtain⟨i,hi'⟩:∃i,i=(bn st f.name).toNat:=⟨_,J⟩
 obtain⟨s0,hs0⟩:∃s0:Qg,s0={s with labs:=s.labs.set i s.code.length}:=⟨_,J⟩
 obtain⟨lb,hlb⟩:∃lb,lb=s.labs.length:=⟨_,J⟩
 rw [←hi']at hi ⊢;have l0:s0.labs.length=lb:=by rw [hs0,hlb];exact List.length_set
 have c0:s0.code.length=s.code.length:=by rw [hs0]
 obtain⟨n,hn⟩:∃n,n=(cQ f).2.toNat:=⟨_,J⟩
 obtain⟨E,hE⟩:∃E,E=s.code.length+10+2*n+eR f.body:=⟨_,J⟩
 obtain⟨K2,hK2⟩:∃K2:(Int→Int)→Prop,K2=(fun L=>K L∧∀(i:Nat)(n:Int),[((s.code.length+4:Nat):Int),(E:Int)][i]?=some n→L ((s0.labs.length+i:Nat):Int)=n):=⟨_,J⟩
 have j1:∀L,K2 L→∀x,L (bn st x)=S x:=fun L h=>hK L (by rw [hK2]at h;exact h.1)
 have j2:∀L,K2 L→L (lb:Int)=((s.code.length+4:Nat):Int):=fun L h=>by rw [hK2]at h;rw [←l0];exact h.2 0 _ J
 have j3:∀L,K2 L→L ((lb:Int)+1)=(E:Int):=fun L h=>by
  rw [hK2]at h;have:=h.2 1 _ J;rw [l0]at this;exact this
 obtain⟨sP,hsP⟩:∃x:Qg,x={s0 with labs:=s0.labs++ [0,0]}:=⟨_,J⟩
 have cP:sP.code.length=s.code.length:=by rw [hsP];exact c0
 have eP:(s.lab.lab).place (bn st f.name)=sP:=by
  rw [hsP,hs0];show Qg.mk _ _ (((s.labs++ [0])++ [0]).set (bn st f.name).toNat s.code.length)=_;rw [←hi',List.append_assoc,List.set_append_left _ _ hi];rfl
 obtain⟨sA,hsA⟩:∃x,x=(((sP.emit [qi 16 12 12 1]).emit [qi 16 2 0 12]).jump 35 2 12 lb).emit [⟨49,0,0,0,0⟩]:=⟨_,J⟩
 have g1:Res K2 sP sA [qi 16 12 12 1,qi 16 2 0 12,qi 35 2 12 2,⟨49,0,0,0,0⟩]:=by
  rw [hsA];refine(((Res.emit _ [_]).seq (Res.emit _ [_])).seq (Res.jump _ 35 2 12 _ 2 fun L hL=> ?_)).seq (Res.emit _ [_]);rw [j2 L hL];show wU (_-((((sP.code++ [_])++ [_]).length:Nat):Int))=2;rw [bQ,bQ,cP];show wU (_-((s.code.length+1+1:Nat):Int))=2;rw [show((s.code.length+4:Nat):Int)-((s.code.length+1+1:Nat):Int)=((2:Nat):Int) by omega];exact we (by decide)
 have e1:sA.code.length=s.code.length+4:=by rw [g1.len,cP];rfl
 have g1b:Res K2 {s0 with labs:=s0.labs++ [((s.code.length+4:Nat):Int),0]} (sA.place lb) [qi 16 12 12 1,qi 16 2 0 12,qi 35 2 12 2,⟨49,0,0,0,0⟩]:=by
  rw [hsP]at g1;refine Res.relab [0,0] _ J g1 J J fun ls hls=> ?_
  show List.set sA.labs ((lb:Int).toNat) (sA.code.length:Int)=_;rw [hls,e1,Int.toNat_natCast,←l0];simp
 obtain⟨sB,hsB⟩:∃x,x=dn n ((((sA.place lb).push 15).push 13).emit [q3 1 13 14 0]):=⟨_,J⟩
 have g2:Res K2 (sA.place lb) sB (eO 15++(eO 13++([q3 1 13 14 0]++ig n))):=by
  rw [hsB];exact(Res.push _ 15).seq ((Res.push _ 13).seq ((Res.emit _ [_]).seq (pY n _)))
 have e2:sB.code.length=s.code.length+9+2*n:=by
  rw [g2.len];simp only [bQ,jj];show sA.code.length+_=_;rw [e1];simp only [eO,ca,cj];omega
 obtain⟨sC,hsC⟩:∃x,x=(gj (cQ f).1 st (lb+1) f.body sB).emit [q3 1 1 0 0]:=⟨_,J⟩
 have g3:Res K2 sB sC (jK (cQ f).1 S E f.body (s.code.length+9+2*n)++ [q3 1 1 0 0]):=by
  rw [hsC,←e2];exact(kx f.body sB j1 j3).seq (Res.emit _ _)
 have e3:sC.code.length=E:=by
  rw [g3.len,e2,hE];simp only [bQ,eG,ca,cj];omega
 have g4:=g1b.seq (g2.seq g3);have g5:=Res.relab (s2:=sC.place (lb+1)) [((s.code.length+4:Nat):Int),0] [((s.code.length+4:Nat):Int),(E:Int)] J g4 J J (fun ls hls=>by
  show List.set sC.labs (((lb:Int)+1).toNat) (sC.code.length:Int)=_;rw [hls,e3,show((lb:Int)+1).toNat=s0.labs.length+1 by omega,ua])
 have g6:=g5.seq ((Res.emit (sC.place (lb+1)) [q3 1 14 13 0]).seq ((Res.pop _ 13).seq ((Res.pop _ 15).seq ((Res.emit _ [qi 16 12 12 4294967295]).seq (Res.emit _ [qi 27 0 15 0])))));have g7:Res K s0 (((((sC.place (lb+1)).emit [q3 1 14 13 0]).pop 13).pop 15).emit [qi 16 12 12 4294967295] |>.emit [qi 27 0 15 0]) (zF S f s.code.length):=by
  refine Res.labels [((s.code.length+4:Nat):Int),(E:Int)] [((s.code.length+4:Nat):Int),(E:Int)] J (s':=((((sC.place (lb+1)).emit [q3 1 14 13 0]).pop 13).pop 15).emit [qi 16 12 12 4294967295] |>.emit [qi 27 0 15 0]) ?_ J J (fun ls h=>h);rw [←hK2];have:zF S f s.code.length=([qi 16 12 12 1,qi 16 2 0 12,qi 35 2 12 2,⟨49,0,0,0,0⟩]++((eO 15++(eO 13++([q3 1 13 14 0]++ig n)))++(jK (cQ f).1 S E f.body (s.code.length+9+2*n)++ [q3 1 1 0 0])))++([q3 1 14 13 0]++(jN 13++(jN 15++([qi 16 12 12 4294967295]++ [qi 27 0 15 0])))):=by
   unfold zF;rw [hE,hn];simp only [List.append_assoc];rfl
  rw [this];exact g6
 rw [hs0]at g7;have:gF st f s=(((((sC.place (lb+1)).emit [q3 1 14 13 0]).pop 13).pop 15).emit [qi 16 12 12 4294967295] |>.emit [qi 27 0 15 0]):=by
  rw [hsC,hsB,hsA,←eP,hn,hlb];rfl
 rw [this];exact g7
def dB(st:Om):List Tf→Nat→List Int→List Int
 | [],_,l=>l
 | f::r,p,l=>dB st r (p+wF f) (l.set (bn st f.name).toNat p)
theorem li(st:Om):∀(fs:List Tf)(p:Nat)(l:List Int),(dB st fs p l).length=l.length
 | [],_,_=>rfl
 | f::r,p,l=>by
  unfold dB;rw [li st r,List.length_set]
theorem oU(st:Om):∀(fs:List Tf)(p:Nat)(a b:List Int),(∀f∈fs,(bn st f.name).toNat<a.length)→dB st fs p (a++b)=dB st fs p a++b
 | [],_,_,_,_=>rfl
 | f::r,p,a,b,h=>by
  unfold dB;rw [List.set_append_left _ _ (h f (by simp)),oU st r _ _ b fun g hg=>by rw [List.length_set];exact h g (by simp [hg])]
theorem yP{st:Om}{S:Ba→Int}(hK:∀L,K L→∀x,L (bn st x)=S x):∀(fs:List Tf)(s:Qg),(∀f∈fs,(bn st f.name).toNat<s.labs.length)→
  Res K {s with labs:=dB st fs s.code.length s.labs} (p_ st fs s) (AX S fs s.code.length)
 | [],s,_=>Res.nil s
 | f::r,s,h=>by
  have hf:=h f (by simp);have g1:=Il hK f s hf;have e1:(gF st f s).code.length=s.code.length+wF f:=by
   have:=g1.len;rw [wc]at this;exact this
  obtain⟨raw,fx,ls,a1,a2,a3,a4,a5,a6⟩:=g1.ex;have hl:(gF st f s).labs.length≥s.labs.length:=by
   rw [a4,bQ,List.length_set];omega
  have g2:=yP hK r (gF st f s) (fun g hg=>by have:=h g (by simp [hg]);omega);rw [e1]at g2;have hr:∀g∈r,(bn st g.name).toNat<(s.labs.set (bn st f.name).toNat s.code.length).length:=fun g hg=>by rw [List.length_set];exact h g (by simp [hg])
  have g3:Res K {s with labs:=dB st (f::r) s.code.length s.labs} {gF st f s with labs:=dB st r (s.code.length+wF f) (gF st f s).labs} (zF S f s.code.length):=by
   refine⟨⟨raw,fx,ls,a1,a2,a3,?_,a5,fun L hL hi=>a6 L hL fun i n hn=> ?_⟩⟩
   ·show dB st r _ (gF st f s).labs=_;rw [a4,oU st r _ _ _ hr];rfl
   ·have:=hi i n hn;show L (((s.labs.set (bn st f.name).toNat s.code.length).length+i:Nat):Int)=n;rw [List.length_set];rw [show({s with labs:=dB st (f::r) s.code.length s.labs}:Qg).labs.length=s.labs.length from li st _ _ _]at this;exact this
  exact g3.seq g2
theorem Res.labs_le{K:(Int→Int)→Prop}{s s':Qg}{r:List Qi}(h:Res K s s' r):s.labs.length≤s'.labs.length:=by
 obtain⟨raw,fs,ls,-,-,-,a4,-⟩:=h.ex;rw [a4,bQ];omega
theorem CC(o st:Om)(t:Tx)(s:Qg):s.labs.length≤(gX o st t s).labs.length:=(xj (K:=fun _=>False) (S:=fun _=>0) (fun _ h=>h.elim) t s).labs_le
theorem yK(o st:Om)(t:List Tx)(s:Qg):s.labs.length≤(ky o st t s).labs.length:=(ot (K:=fun _=>False) (S:=fun _=>0) (fun _ h=>h.elim) t s).labs_le
theorem iO(o st:Om)(en:Int)(l:List Ty)(s:Qg):s.labs.length≤(gj o st en l s).labs.length:=(kx (K:=fun _=>False) (S:=fun _=>0) (E:=0) l s (fun _ h=>h.elim) (fun _ h=>h.elim)).labs_le
mutual
theorem KD(o st:Om)(en:Int):∀(t:Ty)(s:Qg),(gY o st en t s).sz≤s.sz+22*nY t
 | .mk k nm _ es _ body _ els,s=>by
  have hb:=iU o st en body;have hl:=iU o st en els;have h0:=xk o st es (s.lab.place s.labs.length);have h1:=yL o st es (s.lab.place s.labs.length);rw [bz,bZ]at h0 h1;unfold gY nY;dsimp only;refine cD ?_ (cD ?_ (cD ?_ (cD ?_ (cD ?_ (cD ?_ (by omega))))))
  ·simp only [bl,dP];omega
  ·simp only [bl,cV,dj,dP];omega
  ·simp only [bl,dP];omega
  ·simp only [bA];omega
  ·have b1:=hb (((ky o st es (s.lab.place s.labs.length)).lab.lab).jump 32 1 0 (ky o st es (s.lab.place s.labs.length)).labs.length);rw [bA,bZ,bZ]at b1;rw [bz];refine Nat.le_trans (hl _) ?_;rw [bz];have:(if els.length>0 then(gj o st en body (((ky o st es (s.lab.place s.labs.length)).lab.lab).jump 32 1 0 (ky o st es (s.lab.place s.labs.length)).labs.length)).jump 40 0 0 ((ky o st es (s.lab.place s.labs.length)).labs.length+1)else gj o st en body (((ky o st es (s.lab.place s.labs.length)).lab.lab).jump 32 1 0 (ky o st es (s.lab.place s.labs.length)).labs.length)).sz≤s.sz+22*fO es+22*ef body+7:=by
    refine cD ?_ ?_
    ·rw [bA];omega
    ·omega
   omega
  ·have b1:=hb ((ky o st es (s.lab.place s.labs.length)).lab.jump 32 1 0 (ky o st es (s.lab.place s.labs.length)).labs.length);rw [bA,bZ]at b1;rw [bz,bA];omega
theorem iU(o st:Om)(en:Int):∀(l:List Ty)(s:Qg),(gj o st en l s).sz≤s.sz+22*ef l
 | [],s=>Nat.le_add_right _ _
 | t::r,s=>by
  have h1:=KD o st en t s;have h2:=iU o st en r (gY o st en t s);unfold gj ef;omega
end
theorem uW{o st:Om}{en:Int}:∀{l:List Ty}{i:Nat}{u:Ty}(s:Qg),l[i]?=some u→gj o st en (l.take (i+1)) s=gY o st en u (gj o st en (l.take i) s)
 | [],i,u,s,h=>by simp at h
 | x::r,0,u,s,h=>by cases h;rfl
 | x::r,i+1,u,s,h=>uW (l:=r) _ h
structure Wy(t:Ty):Prop where
 one:t.kind≠3→∃a,t.es= [a]
 two:t.kind=3→∃a b,t.es= [a,b]
 es:∀u∈t.es,rX u=true
 body:kZ t.body=true
 els:kZ t.els=true
theorem Ju{t:Ty}(h:rY t=true):Wy t:=by
 obtain⟨k,nm,ve,es,vb,body,vl,els⟩:=t;unfold rY at h;simp only [Bool.and_eq_true]at h;obtain⟨⟨⟨h1,h2⟩,h3⟩,h4⟩:=h;unfold F1 at h1;simp only [Bool.and_eq_true,decide_eq_true_eq]at h1;have h5:=h1.1.1.1.2;refine⟨fun hk=> ?_,fun hk=> ?_,sL h2,h3,h4⟩
 ·rw [ac (show ¬k=3 from hk)]at h5;exact sX h5
 ·rw [ak (show k=3 from hk)]at h5;exact A8 h5
theorem ym:∀{l:List Ty},kZ l=true→∀u∈l,rY u=true
 | [],_,_,h=>by simp at h
 | t::r,h,u,hu=>by
  unfold kZ at h;rw [Bool.and_eq_true]at h;rcases List.mem_cons.1 hu with rfl|hu
  ·exact h.1
  ·exact ym h.2 u hu
abbrev iy(s:Qg):Qg:=s.lab.place s.labs.length
theorem KF{o st:Om}{en:Int}{t:Ty}{a:Tx}{s:Qg}(h:t.kind=1∨t.kind=2)(he:t.es= [a]):gY o st en t s=(gX o st a (iy s)).emit [qi 25 1 13 (bn o t.name)]:=by
 obtain⟨k,nm,ve,es,vb,body,vl,els⟩:=t;obtain rfl:es= [a]:=he;exact ak h
theorem Ne{o st:Om}{en:Int}{t:Ty}{a b:Tx}{s:Qg}(h:t.kind=3)(he:t.es= [a,b]):gY o st en t s=(((gX o st b ((gX o st a (iy s)).push 1)).pop 2).elem 2).emit [qi 25 1 2 8192]:=by
 obtain⟨k,nm,ve,es,vb,body,vl,els⟩:=t;obtain rfl:es= [a,b]:=he;obtain rfl:k=3:=h;rfl
theorem Na{o st:Om}{en:Int}{t:Ty}{a:Tx}{s:Qg}(h:t.kind=7)(he:t.es= [a]):gY o st en t s=(gX o st a (iy s)).emit [⟨48,0,0,0,1⟩]:=by
 obtain⟨k,nm,ve,es,vb,body,vl,els⟩:=t;obtain rfl:es= [a]:=he;obtain rfl:k=7:=h;rfl
theorem Nb{o st:Om}{en:Int}{t:Ty}{a:Tx}{s:Qg}(h:t.kind=6)(he:t.es= [a]):gY o st en t s=(gX o st a (iy s)).jump 40 0 0 en:=by
 obtain⟨k,nm,ve,es,vb,body,vl,els⟩:=t;obtain rfl:es= [a]:=he;obtain rfl:k=6:=h;rfl
theorem Nd{o st:Om}{en:Int}{t:Ty}{a:Tx}{s s1:Qg}(h:t.kind=4)(he:t.es= [a])(h1:s1=gX o st a (iy s)):gY o st en t s=
  (gj o st en t.els ((if t.els.length>0 then(gj o st en t.body ((s1.lab.lab).jump 32 1 0 s1.labs.length)).jump 40 0 0 (s1.labs.length+1)else gj o st en t.body ((s1.lab.lab).jump 32 1 0 s1.labs.length)).place s1.labs.length)).place (s1.labs.length+1):=by
 obtain⟨k,nm,ve,es,vb,body,vl,els⟩:=t;obtain rfl:es= [a]:=he;obtain rfl:k=4:=h;subst h1;rfl
theorem Nc{o st:Om}{en:Int}{t:Ty}{a:Tx}{s s1:Qg}(h:t.kind=5)(he:t.es= [a])(h1:s1=gX o st a (iy s)):gY o st en t s=((gj o st en t.body (s1.lab.jump 32 1 0 s1.labs.length)).jump 40 0 0 s.labs.length).place s1.labs.length:=by
 obtain⟨k,nm,ve,es,vb,body,vl,els⟩:=t;obtain rfl:es= [a]:=he;obtain rfl:k=5:=h;subst h1;rfl
theorem M_{o st:Om}{en:Int}{t:Ty}{a:Tx}{s:Qg}(n1:¬t.kind=1)(n2:¬t.kind=2)(n3:¬t.kind=3)(n4:¬t.kind=4)(n5:¬t.kind=5)(n6:¬t.kind=6)(n7:¬t.kind=7)(he:t.es= [a]):gY o st en t s=gX o st a (iy s):=by
 obtain⟨k,nm,ve,es,vb,body,vl,els⟩:=t;obtain rfl:es= [a]:=he;have n1:¬k=1:=n1;have n2:¬k=2:=n2;have n3:¬k=3:=n3;have n4:¬k=4:=n4;have n5:¬k=5:=n5;have n6:¬k=6:=n6;have n7:¬k=7:=n7;unfold gY;dsimp only;rw [ac (fun h=>h.elim n1 n2),ac n3,ac n7,ac n6,ac n4,ac n5];rfl
theorem lD{t:Ty}{a:Tx}{r:List Tx}(hw:Wy t)(h:t.kind≠3)(he:t.es=a::r):t.es= [a]:=by
 obtain⟨b,hb⟩:=hw.one h;rw [hb]at he;cases he;exact hb
theorem It{t:Ty}{a:Tx}{r:List Tx}(hw:Wy t)(h:t.kind=3)(he:t.es=a::r):∃b,t.es= [a,b]:=by
 obtain⟨c,b,hb⟩:=hw.two h;rw [hb]at he;cases he;exact⟨b,hb⟩
theorem Cq(e:Ga)(c:Oq)(om sm:Om)(hm:e.mp=c.m)(t:Ty)(hw:Wy t)(hg:GY t)(ihb:∀s:Qg,s.sz+22*ef t.body≤780000→Spec prog 96 [Pt e.g,sv t.vb] [gA e s] [ck t.vb t.body,g9 e.g c,mp fG Prod.fst vQ e.mo om,mp fG Prod.fst vI (some e.ms) sm] (X:=Unit) (fun _=>True) (fun _=> .tuple #[]) (fun _=> [gA e (gj om sm e.en t.body s)]) (fun _=> []))(ihe:∀s:Qg,s.sz+22*ef t.els≤780000→Spec prog 96 [Pt e.g,sv t.vl] [gA e s] [ck t.vl t.els,g9 e.g c,mp fG Prod.fst vQ e.mo om,mp fG Prod.fst vI (some e.ms) sm] (X:=Unit) (fun _=>True) (fun _=> .tuple #[]) (fun _=> [gA e (gj om sm e.en t.els s)]) (fun _=> []))(s:Qg)(hz:s.sz+22*nY t≤780000)(he0:0≤e.en):
  aN prog 130 [Pt e.g,yV t] [gA e s] [cx t.ve t.es,ck t.vb t.body,ck t.vl t.els,g9 e.g c,mp fG Prod.fst vQ e.mo om,mp fG Prod.fst vI (some e.ms) sm] (.tuple #[]) [gA e (gY om sm e.en t s)]:=by
 refine ay func130 J ntmps130 J fun w0 M H=>bx 0 9 J jU (bx 2 11 J jS ?_)
 have hne:=F6 t;obtain⟨a,ra,hea⟩:∃a r,t.es=a::r:=by
  by_cases h3:t.kind=3
  ·obtain⟨a,b,h⟩:=hw.two h3;exact⟨a,[b],h⟩
  ·obtain⟨a,h⟩:=hw.one h3;exact⟨a,[],h⟩
 have hna:fO t.es=nX a+fO ra:=by rw [hea];rfl
 have ham:a∈t.es:=by rw [hea];simp
 have hgt:(iy s).sz=s.sz+1:=by rw [bz,bZ]
 have hsa:=ld om sm a (iy s);rw [hgt]at hsa;have hla:=CC om sm a (iy s);refine am (cB J J fun b3=>aw J (ab J (ae (xs:= [.tmp 8]) (eM e (s) (by omega)) tG [0] [] [0] (fun _ _=>ao J (aw J (ab J (ab J (ae (xs:= [.tmp 10,.tmp 11]) (dW e (s.lab) (by rw [bZ];omega) ((s.labs.length:Int)) (by simp [Qg.lab];omega)) qz [0] [] [0] (fun _ _=>aw J (ab J (aA nf J ?_)))))))))));refine aL 3 n9 J J J J (aJ (aQ (j:=0) underlying59 dr J J (aP (k:=9) J) J (by rw [hea];simp)) ?_);refine vU (aM dr J J J (ci (aP (k:=9) J) (by intro _;rfl) (show t.es[0]?=some a by rw [hea];rfl) (by rfl))) J ?_;refine bx 0 10 J (ft ham) (ct (xs:= [.tmp 13,.tmp 17]) (uU e c om sm hm a (hw.es _ ham) ((vP hg).2.mem _ ham) (iy s) (by omega)) qA [0] [(false,10),(false,3),(false,4),(false,5)] [0] J J J (fun _ _=>aw J (aA iA J (aL 3 t3 J J J J (aa (aC (aR (ap J J bj (ao J (aa (ai J (fun h1=> ?_) (fun h1=> ?_))))))))))))
 ·(try simp only [aX]at h1);have k1:t.kind=1:=h1;refine az (ai J (fun h2=> ?_) (fun h2=> ?_))
  ·(try simp only [aX]at h2);rw [KF (.inl k1) (lD hw (by omega) hea)];refine bV [24,25,26,27,28,29,30,31,32] _ J (bk (V:= [(0,24,_),(1,25,_),(2,26,_),(3,27,_),(4,28,_),(5,29,_),(6,30,_),(7,31,_)]) [0,1,2,3,4,5,6,7] 8 [8,7,6,5,4,3,2,1,0] [] (fun _=> []) J J (aK J J (aK J J (ad J (av J) (ad J (ah kI J) (ad J (ag zE J J (m7 (k:=0) J (fun _=>J) J)) (ad J (ah lB J) (ad J (ag t9 J J (aB (k:=3) J J)) (ad J (BN underlying108 eo dy J J (rL (k:=4) J)) au)))))))) J J J J J J J J J J J (fun _ _=>J) J (bS (xs:= [.tmp 24,.const (I6 25),.const (I6 1),.const (I6 13),.tmp 31]) (cJ e (gX om sm a (iy s)) (by omega) 25 1 13 (bn om t.name)) iM [0] [] [0]) (fun _ _=>br [] J J au J J J (bP () O J fw J [0] [] J J J)))
  ·exact absurd k1 (e9 h2)
 ·(try simp only [aX]at h1);have n1:¬t.kind=1:=h1;refine aj (ap J J bj (ao J (aa (ai J (fun h3=> ?_) (fun h3=> ?_)))))
  ·(try simp only [aX]at h3);have k2:t.kind=2:=h3;rw [KF (.inr k2) (lD hw (by omega) hea)];refine bV [24,25,26,27,28,29,30,31,32] _ J (bk (V:= [(0,24,_),(1,25,_),(2,26,_),(3,27,_),(4,28,_),(5,29,_),(6,30,_),(7,31,_)]) [0,1,2,3,4,5,6,7] 8 [8,7,6,5,4,3,2,1,0] [] (fun _=> []) J J (aK J J (aK J J (ad J (av J) (ad J (ah kI J) (ad J (ag zE J J (m7 (k:=0) J (fun _=>J) J)) (ad J (ah lB J) (ad J (ag t9 J J (aB (k:=3) J J)) (ad J (BN underlying108 eo dy J J (rL (k:=4) J)) au)))))))) J J J J J J J J J J J (fun _ _=>J) J (bS (xs:= [.tmp 24,.const (I6 25),.const (I6 1),.const (I6 13),.tmp 31]) (cJ e (gX om sm a (iy s)) (by omega) 25 1 13 (bn om t.name)) iM [0] [] [0]) (fun _ _=>br [] J J au J J J (bP () O J fw J [0] [] J J J)))
  ·(try simp only [aX]at h3);have n2:¬t.kind=2:=h3;refine am (ap J J bj (ao J (aa (ai J (fun h4=> ?_) (fun h4=> ?_)))))
   ·(try simp only [aX]at h4);have hk:t.kind=3:=h4;obtain⟨b,heb⟩:=It hw hk hea;have hbm:b∈t.es:=by rw [heb];simp
    have hnb:fO t.es=nX a+nX b:=by rw [heb];simp [fO]
    have hsb:=ld om sm b ((gX om sm a (iy s)).push 1);rw [cr]at hsb;rw [Ne hk heb];refine am (ab J (ae (xs:= [.tmp 35,.const (I6 1)]) (ib e (gX om sm a (iy s)) (by omega) 1) AG [0] [] [0] (fun _ _=>aw J (ab J (aA nf J (aL 3 n9 J J J J (aJ (aQ (j:=1) underlying59 dr J J (aP (k:=9) J) J (by rw [heb];simp)) ?_)))))));refine vU (aM dr J J J (ci (aP (k:=9) J) (by intro _;rfl) (show t.es[1]?=some b by rw [heb];rfl) (by rfl))) J ?_;refine bx 0 10 J (ft hbm) (ct (xs:= [.tmp 37,.tmp 41]) (uU e c om sm hm b (hw.es _ hbm) ((vP hg).2.mem _ hbm) ((gX om sm a (iy s)).push 1) (by rw [cr];omega)) qA [0] [(false,10),(false,3),(false,4),(false,5)] [0] J J J (fun _ _=>aw J (ab J (ae (xs:= [.tmp 43,.const (I6 2)]) (mb e (gX om sm b ((gX om sm a (iy s)).push 1)) (by omega) 2) FC [0] [] [0] (fun _ _=>aw J (ab J (ae (xs:= [.tmp 45,.const (I6 2)]) (rU e ((gX om sm b ((gX om sm a (iy s)).push 1)).pop 2) (by rw [dj];omega) 2) Gu [0] [] [0] (fun _ _=>aa (aj (ab J (ae (xs:= [.tmp 47,.const (I6 25),.const (I6 1),.const (I6 2),.const (I3 8192)]) (cJ e (((gX om sm b ((gX om sm a (iy s)).push 1)).pop 2).elem 2) (by rw [cV,dj];omega) 25 1 2 8192) iM [0] [] [0] (fun _ _=>aa (bP () O J fw J [0] [] J J J)))))))))))))
   ·(try simp only [aX]at h4);have n3:¬t.kind=3:=h4;refine am (ap J J bj (ao J (aa (ai J (fun h5=> ?_) (fun h5=> ?_)))))
    ·(try simp only [aX]at h5);have hk:t.kind=7:=h5;rw [Na hk (lD hw (by omega) hea)];refine aj (ab J (aJ (aW (parts:= [(0,.const (I6 48)),(4,.const (I3 1))]) ey k8 J J) (bH gM ⟨48,0,0,0,1⟩ underlying106 ey J (by decide) (by decide) J J J J fun v53=>cq 53 7 J bI (ae (xs:= [.tmp 51,.tmp 53]) (gr e (gX om sm a (iy s)) (by omega) v53 [⟨48,0,0,0,1⟩] (by simp)) vC [0] [(false,7)] [0] (fun _ _=>aa (bP () O J fw J [0] [] J J J))))))
    ·(try simp only [aX]at h5);have n7:¬t.kind=7:=h5;refine am (ap J J bj (ao J (aa (ai J (fun h6=> ?_) (fun h6=> ?_)))))
     ·(try simp only [aX]at h6);have hk:t.kind=6:=h6;rw [Nb hk (lD hw (by omega) hea)];refine aj (ab J (ab J (bq J (aA tx J (aJ (ag t3 J J (m7 (k:=0) J (fun _=>J) J)) (ae (xs:= [.tmp 57,.const (I6 40),.const (I6 0),.const (I6 0),.tmp 61]) (eY e (gX om sm a (iy s)) (by omega) 40 0 0 e.en) q_ [0] [] [0] (fun _ _=>aa (bP () O J fw J [0] [] J J J))))))))
     ·(try simp only [aX]at h6);have n6:¬t.kind=6:=h6;refine am (ap J J bj (ao J (aa (ai J (fun h7=> ?_) (fun h7=> ?_)))))
      ·(try simp only [aX]at h7);have hk:t.kind=4:=h7;obtain⟨s1,hs1⟩:∃s1,s1=gX om sm a (iy s):=⟨_,J⟩
       rw [Nd hk (lD hw (by omega) hea) hs1];rw [←hs1]at hsa hla ⊢;have hb:=iU om sm e.en t.body ((s1.lab.lab).jump 32 1 0 s1.labs.length);rw [bA,bZ,bZ]at hb;have lb:=iO om sm e.en t.body ((s1.lab.lab).jump 32 1 0 s1.labs.length);have ll:((s1.lab.lab).jump 32 1 0 s1.labs.length).labs.length=s1.labs.length+2:=by simp [Qg.lab,Qg.jump]
       
       refine am (ab J (ae (xs:= [.tmp 65]) (eM e (s1) (by omega)) tG [0] [] [0] (fun _ _=>ab J (ae (xs:= [.tmp 67]) (eM e (s1.lab) (by rw [bZ];omega)) tG [0] [] [0] (fun _ _=> ?_)))))
       with_reducible rw [show((s1.lab.labs.length:Nat):Int)=(s1.labs.length:Int)+1 from by simp [Qg.lab]]
       refine ao J (ao J (aw J (ab J (ab J (ae (xs:= [.tmp 69,.const (I6 32),.const (I6 1),.const (I6 0),.tmp 70]) (eY e (s1.lab.lab) (by rw [bZ,bZ];omega) 32 1 0 (s1.labs.length:Int)) q_ [0] [] [0] (fun _ _=>aw J (ab J (aA jt J (aL 3 n8 J J J J (ae (xs:= [.tmp 72,.tmp 74]) (ihb ((s1.lab.lab).jump 32 1 0 s1.labs.length) (by rw [bA,bZ,bZ];omega)) Df [0] [(false,1),(false,3),(false,4),(false,5)] [0] (fun _ _=>aa (aR (aA jr J ?_)))))))))))));refine aL 3 n8 J J J J (aJ (aZ underlying62 J (aP (k:=11) J)) (ap J J ge (aa (ai J (fun h8=> ?_) (fun h8=> ?_)))))
       ·(try simp only [aX]at h8);obtain⟨sC,hC⟩:∃sC,sC=(gj om sm e.en t.body ((s1.lab.lab).jump 32 1 0 s1.labs.length)).jump 40 0 0 (s1.labs.length+1):=⟨_,J⟩
        rw [ak (show t.els.length>0 by omega),←hC];have hsC:sC.sz≤s1.sz+22*ef t.body+6∧s1.labs.length+2≤sC.labs.length:=by rw [hC];(refine⟨?_,?_⟩;rw [bA];omega;show _≤(gj om sm e.en t.body ((s1.lab.lab).jump 32 1 0 s1.labs.length)).labs.length;omega)
        have hle:=iU om sm e.en t.els (sC.place s1.labs.length);rw [bz]at hle;have lle:=iO om sm e.en t.els (sC.place s1.labs.length);have lpl:(sC.place s1.labs.length).labs.length=sC.labs.length:=by simp [Qg.place]
        refine aj (ab J (ab J (ae (xs:= [.tmp 80,.const (I6 40),.const (I6 0),.const (I6 0),.tmp 81]) (eY e (gj om sm e.en t.body ((s1.lab.lab).jump 32 1 0 s1.labs.length)) (by omega) 40 0 0 (s1.labs.length+1)) q_ [0] [] [0] (fun _ _=> ?_))));rw [←hC];refine aw J (ab J (ab J (ae (xs:= [.tmp 83,.tmp 84]) (dW e (sC) (by omega) ((s1.labs.length:Int)) (by omega)) qz [0] [] [0] (fun _ _=>aw J (ab J (aA jr J (aL 3 n8 J J J J (ae (xs:= [.tmp 86,.tmp 88]) (ihe (sC.place s1.labs.length) (by rw [bz];omega)) Df [0] [(false,2),(false,3),(false,4),(false,5)] [0] (fun _ _=>aa (aj (ab J (ab J (ae (xs:= [.tmp 90,.tmp 91]) (dW e (gj om sm e.en t.els (sC.place s1.labs.length)) (by omega) ((s1.labs.length+1:Int)) (by omega)) qz [0] [] [0] (fun _ _=>aa (bP () O J fw J [0] [] J J J)))))))))))))))
       ·(try simp only [aX]at h8);obtain⟨sC,hC⟩:∃sC,sC=gj om sm e.en t.body ((s1.lab.lab).jump 32 1 0 s1.labs.length):=⟨_,J⟩
        rw [ac (show ¬t.els.length>0 by omega),←hC];have hsC:sC.sz≤s1.sz+22*ef t.body+6∧s1.labs.length+2≤sC.labs.length:=by rw [hC];(refine⟨?_,?_⟩<;>omega)
        have hle:=iU om sm e.en t.els (sC.place s1.labs.length);rw [bz]at hle;have lle:=iO om sm e.en t.els (sC.place s1.labs.length);have lpl:(sC.place s1.labs.length).labs.length=sC.labs.length:=by simp [Qg.place]
        refine az (am (ab J (ab J (ae (xs:= [.tmp 83,.tmp 84]) (dW e (sC) (by omega) ((s1.labs.length:Int)) (by omega)) qz [0] [] [0] (fun _ _=>aw J (ab J (aA jr J (aL 3 n8 J J J J (ae (xs:= [.tmp 86,.tmp 88]) (ihe (sC.place s1.labs.length) (by rw [bz];omega)) Df [0] [(false,2),(false,3),(false,4),(false,5)] [0] (fun _ _=>aa (aj (ab J (ab J (ae (xs:= [.tmp 90,.tmp 91]) (dW e (gj om sm e.en t.els (sC.place s1.labs.length)) (by omega) ((s1.labs.length+1:Int)) (by omega)) qz [0] [] [0] (fun _ _=>aa (bP () O J fw J [0] [] J J J))))))))))))))))
      ·(try simp only [aX]at h7);have n4:¬t.kind=4:=h7;refine am (ap J J bj (ao J (aa (ai J (fun h9=> ?_) (fun h9=> ?_)))))
       ·(try simp only [aX]at h9);have hk:t.kind=5:=h9;obtain⟨s1,hs1⟩:∃s1,s1=gX om sm a (iy s):=⟨_,J⟩
        rw [Nc hk (lD hw (by omega) hea) hs1];rw [←hs1]at hsa hla ⊢;have hb:=iU om sm e.en t.body (s1.lab.jump 32 1 0 s1.labs.length);rw [bA,bZ]at hb;have lb:=iO om sm e.en t.body (s1.lab.jump 32 1 0 s1.labs.length);have ll:(s1.lab.jump 32 1 0 s1.labs.length).labs.length=s1.labs.length+1:=by simp [Qg.lab,Qg.jump]
        have lj:((gj om sm e.en t.body (s1.lab.jump 32 1 0 s1.labs.length)).jump 40 0 0 s.labs.length).labs.length=(gj om sm e.en t.body (s1.lab.jump 32 1 0 s1.labs.length)).labs.length:=by simp [Qg.jump]
        refine am (ab J (ae (xs:= [.tmp 95]) (eM e (s1) (by omega)) tG [0] [] [0] (fun _ _=>ao J (aw J (ab J (ab J (ae (xs:= [.tmp 97,.const (I6 32),.const (I6 1),.const (I6 0),.tmp 98]) (eY e (s1.lab) (by rw [bZ];omega) 32 1 0 (s1.labs.length:Int)) q_ [0] [] [0] (fun _ _=>aw J (ab J (aA jt J (aL 3 n8 J J J J (ae (xs:= [.tmp 100,.tmp 102]) (ihb (s1.lab.jump 32 1 0 s1.labs.length) (by rw [bA,bZ];omega)) Df [0] [(false,1),(false,3),(false,4),(false,5)] [0] (fun _ _=>aa (aT ?_))))))))))))));refine aj (ab J (ab J (ae (xs:= [.tmp 104,.const (I6 40),.const (I6 0),.const (I6 0),.tmp 105]) (eY e (gj om sm e.en t.body (s1.lab.jump 32 1 0 s1.labs.length)) (by omega) 40 0 0 (s.labs.length:Int)) q_ [0] [] [0] (fun _ _=>aa (aj (ab J (ab J (ae (xs:= [.tmp 107,.tmp 108]) (dW e ((gj om sm e.en t.body (s1.lab.jump 32 1 0 s1.labs.length)).jump 40 0 0 s.labs.length) (by rw [bA];omega) ((s1.labs.length:Int)) (by omega)) qz [0] [] [0] (fun _ _=>aa (bP () O J fw J [0] [] J J J))))))))))
       ·(try simp only [aX]at h9);have n5:¬t.kind=5:=h9;rw [M_ n1 n2 n3 n4 n5 n6 n7 (lD hw (by omega) hea)];refine az (bP () O J fw J [0] [] J J J)
theorem Cx(e:Ga)(c:Oq)(om sm:Om)(v:SV)(l:List Ty)(hl:l.length≤1000000)(ih:∀u∈l,∀s:Qg,s.sz+22*nY u≤780000→Spec prog 130 [Pt e.g,yV u] [gA e s] [cx u.ve u.es,ck u.vb u.body,ck u.vl u.els,g9 e.g c,mp fG Prod.fst vQ e.mo om,mp fG Prod.fst vI (some e.ms) sm] (X:=Unit) (fun _=>True) (fun _=> .tuple #[]) (fun _=> [gA e (gY om sm e.en u s)]) (fun _=> []))(s:Qg)(hz:s.sz+22*ef l≤780000):
  aN prog 96 [Pt e.g,sv v] [gA e s] [ck v l,g9 e.g c,mp fG Prod.fst vQ e.mo om,mp fG Prod.fst vI (some e.ms) sm] (.tuple #[]) [gA e (gj om sm e.en l s)]:=by
 refine ay func96 J ntmps96 J fun w0 M H=>bx 0 9 J jS (am (ab J (aJ (aZ underlying62 J (aP (k:=9) J)) (ab J (aa (aC (bC (X:=Nat) (fun i=>i≤l.length) (fun i=> [(0,Pt e.g),(6,sv v),(7,I6 (l.length:Int)),(8,I6 (i:Int))]) (fun i=> [(0,gA e (gj om sm e.en (l.take i) s))]) (fun i=> [(0,ck v l),(1,g9 e.g c),(2,mp fG Prod.fst vQ e.mo om),(3,mp fG Prod.fst vI (some e.ms) sm),(9,sl 5 iR (sv v) l)]) (fun i=>l.length-i) 0 (bE _) J J J (fun i n1=>am (ap J J cG (aa (aT (ai J (fun h1=> ?_) (fun h1=> ?_)))))))))))))
 ·(try simp only [aX]at h1);have hi:i<l.length:=by omega
  obtain⟨kid,hkid⟩:∃k,l[i]?=some k:=⟨_,bO hi⟩
  have hkm:=cO hkid;have hle:=wT l (i+1);rw [pr hkid]at hle;have hsi:=iU om sm e.en (l.take i) s;refine az (aT (aC (am (aJ (aQ (j:=i) underlying62 fE J J (aP (k:=9) J) (by first|rfl|omega) (by first|omega|(simp;done)|(simp;omega))) (aJ (aM fE J J J (ci (aP (k:=9) J) (by intro _;rfl) hkid (by rfl))) (aU fE J J fun b5=>aq (k:=5) fE J J J J J J (aa (aj (ab J (aJ (aM fE J J J (bh (k:=5) J)) (bx 0 11 J (sh hkm) (bx 0 12 J (jT hkm) (bx 0 13 J (lV hkm) (ae (xs:= [.tmp 12,.tmp 13]) (ih kid hkm (gj om sm e.en (l.take i) s) (by omega)) LS [0] [(false,11),(false,12),(false,13),(false,1),(false,2),(false,3)] [0] (fun _ _=>aa (aj (ap J J aY ?_)))))))))))))))));refine ab J (aa ?_);refine aI (i+1) ⟨by omega,by omega⟩ J (by rw [uW s hkid];rfl) J
 ·(try simp only [aX]at h1);have hi:i=l.length:=by omega
  subst hi;rw [eA];refine bF (bP () O J fw J [0] [] J J J)
theorem tn(e:Ga)(c:Oq)(om sm:Om)(hm:e.mp=c.m)(he0:0≤e.en):∀(n:Nat)(v:SV)(l:List Ty),SizeOf.sizeOf l<n→kZ l=true→GYs l→l.length≤1000000→∀s:Qg,s.sz+22*ef l≤780000→aN prog 96 [Pt e.g,sv v] [gA e s] [ck v l,g9 e.g c,mp fG Prod.fst vQ e.mo om,mp fG Prod.fst vI (some e.ms) sm] (.tuple #[]) [gA e (gj om sm e.en l s)]
 | 0,_,_,h,_,_,_=>absurd h (Nat.not_lt_zero _)
 | n+1,v,l,h,hr,hg,hl=>fun s hz=>Cx e c om sm v l hl (fun u hu s hz=>by
   have hlt:=List.sizeOf_lt_of_mem hu;have hw:=Ju (ym hr u hu);have hgu:=hg.mem u hu;have hb:SizeOf.sizeOf u.body<SizeOf.sizeOf u:=by cases u;simp [Ty.body];omega
   have hl':SizeOf.sizeOf u.els<SizeOf.sizeOf u:=by cases u;simp [Ty.els];omega
   exact Cq e c om sm hm u hw hgu (fun s hz=>tn e c om sm hm he0 n u.vb u.body (by omega) hw.body (gw hgu).2 (gw hgu).1 s hz) (fun s hz=>tn e c om sm hm he0 n u.vl u.els (by omega) hw.els (iV hgu).2 (iV hgu).1 s hz) s hz he0) s hz
theorem Cy(e:Ga)(c:Oq)(om sm:Om)(hm:e.mp=c.m)(he0:0≤e.en)(v:SV)(l:List Ty)(hr:kZ l=true)(hg:GYs l)(hl:l.length≤1000000)(s:Qg)(hz:s.sz+22*ef l≤780000):aN prog 96 [Pt e.g,sv v] [gA e s] [ck v l,g9 e.g c,mp fG Prod.fst vQ e.mo om,mp fG Prod.fst vI (some e.ms) sm] (.tuple #[]) [gA e (gj om sm e.en l s)]:=tn e c om sm hm he0 _ v l (Nat.lt_succ_self _) hr hg hl s hz
theorem u6:∀{l:List Ty}{i:Nat}{u:Ty}(p:Om×Int),l[i]?=some u→gDs (l.take (i+1)) p=gD u (gDs (l.take i) p)
 | [],i,u,p,h=>by simp at h
 | x::r,0,u,p,h=>by cases h;rfl
 | x::r,i+1,u,p,h=>u6 (l:=r) _ h
theorem CL(t:Ty)(p:Om×Int):gD t p=gDs t.els (gDs t.body (if t.kind=1 then(fC p.1 t.name (wU (-(4*(p.2+1)))),p.2+1)else p)):=by cases t;rfl
mutual
theorem Nm:∀(t:Ty)(p:Om×Int),(gD t p).2=p.2+vY t
 | .mk k nm _ _ _ body _ els,p=>by
  rw [CL];show(gDs els (gDs body _)).2=_;rw [nI els,nI body];unfold vY;show(if k=1 then _ else p).2+_+_=_;by_cases h:k=1
  ·rw [ak h,ak h];show p.2+1+_+_=_;omega
  ·rw [ac h,ac h];omega
theorem nI:∀(l:List Ty)(p:Om×Int),(gDs l p).2=p.2+dF l
 | [],p=>by show p.2=p.2+((0:Nat):Int);omega
 | t::r,p=>by
  show(gDs r (gD t p)).2=_;rw [nI r,Nm t,show dF (t::r)=vY t+dF r from J];omega
end
theorem Aq(g:Nat)(vp:SV)(ms mo mq:Nat)(en:Int)(s:Qg)(cb:Nat)(v:SV)(l:List Ty)(hl:l.length≤1000000)(ihb:∀u∈l,∀p:Om×Int,0≤p.2→p.2+dF u.body≤1000000→Spec prog 94 [Pt g,sv u.vb,Pt cb] [gA (⟨g,vp,ms,some mo,mq,en⟩:Ga) s,mp fG Prod.fst vQ (some mo) (p).1,aO cb 3 [I6 (p).2]] [ck u.vb u.body] (X:=Unit) (fun _=>True) (fun _=> .tuple #[]) (fun _=> [gA (⟨g,vp,ms,some mo,mq,en⟩:Ga) s,mp fG Prod.fst vQ (some mo) (gDs u.body p).1,aO cb 3 [I6 (gDs u.body p).2]]) (fun _=> []))(ihe:∀u∈l,∀p:Om×Int,0≤p.2→p.2+dF u.els≤1000000→Spec prog 94 [Pt g,sv u.vl,Pt cb] [gA (⟨g,vp,ms,some mo,mq,en⟩:Ga) s,mp fG Prod.fst vQ (some mo) (p).1,aO cb 3 [I6 (p).2]] [ck u.vl u.els] (X:=Unit) (fun _=>True) (fun _=> .tuple #[]) (fun _=> [gA (⟨g,vp,ms,some mo,mq,en⟩:Ga) s,mp fG Prod.fst vQ (some mo) (gDs u.els p).1,aO cb 3 [I6 (gDs u.els p).2]]) (fun _=> []))(p:Om×Int)(h0:0≤p.2)(hn:p.2+dF l≤1000000):
  aN prog 94 [Pt g,sv v,Pt cb] [gA (⟨g,vp,ms,some mo,mq,en⟩:Ga) s,mp fG Prod.fst vQ (some mo) (p).1,aO cb 3 [I6 (p).2]] [ck v l] (.tuple #[]) [gA (⟨g,vp,ms,some mo,mq,en⟩:Ga) s,mp fG Prod.fst vQ (some mo) (gDs l p).1,aO cb 3 [I6 (gDs l p).2]]:=by
 refine ay func94 J ntmps94 J fun w0 M H=>bx 0 9 J jS (am (ab J (aJ (aZ underlying62 J (aP (k:=9) J)) (ab J (aa (aC (bC (X:=Nat) (fun i=>i≤l.length) (fun i=> [(0,Pt g),(2,Pt cb),(8,sv v),(9,I6 (l.length:Int)),(10,I6 (i:Int))]) (fun i=> [(0,gA (⟨g,vp,ms,some mo,mq,en⟩:Ga) s),(1,mp fG Prod.fst vQ (some mo) (gDs (l.take i) p).1),(2,aO cb 3 [I6 (gDs (l.take i) p).2])]) (fun i=> [(0,ck v l),(9,sl 5 iR (sv v) l)]) (fun i=>l.length-i) 0 (bE _) J J J (fun i n1=>am (ap J J cG (aa (aT (ai J (fun h1=> ?_) (fun h1=> ?_)))))))))))))
 ·(try simp only [aX]at h1);have hi:i<l.length:=by omega
  obtain⟨kid,hkid⟩:∃k,l[i]?=some k:=⟨_,bO hi⟩
  have hkm:=cO hkid;have hn1:=nI (l.take i) p;have hn2:=nI (l.take (i+1)) p;have hvt:=lT hkid;have hvl:=nq hkid;have hve:=A7 kid;obtain⟨q,hq⟩:∃q,q=(if kid.kind=1 then(fC (gDs (l.take i) p).1 kid.name (wU (-(4*((gDs (l.take i) p).2+1)))),(gDs (l.take i) p).2+1)else gDs (l.take i) p):=⟨_,J⟩
  have hq2:q.2=(gDs (l.take i) p).2+((if kid.kind=1 then 1 else 0:Nat):Int):=by rw [hq];split<;>simp
  refine az (aT (aC (am (aJ (aQ (j:=i) underlying62 fE J J (aP (k:=9) J) (by first|rfl|omega) (by first|omega|(simp;done)|(simp;omega))) (aJ (aM fE J J J (ci (aP (k:=9) J) (by intro _;rfl) hkid (by rfl))) (aU fE J J fun b7=>aq (k:=7) fE J J J J J J (aa (bv (X:=Unit) (fun _=>True) (fun _=> [(0,Pt g),(2,Pt cb),(7,Pt b7),(8,sv v),(9,I6 (l.length:Int)),(10,I6 (i:Int))]) (fun _=> [(0,gA (⟨g,vp,ms,some mo,mq,en⟩:Ga) s),(1,mp fG Prod.fst vQ (some mo) q.1),(2,aO cb 3 [I6 q.2]),(7,aO b7 64 (iR kid))]) (fun _=> [(0,ck v l),(9,sl 5 iR (sv v) l)]) ?_ (fun _ _=> ?_)))))))))
  ·refine am (aA iA J (aL 7 t3 J J J J (ap J J bj (aa (ai J (fun h2=> ?_) (fun h2=> ?_))))))
   ·(try simp only [aX]at h2);have hk:kid.kind=1:=h2;rw [ak hk]at hve;have hqe:q=(fC (gDs (l.take i) p).1 kid.name (wU (-(4*((gDs (l.take i) p).2+1)))),(gDs (l.take i) p).2+1):=by rw [hq,ak hk]
    refine am (ab J (bq J (aL 2 t3 J J J J (ap J J aY (bq J (ax (k:=2) t3 J J J J J J J J (aa ?_)))))));refine bV [22,23,24,25,26,27,28,29,30,31,32,33] _ J (bR (V:= [(0,22,_),(1,23,_),(2,24,_),(3,25,_),(4,26,_),(5,27,_),(6,28,_),(7,29,_),(8,30,_),(9,31,_),(10,32,_),(11,33,_)]) [0,1,2,3,4,5,6,7,8,9,10,11] 12 [12,11,10,9,8,7,6,5,4,3,2,1,0] [] (fun _=> []) J J (aK J J (ad J (av J) (ad J (ah kI J) (ad J (ag zE J J (m7 (k:=0) J (fun _=>J) J)) (ad J (ah lB J) (ad J (ag t9 J J (aB (k:=7) J J)) (aK J J (ad J (av J) (ad J (ag t3 J J (aB (k:=2) J J)) (ad J (aS J J iH) (ad J (bK underlying3 underlying41 J (by first|exact bw (by omega)|rfl)) (ad J (J4 J J) au)))))))))))) J J J J J J J J J (fun _ _=>J) J (h_ (k:=1) (α:=Ba×Int) (kf:=Prod.fst) (vf:=vQ) (kid.name,wU (-(4*((gDs (l.take i) p).2+1)))) (fC (gDs (l.take i) p).1 kid.name (wU (-(4*((gDs (l.take i) p).2+1))))) underlying108 eo J J J J (List.Perm.refl _)) (fun _ _=>br [] J J au J J J ?_));refine aI () O J (by rw [hqe];rfl) J
   ·(try simp only [aX]at h2);have hk:¬kid.kind=1:=h2;rw [ac hk]at hve;have hqe:q=gDs (l.take i) p:=by rw [hq,ac hk]
    refine az (aI () O J (by rw [hqe];rfl) J)
  ·refine am (ab J (aA jt J (aL 7 n8 J J J J (ab J (bx 0 11 J (jT hkm) (ae (xs:= [.tmp 34,.tmp 36,.tmp 37]) (ihb kid hkm q (by omega) (by omega)) IF [0,1,2] [(false,11)] [0,1,2] (fun _ _=>aa (aj (ab J (aA jr J (aL 7 n8 J J J J (ab J (bx 0 11 J (lV hkm) (ae (xs:= [.tmp 39,.tmp 41,.tmp 42]) (ihe kid hkm (gDs kid.body q) (by rw [nI];omega) (by rw [nI];omega)) IF [0,1,2] [(false,11)] [0,1,2] (fun _ _=>aa (aj (ap J J aY (ab J ?_))))))))))))))))));refine aa ?_;refine aI (i+1) ⟨by omega,by omega⟩ J (by rw [u6 p hkid,CL,←hq];rfl) J
 ·(try simp only [aX]at h1);have hi:i=l.length:=by omega
  subst hi;rw [eA];refine bF (bP () O J fw J [0,1,2] [] J J J)
theorem pN(g:Nat)(vp:SV)(ms mo mq:Nat)(en:Int)(s:Qg)(cb:Nat):∀(n:Nat)(v:SV)(l:List Ty),SizeOf.sizeOf l<n→GYs l→l.length≤1000000→∀p:Om×Int,0≤p.2→p.2+dF l≤1000000→aN prog 94 [Pt g,sv v,Pt cb] [gA (⟨g,vp,ms,some mo,mq,en⟩:Ga) s,mp fG Prod.fst vQ (some mo) (p).1,aO cb 3 [I6 (p).2]] [ck v l] (.tuple #[]) [gA (⟨g,vp,ms,some mo,mq,en⟩:Ga) s,mp fG Prod.fst vQ (some mo) (gDs l p).1,aO cb 3 [I6 (gDs l p).2]]
 | 0,_,_,h,_,_=>absurd h (Nat.not_lt_zero _)
 | n+1,v,l,h,hg,hl=>fun p h0 hn=>Aq g vp ms mo mq en s cb v l hl (fun u hu p h0 hn=>by
   have hlt:=List.sizeOf_lt_of_mem hu;have hgu:=hg.mem u hu;have hb:SizeOf.sizeOf u.body<SizeOf.sizeOf u:=by cases u;simp [Ty.body];omega
   exact pN g vp ms mo mq en s cb n u.vb u.body (by omega) (gw hgu).2 (gw hgu).1 p h0 hn) (fun u hu p h0 hn=>by
   have hlt:=List.sizeOf_lt_of_mem hu;have hgu:=hg.mem u hu;have hb:SizeOf.sizeOf u.els<SizeOf.sizeOf u:=by cases u;simp [Ty.els];omega
   exact pN g vp ms mo mq en s cb n u.vl u.els (by omega) (iV hgu).2 (iV hgu).1 p h0 hn) p h0 hn
theorem Ar(g:Nat)(vp:SV)(ms mo mq:Nat)(en:Int)(s:Qg)(cb:Nat)(v:SV)(l:List Ty)(hg:GYs l)(hl:l.length≤1000000)(p:Om×Int)(h0:0≤p.2)(hn:p.2+dF l≤1000000):aN prog 94 [Pt g,sv v,Pt cb] [gA (⟨g,vp,ms,some mo,mq,en⟩:Ga) s,mp fG Prod.fst vQ (some mo) (p).1,aO cb 3 [I6 (p).2]] [ck v l] (.tuple #[]) [gA (⟨g,vp,ms,some mo,mq,en⟩:Ga) s,mp fG Prod.fst vQ (some mo) (gDs l p).1,aO cb 3 [I6 (gDs l p).2]]:=pN g vp ms mo mq en s cb _ v l (Nat.lt_succ_self _) hg hl p h0 hn
section
variable{P:Program}{N:Nat}{w0:World}{M H:Nat→Prop}{E:el}{Γ R:dL}
theorem sI(k:Nat)(ns:List Nat){e:Ga}{s:Qg}{Rel:Act→World→Prop}(hk:bG Γ k=some (gA e s))(hns:ns.Nodup)(hl:ns.length=4)
  (h:∀vc vf vl,At N w0 M H E (eE ns [aO e.g 111 (gR e.vp vc vf vl e.ms e.mo e.mp e.en),own 118 5 gM (sv vc) s.code,own 171 2 tO (sv vf) s.fixes,own 3 1 eI (sv vl) s.labs] (eF [k] Γ)) R Rel):At N w0 M H E Γ R Rel:=
 l9 k ns hk hns (fun _=>hl) fun x=>h x.1 x.2.1 x.2.2
theorem sH(k:Nat)(ks:List Nat)(e:Ga)(s:Qg)(vc vf vl:SV){Rel:Act→World→Prop}(hL:dQ Γ ks=cz [aO e.g 111 (gR e.vp vc vf vl e.ms e.mo e.mp e.en),own 118 5 gM (sv vc) s.code,own 171 2 tO (sv vf) s.fixes,own 3 1 eI (sv vl) s.labs])(hks:ks.Nodup)
  (h:At N w0 M H E ((k,gA e s)::eF ks Γ) R Rel):At N w0 M H E Γ R Rel:=Hd (f:=fun x:SV×SV×SV=> [aO e.g 111 (gR e.vp x.1 x.2.1 x.2.2 e.ms e.mo e.mp e.en),own 118 5 gM (sv x.1) s.code,own 171 2 tO (sv x.2.1) s.fixes,own 3 1 eI (sv x.2.2) s.labs]) k ks (vc,vf,vl) hL hks h
end
theorem yN(n:Int):∀(l:List Ba)(k:Int)(x:Ba)(o:Om),gP n k (l++ [x]) o=fC (gP n k l o) x (8+4*(n-1-(k+l.length)))
 | [],k,x,o=>by
  show fC o x (8+4*(n-1-k))=fC o x (8+4*(n-1-(k+((0:Nat):Int))));rw [show k+((0:Nat):Int)=k by omega]
 | y::l,k,x,o=>by
  show gP n (k+1) (l++ [x]) _=fC (gP n (k+1) l _) x _;rw [yN n l (k+1) x];rw [show k+1+(l.length:Int)=k+(((y::l).length:Nat):Int) by rw [ca];omega]
theorem E7{n:Int}{l:List Ba}{i:Nat}{x:Ba}(o:Om)(h:l[i]?=some x):gP n 0 (l.take (i+1)) o=fC (gP n 0 (l.take i) o) x (8+4*(n-1-(i:Int))):=by
 obtain⟨hi,-⟩:=cA.1 h;rw [cm h,yN,List.length_take,Nat.min_eq_left (by omega),show(0:Int)+(i:Int)=i by omega]
theorem gL:∀(n:Nat)(s:Qg),dn (n+1) s=(dn n s).push 0
 | 0,s=>rfl
 | n+1,s=>gL n (s.push 0)
theorem cn:∀(n:Nat)(s:Qg),(dn n s).sz=s.sz+2*n
 | 0,s=>rfl
 | n+1,s=>by
  rw [gL,cr,cn n];omega
theorem jp:∀(n:Nat)(s:Qg),(dn n s).labs=s.labs
 | 0,s=>rfl
 | n+1,s=>by
  rw [gL];exact jp n s
mutual
theorem JC:∀t:Ty,vY t≤nY t
 | .mk k nm ve es vb body vl els=>by
  have h1:=lU body;have h2:=lU els;show(if k=1 then 1 else 0)+dF body+dF els≤1+fO es+ef body+ef els;split<;>omega
theorem lU:∀l:List Ty,dF l≤ef l
 | []=>bM _
 | t::r=>by
  have h1:=JC t;have h2:=lU r;show vY t+dF r≤nY t+ef r;omega
end
theorem d_(s:Qg):s.lab.labs.length=s.labs.length+1:=by
 show(s.labs++ [0]).length=_;rw [bQ,dP]
theorem dS(s:Qg)(l:Int):(s.place l).labs.length=s.labs.length:=by
 show(s.labs.set _ _).length=_;rw [List.length_set]
theorem yO(f:Tf):(cQ f).2=(dF f.body:Int):=by
 show(gDs f.body (gP f.ps.length 0 f.ps [],0)).2=_;rw [nI];show(0:Int)+_=_;omega
theorem KG(sm:Om)(f:Tf)(s:Qg):(gF sm f s).sz≤s.sz+24*ef f.body+60:=by
 have h1:=iU (cQ f).1 sm ((s.labs.length:Int)+1) f.body (dn (cQ f).2.toNat ((((((((((s.lab.lab).place (bn sm f.name)).emit [qi 16 12 12 1]).emit [qi 16 2 0 12]).jump 35 2 12 s.labs.length).emit [⟨49,0,0,0,0⟩]).place s.labs.length).push 15).push 13).emit [q3 1 13 14 0]));have h2:=lU f.body;have h3:=yO f;simp only [bl,cr,dj,bZ,bz,bA,cn,ca,cj]at h1;show((((((((gj (cQ f).1 sm ((s.labs.length:Int)+1) f.body (dn (cQ f).2.toNat _)).emit [q3 1 1 0 0]).place ((s.labs.length:Int)+1)).emit [q3 1 14 13 0]).pop 13).pop 15).emit [qi 16 12 12 4294967295]).emit [qi 27 0 15 0]).sz≤_;simp only [bl,cr,dj,bZ,bz,bA,ca,cj];omega
theorem Ap(e:Ga)(c:Oq)(sm:Om)(hm:e.mp=c.m)(f:Tf)(hr:kZ f.body=true)(hg:GF f)(s:Qg)(hst:0≤bn sm f.name∧bn sm f.name<s.labs.length)(hz:s.sz+24*ef f.body+100≤780000):
  Spec prog 54 [Pt e.g,Ja f] [gA e s] [DK f,g9 e.g c,mp fG Prod.fst vI (some e.ms) sm] (X:=Nat) (fun _=>True) (fun _=> .tuple #[]) (fun b=> [gA ({e with mo:=some b,en:=((s.labs.length:Nat):Int)+1}:Ga) (gF sm f s)]) (fun _=> []):=by
 refine ay func54 J ntmps54 J fun w0 M H=> ?_
 have hpl:=hg.2.2.1;have hbl:=hg.2.2.2.1;have hgn:=hg.2.2.2.2.2;have hvn:=lU f.body;have hon:=yO f;obtain⟨nv,hnv⟩:∃nv,nv=(cQ f).2.toNat:=⟨_,J⟩
 have hnl:(s.lab.labs.length:Int)=((s.labs.length:Nat):Int)+1:=by rw [d_];omega
 refine bx 0 3 J tX (bx 0 4 J sk (am (cB J J fun b3=>aw J (ab J (ko (Prod.fst:Ba×Int→Ba) fG vQ J fun b8=>bq J (aA kI J (sI 0 [0,21,22,23] J (by decide) J fun vc vf vl=>ax (k:=0) zE J J J J J J J J (sH 0 [0,21,22,23] ({e with mo:=some b8}:Ga) s vc vf vl J (by decide) (aa (aR (aA fR J ?_)))))))))));refine aL 3 oO J J J J (aJ (aZ underlying46 J (aP (k:=3) J)) (ab J (aa (aC (bC (X:=Nat) (fun i=>i≤f.ps.length) (fun i=> [(0,Pt e.g),(3,Pt b3),(13,I6 (f.ps.length:Int)),(14,I6 (i:Int))]) (fun i=> [(0,gA ({e with mo:=some b8}:Ga) s),(3,aO b3 66 (oE f)),(8,mp fG Prod.fst vQ (some b8) (gP (f.ps.length:Int) 0 (f.ps.take i) []))]) (fun i=> [(0,DK f),(1,g9 e.g c),(2,mp fG Prod.fst vI (some e.ms) sm),(3,sl 1 eS (sv f.vp) f.ps),(4,ck f.vb f.body)]) (fun i=>f.ps.length-i) 0 (bE _) J J J (fun i n1=>am (ap J J cG (aa (aT (ai J (fun h1=> ?_) (fun h1=> ?_)))))))))))
 ·(try simp only [aX]at h1);have hi:i<f.ps.length:=by omega
  obtain⟨x,hx⟩:∃x,f.ps[i]?=some x:=⟨_,bO hi⟩
  refine az (aT (aC (am (ab J (ao J (aa ?_))))));refine bV [17,18,19,20,21,22,23,24,25,26,27,28,29,30,31,32,33,34] _ J (bR (V:= [(0,17,_),(1,18,_),(2,19,_),(3,20,_),(4,21,_),(5,22,_),(6,23,_),(7,24,_),(8,25,_),(9,26,_),(10,27,_),(11,28,_),(12,29,_),(13,30,_),(14,31,_),(15,32,_),(16,33,_),(17,34,_)]) [0,1,2,3,4,5,6,7,8,9,10,11,12,13,14,15,16,17] 18 [18,17,16,15,14,13,12,11,10,9,8,7,6,5,4,3,2,1,0] [] (fun _=> []) J J (aK J J (ad J (av J) (ad J (ah kI J) (ad J (ag zE J J (m7 (k:=0) J (fun _=>J) J)) (ad J (ah fR J) (ad J (ag oO J J (aB (k:=3) J J)) (aK J J (ad J (aQ (j:=i) underlying46 t9 J J (aP (k:=3) J) (by first|rfl|omega) (by first|omega|(simp;done)|(simp;omega))) (ad J (ag t9 J J (ci (aP (k:=3) J) (by intro _;rfl) hx (by rfl))) (ad J (ah fR J) (ad J (ag oO J J (aB (k:=3) J J)) (ad J (aZ underlying46 J (aP (k:=3) J)) (ad J (aS J J iF) (aK J J (ad J (aS J J iF) (ad J (aS J J iH) (ad J (aS J J aY) (ad J (bK underlying3 underlying41 J (by first|exact bw (by omega)|rfl)) au)))))))))))))))))) J J J J J J J J J (fun _ _=>J) J (h_ (k:=8) (α:=Ba×Int) (kf:=Prod.fst) (vf:=vQ) (x,8+4*((f.ps.length:Int)-1-i)) (fC (gP (f.ps.length:Int) 0 (f.ps.take i) []) x (8+4*((f.ps.length:Int)-1-i))) underlying108 eo J J J J (List.Perm.refl _)) (fun _ _=>br [] J J au J J J ?_));refine aj (ap J J aY (ab J (aa ?_)));refine aI (i+1) ⟨by omega,by omega⟩ J (by rw [E7 [] hx];rfl) J
 ·(try simp only [aX]at h1);have hi:i=f.ps.length:=by omega
  subst hi;refine bF (am (aU t3 J J fun b5=>ax (k:=5) t3 J J J J J J J J (aa (aT ?_))));rw [eA];refine aj (ab J (aA m_ J (aL 3 n8 J J J J (ct (xs:= [.tmp 36,.tmp 38,.tmp 5]) (Ar e.g e.vp e.ms b8 e.mp e.en s b5 f.vb f.body hg.2.2.2.2.1 hbl (gP (f.ps.length:Int) 0 f.ps [],0) (Int.le_refl _) (by dsimp only;omega)) IF [0,8,5] [(false,4)] [0,8,5] J J J (fun _ _=> ?_)))));obtain⟨om,hom⟩:∃om,om=(cQ f).1:=⟨_,J⟩
  refine aw J (ab J (ae (xs:= [.tmp 40]) (eM ({e with mo:=some b8}:Ga) (s) (by omega)) tG [0] [] [0] (fun _ _=>ao J (aw J (ab J (ab J (ae (xs:= [.tmp 43]) (eM ({e with mo:=some b8}:Ga) ((s).lab) (by(try simp only [bl,cr,dj,cV,bZ,bz,bA,cn,ca,cj]);omega)) tG [0] [] [0] (fun _ _=> ?_))))))));rw [hnl];refine bq J (aA tx J (sI 0 [0,21,22,23] J (by decide) J fun vc vf vl=>ax (k:=0) t3 J J J J J J J J (sH 0 [0,21,22,23] ({e with mo:=some b8,en:=((s.labs.length:Nat):Int)+1}:Ga) (((s).lab).lab) vc vf vl J (by decide) (aa (aT ?_)))));refine bV [47,48,49,50,51,52,53,54,55] _ J (bk (V:= [(0,47,_),(1,48,_),(2,49,_),(3,50,_),(4,51,_),(5,52,_),(6,53,_),(7,54,_)]) [0,1,2,3,4,5,6,7] 8 [8,7,6,5,4,3,2,1,0] [] (fun _=> []) J J (aK J J (aK J J (ad J (av J) (ad J (ah my J) (ad J (ag Bd J J (m7 (k:=0) J (fun _=>J) J)) (ad J (ah na J) (ad J (ag t9 J J (aB (k:=3) J J)) (ad J (BO underlying105 eo t3 J J (rL (k:=2) J)) au)))))))) J J J J J J J J J J J (fun _ _=>J) J (bS (xs:= [.tmp 47,.tmp 54]) (dW ({e with mo:=some b8,en:=((s.labs.length:Nat):Int)+1}:Ga) (((s).lab).lab) (by(try simp only [bl,cr,dj,cV,bZ,bz,bA,cn,ca,cj]);omega) (bn sm f.name) ⟨hst.1,by rw [d_,d_];omega⟩) qz [0] [] [0]) (fun _ _=>br [] J J au J J J ?_))
  refine am (ab J (ae (xs:= [.tmp 56,.const (I6 16),.const (I6 12),.const (I6 12),.const (I3 1)]) (cJ ({e with mo:=some b8,en:=((s.labs.length:Nat):Int)+1}:Ga) ((((s).lab).lab).place (bn sm f.name)) (by(try simp only [bl,cr,dj,cV,bZ,bz,bA,cn,ca,cj]);omega) 16 12 12 1) iM [0] [] [0] (fun _ _=>aw J (ab J (ae (xs:= [.tmp 58,.const (I6 16),.const (I6 2),.const (I6 0),.const (I3 12)]) (cJ ({e with mo:=some b8,en:=((s.labs.length:Nat):Int)+1}:Ga) (((((s).lab).lab).place (bn sm f.name)).emit [qi 16 12 12 1]) (by(try simp only [bl,cr,dj,cV,bZ,bz,bA,cn,ca,cj]);omega) 16 2 0 12) iM [0] [] [0] (fun _ _=>aw J (ab J (ab J (ae (xs:= [.tmp 60,.const (I6 35),.const (I6 2),.const (I6 12),.tmp 61]) (eY ({e with mo:=some b8,en:=((s.labs.length:Nat):Int)+1}:Ga) ((((((s).lab).lab).place (bn sm f.name)).emit [qi 16 12 12 1]).emit [qi 16 2 0 12]) (by(try simp only [bl,cr,dj,cV,bZ,bz,bA,cn,ca,cj]);omega) 35 2 12 ((s.labs.length:Nat):Int)) q_ [0] [] [0] (fun _ _=>aw J (ab J (aJ (aW (parts:= [(0,.const (I6 49))]) ey k8 J J) ?_))))))))))));refine bH gM ⟨49,0,0,0,0⟩ underlying106 ey J (by decide) (by decide) J J J J fun v65=>cq 65 7 J bI (ae (xs:= [.tmp 63,.tmp 65]) (gr ({e with mo:=some b8,en:=((s.labs.length:Nat):Int)+1}:Ga) (((((((s).lab).lab).place (bn sm f.name)).emit [qi 16 12 12 1]).emit [qi 16 2 0 12]).jump 35 2 12 ((s.labs.length:Nat):Int)) (by(try simp only [bl,cr,dj,cV,bZ,bz,bA,cn,ca,cj]);omega) v65 [⟨49,0,0,0,0⟩] (by simp)) vC [0] [(false,7)] [0] (fun _ _=>aw J (ab J (ab J ?_))))
  refine fy (xs:= [.tmp 67,.tmp 68]) (dW ({e with mo:=some b8,en:=((s.labs.length:Nat):Int)+1}:Ga) ((((((((s).lab).lab).place (bn sm f.name)).emit [qi 16 12 12 1]).emit [qi 16 2 0 12]).jump 35 2 12 ((s.labs.length:Nat):Int)).emit [⟨49,0,0,0,0⟩]) (by(try simp only [bl,cr,dj,cV,bZ,bz,bA,cn,ca,cj]);omega) ((s.labs.length:Nat):Int) ⟨by omega,by show _<(((((((s).lab).lab).place (bn sm f.name)).labs.length:Nat)):Int);rw [dS,d_,d_];omega⟩) qz [0] [] [0] J J J J J J J J (fun _ _=>J) (fun _ _ _=>J) J (fun _ _=> ?_);refine aw J (ab J (ae (xs:= [.tmp 70,.const (I6 15)]) (ib ({e with mo:=some b8,en:=((s.labs.length:Nat):Int)+1}:Ga) (((((((((s).lab).lab).place (bn sm f.name)).emit [qi 16 12 12 1]).emit [qi 16 2 0 12]).jump 35 2 12 ((s.labs.length:Nat):Int)).emit [⟨49,0,0,0,0⟩]).place ((s.labs.length:Nat):Int)) (by(try simp only [bl,cr,dj,cV,bZ,bz,bA,cn,ca,cj]);omega) 15) AG [0] [] [0] (fun _ _=>aw J (ab J (ae (xs:= [.tmp 72,.const (I6 13)]) (ib ({e with mo:=some b8,en:=((s.labs.length:Nat):Int)+1}:Ga) ((((((((((s).lab).lab).place (bn sm f.name)).emit [qi 16 12 12 1]).emit [qi 16 2 0 12]).jump 35 2 12 ((s.labs.length:Nat):Int)).emit [⟨49,0,0,0,0⟩]).place ((s.labs.length:Nat):Int)).push 15) (by(try simp only [bl,cr,dj,cV,bZ,bz,bA,cn,ca,cj]);omega) 13) AG [0] [] [0] (fun _ _=>aw J (ab J (ae (xs:= [.tmp 74,.const (I6 1),.const (I6 13),.const (I6 14),.const (I6 0)]) (cS ({e with mo:=some b8,en:=((s.labs.length:Nat):Int)+1}:Ga) (((((((((((s).lab).lab).place (bn sm f.name)).emit [qi 16 12 12 1]).emit [qi 16 2 0 12]).jump 35 2 12 ((s.labs.length:Nat):Int)).emit [⟨49,0,0,0,0⟩]).place ((s.labs.length:Nat):Int)).push 15).push 13) (by(try simp only [bl,cr,dj,cV,bZ,bz,bA,cn,ca,cj]);omega) 1 13 14 0) lK [0] [] [0] (fun _ _=>aa (aR (aL 5 t3 J J J J ?_)))))))))));refine ab J (aa (aC ?_));have hnc:((gDs f.body (gP (f.ps.length:Int) 0 f.ps [],0)).2:Int)=(nv:Int):=by
   have:(cQ f).2=(nv:Int):=by omega
   exact this
  rw [hnc];refine bC (X:=Nat) (fun i=>i≤nv) (fun i=> [(0,Pt e.g),(3,Pt b3),(76,I6 (nv:Int)),(77,I6 (i:Int))]) (fun i=> [(0,gA ({e with mo:=some b8,en:=((s.labs.length:Nat):Int)+1}:Ga) (dn i ((((((((((((s).lab).lab).place (bn sm f.name)).emit [qi 16 12 12 1]).emit [qi 16 2 0 12]).jump 35 2 12 ((s.labs.length:Nat):Int)).emit [⟨49,0,0,0,0⟩]).place ((s.labs.length:Nat):Int)).push 15).push 13).emit [q3 1 13 14 0]))),(3,aO b3 66 (oE f)),(8,mp fG Prod.fst vQ (some b8) om)]) (fun i=> [(0,DK f),(1,g9 e.g c),(2,mp fG Prod.fst vI (some e.ms) sm),(3,sl 1 eS (sv f.vp) f.ps),(4,ck f.vb f.body)]) (fun i=>nv-i) 0 (bE _) J (by rw [hom];rfl) J (fun i n1=>am (ap J J cG (aa (aT (ai J (fun h2=> ?_) (fun h2=> ?_))))))
  ·(try simp only [aX]at h2);have hi:i<nv:=by omega
   refine az (aT (aC (aj (ab J (ae (xs:= [.tmp 79,.const (I6 0)]) (ib ({e with mo:=some b8,en:=((s.labs.length:Nat):Int)+1}:Ga) (dn i ((((((((((((s).lab).lab).place (bn sm f.name)).emit [qi 16 12 12 1]).emit [qi 16 2 0 12]).jump 35 2 12 ((s.labs.length:Nat):Int)).emit [⟨49,0,0,0,0⟩]).place ((s.labs.length:Nat):Int)).push 15).push 13).emit [q3 1 13 14 0])) (by(try simp only [bl,cr,dj,cV,bZ,bz,bA,cn,ca,cj]);omega) 0) AG [0] [] [0] (fun _ _=>aa (aj (ap J J aY (ab J (aa ?_))))))))));refine aI (i+1) ⟨by omega,by omega⟩ J (by rw [gL];rfl) J
  ·(try simp only [aX]at h2);have hi:nv=i:=by omega
   subst hi;refine bF (am (ab J (aA m_ J (aL 3 n8 J J J J (fy (xs:= [.tmp 82,.tmp 84]) (Cy ({e with mo:=some b8,en:=((s.labs.length:Nat):Int)+1}:Ga) c om sm hm (by dsimp only;omega) f.vb f.body hr hg.2.2.2.2.1 hbl (dn nv ((((((((((((s).lab).lab).place (bn sm f.name)).emit [qi 16 12 12 1]).emit [qi 16 2 0 12]).jump 35 2 12 ((s.labs.length:Nat):Int)).emit [⟨49,0,0,0,0⟩]).place ((s.labs.length:Nat):Int)).push 15).push 13).emit [q3 1 13 14 0])) (by(try simp only [bl,cr,dj,cV,bZ,bz,bA,cn,ca,cj]);omega)) Df [0] [(false,4),(false,1),(true,8),(false,2)] [0] J J J J J (by rw [hom];rfl) J J (fun _ _=>J) (fun _ _ _=>J) J (fun _ _=> ?_))))));have hbz:=iU om sm (((s.labs.length:Nat):Int)+1) f.body (dn nv ((((((((((((s).lab).lab).place (bn sm f.name)).emit [qi 16 12 12 1]).emit [qi 16 2 0 12]).jump 35 2 12 ((s.labs.length:Nat):Int)).emit [⟨49,0,0,0,0⟩]).place ((s.labs.length:Nat):Int)).push 15).push 13).emit [q3 1 13 14 0]));simp only [bl,cr,dj,cV,bZ,bz,bA,cn,ca,cj]at hbz;have hbl2:=iO om sm (((s.labs.length:Nat):Int)+1) f.body (dn nv ((((((((((((s).lab).lab).place (bn sm f.name)).emit [qi 16 12 12 1]).emit [qi 16 2 0 12]).jump 35 2 12 ((s.labs.length:Nat):Int)).emit [⟨49,0,0,0,0⟩]).place ((s.labs.length:Nat):Int)).push 15).push 13).emit [q3 1 13 14 0]));rw [jp]at hbl2;have hbl3:((((((((((((s).lab).lab).place (bn sm f.name)).emit [qi 16 12 12 1]).emit [qi 16 2 0 12]).jump 35 2 12 ((s.labs.length:Nat):Int)).emit [⟨49,0,0,0,0⟩]).place ((s.labs.length:Nat):Int)).push 15).push 13).emit [q3 1 13 14 0]).labs.length=s.labs.length+2:=by
    show(((((((((s).lab).lab).place (bn sm f.name)).emit [qi 16 12 12 1]).emit [qi 16 2 0 12]).jump 35 2 12 ((s.labs.length:Nat):Int)).emit [⟨49,0,0,0,0⟩]).place ((s.labs.length:Nat):Int)).labs.length=_;rw [dS];show((((s).lab).lab).place (bn sm f.name)).labs.length=_;rw [dS,d_,d_]
   refine aw J (ab J (ae (xs:= [.tmp 86,.const (I6 1),.const (I6 1),.const (I6 0),.const (I6 0)]) (cS ({e with mo:=some b8,en:=((s.labs.length:Nat):Int)+1}:Ga) (gj om sm (((s.labs.length:Nat):Int)+1) f.body (dn nv ((((((((((((s).lab).lab).place (bn sm f.name)).emit [qi 16 12 12 1]).emit [qi 16 2 0 12]).jump 35 2 12 ((s.labs.length:Nat):Int)).emit [⟨49,0,0,0,0⟩]).place ((s.labs.length:Nat):Int)).push 15).push 13).emit [q3 1 13 14 0]))) (by(try simp only [bl,cr,dj,cV,bZ,bz,bA,cn,ca,cj]);omega) 1 1 0 0) lK [0] [] [0] (fun _ _=>aw J (ab J (ab J (bq J (aA tx J (aJ (ag t3 J J (m7 (k:=0) J (fun _=>J) J)) ?_))))))));refine fy (xs:= [.tmp 88,.tmp 92]) (dW ({e with mo:=some b8,en:=((s.labs.length:Nat):Int)+1}:Ga) ((gj om sm (((s.labs.length:Nat):Int)+1) f.body (dn nv ((((((((((((s).lab).lab).place (bn sm f.name)).emit [qi 16 12 12 1]).emit [qi 16 2 0 12]).jump 35 2 12 ((s.labs.length:Nat):Int)).emit [⟨49,0,0,0,0⟩]).place ((s.labs.length:Nat):Int)).push 15).push 13).emit [q3 1 13 14 0]))).emit [q3 1 1 0 0]) (by(try simp only [bl,cr,dj,cV,bZ,bz,bA,cn,ca,cj]);omega) (((s.labs.length:Nat):Int)+1) ⟨by omega,by show _<((((gj om sm (((s.labs.length:Nat):Int)+1) f.body (dn nv ((((((((((((s).lab).lab).place (bn sm f.name)).emit [qi 16 12 12 1]).emit [qi 16 2 0 12]).jump 35 2 12 ((s.labs.length:Nat):Int)).emit [⟨49,0,0,0,0⟩]).place ((s.labs.length:Nat):Int)).push 15).push 13).emit [q3 1 13 14 0]))).labs.length:Nat)):Int);omega⟩) qz [0] [] [0] J J J J J J J J (fun _ _=>J) (fun _ _ _=>J) J (fun _ _=> ?_)
   refine aw J (ab J (ae (xs:= [.tmp 94,.const (I6 1),.const (I6 14),.const (I6 13),.const (I6 0)]) (cS ({e with mo:=some b8,en:=((s.labs.length:Nat):Int)+1}:Ga) (((gj om sm (((s.labs.length:Nat):Int)+1) f.body (dn nv ((((((((((((s).lab).lab).place (bn sm f.name)).emit [qi 16 12 12 1]).emit [qi 16 2 0 12]).jump 35 2 12 ((s.labs.length:Nat):Int)).emit [⟨49,0,0,0,0⟩]).place ((s.labs.length:Nat):Int)).push 15).push 13).emit [q3 1 13 14 0]))).emit [q3 1 1 0 0]).place (((s.labs.length:Nat):Int)+1)) (by(try simp only [bl,cr,dj,cV,bZ,bz,bA,cn,ca,cj]);omega) 1 14 13 0) lK [0] [] [0] (fun _ _=>aw J (ab J (ae (xs:= [.tmp 96,.const (I6 13)]) (mb ({e with mo:=some b8,en:=((s.labs.length:Nat):Int)+1}:Ga) ((((gj om sm (((s.labs.length:Nat):Int)+1) f.body (dn nv ((((((((((((s).lab).lab).place (bn sm f.name)).emit [qi 16 12 12 1]).emit [qi 16 2 0 12]).jump 35 2 12 ((s.labs.length:Nat):Int)).emit [⟨49,0,0,0,0⟩]).place ((s.labs.length:Nat):Int)).push 15).push 13).emit [q3 1 13 14 0]))).emit [q3 1 1 0 0]).place (((s.labs.length:Nat):Int)+1)).emit [q3 1 14 13 0]) (by(try simp only [bl,cr,dj,cV,bZ,bz,bA,cn,ca,cj]);omega) 13) FC [0] [] [0] (fun _ _=>aw J (ab J (ae (xs:= [.tmp 98,.const (I6 15)]) (mb ({e with mo:=some b8,en:=((s.labs.length:Nat):Int)+1}:Ga) (((((gj om sm (((s.labs.length:Nat):Int)+1) f.body (dn nv ((((((((((((s).lab).lab).place (bn sm f.name)).emit [qi 16 12 12 1]).emit [qi 16 2 0 12]).jump 35 2 12 ((s.labs.length:Nat):Int)).emit [⟨49,0,0,0,0⟩]).place ((s.labs.length:Nat):Int)).push 15).push 13).emit [q3 1 13 14 0]))).emit [q3 1 1 0 0]).place (((s.labs.length:Nat):Int)+1)).emit [q3 1 14 13 0]).pop 13) (by(try simp only [bl,cr,dj,cV,bZ,bz,bA,cn,ca,cj]);omega) 15) FC [0] [] [0] (fun _ _=> ?_)))))))))
   refine aw J (ab J (ae (xs:= [.tmp 100,.const (I6 16),.const (I6 12),.const (I6 12),.const (I3 4294967295)]) (cJ ({e with mo:=some b8,en:=((s.labs.length:Nat):Int)+1}:Ga) ((((((gj om sm (((s.labs.length:Nat):Int)+1) f.body (dn nv ((((((((((((s).lab).lab).place (bn sm f.name)).emit [qi 16 12 12 1]).emit [qi 16 2 0 12]).jump 35 2 12 ((s.labs.length:Nat):Int)).emit [⟨49,0,0,0,0⟩]).place ((s.labs.length:Nat):Int)).push 15).push 13).emit [q3 1 13 14 0]))).emit [q3 1 1 0 0]).place (((s.labs.length:Nat):Int)+1)).emit [q3 1 14 13 0]).pop 13).pop 15) (by(try simp only [bl,cr,dj,cV,bZ,bz,bA,cn,ca,cj]);omega) 16 12 12 4294967295) iM [0] [] [0] (fun _ _=>aa (aj (ab J (ae (xs:= [.tmp 102,.const (I6 27),.const (I6 0),.const (I6 15),.const (I3 0)]) (cJ ({e with mo:=some b8,en:=((s.labs.length:Nat):Int)+1}:Ga) (((((((gj om sm (((s.labs.length:Nat):Int)+1) f.body (dn nv ((((((((((((s).lab).lab).place (bn sm f.name)).emit [qi 16 12 12 1]).emit [qi 16 2 0 12]).jump 35 2 12 ((s.labs.length:Nat):Int)).emit [⟨49,0,0,0,0⟩]).place ((s.labs.length:Nat):Int)).push 15).push 13).emit [q3 1 13 14 0]))).emit [q3 1 1 0 0]).place (((s.labs.length:Nat):Int)+1)).emit [q3 1 14 13 0]).pop 13).pop 15).emit [qi 16 12 12 4294967295]) (by(try simp only [bl,cr,dj,cV,bZ,bz,bA,cn,ca,cj]);omega) 27 0 15 0) iM [0] [] [0] (fun _ _=>aa (bP b8 O J fw J [0] [] J (by rw [hom,hnv];rfl) J))))))))
structure okG(s:Qg):Prop where
 fx:∀p∈s.fixes,(0≤p.1∧p.1<s.code.length)∧(0≤p.2∧p.2<s.labs.length)
 im:∀q∈s.code,oW q.imm
theorem okG.emit{s:Qg}(h:okG s){l:List Qi}(hl:∀q∈l,oW q.imm):okG (s.emit l):=by
 refine⟨fun p hp=> ?_,fun q hq=> ?_⟩
 ·have:=h.fx p hp;show(_∧p.1<((s.code++l).length:Int))∧(_∧p.2<(s.labs.length:Int));rw [bQ];omega
 ·rcases List.mem_append.1 hq with hq|hq
  ·exact h.im q hq
  ·exact hl q hq
theorem okG.lab{s:Qg}(h:okG s):okG s.lab:=by
 refine⟨fun p hp=> ?_,h.im⟩;have:=h.fx p hp;rw [d_];exact⟨this.1,this.2.1,by omega⟩
theorem okG.place{s:Qg}(h:okG s)(l:Int):okG (s.place l):=by
 refine⟨fun p hp=> ?_,h.im⟩;have:=h.fx p hp;rw [dS];exact this
theorem okG.jump{s:Qg}(h:okG s)(op d a:Int){l:Int}(hl:0≤l∧l<s.labs.length):okG (s.jump op d a l):=by
 refine⟨fun p hp=> ?_,fun q hq=> ?_⟩
 ·show(_∧p.1<((s.code++ [qi op d a 0]).length:Int))∧(_∧p.2<(s.labs.length:Int));rw [bQ,dP];rcases List.mem_append.1 hp with hp|hp
  ·have:=h.fx p hp;omega
  ·rw [List.mem_singleton.1 hp];dsimp only;omega
 ·rcases List.mem_append.1 hq with hq|hq
  ·exact h.im q hq
  ·rw [List.mem_singleton.1 hq];exact pj
theorem N2{q:Qi}(h:oW q.imm):∀x∈ [q],oW x.imm:=fun x hx=>by rw [List.mem_singleton.1 hx];exact h
theorem okG.one{s:Qg}(h:okG s){q:Qi}(hq:oW q.imm):okG (s.emit [q]):=h.emit (N2 hq)
theorem okG.push{s:Qg}(h:okG s)(r:Int):okG (s.push r):=(h.one (q:=qi 16 14 14 4294967292) ⟨by decide,by decide⟩).one (q:=qi 25 r 14 0) pj
theorem okG.pop{s:Qg}(h:okG s)(r:Int):okG (s.pop r):=(h.one (q:=qi 23 r 14 0) pj).one (q:=qi 16 14 14 4) ⟨by decide,by decide⟩
theorem okG.elem{s:Qg}(h:okG s)(r:Int):okG (s.elem r):=(h.one (q:=qi 17 r r 255) (show oW 255 from⟨by decide,by decide⟩)).one (q:=qi 20 r r 2) (show oW 2 from⟨by decide,by decide⟩)
theorem okG.ite{c:Prop} [Decidable c]{a b:Qg}(h1:okG a)(h2:okG b):okG (if c then a else b):=by split;exact h1;exact h2
theorem okG.op{s:Qg}(h:okG s)(o:Ba):okG (nP o s):=by
 have w1:oW 1:=⟨by decide,by decide⟩
 have t:∀{s:Qg},okG s→∀op d a b,okG (s.emit [q3 op d a b]):=fun h op d a b=>h.one pj
 have i1:∀{s:Qg},okG s→okG (s.emit [qi 19 1 1 1]):=fun h=>h.one w1
 have l2:(s.labs.length:Int)<s.lab.labs.length:=by rw [d_];omega
 unfold nP
 repeat' (refine okG.ite ?_ ?_)
 ·exact t h _ _ _ _
 ·exact t h _ _ _ _
 ·exact t h _ _ _ _
 ·exact t h _ _ _ _
 ·exact t h _ _ _ _
 ·exact t h _ _ _ _
 ·exact t h _ _ _ _
 ·exact t h _ _ _ _
 ·exact t h _ _ _ _
 ·exact t h _ _ _ _
 ·exact i1 (t h _ _ _ _)
 ·exact i1 (t h _ _ _ _)
 ·exact t (t h _ _ _ _) _ _ _ _
 ·exact i1 (t (t h _ _ _ _) _ _ _ _)
 ·exact(t (h.lab.jump 32 1 0 ⟨by omega,l2⟩) _ _ _ _).place _
 ·exact t ((t (t ((t h.lab _ _ _ _).jump 32 1 0 (l:=(s.labs.length:Int)) ⟨by omega,l2⟩) _ _ _ _) _ _ _ _).place _) _ _ _ _
 ·exact h
theorem okG.un{s:Qg}(h:okG s)(o:Ba):okG (CE o s):=by
 unfold CE
 repeat' (refine okG.ite ?_ ?_)
 ·exact h.one pj
 ·exact(h.one (q:=qi 16 2 0 4294967295) ⟨by decide,by decide⟩).one pj
 ·exact(h.one (q:=qi 16 2 0 1) ⟨by decide,by decide⟩).one pj
 ·exact h
theorem okG.num{s:Qg}(h:okG s){n:Int}(hn:oW n):okG (pZ n s):=by
 have h1:=hn.1;have h2:=hn.2;unfold pZ;refine okG.ite (h.one hn) (h.emit fun q hq=> ?_);simp only [List.mem_cons,List.not_mem_nil,or_false]at hq;rcases hq with rfl|rfl
 ·show oW (n/1024);exact⟨by omega,by omega⟩
 ·show oW (n%1024);exact⟨by omega,by omega⟩
structure okL(o st:Om)(k:Nat):Prop where
 o:∀x,oW (bn o x)
 st:∀x,0≤bn st x∧bn st x<k
mutual
theorem Gi{o st:Om}{k:Nat}(hk:okL o st k):∀(t:Tx)(s:Qg),GX t→k≤s.labs.length→okG s→okG (gX o st t s)
 | .mk kd n nm v kids,s,hg,hs,h=>by
  have h0:=xl hk kids s hg.2.2.2 hs h;have l0:=yK o st kids s;have h1:=CD hk kids ((ky o st kids s).push 1) hg.2.2.2 (by show k≤(ky o st kids s).labs.length;omega) (h0.push 1);have h2:=CB hk kids s hg.2.2.2 hs h;have l2:s.labs.length≤(rM o st kids s).labs.length:=(tq (K:=fun _=>False) (S:=fun _=>0) (fun _ h=>h.elim) kids s).labs_le;have hst:=hk.st nm;have hkl:=hg.2.2.1;unfold gX;refine okG.ite (h.num hg.1) (okG.ite (h.one (q:=qi 23 1 13 (bn o nm)) (hk.o nm)) (okG.ite (h.one (q:=⟨48,0,0,0,2⟩) ⟨by decide,by decide⟩) (okG.ite ((h0.elem 1).one (q:=qi 23 1 1 8192) ⟨by decide,by decide⟩) (okG.ite (h0.un nm) (okG.ite ((h1.pop 2).op nm) (okG.ite ?_ h))))));have hj:=h2.jump 40 15 0 (l:=bn st nm) ⟨hst.1,by omega⟩;refine okG.ite (hj.one (q:=qi 16 14 14 (4*kids.length)) ?_) hj;show oW (4*(kids.length:Int));exact⟨by omega,by omega⟩
theorem xl{o st:Om}{k:Nat}(hk:okL o st k):∀(l:List Tx)(s:Qg),GXs l→k≤s.labs.length→okG s→okG (ky o st l s)
 | [],s,_,_,h=>h
 | t::_,s,hg,hs,h=>Gi hk t s hg.1 hs h
theorem CD{o st:Om}{k:Nat}(hk:okL o st k):∀(l:List Tx)(s:Qg),GXs l→k≤s.labs.length→okG s→okG (Jk o st l s)
 | [],s,_,_,h=>h
 | _::r,s,hg,hs,h=>xl hk r s hg.2 hs h
theorem CB{o st:Om}{k:Nat}(hk:okL o st k):∀(l:List Tx)(s:Qg),GXs l→k≤s.labs.length→okG s→okG (rM o st l s)
 | [],s,_,_,h=>h
 | t::r,s,hg,hs,h=>CB hk r _ hg.2 (by have:=CC o st t s;show k≤(gX o st t s).labs.length;omega) ((Gi hk t s hg.1 hs h).push 1)
end
mutual
theorem KE{o st:Om}{k:Nat}(hk:okL o st k){en:Int}(he:0≤en∧en<k):∀(t:Ty)(s:Qg),GY t→k≤s.labs.length→okG s→okG (gY o st en t s)
 | .mk kd nm ve es vb body vl els,s,hg,hs,h=>by
  have hs0:k≤((s.lab.place s.labs.length)).labs.length:=by rw [dS,d_];omega
  have hl0:s.labs.length<((s.lab.place s.labs.length)).labs.length:=by rw [dS,d_];omega
  have h0:=xl hk es _ hg.2.1.2 hs0 (h.lab.place s.labs.length);have l0:=yK o st es (s.lab.place s.labs.length);have h1:=CD hk es ((ky o st es (s.lab.place s.labs.length)).push 1) hg.2.1.2 (by show k≤(ky o st es _).labs.length;omega) (h0.push 1);unfold gY;dsimp only;generalize ky o st es (s.lab.place s.labs.length)=s1 at h0 l0 h1;refine okG.ite (h0.one (q:=qi 25 1 13 (bn o nm)) (hk.o nm)) (okG.ite (((h1.pop 2).elem 2).one (q:=qi 25 1 2 8192) ⟨by decide,by decide⟩) (okG.ite (h0.one (q:=⟨48,0,0,0,1⟩) ⟨by decide,by decide⟩) (okG.ite (h0.jump 40 0 0 ⟨he.1,by omega⟩) (okG.ite ?_ (okG.ite ?_ h0)))))
  ·have e2:(s1.lab.lab).labs.length=s1.labs.length+2:=by rw [d_,d_]
   have h2:=pT hk he body _ hg.2.2.1.2 (by show k≤(s1.lab.lab).labs.length;omega) (h0.lab.lab.jump 32 1 0 (l:=(s1.labs.length:Int)) ⟨by omega,by omega⟩);have l2:=iO o st en body ((s1.lab.lab).jump 32 1 0 s1.labs.length);have l2':(s1.lab.lab).labs.length≤_:=l2;have h3:okG (if els.length>0 then(gj o st en body ((s1.lab.lab).jump 32 1 0 s1.labs.length)).jump 40 0 0 ((s1.labs.length:Int)+1)else gj o st en body ((s1.lab.lab).jump 32 1 0 s1.labs.length)):=okG.ite (h2.jump 40 0 0 ⟨by omega,by omega⟩) h2;have l3:k≤(if els.length>0 then(gj o st en body ((s1.lab.lab).jump 32 1 0 s1.labs.length)).jump 40 0 0 ((s1.labs.length:Int)+1)else gj o st en body ((s1.lab.lab).jump 32 1 0 s1.labs.length)).labs.length:=by
    split
    ·show k≤(gj o st en body _).labs.length;omega
    ·omega
   exact(pT hk he els _ hg.2.2.2.2 (by rw [dS];exact l3) (h3.place _)).place _
  ·have e2:(s1.lab).labs.length=s1.labs.length+1:=d_ s1;have h2:=pT hk he body _ hg.2.2.1.2 (by show k≤(s1.lab).labs.length;omega) (h0.lab.jump 32 1 0 (l:=(s1.labs.length:Int)) ⟨by omega,by omega⟩);have l2:=iO o st en body ((s1.lab).jump 32 1 0 s1.labs.length);have l2':(s1.lab).labs.length≤_:=l2;exact(h2.jump 40 0 0 (l:=(s.labs.length:Int)) ⟨by omega,by omega⟩).place _
theorem pT{o st:Om}{k:Nat}(hk:okL o st k){en:Int}(he:0≤en∧en<k):∀(l:List Ty)(s:Qg),GYs l→k≤s.labs.length→okG s→okG (gj o st en l s)
 | [],s,_,_,h=>h
 | t::r,s,hg,hs,h=>pT hk he r _ hg.2 (by
   have:=(CA (K:=fun _=>False) (S:=fun _=>0) (E:=0) t s (fun _ h=>h.elim) (fun _ h=>h.elim):Res (fun _=>False) s (gY o st en t s) _).labs_le;omega) (KE hk he t s hg.1 hs h)
end
theorem fX(o:Om)(x y:Ba)(n:Int):bn (fC o x n) y=if x=y then n else bn o y:=by
 unfold bn fC;rw [List.find?_cons];by_cases h:x=y
 ·rw [ak h];simp only [decide_eq_true h]
 ·rw [ac h];simp only [decide_eq_false h]
  induction o with
  | nil=>rfl
  | cons p r ih=>
   rw [List.filter_cons];by_cases hp:p.1=x
   ·rw [ac (by simp [hp]),ih,List.find?_cons];simp only [decide_eq_false (show ¬p.1=y from fun e=>h (hp.symm.trans e))]
   ·rw [ak (by simp [hp]),List.find?_cons,List.find?_cons];by_cases hy:p.1=y
    ·simp only [decide_eq_true hy]
    ·simp only [decide_eq_false hy];exact ih
def mX:List Tf→Ba→Nat
 | [],_=>0
 | f::r,x=>if f.name=x then 0 else mX r x+1
theorem yM:∀(fs:List Tf)(p:Om×Qg)(x:Ba),(fs.map Tf.name).Nodup→(x∈fs.map Tf.name→bn (mN fs p).1 x=((p.2.labs.length+mX fs x:Nat):Int))∧(x∉fs.map Tf.name→bn (mN fs p).1 x=bn p.1 x)
 | [],p,x,_=>⟨fun h=>by simp at h,fun _=>rfl⟩
 | f::r,p,x,h=>by
  rw [List.map_cons,List.nodup_cons]at h;unfold mN;obtain⟨i1,i2⟩:=yM r (fC p.1 f.name p.2.labs.length,p.2.lab) x h.2;have hl:(p.2.lab).labs.length=p.2.labs.length+1:=by
   show(p.2.labs++ [0]).length=_;rw [bQ,dP]
  rw [hl]at i1;by_cases hx:x∈r.map Tf.name
  ·have hf:¬f.name=x:=fun e=>h.1 (by rw [e];exact hx)
   refine⟨fun _=> ?_,fun hn=>absurd (List.mem_cons_of_mem _ hx) hn⟩;rw [i1 hx,show mX (f::r) x=mX r x+1 from ac hf]
   congr 1
   omega
  ·rw [i2 hx];show(_→bn (fC p.1 f.name (p.2.labs.length:Int)) x=_)∧(_→bn (fC p.1 f.name (p.2.labs.length:Int)) x=_);rw [fX];by_cases hf:f.name=x
   ·rw [ak hf];refine⟨fun _=> ?_,fun hn=>absurd (by rw [List.map_cons,hf];exact List.mem_cons_self) hn⟩;unfold mX;rw [ak hf];rfl
   ·rw [ac hf];refine⟨fun hn=> ?_,fun _=>J⟩;rw [List.map_cons,List.mem_cons]at hn;exact absurd (hn.resolve_left fun e=>hf e.symm) hx
theorem u0:∀(fs:List Tf)(p:Om×Qg),(mN fs p).2={p.2 with labs:=p.2.labs++List.replicate fs.length 0}
 | [],p=>by
  show p.2={p.2 with labs:=p.2.labs++ []};rw [List.append_nil]
 | f::r,p=>by
  unfold mN;rw [u0 r];show Qg.mk _ _ ((p.2.labs++ [0])++List.replicate r.length 0)=_;rw [List.append_assoc];rfl
theorem sO:∀(fs:List Tf)(x:Ba),x∈fs.map Tf.name→mX fs x<fs.length
 | [],x,h=>by simp at h
 | f::r,x,h=>by
  unfold mX;split
  ·simp
  ·have:=sO r x ((List.mem_cons.1 h).resolve_left fun e=>by subst e;contradiction);simp only [ca];omega
theorem uq:∀(fs:List Tf)(x y:Ba),x∈fs.map Tf.name→y∈fs.map Tf.name→mX fs x=mX fs y→x=y
 | [],x,_,h,_,_=>by simp at h
 | f::r,x,y,hx,hy,he=>by
  unfold mX at he;by_cases h1:f.name=x
  ·by_cases h2:f.name=y
   ·rw [←h1,h2]
   ·rw [ak h1,ac h2]at he;omega
  ·by_cases h2:f.name=y
   ·rw [ac h1,ak h2]at he;omega
   ·rw [ac h1,ac h2]at he;exact uq r x y ((List.mem_cons.1 hx).resolve_left fun e=>h1 e.symm) ((List.mem_cons.1 hy).resolve_left fun e=>h2 e.symm) (by omega)
theorem l6(st:Om):∀(fs:List Tf)(p:Nat)(l:List Int)(k:Nat),(∀f∈fs,(bn st f.name).toNat≠k)→(dB st fs p l)[k]?=l[k]?
 | [],_,_,_,_=>rfl
 | f::r,p,l,k,h=>by
  unfold dB;rw [l6 st r _ _ k fun g hg=>h g (by simp [hg]),List.getElem?_set_ne (h f (by simp))]
theorem oT(st:Om):∀(fs:List Tf)(p:Nat)(l:List Int)(x:Ba),(fs.map Tf.name).Nodup→(∀a∈fs.map Tf.name,∀b∈fs.map Tf.name,(bn st a).toNat=(bn st b).toNat→a=b)→
  (∀a∈fs.map Tf.name,(bn st a).toNat<l.length)→x∈fs.map Tf.name→(dB st fs p l)[(bn st x).toNat]?=some (gx fs p x)
 | [],_,_,x,_,_,_,h=>by simp at h
 | f::r,p,l,x,hn,hi,hl,hx=>by
  rw [List.map_cons,List.nodup_cons]at hn;unfold dB gx;by_cases hf:f.name=x
  ·rw [ak hf,l6 st r _ _ _ fun g hg e=>hn.1 (by
    have hm:g.name∈(f::r).map Tf.name:=List.mem_map_of_mem (by simp [hg]);have:=hi g.name hm x hx e;rw [hf,←this];exact List.mem_map_of_mem hg),hf,List.getElem?_set_self (hl x hx)]
  ·rw [ac hf];exact oT st r _ _ x hn.2 (fun a ha b hb=>hi a (List.mem_cons_of_mem _ ha) b (List.mem_cons_of_mem _ hb)) (fun a ha=>by rw [List.length_set];exact hl a (List.mem_cons_of_mem _ ha)) ((List.mem_cons.1 hx).resolve_left fun e=>hf e.symm)
theorem u5(labs:List Int):∀(fs:List (Int×Int))(l:List Qi),mn labs fs l=qE (fun i=>labs.getD i.toNat 0) 0 fs l
 | [],l=>rfl
 | f::r,l=>by
  unfold mn qE;rw [Nat.sub_zero];exact u5 labs r _
theorem xT:∀(fs:List Tf)(p:Nat)(x:Ba),x∉fs.map Tf.name→gx fs p x=3
 | [],_,_,_=>rfl
 | f::r,p,x,h=>by
  rw [List.map_cons,List.mem_cons]at h;unfold gx;rw [ac fun e=>h (Or.inl e.symm)];exact xT r _ x fun e=>h (Or.inr e)
theorem yR(fs:List Tf)(hn:(fs.map Tf.name).Nodup)(h0:fs≠ []):iz fs=iJ fs:=by
 obtain⟨st,hst⟩:∃st,st=(mN fs ([],⟨[],[],[]⟩)).1:=⟨_,J⟩
 have ho:∀x,x∉fs.map Tf.name→bn st x=0:=fun x hx=>by
  rw [hst,(yM fs _ x hn).2 hx];rfl
 have hm:∀x∈fs.map Tf.name,(bn st x).toNat=mX fs x:=fun x hx=>by
  rw [hst,(yM fs _ x hn).1 hx];show((0+mX fs x:Nat):Int).toNat=_;rw [Nat.zero_add,Int.toNat_natCast]
 obtain⟨s0,hs0⟩:∃s0,s0=(mN fs ([],⟨[],[],[]⟩)).2:=⟨_,J⟩
 have e0:s0=⟨[],[],List.replicate fs.length 0⟩:=by
  rw [hs0,u0];rfl
 obtain⟨s1,hs1⟩:∃s1:Qg,s1=((s0.emit [qi 16 14 0 16384]).jump 40 15 0 (bn st d9)).emit [⟨48,0,0,0,0⟩]:=⟨_,J⟩
 have hA:xo fs=p_ st fs s1:=by
  rw [hs1,hs0,hst];rfl
 have c1:s1.code.length=3:=by rw [hs1,e0];rfl
 have l1:s1.labs=List.replicate fs.length 0:=by rw [hs1,e0];rfl
 obtain⟨S,hS⟩:∃S,S=gx fs 3:=⟨_,J⟩
 have hlt:∀f∈fs,(bn st f.name).toNat<s1.labs.length:=fun f hf=>by
  have hx:f.name∈fs.map Tf.name:=List.mem_map_of_mem hf;rw [hm _ hx,l1,List.length_replicate];exact sO fs _ hx
 have g2:=yP (K:=fun L=>∀x,L (bn st x)=S x) (S:=S) (fun L h=>h) fs s1 hlt;rw [c1]at g2;have g1:Res (fun L=>∀x,L (bn st x)=S x) {s0 with labs:=dB st fs 3 s1.labs} {s1 with labs:=dB st fs 3 s1.labs} [qi 16 14 0 16384,qi 40 15 0 (wU (S d9-1)),⟨48,0,0,0,0⟩]:=by
  rw [hs1];refine(((Res.emit _ [_]).seq (Res.jump _ 40 15 0 (bn st d9) _ fun L hL=> ?_)).seq (Res.emit _ [_]));rw [hL d9];show wU (_-(((s0.code++ [_]).length:Nat):Int))=_;rw [e0];rfl
 obtain⟨raw,fx,ls,a1,a2,a3,a4,a5,a6⟩:=(g1.seq g2).ex;unfold iz;rw [hA,u5,a1,a3];have hc:s0.code= []:=by rw [e0]
 have hf:s0.fixes= []:=by rw [e0]
 show qE _ 0 (s0.fixes++fx) (s0.code++raw)=iJ fs;rw [hc,hf,List.nil_append,List.nil_append];have hcl:s0.code.length=0:=by rw [hc];rfl
 have hget:∀x∈fs.map Tf.name,(dB st fs 3 s1.labs)[(bn st x).toNat]?=some (gx fs 3 x):=fun x hx=>
  oT st fs 3 s1.labs x hn (fun a ha b hb e=>uq fs a b ha hb (by rw [←hm a ha,←hm b hb];exact e)) (fun a ha=>by
   obtain⟨f,hf,rfl⟩:=List.mem_map.1 ha;exact hlt f hf) hx
 have a6':=a6 (fun i=>(p_ st fs s1).labs.getD i.toNat 0) (fun x=> ?_) (fun i n hi=> ?_)
 ·rw [show({s0 with labs:=dB st fs 3 s1.labs}:Qg).code.length=0 from hcl]at a6';rw [a6',hS];rfl
 ·show(p_ st fs s1).labs.getD (bn st x).toNat 0=S x;rw [a4,hS];show(dB st fs 3 s1.labs++ls).getD _ 0=_;have hlen:∀y∈fs.map Tf.name,(bn st y).toNat<(dB st fs 3 s1.labs).length:=fun y hy=>by
   rw [li];obtain⟨f,hf,rfl⟩:=List.mem_map.1 hy;exact hlt f hf
  by_cases hx:x∈fs.map Tf.name
  ·rw [List.getD_eq_getElem?_getD,List.getElem?_append_left (hlen x hx),hget x hx];rfl
  ·rw [xT fs 3 x hx,ho x hx];cases fs with
   | nil=>exact absurd rfl h0
   | cons f r=>
    have hy:f.name∈(f::r).map Tf.name:=by simp
    have h3:=hget f.name hy;have h4:=hlen f.name hy;have h5:(bn st f.name).toNat=0:=by
     rw [hm _ hy];unfold mX;rw [ak J]
    rw [h5]at h3 h4;rw [List.getD_eq_getElem?_getD,show(0:Int).toNat=0 from J,List.getElem?_append_left h4,h3];unfold gx;rw [ak J];rfl
 ·show(p_ st fs s1).labs.getD (((dB st fs 3 s1.labs).length+i:Nat):Int).toNat 0=n;rw [a4];show(dB st fs 3 s1.labs++ls).getD _ 0=_;rw [Int.toNat_natCast,List.getD_eq_getElem?_getD,List.getElem?_append_right (by omega),show(dB st fs 3 s1.labs).length+i-(dB st fs 3 s1.labs).length=i by omega,hi];rfl
def okO(o:Om):Prop:=∀x,oW (bn o x)
theorem okO.put{o:Om}(h:okO o)(x:Ba){n:Int}(hn:oW n):okO (fC o x n):=fun y=>by
 rw [fX];split
 ·exact hn
 ·exact h y
theorem okO.nil:okO []:=fun _=>pj
theorem okO.gP{n:Int}(hn:n≤1000000):∀(l:List Ba)(k:Int)(o:Om),okO o→0≤k→k+l.length≤n→okO (gP n k l o)
 | [],k,o,h,_,_=>h
 | p::r,k,o,h,hk,hl=>by
  rw [ca]at hl;exact okO.gP hn r (k+1) _ (h.put p ⟨by omega,by omega⟩) (by omega) (by omega)
mutual
theorem okO.gD:∀(t:Ty)(p:Om×Int),okO p.1→okO (gD t p).1
 | .mk k nm ve es vb body vl els,p,h=>by
  rw [CL];refine okO.gDs els _ (okO.gDs body _ ?_);show okO (if k=1 then _ else p).1;split
  ·exact h.put nm (ph _)
  ·exact h
theorem okO.gDs:∀(l:List Ty)(p:Om×Int),okO p.1→okO (gDs l p).1
 | [],p,h=>h
 | t::r,p,h=>okO.gDs r _ (okO.gD t p h)
end
theorem okO.offs{f:Tf}(hg:GF f):okO (cQ f).1:=okO.gDs f.body _ (okO.gP (by have:=hg.2.2.1;omega) f.ps 0 [] okO.nil (Int.le_refl _) (by omega))
theorem okG.push0:∀(n:Nat){s:Qg},okG s→okG (dn n s)
 | 0,s,h=>h
 | n+1,s,h=>by
  rw [gL];exact(okG.push0 n h).push 0
theorem KH{st:Om}{f:Tf}{s:Qg}(hg:GF f)(hst:∀x,0≤bn st x∧bn st x<s.labs.length)(h:okG s):okG (gF st f s):=by
 have e2:(s.lab.lab).labs.length=s.labs.length+2:=by rw [d_,d_]
 have h1:=(((h.lab.lab.place (bn st f.name)).one (q:=qi 16 12 12 1) ⟨by decide,by decide⟩).one (q:=qi 16 2 0 12) ⟨by decide,by decide⟩).jump 35 2 12 (l:=(s.labs.length:Int)) ⟨by omega,by show(s.labs.length:Int)<((s.lab.lab).place (bn st f.name)).labs.length;rw [dS];omega⟩;have h2:=(h1.one (q:=⟨49,0,0,0,0⟩) pj).place s.labs.length;have h3:=((((h2.push 15).push 13).one (q:=q3 1 13 14 0) pj).push0 (cQ f).2.toNat)
 have l3:(dn (cQ f).2.toNat ((((((((((s.lab.lab).place (bn st f.name)).emit [qi 16 12 12 1]).emit [qi 16 2 0 12]).jump 35 2 12 s.labs.length).emit [⟨49,0,0,0,0⟩]).place s.labs.length).push 15).push 13).emit [q3 1 13 14 0])).labs.length=s.labs.length+2:=by
  rw [jp];show(((((((s.lab.lab).place (bn st f.name)).emit [qi 16 12 12 1]).emit [qi 16 2 0 12]).jump 35 2 12 s.labs.length).emit [⟨49,0,0,0,0⟩]).place s.labs.length).labs.length=_;rw [dS];show((s.lab.lab).place (bn st f.name)).labs.length=_;rw [dS,e2]
 have h4:=pT (o:=(cQ f).1) (st:=st) (k:=s.labs.length+2) ⟨okO.offs hg,fun x=>by have:=hst x;omega⟩ (en:=(s.labs.length:Int)+1) ⟨by omega,by omega⟩ f.body _ hg.2.2.2.2.1 (by rw [l3];exact bM _) h3;exact(((((((h4.one (q:=q3 1 1 0 0) pj).place _).one (q:=q3 1 14 13 0) pj).pop 13).pop 15).one (q:=qi 16 12 12 4294967295) ⟨by decide,by decide⟩).one (q:=qi 27 0 15 0) pj)
theorem CK(st:Om)(f:Tf)(s:Qg):s.labs.length≤(gF st f s).labs.length:=by
 have h1:=iO (cQ f).1 st ((s.labs.length:Int)+1) f.body (dn (cQ f).2.toNat ((((((((((s.lab.lab).place (bn st f.name)).emit [qi 16 12 12 1]).emit [qi 16 2 0 12]).jump 35 2 12 s.labs.length).emit [⟨49,0,0,0,0⟩]).place s.labs.length).push 15).push 13).emit [q3 1 13 14 0]));rw [jp]at h1;have h2:s.labs.length+2≤(gj (cQ f).1 st ((s.labs.length:Int)+1) f.body (dn (cQ f).2.toNat ((((((((((s.lab.lab).place (bn st f.name)).emit [qi 16 12 12 1]).emit [qi 16 2 0 12]).jump 35 2 12 s.labs.length).emit [⟨49,0,0,0,0⟩]).place s.labs.length).push 15).push 13).emit [q3 1 13 14 0]))).labs.length:=by
  refine Nat.le_trans ?_ h1;show _≤(((((((s.lab.lab).place (bn st f.name)).emit [qi 16 12 12 1]).emit [qi 16 2 0 12]).jump 35 2 12 s.labs.length).emit [⟨49,0,0,0,0⟩]).place s.labs.length).labs.length;rw [dS];show _≤((s.lab.lab).place (bn st f.name)).labs.length;rw [dS,d_,d_];exact bM _
 show _≤(((gj (cQ f).1 st ((s.labs.length:Int)+1) f.body _).emit [q3 1 1 0 0]).place ((s.labs.length:Int)+1)).labs.length;rw [dS];exact Nat.le_trans (Nat.le_add_right _ 2) h2
theorem CJ{st:Om}:∀(l:List Tf)(s:Qg),(∀f∈l,GF f)→(∀x,0≤bn st x∧bn st x<s.labs.length)→okG s→okG (p_ st l s)
 | [],s,_,_,h=>h
 | f::r,s,hg,hst,h=>CJ r _ (fun g hm=>hg g (by simp [hm])) (fun x=>by have:=hst x;have:=CK st f s;omega) (KH (hg f (by simp)) hst h)
theorem CG{fs:List Tf}(hn:(fs.map Tf.name).Nodup)(h0:fs≠ [])(x:Ba):0≤bn (mN fs ([],⟨[],[],[]⟩)).1 x∧bn (mN fs ([],⟨[],[],[]⟩)).1 x<fs.length:=by
 have hl:0<fs.length:=by cases fs with|nil=>exact absurd J h0|cons _ _=>simp
 obtain⟨h1,h2⟩:=yM fs ([],⟨[],[],[]⟩) x hn;by_cases hx:x∈fs.map Tf.name
 ·have:=sO fs x hx;rw [h1 hx];simp only [cj];omega
 ·rw [h2 hx];show(0:Int)≤0∧(0:Int)<_;omega
theorem E_{fs:List Tf}(hg:GP fs)(hn:(fs.map Tf.name).Nodup)(h0:fs≠ []):okG (xo fs):=by
 have hb:=CG hn h0;have hs:=u0 fs ([],⟨[],[],[]⟩);have hl:(mN fs ([],⟨[],[],[]⟩)).2.labs.length=fs.length:=by
  rw [hs];simp
 have ok0:okG (mN fs ([],⟨[],[],[]⟩)).2:=by
  rw [hs];exact⟨fun p hp=>by simp at hp,fun q hq=>by simp at hq⟩
 have h1:=((ok0.one (q:=qi 16 14 0 16384) ⟨by decide,by decide⟩).jump 40 15 0 (l:=bn (mN fs ([],⟨[],[],[]⟩)).1 d9) ⟨(hb d9).1,by show _<((mN fs ([],⟨[],[],[]⟩)).2.labs.length:Int);rw [hl];exact(hb d9).2⟩).one (q:=⟨48,0,0,0,0⟩) pj;exact CJ fs _ hg.2 (fun x=>by
  show _∧_<((mN fs ([],⟨[],[],[]⟩)).2.labs.length:Int);rw [hl];exact hb x) h1
theorem rl:∀(l:List Qi)(k:Nat)(n:Int),oW n→(∀q∈l,oW q.imm)→∀q∈gp l k n,oW q.imm
 | [],_,_,_,h=>h
 | i::l,0,n,hn,h=>fun q hq=>by
  rcases List.mem_cons.1 hq with rfl|hq
  ·exact hn
  ·exact h q (by simp [hq])
 | i::l,k+1,n,hn,h=>fun q hq=>by
  rcases List.mem_cons.1 hq with rfl|hq
  ·exact h q (by simp)
  ·exact rl l k n hn (fun q hq=>h q (by simp [hq])) q hq
theorem tt(labs:List Int):∀(fs:List (Int×Int))(l:List Qi),(∀q∈l,oW q.imm)→(∀q∈mn labs fs l,oW q.imm)∧(mn labs fs l).length=l.length
 | [],l,h=>⟨h,rfl⟩
 | p::r,l,h=>by
  obtain⟨h1,h2⟩:=tt labs r (gp l p.1.toNat (wU (labs.getD p.2.toNat 0-p.1))) (rl l _ _ (ph _) h);exact⟨h1,h2.trans (ik l _ _)⟩
theorem rN(labs:List Int):∀{fs:List (Int×Int)}{i:Nat}{f:Int×Int}(l:List Qi),fs[i]?=some f→mn labs (fs.take (i+1)) l=gp (mn labs (fs.take i) l) f.1.toNat (wU (labs.getD f.2.toNat 0-f.1))
 | [],i,f,l,h=>by simp at h
 | p::r,0,f,l,h=>by cases h;rfl
 | p::r,i+1,f,l,h=>rN labs (fs:=r) _ h
theorem oV:∀(l:List Qi)(k:Nat)(n:Int)(q:Qi),l[k]?=some q→gp l k n=l.set k {q with imm:=n}
 | [],k,n,q,h=>by simp at h
 | i::l,0,n,q,h=>by cases h;rfl
 | i::l,k+1,n,q,h=>congrArg (i:: ·) (oV l k n q h)
def eb(l:List Qi):List Int:=l.flatMap fun q=>eJ (qX q)
theorem fU:∀l:List Qi,(eb l).length=4*l.length
 | []=>rfl
 | q::r=>by
  show(eJ (qX q)++eb r).length=_;rw [bQ,fU r,ca,show(eJ (qX q)).length=4 from J];omega
theorem yo(n:Int):∀x∈eJ n,0≤x∧x<256:=fun x hx=>by
 simp only [eJ,List.mem_cons,List.not_mem_nil,or_false]at hx;rcases hx with rfl|rfl|rfl|rfl<;>omega
theorem qu(l:List Qi):∀x∈eb l,0≤x∧x<256:=fun x hx=>by
 obtain⟨q,_,hq⟩:=List.mem_flatMap.1 hx;exact yo _ x hq
theorem iE:∀l:List Int,(∀x∈l,0≤x∧x<256)→aH (jm l)=l:=by
 have h0:∀(l:List Int)(r:Ba),(l.foldl (fun r n=>r.push (UInt8.ofNat n.toNat)) r).data.toList=r.data.toList++l.map fun n=>UInt8.ofNat n.toNat:=by
  intro l
  induction l with
  | nil=>intro r;simp
  | cons n l ih=>intro r;rw [List.foldl_cons,ih];simp [ByteArray.push]
 intro l hl;unfold aH jm;rw [h0];simp only [List.map_append,List.map_map];show(ByteArray.empty.data.toList).map _++_=l;rw [show ByteArray.empty.data.toList= []from J,List.map_nil,List.nil_append];refine(List.map_congr_left (g:=id) fun n hn=> ?_).trans (List.map_id l);have:=hl n hn;show(((UInt8.ofNat n.toNat).toNat:Nat):Int)=n;rw [UInt8.toNat_ofNat'];omega
theorem xJ{l:List Qi}{i:Nat}{q:Qi}(h:l[i]?=some q):eb (l.take (i+1))=eb (l.take i)++aH (jm (eJ (qX q))):=by
 rw [cm h,iE _ (yo _)];unfold eb;rw [List.flatMap_append];simp
theorem GU(x:Int):IntKind.u32.wrap (IntKind.i64.wrap x)=wU x:=by
 unfold wU;simp only [IntKind.wrap_u32,IntKind.wrap_i64];omega
theorem uV(e:Ga)(s:Qg)(hs:okG s)(hz:s.sz≤240000)(hne:s.code≠ []):
  aN prog 55 [Pt e.g] [gA e s] [] (Sg (jm (eb (mn s.labs s.fixes s.code)))) []:=by
 refine ay func55 J ntmps55 J fun w0 M H=> ?_
 unfold Qg.sz at hz;refine sI 0 [0,21,22,23] J (by decide) J fun vc vf vl=>am (ao J (aa (aR (ab J (bq J (aA oA J (aL 0 Ec J J J J (aJ (aZ underlying107 J (bp (k:=22) J)) (ab J (aa (aC (bC (X:=Nat) (fun i=>i≤s.fixes.length) (fun i=> [(0,Pt e.g),(2,Sg ⟨#[]⟩),(13,sv vf),(14,I6 (s.fixes.length:Int)),(15,I6 (i:Int))]) (fun i=> [(0,aO e.g 111 (gR e.vp vc vf vl e.ms e.mo e.mp e.en)),(21,own 118 5 gM (sv vc) (mn s.labs (s.fixes.take i) s.code)),(22,own 171 2 tO (sv vf) s.fixes),(23,own 3 1 eI (sv vl) s.labs)]) (fun i=> []) (fun i=>s.fixes.length-i) 0 (bE _) J J J (fun i n1=>am (ap J J cG ?_))))))))))))))
 refine aa (aT (ai J (fun h1=> ?_) (fun h1=> ?_)))
 ·(try simp only [aX]at h1);have hi:i<s.fixes.length:=by omega
  obtain⟨f,hf⟩:∃f,s.fixes[i]?=some f:=⟨_,bO hi⟩
  have hfx:=hs.fx f (cO hf);have hfl:(mn s.labs (s.fixes.take i) s.code).length=s.code.length:=(tt s.labs (s.fixes.take i) s.code hs.im).2;obtain⟨q,hq⟩:∃q,(mn s.labs (s.fixes.take i) s.code)[f.1.toNat]?=some q:=⟨_,bO (by rw [hfl];omega)⟩
  obtain⟨lb,hlb⟩:∃lb,s.labs[f.2.toNat]?=some lb:=⟨_,bO (by omega)⟩
  have hgd:s.labs.getD f.2.toNat 0=lb:=by rw [List.getD_eq_getElem?_getD,hlb];rfl
  refine az (aT (aC (am (aJ (aQ (j:=i) underlying107 wo J J (bp (k:=22) J) (by first|rfl|omega) (by first|omega|(simp;done)|(simp;omega))) (aJ (aM wo J J J (ci (bp (k:=22) J) (by intro _;rfl) hf (by rfl))) (aU wo J J fun b4=>aq (k:=4) wo J J J J J J (aa ?_)))))));refine bV [19,20,21,22,23,24,25,26,27,28,29,30,31,32,33,34,35,36,37,38] _ J (bR (V:= [(0,19,_),(1,20,_),(2,21,_),(3,22,_),(4,23,_),(5,24,_),(6,25,_),(7,26,_),(8,27,_),(9,28,_),(10,29,_),(11,30,_),(12,31,_),(13,32,_),(14,33,_),(15,34,_),(16,35,_),(17,36,_),(18,37,_),(19,38,_)]) [0,1,2,3,4,5,6,7,8,9,10,11,12,13,14,15,16,17,18,19] 20 [20,19,18,17,16,15,14,13,12,11,10,9,8,7,6,5,4,3,2,1,0] [] (fun _=> []) J J (aK J J (ad J (av J) (ad J (ah kJ J) (ad J (ag zG J J (aB (k:=0) J J)) (ad J (ah y8 J) (ad J (ag t3 J J (aB (k:=4) J J)) (aK J J (ad J (av J) (ad J (ah mz J) (ad J (ag Bc J J (aB (k:=0) J J)) (ad J (ah Fp J) (ad J (ag t3 J J (aB (k:=4) J J)) (ad J (aQ (j:=f.2.toNat) underlying22 t3 J J (bp (k:=23) J) (by omega) (by omega)) (ad J (ag t3 J J (ci (bp (k:=23) J) (by intro _;rfl) hlb (by rfl))) (ad J (ah y8 J) (ad J (ag t3 J J (aB (k:=4) J J)) (ad J (aS J J (lg J)) (ad J (bK underlying3 underlying41 J (GU _)) (ad J (aQ (j:=f.1.toNat) underlying106 ey J J (bp (k:=21) J) (by omega) (by rw [hfl];omega)) (ad J (cy dq J) au)))))))))))))))))))) J J J J J J J J J (fun _ _=>J) J (hQ (k:=21) (o:=4) (e':={q with imm:=wU (lb-f.1)}) dy J J J J J J (by intro _;rfl) hq (by show _+1≤_;decide) J) (fun _ _=>br [] J J au J J J ?_));refine aj (ap J J aY (ab J (aa ?_)));refine aI (i+1) ⟨by omega,by omega⟩ J (by rw [rN s.labs s.code hf,oV _ _ _ q hq,hgd];rfl) J
 ·(try simp only [aX]at h1);have hi:i=s.fixes.length:=by omega
  subst hi;refine bF (aT ?_);rw [eA];obtain⟨C,hC⟩:∃C,C=mn s.labs s.fixes s.code:=⟨_,J⟩
  rw [←hC];have hCo:=tt s.labs s.fixes s.code hs.im;rw [←hC]at hCo;have hCl:=hCo.2;refine aj (aU Eb J J fun b5=>aa (aR (ab J (bq J (aA kJ J (aL 0 zG J J J J (aJ (aZ underlying106 J (bp (k:=21) J)) (ab J (aa (aC (ez 31 (α:=Int) (S:=5) (s:=1) (enc:=bJ) (bC (X:=Nat×Option Addr×SV) (fun x=>x.1≤C.length∧(x.2.1=none∨x.2.1=some ⟨b5,0,none⟩)) (fun x=> [(0,Pt e.g),(2,Sg ⟨#[]⟩),(5,Pt b5),(43,sv vc),(44,I6 (C.length:Int)),(45,I6 (x.1:Int))]) (fun x=> [(0,aO e.g 111 (gR e.vp vc vf vl e.ms e.mo e.mp e.en)),(21,own 118 5 gM (sv vc) C),(5,aO b5 177 [.pointer x.2.1,sv x.2.2]),(31,own 5 1 bJ (sv x.2.2) (eb (C.take x.1)))]) (fun x=> []) (fun x=>C.length-x.1) (0,none,bT) ⟨bE _,.inl J⟩ J J J (fun x hx0=>am (ap J J cG (aa ?_)))))))))))))));refine aT (ai J (fun h2=> ?_) (fun h2=> ?_))
  ·(try simp only [aX]at h2);have hi:x.1<C.length:=by omega
   obtain⟨q,hq⟩:∃q,C[x.1]?=some q:=⟨_,bO hi⟩
   have hqi:=hCo.1 q (cO hq);have hcl:=fU (C.take x.1);have htl:=List.length_take (i:=x.1) (l:=C);have hps:(jm (eJ (qX q))).size=4:=by rw [gC];rfl
   refine az (aT (aC (am (aJ (aQ (j:=x.1) underlying106 ey J J (bp (k:=21) J) (by first|rfl|omega) (by first|omega|(simp;done)|(simp;omega))) (aJ (aM ey J J J (ci (bp (k:=21) J) (by intro _;rfl) hq (by rfl))) (aU ey J J fun b7=>aq (k:=7) ey J J J J J J (aw J (aJ (aM ey J J J (bh (k:=7) J)) (ae (xs:= [.tmp 50]) (vh q hqi) Nv [] [] [] (fun _ _=>ab J (aJ (cv J J) (aJ (cv J J) (ao J (ao J (aa ?_)))))))))))))));refine aj (ab J (ae (xs:= [.tmp 54,.const (I6 4)]) (BE (qX q) (Iw q)) L5 [] [] [] (fun _ _=>ae (xs:= [.tmp 5,.tmp 55]) (zw b5 x.2.1 hx0.2 x.2.2 (eb (C.take x.1)) (jm (eJ (qX q))) (by omega)) Nu [5,31] [] [5,31] (fun v56 _=>aa (aj (ap J J aY (ab J (aa ?_))))))));refine aI (x.1+1,some ⟨b5,0,none⟩,v56) ⟨⟨by dsimp only;omega,.inr rfl⟩,by dsimp only;omega⟩ J (by dsimp only;rw [xJ hq];rfl) J
  ·(try simp only [aX]at h2);have hi:x.1=C.length:=by omega
   rw [hi,eA];refine bF (am (ae (xs:= [.tmp 5]) (AK b5 x.2.1 x.2.2 (eb C) (by intro h;have:=fU C;rw [h]at this;simp at this;exact hne (List.length_eq_zero_iff.1 (by omega))) (qu C)) L0 [5,31] [] [5] (fun _ _=>ao J (aa (ar (aG () O J (bU (aD J)) (by rw [hC]) [] [] J J J))))))
def sR(pc:Int)(r:Int→Int)(st:Int):List Value:=I3 pc::((List.range 16).map (fun k=>Value.int .u32 (r ((k:Nat):Int)))++ [I3 0,I3 0,I3 0,I3 0,I3 0,I6 st,I6 0])
def mE(pc:Int)(r:Int→Int)(st:Int)(m:Nat):List Value:=sR pc r st++ [Pt m]
def mV:Int→Int:=fun _=>0
theorem Ad(n:Nat)(hn:n≤4096):
  Spec prog 74 [I6 (n:Int),.bool false] [] [] (X:=Me) (fun _=>True) (fun e=>Pt e.m) (fun e=> [aO e.m 157 (mR e),own 5 1 bJ (sv e.vd) ((⟨List.replicate (256*n) 0,List.replicate (256*n) 0,List.replicate n 0⟩:Mm)).d,own 5 1 bJ (sv e.vi) ((⟨List.replicate (256*n) 0,List.replicate (256*n) 0,List.replicate n 0⟩:Mm)).i,own 3 1 eI (sv e.vr) ((⟨List.replicate (256*n) 0,List.replicate (256*n) 0,List.replicate n 0⟩:Mm)).r]) (fun _=> []):=by
 refine ay func74 J ntmps74 J fun w0 M H=>am (ao J (aw J (ab J (aJ (BM (c:=(n:Int)) J J (by omega)) (aJ (nC (c:=(n:Int)) J J (by omega)) (ao J (aa (bv (X:=Nat×SV×SV×SV) (fun _=>True) (fun x=> [(1,.bool false),(5,I6 (n:Int)),(6,Pt x.1)]) (fun x=> [(20,aO x.1 157 [sv x.2.1,.slice none 0 0,sv x.2.2.1,.slice none 0 0,sv x.2.2.2,.bool false]),(12,own 5 1 bJ (sv x.2.1) (List.replicate (256*n) 0)),(17,own 3 1 eI (sv x.2.2.2) (List.replicate n 0))]) (fun x=> []) ?_ (fun x _=> ?_)))))))))
 ·refine bV [10,11,12,13,14,15,16,17,18,19,20,6] _ J (jZ (V:= [(0,10,_),(1,11,_),(3,13,_),(4,14,_),(6,16,_),(8,18,_)]) [0,1,3,4,6,8] J J (aK J J (ad J (aS J J (ek (c:=((256*n:Nat):Int)) (by rw [bs (by omega)];omega))) (aK J J (ad J (aS J J (ek (c:=((256*n:Nat):Int)) (by rw [bs (by omega)];omega))) (aK J J (aK J J au)))))) J [2,5,7] J J (fZ (ir 2 [2,1,0] [] (fun v12=> []) J J J J J J J J J (fun _ _=>J) J (dI bJ 0 underlying84 t5 J J J J (c:=256*n) J J (by omega) (by simp only [maxLen];omega)) (fun v12 _=>jZ [3,4,6,8] J J (aK J J (ad J (aS J J (ek (c:=((256*n:Nat):Int)) (by rw [bs (by omega)];omega))) (aK J J (aK J J au)))) J [5,7] J J (fZ (ir 5 [5,4,3,2,1,0] [] (fun v15=> []) J J J J J J J J J (fun _ _=>J) J (dI bJ 0 underlying84 t5 J J J J (c:=256*n) J J (by omega) (by simp only [maxLen];omega)) (fun v15 _=>bk [6,8] 7 [7,6,5,4,3,2,1,0] [9] (fun v17=> [(9,19,_)]) J J (aK J J (aK J J au)) J J J J J J J J J J J (fun _ _=>J) J (dI eI 0 underlying22 t3 J J J J (c:=n) J J (by omega) (by simp only [maxLen];omega)) (fun v17 _=>bk [9,8] 10 [10,9,8,7,6,5,4,3,2,1,0] [11] (fun b20=> [(11,6,_)]) J J (ad J (aW (parts:= [(0,.tmp 12),(2,.tmp 15),(4,.tmp 17),(5,.tmp 18)]) zD rz J J) (aK J J au)) J J J J J J J J J J J (fun _ _=>J) J (m5 J (by rfl)) (fun b20 _=>br [11] J J (ad J (d7 J) au) J J J ?_)))) (fZ (ir 7 [7,6,2,1,0] [] (fun v17=> []) J J J J J J J J J (fun _ _=>J) J (dI eI 0 underlying22 t3 J J J J (c:=n) J J (by omega) (by simp only [maxLen];omega)) (fun v17 _=>bk [3,4,8] 5 [7,6,5,4,3,2,1,0] [9] (fun v15=> [(9,19,_)]) J J (aK J J (ad J (aS J J (ek (c:=((256*n:Nat):Int)) (by rw [bs (by omega)];omega))) (aK J J au))) J J J J J J J J J J J (fun _ _=>J) J (dI bJ 0 underlying84 t5 J J J J (c:=256*n) J J (by omega) (by simp only [maxLen];omega)) (fun v15 _=>bk [9,8] 10 [10,9,8,7,6,5,4,3,2,1,0] [11] (fun b20=> [(11,6,_)]) J J (ad J (aW (parts:= [(0,.tmp 12),(2,.tmp 15),(4,.tmp 17),(5,.tmp 18)]) zD rz J J) (aK J J au)) J J J J J J J J J J J (fun _ _=>J) J (m5 J (by rfl)) (fun b20 _=>br [11] J J (ad J (d7 J) au) J J J ?_)))) pl)))) (fZ (ir 5 [5,4,3] [] (fun v15=> []) J J J J J J J J J (fun _ _=>J) J (dI bJ 0 underlying84 t5 J J J J (c:=256*n) J J (by omega) (by simp only [maxLen];omega)) (fun v15 _=>jZ [0,1,6,8] J J (aK J J (ad J (aS J J (ek (c:=((256*n:Nat):Int)) (by rw [bs (by omega)];omega))) (aK J J (aK J J au)))) J [2,7] J J (fZ (ir 2 [5,4,3,2,1,0] [] (fun v12=> []) J J J J J J J J J (fun _ _=>J) J (dI bJ 0 underlying84 t5 J J J J (c:=256*n) J J (by omega) (by simp only [maxLen];omega)) (fun v12 _=>bk [6,8] 7 [7,6,5,4,3,2,1,0] [9] (fun v17=> [(9,19,_)]) J J (aK J J (aK J J au)) J J J J J J J J J J J (fun _ _=>J) J (dI eI 0 underlying22 t3 J J J J (c:=n) J J (by omega) (by simp only [maxLen];omega)) (fun v17 _=>bk [9,8] 10 [10,9,8,7,6,5,4,3,2,1,0] [11] (fun b20=> [(11,6,_)]) J J (ad J (aW (parts:= [(0,.tmp 12),(2,.tmp 15),(4,.tmp 17),(5,.tmp 18)]) zD rz J J) (aK J J au)) J J J J J J J J J J J (fun _ _=>J) J (m5 J (by rfl)) (fun b20 _=>br [11] J J (ad J (d7 J) au) J J J ?_)))) (fZ (ir 7 [7,6,5,4,3] [] (fun v17=> []) J J J J J J J J J (fun _ _=>J) J (dI eI 0 underlying22 t3 J J J J (c:=n) J J (by omega) (by simp only [maxLen];omega)) (fun v17 _=>bk [0,1,8] 2 [7,6,5,4,3,2,1,0] [9] (fun v12=> [(9,19,_)]) J J (aK J J (ad J (aS J J (ek (c:=((256*n:Nat):Int)) (by rw [bs (by omega)];omega))) (aK J J au))) J J J J J J J J J J J (fun _ _=>J) J (dI bJ 0 underlying84 t5 J J J J (c:=256*n) J J (by omega) (by simp only [maxLen];omega)) (fun v12 _=>bk [9,8] 10 [10,9,8,7,6,5,4,3,2,1,0] [11] (fun b20=> [(11,6,_)]) J J (ad J (aW (parts:= [(0,.tmp 12),(2,.tmp 15),(4,.tmp 17),(5,.tmp 18)]) zD rz J J) (aK J J au)) J J J J J J J J J J J (fun _ _=>J) J (m5 J (by rfl)) (fun b20 _=>br [11] J J (ad J (d7 J) au) J J J ?_)))) pl)))) (fZ (ir 7 [7,6] [] (fun v17=> []) J J J J J J J J J (fun _ _=>J) J (dI eI 0 underlying22 t3 J J J J (c:=n) J J (by omega) (by simp only [maxLen];omega)) (fun v17 _=>jZ [0,1,3,4,8] J J (aK J J (ad J (aS J J (ek (c:=((256*n:Nat):Int)) (by rw [bs (by omega)];omega))) (aK J J (ad J (aS J J (ek (c:=((256*n:Nat):Int)) (by rw [bs (by omega)];omega))) (aK J J au))))) J [2,5] J J (fZ (ir 2 [7,6,2,1,0] [] (fun v12=> []) J J J J J J J J J (fun _ _=>J) J (dI bJ 0 underlying84 t5 J J J J (c:=256*n) J J (by omega) (by simp only [maxLen];omega)) (fun v12 _=>bk [3,4,8] 5 [7,6,5,4,3,2,1,0] [9] (fun v15=> [(9,19,_)]) J J (aK J J (ad J (aS J J (ek (c:=((256*n:Nat):Int)) (by rw [bs (by omega)];omega))) (aK J J au))) J J J J J J J J J J J (fun _ _=>J) J (dI bJ 0 underlying84 t5 J J J J (c:=256*n) J J (by omega) (by simp only [maxLen];omega)) (fun v15 _=>bk [9,8] 10 [10,9,8,7,6,5,4,3,2,1,0] [11] (fun b20=> [(11,6,_)]) J J (ad J (aW (parts:= [(0,.tmp 12),(2,.tmp 15),(4,.tmp 17),(5,.tmp 18)]) zD rz J J) (aK J J au)) J J J J J J J J J J J (fun _ _=>J) J (m5 J (by rfl)) (fun b20 _=>br [11] J J (ad J (d7 J) au) J J J ?_)))) (fZ (ir 5 [7,6,5,4,3] [] (fun v15=> []) J J J J J J J J J (fun _ _=>J) J (dI bJ 0 underlying84 t5 J J J J (c:=256*n) J J (by omega) (by simp only [maxLen];omega)) (fun v15 _=>bk [0,1,8] 2 [7,6,5,4,3,2,1,0] [9] (fun v12=> [(9,19,_)]) J J (aK J J (ad J (aS J J (ek (c:=((256*n:Nat):Int)) (by rw [bs (by omega)];omega))) (aK J J au))) J J J J J J J J J J J (fun _ _=>J) J (dI bJ 0 underlying84 t5 J J J J (c:=256*n) J J (by omega) (by simp only [maxLen];omega)) (fun v12 _=>bk [9,8] 10 [10,9,8,7,6,5,4,3,2,1,0] [11] (fun b20=> [(11,6,_)]) J J (ad J (aW (parts:= [(0,.tmp 12),(2,.tmp 15),(4,.tmp 17),(5,.tmp 18)]) zD rz J J) (aK J J au)) J J J J J J J J J J J (fun _ _=>J) J (m5 J (by rfl)) (fun b20 _=>br [11] J J (ad J (d7 J) au) J J J ?_)))) pl)))) pl))))
  ·refine aI (b20,v12,v15,v17) O J J J
  ·refine aI (b20,v12,v15,v17) O J J J
  ·refine aI (b20,v12,v15,v17) O J J J
  ·refine aI (b20,v12,v15,v17) O J J J
  ·refine aI (b20,v12,v15,v17) O J J J
  ·refine aI (b20,v12,v15,v17) O J J J
 ·refine aR (ab J (aJ (cZ J) (aa (ai J (fun h1=> ?_) (fun h1=> ?_)))))
  ·refine am (ab J (ab J (ap J J (ek (c:=((256*n:Nat):Int)) (by rw [bs (by omega)];omega)) (oe bJ 0 underlying84 t5 J J J J (c:=256*n) J J (by omega) (by simp only [maxLen];omega) J fun v26=>bq J (aA oz J (ax (k:=20) wl J J J J J J J J (aa (aj (ab J (ab J (ap J J (ek (c:=((256*n:Nat):Int)) (by rw [bs (by omega)];omega)) (oe bJ 0 underlying84 t5 J J J J (c:=256*n) J J (by omega) (by simp only [maxLen];omega) J fun v32=>bq J (aA Fq J (ax (k:=20) wl J J J J J J J J (aa (aT ?_))))))))))))))));refine aj (ab J (ao J (aa (ar (aG ⟨x.1,x.2.1,v26,x.2.2.1,v32,x.2.2.2⟩ O J (bU (aD J)) J [20,12,26,17] [] J J J)))))
  ·exact absurd h1 (by simp)
theorem rq(n:Nat)(hn:n≤4096):
  Spec prog 34 [I6 (n:Int)] [] [] (X:=Nat×Me) (fun _=>True) (fun x=>Pt x.1) (fun x=> [aO x.1 93 (mE 0 mV 0 x.2.m),aO x.2.m 157 (mR x.2),own 5 1 bJ (sv x.2.vd) ((⟨List.replicate (256*n) 0,List.replicate (256*n) 0,List.replicate n 0⟩:Mm)).d,own 5 1 bJ (sv x.2.vi) ((⟨List.replicate (256*n) 0,List.replicate (256*n) 0,List.replicate n 0⟩:Mm)).i,own 3 1 eI (sv x.2.vr) ((⟨List.replicate (256*n) 0,List.replicate (256*n) 0,List.replicate n 0⟩:Mm)).r]) (fun _=> []):=by
 refine ay func34 J ntmps34 J fun w0 M H=>am (ao J (aw J (ab J (ae (xs:= [.tmp 3,.const (.bool Bool.false)]) (Ad n hn) NE [] [] [10,11,12,13] (fun e _=>aJ (aW (cs:=(mE 0 mV 0 e.m).toArray) (parts:= [(1,.tmp 4)]) OD MJ J (by kernel_rfl)) (cB J J fun b6=>ao J (aa (ar (aG (b6,e) O J (bU (aD J)) J [6,10,11,12,13] [] J J J)))))))))
theorem zR(c m:Nat):
  aN prog 77 [Pt c,.agg (sR 256 mV 0).toArray] [aO c 93 (mE 0 mV 0 m)] [] (.tuple #[]) [aO c 93 (mE 256 mV 0 m)]:=by
 refine ay func77 J ntmps77 J fun w0 M H=>am (cB J J fun b3=>aw J (aA fi J (aJ (cH (j:=0) underlying75 dy J J (by rfl) (by decide)) (ax (k:=3) dy J J J J J J J J (aw J (aA CO J (ax (k:=3) dy J J J J J J J J (aw J (aA gd J (aL 3 t3 J J J J ?_))))))))))
 refine aJ (nC J J J) (aA gd J (ax (k:=3) t3 J J J J J J J J (aw J (aA m9 J (aL 3 t3 J J J J (aJ (nC J J J) (aA m9 J (ax (k:=3) t3 J J J J J J J J (aa (aj (ab J (aJ (aM lX J J J (bh (k:=3) J)) (bq J (aA dx J (ax (k:=0) lX J J J J J J J J (aa (bP () O J fw J [0] [] J J J)))))))))))))))))
@[irreducible] def zer:List Int:=List.replicate 256 0
theorem ji:zer=List.replicate 256 0:=by unfold zer;rfl
theorem fq:zer.length=256:=by rw [ji];exact List.length_replicate ..
theorem AS:zer.take 256=zer:=List.take_of_length_le (by rw [fq];omega)
def o8(p:Nat):Int:=if p≥32 then 3 else if p>0 then 5 else 0
def fc(s:Mm):Nat→Mm
 | 0=>s
 | p+1=>⟨pk (fc s p).d (256*p) zer,pk (fc s p).i (256*p) zer,(fc s p).r.set p (o8 p)⟩
def mL(s:Mm):Nat→Mm
 | 0=>s
 | p+1=>{mL s p with i:=pk (mL s p).i ((p+1)*256) (((mL s p).d.drop ((p+1)*256)).take 256)}
def w_(s:Mm)(code:List Int):Mm:=mL {fc s 64 with d:=pk (fc s 64).d 256 code} 31
theorem wB(p:Nat):0≤o8 p∧o8 p<8∧bits .and .i64 (o8 p) 7=o8 p:=by
 unfold o8;split
 ·decide
 ·split<;>decide
theorem Bq{l:List Int}{k:Nat}{x:Int}(h:∀y∈l,0≤y∧y<8)(hx:0≤x∧x<8):∀y∈l.set k x,0≤y∧y<8:=fun y hy=>by
 rcases List.mem_or_eq_of_mem_set hy with hy|hy
 ·exact h y hy
 ·exact hy▸hx
theorem jn{s:Mm}{n:Nat}(h:MO s n):∀p,MO (fc s p) n
 | 0=>h
 | p+1=>by
  have ih:=jn h p;exact⟨(da _ _ _).trans ih.d,(da _ _ _).trans ih.i,(List.length_set ..).trans ih.r,ih.n,Bq ih.rb ⟨(wB p).1,(wB p).2.1⟩⟩
theorem pG(s:Mm):∀p,(mL s p).d=s.d
 | 0=>rfl
 | p+1=>pG s p
theorem tg{s:Mm}{n:Nat}(h:MO s n):∀p,MO (mL s p) n
 | 0=>h
 | p+1=>by
  have ih:=tg h p;exact ih.ii (da _ _ _)
theorem L9:aH (jm zer)=zer:=iE _ fun x hx=>by rw [ji]at hx;rw [List.eq_of_mem_replicate hx];decide
theorem pg:(jm zer).size=256:=by rw [gC,fq]
theorem oZ(c:Nat)(e:Me)(s:Mm)(n:Nat)(hs:MO s n)(hn:64≤n)(code:Ba)(hc:code.size≤7936):
  aN prog 39 [Pt c,Sg code] [aO e.m 157 (mR e),own 5 1 bJ (sv e.vd) (s).d,own 5 1 bJ (sv e.vi) (s).i,own 3 1 eI (sv e.vr) (s).r,aO c 93 (mE 0 mV 0 e.m)] [] (.tuple #[]) [aO e.m 157 (mR e),own 5 1 bJ (sv e.vd) (w_ s (aH code)).d,own 5 1 bJ (sv e.vi) (w_ s (aH code)).i,own 3 1 eI (sv e.vr) (w_ s (aH code)).r,aO c 93 (mE 256 mV 0 e.m)]:=by
 refine ay func39 J ntmps39 J fun w0 M H=> ?_
 have hdl:=hs.d;have hnn:=hs.n;have hcl:=dc code;refine am (oe bJ 0 underlying84 t5 J J J J (c:=256) J J (by omega) (by simp only [maxLen];omega) J fun v8=>aJ (uz underlying84 underlying5 underlying9 J (bp (k:=8) J) (by decide)) ?_);rw [←ji];refine ao J (aa (aR (ao J (aa (aC (bC (X:=Nat) (fun p=>p≤64) (fun p=> [(0,Pt c),(1,Sg code),(4,Sg (jm zer)),(5,I6 (p:Int))]) (fun p=> [(0,aO e.m 157 (mR e)),(1,own 5 1 bJ (sv e.vd) (fc s p).d),(2,own 5 1 bJ (sv e.vi) (fc s p).i),(3,own 3 1 eI (sv e.vr) (fc s p).r),(4,aO c 93 (mE 0 mV 0 e.m))]) (fun p=> []) (fun p=>64-p) 0 (bE _) J J J (fun p n1=>aR (ab J (ap J J cG (aa (ai J (fun h1=> ?_) (fun h1=> ?_))))))))))))
 ·(try simp only [aX]at h1);have hi:p<64:=by omega
  refine az (aT (aC (am (ab J (bq J (aA dw J (aL 4 nt J J J J (ab J (ap J J (ek (c:=((256*p:Nat):Int)) (by rw [bs (by omega)];omega)) (aJ (bK underlying3 underlying41 J (c:=((256*p:Nat):Int)) (bw (by omega))) (ab J (ae (xs:= [.tmp 17,.tmp 20,.tmp 21]) (lr e (fc s p) n (jn hs p) (256*p) (jm zer) (by rw [pg];omega) (by rw [pg];omega)) IK [0,1,2,3] [] [0,1,2,3] (fun _ _=> ?_)))))))))))));rw [L9];refine aw J (ab J (bq J (aA dw J (aL 4 nt J J J J (ab J (ab J (ct (xs:= [.tmp 26,.tmp 27,.tmp 28]) (kX e {fc s p with d:=pk (fc s p).d (256*p) zer} n ((jn hs p).dd (da _ _ _)) p (by omega) (jm zer) (by rw [pg];omega)) K4 [0,1,2,3] [] [0,1,2,3] J J J (fun _ _=> ?_))))))));rw [L9,AS];refine aw J (ao J (aa (bv (X:=Unit) (fun _=>True) (fun _=> [(0,Pt c),(1,Sg code),(4,Sg (jm zer)),(5,I6 (p:Int)),(6,I6 (if p>0 then 5 else 0))]) (fun _=> [(0,aO e.m 157 (mR e)),(1,own 5 1 bJ (sv e.vd) ({fc s p with d:=pk (fc s p).d (256*p) zer,i:=pk (fc s p).i (256*p) zer}).d),(2,own 5 1 bJ (sv e.vi) ({fc s p with d:=pk (fc s p).d (256*p) zer,i:=pk (fc s p).i (256*p) zer}).i),(3,own 3 1 eI (sv e.vr) ({fc s p with d:=pk (fc s p).d (256*p) zer,i:=pk (fc s p).i (256*p) zer}).r),(4,aO c 93 (mE 0 mV 0 e.m))]) (fun _=> []) ?_ (fun _ _=> ?_))))
  ·refine am (ab J (ap J J ge (aa (ai J (fun h2=> ?_) (fun h2=> ?_)))))
   ·(try simp only [aX]at h2);refine aj (ao J (aa ?_));refine aI () O (by rw [ak (show p>0 by omega)];rfl) J J
   ·(try simp only [aX]at h2);refine az ?_;refine aI () O (by rw [ac (show ¬p>0 by omega)];rfl) J J
  ·refine bv (X:=Unit) (fun _=>True) (fun _=> [(0,Pt c),(1,Sg code),(4,Sg (jm zer)),(5,I6 (p:Int)),(6,I6 (o8 p))]) (fun _=> [(0,aO e.m 157 (mR e)),(1,own 5 1 bJ (sv e.vd) ({fc s p with d:=pk (fc s p).d (256*p) zer,i:=pk (fc s p).i (256*p) zer}).d),(2,own 5 1 bJ (sv e.vi) ({fc s p with d:=pk (fc s p).d (256*p) zer,i:=pk (fc s p).i (256*p) zer}).i),(3,own 3 1 eI (sv e.vr) ({fc s p with d:=pk (fc s p).d (256*p) zer,i:=pk (fc s p).i (256*p) zer}).r),(4,aO c 93 (mE 0 mV 0 e.m))]) (fun _=> []) ?_ (fun _ _=> ?_)
   ·refine am (ab J (ap J J fp (aa (ai J (fun h3=> ?_) (fun h3=> ?_)))))
    ·(try simp only [aX]at h3);refine aj (ao J (aa ?_));refine aI () O (by unfold o8;rw [ak (show p≥32 by omega)];rfl) J J
    ·(try simp only [aX]at h3);refine az ?_;refine aI () O (by unfold o8;rw [ac (show ¬p≥32 by omega)];rfl) J J
   ·refine aj (ab J (bq J (aA dw J (aL 4 nt J J J J (ab J (ab J (ct (xs:= [.tmp 37,.tmp 38,.tmp 39]) (kY e {fc s p with d:=pk (fc s p).d (256*p) zer,i:=pk (fc s p).i (256*p) zer} n (((jn hs p).dd (da _ _ _)).ii (da _ _ _)) p (by omega) (o8 p) (o8 p) (wB p).2.2) K3 [0,1,2,3] [] [0,1,2,3] J J J (fun _ _=>aa (aj (ab J (ap J J aY (ao J (aa ?_)))))))))))));refine aI (p+1) ⟨by omega,by omega⟩ J J J
 ·(try simp only [aX]at h1);have hi:p=64:=by omega
  subst hi;refine bF (am (ab J (bq J (aA dw J (aL 4 nt J J J J (ab J (ae (xs:= [.tmp 44,.const (I3 256),.tmp 45]) (lr e (fc s 64) n (jn hs 64) 256 code (by omega) (by omega)) IK [0,1,2,3] [] [0,1,2,3] (fun _ _=>aa (aR (ao J (aa (aC (bC (X:=Nat) (fun p=>p≤31) (fun p=> [(0,Pt c),(7,I6 ((p+1:Nat):Int))]) (fun p=> [(0,aO e.m 157 (mR e)),(1,own 5 1 bJ (sv e.vd) (mL {fc s 64 with d:=pk (fc s 64).d 256 (aH code)} p).d),(2,own 5 1 bJ (sv e.vi) (mL {fc s 64 with d:=pk (fc s 64).d 256 (aH code)} p).i),(3,own 3 1 eI (sv e.vr) (mL {fc s 64 with d:=pk (fc s 64).d 256 (aH code)} p).r),(4,aO c 93 (mE 0 mV 0 e.m))]) (fun p=> []) (fun p=>31-p) 0 (bE _) J J J (fun p n2=>aR ?_))))))))))))));refine ab J (ap J J cG (aa (ai J (fun h4=> ?_) (fun h4=> ?_))))
  ·(try simp only [aX]at h4);have hi:p<31:=by omega
   refine az (aT (aC (aj (ab J (bq J (aA dw J (aL 4 nt J J J J (ab J (ap J J (ek (c:=(((p+1)*256:Nat):Int)) (by rw [bs (by omega)];omega)) (aJ (bK underlying3 underlying41 J (c:=(((p+1)*256:Nat):Int)) (bw (by omega))) (ct (xs:= [.tmp 54,.tmp 57]) (wy e (mL {fc s 64 with d:=pk (fc s 64).d 256 (aH code)} p) n (tg ((jn hs 64).dd (da _ _ _)) p) (((p+1)*256:Nat):Int) (by rw [pG];have h1:=da (aH code) (fc s 64).d 256;have h2:=(jn hs 64).d;dsimp only;omega)) ND [0,1,2,3] [] [0,1,2,3] J J J (fun _ _=> ?_))))))))))));rw [show((((p+1)*256:Nat):Int)).toNat/256*256=(p+1)*256 by omega];refine aa (aj (ab J (ap J J aY (ao J (aa ?_)))));refine aI (p+1) ⟨by omega,by omega⟩ J J J
  ·(try simp only [aX]at h4);have hi:p=31:=by omega
   subst hi;refine bF (aj (ab J (aJ (aW (cs:=(sR 256 mV 0).toArray) (parts:= [(0,.const (I3 256))]) lX Hj J (by kernel_rfl)) (ae (xs:= [.tmp 59,.tmp 60]) (zR c e.m) NC [4] [] [4] (fun _ _=>aa (bP () O J fw J [0,1,2,3,4] [] J J J))))))
structure Qs where
 pc:Nat
 r:Int→Int
 m:Int→Int
 inp:List Int
 out:List Int
def rp(r:Int→Int)(d v:Int):Int→Int:=fun k=>if k=d∧d≠0 then v else r k
def mw(m:Int→Int)(a v:Int):Int→Int:=fun k=>if k=a then v else m k
def rB(x:Int):Nat:=if 256≤x∧x%4=0 then((x-256)/4).toNat else 5000
def gT(p:Nat):Int:=256+4*(p:Int)
def yx(a:Int):Prop:=8192≤a∧a<16384∧a%4=0
instance(a:Int):Decidable (yx a):=by unfold yx;exact inferInstance
def vL(op a b:Int):Option Int:=
 if op=1∨op=16 then some (wU (a+b))else if op=2 then some (wU (a-b))else if op=3∨op=17 then some (bits .and .u32 a b)else
 if op=4∨op=18 then some (bits .or .u32 a b)else if op=5∨op=19 then some (bits .xor .u32 a b)else
 if op=6∨op=20 then some (wU (a*2^(b%32).toNat))else if op=7 then some (a/2^(b%32).toNat)else
 if op=9 then some (wU (a*b))else if op=10 then(if b=0 then none else some (a/b))else if op=11 then some (tr (decide (a<b)))else none
def tZ(i:Qi)(c:Qs):Option Qs:=
 match vL i.op (c.r i.a) (if i.op<16 then c.r i.b else i.imm)with
 | some v=>some {c with pc:=c.pc+1,r:=rp c.r i.d v}
 | none=>
  if i.op=23 then(if yx (wU (c.r i.a+i.imm))then some {c with pc:=c.pc+1,r:=rp c.r i.d (c.m (wU (c.r i.a+i.imm)))}else none)else
  if i.op=25 then(if yx (wU (c.r i.a+i.imm))then some {c with pc:=c.pc+1,m:=mw c.m (wU (c.r i.a+i.imm)) (c.r i.d)}else none)else
  if i.op=27 then some {c with pc:=rB (wU (c.r i.a+i.imm)),r:=rp c.r i.d (gT (c.pc+1))}else
  if i.op=32 then some {c with pc:=if c.r i.d=c.r i.a then rB (wU (gT c.pc+4*i.imm))else c.pc+1}else
  if i.op=35 then some {c with pc:=if c.r i.d≥c.r i.a then rB (wU (gT c.pc+4*i.imm))else c.pc+1}else
  if i.op=40 then some {c with pc:=rB (wU (gT c.pc+4*i.imm)),r:=rp c.r i.d (gT (c.pc+1))}else
  if i.op=41 then some {c with pc:=c.pc+1,r:=rp c.r i.d (wU (i.imm*1024))}else
  if i.op=48∧i.imm=1 then some {c with pc:=c.pc+1,out:=c.out++ [c.r 1]}else
  if i.op=48∧i.imm=2 then some {c with pc:=c.pc+1,r:=rp c.r 1 (c.inp.headD 0),inp:=c.inp.tail}else none
def rn(code:List Qi):Nat→Qs→Qs→Prop
 | 0,c,c'=>c=c'
 | n+1,c,c'=>∃i c1,code[c.pc]?=some i∧tZ i c=some c1∧rn code n c1 c'
theorem rn.trans{code:List Qi}:∀{n m:Nat}{a b c:Qs},rn code n a b→rn code m b c→rn code (n+m) a c
 | 0,m,a,b,c,h,h2=>by
  have:a=b:=h;subst this;rw [Nat.zero_add];exact h2
 | n+1,m,a,b,c,h,h2=>by
  obtain⟨i,c1,g1,g2,g3⟩:=h;rw [Nat.succ_add];exact⟨i,c1,g1,g2,g3.trans h2⟩
def cAt(code:List Qi)(p:Nat)(l:List Qi):Prop:=∀j i,l[j]?=some i→code[p+j]?=some i
theorem cAt.app{code:List Qi}{p:Nat}{a b:List Qi}(h:cAt code p (a++b)):cAt code p a∧cAt code (p+a.length) b:=by
 refine⟨fun j i hj=>h j i ?_,fun j i hj=> ?_⟩
 ·rw [List.getElem?_append_left (by obtain⟨h,-⟩:=cA.1 hj;exact h)];exact hj
 ·have:=h (a.length+j) i (by rw [List.getElem?_append_right (by omega),show a.length+j-a.length=j by omega];exact hj);rw [Nat.add_assoc];exact this
theorem cAt.head{code:List Qi}{p:Nat}{i:Qi}{l:List Qi}(h:cAt code p (i::l)):code[p]?=some i∧cAt code (p+1) l:=
 ⟨h 0 i rfl,fun j x hj=>by
  have:=h (j+1) x hj;rw [show p+1+j=p+(j+1) by omega];exact this⟩
theorem cAt.of{a b l:List Qi}:cAt (a++l++b) a.length l:=fun j i hj=>by
 rw [List.append_assoc,List.getElem?_append_right (by omega),show a.length+j-a.length=j by omega,List.getElem?_append_left (by obtain⟨h,-⟩:=cA.1 hj;exact h)];exact hj
def Go(code:List Qi)(n:Int)(c:Qs)(P:Qs→Prop):Prop:=∃(k:Nat)(c':Qs),(k:Int)≤n∧rn code k c c'∧P c'
theorem Go.done{code:List Qi}{n:Int}{c:Qs}{P:Qs→Prop}(hn:0≤n)(h:P c):Go code n c P:=⟨0,c,hn,rfl,h⟩
theorem Go.seq{code:List Qi}{n m k:Int}{c:Qs}{P Q:Qs→Prop}(h:Go code n c P)(h2:∀c',P c'→Go code m c' Q)(hk:n+m≤k):Go code k c Q:=by
 obtain⟨a,c1,h3,h4,h5⟩:=h;obtain⟨b,c2,h6,h7,h8⟩:=h2 c1 h5;exact⟨a+b,c2,by omega,h4.trans h7,h8⟩
theorem Go.weak{code:List Qi}{n m:Int}{c:Qs}{P Q:Qs→Prop}(h:Go code n c P)(h2:∀c',P c'→Q c')(hk:n≤m):Go code m c Q:=by
 obtain⟨a,c1,h3,h4,h5⟩:=h;exact⟨a,c1,by omega,h4,h2 c1 h5⟩
theorem Go.step{code:List Qi}{n:Int}{c c1:Qs}{i:Qi}{P:Qs→Prop}(h:code[c.pc]?=some i)(h2:tZ i c=some c1)(h3:Go code (n-1) c1 P):Go code n c P:=by
 obtain⟨k,c2,h4,h5,h6⟩:=h3;exact⟨k+1,c2,by omega,⟨i,c1,h,h2,h5⟩,h6⟩
/-! The instructions that the compiler uses. -/
section
variable{code:List Qi}{n:Int}{c:Qs}{P:Qs→Prop}{d a b x:Int}
theorem fB{n:Int}(h:0≤n∧n<4294967296):wU n=n:=jA h.1 h.2
theorem Cs{i:Qi}{v:Int}(h:code[c.pc]?=some i)(h2:vL i.op (c.r i.a) (if i.op<16 then c.r i.b else i.imm)=some v)(h3:Go code (n-1) {c with pc:=c.pc+1,r:=rp c.r i.d v} P):Go code n c P:=
 Go.step h (by unfold tZ;rw [h2]) h3
theorem xi(h:code[c.pc]?=some (qi 23 d a x))(h2:yx (wU (c.r a+x)))(h3:Go code (n-1) {c with pc:=c.pc+1,r:=rp c.r d (c.m (wU (c.r a+x)))} P):Go code n c P:=
 Go.step (i:=qi 23 d a x) (c1:={c with pc:=c.pc+1,r:=rp c.r d (c.m (wU (c.r a+x)))}) h (by
  have e:tZ (qi 23 d a x) c=(if yx (wU (c.r a+x))then some {c with pc:=c.pc+1,r:=rp c.r d (c.m (wU (c.r a+x)))}else none):=J;rw [e,ak h2]) h3
theorem xh(h:code[c.pc]?=some (qi 25 d a x))(h2:yx (wU (c.r a+x)))(h3:Go code (n-1) {c with pc:=c.pc+1,m:=mw c.m (wU (c.r a+x)) (c.r d)} P):Go code n c P:=
 Go.step (i:=qi 25 d a x) (c1:={c with pc:=c.pc+1,m:=mw c.m (wU (c.r a+x)) (c.r d)}) h (by
  have e:tZ (qi 25 d a x) c=(if yx (wU (c.r a+x))then some {c with pc:=c.pc+1,m:=mw c.m (wU (c.r a+x)) (c.r d)}else none):=J;rw [e,ak h2]) h3
theorem E4(h:code[c.pc]?=some (qi 27 d a x))(h3:Go code (n-1) {c with pc:=rB (wU (c.r a+x)),r:=rp c.r d (gT (c.pc+1))} P):Go code n c P:=
 Go.step h rfl h3
theorem tk(h:code[c.pc]?=some (qi 32 d a x))(h3:Go code (n-1) {c with pc:=if c.r d=c.r a then rB (wU (gT c.pc+4*x))else c.pc+1} P):Go code n c P:=
 Go.step h rfl h3
theorem E5(h:code[c.pc]?=some (qi 35 d a x))(h3:Go code (n-1) {c with pc:=if c.r d≥c.r a then rB (wU (gT c.pc+4*x))else c.pc+1} P):Go code n c P:=
 Go.step h rfl h3
theorem pM(h:code[c.pc]?=some (qi 40 d a x))(h3:Go code (n-1) {c with pc:=rB (wU (gT c.pc+4*x)),r:=rp c.r d (gT (c.pc+1))} P):Go code n c P:=
 Go.step h rfl h3
theorem Id(h:code[c.pc]?=some (qi 41 d a x))(h3:Go code (n-1) {c with pc:=c.pc+1,r:=rp c.r d (wU (x*1024))} P):Go code n c P:=
 Go.step h rfl h3
theorem Ic(h:code[c.pc]?=some ⟨48,0,0,0,1⟩)(h3:Go code (n-1) {c with pc:=c.pc+1,out:=c.out++ [c.r 1]} P):Go code n c P:=
 Go.step h rfl h3
theorem Ku(h:code[c.pc]?=some ⟨48,0,0,0,2⟩)(h3:Go code (n-1) {c with pc:=c.pc+1,r:=rp c.r 1 (c.inp.headD 0),inp:=c.inp.tail} P):Go code n c P:=
 Go.step h rfl h3
end
theorem k9{p q:Nat}{x:Int}(hx:x=wU ((q:Int)-(p:Int)))(hq:q<10000)(hp:p<10000):rB (wU (gT p+4*x))=q:=by
 have e:wU (gT p+4*x)=256+4*(q:Int):=by
  rw [hx];unfold gT;have h1:∀n:Int,wU n=n%4294967296:=fun n=>J
  rw [h1,h1];omega
 unfold rB;rw [e,ak (by omega)];omega
theorem Ey{p:Nat}(hp:p<10000):rB (wU (gT p+0))=p:=by
 rw [Int.add_zero];unfold gT;rw [fB (by omega)];unfold rB;rw [ak (by omega)];omega
def iL(op:Int):Int:=
 if op=1∨op=16 then 3 else if op=2 then 4 else if op=3∨op=17 then 5 else if op=4∨op=18 then 6 else if op=5∨op=19 then 7 else
 if op=6∨op=20 then 8 else if op=7∨op=21 then 9 else if op=8∨op=22 then 10 else if op=9 then 11 else if op=10 then 12 else if op=11 then 14 else if op=12 then 15 else 0
def N3(k a b:Int):Option Int:=
 if k=3 then some (wU (a+b))else if k=4 then some (wU (a-b))else if k=5 then some (bits .and .u32 a b)else if k=6 then some (bits .or .u32 a b)else if k=7 then some (bits .xor .u32 a b)else
 if k=8 then some (wU (a*2^(b%32).toNat))else if k=9 then some (a/2^(b%32).toNat)else if k=11 then some (wU (a*b))else if k=12 then(if b=0 then none else some (a/b))else if k=14 then some (tr (decide (a<b)))else none
theorem IY{op a b v:Int}(h:vL op a b=some v):N3 (iL op) a b=some v:=by
 unfold vL at h;by_cases h1:op=1∨op=16
 ·rw [ak h1]at h;unfold iL;rw [ak h1];exact h
 rw [ac h1]at h;unfold iL;rw [ac h1];by_cases h2:op=2
 ·rw [ak h2]at h;rw [ak h2];exact h
 rw [ac h2]at h;rw [ac h2];by_cases h3:op=3∨op=17
 ·rw [ak h3]at h;rw [ak h3];exact h
 rw [ac h3]at h;rw [ac h3];by_cases h4:op=4∨op=18
 ·rw [ak h4]at h;rw [ak h4];exact h
 rw [ac h4]at h;rw [ac h4];by_cases h5:op=5∨op=19
 ·rw [ak h5]at h;rw [ak h5];exact h
 rw [ac h5]at h;rw [ac h5];by_cases h6:op=6∨op=20
 ·rw [ak h6]at h;rw [ak h6];exact h
 rw [ac h6]at h;rw [ac h6];by_cases h7:op=7
 ·rw [ak h7]at h;rw [ak (Or.inl h7)];exact h
 rw [ac h7]at h;by_cases h8:op=9
 ·rw [ak h8]at h;rw [ac (by omega),ac (by omega),ak h8];exact h
 rw [ac h8]at h;by_cases h9:op=10
 ·rw [ak h9]at h;rw [ac (by omega),ac (by omega),ac h8,ak h9];exact h
 rw [ac h9]at h;by_cases h10:op=11
 ·rw [ak h10]at h;rw [ac (by omega),ac (by omega),ac h8,ac h9,ak h10];exact h
 rw [ac h10]at h;cases h
theorem IX{op a b v:Int}(h:vL op a b=some v):(1≤op∧op≤7∨9≤op∧op≤11∨16≤op∧op≤20)∧(op=10→b≠0)∧iL op≠0:=by
 unfold vL at h;unfold iL;by_cases h1:op=1∨op=16
 ·rw [ak h1];exact⟨by omega,by omega,by decide⟩
 rw [ac h1]at h;rw [ac h1];by_cases h2:op=2
 ·rw [ak h2];exact⟨by omega,by omega,by decide⟩
 rw [ac h2]at h;rw [ac h2];by_cases h3:op=3∨op=17
 ·rw [ak h3];exact⟨by omega,by omega,by decide⟩
 rw [ac h3]at h;rw [ac h3];by_cases h4:op=4∨op=18
 ·rw [ak h4];exact⟨by omega,by omega,by decide⟩
 rw [ac h4]at h;rw [ac h4];by_cases h5:op=5∨op=19
 ·rw [ak h5];exact⟨by omega,by omega,by decide⟩
 rw [ac h5]at h;rw [ac h5];by_cases h6:op=6∨op=20
 ·rw [ak h6];exact⟨by omega,by omega,by decide⟩
 rw [ac h6]at h;rw [ac h6];by_cases h7:op=7
 ·rw [ak (Or.inl h7)];exact⟨by omega,by omega,by decide⟩
 rw [ac h7]at h;by_cases h8:op=9
 ·rw [ac (by omega),ac (by omega),ak h8];exact⟨by omega,by omega,by decide⟩
 rw [ac h8]at h;by_cases h9:op=10
 ·rw [ak h9]at h;rw [ac (by omega),ac (by omega),ac h8,ak h9];refine⟨by omega,fun _ hb=> ?_,by decide⟩;rw [ak hb]at h;cases h
 rw [ac h9]at h;by_cases h10:op=11
 ·rw [ac (by omega),ac (by omega),ac h8,ac h9,ak h10];exact⟨by omega,by omega,by decide⟩
 rw [ac h10]at h;cases h
theorem zZ(t:Bool):
  aN prog 182 [.bool t] [] [] (I3 (tr t)) []:=by
 refine ay func182 J ntmps182 J fun w0 M H=>am (ao J (aa (aR (ab J (aa (ai J (fun h1=> ?_) (fun h1=> ?_)))))))
 ·obtain rfl:t=true:=h1;refine am (ao J (aa (ar (aG () O J (bU (aD J)) J [] [] J J J))))
 ·obtain rfl:t=false:=h1;refine az (am (ao J (aa (ar (aG () O J (bU (aD J)) J [] [] J J J)))))
theorem Bx(k a b v:Int)(ha:0≤a∧a<4294967296)(hb:0≤b∧b<4294967296)(hv:N3 k a b=some v):
  aN prog 150 [I6 k,I3 a,I3 b] [] [] (I3 v) []:=by
 refine ay func150 J ntmps150 J fun w0 M H=>am (ao J (aa (aR (ab J (aa (aC (am (ap J J bj (ao J (aa (ai J (fun h1=> ?_) (fun h1=> ?_))))))))))))
 ·(try simp only [aX]at h1);obtain rfl:k=3:=h1;obtain rfl:wU (a+b)=v:=dv hv;refine am (ab J (ab J (ap J J (bX J) (ao J (aa (ar (aG () O J (bU (aD J)) J [] [] J J J)))))))
 ·(try simp only [aX]at h1);refine am (ap J J bj (ao J (aa (ai J (fun h2=> ?_) (fun h2=> ?_)))))
  ·(try simp only [aX]at h2);obtain rfl:k=4:=h2;obtain rfl:wU (a-b)=v:=dv hv;refine am (ab J (ab J (ap J J (lg J) (ao J (aa (ar (aG () O J (bU (aD J)) J [] [] J J J)))))))
  ·(try simp only [aX]at h2);refine am (ap J J bj (ao J (aa (ai J (fun h3=> ?_) (fun h3=> ?_)))))
   ·(try simp only [aX]at h3);obtain rfl:k=5:=h3;obtain rfl:bits .and .u32 a b=v:=dv hv;refine am (ab J (ab J (ap J J (vJ J) (ao J (aa (ar (aG () O J (bU (aD J)) J [] [] J J J)))))))
   ·(try simp only [aX]at h3);refine am (ap J J bj (ao J (aa (ai J (fun h4=> ?_) (fun h4=> ?_)))))
    ·(try simp only [aX]at h4);obtain rfl:k=6:=h4;obtain rfl:bits .or .u32 a b=v:=dv hv;refine am (ab J (ab J (ap J J (DC J) (ao J (aa (ar (aG () O J (bU (aD J)) J [] [] J J J)))))))
    ·(try simp only [aX]at h4);refine am (ap J J bj (ao J (aa (ai J (fun h5=> ?_) (fun h5=> ?_)))))
     ·(try simp only [aX]at h5);obtain rfl:k=7:=h5;obtain rfl:bits .xor .u32 a b=v:=dv hv;refine am (ab J (ab J (ap J J (L8 J) (ao J (aa (ar (aG () O J (bU (aD J)) J [] [] J J J)))))))
     ·(try simp only [aX]at h5);refine am (ap J J bj (ao J (aa (ai J (fun h6=> ?_) (fun h6=> ?_)))))
      ·(try simp only [aX]at h6);obtain rfl:k=8:=h6;obtain rfl:wU (a*2^(b%32).toNat)=v:=dv hv;refine am (ab J (ab J (ap J J (gW (by omega) (by first|exact iX (by omega)|rfl)) (ap J J (gV (by omega) (by show _≤(32:Int);omega) J) (ao J (aa (ar (aG () O J (bU (aD J)) J [] [] J J J))))))))
      ·(try simp only [aX]at h6);refine am (ap J J bj (ao J (aa (ai J (fun h7=> ?_) (fun h7=> ?_)))))
       ·(try simp only [aX]at h7);obtain rfl:k=9:=h7;obtain rfl:a/2^(b%32).toNat=v:=dv hv;refine am (ab J (ab J (ap J J (gW (by omega) (by first|exact iX (by omega)|rfl)) (ap J J (qD (by omega) (by show _≤(32:Int);omega) J) (ao J (aa (ar (aG () O J (bU (aD J)) J [] [] J J J))))))))
       ·(try simp only [aX]at h7);refine am (ap J J bj (ao J (aa (ai J (fun h8=> ?_) (fun h8=> ?_)))))
        ·(have hk:k=10:=by simpa using h8);subst hk;cases hv
        ·(try simp only [aX]at h8);refine am (ap J J bj (ao J (aa (ai J (fun h9=> ?_) (fun h9=> ?_)))))
         ·(try simp only [aX]at h9);obtain rfl:k=11:=h9;obtain rfl:wU (a*b)=v:=dv hv;refine am (ab J (ab J (ap J J (ek J) (ao J (aa (ar (aG () O J (bU (aD J)) J [] [] J J J)))))))
         ·(try simp only [aX]at h9);refine am (ap J J bj (ao J (aa (ai J (fun h10=> ?_) (fun h10=> ?_)))))
          ·(try simp only [aX]at h10);obtain rfl:k=12:=h10;have hq:(if b=0 then none else some (a/b))=some v:=hv;refine aR (ab J (ap J J bj (aa (ai J (fun h11=> ?_) (fun h11=> ?_)))))
           ·(have hz:b=0:=by simpa using h11);rw [ak hz]at hq;cases hq
           ·(try simp only [aX]at h11);have hz:¬b=0:=by simpa using h11
            rw [ac hz]at hq;obtain rfl:a/b=v:=dv hq;refine az (am (ab J (ab J (ap J J (iG (by omega) (nz ha (by omega))) (ao J (aa (ar (aG () O J (bU (aD J)) J [] [] J J J))))))))
          ·(try simp only [aX]at h10);refine am (ap J J bj (ao J (aa (ai J (fun h12=> ?_) (fun h12=> ?_)))))
           ·(have hk:k=13:=by simpa using h12);subst hk;cases hv
           ·(try simp only [aX]at h12);refine am (ap J J bj (ao J (aa (ai J (fun h13=> ?_) (fun h13=> ?_)))))
            ·(try simp only [aX]at h13);obtain rfl:k=14:=h13;obtain rfl:tr (decide (a<b))=v:=dv hv;refine am (ab J (ab J (ap J J cG (ae (xs:= [.tmp 75]) (zZ (decide (a<b))) Ls [] [] [] (fun _ _=>ao J (aa (ar (aG () O J (bU (aD J)) J [] [] J J J))))))))
            ·(try simp only [aX]at h13);refine am (ap J J bj (ao J (aa (ai J (fun h14=> ?_) (fun h14=> ?_)))))
             ·(have hk:k=15:=by simpa using h14);subst hk;cases hv
             ·(try simp only [aX]at h14);exfalso;unfold N3 at hv;rw [ac (by omega),ac (by omega),ac (by omega),ac (by omega),ac (by omega),ac (by omega),ac (by omega),ac (by omega),ac (by omega),ac (by omega)]at hv;cases hv
end Go.Proofs.YtedmdgbmdplifaaGreat
