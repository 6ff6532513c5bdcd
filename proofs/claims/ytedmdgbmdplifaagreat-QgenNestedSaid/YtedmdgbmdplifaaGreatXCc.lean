/-
  Part of the proof: the texts AT, AU, R0, G1, G2, G3, N0, N1, N2, N3, M0, M1, EA, EB, EC, shortened. Conditions are with the theorems.
-/
import Derived.Laws.BitsAllLaws
import Derived.Test.YtedmdgbmdplifaaGreatXCa
import Derived.Test.YtedmdgbmdplifaaGreatXCb
set_option maxHeartbeats 32000000
set_option maxRecDepth 100000
namespace Go.Proofs.YtedmdgbmdplifaaGreat
set_option linter.unusedSimpArgs false
set_option linter.unusedVariables false
open Go.RowKit Tryz
def nE(fs:List Tf)(ns:List ByteArray)(t:Tx):Int:=if t.kind=2 then(if cg t.name ns=true then 0 else 21)else if t.kind=3 then(match cm fs t.name with
   | none=>21
   | some f=>if f.ps.length=t.kids.length then 0 else 23)else 0
theorem Ac(fs:List Tf)(ns:List ByteArray)(t:Tx):eX fs ns t=fst (nE fs ns t) (iF fs ns t.kids):=by cases t;rfl
theorem ub(fs:List Tf)(ns:List ByteArray):∀a b:List Tx,iF fs ns (a++b)=fst (iF fs ns a) (iF fs ns b)
 | [],b=>rfl
 | t::r,b=>by rw [List.cons_append,iF,ub fs ns r b,iF,fo]
theorem kC{fs:List Tf}{ns:List ByteArray}{l:List Tx}{i:Nat}{k:Tx}(h:l[i]?=some k):iF fs ns (l.take (i+1))=fst (iF fs ns (l.take i)) (eX fs ns k):=by
 rw [bT h,ub];show fst _ (fst (eX fs ns k) 0)=_;rw [dm]
theorem JQ{fs:List Tf}{ns:List ByteArray}{t:Tx}(h:t.kind=2):nE fs ns t=if cg t.name ns=true then 0 else 21:=if_pos h
theorem tG{fs:List Tf}{ns:List ByteArray}{t:Tx}(h:t.kind=3)(hf:cm fs t.name=none):nE fs ns t=21:=by
 unfold nE;rw [if_neg (by omega),if_pos h,hf]
theorem mG{fs:List Tf}{ns:List ByteArray}{t:Tx}{f:Tf}(h:t.kind=3)(hf:cm fs t.name=some f):nE fs ns t=if f.ps.length=t.kids.length then 0 else 23:=by
 unfold nE;rw [if_neg (by omega),if_pos h,hf]
theorem Mw{fs:List Tf}{ns:List ByteArray}{t:Tx}(h2:¬t.kind=2)(h3:¬t.kind=3):nE fs ns t=0:=by
 unfold nE;rw [if_neg h2,if_neg h3]
def aE(ns:List ByteArray)(t:Ty):Int:=if t.kind=2 then(if cg t.name ns=true then 0 else 21)else 0
def dE(ns:List ByteArray)(t:Ty):Int:=if t.kind=1 then(if cg t.name ns=true then 22 else 0)else 0
def dN(ns:List ByteArray)(t:Ty):List ByteArray:=if t.kind=1 then ns++ [t.name]else ns
theorem sT(fs:List Tf)(ns:List ByteArray)(t:Ty):bY fs ns t=((cA fs (cA fs (dN ns t) t.body).1 t.els).1,fst (aE ns t) (fst (iF fs ns t.es) (fst (dE ns t) (fst (cA fs (dN ns t) t.body).2 (cA fs (cA fs (dN ns t) t.body).1 t.els).2)))):=by cases t;rfl
theorem uj(fs:List Tf):∀(ns:List ByteArray)(a b:List Ty),cA fs ns (a++b)=((cA fs (cA fs ns a).1 b).1,fst (cA fs ns a).2 (cA fs (cA fs ns a).1 b).2)
 | ns,[],b=>rfl
 | ns,t::r,b=>by
  rw [List.cons_append,cA,uj fs _ r b,cA];simp only [fo]
theorem qS{fs:List Tf}{ns:List ByteArray}{l:List Ty}{i:Nat}{k:Ty}(h:l[i]?=some k):cA fs ns (l.take (i+1))=((bY fs (cA fs ns (l.take i)).1 k).1,fst (cA fs ns (l.take i)).2 (bY fs (cA fs ns (l.take i)).1 k).2):=by
 rw [bT h,uj];show((bY fs _ k).1,fst _ (fst (bY fs _ k).2 0))=_;rw [dm]
mutual
theorem KL(fs:List Tf):∀(ns:List ByteArray)(t:Ty),(bY fs ns t).1.length=ns.length+vY t
 | ns,.mk k nm _ es _ body _ els=>by
  show(cA fs (cA fs (if k=1 then ns++ [nm]else ns) body).1 els).1.length=_;rw [jL fs _ els,jL fs _ body,vY];split<;>simp<;>omega
theorem jL(fs:List Tf):∀(ns:List ByteArray)(l:List Ty),(cA fs ns l).1.length=ns.length+cL l
 | ns,[]=>by simp [cA,cL]
 | ns,t::r=>by
  show(cA fs (bY fs ns t).1 r).1.length=_;rw [jL fs _ r,KL fs ns t,cL];omega
end
theorem nS{l:List Ty}{i:Nat}{k:Ty}(h:l[i]?=some k):cL (l.take i)+vY k≤cL l:=by
 have h2:=kH (l.take (i+1)) (l.drop (i+1));rw [List.take_append_drop,i_ h]at h2;omega
theorem ue(ns:List ByteArray)(t:Ty):(dN ns t).length=ns.length+if t.kind=1 then 1 else 0:=by
 unfold dN;split
 ·simp
 ·rfl
theorem yp(c:Nat)(vp vn:SV)(nd va:Int)(dp:Bool)(fs:List Tf)(hfl:fs.length≤1000000)(ns:List ByteArray)(hns:ns.length≤1000000)(t:Tx)(ht:GX t)(ih:∀u∈t.kids,∀er:Int,Spec prog 166 [.pointer (some ⟨c,0,none⟩),xV u] [bj c 165 (cR vp vn nd va dp er),own 9 1 eS (sv vn) ns] [bS u.v u.kids,cx vp fs] (X:=Unit) (fun _=>True) (fun _=> .tuple #[]) (fun _=> [bj c 165 (cR vp vn nd va dp (fst er (eX fs ns u))),own 9 1 eS (sv vn) ns]) (fun _=> []))(er:Int):
  Spec prog 166 [.pointer (some ⟨c,0,none⟩),xV t] [bj c 165 (cR vp vn nd va dp (er)),own 9 1 eS (sv vn) (ns)] [bS t.v t.kids,cx vp fs] (X:=Unit) (fun _=>True) (fun _=> .tuple #[]) (fun _=> [bj c 165 (cR vp vn nd va dp (fst er (eX fs ns t))),own 9 1 eS (sv vn) (ns)]) (fun _=> []):=by
 refine aI func166 J ntmps166 J fun w0 M H=> ?_
 have hkl:=kF ht;refine aW 0 2 J eW (aW 1 3 J jo (aj (bU J J fun b3=>ac (br (X:=Unit) (fun _=>True) (fun _=> [(0,.pointer (some ⟨c,0,none⟩)),(3,.pointer (some ⟨b3,0,none⟩))]) (fun _=> [(0,bj c 165 (cR vp vn nd va dp (fst er (nE fs ns t)))),(1,own 9 1 eS (sv vn) (ns)),(3,bj b3 61 (dt t))]) (fun _=> [(0,bS t.v t.kids),(1,cx vp fs),(2,sl 4 dt (sv t.v) t.kids),(3,sl 3 iW (sv vp) fs)]) ?_ (fun _ _=> ?_)))))
 ·refine aj (az iC J J (aP 3 t3 J J J J J (ac (aB (aj (ar J J aY J (ai J J (ac (ae J (fun h1=> ?_) (fun h1=> ?_))))))))))
  ·have q2:t.kind=2:=of_decide_eq_true h1;refine ap (ad J J (az cZ J J (aP 3 t9 J J J J J (bN (xs:= [.tmp 11,.tmp 13]) (sJ c vp vn nd va dp er ns hns t.name) Iy [0,1] [] [0,1] [] J J J J J J J J (fun _ _=>J) (fun _ _ _=>J) J (fun _ _=>ac (aM () O J (by rw [JQ q2];rfl) J))))))
  ·have q2:¬t.kind=2:=of_decide_eq_false h1;refine aj (ar J J aY J (ai J J (ac (ae J (fun h2=> ?_) (fun h2=> ?_)))))
   ·have q3:t.kind=3:=of_decide_eq_true h2;refine aj (ad J J (az cZ J J (aP 3 t9 J J J J J (bN (xs:= [.tmp 17,.tmp 19]) (lZ c vp vn nd va dp er t.name fs hfl) KE [0] [(false,3)] [0] [] J J J J J J J J (fun _ _=>J) (fun _ _ _=>J) J (fun _ _=>ai J J (aG J (ad J J (ar J J ci J (ac (ae J (fun h3=> ?_) (fun h3=> ?_)))))))))))
    ·have hff:cm fs t.name=none:=dL.1.1 (of_decide_eq_true h3);refine ap (ad J J (bN (xs:= [.tmp 23,.const (.int .i64 21)]) (iH c vp vn nd va dp er 21) wo [0] [] [0] [] J J J J J J J J (fun _ _=>J) (fun _ _ _=>J) J (fun _ _=>ac (aM () O J (by rw [tG q3 hff];rfl) J))))
    ·obtain⟨f,hff⟩:∃f,cm fs t.name=some f:=by
      cases hf:cm fs t.name with
      | none=>exact absurd (dL.1.2 hf) (of_decide_eq_false h3)
      | some f=>exact⟨f,rfl⟩
     obtain⟨j,hj1,hj2⟩:=dL.2 f hff;have hjl:=(List.getElem?_eq_some_iff.1 hj2).1;rw [hj1];refine aW 1 7 J (ln (fW hff)) (aW 7 9 J lp (a_ (bH [25,26,27,28,29,30,31,32,33,34,35,36,37,38] _ J (bp (V:= [(0,25,_),(1,26,_),(2,27,_),(3,28,_),(4,29,_),(5,30,_),(6,31,_),(7,32,_),(8,33,_),(9,34,_),(10,35,_),(11,36,_),(12,37,_),(13,38,_)]) [0,1,2,3,4,5,6,7,8,9,10,11,12,13] J J (aa (aD J (am J)) (aa (aD J (aF J)) (aa (aD J (ag zZ J)) (aa (aD J (ag de J)) (aa (aD J (ah mh J J (ay (k:=0) J J))) (aa (aD J (am J)) (aa (aD J (aR (j:=j) underlying25 ge J J (aN (k:=3) J) J hjl)) (aa (aD J (dw dA J)) (aa (aD J (ah gu J J (iT (aN (k:=3) J) (by intro _;rfl) hj2 J))) (aa (aD J (aU underlying46 J (aN (k:=9) J))) (aa (aD J (ag dc J)) (aa (aD J (ah ij J J (ay (k:=3) J J))) (aa (aD J (aU underlying59 J (aN (k:=2) J))) (aa (aD J (aT J J df)) aw)))))))))))))) J J J (ae J (fun h4=> ?_) (fun h4=> ?_))))))
     ·have hne:¬f.ps.length=t.kids.length:=fun e=>by rw [e]at h4;simp at h4
      refine ap (ad J J (bN (xs:= [.tmp 39,.const (.int .i64 23)]) (iH c vp vn nd va dp er 23) wo [0] [] [0] [] J J J J J J J J (fun _ _=>J) (fun _ _ _=>J) J (fun _ _=>ac (aM () O J (by rw [mG q3 hff,if_neg hne];rfl) J))))
     ·have hne:f.ps.length=t.kids.length:=by
       have:=h4;simp only [Bool.not_eq_false',decide_eq_true_eq]at this;omega
      refine ax (aM () O J (by rw [mG q3 hff,if_pos hne,dm];rfl) J)
   ·have q3:¬t.kind=3:=of_decide_eq_false h2;refine ax (aM () O J (by rw [Mw q2 q3,dm];rfl) J)
 ·refine aj (az dc J J (aP 3 ij J J J J J (aO (aU underlying59 J (aN (k:=2) J)) J (ad J J (ac (aB ?_))))));refine bv (X:=Nat) (fun i=>i≤t.kids.length) (fun i=> [(0,.pointer (some ⟨c,0,none⟩)),(3,.pointer (some ⟨b3,0,none⟩)),(42,sv t.v),(43,.int .i64 (t.kids.length:Int)),(44,.int .i64 (i:Int))]) (fun i=> [(0,bj c 165 (cR vp vn nd va dp (fst er (fst (nE fs ns t) (iF fs ns (t.kids.take i)))))),(1,own 9 1 eS (sv vn) (ns)),(3,bj b3 61 (dt t))]) (fun i=> [(0,bS t.v t.kids),(1,cx vp fs),(2,sl 4 dt (sv t.v) t.kids),(3,sl 3 iW (sv vp) fs)]) (fun i=>t.kids.length-i) 0 (Nat.zero_le _) J (by rw [show iF fs ns (t.kids.take 0)=0 by simp [iF],dm];rfl) J (fun i n1=> ?_);refine aj (ar J J ci J (ac (a_ (ae J (fun h5=> ?_) (fun h5=> ?_)))))
  ·(try simp only [be]at h5)
   have hi:i<t.kids.length:=by omega
   obtain⟨kid,hkid⟩:∃k,t.kids[i]?=some k:=⟨_,List.getElem?_eq_getElem hi⟩
   have hkm:=List.mem_of_getElem? hkid;refine ax (a_ (aB (aj (aO (aR (j:=i) underlying59 co J J (aN (k:=2) J) (by first|rfl|omega) (by first|omega|(simp;done)|(simp;omega))) J (aO (aL co J J J (bD (aN (k:=2) J) (by intro _;rfl) hkid (by rfl))) J (aZ co J J fun b6=>aq (k:=6) co J J J J J J (ac (ap (ad J J (aO (aL co J J J (aX (k:=6) J)) J (aW 0 8 J (cS hkm) (bN (xs:= [.tmp 48,.tmp 49]) (ih kid hkm (fst er (fst (nE fs ns t) (iF fs ns (t.kids.take i))))) Ix [0,1] [(false,8),(false,1)] [0,1] [] J J J J J J J J (fun _ _=>J) (fun _ _ _=>J) J (fun _ _=>ac (ap (ar J J (bi (by first|exact bc (by omega) (by omega)|rfl)) J (ad J J (ac ?_)))))))))))))))));refine aM (i+1) ⟨by omega,by omega⟩ J (by rw [kC hkid];simp only [fo];rfl) J
  ·(try simp only [be]at h5)
   have hi:i=t.kids.length:=by omega
   subst hi;rw [List.take_length,←Ac];refine bx (bW () O J ff J [0,1] [] J J J)
theorem sN(c:Nat)(vp vn:SV)(nd va:Int)(dp:Bool)(fs:List Tf)(hfl:fs.length≤1000000)(ns:List ByteArray)(hns:ns.length≤1000000):∀(n:Nat)(t:Tx),SizeOf.sizeOf t<n→GX t→∀er:Int,Spec prog 166 [.pointer (some ⟨c,0,none⟩),xV t] [bj c 165 (cR vp vn nd va dp er),own 9 1 eS (sv vn) ns] [bS t.v t.kids,cx vp fs] (X:=Unit) (fun _=>True) (fun _=> .tuple #[]) (fun _=> [bj c 165 (cR vp vn nd va dp (fst er (eX fs ns t))),own 9 1 eS (sv vn) ns]) (fun _=> [])
 | 0,_,h,_=>absurd h (Nat.not_lt_zero _)
 | n+1,t,h,ht=>yp c vp vn nd va dp fs hfl ns hns t ht fun u hu=>sN c vp vn nd va dp fs hfl ns hns n u (by have:=nU hu;omega) ((iY ht).mem u hu)
theorem yq(c:Nat)(vp vn:SV)(nd va:Int)(dp:Bool)(fs:List Tf)(hfl:fs.length≤1000000)(ns:List ByteArray)(hns:ns.length≤1000000)(t:Tx)(ht:GX t)(er:Int):Spec prog 166 [.pointer (some ⟨c,0,none⟩),xV t] [bj c 165 (cR vp vn nd va dp er),own 9 1 eS (sv vn) ns] [bS t.v t.kids,cx vp fs] (X:=Unit) (fun _=>True) (fun _=> .tuple #[]) (fun _=> [bj c 165 (cR vp vn nd va dp (fst er (eX fs ns t))),own 9 1 eS (sv vn) ns]) (fun _=> []):=sN c vp vn nd va dp fs hfl ns hns _ t (Nat.lt_succ_self _) ht er
theorem wk(c:Nat)(vp vn:SV)(nd va:Int)(dp:Bool)(fs:List Tf)(hfl:fs.length≤1000000)(v:SV)(l:List Ty)(hl:l.length≤1000000)(hg:GYs l)(ihb:∀u∈l,(∀(vn:SV)(ns:List ByteArray)(er:Int),ns.length+cL u.body≤1000000→Spec prog 129 [.pointer (some ⟨c,0,none⟩),sv u.vb] [bj c 165 (cR vp vn nd va dp er),own 9 1 eS (sv vn) ns] [bF u.vb u.body,cx vp fs] (X:=SV) (fun _=>True) (fun _=> .tuple #[]) (fun x=> [bj c 165 (cR vp x nd va dp (fst er (cA fs ns u.body).2)),own 9 1 eS (sv x) (cA fs ns u.body).1]) (fun _=> [])))(ihe:∀u∈l,(∀(vn:SV)(ns:List ByteArray)(er:Int),ns.length+cL u.els≤1000000→Spec prog 129 [.pointer (some ⟨c,0,none⟩),sv u.vl] [bj c 165 (cR vp vn nd va dp er),own 9 1 eS (sv vn) ns] [bF u.vl u.els,cx vp fs] (X:=SV) (fun _=>True) (fun _=> .tuple #[]) (fun x=> [bj c 165 (cR vp x nd va dp (fst er (cA fs ns u.els).2)),own 9 1 eS (sv x) (cA fs ns u.els).1]) (fun _=> [])))(ns:List ByteArray)(er:Int)(hnv:ns.length+cL l≤1000000):
  Spec prog 129 [.pointer (some ⟨c,0,none⟩),sv v] [bj c 165 (cR vp vn nd va dp (er)),own 9 1 eS (sv vn) (ns)] [bF v l,cx vp fs] (X:=SV) (fun _=>True) (fun _=> .tuple #[]) (fun x=> [bj c 165 (cR vp x nd va dp (fst er (cA fs ns l).2)),own 9 1 eS (sv x) ((cA fs ns l).1)]) (fun _=> []):=by
 refine aI func129 J ntmps129 J fun w0 M H=>aW 0 2 J fQ (aj (ad J J (aO (aU underlying62 J (aN (k:=2) J)) J (ad J J (ac (aB (bv (X:=Nat×SV) (fun x=>x.1≤l.length) (fun x=> [(0,.pointer (some ⟨c,0,none⟩)),(8,sv v),(9,.int .i64 (l.length:Int)),(10,.int .i64 (x.1:Int))]) (fun x=> [(0,bj c 165 (cR vp x.2 nd va dp (fst er (cA fs ns (l.take x.1)).2))),(1,own 9 1 eS (sv x.2) ((cA fs ns (l.take x.1)).1))]) (fun x=> [(0,bF v l),(1,cx vp fs),(2,sl 5 eu (sv v) l)]) (fun x=>l.length-x.1) (0,vn) (Nat.zero_le _) J (by rw [show fst er (cA fs ns (l.take (0,vn).1)).2=er from dm er];rfl) J (fun x n1=> ?_))))))))
 obtain⟨i,vx⟩:=x;dsimp only at n1 ⊢;refine aj (ar J J ci J (ac (a_ (ae J (fun h1=> ?_) (fun h1=> ?_)))))
 ·(try simp only [be]at h1)
  have hi:i<l.length:=by omega
  obtain⟨st,hst⟩:∃k,l[i]?=some k:=⟨_,List.getElem?_eq_getElem hi⟩
  have hsm:=List.mem_of_getElem? hst;have hsy:=hg.mem st hsm;have hsg:=na hsy;have hbl:=jL fs ns (l.take i);have hvt:=nS hst;have hve:=B7 st;have hni:(cA fs ns (l.take i)).1.length≤1000000:=by omega
  refine aW 0 7 J (jn hsm) (aW 0 8 J (fF hsm) (aW 0 9 J (gt hsm) (aW 7 10 J eW (ax (a_ (aB (aj (aO (aR (j:=i) underlying62 dJ J J (aN (k:=2) J) (by first|rfl|omega) (by first|omega|(simp;done)|(simp;omega))) J (aO (aL dJ J J J (bD (aN (k:=2) J) (by intro _;rfl) hst (by rfl))) J (aZ dJ J J fun b5=>aq (k:=5) dJ J J J J J J (ac (br (X:=Unit) (fun _=>True) (fun _=> [(0,.pointer (some ⟨c,0,none⟩)),(8,sv v),(9,.int .i64 (l.length:Int)),(10,.int .i64 (i:Int)),(5,.pointer (some ⟨b5,0,none⟩))]) (fun _=> [(0,bj c 165 (cR vp vx nd va dp (fst (fst er (cA fs ns (l.take i)).2) (aE ((cA fs ns (l.take i)).1) st)))),(1,own 9 1 eS (sv vx) ((cA fs ns (l.take i)).1)),(5,bj b5 64 (eu st))]) (fun _=> [(0,bF v l),(1,cx vp fs),(2,sl 5 eu (sv v) l),(7,bS st.ve st.es),(8,bF st.vb st.body),(9,bF st.vl st.els),(10,sl 4 dt (sv st.ve) st.es)]) ?_ (fun _ _=> ?_)))))))))))))
  ·refine aj (az dT J J (aP 5 t3 J J J J J (ar J J aY J (ac (ae J (fun h2=> ?_) (fun h2=> ?_))))))
   ·have q2:st.kind=2:=of_decide_eq_true h2;refine ap (ad J J (az gn J J (aP 5 t9 J J J J J (bN (xs:= [.tmp 17,.tmp 19]) (sJ c vp vx nd va dp (fst er (cA fs ns (l.take i)).2) ((cA fs ns (l.take i)).1) hni st.name) Iy [0,1] [] [0,1] [] J J J J J J J J (fun _ _=>J) (fun _ _ _=>J) J (fun _ _=>ac (aM () O J (by unfold aE;rw [if_pos q2];rfl) J))))))
   ·have q2:¬st.kind=2:=of_decide_eq_false h2;refine ax (aM () O J (by unfold aE;rw [if_neg q2,dm];rfl) J)
  ·refine aS (az e9 J J (aP 5 ij J J J J J (aO (aU underlying59 J (aN (k:=10) J)) J (ad J J (ac (aB ?_))))));refine bv (X:=Nat) (fun j=>j≤st.es.length) (fun j=> [(0,.pointer (some ⟨c,0,none⟩)),(8,sv v),(9,.int .i64 (l.length:Int)),(10,.int .i64 (i:Int)),(5,.pointer (some ⟨b5,0,none⟩)),(22,sv st.ve),(23,.int .i64 (st.es.length:Int)),(24,.int .i64 (j:Int))]) (fun j=> [(0,bj c 165 (cR vp vx nd va dp (fst (fst (fst er (cA fs ns (l.take i)).2) (aE ((cA fs ns (l.take i)).1) st)) (iF fs ((cA fs ns (l.take i)).1) (st.es.take j))))),(1,own 9 1 eS (sv vx) ((cA fs ns (l.take i)).1)),(5,bj b5 64 (eu st))]) (fun j=> [(0,bF v l),(1,cx vp fs),(2,sl 5 eu (sv v) l),(7,bS st.ve st.es),(8,bF st.vb st.body),(9,bF st.vl st.els),(10,sl 4 dt (sv st.ve) st.es)]) (fun j=>st.es.length-j) 0 (Nat.zero_le _) J (by rw [show iF fs ((cA fs ns (l.take i)).1) (st.es.take 0)=0 by simp [iF],dm];rfl) J (fun j n2=> ?_);refine aj (ar J J ci J (ac (a_ (ae J (fun h3=> ?_) (fun h3=> ?_)))))
   ·(try simp only [be]at h3)
    have hj:j<st.es.length:=by omega
    obtain⟨kid,hkid⟩:∃k,st.es[j]?=some k:=⟨_,List.getElem?_eq_getElem hj⟩
    have hkm:=List.mem_of_getElem? hkid;refine ax (a_ (aB (aj (aO (aR (j:=j) underlying59 co J J (aN (k:=10) J) (by first|rfl|omega) (by first|omega|(simp;done)|(simp;omega))) J (aO (aL co J J J (bD (aN (k:=10) J) (by intro _;rfl) hkid (by rfl))) J (aZ co J J fun b7=>aq (k:=7) co J J J J J J (ac (ap (ad J J (aO (aL co J J J (aX (k:=7) J)) J (aW 7 12 J (cS hkm) (bN (xs:= [.tmp 28,.tmp 29]) (yq c vp vx nd va dp fs hfl ((cA fs ns (l.take i)).1) hni kid (hsg.2.mem kid hkm) (fst (fst (fst er (cA fs ns (l.take i)).2) (aE ((cA fs ns (l.take i)).1) st)) (iF fs ((cA fs ns (l.take i)).1) (st.es.take j)))) Ix [0,1] [(false,12),(false,1)] [0,1] [] J J J J J J J J (fun _ _=>J) (fun _ _ _=>J) J (fun _ _=>ac (ap (ar J J (bi (by first|exact bc (by omega) (by omega)|rfl)) J (ad J J (ac ?_)))))))))))))))));refine aM (j+1) ⟨by omega,by omega⟩ J (by rw [kC hkid];simp only [fo];rfl) J
   ·(try simp only [be]at h3)
    have hj:j=st.es.length:=by omega
    subst hj;rw [List.take_length];refine bx (br (X:=SV) (fun _=>True) (fun vd=> [(0,.pointer (some ⟨c,0,none⟩)),(8,sv v),(9,.int .i64 (l.length:Int)),(10,.int .i64 (i:Int)),(5,.pointer (some ⟨b5,0,none⟩))]) (fun vd=> [(0,bj c 165 (cR vp vd nd va dp (fst (fst (fst (fst er (cA fs ns (l.take i)).2) (aE ((cA fs ns (l.take i)).1) st)) (iF fs ((cA fs ns (l.take i)).1) (st.es))) (dE ((cA fs ns (l.take i)).1) st)))),(1,own 9 1 eS (sv vd) (dN ((cA fs ns (l.take i)).1) st)),(5,bj b5 64 (eu st))]) (fun vd=> [(0,bF v l),(1,cx vp fs),(2,sl 5 eu (sv v) l),(7,bS st.ve st.es),(8,bF st.vb st.body),(9,bF st.vl st.els),(10,sl 4 dt (sv st.ve) st.es)]) ?_ (fun vd _=> ?_))
    ·refine aj (az dT J J (aP 5 t3 J J J J J (ar J J aY J (ac (ae J (fun h4=> ?_) (fun h4=> ?_))))))
     ·have q1:st.kind=1:=of_decide_eq_true h4;refine ap (ad J J (az gn J J (aP 5 t9 J J J J J (bN (xs:= [.tmp 35,.tmp 37]) (qL c vp vx nd va dp (fst (fst (fst er (cA fs ns (l.take i)).2) (aE ((cA fs ns (l.take i)).1) st)) (iF fs ((cA fs ns (l.take i)).1) (st.es))) ((cA fs ns (l.take i)).1) hni st.name) IH [0,1] [] [0,1] [] J J J J J J J J (fun _ _=>J) (fun _ _ _=>J) J (fun vd _=>ac (aM vd O J (by unfold dE dN;rw [if_pos q1,if_pos q1];rfl) J))))))
     ·have q1:¬st.kind=1:=of_decide_eq_false h4;refine ax (aM vx O J (by unfold dE dN;rw [if_neg q1,if_neg q1,dm];rfl) J)
    ·refine aj (ad J J (az fi J J (aP 5 hQ J J J J J (bN (xs:= [.tmp 39,.tmp 41]) (ihb st hsm vd (dN ((cA fs ns (l.take i)).1) st) (fst (fst (fst (fst er (cA fs ns (l.take i)).2) (aE ((cA fs ns (l.take i)).1) st)) (iF fs ((cA fs ns (l.take i)).1) (st.es))) (dE ((cA fs ns (l.take i)).1) st)) (by rw [ue];omega)) Ey [0,1] [(false,8),(false,1)] [0,1] [] J J J J J J J J (fun _ _=>J) (fun _ _ _=>J) J (fun v1 _=>ac (ap (ad J J (az ez J J (aP 5 hQ J J J J J (bN (xs:= [.tmp 43,.tmp 45]) (ihe st hsm v1 (cA fs (dN ((cA fs ns (l.take i)).1) st) st.body).1 (fst (fst (fst (fst (fst er (cA fs ns (l.take i)).2) (aE ((cA fs ns (l.take i)).1) st)) (iF fs ((cA fs ns (l.take i)).1) (st.es))) (dE ((cA fs ns (l.take i)).1) st)) (cA fs (dN ((cA fs ns (l.take i)).1) st) st.body).2) (by rw [jL,ue];omega)) Ey [0,1] [(false,9),(false,1)] [0,1] [] J J J J J J J J (fun _ _=>J) (fun _ _ _=>J) J (fun v2 _=>ac (ap (ar J J (bi (by first|exact bc (by omega) (by omega)|rfl)) J (ad J J (ac ?_)))))))))))))));refine aM (i+1,v2) ⟨by dsimp only;omega,by dsimp only;omega⟩ J (by dsimp only;rw [qS hst,sT];simp only [fo];rfl) J
 ·(try simp only [be]at h1)
  have hi:i=l.length:=by omega
  subst hi;rw [List.take_length];refine bx (bW vx O J ff J [0,1] [] J J J)
theorem l6(c:Nat)(vp:SV)(nd va:Int)(dp:Bool)(fs:List Tf)(hfl:fs.length≤1000000):∀(n:Nat)(v:SV)(l:List Ty),SizeOf.sizeOf l<n→l.length≤1000000→GYs l→(∀(vn:SV)(ns:List ByteArray)(er:Int),ns.length+cL l≤1000000→Spec prog 129 [.pointer (some ⟨c,0,none⟩),sv v] [bj c 165 (cR vp vn nd va dp er),own 9 1 eS (sv vn) ns] [bF v l,cx vp fs] (X:=SV) (fun _=>True) (fun _=> .tuple #[]) (fun x=> [bj c 165 (cR vp x nd va dp (fst er (cA fs ns l).2)),own 9 1 eS (sv x) (cA fs ns l).1]) (fun _=> []))
 | 0,_,_,h,_,_=>absurd h (Nat.not_lt_zero _)
 | n+1,v,l,h,hl,hg=>fun vn ns er hnv=>by
  have key:∀u∈l,SizeOf.sizeOf u.body<n∧SizeOf.sizeOf u.els<n:=fun u hu=>by
   have h1:=List.sizeOf_lt_of_mem hu;have h2:SizeOf.sizeOf u.body<SizeOf.sizeOf u∧SizeOf.sizeOf u.els<SizeOf.sizeOf u:=by
    cases u;simp only [Ty.mk.sizeOf_spec,Ty.body,Ty.els];omega
   omega
  exact wk c vp vn nd va dp fs hfl v l hl hg (fun u hu=>l6 c vp nd va dp fs hfl n u.vb u.body (key u hu).1 (dY (hg.mem u hu)).1 (dY (hg.mem u hu)).2) (fun u hu=>l6 c vp nd va dp fs hfl n u.vl u.els (key u hu).2 (e_ (hg.mem u hu)).1 (e_ (hg.mem u hu)).2) ns er hnv
theorem wl(c:Nat)(vp:SV)(nd va:Int)(dp:Bool)(fs:List Tf)(hfl:fs.length≤1000000)(v:SV)(l:List Ty)(hl:l.length≤1000000)(hg:GYs l):(∀(vn:SV)(ns:List ByteArray)(er:Int),ns.length+cL l≤1000000→Spec prog 129 [.pointer (some ⟨c,0,none⟩),sv v] [bj c 165 (cR vp vn nd va dp er),own 9 1 eS (sv vn) ns] [bF v l,cx vp fs] (X:=SV) (fun _=>True) (fun _=> .tuple #[]) (fun x=> [bj c 165 (cR vp x nd va dp (fst er (cA fs ns l).2)),own 9 1 eS (sv x) (cA fs ns l).1]) (fun _=> [])):=l6 c vp nd va dp fs hfl _ v l (Nat.lt_succ_self _) hl hg
theorem ud:∀(ns a b:List ByteArray),qG ns (a++b)=fst (qG ns a) (qG (ns++a) b)
 | ns,[],b=>by simp [qG,fst]
 | ns,x::r,b=>by
  rw [List.cons_append,qG,ud (ns++ [x]) r b,qG,fo,List.append_assoc];rfl
theorem qF{l:List ByteArray}{i:Nat}{x:ByteArray}(h:l[i]?=some x):qG [] (l.take (i+1))=fst (qG [] (l.take i)) (if cg x (l.take i)=true then 22 else 0):=by
 rw [bT h,ud];show fst _ (fst (if cg x ([]++l.take i)=true then 22 else 0) 0)=_;rw [dm,List.nil_append]
def pe(f:Tf):Prop:=f.ps.length>4∨f.ps.length+cL f.body>12∨cw f.body>400∨da 1 f.body=true
instance(f:Tf):Decidable (pe f):=by unfold pe;exact inferInstance
theorem k9(fs:List Tf)(f:Tf):jI fs f=fst (if pe f then 2 else 0) (fst (qG [] f.ps) (cA fs f.ps f.body).2):=rfl
theorem N0{f:Tf}{er:Int}{dp:Bool}(hdp:dp=true→er≠0)(h:(decide ((f.ps.length:Int)>4) || decide ((f.ps.length:Int)+(cL f.body:Int)>12) || decide (0+(cw f.body:Int)>400) || (dp || da 1 f.body))=true):fst er 2=fst er (if pe f then 2 else 0):=by
 by_cases hb:pe f
 ·rw [if_pos hb]
 ·rw [if_neg hb,dm];unfold pe at hb;have hd:dp=true:=by
   cases hd:dp with
   | true=>rfl
   | false=>
    exfalso;apply hb;rw [hd,Bool.false_or]at h;simp only [Bool.or_eq_true,decide_eq_true_eq]at h;rcases h with((h|h)|h)|h
    ·exact .inl (by omega)
    ·exact .inr (.inl (by omega))
    ·exact .inr (.inr (.inl (by omega)))
    ·exact .inr (.inr (.inr h))
  exact if_neg (hdp hd)
theorem N1{f:Tf}{er:Int}{dp:Bool}(h:(decide ((f.ps.length:Int)>4) || decide ((f.ps.length:Int)+(cL f.body:Int)>12) || decide (0+(cw f.body:Int)>400) || (dp || da 1 f.body))=false):er=fst er (if pe f then 2 else 0):=by
 simp only [Bool.or_eq_false_iff,decide_eq_false_iff_not]at h;have hb:¬pe f:=by
  unfold pe;rintro (h1|h1|h1|h1)
  ·omega
  ·omega
  ·omega
  ·rw [h.2.2]at h1;cases h1
 rw [if_neg hb,dm]
theorem D_{fs:List Tf}{f:Tf}{er:Int}{dp:Bool}(hdp:dp=true→er≠0)(h:(dp || da 1 f.body)=true):fst er (jI fs f)≠0:=by
 intro h2;obtain⟨h3,h4⟩:=bw.1 h2;rw [k9]at h4;have h5:=(bw.1 h4).1;have hb:¬pe f:=fun hb=>by rw [if_pos hb]at h5;cases h5
 cases hd:dp with
 | true=>exact hdp hd h3
 | false=>
  rw [hd,Bool.false_or]at h;exact hb (.inr (.inr (.inr h)))
theorem nQ(fs:List Tf):∀a b:List Tf,fJ fs (a++b)=fst (fJ fs a) (fJ fs b)
 | [],b=>rfl
 | t::r,b=>by rw [List.cons_append,fJ,nQ fs r b,fJ,fo]
theorem jH{fs l:List Tf}{i:Nat}{f:Tf}(h:l[i]?=some f):fJ fs (l.take (i+1))=fst (fJ fs (l.take i)) (jI fs f):=by
 rw [bT h,nQ];show fst _ (fst (jI fs f) 0)=_;rw [dm]
theorem mD{fs:List Tf}:once fs=true↔∀(i:Nat)(f:Tf),fs[i]?=some f→qy fs f.name=(i:Int):=by
 unfold once;rw [List.all_eq_true];constructor
 ·intro h i f hf;obtain⟨hi,hf2⟩:=List.getElem?_eq_some_iff.1 hf;have:=h i (List.mem_range.2 hi);rw [List.getD_eq_getElem?_getD,hf]at this;simpa using this
 ·intro h i hi;have hi:=List.mem_range.1 hi;have h2:=List.getElem?_eq_getElem hi;have:=h i _ h2;rw [List.getD_eq_getElem?_getD,h2];simpa using this
theorem zc{fs:List Tf}{i:Nat}{f:Tf}(hf:fs[i]?=some f)(h:¬qy fs f.name=(i:Int)):once fs=false:=by
 rw [Bool.eq_false_iff];exact fun h2=>h (mD.1 h2 i f hf)
theorem M2{fs:List Tf}(h:rP fs=false):fT fs=1:=if_pos h
theorem M1{fs:List Tf}(h:rP fs=true)(h2:fs.length>16):fT fs=2:=by
 unfold fT;rw [if_neg (by rw [h];simp),if_pos h2]
theorem Eh{fs:List Tf}(h:rP fs=true)(h2:¬fs.length>16)(h3:once fs=false):fT fs=22:=by
 unfold fT;rw [if_neg (by rw [h];simp),if_neg h2,if_pos h3]
theorem Ej{fs:List Tf}(h:rP fs=true)(h2:¬fs.length>16)(h3:once fs=true)(h4:cm fs cN=none):fT fs=21:=by
 unfold fT;rw [if_neg (by rw [h];simp),if_neg h2,if_neg (by rw [h3];simp),h4]
theorem Ef{fs:List Tf}{f:Tf}(h:rP fs=true)(h2:¬fs.length>16)(h3:once fs=true)(h4:cm fs cN=some f)(h5:f.ps.length>0):fT fs=23:=by
 unfold fT;rw [if_neg (by rw [h];simp),if_neg h2,if_neg (by rw [h3];simp),h4];exact if_pos h5
theorem wh{fs:List Tf}{f:Tf}(h:rP fs=true)(h2:¬fs.length>16)(h3:once fs=true)(h4:cm fs cN=some f)(h5:¬f.ps.length>0):fT fs=fJ fs fs:=by
 unfold fT;rw [if_neg (by rw [h];simp),if_neg h2,if_neg (by rw [h3];simp),h4];exact if_neg h5
theorem yo(c:Nat)(vp vn:SV)(nd va:Int)(dp:Bool)(er:Int)(ns:List ByteArray)(fs:List Tf)(hfl:fs.length≤1000000)(f:Tf)(hg:GF f)(hdp:dp=true→er≠0):
  Spec prog 83 [.pointer (some ⟨c,0,none⟩),K3 f] [bj c 165 (cR vp (vn) (nd) (va) (dp) (er)),own 9 1 eS (sv vn) (ns)] [yL f,cx vp fs] (X:=SV) (fun _=>True) (fun _=> .tuple #[]) (fun x=> [bj c 165 (cR vp (x) (0+(cw f.body:Int)) ((f.ps.length:Int)+(cL f.body:Int)) (dp || da 1 f.body) (fst er (jI fs f))),own 9 1 eS (sv x) ((cA fs f.ps f.body).1)]) (fun _=> []):=by
 refine aI func83 J ntmps83 J fun w0 M H=> ?_
 obtain⟨g1,g2,g3,g4,g5,g6⟩:=hg;have hvl:=gN f.body;refine aW 0 2 J lp (aW 0 3 J jp (aj (bU J J fun b3=>ac (a_ ?_))));refine yX [0,1,2,3,4,5,6,7,8,9,10,11,12,13,14] [0,7,11,1,2,3,4,5,6,8,9,10,12,13,14] [6,7,8,9,10,11,12,13,14,15,16,17] _ J J J (bI (V:= [(0,6,_),(1,7,_),(2,8,_),(3,9,_),(4,10,_),(5,11,_),(6,12,_),(7,13,_)]) [0,1,2,3,4,5,6,7] 8 [8,7,6,0] [9,10] (fun _=> [(9,14,_),(10,15,_)]) J J (aa (aD J (am J)) (aa (aD J (am J)) (aa (aD J (am J)) (aa (aD J (ag dA J)) (aa (aD J (ah gu J J (ay (k:=3) J J))) (aa (aD J (aU underlying46 J (aN (k:=2) J))) (aa (aD J (aF J)) (aa (aD J (ag mW J)) aw)))))))) J J J J J J J J J (fun _ _=>J) J (cH (k:=0) gu J J J J J J J J) (fun _ _=>bI [9,10,1,2,3,4,5] 11 [11,10,9,8,7,6,1,0] [12,13] (fun _=> [(12,16,_),(13,17,_)]) J J (aa (aD J (aF J)) (aa (aD J (ag kT J)) (aa (aD J (am J)) (aa (aD J (am J)) (aa (aD J (ag dA J)) (aa (aD J (ah gu J J (ay (k:=3) J J))) (aa (aD J (aU underlying46 J (aN (k:=2) J))) aw))))))) J J J J J J J J J (fun _ _=>J) J (cH (k:=0) t3 J J J J J J J J) (fun _ _=>bI [12,13,2,3,4,5] 14 [14,13,12,11,10,9,8,7,6,5,4,3,2,1,0] [] (fun _=> []) J J (aa (aD J (aF J)) (aa (aD J (ag oZ J)) (aa (aD J (am J)) (aa (aD J (ag dA J)) (aa (aD J (ah gu J J (ay (k:=3) J J))) (aa (aD J (aU underlying46 J (aN (k:=2) J))) aw)))))) J J J J J J J J J (fun _ _=>J) J (cH (k:=0) t3 J J J J J J J J) (fun _ _=>bp [] J J aw J J J ?_))))
 refine cJ 1 (α:=ByteArray) (S:=9) (s:=1) (enc:=eS) (aj (ad J J (az iB J J (aP 3 hQ J J J J J (bN (xs:= [.tmp 18,.tmp 20,.const (.int .i64 1)]) (yh c vp bJ er f.vb f.body g4 g5 1 0 (f.ps.length:Int) dp (by omega) (by omega) (by omega) (by omega) (by omega)) Ez [0] [(false,3)] [0] [] J J J J J J J J (fun _ _=>J) (fun _ _ _=>J) J (fun _ _=>ac (br (X:=Unit) (fun _=>True) (fun _=> [(0,.pointer (some ⟨c,0,none⟩)),(3,.pointer (some ⟨b3,0,none⟩))]) (fun _=> [(0,bj c 165 (cR vp (bJ) (0+(cw f.body:Int)) ((f.ps.length:Int)+(cL f.body:Int)) (dp || da 1 f.body) (fst er (if pe f then 2 else 0)))),(1,own 9 1 eS (sv bJ) ([])),(3,bj b3 66 (iW f))]) (fun _=> [(0,yL f),(1,cx vp fs),(2,sl 1 eS (sv f.vp) f.ps),(3,bF f.vb f.body)]) ?_ (fun _ _=> ?_))))))))
 ·refine aj (az dA J J (aP 3 gu J J J J J (aO (aU underlying46 J (aN (k:=2) J)) J (ar J J dV J (ad J J (aA [] J J O (fun hg1=>am J) J (aA [(27,_)] J J ⟨J,O⟩ (fun hg2=>aF J) J (aA [(27,_),(28,_)] J J ⟨J,J,O⟩ (fun hg3=>ag oZ J) J (aA [(27,_),(28,_),(29,_)] J J ⟨J,J,J,O⟩ (fun hg4=>ah t3 J J (ay (k:=0) J J)) J (aA [(27,_),(28,_),(29,_),(30,_)] J J ⟨J,J,J,J,O⟩ (fun hg5=>aT J J dV) J (aO (aQ J J J (by first|exact av|exact aC|rfl)) J (ad J J (aA [] J J O (fun hg6=>am J) J (aA [(34,_)] J J ⟨J,O⟩ (fun hg7=>aF J) J (aA [(34,_),(35,_)] J J ⟨J,J,O⟩ (fun hg8=>ag kT J) J (aA [(34,_),(35,_),(36,_)] J J ⟨J,J,J,O⟩ (fun hg9=>ah t3 J J (ay (k:=0) J J)) J (aA [(34,_),(35,_),(36,_),(37,_)] J J ⟨J,J,J,J,O⟩ (fun hg10=>aT J J dV) J (aO (aQ J J J (by first|exact av|exact aC|rfl)) J ?_))))))))))))))))));refine ad J J (aA [] J J O (fun hg11=>am J) J (aA [(41,_)] J J ⟨J,O⟩ (fun hg12=>aF J) J (aA [(41,_),(42,_)] J J ⟨J,J,O⟩ (fun hg13=>ag mV J) J (aA [(41,_),(42,_),(43,_)] J J ⟨J,J,J,O⟩ (fun hg14=>ah t4 J J (ay (k:=0) J J)) J (aO (aQ J J J (by first|exact av|exact aC|rfl)) J (ac (ae J (fun h15=> ?_) (fun h15=> ?_))))))))
  ·have hq:=h15;refine ap (ad J J (bN (xs:= [.tmp 46,.const (.int .i64 2)]) (iH c vp bJ (0+(cw f.body:Int)) ((f.ps.length:Int)+(cL f.body:Int)) (dp || da 1 f.body) er 2) wo [0] [] [0] [] J J J J J J J J (fun _ _=>J) (fun _ _ _=>J) J (fun _ _=>ac (aM () O J (by rw [←N0 hdp hq];rfl) J))))
  ·have hq:=h15;refine ax (aM () O J (by rw [←N1 hq];rfl) J)
 ·refine aS (az dA J J (aP 3 gu J J J J J (aO (aU underlying46 J (aN (k:=2) J)) J (ad J J (ac (aB (bv (X:=Nat×SV) (fun x=>x.1≤f.ps.length) (fun x=> [(0,.pointer (some ⟨c,0,none⟩)),(3,.pointer (some ⟨b3,0,none⟩)),(49,sv f.vp),(50,.int .i64 (f.ps.length:Int)),(51,.int .i64 (x.1:Int))]) (fun x=> [(0,bj c 165 (cR vp (x.2) (0+(cw f.body:Int)) ((f.ps.length:Int)+(cL f.body:Int)) (dp || da 1 f.body) (fst (fst er (if pe f then 2 else 0)) (qG [] (f.ps.take x.1))))),(1,own 9 1 eS (sv x.2) (f.ps.take x.1)),(3,bj b3 66 (iW f))]) (fun x=> [(0,yL f),(1,cx vp fs),(2,sl 1 eS (sv f.vp) f.ps),(3,bF f.vb f.body)]) (fun x=>f.ps.length-x.1) (0,bJ) (Nat.zero_le _) J (by rw [show fst (fst er (if pe f then 2 else 0)) (qG [] (f.ps.take (0,bJ).1))=fst er (if pe f then 2 else 0)from dm _];rfl) J (fun x n1=> ?_))))))));obtain⟨i,v⟩:=x;dsimp only at n1 ⊢;refine aj (ar J J ci J (ac (a_ (ae J (fun h16=> ?_) (fun h16=> ?_)))))
  ·(try simp only [be]at h16)
   have hi:i<f.ps.length:=by omega
   obtain⟨x,hx⟩:∃k,f.ps[i]?=some k:=⟨_,List.getElem?_eq_getElem hi⟩
   refine ax (a_ (aB (aj (aO (aR (j:=i) underlying46 t9 J J (aN (k:=2) J) (by first|rfl|omega) (by first|omega|(simp;done)|(simp;omega))) J (aO (ah t9 J J (bD (aN (k:=2) J) (by intro _;rfl) hx (by rfl))) J (ai J J (ac (ap (ad J J (ad J J (bN (xs:= [.tmp 55,.tmp 56]) (qL c vp v (0+(cw f.body:Int)) ((f.ps.length:Int)+(cL f.body:Int)) (dp || da 1 f.body) (fst (fst er (if pe f then 2 else 0)) (qG [] (f.ps.take i))) (f.ps.take i) (by rw [List.length_take];omega) x) IH [0,1] [] [0,1] [] J J J J J J J J (fun _ _=>J) (fun _ _ _=>J) J (fun v2 _=>ac (ap (ar J J (bi (by first|exact bc (by omega) (by omega)|rfl)) J (ad J J (ac ?_))))))))))))))));refine aM (i+1,v2) ⟨by dsimp only;omega,by dsimp only;omega⟩ J (by dsimp only;rw [qF hx,bT hx];simp only [fo];rfl) J
  ·(try simp only [be]at h16)
   have hi:i=f.ps.length:=by omega
   subst hi;rw [List.take_length];refine bx (ap (ad J J (az iB J J (aP 3 hQ J J J J J (bN (xs:= [.tmp 59,.tmp 61]) (wl c vp (0+(cw f.body:Int)) ((f.ps.length:Int)+(cL f.body:Int)) (dp || da 1 f.body) fs hfl f.vb f.body g4 g5 v f.ps (fst (fst er (if pe f then 2 else 0)) (qG [] f.ps)) (by omega)) Ey [0,1] [(false,3),(false,1)] [0,1] [] J J J J J J J J (fun _ _=>J) (fun _ _ _=>J) J (fun v3 _=>ac ?_))))));rw [show fst er (jI fs f)=fst (fst (fst er (if pe f then 2 else 0)) (qG [] f.ps)) (cA fs f.ps f.body).2 by rw [k9];simp only [fo]];refine bW v3 O J ff J [0,1] [] J J J
theorem yn(vp:SV)(fs:List Tf)(hg:GP fs):
  Spec prog 48 [.agg #[sv vp]] [] [cx vp fs] (X:=Unit) (fun _=>True) (fun _=> .int .i64 (fT fs)) (fun _=> []) (fun _=> []):=by
 refine aI func48 J ntmps48 J fun w0 M H=>aW 0 1 J jo ?_
 have hfl:=hg.1;refine aj (bU J J fun b1=>ai J J (ac (aS (aO (aL i7 J J J (aX (k:=1) J)) J (bN (xs:= [.tmp 9]) (xf vp fs hg) Qa [] [(false,0)] [] [] J J J J J J J J (fun _ _=>J) (fun _ _ _=>J) J (fun _ _=>aO (ch J) J (ac (ae J (fun h1=> ?_) (fun h1=> ?_)))))))))
 ·have hr:rP fs=false:=by simpa using h1
  refine aj (ai J J (ac (au (aH () O J (bE (aJ J)) (by rw [M2 hr]) [] [] J J J))))
 ·have hr:rP fs=true:=by simpa using h1
  refine ax (aS (az de J J (aP 1 mh J J J J J (aO (aU underlying25 J (aN (k:=1) J)) J (ar J J dV J (ac (ae J (fun h2=> ?_) (fun h2=> ?_))))))))
  ·(try simp only [be]at h2)
   refine aj (ai J J (ac (au (aH () O J (bE (aJ J)) (by rw [M1 hr (by omega)]) [] [] J J J))))
  ·(try simp only [be]at h2)
   refine ax (aj (aO (aL i7 J J J (aX (k:=1) J)) J (aO (aV (parts:= [(0,.tmp 16)]) OU Mc J J) J (bU J J fun b18=>ai J J (ac (aS (az de J J (aP 1 mh J J J J J (aO (aU underlying25 J (aN (k:=1) J)) J (ad J J (ac (aB ?_))))))))))));refine bv (X:=Nat) (fun i=>i≤fs.length∧∀j f,j<i→fs[j]?=some f→qy fs f.name=(j:Int)) (fun i=> [(1,.pointer (some ⟨b1,0,none⟩)),(2,.int .i64 0),(3,.pointer (some ⟨b18,0,none⟩)),(20,sv vp),(21,.int .i64 (fs.length:Int)),(22,.int .i64 (i:Int))]) (fun i=> [(1,bj b1 27 [sv vp]),(18,bj b18 165 (cR vp bJ 0 0 false 0))]) (fun i=> [(0,cx vp fs),(1,sl 3 iW (sv vp) fs)]) (fun i=>fs.length-i) 0 ⟨Nat.zero_le _,fun j f hj=>by omega⟩ J J J (fun i hx0=> ?_);obtain⟨n1,n2⟩:=hx0;refine aj (ar J J ci J (ac (a_ (ae J (fun h3=> ?_) (fun h3=> ?_)))))
   ·(try simp only [be]at h3)
    have hi:i<fs.length:=by omega
    obtain⟨f,hst⟩:∃k,fs[i]?=some k:=⟨_,List.getElem?_eq_getElem hi⟩
    refine ax (a_ (aB (aj (ad J J (aO (aR (j:=i) underlying25 ge J J (aN (k:=1) J) (by first|rfl|omega) (by first|omega|(simp;done)|(simp;omega))) J (aO (aL ge J J J (bD (aN (k:=1) J) (by intro _;rfl) hst (by rfl))) J (aZ ge J J fun b5=>ai J J (aq (k:=5) ge J J J J J J (aG J (ad J J (az jD J J (aP 5 t9 J J J J J (bN (xs:= [.tmp 27,.tmp 29]) (lZ b18 vp bJ 0 0 false 0 f.name fs hfl) KE [18] [(false,1)] [18] [] J J J J J J J J (fun _ _=>J) (fun _ _ _=>J) J (fun _ _=>ad J J (ar J J df J ?_)))))))))))))));refine ac (ae J (fun h4=> ?_) (fun h4=> ?_))
    ·have hne:¬qy fs f.name=(i:Int):=by simpa using h4
     refine aj (ai J J (ac (au (aH () O J (bE (aJ J)) (by rw [Eh hr (by omega) (zc hst hne)]) [] [] J J J))))
    ·have hne:qy fs f.name=(i:Int):=by simpa using h4
     refine ax (ap (ar J J (bi (by first|exact bc (by omega) (by omega)|rfl)) J (ad J J (ac ?_))));refine aM (i+1) ⟨⟨by omega,fun j f2 hj hf2=>by rcases Nat.lt_succ_iff_lt_or_eq.1 hj with h|h;exact n2 j f2 h hf2;subst h;rw [hst]at hf2;cases hf2;exact hne⟩,by omega⟩ J J J
   ·(try simp only [be]at h3)
    have hi:i=fs.length:=by omega
    subst hi;have ho:once fs=true:=mD.2 fun j f hf=>n2 j f (List.getElem?_eq_some_iff.1 hf).1 hf
    refine bx (aj (ad J J (bN (xs:= [.tmp 34,.const (.string (ByteArray.mk #[109,97,105,110]))]) (lZ b18 vp bJ 0 0 false 0 cN fs hfl) KE [18] [(false,1)] [18] [] J J J J J J J J (fun _ _=>J) (fun _ _ _=>J) J (fun _ _=>ai J J (ac (aS (ad J J (ar J J ci J (ac (ae J (fun h5=> ?_) (fun h5=> ?_)))))))))))
    ·(try simp only [be]at h5)
     have hm:cm fs cN=none:=dL.1.1 h5;refine aj (ai J J (ac (au (aH () O J (bE (aJ J)) (by rw [Ej hr (by omega) ho hm]) [] [] J J J))))
    ·(try simp only [be]at h5)
     obtain⟨f,hm⟩:∃f,cm fs cN=some f:=by
      cases hf:cm fs cN with
      | none=>exact absurd (dL.1.2 hf) (by omega)
      | some f=>exact⟨f,rfl⟩
     obtain⟨j,hj1,hj2⟩:=dL.2 f hm;have hjl:=(List.getElem?_eq_some_iff.1 hj2).1;rw [hj1];refine aW 0 7 J (ln (fW hm)) (aW 7 9 J lp (ax (aS (az de J J (aP 1 mh J J J J J (ad J J (aO (aR (j:=j) underlying25 ge J J (aN (k:=1) J) J hjl) J (aO (dw dA J) J (aO (ah gu J J (iT (aN (k:=1) J) (by intro _;rfl) hj2 J)) J (aO (aU underlying46 J (aN (k:=9) J)) J (ar J J dV J (ac (ae J (fun h6=> ?_) (fun h6=> ?_))))))))))))))
     ·(try simp only [be]at h6)
      refine aj (ai J J (ac (au (aH () O J (bE (aJ J)) (by rw [Ef hr (by omega) ho hm (by omega)]) [] [] J J J))))
     ·(try simp only [be]at h6)
      refine ax (aS (az de J J (aP 1 mh J J J J J (aO (aU underlying25 J (aN (k:=1) J)) J (ad J J (ac (aB (cJ 19 (α:=ByteArray) (S:=9) (s:=1) (enc:=eS) ?_))))))));refine bv (X:=Nat×SV×List ByteArray×Int×Int×Bool) (fun x=>x.1≤fs.length∧(x.2.2.2.2.2=true→fJ fs (fs.take x.1)≠0)) (fun x=> [(1,.pointer (some ⟨b1,0,none⟩)),(2,.int .i64 0),(3,.pointer (some ⟨b18,0,none⟩)),(47,sv vp),(48,.int .i64 (fs.length:Int)),(49,.int .i64 (x.1:Int))]) (fun x=> [(18,bj b18 165 (cR vp x.2.1 x.2.2.2.1 x.2.2.2.2.1 x.2.2.2.2.2 (fJ fs (fs.take x.1)))),(19,own 9 1 eS (sv x.2.1) x.2.2.1)]) (fun x=> [(0,cx vp fs),(1,sl 3 iW (sv vp) fs)]) (fun x=>fs.length-x.1) (0,bJ,[],0,0,false) ⟨Nat.zero_le _,fun h=>by cases h⟩ J J J (fun x hx0=> ?_);obtain⟨i,v,ns,nd,va,dp⟩:=x;obtain⟨n1,n2⟩:=hx0;dsimp only at n1 n2 ⊢;refine aj (ar J J ci J (ac (a_ (ae J (fun h7=> ?_) (fun h7=> ?_)))))
      ·(try simp only [be]at h7)
       have hi:i<fs.length:=by omega
       obtain⟨f,hst⟩:∃k,fs[i]?=some k:=⟨_,List.getElem?_eq_getElem hi⟩
       refine ax (a_ (aB (aj (aO (aR (j:=i) underlying25 ge J J (aN (k:=1) J) (by first|rfl|omega) (by first|omega|(simp;done)|(simp;omega))) J (aO (aL ge J J J (bD (aN (k:=1) J) (by intro _;rfl) hst (by rfl))) J (aZ ge J J fun b8=>aq (k:=8) ge J J J J J J (ac (ap (ad J J (aO (aL ge J J J (aX (k:=8) J)) J (aW 0 11 J (ln (List.mem_of_getElem? hst)) (bN (xs:= [.tmp 53,.tmp 54]) (yo b18 vp v nd va dp (fJ fs (fs.take i)) ns fs hfl f (hg.2 f (List.mem_of_getElem? hst)) n2) P_ [18,19] [(false,11),(false,0)] [18,19] [] J J J J J J J J (fun _ _=>J) (fun _ _ _=>J) J (fun v2 _=>ac (ap (ar J J (bi (by first|exact bc (by omega) (by omega)|rfl)) J (ad J J (ac ?_)))))))))))))))));refine aM (i+1,v2,(cA fs f.ps f.body).1,0+(cw f.body:Int),(f.ps.length:Int)+(cL f.body:Int),dp || da 1 f.body) ⟨⟨by dsimp only;omega,fun h=>by dsimp only;rw [jH hst];exact D_ n2 h⟩,by dsimp only;omega⟩ J (by dsimp only;rw [jH hst];rfl) J
      ·(try simp only [be]at h7)
       have hi:i=fs.length:=by omega
       subst hi;rw [List.take_length];refine bx (aj (ad J J (bG J J (az tZ J J (aP 18 nf J J J J J (ai J J (ac (au (aH () O J (bE (aJ J)) (by rw [wh hr (by omega) ho hm (by omega)]) [] [] J J J)))))))))
theorem Bc{s x:ByteArray}{l:List ByteArray}{i:Nat}(h:l[i]?=some x):cg s (l.take (i+1))=(cg s (l.take i) || (x==s)):=by
 unfold cg;rw [bT h,List.any_append,b_];simp only [List.any_cons,List.any_nil,Bool.or_false]
 congr 1
 exact decide_eq_decide.2 ⟨fun h=>h.symm,fun h=>h.symm⟩
theorem De{s x:ByteArray}{l:List ByteArray}(hm:x∈l)(h:(x==s)=true):cg s l=true:=by
 rw [b_]at h;exact List.any_eq_true.2 ⟨x,hm,by simpa using(of_decide_eq_true h).symm⟩
theorem Mu{a b:Bool}(h:(!a&& !b)=false):(a || b)=true:=by cases a<;>cases b<;>simp_all
theorem Mv{a b:Bool}(h:(!a&& !b)=true):(a || b)=false:=by cases a<;>cases b<;>simp_all
theorem Bf{s:ByteArray}(h:(s.size:Int)<1∨(s.size:Int)>12):ca s=false:=by
 unfold ca;rcases h with h|h
 ·rw [decide_eq_false (show ¬s.size≠0 by omega)];rfl
 ·rw [decide_eq_false (show ¬s.size≤12 by omega)];simp
theorem Aq{s:ByteArray}:(bn s).getD 0 0=sS s:=by
 unfold sS bn;cases s.data.toList<;>rfl
theorem Bg{s:ByteArray}(h:mL ((bn s).getD 0 0)=false):ca s=false:=by
 unfold ca;rw [←Aq,h];simp
theorem Gl{s:ByteArray}(h:cg s rJ=true):ca s=false:=by
 unfold ca;rw [h];simp
theorem wt{s:ByteArray}{i:Nat}(h:i<s.size):(bn s).getD i 0=(((s[i]'h).toNat:Nat):Int):=by
 have hi:i<s.data.toList.length:=by simpa using h
 unfold bn;rw [List.getD_eq_getElem?_getD,List.getElem?_map,List.getElem?_eq_getElem hi];rfl
theorem JZ{s:ByteArray}{i:Nat}(h:i<s.size)(hb:(mL ((bn s).getD i 0) || iG ((bn s).getD i 0))=false):ca s=false:=by
 unfold ca;have h2:yv (fun c=>mL c || iG c) s=false:=by
  rw [Bool.eq_false_iff];intro h3;have h4:=m9.1 h3 i h;rw [wt h]at hb;rw [hb]at h4;cases h4
 rw [h2];simp
theorem Gk{s:ByteArray}(h1:¬(s.size:Int)<1)(h2:¬(s.size:Int)>12)(h3:mL ((bn s).getD 0 0)=true)(h4:cg s rJ=false)(h5:∀j,j<s.size→(mL ((bn s).getD j 0) || iG ((bn s).getD j 0))=true):ca s=true:=by
 unfold ca;rw [←Aq,h3,h4,decide_eq_true (show s.size≠0 by omega),decide_eq_true (show s.size≤12 by omega)];simp only [Bool.not_false,Bool.and_true,Bool.true_and];exact m9.2 fun i h=>by rw [←wt h];exact h5 i h
def rlv:List (List ByteArray):= [[iO],[em],[ed],[lB,ly],[kv,lz,lA,mE],[fB,fR],[e8,d7],[fD,jc,jV]]
theorem FP(s:ByteArray):(rlv.any fun l=>cg s l)=gI s:=by
 have h:∀o:ByteArray,decide (s=o)=decide (o=s):=fun o=>decide_eq_decide.2 ⟨fun h=>h.symm,fun h=>h.symm⟩
 unfold gI;rw [List.isSome_find?];simp only [rlv,lvL,cg,List.any_cons,List.any_nil,Bool.or_false,h]
 ac_rfl
theorem kO(c:Int):
  Spec prog 135 [.int .u8 c] [] [] (X:=Unit) (fun _=>True) (fun _=> .bool (mL c)) (fun _=> []) (fun _=> []):=by
 refine aI func135 J ntmps135 J fun w0 M H=>aj (ai J J (aG J (ad J J (ar J J fe J (ad J J (aA [] J J O (fun hg1=>am J) J (aA [(6,_)] J J ⟨J,O⟩ (fun hg2=>aT J J jl) J (aO (aQ J J J (by first|exact av|exact aC|rfl)) J (ai J J (ac (au (aH () O J (bE (aJ J)) J [] [] J J J))))))))))))
theorem k8(c:Int):
  Spec prog 136 [.int .u8 c] [] [] (X:=Unit) (fun _=>True) (fun _=> .bool (iG c)) (fun _=> []) (fun _=> []):=by
 refine aI func136 J ntmps136 J fun w0 M H=>aj (ai J J (aG J (ad J J (ar J J fe J (ad J J (aA [] J J O (fun hg1=>am J) J (aA [(6,_)] J J ⟨J,O⟩ (fun hg2=>aT J J jl) J (aO (aQ J J J (by first|exact av|exact aC|rfl)) J (ai J J (ac (au (aH () O J (bE (aJ J)) J [] [] J J J))))))))))))
theorem vv:
  Spec prog 134 [] [] [] (X:=SV) (fun _=>True) (fun u=>sv u) (fun u=> [own 9 1 eS (sv u) rJ]) (fun _=> []):=by
 refine aI func134 J ntmps134 J fun w0 M H=>aj (ai J J (aG J (cD eS rJ (parts:= [(0,.const (.string (ByteArray.mk #[101,108,115,101]))),(1,.const (.string (ByteArray.mk #[102,110]))),(2,.const (.string (ByteArray.mk #[105,102]))),(3,.const (.string (ByteArray.mk #[105,110]))),(4,.const (.string (ByteArray.mk #[109,101,109]))),(5,.const (.string (ByteArray.mk #[111,117,116]))),(6,.const (.string (ByteArray.mk #[114,101,116,117,114,110]))),(7,.const (.string (ByteArray.mk #[118,97,114]))),(8,.const (.string (ByteArray.mk #[119,104,105,108,101])))]) underlying46 t9 J (by decide) (by intro _;rfl) J (by decide) (by decide) J J J J fun v1=>ai J J (ac (au (aH v1 O J (bE (aJ J)) J [1] [] J J J))))))
theorem jN(s:ByteArray)(v:SV)(l:List ByteArray)(hl:l.length≤1000000):
  Spec prog 59 [.string s,sv v] [] [sl 1 eS (sv v) l] (X:=Unit) (fun _=>True) (fun _=> .bool (cg s l)) (fun _=> []) (fun _=> []):=by
 refine aI func59 J ntmps59 J fun w0 M H=>aj (ai J J (ac (aS (ai J J (ac (aB (bv (X:=Nat) (fun i=>i≤l.length∧cg s (l.take i)=false) (fun i=> [(0,.string s),(1,sv v),(5,.int .i64 (i:Int))]) (fun i=> []) (fun i=> [(0,sl 1 eS (sv v) l)]) (fun i=>l.length-i) 0 ⟨Nat.zero_le _,J⟩ J J J (fun i hx0=> ?_))))))))
 obtain⟨n1,n2⟩:=hx0;refine aS (ad J J (ad J J (aO (aU underlying46 J (aN (k:=0) J)) J (ar J J ci J (ac (ae J (fun h1=> ?_) (fun h1=> ?_)))))))
 ·(try simp only [be]at h1)
  have hi:i<l.length:=by omega
  obtain⟨x,hx⟩:∃k,l[i]?=some k:=⟨_,List.getElem?_eq_getElem hi⟩
  refine ax (a_ (aB (aj (ad J J (ad J J (aO (aR (j:=i) underlying46 t9 J J (aN (k:=0) J) (by first|rfl|omega) (by first|omega|(simp;done)|(simp;omega))) J (aO (ah t9 J J (bD (aN (k:=0) J) (by intro _;rfl) hx (by rfl))) J (ad J J (ar J J cr J (ac (ae J (fun h2=> ?_) (fun h2=> ?_))))))))))))
  ·have hct:(x==s)=true:=h2;refine aj (ai J J (ac (au (aH () O J (bE (aJ J)) (congrArg Value.bool (De (List.mem_of_getElem? hx) hct).symm) [] [] J J J))))
  ·have hcf:(x==s)=false:=h2;refine ax (ap (ad J J (ar J J (bi (by first|exact bc (by omega) (by omega)|rfl)) J (ai J J (ac ?_)))));refine aM (i+1) ⟨⟨by omega,by rw [Bc hx,n2,hcf];rfl⟩,by omega⟩ J J J
 ·(try simp only [be]at h1)
  have hi:i=l.length:=by omega
  subst hi;rw [List.take_length]at n2;refine bx (aj (ai J J (ac (au (aH () O J (bE (aJ J)) (congrArg Value.bool n2.symm) [] [] J J J)))))
theorem ld(s:ByteArray)(v:SV)(l:List ByteArray)(hl:l.length≤1000000):Spec prog 59 [.string s,sv v] [] [own 9 1 eS (sv v) l] (X:=Unit) (fun _=>True) (fun _=> .bool (cg s l)) (fun _=> []) (fun _=> []):=(jN s v l hl).ro1 bB
theorem iR(s:ByteArray):
  Spec prog 102 [.string s] [] [] (X:=Unit) (fun _=>True) (fun _=> .bool (ca s)) (fun _=> []) (fun _=> []):=by
 refine aI func102 J ntmps102 J fun w0 M H=>aj (ai J J (aG J (ad J J (ak (xs:= []) vv IF [] [] [6] (fun v6 _=>ak (xs:= [.tmp 5,.tmp 6]) (ld s v6 rJ (by decide)) yr [] [(true,6)] [] (fun _ _=>ai J J (ac (aS (ad J J (aO (cl underlying9 J) J (ar J J ci J (ad J J (aA [] J J O (fun hg1=>am J) J ?_)))))))))))))
 refine aA [(12,_)] J J ⟨J,O⟩ (fun hg2=>cl underlying9 J) J (aA [(12,_),(13,_)] J J ⟨J,J,O⟩ (fun hg3=>aT J J dV) J (aO (aQ J J J (by first|exact av|exact aC|rfl)) J (ad J J (gW (t:=16) J (fun h4=> ?_) (fun h4=> ?_)))))
 ·(try simp only [be]at h4)
  have q8:=h4;refine dQ J J J J (dQ J J J J (dQ J J J J (dQ J J J J (aO (aQ J J J (by first|exact av|exact aC|rfl)) J (ad J J (aA [] J J O (fun hg5=>am J) J (aO (aQ J J J (by first|exact av|exact aC|rfl)) J (ac (ae J (fun h6=> ?_) (fun h6=> ?_))))))))))
  ·(try simp only [be]at h6)
   refine aj (ai J J (ac (au (aH () O J (bE (aJ J)) (congrArg Value.bool (Bf q8).symm) [] [] J J J))))
  ·exact absurd h6 (by simp)
 ·(try simp only [be]at h4)
  have q8:=h4;have hs0:0<s.size:=by omega
  refine cn J J (ad J J (cn J J (aO (dv (j:=0) underlying9 J J J hs0) J (cn J J (ak (xs:= [.tmp 18]) (kO _) An [] [] [] (fun _ _=>cn J J (aO (ch J) J (aO (aQ J J J (by first|exact av|exact aC|rfl)) J (ad J J (aA [] J J O (fun hg7=>am J) J (aO (aQ J J J (by first|exact av|exact aC|rfl)) J (ac (ae J (fun h8=> ?_) (fun h8=> ?_))))))))))))))
  ·(try simp only [be]at h8)
   have qc:=h8;refine aj (ai J J (ac (au ?_)));have hno:ca s=false:=by
    rcases qc with(q|q)|q
    ·cases q
    ·exact Bg q
    ·exact Gl q
   refine aH () O J (bE (aJ J)) (congrArg Value.bool hno.symm) [] [] J J J
  ·(try simp only [be]at h8)
   have qc:=h8;refine ax (aS (ai J J (ac (aB (bv (X:=Nat) (fun i=>i≤s.size∧∀j,j<i→(mL ((bn s).getD j 0) || iG ((bn s).getD j 0))=true) (fun i=> [(0,.string s),(4,.int .i64 (i:Int))]) (fun i=> []) (fun i=> []) (fun i=>s.size-i) 0 ⟨Nat.zero_le _,fun j h=>absurd h (Nat.not_lt_zero _)⟩ J J J (fun i hx0=> ?_))))));obtain⟨n1,n2⟩:=hx0;refine aS (ad J J (ad J J (aO (cl underlying9 J) J (ar J J ci J (ac (ae J (fun h9=> ?_) (fun h9=> ?_)))))))
   ·(try simp only [be]at h9)
    have hi:i<s.size:=by omega
    refine ax (a_ (aB (aj (ad J J (ad J J (aO (dv (j:=i) underlying9 J J J hi) J (ak (xs:= [.tmp 33]) (kO _) An [] [] [] (fun _ _=>aO (ch J) J (ad J J (aA [] J J O (fun hg10=>am J) J (aA [(37,_)] J J ⟨J,O⟩ (fun hg11=>am J) J (aA [(37,_),(38,_)] J J ⟨J,J,O⟩ (fun hg12=>dv (j:=i) underlying9 J J J hi) J (gT [(37,_),(38,_),(39,_)] J J ⟨J,J,J,O⟩ (fun hg13=>bq (xs:= [.tmp 39]) (k8 _) Am [] [] [] J J J J J J J J (fun _ _=>J) (fun _ _ _=>J)) J (aA [(37,_),(38,_),(39,_),(40,_)] J J ⟨J,J,J,J,O⟩ (fun hg14=>ch J) J (aO (aQ J J J (by first|exact av|exact aC|rfl)) J (ac (ae J (fun h15=> ?_) (fun h15=> ?_))))))))))))))))))
    ·have hct:=h15;refine aj (ai J J (ac (au (aH () O J (bE (aJ J)) (congrArg Value.bool (JZ hi (Mv hct)).symm) [] [] J J J))))
    ·have hcf:=h15;refine ax (ap (ad J J (ar J J (bi (by first|exact bc (by omega) (by omega)|rfl)) J (ai J J (ac ?_)))));refine aM (i+1) ⟨⟨by omega,fun j hj=>by
      by_cases h:j=i
      ·subst h;exact Mu hcf
      ·exact n2 j (by omega)⟩,by omega⟩ rfl rfl rfl
   ·(try simp only [be]at h9)
    have hi:i=s.size:=by omega
    subst hi;refine bx (aj (ai J J (ac (au (aH () O J (bE (aJ J)) (congrArg Value.bool (Gk q8.1 q8.2 qc.1.2 qc.2 n2).symm) [] [] J J J)))))
structure Qi where
 op:Int
 d:Int
 a:Int
 b:Int
 imm:Int
deriving DecidableEq
def gL(i:Qi):List Value:= [.int .i64 i.op,.int .i64 i.d,.int .i64 i.a,.int .i64 i.b,.int .u32 i.imm]
def q3(op d a b:Int):Qi:=⟨op,d,a,b,0⟩
def qi(op d a n:Int):Qi:=⟨op,d,a,0,n⟩
structure Qg where
 code:List Qi
 fixes:List (Int×Int)
 labs:List Int
def uq(p:Int×Int):List Value:= [.int .i64 p.1,.int .i64 p.2]
def Qg.emit(s:Qg)(l:List Qi):Qg:={s with code:=s.code++l}
def Qg.lab(s:Qg):Qg:={s with labs:=s.labs++ [0]}
def Qg.place(s:Qg)(l:Int):Qg:={s with labs:=s.labs.set l.toNat s.code.length}
def Qg.jump(s:Qg)(op d a l:Int):Qg:={s with fixes:=s.fixes++ [((s.code.length:Int),l)],code:=s.code++ [qi op d a 0]}
def Qg.push(s:Qg)(r:Int):Qg:=(s.emit [qi 16 14 14 4294967292]).emit [qi 25 r 14 0]
def Qg.pop(s:Qg)(r:Int):Qg:=(s.emit [qi 23 r 14 0]).emit [qi 16 14 14 4]
def Qg.elem(s:Qg)(r:Int):Qg:=(s.emit [qi 17 r r 255]).emit [qi 20 r r 2]
def ot(o:ByteArray)(s:Qg):Qg:=
 if o=e8 then s.emit [q3 1 1 2 1]else if o=d7 then s.emit [q3 2 1 2 1]else if o=fD then s.emit [q3 9 1 2 1]else
 if o=ed then s.emit [q3 3 1 2 1]else if o=iO then s.emit [q3 4 1 2 1]else if o=em then s.emit [q3 5 1 2 1]else
 if o=fB then s.emit [q3 6 1 2 1]else if o=fR then s.emit [q3 7 1 2 1]else if o=kv then s.emit [q3 11 1 2 1]else
 if o=lA then s.emit [q3 11 1 1 2]else if o=lz then(s.emit [q3 11 1 1 2]).emit [qi 19 1 1 1]else if o=mE then(s.emit [q3 11 1 2 1]).emit [qi 19 1 1 1]else
 if o=ly then(s.emit [q3 5 1 2 1]).emit [q3 11 1 0 1]else if o=lB then((s.emit [q3 5 1 2 1]).emit [q3 11 1 0 1]).emit [qi 19 1 1 1]else
 if o=jc then((s.lab.jump 32 1 0 s.labs.length).emit [q3 10 1 2 1]).place s.labs.length else
 if o=jV then((((((s.lab.emit [q3 1 3 1 0]).jump 32 1 0 s.labs.length).emit [q3 10 3 2 1]).emit [q3 9 3 3 1]).place s.labs.length)).emit [q3 2 1 2 3]else s
def DO(o:ByteArray)(s:Qg):Qg:=
 if o=d7 then s.emit [q3 2 1 0 1]else if o=p_ then(s.emit [qi 16 2 0 4294967295]).emit [q3 5 1 1 2]else
 if o=rC then(s.emit [qi 16 2 0 1]).emit [q3 11 1 1 2]else s
def gV(n:Int):Bool:=decide (n<131072) || decide (4294967296-131072≤n)
def qp(n:Int)(s:Qg):Qg:=if gV n=true then s.emit [qi 16 1 0 n]else s.emit [qi 41 1 0 (n/1024),qi 18 1 1 (n%1024)]
abbrev Om:=List (ByteArray×Int)
def bC(o:Om)(x:ByteArray):Int:=match o.find? (fun p=>decide (p.1=x))with
 | some p=>p.2
 | none=>0
mutual
def gX(o st:Om):Tx→Qg→Qg
 | .mk k n nm _ kids,s=>
  if k=1 then qp n s else if k=2 then s.emit [qi 23 1 13 (bC o nm)]else
  if k=5 then s.emit [⟨48,0,0,0,2⟩]else
  if k=4 then((kQ o st kids s).elem 1).emit [qi 23 1 1 8192]else
  if k=6 then DO nm (kQ o st kids s)else
  if k=7 then ot nm ((Lf o st kids ((kQ o st kids s).push 1)).pop 2)else
  if k=3 then(let s1:=(sn o st kids s).jump 40 15 0 (bC st nm)
   if kids.length>0 then s1.emit [qi 16 14 14 (4*kids.length)]else s1)else s
def kQ(o st:Om):List Tx→Qg→Qg
 | [],s=>s
 | t::_,s=>gX o st t s
def Lf(o st:Om):List Tx→Qg→Qg
 | [],s=>s
 | _::r,s=>kQ o st r s
def sn(o st:Om):List Tx→Qg→Qg
 | [],s=>s
 | t::r,s=>sn o st r ((gX o st t s).push 1)
end
mutual
def gY(o st:Om)(en:Int):Ty→Qg→Qg
 | .mk k nm _ es _ body _ els,s=>
  let s0:=s.lab.place s.labs.length
  let s1:=kQ o st es s0
  if k=1∨k=2 then s1.emit [qi 25 1 13 (bC o nm)]else
  if k=3 then(((Lf o st es (s1.push 1)).pop 2).elem 2).emit [qi 25 1 2 8192]else
  if k=7 then s1.emit [⟨48,0,0,0,1⟩]else
  if k=6 then s1.jump 40 0 0 en else
  if k=4 then(let lb:Int:=s1.labs.length
   let s2:=gh o st en body ((s1.lab.lab).jump 32 1 0 lb)
   let s3:=if els.length>0 then s2.jump 40 0 0 (lb+1)else s2
   (gh o st en els (s3.place lb)).place (lb+1))else
  if k=5 then(let lb:Int:=s1.labs.length
   ((gh o st en body (s1.lab.jump 32 1 0 lb)).jump 40 0 0 s.labs.length).place lb)else s1
def gh(o st:Om)(en:Int):List Ty→Qg→Qg
 | [],s=>s
 | t::r,s=>gh o st en r (gY o st en t s)
end
mutual
def gD:Ty→Om×Int→Om×Int
 | .mk k nm _ _ _ body _ els,p=>gDs els (gDs body (if k=1 then(d8 p.1 nm (wU (-(4*(p.2+1)))),p.2+1)else p))
def gDs:List Ty→Om×Int→Om×Int
 | [],p=>p
 | t::r,p=>gDs r (gD t p)
end
def gP(n:Int):Int→List ByteArray→Om→Om
 | _,[],o=>o
 | k,p::r,o=>gP n (k+1) r (d8 o p (8+4*(n-1-k)))
def cT(f:Tf):Om×Int:=gDs f.body (gP f.ps.length 0 f.ps [],0)
def dj:Nat→Qg→Qg
 | 0,s=>s
 | n+1,s=>dj n (s.push 0)
def gF(st:Om)(f:Tf)(s:Qg):Qg:=
 let lb:Int:=s.labs.length
 let ov:=cT f
 let s1:=((((((s.lab.lab).place (bC st f.name)).emit [qi 16 12 12 1]).emit [qi 16 2 0 12]).jump 35 2 12 lb).emit [⟨49,0,0,0,0⟩]).place lb
 let s2:=dj ov.2.toNat (((s1.push 15).push 13).emit [q3 1 13 14 0])
 let s3:=((gh ov.1 st (lb+1) f.body s2).emit [q3 1 1 0 0]).place (lb+1)
 ((((s3.emit [q3 1 14 13 0]).pop 13).pop 15).emit [qi 16 12 12 4294967295]).emit [qi 27 0 15 0]
def qs(st:Om):List Tf→Qg→Qg
 | [],s=>s
 | f::r,s=>qs st r (gF st f s)
def nj:List Tf→Om×Qg→Om×Qg
 | [],p=>p
 | f::r,p=>nj r (d8 p.1 f.name p.2.labs.length,p.2.lab)
def xQ(fs:List Tf):Qg:=
 let p:=nj fs ([],⟨[],[],[]⟩)
 qs p.1 fs (((p.2.emit [qi 16 14 0 16384]).jump 40 15 0 (bC p.1 cN)).emit [⟨48,0,0,0,0⟩])
def gk:List Qi→Nat→Int→List Qi
 | [],_,_=> []
 | i::l,0,n=>{i with imm:=n}::l
 | i::l,k+1,n=>i::gk l k n
def mS(labs:List Int):List (Int×Int)→List Qi→List Qi
 | [],l=>l
 | p::r,l=>mS labs r (gk l p.1.toNat (wU (labs.getD p.2.toNat 0-p.1)))
def fv(fs:List Tf):List Qi:=mS (xQ fs).labs (xQ fs).fixes (xQ fs).code
def qT(L:Int→Int)(p:Nat):List (Int×Int)→List Qi→List Qi
 | [],l=>l
 | f::r,l=>qT L p r (gk l (f.1.toNat-p) (wU (L f.2-f.1)))
def Mz(p n:Nat)(fs:List (Int×Int)):Prop:=∀f∈fs,(p:Int)≤f.1∧f.1<p+n
theorem ik:∀(l:List Qi)(k:Nat)(n:Int),(gk l k n).length=l.length
 | [],_,_=>rfl
 | _::_,0,_=>rfl
 | _::l,k+1,n=>congrArg (· +1) (ik l k n)
theorem uk(L:Int→Int)(p:Nat):∀(fs:List (Int×Int))(l:List Qi),(qT L p fs l).length=l.length
 | [],l=>rfl
 | f::r,l=>by unfold qT;rw [uk L p r,ik]
theorem nV:∀(a b:List Qi)(k:Nat)(n:Int),k<a.length→gk (a++b) k n=gk a k n++b
 | [],_,_,_,h=>absurd h (Nat.not_lt_zero _)
 | _::_,_,0,_,_=>rfl
 | x::a,b,k+1,n,h=>congrArg (x:: ·) (nV a b k n (Nat.lt_of_succ_lt_succ h))
theorem mr:∀(a b:List Qi)(k:Nat)(n:Int),a.length≤k→gk (a++b) k n=a++gk b (k-a.length) n
 | [],_,_,_,_=>rfl
 | _::_,_,0,_,h=>absurd h (Nat.not_succ_le_zero _)
 | x::a,b,k+1,n,h=>by
  rw [List.length_cons,Nat.add_sub_add_right];exact congrArg (x:: ·) (mr a b k n (Nat.le_of_succ_le_succ h))
theorem wu(L:Int→Int)(p:Nat):∀(fs:List (Int×Int))(a b:List Qi),Mz p a.length fs→qT L p fs (a++b)=qT L p fs a++b
 | [],a,b,_=>rfl
 | f::r,a,b,h=>by
  have hf:=h f (by simp);unfold qT;rw [nV a b _ _ (by omega),wu L p r _ b (fun g hg=>by rw [ik];exact h g (by simp [hg]))]
theorem sU(L:Int→Int)(p:Nat):∀(fs:List (Int×Int))(a b:List Qi),Mz (p+a.length) b.length fs→qT L p fs (a++b)=a++qT L (p+a.length) fs b
 | [],a,b,_=>rfl
 | f::r,a,b,h=>by
  have hf:=h f (by simp);unfold qT;rw [mr a b _ _ (by omega),sU L p r a _ (fun g hg=>by rw [ik];exact h g (by simp [hg]))]
  congr 3
  omega
theorem Av(L:Int→Int)(p:Nat):∀(f1 f2:List (Int×Int))(l:List Qi),qT L p (f1++f2) l=qT L p f2 (qT L p f1 l)
 | [],f2,l=>rfl
 | f::r,f2,l=>by
  show qT L p (r++f2) _=qT L p f2 (qT L p r _);exact Av L p r f2 _
theorem Hl(L:Int→Int)(p:Nat)(f1 f2:List (Int×Int))(a b:List Qi)(h1:Mz p a.length f1)(h2:Mz (p+a.length) b.length f2):
  qT L p (f1++f2) (a++b)=qT L p f1 a++qT L (p+a.length) f2 b:=by
 rw [Av,wu L p f1 a b h1,sU L p f2 _ b (by rw [uk];exact h2),uk]
structure Res(K:(Int→Int)→Prop)(s s':Qg)(r:List Qi):Prop where
 ex:∃raw fs ls,s'.code=s.code++raw∧raw.length=r.length∧s'.fixes=s.fixes++fs∧s'.labs=s.labs++ls∧Mz s.code.length raw.length fs∧
  ∀L:Int→Int,K L→(∀(i:Nat)(n:Int),ls[i]?=some n→L ((s.labs.length+i:Nat):Int)=n)→qT L s.code.length fs raw=r
theorem Res.nil{K:(Int→Int)→Prop}(s:Qg):Res K s s []:=⟨⟨[],[],[],by simp,rfl,by simp,by simp,fun _ h=>by simp at h,fun _ _ _=>rfl⟩⟩
theorem Res.seq{K:(Int→Int)→Prop}{s s1 s2:Qg}{r1 r2:List Qi}(h1:Res K s s1 r1)(h2:Res K s1 s2 r2):Res K s s2 (r1++r2):=by
 obtain⟨raw1,fs1,ls1,a1,a2,a3,a4,a5,a6⟩:=h1.ex;obtain⟨raw2,fs2,ls2,b1,b2,b3,b4,b5,b6⟩:=h2.ex;have hl:s1.code.length=s.code.length+raw1.length:=by rw [a1,List.length_append]
 have hm:s1.labs.length=s.labs.length+ls1.length:=by rw [a4,List.length_append]
 refine⟨⟨raw1++raw2,fs1++fs2,ls1++ls2,by rw [b1,a1,List.append_assoc],by simp [a2,b2],by rw [b3,a3,List.append_assoc],by rw [b4,a4,List.append_assoc],fun f hf=> ?_,fun L hK hL=> ?_⟩⟩
 ·rw [List.length_append];rcases List.mem_append.1 hf with hf|hf
  ·have:=a5 f hf;omega
  ·have:=b5 f hf;omega
 ·rw [Hl L _ _ _ _ _ a5 (by rw [←hl];exact b5),←hl,a6 L hK fun i n h=>hL i n (by
   rw [List.getElem?_append_left (by obtain⟨h,-⟩:=List.getElem?_eq_some_iff.1 h;exact h)];exact h),b6 L hK fun i n h=> ?_]
  rw [hm];have:=hL (ls1.length+i) n (by rw [List.getElem?_append_right (by omega),show ls1.length+i-ls1.length=i by omega];exact h);rw [show s.labs.length+ls1.length+i=s.labs.length+(ls1.length+i) by omega];exact this
theorem Res.emit{K:(Int→Int)→Prop}(s:Qg)(l:List Qi):Res K s (s.emit l) l:=
 ⟨⟨l,[],[],rfl,rfl,by simp [Qg.emit],by simp [Qg.emit],fun _ h=>by simp at h,fun _ _ _=>rfl⟩⟩
theorem Res.jump{K:(Int→Int)→Prop}(s:Qg)(op d a l:Int)(n:Int)(h:∀L,K L→wU (L l-s.code.length)=n):Res K s (s.jump op d a l) [qi op d a n]:=
 ⟨⟨[qi op d a 0],[((s.code.length:Int),l)],[],rfl,rfl,rfl,by simp [Qg.jump],fun f hf=>by
  have:=List.mem_singleton.1 hf;subst this;simp only [List.length_singleton];omega,fun L hK _=>by
  have:=h L hK;simp only [qT,gk,Int.toNat_natCast,Nat.sub_self,this];rfl⟩⟩
theorem Res.push{K:(Int→Int)→Prop}(s:Qg)(r:Int):Res K s (s.push r) [qi 16 14 14 4294967292,qi 25 r 14 0]:=(Res.emit s _).seq (Res.emit _ _)
theorem Res.pop{K:(Int→Int)→Prop}(s:Qg)(r:Int):Res K s (s.pop r) [qi 23 r 14 0,qi 16 14 14 4]:=(Res.emit s _).seq (Res.emit _ _)
theorem Res.elem{K:(Int→Int)→Prop}(s:Qg)(r:Int):Res K s (s.elem r) [qi 17 r r 255,qi 20 r r 2]:=(Res.emit s _).seq (Res.emit _ _)
theorem Res.weaken{K K':(Int→Int)→Prop}{s s':Qg}{r:List Qi}(h:Res K s s' r)(hk:∀L,K' L→K L):Res K' s s' r:=by
 obtain⟨raw,fs,ls,a1,a2,a3,a4,a5,a6⟩:=h.ex;exact⟨⟨raw,fs,ls,a1,a2,a3,a4,a5,fun L hK=>a6 L (hk L hK)⟩⟩
theorem Res.labels{K:(Int→Int)→Prop}{s s' s'':Qg}{r:List Qi}(ns ms:List Int)(hl:ns.length=ms.length)
  (h:Res (fun L=>K L∧∀(i:Nat)(n:Int),ms[i]?=some n→L ((s.labs.length+i:Nat):Int)=n) {s with labs:=s.labs++ns} s' r)
  (hc:s''.code=s'.code) (hf:s''.fixes=s'.fixes) (hs:∀ls,s'.labs=(s.labs++ns)++ls→s''.labs=(s.labs++ms)++ls):Res K s s'' r:=by
 obtain⟨raw,fs,ls,a1,a2,a3,a4,a5,a6⟩:=h.ex;refine⟨⟨raw,fs,ms++ls,hc.trans a1,a2,hf.trans a3,by rw [hs ls a4,List.append_assoc],a5,fun L hK hL=>a6 L ⟨hK,fun i n hi=>hL i n ?_⟩ fun i n hi=> ?_⟩⟩
 ·rw [List.getElem?_append_left (by obtain⟨h,-⟩:=List.getElem?_eq_some_iff.1 hi;exact h)];exact hi
 ·have:=hL (ms.length+i) n (by rw [List.getElem?_append_right (by omega),show ms.length+i-ms.length=i by omega];exact hi);show L (((s.labs++ns).length+i:Nat):Int)=n;rw [List.length_append,hl,show s.labs.length+ms.length+i=s.labs.length+(ms.length+i) by omega];exact this
def eK(r:Int):List Qi:= [qi 16 14 14 4294967292,qi 25 r 14 0]
def j7(r:Int):List Qi:= [qi 23 r 14 0,qi 16 14 14 4]
def rV(r:Int):List Qi:= [qi 17 r r 255,qi 20 r r 2]
def AA(o:ByteArray):List Qi:=
 if o=e8 then [q3 1 1 2 1]else if o=d7 then [q3 2 1 2 1]else if o=fD then [q3 9 1 2 1]else
 if o=ed then [q3 3 1 2 1]else if o=iO then [q3 4 1 2 1]else if o=em then [q3 5 1 2 1]else
 if o=fB then [q3 6 1 2 1]else if o=fR then [q3 7 1 2 1]else if o=kv then [q3 11 1 2 1]else
 if o=lA then [q3 11 1 1 2]else if o=lz then [q3 11 1 1 2,qi 19 1 1 1]else if o=mE then [q3 11 1 2 1,qi 19 1 1 1]else
 if o=ly then [q3 5 1 2 1,q3 11 1 0 1]else if o=lB then [q3 5 1 2 1,q3 11 1 0 1,qi 19 1 1 1]else
 if o=jc then [qi 32 1 0 2,q3 10 1 2 1]else
 if o=jV then [q3 1 3 1 0,qi 32 1 0 3,q3 10 3 2 1,q3 9 3 3 1,q3 2 1 2 3]else []
def BI(o:ByteArray):List Qi:=
 if o=d7 then [q3 2 1 0 1]else if o=p_ then [qi 16 2 0 4294967295,q3 5 1 1 2]else
 if o=rC then [qi 16 2 0 1,q3 11 1 1 2]else []
def oi(n:Int):List Qi:=if gV n=true then [qi 16 1 0 n]else [qi 41 1 0 (n/1024),qi 18 1 1 (n%1024)]
mutual
def zX(o:Om)(S:ByteArray→Int):Tx→Nat→List Qi
 | .mk k n nm _ kids,p=>
  if k=1 then oi n else if k=2 then [qi 23 1 13 (bC o nm)]else
  if k=5 then [⟨48,0,0,0,2⟩]else
  if k=4 then wz o S kids p++(rV 1++ [qi 23 1 1 8192])else
  if k=6 then wz o S kids p++BI nm else
  if k=7 then wz o S kids p++(eK 1++(Ll o S kids (p+(wz o S kids p).length+2)++(j7 2++AA nm)))else
  if k=3 then wI o S kids p++([qi 40 15 0 (wU (S nm-((p+(wI o S kids p).length:Nat):Int)))]++if kids.length>0 then [qi 16 14 14 (4*kids.length)]else [])else []
def wz(o:Om)(S:ByteArray→Int):List Tx→Nat→List Qi
 | [],p=> []
 | t::_,p=>zX o S t p
def Ll(o:Om)(S:ByteArray→Int):List Tx→Nat→List Qi
 | [],p=> []
 | _::r,p=>wz o S r p
def wI(o:Om)(S:ByteArray→Int):List Tx→Nat→List Qi
 | [],p=> []
 | t::r,p=>zX o S t p++(eK 1++wI o S r (p+(zX o S t p).length+2))
end
mutual
def wX:Tx→Nat
 | .mk k n nm _ kids=>
  if k=1 then(oi n).length else if k=2 then 1 else if k=5 then 1 else
  if k=4 then iL kids+3 else if k=6 then iL kids+(BI nm).length else
  if k=7 then iL kids+(Lx kids+(4+(AA nm).length))else
  if k=3 then qV kids+(1+if kids.length>0 then 1 else 0)else 0
def iL:List Tx→Nat
 | []=>0
 | t::_=>wX t
def Lx:List Tx→Nat
 | []=>0
 | _::r=>iL r
def qV:List Tx→Nat
 | []=>0
 | t::r=>wX t+(2+qV r)
end
mutual
theorem fO(o:Om)(S:ByteArray→Int):∀(t:Tx)(p:Nat),(zX o S t p).length=wX t
 | .mk k n nm _ kids,p=>by
  have h0:=ma o S kids;have h1:=yy o S kids;have hs:=ow o S kids;unfold zX wX;split
  ·rfl
  split
  ·rfl
  split
  ·rfl
  split
  ·rw [List.length_append,h0];rfl
  split
  ·rw [List.length_append,h0]
  split
  ·simp only [List.length_append,h0,h1];simp only [eK,j7,List.length_cons,List.length_nil];omega
  split
  ·simp only [List.length_append,hs,List.length_cons,List.length_nil];split<;>rfl
  ·rfl
theorem ma(o:Om)(S:ByteArray→Int):∀(l:List Tx)(p:Nat),(wz o S l p).length=iL l
 | [],p=>rfl
 | t::_,p=>fO o S t p
theorem yy(o:Om)(S:ByteArray→Int):∀(l:List Tx)(p:Nat),(Ll o S l p).length=Lx l
 | [],p=>rfl
 | _::r,p=>ma o S r p
theorem ow(o:Om)(S:ByteArray→Int):∀(l:List Tx)(p:Nat),(wI o S l p).length=qV l
 | [],p=>rfl
 | t::r,p=>by
  unfold wI qV;rw [List.length_append,List.length_append,fO o S t,ow o S r];rfl
end
mutual
def zY(o:Om)(S:ByteArray→Int)(E:Int):Ty→Nat→List Qi
 | .mk k nm _ es _ body _ els,p=>
  if k=1∨k=2 then wz o S es p++ [qi 25 1 13 (bC o nm)]else
  if k=3 then wz o S es p++(eK 1++(Ll o S es (p+iL es+2)++(j7 2++(rV 2++ [qi 25 1 2 8192]))))else
  if k=7 then wz o S es p++ [⟨48,0,0,0,1⟩]else
  if k=6 then wz o S es p++ [qi 40 0 0 (wU (E-((p+iL es:Nat):Int)))]else
  if k=4 then wz o S es p++([qi 32 1 0 (wU (((jX o S E body (p+iL es+1)).length+(if els.length>0 then 1 else 0)+1:Nat):Int))]++(jX o S E body (p+iL es+1)++
   ((if els.length>0 then [qi 40 0 0 (wU (((jX o S E els (p+iL es+1+(jX o S E body (p+iL es+1)).length+(if els.length>0 then 1 else 0))).length+1:Nat):Int))]else [])++
    jX o S E els (p+iL es+1+(jX o S E body (p+iL es+1)).length+(if els.length>0 then 1 else 0)))))else
  if k=5 then wz o S es p++([qi 32 1 0 (wU (((jX o S E body (p+iL es+1)).length+2:Nat):Int))]++(jX o S E body (p+iL es+1)++
   [qi 40 0 0 (wU (-(((jX o S E body (p+iL es+1)).length+iL es+1:Nat):Int)))]))else wz o S es p
def jX(o:Om)(S:ByteArray→Int)(E:Int):List Ty→Nat→List Qi
 | [],p=> []
 | t::r,p=>zY o S E t p++jX o S E r (p+(zY o S E t p).length)
end
mutual
def wY:Ty→Nat
 | .mk k _ _ es _ body _ els=>
  if k=1∨k=2 then iL es+1 else if k=3 then iL es+(Lx es+7)else if k=7 then iL es+1 else if k=6 then iL es+1 else
  if k=4 then iL es+(eL body+(eL els+(if els.length>0 then 2 else 1)))else
  if k=5 then iL es+(eL body+2)else iL es
def eL:List Ty→Nat
 | []=>0
 | t::r=>wY t+eL r
end
mutual
theorem wH(o:Om)(S:ByteArray→Int)(E:Int):∀(t:Ty)(p:Nat),(zY o S E t p).length=wY t
 | .mk k nm _ es _ body _ els,p=>by
  have h0:=ma o S es;have h1:=yy o S es;have hb:=eC o S E body;have he:=eC o S E els;unfold zY wY;split
  ·simp only [List.length_append,h0];rfl
  split
  ·simp only [List.length_append,h0,h1,eK,j7,rV,List.length_cons,List.length_nil];omega
  split
  ·simp only [List.length_append,h0];rfl
  split
  ·simp only [List.length_append,h0];rfl
  split
  ·simp only [List.length_append,h0,hb,he,List.length_cons,List.length_nil];split
   ·simp only [List.length_cons,List.length_nil];omega
   ·simp only [List.length_cons,List.length_nil];omega
  split
  ·simp only [List.length_append,h0,hb,List.length_cons,List.length_nil];omega
  ·exact h0 p
theorem eC(o:Om)(S:ByteArray→Int)(E:Int):∀(l:List Ty)(p:Nat),(jX o S E l p).length=eL l
 | [],p=>rfl
 | t::r,p=>by
  unfold jX eL;rw [List.length_append,wH o S E t,eC o S E r]
end
def ie:Nat→List Qi
 | 0=> []
 | n+1=>eK 0++ie n
theorem jm:∀n,(ie n).length=2*n
 | 0=>rfl
 | n+1=>by
  unfold ie;rw [List.length_append,jm n];show 2+2*n=_;omega
def zF(S:ByteArray→Int)(f:Tf)(p:Nat):List Qi:=
 let ov:=cT f
 [qi 16 12 12 1,qi 16 2 0 12,qi 35 2 12 2,⟨49,0,0,0,0⟩]++(eK 15++(eK 13++([q3 1 13 14 0]++(ie ov.2.toNat++
  (jX ov.1 S ((p+10+2*ov.2.toNat+eL f.body:Nat):Int) f.body (p+9+2*ov.2.toNat)++
  ([q3 1 1 0 0,q3 1 14 13 0]++(j7 13++(j7 15++ [qi 16 12 12 4294967295,qi 27 0 15 0]))))))))
def wF(f:Tf):Nat:=17+2*(cT f).2.toNat+eL f.body
theorem wK(S:ByteArray→Int)(f:Tf)(p:Nat):(zF S f p).length=wF f:=by
 unfold zF wF;simp only [List.length_append,jm,eC,eK,j7,List.length_cons,List.length_nil];omega
def BU(S:ByteArray→Int):List Tf→Nat→List Qi
 | [],p=> []
 | f::r,p=>zF S f p++BU S r (p+wF f)
def wP:List Tf→Nat
 | []=>0
 | f::r=>wF f+wP r
theorem ox(S:ByteArray→Int):∀(l:List Tf)(p:Nat),(BU S l p).length=wP l
 | [],p=>rfl
 | f::r,p=>by
  unfold BU wP;rw [List.length_append,wK,ox S r]
def gB:List Tf→Nat→ByteArray→Int
 | [],_,_=>3
 | f::r,p,x=>if f.name=x then(p:Int)else gB r (p+wF f) x
def iK(fs:List Tf):List Qi:= [qi 16 14 0 16384,qi 40 15 0 (wU (gB fs 3 cN-1)),⟨48,0,0,0,0⟩]++BU (gB fs 3) fs 3
def gR(vp vc vf vl:SV)(ms:Nat)(mo:Option Nat)(mp:Nat)(en:Int):List Value:= [sv vp,sv vc,sv vf,sv vl,.map (some ms),.map mo,.map (some mp),.int .i64 en]
structure Ga where
 g:Nat
 vp:SV
 ms:Nat
 mo:Option Nat
 mp:Nat
 en:Int
def gA(e:Ga)(s:Qg):Asn:=D0 (α:=SV×SV×SV) fun x=> [bj e.g 111 (gR e.vp x.1 x.2.1 x.2.2 e.ms e.mo e.mp e.en),own 118 5 gL (sv x.1) s.code,own 171 2 uq (sv x.2.1) s.fixes,own 3 1 eI (sv x.2.2) s.labs]
theorem MB{α:Type}{l:List α}{i:Nat}(h:i<l.length):l[i]?=some (l[i]'h):=List.getElem?_eq_getElem h
def Qg.sz(s:Qg):Nat:=s.code.length+s.fixes.length+s.labs.length
theorem zq{n:Nat}{vs:List Value}{R0:List Asn}{L L1:List Asn}{X:Type}{φ:X→Prop}{v:X→Value}{e e':Ga}{s s':Qg}(c:SV×SV×SV→X→SV×SV×SV)
  (h:∀vc vf vl,Spec prog n vs ([bj e.g 111 (gR e.vp vc vf vl e.ms e.mo e.mp e.en),own 118 5 gL (sv vc) s.code,own 171 2 uq (sv vf) s.fixes,own 3 1 eI (sv vl) s.labs]++L) R0 φ v
   (fun x=> [bj e'.g 111 (gR e'.vp (c (vc,vf,vl) x).1 (c (vc,vf,vl) x).2.1 (c (vc,vf,vl) x).2.2 e'.ms e'.mo e'.mp e'.en),own 118 5 gL (sv (c (vc,vf,vl) x).1) s'.code,own 171 2 uq (sv (c (vc,vf,vl) x).2.1) s'.fixes,own 3 1 eI (sv (c (vc,vf,vl) x).2.2) s'.labs]++L1) (fun _=> [])):
  Spec prog n vs (gA e s::L) R0 φ v (fun _=>gA e' s'::L1) (fun _=> []):=
 Spec.pack (fun _(x:SV×SV×SV)=> [bj e'.g 111 (gR e'.vp x.1 x.2.1 x.2.2 e'.ms e'.mo e'.mp e'.en),own 118 5 gL (sv x.1) s'.code,own 171 2 uq (sv x.2.1) s'.fixes,own 3 1 eI (sv x.2.2) s'.labs]) c (fun x=>h x.1 x.2.1 x.2.2)
theorem qC(g:Nat)(vp vc vf vl:SV)(ms:Nat)(mo:Option Nat)(mp:Nat)(en:Int)(s:Qg)(hz:s.sz≤950000)(w:SV)(l:List Qi)(hl:l.length≤1000):
  Spec prog 53 [.pointer (some ⟨g,0,none⟩),sv w] [bj g 111 (gR vp vc vf vl ms mo mp en),own 118 5 gL (sv vc) s.code,own 171 2 uq (sv vf) s.fixes,own 3 1 eI (sv vl) s.labs] [sl 5 gL (sv w) l] (X:=SV) (fun _=>True) (fun _=> .tuple #[]) (fun v=> [bj g 111 (gR vp v vf vl ms mo mp en),own 118 5 gL (sv v) (s.emit l).code,own 171 2 uq (sv vf) (s.emit l).fixes,own 3 1 eI (sv vl) (s.emit l).labs]) (fun _=> []):=by
 refine aI func53 J ntmps53 J fun w0 M H=> ?_
 unfold Qg.sz at hz;refine ap (ad J J (ad J J (bG J J (az kY J J (aP 0 AM J J J J J (ad J J (eO 1 underlying106 ew J (by decide) (fun _=>J) (fun _=>J) J J J (aN (k:=0) J) (by first|omega|(simp;done)|(simp;omega)) (by unfold maxLen;first|omega|(simp;done)|(simp;omega)) J fun v10=>bG J J (az kY J J (aK (k:=0) AM J J J J J J J J (ac (bW v10 O J ff J [0,1,2,3] [] J J J)))))))))))
theorem gp(e:Ga)(s:Qg)(hz:s.sz≤940000)(w:SV)(l:List Qi)(hl:l.length≤1000):
  Spec prog 53 [.pointer (some ⟨e.g,0,none⟩),sv w] [gA e s] [sl 5 gL (sv w) l] (X:=Unit) (fun _=>True) (fun _=> .tuple #[]) (fun _=> [gA e (s.emit l)]) (fun _=> []):=by
 exact Spec.map (fun _=>()) (fun _ _=>O) (fun _=>J) (fun _=>J) (fun _=>J) (zq (L:= []) (L1:= []) (fun a(x:SV)=>(x,a.2.1,a.2.2)) fun vc vf vl=>qC e.g e.vp vc vf vl e.ms e.mo e.mp e.en s (by omega) w l hl)
theorem vu(g:Nat)(vp vc vf vl:SV)(ms:Nat)(mo:Option Nat)(mp:Nat)(en:Int)(s:Qg)(hz:s.sz≤950000):
  Spec prog 50 [.pointer (some ⟨g,0,none⟩)] [bj g 111 (gR vp vc vf vl ms mo mp en),own 118 5 gL (sv vc) s.code,own 171 2 uq (sv vf) s.fixes,own 3 1 eI (sv vl) s.labs] [] (X:=SV) (fun _=>True) (fun _=> .int .i64 (s.labs.length:Int)) (fun v=> [bj g 111 (gR vp vc vf v ms mo mp en),own 118 5 gL (sv vc) (s.lab).code,own 171 2 uq (sv vf) (s.lab).fixes,own 3 1 eI (sv v) (s.lab).labs]) (fun _=> []):=by
 refine aI func50 J ntmps50 J fun w0 M H=> ?_
 unfold Qg.sz at hz;refine aj (ai J J (aG J (ad J J (ad J J (bG J J (az m5 J J (aP 0 Fl J J J J J (bA eI 0 underlying22 t3 J (by decide) (by decide) J J J J fun v8=>eO 3 underlying22 t3 J (by decide) (fun _=>J) (fun _=>J) J J J (bs (k:=8) J) (by first|omega|(simp;done)|(simp;omega)) (by unfold maxLen;first|omega|(simp;done)|(simp;omega)) J fun v9=>bG J J (az m5 J J (aK (k:=0) Fl J J J J J J J J (aG J (ad J J ?_))))))))))));refine bG J J (az m5 J J (aP 0 Fl J J J J J (aO (aU underlying22 J (bs (k:=3) J)) J (ar J J (fX (by first|exact bc (by omega) (by omega)|rfl)) J (ai J J (ac (au (aH v9 O J (bE (aJ J)) (congrArg (Value.int .i64) (by rw [List.length_append,List.length_singleton,bc (by omega) (by omega)];omega)) [0,1,2,3] [] J J J))))))))
theorem eH(e:Ga)(s:Qg)(hz:s.sz≤940000):
  Spec prog 50 [.pointer (some ⟨e.g,0,none⟩)] [gA e s] [] (X:=Unit) (fun _=>True) (fun _=> .int .i64 (s.labs.length:Int)) (fun _=> [gA e s.lab]) (fun _=> []):=by
 exact Spec.map (fun _=>()) (fun _ _=>O) (fun _=>J) (fun _=>J) (fun _=>J) (zq (L:= []) (L1:= []) (fun a(x:SV)=>(a.1,a.2.1,x)) fun vc vf vl=>vu e.g e.vp vc vf vl e.ms e.mo e.mp e.en s (by omega))
theorem u7(g:Nat)(vp vc vf vl:SV)(ms:Nat)(mo:Option Nat)(mp:Nat)(en:Int)(s:Qg)(hz:s.sz≤950000)(l:Int)(hl:0≤l∧l<s.labs.length):
  Spec prog 92 [.pointer (some ⟨g,0,none⟩),.int .i64 l] [bj g 111 (gR vp vc vf vl ms mo mp en),own 118 5 gL (sv vc) s.code,own 171 2 uq (sv vf) s.fixes,own 3 1 eI (sv vl) s.labs] [] (X:=Unit) (fun _=>True) (fun _=> .tuple #[]) (fun _=> [bj g 111 (gR vp vc vf vl ms mo mp en),own 118 5 gL (sv vc) (s.place l).code,own 171 2 uq (sv vf) (s.place l).fixes,own 3 1 eI (sv vl) (s.place l).labs]) (fun _=> []):=by
 refine aI func92 J ntmps92 J fun w0 M H=> ?_
 unfold Qg.sz at hz;refine bH [4,5,6,7,8,9,10,11,12,13,14] _ J (bI (V:= [(0,4,_),(1,5,_),(2,6,_),(3,7,_),(4,8,_),(5,9,_),(6,10,_),(7,11,_),(8,12,_),(9,13,_),(10,14,_)]) [0,1,2,3,4,5,6,7,8,9,10] 11 [11,10,9,8,7,6,5,4,3,2,1,0] [] (fun _=> []) J J (aa (aD J (am J)) (aa (aD J (aF J)) (aa (aD J (ag m5 J)) (aa (aD J (ah Fl J J (ay (k:=0) J J))) (aa (aD J (am J)) (aa (aD J (am J)) (aa (aD J (aF J)) (aa (aD J (ag kY J)) (aa (aD J (ah AM J J (ay (k:=0) J J))) (aa (aD J (aU underlying106 J (bs (k:=1) J))) (aa (aD J (aR (j:=l.toNat) underlying22 t3 J J (bs (k:=3) J) (by first|rfl|omega) (by first|omega|(simp;done)|(simp;omega)))) aw))))))))))) J J J J J J J J J (fun _ _=>J) J (gH (k:=3) t3 J J J (by intro _;rfl) (MB (by omega)) J J) (fun _ _=>bp [] J J aw J J J (bW () O J ff J [0,1,2,3] [] J J J)))
theorem dR(e:Ga)(s:Qg)(hz:s.sz≤940000)(l:Int)(hl:0≤l∧l<s.labs.length):
  Spec prog 92 [.pointer (some ⟨e.g,0,none⟩),.int .i64 l] [gA e s] [] (X:=Unit) (fun _=>True) (fun _=> .tuple #[]) (fun _=> [gA e (s.place l)]) (fun _=> []):=by
 exact Spec.map (fun _=>()) (fun _ _=>O) (fun _=>J) (fun _=>J) (fun _=>J) (zq (L:= []) (L1:= []) (fun a(_:Unit)=>a) fun vc vf vl=>u7 e.g e.vp vc vf vl e.ms e.mo e.mp e.en s (by omega) l hl)
theorem xH(g:Nat)(vp vc vf vl:SV)(ms:Nat)(mo:Option Nat)(mp:Nat)(en:Int)(s:Qg)(hz:s.sz≤940000)(op d a l:Int):
  Spec prog 52 [.pointer (some ⟨g,0,none⟩),.int .i64 op,.int .i64 d,.int .i64 a,.int .i64 l] [bj g 111 (gR vp vc vf vl ms mo mp en),own 118 5 gL (sv vc) s.code,own 171 2 uq (sv vf) s.fixes,own 3 1 eI (sv vl) s.labs] [] (X:=SV×SV) (fun _=>True) (fun _=> .tuple #[]) (fun v=> [bj g 111 (gR vp v.1 v.2 vl ms mo mp en),own 118 5 gL (sv v.1) (s.jump op d a l).code,own 171 2 uq (sv v.2) (s.jump op d a l).fixes,own 3 1 eI (sv vl) (s.jump op d a l).labs]) (fun _=> []):=by
 refine aI func52 J ntmps52 J fun w0 M H=> ?_
 unfold Qg.sz at hz;refine a_ ?_;refine bH [10,11,12,13,14,15,16,17,18,19,20,21,22,23,24,25] _ J (bk (V:= [(0,10,_),(1,11,_),(2,12,_),(3,13,_),(4,14,_),(5,15,_),(6,16,_),(7,17,_),(8,18,_),(9,19,_),(10,20,_),(11,21,_)]) [0,1,2,3,4,5,6,7,8,9,10,11] 12 [12,11,10,9,8,7,6,5] [] (fun v22=> []) J J (aa (aD J (am J)) (aa (aD J (am J)) (aa (aD J (aF J)) (aa (aD J (ag o_ J)) (aa (aD J (ah Fp J J (ay (k:=0) J J))) (aa (aD J (am J)) (aa (aD J (aF J)) (aa (aD J (ag kY J)) (aa (aD J (ah AM J J (ay (k:=0) J J))) (aa (aD J (aU underlying106 J (bs (k:=1) J))) (aa (aD J (am J)) (aa (aD J (aV (parts:= [(0,.tmp 19),(1,.tmp 20)]) wZ Mb J J)) aw)))))))))))) J J J J J J J J J J J (fun _ _=>J) J (ef uq (((s.code.length:Nat):Int),l) underlying107 wZ J (by decide) (by decide) J J J) (fun v22 _=>bk [0,1,2,3,4] 13 [13,12,11,10,9,8,7,6,5,4,3,2,1] [14,15] (fun v23=> [(14,24,_),(15,25,_)]) J J (aa (aD J (am J)) (aa (aD J (am J)) (aa (aD J (aF J)) (aa (aD J (ag o_ J)) (aa (aD J (ah Fp J J (ay (k:=0) J J))) aw))))) J J J J J J J J J J J (fun _ _=>J) J (ia 2 underlying107 wZ J (by decide) (fun _=>J) (fun _=>J) J J J (bs (k:=22) J) (by first|omega|(simp;done)|(simp;omega)) (by unfold maxLen;first|omega|(simp;done)|(simp;omega))) (fun v23 _=>bI [14,15,0] 16 [16,15,14,13,12,11,10,9,8,7,6,5,4,3,2,1,0] [] (fun _=> []) J J (aa (aD J (aF J)) (aa (aD J (ag o_ J)) (aa (aD J (am J)) aw))) J J J J J J J J J (fun _ _=>J) J (cH (k:=0) Fp J J J J J J J J) (fun _ _=>bp [] J J aw J J J ?_))));refine ap (ad J J (ad J J (ad J J (ad J J (aO (aV (parts:= [(0,.tmp 27),(1,.tmp 28),(2,.tmp 29)]) ew lw J J) J (bA gL (qi op d a 0) underlying106 ew J (by decide) (by decide) J J J J fun v31=>cf 31 7 J bB (ak (xs:= [.tmp 26,.tmp 31]) (qC g vp vc v23 vl ms mo mp en {s with fixes:=s.fixes++ [((s.code.length:Int),l)]} (by unfold Qg.sz;simp;omega) v31 [qi op d a 0] (by simp)) wm [0,1,2,3] [(false,7)] [0,1,2,3] (fun vd _=>ac (bW (vd,v23) O J ff J [0,1,2,3] [] J J J)))))))))
theorem eT(e:Ga)(s:Qg)(hz:s.sz≤940000)(op d a l:Int):
  Spec prog 52 [.pointer (some ⟨e.g,0,none⟩),.int .i64 op,.int .i64 d,.int .i64 a,.int .i64 l] [gA e s] [] (X:=Unit) (fun _=>True) (fun _=> .tuple #[]) (fun _=> [gA e (s.jump op d a l)]) (fun _=> []):=by
 exact Spec.map (fun _=>()) (fun _ _=>O) (fun _=>J) (fun _=>J) (fun _=>J) (zq (L:= []) (L1:= []) (fun a(x:SV×SV)=>(x.1,x.2,a.2.2)) fun vc vf vl=>xH e.g e.vp vc vf vl e.ms e.mo e.mp e.en s (by omega) op d a l)
theorem cK(e:Ga)(s:Qg)(hz:s.sz≤940000)(op d a n:Int):
  Spec prog 51 [.pointer (some ⟨e.g,0,none⟩),.int .i64 op,.int .i64 d,.int .i64 a,.int .u32 n] [gA e s] [] (X:=Unit) (fun _=>True) (fun _=> .tuple #[]) (fun _=> [gA e (s.emit [qi op d a n])]) (fun _=> []):=by
 refine aI func51 J ntmps51 J fun w0 M H=>ap (ad J J (ad J J (ad J J (ad J J (ad J J (aO (aV (parts:= [(0,.tmp 11),(1,.tmp 12),(2,.tmp 13),(4,.tmp 14)]) ew lw J J) J (bA gL (qi op d a n) underlying106 ew J (by decide) (by decide) J J J J fun v16=>cf 16 7 J bB (ak (xs:= [.tmp 10,.tmp 16]) (gp e (s) (hz) v16 [qi op d a n] (by simp)) wm [0] [(false,7)] [0] (fun _ _=>ac (bW () O J ff J [0] [] J J J))))))))))
theorem cU(e:Ga)(s:Qg)(hz:s.sz≤940000)(op d a b:Int):
  Spec prog 86 [.pointer (some ⟨e.g,0,none⟩),.int .i64 op,.int .i64 d,.int .i64 a,.int .i64 b] [gA e s] [] (X:=Unit) (fun _=>True) (fun _=> .tuple #[]) (fun _=> [gA e (s.emit [q3 op d a b])]) (fun _=> []):=by
 refine aI func86 J ntmps86 J fun w0 M H=>ap (ad J J (ad J J (ad J J (ad J J (ad J J (aO (aV (parts:= [(0,.tmp 11),(1,.tmp 12),(2,.tmp 13),(3,.tmp 14)]) ew lw J J) J (bA gL (q3 op d a b) underlying106 ew J (by decide) (by decide) J J J J fun v16=>cf 16 7 J bB (ak (xs:= [.tmp 10,.tmp 16]) (gp e (s) (hz) v16 [q3 op d a b] (by simp)) wm [0] [(false,7)] [0] (fun _ _=>ac (bW () O J ff J [0] [] J J J))))))))))
theorem bz(s:Qg)(l:List Qi):(s.emit l).sz=s.sz+l.length:=by
 unfold Qg.sz Qg.emit;simp only [List.length_append];omega
theorem cv(s:Qg)(r:Int):(s.push r).sz=s.sz+2:=by
 unfold Qg.push;rw [bz,bz];rfl
theorem dg(s:Qg)(r:Int):(s.pop r).sz=s.sz+2:=by
 unfold Qg.pop;rw [bz,bz];rfl
theorem c9(s:Qg)(r:Int):(s.elem r).sz=s.sz+2:=by
 unfold Qg.elem;rw [bz,bz];rfl
theorem cd(s:Qg):s.lab.sz=s.sz+1:=by
 unfold Qg.sz Qg.lab;simp only [List.length_append,List.length_singleton];omega
theorem bL(s:Qg)(l:Int):(s.place l).sz=s.sz:=by
 unfold Qg.sz Qg.place;rw [List.length_set]
theorem bO(s:Qg)(op d a l:Int):(s.jump op d a l).sz=s.sz+2:=by
 unfold Qg.sz Qg.jump;simp only [List.length_append,List.length_singleton];omega
theorem h_(e:Ga)(s:Qg)(hz:s.sz≤800000)(r:Int):
  Spec prog 95 [.pointer (some ⟨e.g,0,none⟩),.int .i64 r] [gA e s] [] (X:=Unit) (fun _=>True) (fun _=> .tuple #[]) (fun _=> [gA e (s.push r)]) (fun _=> []):=by
 refine aI func95 J ntmps95 J fun w0 M H=>aj (ad J J (ak (xs:= [.tmp 4,.const (.int .i64 16),.const (.int .i64 14),.const (.int .i64 14),.const (.int .u32 4294967292)]) (cK e (s) (by omega) 16 14 14 4294967292) iN [0] [] [0] (fun _ _=>ac (ap (ad J J (ad J J (ak (xs:= [.tmp 6,.const (.int .i64 25),.tmp 7,.const (.int .i64 14),.const (.int .u32 0)]) (cK e (s.emit [qi 16 14 14 4294967292]) (by rw [bz];simp;omega) 25 r 14 0) iN [0] [] [0] (fun _ _=>ac (bW () O J ff J [0] [] J J J)))))))))
theorem mA(e:Ga)(s:Qg)(hz:s.sz≤800000)(r:Int):
  Spec prog 97 [.pointer (some ⟨e.g,0,none⟩),.int .i64 r] [gA e s] [] (X:=Unit) (fun _=>True) (fun _=> .tuple #[]) (fun _=> [gA e (s.pop r)]) (fun _=> []):=by
 refine aI func97 J ntmps97 J fun w0 M H=>aj (ad J J (ad J J (ak (xs:= [.tmp 4,.const (.int .i64 23),.tmp 5,.const (.int .i64 14),.const (.int .u32 0)]) (cK e (s) (by omega) 23 r 14 0) iN [0] [] [0] (fun _ _=>ac (ap (ad J J (ak (xs:= [.tmp 7,.const (.int .i64 16),.const (.int .i64 14),.const (.int .i64 14),.const (.int .u32 4)]) (cK e (s.emit [qi 23 r 14 0]) (by rw [bz];simp;omega) 16 14 14 4) iN [0] [] [0] (fun _ _=>ac (bW () O J ff J [0] [] J J J)))))))))
theorem sG(e:Ga)(s:Qg)(hz:s.sz≤800000)(r:Int):
  Spec prog 168 [.pointer (some ⟨e.g,0,none⟩),.int .i64 r] [gA e s] [] (X:=Unit) (fun _=>True) (fun _=> .tuple #[]) (fun _=> [gA e (s.elem r)]) (fun _=> []):=by
 refine aI func168 J ntmps168 J fun w0 M H=>aj (ad J J (ad J J (ad J J (ak (xs:= [.tmp 4,.const (.int .i64 17),.tmp 5,.tmp 6,.const (.int .u32 255)]) (cK e (s) (by omega) 17 r r 255) iN [0] [] [0] (fun _ _=>ac (ap (ad J J (ad J J (ad J J (ak (xs:= [.tmp 8,.const (.int .i64 20),.tmp 9,.tmp 10,.const (.int .u32 2)]) (cK e (s.emit [qi 17 r r 255]) (by rw [bz];simp;omega) 20 r r 2) iN [0] [] [0] (fun _ _=>ac (bW () O J ff J [0] [] J J J))))))))))))
abbrev ck(n:Nat)(l:List Nat):Value:= .func (.func n) #[] (l.map fun b=>Value.pointer (some ⟨b,0,none⟩)).toArray
theorem fK(e:Ga)(s:Qg)(hz:s.sz≤900000)(bg:Nat)(bo:Nat)(op:Int):
  Spec prog 85 [.pointer (some ⟨bg,0,none⟩),.pointer (some ⟨bo,0,none⟩)] [gA e s] [bj bg 104 [.pointer (some ⟨e.g,0,none⟩)],bj bo 3 [.int .i64 op]] (X:=Unit) (fun _=>True) (fun _=> .tuple #[]) (fun _=> [gA e (s.emit [q3 op 1 2 1])]) (fun _=> []):=by
 refine aI func85 J ntmps85 J fun w0 M H=>ap (aO (ah ke J J (cI (k:=0) J J)) J (aO (ah t3 J J (cI (k:=1) J J)) J (ak (xs:= [.tmp 2,.tmp 3,.const (.int .i64 1),.const (.int .i64 2),.const (.int .i64 1)]) (cU e (s) (by omega) op 1 2 1) l7 [0] [] [0] (fun _ _=>ac (bW () O J ff J [0] [] J J J)))))
theorem ws(e:Ga)(s:Qg)(hz:s.sz≤900000)(bg:Nat):
  Spec prog 87 [.pointer (some ⟨bg,0,none⟩)] [gA e s] [bj bg 104 [.pointer (some ⟨e.g,0,none⟩)]] (X:=Unit) (fun _=>True) (fun _=> .tuple #[]) (fun _=> [gA e (s.emit [q3 11 1 1 2])]) (fun _=> []):=by
 refine aI func87 J ntmps87 J fun w0 M H=>ap (aO (ah ke J J (cI (k:=0) J J)) J (ak (xs:= [.tmp 1,.const (.int .i64 11),.const (.int .i64 1),.const (.int .i64 1),.const (.int .i64 2)]) (cU e (s) (by omega) 11 1 1 2) l7 [0] [] [0] (fun _ _=>ac (bW () O J ff J [0] [] J J J))))
theorem wr(e:Ga)(s:Qg)(hz:s.sz≤900000)(bg:Nat):
  Spec prog 90 [.pointer (some ⟨bg,0,none⟩)] [gA e s] [bj bg 104 [.pointer (some ⟨e.g,0,none⟩)]] (X:=Unit) (fun _=>True) (fun _=> .tuple #[]) (fun _=> [gA e ((s.emit [q3 5 1 2 1]).emit [q3 11 1 0 1])]) (fun _=> []):=by
 refine aI func90 J ntmps90 J fun w0 M H=>aj (aO (ah ke J J (cI (k:=0) J J)) J (ak (xs:= [.tmp 1,.const (.int .i64 5),.const (.int .i64 1),.const (.int .i64 2),.const (.int .i64 1)]) (cU e (s) (by omega) 5 1 2 1) l7 [0] [] [0] (fun _ _=>ac (ap (aO (ah ke J J (cI (k:=0) J J)) J (ak (xs:= [.tmp 3,.const (.int .i64 11),.const (.int .i64 1),.const (.int .i64 0),.const (.int .i64 1)]) (cU e (s.emit [q3 5 1 2 1]) (by rw [bz];simp;omega) 11 1 0 1) l7 [0] [] [0] (fun _ _=>ac (bW () O J ff J [0] [] J J J))))))))
theorem EG(e:Ga)(s:Qg)(hz:s.sz≤900000)(bg:Nat):
  Spec prog 91 [.pointer (some ⟨bg,0,none⟩)] [gA e s] [bj bg 104 [.pointer (some ⟨e.g,0,none⟩)]] (X:=Unit) (fun _=>True) (fun _=> .tuple #[]) (fun _=> [gA e (((s.lab.jump 32 1 0 s.labs.length).emit [q3 10 1 2 1]).place s.labs.length)]) (fun _=> []):=by
 refine aI func91 J ntmps91 J fun w0 M H=>aj (aO (ah ke J J (cI (k:=0) J J)) J (ak (xs:= [.tmp 2]) (eH e s (by omega)) ug [0] [] [0] (fun _ _=>ai J J (aG J (aO (ah ke J J (cI (k:=0) J J)) J (ad J J (ak (xs:= [.tmp 4,.const (.int .i64 32),.const (.int .i64 1),.const (.int .i64 0),.tmp 5]) (eT e (s.lab) (by simp only [bz,cd,bO,bL,List.length_singleton];omega) 32 1 0 (s.labs.length:Int)) rS [0] [] [0] (fun _ _=>aG J (aO (ah ke J J (cI (k:=0) J J)) J (ak (xs:= [.tmp 7,.const (.int .i64 10),.const (.int .i64 1),.const (.int .i64 2),.const (.int .i64 1)]) (cU e (s.lab.jump 32 1 0 s.labs.length) (by simp only [bz,cd,bO,bL,List.length_singleton];omega) 10 1 2 1) l7 [0] [] [0] (fun _ _=>ac (ap (aO (ah ke J J (cI (k:=0) J J)) J ?_)))))))))))))
 refine ad J J (ak (xs:= [.tmp 9,.tmp 10]) (dR e ((s.lab.jump 32 1 0 s.labs.length).emit [q3 10 1 2 1]) (by simp only [bz,cd,bO,bL,List.length_singleton];omega) (s.labs.length:Int) (by simp [Qg.lab,Qg.jump,Qg.emit];omega)) qM [0] [] [0] (fun _ _=>ac (bW () O J ff J [0] [] J J J)))
theorem EF(e:Ga)(s:Qg)(hz:s.sz≤900000)(bg:Nat):
  Spec prog 93 [.pointer (some ⟨bg,0,none⟩)] [gA e s] [bj bg 104 [.pointer (some ⟨e.g,0,none⟩)]] (X:=Unit) (fun _=>True) (fun _=> .tuple #[]) (fun _=> [gA e ((((((s.lab.emit [q3 1 3 1 0]).jump 32 1 0 s.labs.length).emit [q3 10 3 2 1]).emit [q3 9 3 3 1]).place s.labs.length).emit [q3 2 1 2 3])]) (fun _=> []):=by
 refine aI func93 J ntmps93 J fun w0 M H=>aj (aO (ah ke J J (cI (k:=0) J J)) J (ak (xs:= [.tmp 2]) (eH e s (by omega)) ug [0] [] [0] (fun _ _=>ai J J (aG J (aO (ah ke J J (cI (k:=0) J J)) J (ak (xs:= [.tmp 4,.const (.int .i64 1),.const (.int .i64 3),.const (.int .i64 1),.const (.int .i64 0)]) (cU e (s.lab) (by simp only [bz,cd,bO,bL,List.length_singleton];omega) 1 3 1 0) l7 [0] [] [0] (fun _ _=>aG J (aO (ah ke J J (cI (k:=0) J J)) J (ad J J (ak (xs:= [.tmp 6,.const (.int .i64 32),.const (.int .i64 1),.const (.int .i64 0),.tmp 7]) (eT e (s.lab.emit [q3 1 3 1 0]) (by simp only [bz,cd,bO,bL,List.length_singleton];omega) 32 1 0 (s.labs.length:Int)) rS [0] [] [0] (fun _ _=>aG J ?_)))))))))))
 refine aO (ah ke J J (cI (k:=0) J J)) J (ak (xs:= [.tmp 9,.const (.int .i64 10),.const (.int .i64 3),.const (.int .i64 2),.const (.int .i64 1)]) (cU e ((s.lab.emit [q3 1 3 1 0]).jump 32 1 0 s.labs.length) (by simp only [bz,cd,bO,bL,List.length_singleton];omega) 10 3 2 1) l7 [0] [] [0] (fun _ _=>aG J (aO (ah ke J J (cI (k:=0) J J)) J (ak (xs:= [.tmp 11,.const (.int .i64 9),.const (.int .i64 3),.const (.int .i64 3),.const (.int .i64 1)]) (cU e (((s.lab.emit [q3 1 3 1 0]).jump 32 1 0 s.labs.length).emit [q3 10 3 2 1]) (by simp only [bz,cd,bO,bL,List.length_singleton];omega) 9 3 3 1) l7 [0] [] [0] (fun _ _=>aG J (aO (ah ke J J (cI (k:=0) J J)) J (ad J J (ak (xs:= [.tmp 13,.tmp 14]) (dR e ((((s.lab.emit [q3 1 3 1 0]).jump 32 1 0 s.labs.length).emit [q3 10 3 2 1]).emit [q3 9 3 3 1]) (by simp only [bz,cd,bO,bL,List.length_singleton];omega) (s.labs.length:Int) (by simp [Qg.lab,Qg.jump,Qg.emit];omega)) qM [0] [] [0] (fun _ _=>ac (ap (aO (ah ke J J (cI (k:=0) J J)) J (ak (xs:= [.tmp 16,.const (.int .i64 2),.const (.int .i64 1),.const (.int .i64 2),.const (.int .i64 3)]) (cU e (((((s.lab.emit [q3 1 3 1 0]).jump 32 1 0 s.labs.length).emit [q3 10 3 2 1]).emit [q3 9 3 3 1]).place s.labs.length) (by simp only [bz,cd,bO,bL,List.length_singleton];omega) 2 1 2 3) l7 [0] [] [0] (fun _ _=>ac (bW () O J ff J [0] [] J J J))))))))))))))
theorem sQ(e:Ga)(s:Qg)(hz:s.sz≤900000)(bg:Nat)(bf n:Nat)(s1:Qg)(hz1:s1.sz≤910000)(hcb:Cb prog n)(hs:Spec prog n ([bg].map fun b=>Value.pointer (some ⟨b,0,none⟩)) [gA e s] [bj bg 104 [.pointer (some ⟨e.g,0,none⟩)]] (X:=Unit) (fun _=>True) (fun _=> .tuple #[]) (fun _=> [gA e s1]) (fun _=> [])):
  Spec prog 89 [.pointer (some ⟨bf,0,none⟩),.pointer (some ⟨bg,0,none⟩)] [gA e s] [bj bf 1 [ck n [bg]],bj bg 104 [.pointer (some ⟨e.g,0,none⟩)]] (X:=Unit) (fun _=>True) (fun _=> .tuple #[]) (fun _=> [gA e (s1.emit [qi 19 1 1 1])]) (fun _=> []):=by
 refine aI func89 J ntmps89 J fun w0 M H=>aj (aO (ah t1 J J (cI (k:=0) J J)) J (ak (xs:= []) hs hcb [0] [(false,1)] [0] (fun _ _=>ac (ap (aO (ah ke J J (cI (k:=1) J J)) J (ak (xs:= [.tmp 4,.const (.int .i64 19),.const (.int .i64 1),.const (.int .i64 1),.const (.int .u32 1)]) (cK e s1 (by omega) 19 1 1 1) iN [0] [] [0] (fun _ _=>ac (bW () O J ff J [0] [] J J J))))))))
theorem BF(e:Ga)(s:Qg)(hz:s.sz≤900000)(bg:Nat)(bo:Nat)(bf n:Nat)(s1:Qg)(hz1:s1.sz≤910000)(hcb:Cb prog n)(hs:Spec prog n ([bg,bo].map fun b=>Value.pointer (some ⟨b,0,none⟩)) [gA e s] [bj bg 104 [.pointer (some ⟨e.g,0,none⟩)],bj bo 3 [.int .i64 11]] (X:=Unit) (fun _=>True) (fun _=> .tuple #[]) (fun _=> [gA e s1]) (fun _=> [])):
  Spec prog 89 [.pointer (some ⟨bf,0,none⟩),.pointer (some ⟨bg,0,none⟩)] [gA e s] [bj bf 1 [ck n [bg,bo]],bj bg 104 [.pointer (some ⟨e.g,0,none⟩)],bj bo 3 [.int .i64 11]] (X:=Unit) (fun _=>True) (fun _=> .tuple #[]) (fun _=> [gA e (s1.emit [qi 19 1 1 1])]) (fun _=> []):=by
 refine aI func89 J ntmps89 J fun w0 M H=>aj (aO (ah t1 J J (cI (k:=0) J J)) J (ak (xs:= []) hs hcb [0] [(false,1),(false,2)] [0] (fun _ _=>ac (ap (aO (ah ke J J (cI (k:=1) J J)) J (ak (xs:= [.tmp 4,.const (.int .i64 19),.const (.int .i64 1),.const (.int .i64 1),.const (.int .u32 1)]) (cK e s1 (by omega) 19 1 1 1) iN [0] [] [0] (fun _ _=>ac (bW () O J ff J [0] [] J J J))))))))
structure Oq where
 m:Nat
 bg:Nat
 b0:Nat
 b1:Nat
 b2:Nat
 b3:Nat
 b4:Nat
 b5:Nat
 b6:Nat
 b7:Nat
 b8:Nat
 b9:Nat
 f0:Nat
 f1:Nat
 f2:Nat
def QM(c:Oq):List (ByteArray×Value):= [(jV,ck 93 [c.bg]),(jc,ck 91 [c.bg]),(lB,ck 89 [c.f2,c.bg]),(ly,ck 90 [c.bg]),(mE,ck 89 [c.f1,c.bg]),(lz,ck 89 [c.f0,c.bg]),(lA,ck 87 [c.bg]),(kv,ck 85 [c.bg,c.b8]),(fR,ck 85 [c.bg,c.b7]),(fB,ck 85 [c.bg,c.b6]),(em,ck 85 [c.bg,c.b5]),(iO,ck 85 [c.bg,c.b4]),(ed,ck 85 [c.bg,c.b3]),(fD,ck 85 [c.bg,c.b2]),(d7,ck 85 [c.bg,c.b1]),(e8,ck 85 [c.bg,c.b0])]
def Ml(g:Nat)(c:Oq):List Asn:= [mp fH Prod.fst Prod.snd (some c.m) (QM c),bj c.bg 104 [.pointer (some ⟨g,0,none⟩)],bj c.b0 3 [.int .i64 1],bj c.b1 3 [.int .i64 2],bj c.b2 3 [.int .i64 9],bj c.b3 3 [.int .i64 3],bj c.b4 3 [.int .i64 4],bj c.b5 3 [.int .i64 5],bj c.b6 3 [.int .i64 6],bj c.b7 3 [.int .i64 7],bj c.b8 3 [.int .i64 11],bj c.b9 3 [.int .i64 11],bj c.f0 1 [ck 87 [c.bg]],bj c.f1 1 [ck 85 [c.bg,c.b9]],bj c.f2 1 [ck 90 [c.bg]]]
theorem AllIn.stable{w w':World}{F:Nat→Prop}(hs:∀b,F b→w'.heap[b]?=w.heap[b]?):∀{L:List Asn},AllIn w F L→AllIn w' F L
 | [],_=>trivial
 | A::r,h=>⟨h.1.elim fun G hG=>⟨G,A.stable hG.1 fun b hb=>hs b (hG.2 b hb),hG.2⟩,AllIn.stable hs h.2⟩
theorem AllIn.get{w:World}{F:Nat→Prop}:∀{L:List Asn}{i:Nat}{A:Asn},AllIn w F L→L[i]?=some A→∃G:Nat→Prop,A.pred w G∧∀b,G b→F b
 | [],i,A,_,h=>by simp at h
 | B::r,0,A,h,hi=>by cases hi;exact h.1
 | B::r,i+1,A,h,hi=>AllIn.get h.2 hi
def gZ(g:Nat)(c:Oq):Asn:=⟨fun w F=>AllIn w F (Ml g c),fun h hs=>h.stable hs⟩
theorem CZ{g:Nat}{c:Oq}{A:Asn}(i:Nat)(h:(Ml g c)[i]?=some A):∀w G,(gZ g c).pred w G→(∀b,G b→b<w.heap.size)→∃G',A.pred w G'∧∀b,G' b→G b:=fun w G h2 _=>h2.get h
theorem JG{g:Nat}{c:Oq}:∀w F,AllIn w F (Ml g c)→(gZ g c).pred w F:=fun _ _ h=>h
theorem fL(bg:Nat)(op:Int):
  Spec prog 84 [.int .i64 op,.pointer (some ⟨bg,0,none⟩)] [] [] (X:=Nat) (fun _=>True) (fun b=>ck 85 [bg,b]) (fun b=> [bj b 3 [.int .i64 op]]) (fun _=> []):=by
 refine aI func84 J ntmps84 J fun w0 M H=>aj (tn J J J fun b2=>ai J J (aG J (aO (ec (first:= []) (cap:= [.tmp 1,.tmp 2]) J J) J (ai J J (ac (au (aH b2 O J (bE (aJ J)) J [2] [] J J J)))))))
theorem qR(bg:Nat)(n:Nat)(l:List Nat):
  Spec prog 88 [ck n l,.pointer (some ⟨bg,0,none⟩)] [] [] (X:=Nat) (fun _=>True) (fun b=>ck 89 [b,bg]) (fun b=> [bj b 1 [ck n l]]) (fun _=> []):=by
 refine aI func88 J ntmps88 J fun w0 M H=>aj (tn J J J fun b2=>ai J J (aG J (aO (ec (first:= []) (cap:= [.tmp 2,.tmp 1]) J J) J (ai J J (ac (au (aH b2 O J (bE (aJ J)) J [2] [] J J J)))))))
theorem CY(g:Nat):
  Spec prog 49 [.pointer (some ⟨g,0,none⟩)] [] [] (X:=Oq) (fun _=>True) (fun c=> .map (some c.m)) (fun c=> [gZ g c]) (fun _=> []):=by
 refine aI func49 J ntmps49 J fun w0 M H=>aj (tn J J J fun b1=>ai J J (aG J (aO (ec (first:= []) (cap:= [.tmp 1]) J J) J (ai J J (aG J (aO (ec (first:= []) (cap:= [.tmp 1]) J J) J (ai J J (aG J (aO (ec (first:= []) (cap:= [.tmp 1]) J J) J (ai J J ?_))))))))))
 refine aG J (aO (ec (first:= []) (cap:= [.tmp 1]) J J) J (ai J J (aG J (kK (Prod.fst:ByteArray×Value→ByteArray) fH Prod.snd J fun b11=>ad J J (ak (xs:= [.const (.int .i64 1)]) (fL b1 1) rQ [] [] [60] (fun p0 _=>cc (k:=11) (α:=ByteArray×Value) (kf:=Prod.fst) (vf:=Prod.snd) (e8,ck 85 [b1,p0]) [(e8,ck 85 [b1,p0])] underlying109 eg J J J J (List.Perm.of_eq J) (ad J J (ak (xs:= [.const (.int .i64 2)]) (fL b1 2) rQ [] [] [61] (fun p1 _=>cc (k:=11) (α:=ByteArray×Value) (kf:=Prod.fst) (vf:=Prod.snd) (d7,ck 85 [b1,p1]) [(d7,ck 85 [b1,p1]),(e8,ck 85 [b1,p0])] underlying109 eg J J J J (List.Perm.of_eq J) (ad J J (ak (xs:= [.const (.int .i64 9)]) (fL b1 9) rQ [] [] [62] (fun p2 _=>cc (k:=11) (α:=ByteArray×Value) (kf:=Prod.fst) (vf:=Prod.snd) (fD,ck 85 [b1,p2]) [(fD,ck 85 [b1,p2]),(d7,ck 85 [b1,p1]),(e8,ck 85 [b1,p0])] underlying109 eg J J J J (List.Perm.of_eq J) (ad J J (ak (xs:= [.const (.int .i64 3)]) (fL b1 3) rQ [] [] [63] (fun p3 _=> ?_)))))))))))))))
 refine cc (k:=11) (α:=ByteArray×Value) (kf:=Prod.fst) (vf:=Prod.snd) (ed,ck 85 [b1,p3]) [(ed,ck 85 [b1,p3]),(fD,ck 85 [b1,p2]),(d7,ck 85 [b1,p1]),(e8,ck 85 [b1,p0])] underlying109 eg J J J J (List.Perm.of_eq J) (ad J J (ak (xs:= [.const (.int .i64 4)]) (fL b1 4) rQ [] [] [64] (fun p4 _=>cc (k:=11) (α:=ByteArray×Value) (kf:=Prod.fst) (vf:=Prod.snd) (iO,ck 85 [b1,p4]) [(iO,ck 85 [b1,p4]),(ed,ck 85 [b1,p3]),(fD,ck 85 [b1,p2]),(d7,ck 85 [b1,p1]),(e8,ck 85 [b1,p0])] underlying109 eg J J J J (List.Perm.of_eq J) (ad J J (ak (xs:= [.const (.int .i64 5)]) (fL b1 5) rQ [] [] [65] (fun p5 _=>cc (k:=11) (α:=ByteArray×Value) (kf:=Prod.fst) (vf:=Prod.snd) (em,ck 85 [b1,p5]) [(em,ck 85 [b1,p5]),(iO,ck 85 [b1,p4]),(ed,ck 85 [b1,p3]),(fD,ck 85 [b1,p2]),(d7,ck 85 [b1,p1]),(e8,ck 85 [b1,p0])] underlying109 eg J J J J (List.Perm.of_eq J) (ad J J (ak (xs:= [.const (.int .i64 6)]) (fL b1 6) rQ [] [] [66] (fun p6 _=>cc (k:=11) (α:=ByteArray×Value) (kf:=Prod.fst) (vf:=Prod.snd) (fB,ck 85 [b1,p6]) [(fB,ck 85 [b1,p6]),(em,ck 85 [b1,p5]),(iO,ck 85 [b1,p4]),(ed,ck 85 [b1,p3]),(fD,ck 85 [b1,p2]),(d7,ck 85 [b1,p1]),(e8,ck 85 [b1,p0])] underlying109 eg J J J J (List.Perm.of_eq J) (ad J J (ak (xs:= [.const (.int .i64 7)]) (fL b1 7) rQ [] [] [67] (fun p7 _=>cc (k:=11) (α:=ByteArray×Value) (kf:=Prod.fst) (vf:=Prod.snd) (fR,ck 85 [b1,p7]) [(fR,ck 85 [b1,p7]),(fB,ck 85 [b1,p6]),(em,ck 85 [b1,p5]),(iO,ck 85 [b1,p4]),(ed,ck 85 [b1,p3]),(fD,ck 85 [b1,p2]),(d7,ck 85 [b1,p1]),(e8,ck 85 [b1,p0])] underlying109 eg J J J J (List.Perm.of_eq J) (ad J J (ak (xs:= [.const (.int .i64 11)]) (fL b1 11) rQ [] [] [68] (fun p8 _=>cc (k:=11) (α:=ByteArray×Value) (kf:=Prod.fst) (vf:=Prod.snd) (kv,ck 85 [b1,p8]) [(kv,ck 85 [b1,p8]),(fR,ck 85 [b1,p7]),(fB,ck 85 [b1,p6]),(em,ck 85 [b1,p5]),(iO,ck 85 [b1,p4]),(ed,ck 85 [b1,p3]),(fD,ck 85 [b1,p2]),(d7,ck 85 [b1,p1]),(e8,ck 85 [b1,p0])] underlying109 eg J J J J (List.Perm.of_eq J) ?_)))))))))))))))
 refine ad J J (cc (k:=11) (α:=ByteArray×Value) (kf:=Prod.fst) (vf:=Prod.snd) (lA,ck 87 [b1]) [(lA,ck 87 [b1]),(kv,ck 85 [b1,p8]),(fR,ck 85 [b1,p7]),(fB,ck 85 [b1,p6]),(em,ck 85 [b1,p5]),(iO,ck 85 [b1,p4]),(ed,ck 85 [b1,p3]),(fD,ck 85 [b1,p2]),(d7,ck 85 [b1,p1]),(e8,ck 85 [b1,p0])] underlying109 eg J J J J (List.Perm.of_eq J) (ad J J (ad J J (ak (xs:= [.tmp 32]) (qR b1 87 [b1]) KD [] [] [70] (fun q0 _=>cc (k:=11) (α:=ByteArray×Value) (kf:=Prod.fst) (vf:=Prod.snd) (lz,ck 89 [q0,b1]) [(lz,ck 89 [q0,b1]),(lA,ck 87 [b1]),(kv,ck 85 [b1,p8]),(fR,ck 85 [b1,p7]),(fB,ck 85 [b1,p6]),(em,ck 85 [b1,p5]),(iO,ck 85 [b1,p4]),(ed,ck 85 [b1,p3]),(fD,ck 85 [b1,p2]),(d7,ck 85 [b1,p1]),(e8,ck 85 [b1,p0])] underlying109 eg J J J J (List.Perm.of_eq J) (ad J J (ad J J (ak (xs:= [.const (.int .i64 11)]) (fL b1 11) rQ [] [] [69] (fun p9 _=>ak (xs:= [.tmp 36]) (qR b1 85 [b1,p9]) KD [] [] [71] (fun q1 _=>cc (k:=11) (α:=ByteArray×Value) (kf:=Prod.fst) (vf:=Prod.snd) (mE,ck 89 [q1,b1]) [(mE,ck 89 [q1,b1]),(lz,ck 89 [q0,b1]),(lA,ck 87 [b1]),(kv,ck 85 [b1,p8]),(fR,ck 85 [b1,p7]),(fB,ck 85 [b1,p6]),(em,ck 85 [b1,p5]),(iO,ck 85 [b1,p4]),(ed,ck 85 [b1,p3]),(fD,ck 85 [b1,p2]),(d7,ck 85 [b1,p1]),(e8,ck 85 [b1,p0])] underlying109 eg J J J J (List.Perm.of_eq J) (ad J J (cc (k:=11) (α:=ByteArray×Value) (kf:=Prod.fst) (vf:=Prod.snd) (ly,ck 90 [b1]) [(ly,ck 90 [b1]),(mE,ck 89 [q1,b1]),(lz,ck 89 [q0,b1]),(lA,ck 87 [b1]),(kv,ck 85 [b1,p8]),(fR,ck 85 [b1,p7]),(fB,ck 85 [b1,p6]),(em,ck 85 [b1,p5]),(iO,ck 85 [b1,p4]),(ed,ck 85 [b1,p3]),(fD,ck 85 [b1,p2]),(d7,ck 85 [b1,p1]),(e8,ck 85 [b1,p0])] underlying109 eg J J J J (List.Perm.of_eq J) (ad J J (ad J J (ak (xs:= [.tmp 40]) (qR b1 90 [b1]) KD [] [] [72] (fun q2 _=> ?_))))))))))))))))
 refine cc (k:=11) (α:=ByteArray×Value) (kf:=Prod.fst) (vf:=Prod.snd) (lB,ck 89 [q2,b1]) [(lB,ck 89 [q2,b1]),(ly,ck 90 [b1]),(mE,ck 89 [q1,b1]),(lz,ck 89 [q0,b1]),(lA,ck 87 [b1]),(kv,ck 85 [b1,p8]),(fR,ck 85 [b1,p7]),(fB,ck 85 [b1,p6]),(em,ck 85 [b1,p5]),(iO,ck 85 [b1,p4]),(ed,ck 85 [b1,p3]),(fD,ck 85 [b1,p2]),(d7,ck 85 [b1,p1]),(e8,ck 85 [b1,p0])] underlying109 eg J J J J (List.Perm.of_eq J) (aO (ec (first:= []) (cap:= [.tmp 1]) J J) J (cc (k:=11) (α:=ByteArray×Value) (kf:=Prod.fst) (vf:=Prod.snd) (jc,ck 91 [b1]) [(jc,ck 91 [b1]),(lB,ck 89 [q2,b1]),(ly,ck 90 [b1]),(mE,ck 89 [q1,b1]),(lz,ck 89 [q0,b1]),(lA,ck 87 [b1]),(kv,ck 85 [b1,p8]),(fR,ck 85 [b1,p7]),(fB,ck 85 [b1,p6]),(em,ck 85 [b1,p5]),(iO,ck 85 [b1,p4]),(ed,ck 85 [b1,p3]),(fD,ck 85 [b1,p2]),(d7,ck 85 [b1,p1]),(e8,ck 85 [b1,p0])] underlying109 eg J J J J (List.Perm.of_eq J) (aO (ec (first:= []) (cap:= [.tmp 1]) J J) J (cc (k:=11) (α:=ByteArray×Value) (kf:=Prod.fst) (vf:=Prod.snd) (jV,ck 93 [b1]) [(jV,ck 93 [b1]),(jc,ck 91 [b1]),(lB,ck 89 [q2,b1]),(ly,ck 90 [b1]),(mE,ck 89 [q1,b1]),(lz,ck 89 [q0,b1]),(lA,ck 87 [b1]),(kv,ck 85 [b1,p8]),(fR,ck 85 [b1,p7]),(fB,ck 85 [b1,p6]),(em,ck 85 [b1,p5]),(iO,ck 85 [b1,p4]),(ed,ck 85 [b1,p3]),(fD,ck 85 [b1,p2]),(d7,ck 85 [b1,p1]),(e8,ck 85 [b1,p0])] underlying109 eg J J J J (List.Perm.of_eq J) (ad J J (ai J J (ac (au (bQ 90 [11,1,60,61,62,63,64,65,66,67,68,69,70,71,72] (L:=Ml g ⟨b11,b1,p0,p1,p2,p3,p4,p5,p6,p7,p8,p9,q0,q1,q2⟩) (C:=gZ g ⟨b11,b1,p0,p1,p2,p3,p4,p5,p6,p7,p8,p9,q0,q1,q2⟩) J JG (aH ⟨b11,b1,p0,p1,p2,p3,p4,p5,p6,p7,p8,p9,q0,q1,q2⟩ O J (bE (aJ J)) J [90] [] J J J))))))))))
def wC(z n:Int):Int:=IntKind.u32.wrap (IntKind.i32.wrap (wU (n*2^(32-z).toNat))/2^(32-z).toNat)
theorem Co{n:Int}(h:0≤n∧n<4294967296):decide (wC 18 n=n)=gV n:=by
 unfold wC gV wU;rw [show((32:Int)-18).toNat=14 from J,←Bool.decide_or];simp only [IntKind.wrap_u32,IntKind.wrap_i32];refine decide_eq_decide.2 ?_;omega
theorem Jc{α:Type}{b o n:Nat}{S:TypeId}{c:List Value}{enc:α→List Value}{s:Nat}{l:List α}(hl:l.length=n)(hn:n≤maxLen)(hc:(c.drop o).take (l.flatMap enc).length=l.flatMap enc):∀w G,(bj b S c).pred w G→(sl s enc (sv ⟨some ⟨b,o,none⟩,n,n⟩) l).pred w G:=fun w G h=>by
 refine⟨n,by omega,hn,.inr ⟨b,o,by rw [hl];rfl,(h.1 b).2 rfl,fun j u hj=> ?_⟩⟩;simp only [World.cell?,h.2];rw [←hc,List.getElem?_take]at hj;split at hj
 ·rw [List.getElem?_drop]at hj;simpa using hj
 ·simp at hj
theorem N9{b:Int}(hb:0≤b∧b<4294967296):bits .and .u32 b 1023=b%1024:=by
 have h1:bits .and .u32 b 1023=IntKind.u32.wrap (((BitVec.ofInt 32 b&&&BitVec.ofInt 32 1023).toNat:Nat):Int):=J;have h2:(BitVec.ofInt 32 b).toNat=b.toNat:=by
  rw [BitVec.toNat_ofInt,Int.emod_eq_of_lt hb.1 (by omega)]
 have h3:(BitVec.ofInt 32 1023).toNat=2^10-1:=by decide
 rw [h1,BitVec.toNat_and,h2,h3,Nat.and_two_pow_sub_one_eq_mod,bK (by omega) (by omega)];omega
theorem N8{b:Int}(hb:0≤b∧b<4294967296):bits .and .u32 b 262143=b%262144:=by
 have h1:bits .and .u32 b 262143=IntKind.u32.wrap (((BitVec.ofInt 32 b&&&BitVec.ofInt 32 262143).toNat:Nat):Int):=J;have h2:(BitVec.ofInt 32 b).toNat=b.toNat:=by
  rw [BitVec.toNat_ofInt,Int.emod_eq_of_lt hb.1 (by omega)]
 have h3:(BitVec.ofInt 32 262143).toNat=2^18-1:=by decide
 rw [h1,BitVec.toNat_and,h2,h3,Nat.and_two_pow_sub_one_eq_mod,bK (by omega) (by omega)];omega
theorem N7{b:Int}(hb:0≤b∧b<4294967296):bits .and .u32 b 4194303=b%4194304:=by
 have h1:bits .and .u32 b 4194303=IntKind.u32.wrap (((BitVec.ofInt 32 b&&&BitVec.ofInt 32 4194303).toNat:Nat):Int):=J;have h2:(BitVec.ofInt 32 b).toNat=b.toNat:=by
  rw [BitVec.toNat_ofInt,Int.emod_eq_of_lt hb.1 (by omega)]
 have h3:(BitVec.ofInt 32 4194303).toNat=2^22-1:=by decide
 rw [h1,BitVec.toNat_and,h2,h3,Nat.and_two_pow_sub_one_eq_mod,bK (by omega) (by omega)];omega
theorem AR(n z:Int)(hn:0≤n∧n<4294967296)(hz:z=18∨z=22):
  Spec prog 204 [.int .u32 n,.int .i64 z] [] [] (X:=Unit) (fun _=>True) (fun _=> .int .u32 (wC z n)) (fun _=> []) (fun _=> []):=by
 refine aI func204 J ntmps204 J fun w0 M H=>aj (ai J J (ac (a_ (aB (aj (ad J J (ar J J ci J (ai J J (ac (ae J (fun h1=> ?_) (fun h1=> ?_)))))))))))
 ·exact absurd h1 (by simp;omega)
 ·(try simp only [be]at h1)
  refine aj (ad J J (ar J J fe J (ai J J (ac (ae J (fun h2=> ?_) (fun h2=> ?_))))))
  ·exact absurd h2 (by simp;omega)
  ·(try simp only [be]at h2)
   refine ax (aj (ad J J (ad J J (ar J J (fX (by first|exact bc (by omega) (by omega)|rfl)) J (ar J J (gj (by omega) (by first|decide|(simp [IntKind.bits];omega)) J) J (aO (bX underlying41 underlying21 J (by first|exact BZ (by omega) (by omega)|rfl)) J (ad J J (ar J J (fX (by first|exact bc (by omega) (by omega)|rfl)) J (ar J J (m7 (by omega) (by first|decide|(simp [IntKind.bits];omega)) J) J (aO (bX underlying21 underlying41 J (by first|exact bK (by omega) (by omega)|rfl)) J (ai J J (ac (au (aH () O J (bE (aJ J)) J [] [] J J J))))))))))))))
theorem sE(n z:Int)(hn:0≤n∧n<4294967296)(hz:z=18∨z=22):
  Spec prog 190 [.int .u32 n,.int .i64 z] [] [] (X:=Unit) (fun _=>True) (fun _=> .bool (decide (wC z n=n))) (fun _=> []) (fun _=> []):=by
 refine aI func190 J ntmps190 J fun w0 M H=>aj (ai J J (aG J (ad J J (ad J J (ak (xs:= [.tmp 5,.tmp 6]) (AR n z hn hz) Ne [] [] [] (fun _ _=>ad J J (ar J J aY J (ai J J (ac (au (aH () O J (bE (aJ J)) J [] [] J J J)))))))))))
theorem yi(d n:Int)(hn:0≤n∧n<4294967296):
  Spec prog 203 [.int .i64 d,.int .u32 n] [] [] (X:=Unit) (fun _=>True) (fun _=> .agg (gL (qi 41 d 0 (n/1024))++gL (qi 18 d d (n%1024))).toArray) (fun _=> []) (fun _=> []):=by
 refine aI func203 J ntmps203 J fun w0 M H=>aj (aZ AI J J fun b4=>aG J (ad J J (ad J J (ar J J (m7 (by decide) (by decide) (show n/2^(10:Int).toNat=n/1024 from J)) J (aO (aV (parts:= [(0,.const (.int .i64 41)),(1,.tmp 5),(4,.tmp 7)]) ew lw J J) J (ad J J (ad J J (ad J J (ar J J (lE (N9 hn)) J (aO (aV (parts:= [(0,.const (.int .i64 18)),(1,.tmp 9),(2,.tmp 10),(4,.tmp 12)]) ew lw J J) J (aO (CW (D:= .bool) (vs:= [(0,.agg (gL (qi 41 d 0 (n/1024))).toArray),(1,.agg (gL (qi 18 d d (n%1024))).toArray)]) (cs:=(gL (qi 41 d 0 (n/1024))++gL (qi 18 d d (n%1024))).toArray) (parts:= [(0,.tmp 8),(1,.tmp 13)]) AI ew J (by kernel_rfl)) J (aq (k:=4) AI J J J J J J (ac (au ?_))))))))))))))
 refine aH () O J (bE (bh AI J J J (aX (k:=4) J))) J [] [] J J J
theorem C1(e:Ga)(s:Qg)(hz:s.sz≤900000)(n:Int)(hn:0≤n∧n<4294967296):
  Spec prog 189 [.pointer (some ⟨e.g,0,none⟩),.int .u32 n] [gA e s] [] (X:=Unit) (fun _=>True) (fun _=> .tuple #[]) (fun _=> [gA e (qp n s)]) (fun _=> []):=by
 refine aI func189 J ntmps189 J fun w0 M H=>aS (ad J J (ak (xs:= [.tmp 5,.const (.int .i64 18)]) (sE n 18 hn (.inl J)) Iq [] [] [] (fun _ _=>ac (ae J (fun h1=> ?_) (fun h1=> ?_)))))
 ·have hf:gV n=true:=by rw [←Co hn];exact h1
  rw [show qp n s=s.emit [qi 16 1 0 n]from if_pos hf];refine aj (ad J J (ad J J (ak (xs:= [.tmp 7,.const (.int .i64 16),.const (.int .i64 1),.const (.int .i64 0),.tmp 8]) (cK e s (by omega) 16 1 0 n) iN [0] [] [0] (fun _ _=>ac (au (aH () O J ff J [0] [] J J J))))))
 ·have hf:gV n=false:=by rw [←Co hn];exact h1
  rw [show qp n s=s.emit [qi 41 1 0 (n/1024),qi 18 1 1 (n%1024)]from if_neg (by rw [hf];simp)];refine ax (aj (ad J J (ak (xs:= [.const (.int .i64 1),.tmp 10]) (yi 1 n hn) Nf [] [] [] (fun _ _=>aZ AI J J fun b4=>aq (k:=4) AI J J J J J J (ac (ap (ad J J (aO (n8 underlying281 ew J (by decide)) J (cf 4 7 J (Jc (o:=0) (n:=2) (s:=5) (enc:=gL) (l:= [qi 41 1 0 (n/1024),qi 18 1 1 (n%1024)]) J (by decide) J) (ak (xs:= [.tmp 12,.tmp 13]) (gp e s (by omega) ⟨some ⟨b4,0,none⟩,2,2⟩ [qi 41 1 0 (n/1024),qi 18 1 1 (n%1024)] (by simp)) wm [0] [(false,7)] [0] (fun _ _=>ac (bW () O J ff J [0] [] J J J))))))))))))
structure Sh where
 k:Bool
 d:Bool
 a:Bool
 b:Bool
 kd:Int
 bt:Int
 mo:Int
deriving DecidableEq
def ng:Sh:=⟨false,false,false,false,0,0,0⟩
def nN(s:Sh):List Value:= [.bool s.k,.bool s.d,.bool s.a,.bool s.b,.int .i64 s.kd,.int .i64 s.bt,.int .u32 s.mo]
def l8(l:List Sh):List Value:=l.flatMap nN
theorem s_:∀l:List Sh,(l8 l).length=l.length*7
 | []=>rfl
 | a::r=>by
  show(nN a++l8 r).length=_;rw [List.length_append,s_ r,List.length_cons,show(nN a).length=7 from J];omega
theorem yP:∀(l:List Sh)(j:Nat)(x:Sh),l[j]?=some x→((l8 l).drop (j*7)).take 7=nN x
 | [],j,x,h=>by simp at h
 | a::r,0,x,h=>by cases h;rfl
 | a::r,j+1,x,h=>by
  show((nN a++l8 r).drop ((j+1)*7)).take 7=_;rw [show(j+1)*7=(nN a).length+j*7 by rw [show(nN a).length=7 from J];omega,List.drop_append,List.drop_eq_nil_of_le (by omega),List.nil_append,Nat.add_sub_cancel_left];exact yP r j x h
theorem yN:∀(l:List Sh)(j:Nat)(x:Sh),j<l.length→(l8 l).take (j*7)++nN x++(l8 l).drop (j*7+7)=l8 (l.set j x)
 | [],j,x,h=>absurd h (Nat.not_lt_zero _)
 | a::r,0,x,h=>by
  show(l8 (a::r)).take 0++nN x++(nN a++l8 r).drop 7=nN x++l8 r;rfl
 | a::r,j+1,x,h=>by
  have ih:=yN r j x (Nat.lt_of_succ_lt_succ h);show(nN a++l8 r).take ((j+1)*7)++nN x++(nN a++l8 r).drop ((j+1)*7+7)=nN a++l8 (r.set j x);have e7:(nN a).length=7:=J;rw [show(j+1)*7=(nN a).length+j*7 by omega,List.take_append,List.take_of_length_le (by omega),Nat.add_sub_cancel_left,show(nN a).length+j*7+7=(nN a).length+(j*7+7) by omega,List.drop_append,List.drop_eq_nil_of_le (by omega),List.nil_append,Nat.add_sub_cancel_left,←ih];simp only [List.append_assoc]
def bP(s:Sh):List Sh→List Int→List Sh
 | l,[]=>l
 | l,o::r=>bP s (l.set o.toNat {s with k:=true}) r
theorem dh(s:Sh):∀(l:List Sh)(r:List Int),(bP s l r).length=l.length
 | l,[]=>rfl
 | l,o::r=>by unfold bP;rw [dh s _ r,List.length_set]
theorem kJ(s:Sh):∀(l:List Sh)(a b:List Int),bP s l (a++b)=bP s (bP s l a) b
 | l,[],b=>rfl
 | l,o::a,b=>kJ s _ a b
def mN(lo n:Nat):List Int:=(List.range n).map fun i=>((lo+i:Nat):Int)
theorem vA(lo n:Nat):mN lo (n+1)=mN lo n++ [((lo+n:Nat):Int)]:=by
 unfold mN;rw [List.range_succ,List.map_append];rfl
def w8:Sh:=⟨false,true,true,true,0,0,0⟩
def qX:Sh:=⟨false,true,true,false,1,18,0⟩
def EX:Sh:=⟨false,true,true,false,2,18,0⟩
def shL:List Sh:=
 bP ⟨false,false,true,false,2,18,4⟩ (bP ⟨false,true,false,false,2,18,3⟩ (bP ⟨false,false,true,false,0,0,0⟩ (bP ng (bP ⟨false,false,false,false,2,18,0⟩ (bP ⟨false,true,false,false,2,22,0⟩ (bP ⟨false,true,false,false,1,22,0⟩
  (bP qX (bP EX (bP qX (bP w8 (List.replicate 64 ng) (mN 1 12)) (mN 16 12)) [17,18,19]) [32,33,34,35,36,37]) [40]) [41]) [48]) [49,50,51]) [52]) [53]) [54]
def cG(op:Int):Sh:=if 0≤op∧op<64 then shL.getD op.toNat ng else ng
theorem wW:TI prog 253 (.array 64 219) (.agg (l8 (List.replicate 64 ng)).toArray) 448 2048:=⟨underlying253,by kernel_rfl⟩
def fk(n:Int)(u:Bool):Bool:=decide (n=0) || (u&&decide (n>0)&&decide (n<16))
def jz(s:Sh)(n:Int):Bool:=if s.kd=0 then decide (n=0)else if s.kd=1 then decide (wC s.bt n=n)else if s.mo>0 then decide (n≤s.mo)else decide (n/2^s.bt.toNat=0)
def oj(i:Qi):Bool:=(cG i.op).k&&fk i.d (cG i.op).d&&fk i.a (cG i.op).a&&fk i.b (cG i.op).b&&jz (cG i.op) i.imm
theorem dP(ba:Nat)(s:Sh)(v:SV)(ops:List Int)(l:List Sh)(hb:∀o∈ops,0≤o∧o<64)(hl:l.length=64)(hol:ops.length≤100):
  Spec prog 191 [.agg (nN s).toArray,sv v,.pointer (some ⟨ba,0,none⟩)] [bj ba 253 (l8 l)] [sl 1 eI (sv v) ops] (X:=Unit) (fun _=>True) (fun _=> .tuple #[]) (fun _=> [bj ba 253 (l8 (bP s l ops))]) (fun _=> []):=by
 refine aI func191 J ntmps191 J fun w0 M H=>aj (bU J J fun b3=>aG J (az zO J J (aK (k:=3) t4 J J J J J J J J (aG J (ad J J (aO (aU underlying22 J (aN (k:=0) J)) J (ad J J (ac (aB (bv (X:=Nat) (fun i=>i≤ops.length) (fun i=> [(2,.pointer (some ⟨ba,0,none⟩)),(3,.pointer (some ⟨b3,0,none⟩)),(8,sv v),(9,.int .i64 (ops.length:Int)),(10,.int .i64 (i:Int))]) (fun i=> [(0,bj ba 253 (l8 (bP s l (ops.take i)))),(3,bj b3 219 (nN {s with k:=true}))]) (fun i=> [(0,sl 1 eI (sv v) ops)]) (fun i=>ops.length-i) 0 (Nat.zero_le _) J J J (fun i n1=>aj ?_)))))))))))
 refine ar J J ci J (ac (a_ (ae J (fun h1=> ?_) (fun h1=> ?_))))
 ·(try simp only [be]at h1)
  have hi:i<ops.length:=by omega
  obtain⟨o,hx⟩:∃o,ops[i]?=some o:=⟨_,List.getElem?_eq_getElem hi⟩
  have ho:=hb o (List.mem_of_getElem? hx);refine ax (a_ (aB (aj (aO (aR (j:=i) underlying22 t3 J J (aN (k:=0) J) (by first|rfl|omega) (by first|omega|(simp;done)|(simp;omega))) J (aO (ah t3 J J (bD (aN (k:=0) J) (by intro _;rfl) hx (by rfl))) J (ai J J (ac (ap (ad J J (aO (aL gO J J J (aX (k:=3) J)) J (aO (cO (j:=o.toNat) underlying253 gO J J (by omega) (by omega)) J ?_)))))))))));refine aK (k:=0) (us:=nN {s with k:=true}) (c':=l8 ((bP s l (ops.take i)).set o.toNat {s with k:=true})) gO J J J J J J (by rw [s_,dh,hl,show(nN {s with k:=true}).length=7 from J,Nat.ble_eq];omega) (by rw [show(0:Nat)+o.toNat*7=o.toNat*7 by omega];exact yN _ _ {s with k:=true} (by rw [dh,hl];omega)) ?_;refine ac (ap (ar J J (bi (by first|exact bc (by omega) (by omega)|rfl)) J (ad J J (ac ?_))));refine aM (i+1) ⟨by omega,by omega⟩ J (by rw [bT hx,kJ];rfl) J
 ·(try simp only [be]at h1)
  have hi:i=ops.length:=by omega
  subst hi;refine bx (bW () O J ff J [0] [] J (by rw [List.take_length];rfl) J)
theorem uJ:
  Spec prog 171 [] [] [] (X:=Unit) (fun _=>True) (fun _=> .agg (l8 shL).toArray) (fun _=> []) (fun _=> []):=by
 refine aI func171 J ntmps171 J fun w0 M H=>aj (aZ wW (c:=l8 (List.replicate 64 ng)) (by kernel_rfl) J fun b0=>aG J (aZ wW (c:=l8 (List.replicate 64 ng)) (by kernel_rfl) J fun b1=>aG J (aO (ec (first:= []) (cap:= [.tmp 1]) J J) J (ai J J (ac (aS (ai J J (ac (aB ?_)))))))))
 refine bv (X:=Nat) (fun i=>i≤12) (fun i=> [(0,.pointer (some ⟨b0,0,none⟩)),(1,.pointer (some ⟨b1,0,none⟩)),(2,.func (.func 191) #[] #[.pointer (some ⟨b1,0,none⟩)]),(3,.int .i64 ((1+i:Nat):Int))]) (fun i=> [(0,bj b0 253 (l8 (List.replicate 64 ng))),(1,bj b1 253 (l8 (bP w8 (List.replicate 64 ng) (mN 1 i))))]) (fun i=> []) (fun i=>12-i) 0 (Nat.zero_le _) J J J (fun i n1=>aS (ad J J (ar J J jl J (ac (ae J (fun h1=> ?_) (fun h1=> ?_))))))
 ·(try simp only [be]at h1)
  have hi:i<12:=by omega
  refine ax (a_ (aB (ap (ad J J (aO (aV (parts:= [(1,.const (.bool Bool.true)),(2,.const (.bool Bool.true)),(3,.const (.bool Bool.true))]) gO jQ J J) J (ad J J (bA eI ((1+i:Nat):Int) underlying22 t3 J (by decide) (by decide) J J J J fun v13=>cf 13 9 J bB (ak (xs:= [.tmp 11,.tmp 13]) (dP b1 w8 v13 [((1+i:Nat):Int)] (bP w8 (List.replicate 64 ng) (mN 1 i)) (by intro o ho;rw [List.mem_singleton.1 ho];omega) (by simp only [dh,List.length_replicate]) (by simp)) kE [1] [(false,9)] [1] (fun _ _=>ac (ap (ad J J (ar J J (bi (c:=((1+(i+1):Nat):Int)) (by rw [bc (by omega) (by omega)];omega)) J (ai J J (ac ?_))))))))))))));refine aM (i+1) ⟨by omega,by omega⟩ J (by rw [vA 1 i,kJ];rfl) J
 ·(try simp only [be]at h1)
  have hi:i=12:=by omega
  subst hi;refine bx (aS (ai J J (ac (aB (bv (X:=Nat) (fun i=>i≤12) (fun i=> [(0,.pointer (some ⟨b0,0,none⟩)),(1,.pointer (some ⟨b1,0,none⟩)),(2,.func (.func 191) #[] #[.pointer (some ⟨b1,0,none⟩)]),(4,.int .i64 ((16+i:Nat):Int))]) (fun i=> [(0,bj b0 253 (l8 (List.replicate 64 ng))),(1,bj b1 253 (l8 (bP qX (bP w8 (List.replicate 64 ng) (mN 1 12)) (mN 16 i))))]) (fun i=> []) (fun i=>12-i) 0 (Nat.zero_le _) J J J (fun i n1=>aS (ad J J (ar J J jl J (ac (ae J (fun h2=> ?_) (fun h2=> ?_)))))))))))
  ·(try simp only [be]at h2)
   have hi:i<12:=by omega
   refine ax (a_ (aB (ap (ad J J (aO (aV (parts:= [(1,.const (.bool Bool.true)),(2,.const (.bool Bool.true)),(4,.const (.int .i64 1)),(5,.const (.int .i64 18))]) gO jQ J J) J (ad J J (bA eI ((16+i:Nat):Int) underlying22 t3 J (by decide) (by decide) J J J J fun v22=>cf 22 9 J bB (ak (xs:= [.tmp 20,.tmp 22]) (dP b1 qX v22 [((16+i:Nat):Int)] (bP qX (bP w8 (List.replicate 64 ng) (mN 1 12)) (mN 16 i)) (by intro o ho;rw [List.mem_singleton.1 ho];omega) (by simp only [dh,List.length_replicate]) (by simp)) kE [1] [(false,9)] [1] (fun _ _=>ac (ap (ad J J (ar J J (bi (c:=((16+(i+1):Nat):Int)) (by rw [bc (by omega) (by omega)];omega)) J (ai J J (ac ?_))))))))))))));refine aM (i+1) ⟨by omega,by omega⟩ J (by rw [vA 16 i,kJ];rfl) J
  ·(try simp only [be]at h2)
   have hi:i=12:=by omega
   subst hi;refine bx (aj (ad J J (aO (aV (parts:= [(1,.const (.bool Bool.true)),(2,.const (.bool Bool.true)),(4,.const (.int .i64 2)),(5,.const (.int .i64 18))]) gO jQ J J) J (cD eI [17,18,19] (parts:= [(0,.const (.int .i64 17)),(1,.const (.int .i64 18)),(2,.const (.int .i64 19))]) underlying22 t3 J (by decide) (by intro _;rfl) J (by decide) (by decide) J J J J fun v26=>cf 26 9 J bB (ak (xs:= [.tmp 25,.tmp 26]) (dP b1 EX v26 [17,18,19] (bP qX (bP w8 (List.replicate 64 ng) (mN 1 12)) (mN 16 12)) (by decide) (by simp only [dh,List.length_replicate]) (by decide)) kE [1] [(false,9)] [1] (fun _ _=>aG J (ad J J (aO (aV (parts:= [(1,.const (.bool Bool.true)),(2,.const (.bool Bool.true)),(4,.const (.int .i64 1)),(5,.const (.int .i64 18))]) gO jQ J J) J (cD eI [32,33,34,35,36,37] (parts:= [(0,.const (.int .i64 32)),(1,.const (.int .i64 33)),(2,.const (.int .i64 34)),(3,.const (.int .i64 35)),(4,.const (.int .i64 36)),(5,.const (.int .i64 37))]) underlying22 t3 J (by decide) (by intro _;rfl) J (by decide) (by decide) J J J J fun v30=>cf 30 9 J bB (ak (xs:= [.tmp 29,.tmp 30]) (dP b1 qX v30 [32,33,34,35,36,37] (bP EX (bP qX (bP w8 (List.replicate 64 ng) (mN 1 12)) (mN 16 12)) [17,18,19]) (by decide) (by simp only [dh,List.length_replicate]) (by decide)) kE [1] [(false,9)] [1] (fun _ _=>aG J (ad J J ?_))))))))))))
   refine aO (aV (parts:= [(1,.const (.bool Bool.true)),(4,.const (.int .i64 1)),(5,.const (.int .i64 22))]) gO jQ J J) J (bA eI 40 underlying22 t3 J (by decide) (by decide) J J J J fun v34=>cf 34 9 J bB (ak (xs:= [.tmp 33,.tmp 34]) (dP b1 ⟨false,true,false,false,1,22,0⟩ v34 [40] (bP qX (bP EX (bP qX (bP w8 (List.replicate 64 ng) (mN 1 12)) (mN 16 12)) [17,18,19]) [32,33,34,35,36,37]) (by decide) (by simp only [dh,List.length_replicate]) (by decide)) kE [1] [(false,9)] [1] (fun _ _=>aG J (ad J J (aO (aV (parts:= [(1,.const (.bool Bool.true)),(4,.const (.int .i64 2)),(5,.const (.int .i64 22))]) gO jQ J J) J (bA eI 41 underlying22 t3 J (by decide) (by decide) J J J J fun v38=>cf 38 9 J bB (ak (xs:= [.tmp 37,.tmp 38]) (dP b1 ⟨false,true,false,false,2,22,0⟩ v38 [41] (bP ⟨false,true,false,false,1,22,0⟩ (bP qX (bP EX (bP qX (bP w8 (List.replicate 64 ng) (mN 1 12)) (mN 16 12)) [17,18,19]) [32,33,34,35,36,37]) [40]) (by decide) (by simp only [dh,List.length_replicate]) (by decide)) kE [1] [(false,9)] [1] (fun _ _=>aG J (ad J J (aO (aV (parts:= [(4,.const (.int .i64 2)),(5,.const (.int .i64 18))]) gO jQ J J) J (bA eI 48 underlying22 t3 J (by decide) (by decide) J J J J fun v42=>cf 42 9 J bB (ak (xs:= [.tmp 41,.tmp 42]) (dP b1 ⟨false,false,false,false,2,18,0⟩ v42 [48] (bP ⟨false,true,false,false,2,22,0⟩ (bP ⟨false,true,false,false,1,22,0⟩ (bP qX (bP EX (bP qX (bP w8 (List.replicate 64 ng) (mN 1 12)) (mN 16 12)) [17,18,19]) [32,33,34,35,36,37]) [40]) [41]) (by decide) (by simp only [dh,List.length_replicate]) (by decide)) kE [1] [(false,9)] [1] (fun _ _=> ?_)))))))))))))
   refine aG J (ad J J (aO (aV (parts:= []) gO jQ J J) J (cD eI [49,50,51] (parts:= [(0,.const (.int .i64 49)),(1,.const (.int .i64 50)),(2,.const (.int .i64 51))]) underlying22 t3 J (by decide) (by intro _;rfl) J (by decide) (by decide) J J J J fun v46=>cf 46 9 J bB (ak (xs:= [.tmp 45,.tmp 46]) (dP b1 ng v46 [49,50,51] (bP ⟨false,false,false,false,2,18,0⟩ (bP ⟨false,true,false,false,2,22,0⟩ (bP ⟨false,true,false,false,1,22,0⟩ (bP qX (bP EX (bP qX (bP w8 (List.replicate 64 ng) (mN 1 12)) (mN 16 12)) [17,18,19]) [32,33,34,35,36,37]) [40]) [41]) [48]) (by decide) (by simp only [dh,List.length_replicate]) (by decide)) kE [1] [(false,9)] [1] (fun _ _=>aG J (ad J J (aO (aV (parts:= [(2,.const (.bool Bool.true))]) gO jQ J J) J (bA eI 52 underlying22 t3 J (by decide) (by decide) J J J J fun v50=>cf 50 9 J bB (ak (xs:= [.tmp 49,.tmp 50]) (dP b1 ⟨false,false,true,false,0,0,0⟩ v50 [52] (bP ng (bP ⟨false,false,false,false,2,18,0⟩ (bP ⟨false,true,false,false,2,22,0⟩ (bP ⟨false,true,false,false,1,22,0⟩ (bP qX (bP EX (bP qX (bP w8 (List.replicate 64 ng) (mN 1 12)) (mN 16 12)) [17,18,19]) [32,33,34,35,36,37]) [40]) [41]) [48]) [49,50,51]) (by decide) (by simp only [dh,List.length_replicate]) (by decide)) kE [1] [(false,9)] [1] (fun _ _=>aG J (ad J J ?_)))))))))))
   refine aO (aV (parts:= [(1,.const (.bool Bool.true)),(4,.const (.int .i64 2)),(5,.const (.int .i64 18)),(6,.const (.int .u32 3))]) gO jQ J J) J (bA eI 53 underlying22 t3 J (by decide) (by decide) J J J J fun v54=>cf 54 9 J bB (ak (xs:= [.tmp 53,.tmp 54]) (dP b1 ⟨false,true,false,false,2,18,3⟩ v54 [53] (bP ⟨false,false,true,false,0,0,0⟩ (bP ng (bP ⟨false,false,false,false,2,18,0⟩ (bP ⟨false,true,false,false,2,22,0⟩ (bP ⟨false,true,false,false,1,22,0⟩ (bP qX (bP EX (bP qX (bP w8 (List.replicate 64 ng) (mN 1 12)) (mN 16 12)) [17,18,19]) [32,33,34,35,36,37]) [40]) [41]) [48]) [49,50,51]) [52]) (by decide) (by simp only [dh,List.length_replicate]) (by decide)) kE [1] [(false,9)] [1] (fun _ _=>aG J (ad J J (aO (aV (parts:= [(2,.const (.bool Bool.true)),(4,.const (.int .i64 2)),(5,.const (.int .i64 18)),(6,.const (.int .u32 4))]) gO jQ J J) J (bA eI 54 underlying22 t3 J (by decide) (by decide) J J J J fun v58=>cf 58 9 J bB (ak (xs:= [.tmp 57,.tmp 58]) (dP b1 ⟨false,false,true,false,2,18,4⟩ v58 [54] (bP ⟨false,true,false,false,2,18,3⟩ (bP ⟨false,false,true,false,0,0,0⟩ (bP ng (bP ⟨false,false,false,false,2,18,0⟩ (bP ⟨false,true,false,false,2,22,0⟩ (bP ⟨false,true,false,false,1,22,0⟩ (bP qX (bP EX (bP qX (bP w8 (List.replicate 64 ng) (mN 1 12)) (mN 16 12)) [17,18,19]) [32,33,34,35,36,37]) [40]) [41]) [48]) [49,50,51]) [52]) [53]) (by decide) (by simp only [dh,List.length_replicate]) (by decide)) kE [1] [(false,9)] [1] (fun _ _=>aG J (aO (aL wW J J (by rw [s_];simp only [dh,List.length_replicate]) (aX (k:=1) J)) J (aK (k:=0) (us:=l8 shL) (c':=l8 shL) wW J J (by kernel_rfl) (by kernel_rfl) (by kernel_rfl) J (by kernel_rfl) (by kernel_rfl) (ac (au (aH () O J (bE (bh wW J J (by kernel_rfl) (aX (k:=0) J))) J [] [] J J J)))))))))))))
theorem r5(op:Int):
  Spec prog 132 [.int .i64 op] [] [] (X:=Unit) (fun _=>True) (fun _=> .agg (nN (cG op)).toArray) (fun _=> []) (fun _=> []):=by
 refine aI func132 J ntmps132 J fun w0 M H=>aj (aZ gO J J fun b2=>aG J (ak (xs:= []) uJ Nu [] [] [] (fun _ _=>aZ wW (c:=l8 (List.replicate 64 ng)) (by kernel_rfl) J fun b3=>aK (k:=3) (us:=l8 shL) (c':=l8 shL) wW J J (by kernel_rfl) (by kernel_rfl) (by kernel_rfl) J (by kernel_rfl) (by kernel_rfl) (ac (aS (ad J J (ar J J ci J (ad J J (aA [] J J O (fun hg1=>am J) J (aA [(8,_)] J J ⟨J,O⟩ (fun hg2=>aT J J fe) J (aO (aQ J J J (by first|exact av|exact aC|rfl)) J ?_)))))))))))
 refine ac (ae J (fun h3=> ?_) (fun h3=> ?_))
 ·(try simp only [be]at h3)
  have hg:cG op=ng:=if_neg (by omega);rw [hg];refine aj (aO (aV (parts:= []) gO jQ J J) J (aq (k:=2) gO J J J J J J (ac (au (aH () O J (bE (bh gO J J J (aX (k:=2) J))) J [] [] J J J)))))
 ·(try simp only [be]at h3)
  have hn:0≤op∧op<64:=by omega
  have hg:shL[op.toNat]?=some (cG op):=by
   have hl:shL.length=64:=by decide
   unfold cG;rw [if_pos hn,List.getD_eq_getElem?_getD,List.getElem?_eq_getElem (by omega)];rfl
  refine ax (aj (ad J J (aO (cO (j:=op.toNat) underlying253 gO J J (by omega) (by omega)) J ?_)));refine aO (aL gO J J J (jg (us:=nN (cG op)) (k:=3) J (by rw [show(0:Nat)+op.toNat*7=op.toNat*7 by omega,show(nN (cG op)).length=7 from rfl];exact yP shL _ _ hg))) J ?_;refine aq (k:=2) gO J J J J J J (ac (au (aH () O J (bE (bh gO J J J (aX (k:=2) J))) J [] [] J J J)))
theorem nM(n:Int)(u:Bool):
  Spec prog 169 [.int .i64 n,.bool u] [] [] (X:=Unit) (fun _=>True) (fun _=> .bool (fk n u)) (fun _=> []) (fun _=> []):=by
 refine aI func169 J ntmps169 J fun w0 M H=>aj (ai J J (aG J (ad J J (ar J J aY J (ad J J (aA [] J J O (fun hg1=>am J) J (aA [(8,_)] J J ⟨J,O⟩ (fun hg2=>am J) J (cq [] [(8,_),(9,_)] J J O ⟨J,J,O⟩ (fun hg3 hg3'=>am J) J (cq [(10,_)] [(8,_),(9,_)] J J ⟨J,O⟩ ⟨J,J,O⟩ (fun hg4 hg4'=>aT J J dV) J (aA [(8,_),(9,_)] J J ⟨J,J,O⟩ (fun hg5=>aQ J J J (by first|exact av|exact aC|exact cz hg5|exact c8 hg5|rfl)) J (aA [(8,_),(9,_),(12,_)] J J ⟨J,J,J,O⟩ (fun hg6=>am J) J (cq [] [(8,_),(9,_),(12,_),(13,_)] J J O ⟨J,J,J,J,O⟩ (fun hg7 hg7'=>am J) J (cq [(14,_)] [(8,_),(9,_),(12,_),(13,_)] J J ⟨J,O⟩ ⟨J,J,J,J,O⟩ (fun hg8 hg8'=>aT J J ci) J (aA [(8,_),(9,_),(12,_),(13,_)] J J ⟨J,J,J,J,O⟩ (fun hg9=>aQ J J J (by first|exact av|exact aC|exact cz hg9|exact c8 hg9|rfl)) J (aO (aQ J J J (by first|exact av|exact aC|rfl)) J ?_)))))))))))))))
 refine ai J J (ac (au (aH () O J (bE (aJ J)) J [] [] J J J)))
theorem Bi(s:Sh)(n:Int)(hn:0≤n∧n<4294967296)(hs:s.kd=1→s.bt=18∨s.bt=22)(hb:0≤s.bt∧s.bt<32):
  Spec prog 170 [.agg (nN s).toArray,.int .u32 n] [] [] (X:=Unit) (fun _=>True) (fun _=> .bool (jz s n)) (fun _=> []) (fun _=> []):=by
 refine aI func170 J ntmps170 J fun w0 M H=>aj (bU J J fun b2=>ai J J (ac (a_ (aB (aj (az zN J J (aP 2 t3 J J J J J (ar J J aY J (ai J J (ac (ae J (fun h1=> ?_) (fun h1=> ?_))))))))))))
 ·(try simp only [be]at h1)
  have k0:s.kd=0:=h1;refine aj (ad J J (ar J J aY J (ai J J (ac (au (aH () O J (bE (aJ J)) (by unfold jz;rw [if_pos k0]) [] [] J J J))))))
 ·(try simp only [be]at h1)
  have k0:¬s.kd=0:=h1;refine aj (az zN J J (aP 2 t3 J J J J J (ar J J aY J (ai J J (ac (ae J (fun h2=> ?_) (fun h2=> ?_)))))))
  ·(try simp only [be]at h2)
   have k1:s.kd=1:=h2;refine aj (ad J J (az zM J J (aP 2 t3 J J J J J (ak (xs:= [.tmp 15,.tmp 17]) (sE n s.bt hn (hs k1)) Iq [] [] [] (fun _ _=>ai J J (ac (au (aH () O J (bE (aJ J)) (by unfold jz;rw [if_neg k0,if_pos k1]) [] [] J J J))))))))
  ·(try simp only [be]at h2)
   have k1:¬s.kd=1:=h2;refine aj (az zL J J (aP 2 cB J J J J J (ar J J dV J (ai J J (ac (ae J (fun h3=> ?_) (fun h3=> ?_)))))))
   ·(try simp only [be]at h3)
    have k2:s.mo>0:=h3;refine aj (ad J J (az zL J J (aP 2 cB J J J J J (ar J J jl J (ai J J (ac (au (aH () O J (bE (aJ J)) (by unfold jz;rw [if_neg k0,if_neg k1,if_pos k2]) [] [] J J J))))))))
   ·(try simp only [be]at h3)
    have k2:¬s.mo>0:=by omega
    refine ax (aj (ad J J (az zM J J (aP 2 t3 J J J J J (ar J J (m7 (by omega) (by first|decide|(simp [IntKind.bits];omega)) J) J (ar J J aY J (ai J J (ac (au (aH () O J (bE (aJ J)) (by unfold jz;rw [if_neg k0,if_neg k1,if_neg k2]) [] [] J J J))))))))))
theorem I_:∀s∈shL,(s.kd=1→s.bt=18∨s.bt=22)∧0≤s.bt∧s.bt<32∧(s.bt=0∨s.bt=18∨s.bt=22)∧(s.bt=18→s.b=false)∧(s.bt=22→s.a=false∧s.b=false):=by decide
theorem ir(op:Int):((cG op).kd=1→(cG op).bt=18∨(cG op).bt=22)∧0≤(cG op).bt∧(cG op).bt<32∧((cG op).bt=0∨(cG op).bt=18∨(cG op).bt=22)∧((cG op).bt=18→(cG op).b=false)∧((cG op).bt=22→(cG op).a=false∧(cG op).b=false):=by
 unfold cG;split
 ·rename_i h;have hl:shL.length=64:=by decide
  rw [List.getD_eq_getElem?_getD,List.getElem?_eq_getElem (by omega)];exact I_ _ (List.getElem_mem _)
 ·decide
theorem Mo{op:Int}(h:(cG op).k=true):0≤op∧op<64:=by
 unfold cG at h;by_cases hc:0≤op∧op<64
 ·exact hc
 ·rw [if_neg hc]at h;cases h
theorem t8{n:Int}{u:Bool}(h:fk n u=true):0≤n∧n<16:=by
 unfold fk at h;simp only [Bool.or_eq_true,Bool.and_eq_true,decide_eq_true_eq]at h;omega
theorem s6{i:Qi}(h:oj i=true):(0≤i.op∧i.op<64)∧(0≤i.d∧i.d<16)∧(0≤i.a∧i.a<16)∧(0≤i.b∧i.b<16):=by
 unfold oj at h;simp only [Bool.and_eq_true]at h;obtain⟨⟨⟨⟨h1,h2⟩,h3⟩,h4⟩,h5⟩:=h;exact⟨Mo h1,t8 h2,t8 h3,t8 h4⟩
def lD(i:Qi):Int:=i.op*67108864+i.d*4194304+i.a*262144+i.b*16384+i.imm%2^(cG i.op).bt.toNat
def rN(i:Qi):Int:=if oj i=true then lD i else 0
theorem K6{x y:Int}(k:Nat)(hx:0≤x∧x<4294967296)(hx2:x%((2^k:Nat):Int)=0)(hy:0≤y∧y<((2^k:Nat):Int))(hy2:y<4294967296):bits .or .u32 x y=x+y:=by
 obtain⟨a,rfl⟩:=Int.eq_ofNat_of_zero_le hx.1;obtain⟨b,rfl⟩:=Int.eq_ofNat_of_zero_le hy.1;rw [u32_or _ _ hx.1 hx.2 hy.1 hy2];simp only [Int.toNat_natCast];rw [nat_join k a b (by exact_mod_cast hx2) (by exact_mod_cast hy.2)];omega
theorem eJ{n:Int}(h:fk n false=true):n=0:=by
 unfold fk at h;simp only [Bool.or_eq_true,Bool.and_eq_true,decide_eq_true_eq,Bool.false_and]at h;simpa using h
theorem MP{i:Qi}(h:oj i=true)(hi:0≤i.imm∧i.imm<4294967296):
  bits .or .u32 (bits .or .u32 (bits .or .u32 (bits .or .u32 (IntKind.u32.wrap (i.op*2^(26:Int).toNat)) (IntKind.u32.wrap (i.d*2^(22:Int).toNat))) (IntKind.u32.wrap (i.a*2^(18:Int).toNat))) (IntKind.u32.wrap (i.b*2^(14:Int).toNat))) (bits .and .u32 i.imm (IntKind.u32.wrap (IntKind.u32.wrap (1*2^(cG i.op).bt.toNat)-1)))=lD i:=by
 obtain⟨b1,b2,b3,b4⟩:=s6 h;unfold oj at h;simp only [Bool.and_eq_true]at h;obtain⟨⟨⟨⟨h1,h2⟩,h3⟩,h4⟩,h5⟩:=h;obtain⟨_,_,_,k1,k2,k3⟩:=ir i.op;rw [show((2:Int)^(26:Int).toNat)=67108864 from J,show((2:Int)^(22:Int).toNat)=4194304 from J,show((2:Int)^(18:Int).toNat)=262144 from J,show((2:Int)^(14:Int).toNat)=16384 from J];rw [bK (n:=i.op*67108864) (by omega) (by omega),bK (n:=i.d*4194304) (by omega) (by omega),bK (n:=i.a*262144) (by omega) (by omega),bK (n:=i.b*16384) (by omega) (by omega)];rw [K6 (x:=i.op*67108864) (y:=i.d*4194304) 26 ⟨by omega,by omega⟩ (by omega) ⟨by omega,by omega⟩ (by omega),K6 (x:=i.op*67108864+i.d*4194304) (y:=i.a*262144) 22 ⟨by omega,by omega⟩ (by omega) ⟨by omega,by omega⟩ (by omega),K6 (x:=i.op*67108864+i.d*4194304+i.a*262144) (y:=i.b*16384) 18 ⟨by omega,by omega⟩ (by omega) ⟨by omega,by omega⟩ (by omega)];unfold lD;rcases k1 with k|k|k
 ·rw [k,show IntKind.u32.wrap (IntKind.u32.wrap (1*2^(0:Int).toNat)-1)=0 from J,show((2:Int)^(0:Int).toNat)=1 from J];have h0:bits .and .u32 i.imm 0=0:=by
   rw [u32_and _ _ hi.1 hi.2 (by omega) (by omega)];simp
  rw [h0,K6 0 ⟨by omega,by omega⟩ (by omega) ⟨by omega,by omega⟩ (by omega)];omega
 ·have hb:i.b=0:=eJ (by rw [←k2 k];exact h4);rw [k,show IntKind.u32.wrap (IntKind.u32.wrap (1*2^(18:Int).toNat)-1)=262143 from J,show((2:Int)^(18:Int).toNat)=262144 from J,N8 hi,hb];rw [K6 18 ⟨by omega,by omega⟩ (by omega) ⟨by omega,by omega⟩ (by omega)]
 ·have hb:i.b=0:=eJ (by rw [←(k3 k).2];exact h4);have ha:i.a=0:=eJ (by rw [←(k3 k).1];exact h3);rw [k,show IntKind.u32.wrap (IntKind.u32.wrap (1*2^(22:Int).toNat)-1)=4194303 from J,show((2:Int)^(22:Int).toNat)=4194304 from J,N7 hi,hb,ha];rw [K6 22 ⟨by omega,by omega⟩ (by omega) ⟨by omega,by omega⟩ (by omega)]
theorem x7{i:Qi}(h:oj i=true):0≤lD i∧lD i<4294967296:=by
 obtain⟨b1,b2,b3,b4⟩:=s6 h;unfold oj at h;simp only [Bool.and_eq_true]at h;obtain⟨⟨⟨⟨h1,h2⟩,h3⟩,h4⟩,h5⟩:=h;obtain⟨_,_,_,k1,k2,k3⟩:=ir i.op;unfold lD;rcases k1 with k|k|k
 ·rw [k,show((2:Int)^(0:Int).toNat)=1 from J];omega
 ·have hb:i.b=0:=eJ (by rw [←k2 k];exact h4);rw [k,show((2:Int)^(18:Int).toNat)=262144 from J];omega
 ·have hb:i.b=0:=eJ (by rw [←(k3 k).2];exact h4);have ha:i.a=0:=eJ (by rw [←(k3 k).1];exact h3);rw [k,show((2:Int)^(22:Int).toNat)=4194304 from J];omega
theorem Kq(i:Qi):0≤rN i∧rN i<4294967296:=by
 unfold rN;split
 ·rename_i h;exact x7 h
 ·omega
def eD(n:Int):List Int:= [n%256,n/256%256,n/65536%256,n/16777216%256]
def Km(i:Qi):Int:=if oj i=true then 0 else 12
theorem wR(i:Qi)(hi:0≤i.imm∧i.imm<4294967296):
  Spec prog 131 [.agg (gL i).toArray] [] [] (X:=Unit) (fun _=>True) (fun _=> .bool (oj i)) (fun _=> []) (fun _=> []):=by
 refine aI func131 J ntmps131 J fun w0 M H=>aj (bU J J fun b1=>ai J J (aG J (az bl J J (aP 1 t3 J J J J J (ak (xs:= [.tmp 5]) (r5 i.op) IG [] [] [] (fun _ _=>aZ gO J J fun b3=>aq (k:=3) gO J J J J J J (aG J (az zO J J (aP 3 t4 J J J J J (ad J J (aA [] J J O (fun hg1=>ag fN J) J ?_)))))))))))
 refine aA [(10,_)] J J ⟨J,O⟩ (fun hg2=>ah t3 J J (ay (k:=1) J J)) J (aA [(10,_),(11,_)] J J ⟨J,J,O⟩ (fun hg3=>ag GT J) J (aA [(10,_),(11,_),(12,_)] J J ⟨J,J,J,O⟩ (fun hg4=>ah t4 J J (ay (k:=3) J J)) J (gT [(10,_),(11,_),(12,_),(13,_)] J J ⟨J,J,J,J,O⟩ (fun hg5=>bq (xs:= [.tmp 11,.tmp 13]) (nM i.d (cG i.op).d) Ev [] [] [] J J J J J J J J (fun _ _=>J) (fun _ _ _=>J)) J (aO (aQ J J J (by first|exact av|exact aC|rfl)) J (ad J J (aA [] J J O (fun hg6=>ag kW J) J (aA [(17,_)] J J ⟨J,O⟩ (fun hg7=>ah t3 J J (ay (k:=1) J J)) J (aA [(17,_),(18,_)] J J ⟨J,J,O⟩ (fun hg8=>ag GR J) J (aA [(17,_),(18,_),(19,_)] J J ⟨J,J,J,O⟩ (fun hg9=>ah t4 J J (ay (k:=3) J J)) J (gT [(17,_),(18,_),(19,_),(20,_)] J J ⟨J,J,J,J,O⟩ (fun hg10=>bq (xs:= [.tmp 18,.tmp 20]) (nM i.a (cG i.op).a) Ev [] [] [] J J J J J J J J (fun _ _=>J) (fun _ _ _=>J)) J (aO (aQ J J J (by first|exact av|exact aC|rfl)) J (ad J J (aA [] J J O (fun hg11=>ag kV J) J (aA [(24,_)] J J ⟨J,O⟩ (fun hg12=>ah t3 J J (ay (k:=1) J J)) J (aA [(24,_),(25,_)] J J ⟨J,J,O⟩ (fun hg13=>ag GQ J) J (aA [(24,_),(25,_),(26,_)] J J ⟨J,J,J,O⟩ (fun hg14=>ah t4 J J (ay (k:=3) J J)) J (gT [(24,_),(25,_),(26,_),(27,_)] J J ⟨J,J,J,J,O⟩ (fun hg15=>bq (xs:= [.tmp 25,.tmp 27]) (nM i.b (cG i.op).b) Ev [] [] [] J J J J J J J J (fun _ _=>J) (fun _ _ _=>J)) J (aO (aQ J J J (by first|exact av|exact aC|rfl)) J (ad J J ?_)))))))))))))))))));refine aA [] J J O (fun hg16=>aL gO J J J (aX (k:=3) J)) J (aA [(31,_)] J J ⟨J,O⟩ (fun hg17=>ag dk J) J (aA [(31,_),(32,_)] J J ⟨J,J,O⟩ (fun hg18=>ah cB J J (ay (k:=1) J J)) J (gT [(31,_),(32,_),(33,_)] J J ⟨J,J,J,O⟩ (fun hg19=>bq (xs:= [.tmp 31,.tmp 33]) (Bi (cG i.op) i.imm hi (ir i.op).1 ⟨(ir i.op).2.1,(ir i.op).2.2.1⟩) Nv [] [] [] J J J J J J J J (fun _ _=>J) (fun _ _ _=>J)) J (aO (aQ J J J (by first|exact av|exact aC|rfl)) J (ai J J (ac (au (aH () O J (bE (aJ J)) J [] [] J J J))))))))
theorem vZ(i:Qi)(hi:0≤i.imm∧i.imm<4294967296):
  Spec prog 98 [.agg (gL i).toArray] [] [] (X:=Unit) (fun _=>True) (fun _=> .tuple #[.int .u32 (rN i),.int .i64 (Km i)]) (fun _=> []) (fun _=> []):=by
 refine aI func98 J ntmps98 J fun w0 M H=>aj (bU J J fun b1=>ai J J (ai J J (ac (aS (aO (aL ew J J J (aX (k:=1) J)) J (ak (xs:= [.tmp 5]) (wR i hi) NP [] [] [] (fun _ _=>aO (ch J) J (ac (ae J (fun h1=> ?_) (fun h1=> ?_))))))))))
 ·have hv:oj i=false:=by simpa using h1
  rw [show rN i=0 from if_neg (by rw [hv];simp),show Km i=12 from if_neg (by rw [hv];simp)];refine aj (ai J J (ai J J (ac (au (aH () O J (FL (aJ J) (aJ J)) J [] [] J J J)))))
 ·have hv:oj i=true:=by simpa using h1
  rw [show rN i=lD i from if_pos hv,show Km i=0 from if_pos hv];obtain⟨b1,b2,b3,b4⟩:=s6 hv;obtain⟨_,c1,c2,_⟩:=ir i.op;refine ax (aj (az bl J J (aP 1 t3 J J J J J (aO (bX underlying3 underlying41 J (by first|exact bK (by omega) (by omega)|rfl)) J (ar J J (gj (by omega) (by first|decide|(simp [IntKind.bits];omega)) J) J (az fN J J (aP 1 t3 J J J J J (aO (bX underlying3 underlying41 J (by first|exact bK (by omega) (by omega)|rfl)) J (ar J J (gj (by omega) (by first|decide|(simp [IntKind.bits];omega)) J) J (ar J J (BH J) J (az kW J J (aP 1 t3 J J J J J (aO (bX underlying3 underlying41 J (by first|exact bK (by omega) (by omega)|rfl)) J (ar J J (gj (by omega) (by first|decide|(simp [IntKind.bits];omega)) J) J (ar J J (BH J) J (az kV J J (aP 1 t3 J J J J J (aO (bX underlying3 underlying41 J (by first|exact bK (by omega) (by omega)|rfl)) J ?_))))))))))))))))));refine ar J J (gj (by omega) (by first|decide|(simp [IntKind.bits];omega)) J) J (ar J J (BH J) J (ai J J (ac (a_ ?_))));refine bH [27,28,29,30,31,32,33,34,35,36,37,2,3] _ J (bk (V:= [(0,27,_),(1,28,_),(2,29,_),(3,30,_),(4,31,_)]) [0,1,2,3,4] 5 [5,4,3] [6,7,8,9,10,11,12] (fun _=> [(6,33,_),(7,34,_),(8,35,_),(9,36,_),(10,37,_),(11,2,_),(12,3,_)]) J J (aa (aD J (am J)) (aa (aD J (ag dk J)) (aa (aD J (ah cB J J (ay (k:=1) J J))) (aa (aD J (ag bl J)) (aa (aD J (ah t3 J J (ay (k:=1) J J))) aw))))) J J J J J J J J J J J (fun _ _=>J) J (bq (xs:= [.tmp 31]) (r5 i.op) IG [] [] [] J J J J J J J J (fun _ _=>J) (fun _ _ _=>J)) (fun _ _=>bp [6,7,8,9,10,11,12,0,1,2] J J (aa (aD J (mB GE t3 J J)) (aa (aD J (aT J J (gj (by omega) (by first|decide|(simp [IntKind.bits];omega)) J))) (aa (aD J (aT J J (fX (by first|exact bK (by omega) (by omega)|rfl)))) (aa (aD J (aT J J (lE J))) (aa (aD J (aT J J (BH J))) (aa (aD J (ct J)) (aa (aD J (ct J)) (aa (aD J (am J)) (aa (aD J (ag dk J)) (aa (aD J (ah cB J J (ay (k:=1) J J))) aw)))))))))) J J J ?_))
  refine au (aH () O J (FL (aJ J) (aJ J)) (congrArg (fun z=>Value.tuple #[Value.int .u32 z,Value.int .i64 0]) (MP hv hi)) [] [] J J J)
theorem CN(n:Int)(hn:0≤n∧n<4294967296):
  Spec prog 100 [.int .u32 n,.int .i64 4] [] [] (X:=Unit) (fun _=>True) (fun _=> .string (jZ (eD n))) (fun _=> []) (fun _=> []):=by
 refine aI func100 J ntmps100 J fun w0 M H=>aj (ai J J (aG J (ad J J (aO (bX underlying41 underlying5 J (by first|exact BY (by omega) (by omega)|rfl)) J (ad J J (ar J J (m7 (by omega) (by first|decide|(simp [IntKind.bits];omega)) J) J (aO (bX underlying41 underlying5 J (by first|exact BY (by omega) (by omega)|rfl)) J (ad J J (ar J J (m7 (by omega) (by first|decide|(simp [IntKind.bits];omega)) J) J (aO (bX underlying41 underlying5 J (by first|exact BY (by omega) (by omega)|rfl)) J (ad J J (ar J J (m7 (by omega) (by first|decide|(simp [IntKind.bits];omega)) J) J (aO (bX underlying41 underlying5 J (by first|exact BY (by omega) (by omega)|rfl)) J (cD bZ (eD n) (parts:= [(0,.tmp 7),(1,.tmp 10),(2,.tmp 13),(3,.tmp 16)]) underlying84 t5 J (by decide) (by intro _;rfl) J (by decide) (by decide) J J J J fun v17=>ai J J ?_))))))))))))))
 refine aG J (ad J J (ad J J (aO (y_ J J J) J (aO (pN J J J) J (aO (lN (j:=4) underlying84 t5 J J (bs (k:=17) J) J (Nat.le_refl 4)) J (cf 17 17 J bB (LY 17 18 4 J (Nat.le_refl 4) (aO (CX underlying84 underlying5 underlying9 J (aN (k:=18) J) (by simp [eD])) J (ai J J (ac (au (aH () O J (bE (aJ J)) J [] [] J J J))))))))))))
theorem wj(b:Nat)(p:Option Addr)(hp:p=none∨p=some ⟨b,0,none⟩)(v:SV):
  Spec prog 133 [.pointer (some ⟨b,0,none⟩)] [bj b 177 [.pointer p,sv v]] [] (X:=Unit) (fun _=>True) (fun _=> .tuple #[]) (fun _=> [bj b 177 [.pointer (some ⟨b,0,none⟩),sv v]]) (fun _=> []):=by
 refine aI func133 J ntmps133 J fun w0 M H=>aj (ad J J (bG J J (az tY J J (aP 0 I4 J J J J J (ar J J (KJ underlying175) J (ac (ae J (fun h1=> ?_) (fun h1=> ?_))))))))
 ·obtain rfl:p=none:=by cases p with|none=>rfl|some _=>cases h1
  refine ap (ad J J (ad J J (aO (Mi (k:=0) underlying175 underlying255 Fm (by decide) J J (by simp)) J (aO (FX func172 (by kernel_rfl) (by kernel_rfl) (by kernel_rfl) (by kernel_rfl) J) J (aO (FZ (k:=0) underlying255 underlying175 Fm J J (by kernel_rfl)) J (bG J J (az tY J J (aK (k:=0) I4 J J J J J J J J (ac (bW () O J ff J [0] [] J J J))))))))))
 ·obtain rfl:p=some ⟨b,0,none⟩:=hp.resolve_left (fun e=>by subst e;cases h1);refine aj (ad J J (bG J J (az tY J J (aP 0 I4 J J J J J (ad J J (aO (FY underlying175 Fm J J) J (ac (ae J (fun h2=> ?_) (fun h2=> ?_)))))))))
  ·cases h2
  ·refine ax (bW () O J ff J [0] [] J J J)
theorem AD(b:Nat)(p:Option Addr)(hp:p=none∨p=some ⟨b,0,none⟩)(v:SV)(l:List Int)(s:ByteArray)(hl:l.length+s.size≤1000000):
  Spec prog 99 [.pointer (some ⟨b,0,none⟩),.string s] [bj b 177 [.pointer p,sv v],own 5 1 bZ (sv v) l] [] (X:=SV) (fun _=>True) (fun _=> .tuple #[.int .i64 (s.size:Int),.nilIface]) (fun v=> [bj b 177 [.pointer (some ⟨b,0,none⟩),sv v],own 5 1 bZ (sv v) (l++bn s)]) (fun _=> []):=by
 refine aI func99 J ntmps99 J fun w0 M H=>aj (ai J J (ai J J (aG J (ad J J (ak (xs:= [.tmp 6]) (wj b p hp v) NO [0] [] [0] (fun _ _=>aG J (ad J J (ad J J (bG J J (az oY J J (aP 0 wV J J J J J (ad J J (A6 1 underlying84 underlying9 t5 J J J J (by omega) J fun v14=> ?_)))))))))))))
 refine bG J J (az oY J J (aK (k:=0) wV J J J J J J J J (aG J (ad J J (aO (cl underlying9 J) J (ai J J (ai J J (ac (au (aH v14 O J (FL (aJ J) (aJ J)) J [0,1] [] J J J))))))))))
theorem BG(b:Nat)(p:Option Addr)(v:SV)(l:List Int)(hl:l≠ [])(hb:∀n∈l,0≤n∧n<256):
  Spec prog 101 [.pointer (some ⟨b,0,none⟩)] [bj b 177 [.pointer p,sv v],own 5 1 bZ (sv v) l] [] (X:=Unit) (fun _=>True) (fun _=> .string (jZ l)) (fun _=> [bj b 177 [.pointer p,sv v]]) (fun _=> []):=by
 refine aI func101 J ntmps101 J fun w0 M H=>aj (ai J J (ac (a_ (bH [3,4,5,6,7,8,9,10,11,12,13,2] _ J (bk (V:= [(0,3,_),(1,4,_),(2,5,_),(3,6,_),(4,7,_),(5,8,_),(6,9,_),(7,10,_),(8,11,_),(9,12,_)]) [0,1,2,3,4,5,6,7,8,9] 10 [10,9,8,7,6,5,4,3,2,1,0] [11] (fun _=> [(11,2,_)]) J J (aa (aD J (am J)) (aa (aD J (aF J)) (aa (aD J (ag oY J)) (aa (aD J (ah wV J J (ay (k:=0) J J))) (aa (aD J (Mh (k:=1) J J hl)) (aa (aD J (am J)) (aa (aD J (aF J)) (aa (aD J (ag oY J)) (aa (aD J (ah wV J J (ay (k:=0) J J))) (aa (aD J (aU underlying84 J (bs (k:=1) J))) aw)))))))))) J J J J J J J J J J J (fun _ _=>J) J (Gd (k:=1) underlying221 (by kernel_rfl) J J J hl hb) (fun _ _=>bp [11] J J (aa (aD J (ct J)) aw) J J J (au (aH () O J (bE (aJ J)) J [0] [] J J J))))))))
structure Fo where
 is:Bool
 d:Bool
 a:Bool
 b:Bool
 sg:Bool
 bt:Int
 mo:Int
deriving DecidableEq
def Lh(f:Fo):List Value:= [.bool f.is,.bool f.d,.bool f.a,.bool f.b,.bool f.sg,.int .i64 f.bt,.int .u32 f.mo]
def xR(op:Int):Fo:=⟨(cG op).k,(cG op).d,(cG op).a,(cG op).b,decide ((cG op).kd=1),(cG op).bt,(cG op).mo⟩
def zi(op:Int):Fo:=
 if 1≤op∧op≤12 then⟨true,true,true,true,false,0,0⟩else if op=17∨op=18∨op=19 then⟨true,true,true,false,false,18,0⟩else if(16≤op∧op≤27)∨(32≤op∧op≤37)then⟨true,true,true,false,true,18,0⟩else if op=40 then⟨true,true,false,false,true,22,0⟩else if op=41 then⟨true,true,false,false,false,22,0⟩else if op=48 then⟨true,false,false,false,false,18,0⟩else if op=49∨op=50∨op=51 then⟨true,false,false,false,false,0,0⟩else if op=52 then⟨true,false,true,false,false,0,0⟩else if op=53 then⟨true,true,false,false,false,18,3⟩else if op=54 then⟨true,false,true,false,false,18,4⟩else⟨false,false,false,false,false,0,0⟩
theorem F7:∀n,n<64→zi ((n:Nat):Int)=xR ((n:Nat):Int):=by decide
theorem xp{op:Int}(h:0≤op∧op<64):zi op=xR op:=by
 have:=F7 op.toNat (by omega)
 rw [show((op.toNat:Nat):Int)=op by omega]at this;exact this
theorem tB(op:Int):
  Spec prog 197 [.int .i64 op] [] [] (X:=Unit) (fun _=>True) (fun _=> .agg (Lh (zi op)).toArray) (fun _=> []) (fun _=> []):=by
 refine aI func197 J ntmps197 J fun w0 M H=>aj (aZ eN J J fun b2=>ac (a_ (aB (aj (ad J J (ar J J fe J (ad J J (aA [] J J O (fun hg1=>am J) J (aA [(7,_)] J J ⟨J,O⟩ (fun hg2=>aT J J jl) J (aO (aQ J J J (by first|exact av|exact aC|rfl)) J (ai J J (ac (ae J (fun h3=> ?_) (fun h3=> ?_))))))))))))))
 ·(try simp only [be]at h3)
  have q1:1≤op∧op≤12:=by omega
  refine aj (aO (aV (parts:= [(0,.const (.bool Bool.true)),(1,.const (.bool Bool.true)),(2,.const (.bool Bool.true)),(3,.const (.bool Bool.true))]) eN ku J J) J (aq (k:=2) eN J J J J J J (ac (au (aH () O J (bE (bh eN J J J (aX (k:=2) J))) (by unfold zi;rw [if_pos q1];rfl) [] [] J J J)))))
 ·(try simp only [be]at h3)
  have q1:¬(1≤op∧op≤12):=by omega
  refine aj (ad J J (ar J J aY J (ad J J (aA [] J J O (fun hg4=>am J) J (aA [(15,_)] J J ⟨J,O⟩ (fun hg5=>aT J J aY) J (aO (aQ J J J (by first|exact av|exact aC|rfl)) J (ad J J (aA [] J J O (fun hg6=>am J) J (aA [(19,_)] J J ⟨J,O⟩ (fun hg7=>aT J J aY) J (aO (aQ J J J (by first|exact av|exact aC|rfl)) J (ai J J (ac (ae J (fun h8=> ?_) (fun h8=> ?_))))))))))))))
  ·(try simp only [be]at h8)
   have q2:op=17∨op=18∨op=19:=by omega
   refine aj (aO (aV (parts:= [(0,.const (.bool Bool.true)),(1,.const (.bool Bool.true)),(2,.const (.bool Bool.true)),(5,.const (.int .i64 18))]) eN ku J J) J (aq (k:=2) eN J J J J J J (ac (au (aH () O J (bE (bh eN J J J (aX (k:=2) J))) (by unfold zi;rw [if_neg q1,if_pos q2];rfl) [] [] J J J)))))
  ·(try simp only [be]at h8)
   have q2:¬(op=17∨op=18∨op=19):=by omega
   refine aj (ad J J (ar J J fe J (ad J J (aA [] J J O (fun hg9=>am J) J (aA [(27,_)] J J ⟨J,O⟩ (fun hg10=>aT J J jl) J (aO (aQ J J J (by first|exact av|exact aC|rfl)) J (ad J J (aA [] J J O (fun hg11=>am J) J (aA [(31,_)] J J ⟨J,O⟩ (fun hg12=>aT J J fe) J (aA [(31,_),(32,_)] J J ⟨J,J,O⟩ (fun hg13=>am J) J (cq [] [(31,_),(32,_),(33,_)] J J O ⟨J,J,J,O⟩ (fun hg14 hg14'=>am J) J (cq [(34,_)] [(31,_),(32,_),(33,_)] J J ⟨J,O⟩ ⟨J,J,J,O⟩ (fun hg15 hg15'=>aT J J jl) J (aA [(31,_),(32,_),(33,_)] J J ⟨J,J,J,O⟩ (fun hg16=>aQ J J J (by first|exact av|exact aC|exact cz hg16|exact c8 hg16|rfl)) J (aO (aQ J J J (by first|exact av|exact aC|rfl)) J (ai J J (ac (ae J (fun h17=> ?_) (fun h17=> ?_))))))))))))))))))
   ·(try simp only [be]at h17)
    have q3:(16≤op∧op≤27)∨(32≤op∧op≤37):=by omega
    refine aj (aO (aV (parts:= [(0,.const (.bool Bool.true)),(1,.const (.bool Bool.true)),(2,.const (.bool Bool.true)),(4,.const (.bool Bool.true)),(5,.const (.int .i64 18))]) eN ku J J) J (aq (k:=2) eN J J J J J J (ac (au (aH () O J (bE (bh eN J J J (aX (k:=2) J))) (by unfold zi;rw [if_neg q1,if_neg q2,if_pos q3];rfl) [] [] J J J)))))
   ·(try simp only [be]at h17)
    have q3:¬((16≤op∧op≤27)∨(32≤op∧op≤37)):=by omega
    refine aj (ad J J (ar J J aY J (ai J J (ac (ae J (fun h18=> ?_) (fun h18=> ?_))))))
    ·(try simp only [be]at h18)
     have q4:op=40:=by omega
     refine aj (aO (aV (parts:= [(0,.const (.bool Bool.true)),(1,.const (.bool Bool.true)),(4,.const (.bool Bool.true)),(5,.const (.int .i64 22))]) eN ku J J) J (aq (k:=2) eN J J J J J J (ac (au (aH () O J (bE (bh eN J J J (aX (k:=2) J))) (by unfold zi;rw [if_neg q1,if_neg q2,if_neg q3,if_pos q4];rfl) [] [] J J J)))))
    ·(try simp only [be]at h18)
     have q4:¬(op=40):=by omega
     refine aj (ad J J (ar J J aY J (ai J J (ac (ae J (fun h19=> ?_) (fun h19=> ?_))))))
     ·(try simp only [be]at h19)
      have q5:op=41:=by omega
      refine aj (aO (aV (parts:= [(0,.const (.bool Bool.true)),(1,.const (.bool Bool.true)),(5,.const (.int .i64 22))]) eN ku J J) J (aq (k:=2) eN J J J J J J (ac (au (aH () O J (bE (bh eN J J J (aX (k:=2) J))) (by unfold zi;rw [if_neg q1,if_neg q2,if_neg q3,if_neg q4,if_pos q5];rfl) [] [] J J J)))))
     ·(try simp only [be]at h19)
      have q5:¬(op=41):=by omega
      refine aj (ad J J (ar J J aY J (ai J J (ac (ae J (fun h20=> ?_) (fun h20=> ?_))))))
      ·(try simp only [be]at h20)
       have q6:op=48:=by omega
       refine aj (aO (aV (parts:= [(0,.const (.bool Bool.true)),(5,.const (.int .i64 18))]) eN ku J J) J (aq (k:=2) eN J J J J J J (ac (au (aH () O J (bE (bh eN J J J (aX (k:=2) J))) (by unfold zi;rw [if_neg q1,if_neg q2,if_neg q3,if_neg q4,if_neg q5,if_pos q6];rfl) [] [] J J J)))))
      ·(try simp only [be]at h20)
       have q6:¬(op=48):=by omega
       refine aj (ad J J (ar J J aY J (ad J J (aA [] J J O (fun hg21=>am J) J (aA [(55,_)] J J ⟨J,O⟩ (fun hg22=>aT J J aY) J (aO (aQ J J J (by first|exact av|exact aC|rfl)) J (ad J J (aA [] J J O (fun hg23=>am J) J (aA [(59,_)] J J ⟨J,O⟩ (fun hg24=>aT J J aY) J (aO (aQ J J J (by first|exact av|exact aC|rfl)) J (ai J J (ac (ae J (fun h25=> ?_) (fun h25=> ?_))))))))))))))
       ·(try simp only [be]at h25)
        have q7:op=49∨op=50∨op=51:=by omega
        refine aj (aO (aV (parts:= [(0,.const (.bool Bool.true))]) eN ku J J) J (aq (k:=2) eN J J J J J J (ac (au (aH () O J (bE (bh eN J J J (aX (k:=2) J))) (by unfold zi;rw [if_neg q1,if_neg q2,if_neg q3,if_neg q4,if_neg q5,if_neg q6,if_pos q7];rfl) [] [] J J J)))))
       ·(try simp only [be]at h25)
        have q7:¬(op=49∨op=50∨op=51):=by omega
        refine aj (ad J J (ar J J aY J (ai J J (ac (ae J (fun h26=> ?_) (fun h26=> ?_))))))
        ·(try simp only [be]at h26)
         have q8:op=52:=by omega
         refine aj (aO (aV (parts:= [(0,.const (.bool Bool.true)),(2,.const (.bool Bool.true))]) eN ku J J) J (aq (k:=2) eN J J J J J J (ac (au (aH () O J (bE (bh eN J J J (aX (k:=2) J))) (by unfold zi;rw [if_neg q1,if_neg q2,if_neg q3,if_neg q4,if_neg q5,if_neg q6,if_neg q7,if_pos q8];rfl) [] [] J J J)))))
        ·(try simp only [be]at h26)
         have q8:¬(op=52):=by omega
         refine aj (ad J J (ar J J aY J (ai J J (ac (ae J (fun h27=> ?_) (fun h27=> ?_))))))
         ·(try simp only [be]at h27)
          have q9:op=53:=by omega
          refine aj (aO (aV (parts:= [(0,.const (.bool Bool.true)),(1,.const (.bool Bool.true)),(5,.const (.int .i64 18)),(6,.const (.int .u32 3))]) eN ku J J) J (aq (k:=2) eN J J J J J J (ac (au (aH () O J (bE (bh eN J J J (aX (k:=2) J))) (by unfold zi;rw [if_neg q1,if_neg q2,if_neg q3,if_neg q4,if_neg q5,if_neg q6,if_neg q7,if_neg q8,if_pos q9];rfl) [] [] J J J)))))
         ·(try simp only [be]at h27)
          have q9:¬(op=53):=by omega
          refine aj (ad J J (ar J J aY J (ai J J (ac (ae J (fun h28=> ?_) (fun h28=> ?_))))))
          ·(try simp only [be]at h28)
           have q10:op=54:=by omega
           refine aj (aO (aV (parts:= [(0,.const (.bool Bool.true)),(2,.const (.bool Bool.true)),(5,.const (.int .i64 18)),(6,.const (.int .u32 4))]) eN ku J J) J (aq (k:=2) eN J J J J J J (ac (au (aH () O J (bE (bh eN J J J (aX (k:=2) J))) (by unfold zi;rw [if_neg q1,if_neg q2,if_neg q3,if_neg q4,if_neg q5,if_neg q6,if_neg q7,if_neg q8,if_neg q9,if_pos q10];rfl) [] [] J J J)))))
          ·(try simp only [be]at h28)
           have q10:¬(op=54):=by omega
           refine ax (aj (aO (aV (parts:= []) eN ku J J) J (aq (k:=2) eN J J J J J J (ac (au (aH () O J (bE (bh eN J J J (aX (k:=2) J))) (by unfold zi;rw [if_neg q1,if_neg q2,if_neg q3,if_neg q4,if_neg q5,if_neg q6,if_neg q7,if_neg q8,if_neg q9,if_neg q10];rfl) [] [] J J J))))))
theorem pJ(n:Int)(u:Bool):
  Spec prog 212 [.int .i64 n,.bool u] [] [] (X:=Unit) (fun _=>True) (fun _=> .bool (fk n u)) (fun _=> []) (fun _=> []):=by
 refine aI func212 J ntmps212 J fun w0 M H=>aj (ai J J (aG J (ad J J (ar J J aY J (ad J J (aA [] J J O (fun hg1=>am J) J (aA [(8,_)] J J ⟨J,O⟩ (fun hg2=>am J) J (cq [] [(8,_),(9,_)] J J O ⟨J,J,O⟩ (fun hg3 hg3'=>am J) J (cq [(10,_)] [(8,_),(9,_)] J J ⟨J,O⟩ ⟨J,J,O⟩ (fun hg4 hg4'=>aT J J dV) J (aA [(8,_),(9,_)] J J ⟨J,J,O⟩ (fun hg5=>aQ J J J (by first|exact av|exact aC|exact cz hg5|exact c8 hg5|rfl)) J (aA [(8,_),(9,_),(12,_)] J J ⟨J,J,J,O⟩ (fun hg6=>am J) J (cq [] [(8,_),(9,_),(12,_),(13,_)] J J O ⟨J,J,J,J,O⟩ (fun hg7 hg7'=>am J) J (cq [(14,_)] [(8,_),(9,_),(12,_),(13,_)] J J ⟨J,O⟩ ⟨J,J,J,J,O⟩ (fun hg8 hg8'=>aT J J ci) J (aA [(8,_),(9,_),(12,_),(13,_)] J J ⟨J,J,J,J,O⟩ (fun hg9=>aQ J J J (by first|exact av|exact aC|exact cz hg9|exact c8 hg9|rfl)) J (aO (aQ J J J (by first|exact av|exact aC|rfl)) J ?_)))))))))))))))
 refine ai J J (ac (au (aH () O J (bE (aJ J)) J [] [] J J J)))
theorem Ja{n:Int}{z:Int}(hn:0≤n∧n<4294967296)(hz:z=18∨z=22):wC z n=if n%2^z.toNat≥2^(z-1).toNat then IntKind.u32.wrap (n%2^z.toNat-2^z.toNat)else n%2^z.toNat:=by
 have e32:∀x:Int,IntKind.u32.wrap x=x%4294967296:=fun x=>IntKind.wrap_u32 x
 unfold wC wU;rcases hz with rfl|rfl
 ·rw [show((32:Int)-18).toNat=14 from J,show(18:Int).toNat=18 from J,show((18:Int)-1).toNat=17 from J,show(2:Int)^14=16384 from J,show(2:Int)^18=262144 from J,show(2:Int)^17=131072 from J];simp only [e32,IntKind.wrap_i32];split<;>omega
 ·rw [show((32:Int)-22).toNat=10 from J,show(22:Int).toNat=22 from J,show((22:Int)-1).toNat=21 from J,show(2:Int)^10=1024 from J,show(2:Int)^22=4194304 from J,show(2:Int)^21=2097152 from J];simp only [e32,IntKind.wrap_i32];split<;>omega
theorem On{z:Int}(hz:z=18∨z=22):IntKind.u32.wrap (1*2^z.toNat)=2^z.toNat∧IntKind.u32.wrap (1*2^(z-1).toNat)=2^(z-1).toNat∧¬(2:Int)^z.toNat=0:=by
 rcases hz with rfl|rfl<;>exact⟨J,J,by decide⟩
theorem pH(n z:Int)(hn:0≤n∧n<4294967296)(hz:z=18∨z=22):
  Spec prog 198 [.int .u32 n,.int .i64 z] [] [] (X:=Unit) (fun _=>True) (fun _=> .int .u32 (wC z n)) (fun _=> []) (fun _=> []):=by
 refine aI func198 J ntmps198 J fun w0 M H=> ?_
 rw [Ja hn hz];refine aj (ai J J (ac (aS (ad J J (ar J J ci J (ac (ae J (fun h1=> ?_) (fun h1=> ?_))))))))
 ·exact absurd h1 (by simp;omega)
 ·(try simp only [be]at h1)
  refine ax (aS (ad J J (ar J J fe J (ac (ae J (fun h2=> ?_) (fun h2=> ?_))))))
  ·exact absurd h2 (by simp;omega)
  ·(try simp only [be]at h2)
   refine ax (aj (ad J J (ad J J (ar J J (gj (by omega) (by simp [IntKind.bits];omega) (On hz).1) J (ar J J (gd (On hz).2.2 (Int.tmod_eq_emod_of_nonneg hn.1)) J (ai J J (ac (aS (ad J J (ad J J (ar J J (fX (bc (by omega) (by omega))) J (ar J J (gj (by omega) (by simp [IntKind.bits];omega) (On hz).2.1) J (ar J J fe J (ac (ae J (fun h3=> ?_) (fun h3=> ?_))))))))))))))))
   ·rw [if_pos (of_decide_eq_true h3)];refine aj (ad J J (ad J J (ar J J (gj (by omega) (by simp [IntKind.bits];omega) (On hz).1) J (ar J J (fX J) J (ai J J (ac (au (aH () O J (bE (aJ J)) J [] [] J J J))))))))
   ·rw [if_neg (of_decide_eq_false h3)];refine ax (aj (ad J J (ai J J (ac (au (aH () O J (bE (aJ J)) J [] [] J J J))))))
theorem xh(n z:Int)(hn:0≤n∧n<4294967296)(hz:z=18∨z=22):
  Spec prog 213 [.int .u32 n,.int .i64 z] [] [] (X:=Unit) (fun _=>True) (fun _=> .bool (decide (wC z n=n))) (fun _=> []) (fun _=> []):=by
 refine aI func213 J ntmps213 J fun w0 M H=>aj (ai J J (aG J (ad J J (ad J J (ak (xs:= [.tmp 5,.tmp 6]) (pH n z hn hz) Im [] [] [] (fun _ _=>ad J J (ar J J aY J (ai J J (ac (au (aH () O J (bE (aJ J)) J [] [] J J J)))))))))))
theorem Fy:∀s∈shL,(s.kd=0↔s.bt=0)∧(s.kd=0∨s.kd=1∨s.kd=2)∧0≤s.mo∧s.mo<262144:=by decide
theorem oL(op:Int):((cG op).kd=0↔(cG op).bt=0)∧((cG op).kd=0∨(cG op).kd=1∨(cG op).kd=2)∧0≤(cG op).mo∧(cG op).mo<262144:=by
 unfold cG;split
 ·rename_i h;have hl:shL.length=64:=by decide
  rw [List.getD_eq_getElem?_getD,List.getElem?_eq_getElem (by omega)];exact Fy _ (List.getElem_mem _)
 ·decide
structure VQ(i:Qi):Prop where
 op:0≤i.op∧i.op<64
 d:0≤i.d∧i.d<16
 a:0≤i.a∧i.a<16
 b:0≤i.b∧i.b<16
 k:(cG i.op).k=true
 fd:fk i.d (cG i.op).d=true
 fa:fk i.a (cG i.op).a=true
 fb:fk i.b (cG i.op).b=true
 im:jz (cG i.op) i.imm=true
theorem VQ.of{i:Qi}(h:oj i=true):VQ i:=by
 obtain⟨b1,b2,b3,b4⟩:=s6 h;unfold oj at h;simp only [Bool.and_eq_true]at h;obtain⟨⟨⟨⟨h1,h2⟩,h3⟩,h4⟩,h5⟩:=h;exact⟨b1,b2,b3,b4,h1,h2,h3,h4,h5⟩
theorem nZ{a b:Int}(ha:0≤a∧a<4294967296)(hb:0<b):IntKind.u32.wrap (a.tdiv b)=a/b:=by
 rw [Int.tdiv_eq_ediv_of_nonneg ha.1];exact bK (Int.ediv_nonneg ha.1 (by omega)) (Int.lt_of_le_of_lt (Int.ediv_le_self _ ha.1) ha.2)
theorem Ig{s:Sh}{n:Int}(h:jz s n=true)(hk:s.kd=0):n=0:=by
 unfold jz at h;rw [if_pos hk]at h;exact of_decide_eq_true h
theorem If{s:Sh}{n:Int}(h:jz s n=true)(hk:s.kd=1):wC s.bt n=n:=by
 unfold jz at h;rw [if_neg (by omega),if_pos hk]at h;exact of_decide_eq_true h
theorem Ie{s:Sh}{n:Int}(h:jz s n=true)(hk:s.kd=2)(hm:s.mo>0):n≤s.mo:=by
 unfold jz at h;rw [if_neg (by omega),if_neg (by omega),if_pos hm]at h;exact of_decide_eq_true h
theorem Id{s:Sh}{n:Int}(h:jz s n=true)(hk:s.kd=2)(hm:¬s.mo>0):n/2^s.bt.toNat=0:=by
 unfold jz at h;rw [if_neg (by omega),if_neg (by omega),if_neg hm]at h;exact of_decide_eq_true h
theorem Jl{z:Int}(hz:z=18∨z=22):IntKind.u32.wrap (1*2^z.toNat)=2^z.toNat∧0<(2:Int)^z.toNat∧(2:Int)^z.toNat≤4194304:=by
 rcases hz with rfl|rfl<;>exact⟨J,by decide,by decide⟩
theorem si{n m:Int}(hn:0≤n)(hm:0<m)(h:n/m=0):n<m:=by
 have:=Int.emod_lt_of_pos n hm;have h2:=Int.ediv_mul_add_emod n m;rw [h]at h2;omega
theorem uN(i:Qi)(hi:0≤i.imm∧i.imm<4294967296)(hv:VQ i):
  Spec prog 209 [.agg (gL i).toArray] [] [] (X:=Unit) (fun _=>True) (fun _=> .bool true) (fun _=> []) (fun _=> []):=by
 refine aI func209 J ntmps209 J fun w0 M H=> ?_
 have hof:=xp hv.op;have k1:=ir i.op;have k2:=oL i.op;refine aj (bU J J fun b1=>ai J J (aG J (az bl J J (aP 1 t3 J J J J J (ak (xs:= [.tmp 8]) (tB i.op) Et [] [] [] (fun _ _=> ?_))))));rw [hof];refine aZ eN J J fun b3=>aq (k:=3) eN J J J J J J (ac (aS (az GL J J (aP 3 t4 J J J J J (aO (ch J) J (ac (ae J (fun h1=> ?_) (fun h1=> ?_))))))))
 ·exact absurd h1 (by show ¬(!(cG i.op).k)=true;rw [hv.k];decide)
 ·refine ax (aj (az fN J J (aP 1 t3 J J J J J (az zJ J J (aP 3 t4 J J J J J (ak (xs:= [.tmp 14,.tmp 16]) (pJ i.d (xR i.op).d) Es [] [] [] (fun _ _=>ai J J (aG J (az kW J J (aP 1 t3 J J J J J (az zI J J (aP 3 t4 J J J J J (ak (xs:= [.tmp 19,.tmp 21]) (pJ i.a (xR i.op).a) Es [] [] [] (fun _ _=>ai J J (ac (a_ ?_))))))))))))))));refine ap (az kV J J (aP 1 t3 J J J J J (az zH J J (aP 3 t4 J J J J J (ak (xs:= [.tmp 24,.tmp 26]) (pJ i.b (xR i.op).b) Es [] [] [] (fun _ _=>ai J J (ac (aS (ad J J (aO (ch J) J (ad J J (aA [] J J O (fun hg2=>am J) J (aA [(31,_)] J J ⟨J,O⟩ (fun hg3=>ch J) J (aO (aQ J J J (by first|exact av|exact aC|rfl)) J (ad J J (aA [] J J O (fun hg4=>am J) J (aA [(35,_)] J J ⟨J,O⟩ (fun hg5=>ch J) J ?_)))))))))))))))));refine aO (aQ J J J (by first|exact av|exact aC|rfl)) J (ac (ae J (fun h6=> ?_) (fun h6=> ?_)))
  ·exact absurd h6 (by show ¬((!fk i.d (cG i.op).d) || (!fk i.a (cG i.op).a) || (!fk i.b (cG i.op).b))=true;rw [hv.fd,hv.fa,hv.fb];decide)
  ·refine ax (aS (az kR J J (aP 3 t3 J J J J J (ar J J aY J (ac (ae J (fun h7=> ?_) (fun h7=> ?_)))))))
   ·(try simp only [be]at h7)
    have q3:(cG i.op).bt=0:=h7;refine aj (az dk J J (aP 1 cB J J J J J (ar J J aY J (ai J J (ac (au (aH () O J (bE (aJ J)) (congrArg Value.bool (by rw [Ig hv.im (k2.1.2 q3)];rfl)) [] [] J J J)))))))
   ·(try simp only [be]at h7)
    have q3:¬(cG i.op).bt=0:=h7;have hb:(cG i.op).bt=18∨(cG i.op).bt=22:=by have:=k1.2.2.2.1;omega
    refine ax (aS (az zG J J (aP 3 t4 J J J J J (ac (ae J (fun h8=> ?_) (fun h8=> ?_))))))
    ·have q4:(cG i.op).kd=1:=of_decide_eq_true h8;refine aj (az dk J J (aP 1 cB J J J J J (az kR J J (aP 3 t3 J J J J J (ak (xs:= [.tmp 47,.tmp 49]) (xh i.imm (cG i.op).bt hi (by have:=k1.2.2.2.1;omega)) M8 [] [] [] (fun _ _=>ai J J (ac (au (aH () O J (bE (aJ J)) (congrArg Value.bool (decide_eq_true (If hv.im q4))) [] [] J J J)))))))))
    ·have q4:¬(cG i.op).kd=1:=of_decide_eq_false h8;have q5:(cG i.op).kd=2:=by have:=k2.2.1;have:=k2.1;omega
     refine ax (aS (az zE J J (aP 3 cB J J J J J (ar J J dV J (ac (ae J (fun h9=> ?_) (fun h9=> ?_)))))))
     ·(try simp only [be]at h9)
      have q6:(cG i.op).mo>0:=h9;refine aj (az dk J J (aP 1 cB J J J J J (az zE J J (aP 3 cB J J J J J (ar J J jl J (ai J J (ac (au (aH () O J (bE (aJ J)) (congrArg Value.bool (decide_eq_true (Ie hv.im q5 q6))) [] [] J J J)))))))))
     ·(try simp only [be]at h9)
      have q6:¬(xR i.op).mo>0:=by omega
      refine ax (aj (az dk J J (aP 1 cB J J J J J (az kR J J (aP 3 t3 J J J J J (aO (bX underlying3 underlying138 J (c:=(cG i.op).bt) (by rcases hb with hb|hb<;>rw [show(xR i.op).bt=(cG i.op).bt from J,hb]<;>rfl)) J (ar J J (gj (by omega) (by simp [IntKind.bits];omega) (Jl hb).1) J (ar J J ci J (ai J J (ac (au (aH () O J (bE (aJ J)) (congrArg Value.bool (decide_eq_true (si hi.1 (Jl hb).2.1 (Id hv.im q5 q6)))) [] [] J J J))))))))))))
theorem Ko{i:Qi}(hv:VQ i)(hb:(cG i.op).bt=18∨(cG i.op).bt=22):IntKind.u32.wrap (i.op*67108864+i.d*4194304+i.a*262144+i.b*16384+i.imm%2^(cG i.op).bt.toNat)=lD i:=by
 have b1:=hv.op;have b2:=hv.d;have b3:=hv.a;have b4:=hv.b;have k:=ir i.op;unfold lD;rcases hb with h|h
 ·have hb0:i.b=0:=eJ (by rw [←k.2.2.2.2.1 h];exact hv.fb);rw [h,show((2:Int)^(18:Int).toNat)=262144 from J];exact bK (by omega) (by omega)
 ·have hb0:i.b=0:=eJ (by rw [←(k.2.2.2.2.2 h).2];exact hv.fb);have ha0:i.a=0:=eJ (by rw [←(k.2.2.2.2.2 h).1];exact hv.fa);rw [h,show((2:Int)^(22:Int).toNat)=4194304 from J];exact bK (by omega) (by omega)
theorem tf(i:Qi)(hi:0≤i.imm∧i.imm<4294967296)(hv:VQ i):
  Spec prog 199 [.agg (gL i).toArray] [] [] (X:=Unit) (fun _=>True) (fun _=> .tuple #[.int .u32 (lD i),.int .i64 0]) (fun _=> []) (fun _=> []):=by
 refine aI func199 J ntmps199 J fun w0 M H=> ?_
 have hof:=xp hv.op;have k1:=ir i.op;have k2:=oL i.op;obtain⟨o1,o2⟩:=hv.op;obtain⟨d1,d2⟩:=hv.d;obtain⟨a1,a2⟩:=hv.a;obtain⟨e1,e2⟩:=hv.b;have hfb:=hv.fb;have hfa:=hv.fa;refine aj (bU J J fun b1=>ai J J (ai J J (aG J (aO (aL ew J J J (aX (k:=1) J)) J (ak (xs:= [.tmp 7]) (uN i hi hv) M_ [] [] [] (fun _ _=>ai J J (ac (aS (ad J J (aO (ch J) J (ac (ae J (fun h1=> ?_) (fun h1=> ?_)))))))))))))
 ·cases h1
 ·(try simp only [be]at h1)
  refine ax (aj (az bl J J (aP 1 t3 J J J J J (aO (bX underlying3 underlying41 J (by first|exact bK (by omega) (by omega)|rfl)) J (ar J J (dr (by first|exact bK (by omega) (by omega)|rfl)) J (az fN J J (aP 1 t3 J J J J J (aO (bX underlying3 underlying41 J (by first|exact bK (by omega) (by omega)|rfl)) J (ar J J (dr (by first|exact bK (by omega) (by omega)|rfl)) J (ar J J (bi (by first|exact bK (by omega) (by omega)|rfl)) J (az kW J J (aP 1 t3 J J J J J (aO (bX underlying3 underlying41 J (by first|exact bK (by omega) (by omega)|rfl)) J (ar J J (dr (by first|exact bK (by omega) (by omega)|rfl)) J (ar J J (bi (by first|exact bK (by omega) (by omega)|rfl)) J (az kV J J (aP 1 t3 J J J J J (aO (bX underlying3 underlying41 J (by first|exact bK (by omega) (by omega)|rfl)) J ?_))))))))))))))))));refine ar J J (dr (by first|exact bK (by omega) (by omega)|rfl)) J (ar J J (bi (by first|exact bK (by omega) (by omega)|rfl)) J (ai J J (aG J (az bl J J (aP 1 t3 J J J J J (ak (xs:= [.tmp 31]) (tB i.op) Et [] [] [] (fun _ _=> ?_)))))));rw [hof];refine aO (mB GD t3 J J) J (ai J J (ac (aS (ad J J (ar J J aY J (ac (ae J (fun h2=> ?_) (fun h2=> ?_))))))))
  ·(try simp only [be]at h2)
   have q3:(cG i.op).bt=0:=h2;refine aj (ad J J (ai J J (ai J J (ac (au (aH () O J (FL (aJ J) (aJ J)) (congrArg (fun z=>Value.tuple #[Value.int .u32 z,Value.int .i64 0]) (by unfold lD;rw [q3,show((2:Int)^(0:Int).toNat)=1 from J];omega)) [] [] J J J))))))
  ·(try simp only [be]at h2)
   have q3:¬(cG i.op).bt=0:=h2;have hb:(cG i.op).bt=18∨(cG i.op).bt=22:=by have:=k1.2.2.2.1;omega
   have hp:=Jl hb;have hrm:=Int.emod_lt_of_pos i.imm hp.2.1;have hrn:=Int.emod_nonneg i.imm (show(2:Int)^(cG i.op).bt.toNat≠0 by omega);refine ax (aj (ad J J (az dk J J (aP 1 cB J J J J J (ad J J (aO (bX underlying3 underlying138 J (c:=(cG i.op).bt) (by rcases hb with hb|hb<;>rw [show(xR i.op).bt=(cG i.op).bt from J,hb]<;>rfl)) J (ar J J (gj (by omega) (by simp [IntKind.bits];omega) hp.1) J (ar J J (gd (by omega) (Int.tmod_eq_emod_of_nonneg hi.1)) J (ar J J (bi (c:=lD i) (Ko hv hb)) J (ai J J (ai J J (ac (au (aH () O J (FL (aJ J) (aJ J)) J [] [] J J J))))))))))))))
theorem MN{i:Qi}(hv:VQ i):lD i/67108864=i.op∧lD i/4194304%16=i.d∧((cG i.op).a=true→lD i/262144%16=i.a)∧((cG i.op).b=true→lD i/16384%16=i.b)∧((cG i.op).bt=18∨(cG i.op).bt=22→lD i%2^(cG i.op).bt.toNat=i.imm%2^(cG i.op).bt.toNat):=by
 have b1:=hv.op;have b2:=hv.d;have b3:=hv.a;have b4:=hv.b;have k:=ir i.op;unfold lD;rcases k.2.2.2.1 with h|h|h
 ·rw [h,show((2:Int)^(0:Int).toNat)=1 from J];refine⟨by omega,by omega,fun _=>by omega,fun _=>by omega,fun h=>by omega⟩
 ·have hb0:i.b=0:=eJ (by rw [←k.2.2.2.2.1 h];exact hv.fb);rw [h,show((2:Int)^(18:Int).toNat)=262144 from J];refine⟨by omega,by omega,fun _=>by omega,fun hb=> ?_,fun h=>by omega⟩;rw [k.2.2.2.2.1 h]at hb;cases hb
 ·have hb0:i.b=0:=eJ (by rw [←(k.2.2.2.2.2 h).2];exact hv.fb);have ha0:i.a=0:=eJ (by rw [←(k.2.2.2.2.2 h).1];exact hv.fa);rw [h,show((2:Int)^(22:Int).toNat)=4194304 from J];refine⟨by omega,by omega,fun ha=> ?_,fun hb=> ?_,fun h=>by omega⟩
  ·rw [(k.2.2.2.2.2 h).1]at ha;cases ha
  ·rw [(k.2.2.2.2.2 h).2]at hb;cases hb
theorem Fz{n z:Int}(hn:0≤n∧n<4294967296)(hz:z=18∨z=22):wC z (n%2^z.toNat)=wC z n:=by
 have hp:=Jl hz;have h1:=Int.emod_nonneg n (show(2:Int)^z.toNat≠0 by omega);have h2:=Int.emod_lt_of_pos n hp.2.1;rw [Ja hn hz,Ja ⟨h1,by omega⟩ hz,Int.emod_emod_of_dvd _ (Int.dvd_refl _)]
theorem J0{i:Qi}(hi:0≤i.imm∧i.imm<4294967296)(hv:VQ i)(hk:(cG i.op).kd=2)(hb:(cG i.op).bt=18∨(cG i.op).bt=22):i.imm<2^(cG i.op).bt.toNat:=by
 have hp:=Jl hb;by_cases hm:(cG i.op).mo>0
 ·have h1:=Ie hv.im hk hm;have h2:=oL i.op;have h3:(262144:Int)≤2^(cG i.op).bt.toNat:=by rcases hb with h|h<;>rw [h]<;>decide
  omega
 ·exact si hi.1 hp.2.1 (Id hv.im hk hm)
theorem tg(i:Qi)(hi:0≤i.imm∧i.imm<4294967296)(hv:VQ i):
  Spec prog 180 [.int .u32 (lD i)] [] [] (X:=Unit) (fun _=>True) (fun _=> .tuple #[.agg (gL i).toArray,.int .i64 0]) (fun _=> []) (fun _=> []):=by
 refine aI func180 J ntmps180 J fun w0 M H=> ?_
 have hof:=xp hv.op;have k1:=ir i.op;have k2:=oL i.op;have hwb:=x7 (i:=i) (by unfold oj;simp only [Bool.and_eq_true];exact⟨⟨⟨⟨hv.k,hv.fd⟩,hv.fa⟩,hv.fb⟩,hv.im⟩);obtain⟨f0,f1,f2,f3,f4⟩:=MN hv;refine aj (aZ ew J J fun b2=>ai J J (aG J (ad J J (ar J J (jT (by decide) (nZ hwb (by decide))) J (aO (bX underlying41 underlying3 J (c:=i.op) (by rw [f0];exact bc (by have:=hv.op;omega) (by have:=hv.op;omega))) J (aO (aV (parts:= [(0,.tmp 10)]) ew lw J J) J (aZ ew J J fun b4=>aq (k:=4) ew J J J J J J (aG J (az bl J J (aP 4 t3 J J J J J (ak (xs:= [.tmp 13]) (tB i.op) Et [] [] [] (fun _ _=> ?_))))))))))));rw [hof];refine aZ eN J J fun b5=>aq (k:=5) eN J J J J J J (ac (br (X:=Unit) (fun _=>True) (fun _=> [(0,.int .u32 (lD i)),(2,.pointer (some ⟨b2,0,none⟩)),(3,.int .i64 0),(4,.pointer (some ⟨b4,0,none⟩)),(5,.pointer (some ⟨b5,0,none⟩))]) (fun _=> [(2,bj b2 118 (gL ⟨0,0,0,0,0⟩)),(4,bj b4 118 (gL ⟨i.op,i.d,0,0,0⟩)),(5,bj b5 275 (Lh (xR i.op)))]) (fun _=> []) ?_ (fun _ _=> ?_)))
 ·refine aj (az zJ J J (aP 5 t4 J J J J J (ac (ae J (fun h1=> ?_) (fun h1=> ?_)))))
  ·have q1:(cG i.op).d=true:=h1;refine ap (ad J J (ar J J (jT (by decide) (nZ hwb (by decide))) J (ar J J (gd (by decide) (Int.tmod_eq_emod_of_nonneg (Int.ediv_nonneg hwb.1 (by decide)))) J (aO (bX underlying41 underlying3 J (c:=i.d) (by rw [f1];exact bc (by have:=hv.d;omega) (by have:=hv.d;omega))) J (az fN J J (aK (k:=4) t3 J J J J J J J J (ac (aM () O J (by rfl) J))))))))
  ·have q1:(cG i.op).d=false:=by
    have:=h1;exact this
   have hd0:(0:Int)=i.d:=(eJ (by rw [←q1];exact hv.fd)).symm;refine ax (aM () O J (by rw [hd0];rfl) J)
 ·refine br (X:=Unit) (fun _=>True) (fun _=> [(0,.int .u32 (lD i)),(2,.pointer (some ⟨b2,0,none⟩)),(3,.int .i64 0),(4,.pointer (some ⟨b4,0,none⟩)),(5,.pointer (some ⟨b5,0,none⟩))]) (fun _=> [(2,bj b2 118 (gL ⟨0,0,0,0,0⟩)),(4,bj b4 118 (gL ⟨i.op,i.d,i.a,0,0⟩)),(5,bj b5 275 (Lh (xR i.op)))]) (fun _=> []) ?_ (fun _ _=> ?_)
  ·refine aj (az zI J J (aP 5 t4 J J J J J (ac (ae J (fun h2=> ?_) (fun h2=> ?_)))))
   ·have q2:(cG i.op).a=true:=h2;refine ap (ad J J (ar J J (jT (by decide) (nZ hwb (by decide))) J (ar J J (gd (by decide) (Int.tmod_eq_emod_of_nonneg (Int.ediv_nonneg hwb.1 (by decide)))) J (aO (bX underlying41 underlying3 J (c:=i.a) (by rw [f2 q2];exact bc (by have:=hv.a;omega) (by have:=hv.a;omega))) J (az kW J J (aK (k:=4) t3 J J J J J J J J (ac (aM () O J (by rfl) J))))))))
   ·have q2:(cG i.op).a=false:=by
     have:=h2;exact this
    have ha0:(0:Int)=i.a:=(eJ (by rw [←q2];exact hv.fa)).symm;refine ax (aM () O J (by rw [ha0];rfl) J)
  ·refine br (X:=Unit) (fun _=>True) (fun _=> [(0,.int .u32 (lD i)),(2,.pointer (some ⟨b2,0,none⟩)),(3,.int .i64 0),(4,.pointer (some ⟨b4,0,none⟩)),(5,.pointer (some ⟨b5,0,none⟩))]) (fun _=> [(2,bj b2 118 (gL ⟨0,0,0,0,0⟩)),(4,bj b4 118 (gL ⟨i.op,i.d,i.a,i.b,0⟩)),(5,bj b5 275 (Lh (xR i.op)))]) (fun _=> []) ?_ (fun _ _=> ?_)
   ·refine aj (az zH J J (aP 5 t4 J J J J J (ac (ae J (fun h3=> ?_) (fun h3=> ?_)))))
    ·have q3:(cG i.op).b=true:=h3;refine ap (ad J J (ar J J (jT (by decide) (nZ hwb (by decide))) J (ar J J (gd (by decide) (Int.tmod_eq_emod_of_nonneg (Int.ediv_nonneg hwb.1 (by decide)))) J (aO (bX underlying41 underlying3 J (c:=i.b) (by rw [f3 q3];exact bc (by have:=hv.b;omega) (by have:=hv.b;omega))) J (az kV J J (aK (k:=4) t3 J J J J J J J J (ac (aM () O J (by rfl) J))))))))
    ·have q3:(cG i.op).b=false:=by
      have:=h3;exact this
     have hb0:(0:Int)=i.b:=(eJ (by rw [←q3];exact hv.fb)).symm;refine ax (aM () O J (by rw [hb0];rfl) J)
   ·refine br (X:=Unit) (fun _=>True) (fun _=> [(0,.int .u32 (lD i)),(2,.pointer (some ⟨b2,0,none⟩)),(3,.int .i64 0),(4,.pointer (some ⟨b4,0,none⟩)),(5,.pointer (some ⟨b5,0,none⟩))]) (fun _=> [(2,bj b2 118 (gL ⟨0,0,0,0,0⟩)),(4,bj b4 118 (gL ⟨i.op,i.d,i.a,i.b,i.imm%2^(cG i.op).bt.toNat⟩)),(5,bj b5 275 (Lh (xR i.op)))]) (fun _=> []) ?_ (fun _ _=> ?_)
    ·refine aj (az kR J J (aP 5 t3 J J J J J (ar J J dV J (ac (ae J (fun h4=> ?_) (fun h4=> ?_))))))
     ·(try simp only [be]at h4)
      have q4:(cG i.op).bt>0:=h4;have hb:(cG i.op).bt=18∨(cG i.op).bt=22:=by have:=k1.2.2.2.1;omega
      have hp:=Jl hb;refine ap (ad J J (az kR J J (aP 5 t3 J J J J J (aO (bX underlying3 underlying138 J (c:=(cG i.op).bt) (by rcases hb with hb|hb<;>rw [show(xR i.op).bt=(cG i.op).bt from J,hb]<;>rfl)) J (ar J J (gj (by omega) (by simp [IntKind.bits];omega) hp.1) J (ar J J (gd (by omega) ((Int.tmod_eq_emod_of_nonneg hwb.1).trans (f4 hb))) J (az dk J J (aK (k:=4) cB J J J J J J J J (ac (aM () O J (by rfl) J))))))))))
     ·(try simp only [be]at h4)
      have h4:¬(xR i.op).bt>0:=by omega
      have h4:¬(cG i.op).bt>0:=h4;have q4:(cG i.op).bt=0:=by have:=k1.2.1;omega
      have hm0:(0:Int)=i.imm%2^(cG i.op).bt.toNat:=by
       rw [q4,show((2:Int)^(0:Int).toNat)=1 from J];omega
      refine ax (aM () O J (by rw [hm0];rfl) J)
    ·refine br (X:=Unit) (fun _=>True) (fun _=> [(0,.int .u32 (lD i)),(2,.pointer (some ⟨b2,0,none⟩)),(3,.int .i64 0),(4,.pointer (some ⟨b4,0,none⟩)),(5,.pointer (some ⟨b5,0,none⟩))]) (fun _=> [(2,bj b2 118 (gL ⟨0,0,0,0,0⟩)),(4,bj b4 118 (gL i)),(5,bj b5 275 (Lh (xR i.op)))]) (fun _=> []) ?_ (fun _ _=> ?_)
     ·refine aj (az zG J J (aP 5 t4 J J J J J (ac (ae J (fun h5=> ?_) (fun h5=> ?_)))))
      ·have q5:(cG i.op).kd=1:=of_decide_eq_true h5;have hb:=k1.1 q5;have hp:=Jl hb;have h1:=Int.emod_nonneg i.imm (show(2:Int)^(cG i.op).bt.toNat≠0 by omega);have h2:=Int.emod_lt_of_pos i.imm hp.2.1;refine ap (az dk J J (aP 4 cB J J J J J (az kR J J (aP 5 t3 J J J J J ?_))));refine d9 (xs:= [.tmp 49,.tmp 51]) (pH (i.imm%2^(cG i.op).bt.toNat) (cG i.op).bt ⟨h1,by omega⟩ hb) Im [] [] [] J J J J J J J J (fun _ _=>J) (fun _ _ _=>J) J (fun _ _=> ?_);rw [Fz hi hb,If hv.im q5];refine az dk J J (aK (k:=4) cB J J J J J J J J (ac (aM () O J (by rfl) J)))
      ·have q5:¬(cG i.op).kd=1:=of_decide_eq_false h5;have hm1:(⟨i.op,i.d,i.a,i.b,i.imm%2^(cG i.op).bt.toNat⟩:Qi)=i:=by
        have:i.imm%2^(cG i.op).bt.toNat=i.imm:=by
         by_cases h0:(cG i.op).kd=0
         ·rw [Ig hv.im h0];simp
         ·have h2:(cG i.op).kd=2:=by have:=k2.2.1;omega
          exact Int.emod_eq_of_lt hi.1 (J0 hi hv h2 (by have:=k1.2.2.2.1;have:=k2.1;omega))
        rw [this]
       refine ax (aM () O J (by rw [hm1];rfl) J)
     ·refine aj (aO (aL ew J J J (aX (k:=4) J)) J (ak (xs:= [.tmp 55]) (tf i hi hv) Nj [] [] [] (fun _ _=>ad J J (aO (ce J J) J (aO (ce J J) J (ai J J (ai J J (ac (aS (ad J J (ar J J df J (ad J J (aA [] J J O (fun hg6=>am J) J (aA [(62,_)] J J ⟨J,O⟩ (fun hg7=>am J) J (aA [(62,_),(63,_)] J J ⟨J,J,O⟩ (fun hg8=>aT J J df) J (aO (aQ J J J (by first|exact av|exact aC|rfl)) J ?_))))))))))))))));refine ac (ae J (fun h9=> ?_) (fun h9=> ?_))
      ·exfalso;simp at h9
      ·(try simp only [be]at h9)
       refine ax (aj (aO (aL ew J J J (aX (k:=4) J)) J (aq (k:=2) ew J J J J J J (ai J J (ac (au (aH () O J (FL (bh ew J J J (aX (k:=2) J)) (aJ J)) J [] [] J J J)))))))
end Go.Proofs.YtedmdgbmdplifaaGreat
