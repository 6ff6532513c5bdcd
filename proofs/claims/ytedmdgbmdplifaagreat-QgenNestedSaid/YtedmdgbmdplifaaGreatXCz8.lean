/-
  The statement QgenNestedSaid: the law QgenNested answers true and turns nothing that was there. No condition.
-/
import Derived.Test.YtedmdgbmdplifaaGreatRows
import Derived.Test.YtedmdgbmdplifaaGreatXCa
import Derived.Test.YtedmdgbmdplifaaGreatXCb
import Derived.Test.YtedmdgbmdplifaaGreatXCc
import Derived.Test.YtedmdgbmdplifaaGreatXCd
import Derived.Test.YtedmdgbmdplifaaGreatXCe
import Derived.Test.YtedmdgbmdplifaaGreatXCf
import Derived.Test.YtedmdgbmdplifaaGreatXCg
import Derived.Test.YtedmdgbmdplifaaGreatXCh
set_option maxHeartbeats 32000000
set_option maxRecDepth 100000
namespace Go.Proofs.YtedmdgbmdplifaaGreat
set_option linter.unusedSimpArgs false
set_option linter.unusedVariables false
open Go.RowKit

def K5:Px:= .mk 5 0 oNil []
def nOps:List ByteArray:= [⟨#[45]⟩,⟨#[43]⟩,⟨#[37]⟩,⟨#[47]⟩,⟨#[60]⟩,⟨#[42]⟩,⟨#[94]⟩,⟨#[62,62]⟩]
def BL:Nat→Px
 | 0=>K5
 | i+1=>if i%2=0 then .mk 7 0 (nOps.getD i oNil) [K5,BL i]else .mk 7 0 (nOps.getD i oNil) [BL i,.mk 4 0 oNil [K5]]
def JO(e:Px):Nat→Py
 | 0=> .mk 3 oNil [K5,e] [] []
 | j+1=> .mk 4 oNil [K5] [JO e j,.mk 7 oNil [e] [] []] [.mk 7 oNil [K5] [] [],JO e j]
def Ow(i j:Nat):List Pf:= [⟨cN,[],[JO (BL i) j,.mk 7 oNil [BL i] [] []]⟩]
theorem JP:((List.range 8).all fun i=>(List.range 3).all fun j=>PI ((Ow i j).map uF)&&decide (fT ((Ow i j).map uF)=0))=true:=by kernel_rfl
theorem F9{i j:Nat}(hi:i<8)(hj:j<3){fs:List Tf}(h:fs.map uo=Ow i j):GP fs∧fT fs=0:=by
 have h1:=List.all_eq_true.1 (List.all_eq_true.1 JP i (List.mem_range.2 hi)) j (List.mem_range.2 hj);rw [Bool.and_eq_true,decide_eq_true_eq]at h1;have hg:=kA h1.1;have hc:=h1.2;rw [←Df h]at hg hc;rw [Ah]at hc;exact⟨Og hg,hc⟩
abbrev jY:Tx:= .mk 5 0 oNil bJ []
def A8(t:Tx)(l:List Ty):Asn:=⟨fun w F=>TxIn w F t∧TysIn w F l,fun h hs=>⟨TxIn.mono (fun _ hb=>hb) hs _ h.1,TysIn.mono (fun _ hb=>hb) hs _ h.2⟩⟩
theorem nr{w:World}{F:Nat→Prop}:TxIn w F jY:=⟨jw,trivial⟩
theorem Pv(w:World)(F:Nat→Prop)(_:AllIn w F []):(A8 jY []).pred w F:=⟨nr,trivial⟩
theorem Pu{nm:ByteArray}{v:SV}{t:Tx}(w:World)(F:Nat→Prop)(h:AllIn w F [A8 t [],own 61 4 dt (sv v) [jY,t]]):(A8 (.mk 7 0 nm v [jY,t]) []).pred w F:=by
 obtain⟨⟨_,a0,b0⟩,⟨_,a1,b1⟩,_⟩:=h;exact⟨⟨cW a1 b1,nr,TxIn.mono b0 (fun _ _=>J) _ a0.1,O⟩,O⟩
theorem Pt{nm:ByteArray}{v u:SV}{t:Tx}(w:World)(F:Nat→Prop)(h:AllIn w F [A8 t [],own 61 4 dt (sv u) [jY],own 61 4 dt (sv v) [t,.mk 4 0 oNil u [jY]]]):(A8 (.mk 7 0 nm v [t,.mk 4 0 oNil u [jY]]) []).pred w F:=by
 obtain⟨⟨_,a0,b0⟩,⟨_,a1,b1⟩,⟨_,a2,b2⟩,_⟩:=h;exact⟨⟨cW a2 b2,TxIn.mono b0 (fun _ _=>J) _ a0.1,⟨cW a1 b1,nr,O⟩,O⟩,O⟩
abbrev IU(v:SV)(t:Tx):Ty:= .mk 3 oNil v [jY,t] bJ [] bJ []
abbrev yO(v:SV)(t:Tx):Ty:= .mk 7 oNil v [t] bJ [] bJ []
theorem Ps{v:SV}{t:Tx}(w:World)(F:Nat→Prop)(h:AllIn w F [A8 t [],own 61 4 dt (sv v) [jY,t]]):(A8 t [IU v t]).pred w F:=by
 obtain⟨⟨_,a0,b0⟩,⟨_,a1,b1⟩,_⟩:=h;exact⟨TxIn.mono b0 (fun _ _=>J) _ a0.1,⟨⟨cW a1 b1,nr,TxIn.mono b0 (fun _ _=>J) _ a0.1,O⟩,HT,HT⟩,O⟩
theorem Pq{a b c d e:SV}{t:Tx}{y:Ty}(w:World)(F:Nat→Prop)(h:AllIn w F [A8 t [y],own 61 4 dt (sv a) [jY],own 61 4 dt (sv b) [t],own 64 5 eu (sv c) [y,yO b t],own 61 4 dt (sv d) [jY],own 64 5 eu (sv e) [yO d jY,y]]):
  (A8 t [.mk 4 oNil a [jY] c [y,yO b t] e [yO d jY,y]]).pred w F:=by
 obtain⟨⟨_,a0,b0⟩,⟨_,a1,b1⟩,⟨_,a2,b2⟩,⟨_,a3,b3⟩,⟨_,a4,b4⟩,⟨_,a5,b5⟩,_⟩:=h;have h0:=TxIn.mono b0 (fun _ _=>J) _ a0.1;have h1:=TyIn.mono b0 (fun _ _=>J) _ a0.2.1;exact⟨h0,⟨⟨cW a1 b1,nr,O⟩,⟨cW a3 b3,h1,⟨⟨cW a2 b2,h0,O⟩,HT,HT⟩,O⟩,⟨cW a5 b5,⟨⟨cW a4 b4,nr,O⟩,HT,HT⟩,h1,O⟩⟩,O⟩
theorem Spec.ro2{P:Program}{n:Nat}{vs:List Value}{A B C D:Asn}{L:List Asn}{X:Type}{φ:X→Prop}{v:X→Value}{L' R':X→List Asn}(h:Spec P n vs L [A,D] φ v L' R')(hA:∀w F,AllIn w F [B,C]→A.pred w F):Spec P n vs L [B,C,D] φ v L' R':=fun w M H ⟨F,hF⟩=>
 h w M H ⟨F,hF.touch,hF.has,hF.lt,hF.mine,hF.apart,fun k Z hk=>by
  obtain⟨G1,g1,q1⟩:=hF.ro 0 B J;obtain⟨G2,g2,q2⟩:=hF.ro 1 C J;obtain⟨G3,g3,q3⟩:=hF.ro 2 D J
  match k,hk with
  | 0,hk=>
   cases hk;exact⟨fun b=>G1 b∨G2 b,hA w _ ⟨⟨G1,g1,fun _ h=> .inl h⟩,⟨G2,g2,fun _ h=> .inr h⟩,O⟩,fun b hb=>hb.elim (q1 b) (q2 b)⟩
  | 1,hk=>
   cases hk;exact⟨G3,g3,q3⟩
  | k+2,hk=>simp at hk⟩
theorem Pp{b v:SV}{body:List Ty}(w:World)(F:Nat→Prop)(h:AllIn w F [own 66 3 iW (sv v) [⟨cN,bJ,[],b,body⟩],bF b body]):(cx v [⟨cN,bJ,[],b,body⟩]).pred w F:=by
 obtain⟨⟨_,a0,b0⟩,⟨_,a1,b1⟩,_⟩:=h;refine⟨cW a0 b0,fun f hf=> ?_⟩;rw [List.mem_singleton.1 hf];exact⟨jw,a1.1.mono b1,TysIn.mono b1 (fun _ _=>J) _ a1.2⟩
theorem Po{a b:SV}{t:Tx}{y:Ty}(w:World)(F:Nat→Prop)(h:AllIn w F [A8 t [y],own 61 4 dt (sv a) [t],own 64 5 eu (sv b) [y,yO a t]]):(bF b [y,yO a t]).pred w F:=by
 obtain⟨⟨_,a0,b0⟩,⟨_,a1,b1⟩,⟨_,a2,b2⟩,_⟩:=h;have h0:=TxIn.mono b0 (fun _ _=>J) _ a0.1;have h1:=TyIn.mono b0 (fun _ _=>J) _ a0.2.1;exact⟨cW a2 b2,h1,⟨⟨cW a1 b1,h0,O⟩,HT,HT⟩,O⟩
theorem xu(dp sp:Int)(v:SV)(xs:List Int)(hx:∀z∈xs,oW z):
  Spec Tryz.prog 8 [.int .i64 dp,.int .i64 sp,sv v] [] [sl 1 eU (sv v) xs] (X:=Unit) (fun _=>True) (fun _=> .bool true) (fun _=> []) (fun _=> []):=by
 refine aI Tryz.func8 J Tryz.ntmps8 J fun w0 M H=> ?_
 have hd8:=oO (x:=dp) (n:=8) (by decide);have hk3:=oO (x:=sp) (n:=3) (by decide);obtain⟨di,hd⟩:∃d:Nat,tK dp 8=(d:Int):=⟨_,(Int.toNat_of_nonneg hd8.1).symm⟩
 obtain⟨k,hk⟩:∃k:Nat,tK sp 3=(k:Int):=⟨_,(Int.toNat_of_nonneg hk3.1).symm⟩
 rw [hd]at hd8;rw [hk]at hk3;have hol:nOps.length=8:=J;refine aj (ai J J (aG J (ak (xs:= []) km KI [] [] [] (fun _ _=>ai J J (aG J (aO (aV (cs:=(dt jY).toArray) (parts:= [(0,.const (.int .i64 5))]) co pM J (by kernel_rfl)) J (aZ co J J fun b8=>aq (k:=8) co J J J J J J (aG J (aO (aL co J J J (aX (k:=8) J)) J (aZ co J J fun b9=>aq (k:=9) co J J J J J J ?_))))))))));refine aG J (cD eS nOps (parts:= [(0,.const (.string (ByteArray.mk #[45]))),(1,.const (.string (ByteArray.mk #[43]))),(2,.const (.string (ByteArray.mk #[37]))),(3,.const (.string (ByteArray.mk #[47]))),(4,.const (.string (ByteArray.mk #[60]))),(5,.const (.string (ByteArray.mk #[42]))),(6,.const (.string (ByteArray.mk #[94]))),(7,.const (.string (ByteArray.mk #[62,62])))]) Tryz.underlying46 t9 J (by decide) (by intro _;rfl) J (by decide) (by decide) J J J J fun v19=>ai J J (ac (aS (ai J J (ac (aB (bQ 70 [] (L:= []) (C:=A8 jY []) J Pv (bv (X:=Nat×Tx) (fun x=>x.1≤di∧qZ x.2=BL x.1) (fun x=> [(1,.int .i64 sp),(0,.int .i64 dp),(2,sv v),(7,.bool true),(8,.pointer (some ⟨b8,0,none⟩)),(9,.pointer (some ⟨b9,0,none⟩)),(10,sv v19),(11,.int .i64 (x.1:Int))]) (fun x=> [(8,bj b8 61 (dt jY)),(9,bj b9 61 (dt x.2)),(19,own 9 1 eS (sv v19) nOps),(70,A8 x.2 [])]) (fun x=> [(0,sl 1 eU (sv v) xs)]) (fun x=>di-x.1) (0,jY) ⟨Nat.zero_le _,J⟩ J J J (fun⟨i,t⟩⟨n1,n2⟩=> ?_)))))))));dsimp only at n1 n2 ⊢;refine aS (ad J J (ad J J (ak (xs:= [.tmp 21,.const (.int .i64 8)]) (mK dp 8 (by decide)) Hh [] [] [] (fun _ _=> ?_))));rw [hd];refine ar J J ci J (ac (ae J (fun h1=> ?_) (fun h1=> ?_)))
 ·(try simp only [be]at h1)
  have hi:i<di:=by omega
  have hx1:nOps[i]?=some (nOps.getD i oNil):=by rw [List.getD_eq_getElem?_getD,List.getElem?_eq_getElem (by omega)];rfl
  refine ax (a_ (aB (aj (ad J J (ar J J (gd (by omega) (by first|exact kc (by omega)|rfl)) J (ar J J aY J (ac (ae J (fun h2=> ?_) (fun h2=> ?_)))))))))
  ·(try simp only [be]at h2)
   have he:i%2=0:=by omega
   refine bH [29,30,31,32,33,34,35,36] _ J (bk (V:= [(0,29,_),(1,30,_),(2,31,_),(3,32,_),(4,33,_),(5,34,_)]) [0,1,2,3,4,5] 6 [6,5,4] [7] (fun v35=> [(7,36,_)]) J J (aa (aD J (am J)) (aa (aD J (am J)) (aa (aD J (aR (j:=i) Tryz.underlying46 t9 J J (bs (k:=19) J) J (by omega))) (aa (aD J (ah t9 J J (bD (bs (k:=19) J) (by intro _;rfl) hx1 (by rfl)))) (aa (aD J (aL co J J J (aX (k:=8) J))) (aa (aD J (aL co J J J (aX (k:=9) J))) aw)))))) J J J J J J J J J J J (fun _ _=>J) J (gl dt [jY,t] (parts:= [(0,.tmp 33),(1,.tmp 34)]) Tryz.underlying59 co J (by decide) (by intro _;rfl) J (by decide) (by decide) J J J) (fun v35 _=>bI [7,0,1,2,3] 8 [8,7,6,5,4,3,2,1,0] [] (fun _=> []) J J (aa (aD J (aV (cs:=(dt (.mk 7 0 (nOps.getD i oNil) v35 [jY,t]:Tx)).toArray) (parts:= [(0,.const (.int .i64 7)),(2,.tmp 32),(3,.tmp 35)]) co pM J (by kernel_rfl))) (aa (aD J (am J)) (aa (aD J (am J)) (aa (aD J (aR (j:=i) Tryz.underlying46 t9 J J (bs (k:=19) J) J (by omega))) (aa (aD J (ah t9 J J (bD (bs (k:=19) J) (by intro _;rfl) hx1 (by rfl)))) aw))))) J J J J J J J J J (fun _ _=>J) J (bM (k:=9) co J J J J J J) (fun _ _=>bp [] J J aw J J J ?_)));refine ap (ad J J (ar J J (bi (by first|exact bc (by omega) (by omega)|rfl)) J (ai J J (ac (bQ 70 [70,35] J (Pu (nm:=nOps.getD i oNil)) ?_)))));refine aM (i+1,(.mk 7 0 (nOps.getD i oNil) v35 [jY,t]:Tx)) ⟨⟨by dsimp only;omega,by show _=BL (i+1);unfold BL;rw [if_pos he,←n2];rfl⟩,by dsimp only;omega⟩ J J J
  ·(try simp only [be]at h2)
   have he:¬i%2=0:=by omega
   refine bH [37,38,39,40,41,42,43,44,45,46] _ J (bk (V:= [(0,37,_),(1,38,_),(2,39,_),(3,40,_),(4,41,_),(5,42,_)]) [0,1,2,3,4,5] 6 [6,5] [7] (fun v43=> [(7,44,_)]) J J (aa (aD J (am J)) (aa (aD J (am J)) (aa (aD J (aR (j:=i) Tryz.underlying46 t9 J J (bs (k:=19) J) J (by omega))) (aa (aD J (ah t9 J J (bD (bs (k:=19) J) (by intro _;rfl) hx1 (by rfl)))) (aa (aD J (aL co J J J (aX (k:=9) J))) (aa (aD J (aL co J J J (aX (k:=8) J))) aw)))))) J J J J J J J J J J J (fun _ _=>J) J (ef dt jY Tryz.underlying59 co J (by decide) (by decide) J J J) (fun v43 _=>bk [7,0,1,2,3,4] 8 [8,7,6,5,4] [9] (fun v45=> [(9,46,_)]) J J (aa (aD J (aV (cs:=(dt (.mk 4 0 oNil v43 [jY])).toArray) (parts:= [(0,.const (.int .i64 4)),(3,.tmp 43)]) co pM J (by kernel_rfl))) (aa (aD J (am J)) (aa (aD J (am J)) (aa (aD J (aR (j:=i) Tryz.underlying46 t9 J J (bs (k:=19) J) J (by omega))) (aa (aD J (ah t9 J J (bD (bs (k:=19) J) (by intro _;rfl) hx1 (by rfl)))) (aa (aD J (aL co J J J (aX (k:=9) J))) aw)))))) J J J J J J J J J J J (fun _ _=>J) J (gl dt [t,.mk 4 0 oNil v43 [jY]] (parts:= [(0,.tmp 41),(1,.tmp 44)]) Tryz.underlying59 co J (by decide) (by intro _;rfl) J (by decide) (by decide) J J J) (fun v45 _=>bI [9,0,1,2,3] 10 [10,9,8,7,6,5,4,3,2,1,0] [] (fun _=> []) J J (aa (aD J (aV (cs:=(dt (.mk 7 0 (nOps.getD i oNil) v45 [t,.mk 4 0 oNil v43 [jY]]:Tx)).toArray) (parts:= [(0,.const (.int .i64 7)),(2,.tmp 40),(3,.tmp 45)]) co pM J (by kernel_rfl))) (aa (aD J (am J)) (aa (aD J (am J)) (aa (aD J (aR (j:=i) Tryz.underlying46 t9 J J (bs (k:=19) J) J (by omega))) (aa (aD J (ah t9 J J (bD (bs (k:=19) J) (by intro _;rfl) hx1 (by rfl)))) aw))))) J J J J J J J J J (fun _ _=>J) J (bM (k:=9) co J J J J J J) (fun _ _=>bp [] J J aw J J J ?_))));refine ap (ad J J (ar J J (bi (by first|exact bc (by omega) (by omega)|rfl)) J (ai J J (ac (bQ 70 [70,43,45] J (Pt (nm:=nOps.getD i oNil)) ?_)))))
   refine aM (i+1,(.mk 7 0 (nOps.getD i oNil) v45 [t,.mk 4 0 oNil v43 [jY]]:Tx)) ⟨⟨by dsimp only;omega,by show _=BL (i+1);unfold BL;rw [if_neg he,←n2];rfl⟩,by dsimp only;omega⟩ J J J
 ·(try simp only [be]at h1)
  have hi:i=di:=by omega
  subst hi;refine bx (aj (aO (aL co J J J (aX (k:=8) J)) J (aO (aL co J J J (aX (k:=9) J)) J (cD dt [jY,t] (parts:= [(0,.tmp 47),(1,.tmp 48)]) Tryz.underlying59 co J (by decide) (by intro _;rfl) J (by decide) (by decide) J J J J fun v49=>aO (aV (cs:=(eu (IU v49 t)).toArray) (parts:= [(0,.const (.int .i64 3)),(2,.tmp 49)]) dJ oq J (by kernel_rfl)) J (aZ dJ J J fun b12=>aq (k:=12) dJ J J J J J J (bQ 70 [70,49] J Ps (ac (aS (ai J J (ac (aB ?_)))))))))));refine bv (X:=Nat×Ty) (fun x=>x.1≤k∧Kn x.2=JO (BL i) x.1) (fun x=> [(1,.int .i64 sp),(2,sv v),(7,.bool true),(8,.pointer (some ⟨b8,0,none⟩)),(9,.pointer (some ⟨b9,0,none⟩)),(12,.pointer (some ⟨b12,0,none⟩)),(13,.int .i64 (x.1:Int))]) (fun x=> [(8,bj b8 61 (dt jY)),(9,bj b9 61 (dt t)),(12,bj b12 64 (eu x.2)),(70,A8 t [x.2])]) (fun x=> [(0,sl 1 eU (sv v) xs)]) (fun x=>k-x.1) (0,IU v49 t) ⟨Nat.zero_le _,by show _=JO (BL i) 0;rw [←n2];rfl⟩ J J J (fun⟨j,y⟩⟨m1,m2⟩=> ?_);dsimp only at m1 m2 ⊢;refine aS (ad J J (ad J J (ak (xs:= [.tmp 52,.const (.int .i64 3)]) (mK sp 3 (by decide)) Hh [] [] [] (fun _ _=> ?_))));rw [hk];refine ar J J ci J (ac (ae J (fun h3=> ?_) (fun h3=> ?_)))
  ·(try simp only [be]at h3)
   have hj:j<k:=by omega
   refine ax (a_ (aB (ap (aO (aL co J J J (aX (k:=8) J)) J (bA dt jY Tryz.underlying59 co J (by decide) (by decide) J J J J fun v58=>aO (aL dJ J J J (aX (k:=12) J)) J (aO (aL co J J J (aX (k:=9) J)) J (bA dt t Tryz.underlying59 co J (by decide) (by decide) J J J J fun v61=>aO (aV (cs:=(eu (yO v61 t)).toArray) (parts:= [(0,.const (.int .i64 7)),(2,.tmp 61)]) dJ oq J (by kernel_rfl)) J (cD eu [y,yO v61 t] (parts:= [(0,.tmp 59),(1,.tmp 62)]) Tryz.underlying62 dJ J (by decide) (by intro _;rfl) J (by decide) (by decide) J J J J fun v63=>aO (aL co J J J (aX (k:=8) J)) J (bA dt jY Tryz.underlying59 co J (by decide) (by decide) J J J J fun v65=>aO (aV (cs:=(eu (yO v65 jY)).toArray) (parts:= [(0,.const (.int .i64 7)),(2,.tmp 65)]) dJ oq J (by kernel_rfl)) J (aO (aL dJ J J J (aX (k:=12) J)) J (cD eu [yO v65 jY,y] (parts:= [(0,.tmp 66),(1,.tmp 67)]) Tryz.underlying62 dJ J (by decide) (by intro _;rfl) J (by decide) (by decide) J J J J fun v68=>aO (aV (cs:=(eu (.mk 4 oNil v58 [jY] v63 [y,yO v61 t] v68 [yO v65 jY,y]:Ty)).toArray) (parts:= [(0,.const (.int .i64 4)),(2,.tmp 58),(3,.tmp 63),(4,.tmp 68)]) dJ oq J (by kernel_rfl)) J (aq (k:=12) dJ J J J J J J (ac (ap ?_))))))))))))));refine ad J J (ar J J (bi (by first|exact bc (by omega) (by omega)|rfl)) J (ai J J (ac (bQ 70 [70,58,61,63,65,68] J Pq ?_))));refine aM (j+1,(.mk 4 oNil v58 [jY] v63 [y,yO v61 t] v68 [yO v65 jY,y]:Ty)) ⟨⟨by dsimp only;omega,by show _=JO (BL i) (j+1);unfold JO;rw [←m2,←n2];rfl⟩,by dsimp only;omega⟩ J J J
  ·(try simp only [be]at h3)
   have hj:j=k:=by omega
   subst hj;refine bx (aj (aO (aL dJ J J J (aX (k:=12) J)) J (aO (aL co J J J (aX (k:=9) J)) J (bA dt t Tryz.underlying59 co J (by decide) (by decide) J J J J fun v72=>aO (aV (cs:=(eu (yO v72 t)).toArray) (parts:= [(0,.const (.int .i64 7)),(2,.tmp 72)]) dJ oq J (by kernel_rfl)) J (cD eu [y,yO v72 t] (parts:= [(0,.tmp 70),(1,.tmp 73)]) Tryz.underlying62 dJ J (by decide) (by intro _;rfl) J (by decide) (by decide) J J J J fun v74=>aO (aV (cs:=(iW (⟨cN,bJ,[],v74,[y,yO v72 t]⟩:Tf)).toArray) (parts:= [(0,.const (.string (ByteArray.mk #[109,97,105,110]))),(2,.tmp 74)]) ge L7 J (by kernel_rfl)) J (aZ ge J J fun b14=>aq (k:=14) ge J J J J J J ?_))))));obtain⟨hgp,hch⟩:=F9 (i:=i) (j:=j) (by omega) (by omega) (fs:= [(⟨cN,bJ,[],v74,[y,yO v72 t]⟩:Tf)]) (by show [_]=_;unfold Ow;rw [←m2,←n2];rfl);refine bQ 70 [70,72,74] J Po (LY 0 83 (min xs.length 8) J (by omega) (ac (a_ ?_)))
   refine bH [76,77,78,79,80,81,82,83,84,15] _ J (bk (V:= [(0,76,_),(3,79,_),(4,80,_),(5,81,_),(6,82,_),(7,83,_)]) [0,3,4,5,6,7] 1 [1,0] [2] (fun v77=> [(2,78,_)]) J J (aa (aD J (aL ge J J J (aX (k:=14) J))) (aa (aD J (am J)) (aa (aD J (am J)) (aa (aD J (aU Tryz.underlying48 J (aN (k:=0) J))) (aa (aD J (y_ J J J)) (aa (aD J (lN (j:=(min xs.length 8)) Tryz.underlying48 cB J J (aN (k:=0) J) (by omega) (by omega))) aw)))))) J J J J J J J J J J J (fun _ _=>J) J (ef iW (⟨cN,bJ,[],v74,[y,yO v72 t]⟩:Tf) Tryz.underlying25 ge J (by decide) (by decide) J J J) (fun v77 _=>bk [2,3,4,5,6,7] 8 [8,7,6,5,4,3,2,1,0] [9] (fun _=> [(9,15,_)]) J J (aa (aD J (aV (parts:= [(0,.tmp 77)]) i7 Pd J J)) (aa (aD J (am J)) (aa (aD J (am J)) (aa (aD J (aU Tryz.underlying48 J (aN (k:=0) J))) (aa (aD J (y_ J J J)) (aa (aD J (lN (j:=(min xs.length 8)) Tryz.underlying48 cB J J (aN (k:=0) J) (by omega) (by omega))) aw)))))) J J J J J J J J J J J (fun _ _=>J) J (bq (xs:= [.tmp 78,.tmp 83]) ((kZ v77 (Ih v (min xs.length 8)) [(⟨cN,bJ,[],v74,[y,yO v72 t]⟩:Tf)] (xs.take (min xs.length 8)) hgp hch (fun z hz=>hx z (List.mem_of_mem_take hz)) (by rw [List.length_take];omega)).ro2 Pp) Er [] [(true,77),(true,70),(false,83)] [] J J J J J J J J (fun _ _=>J) (fun _ _ _=>J)) (fun _ _=>bp [9] J J (aa (aD J (ct J)) aw) J J J ?_)));refine aj (ad J J (ad J J (cn J J (ad J J (aO (aQ J J J (xl J)) J (ai J J (ac (au (aH () O J (bE (aJ J)) J [] [] J J J)))))))))

end Go.Proofs.YtedmdgbmdplifaaGreat
namespace Go.Proofs.YtedmdgbmdplifaaGreat
set_option linter.unusedSimpArgs false
set_option linter.unusedVariables false
open Go.ChangeShapes Go.WideShapes Go.ChangeAt Go.RowKit

theorem Tryz.own:ownKnob Tryz.prog.godebug=none:=by kernel_rfl
theorem Tryz.laidOut:laidOutB Tryz.prog=true:=by kernel_rfl
theorem Tryz.cells41:Tryz.prog.cellsOf 41=1:=by kernel_rfl

theorem mx(os:Os)(started:os.Started)(H:Type)(enc:TypeId×Value→H):
  ReturnsInHanded {} Tryz.checked os 8 .any (Rows.qgenNestedSpec.pre6 enc Tryz.prog Tryz.f8 Rows.qgenNestedRow.domain false) (Rows.qgenNestedSpec.post enc Tryz.prog Tryz.f8 false true false false):=by
 refine returnsInHanded_of_change (C:=Tryz.checked) Tryz.own started (by kernel_rfl) Tryz.func8
  (ChangeSpec.witness6 (enc:=enc) (C:=Tryz.checked) false ⟨#[],#[.int .i64 0,.int .i64 0,.slice none 0 0],[]⟩ 8 (by kernel_rfl) (by kernel_rfl) (by kernel_rfl) (by kernel_rfl)) ?_
 intro W base args ds gs before hval0 hW hcnd _;have hval:∀(j:Nat) t v,Tryz.f8.params[j]?=some t→args[j]?=some v→Value.okWide Tryz.prog W .any base t v:=hval0;have hW0:=hW;obtain⟨pp,qq,hA0,hV,-,-,-⟩:=hW;have hA:DataW.TrodAll enc Tryz.prog W 0 (fun _=>true) true Tryz.f8.params.toList args.toList ds pp:=hA0;obtain⟨rfl,-⟩:=trodVars_none hV;rw [Tryz.params8]at hA hval;obtain⟨v0,vs0,d0,ds0,p0,q0,hargs,rfl,-,h0,r0⟩:=trodAll_cons hA;obtain⟨v1,vs1,d1,ds1,p1,q1,rfl,rfl,-,h1,r1⟩:=trodAll_cons r0;obtain⟨v2,vs2,d2,ds2,p2,q2,rfl,rfl,-,h2,r2⟩:=trodAll_cons r1;obtain⟨rfl,rfl,-⟩:=trodAll_nil r2;obtain rfl:args= #[v0,v1,v2]:=by cases args;simp_all
 obtain⟨a0,rfl,-,-,wf0⟩:=open_int Tryz.underlying3 (hval 0 3 v0 J J) h0;obtain⟨a1,rfl,-,-,wf1⟩:=open_int Tryz.underlying3 (hval 1 3 v1 J J) h1;obtain⟨x2,s2,rfl,b2,hs2⟩:=A7 Tryz.underlying48 Tryz.underlying41 Tryz.cells41 (hval 2 48 v2 J J) h2;refine((xu a0 a1 x2 s2 b2).law W (fun A hA=>by
  rcases List.mem_singleton.1 hA with rfl;exact hs2)).mono fun e W' ⟨_,_,he,hb⟩=> ?_
 subst he;exact⟨_,J,qf hW0 Tryz.laidOut (by kernel_rfl) J Tryz.underlying4 J J J J hb⟩

theorem QgenNested_holds:Rows.QgenNestedSaid:=
 OpenClaim.holds_of_wide 8 Tryz.f8 rfl rfl rfl rfl rfl rfl rfl ⟨rfl,rfl,rfl,rfl,rfl⟩ rfl rfl rfl rfl rfl (by kernel_rfl) Tryz.func8 (by kernel_rfl)
  (of_decide_eq_true (by kernel_rfl)) (by unfold Func.isWrapper;first|(rw [if_pos (by decide+kernel)];kernel_rfl)|(rw [if_neg (by decide+kernel)];exact⟨rfl,rfl⟩))
  (fun os started H enc _=>mx os started H enc)
#print axioms QgenNested_holds
end Go.Proofs.YtedmdgbmdplifaaGreat
