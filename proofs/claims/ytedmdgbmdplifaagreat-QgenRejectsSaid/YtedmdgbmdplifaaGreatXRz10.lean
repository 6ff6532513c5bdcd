/-
  The statement QgenRejectsSaid: the law QgenRejects answers true and turns nothing that was there. No condition.
-/
import Derived.Test.YtedmdgbmdplifaaGreatRows
import Derived.Test.YtedmdgbmdplifaaGreatXRa
import Derived.Test.YtedmdgbmdplifaaGreatXRb
import Derived.Test.YtedmdgbmdplifaaGreatXRc
import Derived.Test.YtedmdgbmdplifaaGreatXRd
import Derived.Test.YtedmdgbmdplifaaGreatXRe
import Derived.Test.YtedmdgbmdplifaaGreatXRf
import Derived.Test.YtedmdgbmdplifaaGreatXRg
set_option maxHeartbeats 32000000
set_option maxRecDepth 100000
set_option linter.unusedSimpArgs false
set_option linter.unusedVariables false
namespace Go.Proofs.YtedmdgbmdplifaaGreat
open Go.RowKit
theorem Bg{A B:Asn}{vs:SV}{L:List Sl0}:∀(i:Nat)(X:Asn),([A,sl 7 j8 (sv vs) L,B]:List Asn)[i]?=some X→∃Y,([A,own 148 7 j8 (sv vs) L,B]:List Asn)[i]?=some Y∧∀w G,Y.pred w G→X.pred w G
 | 0,X,hX=>⟨A,rfl,by cases hX;exact fun _ _ h=>h⟩
 | 1,X,hX=>⟨_,rfl,by cases hX;exact bE⟩
 | 2,X,hX=>⟨B,rfl,by cases hX;exact fun _ _ h=>h⟩
 | i+3,X,hX=>by simp at hX
theorem uw(x:Int){m:Int}(hm:0<m):∃n:Nat,mi x m=(n:Int)∧(n:Int)<m:=by
 obtain⟨h1,h2⟩:=yq (x:=x) hm;exact⟨(mi x m).toNat,by omega,by omega⟩
theorem B0{m:Int}(hm:1<m):mi 1 m=1:=by
 unfold mi;rw [Int.tmod_eq_of_lt (by decide) hm,Int.tmod_eq_emod_of_nonneg (by omega),Int.add_emod_right,Int.emod_eq_of_lt (by decide) hm]
theorem Fy{n zb:Nat}{L:List Sl0}(h:KpR (List.replicate n (s0 zb)) L):qIO (qD L 1 (bits .and .i64 1 7)) 1=mi 1 (max (n:Int) 1):=by
 rw [JV,Bs,h,List.map_replicate,rG,List.length_replicate];by_cases h2:2≤n
 ·rw [if_pos ⟨J,by omega⟩,show max (n:Int) 1=n by omega,B0 (by omega)];decide
 ·rw [if_neg (fun q=>h2 (by have:=q.2;omega)),show max (n:Int) 1=1 by omega];have e:(List.replicate n (s0 zb).r).getD 1 0=0:=by
   rw [List.getD_eq_getElem?_getD,List.getElem?_eq_none (by simp;omega)];rfl
  rw [e];decide
theorem Jq{n:Nat}(h:2≤n):BK (qP (List.replicate n zer) 300 (aN ⟨#[97,98,99]⟩)) 301=98:=by
 have h8:Pg8 (List.replicate n zer):=fun l hl=>by rw [List.eq_of_mem_replicate hl];exact⟨gU,r6⟩
 show BK (gM (gM (gM (List.replicate n zer) 300 97) (300+1) 98) (300+1+1) 99) 301=98;have a1:=CL h8 (a:=300) (x:=97) (by decide);have a2:=CL a1 (a:=300+1) (x:=98) (by decide);rw [uk a2 (by decide) (by decide),if_neg (fun q=>absurd q.1 (by decide)),uk a1 (by decide) (by decide),if_pos ⟨by decide,by rw [CK,List.length_replicate];show(301/256:Int).toNat<n;omega⟩]
theorem Bj{z:Nat}(h:0<z):List.replicate z (0:Int)≠ []:=fun e=>by
 have:=congrArg List.length e;simp at this;omega
theorem tY(a0:Int)(h0:LQ a0)(a1:Int)(h1:LQ a1)(a2:Int)(h2:LQ a2):
  aO Tryz.prog 10 [I6 a0,I6 a1,I6 a2] [] [] (.bool true) []:=by
 refine au Tryz.func10 J Tryz.ntmps10 J fun w0 M H=> ?_
 obtain⟨n,hn,hn2⟩:=uw a0 (m:=66) (by decide);obtain⟨k,hk,hk2⟩:∃k:Int,mi a1 4=k∧0≤k∧k<4:=⟨_,J,yq (by decide)⟩
 obtain⟨q,hq,hq2⟩:=uw a2 (m:=8) (by decide);obtain⟨z,hz⟩:∃z:Nat,z=7933+q:=⟨_,J⟩
 refine ak (am J (av J (ae (xs:= []) tQ Nr [] [] [] (fun _ _=>am J (av J (ab J (ae (xs:= [.tmp 15,.const (I6 66)]) (jY a0 66 (by decide)) CV [] [] [] (fun _ _=> ?_))))))));rw [hn];refine am J (av J (ab J (ae (xs:= [.tmp 17,.const (I6 4)]) (jY a1 4 (by decide)) CV [] [] [] (fun _ _=> ?_))));rw [hk];refine am J (av J (ab J (ae (xs:= [.tmp 19,.const (I6 8)]) (jY a2 8 (by decide)) CV [] [] [] (fun _ _=> ?_))));rw [hq];refine ap J J (bZ (c:=(z:Int)) (by rw [bC (by omega)];omega)) (am J (av J (ab J (ae (xs:= [.tmp 22]) (Ao n (by omega)) Np [] [] [20,21,22] (fun x _=> ?_)))));obtain⟨c,vs,zb⟩:=x;refine am J (aa (aS (ab J (ap J J (ka Tryz.underlying69) (aa (ah J (fun h1=> ?_) (fun h1=> ?_)))))))
 ·cases h1
 ·refine az (ak (ab J (bp J (ax px J (ae (xs:= [.tmp 28,.const (I3 300),.const (Sg (ByteArray.mk #[97,98,99]))]) (re c vs (sS 0 0 0 0 0) (List.replicate n (s0 zb)) (List.replicate n zer) (List.replicate n zer) (Ho n zb) (by rw [List.length_replicate];omega) 300 ⟨#[97,98,99]⟩ (by decide)) KC [20,21,22] [] [20,21,22] (fun L1 hL1=> ?_))))));have hlen:L1.length=n:=by rw [hL1.1.len,List.length_replicate]
  refine av J (ab J (bp J (ax px J (ae (xs:= [.tmp 32,.const (I6 1),.const (I6 1)]) (gV c vs (sS 0 0 0 0 0) L1 (qP (List.replicate n zer) 300 (aN ⟨#[97,98,99]⟩)) (List.replicate n zer) (by rw [hlen];omega) 1 (by decide) 1) Fe [20,21,22] [] [20,21,22] (fun _ _=>av J (ab J (aH (aT (cs:=(sS 77 0 0 0 0).toArray) (parts:= [(0,.const (I3 77))]) nO GZ J (by kernel_rfl)) (ae (xs:= [.tmp 34,.tmp 35]) (kR c vs 0 0 0 0 0 77 0 0 0 0 (by decide) (by decide)) KB [20] [] [20] (fun _ _=>aa (aW ?_))))))))));by_cases hacc:64≤n∧k=2∧z≤7936
  ·obtain⟨g1,g2,g3⟩:=hacc;subst g2;refine aj (ab J (aH (rj Tryz.underlying69 (by intro _ h;cases h) J) (ab J (ab J (kg bL 0 Tryz.underlying84 t5 J J J J (c:=z) J J (by omega) (by simp only [maxLen];omega) J fun v41=>aH (oS Tryz.underlying84 Tryz.underlying5 Tryz.underlying9 J (bl (k:=41) J) (Bj (by omega))) (aH (aT (cs:= #[I6 2,Sg (iP (List.replicate z (0:Int)))]) (parts:= [(0,.tmp 39),(1,.tmp 42)]) qY wq J (by kernel_rfl)) (ch (xs:= [.tmp 38,.tmp 43]) (z4 c vs 77 0 0 0 0 (qD L1 1 (bits .and .i64 1 7)) (qP (List.replicate n zer) 300 (aN ⟨#[97,98,99]⟩)) (List.replicate n zer) (hL1.2.rights 1 _) (by rw [jd,hlen];omega) (by rw [jd,hlen];omega) (iP (List.replicate z (0:Int))) (by rw [e9,List.length_replicate];omega)) Fd [20,21,22] [] [20,21,22] J J J (fun L3 hL3=>am J (aa (aS (ab J (ap J J eY (ab J (aF [] J J O (fun hg2=>aX J) J (aF [(48,_)] J J ⟨J,O⟩ (fun hg3=>aU J J bc) J (aH (bw J J J) ?_))))))))))))))));refine ab J (aF [] J J O (fun hg4=>aX J) J (aF [(52,_)] J J ⟨J,O⟩ (fun hg5=>aU J J jz) J (aH (bw J J J) (aa (ah J (fun h6=> ?_) (fun h6=> ?_))))))
   ·refine ak (ab J (ab J (aK J J (ab J (aK J J (ap J J bc (aH (cq J J J (eR J)) (ab J (aK J J (ab J (aK J J (ae (xs:= [.tmp 61]) (ld c vs 256 0 0 0 0) In [] [(true,20)] [] (fun _ _=>aK J J (aH (jV w5 dt J J) (aK J J (ap J J bc (aH (cq J J J (eR J)) (am J ?_))))))))))))))))));refine aa (ar (aG () O J (bR (aD J)) J [] [] J J J))
   ·exact absurd h6 (by simp;omega)
  ·refine aj (ab J (aH (rj Tryz.underlying69 (by intro _ h;cases h) J) (ab J (ab J (kg bL 0 Tryz.underlying84 t5 J J J J (c:=z) J J (by omega) (by simp only [maxLen];omega) J fun v41=>aH (oS Tryz.underlying84 Tryz.underlying5 Tryz.underlying9 J (bl (k:=41) J) (Bj (by omega))) (aH (aT (cs:= #[I6 k,Sg (iP (List.replicate z (0:Int)))]) (parts:= [(0,.tmp 39),(1,.tmp 42)]) qY wq J (by kernel_rfl)) (ae (xs:= [.tmp 38,.tmp 43]) (s5 c vs (sS 77 0 0 0 0) (qD L1 1 (bits .and .i64 1 7)) k (iP (List.replicate z (0:Int))) (by rw [e9,List.length_replicate];omega) (by rw [jd,hlen];omega) (by rw [jd,hlen,e9,List.length_replicate];omega)) Fd [20,21] [] [20,21] (fun _ _=>am J (aa (aS (ab J (ap J J eY (ab J (aF [] J J O (fun hg7=>aX J) J (aF [(48,_)] J J ⟨J,O⟩ (fun hg8=>aU J J bc) J (aH (bw J J J) ?_))))))))))))))));refine ab J (aF [] J J O (fun hg9=>aX J) J (aF [(52,_)] J J ⟨J,O⟩ (fun hg10=>aU J J jz) J (aH (bw J J J) (aa (ah J (fun h11=> ?_) (fun h11=> ?_))))))
   ·exact absurd (by simp at h11;omega) hacc
   ·refine az (aW ?_);by_cases h2n:2≤n
    ·refine aj (ab J (ae (xs:= [.tmp 66]) (ld c vs 77 0 0 0 0) In [] [(true,20)] [] (fun _ _=>aH (jV w5 dt J J) (ap J J bc (ab J (aK J J (ab J (aK J J (bp J (aK J J (ax px J (aK J J (ch (xs:= [.tmp 73,.const (I6 1)]) (Spec.roAll (nn c vs (sS 77 0 0 0 0) (qD L1 1 (bits .and .i64 1 7)) (by rw [jd,hlen];omega) 1 (by decide)) (ic (A:=aP c 80 _))) KA [] [(true,20),(true,21)] [] J J J (fun _ _=> ?_))))))))))))));rw [Fy hL1.1];refine aK J J (ab J (aK J J (aH (kY J J J) (aK J J (ae (xs:= [.const (I6 1),.tmp 76]) (jY 1 (max (n:Int) 1) (by omega)) CV [] [] [] (fun _ _=>aK J J (ap J J bc ?_)))))));rw [show(decide (mi 1 (max (n:Int) 1)=mi 1 (max (n:Int) 1)))=true from decide_eq_true J];refine aH (cq J J J (eR J)) (ab J (aK J J (ab J (aK J J (ap J J cL ?_)))));rw [show(decide ((n:Int)<2))=false from decide_eq_false (by omega)];refine aK J J (ab J (aK J J (ab J (aK J J (bp J (aK J J (ax px J (aK J J (ch (xs:= [.tmp 86,.const (I3 301)]) (Spec.roAll (zP c vs (sS 77 0 0 0 0) (qD L1 1 (bits .and .i64 1 7)) (qP (List.replicate n zer) 300 (aN ⟨#[97,98,99]⟩)) (List.replicate n zer) (hL1.2.rights 1 _) (by rw [jd,hlen];omega) 301 (by decide)) Bg) No [] [(true,20),(true,21),(true,22)] [] J J J (fun _ _=> ?_))))))))));rw [Jq h2n];refine aK J J (ap J J bc (aK J J (aH (cq J J J (mT J)) (aH (cq J J J (eR J)) (am J (av J (ab J (ab J (aK J J (ab J (aK J J (ap J J bc (aH (cq J J J (eR J)) (ab J (aK J J (ab J (aH (cq J J J (eR J)) ?_)))))))))))))))));refine ab J (aK J J (aH (aT (parts:= [(0,.const (I6 2))]) qY wq J J) (aK J J (ae (xs:= [.const .nilIface,.tmp 100]) me Fd [] [] [] (fun _ _=>aK J J (ap J J bc (aH (cq J J J (eR J)) (am J (aa (ar (aG () O J (bR (aD J)) J [] [] J J J)))))))))))
    ·refine aj (ab J (ae (xs:= [.tmp 66]) (ld c vs 77 0 0 0 0) In [] [(true,20)] [] (fun _ _=>aH (jV w5 dt J J) (ap J J bc (ab J (aK J J (ab J (aK J J (bp J (aK J J (ax px J (aK J J (ch (xs:= [.tmp 73,.const (I6 1)]) (Spec.roAll (nn c vs (sS 77 0 0 0 0) (qD L1 1 (bits .and .i64 1 7)) (by rw [jd,hlen];omega) 1 (by decide)) (ic (A:=aP c 80 _))) KA [] [(true,20),(true,21)] [] J J J (fun _ _=> ?_))))))))))))));rw [Fy hL1.1];refine aK J J (ab J (aK J J (aH (kY J J J) (aK J J (ae (xs:= [.const (I6 1),.tmp 76]) (jY 1 (max (n:Int) 1) (by omega)) CV [] [] [] (fun _ _=>aK J J (ap J J bc ?_)))))));rw [show(decide (mi 1 (max (n:Int) 1)=mi 1 (max (n:Int) 1)))=true from decide_eq_true J];refine aH (cq J J J (eR J)) (ab J (aK J J (ab J (aK J J (ap J J cL ?_)))));rw [show(decide ((n:Int)<2))=true from decide_eq_true (by omega)];refine aK J J (ab J (bJ J J J J (bJ J J J J (bJ J J J J (bJ J J J J (bJ J J J J (aK J J (aH (cq J J J (eR J)) (aH (cq J J J (eR J)) (am J (av J (ab J (ab J (aK J J (ab J (aK J J (ap J J bc ?_)))))))))))))))));refine aH (cq J J J (eR J)) (ab J (aK J J (ab J (aH (cq J J J (eR J)) (ab J (aK J J (aH (aT (parts:= [(0,.const (I6 2))]) qY wq J J) (aK J J (ae (xs:= [.const .nilIface,.tmp 100]) me Fd [] [] [] (fun _ _=>aK J J (ap J J bc (aH (cq J J J (eR J)) (am J (aa (ar (aG () O J (bR (aD J)) J [] [] J J J))))))))))))))))
end Go.Proofs.YtedmdgbmdplifaaGreat
namespace Go.Proofs.YtedmdgbmdplifaaGreat
open Go.ChangeShapes Go.WideShapes Go.ChangeAt Go.RowKit
theorem Tryz.own:ownKnob Tryz.prog.godebug=none:=by kernel_rfl
theorem Tryz.laidOut:laidOutB Tryz.prog=true:=by kernel_rfl
theorem lr(os:Os)(started:os.Started)(H:Type)(enc:TypeId×Value→H):
  ReturnsInHanded {} Tryz.checked os 10 .any (Rows.qgenRejectsSpec.pre6 enc Tryz.prog Tryz.f10 Rows.qgenRejectsRow.domain false) (Rows.qgenRejectsSpec.post enc Tryz.prog Tryz.f10 false true false false):=by
 refine returnsInHanded_of_change (C:=Tryz.checked) Tryz.own started (by kernel_rfl) Tryz.func10
  (ChangeSpec.witness6 (enc:=enc) (C:=Tryz.checked) false ⟨#[],#[I6 0,I6 0,I6 0],[]⟩ 8 (by kernel_rfl) (by kernel_rfl) (by kernel_rfl) (by kernel_rfl)) ?_
 intro W base args ds gs before hval0 hW hcnd _;have hval:∀(j:Nat) t v,Tryz.f10.params[j]?=some t→args[j]?=some v→Value.okWide Tryz.prog W .any base t v:=hval0;have hW0:=hW;obtain⟨pp,qq,hA0,hV,-,-,-⟩:=hW;have hA:DataW.TrodAll enc Tryz.prog W 0 (fun _=>true) true Tryz.f10.params.toList args.toList ds pp:=hA0;obtain⟨rfl,-⟩:=trodVars_none hV;rw [Tryz.params10]at hA hval;obtain⟨v0,vs0,d0,ds0,p0,q0,hargs,rfl,-,h0,r0⟩:=trodAll_cons hA;obtain⟨v1,vs1,d1,ds1,p1,q1,rfl,rfl,-,h1,r1⟩:=trodAll_cons r0;obtain⟨v2,vs2,d2,ds2,p2,q2,rfl,rfl,-,h2,r2⟩:=trodAll_cons r1;obtain⟨rfl,rfl,-⟩:=trodAll_nil r2;obtain rfl:args= #[v0,v1,v2]:=by cases args;simp_all
 obtain⟨a0,rfl,-,-,wf0⟩:=open_int Tryz.underlying3 (hval 0 3 v0 J J) h0;obtain⟨a1,rfl,-,-,wf1⟩:=open_int Tryz.underlying3 (hval 1 3 v1 J J) h1;obtain⟨a2,rfl,-,-,wf2⟩:=open_int Tryz.underlying3 (hval 2 3 v2 J J) h2;refine((tY a0 (wP wf0) a1 (wP wf1) a2 (wP wf2)).law W (fun A hA=>by simp at hA)).mono fun e W' ⟨_,_,he,hb⟩=> ?_
 subst he;exact⟨_,J,BT hW0 Tryz.laidOut (by kernel_rfl) J Tryz.underlying4 J J J J hb⟩
theorem QgenRejects_holds:Rows.QgenRejectsSaid:=
 OpenClaim.holds_of_wide 10 Tryz.f10 rfl rfl rfl rfl rfl rfl rfl ⟨rfl,rfl,rfl,rfl,rfl⟩ rfl rfl rfl rfl rfl (by kernel_rfl) Tryz.func10 (by kernel_rfl)
  (of_decide_eq_true (by kernel_rfl)) (by unfold Func.isWrapper;first|(rw [if_pos (by decide+kernel)];kernel_rfl)|(rw [if_neg (by decide+kernel)];exact⟨rfl,rfl⟩))
  (fun os started H enc _=>lr os started H enc)
#print axioms QgenRejects_holds
end Go.Proofs.YtedmdgbmdplifaaGreat
