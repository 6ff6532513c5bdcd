/-
  The statement QgenInputsSaid: the law QgenInputs answers true and turns nothing that was there. No condition.
-/
import Derived.Test.YtedmdgbmdplifaaGreatRows
import Derived.Test.YtedmdgbmdplifaaGreatXDa
import Derived.Test.YtedmdgbmdplifaaGreatXDb
import Derived.Test.YtedmdgbmdplifaaGreatXDc
import Derived.Test.YtedmdgbmdplifaaGreatXDd
import Derived.Test.YtedmdgbmdplifaaGreatXDe
import Derived.Test.YtedmdgbmdplifaaGreatXDf
import Derived.Test.YtedmdgbmdplifaaGreatXDg
import Derived.Test.YtedmdgbmdplifaaGreatXDh
import Derived.Test.YtedmdgbmdplifaaGreatXDi
set_option maxHeartbeats 32000000
set_option maxRecDepth 100000
set_option linter.unusedSimpArgs false
set_option linter.unusedVariables false
namespace Go.Proofs.YtedmdgbmdplifaaGreat
open Go.RowKit
def srcI:Ba:=(ByteArray.mk (List.toArray (List.append [102,110,32,109,97,105,110,40,41,32,123,32,111,117,116,32,105,110,59,32,111,117,116,32,105,110,32,43,32,105,110,32,42] [32,50,53,54,59,32,109,101,109,91,105,110,93,32,61,32,105,110,59,32,111,117,116,32,109,101,109,91,105,110,93,59,32,125])))
def tsI:List Tk:=(Io 400 srcI.data.toList 0 []).getD []
def pgI:List Pf:=(pP tsI 1000 [] 0).getD []
theorem Ul:tV srcI 400 0 []=some tsI:=by
 rw [KF _ _ _ (Nat.zero_le _),List.drop_zero];kernel_rfl
theorem Ud:pP tsI 1000 [] 0=some pgI:=by kernel_rfl
theorem Uh:tsI.length≤20000:=Nat.le_of_ble_eq_true (by kernel_rfl)
theorem Uc:srcI.size≤16384:=Nat.le_of_ble_eq_true (by kernel_rfl)
theorem UG:iA (pgI.map uF)=0:=by kernel_rfl
theorem Uz{fs:List Tf}(h:fs.map rU=pgI):Kf fs pgI:=Kf.of h (wE (by kernel_rfl)) UG (Nat.le_of_ble_eq_true (by kernel_rfl))
theorem F9{xs:List Int}{n i:Nat}(hx:∀z∈xs,oW z):∀z∈xs.take n++List.replicate i (0:Int),oW z:=fun z hz=>by
 rcases List.mem_append.1 hz with h|h
 ·exact hx z (List.mem_of_mem_take h)
 ·rw [(List.mem_replicate.1 h).2];exact⟨by decide,by decide⟩
theorem sQ{xs:List Int}{i:Nat}:(xs.take (min xs.length 8)++List.replicate i (0:Int)).length≤8+i:=by
 rw [List.length_append,List.length_take,List.length_replicate];omega
theorem An(vl:SV)(l:List Int)(hlo:∀x∈l,KV x)(hl:l.length≤1000000000000000000)(v:SV)(xs:List Int)(hx:∀z∈xs,oW z)(zr:Int):
  bi Tryz.prog 7 [sv vl,sv v,I6 zr] [] [sl 1 eI (sv vl) l,sl 1 eU (sv v) xs] (.bool true) []:=by
 refine aI Tryz.func7 J Tryz.ntmps7 J fun w0 M H=>Mo 1 83 (min xs.length 8) J (by omega) ?_
 have hz:=BY (x:=zr) (n:=5) (by decide);obtain⟨zi,hzi⟩:∃d:Nat,Ap zr 5=(d:Int):=⟨_,(Int.toNat_of_nonneg hz.1).symm⟩
 rw [hzi]at hz;refine ap (ak J (aF J (aj (xs:= []) xI TD [] [] [] (fun _ _=>ak J (aF J (ad J (aj (xs:= [.tmp 15]) (zC vl l hl hlo) TC [] [(false,0)] [80] (fun⟨p,fs⟩ hp=> ?_))))))));dsimp only at hp ⊢;obtain⟨⟨k0,hm⟩,hnn⟩:=hp;have hgp:=GD hm;have hch:=Jf hm;refine aY jB J J fun b8=>aq (k:=8) jB J J J J J J (aF J (uI eU Tryz.underlying48 dm J fun v17=>ad J (ad J (aP (aS Tryz.underlying48 J (aK (k:=1) J)) (aP (Fv J J J) (aP (jK (j:=(min xs.length 8)) Tryz.underlying48 dm J J (aK (k:=1) J) (by omega) (by omega)) (cM 17 Tryz.underlying48 dm J (by decide) (fun _=>J) (fun _=>J) J J J (aK (k:=83) J) (by rw [List.length_take];show(0+_)*_≤_;omega) (by unfold maxLen;rw [List.length_take];show 0+_≤_;omega) J fun v23=> ?_)))))))
 refine d7 (k:=17) (A':=own 41 1 eU (sv v23) (xs.take (min xs.length 8)++List.replicate 0 0)) J (fun w G h=>by rw [show(xs.take (min xs.length 8)++List.replicate 0 0)= []++xs.take (min xs.length 8) by simp];exact h) ?_;refine ak J (aF J (aP (aM jB J J J (aX (k:=8) J)) (ad J (aj (xs:= [.tmp 24,.tmp 25]) (tw p v23 fs (xs.take (min xs.length 8)++List.replicate 0 0) hgp hch (F9 hx) (Nat.le_trans sQ (by omega))) NU [] [(true,80),(true,17)] [] (fun _ _=>ak J (aa (aT (ak J (aa (aB (bC (X:=Nat×SV) (fun x=>x.1≤zi) (fun x=> [(2,I6 zr),(7,.bool true),(8,Pt b8),(9,sv x.2),(10,.bool true),(11,I6 (x.1:Int))]) (fun x=> [(8,bh b8 27 [sv p]),(17,own 41 1 eU (sv x.2) (xs.take (min xs.length 8)++List.replicate x.1 0)),(80,cx p fs)]) (fun x=> []) (fun x=>zi-x.1) (0,v23) (Nat.zero_le _) J J J (fun x hx1=>aT (ad J ?_)))))))))))));refine ad J (aj (xs:= [.tmp 28,.const (I6 5)]) (x_ zr 5 (by decide)) Qh [] [] [] (fun _ _=> ?_));rw [hzi];refine aw J J cr (aa (ai J (fun h1=> ?_) (fun h1=> ?_)))
 ·(try simp only [bj]at h1);have hi:x.1<zi:=by omega
  refine az (a_ (aB (am (ad J (bq eU (0:Int) Tryz.underlying48 dm J (by decide) (by decide) J J J J fun v34=>cM 17 Tryz.underlying48 dm J (by decide) (fun _=>J) (fun _=>J) J J J (be (k:=34) J) (by have:=sQ (xs:=xs) (i:=x.1);rw [List.length_singleton];omega) (by have:=sQ (xs:=xs) (i:=x.1);unfold maxLen;rw [List.length_singleton];omega) J fun v35=>ak J (aa (am (ad J (aw J J aO (ak J (aa ?_)))))))))));refine d7 (k:=17) (A':=own 41 1 eU (sv v35) (xs.take (min xs.length 8)++List.replicate (x.1+1) 0)) J (fun w G h=>by rw [List.replicate_succ',←List.append_assoc];exact h) ?_;refine aJ (x.1+1,v35) ⟨by show x.1+1≤zi;omega,by show zi-(x.1+1)<zi-x.1;omega⟩ J J J
 ·(try simp only [bj]at h1);have hi:x.1=zi:=by omega
  rw [hi];refine bF (ap (aP (aM jB J J J (aX (k:=8) J)) (ad J (aj (xs:= [.tmp 36,.tmp 37]) (tw p x.2 fs (xs.take (min xs.length 8)++List.replicate zi 0) hgp hch (F9 hx) (Nat.le_trans sQ (by omega))) NU [] [(true,80),(true,17)] [] (fun _ _=>ak J (aF J (aj (xs:= [.const (Sg srcI)]) (ke srcI Uc 400 tsI Ul Uh pgI Ud) Kh [] [] [81] (fun y hy=> ?_))))))));have kk:=Uz hy;refine ad J (aj (xs:= [.tmp 39,.tmp 40]) (tw y.1 x.2 y.2 (xs.take (min xs.length 8)++List.replicate zi 0) kk.g kk.c (F9 hx) (Nat.le_trans sQ (by omega))) NU [] [(true,81),(true,17)] [] (fun _ _=>ak J (aF J (ad J (ad J (cI J J (ad J (aP (eL J J J (zU J)) (ad J (cI J J (ad J (aP (eL J J J (zU J)) (ad J (cI J J (ad J (aP (eL J J J (zU J)) (ak J ?_)))))))))))))))));refine aa (ax (aH () O J (bQ (aL J)) J [] [] J J J))
end Go.Proofs.YtedmdgbmdplifaaGreat
namespace Go.Proofs.YtedmdgbmdplifaaGreat
open Go.ChangeShapes Go.WideShapes Go.ChangeAt Go.RowKit
theorem Tryz.own:ownKnob Tryz.prog.godebug=none:=by kernel_rfl
theorem Tryz.laidOut:laidOutB Tryz.prog=true:=by kernel_rfl
theorem Tryz.cells3:Tryz.prog.cellsOf 3=1:=by kernel_rfl
theorem Tryz.cells41:Tryz.prog.cellsOf 41=1:=by kernel_rfl
theorem oo(os:Os)(started:os.Started)(H:Type)(enc:TypeId×Value→H):
  ReturnsInHanded {} Tryz.checked os 7 .any (Rows.qgenInputsSpec.pre6 enc Tryz.prog Tryz.f7 Rows.qgenInputsRow.domain false) (Rows.qgenInputsSpec.post enc Tryz.prog Tryz.f7 false true false false):=by
 refine returnsInHanded_of_change_sized (C:=Tryz.checked) Tryz.own started (by kernel_rfl) Tryz.func7
  (ChangeSpec.witness6 (enc:=enc) (C:=Tryz.checked) false ⟨#[],#[.slice none 0 0,.slice none 0 0,I6 0],[]⟩ 8 (by kernel_rfl) (by kernel_rfl) (by kernel_rfl) (by kernel_rfl)) ?_
 intro W base args ds gs before hval0 hW hcnd hsz0 _;have hsz:(DataW.weightsEach Tryz.prog (Tryz.f7.params.toList++Rows.qgenInputsSpec.plain.varTypes Tryz.prog) (ds++gs)).all (· ≤reachBytes)=true:=hsz0;have hval:∀(j:Nat) t v,Tryz.f7.params[j]?=some t→args[j]?=some v→Value.okWide Tryz.prog W .any base t v:=hval0;have hW0:=hW;obtain⟨pp,qq,hA0,hV,-,-,-⟩:=hW;have hA:DataW.TrodAll enc Tryz.prog W 0 (fun _=>true) true Tryz.f7.params.toList args.toList ds pp:=hA0;obtain⟨rfl,-⟩:=trodVars_none hV;rw [Tryz.params7]at hA hval hsz;obtain⟨v0,vs0,d0,ds0,p0,q0,hargs,rfl,-,h0,r0⟩:=trodAll_cons hA;obtain⟨v1,vs1,d1,ds1,p1,q1,rfl,rfl,-,h1,r1⟩:=trodAll_cons r0;obtain⟨v2,vs2,d2,ds2,p2,q2,rfl,rfl,-,h2,r2⟩:=trodAll_cons r1;obtain⟨rfl,rfl,-⟩:=trodAll_nil r2;obtain rfl:args= #[v0,v1,v2]:=by cases args;simp_all
 obtain⟨x0,s0,rfl,b0,hs0⟩:=DA Tryz.underlying22 Tryz.underlying3 Tryz.cells3 (hval 0 22 v0 J J) h0;obtain⟨x1,s1,rfl,b1,hs1⟩:=Dz Tryz.underlying48 Tryz.underlying41 Tryz.cells41 (hval 1 48 v1 J J) h1;obtain⟨a2,rfl,-,-,wf2⟩:=open_int Tryz.underlying3 (hval 2 3 v2 J J) h2;refine((An x0 s0 b0 (EZ (j:=0) Tryz.underlying22 (by kernel_rfl) h0 hs0 hsz J J) x1 s1 b1 a2).law W (fun A hA=>by
  simp only [List.mem_cons,List.not_mem_nil,or_false]at hA;rcases hA with rfl|rfl
  ·exact hs0
  ·exact hs1)).mono fun e W' ⟨_,_,he,hb⟩=> ?_
 subst he;exact⟨_,J,F3 hW0 Tryz.laidOut (by kernel_rfl) J Tryz.underlying4 J J J J hb⟩
theorem QgenInputs_holds:Rows.QgenInputsSaid:=
 OpenClaim.holds_of_wide 7 Tryz.f7 rfl rfl rfl rfl rfl rfl rfl ⟨rfl,rfl,rfl,rfl,rfl⟩ rfl rfl rfl rfl rfl (by kernel_rfl) Tryz.func7 (by kernel_rfl)
  (of_decide_eq_true (by kernel_rfl)) (by unfold Func.isWrapper;first|(rw [if_pos (by decide+kernel)];kernel_rfl)|(rw [if_neg (by decide+kernel)];exact⟨rfl,rfl⟩))
  (fun os started H enc _=>oo os started H enc)
#print axioms QgenInputs_holds
end Go.Proofs.YtedmdgbmdplifaaGreat
