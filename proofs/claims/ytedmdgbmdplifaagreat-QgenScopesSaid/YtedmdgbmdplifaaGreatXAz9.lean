/-
  The statement QgenScopesSaid: the law QgenScopes answers true and turns nothing that was there. No condition.
-/
import Derived.Test.YtedmdgbmdplifaaGreatRows
import Derived.Test.YtedmdgbmdplifaaGreatXAa
import Derived.Test.YtedmdgbmdplifaaGreatXAb
import Derived.Test.YtedmdgbmdplifaaGreatXAc
import Derived.Test.YtedmdgbmdplifaaGreatXAd
import Derived.Test.YtedmdgbmdplifaaGreatXAe
import Derived.Test.YtedmdgbmdplifaaGreatXAf
import Derived.Test.YtedmdgbmdplifaaGreatXAg
import Derived.Test.YtedmdgbmdplifaaGreatXAh
set_option maxHeartbeats 32000000
set_option maxRecDepth 100000
namespace Go.Proofs.YtedmdgbmdplifaaGreat
set_option linter.unusedSimpArgs false
set_option linter.unusedVariables false
open Go.RowKit

def srcSa:ByteArray:=(ByteArray.mk (List.toArray (List.append (List.append [102,110,32,109,97,105,110,40,41,32,123,32,118,97,114,32,105,32,61,32,51,59,32,119,104,105,108,101,32,105,32,123,32,105,102,32,105,110,32,123,32,118,97,114,32,120,32,61,32,105,32,42,32,50] [59,32,111,117,116,32,120,59,32,125,32,111,117,116,32,102,40,105,44,32,105,110,41,59,32,105,32,61,32,105,32,45,32,49,59,32,125,32,125,32,102,110,32,102,40,97,44,32,98,41,32,123,32,105,102]) (List.append [32,98,32,123,32,118,97,114,32,99,32,61,32,97,32,43,32,98,59,32,97,32,61,32,99,59,32,125,32,118,97,114,32,100,32,61,32,103,40,97,41,32,45,32,97,59,32,114,101,116,117,114,110,32,100] [32,42,32,52,32,43,32,97,59,32,125,32,102,110,32,103,40,97,41,32,123,32,118,97,114,32,99,32,61,32,97,59,32,97,32,61,32,57,59,32,114,101,116,117,114,110,32,99,32,43,32,97,59,32,125]))))
def tsSa:List Tk:=(tg 400 srcSa.data.toList 0 []).getD []
def pgSa:List Pf:=(pP tsSa 1000 [] 0).getD []
theorem Pv:nz srcSa 400 0 []=some tsSa:=by
 rw [pH _ _ _ (Nat.zero_le _),List.drop_zero];kernel_rfl
theorem Pk:pP tsSa 1000 [] 0=some pgSa:=by kernel_rfl
theorem Pp:tsSa.length≤20000:=Nat.le_of_ble_eq_true (by kernel_rfl)
theorem Pe:srcSa.size≤16384:=Nat.le_of_ble_eq_true (by kernel_rfl)
theorem Qm{fs:List Tf}(h:fs.map sL=pgSa):GP fs∧fq fs=0:=by
 have hg:GP (pgSa.map uF):=iX (by kernel_rfl);have hc:fq (pgSa.map uF)=0:=by kernel_rfl
 rw [←vF h]at hg hc;rw [sU]at hc;exact⟨HT hg,hc⟩
def srcSb:ByteArray:=(ByteArray.mk (List.toArray (List.append (List.append [102,110,32,109,97,105,110,40,41,32,123,32,118,97,114,32,107,32,61,32,50,59,32,119,104,105,108,101,32,107,32,123,32,105,102,32,107,32,61,61,32,49] [32,123,32,111,117,116,32,121,40,107,41,59,32,125,32,118,97,114,32,122,32,61,32,105,110,59,32,105,102,32,122,32,123,32,118,97,114,32,119,32,61,32]) (List.append [122,59,32,125,32,111,117,116,32,119,32,43,32,122,59,32,107,32,61,32,107,32,45,32,49,59,32,125,32,125,32,102,110,32,121,40,112,41,32,123,32,105] [102,32,33,112,32,123,32,118,97,114,32,113,32,61,32,49,59,32,125,32,113,32,61,32,113,32,43,32,112,59,32,114,101,116,117,114,110,32,113,59,32,125]))))
def tsSb:List Tk:=(tg 400 srcSb.data.toList 0 []).getD []
def pgSb:List Pf:=(pP tsSb 1000 [] 0).getD []
theorem Pu:nz srcSb 400 0 []=some tsSb:=by
 rw [pH _ _ _ (Nat.zero_le _),List.drop_zero];kernel_rfl
theorem Pj:pP tsSb 1000 [] 0=some pgSb:=by kernel_rfl
theorem Po:tsSb.length≤20000:=Nat.le_of_ble_eq_true (by kernel_rfl)
theorem Pd:srcSb.size≤16384:=Nat.le_of_ble_eq_true (by kernel_rfl)
theorem Ql{fs:List Tf}(h:fs.map sL=pgSb):GP fs∧fq fs=0:=by
 have hg:GP (pgSb.map uF):=iX (by kernel_rfl);have hc:fq (pgSb.map uF)=0:=by kernel_rfl
 rw [←vF h]at hg hc;rw [sU]at hc;exact⟨HT hg,hc⟩
theorem xn(v:SV)(xs:List Int)(hx:∀z∈xs,oW z):
  Spec Tryz.prog 9 [sv v] [] [sl 1 eU (sv v) xs] (X:=Unit) (fun _=>True) (fun _=> .bool true) (fun _=> []) (fun _=> []):=by
 refine aF Tryz.func9 J Tryz.ntmps9 J fun w0 M H=>ae (aa (aj (ag J) J (ai (ae (aa (au (xs:= []) iK HJ [] [] [] J J J J J J J J (fun _ _=>J) (fun _ _ _=>J) J (fun _ _=>aj (ag J) J (ai (ae (aa (aj (ac J) J (aj (ac J) J ?_))))))))))))
 refine aj (aO Tryz.underlying48 J (aK (k:=0) J)) J (aj (vA J J J) J (xB (j:=(min xs.length 8)) 0 12 Tryz.underlying48 cr (by intro _;rfl) J J (by omega) (by omega) J J fun v12=>aj (ag J) J (ai (ae (aa (au (xs:= [.const (.string srcSa)]) (eZ srcSa Pe 400 tsSa Pv Pp pgSa Pk) yL [] [] [81] J J J J J J J J (fun _ _=>J) (fun _ _ _=>J) J (fun xa hxa=> ?_)))))));obtain⟨gxa,cxa⟩:=Qm hxa;refine aj (ac J) J (au (xs:= [.tmp 13,.tmp 14]) (hZ xa.1 v12 xa.2 (xs.take (min xs.length 8)) gxa cxa (fun z hz=>hx z (List.mem_of_mem_take hz)) (by rw [List.length_take];omega)) yK [] [(true,81),(false,12)] [] J J J J J J J J (fun _ _=>J) (fun _ _ _=>J) J (fun _ _=>aj (ag J) J (ai (ae (aa (au (xs:= [.const (.string srcSb)]) (eZ srcSb Pd 400 tsSb Pu Po pgSb Pj) yL [] [] [82] J J J J J J J J (fun _ _=>J) (fun _ _ _=>J) J (fun xb hxb=> ?_)))))));obtain⟨gxb,cxb⟩:=Ql hxb;refine aj (ac J) J (au (xs:= [.tmp 16,.tmp 17]) (hZ xb.1 v12 xb.2 (xs.take (min xs.length 8)) gxb cxb (fun z hz=>hx z (List.mem_of_mem_take hz)) (by rw [List.length_take];omega)) yK [] [(true,82),(false,12)] [] J J J J J J J J (fun _ _=>J) (fun _ _ _=>J) J (fun _ _=>aj (ag J) J (ai (ae (aa (aj (ac J) J (aj (ac J) J (aA [] J J trivial (fun hg1=>ac J) J (aj (aM J J J (by first|exact ax|exact aC|rfl)) J (aj (ac J) J (aA [] J J trivial (fun hg2=>ac J) J (aj (aM J J J (by first|exact ax|exact aC|rfl)) J (aj (ag J) J ?_)))))))))))));refine ai (aw (aG () trivial J (bx (aH J)) J [] [] J J J))

end Go.Proofs.YtedmdgbmdplifaaGreat
namespace Go.Proofs.YtedmdgbmdplifaaGreat
set_option linter.unusedSimpArgs false
set_option linter.unusedVariables false
open Go.ChangeShapes Go.WideShapes Go.ChangeAt Go.RowKit

theorem Tryz.own:ownKnob Tryz.prog.godebug=none:=by kernel_rfl
theorem Tryz.laidOut:laidOutB Tryz.prog=true:=by kernel_rfl
theorem Tryz.cells41:Tryz.prog.cellsOf 41=1:=by kernel_rfl

theorem mz(os:Os)(started:os.Started)(H:Type)(enc:TypeId×Value→H):
  ReturnsInHanded {} Tryz.checked os 9 .any (Rows.qgenScopesSpec.pre6 enc Tryz.prog Tryz.f9 Rows.qgenScopesRow.domain false) (Rows.qgenScopesSpec.post enc Tryz.prog Tryz.f9 false true false false):=by
 refine returnsInHanded_of_change (C:=Tryz.checked) Tryz.own started (by kernel_rfl) Tryz.func9
  (ChangeSpec.witness6 (enc:=enc) (C:=Tryz.checked) false ⟨#[],#[.slice none 0 0],[]⟩ 8 (by kernel_rfl) (by kernel_rfl) (by kernel_rfl) (by kernel_rfl)) ?_
 intro W base args ds gs before hval0 hW hcnd _;have hval:∀(j:Nat) t v,Tryz.f9.params[j]?=some t→args[j]?=some v→Value.okWide Tryz.prog W .any base t v:=hval0;have hW0:=hW;obtain⟨pp,qq,hA0,hV,-,-,-⟩:=hW;have hA:DataW.TrodAll enc Tryz.prog W 0 (fun _=>true) true Tryz.f9.params.toList args.toList ds pp:=hA0;obtain⟨rfl,-⟩:=trodVars_none hV;rw [Tryz.params9]at hA hval;obtain⟨v0,vs0,d0,ds0,p0,q0,hargs,rfl,-,h0,r0⟩:=trodAll_cons hA;obtain⟨rfl,rfl,-⟩:=trodAll_nil r0;obtain rfl:args= #[v0]:=by cases args;simp_all
 obtain⟨x0,s0,rfl,b0,hs0⟩:=sf Tryz.underlying48 Tryz.underlying41 Tryz.cells41 (hval 0 48 v0 J J) h0;refine((xn x0 s0 b0).law W (fun A hA=>by
  rcases List.mem_singleton.1 hA with rfl;exact hs0)).mono fun e W' ⟨_,_,he,hb⟩=> ?_
 subst he;exact⟨_,J,mP hW0 Tryz.laidOut (by kernel_rfl) J Tryz.underlying4 J J J J hb⟩

theorem QgenScopes_holds:Rows.QgenScopesSaid:=
 OpenClaim.holds_of_wide 9 Tryz.f9 rfl rfl rfl rfl rfl rfl rfl ⟨rfl,rfl,rfl,rfl,rfl⟩ rfl rfl rfl rfl rfl (by kernel_rfl) Tryz.func9 (by kernel_rfl)
  (of_decide_eq_true (by kernel_rfl)) (by unfold Func.isWrapper;first|(rw [if_pos (by decide+kernel)];kernel_rfl)|(rw [if_neg (by decide+kernel)];exact⟨rfl,rfl⟩))
  (fun os started H enc _=>mz os started H enc)
#print axioms QgenScopes_holds
end Go.Proofs.YtedmdgbmdplifaaGreat
