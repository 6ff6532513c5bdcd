/-
  The statement QgenFitsSaid: the law QgenFits answers true and turns nothing that was there. No condition.
-/
import Derived.Test.YtedmdgbmdplifaaGreatRows
import Derived.Test.YtedmdgbmdplifaaGreatXFa
import Derived.Test.YtedmdgbmdplifaaGreatXFb
import Derived.Test.YtedmdgbmdplifaaGreatXFc
import Derived.Test.YtedmdgbmdplifaaGreatXFd
import Derived.Test.YtedmdgbmdplifaaGreatXFe
import Derived.Test.YtedmdgbmdplifaaGreatXFf
import Derived.Test.YtedmdgbmdplifaaGreatXFg
import Derived.Test.YtedmdgbmdplifaaGreatXFh
import Derived.Test.YtedmdgbmdplifaaGreatXFi
set_option maxHeartbeats 32000000
set_option maxRecDepth 100000
set_option linter.unusedSimpArgs false
set_option linter.unusedVariables false
namespace Go.Proofs.YtedmdgbmdplifaaGreat
open Go.RowKit
theorem Hl(vl:SV)(l:List Int)(hlo:∀x∈l,Lr x)(hl:l.length≤1000000000000000000):
  aW Tryz.prog 4 [sv vl] [] [sl 1 eI (sv vl) l] (.bool true) []:=by
 refine aI Tryz.func4 J Tryz.ntmps4 J fun w0 M H=>aq (am J (az J (ai (xs:= []) yq Uy [] [] [] (fun _ _=>am J (az J (ad J (ai (xs:= [.tmp 10]) (Ah vl l hl hlo) Uw [] [(false,0)] [80] (fun⟨p,fs⟩ hp=> ?_))))))))
 dsimp only at hp ⊢;obtain⟨⟨k0,hm⟩,hnn⟩:=hp;have hgp:=Hf hm;have hch:=JL hm;obtain⟨hrp,hok⟩:=Gd hgp hch hnn;obtain⟨hsz,ts,g0,htk,htl,hpp⟩:=Gb hgp hch hnn;obtain⟨cz,hcz⟩:∃z,z=mM (eR (ig fs)):=⟨_,J⟩
 have hcm:HL fs=(2,cz,0):=by rw [hcz];exact mJ hgp hch hnn
 have hc1:cz.size≤7936:=by rw [hcz];exact o_ hgp hch hnn
 have hc0:cz.size≠0:=fun h=>KD hgp hch (by rw [←hcz];exact BA.2 h)
 refine aZ mu J J fun b4=>av (k:=4) mu J J J J J J (az J (aP (aM mu J J J (bp (k:=4) J)) (ai (xs:= [.tmp 13]) (kC p fs hgp hcm) HV [] [(true,80)] [] (fun _ _=>ad J (aP (cC J J) (aP (cC J J) (aZ uC J J fun b5=>av (k:=5) uC J J J J J J (am J (az J (aP (aM mu J J J (bp (k:=4) J)) (ai (xs:= [.tmp 18]) (Ay p fs hgp hrp hok) Uv [] [(true,80)] [] (fun _ _=>c_ (xs:= [.tmp 19]) (kR _ hsz g0 ts htk htl (fs.map oh) hpp) KI [] [] [81] J J J (fun⟨p2,gs⟩ hp2=> ?_)))))))))))))
 dsimp only at hp2 ⊢;obtain⟨k1,k2,k3,k4⟩:=DS hgp hch hnn hp2;have hcm2:HL gs=(2,cz,0):=by rw [hcz,←k4];exact mJ k1 k2 k3
 refine ai (xs:= [.tmp 20]) (kC p2 gs k1 hcm2) HV [] [(true,81)] [] (fun _ _=>ad J (aP (cC J J) (aP (cC J J) (aZ uC J J fun b7=>av (k:=7) uC J J J J J J (am J (az J (ad J (ad J (bK J J (ad J (bK J J (ar J J bv (aP (d7 J J J (tj J)) (ad J (bK J J (ad J ?_))))))))))))))));refine bK J J (ar J J bv (aP (d7 J J J (tj J)) (ad J (bK J J (aP (aM uC J J J (bp (k:=5) J)) (bK J J (aP (aM uC J J J (bp (k:=7) J)) (bK J J (ar J J Ou ?_)))))))));rw [show(decide ((2:Int)=2)&&(cz.toList==cz.toList))=true from by simp];refine aP (d7 J J J (tj J)) (ad J (bK J J (aD mV J (bK J J (aR 5 t9 J J J J (bK J J (aP (cH Tryz.underlying9 J) (bK J J (ar J J fA ?_)))))))));rw [show decide ((cz.size:Int)>0)=true from decide_eq_true (by omega)];refine aP (d7 J J J (tj J)) (ad J (bK J J (aD mV J (bK J J (aR 5 t9 J J J J (bK J J (aP (cH Tryz.underlying9 J) (bK J J (ar J J mt ?_)))))))));rw [show decide ((cz.size:Int)≤7936)=true from decide_eq_true (by omega)];refine aP (d7 J J J (tj J)) (am J (aa (ay (aN () O J (ce (aL J)) J [] [] J J J))))
end Go.Proofs.YtedmdgbmdplifaaGreat
namespace Go.Proofs.YtedmdgbmdplifaaGreat
open Go.ChangeShapes Go.WideShapes Go.ChangeAt Go.RowKit
theorem Tryz.own:ownKnob Tryz.prog.godebug=none:=by kernel_rfl
theorem Tryz.laidOut:laidOutB Tryz.prog=true:=by kernel_rfl
theorem Tryz.cells3:Tryz.prog.cellsOf 3=1:=by kernel_rfl
theorem rO(os:Os)(started:os.Started)(H:Type)(enc:TypeId×Value→H):
  ReturnsInHanded {} Tryz.checked os 4 .any (Rows.qgenFitsSpec.pre6 enc Tryz.prog Tryz.f4 Rows.qgenFitsRow.domain false) (Rows.qgenFitsSpec.post enc Tryz.prog Tryz.f4 false true false false):=by
 refine returnsInHanded_of_change_sized (C:=Tryz.checked) Tryz.own started (by kernel_rfl) Tryz.func4
  (ChangeSpec.witness6 (enc:=enc) (C:=Tryz.checked) false ⟨#[],#[.slice none 0 0],[]⟩ 8 (by kernel_rfl) (by kernel_rfl) (by kernel_rfl) (by kernel_rfl)) ?_
 intro W base args ds gs before hval0 hW hcnd hsz0 _;have hsz:(DataW.weightsEach Tryz.prog (Tryz.f4.params.toList++Rows.qgenFitsSpec.plain.varTypes Tryz.prog) (ds++gs)).all (· ≤reachBytes)=true:=hsz0;have hval:∀(j:Nat) t v,Tryz.f4.params[j]?=some t→args[j]?=some v→Value.okWide Tryz.prog W .any base t v:=hval0;have hW0:=hW;obtain⟨pp,qq,hA0,hV,-,-,-⟩:=hW;have hA:DataW.TrodAll enc Tryz.prog W 0 (fun _=>true) true Tryz.f4.params.toList args.toList ds pp:=hA0;obtain⟨rfl,-⟩:=trodVars_none hV;rw [Tryz.params4]at hA hval hsz;obtain⟨v0,vs0,d0,ds0,p0,q0,hargs,rfl,-,h0,r0⟩:=trodAll_cons hA;obtain⟨rfl,rfl,-⟩:=trodAll_nil r0;obtain rfl:args= #[v0]:=by cases args;simp_all
 obtain⟨x0,s0,rfl,b0,hs0⟩:=D_ Tryz.underlying22 Tryz.underlying3 Tryz.cells3 (hval 0 22 v0 J J) h0;refine((Hl x0 s0 b0 (Fu (j:=0) Tryz.underlying22 (by kernel_rfl) h0 hs0 hsz J J)).law W (fun A hA=>by
  rcases List.mem_singleton.1 hA with rfl;exact hs0)).mono fun e W' ⟨_,_,he,hb⟩=> ?_
 subst he;exact⟨_,J,GE hW0 Tryz.laidOut (by kernel_rfl) J Tryz.underlying4 J J J J hb⟩
theorem QgenFits_holds:Rows.QgenFitsSaid:=
 OpenClaim.holds_of_wide 4 Tryz.f4 rfl rfl rfl rfl rfl rfl rfl ⟨rfl,rfl,rfl,rfl,rfl⟩ rfl rfl rfl rfl rfl (by kernel_rfl) Tryz.func4 (by kernel_rfl)
  (of_decide_eq_true (by kernel_rfl)) (by unfold Func.isWrapper;first|(rw [if_pos (by decide+kernel)];kernel_rfl)|(rw [if_neg (by decide+kernel)];exact⟨rfl,rfl⟩))
  (fun os started H enc _=>rO os started H enc)
#print axioms QgenFits_holds
end Go.Proofs.YtedmdgbmdplifaaGreat
