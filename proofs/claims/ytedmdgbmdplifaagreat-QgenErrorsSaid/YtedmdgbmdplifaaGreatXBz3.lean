/-
  The statement QgenErrorsSaid: the law QgenErrors answers true and turns nothing that was there. No condition.
-/
import Derived.Test.YtedmdgbmdplifaaGreatRows
import Derived.Test.YtedmdgbmdplifaaGreatXBa
import Derived.Test.YtedmdgbmdplifaaGreatXBb
import Derived.Test.YtedmdgbmdplifaaGreatXBc
import Derived.Test.YtedmdgbmdplifaaGreatXBd
import Derived.Test.YtedmdgbmdplifaaGreatXBe
import Derived.Test.YtedmdgbmdplifaaGreatXBf
import Derived.Test.YtedmdgbmdplifaaGreatXBg
import Derived.Test.YtedmdgbmdplifaaGreatXBh
set_option maxHeartbeats 32000000
set_option maxRecDepth 100000
set_option linter.unusedSimpArgs false
set_option linter.unusedVariables false
namespace Go.Proofs.YtedmdgbmdplifaaGreat
open Go.RowKit
theorem P8{a c:Int}{s t:Ba}(w:World):(Op.equalIn 10000 31 (.agg #[I6 a,Sg s]) (.agg #[I6 c,Sg t])).run Tryz.prog w= .ok (decide (a=c)&&(s.toList==t.toList)) w:=by
 obtain⟨f0,f1,hu,n0,o0,q0,n1,o1,q1⟩:∃f0 f1:Field,Tryz.prog.underlying 31=some (.struct #[f0,f1])∧f0.name≠ "_"∧f0.offset=0∧f0.type=3∧f1.name≠ "_"∧f1.offset=1∧f1.type=9:=⟨_,_,Tryz.underlying31,by decide,rfl,rfl,by decide,rfl,rfl⟩
 have hf:Tryz.prog.fieldsOf 31= #[f0,f1]:=by unfold Program.fieldsOf;rw [hu]
 have hs:Tryz.prog.stoodInHeld 31=false:=by kernel_rfl
 rw [show(10000:Nat)=9999+1 from J,run_equalIn_struct w 9999 31 _ _ (by rw [hf];exact hu) hs,hf];have:=oF (d:=9999) (xs:= #[I6 a,Sg s]) (ys:= #[I6 c,Sg t]) (f:=f0) (fs:= [f1]) (w:=w) n0 (by rw [o0,q0];exact gw t3 J J w) (by rw [o0,q0];exact gw t3 J J w) (by rw [q0];exact run_equalIn_int w 9998 3 .i64 .i64 a c Tryz.underlying3)
  (oF n1 (by rw [o1,q1];exact gw t9 rfl rfl w) (by rw [o1,q1];exact gw t9 rfl rfl w) (by rw [q1];exact run_equalIn_string w 9998 9 s t Tryz.underlying9) (Bj _ _ _ w))
 rw [Bool.and_true]at this;exact this
theorem FU{a c:Int}{s t:Ba}:d8 Tryz.prog .eql 31 (.agg #[I6 a,Sg s]) (.agg #[I6 c,Sg t]) (.bool (decide (a=c)&&(s.toList==t.toList))):=fun x y w=>by
 have hq:Tryz.prog.eqGuardType Tryz.prog.depth 31=false:=by kernel_rfl
 simp only [Sem.run_bind,run_eqGuard_agg w .eql 31 x y _ _ hq,Result.andThen_ok,run_eql_struct];rw [P8];rfl
theorem tO{vp v:SV}{fs l:List Tf}(w:World)(F:Nat→Prop)(h:AllIn w F [lr vp fs v l]):(cE v l).pred w F:=by
 obtain⟨⟨_,a,b⟩,_⟩:=h;exact gI a.2 b
theorem Lh{fs:List Tf}(h:jK fs≠0):zD fs=(0,bD,jK fs):=if_pos h
theorem Fk{fs:List Tf}(hg:GP fs)(hc:¬jK fs≠0):(∃t,zD fs=(2,t,0))∨(zD fs=(0,bD,30)∧np fs>120):=by
 by_cases h:(jb fs).length*4>7936
 ·refine .inr ⟨by unfold zD;rw [if_neg hc,if_pos h],wS hg (by omega) (by omega)⟩
 ·exact .inl ⟨_,by unfold zD;rw [if_neg hc,if_neg h]⟩
theorem zp(x0:SV)(s:List Int)(b0:∀n∈s,wP n)(hl:s.length≤9223372036854775807)(q0:Int)(o0:wP q0)(q1:Int)(o1:wP q1)(q2:Int)(o2:wP q2)(r0:Int)(p0:wP r0)(r1:Int)(p1:wP r1)(r2:Int)(p2:wP r2):
  bi Tryz.prog 3 [sv x0,.agg #[I6 q0,I6 q1,I6 q2],.agg #[I6 r0,I6 r1,I6 r2]] [] [sl 1 eI (sv x0) s] (.bool true) []:=by
 refine aM Tryz.func3 J Tryz.ntmps3 J fun w0 M H=>ar (cA J J fun b4=>cA J J fun b5=>aq J (aF J (ak (xs:= []) ww QD [] [] [] (fun _ _=>aq J (aa (bz (X:=Nat×SV×List Tf) (fun y=>GPk 50100 y.2.2) (fun y=> [(5,Pt b5),(7,.bool true),(8,Pt y.1)]) (fun y=> [(5,be b5 23 [I6 r0,I6 r1,I6 r2]),(8,be y.1 27 [sv y.2.1]),(50,cE y.2.1 y.2.2)]) (fun y=> []) ?_ (fun⟨b8,vp,fs⟩ hp=> ?_)))))))
 ·refine bQ [13,14,15,16,8] _ J (dg (V:= [(0,13,_),(2,15,_)]) [0,2] J J (ay J J (ac J (aJ Mq J J J (a_ (k:=4) J)) ag)) J [1,4] J J (bC (cJ 1 [1,0] [] (fun v=> []) J J J J J J J J J (fun _ _=>J) J (bw (xs:= [.tmp 13]) (t8 x0 s hl b0) Oe [] [(false,0)] [90]) (fun v hm=>ag) (fun v hm=> ?_)) (bC (cJ 4 [4] [] (fun b8=> []) J J J J J J J J J (fun _ _=>J) J (d6 iQ J) (fun b8 _=>ag) (fun b8 _=> ?_)) dv)));all_goals first|refine cq [1,0] (dg [2] rfl rfl (ac rfl (aJ Mq rfl rfl rfl (a_ (k:=4) rfl)) ag) rfl [3,4] rfl rfl (bC (cJ 3 [3,2,1,0] [] (fun v16=> []) rfl rfl rfl rfl rfl rfl rfl rfl rfl (fun _ _=>rfl) rfl (bw (xs:= [.tmp 14,.tmp 15]) (lG v.1 v.2 50000 (by omega) (AX hm) q0 q1 q2 o0 o1 o2) Lz [90] [] [51]) (fun v16 hv16=>ag) (fun v16 hv16=> ?_)) (bC (cJ 4 [4,1,0] [] (fun b8=> []) rfl rfl rfl rfl rfl rfl rfl rfl rfl (fun _ _=>rfl) rfl (d6 iQ rfl) (fun b8 _=>ag) (fun b8 _=> ?_)) dv)))|refine cq [4] (dH [0,2] 1 [4,1,0] [] (fun v=> []) rfl rfl (ay rfl rfl (ac rfl (aJ Mq rfl rfl rfl (a_ (k:=4) rfl)) ag)) rfl rfl rfl rfl rfl rfl rfl rfl rfl rfl rfl (fun _ _=>rfl) rfl (bw (xs:= [.tmp 13]) (t8 x0 s hl b0) Oe [] [(false,0)] [90]) (fun v hm=>ag) (fun v hm=> ?_))
  all_goals first|refine cq [3,2,1,0] (dH [] 4 [4,3,2,1,0] [] (fun b8=> []) rfl rfl ag rfl rfl rfl rfl rfl rfl rfl rfl rfl rfl rfl (fun _ _=>rfl) rfl (d6 iQ rfl) (fun b8 _=>ag) (fun b8 _=> ?_))|refine cq [4,1,0] (dH [2] 3 [4,3,2,1,0] [] (fun v16=> []) rfl rfl (ac rfl (aJ Mq rfl rfl rfl (a_ (k:=4) rfl)) ag) rfl rfl rfl rfl rfl rfl rfl rfl rfl rfl rfl (fun _ _=>rfl) rfl (bw (xs:= [.tmp 14,.tmp 15]) (lG v.1 v.2 50000 (by omega) (AX hm) q0 q1 q2 o0 o1 o2) Lz [90] [] [51]) (fun v16 hv16=>ag) (fun v16 hv16=> ?_))
  all_goals first|refine cq [4,3,2,1,0] (fI [] 5 [5,4,3,2,1,0] [] (fun _=> []) rfl rfl ag rfl rfl rfl rfl rfl rfl rfl rfl rfl (fun _ _=>rfl) rfl (bL (k:=8) iQ rfl rfl rfl rfl rfl rfl) (fun _ _=>ag) (fun _ _=> ?_))
  all_goals first|refine cq [5,4,3,2,1,0] (ko [] rfl rfl ag rfl rfl rfl ?_)
  all_goals
   refine bh 50 [51] (L:= [lr v.1 v.2 v16.1 v16.2]) (C:=cE v16.1 v16.2) J tO (aG (b8,v16.1,v16.2) hv16 J J J)
 ·dsimp only at hp ⊢;refine ar (aS (aJ iQ J J J (a_ (k:=8) J)) (aS (aJ Mq J J J (a_ (k:=5) J)) (ak (xs:= [.tmp 17,.tmp 18]) (lG vp fs 50100 (by omega) hp r0 r1 r2 p0 p1 p2) Lz [50] [] [52] (fun⟨vq,gs⟩ hq=> ?_))));dsimp only at hq ⊢;refine bh 53 [52] (L:= [lr vp fs vq gs]) (C:=cE vq gs) J tO ?_;have hgp:GP gs:=GPk.gp (by omega) hq;obtain⟨k,t,e,hcm⟩:∃k t e,zD gs=(k,t,e):=⟨_,_,_,J⟩
  refine au (k:=8) iQ J J J J J J (aF J (aS (aJ iQ J J J (a_ (k:=8) J)) (ak (xs:= [.tmp 21]) (kU vq gs hgp hcm) Ig [] [(true,53)] [] (fun _ _=>ad J (aS (cS J J) (aS (cS J J) (aX tc J J fun b9=>au (k:=9) tc J J J J J J (aq J (aF J (aS (aJ iQ J J J (a_ (k:=8) J)) (ak (xs:= [.tmp 25]) (xz vq gs hgp) QC [] [(true,53)] [] (fun _ _=>aq J (aa (aZ ?_))))))))))))));refine ar (ad J (av J J gj (aa (am J (fun h1=> ?_) (fun h1=> ?_)))))
  ·(try simp only [bk]at h1);have hcb:=hcm.symm.trans (Lh h1);injection hcb with e1 hcb;injection hcb with e2 e3;subst e1;subst e2;subst e3;refine ar (ad J (ad J (bP J J (ad J (bP J J (ad J (bP J J (av J J br (aS (e9 J J J (yF J)) (ad J (fq (t:=35) J (fun h2=> ?_) (fun h2=>False.elim (by revert h2;simp)))))))))))));refine bP J J (aS (aJ tc J J J (a_ (k:=9) J)) (bP J J (aS (aR (parts:= []) tc DW J J) (bP J J (av J J FU (aS (bK J J J) (aq J (aa (az (aQ () O J (cc (aP J)) (by kernel_rfl) [] [] J J J))))))))))
  ·(try simp only [bk]at h1);have hc0:=Fk hgp (fun q=>q h1);rw [hcm]at hc0;refine aA (aZ ?_);rcases hc0 with⟨t2,hc0⟩|⟨hc0,hn⟩
   ·injection hc0 with e1 hc0;injection hc0 with e2 e3;subst e1;subst e3;refine ap (ad J (ad J (bP J J (ad J (bP J J (av J J br (bP J J (ad J (fq (t:=44) J (fun h3=> ?_) (fun h3=>False.elim (by revert h3;simp)))))))))));refine bP J J (aD E4 J (bP J J (aT 9 t3 J J J J (bP J J (av J J br (bP J J (aS (bK J J J) (bP J J (ad J (fq (t:=49) J (fun h4=> ?_) (fun h4=>False.elim (by revert h4;simp))))))))))));refine dJ J J J J (dJ J J J J (dJ J J J J (tT J J J (tT J J J (tT J J J (dJ J J J J (dJ J J J J (tT J J J (tT J J J (tT J J J (dJ J J J J (bP J J (aS (bK J J J) (aS (e9 J J J (yF J)) (aq J (aa (az (aQ () O J (cc (aP J)) (by kernel_rfl) [] [] J J J))))))))))))))))))
   ·injection hc0 with e1 hc0;injection hc0 with e2 e3;subst e1;subst e2;subst e3;refine ap (ad J (ad J (bP J J (ad J (bP J J (av J J br (bP J J (ad J (fq (t:=44) J (fun h5=>False.elim (by revert h5;simp)) (fun h5=>dJ J J J J (dJ J J J J (dJ J J J J (bP J J (aS (bK J J J) (bP J J (ad J (fq (t:=49) J (fun h6=>False.elim (by revert h6;simp)) (fun h6=>bP J J (ad J ?_)))))))))))))))))));refine bP J J (av J J br (bP J J (ad J (fq (t:=52) J (fun h7=> ?_) (fun h7=>False.elim (by revert h7;simp))))));refine bP J J (aS (aJ iQ J J J (a_ (k:=8) J)) (bP J J (ak (xs:= [.tmp 53]) (yM vq gs hgp) QB [] [(true,53)] [] (fun _ _=>bP J J (av J J fh (bP J J (aS (bK J J J) (bP J J (ad J (fq (t:=57) J (fun h8=> ?_) (fun h8=>False.elim (by revert h8;simp;omega))))))))))));refine bP J J (aS (aJ tc J J J (a_ (k:=9) J)) (bP J J (aS (aR (parts:= []) tc DW J J) (bP J J (av J J FU (bP J J (aS (bK J J J) (bP J J (aS (bK J J J) (aS (e9 J J J (yF J)) (aq J (aa (az (aQ () O J (cc (aP J)) (by kernel_rfl) [] [] J J J))))))))))))))
end Go.Proofs.YtedmdgbmdplifaaGreat
namespace Go.Proofs.YtedmdgbmdplifaaGreat
open Go.ChangeShapes Go.WideShapes Go.ChangeAt Go.RowKit
theorem Tryz.own:ownKnob Tryz.prog.godebug=none:=by kernel_rfl
theorem Tryz.laidOut:laidOutB Tryz.prog=true:=by kernel_rfl
theorem Tryz.cells3:Tryz.prog.cellsOf 3=1:=by kernel_rfl
theorem Tryz.cells23:Tryz.prog.cellsOf 23=3:=by kernel_rfl
theorem Ep:∀xs:List Int,xs.length=3→∃a b c,xs= [a,b,c]
 | [a,b,c],_=>⟨a,b,c,rfl⟩
theorem JS{W:World}{x:SV}{s:List Int}{n:Nat}(h:∃G:Nat→Prop,s_ W G 1 eI (sv x) s∧∀b,G b→b<n):s.length≤9223372036854775807:=by
 obtain⟨G,⟨c,h1,h2,-⟩,-⟩:=h;unfold maxLen at h2;omega
theorem nU(os:Os)(started:os.Started)(H:Type)(enc:TypeId×Value→H):
  ReturnsInHanded {} Tryz.checked os 3 .any (Rows.qgenErrorsSpec.pre6 enc Tryz.prog Tryz.f3 Rows.qgenErrorsRow.domain false) (Rows.qgenErrorsSpec.post enc Tryz.prog Tryz.f3 false true false false):=by
 refine returnsInHanded_of_change (C:=Tryz.checked) Tryz.own started (by kernel_rfl) Tryz.func3
  (ChangeSpec.witness6 (enc:=enc) (C:=Tryz.checked) false ⟨#[],#[.slice none 0 0,.agg #[I6 0,I6 0,I6 0],.agg #[I6 0,I6 0,I6 0]],[]⟩ 8 (by kernel_rfl) (by kernel_rfl) (by kernel_rfl) (by kernel_rfl)) ?_
 intro W base args ds gs before hval0 hW hcnd _;have hval:∀(j:Nat) t v,Tryz.f3.params[j]?=some t→args[j]?=some v→Value.okWide Tryz.prog W .any base t v:=hval0;have hW0:=hW;obtain⟨pp,qq,hA0,hV,-,-,-⟩:=hW;have hA:DataW.TrodAll enc Tryz.prog W 0 (fun _=>true) true Tryz.f3.params.toList args.toList ds pp:=hA0;obtain⟨rfl,-⟩:=trodVars_none hV;rw [Tryz.params3]at hA hval;obtain⟨v0,vs0,d0,ds0,p0,q0,hargs,rfl,-,h0,r0⟩:=trodAll_cons hA;obtain⟨v1,vs1,d1,ds1,p1,q1,rfl,rfl,-,h1,r1⟩:=trodAll_cons r0;obtain⟨v2,vs2,d2,ds2,p2,q2,rfl,rfl,-,h2,r2⟩:=trodAll_cons r1;obtain⟨rfl,rfl,-⟩:=trodAll_nil r2;obtain rfl:args= #[v0,v1,v2]:=by cases args;simp_all
 obtain⟨x0,s0,rfl,b0,hs0⟩:=Cf Tryz.underlying22 Tryz.underlying3 Tryz.cells3 (hval 0 22 v0 J J) h0;obtain⟨xs1,hx1,rfl,wf1⟩:=tW Tryz.underlying23 Tryz.underlying3 Tryz.cells3 Tryz.cells23 (hval 1 23 v1 J J) h1;obtain⟨a1,b1,c1,rfl⟩:=Ep xs1 hx1;obtain⟨xs2,hx2,rfl,wf2⟩:=tW Tryz.underlying23 Tryz.underlying3 Tryz.cells3 Tryz.cells23 (hval 2 23 v2 J J) h2;obtain⟨a2,b2,c2,rfl⟩:=Ep xs2 hx2;refine((zp x0 s0 b0 (JS hs0) a1 (nr (wf1 _ (by simp))) b1 (nr (wf1 _ (by simp))) c1 (nr (wf1 _ (by simp))) a2 (nr (wf2 _ (by simp))) b2 (nr (wf2 _ (by simp))) c2 (nr (wf2 _ (by simp)))).law W (fun A hA=>by
  rcases List.mem_singleton.1 hA with rfl;exact hs0)).mono fun e W' ⟨_,_,he,hb⟩=> ?_
 subst he;exact⟨_,J,Es hW0 Tryz.laidOut (by kernel_rfl) J Tryz.underlying4 J J J J hb⟩
theorem QgenErrors_holds:Rows.QgenErrorsSaid:=
 OpenClaim.holds_of_wide 3 Tryz.f3 rfl rfl rfl rfl rfl rfl rfl ⟨rfl,rfl,rfl,rfl,rfl⟩ rfl rfl rfl rfl rfl (by kernel_rfl) Tryz.func3 (by kernel_rfl)
  (of_decide_eq_true (by kernel_rfl)) (by unfold Func.isWrapper;first|(rw [if_pos (by decide+kernel)];kernel_rfl)|(rw [if_neg (by decide+kernel)];exact⟨rfl,rfl⟩))
  (fun os started H enc _=>nU os started H enc)
#print axioms QgenErrors_holds
end Go.Proofs.YtedmdgbmdplifaaGreat
