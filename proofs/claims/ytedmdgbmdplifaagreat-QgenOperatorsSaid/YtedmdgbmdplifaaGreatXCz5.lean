/-
  The statement QgenOperatorsSaid: the law QgenOperators answers true and turns nothing that was there. No condition.
-/
import Derived.Test.YtedmdgbmdplifaaGreatRows
import Derived.Test.YtedmdgbmdplifaaGreatXCa
import Derived.Test.YtedmdgbmdplifaaGreatXCb
import Derived.Test.YtedmdgbmdplifaaGreatXCc
import Derived.Test.YtedmdgbmdplifaaGreatXCd
import Derived.Test.YtedmdgbmdplifaaGreatXCe
import Derived.Test.YtedmdgbmdplifaaGreatXCf
import Derived.Test.YtedmdgbmdplifaaGreatXCg
import Derived.Test.YtedmdgbmdplifaaGreatXCh
set_option maxHeartbeats 32000000
set_option maxRecDepth 100000
namespace Go.Proofs.YtedmdgbmdplifaaGreat
set_option linter.unusedSimpArgs false
set_option linter.unusedVariables false
open Go.RowKit

def srcO:ByteArray:=(ByteArray.mk #[102,110,32,109,97,105,110,40,41,32,123,32,118,97,114,32,97,32,61,32,105,110,59,32,118,97,114,32,98,32,61,32,105,110,59,32,111,117,116,32,45,97,59,32,111,117,116,32,126,97,59,32,111,117,116,32,33,97,59,32,111,117,116,32,33,33,98,59,32,111,117,116,32,97,32,124,32,98,59,32,111,117,116,32,97,32,94,32,98,59,32,111,117,116,32,97,32,38,32,98,59,32,111,117,116,32,97,32,61,61,32,98,59,32,111,117,116,32,97,32,33,61,32,98,59,32,111,117,116,32,97,32,60,32,98,59,32,111,117,116,32,97,32,60,61,32,98,59,32,111,117,116,32,97,32,62,32,98,59,32,111,117,116,32,97,32,62,61,32,98,59,32,111,117,116,32,97,32,60,60,32,98,59,32,111,117,116,32,97,32,62,62,32,98,59,32,111,117,116,32,97,32,43,32,98,59,32,111,117,116,32,97,32,45,32,98,59,32,111,117,116,32,97,32,42,32,98,59,32,111,117,116,32,97,32,47,32,98,59,32,111,117,116,32,97,32,37,32,98,59,32,125])
def tsO:List Tk:=(wT 600 srcO.data.toList 0 []).getD []
def pgO:List Pf:=(pP tsO 1000 [] 0).getD []
theorem Rb:ol srcO 600 0 []=some tsO:=by
 rw [uC _ _ _ (Nat.zero_le _),List.drop_zero];kernel_rfl
theorem Q1:pP tsO 1000 [] 0=some pgO:=by kernel_rfl
theorem Q7:tsO.length≤20000:=Nat.le_of_ble_eq_true (by kernel_rfl)
theorem QZ:srcO.size≤16384:=Nat.le_of_ble_eq_true (by kernel_rfl)
theorem RE:fT (pgO.map uF)=0:=by kernel_rfl
theorem Rw{fs:List Tf}(h:fs.map uo=pgO):Kf fs pgO:=Kf.of h (kA (by kernel_rfl)) RE (Nat.le_of_ble_eq_true (by kernel_rfl))
def srcP:ByteArray:=(ByteArray.mk (List.toArray (List.append [102,110,32,109,97,105,110,40,41,32,123,32,118,97,114,32,97,32,61,32,105,110,59,32,118,97,114,32,98,32,61,32,105,110] [59,32,111,117,116,32,45,97,59,32,111,117,116,32,126,97,59,32,111,117,116,32,33,97,59,32,111,117,116,32,33,33,98,59])))
def K4(l:List ByteArray):ByteArray:=l.foldl (fun s o=>((s++⟨#[32,111,117,116,32,97,32]⟩)++o)++⟨#[32,98,59]⟩) srcP
theorem Fw:K4 rlv.flatten++⟨#[32,125]⟩=srcO:=by kernel_rfl
theorem Cs(l:List ByteArray)(o:ByteArray):K4 (l++ [o])=((K4 l++⟨#[32,111,117,116,32,97,32]⟩)++o)++⟨#[32,98,59]⟩:=by
 unfold K4;rw [List.foldl_append];rfl
theorem Fv:srcP.size≤300:=Nat.le_of_ble_eq_true (by kernel_rfl)
theorem Jd:∀l∈rlv,l.length≤4∧∀o∈l,o.size≤2:=by decide
theorem CH{i:Nat}{l:List ByteArray}(h:rlv[i]?=some l):(rlv.take (i+1)).flatten=(rlv.take i).flatten++l:=by
 rw [bT h,List.flatten_append];simp
theorem Rr{a b:Int}(ha:oW a)(hb:oW b):∀z∈ [a,b],oW z:=fun z hz=>by
 rcases List.mem_cons.1 hz with rfl|hz
 ·exact ha
 ·rw [List.mem_singleton.1 hz];exact hb
theorem rB(u0:Int)(h0:0≤u0∧u0<4294967296)(u1:Int)(h1:0≤u1∧u1<4294967296)(n0:Int)(g0:Pg n0)(n1:Int)(g1:Pg n1):
  Spec Tryz.prog 5 [.agg #[.int .u32 u0,.int .u32 u1],.agg #[.int .i64 n0,.int .i64 n1]] [] [] (X:=Unit) (fun _=>True) (fun _=> .bool true) (fun _=> []) (fun _=> []):=by
 refine aI Tryz.func5 J Tryz.ntmps5 J fun w0 M H=> ?_
 have hin:∀z∈ [u0,u1],oW z:=fun z hz=>by
  rcases List.mem_cons.1 hz with rfl|hz
  ·exact h0
  ·rw [List.mem_singleton.1 hz];exact h1
 have hz0:=Fv;refine aj (bU J J fun b2=>bU J J fun b3=>ai J J (aG J (ak (xs:= []) km KI [] [] [] (fun _ _=>ai J J (aG J (ai J J (aG J (ak (xs:= []) jy KH [] [] [9] (fun lv hlv=> ?_)))))))));have hl8:lv.2.length=8:=by have:=congrArg List.length hlv;rw [List.length_map]at this;exact this
 refine cf 9 70 (A':=Dj lv.1 lv.2) J (fun _ _ h=>h) (aW 70 71 J Dh (ai J J (ac (aS (ai J J (ac (aB (bv (X:=Nat×ByteArray) (fun x=>x.1≤8∧x.2=K4 (rlv.take x.1).flatten∧x.2.size≤300+200*x.1) (fun x=> [(2,.pointer (some ⟨b2,0,none⟩)),(3,.pointer (some ⟨b3,0,none⟩)),(5,.bool true),(7,sv lv.1),(6,.string x.2),(8,.int .i64 (x.1:Int))]) (fun x=> [(2,bj b2 42 [.int .u32 u0,.int .u32 u1]),(3,bj b3 43 [.int .i64 n0,.int .i64 n1])]) (fun x=> [(70,Dj lv.1 lv.2),(71,sl 1 eQ (sv lv.1) lv.2)]) (fun x=>8-x.1) (0,srcP) ⟨Nat.zero_le _,J,hz0⟩ J J J (fun⟨i,s⟩⟨m1,m2,m3⟩=> ?_)))))))));dsimp only at m1 m2 m3 ⊢;refine aS (ad J J (ad J J (aO (aU Tryz.underlying44 J (aN (k:=71) J)) J (ar J J ci J (ac (ae J (fun h1=> ?_) (fun h1=> ?_)))))))
 ·(try simp only [be]at h1)
  have hi:i<8:=by omega
  obtain⟨pk,hpk⟩:∃pk,lv.2[i]?=some pk:=⟨_,List.getElem?_eq_getElem (by omega)⟩
  have hpm:=List.mem_of_getElem? hpk;have hrl:rlv[i]?=some pk.2:=by rw [←hlv,List.getElem?_map,hpk];rfl
  obtain⟨hp4,hp2⟩:=Jd _ (List.mem_of_getElem? hrl);refine aW 70 19 J (Di hpm) (ax (a_ (aB (aj (ai J J (ac (aB ?_)))))));refine bv (X:=Nat×ByteArray) (fun y=>y.1≤pk.2.length∧y.2=K4 ((rlv.take i).flatten++pk.2.take y.1)∧y.2.size≤300+200*i+20*y.1) (fun y=> [(2,.pointer (some ⟨b2,0,none⟩)),(3,.pointer (some ⟨b3,0,none⟩)),(5,.bool true),(7,sv lv.1),(6,.string y.2),(8,.int .i64 (i:Int)),(9,.int .i64 (y.1:Int))]) (fun y=> [(2,bj b2 42 [.int .u32 u0,.int .u32 u1]),(3,bj b3 43 [.int .i64 n0,.int .i64 n1])]) (fun y=> [(70,Dj lv.1 lv.2),(71,sl 1 eQ (sv lv.1) lv.2),(19,sl 1 eS (sv pk.1) pk.2)]) (fun y=>pk.2.length-y.1) (0,s) ⟨Nat.zero_le _,by rw [List.take_zero,List.append_nil];exact m2,by dsimp only;omega⟩ J J J (fun⟨k,t⟩⟨n1,n2,n3⟩=> ?_);dsimp only at n1 n2 n3 ⊢;refine aS (ad J J (ad J J (ad J J (aO (aR (j:=i) Tryz.underlying44 gu J J (aN (k:=71) J) (by first|rfl|omega) (by first|omega|(simp;done)|(simp;omega))) J (aO (ah gu J J (bD (aN (k:=71) J) (by intro _;rfl) hpk (by rfl))) J (aO (aU Tryz.underlying46 J (aN (k:=19) J)) J (ar J J ci J (ac (ae J (fun h2=> ?_) (fun h2=> ?_))))))))))
  ·(try simp only [be]at h2)
   have hk:k<pk.2.length:=by omega
   obtain⟨o,hko⟩:∃o,pk.2[k]?=some o:=⟨_,List.getElem?_eq_getElem hk⟩
   have ho2:=hp2 o (List.mem_of_getElem? hko);refine ax (a_ (aB (ap (ad J J (ar J J (uh (by show _+7≤_;omega)) J (ad J J (ad J J (aO (aR (j:=i) Tryz.underlying44 gu J J (aN (k:=71) J) (by first|rfl|omega) (by first|omega|(simp;done)|(simp;omega))) J (aO (ah gu J J (bD (aN (k:=71) J) (by intro _;rfl) hpk (by rfl))) J (ad J J (aO (aR (j:=k) Tryz.underlying46 t9 J J (aN (k:=19) J) (by first|rfl|omega) (by first|omega|(simp;done)|(simp;omega))) J (aO (ah t9 J J (bD (aN (k:=19) J) (by intro _;rfl) hko (by rfl))) J (ar J J (uh (by rw [ByteArray.size_append];show _+7+_≤_;omega)) J (ar J J (uh (by rw [ByteArray.size_append,ByteArray.size_append];show _+7+_+3≤_;omega)) J (ai J J (ac (ap (ad J J (ar J J (bi (by first|exact bc (by omega) (by omega)|rfl)) J ?_)))))))))))))))))));refine ai J J (ac ?_);refine aM (k+1,((t++⟨#[32,111,117,116,32,97,32]⟩)++o)++⟨#[32,98,59]⟩) ⟨⟨by dsimp only;omega,by dsimp only;rw [bT hko,←List.append_assoc,Cs,←n2],by dsimp only;rw [ByteArray.size_append,ByteArray.size_append,ByteArray.size_append];show _+7+_+3≤_;omega⟩,by dsimp only;omega⟩ J J J
  ·(try simp only [be]at h2)
   have hk:k=pk.2.length:=by omega
   subst hk;rw [List.take_length]at n2;refine bx (ap (ad J J (ar J J (bi (by first|exact bc (by omega) (by omega)|rfl)) J (ai J J (ac ?_)))));refine aM (i+1,t) ⟨⟨by dsimp only;omega,by dsimp only;rw [CH hrl];exact n2,by dsimp only;omega⟩,by dsimp only;omega⟩ J J J
 ·(try simp only [be]at h1)
  have hi:i=8:=by omega
  subst hi;rw [show rlv.take 8=rlv from J]at m2;refine bx (aj (ad J J ?_));subst m2;refine ar J J (uh (by show _+2≤_;omega)) J ?_;have hpz:=gE srcO QZ 600 tsO Rb Q7 pgO Q1;rw [←Fw]at hpz;refine ak (xs:= [.tmp 42]) hpz Eu [] [] [80] (fun x hx=> ?_);have kk:=Rw hx;refine aZ i7 J J fun b10=>aq (k:=10) i7 J J J J J J (aG J (aO (aL i7 J J J (aX (k:=10) J)) J (aO (ip (j:=0) Tryz.underlying42 cB J J (by first|rfl|omega) (by first|omega|(simp;done)|(simp;omega))) J (aP 2 cB J J J J J (aO (ip (j:=1) Tryz.underlying42 cB J J (by first|rfl|omega) (by first|omega|(simp;done)|(simp;omega))) J (aP 2 cB J J J J J (cD eU [u0,u1] (parts:= [(0,.tmp 46),(1,.tmp 48)]) Tryz.underlying48 cB J (by decide) (by intro _;rfl) J (by decide) (by decide) J J J J fun v49=>ak (xs:= [.tmp 44,.tmp 49]) (wc x.1 v49 x.2 [u0,u1] kk.g kk.c hin (by show 2≤_;decide)) Er [] [(true,80),(true,49)] [] (fun _ _=>ai J J (ac (a_ ?_))))))))))
  refine bH [51,52,53,54,55,56,57,58,59,12] _ J (bk (V:= [(0,51,_),(1,52,_),(2,53,_),(4,55,_),(5,56,_)]) [0,1,2,4,5] 3 [3,2,1] [] (fun z1=> []) J J (aa (aD J (aL i7 J J J (aX (k:=10) J))) (aa (aD J (ip (j:=0) Tryz.underlying43 t3 J J (by first|rfl|omega) (by first|omega|(simp;done)|(simp;omega)))) (aa (aD J (ah t3 J J (ay (k:=3) J J))) (aa (aD J (ip (j:=1) Tryz.underlying43 t3 J J (by first|rfl|omega) (by first|omega|(simp;done)|(simp;omega)))) (aa (aD J (ah t3 J J (ay (k:=3) J J))) aw))))) J J J J J J J J J J J (fun _ _=>J) J (bq (xs:= [.tmp 53]) (sd n0) M7 [] [] [] J J J J J J J J (fun _ _=>J) (fun _ _ _=>J)) (fun z1 hz1=>bk [0,4,5] 6 [6,5,4,3,2,1] [] (fun z2=> []) J J (aa (aD J (aL i7 J J J (aX (k:=10) J))) (aa (aD J (ip (j:=1) Tryz.underlying43 t3 J J (by first|rfl|omega) (by first|omega|(simp;done)|(simp;omega)))) (aa (aD J (ah t3 J J (ay (k:=3) J J))) aw))) J J J J J J J J J J J (fun _ _=>J) J (bq (xs:= [.tmp 56]) (sd n1) M7 [] [] [] J J J J J J J J (fun _ _=>J) (fun _ _ _=>J)) (fun z2 hz2=>bk [0] 7 [7,6,5,4,3,2,1] [] (fun v58=> []) J J (aa (aD J (aL i7 J J J (aX (k:=10) J))) aw) J J J J J J J J J J J (fun _ _=>J) J (gl eU [z1,z2] (parts:= [(0,.tmp 54),(1,.tmp 57)]) Tryz.underlying48 cB J (by decide) (by intro _;rfl) J (by decide) (by decide) J J J) (fun v58 _=>bk [0] 8 [8,7,6,5,4,3,2,1,0] [9] (fun _=> [(9,12,_)]) J J (aa (aD J (aL i7 J J J (aX (k:=10) J))) aw) J J J J J J J J J J J (fun _ _=>J) J (bq (xs:= [.tmp 51,.tmp 58]) (wc x.1 v58 x.2 [z1,z2] kk.g kk.c (Rr hz1 hz2) (by show 2≤_;decide)) Er [] [(true,80),(true,58)] [] J J J J J J J J (fun _ _=>J) (fun _ _ _=>J)) (fun _ _=>bp [9] J J (aa (aD J (ct J)) aw) J J J ?_)))));refine aj (ad J J (ad J J (cn J J (ad J J (aO (aQ J J J (xl J)) J (ad J J (cn J J (ad J J (aO (aQ J J J (xl J)) J (ai J J (ac (au (aH () O J (bE (aJ J)) J [] [] J J J)))))))))))))

end Go.Proofs.YtedmdgbmdplifaaGreat
namespace Go.Proofs.YtedmdgbmdplifaaGreat
set_option linter.unusedSimpArgs false
set_option linter.unusedVariables false
open Go.ChangeShapes Go.WideShapes Go.ChangeAt Go.RowKit

theorem Tryz.own:ownKnob Tryz.prog.godebug=none:=by kernel_rfl
theorem Tryz.laidOut:laidOutB Tryz.prog=true:=by kernel_rfl
theorem Tryz.cells3:Tryz.prog.cellsOf 3=1:=by kernel_rfl
theorem Tryz.cells41:Tryz.prog.cellsOf 41=1:=by kernel_rfl
theorem Tryz.cells42:Tryz.prog.cellsOf 42=2:=by kernel_rfl
theorem Tryz.cells43:Tryz.prog.cellsOf 43=2:=by kernel_rfl
theorem Dl:∀xs:List Int,xs.length=2→∃a b,xs= [a,b]
 | [a,b],_=>⟨a,b,rfl⟩
theorem oy{n:Int}(h:(Lit.int .u32 n).wf=true):0≤n∧n<4294967296:=by
 simp [Lit.wf,IntKind.signed,IntKind.bits,IntKind.min,IntKind.max]at h;omega

theorem kq(os:Os)(started:os.Started)(H:Type)(enc:TypeId×Value→H):
  ReturnsInHanded {} Tryz.checked os 5 .any (Rows.qgenOperatorsSpec.pre6 enc Tryz.prog Tryz.f5 Rows.qgenOperatorsRow.domain false) (Rows.qgenOperatorsSpec.post enc Tryz.prog Tryz.f5 false true false false):=by
 refine returnsInHanded_of_change (C:=Tryz.checked) Tryz.own started (by kernel_rfl) Tryz.func5
  (ChangeSpec.witness6 (enc:=enc) (C:=Tryz.checked) false ⟨#[],#[.agg #[.int .u32 0,.int .u32 0],.agg #[.int .i64 0,.int .i64 0]],[]⟩ 8 (by kernel_rfl) (by kernel_rfl) (by kernel_rfl) (by kernel_rfl)) ?_
 intro W base args ds gs before hval0 hW hcnd _;have hval:∀(j:Nat) t v,Tryz.f5.params[j]?=some t→args[j]?=some v→Value.okWide Tryz.prog W .any base t v:=hval0;have hW0:=hW;obtain⟨pp,qq,hA0,hV,-,-,-⟩:=hW;have hA:DataW.TrodAll enc Tryz.prog W 0 (fun _=>true) true Tryz.f5.params.toList args.toList ds pp:=hA0;obtain⟨rfl,-⟩:=trodVars_none hV;rw [Tryz.params5]at hA hval;obtain⟨v0,vs0,d0,ds0,p0,q0,hargs,rfl,-,h0,r0⟩:=trodAll_cons hA;obtain⟨v1,vs1,d1,ds1,p1,q1,rfl,rfl,-,h1,r1⟩:=trodAll_cons r0;obtain⟨rfl,rfl,-⟩:=trodAll_nil r1;obtain rfl:args= #[v0,v1]:=by cases args;simp_all
 obtain⟨xs0,hx0,rfl,wf0⟩:=sa Tryz.underlying42 Tryz.underlying41 Tryz.cells41 Tryz.cells42 (hval 0 42 v0 J J) h0;obtain⟨a0,b0,rfl⟩:=Dl xs0 hx0;obtain⟨xs1,hx1,rfl,wf1⟩:=sa Tryz.underlying43 Tryz.underlying3 Tryz.cells3 Tryz.cells43 (hval 1 43 v1 J J) h1;obtain⟨a1,b1,rfl⟩:=Dl xs1 hx1;refine((rB a0 (oy (wf0 _ (by simp))) b0 (oy (wf0 _ (by simp))) a1 (Dv (wf1 _ (by simp))) b1 (Dv (wf1 _ (by simp)))).law W (fun A hA=>by simp at hA)).mono fun e W' ⟨_,_,he,hb⟩=> ?_
 subst he;exact⟨_,J,qf hW0 Tryz.laidOut (by kernel_rfl) J Tryz.underlying4 J J J J hb⟩

theorem QgenOperators_holds:Rows.QgenOperatorsSaid:=
 OpenClaim.holds_of_wide 5 Tryz.f5 rfl rfl rfl rfl rfl rfl rfl ⟨rfl,rfl,rfl,rfl,rfl⟩ rfl rfl rfl rfl rfl (by kernel_rfl) Tryz.func5 (by kernel_rfl)
  (of_decide_eq_true (by kernel_rfl)) (by unfold Func.isWrapper;first|(rw [if_pos (by decide+kernel)];kernel_rfl)|(rw [if_neg (by decide+kernel)];exact⟨rfl,rfl⟩))
  (fun os started H enc _=>kq os started H enc)
#print axioms QgenOperators_holds
end Go.Proofs.YtedmdgbmdplifaaGreat
