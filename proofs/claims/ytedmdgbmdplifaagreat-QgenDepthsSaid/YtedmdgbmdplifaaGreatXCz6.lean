/-
  The statement QgenDepthsSaid: the law QgenDepths answers true and turns nothing that was there. No condition.
-/
import Derived.Test.YtedmdgbmdplifaaGreatRows
import Derived.Test.YtedmdgbmdplifaaGreatXCa
import Derived.Test.YtedmdgbmdplifaaGreatXCb
import Derived.Test.YtedmdgbmdplifaaGreatXCc
import Derived.Test.YtedmdgbmdplifaaGreatXCd
import Derived.Test.YtedmdgbmdplifaaGreatXCe
import Derived.Test.YtedmdgbmdplifaaGreatXCf
import Derived.Test.YtedmdgbmdplifaaGreatXCg
import Derived.Test.YtedmdgbmdplifaaGreatXCh
set_option maxHeartbeats 32000000
set_option maxRecDepth 100000
namespace Go.Proofs.YtedmdgbmdplifaaGreat
set_option linter.unusedSimpArgs false
set_option linter.unusedVariables false
open Go.RowKit

def srcD0:ByteArray:=(ByteArray.mk (List.toArray (List.append [102,110,32,109,97,105,110,40,41,32,123,32,111,117,116,32,102,40,105,110,41,59,32,125,32,102,110,32,102,40,110,41,32,123,32,105,102,32] [110,32,123,32,114,101,116,117,114,110,32,102,40,110,32,45,32,49,41,32,43,32,49,59,32,125,32,114,101,116,117,114,110,32,53,59,32,125])))
def tsD0:List Tk:=(wT 400 srcD0.data.toList 0 []).getD []
def pgD0:List Pf:=(pP tsD0 1000 [] 0).getD []
theorem OQ:ol srcD0 400 0 []=some tsD0:=by
 rw [uC _ _ _ (Nat.zero_le _),List.drop_zero];kernel_rfl
theorem OK:pP tsD0 1000 [] 0=some pgD0:=by kernel_rfl
theorem ON:tsD0.length≤20000:=Nat.le_of_ble_eq_true (by kernel_rfl)
theorem OH:srcD0.size≤16384:=Nat.le_of_ble_eq_true (by kernel_rfl)
theorem M0:fT (pgD0.map uF)=0:=by kernel_rfl
theorem PD{fs:List Tf}(h:fs.map uo=pgD0):Kf fs pgD0:=Kf.of h (kA (by kernel_rfl)) M0 (Nat.le_of_ble_eq_true (by kernel_rfl))
def srcD1:ByteArray:=(ByteArray.mk (List.toArray (List.append [102,110,32,109,97,105,110,40,41,32,123,32,111,117,116,32,102,40,105,110,44,32,51,41,59,32,125,32,102,110,32,102,40,110,44,32,109,41,32,123,32,118,97,114,32,120,32,61,32,110] [32,42,32,109,59,32,105,102,32,110,32,123,32,120,32,61,32,102,40,110,32,45,32,49,44,32,109,32,43,32,49,41,32,43,32,120,59,32,125,32,114,101,116,117,114,110,32,120,59,32,125])))
def tsD1:List Tk:=(wT 400 srcD1.data.toList 0 []).getD []
def pgD1:List Pf:=(pP tsD1 1000 [] 0).getD []
theorem OP:ol srcD1 400 0 []=some tsD1:=by
 rw [uC _ _ _ (Nat.zero_le _),List.drop_zero];kernel_rfl
theorem OJ:pP tsD1 1000 [] 0=some pgD1:=by kernel_rfl
theorem OM:tsD1.length≤20000:=Nat.le_of_ble_eq_true (by kernel_rfl)
theorem OG:srcD1.size≤16384:=Nat.le_of_ble_eq_true (by kernel_rfl)
theorem MZ:fT (pgD1.map uF)=0:=by kernel_rfl
theorem PB{fs:List Tf}(h:fs.map uo=pgD1):Kf fs pgD1:=Kf.of h (kA (by kernel_rfl)) MZ (Nat.le_of_ble_eq_true (by kernel_rfl))
def srcD2:ByteArray:=(ByteArray.mk (List.toArray (List.append (List.append [102,110,32,109,97,105,110,40,41,32,123,32,111,117,116,32,102,40,105,110,44,32,49,44,32,50,41,59,32,111,117,116,32,55,59,32,125,32,102,110,32,102] [40,110,44,32,97,44,32,98,41,32,123,32,105,102,32,110,32,61,61,32,48,32,123,32,114,101,116,117,114,110,32,97,32,45,32,98,59,32,125,32,114,101,116]) (List.append [117,114,110,32,103,40,110,32,45,32,49,44,32,98,44,32,97,41,59,32,125,32,102,110,32,103,40,110,44,32,97,44,32,98,41,32,123,32,105,102,32,110] [32,123,32,114,101,116,117,114,110,32,102,40,110,32,45,32,49,44,32,97,32,43,32,98,44,32,98,41,59,32,125,32,114,101,116,117,114,110,32,97,59,32,125]))))
def tsD2:List Tk:=(wT 400 srcD2.data.toList 0 []).getD []
def pgD2:List Pf:=(pP tsD2 1000 [] 0).getD []
theorem OO:ol srcD2 400 0 []=some tsD2:=by
 rw [uC _ _ _ (Nat.zero_le _),List.drop_zero];kernel_rfl
theorem OI:pP tsD2 1000 [] 0=some pgD2:=by kernel_rfl
theorem OL:tsD2.length≤20000:=Nat.le_of_ble_eq_true (by kernel_rfl)
theorem OF:srcD2.size≤16384:=Nat.le_of_ble_eq_true (by kernel_rfl)
theorem MY:fT (pgD2.map uF)=0:=by kernel_rfl
theorem PA{fs:List Tf}(h:fs.map uo=pgD2):Kf fs pgD2:=Kf.of h (kA (by kernel_rfl)) MY (Nat.le_of_ble_eq_true (by kernel_rfl))
def sD:Nat→ByteArray
 | 0=>srcD0
 | 1=>srcD1
 | _=>srcD2
def Oj:Nat→List Tk
 | 0=>tsD0
 | 1=>tsD1
 | _=>tsD2
def Jr:Nat→List Pf
 | 0=>pgD0
 | 1=>pgD1
 | _=>pgD2
theorem Rc:∀k,ol (sD k) 400 0 []=some (Oj k)
 | 0=>OQ
 | 1=>OP
 | _+2=>OO
theorem Q3:∀k,pP (Oj k) 1000 [] 0=some (Jr k)
 | 0=>OK
 | 1=>OJ
 | _+2=>OI
theorem Q8:∀k,(Oj k).length≤20000
 | 0=>ON
 | 1=>OM
 | _+2=>OL
theorem Q0:∀k,(sD k).size≤16384
 | 0=>OH
 | 1=>OG
 | _+2=>OF
theorem QQ:∀k,fT ((Jr k).map uF)=0
 | 0=>M0
 | 1=>MZ
 | _+2=>MY
theorem Rx:∀(k:Nat){fs:List Tf},fs.map uo=Jr k→Kf fs (Jr k)
 | 0,_,h=>PD h
 | 1,_,h=>PB h
 | _+2,_,h=>PA h
def QL(k d:Nat):Bool:=match uQ ((Jr k).map uF) [(d:Int)] 800 with
 | some (.ok _ _)=>decide (d≤10)
 | some (.err z)=>decide (z=26)&&decide (10<d)
 | _=>false
theorem Ji:((List.range 3).all fun k=>(List.range 16).all fun d=>QL k d)=true:=by kernel_rfl
theorem rD{k d:Nat}(hk:k<3)(hd:d<16){fs:List Tf}(h:Kf fs (Jr k)):∃ru,RunIs fs [(d:Int)] 800 ru∧((ru.err=0∧d≤10)∨(ru.err=26∧10<d)):=by
 have h1:=List.all_eq_true.1 (List.all_eq_true.1 Ji k (List.mem_range.2 hk)) d (List.mem_range.2 hd);unfold QL at h1;split at h1
 ·rename_i v s hr;exact⟨_,h.run (QQ k) hr,Or.inl ⟨J,of_decide_eq_true h1⟩⟩
 ·rename_i z hr;rw [Bool.and_eq_true,decide_eq_true_eq,decide_eq_true_eq]at h1;obtain⟨rfl,h2⟩:=h1;exact⟨_,h.run (QQ k) hr,Or.inr ⟨J,h2⟩⟩
 ·cases h1
theorem yf{ru:Ru}{d:Nat}{t:Int}{p:Prop}(h:(ru.err=0∧d≤10)∨(ru.err=26∧10<d))(ha:ru.err=0→t=4∧p)(hb:ru.err=26→t=3):Value.bool (true&&true&&true&&decide (t=3)==decide ((d:Int)>10))= .bool true:=by
 rcases h with⟨h1,h2⟩|⟨h1,h2⟩
 ·rw [(ha h1).1,decide_eq_false (p:=(d:Int)>10) (by omega)];rfl
 ·rw [hb h1,decide_eq_true (p:=(d:Int)>10) (by omega)];rfl
theorem yd(dp pm w:Int)(hw:0≤w∧w<4294967296):
  Spec Tryz.prog 6 [.int .i64 dp,.int .i64 pm,.int .u32 w] [] [] (X:=Unit) (fun _=>True) (fun _=> .bool true) (fun _=> []) (fun _=> []):=by
 refine aI Tryz.func6 J Tryz.ntmps6 J fun w0 M H=> ?_
 have hd16:=oO (x:=dp) (n:=16) (by decide);have hk3:=oO (x:=pm) (n:=3) (by decide);obtain⟨d,hd⟩:∃d:Nat,tK dp 16=(d:Int):=⟨_,(Int.toNat_of_nonneg hd16.1).symm⟩
 obtain⟨k,hk⟩:∃k:Nat,tK pm 3=(k:Int):=⟨_,(Int.toNat_of_nonneg hk3.1).symm⟩
 rw [hd]at hd16;rw [hk]at hk3;have hm1:∀z:Int,(z:Int)=tK dp 16→z=(d:Int):=fun z h=>h.trans hd
 obtain⟨w64,hw64⟩:∃z:Int,w%64=z:=⟨_,J⟩
 have hw2:0≤w64∧w64<64:=by omega
 have hl3:([srcD0,srcD1,srcD2]:List ByteArray).length=3:=J;have hx:([srcD0,srcD1,srcD2]:List ByteArray)[k]?=some (sD k):=by
  have:k=0∨k=1∨k=2:=by omega
  rcases this with rfl|rfl|rfl<;>rfl
 refine aj (ai J J (aG J (ak (xs:= []) km KI [] [] [] (fun _ _=>ai J J (aG J (ad J J (ak (xs:= [.tmp 18,.const (.int .i64 16)]) (mK dp 16 (by decide)) Hh [] [] [] (fun _ _=> ?_))))))));rw [hd];refine ai J J (aG J (ad J J (ak (xs:= [.tmp 20,.const (.int .i64 3)]) (mK pm 3 (by decide)) Hh [] [] [] (fun _ _=> ?_))));rw [hk];refine ai J J (aG J (cD eS [srcD0,srcD1,srcD2] (parts:= [(0,.const (.string srcD0)),(1,.const (.string srcD1)),(2,.const (.string srcD2))]) Tryz.underlying46 t9 J (by decide) (by intro _;rfl) J (by decide) (by decide) J J J J fun v22=>ad J J (aO (aR (j:=k) Tryz.underlying46 t9 J J (bs (k:=22) J) J (by first|omega|(simp;done)|(simp;omega))) J (aO (ah t9 J J (bD (bs (k:=22) J) (by intro _;rfl) hx (by rfl))) J (ai J J (aG J (ad J J (ak (xs:= [.tmp 26]) (gE (sD k) (Q0 k) 400 (Oj k) (Rc k) (Q8 k) (Jr k) (Q3 k)) Eu [] [] [80] (fun x hx=> ?_)))))))));have kk:=Rx k hx;have hz:=ml kk.g kk.c kk.n;obtain⟨ru,hru,hcs⟩:=rD (k:=k) (d:=d) (by omega) (by omega) kk;refine aZ i7 J J fun b11=>aq (k:=11) i7 J J J J J J (aG J (aO (aL i7 J J J (aX (k:=11) J)) J (ak (xs:= [.tmp 29]) (gq x.1 x.2 kk.g (mm kk.g kk.c kk.n)) BC [] [(true,80)] [] (fun _ _=>ad J J (aO (ce J J) J (aO (ce J J) J (aZ qW J J fun b12=>aq (k:=12) qW J J J J J J (ai J J (ac (aS (ad J J (ar J J df J (ad J J ?_)))))))))))))
 refine aA [] J J O (fun hg1=>ag iD J) J (aA [(36,_)] J J ⟨J,O⟩ (fun hg2=>ah t9 J J (ay (k:=12) J J)) J (aA [(36,_),(37,_)] J J ⟨J,J,O⟩ (fun hg3=>cl Tryz.underlying9 J) J (aA [(36,_),(37,_),(38,_)] J J ⟨J,J,J,O⟩ (fun hg4=>aT J J dV) J (aO (aQ J J J (by first|exact av|exact aC|rfl)) J (ac (ae J (fun h5=> ?_) (fun h5=> ?_)))))))
 ·(exfalso;have q:=h5;simp at q;omega)
 ·(try simp only [be]at h5)
  refine ax (aj (az iD J J (aP 12 t9 J J J J J (ad J J (aO (bX Tryz.underlying3 Tryz.underlying41 J (by first|exact bK (by omega) (by omega)|rfl)) J (bA eU (d:Int) Tryz.underlying48 cB J (by decide) (by decide) J J J J fun v45=>cf 45 0 (A':=sl 1 eU (sv v45) [(d:Int)]) J bB ?_))))));obtain⟨t,ou,me,hs,⟨hol,hml⟩,ha,hb⟩:=mi kk.g kk.c (hZ kk.g kk.c kk.n) v45 (ins:= [(d:Int)]) (fun z hz=>by rw [List.mem_singleton.1 hz];exact⟨by omega,by omega⟩) (fuel:=800) (by decide) hru (most:=81010) (by decide) (by rcases hcs with h|h<;>omega);refine ak (xs:= [.tmp 42,.tmp 45,.const (.int .i64 81010)]) hs Eq [] [(false,0)] [90,91] (fun z _=>aZ uE J J fun b14=>aq (k:=14) uE J J J J J J (aG J (aO (aL i7 J J J (aX (k:=11) J)) J (ad J J (aO (bX Tryz.underlying3 Tryz.underlying41 J (by first|exact bK (by omega) (by omega)|rfl)) J (bA eU (d:Int) Tryz.underlying48 cB J (by decide) (by decide) J J J J fun v50=>cf 50 1 (A':=sl 1 eU (sv v50) [(d:Int)]) J bB ?_))))));refine d9 (xs:= [.tmp 47,.tmp 50]) (kZ x.1 v50 x.2 [(d:Int)] kk.g kk.c (fun z hz=>by rw [List.mem_singleton.1 hz];exact⟨by omega,by omega⟩) (by show 1≤_;decide)) Er [] [(true,80),(false,1)] [] J J J J J J J J (fun _ _=>J) (fun _ _ _=>J) J (fun _ _=> ?_);refine ai J J (aG J (aO (aL i7 J J J (aX (k:=11) J)) J (ad J J (ar J J (gd (by omega) (by first|exact kc (by omega)|rfl)) J ?_))));rw [hw64];refine bA eU w64 Tryz.underlying48 cB J (by decide) (by decide) J J J J fun v55=>cf 55 2 (A':=sl 1 eU (sv v55) [w64]) J bB ?_
  refine d9 (xs:= [.tmp 52,.tmp 55]) (kZ x.1 v55 x.2 [w64] kk.g kk.c (fun z hz=>by rw [List.mem_singleton.1 hz];exact⟨by omega,by omega⟩) (by show 1≤_;decide)) Er [] [(true,80),(false,2)] [] J J J J J J J J (fun _ _=>J) (fun _ _ _=>J) J (fun _ _=> ?_);refine ai J J (aG J (ad J J (ad J J (aA [] J J O (fun hg6=>am J) J (aO (aQ J J J (by first|exact av|exact aC|rfl)) J (ad J J (aA [] J J O (fun hg7=>am J) J (aO (aQ J J J (by first|exact av|exact aC|rfl)) J (ad J J (aA [] J J O (fun hg8=>ag nJ J) J (aA [(65,_)] J J ⟨J,O⟩ (fun hg9=>dw lS J) J (aA [(65,_),(66,_)] J J ⟨J,J,O⟩ (fun hg10=>ah t3 J J (ay (k:=14) J J)) J (aA [(65,_),(66,_),(67,_)] J J ⟨J,J,J,O⟩ (fun hg11=>aT J J aY) J (aA [(65,_),(66,_),(67,_),(68,_)] J J ⟨J,J,J,J,O⟩ (fun hg12=>am J) J (aA [(65,_),(66,_),(67,_),(68,_),(69,_)] J J ⟨J,J,J,J,J,O⟩ (fun hg13=>aT J J dV) J (aA [(65,_),(66,_),(67,_),(68,_),(69,_),(70,_)] J J ⟨J,J,J,J,J,J,O⟩ (fun hg14=>aT J J (N3 Tryz.underlying4)) J (aO (aQ J J J (by first|exact av|exact aC|rfl)) J ?_)))))))))))))))));refine ai J J (ac (au (aH () O J (bE (aJ J)) (yf hcs ha hb) [] [] J J J)))

end Go.Proofs.YtedmdgbmdplifaaGreat
namespace Go.Proofs.YtedmdgbmdplifaaGreat
set_option linter.unusedSimpArgs false
set_option linter.unusedVariables false
open Go.ChangeShapes Go.WideShapes Go.ChangeAt Go.RowKit

theorem Tryz.own:ownKnob Tryz.prog.godebug=none:=by kernel_rfl
theorem Tryz.laidOut:laidOutB Tryz.prog=true:=by kernel_rfl
theorem oy{n:Int}(h:(Lit.int .u32 n).wf=true):0≤n∧n<4294967296:=by
 simp [Lit.wf,IntKind.signed,IntKind.bits,IntKind.min,IntKind.max]at h;omega

theorem my(os:Os)(started:os.Started)(H:Type)(enc:TypeId×Value→H):
  ReturnsInHanded {} Tryz.checked os 6 .any (Rows.qgenDepthsSpec.pre6 enc Tryz.prog Tryz.f6 Rows.qgenDepthsRow.domain false) (Rows.qgenDepthsSpec.post enc Tryz.prog Tryz.f6 false true false false):=by
 refine returnsInHanded_of_change (C:=Tryz.checked) Tryz.own started (by kernel_rfl) Tryz.func6
  (ChangeSpec.witness6 (enc:=enc) (C:=Tryz.checked) false ⟨#[],#[.int .i64 0,.int .i64 0,.int .u32 0],[]⟩ 8 (by kernel_rfl) (by kernel_rfl) (by kernel_rfl) (by kernel_rfl)) ?_
 intro W base args ds gs before hval0 hW hcnd _;have hval:∀(j:Nat) t v,Tryz.f6.params[j]?=some t→args[j]?=some v→Value.okWide Tryz.prog W .any base t v:=hval0;have hW0:=hW;obtain⟨pp,qq,hA0,hV,-,-,-⟩:=hW;have hA:DataW.TrodAll enc Tryz.prog W 0 (fun _=>true) true Tryz.f6.params.toList args.toList ds pp:=hA0;obtain⟨rfl,-⟩:=trodVars_none hV;rw [Tryz.params6]at hA hval;obtain⟨v0,vs0,d0,ds0,p0,q0,hargs,rfl,-,h0,r0⟩:=trodAll_cons hA;obtain⟨v1,vs1,d1,ds1,p1,q1,rfl,rfl,-,h1,r1⟩:=trodAll_cons r0;obtain⟨v2,vs2,d2,ds2,p2,q2,rfl,rfl,-,h2,r2⟩:=trodAll_cons r1;obtain⟨rfl,rfl,-⟩:=trodAll_nil r2;obtain rfl:args= #[v0,v1,v2]:=by cases args;simp_all
 obtain⟨a0,rfl,-,-,wf0⟩:=open_int Tryz.underlying3 (hval 0 3 v0 J J) h0;obtain⟨a1,rfl,-,-,wf1⟩:=open_int Tryz.underlying3 (hval 1 3 v1 J J) h1;obtain⟨a2,rfl,-,-,wf2⟩:=open_int Tryz.underlying41 (hval 2 41 v2 J J) h2;refine((yd a0 a1 a2 (oy wf2)).law W (fun A hA=>by simp at hA)).mono fun e W' ⟨_,_,he,hb⟩=> ?_
 subst he;exact⟨_,J,qf hW0 Tryz.laidOut (by kernel_rfl) J Tryz.underlying4 J J J J hb⟩

theorem QgenDepths_holds:Rows.QgenDepthsSaid:=
 OpenClaim.holds_of_wide 6 Tryz.f6 rfl rfl rfl rfl rfl rfl rfl ⟨rfl,rfl,rfl,rfl,rfl⟩ rfl rfl rfl rfl rfl (by kernel_rfl) Tryz.func6 (by kernel_rfl)
  (of_decide_eq_true (by kernel_rfl)) (by unfold Func.isWrapper;first|(rw [if_pos (by decide+kernel)];kernel_rfl)|(rw [if_neg (by decide+kernel)];exact⟨rfl,rfl⟩))
  (fun os started H enc _=>my os started H enc)
#print axioms QgenDepths_holds
end Go.Proofs.YtedmdgbmdplifaaGreat
