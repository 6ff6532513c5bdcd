/-
  Part of the proof: the texts GG, KA, Z0, KB, KC, KP, YB, YF, A0, A1, A2, shortened. Conditions are with the theorems.
-/
import Derived.WalkKit
import Derived.ProofKit
import Derived.OpenShut
import Derived.Below
import Derived.ChangeSame
import Derived.Carry
import Derived.WalkSpells
import Derived.WalkLawsBesides
import Derived.Lib.Hide
import Derived.Deep.Draws
import Derived.Deep.QuietTactic
import Derived.BigQuiet
import Derived.Deep.OwnRows
import Derived.Deep.WholeRow
import Derived.Deep.MidRow
import Derived.Laws.AppendOwnNone
import Derived.ChangeSlices
import Derived.ChangeKeysEq
import Derived.Lib.SliceRun
import Derived.Maps.RangeRun
import Derived.Laws.BytesString
import Derived.Lib.ConvBytes
import Derived.Recover
set_option maxHeartbeats 32000000
set_option maxRecDepth 100000
namespace Go.Proofs.YtedmdgbmdplifaaGreat
set_option linter.unusedSimpArgs false
set_option linter.unusedVariables false
open Go.ChangeShapes Go.WideShapes Go.ChangeAt Go.RowKit
theorem aV:(∀{p:Prop} [Decidable p],(decide p=true)=p)∧(∀{p:Prop} [Decidable p],decide p=false↔¬p)∧(∀a b:Bool,((a&&b)=true)=(a=true∧b=true))∧(∀a b:Bool,((a || b)=true)=(a=true∨b=true))∧(∀a b:Bool,(a&&b)=false↔a=false∨b=false)∧(∀a b:Bool,(a || b)=false↔a=false∧b=false)∧(∀b:Bool,¬b=true↔b=false)∧(∀b:Bool,¬b=false↔b=true)∧(∀b:Bool,(!b)=true↔b=false)∧(∀b:Bool,(!b)=false↔b=true)∧(∀b:Bool,(!!b)=b)∧(∀{α:Type} [BEq α] [LawfulBEq α](a b:α),(a !=b)=true↔a≠b)∧(∀{α:Type} [BEq α] [LawfulBEq α](a b:α),(a==b)=true↔a=b):=
  ⟨decide_eq_true_eq,decide_eq_false_iff_not,Bool.and_eq_true,Bool.or_eq_true,fun _ _=>Bool.and_eq_false_iff,fun _ _=>Bool.or_eq_false_iff,fun b=>by cases b<;>simp,fun b=>by cases b<;>simp,fun b=>by cases b<;>simp,fun b=>by cases b<;>simp,Bool.not_not,fun _ _=>bne_iff_ne,fun _ _=>beq_iff_eq⟩
theorem J{α:Sort _}{a:α}:a=a:=rfl
section
variable{H:Type}{enc:TypeId×Value→H}{P:Program}
theorem rC{f:Func}{s:ChangeSpec}{apart fresh handsOn again:Bool}{W W':World}{args:Array Value}{v:Value}{ds gs:List (DataW H)}{before pa pv:List MemPlace}
  (hW:DataW.Whole enc P f.params.toList s.vars apart W args.toList ds gs before)
  (hres:∀(b:Nat)(sp:Nat→Bool)(hd:Bool),DataW.TrodAll enc P W' b sp hd f.resultTypes.toList (v.resultList f.resultTypes.size) (s.fn H (ds++gs)).results [])
  (hargs:∀sp:Nat→Bool,(∀p∈before,sp p.block=true)→DataW.TrodAll enc P W' 0 sp true f.params.toList args.toList (s.fn H (ds++gs)).args pa)
  (hvars:∀sp:Nat→Bool,(∀p∈before,sp p.block=true)→DataW.TrodVars enc P W' sp s.vars (s.fn H (ds++gs)).vars pv)
  (hps:before=pa++pv) (hb:Below W.heap.size W W')
  (hok:∀(j:Nat)(t:TypeId)(r:Value),f.resultTypes[j]?=some t→(v.resultList f.resultTypes.size)[j]?=some r→Value.okWide P W' .any 0 t r):
  s.post enc P f apart fresh handsOn again W args v W':=by
 have hlt:∀p∈before,p.block<W.heap.size:=fun p hp=>hW.lt p hp
 have hold:∀p∈before,(fun b=>decide (b<W.heap.size)) p.block=true:=fun p hp=>by simpa using hlt p hp
 refine⟨ds,gs,before,[],pa,pv,hW,hres _ _ _,hargs _ hold,hvars _ hold,World.keptBut_mono (fun p hp=>⟨hp,?_⟩) (hb.frame (· ∈before)),fun _=> ?_⟩
 ·rw [hps,List.mem_append]at hp;exact Or.inr hp
 ·obtain⟨_,_,_,_,_,hz,hn⟩:=hW;refine⟨hok,_,_,([]++pa)++pv,⟨[]++pa,pv,trodAll_append (hargs _ (fun _ _=>J)) (hres _ _ _),hvars _ (fun _ _=>J),J,?_,?_⟩,?_⟩
  ·intro b off hp;have hin:MemPlace.cell b off∈before:=by rw [hps];simpa using hp
   rw [hb.frozen (hlt _ hin)];exact hz b off hin
  ·intro ha;have:=hn ha;rw [hps]at this;simpa using this
  ·intro p hp _;rw [hps];simpa using hp
theorem lq(hl:laidOutB P=true){W W':World}(hb:Below W.heap.size W W'){sp:Nat→Bool}:
  ∀{ts:List TypeId}{vs:List Value}{ds:List (DataW H)}{ps:List MemPlace}(_:∀t∈ts,P.readableRec t=true∧t<P.types.size)(_:∀p∈ps,p.block<W.heap.size)(_:∀p∈ps,sp p.block=true)
   (_:DataW.TrodAll enc P W 0 (fun _=>true) true ts vs ds ps),DataW.TrodAll enc P W' 0 sp true ts vs ds ps
 | [],vs,ds,ps,_,_,_,h=>by
  obtain⟨rfl,rfl,rfl⟩:=trodAll_nil h;exact trodAll_mk0
 | t::ts,vs,ds,ps,hts,hlt,hsp,h=>by
  obtain⟨v,vs',d,ds',p,q,rfl,rfl,rfl,h0,hr⟩:=trodAll_cons h;exact trodAll_cons_mk (WideElems.Trod_stays hl (hts t (by simp)).1 (hts t (by simp)).2 h0 (fun x hx=>hb.same (hlt x (by simp [hx]))) (fun x hx=>hsp x (by simp [hx])))
   (lq hl hb (fun t' ht'=>hts t' (by simp [ht'])) (fun x hx=>hlt x (by simp [hx])) (fun x hx=>hsp x (by simp [hx])) hr)
theorem mP{f:Func}{s:ChangeSpec}{fresh handsOn again:Bool}{W W':World}{args:Array Value}{ds gs:List (DataW H)}{before:List MemPlace}{tb:TypeId}
  (hW:DataW.Whole enc P f.params.toList s.vars false W args.toList ds gs before) (hl:laidOutB P=true)
  (hts:(f.params.toList.all fun t=>P.readableRec t&&decide (t<P.types.size))=true) (hrt:f.resultTypes= #[tb]) (htb:P.underlying tb=some .bool)
  (hv:s.vars= []) (hr:(s.fn H (ds++gs)).results= [.lit (.bool true)]) (ha:(s.fn H (ds++gs)).args=ds) (hvs:(s.fn H (ds++gs)).vars= []) (hb:Below W.heap.size W W'):
  s.post enc P f false fresh handsOn again W args (.bool true) W':=by
 have hW0:=hW;obtain⟨p,q,hA,hV,rfl,hfz,hnd⟩:=hW;rw [hv]at hV;obtain⟨rfl,rfl⟩:=trodVars_none hV;have hts':∀t∈f.params.toList,P.readableRec t=true∧t<P.types.size:=fun t ht=>by
  have:=List.all_eq_true.1 hts t ht;simpa using this
 refine rC (pa:=p) (pv:= []) hW0 (fun _ _ _=> ?_) (fun sp hsp=> ?_) (fun sp _=> ?_) J hb ?_
 ·rw [hr,hrt];exact trodAll_mk1 (shut_bool htb true)
 ·rw [ha];exact lq hl hb hts' (fun x hx=>hW0.lt x (by simpa using hx)) (fun x hx=>hsp x (by simpa using hx)) hA
 ·rw [hv,hvs];rfl
 ·intro j t r h1 h2;rw [hrt]at h1 h2;cases j with
  | zero=>
   simp at h1;subst h1;have:r= .bool true:=by simpa [Value.resultList]using h2.symm
   subst this;exact okWide_bool_mk htb true
  | succ j=>simp at h1
theorem sh{W:World}{r:Reach}{b0 base:Nat}{spare:Nat→Bool}{held:Bool}{t e:TypeId}{n:Nat}{k:IntKind}{v:Value}{d:DataW H}{p:List MemPlace}(ht:P.underlying t=some (.array n e))(he:P.underlying e=some (.int k))
  (hce:P.cellsOf e=1) (hct:P.cellsOf t=n) (hv:Value.okWide P W r b0 t v) (h:DataW.Trod enc P W base spare held t v d p):
  ∃xs:List Int,xs.length=n∧v= .agg (xs.map (Value.int k)).toArray∧∀x∈xs,(Lit.int k x).wf=true:=by
 obtain⟨cs,rfl,hsz,_⟩:∃cs,v= .agg cs∧cs.size=P.cellsOf t∧Row.okWide P W r b0 t cs:=by
  simpa [Value.okWide,ht]using hv
 obtain⟨fuel,hf⟩:=h;obtain⟨ys,m,rfl,hx,hlen,hyl,hel⟩:=DataW.trod_array ht hf;rw [hct]at hsz;have hcell:∀i(hi:i<cs.size),∃x,cs[i]= .int k x∧(Lit.int k x).wf=true:=by
  intro i hi;have h1:=hel i (by omega);rw [hce,Nat.mul_one]at h1;have h2:i<ys.length:=by omega
  rw [List.getElem?_eq_getElem h2]at h1;obtain⟨x,hx1,_,hx3⟩:=DataW.trod_int he h1;refine⟨x,?_,hx3⟩;have h3:(List.take 1 (List.drop i (Value.agg cs).cells.toList))= [cs[i]]:=by
   have:(Value.agg cs).cells=cs:=J;rw [this,List.drop_eq_getElem_cons (by simpa using hi)];simp
  rw [h3]at hx1;injection hx1
 refine⟨cs.toList.map fun c=>match c with | .int _ x=>x|_=>0,by simp [hsz],?_,?_⟩
 ·congr 1
  apply Array.ext
  ·simp
  ·intro i h1 h2;obtain⟨x,hx1,_⟩:=hcell i h1;simp [hx1]
 ·intro x hx;rw [List.mem_map]at hx;obtain⟨c,hc,rfl⟩:=hx;obtain⟨i,hi,rfl⟩:=List.getElem_of_mem hc;have hi':i<cs.size:=by simpa using hi
  obtain⟨x,hx1,hx2⟩:=hcell i hi';have:cs.toList[i]=cs[i]:=by simp
  rw [this,hx1];exact hx2
end
theorem nw{n:Int}(h:(Lit.int .u32 n).wf=true):0≤n∧n<4294967296:=by
 simp [Lit.wf,IntKind.signed,IntKind.bits,IntKind.min,IntKind.max]at h;omega
end Go.Proofs.YtedmdgbmdplifaaGreat
namespace Go.Proofs.YtedmdgbmdplifaaGreat
set_option linter.unusedSimpArgs false
set_option linter.unusedVariables false
open Go.RowKit
structure Touch(M:Nat→Prop)(w w':World):Prop where
  os:w'.os=w.os
  tape:w'.tape=w.tape
  output:w'.output=w.output
  size:w.heap.size≤w'.heap.size
  block:∀k,k<w.heap.size→¬M k→w'.heap[k]?=w.heap[k]?
theorem Touch.refl(M:Nat→Prop)(w:World):Touch M w w:=⟨rfl,rfl,rfl,Nat.le_refl _,fun _ _ _=>rfl⟩
theorem Touch.trans{M M':Nat→Prop}{a b c:World}(h:Touch M a b)(k:Touch M' b c)(hM:∀x,x<a.heap.size→M' x→M x):Touch M a c:=
  ⟨k.os.trans h.os,k.tape.trans h.tape,k.output.trans h.output,Nat.le_trans h.size k.size,
   fun i hi hm=>(k.block i (Nat.lt_of_lt_of_le hi h.size) (fun e=>hm (hM i hi e))).trans (h.block i hi hm)⟩
theorem Touch.below{w w':World}(h:Touch (fun _=>False) w w'):Below w.heap.size w w':=⟨h.os,h.tape,h.output,h.size,fun k hk=>h.block k hk (fun e=>e)⟩
theorem Touch.alloc(M:Nat→Prop)(w:World)(o:Obj):Touch M w (w.alloc o):=⟨rfl,rfl,rfl,by simp,fun k hk _=>Below.heap_alloc w o k hk⟩
structure Asn where
  pred:World→(Nat→Prop)→Prop
  stable:∀{w w':World}{F:Nat→Prop},pred w F→(∀b,F b→w'.heap[b]?=w.heap[b]?)→pred w' F
def Hw:Asn:=⟨fun _ F=>∀b,¬F b,fun h _=>h⟩
abbrev dQ:=List (Nat×Asn)
def bL:dQ→Nat→Option Asn
  | [],_=>none
  | (j,A)::r,k=>bif Nat.beq j k then some A else bL r k
structure Own(w0:World)(M H:Nat→Prop)(g r:Nat→Option Asn)(w:World)(F:Nat→Nat→Prop):Prop where
  touch:Touch M w0 w
  has:∀k A,g k=some A→A.pred w (F k)
  lt:∀k b,F k b→b<w.heap.size
  mine:∀k b,F k b→b<w0.heap.size→M b
  apart:∀j k b,F j b→F k b→j=k
  ro:∀k A,r k=some A→∃G:Nat→Prop,A.pred w G∧∀b,G b→b<w.heap.size∧(∀j,¬F j b)∧(b<w0.heap.size→M b∨H b)
theorem Own.call{w0:World}{M H M' H':Nat→Prop}{g r g' r' g'' r'':Nat→Option Asn}{w w':World}{F F':Nat→Nat→Prop}
    (h:Own w0 M H g r w F) (ks:Nat→Prop) (hM':∀b,M' b→∃k,ks k∧F k b) (hM'':∀k b,ks k→F k b→M' b) (h':Own w M' H' g' r' w' F')
    (ns:Nat→Option Nat) (hns:∀j k i,ns j=some i→ns k=some i→j=k)
    (hg:∀k A,g'' k=some A→(∃i,ns k=some i∧g' i=some A)∨(ns k=none∧¬ks k∧g k=some A)∨(A=Hw∧ns k=none∧ks k))
    (hr:∀k A,r'' k=some A→r k=some A∨((∃i,r' i=some A)∧∀b,H' b→b<w.heap.size→(∀j,¬F j b)∧(b<w0.heap.size→M b∨H b))):
    ∃F'',Own w0 M H g'' r'' w' F'':=by
  classical
  let F'':Nat→Nat→Prop:=fun k=>match ns k with
    | some i=>F' i
    | none=>if ks k then fun _=>False else F k
  have hnew:∀k i,ns k=some i→F'' k=F' i:=fun k i e=>by simp [F'',e]
  have hold:∀k,ns k=none→¬ks k→F'' k=F k:=fun k e e'=>by simp [F'',e,e']
  have hemp:∀k,ns k=none→ks k→F'' k=fun _=>False:=fun k e e'=>by simp [F'',e,e']
  have hcase:∀k b,F'' k b→(∃i,ns k=some i∧F' i b)∨(ns k=none∧¬ks k∧F k b):=by
    intro k b hb;cases e:ns k with
    | some i=>rw [hnew k i e]at hb;exact .inl ⟨i,rfl,hb⟩
    | none=>
      by_cases e':ks k
      · rw [hemp k e e']at hb;exact hb.elim
      · rw [hold k e e']at hb;exact .inr ⟨J,e',hb⟩
  have hfree:∀k b,¬ks k→F k b→¬M' b:=by
    intro k b hk hb hm;obtain⟨j,hj,hjb⟩:=hM' b hm;exact hk (h.apart j k b hjb hb▸hj)
  have hnewold:∀i k b,¬ks k→F k b→¬F' i b:=by
    intro i k b hk hb hb';exact hfree k b hk hb (h'.mine i b hb' (h.lt k b hb))
  refine⟨F'',?_,?_,?_,?_,?_,?_⟩
  · refine h.touch.trans h'.touch fun x hx hm=> ?_
    obtain⟨k,_,hk⟩:=hM' x hm;exact h.mine k x hk hx
  · intro k A hk;rcases hg k A hk with⟨i,hi,hA⟩|⟨hn,hk',hA⟩|⟨rfl,hn,hk'⟩
    · rw [hnew k i hi];exact h'.has i A hA
    · rw [hold k hn hk'];exact A.stable (h.has k A hA) fun b hb=>h'.touch.block b (h.lt k b hb) (hfree k b hk' hb)
    · rw [hemp k hn hk'];exact fun b hb=>hb
  · intro k b hb;rcases hcase k b hb with⟨i,_,hi⟩|⟨_,_,hk⟩
    · exact h'.lt i b hi
    · exact Nat.lt_of_lt_of_le (h.lt k b hk) h'.touch.size
  · intro k b hb hlt;rcases hcase k b hb with⟨i,_,hi⟩|⟨_,_,hk⟩
    · obtain⟨j,_,hj⟩:=hM' b (h'.mine i b hi (Nat.lt_of_lt_of_le hlt h.touch.size));exact h.mine j b hj hlt
    · exact h.mine k b hk hlt
  · intro j k b hj hk;rcases hcase j b hj with⟨i,hi,hib⟩|⟨_,hjk,hjb⟩<;>rcases hcase k b hk with⟨i',hi',hib'⟩|⟨_,hkk,hkb⟩
    · have:=h'.apart i i' b hib hib';subst this;exact hns j k i hi hi'
    · exact(hnewold i k b hkk hkb hib).elim
    · exact(hnewold i' j b hjk hjb hib').elim
    · exact h.apart j k b hjb hkb
  · intro k A hk;rcases hr k A hk with hA|⟨⟨i,hA⟩,hH⟩
    · obtain⟨G,hp,hG⟩:=h.ro k A hA;have hnm:∀b,G b→¬M' b:=fun b hb hm=>by
        obtain⟨j,_,hj⟩:=hM' b hm;exact(hG b hb).2.1 j hj
      refine⟨G,A.stable hp fun b hb=>h'.touch.block b (hG b hb).1 (hnm b hb),fun b hb=>⟨Nat.lt_of_lt_of_le (hG b hb).1 h'.touch.size,fun j hj=> ?_,(hG b hb).2.2⟩⟩;rcases hcase j b hj with⟨i,_,hi⟩|⟨_,_,hjb⟩
      · exact hnm b hb (h'.mine i b hi (hG b hb).1)
      · exact(hG b hb).2.1 j hjb
    · obtain⟨G,hp,hG⟩:=h'.ro i A hA;refine⟨G,hp,fun b hb=>⟨(hG b hb).1,fun j hj=> ?_,fun hlt=> ?_⟩⟩
      · rcases hcase j b hj with⟨i',_,hi'⟩|⟨_,hjk,hjb⟩
        · exact(hG b hb).2.1 i' hi'
        · have hlt:b<w.heap.size:=h.lt j b hjb;rcases(hG b hb).2.2 hlt with hm|hh
          · exact hfree j b hjk hjb hm
          · exact(hH b hh hlt).1 j hjb
      · have hlt':b<w.heap.size:=Nat.lt_of_lt_of_le hlt h.touch.size;rcases(hG b hb).2.2 hlt' with hm|hh
        · obtain⟨j,_,hj⟩:=hM' b hm;exact .inl (h.mine j b hj hlt)
        · exact(hH b hh hlt').2 hlt
def COk(w0:World)(M H:Nat→Prop)(Γ R:dQ)(w:World):Prop:=∃F,Own w0 M H (bL Γ) (bL R) w F
def LOk(w0:World)(M H:Nat→Prop)(L R:List Asn)(w:World):Prop:=∃F,Own w0 M H (fun k=>L[k]?) (fun k=>R[k]?) w F
def LP(w0:World)(M H:Nat→Prop){X:Type}(φ:X→Prop)(v:X→Value)(L R:X→List Asn):Ending→World→Prop:=
  fun e w'=>∃x,φ x∧e= .returned (v x)∧LOk w0 M H (L x) (R x) w'
/-! ### Frames -/
abbrev el:=List (Nat×Value)
def dK:el→Nat→Option Value
  | [],_=>none
  | (j,v)::r,k=>bif Nat.beq j k then some v else dK r k
def ev(E:el):Operand→Option Value
  | .tmp t=>dK E t
  | .const v=>some v
  | .global g=>some (.pointer (some ⟨g,0,none⟩))
  | .func f=>some (.func (.func f) #[] #[])
structure EOk(N:Nat)(E:el)(a:Act):Prop where
  defers:a.defers= []
  size:N≤a.tmps.size
  slot:∀t v,dK E t=some v→a.tmps[t]?=some v
theorem EOk.ev{N:Nat}{E:el}{a:Act}(h:EOk N E a){x:Operand}{v:Value}(hv:ev E x=some v):a.eval x=v:=by
  cases x with
  | tmp t=>
    have:=h.slot t v hv;simp [Act.eval,this]
  | const u=>simpa [YtedmdgbmdplifaaGreat.ev,Act.eval]using hv
  | global g=>simpa [YtedmdgbmdplifaaGreat.ev,Act.eval]using hv
  | func f=>simpa [YtedmdgbmdplifaaGreat.ev,Act.eval]using hv
theorem EOk.put{N:Nat}{E:el}{a:Act}(h:EOk N E a){d:Nat}(hd:Nat.blt d N=true)(v:Value):EOk N ((d,v)::E) (a.put (some d) v):=by
  have hd':d<N:=by simpa [Nat.blt_eq]using hd
  refine⟨h.defers,by simpa [Act.put]using h.size,fun t u ht=> ?_⟩;simp only [dK]at ht;simp only [Act.put,Array.getElem?_setIfInBounds];cases hb:Nat.beq d t with
  | true=>
    rw [hb]at ht;have:d=t:=Nat.eq_of_beq_eq_true hb;subst this;have:=h.size;simp only [cond_true,Option.some.injEq]at ht;simp [ht];omega
  | false=>
    rw [hb]at ht;have hne:d≠t:=fun e=>by subst e;simp at hb
    rw [if_neg hne];exact h.slot t u ht
def At(N:Nat)(w0:World)(M H:Nat→Prop)(E:el)(Γ R:dQ)(Rel:Act→World→Prop):Prop:=
  ∀a w,EOk N E a→COk w0 M H Γ R w→Rel a w
/-! ### Contexts by names -/
def fB:List Nat→List Asn→dQ→dQ
  | n::ns,A::L,Γ=>(n,A)::fB ns L Γ
  | _,_,Γ=>Γ
def fD:List Nat→dQ→dQ
  | k::ks,Γ=>(k,Hw)::fD ks Γ
  | [],Γ=>Γ
def ek(Γ:dQ):List Nat→List (Option Asn)
  | []=> []
  | k::ks=>bL Γ k::ek Γ ks
def cZ:List Asn→List (Option Asn)
  | []=> []
  | A::L=>some A::cZ L
def ja:List Nat→Nat→Nat→Option Nat
  | [],_,_=>none
  | n::ns,k,i=>bif Nat.beq n k then some i else ja ns k (i+1)
theorem qh:∀{ns:List Nat}{k i j:Nat},ja ns k i=some j→i≤j∧ns[j-i]?=some k
  | [],_,_,_,h=>by cases h
  | n::ns,k,i,j,h=>by
    simp only [ja]at h;cases hb:Nat.beq n k with
    | true=>
      rw [hb]at h;simp at h;subst h;simp [Nat.eq_of_beq_eq_true hb]
    | false=>
      rw [hb]at h;obtain⟨h1,h2⟩:=qh (ns:=ns) h;refine⟨by omega,?_⟩;have:j-i=(j-(i+1))+1:=by omega
      rw [this];simpa using h2
theorem lW:∀(ns:List Nat)(L:List Asn)(Γ:dQ)(k i:Nat)(A:Asn),ns.length=L.length→bL (fB ns L Γ) k=some A→
    (∃j,ja ns k i=some (i+j)∧L[j]?=some A)∨(ja ns k i=none∧bL Γ k=some A)
  | [],[],Γ,k,i,A,_,h=> .inr ⟨rfl,h⟩
  | n::ns,B::L,Γ,k,i,A,hl,h=>by
    simp only [fB,bL]at h;simp only [ja];cases hb:Nat.beq n k with
    | true=>
      rw [hb]at h;simp at h;exact .inl ⟨0,by simp,by simp [h]⟩
    | false=>
      rw [hb]at h;rcases lW ns L Γ k (i+1) A (by simpa using hl) h with⟨j,h1,h2⟩|⟨h1,h2⟩
      · exact .inl ⟨j+1,by simpa [Nat.add_assoc,Nat.add_comm 1 j]using h1,by simpa using h2⟩
      · exact .inr ⟨by simpa using h1,h2⟩
  | [],_::_,_,_,_,_,hl,_=>by simp at hl
  | _::_,[],_,_,_,_,hl,_=>by simp at hl
theorem lX:∀(ks:List Nat)(Γ:dQ)(k:Nat)(A:Asn),bL (fD ks Γ) k=some A→(A=Hw∧k∈ks)∨(k∉ks∧bL Γ k=some A)
  | [],Γ,k,A,h=> .inr ⟨by simp,h⟩
  | n::ks,Γ,k,A,h=>by
    simp only [fD,bL]at h;cases hb:Nat.beq n k with
    | true=>
      rw [hb]at h;simp at h;exact .inl ⟨h.symm,by simp [Nat.eq_of_beq_eq_true hb]⟩
    | false=>
      rw [hb]at h;have hne:k≠n:=fun e=>by subst e;simp at hb
      rcases lX ks Γ k A h with⟨h1,h2⟩|⟨h1,h2⟩
      · exact .inl ⟨h1,by simp [h2]⟩
      · exact .inr ⟨by simp [hne,h1],h2⟩
theorem kH:∀(Γ:dQ)(ks:List Nat)(L:List Asn)(i:Nat)(A:Asn),ek Γ ks=cZ L→L[i]?=some A→∃k,ks[i]?=some k∧bL Γ k=some A
  | Γ,[],[],i,A,_,h=>by simp at h
  | Γ,k::ks,B::L,i,A,h,hi=>by
    simp only [ek,cZ,List.cons.injEq]at h;cases i with
    | zero=>simp at hi;subst hi;exact⟨k,by simp,h.1⟩
    | succ i=>simpa using kH Γ ks L i A h.2 (by simpa using hi)
  | Γ,[],_::_,_,_,h,_=>by simp [ek,cZ]at h
  | Γ,_::_,[],_,_,h,_=>by simp [ek,cZ]at h
theorem Dl{ks:List Nat}(h:ks.Nodup){i j k:Nat}(hi:ks[i]?=some k)(hj:ks[j]?=some k):i=j:=by
  obtain⟨hi1,hi2⟩:=List.getElem?_eq_some_iff.1 hi;obtain⟨hj1,hj2⟩:=List.getElem?_eq_some_iff.1 hj;have hp:=List.pairwise_iff_getElem.1 h;rcases Nat.lt_trichotomy i j with hlt|he|hlt
  · exact absurd (hi2.trans hj2.symm) (hp i j hi1 hj1 hlt)
  · exact he
  · exact absurd (hj2.trans hi2.symm) (hp j i hj1 hi1 hlt)
theorem COk.enter{w0:World}{M H:Nat→Prop}{Γ R:dQ}{w:World}(F:Nat→Nat→Prop)(h:Own w0 M H (bL Γ) (bL R) w F)(ks:List Nat)(hnd:ks.Nodup){L:List Asn}(hL:ek Γ ks=cZ L)
    {R0:List Asn} (hR:∀(i:Nat) A,R0[i]?=some A→(∃k,bL R k=some A)∨∃k,k∉ks∧bL Γ k=some A) (H':Nat→Prop)
    (hH:∀b,b<w.heap.size→((∀j,¬F j b)∧(b<w0.heap.size→M b∨H b))∨(∃(i:Nat)(A:Asn)(k:Nat),R0[i]?=some A∧k∉ks∧bL Γ k=some A∧F k b∧∀k',bL R k'≠some A)→H' b):
    LOk w (fun b=>∃k,k∈ks∧F k b) H' L R0 w:=by
  classical
  refine⟨fun i b=>∃k,ks[i]?=some k∧F k b,Touch.refl _ _,?_,?_,?_,?_,?_⟩
  · intro i A hi;obtain⟨k,hk,hA⟩:=kH Γ ks L i A hL hi;have:(fun b=>∃k,ks[i]?=some k∧F k b)=F k:=by
      funext b;simp [hk]
    show A.pred w _;rw [this];exact h.has k A hA
  · rintro i b ⟨k,_,hb⟩;exact h.lt k b hb
  · rintro i b ⟨k,hk,hb⟩ _;exact⟨k,List.mem_of_getElem? hk,hb⟩
  · rintro i j b ⟨k,hk,hb⟩ ⟨k',hk',hb'⟩;have:=h.apart k k' b hb hb';subst this;exact Dl hnd hk hk'
  · intro i A hi;by_cases hro:∃k,bL R k=some A
    · obtain⟨k,hA⟩:=hro;obtain⟨G,hp,hG⟩:=h.ro k A hA;refine⟨G,hp,fun b hb=>⟨(hG b hb).1,?_,fun hlt=> .inr (hH b hlt (.inl (hG b hb).2))⟩⟩;rintro j ⟨k',_,hb'⟩;exact(hG b hb).2.1 k' hb'
    · rcases hR i A hi with hx|⟨k,hk,hA⟩
      · exact absurd hx hro
      · refine⟨F k,h.has k A hA,fun b hb=>⟨h.lt k b hb,?_,fun hlt=> .inr (hH b hlt (.inr ⟨i,A,k,hi,hk,hA,hb,fun k' e=>hro ⟨k',e⟩⟩))⟩⟩;rintro j ⟨k',hk',hb'⟩;have:=h.apart k k' b hb hb';subst this;exact hk (List.mem_of_getElem? hk')
theorem COk.step{w0:World}{M H:Nat→Prop}{Γ R:dQ}{w:World}(h:COk w0 M H Γ R w)(ks:List Nat)(hnd:ks.Nodup){L:List Asn}(hL:ek Γ ks=cZ L)
    {R0:List Asn} (hR:∀(i:Nat) A,R0[i]?=some A→(∃k,bL R k=some A)∨∃k,k∉ks∧bL Γ k=some A):
    ∃M' H':Nat→Prop,LOk w M' H' L R0 w∧∀(L' R':List Asn)(ns rs:List Nat)(w':World),ns.Nodup→ns.length=L'.length→rs.length=R'.length→
      LOk w M' H' L' R' w'→COk w0 M H (fB ns L' (fD ks Γ)) R w'∧((∀(i:Nat) A,R0[i]?=some A→∃k,bL R k=some A)→COk w0 M H (fB ns L' (fD ks Γ)) (fB rs R' R) w'):=by
  classical
  obtain⟨F,hF⟩:=h
  let H':Nat→Prop:=fun b=>((∀j,¬F j b)∧(b<w0.heap.size→M b∨H b))∨(∃(i:Nat)(A:Asn)(k:Nat),R0[i]?=some A∧k∉ks∧bL Γ k=some A∧F k b∧∀k',bL R k'≠some A)
  refine⟨fun b=>∃k,k∈ks∧F k b,H',COk.enter F hF ks hnd hL hR H' (fun b _ hb=>hb),?_⟩;rintro L' R' ns rs w' hns hnl hrl ⟨F',h'⟩;have hgg:∀k A,bL (fB ns L' (fD ks Γ)) k=some A→
      (∃i,ja ns k 0=some i∧L'[i]?=some A)∨(ja ns k 0=none∧¬k∈ks∧bL Γ k=some A)∨(A=Hw∧ja ns k 0=none∧k∈ks):=by
    intro k A hA;rcases lW ns L' _ k 0 A hnl hA with⟨j,h1,h2⟩|⟨h1,h2⟩
    · exact .inl ⟨j,by simpa using h1,h2⟩
    · rcases lX ks Γ k A h2 with⟨h3,h4⟩|⟨h3,h4⟩
      · exact .inr (.inr ⟨h3,h1,h4⟩)
      · exact .inr (.inl ⟨h1,h3,h4⟩)
  have hinj:∀j k i,ja ns j 0=some i→ja ns k 0=some i→j=k:=by
    intro j k i h1 h2;have e1:=(qh h1).2;have e2:=(qh h2).2;rw [e1]at e2;injection e2
  constructor
  · exact hF.call (fun k=>k∈ks) (fun b hb=>hb) (fun k b hk hb=>⟨k,hk,hb⟩) h' (fun k=>ja ns k 0) hinj hgg (fun k A hA=> .inl hA)
  · intro hro;refine hF.call (fun k=>k∈ks) (fun b hb=>hb) (fun k b hk hb=>⟨k,hk,hb⟩) h' (fun k=>ja ns k 0) hinj hgg (fun k A hA=> ?_);rcases lW rs R' R k 0 A hrl hA with⟨j,_,h2⟩|⟨_,h2⟩
    · refine .inr ⟨⟨j,h2⟩,fun b hb _=> ?_⟩;rcases hb with hb|⟨i,A',k',hi,_,_,_,hno⟩
      · exact hb
      · obtain⟨k'',hk''⟩:=hro i A' hi;exact absurd hk'' (hno k'')
    · exact .inl h2
section
variable{P:Program}{N:Nat}{w0:World}{M H:Nat→Prop}{E:el}{Γ R:dQ}{Q:Exit→Act→World→Prop}
/-! ### Code -/
def XT(next:Act→World→Prop)(Q:Exit→Act→World→Prop):Exit→Act→World→Prop
  | .normal=>next
  | .exit j=>Q (.exit j)
  | .goto j=>Q (.goto j)
  | .ret=>Q .ret
  | .panic c=>Q (.panic c)
  | .outgrown=>Q .outgrown
def XB(id:Nat)(Q:Exit→Act→World→Prop):Exit→Act→World→Prop
  | .normal=>Q .normal
  | .exit j=>bif Nat.beq j id then Q .normal else Q (.exit j)
  | .goto j=>Q (.goto j)
  | .ret=>Q .ret
  | .panic c=>Q (.panic c)
  | .outgrown=>Q .outgrown
theorem ae{x y:Code}(h:At N w0 M H E Γ R (x.wp P (XT (y.wp P Q) Q))):At N w0 M H E Γ R ((Code.seq x y).wp P Q):=fun a w hE hC=>
  wp_seq (wp_mono (h a w hE hC) fun e a w q=>by cases e<;>exact q)
theorem aB{id:Nat}{c:Code}(h:At N w0 M H E Γ R (c.wp P (XB id Q))):At N w0 M H E Γ R ((Code.block id c).wp P Q):=fun a w hE hC=>
  wp_block (wp_mono (h a w hE hC) fun e a w q=>by
    cases e with
    | exit j=>
      simp only [XB]at q;simp only [Exit.inBlock];cases hb:Nat.beq j id with
      | true=>rw [hb]at q;rw [if_pos (Nat.eq_of_beq_eq_true hb)];exact q
      | false=>rw [hb]at q;rw [if_neg (fun e=>by subst e;simp at hb)];exact q
    | _=>exact q)
theorem az(h:At N w0 M H E Γ R (Q .normal)):At N w0 M H E Γ R (Code.skip.wp P Q):=fun a w hE hC=>wp_skip (h a w hE hC)
theorem bn{id:Nat}(h:At N w0 M H E Γ R (Q (.exit id))):At N w0 M H E Γ R ((Code.exit id).wp P Q):=fun a w hE hC=>wp_exit (h a w hE hC)
theorem aw(h:At N w0 M H E Γ R (Q .ret)):At N w0 M H E Γ R (Code.ret.wp P Q):=fun a w hE hC=>wp_ret (h a w hE hC)
theorem ar{c:Operand}{x y:Code}{t:Bool}(hc:ev E c=some (.bool t))(ht:t=true→At N w0 M H E Γ R (x.wp P Q))(hf:t=false→At N w0 M H E Γ R (y.wp P Q)):
    At N w0 M H E Γ R ((Code.cond c x y).wp P Q):=fun a w hE hC=>
  wp_cond_split (hE.ev hc) (fun h=>ht h a w hE hC) (fun h=>hf h a w hE hC)
theorem aa{id:Nat}{l:List Oper}(h:At N w0 M H E Γ R (wpList P l.toArray Q l)):At N w0 M H E Γ R ((Code.region id l.toArray false).wp P Q):=fun a w hE hC=>
  wp_region_lit (h a w hE hC)
theorem ai{ops:Array Oper}(h:At N w0 M H E Γ R (Q .normal)):At N w0 M H E Γ R (wpList P ops Q []):=h
theorem At.weak{E':el}{Γ' R':dQ}{Rel:Act→World→Prop}(h:At N w0 M H E' Γ' R' Rel)(hE:∀a,EOk N E a→EOk N E' a)(hC:∀w,COk w0 M H Γ R w→COk w0 M H Γ' R' w):
    At N w0 M H E Γ R Rel:=fun a w h1 h2=>h a w (hE a h1) (hC w h2)
def wm(E:el):el→List (Option Value)
  | []=> []
  | (k,_)::r=>dK E k::wm E r
def wi:el→List (Option Value)
  | []=> []
  | (_,v)::r=>some v::wi r
theorem EOk.sub{a:Act}(h:EOk N E a):∀{E':el},wm E E'=wi E'→EOk N E' a
  | [],_=>⟨h.defers,h.size,fun t v hv=>by cases hv⟩
  | (k,u)::r,he=>by
    simp only [wm,wi,List.cons.injEq]at he;have ih:=EOk.sub h (E':=r) he.2;refine⟨h.defers,h.size,fun t v hv=> ?_⟩;simp only [dK]at hv;cases hb:Nat.beq k t with
    | true=>
      rw [hb]at hv;simp at hv;subst hv;rw [←Nat.eq_of_beq_eq_true hb];exact h.slot k u he.1
    | false=>rw [hb]at hv;exact ih.slot t v hv
theorem COk.congr{w:World}{Γ' R':dQ}(h:COk w0 M H Γ R w)(h1:∀k A,bL Γ' k=some A→bL Γ k=some A)(h2:∀k A,bL R' k=some A→bL R k=some A):COk w0 M H Γ' R' w:=by
  obtain⟨F,hF⟩:=h;exact⟨F,hF.touch,fun k A hk=>hF.has k A (h1 k A hk),hF.lt,hF.mine,hF.apart,fun k A hk=>hF.ro k A (h2 k A hk)⟩
def qO(Γ:dQ):dQ→List (Option Asn)
  | []=> []
  | (k,_)::r=>bL Γ k::qO Γ r
def qW:dQ→List (Option Asn)
  | []=> []
  | (_,A)::r=>some A::qW r
theorem EA{Γ:dQ}:∀{Γ':dQ},qO Γ Γ'=qW Γ'→∀k A,bL Γ' k=some A→bL Γ k=some A
  | [],_,_,_,h=>by cases h
  | (j,B)::r,he,k,A,h=>by
    simp only [qO,qW,List.cons.injEq]at he;simp only [bL]at h;cases hb:Nat.beq j k with
    | true=>
      rw [hb]at h;simp at h;subst h;rw [←Nat.eq_of_beq_eq_true hb];exact he.1
    | false=>rw [hb]at h;exact EA he.2 k A h
def Ls(N:Nat)(w0:World)(M H:Nat→Prop){X:Type}(I:X→Prop)(Ei:X→el)(Γi Ri:X→dQ):Act→World→Prop:=
  fun a w=>∃x,I x∧EOk N (Ei x) a∧COk w0 M H (Γi x) (Ri x) w
theorem aL{X:Type}{I:X→Prop}{Ei:X→el}{Γi Ri:X→dQ}(x:X)(hI:I x)(hE:wm E (Ei x)=wi (Ei x))(hΓ:qO Γ (Γi x)=qW (Γi x))(hR:qO R (Ri x)=qW (Ri x)):
    At N w0 M H E Γ R (Ls N w0 M H I Ei Γi Ri):=fun a w h1 h2=>⟨x,hI,h1.sub hE,h2.congr (EA hΓ) (EA hR)⟩
theorem bi{X:Type}(I:X→Prop)(Ei:X→el)(Γi Ri:X→dQ){x y:Code}(h:At N w0 M H E Γ R (x.wp P (XT (Ls N w0 M H I Ei Γi Ri) Q)))(k:∀x,I x→At N w0 M H (Ei x) (Γi x) (Ri x) (y.wp P Q)):
    At N w0 M H E Γ R ((Code.seq x y).wp P Q):=fun a w hE hC=>
  wp_seq (wp_mono (h a w hE hC) fun e a w q=>by
    cases e with
    | normal=>obtain⟨z,h1,h2,h3⟩:=q;exact k z h1 a w h2 h3
    | _=>exact q)
theorem bk{X:Type}(I:X→Prop)(Ei:X→el)(Γi Ri:X→dQ)(μ:X→Nat){c:Code}(x0:X)(hI:I x0)(hE:wm E (Ei x0)=wi (Ei x0))(hΓ:qO Γ (Γi x0)=qW (Γi x0))(hR:qO R (Ri x0)=qW (Ri x0))
    (round:∀x,I x→At N w0 M H (Ei x) (Γi x) (Ri x) (c.wp P (XT (Ls N w0 M H (fun y=>I y∧μ y<μ x) Ei Γi Ri) Q))):At N w0 M H E Γ R ((Code.loop c).wp P Q):=by
  classical
  intro a w h1 h2
  let I':Act→World→Prop:=fun a w=>∃x,I x∧EOk N (Ei x) a∧COk w0 M H (Γi x) (Ri x) w
  let Y:Act→World→Nat→Prop:=fun a w n=>∃x,I x∧EOk N (Ei x) a∧COk w0 M H (Γi x) (Ri x) w∧μ x=n
  have least:∀n a w,Y a w n→∃m,Y a w m∧∀j,Y a w j→m≤j:=by
    intro n
    induction n using Nat.strongRecOn with
    | _ n ih=>
      intro a w hn;by_cases hx:∃j,j<n∧Y a w j
      · obtain⟨j,hj,hy⟩:=hx;exact ih j hj a w hy
      · exact⟨n,hn,fun j hj=>by
          rcases Nat.lt_or_ge j n with h|h
          · exact absurd ⟨j,h,hj⟩ hx
          · exact h⟩
  let ν:Act→World→Nat:=fun a w=>if h:∃m,Y a w m∧∀j,Y a w j→m≤j then Classical.choose h else 0
  have hν:∀a w n,Y a w n→Y a w (ν a w)∧ν a w≤n:=by
    intro a w n hn;have hex:=least n a w hn;have hs:=Classical.choose_spec hex;have e:ν a w=Classical.choose hex:=by simp only [ν];rw [dif_pos hex]
    rw [e];exact⟨hs.1,hs.2 n hn⟩
  refine wp_loop I' ν ⟨x0,hI,h1.sub hE,h2.congr (EA hΓ) (EA hR)⟩ fun a w hx=> ?_
  obtain⟨x,e1,e2,e3⟩:=hx;obtain⟨⟨y,f1,f2,f3,f4⟩,_⟩:=hν a w (μ x) ⟨x,e1,e2,e3,J⟩;refine wp_mono (round y f1 a w f2 f3) fun e a' w' q=> ?_
  cases e with
  | normal=>
    obtain⟨z,⟨g1,g4⟩,g2,g3⟩:=q;exact⟨⟨z,g1,g2,g3⟩,Nat.lt_of_le_of_lt (hν a' w' (μ z) ⟨z,g1,g2,g3,J⟩).2 (f4▸g4)⟩
  | _=>exact q
/-! ### Guards -/
def kx(ops:List Oper)(i:Nat):Option Nat:=(ops[i]?).bind (·.dst)
theorem EOk.yield{a:Act}(h:EOk N E a){l:List Oper}{i t:Nat}{b:Bool}(hi:kx l i=some t)(ht:dK E t=some (.bool b)):yielded l.toArray a.tmps i=some b:=by
  unfold yielded;have:(l.toArray[i]?).bind (·.dst)=some t:=by simpa [kx]using hi
  rw [this];simp [h.slot t _ ht]
/-! ### Operations in general -/
variable{ops:Array Oper}{rest:List Oper}{T:TypeId}{ps:String}{af:Array Edge}{d:Nat}{op:Op}
theorem vj{X:Type}(φ:X→Prop)(v:X→Value)(Γ' R':X→dQ)(hd:Nat.blt d N=true)
    (hrun:∀a w,EOk N E a→COk w0 M H Γ R w→∃x w',φ x∧(execOp a.eval ⟨some d,op,T,ps,af,none⟩).run P w= .ok (.value (v x)) w'∧COk w0 M H (Γ' x) (R' x) w')
    (k:∀x,φ x→At N w0 M H ((d,v x)::E) (Γ' x) (R' x) (wpList P ops Q rest)):At N w0 M H E Γ R (wpList P ops Q (⟨some d,op,T,ps,af,none⟩::rest)):=by
  intro a w hE hC;obtain⟨x,w',h1,h2,h3⟩:=hrun a w hE hC;unfold wpList;rw [if_pos (by simp [Region.wanted])];left;unfold Oper.wp;rw [h2];exact k x h1 _ _ (hE.put hd _) h3
def dM(P:Program)(op:BinOp)(T:TypeId)(u v z:Value):Prop:=∀(x y:Operand)(w:World),((do eqGuard op T x y u v;binOp op T u v:Sem Value)).run P w= .ok z w
theorem eb(o:BinOp)(S:TypeId)(x y:Operand)(k:IntKind)(n:Int)(v:Value):eqGuard o S x y (.int k n) v=pure ():=by cases o<;>rfl
theorem Ep(o:BinOp)(S:TypeId)(x y:Operand)(b:Bool)(v:Value):eqGuard o S x y (.bool b) v=pure ():=by cases o<;>rfl
theorem lU(o:BinOp)(S:TypeId)(x y:Operand)(b:ByteArray)(v:Value):eqGuard o S x y (.string b) v=pure ():=by cases o<;>rfl
theorem aX{S:TypeId}{k:IntKind}{a b c:Int}(h:k.wrap (a+b)=c):dM P .add S (.int k a) (.int k b) (.int k c):=fun x y w=>by rw [eb];simp [binOp,Op.intArith,h]
theorem fQ{S:TypeId}{k:IntKind}{a b c:Int}(h:k.wrap (a-b)=c):dM P .sub S (.int k a) (.int k b) (.int k c):=fun x y w=>by rw [eb];simp [binOp,Op.intArith,h]
theorem de{S:TypeId}{k:IntKind}{a b c:Int}(h:k.wrap (a*b)=c):dM P .mul S (.int k a) (.int k b) (.int k c):=fun x y w=>by rw [eb];simp [binOp,Op.intArith,h]
theorem jU{S:TypeId}{k:IntKind}{a b c:Int}(h0:b≠0)(h:k.wrap (a.tdiv b)=c):dM P .quo S (.int k a) (.int k b) (.int k c):=fun x y w=>by rw [eb];simp [binOp,Op.intDiv,h0,h]
theorem fV{S:TypeId}{k:IntKind}{a b c:Int}(h0:b≠0)(h:a.tmod b=c):dM P .rem S (.int k a) (.int k b) (.int k c):=fun x y w=>by rw [eb];simp [binOp,Op.intDiv,h0,h]
theorem lD{S:TypeId}{k:IntKind}{a b c:Int}(h:bits .and k a b=c):dM P .and S (.int k a) (.int k b) (.int k c):=fun x y w=>by rw [eb];simp [binOp,intBits_and,h]
theorem BV{S:TypeId}{k:IntKind}{a b c:Int}(h:bits .or k a b=c):dM P .or S (.int k a) (.int k b) (.int k c):=fun x y w=>by rw [eb];simp [binOp,intBits_or,h]
theorem Jc{S:TypeId}{k:IntKind}{a b c:Int}(h:bits .xor k a b=c):dM P .xor S (.int k a) (.int k b) (.int k c):=fun x y w=>by rw [eb];simp [binOp,intBits_xor,h]
theorem m_{S:TypeId}{k yk:IntKind}{a b c:Int}(h0:0≤b)(h1:b≤k.bits)(h:a/2^b.toNat=c):dM P .shr S (.int k a) (.int yk b) (.int k c):=fun x y w=>by
  rw [eb];simp [binOp,shift_shr k yk a b h0 h1,h]
theorem ga{S:TypeId}{k yk:IntKind}{a b c:Int}(h0:0≤b)(h1:b≤k.bits)(h:k.wrap (a*2^b.toNat)=c):dM P .shl S (.int k a) (.int yk b) (.int k c):=fun x y w=>by
  rw [eb];simp [binOp,shift_shl k yk a b h0 h1,h]
theorem b_{S:TypeId}{k:IntKind}{a b:Int}:dM P .lss S (.int k a) (.int k b) (.bool (decide (a<b))):=fun x y w=>by rw [eb];simp [binOp,Op.intCmp]
theorem jj{S:TypeId}{k:IntKind}{a b:Int}:dM P .leq S (.int k a) (.int k b) (.bool (decide (a≤b))):=fun x y w=>by rw [eb];simp [binOp,Op.intCmp]
theorem dL{S:TypeId}{k:IntKind}{a b:Int}:dM P .gtr S (.int k a) (.int k b) (.bool (decide (a>b))):=fun x y w=>by rw [eb];simp [binOp,Op.intCmp]
theorem eV{S:TypeId}{k:IntKind}{a b:Int}:dM P .geq S (.int k a) (.int k b) (.bool (decide (a≥b))):=fun x y w=>by rw [eb];simp [binOp,Op.intCmp]
theorem aS{S:TypeId}{k:IntKind}{a b:Int}:dM P .eql S (.int k a) (.int k b) (.bool (decide (a=b))):=fun x y w=>by
  rw [eb];simp [binOp,Op.intCmp];exact(Bool.beq_eq_decide_eq a b)
theorem cW{S:TypeId}{k:IntKind}{a b:Int}:dM P .neq S (.int k a) (.int k b) (.bool (!decide (a=b))):=fun x y w=>by
  rw [eb];simp [binOp,Op.intCmp];simp [bne,Bool.beq_eq_decide_eq a b]
def evs(E:el):List Operand→Option (List Value)
  | []=>some []
  | x::r=>match ev E x,evs E r with
    | some v,some vs=>some (v::vs)
    | _,_=>none
theorem EOk.evs{a:Act}(h:EOk N E a):∀{xs:List Operand}{vs:List Value},YtedmdgbmdplifaaGreat.evs E xs=some vs→xs.map a.eval=vs
  | [],vs,e=>by simp [YtedmdgbmdplifaaGreat.evs]at e;simp [e]
  | x::r,vs,e=>by
    simp only [YtedmdgbmdplifaaGreat.evs]at e;cases hx: YtedmdgbmdplifaaGreat.ev E x with
    | none=>simp [hx]at e
    | some v=>
      cases hr: YtedmdgbmdplifaaGreat.evs E r with
      | none=>simp [hx,hr]at e
      | some us=>
        simp [hx,hr]at e;subst e;simp [h.ev hx,EOk.evs h hr]
end
/-! ### Types -/
def ux:TypeDesc→Bool
  | .struct _ | .array _ _=>true
  | _=>false
structure TI(P:Program)(T:TypeId)(D:TypeDesc)(z:Value)(s b:Nat):Prop where
  und:P.underlying T=some D
  inf:(P.info? T).map (fun i=>(i.zero,i.size,i.bytes))=some (some z,s,b)
section
variable{P:Program}{T:TypeId}{D:TypeDesc}{z:Value}{s b:Nat}
theorem TI.info(h:TI P T D z s b):∃i,P.info? T=some i∧i.zero=some z∧i.size=s∧i.bytes=b:=by
  have hi:=h.inf;cases hx:P.info? T with
  | none=>rw [hx]at hi;simp at hi
  | some i=>
    rw [hx]at hi;simp at hi;exact⟨i,J,hi.1,hi.2.1,hi.2.2⟩
theorem TI.isAgg(h:TI P T D z s b)(w:World):(isAgg T).run P w= .ok (ux D) w:=by
  unfold Go.isAgg;rw [Sem.run_bind,run_underlying h.und];cases D<;>simp [ux]
theorem TI.sizeOf(h:TI P T D z s b)(w:World):(sizeOf T).run P w= .ok s w:=by
  obtain⟨i,h1,h2,h3,h4⟩:=h.info;simp [Go.sizeOf,typeInfo,h1,h3]
theorem TI.zero(h:TI P T D z s b)(w:World):(zeroValue T).run P w= .ok z w:=by
  obtain⟨i,h1,h2,h3,h4⟩:=h.info;simp [zeroValue,typeInfo,h1,h2]
end
/-! ### Assertions -/
def aY(b:Nat)(T:TypeId)(c:List Value):Asn:=⟨fun w F=>(∀x,F x↔x=b)∧w.heap[b]?=some (.cells c.toArray T (0,0)),fun⟨h1,h2⟩ hs=>⟨h1,(hs b ((h1 b).2 rfl)).trans h2⟩⟩
theorem rH{w w':World}{base:Nat}{e:TypeId}{size:Nat}{v:Value}{n:Nat}{xs:List Value}(h:w.ownsRow base e size v n xs)(hb:∀b,v.ownBlock=some b→w'.heap[b]?=w.heap[b]?):w'.ownsRow base e size v n xs:=by
  refine⟨h.1,?_⟩;rcases h.2 with hn|⟨g,cap,cur,rfl,hbg,hg,rest⟩
  · exact .inl hn
  · exact .inr ⟨g,cap,cur,J,hbg,(hb g J).trans hg,rest⟩
def own{α:Type}(T:TypeId)(s:Nat)(enc:α→List Value)(v:Value)(l:List α):Asn:=
  ⟨fun w F=>(∀x,F x↔v.ownBlock=some x)∧w.ownsRow 0 T s v l.length (l.flatMap enc),fun⟨h1,h2⟩ hs=>⟨h1,rH h2 fun b hb=>hs b ((h1 b).2 hb)⟩⟩
def ng{α:Type}(w:World)(F:Nat→Prop)(s:Nat)(enc:α→List Value)(v:Value)(l:List α):Prop:=
  ∃c,l.length≤c∧c≤maxLen∧((l= []∧(∀x,¬F x)∧v= .slice none 0 0)∨
    ∃b o,v= .slice (some ⟨b,o,none⟩) l.length c∧F b∧∀j u,(l.flatMap enc)[j]?=some u→w.cell? ⟨b,o+j,none⟩=some u)
def sl{α:Type}(s:Nat)(enc:α→List Value)(v:Value)(l:List α):Asn:=
  ⟨fun w F=>ng w F s enc v l,fun⟨c,h1,h2,h3⟩ hs=>⟨c,h1,h2,by
    rcases h3 with h|⟨b,o,hv,hb,hc⟩
    · exact .inl h
    · exact .inr ⟨b,o,hv,hb,fun j u hj=>(World.cell?_of_block (hs b hb)).trans (hc j u hj)⟩⟩⟩
structure SV where
  a:Option Addr
  n:Nat
  c:Nat
def sv(x:SV):Value:= .slice x.a x.n x.c
def bw:SV:=⟨none,0,0⟩
theorem il{w:World}{base:Nat}{e:TypeId}{size:Nat}{v:Value}{n:Nat}{xs:List Value}(h:w.ownsRow base e size v n xs):∃x,v=sv x:=by
  rcases h.2 with⟨rfl,_⟩|⟨g,cap,cur,rfl,_⟩
  · exact⟨bw,J⟩
  · exact⟨⟨_,_,_⟩,J⟩
def ig:Value→Nat
  | .slice (some a) _ _=>a.block
  | _=>0
def jp:Value→Nat
  | .slice (some a) _ _=>a.off
  | _=>0
theorem tH{α:Type}{T:TypeId}{s:Nat}{enc:α→List Value}{v:Value}{l:List α}{w:World}{F:Nat→Prop}(h:(own T s enc v l).pred w F):ng w F s enc v l:=by
  obtain⟨h1,h2⟩:=h;rcases h2.2 with⟨rfl,hn⟩|⟨g,cap,cur,rfl,_,hg,hnc,hcm,hcs,htake⟩
  · have:l= []:=List.eq_nil_of_length_eq_zero hn;subst this;exact⟨0,by simp,by simp,.inl ⟨rfl,fun x hx=>by simpa [Value.ownBlock]using(h1 x).1 hx,rfl⟩⟩
  · refine⟨cap,hnc,hcm,.inr ⟨g,0,J,(h1 g).2 J,fun j u hj=> ?_⟩⟩;have:=h2.cells (g:=g) J j u hj;have hadd:(⟨g,0,none⟩:Addr).add j=⟨g,0+j,none⟩:=by unfold Addr.add;split<;>simp_all
    rwa [hadd]at this
/-! ### Changing what is owned -/
section
variable{w0:World}{M H:Nat→Prop}{Γ R:dQ}{w w':World}
theorem BN{k:Nat}{A':Asn}(Γ:dQ):∀j A,bL ((k,A')::Γ) j=some A→bL (fB [k] [A'] (fD [k] Γ)) j=some A:=by
  intro j A h;simp only [fB,fD,bL]at h ⊢;cases hb:Nat.beq k j with
  | true=>rw [hb]at h;simpa using h
  | false=>rw [hb]at h;simpa using h
theorem COk.upd{k:Nat}{A A':Asn}(h:COk w0 M H Γ R w)(hk:bL Γ k=some A)
    (hs:∀G,A.pred w G→(∀b,G b→b<w.heap.size)→∃G',A'.pred w' G'∧(∀b,G' b→b<w'.heap.size∧(b<w.heap.size→G b))∧Touch G w w'):COk w0 M H ((k,A')::Γ) R w':=by
  obtain⟨M',H',hL,hstep⟩:=h.step [k] (by simp) (L:= [A]) (by simp [ek,cZ,hk]) (R0:= []) (by intro i A h;simp at h);obtain⟨F0,hF⟩:=hL;obtain⟨G',h1,h2,h3⟩:=hs (F0 0) (hF.has 0 A J) (hF.lt 0);have hnew:LOk w M' H' [A'] [] w':=by
    refine⟨fun i b=>i=0∧G' b,?_,?_,?_,?_,?_,?_⟩
    · exact(hF.touch).trans h3 (fun x hx hg=>hF.mine 0 x hg hx)
    · intro i B hi;cases i with
      | zero=>
        simp at hi;subst hi;have:(fun b=>(0:Nat)=0∧G' b)=G':=by funext b;simp
        show A'.pred w' _;rw [this];exact h1
      | succ i=>simp at hi
    · rintro i b ⟨_,hb⟩;exact(h2 b hb).1
    · rintro i b ⟨_,hb⟩ hlt;exact hF.mine 0 b ((h2 b hb).2 hlt) hlt
    · rintro i j b ⟨rfl,_⟩ ⟨rfl,_⟩;rfl
    · intro i B hi;simp at hi
  exact(hstep [A'] [] [k] [] w' (by simp) J J hnew).1.congr (BN Γ) (fun _ _ h=>h)
theorem COk.new{k:Nat}{A':Asn}(h:COk w0 M H Γ R w)(ht:Touch (fun _=>False) w w')(hs:∃G',A'.pred w' G'∧∀b,G' b→b<w'.heap.size∧w.heap.size≤b):COk w0 M H ((k,A')::Γ) R w':=by
  obtain⟨M',H',hL,hstep⟩:=h.step [] (by simp) (L:= []) J (R0:= []) (by intro i A h;simp at h);obtain⟨F0,hF⟩:=hL;obtain⟨G',h1,h2⟩:=hs;have hnew:LOk w M' H' [A'] [] w':=by
    refine⟨fun i b=>i=0∧G' b,?_,?_,?_,?_,?_,?_⟩
    · exact(hF.touch).trans ht (fun x hx hg=>hg.elim)
    · intro i B hi;cases i with
      | zero=>
        simp at hi;subst hi;have:(fun b=>(0:Nat)=0∧G' b)=G':=by funext b;simp
        show A'.pred w' _;rw [this];exact h1
      | succ i=>simp at hi
    · rintro i b ⟨_,hb⟩;exact(h2 b hb).1
    · rintro i b ⟨_,hb⟩ hlt;have:=(h2 b hb).2;omega
    · rintro i j b ⟨rfl,_⟩ ⟨rfl,_⟩;rfl
    · intro i B hi;simp at hi
  exact(hstep [A'] [] [k] [] w' (by simp) J J hnew).1
theorem COk.stay(h:COk w0 M H Γ R w)(ht:Touch (fun _=>False) w w'):COk w0 M H Γ R w':=by
  obtain⟨M',H',hL,hstep⟩:=h.step [] (by simp) (L:= []) J (R0:= []) (by intro i A h;simp at h);obtain⟨F0,hF⟩:=hL;have hnew:LOk w M' H' [] [] w':=⟨fun _ _=>False,(hF.touch).trans ht (fun x hx hg=>hg.elim),fun i B hi=>by simp at hi,fun _ _ h=>h.elim,fun _ _ h=>h.elim,fun _ _ _ h=>h.elim,fun i B hi=>by simp at hi⟩
  exact(hstep [] [] [] [] w' (by simp) J J hnew).1
theorem COk.reads{k:Nat}{A:Asn}(h:COk w0 M H Γ R w)(hk:bL Γ k=some A∨bL R k=some A):∃G,A.pred w G∧∀b,G b→b<w.heap.size:=by
  obtain⟨F,hF⟩:=h;rcases hk with hk|hk
  · exact⟨F k,hF.has k A hk,hF.lt k⟩
  · obtain⟨G,h1,h2⟩:=hF.ro k A hk;exact⟨G,h1,fun b hb=>(h2 b hb).1⟩
theorem COk.freeze{k r:Nat}{A A':Asn}(h:COk w0 M H Γ R w)(hk:bL Γ k=some A)(hA:∀w G,A.pred w G→A'.pred w G):COk w0 M H ((k,Hw)::Γ) ((r,A')::R) w:=by
  classical
  obtain⟨F,hF⟩:=h;refine⟨fun j b=>j≠k∧F j b,hF.touch,?_,?_,?_,?_,?_⟩
  · intro j B hj;simp only [bL]at hj;cases hb:Nat.beq k j with
    | true=>
      rw [hb]at hj;simp at hj;subst hj;have:=Nat.eq_of_beq_eq_true hb;subst this;rintro b ⟨hne,_⟩;exact hne J
    | false=>
      rw [hb]at hj;have hne:j≠k:=fun e=>by subst e;simp at hb
      have:(fun b=>j≠k∧F j b)=F j:=by funext b;simp [hne]
      show B.pred w _;rw [this];exact hF.has j B hj
  · rintro j b ⟨_,hb⟩;exact hF.lt j b hb
  · rintro j b ⟨_,hb⟩ hlt;exact hF.mine j b hb hlt
  · rintro i j b ⟨_,hi⟩ ⟨_,hj⟩;exact hF.apart i j b hi hj
  · intro j B hj;simp only [bL]at hj;cases hb:Nat.beq r j with
    | true=>
      rw [hb]at hj;simp at hj;subst hj;refine⟨F k,hA _ _ (hF.has k A hk),fun b hb=>⟨hF.lt k b hb,?_,fun hlt=> .inl (hF.mine k b hb hlt)⟩⟩;rintro j ⟨hne,hj⟩;exact hne (hF.apart j k b hj hb)
    | false=>
      rw [hb]at hj;obtain⟨G,h1,h2⟩:=hF.ro j B hj;refine⟨G,h1,fun b hb=>⟨(h2 b hb).1,?_,(h2 b hb).2.2⟩⟩;rintro i ⟨_,hi⟩;exact(h2 b hb).2.1 i hi
theorem COk.more{k r:Nat}{A A':Asn}(h:COk w0 M H Γ R w)(hk:bL R k=some A)(hA:∀G,A.pred w G→(∀b,G b→b<w.heap.size)→∃G',A'.pred w G'∧∀b,G' b→G b):COk w0 M H Γ ((r,A')::R) w:=by
  obtain⟨F,hF⟩:=h;refine⟨F,hF.touch,hF.has,hF.lt,hF.mine,hF.apart,fun j B hj=> ?_⟩;simp only [bL]at hj;cases hb:Nat.beq r j with
  | true=>
    rw [hb]at hj;simp at hj;subst hj;obtain⟨G,h1,h2⟩:=hF.ro k A hk;obtain⟨G',h3,h4⟩:=hA G h1 (fun b hb=>(h2 b hb).1);exact⟨G',h3,fun b hb=>h2 b (h4 b hb)⟩
  | false=>rw [hb]at hj;exact hF.ro j B hj
theorem COk.nil{r:Nat}{α:Type}{s:Nat}{enc:α→List Value}(h:COk w0 M H Γ R w):COk w0 M H Γ ((r,sl s enc (.slice none 0 0) [])::R) w:=by
  obtain⟨F,hF⟩:=h;refine⟨F,hF.touch,hF.has,hF.lt,hF.mine,hF.apart,fun j B hj=> ?_⟩;simp only [bL]at hj;cases hb:Nat.beq r j with
  | true=>
    rw [hb]at hj;simp at hj;subst hj;exact⟨fun _=>False,⟨0,by simp,by simp,.inl ⟨rfl,fun x h=>h,rfl⟩⟩,fun b hb=>hb.elim⟩
  | false=>rw [hb]at hj;exact hF.ro j B hj
end
/-! ### Reading cells -/
section
variable{P:Program}{N:Nat}{w0:World}{M H:Nat→Prop}{E:el}{Γ R:dQ}{Q:Exit→Act→World→Prop}
variable{ops:Array Oper}{rest:List Oper}{T:TypeId}{ps:String}{af:Array Edge}{d:Nat}{op:Op}
def Gives(w0:World)(M H:Nat→Prop)(Γ R:dQ)(b o:Nat)(us:List Value):Prop:=∀w,COk w0 M H Γ R w→∀(j:Nat) u,us[j]?=some u→w.cell? ⟨b,o+j,none⟩=some u
theorem cC(b o j:Nat):(⟨b,o,none⟩:Addr).add j=⟨b,o+j,none⟩:=by unfold Addr.add;split<;>simp_all
theorem jd{k b o:Nat}{S:TypeId}{c us:List Value}(hk:bL Γ k=some (aY b S c))(hu:(c.drop o).take us.length=us):Gives w0 M H Γ R b o us:=by
  intro w hC j u hj;obtain⟨G,⟨_,h2⟩,_⟩:=hC.reads (.inl hk);rw [cell_of_row w b (o+j) _ S (0,0) h2];rw [←hu,List.getElem?_take]at hj;split at hj
  · simpa using hj
  · cases hj
theorem ap{k b o:Nat}{S:TypeId}{c:List Value}{u:Value}(hk:bL Γ k=some (aY b S c))(hu:c[o]?=some u):Gives w0 M H Γ R b o [u]:=by
  intro w hC j u' hj;obtain⟨G,⟨_,h2⟩,_⟩:=hC.reads (.inl hk);cases j with
  | zero=>simp at hj;subst hj;rw [cell_of_row w b (o+0) _ S (0,0) h2];simpa using hu
  | succ j=>simp at hj
theorem lS{α:Type}{s:Nat}{enc:α→List Value}(he:∀x,(enc x).length=s):∀(l:List α)(i o:Nat)(x:α)(u:Value),l[i]?=some x→(enc x)[o]?=some u→(l.flatMap enc)[i*s+o]?=some u
  | [],i,o,x,u,hi,_=>by simp at hi
  | y::l,0,o,x,u,hi,hu=>by
    simp at hi;subst hi;rw [List.flatMap_cons,List.getElem?_append_left (by have:=(List.getElem?_eq_some_iff.1 hu).1;omega)];simpa using hu
  | y::l,i+1,o,x,u,hi,hu=>by
    rw [List.flatMap_cons,List.getElem?_append_right (by rw [he];rw [Nat.add_mul];omega),he];have:=lS he l i o x u (by simpa using hi) hu;rw [show(i+1)*s+o-s=i*s+o by rw [Nat.add_mul];omega];exact this
def HasSl{α:Type}(Γ R:dQ)(s:Nat)(enc:α→List Value)(v:Value)(l:List α):Prop:=
  (∃k T,bL Γ k=some (own T s enc v l))∨∃k,bL R k=some (sl s enc v l)
theorem bj{α:Type}{k:Nat}{T:TypeId}{s:Nat}{enc:α→List Value}{v:Value}{l:List α}(h:bL Γ k=some (own T s enc v l)):HasSl Γ R s enc v l:= .inl ⟨k,T,h⟩
theorem aK{α:Type}{k:Nat}{s:Nat}{enc:α→List Value}{v:Value}{l:List α}(h:bL R k=some (sl s enc v l)):HasSl Γ R s enc v l:= .inr ⟨k,h⟩
theorem HasSl.ok{α:Type}{s:Nat}{enc:α→List Value}{v:Value}{l:List α}(h:HasSl Γ R s enc v l){w:World}(hC:COk w0 M H Γ R w):∃G,ng w G s enc v l:=by
  rcases h with⟨k,T,hk⟩|⟨k,hk⟩
  · obtain⟨G,h1,_⟩:=hC.reads (.inl hk);exact⟨G,tH h1⟩
  · obtain⟨G,h1,_⟩:=hC.reads (.inr hk);exact⟨G,h1⟩
theorem HasSl.len{α:Type}{s:Nat}{enc:α→List Value}{v:Value}{l:List α}(h:HasSl Γ R s enc v l){w:World}(hC:COk w0 M H Γ R w):l.length≤maxLen:=by
  obtain⟨G,c,h1,h2,_⟩:=h.ok hC;omega
theorem iO{α:Type}{s:Nat}{enc:α→List Value}{v:Value}{l:List α}(h:HasSl Γ R s enc v l)(he:∀x,(enc x).length=s){i o:Nat}{x:α}(hx:l[i]?=some x){us:List Value}(hu:((enc x).drop o).take us.length=us):
    Gives w0 M H Γ R (ig v) (jp v+i*s+o) us:=by
  intro w hC j u hj;obtain⟨G,c,h1,h2,h3⟩:=h.ok hC;rcases h3 with⟨rfl,_⟩|⟨b,o',rfl,_,hc⟩
  · simp at hx
  · simp only [ig,jp];have hxu:(enc x)[o+j]?=some u:=by
      rw [←hu,List.getElem?_take]at hj;split at hj
      · simpa using hj
      · cases hj
    have:=hc _ u (lS he l i (o+j) x u hx hxu)
    rwa [show o'+(i*s+(o+j))=o'+i*s+o+j by omega]at this
theorem Qx{α:Type}{s:Nat}{enc:α→List Value}{v:Value}{l:List α}(h:HasSl Γ R s enc v l)(he:∀x,(enc x).length=s){i:Nat}{x:α}(hx:l[i]?=some x):
    Gives w0 M H Γ R (ig v) (jp v+i*s) (enc x):=by
  have:=iO (w0:=w0) (M:=M) (H:=H) h he (o:=0) hx (us:=enc x) (by simp);simpa using this
theorem Gives.cells{b o:Nat}{us:List Value}(h:Gives w0 M H Γ R b o us){w:World}(hC:COk w0 M H Γ R w):(loadCells ⟨b,o,none⟩ us.length).run P w= .ok us.toArray w:=
  run_loadCells_list w _ us fun j v hj=>by rw [cC];exact h w hC j v hj
/-! ### New blocks -/
theorem Bf(w:World)(S:TypeId)(c:List Value):(aY w.heap.size S c).pred (w.alloc (.cells c.toArray S)) (· =w.heap.size):=⟨fun x=>Iff.rfl,heap_alloc_new w _⟩
theorem COk.alloc{k:Nat}{S:TypeId}{c:List Value}{w:World}(h:COk w0 M H Γ R w):COk w0 M H ((k,aY w.heap.size S c)::Γ) R (w.alloc (.cells c.toArray S)):=
  h.new (Touch.alloc _ _ _) ⟨_,Bf w S c,fun b hb=>by subst hb;simp⟩
theorem aT{S:TypeId}{D:TypeDesc}{z:Value}{s bb:Nat}{c:List Value}(ht:TI P S D z s bb)(hc:z.cells.toList=c)(hd:Nat.blt d N=true)
    (k:∀b,At N w0 M H ((d,.pointer (some ⟨b,0,none⟩))::E) ((d,aY b S c)::Γ) R (wpList P ops Q rest)):At N w0 M H E Γ R (wpList P ops Q (⟨some d,.alloc S,T,ps,af,none⟩::rest)):=
  vj (X:=Nat) (fun _=>True) (fun b=> .pointer (some ⟨b,0,none⟩)) (fun b=>(d,aY b S c)::Γ) (fun _=>R) hd (fun a w hE hC=>⟨w.heap.size,w.alloc (.cells c.toArray S),trivial,by
    subst hc;simp [execOp,Instr.alloc,ht.zero,newVar,newRow],hC.alloc⟩) fun b _=>k b
theorem Il{S:TypeId}{x:Operand}{v:Value}{c:List Value}(hx:ev E x=some v)(hc:v.cells.toList=c)(hd:Nat.blt d N=true)
    (k:∀b,At N w0 M H ((d,.pointer (some ⟨b,0,none⟩))::E) ((d,aY b S c)::Γ) R (wpList P ops Q rest)):At N w0 M H E Γ R (wpList P ops Q (⟨some d,.box S x,T,ps,af,none⟩::rest)):=
  vj (X:=Nat) (fun _=>True) (fun b=> .pointer (some ⟨b,0,none⟩)) (fun b=>(d,aY b S c)::Γ) (fun _=>R) hd (fun a w hE hC=>⟨w.heap.size,w.alloc (.cells c.toArray S),trivial,by
    subst hc;simp [execOp,hE.ev hx,Instr.box,newVar,newRow],hC.alloc⟩) fun b _=>k b
theorem dv{k:Nat}{A A':Asn}{Rel:Act→World→Prop}(hk:bL Γ k=some A)(hA:∀w G,A.pred w G→A'.pred w G)(h:At N w0 M H E ((k,A')::Γ) R Rel):At N w0 M H E Γ R Rel:=
  h.weak (fun _ h=>h) fun w hC=>hC.upd hk fun G hG hlt=>⟨G,hA w G hG,fun b hb=>⟨hlt b hb,fun _=>hb⟩,Touch.refl _ _⟩
theorem bW(k r:Nat){A A':Asn}{Rel:Act→World→Prop}(hk:bL Γ k=some A)(hA:∀w G,A.pred w G→A'.pred w G)(h:At N w0 M H E ((k,Hw)::Γ) ((r,A')::R) Rel):At N w0 M H E Γ R Rel:=
  h.weak (fun _ h=>h) fun w hC=>hC.freeze hk hA
theorem F9(r:Nat){α:Type}{s:Nat}{enc:α→List Value}{Rel:Act→World→Prop}(h:At N w0 M H E Γ ((r,sl s enc (.slice none 0 0) [])::R) Rel):At N w0 M H E Γ R Rel:=
  h.weak (fun _ h=>h) fun w hC=>hC.nil
theorem cA(k:Nat){α:Type}{S:TypeId}{s:Nat}{enc:α→List Value}{Rel:Act→World→Prop}(h:At N w0 M H E ((k,own S s enc (.slice none 0 0) [])::Γ) R Rel):At N w0 M H E Γ R Rel:=
  h.weak (fun _ h=>h) fun w hC=>hC.new (Touch.refl _ _) ⟨fun _=>False,⟨fun x=>by simp [Value.ownBlock],World.ownsRow_nil _ _ _ _⟩,fun b hb=>hb.elim⟩
theorem aQ(k r:Nat){A A':Asn}{Rel:Act→World→Prop}(hk:bL R k=some A)(hA:∀w G,A.pred w G→(∀b,G b→b<w.heap.size)→∃G',A'.pred w G'∧∀b,G' b→G b)(h:At N w0 M H E Γ ((r,A')::R) Rel):At N w0 M H E Γ R Rel:=
  h.weak (fun _ h=>h) fun w hC=>hC.more hk (hA w)
/-! ### Stores -/
theorem vh{S:TypeId}{D:TypeDesc}{z:Value}{s bb:Nat}{x y:Operand}{b o:Nat}{v:Value}{A A':Asn}{k:Nat}{us:List Value}(ht:TI P S D z s bb)(hx:ev E x=some (.pointer (some ⟨b,o,none⟩)))(hy:ev E y=some v)
    (hus:v.cells.toList=us) (hs:us.length=s) (h1:us.all (·.oneCell')=true) (hk:bL Γ k=some A)
    (hA:∀w G,A.pred w G→∃cur S',w.heap[b]?=some (.cells cur S' (0,0))∧G b∧o+us.length≤cur.size∧A'.pred (w.setRow b (cur.toList.take o++us++cur.toList.drop (o+us.length)).toArray) G)
    (kk:At N w0 M H E ((k,A')::Γ) R (wpList P ops Q rest)):At N w0 M H E Γ R (wpList P ops Q (⟨none,.store S x y,T,ps,af,none⟩::rest)):=by
  intro a w hE hC;obtain⟨G0,hp,hlt⟩:=hC.reads (.inl hk);obtain⟨cur,S',hb,_,hfit,_⟩:=hA w G0 hp;have hst:=run_storeCells_at P b o S' us 0 cur w hb (by simpa using hfit) (fun v hv=>by simpa using List.all_eq_true.1 h1 v hv);simp only [Nat.add_zero]at hst;have hC':COk w0 M H ((k,A')::Γ) R (w.setRow b (cur.toList.take o++us++cur.toList.drop (o+us.length)).toArray):=
    hC.upd hk fun G hG hGlt=>by
      obtain⟨cur',S'',hb',hGb,hfit',hA'⟩:=hA w G hG;rw [hb]at hb';injection hb' with hb';injection hb' with e1 e2;subst e1;exact⟨G,hA',fun x hx=>⟨by simpa using hGlt x hx,fun _=>hx⟩,⟨J,J,J,by simp,fun i _ hi=>setRow_other w b i _ (fun e=>hi (e▸hGb))⟩⟩
  unfold wpList;rw [if_pos (by simp [Region.wanted])];left;unfold Oper.wp;have hrun:(execOp a.eval ⟨none,.store S x y,T,ps,af,none⟩).run P w= .ok .skip (w.setRow b (cur.toList.take o++us++cur.toList.drop (o+us.length)).toArray):=by
    have hsz:v.cells.size=s:=by rw [←hs,←hus];simp
    simp [execOp,hE.ev hx,hE.ev hy,Instr.storeAt,Instr.sureAddr,storeVar,ht.sizeOf,hsz,hus,hst]
  rw [hrun];exact kk _ _ hE hC'
theorem zi{b o:Nat}{S:TypeId}{c c' us:List Value}(hc:c.take o++us++c.drop (o+us.length)=c')(hfit:o+us.length≤c.length):∀(w:World)(G:Nat→Prop),(aY b S c).pred w G→
    ∃cur S',w.heap[b]?=some (.cells cur S' (0,0))∧G b∧o+us.length≤cur.size∧(aY b S c').pred (w.setRow b (cur.toList.take o++us++cur.toList.drop (o+us.length)).toArray) G:=by
  rintro w G ⟨h1,h2⟩;refine⟨_,S,h2,(h1 b).2 J,by simpa using hfit,h1,?_⟩;rw [setRow_heap w b _ _ S (0,0) h2,←hc]
theorem aI{S S':TypeId}{D:TypeDesc}{z:Value}{s bb:Nat}{x y:Operand}{b o:Nat}{v:Value}{k:Nat}{c c' us:List Value}(ht:TI P S D z s bb)(hx:ev E x=some (.pointer (some ⟨b,o,none⟩)))(hy:ev E y=some v)
    (hus:v.cells.toList=us) (hs:us.length=s) (h1:us.all (·.oneCell')=true) (hk:bL Γ k=some (aY b S' c)) (hfit:Nat.ble (o+us.length) c.length=true) (hc:c.take o++us++c.drop (o+us.length)=c')
    (kk:At N w0 M H E ((k,aY b S' c')::Γ) R (wpList P ops Q rest)):At N w0 M H E Γ R (wpList P ops Q (⟨none,.store S x y,T,ps,af,none⟩::rest)):=
  vh ht hx hy hus hs h1 hk (zi hc (by simpa using hfit)) kk
theorem e_{α:Type}{s:Nat}{enc:α→List Value}(he:∀x,(enc x).length=s):∀(l:List α),(l.flatMap enc).length=l.length*s
  | []=>by simp
  | x::l=>by rw [List.flatMap_cons,List.length_append,he,e_ he l,List.length_cons,Nat.add_mul];omega
theorem oo{α:Type}{s:Nat}{enc:α→List Value}(he:∀x,(enc x).length=s):∀(l:List α)(i o:Nat)(x x':α)(us:List Value),l[i]?=some x→o+us.length≤s→(enc x).take o++us++(enc x).drop (o+us.length)=enc x'→
    (l.flatMap enc).take (i*s+o)++us++(l.flatMap enc).drop (i*s+o+us.length)=(l.set i x').flatMap enc
  | [],i,o,x,x',us,hi,_,_=>by simp at hi
  | y::l,0,o,x,x',us,hi,ho,hx=>by
    simp at hi;subst hi;simp only [List.set_cons_zero,List.flatMap_cons,Nat.zero_mul,Nat.zero_add];rw [List.take_append_of_le_length (by rw [he];omega),List.drop_append_of_le_length (by rw [he];omega),←hx];simp
  | y::l,i+1,o,x,x',us,hi,ho,hx=>by
    simp only [List.set_cons_succ,List.flatMap_cons];rw [←oo he l i o x x' us (by simpa using hi) ho hx];have e1:(i+1)*s+o=(enc y).length+(i*s+o):=by rw [he,Nat.add_mul];omega
    rw [e1,List.take_length_add_append,Nat.add_assoc,List.drop_length_add_append];simp [List.append_assoc]
theorem Gq{α:Type}{S:TypeId}{s:Nat}{enc:α→List Value}{v:Value}{l:List α}(he:∀x,(enc x).length=s){i o:Nat}{x x':α}{us:List Value}(hi:l[i]?=some x)(ho:o+us.length≤s)(hx:(enc x).take o++us++(enc x).drop (o+us.length)=enc x'):
    ∀(w:World)(G:Nat→Prop),(own S s enc v l).pred w G→∃cur S',w.heap[ig v]?=some (.cells cur S' (0,0))∧G (ig v)∧jp v+i*s+o+us.length≤cur.size∧
      (own S s enc v (l.set i x')).pred (w.setRow (ig v) (cur.toList.take (jp v+i*s+o)++us++cur.toList.drop (jp v+i*s+o+us.length)).toArray) G:=by
  rintro w G ⟨h1,h2⟩;rcases h2.2 with⟨rfl,hn⟩|⟨g,cap,cur,rfl,hbg,hg,hnc,hcm,hcs,htake⟩
  · have:l= []:=List.eq_nil_of_length_eq_zero hn;subst this;simp at hi
  · simp only [ig,jp,Nat.zero_add];have hil:i<l.length:=(List.getElem?_eq_some_iff.1 hi).1;have hb1:i*s+o+us.length≤l.length*s:=by
      have:(i+1)*s≤l.length*s:=Nat.mul_le_mul_right s hil;rw [Nat.add_mul]at this;omega
    have hb2:l.length*s≤cur.size:=by rw [hcs];exact Nat.mul_le_mul_right s hnc
    refine⟨cur,S,hg,(h1 g).2 J,by omega,h1,?_,.inr ⟨g,cap,_,by simp,hbg,setRow_heap w g _ _ S (0,0) hg,by simpa using hnc,hcm,?_,?_⟩⟩
    · rw [e_ he]
    · simp only [List.size_toArray,List.length_append,List.length_take,List.length_drop,Array.length_toList];omega
    · rw [←oo he l i o x x' us hi ho hx,←htake];have hl:(cur.toList.take (l.length*s)).length=l.length*s:=by rw [List.length_take];simp;omega
      simp only [List.length_set];apply List.ext_getElem?;intro j;simp only [List.getElem?_append,List.getElem?_take,List.getElem?_drop,List.length_append,List.length_take,Array.length_toList]
      repeat' split
      all_goals (first|rfl|omega|(congr 1;omega)|skip)
end
structure FO(P:Program)(S:TypeId)(i off:Nat):Prop where
  ex:∃fields f n,P.underlying S=some (.struct fields)∧fields[i]?=some f∧f.offset=off∧(P.info? f.type).map (·.size)=some (n+1)
section
variable{P:Program}{N:Nat}{w0:World}{M H:Nat→Prop}{E:el}{Γ R:dQ}{Q:Exit→Act→World→Prop}
variable{ops:Array Oper}{rest:List Oper}{T:TypeId}{ps:String}{af:Array Edge}{d:Nat}{op:Op}
theorem FO.run{S:TypeId}{i off:Nat}(h:FO P S i off)(b o:Nat)(w:World):(Instr.fieldAt S (.pointer (some ⟨b,o,none⟩)) i).run P w= .ok (.pointer (some ⟨b,o+off,none⟩)) w:=by
  obtain⟨fields,f,n,h1,h2,h3,h4⟩:=h.ex;have hs:(sizeOf f.type).run P w= .ok (n+1) w:=by
    cases hi:P.info? f.type with
    | none=>rw [hi]at h4;simp at h4
    | some t=>rw [hi]at h4;simp at h4;simp [sizeOf,typeInfo,hi,h4]
  simp [Instr.fieldAt,run_underlying h1,h2,Instr.sureAddr,fieldPlace,hs,cC,h3]
/-! ### Values that are aggregates -/
theorem i_{S:TypeId}{D:TypeDesc}{z:Value}{s bb o:Nat}{cs:Array Value}{u:Value}(ht:TI P S D z s bb)(hag:ux D=false)(hu:cs[o]?=some u)(w:World):(part S cs o).run P w= .ok u w:=by
  simp [part,ht.isAgg,hag,hu]
theorem A_{S:TypeId}{D:TypeDesc}{z:Value}{s bb o:Nat}{cs us:Array Value}(ht:TI P S D z s bb)(hag:ux D=true)(hu:cs.extract o (o+s)=us)(w:World):(part S cs o).run P w= .ok (.agg us) w:=by
  simp [part,ht.isAgg,hag,ht.sizeOf,hu]
def FT(P:Program)(S:TypeId)(i off:Nat)(U:TypeId):Prop:=∃fields f,P.underlying S=some (.struct fields)∧fields[i]?=some f∧f.offset=off∧f.type=U
def PL(P:Program)(S:TypeId)(places:List (Nat×Nat)):Prop:=∃fields,P.underlying S=some (.struct fields)∧fields.toList.mapM (fun f=>(P.info? f.type).map fun i=>(f.offset,i.size))=some places
def evps(E:el):List (Nat×Operand)→Option (List (Nat×Value))
  | []=>some []
  | (i,x)::r=>match ev E x,evps E r with
    | some v,some vs=>some ((i,v)::vs)
    | _,_=>none
theorem EOk.evps{a:Act}(h:EOk N E a):∀{xs:List (Nat×Operand)}{vs:List (Nat×Value)},YtedmdgbmdplifaaGreat.evps E xs=some vs→xs.map (fun p=>(p.1,a.eval p.2))=vs
  | [],vs,e=>by simp [YtedmdgbmdplifaaGreat.evps]at e;simp [e]
  | (i,x)::r,vs,e=>by
    simp only [YtedmdgbmdplifaaGreat.evps]at e;cases hx: YtedmdgbmdplifaaGreat.ev E x with
    | none=>simp [hx]at e
    | some v=>
      cases hr: YtedmdgbmdplifaaGreat.evps E r with
      | none=>simp [hx,hr]at e
      | some us=>
        simp [hx,hr]at e;subst e;simp [h.ev hx,EOk.evps h hr]
/-! ### Slices of the call's own -/
theorem tI{α:Type}{S:TypeId}{s:Nat}{enc:α→List Value}{l:List α}{w:World}{cap:Nat}{cur:Array Value}(he:(l.flatMap enc).length=l.length*s)(hc:cur.size=cap*s)(hlc:l.length≤cap)(hm:cap≤maxLen)(ht:cur.toList.take (l.length*s)=l.flatMap enc):
    (own S s enc (.slice (some ⟨w.heap.size,0,none⟩) l.length cap) l).pred (w.alloc (.cells cur S)) (· =w.heap.size):=
  ⟨fun x=>by simp [Value.ownBlock,eq_comm],he,.inr ⟨w.heap.size,cap,cur,rfl,Nat.zero_le _,heap_alloc_new w _,hlc,hm,hc,ht⟩⟩
theorem wg{s:Nat}{v:Value}{zs:Array Value}(hv:v.cells.size=s)(hz:zs.size=s):Instr.fill (fun i=>some (i*s,s)) zs [(0,v)]=some v.cells:=by
  have h:∀(l:List Value)(k:Nat)(cs:Array Value),k+l.length=cs.size→(l.zipIdx k).foldl (fun cs(p:Value×Nat)=>cs.setIfInBounds (0+p.2) p.1) cs=(cs.toList.take k++l).toArray:=by
    intro l
    induction l with
    | nil=>intro k cs hk;simp at hk;subst hk;simp only [List.zipIdx_nil,List.foldl_nil,List.append_nil];rw [List.take_of_length_le (by simp)]
    | cons u l ih=>
      intro k cs hk;simp only [List.zipIdx_cons,List.foldl_cons,Nat.zero_add];have h2:=ih (k+1) (cs.setIfInBounds k u) (by simp at hk ⊢;omega);simp only [Nat.zero_add]at h2;rw [h2]
      congr 1
      have hlt:k<cs.toList.length:=by rw [Array.length_toList];simp at hk;omega
      simp [List.take_set,List.take_succ_eq_append_getElem hlt];rw [List.set_append_right _ _ (by simp;omega)];have hmin:k-(List.take k cs.toList).length=0:=by rw [List.length_take];omega
      rw [hmin];simp
  simp only [Instr.fill];rw [if_neg (by simp [hv,hz])];have h2:=h v.cells.toList 0 zs (by simp [hv,hz]);simp only [List.take_zero,List.nil_append,Array.toArray_toList]at h2
  congr 1
  rw [←Array.foldl_toList,Array.toList_zipIdx,Nat.zero_mul];exact h2
theorem bq{α:Type}{S U:TypeId}{D:TypeDesc}{z:Value}{s bb:Nat}(enc:α→List Value)(e:α){x:Operand}{v:Value}(hS:P.underlying S=some (.slice U))(hU:TI P U D z s bb)(hs:z.cells.size=s)(hs0:0<s)(hsb:s≤1000000)(hx:ev E x=some v)(hv:v.cells.toList=enc e)(he:(enc e).length=s)
    (hd:Nat.blt d N=true) (k:∀v':SV,At N w0 M H ((d,sv v')::E) ((d,own U s enc (sv v') [e])::Γ) R (wpList P ops Q rest)):At N w0 M H E Γ R (wpList P ops Q (⟨some d,.buildSlice S 1 #[(0,x)],T,ps,af,none⟩::rest)):=
  vj (X:=SV) (fun _=>True) (fun v'=>sv v') (fun v'=>(d,own U s enc (sv v') [e])::Γ) (fun _=>R) hd (fun a w hE hC=>⟨⟨some ⟨w.heap.size,0,none⟩,1,1⟩,w.alloc (.cells v.cells U),trivial,by
    have hvs:v.cells.size=s:=by rw [←he,←hv];simp
    have h0:¬s=0:=by omega
    have hzz:((Array.range (1*s)).map (z.cells[· %z.cells.size]!)).size=s:=by simp
    have hf:=wg (s:=s) (v:=v) hvs hzz;simp only [Nat.one_mul]at hf;have hb:¬16777216<s:=by omega
    simp [execOp,hE.ev hx,Instr.buildSlice,run_underlying hS,hU.sizeOf,hU.zero,newRow,h0,hb,hf,sv],by
    have hvs:v.cells.size=s:=by rw [←he,←hv];simp
    refine hC.new (Touch.alloc _ _ _) ⟨_,tI (S:=U) (s:=s) (enc:=enc) (l:= [e]) (cap:=1) (by simpa using he) (by simpa using hvs) (by simp) (by simp [maxLen]) (by simp [hv];rw [←he];exact List.take_of_length_le (Nat.le_refl _)),fun b hb=>by subst hb;simp⟩⟩) fun v' _=>k v'
theorem eF{α:Type}{S U:TypeId}{D:TypeDesc}{z:Value}{s bb:Nat}{enc:α→List Value}{x y:Operand}{v v2:Value}{l l2:List α}(k:Nat)(hS:P.underlying S=some (.slice U))(hU:TI P U D z s bb)(hzs:z.cells.size=s)(hs0:0<s)(he:∀x,(enc x).length=s)(h1:∀x,(enc x).all (·.oneCell')=true)
    (hx:ev E x=some v) (hy:ev E y=some v2) (hk:bL Γ k=some (own U s enc v l)) (h2:HasSl Γ R s enc v2 l2) (hm:(l.length+l2.length)*bb≤140737488355328) (hm':l.length+l2.length≤maxLen)
    (hd:Nat.blt d N=true) (kk:∀v':SV,At N w0 M H ((d,sv v')::E) ((k,own U s enc (sv v') (l++l2))::Γ) R (wpList P ops Q rest)):At N w0 M H E Γ R (wpList P ops Q (⟨some d,.call {callee:= .builtin .append,args:= #[x,y],argTypes:= #[S,S]},T,ps,af,none⟩::rest)):=by
  refine vj (X:=SV) (fun _=>True) (fun v'=>sv v') (fun v'=>(k,own U s enc (sv v') (l++l2))::Γ) (fun _=>R) hd (fun a w hE hC=> ?_) fun v' _=>kk v'
  obtain⟨G0,hp0,hlt0⟩:=hC.reads (.inl hk);obtain⟨G2,c,h3,h4,h5⟩:=h2.ok hC;obtain⟨i,i1,i2,i3,i4⟩:=hU.info;have hfl:∀l':List α,(l'.flatMap enc).length=l'.length*s:=e_ he;rcases h5 with⟨rfl,_,rfl⟩|⟨b2,o2,rfl,_,hc2⟩
  · obtain⟨xv,rfl⟩:=il hp0.2;refine⟨xv,w,trivial,?_,?_⟩
    · have hr:=run_append_owned_none (P:=P) w 0 S T U i s hS i1 (sv xv) l.length _ hp0.2;simp [execOp,resolve,invoke,builtin,hE.ev hx,hE.ev hy,hr]
    · simp only [List.append_nil];exact hC.upd hk fun G hG hGlt=>⟨G,hG,fun b hb=>⟨hGlt b hb,fun _=>hb⟩,Touch.refl _ _⟩
  · obtain⟨v',w',hr,ho,hg,hn⟩:=run_append_own (P:=P) w 0 S T U i z s bb hS i1 i2 i3 i4 hzs hs0 v l.length _ hp0.2 ⟨b2,o2,none⟩ l2.length c (l2.flatMap enc) (hfl l2)
      (fun j u hj=>by rw [cC];exact hc2 j u hj) (fun u hu=>by obtain⟨x,_,hxu⟩:=List.mem_flatMap.1 hu;simpa using List.all_eq_true.1 (h1 x) u hxu) hm' hm (Nat.zero_le _)
    obtain⟨xv,rfl⟩:=il ho;refine⟨xv,w',trivial,?_,?_⟩
    · simp [execOp,resolve,invoke,builtin,hE.ev hx,hE.ev hy,hr]
    · refine hC.upd hk fun G hG hGlt=>⟨fun b=>(sv xv).ownBlock=some b,⟨fun x=>Iff.rfl,?_⟩,fun b hb=>⟨(ho.lt b hb).2,fun hlt=> ?_⟩,⟨hg.os,hg.tape,hg.output,hg.size,fun i hi hne=>hg.block i hi (fun e=>hne ((hG.1 i).2 e.symm))⟩⟩
      · rw [List.length_append,List.flatMap_append];exact ho
      · rcases hp0.2.2 with⟨rfl,hl0⟩|⟨g,cap,cur,rfl,hbg,hgg,hnc,hcm,hcs,htake⟩
        · exfalso;have hl:l= []:=List.eq_nil_of_length_eq_zero hl0;subst hl;by_cases hz:l2.length=0
          · have hl2:l2= []:=List.eq_nil_of_length_eq_zero hz;subst hl2;have:=(hn.2 ⟨J,J⟩)
            rw [this]at hb;simp [Value.ownBlock]at hb
          · have hr2:=run_append_nil (P:=P) w S T U i z hS i1 i2 ⟨b2,o2,none⟩ l2.length c (l2.flatMap enc) (by rw [hfl,i3]) (fun j u hj=>by rw [cC];exact hc2 j u hj) (by simpa using Nat.pos_of_ne_zero hz) (by simp only [maxLen]at hm';simp at hm';omega) (by rw [i4];simp at hm;omega);rw [hr2]at hr;injection hr with hr3 hr4;replace hb:(sv xv).ownBlock=some b:=hb;rw [←hr3]at hb;simp [Value.ownBlock]at hb;omega
        · by_cases hroom:l.length+l2.length≤cap
          · have hfit:l.length*i.size+(l2.flatMap enc).length≤cur.size:=by rw [hfl,hcs,i3,←Nat.add_mul];exact Nat.mul_le_mul_right _ hroom
            have hr2:=run_append_room (P:=P) w S T U i hS i1 g l.length cap cur hgg ⟨b2,o2,none⟩ l2.length c (l2.flatMap enc) (by rw [hfl,i3]) (fun j u hj=>by rw [cC];exact hc2 j u hj) (fun u hu=>by obtain⟨x,_,hxu⟩:=List.mem_flatMap.1 hu;simpa using List.all_eq_true.1 (h1 x) u hxu) hroom hfit;rw [hr2]at hr;injection hr with hr3 hr4;replace hb:(sv xv).ownBlock=some b:=hb;rw [←hr3]at hb;simp [Value.ownBlock]at hb;subst hb;exact(hG.1 g).2 J
          · exfalso;have holds:=hp0.2.cells (g:=g) J;have hr2:=run_append_grow (P:=P) w S T U i z hS i1 i2 ⟨g,0,none⟩ l.length cap (l.flatMap enc) (by rw [hfl,i3]) holds ⟨b2,o2,none⟩ l2.length c (l2.flatMap enc) (by rw [hfl,i3]) (fun j u hj=>by rw [cC];exact hc2 j u hj) (by omega) (by simp only [maxLen]at hm';omega) (growslice_fits (by omega) (by rw [i4];exact hm));rw [hr2]at hr;injection hr with hr3 hr4;replace hb:(sv xv).ownBlock=some b:=hb;rw [←hr3]at hb;simp [Value.ownBlock]at hb;omega
end
def Cb(P:Program)(n:Nat):Prop:=∃fn,P.funcs[n]?=some fn∧(fn.name== "runtime.NumGoroutine")=false∧fn.body.isNone=false
def Spec(P:Program)(n:Nat)(vs:List Value)(L R0:List Asn){X:Type}(φ:X→Prop)(v:X→Value)(L' R':X→List Asn):Prop:=
  ∀w M H,LOk w M H L R0 w→Calls P n vs.toArray w (LP w M H φ v L' R')
def jc(Γ R:dQ):List (Bool×Nat)→List (Option Asn)
  | []=> []
  | (true,k)::r=>bL Γ k::jc Γ R r
  | (false,k)::r=>bL R k::jc Γ R r
theorem kM:∀(Γ R:dQ)(ks:List (Bool×Nat))(L:List Asn)(i:Nat)(A:Asn),jc Γ R ks=cZ L→L[i]?=some A→∃p,p∈ks∧(match p with|(true,k)=>bL Γ k=some A|(false,k)=>bL R k=some A)
  | Γ,R,[],[],i,A,_,h=>by simp at h
  | Γ,R,(true,k)::ks,B::L,i,A,h,hi=>by
    simp only [jc,cZ,List.cons.injEq]at h;cases i with
    | zero=>simp at hi;subst hi;exact⟨(true,k),by simp,h.1⟩
    | succ i=>obtain⟨p,hp,hq⟩:=kM Γ R ks L i A h.2 (by simpa using hi);exact⟨p,by simp [hp],hq⟩
  | Γ,R,(false,k)::ks,B::L,i,A,h,hi=>by
    simp only [jc,cZ,List.cons.injEq]at h;cases i with
    | zero=>simp at hi;subst hi;exact⟨(false,k),by simp,h.1⟩
    | succ i=>obtain⟨p,hp,hq⟩:=kM Γ R ks L i A h.2 (by simpa using hi);exact⟨p,by simp [hp],hq⟩
  | Γ,R,[],_::_,_,_,h,_=>by simp [jc,cZ]at h
  | Γ,R,(true,_)::_,[],_,_,h,_=>by simp [jc,cZ]at h
  | Γ,R,(false,_)::_,[],_,_,h,_=>by simp [jc,cZ]at h
def iW(ks:List Nat):List (Bool×Nat)→Bool
  | []=>true
  | (true,k)::r=> !(ks.any (Nat.beq k))&&iW ks r
  | (false,_)::r=>iW ks r
def ef:List (Bool×Nat)→Bool
  | []=>true
  | (true,_)::_=>false
  | (false,_)::r=>ef r
theorem lQ{ks:List Nat}:∀{rs:List (Bool×Nat)},iW ks rs=true→∀k,(true,k)∈rs→k∉ks
  | [],_,k,h=>by simp at h
  | (true,j)::rs,h,k,hk=>by
    simp only [iW,Bool.and_eq_true]at h;rcases List.mem_cons.1 hk with e|e
    · injection e with _ e;subst e;intro hm;have:ks.any (Nat.beq k)=true:=List.any_eq_true.2 ⟨k,hm,by simp⟩;simp [this]at h
    · exact lQ h.2 k e
  | (false,j)::rs,h,k,hk=>by
    simp only [iW]at h;rcases List.mem_cons.1 hk with e|e
    · injection e with e _;cases e
    · exact lQ h k e
theorem mH:∀{rs:List (Bool×Nat)},ef rs=true→∀k,(true,k)∉rs
  | [],_,k=>by simp
  | (true,j)::rs,h,k=>by simp [ef]at h
  | (false,j)::rs,h,k=>by
    simp only [ef]at h;simp [mH h k]
def uC:List Nat→Bool
  | []=>true
  | k::ks=> !(ks.any (Nat.beq k))&&uC ks
theorem lO:∀{ks:List Nat},uC ks=true→ks.Nodup
  | [],_=>by simp
  | k::ks,h=>by
    simp only [uC,Bool.and_eq_true]at h;refine List.nodup_cons.2 ⟨fun hm=> ?_,lO h.2⟩;have:ks.any (Nat.beq k)=true:=List.any_eq_true.2 ⟨k,hm,by simp⟩;simp [this]at h
section
variable{P:Program}{N:Nat}{w0:World}{M H:Nat→Prop}{E:el}{Γ R:dQ}{Q:Exit→Act→World→Prop}
variable{ops:Array Oper}{rest:List Oper}{T:TypeId}{ps:String}{af:Array Edge}{d:Nat}{op:Op}
theorem sX{n:Nat}{vs:List Value}{L R0:List Asn}{X:Type}{φ:X→Prop}{v:X→Value}{L' R':X→List Asn}(hs:Spec P n vs L R0 φ v L' R'){w:World}(hC:COk w0 M H Γ R w)
    (ks:List Nat) (hnd:uC ks=true) (hL:ek Γ ks=cZ L) (rs:List (Bool×Nat)) (hR:jc Γ R rs=cZ R0) (hl:iW ks rs=true) (ns:List Nat) (hns:uC ns=true) (hnl:∀x,φ x→ns.length=(L' x).length) (rns:List Nat) (hrl:∀x,φ x→ef rs=true→rns.length=(R' x).length):
    Calls P n vs.toArray w fun e w'=>∃x,φ x∧e= .returned (v x)∧COk w0 M H (fB ns (L' x) (fD ks Γ)) (bif ef rs then fB rns (R' x) R else R) w':=by
  have hR0:∀(i:Nat) A,R0[i]?=some A→(∃k,bL R k=some A)∨∃k,k∉ks∧bL Γ k=some A:=by
    intro i A hi;obtain⟨⟨b,k⟩,hp,hq⟩:=kM Γ R rs R0 i A hR hi;cases b with
    | true=>exact .inr ⟨k,lQ hl k hp,hq⟩
    | false=>exact .inl ⟨k,hq⟩
  obtain⟨M',H',hin,hout⟩:=hC.step ks (lO hnd) hL hR0;refine(hs w M' H' hin).mono ?_;rintro e w' ⟨x,h1,rfl,h2⟩;refine⟨x,h1,J,?_⟩;cases hno:ef rs with
  | false=>
    have hdrop:LOk w M' H' (L' x) [] w':=by
      obtain⟨F,hF⟩:=h2;exact⟨F,hF.touch,hF.has,hF.lt,hF.mine,hF.apart,fun i A hi=>by simp at hi⟩
    exact(hout (L' x) [] ns [] w' (lO hns) (hnl x h1) J hdrop).1
  | true=>
    refine(hout (L' x) (R' x) ns rns w' (lO hns) (hnl x h1) (hrl x h1 hno) h2).2 fun i A hi=> ?_
    obtain⟨⟨b,k⟩,hp,hq⟩:=kM Γ R rs R0 i A hR hi;cases b with
    | true=>exact absurd hp (mH hno k)
    | false=>exact⟨k,hq⟩
theorem my{n:Nat}(h:Cb P n)(args:Array Value)(w:World):(callFunc n args).run P w= .ok (.enter n args) w:=by
  obtain⟨fn,h1,h2,h3⟩:=h;have h3':¬fn.body=none:=by intro e;rw [e]at h3;simp at h3
  simp at h2;simp [callFunc,h1,h2,h3']
theorem bF{n:Nat}{f:Operand}{xs:List Operand}{cap us vs:List Value}{at_:Array TypeId}{L R0:List Asn}{X:Type}{φ:X→Prop}{v:X→Value}{L' R':X→List Asn}(hs:Spec P n vs L R0 φ v L' R')(hcb:Cb P n)
    (ks:List Nat) (rs:List (Bool×Nat)) (ns rns:List Nat) (hf:ev E f=some (.func (.func n) #[] cap.toArray)) (hx:evs E xs=some us) (hu:us++cap=vs)
    (hnd:uC ks=true) (hL:ek Γ ks=cZ L) (hR:jc Γ R rs=cZ R0) (hl:iW ks rs=true) (hns:uC ns=true) (hnl:∀x,φ x→ns.length=(L' x).length) (hrl:∀x,φ x→ef rs=true→rns.length=(R' x).length)
    (hd:Nat.blt d N=true) (k:∀x,φ x→At N w0 M H ((d,v x)::E) (fB ns (L' x) (fD ks Γ)) (bif ef rs then fB rns (R' x) R else R) (wpList P ops Q rest)):
    At N w0 M H E Γ R (wpList P ops Q (⟨some d,.call {callee:= .value f,args:=xs.toArray,argTypes:=at_},T,ps,af,none⟩::rest)):=by
  intro a w hE hC;unfold wpList;rw [if_pos (by simp [Region.wanted])];left;unfold Oper.wp;have hev:=hE.evs hx;have hrun:(execOp a.eval ⟨some d,.call {callee:= .value f,args:=xs.toArray,argTypes:=at_},T,ps,af,none⟩).run P w= .ok (.enter n vs.toArray) w:=by
    subst hu;simp [execOp,resolve,hE.ev hf,Deferred.ofValue,invoke,hev,my hcb]
  rw [hrun];refine(sX hs hC ks hnd hL rs hR hl ns hns hnl rns hrl).mono ?_;rintro e w' ⟨x,h1,rfl,h2⟩;exact k x h1 _ _ (hE.put hd _) h2
/-! ### Entering a function -/
def HP:Nat→List Value→el
  | _,[]=> []
  | i,v::vs=>(i,v)::HP (i+1) vs
def EF:Nat→List Asn→dQ
  | _,[]=> []
  | i,A::L=>(i,A)::EF (i+1) L
theorem wL:∀{vs:List Value}{i t:Nat}{v:Value},dK (HP i vs) t=some v→i≤t∧vs[t-i]?=some v
  | [],_,_,_,h=>by cases h
  | u::vs,i,t,v,h=>by
    simp only [HP,dK]at h;cases hb:Nat.beq i t with
    | true=>
      rw [hb]at h;have:=Nat.eq_of_beq_eq_true hb;subst this;simp at h;simp [h]
    | false=>
      rw [hb]at h;obtain⟨h1,h2⟩:=wL (vs:=vs) h;refine⟨by omega,?_⟩;rw [show t-i=(t-(i+1))+1 by omega];simpa using h2
theorem qQ:∀{L:List Asn}{i t:Nat}{A:Asn},bL (EF i L) t=some A→i≤t∧L[t-i]?=some A
  | [],_,_,_,h=>by cases h
  | u::vs,i,t,v,h=>by
    simp only [EF,bL]at h;cases hb:Nat.beq i t with
    | true=>
      rw [hb]at h;have:=Nat.eq_of_beq_eq_true hb;subst this;simp at h;simp [h]
    | false=>
      rw [hb]at h;obtain⟨h1,h2⟩:=qQ (L:=vs) h;refine⟨by omega,?_⟩;rw [show t-i=(t-(i+1))+1 by omega];simpa using h2
theorem aF{n:Nat}{fn:Func}{c:Code}{vs:List Value}{L R0:List Asn}{X:Type}{φ:X→Prop}{v:X→Value}{L' R':X→List Asn}(hf:P.funcs[n]?=some fn)(hb:fn.body=some c)(hN:fn.ntmps=N)(hv:Nat.ble vs.length N=true)
    (h:∀w0 M H,At N w0 M H (HP 0 vs) (EF 0 L) (EF 0 R0) (c.wp P (bodyPost P fn (LP w0 M H φ v L' R')))):Spec P n vs L R0 φ v L' R':=by
  intro w M H hL;refine calls_of_wp hf hb (h w M H _ _ ⟨J,?_,fun t u ht=> ?_⟩ ?_)
  · simp only [Array.size_append,Array.size_replicate];omega
  · obtain⟨h1,h2⟩:=wL ht;simp only [Nat.sub_zero]at h2;rw [Array.getElem?_append_left (by have:=(List.getElem?_eq_some_iff.1 h2).1;simpa using this)];simpa using h2
  · obtain⟨F,hF⟩:=hL;refine⟨F,hF.touch,fun k A hk=>hF.has k A ?_,hF.lt,hF.mine,hF.apart,fun k A hk=>hF.ro k A ?_⟩
    · simpa using(qQ hk).2
    · simpa using(qQ hk).2
/-! ### Returning -/
def uZ(tmps:Array Value):ResultVar→Sem Value
  | .tmp t=>pure (tmps.getD t undef)
  | .cell x t=>do loadVar t (←asAddr (tmps.getD x undef))
theorem lK(fn:Func)(tmps:Array Value):results fn tmps=(do
    let vs←fn.results.mapM (uZ tmps)
    pure (if h:vs.size=1 then vs[0]else .tuple vs)):=by
  have:(fun r=>match r with
    | ResultVar.tmp t=>(pure (tmps.getD t undef):Sem Value)
    | ResultVar.cell x t=>do loadVar t (←asAddr (tmps.getD x undef)))=uZ tmps:=by
    funext r;cases r<;>rfl
  rw [←this];rfl
def RV(P:Program)(N:Nat)(w0:World)(M H:Nat→Prop)(E:el)(Γ R:dQ)(r:ResultVar)(u:Value):Prop:=
  ∀a w,EOk N E a→COk w0 M H Γ R w→(uZ a.tmps r).run P w= .ok u w
theorem aH{t:Nat}{u:Value}(h:dK E t=some u):RV P N w0 M H E Γ R (.tmp t) u:=fun a w hE hC=>by simp [uZ,hE.slot t u h]
theorem aW{x:Nat}{S:TypeId}{D:TypeDesc}{z:Value}{s bb b o:Nat}{us:List Value}(ht:TI P S D z s bb)(hag:ux D=true)(hx:dK E x=some (.pointer (some ⟨b,o,none⟩)))(hn:us.length=s)(hg:Gives w0 M H Γ R b o us):
    RV P N w0 M H E Γ R (.cell x S) (.agg us.toArray):=fun a w hE hC=>by
  have:=hg.cells (P:=P) hC;rw [hn]at this;simp [uZ,hE.slot x _ hx,asAddr,loadVar,ht.isAgg,hag,ht.sizeOf,this]
def RS(P:Program)(N:Nat)(w0:World)(M H:Nat→Prop)(E:el)(Γ R:dQ)(rs:Array ResultVar)(u:Value):Prop:=
  ∀(fn:Func) a w,fn.results=rs→EOk N E a→COk w0 M H Γ R w→(results fn a.tmps).run P w= .ok u w
theorem eW:RS P N w0 M H E Γ R #[] (.tuple #[]):=fun fn a w hr _ _=>results_none hr _ _ _
theorem bx{r1:ResultVar}{u1:Value}(h1:RV P N w0 M H E Γ R r1 u1):RS P N w0 M H E Γ R #[r1] u1:=fun fn a w hr hE hC=>by
  have e1:=h1 a w hE hC;simp [lK,hr,e1]
theorem F5{r1 r2:ResultVar}{u1 u2:Value}(h1:RV P N w0 M H E Γ R r1 u1)(h2:RV P N w0 M H E Γ R r2 u2):RS P N w0 M H E Γ R #[r1,r2] (.tuple #[u1,u2]):=fun fn a w hr hE hC=>by
  have e1:=h1 a w hE hC;have e2:=h2 a w hE hC;simp [lK,hr,e1,e2]
theorem Sd{r1 r2 r3:ResultVar}{u1 u2 u3:Value}(h1:RV P N w0 M H E Γ R r1 u1)(h2:RV P N w0 M H E Γ R r2 u2)(h3:RV P N w0 M H E Γ R r3 u3):RS P N w0 M H E Γ R #[r1,r2,r3] (.tuple #[u1,u2,u3]):=fun fn a w hr hE hC=>by
  have e1:=h1 a w hE hC;have e2:=h2 a w hE hC;have e3:=h3 a w hE hC;simp [lK,hr,e1,e2,e3]
theorem COk.toL{w:World}(h:COk w0 M H Γ R w)(ks:List Nat)(hnd:uC ks=true){L:List Asn}(hL:ek Γ ks=cZ L)(rs:List Nat){R':List Asn}(hR:ek R rs=cZ R'):LOk w0 M H L R' w:=by
  obtain⟨F,hF⟩:=h;refine⟨fun i b=>∃k,ks[i]?=some k∧F k b,hF.touch,?_,?_,?_,?_,?_⟩
  · intro i A hi;obtain⟨k,hk,hA⟩:=kH Γ ks L i A hL hi;have:(fun b=>∃k,ks[i]?=some k∧F k b)=F k:=by
      funext b;simp [hk]
    show A.pred w _;rw [this];exact hF.has k A hA
  · rintro i b ⟨k,_,hb⟩;exact hF.lt k b hb
  · rintro i b ⟨k,hk,hb⟩ hlt;exact hF.mine k b hb hlt
  · rintro i j b ⟨k,hk,hb⟩ ⟨k',hk',hb'⟩;have:=hF.apart k k' b hb hb';subst this;exact Dl (lO hnd) hk hk'
  · intro i A hi;obtain⟨k,hk,hA⟩:=kH R rs R' i A hR hi;obtain⟨G,h1,h2⟩:=hF.ro k A hA;refine⟨G,h1,fun b hb=>⟨(h2 b hb).1,?_,(h2 b hb).2.2⟩⟩;rintro j ⟨k',_,hb'⟩;exact(h2 b hb).2.1 k' hb'
theorem aG{fn:Func}{rv:Array ResultVar}{u:Value}{X:Type}{φ:X→Prop}{v:X→Value}{L' R':X→List Asn}(x:X)(hφ:φ x)(hr:fn.results=rv)(hrs:RS P N w0 M H E Γ R rv u)(hu:u=v x)
    (ks:List Nat) (rs:List Nat) (hnd:uC ks=true) (hL:ek Γ ks=cZ (L' x)) (hR:ek R rs=cZ (R' x)):At N w0 M H E Γ R (bodyPost P fn (LP w0 M H φ v L' R') .ret):=fun a w hE hC=>
  ⟨hE.defers,u,hrs fn a w hr hE hC,x,hφ,by rw [hu],hC.toL ks hnd hL rs hR⟩
theorem bO{fn:Func}{rv:Array ResultVar}{u:Value}{X:Type}{φ:X→Prop}{v:X→Value}{L' R':X→List Asn}(x:X)(hφ:φ x)(hr:fn.results=rv)(hrs:RS P N w0 M H E Γ R rv u)(hu:u=v x)
    (ks:List Nat) (rs:List Nat) (hnd:uC ks=true) (hL:ek Γ ks=cZ (L' x)) (hR:ek R rs=cZ (R' x)):At N w0 M H E Γ R (bodyPost P fn (LP w0 M H φ v L' R') .normal):=fun a w hE hC=>
  ⟨hE.defers,u,hrs fn a w hr hE hC,x,hφ,by rw [hu],hC.toL ks hnd hL rs hR⟩
/-! ### Contracts, between one another -/
theorem Spec.mono{n:Nat}{vs:List Value}{L R0:List Asn}{X Y:Type}{φ:X→Prop}{v:X→Value}{L' R':X→List Asn}{ψ:Y→Prop}{u:Y→Value}{K' S':Y→List Asn}(h:Spec P n vs L R0 φ v L' R')
    (hy:∀x,φ x→∃y,ψ y∧v x=u y∧L' x=K' y∧R' x=S' y):Spec P n vs L R0 ψ u K' S':=fun w M H hL=>(h w M H hL).mono (by
  rintro e w' ⟨x,h1,h2,h3⟩;obtain⟨y,g1,g2,g3,g4⟩:=hy x h1;exact⟨y,g1,by rw [h2,g2],by rw [←g3,←g4];exact h3⟩)
end
section
variable{P:Program}{N:Nat}{w0:World}{M H:Nat→Prop}{E:el}{Γ R:dQ}{Q:Exit→Act→World→Prop}
variable{ops:Array Oper}{rest:List Oper}{T:TypeId}{ps:String}{af:Array Edge}{d:Nat}{op:Op}
def PR(P:Program)(N:Nat)(w0:World)(M H:Nat→Prop)(E:el)(Γ R:dQ)(op:Op)(v:Value):Prop:=
  ∀T ps af a w,EOk N E a→COk w0 M H Γ R w→∀d g,(execOp a.eval ⟨d,op,T,ps,af,g⟩).run P w= .ok (.value v) w
theorem aj{v:Value}(h:PR P N w0 M H E Γ R op v)(hd:Nat.blt d N=true)(k:At N w0 M H ((d,v)::E) Γ R (wpList P ops Q rest)):At N w0 M H E Γ R (wpList P ops Q (⟨some d,op,T,ps,af,none⟩::rest)):=
  vj (X:=Unit) (fun _=>True) (fun _=>v) (fun _=>Γ) (fun _=>R) hd (fun a w hE hC=>⟨(),w,trivial,h _ _ _ a w hE hC _ _,hC⟩) fun _ _=>k
def gb:Bool→Bool→Bool
  | true,b=>b
  | false,b=> !b
def gv(g:Bool)(v:Value):Value:=bif g then v else undef
def GS(E:el)(g:Bool):el→Prop
  | []=>True
  | (t,u)::r=>dK E t=some (gv g u)∧GS E g r
theorem EOk.gs{a:Act}{g:Bool}(h:EOk N E a)(hg:g=true):∀{Eg:el},GS E g Eg→EOk N (Eg++E) a
  | [],_=>h
  | (t,u)::r,hs=>by
    have ih:=EOk.gs h hg hs.2;refine⟨h.defers,h.size,fun s v hv=> ?_⟩;simp only [List.cons_append,dK]at hv;cases hb:Nat.beq t s with
    | true=>
      rw [hb]at hv;simp at hv;subst hv;rw [←Nat.eq_of_beq_eq_true hb];have:=h.slot t _ hs.1;rw [hg]at this;exact this
    | false=>rw [hb]at hv;exact ih.slot s v hv
theorem aA{l:List Oper}{rest:List Oper}{i t:Nat}{c b:Bool}{v:Value}(Eg:el)(hi:kx l i=some t)(ht:dK E t=some (.bool b))(hgs:GS E (gb c b) Eg)(h:gb c b=true→PR P N w0 M H (Eg++E) Γ R op v)(hd:Nat.blt d N=true)
    (k:At N w0 M H ((d,gv (gb c b) v)::E) Γ R (wpList P l.toArray Q rest)):At N w0 M H E Γ R (wpList P l.toArray Q (⟨some d,op,T,ps,af,some (i,c)⟩::rest)):=by
  intro a w hE hC;have hyd:=hE.yield hi ht;unfold wpList;cases hg:gb c b with
  | true=>
    have hbc:b=c:=by cases b<;>cases c<;>simp_all [gb]
    rw [if_pos (by simp [Region.wanted,hyd,hbc])];left;unfold Oper.wp;rw [h hg _ _ _ a w (hE.gs hg hgs) hC _ _];rw [hg]at k;exact k _ _ (hE.put hd v) hC
  | false=>
    have hbc:b≠c:=by cases b<;>cases c<;>simp_all [gb]
    rw [if_neg (by simp [Region.wanted,hyd,hbc])];rw [hg]at k;exact k _ _ (hE.put hd undef) hC
theorem ax{b c:Bool}:(bif b then gv (gb true b) (.bool c)else .bool false)= .bool (b&&c):=by cases b<;>rfl
theorem aC{b c:Bool}:(bif b then .bool true else gv (gb false b) (.bool c))= .bool (b || c):=by cases b<;>rfl
theorem ac{x:Operand}{v:Value}(hx:ev E x=some v):PR P N w0 M H E Γ R (.move x) v:=fun _ _ _ a w hE _ _ _=>by simp [execOp,hE.ev hx]
theorem ag{x:Operand}{v:Value}(hx:ev E x=some v):PR P N w0 M H E Γ R (.assign x) v:=fun _ _ _ a w hE _ _ _=>by simp [execOp,hE.ev hx]
theorem aM{c x y:Operand}{b:Bool}{u v z:Value}(hc:ev E c=some (.bool b))(hx:ev E x=some u)(hy:ev E y=some v)(hz:(bif b then u else v)=z):PR P N w0 M H E Γ R (.pick c x y) z:=fun _ _ _ a w hE _ _ _=>by
  subst hz;simp only [execOp,hE.ev hc,hE.ev hx,hE.ev hy,asBool];cases b<;>rfl
theorem am{o:BinOp}{S S':TypeId}{x y:Operand}{u v z:Value}(hx:ev E x=some u)(hy:ev E y=some v)(hb:dM P o S u v z):PR P N w0 M H E Γ R (.binOp o S x y S') z:=fun _ _ _ a w hE _ _ _=>by
  have:=hb x y w;simp only [execOp,hE.ev hx,hE.ev hy,Sem.run_bind]at this ⊢;rw [this];rfl
theorem bZ{S:TypeId}{x:Operand}{b:Bool}(hx:ev E x=some (.bool b)):PR P N w0 M H E Γ R (.unOp .not S x) (.bool (!b)):=fun _ _ _ a w hE _ _ _=>by simp [execOp,hE.ev hx,Op.unary]
theorem MN{S:TypeId}{x:Operand}{k:IntKind}{n c:Int}(hx:ev E x=some (.int k n))(hc:k.wrap (-n)=c):PR P N w0 M H E Γ R (.unOp .neg S x) (.int k c):=fun _ _ _ a w hE _ _ _=>by simp [execOp,hE.ev hx,Op.unary,Op.intArith,hc]
theorem bP{S D:TypeId}{x:Operand}{k k':IntKind}{n c:Int}{D':TypeDesc}(hS:P.underlying S=some D')(hD:P.underlying D=some (.int k'))(hx:ev E x=some (.int k n))(hc:k'.wrap n=c):PR P N w0 M H E Γ R (.convert S D x) (.int k' c):=
  fun _ _ _ a w hE _ _ _=>by simp [execOp,hE.ev hx,convert,run_underlying hS,run_underlying hD,Conv.intToInt,hc]
theorem ah{S:TypeId}{i off:Nat}{x:Operand}{b:Nat}(hf:FO P S i off)(hx:ev E x=some (.pointer (some ⟨b,0,none⟩))):PR P N w0 M H E Γ R (.fieldAddr S x i) (.pointer (some ⟨b,off,none⟩)):=fun _ _ _ a w hE _ _ _=>by simp [execOp,hE.ev hx,hf.run]
theorem dj{S:TypeId}{i off:Nat}{x:Operand}{b o:Nat}(hf:FO P S i off)(hx:ev E x=some (.pointer (some ⟨b,o,none⟩))):PR P N w0 M H E Γ R (.fieldAddr S x i) (.pointer (some ⟨b,o+off,none⟩)):=fun _ _ _ a w hE _ _ _=>by simp [execOp,hE.ev hx,hf.run]
theorem cG{S U:TypeId}{D:TypeDesc}{z:Value}{s bb n b o j:Nat}{x y:Operand}{k:IntKind}{i:Int}(hS:P.underlying S=some (.array n U))(hU:TI P U D z s bb)(hx:ev E x=some (.pointer (some ⟨b,o,none⟩)))(hy:ev E y=some (.int k i))(hi:i=(j:Int))(hj:j<n):
    PR P N w0 M H E Γ R (.indexAddr S x y) (.pointer (some ⟨b,o+j*s,none⟩)):=
  fun _ _ _ a w hE _ _ _=>by subst hi;simp [execOp,hE.ev hx,hE.ev hy,Instr.indexAt,asIntOf,run_underlying hS,Instr.sureAddr,hU.sizeOf,cC,hj]
theorem ik{S U:TypeId}{D:TypeDesc}{z:Value}{bb n b j:Nat}{x y:Operand}{k:IntKind}{i:Int}(hS:P.underlying S=some (.array n U))(hU:TI P U D z 1 bb)(hx:ev E x=some (.pointer (some ⟨b,0,none⟩)))(hy:ev E y=some (.int k i))(hi:i=(j:Int))(hj:j<n):
    PR P N w0 M H E Γ R (.indexAddr S x y) (.pointer (some ⟨b,j,none⟩)):=
  fun _ _ _ a w hE _ _ _=>by subst hi;simp [execOp,hE.ev hx,hE.ev hy,Instr.indexAt,asIntOf,run_underlying hS,Instr.sureAddr,hU.sizeOf,cC,hj]
theorem aN{α:Type}{S U:TypeId}{D:TypeDesc}{z:Value}{s bb j:Nat}{x y:Operand}{k:IntKind}{i:Int}{enc:α→List Value}{v:Value}{l:List α}(hS:P.underlying S=some (.slice U))(hU:TI P U D z s bb)(hx:ev E x=some v)(hy:ev E y=some (.int k i))(hs:HasSl Γ R s enc v l)(hi:i=(j:Int))(hj:j<l.length):
    PR P N w0 M H E Γ R (.indexAddr S x y) (.pointer (some ⟨ig v,jp v+j*s,none⟩)):=fun _ _ _ a w hE hC _ _=>by
  obtain⟨G,c,h1,h2,h3⟩:=hs.ok hC;rcases h3 with⟨rfl,_⟩|⟨b,o,rfl,_,_⟩
  · simp at hj
  · subst hi;simp [execOp,hE.ev hx,hE.ev hy,Instr.indexAt,asIntOf,run_underlying hS,hU.sizeOf,cC,hj,ig,jp]
theorem ak{S:TypeId}{D:TypeDesc}{z:Value}{s bb:Nat}{x:Operand}{b o:Nat}{u:Value}(ht:TI P S D z s bb)(hag:ux D=false)(hx:ev E x=some (.pointer (some ⟨b,o,none⟩)))(hg:Gives w0 M H Γ R b o [u]):PR P N w0 M H E Γ R (.load S x) u:=
  fun _ _ _ a w hE hC _ _=>by
    have:=hg w hC 0 u J;simp only [Nat.add_zero]at this;simp [execOp,hE.ev hx,Instr.loadAt,Instr.sureAddr,loadVar,ht.isAgg,hag,this]
theorem aJ{S:TypeId}{D:TypeDesc}{z:Value}{s bb:Nat}{x:Operand}{b o:Nat}{us:List Value}(ht:TI P S D z s bb)(hag:ux D=true)(hx:ev E x=some (.pointer (some ⟨b,o,none⟩)))(hn:us.length=s)(hg:Gives w0 M H Γ R b o us):PR P N w0 M H E Γ R (.load S x) (.agg us.toArray):=
  fun _ _ _ a w hE hC _ _=>by
    have:=hg.cells (P:=P) hC;rw [hn]at this;simp [execOp,hE.ev hx,Instr.loadAt,Instr.sureAddr,loadVar,ht.isAgg,hag,ht.sizeOf,this]
theorem aO{α:Type}{S U:TypeId}{s:Nat}{x:Operand}{enc:α→List Value}{v:Value}{l:List α}(hS:P.underlying S=some (.slice U))(hx:ev E x=some v)(hs:HasSl Γ R s enc v l):PR P N w0 M H E Γ R (.call {callee:= .builtin .len,args:= #[x],argTypes:= #[S]}) (.int .i64 (l.length:Int)):=
  fun _ _ _ a w hE hC _ _=>by
    obtain⟨G,c,h1,h2,h3⟩:=hs.ok hC;rcases h3 with⟨rfl,_,rfl⟩|⟨b,o,rfl,_,_⟩
    · simp [execOp,resolve,invoke,builtin,hE.ev hx,Builtin.len_,run_underlying hS,goInt]
    · simp [execOp,resolve,invoke,builtin,hE.ev hx,Builtin.len_,run_underlying hS,goInt]
theorem cd{S:TypeId}{x:Operand}{s:ByteArray}(hS:P.underlying S=some .string)(hx:ev E x=some (.string s)):PR P N w0 M H E Γ R (.call {callee:= .builtin .len,args:= #[x],argTypes:= #[S]}) (.int .i64 (s.size:Int)):=
  fun _ _ _ a w hE _ _ _=>by simp [execOp,resolve,invoke,builtin,hE.ev hx,Builtin.len_,run_underlying hS,goInt]
theorem vA{x y:Operand}{k:IntKind}{m n c:Int}{at_:Array TypeId}(hx:ev E x=some (.int k m))(hy:ev E y=some (.int k n))(hc:min m n=c):PR P N w0 M H E Γ R (.call {callee:= .builtin .min,args:= #[x,y],argTypes:=at_}) (.int k c):=
  fun _ _ _ a w hE _ _ _=>by
    have:(if n<m then n else m)=c:=by rw [←hc];split<;>omega
    simp [execOp,resolve,invoke,builtin,hE.ev hx,hE.ev hy,Builtin.min_,Builtin.min2,this]
theorem qa{x y:Operand}{k:IntKind}{m n c:Int}{at_:Array TypeId}(hx:ev E x=some (.int k m))(hy:ev E y=some (.int k n))(hc:max m n=c):PR P N w0 M H E Γ R (.call {callee:= .builtin .max,args:= #[x,y],argTypes:=at_}) (.int k c):=
  fun _ _ _ a w hE _ _ _=>by
    have:(if n>m then n else m)=c:=by rw [←hc];split<;>omega
    simp [execOp,resolve,invoke,builtin,hE.ev hx,hE.ev hy,Builtin.max_,Builtin.max2,this]
theorem mE{S U:TypeId}{D:TypeDesc}{z:Value}{i off s bb:Nat}{x:Operand}{cs:Array Value}{u:Value}(hf:FT P S i off U)(ht:TI P U D z s bb)(hx:ev E x=some (.agg cs))(hu:(bif ux D then some (.agg (cs.extract off (off+s)))else cs[off]?)=some u):PR P N w0 M H E Γ R (.field S x i) u:=
  fun _ _ _ a w hE _ _ _=>by
    obtain⟨fields,f,h1,h2,h3,h4⟩:=hf;subst h4;cases hag:ux D with
    | true=>rw [hag]at hu;simp at hu;simp [execOp,hE.ev hx,Instr.field,run_underlying h1,h2,asAgg,h3,A_ ht hag rfl,hu]
    | false=>rw [hag]at hu;simp at hu;simp [execOp,hE.ev hx,Instr.field,run_underlying h1,h2,asAgg,h3,i_ ht hag hu]
theorem d5{fn:Fn}{first cap:List Operand}{fs cs:List Value}(hf:evs E first=some fs)(hc:evs E cap=some cs):PR P N w0 M H E Γ R (.makeFunc fn first.toArray cap.toArray) (.func fn fs.toArray cs.toArray):=
  fun _ _ _ a w hE _ _ _=>by simp [execOp,Instr.makeFunc,hE.evs hf,hE.evs hc]
theorem bV{x:Operand}{i:Nat}{vs:List Value}{v:Value}(hx:ev E x=some (.tuple vs.toArray))(hv:vs[i]?=some v):PR P N w0 M H E Γ R (.extract x i) v:=fun _ _ _ a w hE _ _ _=>by simp [execOp,hE.ev hx,Instr.extract,hv]
theorem aq{x:Operand}{A:Addr}(hx:ev E x=some (.pointer (some A))):PR P N w0 M H E Γ R (.nilCheck x) (.pointer (some A)):=fun _ _ _ a w hE _ _ _=>by simp [execOp,hE.ev hx]
theorem aP{S:TypeId}{D:TypeDesc}{z:Value}{s bb:Nat}{places:List (Nat×Nat)}{parts:List (Nat×Operand)}{vs:List (Nat×Value)}{cs:Array Value}(ht:TI P S D z s bb)(hp:PL P S places)(hv:evps E parts=some vs)(hf:Instr.fill (fun i=>places[i]?) z.cells vs=some cs):
    PR P N w0 M H E Γ R (.build S parts.toArray) (.agg cs):=fun _ _ _ a w hE _ _ _=>by
  obtain⟨fields,h1,h2⟩:=hp;obtain⟨i,h3,h4,_,_⟩:=ht.info;have hb:P.built S vs=some cs:=by
    simp only [Program.built,h3,h1,h4,h2];simpa using hf
  have:=run_build (P:=P) w S vs.toArray cs (by simpa using hb);have hev:=hE.evps hv;simp [execOp,hev,this]
theorem Db{S U:TypeId}{D DU:TypeDesc}{z zu:Value}{n s bb su bu:Nat}{parts:List (Nat×Operand)}{vs:List (Nat×Value)}{cs:Array Value}(ht:TI P S (.array n U) z s bb)(hU:TI P U DU zu su bu)(hv:evps E parts=some vs)(hf:Instr.fill (fun i=>some (i*su,su)) z.cells vs=some cs):
    PR P N w0 M H E Γ R (.build S parts.toArray) (.agg cs):=fun _ _ _ a w hE _ _ _=>by
  obtain⟨i,h3,h4,_,_⟩:=ht.info;obtain⟨iu,h5,h6,h7,_⟩:=hU.info;have hb:P.built S vs=some cs:=by
    simp only [Program.built,h3,ht.und,h4,h5,h7];exact hf
  have:=run_build (P:=P) w S vs.toArray cs (by simpa using hb);have hev:=hE.evps hv;simp [execOp,hev,this]
end
theorem aU{n:Int}(h1: -9223372036854775808≤n)(h2:n≤9223372036854775807):IntKind.i64.wrap n=n:=by rw [IntKind.wrap_i64];omega
theorem bC{n:Int}(h1:0≤n)(h2:n<4294967296):IntKind.u32.wrap n=n:=by simp [IntKind.wrap,IntKind.signed,IntKind.bits];omega
theorem Cd{n:Int}(h1:0≤n)(h2:n<256):IntKind.u8.wrap n=n:=by simp [IntKind.wrap,IntKind.signed,IntKind.bits];omega
theorem yZ{n:Int}(h1:0≤n)(h2:n<18446744073709551616):IntKind.u64.wrap n=n:=by simp [IntKind.wrap,IntKind.signed,IntKind.bits];omega
theorem Ce{n:Int}(h1: -2147483648≤n)(h2:n<2147483648):IntKind.i32.wrap n=n:=by simp [IntKind.wrap,IntKind.signed,IntKind.bits];omega
theorem kc{a b:Int}(h:0≤a):a.tmod b=a%b:=Int.tmod_eq_emod_of_nonneg h
def eI:Int→List Value:=fun n=> [.int .i64 n]
def eS:ByteArray→List Value:=fun s=> [.string s]
section
variable{P:Program}{N:Nat}{w0:World}{M H:Nat→Prop}{E:el}{Γ R:dQ}{Q:Exit→Act→World→Prop}
variable{ops:Array Oper}{rest:List Oper}{T:TypeId}{ps:String}{af:Array Edge}{d:Nat}{op:Op}
theorem aR{k b:Nat}{S:TypeId}{c:List Value}(hk:bL Γ k=some (aY b S c)):Gives w0 M H Γ R b 0 c:=jd hk (by simp)
theorem bN{S:TypeId}{x:Operand}{c:List Value}(hx:ev E x=some (.agg c.toArray))(hd:Nat.blt d N=true)
    (k:∀b,At N w0 M H ((d,.pointer (some ⟨b,0,none⟩))::E) ((d,aY b S c)::Γ) R (wpList P ops Q rest)):At N w0 M H E Γ R (wpList P ops Q (⟨some d,.box S x,T,ps,af,none⟩::rest)):=
  Il hx (by simp [Value.cells]) hd k
theorem tA{S:TypeId}{x:Operand}{u:Value}(hx:ev E x=some u)(h1:u.oneCell'=true)(hd:Nat.blt d N=true)
    (k:∀b,At N w0 M H ((d,.pointer (some ⟨b,0,none⟩))::E) ((d,aY b S [u])::Γ) R (wpList P ops Q rest)):At N w0 M H E Γ R (wpList P ops Q (⟨some d,.box S x,T,ps,af,none⟩::rest)):=
  Il hx (by cases u<;>first|rfl|simp [Value.oneCell']at h1) hd k
theorem av{S S':TypeId}{D:TypeDesc}{z:Value}{s bb:Nat}{x y:Operand}{b:Nat}{k:Nat}{c us:List Value}(ht:TI P S D z s bb)(hx:ev E x=some (.pointer (some ⟨b,0,none⟩)))(hy:ev E y=some (.agg us.toArray))
    (hs:us.length=s) (h1:us.all (·.oneCell')=true) (hk:bL Γ k=some (aY b S' c)) (hc:c.length=s)
    (kk:At N w0 M H E ((k,aY b S' us)::Γ) R (wpList P ops Q rest)):At N w0 M H E Γ R (wpList P ops Q (⟨none,.store S x y,T,ps,af,none⟩::rest)):=
  aI (us:=us) ht hx hy (by simp [Value.cells]) hs h1 hk (by rw [hs,hc];simp) (by rw [hs,←hc];simp) kk
theorem ch{l:List Oper}{rest:List Oper}{i t:Nat}{c b g:Bool}{v:Value}(Eg E2:el)(hi:kx l i=some t)(ht:dK E t=some (gv g (.bool b)))(hgs:GS E (g&&gb c b) Eg)(hgs2:GS E g E2)(h:g=true→gb c b=true→PR P N w0 M H (E2++(Eg++E)) Γ R op v)(hd:Nat.blt d N=true)
    (k:At N w0 M H ((d,gv (g&&gb c b) v)::E) Γ R (wpList P l.toArray Q rest)):At N w0 M H E Γ R (wpList P l.toArray Q (⟨some d,op,T,ps,af,some (i,c)⟩::rest)):=by
  intro a w hE hC;have hyd:yielded l.toArray a.tmps i=bif g then some b else none:=by
    unfold yielded;have:(l.toArray[i]?).bind (·.dst)=some t:=by simpa [kx]using hi
    rw [this];cases g<;>simp [hE.slot t _ ht,gv,undef]
  unfold wpList;cases hg:(g&&gb c b)with
  | true=>
    have hg1:g=true∧gb c b=true:=by simpa using hg
    obtain⟨hg1,hg2⟩:=hg1;have hbc:b=c:=by cases b<;>cases c<;>simp_all [gb]
    rw [if_pos (by simp [Region.wanted,hyd,hg1,hbc])];left;unfold Oper.wp;have hE':=hE.gs hg hgs;have hgs2':GS (Eg++E) g E2→EOk N (E2++(Eg++E)) a:=fun h2=>hE'.gs hg1 h2
    have:EOk N (E2++(Eg++E)) a:=by
      have h2:=hE.gs hg1 hgs2;refine⟨hE.defers,hE.size,fun s v hv=> ?_⟩;have key:∀(A B:el)(s:Nat)(v:Value),dK (A++B) s=some v→dK A s=some v∨dK B s=some v:=by
        intro A
        induction A with
        | nil=>intro B s v h;exact .inr h
        | cons p A ih=>
          intro B s v h;obtain⟨j,u⟩:=p;simp only [List.cons_append,dK]at h ⊢;cases hb:Nat.beq j s with
          | true=>rw [hb]at h;exact .inl (by simpa using h)
          | false=>rw [hb]at h;simpa using ih B s v h
      rcases key _ _ s v hv with h3|h3
      · have:∀(A B:el)(s:Nat)(v:Value),dK A s=some v→dK (A++B) s=some v:=by
          intro A
          induction A with
          | nil=>intro B s v h;cases h
          | cons p A ih=>
            intro B s v h;obtain⟨j,u⟩:=p;simp only [List.cons_append,dK]at h ⊢;cases hb:Nat.beq j s with
            | true=>rw [hb]at h;simpa using h
            | false=>rw [hb]at h;simpa using ih B s v h
        exact h2.slot s v (this _ _ s v h3)
      · exact hE'.slot s v h3
    rw [h hg1 hg2 _ _ _ a w this hC _ _];rw [hg]at k;exact k _ _ (hE.put hd v) hC
  | false=>
    have:Region.wanted (⟨some d,op,T,ps,af,some (i,c)⟩:Oper) (yielded l.toArray a.tmps)=false:=by
      cases g<;>cases b<;>cases c<;>simp_all [gb,Region.wanted]
    rw [if_neg (by rw [this];simp)];rw [hg]at k;exact k _ _ (hE.put hd undef) hC
theorem co{b c g:Bool}(hg:g=true):(bif b then gv (g&&gb true b) (.bool c)else .bool false)= .bool (b&&c):=by subst hg;cases b<;>rfl
theorem cO{b c g:Bool}(hg:g=true):(bif b then .bool true else gv (g&&gb false b) (.bool c))= .bool (b || c):=by subst hg;cases b<;>rfl
theorem bv{α:Type}{s:Nat}{enc:α→List Value}{v:Value}{l:List α}(h:HasSl Γ R s enc v l)(he:∀x,(enc x).length=s){i:Nat}{x:α}(hx:l[i]?=some x){us:List Value}(hu:enc x=us):Gives w0 M H Γ R (ig v) (jp v+i*s) us:=hu▸Qx h he hx
end
end Go.Proofs.YtedmdgbmdplifaaGreat
namespace Go.Proofs.YtedmdgbmdplifaaGreat
set_option linter.unusedSimpArgs false
set_option linter.unusedVariables false
open Go.ChangeShapes Go.WideShapes Go.ChangeAt Go.RowKit
section
variable{H:Type}{enc:TypeId×Value→H}{P:Program}
theorem Kx{w:World}{r:Reach}{b0:Nat}{a:Addr}{e:TypeId}{n:Nat}(h:w.has P r b0 a e n):a.spot=none∧a.block<w.heap.size:=by
 obtain⟨-,h1,aY,cells,h2,-⟩:=h;refine⟨h1,?_⟩;unfold World.shape? at h2;rcases Nat.lt_or_ge a.block w.heap.size with hl|hl
 ·exact hl
 ·rw [Array.getElem?_eq_none hl]at h2;simp at h2
theorem Spec.law{n:Nat}{vs:List Value}{R0:List Asn}{X:Type}{φ:X→Prop}{v:X→Value}{L' R':X→List Asn}(h:Spec P n vs [] R0 φ v L' R')(w:World)(hR:∀A∈R0,∃G:Nat→Prop,A.pred w G∧∀b,G b→b<w.heap.size):
  Calls P n vs.toArray w fun e w'=>∃x,φ x∧e= .returned (v x)∧Below w.heap.size w w':=by
 refine(h w (fun _=>False) (fun _=>True) ⟨fun _ _=>False,Touch.refl _ _,fun i A hi=>by simp at hi,fun _ _ h=>h.elim,fun _ _ h=>h.elim,fun _ _ _ h=>h.elim,fun i A hi=> ?_⟩).mono ?_
 ·obtain⟨G,h1,h2⟩:=hR A (List.mem_of_getElem? hi);exact⟨G,h1,fun b hb=>⟨h2 b hb,fun _ h=>h,fun _=> .inr trivial⟩⟩
 ·rintro e w' ⟨x,h1,h2,F,hF⟩;exact⟨x,h1,h2,hF.touch.below⟩
end
end Go.Proofs.YtedmdgbmdplifaaGreat
namespace Go.Proofs.YtedmdgbmdplifaaGreat
set_option linter.unusedSimpArgs false
set_option linter.unusedVariables false
open Go.RowKit
/-! ### Orders -/
def d9(o:Oper):List Nat:=(o.after.toList.filter (Region.binds .any)).map (·.on)
inductive Ord(ops:List Oper):(Nat→Bool)→List Nat→Prop
 | nil {D:Nat→Bool} (h:∀i,i<ops.length→D i=true):Ord ops D []
 | cons {D:Nat→Bool} {i:Nat} {o:Oper} {l:List Nat} (ho:ops[i]?=some o) (hD:D i=false) (hp:∀j∈d9 o,D j=true) (h:Ord ops (fun j=>bif Nat.beq j i then true else D j) l):Ord ops D (i::l)
def AX:Nat→List Oper→Bool
 | _,[]=>true
 | i,o::l=>o.after.toList.all (fun e=>Nat.blt e.on i)&&AX (i+1) l
theorem uM:∀{l:List Oper}{k i:Nat}{o:Oper},AX k l=true→l[i]?=some o→∀e∈o.after.toList,e.on<k+i
 | [],_,_,_,_,h=>by simp at h
 | x::l,k,i,o,ht,h=>by
  simp only [AX,Bool.and_eq_true]at ht;cases i with
  | zero=>
   simp at h;subst h;intro e he;simpa using List.all_eq_true.1 ht.1 e he
  | succ i=>
   intro e he;have:=uM ht.2 (by simpa using h) e he;omega
def Rk(m:Region.Mode)(rk:Nat→Nat)(l:List Oper):Prop:=∀(i:Nat)(o:Oper),l[i]?=some o→∀e∈o.after.toList,e.on<l.length∧(Region.binds m e=true→rk e.on<rk i)
theorem y8{l:List Oper}(m:Region.Mode)(h:AX 0 l=true):Rk m (fun i=>i) l:=fun i o ho e he=>by
 have h1:=uM (k:=0) h ho e he;have h2:=(List.getElem?_eq_some_iff.1 ho).1;exact⟨by omega,fun _=>by dsimp only;omega⟩
def pD(m:Region.Mode)(rk:List Nat)(l:List Oper):Bool:=
 (List.range l.length).all fun i=>match l[i]? with
  | some o=>o.after.toList.all fun e=>Nat.blt e.on l.length&&(!Region.binds m e || Nat.blt (rk.getD e.on 0) (rk.getD i 0))
  | none=>true
theorem pz{m:Region.Mode}{rk:List Nat}{l:List Oper}(h:pD m rk l=true):Rk m (fun i=>rk.getD i 0) l:=fun i o ho e he=>by
 have hi:=(List.getElem?_eq_some_iff.1 ho).1;have h1:=List.all_eq_true.1 h i (by simpa using hi);rw [ho]at h1;have h2:=List.all_eq_true.1 h1 e he;simp only [Bool.and_eq_true,Bool.or_eq_true]at h2;refine⟨by simpa using h2.1,fun hb=> ?_⟩;rcases h2.2 with h3|h3
 ·rw [hb]at h3;cases h3
 ·simpa using h3
theorem pZ{m:Region.Mode}{rk:Nat→Nat}{ops:Array Oper}{listed:Array Bool}(hs:listed.size=ops.size)(ht:Rk m rk ops.toList)(hx:∃i,i<ops.size∧listed.getD i true=false):
  ∃i,i<ops.size∧listed.getD i true=false∧((ops[i]?).map (·.after.all fun e=> !Region.binds m e || listed.getD e.on false)).getD false=true:=by
 have key:∀n i,rk i≤n→i<ops.size→listed.getD i true=false→∃j,j<ops.size∧listed.getD j true=false∧∀k,k<ops.size→rk k<rk j→listed.getD k true=true:=by
  intro n
  induction n with
  | zero=>
   intro i hi h1 h2;exact⟨i,h1,h2,fun k _ hk=>by omega⟩
  | succ n ih=>
   intro i hi h1 h2;by_cases hk:∃k,k<ops.size∧rk k<rk i∧listed.getD k true=false
   ·obtain⟨k,hk0,hk1,hk2⟩:=hk;exact ih k (by omega) hk0 hk2
   ·refine⟨i,h1,h2,fun k hk0 hk'=> ?_⟩;cases hb:listed.getD k true with
    | true=>rfl
    | false=>exact absurd ⟨k,hk0,hk',hb⟩ hk
 obtain⟨i,h1,h2⟩:=hx;obtain⟨j,h3,h4,h5⟩:=key (rk i) i (Nat.le_refl _) h1 h2;refine⟨j,h3,h4,?_⟩;rw [Array.getElem?_eq_getElem h3];simp only [Option.map_some,Option.getD_some];rw [Array.all_eq_true_iff_forall_mem];intro e he;obtain⟨h6,h7⟩:=ht j ops[j] (by simp [h3]) e (by simpa using he);cases hb:Region.binds m e with
 | false=>rfl
 | true=>
  have h8:=h5 e.on (by simpa using h6) (h7 hb);have h9:e.on<listed.size:=by rw [hs];simpa using h6
  simp [Array.getD,h9]at h8 ⊢;exact h8
theorem Ord.congr{ops:List Oper}:∀{l:List Nat}{D D':Nat→Bool}(_:∀i,i<ops.length→D i=D' i)(_:∀(i:Nat)(o:Oper),ops[i]?=some o→∀j∈d9 o,j<ops.length)(_:Ord ops D l),Ord ops D' l
 | [],D,D',he,_,h=>by
  cases h with
  | nil h=>exact .nil fun i hi=>by rw [←he i hi];exact h i hi
 | i::l,D,D',he,hp,h=>by
  cases h with
  | cons ho hD hpr hl=>
   have hi:i<ops.length:=(List.getElem?_eq_some_iff.1 ho).1;refine .cons ho (by rw [←he i hi];exact hD) (fun j hj=>by rw [←he j (hp i _ ho j hj)];exact hpr j hj) (Ord.congr (fun j hj=> ?_) hp hl);simp [he j hj]
def Lz(listed:Array Bool):Nat:=(listed.toList.filter (! ·)).length
theorem Fw{listed:Array Bool}{i:Nat}(hi:i<listed.size)(h:listed.getD i true=false):Lz (listed.setIfInBounds i true)+1=Lz listed:=by
 have key:∀(l:List Bool)(i:Nat),l[i]?=some false→((l.set i true).filter (! ·)).length+1=(l.filter (! ·)).length:=by
  intro l
  induction l with
  | nil=>intro i h;simp at h
  | cons b l ih=>
   intro i h;cases i with
   | zero=>simp at h;subst h;simp
   | succ i=>
    have:=ih i (by simpa using h);simp only [List.set_cons_succ];cases b<;>simp [List.filter_cons]at this ⊢ <;>omega
 unfold Lz;have h':listed.toList[i]?=some false:=by
  simp [Array.getD,hi]at h;simp [hi,h]
 simpa using key listed.toList i h'
theorem zH(m:Region.Mode)(rk:Nat→Nat)(ops:Array Oper)(ht:Rk m rk ops.toList):∀(fuel t:Nat)(listed:Array Bool)(acc:List Nat),listed.size=ops.size→Lz listed=fuel→
  ∃rest,Region.linearise.go m ops fuel t listed acc=acc.reverse++rest∧Ord ops.toList (fun i=>listed.getD i false) rest
 | 0,t,listed,acc,hs,hu=>by
  refine⟨[],by simp [Region.linearise.go],.nil fun i hi=> ?_⟩;have hi':i<listed.size:=by rw [hs];simpa using hi
  have:∀b∈listed.toList,b=true:=by
   intro b hb;have h0:listed.toList.filter (! ·)= []:=List.eq_nil_of_length_eq_zero hu;have:=List.filter_eq_nil_iff.1 h0 b hb;simpa using this
  simp [Array.getD,hi'];exact this _ (by simp)
 | fuel+1,t,listed,acc,hs,hu=>by
  have hx:∃i,i<ops.size∧listed.getD i true=false:=by
   have hne:listed.toList.filter (! ·)≠ []:=fun e=>by unfold Lz at hu;rw [e]at hu;simp at hu
   obtain⟨b,hb⟩:=List.exists_mem_of_ne_nil _ hne;obtain⟨hb1,hb2⟩:=List.mem_filter.1 hb;have:b=false:=by simpa using hb2
   subst this;obtain⟨i,hi,he⟩:=List.getElem_of_mem hb1;have hi':i<listed.size:=by simpa using hi
   refine⟨i,by omega,?_⟩;simp [Array.getD,hi'];simpa using he
  obtain⟨j,h1,h2,h3⟩:=pZ hs ht hx;rw [Region.linearise.go];generalize hrs:((List.range ops.size).filter fun i=> !listed.getD i true&&((ops[i]?).map (·.after.all fun e=> !Region.binds m e || listed.getD e.on false)).getD false)=rs;have hj:j∈rs:=by rw [←hrs];exact List.mem_filter.2 ⟨by simpa using h1,by simp only [h2,h3];rfl⟩
  have hpos:0<rs.length:=List.length_pos_of_mem hj;have hlt:t%rs.length<rs.length:=Nat.mod_lt _ hpos;simp only [List.getElem?_eq_getElem hlt];have hmem:rs[t%rs.length]∈rs:=List.getElem_mem hlt;generalize rs[t%rs.length]=i at hmem;rw [←hrs]at hmem;obtain⟨hi1,hi2⟩:=List.mem_filter.1 hmem;have hi:i<ops.size:=by simpa using hi1
  have hi':i<listed.size:=by omega
  simp only [Bool.and_eq_true,Bool.not_eq_true']at hi2;obtain⟨rest,hr1,hr2⟩:=zH m rk ops ht fuel (t/rs.length) (listed.setIfInBounds i true) (i::acc) (by simpa using hs) (by have:=Fw hi' hi2.1;omega);refine⟨i::rest,by rw [hr1];simp,.cons (o:=ops[i]) (by simp [hi]) ?_ ?_ ?_⟩
  ·have:=hi2.1;simp [Array.getD,hi']at this ⊢;exact this
  ·intro k hk;obtain⟨e,he,rfl⟩:=List.mem_map.1 hk;obtain⟨he1,he2⟩:=List.mem_filter.1 he;have h4:=hi2.2;rw [Array.getElem?_eq_getElem hi]at h4;simp only [Option.map_some,Option.getD_some]at h4;have h5:=Array.all_eq_true_iff_forall_mem.1 h4 e (by simpa using he1);have hb:Region.binds m e=true:=by
    unfold Region.binds at he2 ⊢;cases hg:e.ground<;>simp [hg]at he2 ⊢ <;>simp_all
   simpa [hb]using h5
  ·refine Ord.congr (fun k hk=> ?_) (fun i o ho k hk=> ?_) hr2
   ·have hk':k<listed.size:=by rw [hs];simpa using hk
    simp only [Array.getD,Array.size_setIfInBounds,hk',dite_true];cases hb:Nat.beq k i with
    | true=>have:=Nat.eq_of_beq_eq_true hb;subst this;simp
    | false=>
     have hne:i≠k:=fun e=>by subst e;simp at hb
     have h9:(listed.setIfInBounds i true)[k]?=listed[k]?:=by rw [Array.getElem?_setIfInBounds,if_neg hne]
     have h10:k<(listed.setIfInBounds i true).size:=by simpa using hk'
     rw [Array.getElem?_eq_getElem h10,Array.getElem?_eq_getElem hk']at h9;simpa using h9
   ·obtain⟨e,he,rfl⟩:=List.mem_map.1 hk;exact(ht i o ho e (List.mem_filter.1 he).1).1
theorem mO{m:Region.Mode}{rk:Nat→Nat}{l:List Oper}(ht:Rk m rk l)(t:Nat):Ord l (fun _=>false) (Region.linearise m l.toArray t):=by
 obtain⟨rest,h1,h2⟩:=zH m rk l.toArray (by simpa using ht) l.toArray.size t (Array.replicate l.toArray.size false) [] (by simp) (by
  have:∀n,((List.replicate n false).filter (! ·)).length=n:=by
   intro n
   induction n with
   | zero=>rfl
   | succ n ih=>simp
  simp [Lz])
 unfold Region.linearise;rw [h1];simp only [List.reverse_nil,List.nil_append];refine Ord.congr (fun i hi=> ?_) (fun i o ho k hk=> ?_) h2
 ·have hi':i<l.toArray.size:=by simpa using hi
  simp [Array.getD]
 ·obtain⟨e,he,rfl⟩:=List.mem_map.1 hk;have:=(ht i o (by simpa using ho) e (List.mem_filter.1 he).1).1;simpa using this
theorem A9(mixed:Bool)(l:List Oper)(ht:AX 0 l=true)(t:Nat):Ord l (fun _=>false) (Region.schedule mixed l.toArray t):=by
 unfold Region.schedule;split
 ·exact mO (y8 _ ht) _
 ·exact mO (y8 _ ht) _
theorem xo(mixed:Bool)(l:List Oper)(rt rg:List Nat)(h1:pD .any rt l=true)(h2:pD .text rt l=true)(h3:pD .gc rg l=true)(t:Nat):Ord l (fun _=>false) (Region.schedule mixed l.toArray t):=by
 unfold Region.schedule;split
 ·exact mO (pz h1) _
 ·split
  ·exact mO (pz h2) _
  ·exact mO (pz h3) _
/-! ### Stages -/
section
variable{P:Program}{N:Nat}{w0:World}{M H:Nat→Prop}{E:el}{Γ R:dQ}{Q:Exit→Act→World→Prop}
def yt(ds:List Nat):el→el
 | []=> []
 | (t,v)::r=>bif ds.any (Nat.beq t)then yt ds r else(t,v)::yt ds r
theorem qK{ds:List Nat}:∀{E:el}{t:Nat}{v:Value},dK (yt ds E) t=some v→dK E t=some v∧t∉ds
 | [],t,v,h=>by cases h
 | (s,u)::r,t,v,h=>by
  simp only [yt]at h;cases ha:ds.any (Nat.beq s)with
  | true=>
   rw [ha]at h;obtain⟨h1,h2⟩:=qK (E:=r) h;refine⟨?_,h2⟩;simp only [dK];cases hb:Nat.beq s t with
   | true=>
    have:=Nat.eq_of_beq_eq_true hb;subst this;obtain⟨x,hx,hxe⟩:=List.any_eq_true.1 ha;exact absurd (Nat.eq_of_beq_eq_true hxe▸hx) h2
   | false=>simpa using h1
  | false=>
   rw [ha]at h;simp only [cond_false,dK]at h ⊢;cases hb:Nat.beq s t with
   | true=>
    rw [hb]at h;have:=Nat.eq_of_beq_eq_true hb;subst this;refine⟨by simpa using h,fun hm=> ?_⟩;have:ds.any (Nat.beq s)=true:=List.any_eq_true.2 ⟨s,hm,by simp⟩;rw [this]at ha;cases ha
   | false=>rw [hb]at h;simpa using qK (E:=r) h
theorem EOk.del{a:Act}(h:EOk N E a)(ds:List Nat):EOk N (yt ds E) a:=⟨h.defers,h.size,fun t v hv=>h.slot t v (qK hv).1⟩
abbrev dg:=List (Nat×Nat×Value)
def fo:dg→List Nat
 | []=> []
 | (_,d,_)::r=>d::fo r
def dR:dg→List Nat
 | []=> []
 | (i,_,_)::r=>i::dR r
def AW:dg→el
 | []=> []
 | (_,d,v)::r=>(d,v)::AW r
def vpre(js:List Nat):dg→el
 | []=> []
 | (i,d,v)::r=>bif js.any (Nat.beq i)then(d,v)::vpre js r else vpre js r
theorem EOk.vals{a:Act}:∀{V:dg}(_:EOk N E a)(_:∀i d v,(i,d,v)∈V→a.tmps[d]?=some v),EOk N (AW V++E) a
 | [],h,_=>h
 | (i,d,v)::r,h,hv=>by
  have ih:=EOk.vals (V:=r) h fun i d v hm=>hv i d v (by simp [hm])
  refine⟨h.defers,h.size,fun t u ht=> ?_⟩;simp only [AW,List.cons_append,dK]at ht;cases hb:Nat.beq d t with
  | true=>
   rw [hb]at ht;simp at ht;subst ht;rw [←Nat.eq_of_beq_eq_true hb];exact hv i d v (by simp)
  | false=>rw [hb]at ht;exact ih.slot t u ht
theorem EOk.vpre{a:Act}{js:List Nat}:∀{V:dg}(_:EOk N E a)(_:∀i d v,(i,d,v)∈V→i∈js→a.tmps[d]?=some v),EOk N (YtedmdgbmdplifaaGreat.vpre js V++E) a
 | [],h,_=>h
 | (i,d,v)::r,h,hv=>by
  have ih:=EOk.vpre (V:=r) h fun i d v hm=>hv i d v (by simp [hm])
  simp only [YtedmdgbmdplifaaGreat.vpre];cases ha:js.any (Nat.beq i)with
  | false=>exact ih
  | true=>
   obtain⟨x,hx,hxe⟩:=List.any_eq_true.1 ha;have hij:i∈js:=Nat.eq_of_beq_eq_true hxe▸hx;refine⟨h.defers,h.size,fun t u ht=> ?_⟩;simp only [cond_true,List.cons_append,dK]at ht;cases hb:Nat.beq d t with
   | true=>
    rw [hb]at ht;simp at ht;subst ht;rw [←Nat.eq_of_beq_eq_true hb];exact hv i d v (by simp) hij
   | false=>rw [hb]at ht;exact ih.slot t u ht
def LQ(P:Program)(N:Nat)(w0:World)(M H:Nat→Prop)(E:el)(Γ R:dQ)(l:List Oper)(V:dg)(i d:Nat)(v:Value):Prop:=
 ∃o,l[i]?=some o∧o.dst=some d∧∀a w,EOk N (vpre (d9 o) V++E) a→COk w0 M H Γ R w→(Region.wanted o (yielded l.toArray a.tmps)=true∧(execOp a.eval o).run P w= .ok (.value v) w)∨(Region.wanted o (yielded l.toArray a.tmps)=false∧v=undef)
def PRs(P:Program)(N:Nat)(w0:World)(M H:Nat→Prop)(E:el)(Γ R:dQ)(l:List Oper)(V:dg):List (Nat×Nat×Value)→Prop
 | []=>True
 | (i,d,v)::r=>LQ P N w0 M H E Γ R l V i d v∧PRs P N w0 M H E Γ R l V r
theorem PRs.get{l:List Oper}{V:dg}:∀{I:dg},PRs P N w0 M H E Γ R l V I→∀i d v,(i,d,v)∈I→LQ P N w0 M H E Γ R l V i d v
 | [],_,i,d,v,h=>by simp at h
 | (i',d',v')::I,hp,i,d,v,h=>by
  rcases List.mem_cons.1 h with e|e
  ·cases e;exact hp.1
  ·exact hp.2.get i d v e
def MS(P:Program)(N:Nat)(w0:World)(M H:Nat→Prop)(E:el)(Γ R:dQ)(o:Oper){X:Type}(φ:X→Prop)(v:X→Value)(Γ' R':X→dQ):Prop:=
 ∀a w,EOk N E a→COk w0 M H Γ R w→∀(next:Act→World→Prop)(Q:Exit→Act→World→Prop),(∀x w',φ x→COk w0 M H (Γ' x) (R' x) w'→next (a.put o.dst (v x)) w')→o.wp P a w next Q
theorem gI{o:Oper}{X:Type}{φ:X→Prop}{v:X→Value}{Γ' R':X→dQ}(hrun:∀a w,EOk N E a→COk w0 M H Γ R w→∃x w',φ x∧(execOp a.eval o).run P w= .ok (.value (v x)) w'∧COk w0 M H (Γ' x) (R' x) w'):MS P N w0 M H E Γ R o φ v Γ' R':=by
 intro a w hE hC next Q hn
 obtain⟨x,w',h1,h2,h3⟩:=hrun a w hE hC;unfold Oper.wp;rw [h2];exact hn x w' h1 h3
theorem xD{X:Type}{φ:X→Prop}{v:X→Value}{Γ' R':X→dQ}{ops:Array Oper}{rest:List Oper}{T:TypeId}{ps:String}{af:Array Edge}{d:Nat}{op:Op}(h:MS P N w0 M H E Γ R ⟨some d,op,T,ps,af,none⟩ φ v Γ' R')(hd:Nat.blt d N=true)
  (k:∀x,φ x→At N w0 M H ((d,v x)::E) (Γ' x) (R' x) (wpList P ops Q rest)):At N w0 M H E Γ R (wpList P ops Q (⟨some d,op,T,ps,af,none⟩::rest)):=by
 intro a w hE hC;unfold wpList;rw [if_pos (by simp [Region.wanted])];left;exact h a w hE hC _ _ fun x w' h1 h2=>k x h1 _ _ (hE.put hd _) h2
structure StI(N:Nat)(w0:World)(M H:Nat→Prop)(E:el)(Γ R:dQ)(l:List Oper)(V:dg)(C:List Nat)(D:Nat→Bool)(a:Act)(w:World):Prop where
 done:∀i,D i=true→i∈dR V++C
 sure:∀i∈C,D i=true
 closed:∀(i:Nat)(o:Oper),l[i]?=some o→D i=true→∀j∈d9 o,D j=true
 base:EOk N E a
 vals:∀i d v,(i,d,v)∈V→D i=true→a.tmps[d]?=some v
 ok:COk w0 M H Γ R w
def Fa(P:Program)(N:Nat)(w0:World)(M H:Nat→Prop)(E:el)(Γ R:dQ)(l:List Oper)(Q:Exit→Act→World→Prop)(V:dg)(C:List Nat):Prop:=
 ∀ord D a w,Ord l D ord→StI N w0 M H E Γ R l V C D a w→wpOps P l.toArray Q ord a w
theorem eD:∀{V:dg}{i:Nat},i∈dR V↔∃d v,(i,d,v)∈V
 | [],i=>by simp [dR]
 | (j,d,v)::r,i=>by
  simp only [dR,List.mem_cons,eD (V:=r)];constructor
  ·rintro (rfl|⟨d',v',h⟩)
   ·exact⟨d,v,.inl J⟩
   ·exact⟨d',v',.inr h⟩
  ·rintro ⟨d',v',h|h⟩
   ·cases h;exact .inl J
   ·exact .inr ⟨d',v',h⟩
theorem fK:∀{V:dg}{i d:Nat}{v:Value},(i,d,v)∈V→d∈fo V
 | [],_,_,_,h=>by simp at h
 | (j,d',v')::r,i,d,v,h=>by
  rcases List.mem_cons.1 h with e|e
  ·cases e;simp [fo]
  ·simp [fo,fK e]
theorem pu:∀{V:dg},(fo V).Nodup→∀{i j d:Nat}{v u:Value},(i,d,v)∈V→(j,d,u)∈V→i=j∧v=u
 | [],_,_,_,_,_,_,h,_=>by simp at h
 | (k,e,x)::r,hn,i,j,d,v,u,h1,h2=>by
  have hn':=List.nodup_cons.1 (show(e::fo r).Nodup from hn);rcases List.mem_cons.1 h1 with e1|e1<;>rcases List.mem_cons.1 h2 with e2|e2
  ·cases e1;cases e2;exact⟨J,J⟩
  ·cases e1;exact absurd (fK e2) hn'.1
  ·cases e2;exact absurd (fK e1) hn'.1
  ·exact pu hn'.2 e1 e2
theorem uJ:∀{V:dg},(dR V).Nodup→∀{i d e:Nat}{v u:Value},(i,d,v)∈V→(i,e,u)∈V→d=e∧v=u
 | [],_,_,_,_,_,_,h,_=>by simp at h
 | (k,f,x)::r,hn,i,d,e,v,u,h1,h2=>by
  have hn':=List.nodup_cons.1 (show(k::dR r).Nodup from hn);rcases List.mem_cons.1 h1 with e1|e1<;>rcases List.mem_cons.1 h2 with e2|e2
  ·cases e1;cases e2;exact⟨J,J⟩
  ·cases e1;exact absurd (eD.2 ⟨_,_,e2⟩) hn'.1
  ·cases e2;exact absurd (eD.2 ⟨_,_,e1⟩) hn'.1
  ·exact uJ hn'.2 e1 e2
theorem uQ{l:List Oper}{V:dg}(hsl:(fo V).Nodup)(hix:(dR V).Nodup)(hE0:∀d∈fo V,∀v,dK E d≠some v)(hN:∀d∈fo V,d<N){i d:Nat}{v:Value}(hm:(i,d,v)∈V)(hp:LQ P N w0 M H E Γ R l V i d v)
  {ord:List Nat} {D:Nat→Bool} {a:Act} {w:World} {o:Oper} (ho:l[i]?=some o) (hpr:∀j∈d9 o,D j=true) {C:List Nat} (hS:StI N w0 M H E Γ R l V C D a w)
  (ih:∀a,StI N w0 M H E Γ R l V C (fun j=>bif Nat.beq j i then true else D j) a w→wpOps P l.toArray Q ord a w):wpOps P l.toArray Q (i::ord) a w:=by
 obtain⟨o',h1,h2,h3⟩:=hp;rw [ho]at h1;injection h1 with h1;subst h1;have hEp:EOk N (vpre (d9 o) V++E) a:=hS.base.vpre fun j d v hj hjp=>hS.vals j d v hj (hpr j hjp)
 have hlt:d<a.tmps.size:=Nat.lt_of_lt_of_le (hN d (fK hm)) hS.base.size;have hnext:StI N w0 M H E Γ R l V C (fun j=>bif Nat.beq j i then true else D j) (a.put (some d) v) w:=by
  refine⟨fun j hj=> ?_,fun j hj=>by simp [hS.sure j hj],fun j o' ho' hj k hk=> ?_,⟨hS.base.defers,by simpa [Act.put]using hS.base.size,fun t u ht=> ?_⟩,fun j e u hj hjD=> ?_,hS.ok⟩
  ·cases hb:Nat.beq j i with
   | true=>rw [Nat.eq_of_beq_eq_true hb];exact List.mem_append_left _ (eD.2 ⟨d,v,hm⟩)
   | false=>rw [hb]at hj;exact hS.done j hj
  ·cases hb:Nat.beq j i with
   | true=>
    have:=Nat.eq_of_beq_eq_true hb;subst this;rw [ho]at ho';injection ho' with ho';subst ho';simp [hpr k hk]
   | false=>rw [hb]at hj;simp [hS.closed j o' ho' hj k hk]
  ·simp only [Act.put,Array.getElem?_setIfInBounds];have hne:d≠t:=fun e=>hE0 d (fK hm) u (e▸ht)
   rw [if_neg hne];exact hS.base.slot t u ht
  ·simp only [Act.put,Array.getElem?_setIfInBounds];by_cases hde:d=e
   ·subst hde;obtain⟨_,rfl⟩:=pu hsl hm hj;simp [hlt]
   ·rw [if_neg hde];cases hb:Nat.beq j i with
    | true=>
     have:=Nat.eq_of_beq_eq_true hb;subst this;exact absurd (uJ hix hm hj).1 hde
    | false=>rw [hb]at hjD;exact hS.vals j e u hj hjD
 have ho':l.toArray[i]?=some o:=by simpa using ho
 simp only [wpOps,ho'];rcases h3 a w hEp hS.ok with⟨hw,hr⟩|⟨hw,rfl⟩
 ·rw [if_pos hw];left;unfold Oper.wp;rw [hr];show wpOps P l.toArray Q ord (a.put o.dst v) w;rw [h2];exact ih _ hnext
 ·rw [if_neg (by rw [hw];simp),h2];exact ih _ hnext
def uR(N:Nat)(E:el)(V:dg):Bool:=uC (fo V)&&uC (dR V)&&(fo V).all (fun d=>Nat.blt d N&&(match dK E d with|none=>true|some _=>false))
def wt(l:List Oper)(I:List Nat)(c:Option Nat):Bool:=
 (List.range l.length).all fun i=>I.any (Nat.beq i) || (match c with|some k=>Nat.beq i k|none=>false) || (match l[i]? with|some o=>(d9 o).any (fun j=> !(I.any (Nat.beq j)))|none=>true)
def ib(is:List Nat):dg→dg
 | []=> []
 | (i,d,v)::r=>bif is.any (Nat.beq i)then(i,d,v)::ib is r else ib is r
theorem kF{is:List Nat}:∀{V:dg}{p:Nat×Nat×Value},p∈ib is V→p∈V
 | [],p,h=>by simp [ib]at h
 | (i,d,v)::r,p,h=>by
  simp only [ib]at h;cases ha:is.any (Nat.beq i)with
  | true=>
   rw [ha]at h;rcases List.mem_cons.1 h with e|e
   ·simp [e]
   ·simp [kF e]
  | false=>rw [ha]at h;simp [kF h]
theorem nt{is:List Nat}:∀{V:dg}{i:Nat},i∈dR V→i∈is→∃d v,(i,d,v)∈ib is V
 | [],i,h,_=>by simp [dR]at h
 | (j,d,v)::r,i,h,hi=>by
  simp only [ib];rcases List.mem_cons.1 (show i∈j::dR r from h)with e|e
  ·subst e;have:is.any (Nat.beq i)=true:=List.any_eq_true.2 ⟨i,hi,by simp⟩;rw [this];exact⟨d,v,by simp⟩
  ·obtain⟨d',v',h'⟩:=nt (V:=r) e hi;cases is.any (Nat.beq j)with
   | true=>exact⟨d',v',by simp [h']⟩
   | false=>exact⟨d',v',h'⟩
def oS(l:List Nat)(k:Nat):Bool:=l.any (Nat.beq k)
theorem eT{l:List Nat}{k:Nat}(h:oS l k=true):k∈l:=by
 obtain⟨x,hx,he⟩:=List.any_eq_true.1 h;exact Nat.eq_of_beq_eq_true he▸hx
theorem ew{l:List Nat}{k:Nat}(h:k∈l):oS l k=true:=List.any_eq_true.2 ⟨k,h,by simp⟩
def sS(V:dg)(is C:List Nat):Bool:=(dR V).all fun i=>oS is i || oS C i
def yE(l:List Oper)(C:List Nat)(c:Nat):List Nat→List Nat→Bool
 | _,[]=>true
 | seen,k::ks=>(oS C k || Nat.beq k c || seen.any (fun s=>match l[s]? with|some o=>oS (d9 o) k|none=>false))&&yE l C c (k::seen) ks
theorem pI{V:dg}(h:uR N E V=true):(fo V).Nodup∧(dR V).Nodup∧(∀d∈fo V,∀v,dK E d≠some v)∧∀d∈fo V,d<N:=by
 simp only [uR,Bool.and_eq_true]at h;refine⟨lO h.1.1,lO h.1.2,fun d hd v hv=> ?_,fun d hd=> ?_⟩
 ·have:=List.all_eq_true.1 h.2 d hd;rw [hv]at this;simp at this
 ·have:=List.all_eq_true.1 h.2 d hd;simp only [Bool.and_eq_true]at this;simpa using this.1
theorem mm{l:List Oper}{V:dg}{C:List Nat}(is:List Nat){I:dg}(hI0:ib is V=I)(hst:uR N E V=true)(hI:PRs P N w0 M H E Γ R l V I)(hcov:sS V is C=true)(c:Option Nat)
  (hcls:wt l (dR V++C) c=true) (hfin:∀D a w,(∀i,i<l.length→D i=true)→StI N w0 M H E Γ R l V C D a w→Q .normal a w)
  (hmem:∀k,c=some k→∀ord D a w o,l[k]?=some o→D k=false→(∀j∈d9 o,D j=true)→Ord l (fun j=>bif Nat.beq j k then true else D j) ord→StI N w0 M H E Γ R l V C D a w→wpOps P l.toArray Q (k::ord) a w):
  Fa P N w0 M H E Γ R l Q V C:=by
 obtain⟨h1,h2,h3,h4⟩:=pI hst;intro ord
 induction ord with
 | nil=>
  intro D a w ho hS;cases ho with
  | nil h=>exact hfin D a w h hS
 | cons i ord ih=>
  intro D a w ho hS;cases ho with
  | cons hio hD hpr hrest=>
   have hi:i<l.length:=(List.getElem?_eq_some_iff.1 hio).1;have hc:=List.all_eq_true.1 hcls i (by simpa using hi);simp only [hio,Bool.or_eq_true]at hc;rcases hc with(hc|hc)|hc
   ·have hiV:i∈dR V:=by
     rcases List.mem_append.1 (eT hc:i∈dR V++C)with h|h
     ·exact h
     ·have:=hS.sure i h;rw [hD]at this;cases this
    have hcv:=List.all_eq_true.1 hcov i hiV;simp only [Bool.or_eq_true]at hcv;rcases hcv with hcv|hcv
    ·obtain⟨d,v,hm⟩:=nt hiV (eT hcv);exact uQ h1 h2 h3 h4 (kF hm) ((hI0▸hI:PRs P N w0 M H E Γ R l V (ib is V)).get i d v hm) hio hpr hS fun a' hS'=>ih _ a' w hrest hS'
    ·have:=hS.sure i (eT hcv);rw [hD]at this;cases this
   ·cases c with
    | none=>simp at hc
    | some k=>
     have:i=k:=Nat.eq_of_beq_eq_true hc;subst this;exact hmem i J ord D a w _ hio hD hpr hrest hS
   ·obtain⟨j,hj,hjn⟩:=List.any_eq_true.1 hc;have hjV:=ew (hS.done j (hpr j hj));rw [oS]at hjV;rw [hjV]at hjn;simp at hjn
theorem be{l:List Oper}{V:dg}{C:List Nat}(is:List Nat){I:dg}(hI0:ib is V=I)(hst:uR N E V=true)(hI:PRs P N w0 M H E Γ R l V I)(hcov:sS V is C=true)(hcls:wt l (dR V++C) none=true)
  (hall:(dR V).all (fun i=>Nat.blt i l.length)=true) (k:At N w0 M H (AW V++E) Γ R (Q .normal)):Fa P N w0 M H E Γ R l Q V C:=
 mm is hI0 hst hI hcov none hcls (fun D a w hD hS=>k a w (hS.base.vals fun i d v hm=>hS.vals i d v hm (hD i (by
  have:=List.all_eq_true.1 hall i (eD.2 ⟨d,v,hm⟩);simpa using this))) hS.ok) (fun k hk=>by cases hk)
theorem jf{l:List Oper}{C:List Nat}{c:Nat}{D:Nat→Bool}(hC:∀i∈C,D i=true)(hc:D c=true)(hcl:∀(i:Nat)(o:Oper),l[i]?=some o→D i=true→∀j∈d9 o,D j=true):
  ∀(ks seen:List Nat),yE l C c seen ks=true→(∀s∈seen,D s=true)→∀k∈ks,D k=true
 | [],_,_,_,k,h=>by simp at h
 | k'::ks,seen,h,hs,k,hk=>by
  simp only [yE,Bool.and_eq_true,Bool.or_eq_true]at h;have hk':D k'=true:=by
   rcases h.1 with(h1|h1)|h1
   ·exact hC _ (eT h1)
   ·rw [Nat.eq_of_beq_eq_true h1];exact hc
   ·obtain⟨s,hs1,hs2⟩:=List.any_eq_true.1 h1;cases ho:l[s]? with
    | none=>rw [ho]at hs2;cases hs2
    | some o=>rw [ho]at hs2;exact hcl s o ho (hs s hs1) k' (eT hs2)
  rcases List.mem_cons.1 hk with e|e
  ·rw [e];exact hk'
  ·exact jf hC hc hcl ks (k'::seen) h.2 (fun s hs'=>by rcases List.mem_cons.1 hs' with e|e;exact e▸hk';exact hs s e) k e
theorem mg:∀(U V:dg),dR (U++V)=dR U++dR V
 | [],V=>rfl
 | (i,d,v)::U,V=>by simp [dR,mg U V]
theorem aZ{l:List Oper}{V:dg}{C:List Nat}(is:List Nat){I:dg}(c:Nat)(C' Jx:List Nat){X:Type}{φ:X→Prop}{v:X→Value}{Γ' R':X→dQ}{d:Nat}{o:Oper}(J':X→dg)(hI0:ib is V=I)(hst:uR N E V=true)(hI:PRs P N w0 M H E Γ R l V I)(hcov:sS V is C=true)
  (hcls:wt l (dR V++C) (some c)=true) (ho:l[c]?=some o) (hdst:o.dst=some d) (hgd:o.guard=none) (hd:Nat.blt d N=true) (hdE:dK E d=none) (hdV:oS (fo V) d=false) (hcV:oS (dR V++C) c=false)
  (hcl:yE l C c [] C'=true) (hCC0:C.all (oS C')=true) (hJ:∀x,φ x→dR (J' x)=Jx) (hJx:Jx.all (fun j=> !(oS (dR V++C) j)&& !(Nat.beq j c))=true) (hms:MS P N w0 M H (vpre (d9 o) V++E) Γ R o φ v Γ' R')
  (k:∀x,φ x→Fa P N w0 M H E (Γ' x) (R' x) l Q (J' x++(c,d,v x)::V) C'):Fa P N w0 M H E Γ R l Q V C:=by
 have hCC:∀j∈C,j∈C':=fun j hj=>eT (List.all_eq_true.1 hCC0 j hj)
 refine mm is hI0 hst hI hcov (some c) hcls (fun D a w hD hS=> ?_) fun k' hk' ord D a w o' hio hDk hpr hrest hS=> ?_
 ·have:=hS.done c (hD c (List.getElem?_eq_some_iff.1 ho).1);rw [ew this]at hcV;cases hcV
 ·injection hk' with hk';subst hk';rw [ho]at hio;injection hio with hio;subst hio;have ho':l.toArray[c]?=some o:=by simpa using ho
  simp only [wpOps,ho'];rw [if_pos (by simp [Region.wanted,hgd])];left;have hEp:EOk N (vpre (d9 o) V++E) a:=hS.base.vpre fun j d v hj hjp=>hS.vals j d v hj (hpr j hjp)
  have hlt:d<a.tmps.size:=Nat.lt_of_lt_of_le (by simpa using hd) hS.base.size;refine hms a w hEp hS.ok _ _ fun x w' hφ hC'=> ?_
  rw [hdst];have hclosed:∀(j:Nat)(o':Oper),l[j]?=some o'→(bif Nat.beq j c then true else D j)=true→∀k∈d9 o',(bif Nat.beq k c then true else D k)=true:=by
   intro j o' hoj hj q hq;cases hb:Nat.beq j c with
   | true=>
    have:=Nat.eq_of_beq_eq_true hb;subst this;rw [ho]at hoj;injection hoj with hoj;subst hoj;simp [hpr q hq]
   | false=>rw [hb]at hj;simp [hS.closed j o' hoj hj q hq]
  refine k x hφ ord _ _ w' hrest ⟨fun j hj=> ?_,jf (fun i hi=>by simp [hS.sure i hi]) (by simp) hclosed C' [] hcl (fun s hs=>by simp at hs),hclosed,⟨hS.base.defers,by simpa [Act.put]using hS.base.size,fun t u ht=> ?_⟩,fun j e u hj hjD=> ?_,hC'⟩
  ·rw [mg];show j∈dR (J' x)++(c::dR V)++C';cases hb:Nat.beq j c with
   | true=>rw [Nat.eq_of_beq_eq_true hb];simp
   | false=>
    rw [hb]at hj;rcases List.mem_append.1 (hS.done j hj)with h|h
    ·simp [h]
    ·have:=hCC j h;simp [this]
  ·simp only [Act.put,Array.getElem?_setIfInBounds];have hne:d≠t:=fun e=>by subst e;rw [hdE]at ht;cases ht
   rw [if_neg hne];exact hS.base.slot t u ht
  ·simp only [Act.put,Array.getElem?_setIfInBounds];rcases List.mem_append.1 hj with hj|hj
   ·exfalso;have hjx:j∈Jx:=by rw [←hJ x hφ];exact eD.2 ⟨e,u,hj⟩
    have h6:=List.all_eq_true.1 hJx j hjx;simp only [Bool.and_eq_true,Bool.not_eq_true']at h6;rw [h6.2]at hjD;have:=ew (hS.done j hjD);rw [this]at h6;simp at h6
   ·rcases List.mem_cons.1 hj with e'|e'
    ·cases e';simp [hlt]
    ·have hne:d≠e:=fun h=>by
      subst h;rw [ew (fK e')]at hdV;cases hdV
     rw [if_neg hne];cases hb:Nat.beq j c with
     | true=>
      have:=Nat.eq_of_beq_eq_true hb;subst this;rw [ew (List.mem_append_left _ (eD.2 ⟨e,u,e'⟩))]at hcV;cases hcV
     | false=>rw [hb]at hjD;exact hS.vals j e u e' hjD
theorem bB{l:List Oper}{V:dg}{C:List Nat}(is:List Nat){I:dg}(c:Nat)(C' Jx:List Nat){X:Type}{φ:X→Prop}{v:X→Value}{Γ' R':X→dQ}{o:Oper}(J':X→dg)(hI0:ib is V=I)(hst:uR N E V=true)(hI:PRs P N w0 M H E Γ R l V I)(hcov:sS V is C=true)
  (hcls:wt l (dR V++C) (some c)=true) (ho:l[c]?=some o) (hdst:o.dst=none) (hgd:o.guard=none) (hcC':oS C' c=true) (hcV:oS (dR V++C) c=false)
  (hcl:yE l C c [] C'=true) (hCC0:C.all (oS C')=true) (hJ:∀x,φ x→dR (J' x)=Jx) (hJx:Jx.all (fun j=> !(oS (dR V++C) j)&& !(Nat.beq j c))=true) (hms:MS P N w0 M H (vpre (d9 o) V++E) Γ R o φ v Γ' R')
  (k:∀x,φ x→Fa P N w0 M H E (Γ' x) (R' x) l Q (J' x++V) C'):Fa P N w0 M H E Γ R l Q V C:=by
 have hCC:∀j∈C,j∈C':=fun j hj=>eT (List.all_eq_true.1 hCC0 j hj)
 refine mm is hI0 hst hI hcov (some c) hcls (fun D a w hD hS=> ?_) fun k' hk' ord D a w o' hio hDk hpr hrest hS=> ?_
 ·have:=hS.done c (hD c (List.getElem?_eq_some_iff.1 ho).1);rw [ew this]at hcV;cases hcV
 ·injection hk' with hk';subst hk';rw [ho]at hio;injection hio with hio;subst hio;have ho':l.toArray[c]?=some o:=by simpa using ho
  simp only [wpOps,ho'];rw [if_pos (by simp [Region.wanted,hgd])];left;have hEp:EOk N (vpre (d9 o) V++E) a:=hS.base.vpre fun j d v hj hjp=>hS.vals j d v hj (hpr j hjp)
  refine hms a w hEp hS.ok _ _ fun x w' hφ hC'=> ?_
  rw [hdst];have hclosed:∀(j:Nat)(o':Oper),l[j]?=some o'→(bif Nat.beq j c then true else D j)=true→∀k∈d9 o',(bif Nat.beq k c then true else D k)=true:=by
   intro j o' hoj hj q hq;cases hb:Nat.beq j c with
   | true=>
    have:=Nat.eq_of_beq_eq_true hb;subst this;rw [ho]at hoj;injection hoj with hoj;subst hoj;simp [hpr q hq]
   | false=>rw [hb]at hj;simp [hS.closed j o' hoj hj q hq]
  refine k x hφ ord _ _ w' hrest ⟨fun j hj=> ?_,jf (fun i hi=>by simp [hS.sure i hi]) (by simp) hclosed C' [] hcl (fun s hs=>by simp at hs),hclosed,hS.base,fun j e u hj hjD=> ?_,hC'⟩
  ·rw [mg];cases hb:Nat.beq j c with
   | true=>rw [Nat.eq_of_beq_eq_true hb];simp [eT hcC']
   | false=>
    rw [hb]at hj;rcases List.mem_append.1 (hS.done j hj)with h|h
    ·simp [h]
    ·have:=hCC j h;simp [this]
  ·rcases List.mem_append.1 hj with hj|hj
   ·exfalso;have hjx:j∈Jx:=by rw [←hJ x hφ];exact eD.2 ⟨e,u,hj⟩
    have h6:=List.all_eq_true.1 hJx j hjx;simp only [Bool.and_eq_true,Bool.not_eq_true']at h6;rw [h6.2]at hjD;have:=ew (hS.done j hjD);rw [this]at h6;simp at h6
   ·cases hb:Nat.beq j c with
    | true=>
     have:=Nat.eq_of_beq_eq_true hb;subst this;rw [ew (List.mem_append_left _ (eD.2 ⟨e,u,hj⟩))]at hcV;cases hcV
    | false=>rw [hb]at hjD;exact hS.vals j e u hj hjD
theorem bA{id:Nat}{l:List Oper}(ds:List Nat)(V:dg)(ht:AX 0 l=true)(h:Fa P N w0 M H (yt ds E) Γ R l Q V []):At N w0 M H E Γ R ((Code.region id l.toArray true).wp P Q):=by
 intro a w hE hC;refine wp_region_draw fun t=>h _ (fun _=>false) a _ (A9 _ l ht t) ⟨(fun i hi=>by cases hi),(fun i hi=>by simp at hi),(fun i o _ hi=>by cases hi),hE.del ds,(fun i d v _ hi=>by cases hi),hC.stay ⟨J,J,J,Nat.le_refl _,fun _ _ _=>J⟩⟩
theorem zj{id:Nat}{l:List Oper}(rt rg:List Nat)(ds:List Nat)(V:dg)(h1:pD .any rt l=true)(h2:pD .text rt l=true)(h3:pD .gc rg l=true)(h:Fa P N w0 M H (yt ds E) Γ R l Q V []):At N w0 M H E Γ R ((Code.region id l.toArray true).wp P Q):=by
 intro a w hE hC;refine wp_region_draw fun t=>h _ (fun _=>false) a _ (xo _ l rt rg h1 h2 h3 t) ⟨(fun i hi=>by cases hi),(fun i hi=>by simp at hi),(fun i o _ hi=>by cases hi),hE.del ds,(fun i d v _ hi=>by cases hi),hC.stay ⟨J,J,J,Nat.le_refl _,fun _ _ _=>J⟩⟩
theorem ay{l:List Oper}{V:dg}:PRs P N w0 M H E Γ R l V []:=trivial
theorem ad{l:List Oper}{V I:dg}{i d:Nat}{v:Value}(h:LQ P N w0 M H E Γ R l V i d v)(t:PRs P N w0 M H E Γ R l V I):PRs P N w0 M H E Γ R l V ((i,d,v)::I):=⟨h,t⟩
theorem aD{l:List Oper}{V:dg}{i d:Nat}{v:Value}{op:Op}{T:TypeId}{ps:String}{af:Array Edge}(ho:l[i]?=some ⟨some d,op,T,ps,af,none⟩)(h:PR P N w0 M H (vpre (d9 ⟨some d,op,T,ps,af,none⟩) V++E) Γ R op v):LQ P N w0 M H E Γ R l V i d v:=
 ⟨_,ho,rfl,fun a w hE hC=> .inl ⟨by simp [Region.wanted],h T ps af a w hE hC _ _⟩⟩
end
section
variable{P:Program}{N:Nat}{w0:World}{M H:Nat→Prop}{E:el}{Γ R:dQ}{Q:Exit→Act→World→Prop}
variable{ops:Array Oper}{rest:List Oper}{T:TypeId}{ps:String}{af:Array Edge}{d:Nat}{op:Op}
theorem dZ{S:TypeId}{D:TypeDesc}{z:Value}{s bb:Nat}{c:List Value}(ht:TI P S D z s bb)(hc:z.cells.toList=c)
  :MS P N w0 M H E Γ R ⟨some d,.alloc S,T,ps,af,none⟩ (X:=Nat) (fun _=>True) (fun b=> .pointer (some ⟨b,0,none⟩)) (fun b=>(d,aY b S c)::Γ) (fun _=>R):=gI (fun a w hE hC=>⟨w.heap.size,w.alloc (.cells c.toArray S),trivial,by
  subst hc;simp [execOp,Instr.alloc,ht.zero,newVar,newRow],hC.alloc⟩)
theorem nK{S:TypeId}{x:Operand}{v:Value}{c:List Value}(hx:ev E x=some v)(hc:v.cells.toList=c)
  :MS P N w0 M H E Γ R ⟨some d,.box S x,T,ps,af,none⟩ (X:=Nat) (fun _=>True) (fun b=> .pointer (some ⟨b,0,none⟩)) (fun b=>(d,aY b S c)::Γ) (fun _=>R):=gI (fun a w hE hC=>⟨w.heap.size,w.alloc (.cells c.toArray S),trivial,by
  subst hc;simp [execOp,hE.ev hx,Instr.box,newVar,newRow],hC.alloc⟩)
theorem d7{α:Type}{S U:TypeId}{D:TypeDesc}{z:Value}{s bb:Nat}(enc:α→List Value)(e:α){x:Operand}{v:Value}(hS:P.underlying S=some (.slice U))(hU:TI P U D z s bb)(hs:z.cells.size=s)(hs0:0<s)(hsb:s≤1000000)(hx:ev E x=some v)(hv:v.cells.toList=enc e)(he:(enc e).length=s)
  :MS P N w0 M H E Γ R ⟨some d,.buildSlice S 1 #[(0,x)],T,ps,af,none⟩ (X:=SV) (fun _=>True) (fun v'=>sv v') (fun v'=>(d,own U s enc (sv v') [e])::Γ) (fun _=>R):=gI (fun a w hE hC=>⟨⟨some ⟨w.heap.size,0,none⟩,1,1⟩,w.alloc (.cells v.cells U),trivial,by
  have hvs:v.cells.size=s:=by rw [←he,←hv];simp
  have h0:¬s=0:=by omega
  have hzz:((Array.range (1*s)).map (z.cells[· %z.cells.size]!)).size=s:=by simp
  have hf:=wg (s:=s) (v:=v) hvs hzz;simp only [Nat.one_mul]at hf;have hb:¬16777216<s:=by omega
  simp [execOp,hE.ev hx,Instr.buildSlice,run_underlying hS,hU.sizeOf,hU.zero,newRow,h0,hb,hf,sv],by
  have hvs:v.cells.size=s:=by rw [←he,←hv];simp
  refine hC.new (Touch.alloc _ _ _) ⟨_,tI (S:=U) (s:=s) (enc:=enc) (l:= [e]) (cap:=1) (by simpa using he) (by simpa using hvs) (by simp) (by simp [maxLen]) (by simp [hv];rw [←he];exact List.take_of_length_le (Nat.le_refl _)),fun b hb=>by subst hb;simp⟩⟩)
theorem g_{α:Type}{S U:TypeId}{D:TypeDesc}{z:Value}{s bb:Nat}{enc:α→List Value}{x y:Operand}{v v2:Value}{l l2:List α}(k:Nat)(hS:P.underlying S=some (.slice U))(hU:TI P U D z s bb)(hzs:z.cells.size=s)(hs0:0<s)(he:∀x,(enc x).length=s)(h1:∀x,(enc x).all (·.oneCell')=true)
  (hx:ev E x=some v) (hy:ev E y=some v2) (hk:bL Γ k=some (own U s enc v l)) (h2:HasSl Γ R s enc v2 l2) (hm:(l.length+l2.length)*bb≤140737488355328) (hm':l.length+l2.length≤maxLen)
  :MS P N w0 M H E Γ R ⟨some d,.call {callee:= .builtin .append,args:= #[x,y],argTypes:= #[S,S]},T,ps,af,none⟩ (X:=SV) (fun _=>True) (fun v'=>sv v') (fun v'=>(k,own U s enc (sv v') (l++l2))::Γ) (fun _=>R):=by
 refine gI fun a w hE hC=> ?_
 obtain⟨G0,hp0,hlt0⟩:=hC.reads (.inl hk);obtain⟨G2,c,h3,h4,h5⟩:=h2.ok hC;obtain⟨i,i1,i2,i3,i4⟩:=hU.info;have hfl:∀l':List α,(l'.flatMap enc).length=l'.length*s:=e_ he;rcases h5 with⟨rfl,_,rfl⟩|⟨b2,o2,rfl,_,hc2⟩
 ·obtain⟨xv,rfl⟩:=il hp0.2;refine⟨xv,w,trivial,?_,?_⟩
  ·have hr:=run_append_owned_none (P:=P) w 0 S T U i s hS i1 (sv xv) l.length _ hp0.2;simp [execOp,resolve,invoke,builtin,hE.ev hx,hE.ev hy,hr]
  ·simp only [List.append_nil];exact hC.upd hk fun G hG hGlt=>⟨G,hG,fun b hb=>⟨hGlt b hb,fun _=>hb⟩,Touch.refl _ _⟩
 ·obtain⟨v',w',hr,ho,hg,hn⟩:=run_append_own (P:=P) w 0 S T U i z s bb hS i1 i2 i3 i4 hzs hs0 v l.length _ hp0.2 ⟨b2,o2,none⟩ l2.length c (l2.flatMap enc) (hfl l2)
   (fun j u hj=>by rw [cC];exact hc2 j u hj) (fun u hu=>by obtain⟨x,_,hxu⟩:=List.mem_flatMap.1 hu;simpa using List.all_eq_true.1 (h1 x) u hxu) hm' hm (Nat.zero_le _)
  obtain⟨xv,rfl⟩:=il ho;refine⟨xv,w',trivial,?_,?_⟩
  ·simp [execOp,resolve,invoke,builtin,hE.ev hx,hE.ev hy,hr]
  ·refine hC.upd hk fun G hG hGlt=>⟨fun b=>(sv xv).ownBlock=some b,⟨fun x=>Iff.rfl,?_⟩,fun b hb=>⟨(ho.lt b hb).2,fun hlt=> ?_⟩,⟨hg.os,hg.tape,hg.output,hg.size,fun i hi hne=>hg.block i hi (fun e=>hne ((hG.1 i).2 e.symm))⟩⟩
   ·rw [List.length_append,List.flatMap_append];exact ho
   ·rcases hp0.2.2 with⟨rfl,hl0⟩|⟨g,cap,cur,rfl,hbg,hgg,hnc,hcm,hcs,htake⟩
    ·exfalso;have hl:l= []:=List.eq_nil_of_length_eq_zero hl0;subst hl;by_cases hz:l2.length=0
     ·have hl2:l2= []:=List.eq_nil_of_length_eq_zero hz;subst hl2;have:=(hn.2 ⟨J,J⟩)
      rw [this]at hb;simp [Value.ownBlock]at hb
     ·have hr2:=run_append_nil (P:=P) w S T U i z hS i1 i2 ⟨b2,o2,none⟩ l2.length c (l2.flatMap enc) (by rw [hfl,i3]) (fun j u hj=>by rw [cC];exact hc2 j u hj) (by simpa using Nat.pos_of_ne_zero hz) (by simp only [maxLen]at hm';simp at hm';omega) (by rw [i4];simp at hm;omega);rw [hr2]at hr;injection hr with hr3 hr4;replace hb:(sv xv).ownBlock=some b:=hb;rw [←hr3]at hb;simp [Value.ownBlock]at hb;omega
    ·by_cases hroom:l.length+l2.length≤cap
     ·have hfit:l.length*i.size+(l2.flatMap enc).length≤cur.size:=by rw [hfl,hcs,i3,←Nat.add_mul];exact Nat.mul_le_mul_right _ hroom
      have hr2:=run_append_room (P:=P) w S T U i hS i1 g l.length cap cur hgg ⟨b2,o2,none⟩ l2.length c (l2.flatMap enc) (by rw [hfl,i3]) (fun j u hj=>by rw [cC];exact hc2 j u hj) (fun u hu=>by obtain⟨x,_,hxu⟩:=List.mem_flatMap.1 hu;simpa using List.all_eq_true.1 (h1 x) u hxu) hroom hfit;rw [hr2]at hr;injection hr with hr3 hr4;replace hb:(sv xv).ownBlock=some b:=hb;rw [←hr3]at hb;simp [Value.ownBlock]at hb;subst hb;exact(hG.1 g).2 J
     ·exfalso;have holds:=hp0.2.cells (g:=g) J;have hr2:=run_append_grow (P:=P) w S T U i z hS i1 i2 ⟨g,0,none⟩ l.length cap (l.flatMap enc) (by rw [hfl,i3]) holds ⟨b2,o2,none⟩ l2.length c (l2.flatMap enc) (by rw [hfl,i3]) (fun j u hj=>by rw [cC];exact hc2 j u hj) (by omega) (by simp only [maxLen]at hm';omega) (growslice_fits (by omega) (by rw [i4];exact hm));rw [hr2]at hr;injection hr with hr3 hr4;replace hb:(sv xv).ownBlock=some b:=hb;rw [←hr3]at hb;simp [Value.ownBlock]at hb;omega
theorem mK{S:TypeId}{D:TypeDesc}{z:Value}{s bb:Nat}{x y:Operand}{b o:Nat}{v:Value}{A A':Asn}{k:Nat}{us:List Value}(ht:TI P S D z s bb)(hx:ev E x=some (.pointer (some ⟨b,o,none⟩)))(hy:ev E y=some v)
  (hus:v.cells.toList=us) (hs:us.length=s) (h1:us.all (·.oneCell')=true) (hk:bL Γ k=some A)
  (hA:∀w G,A.pred w G→∃cur S',w.heap[b]?=some (.cells cur S' (0,0))∧G b∧o+us.length≤cur.size∧A'.pred (w.setRow b (cur.toList.take o++us++cur.toList.drop (o+us.length)).toArray) G)
  :MS P N w0 M H E Γ R ⟨none,.store S x y,T,ps,af,none⟩ (X:=Unit) (fun _=>True) (fun _=>undef) (fun _=>(k,A')::Γ) (fun _=>R):=by
 intro a w hE hC next Q hnext
 obtain⟨G0,hp,hlt⟩:=hC.reads (.inl hk);obtain⟨cur,S',hb,_,hfit,_⟩:=hA w G0 hp;have hst:=run_storeCells_at P b o S' us 0 cur w hb (by simpa using hfit) (fun v hv=>by simpa using List.all_eq_true.1 h1 v hv);simp only [Nat.add_zero]at hst;have hC':COk w0 M H ((k,A')::Γ) R (w.setRow b (cur.toList.take o++us++cur.toList.drop (o+us.length)).toArray):=
  hC.upd hk fun G hG hGlt=>by
   obtain⟨cur',S'',hb',hGb,hfit',hA'⟩:=hA w G hG;rw [hb]at hb';injection hb' with hb';injection hb' with e1 e2;subst e1;exact⟨G,hA',fun x hx=>⟨by simpa using hGlt x hx,fun _=>hx⟩,⟨J,J,J,by simp,fun i _ hi=>setRow_other w b i _ (fun e=>hi (e▸hGb))⟩⟩
 unfold Oper.wp;have hrun:(execOp a.eval ⟨none,.store S x y,T,ps,af,none⟩).run P w= .ok .skip (w.setRow b (cur.toList.take o++us++cur.toList.drop (o+us.length)).toArray):=by
  have hsz:v.cells.size=s:=by rw [←hs,←hus];simp
  simp [execOp,hE.ev hx,hE.ev hy,Instr.storeAt,Instr.sureAddr,storeVar,ht.sizeOf,hsz,hus,hst]
 rw [hrun];exact hnext () _ trivial hC'
theorem cy{S S':TypeId}{D:TypeDesc}{z:Value}{s bb:Nat}{x y:Operand}{b o:Nat}{v:Value}{k:Nat}{c c' us:List Value}(ht:TI P S D z s bb)(hx:ev E x=some (.pointer (some ⟨b,o,none⟩)))(hy:ev E y=some v)
  (hus:v.cells.toList=us) (hs:us.length=s) (h1:us.all (·.oneCell')=true) (hk:bL Γ k=some (aY b S' c)) (hfit:Nat.ble (o+us.length) c.length=true) (hc:c.take o++us++c.drop (o+us.length)=c')
  :MS P N w0 M H E Γ R ⟨none,.store S x y,T,ps,af,none⟩ (X:=Unit) (fun _=>True) (fun _=>undef) (fun _=>((k,aY b S' c')::Γ)) (fun _=>R):=
 mK ht hx hy hus hs h1 hk (zi hc (by simpa using hfit))
theorem mJ{α:Type}{S S':TypeId}{D:TypeDesc}{z:Value}{s n bb:Nat}{x y:Operand}{u v:Value}{k i o:Nat}{enc:α→List Value}{l:List α}{e e':α}{us:List Value}(ht:TI P S D z n bb)(hx:ev E x=some (.pointer (some ⟨ig v,jp v+i*s+o,none⟩)))(hy:ev E y=some u)
  (hus:u.cells.toList=us) (hs:us.length=n) (h1:us.all (·.oneCell')=true) (hk:bL Γ k=some (own S' s enc v l)) (he:∀x,(enc x).length=s) (hi:l[i]?=some e) (ho:o+us.length≤s) (hx':(enc e).take o++us++(enc e).drop (o+us.length)=enc e')
  :MS P N w0 M H E Γ R ⟨none,.store S x y,T,ps,af,none⟩ (X:=Unit) (fun _=>True) (fun _=>undef) (fun _=>((k,own S' s enc v (l.set i e'))::Γ)) (fun _=>R):=
 mK ht hx hy hus hs h1 hk (Gq he hi ho hx')
theorem bE{S S':TypeId}{D:TypeDesc}{z:Value}{s bb:Nat}{x y:Operand}{b:Nat}{k:Nat}{c us:List Value}(ht:TI P S D z s bb)(hx:ev E x=some (.pointer (some ⟨b,0,none⟩)))(hy:ev E y=some (.agg us.toArray))
  (hs:us.length=s) (h1:us.all (·.oneCell')=true) (hk:bL Γ k=some (aY b S' c)) (hc:c.length=s)
  :MS P N w0 M H E Γ R ⟨none,.store S x y,T,ps,af,none⟩ (X:=Unit) (fun _=>True) (fun _=>undef) (fun _=>((k,aY b S' us)::Γ)) (fun _=>R):=
 cy (us:=us) ht hx hy (by simp [Value.cells]) hs h1 hk (by rw [hs,hc];simp) (by rw [hs,←hc];simp)
theorem gV{dst:Option Nat}{n:Nat}{f:Operand}{xs:List Operand}{cap us vs:List Value}{at_:Array TypeId}{L R0:List Asn}{X:Type}{φ:X→Prop}{v:X→Value}{L' R':X→List Asn}(hs:Spec P n vs L R0 φ v L' R')(hcb:Cb P n)
  (ks:List Nat) (rs:List (Bool×Nat)) (ns rns:List Nat) (hf:ev E f=some (.func (.func n) #[] cap.toArray)) (hx:evs E xs=some us) (hu:us++cap=vs)
  (hnd:uC ks=true) (hL:ek Γ ks=cZ L) (hR:jc Γ R rs=cZ R0) (hl:iW ks rs=true) (hns:uC ns=true) (hnl:∀x,φ x→ns.length=(L' x).length) (hrl:∀x,φ x→ef rs=true→rns.length=(R' x).length):
  MS P N w0 M H E Γ R ⟨dst,.call {callee:= .value f,args:=xs.toArray,argTypes:=at_},T,ps,af,none⟩ φ v (fun x=>fB ns (L' x) (fD ks Γ)) (fun x=>bif ef rs then fB rns (R' x) R else R):=by
 intro a w hE hC next Q hnext
 unfold Oper.wp;have hev:=hE.evs hx;have hrun:(execOp a.eval ⟨dst,.call {callee:= .value f,args:=xs.toArray,argTypes:=at_},T,ps,af,none⟩).run P w= .ok (.enter n vs.toArray) w:=by
  subst hu;simp [execOp,resolve,hE.ev hf,Deferred.ofValue,invoke,hev,my hcb]
 rw [hrun];refine(sX hs hC ks hnd hL rs hR hl ns hns hnl rns hrl).mono ?_;rintro e w' ⟨x,h1,rfl,h2⟩;exact hnext x w' h1 h2
end
def LL:Nat→List Value→List (Nat×Value)
 | _,[]=> []
 | k,v::vs=>(k,v)::LL (k+1) vs
theorem sG(o:Nat):∀(l:List Value)(k:Nat)(cs:Array Value),o+k+l.length≤cs.size→(l.zipIdx k).foldl (fun cs(p:Value×Nat)=>cs.setIfInBounds (o+p.2) p.1) cs=(cs.toList.take (o+k)++l++cs.toList.drop (o+k+l.length)).toArray
 | [],k,cs,hk=>by simp
 | u::l,k,cs,hk=>by
  simp only [List.zipIdx_cons,List.foldl_cons];rw [sG o l (k+1) (cs.setIfInBounds (o+k) u) (by simp at hk ⊢;omega)]
  congr 1
  have hlt:o+k<cs.toList.length:=by rw [Array.length_toList];simp at hk;omega
  apply List.ext_getElem?;intro j;simp only [Array.toList_setIfInBounds,List.getElem?_append,List.getElem?_take,List.getElem?_drop,List.getElem?_set,List.length_append,List.length_take,List.length_set,List.length_cons,Array.length_toList];have hlt':o+k<cs.size:=by simpa using hlt
  have e1:min (o+(k+1)) cs.size=o+k+1:=by omega
  have e2:min (o+k) cs.size=o+k:=by omega
  simp only [e1,e2];by_cases h1:j<o+k
  ·simp [h1,show j<o+k+1 by omega,show j<o+(k+1) by omega,show ¬o+k=j by omega,show j<o+k+(l.length+1) by omega,show j<o+k+1+l.length by omega]
  ·by_cases h2:j=o+k
   ·subst h2;simp [hlt',show o+k<o+(k+1) by omega,show o+k<o+k+1+l.length by omega]
   ·simp only [show ¬j<o+k+1 by omega,h1,if_false];by_cases h3:j<o+k+1+l.length
    ·simp only [h3,show j<o+k+(l.length+1) by omega,if_true];rw [show j-(o+k)=(j-(o+k+1))+1 by omega];simp
    ·simp only [h3,show ¬j<o+k+(l.length+1) by omega,if_false];rw [if_neg (by omega)]
     congr 1
     omega
theorem wh{s:Nat}:∀(vs:List Value)(k:Nat)(cs:Array Value),(∀v∈vs,v.cells.size=s)→k*s+vs.length*s=cs.size→
  Instr.fill (fun i=>some (i*s,s)) cs (LL k vs)=some (cs.toList.take (k*s)++vs.flatMap (·.cells.toList)).toArray
 | [],k,cs,_,hk=>by
  simp at hk;simp only [LL,Instr.fill,List.flatMap_nil,List.append_nil,hk];rw [List.take_of_length_le (by simp)]
 | v::vs,k,cs,hv,hk=>by
  have hs:v.cells.size=s:=hv v (by simp);have hk2:(k+1)*s+vs.length*s=cs.size:=by rw [List.length_cons]at hk;rw [←hk,Nat.add_mul,Nat.add_mul];omega
  have hle:k*s+s≤cs.size:=by rw [Nat.add_mul]at hk2;omega
  simp only [LL,Instr.fill];rw [if_neg (by simp [hs];omega)];have hf:=sG (k*s) v.cells.toList 0 cs (by simp [hs];omega);simp only [Nat.add_zero,Array.length_toList,hs]at hf;rw [←Array.foldl_toList,Array.toList_zipIdx];have e:(fun cs(x:Value×Nat)=>match x with|(c,j)=>cs.setIfInBounds (k*s+j) c)=(fun(cs:Array Value)(p:Value×Nat)=>cs.setIfInBounds (k*s+p.2) p.1):=J;rw [hf];have hsz:(cs.toList.take (k*s)++v.cells.toList++cs.toList.drop (k*s+s)).toArray.size=cs.size:=by
   simp [hs];omega
  rw [wh vs (k+1) _ (fun u hu=>hv u (by simp [hu])) (by rw [hsz];exact hk2)];simp only [List.flatMap_cons]
  congr 2
  rw [←List.append_assoc]
  congr 1
  rw [show(k+1)*s=k*s+s by rw [Nat.add_mul];omega];have h1:(cs.toList.take (k*s)).length=k*s:=by rw [List.length_take];simp;omega
  have h2:(cs.toList.take (k*s)++v.cells.toList).length=k*s+s:=by rw [List.length_append,h1];simp [hs]
  rw [List.take_append_of_le_length (by rw [h2];exact Nat.le_refl _),List.take_of_length_le (by rw [h2];exact Nat.le_refl _)]
theorem br{α:Type}{T:TypeId}{s:Nat}{enc:α→List Value}{v:Value}{l:List α}:∀(w:World)(G:Nat→Prop),(own T s enc v l).pred w G→(sl s enc v l).pred w G:=fun _ _ h=>tH h
section
variable{P:Program}{N:Nat}{w0:World}{M H:Nat→Prop}{E:el}{Γ R:dQ}{Q:Exit→Act→World→Prop}
variable{ops:Array Oper}{rest:List Oper}{T:TypeId}{ps:String}{af:Array Edge}{d:Nat}{op:Op}
theorem ge{α:Type}{S U n:Nat}{D:TypeDesc}{z:Value}{s bb:Nat}(enc:α→List Value)(es:List α){parts:List (Nat×Operand)}{pvs:List (Nat×Value)}(hS:P.underlying S=some (.slice U))(hU:TI P U D z s bb)(hs:z.cells.size=s)(hs0:0<s)(he:∀x,(enc x).length=s)(hn:es.length=n)(hn0:0<n)(hsb:n*s≤1000000)
  (hx:evps E parts=some pvs) (hi:LL 0 (pvs.map (·.2))=pvs) (hv:(pvs.map (·.2)).map (·.cells.toList)=es.map enc):MS P N w0 M H E Γ R ⟨some d,.buildSlice S n parts.toArray,T,ps,af,none⟩ (X:=SV) (fun _=>True) (fun v'=>sv v') (fun v'=>(d,own U s enc (sv v') es)::Γ) (fun _=>R):=by
 obtain⟨vs,hvs0⟩:∃vs,pvs.map (·.2)=vs:=⟨_,J⟩
 rw [hvs0]at hi hv;subst hi;clear hvs0;have hlen:vs.length=n:=by rw [←hn];have:=congrArg List.length hv;simpa using this
 have hvs:∀v∈vs,v.cells.size=s:=by
  intro v hm;have:v.cells.toList∈es.map enc:=by rw [←hv];exact List.mem_map.2 ⟨v,hm,J⟩
  obtain⟨x,_,hx⟩:=List.mem_map.1 this;have h1:=congrArg List.length hx;rw [he]at h1;simpa using h1.symm
 have hfm:vs.flatMap (·.cells.toList)=es.flatMap enc:=by
  rw [List.flatMap_def,List.flatMap_def,hv]
 refine gI fun a w hE hC=>⟨⟨some ⟨w.heap.size,0,none⟩,n,n⟩,w.alloc (.cells (vs.flatMap (·.cells.toList)).toArray U),trivial,?_,?_⟩
 ·have hev:=hE.evps hx;have hfill:=wh (s:=s) vs 0 ((Array.range (n*s)).map (z.cells[· %z.cells.size]!)) hvs (by simp [hlen]);simp only [Nat.zero_mul,List.take_zero,List.nil_append]at hfill;have hns:¬n*s=0:=by
   have:=Nat.mul_pos hn0 hs0;omega
  have hb:¬16777216<n*s:=by omega
  have hns1:¬(n=0∨s=0):=by omega
  simp [execOp,Instr.buildSlice,run_underlying hS,hU.sizeOf,hU.zero,newRow,hb,hev,hfill,hns1,sv];intro h0;exact absurd h0 hns
 ·subst hn;refine hC.new (Touch.alloc _ _ _) ⟨_,tI (S:=U) (s:=s) (enc:=enc) (l:=es) (cap:=es.length) (e_ he es) (by rw [hfm];simp [e_ he]) (Nat.le_refl _) (by unfold maxLen;have:es.length*1≤es.length*s:=Nat.mul_le_mul_left _ hs0;omega) (by rw [hfm];exact List.take_of_length_le (by simp [e_ he])),fun b hb=>by subst hb;simp⟩
theorem cu{α:Type}{S U n:Nat}{D:TypeDesc}{z:Value}{s bb:Nat}(enc:α→List Value)(es:List α){parts:List (Nat×Operand)}{pvs:List (Nat×Value)}(hS:P.underlying S=some (.slice U))(hU:TI P U D z s bb)(hs:z.cells.size=s)(hs0:0<s)(he:∀x,(enc x).length=s)(hn:es.length=n)(hn0:0<n)(hsb:n*s≤1000000)
  (hx:evps E parts=some pvs) (hi:LL 0 (pvs.map (·.2))=pvs) (hv:(pvs.map (·.2)).map (·.cells.toList)=es.map enc) (hd:Nat.blt d N=true) (k:∀v':SV,At N w0 M H ((d,sv v')::E) ((d,own U s enc (sv v') es)::Γ) R (wpList P ops Q rest)):At N w0 M H E Γ R (wpList P ops Q (⟨some d,.buildSlice S n parts.toArray,T,ps,af,none⟩::rest)):=
 xD (ge enc es hS hU hs hs0 he hn hn0 hsb hx hi hv) hd fun v' _=>k v'
theorem gS{Rel:Act→World→Prop}{t:Nat}{b:Bool}(ht:dK E t=some (.bool b))(h1:b=true→At N w0 M H ((t,.bool true)::E) Γ R Rel)(h2:b=false→At N w0 M H ((t,.bool false)::E) Γ R Rel):At N w0 M H E Γ R Rel:=by
 have key:∀c,b=c→At N w0 M H ((t,.bool c)::E) Γ R Rel→At N w0 M H E Γ R Rel:=by
  rintro c rfl h;refine h.weak (fun a hE=>⟨hE.defers,hE.size,fun s v hv=> ?_⟩) fun _ h=>h
  simp only [dK]at hv;cases hb:Nat.beq t s with
  | true=>
   rw [hb]at hv;rw [←Nat.eq_of_beq_eq_true hb];simp at hv;subst hv;exact hE.slot t _ ht
  | false=>rw [hb]at hv;exact hE.slot s v hv
 cases hb:b with
 | true=>exact key true hb (h1 hb)
 | false=>exact key false hb (h2 hb)
theorem cf{l:List Oper}{dst:Option Tmp}{i t:Nat}{c:Bool}(hi:kx l i=some t)(ht:dK E t=some (.bool c))(h:At N w0 M H E Γ R (wpList P l.toArray Q (⟨dst,op,T,ps,af,none⟩::rest))):
  At N w0 M H E Γ R (wpList P l.toArray Q (⟨dst,op,T,ps,af,some (i,c)⟩::rest)):=by
 intro a w hE hC;have hyd:=hE.yield hi ht;have:=h a w hE hC;unfold wpList at this ⊢;rw [if_pos (by simp [Region.wanted])]at this;rw [if_pos (by simp [Region.wanted,hyd])];exact this
theorem dH{l:List Oper}{i t:Nat}{c b:Bool}(hi:kx l i=some t)(ht:dK E t=some (.bool b))(hb:b= !c)(hd:Nat.blt d N=true)(h:At N w0 M H ((d,undef)::E) Γ R (wpList P l.toArray Q rest)):
  At N w0 M H E Γ R (wpList P l.toArray Q (⟨some d,op,T,ps,af,some (i,c)⟩::rest)):=by
 intro a w hE hC;have hyd:=hE.yield hi ht;subst hb;unfold wpList;rw [if_neg (by simp [Region.wanted,hyd])];exact h _ _ (hE.put hd undef) hC
end
section
variable{P:Program}{N:Nat}{w0:World}{M H:Nat→Prop}{E:el}{Γ R:dQ}{Q:Exit→Act→World→Prop}
variable{ops:Array Oper}{rest:List Oper}{T:TypeId}{ps:String}{af:Array Edge}{d:Nat}{op:Op}
theorem mU{α:Type}{xs:List α}{j:Nat}(d:α)(h:j<xs.length):xs[j]?=some (xs.getD j d):=by
 rw [List.getD_eq_getElem?_getD,List.getElem?_eq_getElem h];rfl
theorem gu{α:Type}{S S':TypeId}{D:TypeDesc}{z:Value}{s bb:Nat}{x y:Operand}{u v:Value}{k i:Nat}{enc:α→List Value}{l:List α}{e e':α}(ht:TI P S D z s bb)(hx:ev E x=some (.pointer (some ⟨ig v,jp v+i*s,none⟩)))(hy:ev E y=some u)
  (hk:bL Γ k=some (own S' s enc v l)) (he:∀x,(enc x).length=s) (hi:l[i]?=some e) (hus:u.cells.toList=enc e') (h1:(enc e').all (·.oneCell')=true)
  :MS P N w0 M H E Γ R ⟨none,.store S x y,T,ps,af,none⟩ (X:=Unit) (fun _=>True) (fun _=>undef) (fun _=>(k,own S' s enc v (l.set i e'))::Γ) (fun _=>R):=
 mJ (o:=0) (us:=enc e') ht hx hy hus (he e') h1 hk he hi (by rw [he];omega) (by
  have h1:=he e;have h2:=he e';simp [h2,←h1])
theorem Ik{X:Type}{φ:X→Prop}{v:X→Value}{Γ' R':X→dQ}{ops:Array Oper}{rest:List Oper}{T:TypeId}{ps:String}{af:Array Edge}{op:Op}(h:MS P N w0 M H E Γ R ⟨none,op,T,ps,af,none⟩ φ v Γ' R')
  (k:∀x,φ x→At N w0 M H E (Γ' x) (R' x) (wpList P ops Q rest)):At N w0 M H E Γ R (wpList P ops Q (⟨none,op,T,ps,af,none⟩::rest)):=by
 intro a w hE hC;unfold wpList;rw [if_pos (by simp [Region.wanted])];left;exact h a w hE hC _ _ fun x w' h1 h2=>k x h1 _ _ hE h2
theorem lL{α:Type}{S S':TypeId}{D:TypeDesc}{z:Value}{s bb:Nat}{x y:Operand}{u v:Value}{k i:Nat}{enc:α→List Value}{l:List α}{e e':α}(ht:TI P S D z s bb)(hx:ev E x=some (.pointer (some ⟨ig v,jp v+i*s,none⟩)))(hy:ev E y=some u)
  (hk:bL Γ k=some (own S' s enc v l)) (he:∀x,(enc x).length=s) (hi:l[i]?=some e) (hus:u.cells.toList=enc e') (h1:(enc e').all (·.oneCell')=true)
  (kk:At N w0 M H E ((k,own S' s enc v (l.set i e'))::Γ) R (wpList P ops Q rest)):At N w0 M H E Γ R (wpList P ops Q (⟨none,.store S x y,T,ps,af,none⟩::rest)):=
 Ik (gu ht hx hy hk he hi hus h1) fun _ _=>kk
theorem xG{b:Bool}{u v:Value}(hb:b=true):(bif b then u else v)=u:=by rw [hb];rfl
end
section
variable{P:Program}{N:Nat}{w0:World}{M H:Nat→Prop}{E:el}{Γ R:dQ}{Q:Exit→Act→World→Prop}
variable{ops:Array Oper}{rest:List Oper}{T:TypeId}{ps:String}{af:Array Edge}{d:Nat}{op:Op}
theorem vD{α:Type}{S U:TypeId}{D:TypeDesc}{z:Value}{s bb j:Nat}{enc:α→List Value}{x y:Operand}{k:IntKind}{i:Int}{v:Value}{l:List α}(r m:Nat)(hS:P.underlying S=some (.slice U))(hU:TI P U D z s bb)(he:∀x,(enc x).length=s)(hx:ev E x=some v)(hy:ev E y=some (.int k i))(hi:i=(j:Int))(hj:j≤l.length)(hr:bL R r=some (sl s enc v l)):
  MS P N w0 M H E Γ R ⟨some d,.slice S x none (some y) none,T,ps,af,none⟩ (X:=SV) (fun _=>True) (fun v'=>sv v') (fun _=>Γ) (fun v'=>(m,sl s enc (sv v') (l.take j))::R):=by
 subst hi;refine gI fun a w hE hC=> ?_
 obtain⟨G,⟨c,h1,h2,h3⟩,_⟩:=hC.reads (.inr hr);rcases h3 with⟨rfl,_,rfl⟩|⟨b,o,rfl,hb,hc⟩
 ·have hj0:j=0:=by simpa using hj
  subst hj0;refine⟨bw,w,trivial,?_,?_⟩
  ·simp [execOp,hE.ev hx,hE.ev hy,Instr.sliceAt,Instr.slice,run_underlying hS,Instr.sliceBounds,Instr.sliceBound,asIntOf,hU.sizeOf,sv,bw]
  ·simpa [sv,bw]using hC.nil (r:=m) (s:=s) (enc:=enc)
 ·refine⟨⟨some ⟨b,o,none⟩,j,c⟩,w,trivial,?_,?_⟩
  ·have hjc:(j:Int)≤c:=by omega
   simp [execOp,hE.ev hx,hE.ev hy,Instr.sliceAt,Instr.slice,run_underlying hS,Instr.sliceBounds,Instr.sliceBound,asIntOf,hU.sizeOf,sv,hjc,cC];intro h;omega
  ·refine hC.more (k:=r) hr fun G hG hlt=> ?_
   obtain⟨c',h1',h2',h3'⟩:=hG;rcases h3' with⟨_,_,hv⟩|⟨b',o',hv,hb',hc'⟩
   ·simp at hv
   ·simp only [Value.slice.injEq,Option.some.injEq,Addr.mk.injEq,and_true,true_and]at hv;obtain⟨⟨rfl,rfl⟩,rfl⟩:=hv;refine⟨G,⟨c,by rw [List.length_take];omega,h2,.inr ⟨b,o,by simp [sv,Nat.min_eq_left hj],hb',fun q u hq=>hc' q u ?_⟩⟩,fun b hb=>hb⟩;have hp:∀(l:List α)(j q:Nat)(u:Value),((l.take j).flatMap enc)[q]?=some u→(l.flatMap enc)[q]?=some u:=by
     intro l j q u hq;have:l.flatMap enc=(l.take j).flatMap enc++(l.drop j).flatMap enc:=by rw [←List.flatMap_append,List.take_append_drop]
     rw [this,List.getElem?_append_left (List.getElem?_eq_some_iff.1 hq).1];exact hq
    exact hp l j q u hq
theorem xB{α:Type}{S U:TypeId}{D:TypeDesc}{z:Value}{s bb j:Nat}{enc:α→List Value}{x y:Operand}{k:IntKind}{i:Int}{v:Value}{l:List α}(r m:Nat)(hS:P.underlying S=some (.slice U))(hU:TI P U D z s bb)(he:∀x,(enc x).length=s)(hx:ev E x=some v)(hy:ev E y=some (.int k i))(hi:i=(j:Int))(hj:j≤l.length)(hr:bL R r=some (sl s enc v l))(hd:Nat.blt d N=true)
  (kk:∀v':SV,At N w0 M H ((d,sv v')::E) Γ ((m,sl s enc (sv v') (l.take j))::R) (wpList P ops Q rest)):At N w0 M H E Γ R (wpList P ops Q (⟨some d,.slice S x none (some y) none,T,ps,af,none⟩::rest)):=
 xD (vD r m hS hU he hx hy hi hj hr) hd fun v' _=>kk v'
end
theorem TI.cellsOf{P:Program}{T:TypeId}{D:TypeDesc}{z:Value}{s b:Nat}(h:TI P T D z s b):P.cellsOf T=s:=by
 obtain⟨i,h1,h2,h3,h4⟩:=h.info;simp [Program.cellsOf,h1,h3]
section
variable{P:Program}{N:Nat}{w0:World}{M H:Nat→Prop}{E:el}{Γ R:dQ}
theorem cK{l:List Oper}{V:dg}{i d gi t:Nat}{c b:Bool}{v:Value}{op:Op}{T:TypeId}{ps:String}{af:Array Edge}(Eg:el)(ho:l[i]?=some ⟨some d,op,T,ps,af,some (gi,c)⟩)(hi:kx l gi=some t)(ht:dK (vpre (d9 ⟨some d,op,T,ps,af,some (gi,c)⟩) V++E) t=some (.bool b))
  (hgs:GS (vpre (d9 ⟨some d,op,T,ps,af,some (gi,c)⟩) V++E) (gb c b) Eg) (h:gb c b=true→PR P N w0 M H (Eg++(vpre (d9 ⟨some d,op,T,ps,af,some (gi,c)⟩) V++E)) Γ R op v):LQ P N w0 M H E Γ R l V i d (gv (gb c b) v):=
 ⟨_,ho,rfl,fun a w hE hC=>by
  have hyd:=hE.yield hi ht;cases hg:gb c b with
  | true=>
   have hbc:b=c:=by cases b<;>cases c<;>simp_all [gb]
   exact .inl ⟨by simp [Region.wanted,hyd,hbc],h hg _ _ _ a w (hE.gs hg hgs) hC _ _⟩
  | false=>
   have hbc:b≠c:=by cases b<;>cases c<;>simp_all [gb]
   exact .inr ⟨by simp [Region.wanted,hyd,hbc],rfl⟩⟩
end
section
variable{P:Program}{N:Nat}{w0:World}{M H:Nat→Prop}{E:el}{Γ R:dQ}
variable{d:Nat}{ops:Array Oper}{rest:List Oper}{Q:Exit→Act→World→Prop}{T:TypeId}{ps:String}{af:Array Edge}
theorem sI{α:Type}{enc:α→List Value}{s:Nat}(he:∀x,(enc x).length=s):∀l:List α,(l.flatMap enc).length=l.length*s
 | []=>by simp
 | a::l=>by simp [sI he l,he a,Nat.succ_mul,Nat.add_comm]
theorem sH{α:Type}{enc:α→List Value}{s:Nat}(he:∀x,(enc x).length=s){l:List α}{j q:Nat}{u:Value}(hj:j≤l.length)(h:((l.drop j).flatMap enc)[q]?=some u):(l.flatMap enc)[j*s+q]?=some u:=by
 have e:l.flatMap enc=(l.take j).flatMap enc++(l.drop j).flatMap enc:=by rw [←List.flatMap_append,List.take_append_drop]
 have hl:((l.take j).flatMap enc).length=j*s:=by rw [sI he,List.length_take,Nat.min_eq_left hj]
 rw [e,List.getElem?_append_right (by omega),hl,show j*s+q-j*s=q by omega];exact h
theorem vC{α:Type}{S U:TypeId}{D:TypeDesc}{z:Value}{s bb j:Nat}{enc:α→List Value}{x y:Operand}{k:IntKind}{i:Int}{v:Value}{l:List α}(r m:Nat)(hS:P.underlying S=some (.slice U))(hU:TI P U D z s bb)(he:∀x,(enc x).length=s)(hx:ev E x=some v)(hy:ev E y=some (.int k i))(hi:i=(j:Int))(hj:j≤l.length)(hr:bL R r=some (sl s enc v l)):
  MS P N w0 M H E Γ R ⟨some d,.slice S x (some y) none none,T,ps,af,none⟩ (X:=SV) (fun _=>True) (fun v'=>sv v') (fun _=>Γ) (fun v'=>(m,sl s enc (sv v') (l.drop j))::R):=by
 subst hi;refine gI fun a w hE hC=> ?_
 obtain⟨G,⟨c,h1,h2,h3⟩,_⟩:=hC.reads (.inr hr);rcases h3 with⟨rfl,_,rfl⟩|⟨b,o,rfl,hb,hc⟩
 ·have hj0:j=0:=by simpa using hj
  subst hj0;refine⟨bw,w,trivial,?_,?_⟩
  ·simp [execOp,hE.ev hx,hE.ev hy,Instr.sliceAt,Instr.slice,run_underlying hS,Instr.sliceBounds,Instr.sliceBound,asIntOf,hU.sizeOf,sv,bw]
  ·simpa [sv,bw]using hC.nil (r:=m) (s:=s) (enc:=enc)
 ·refine⟨⟨some ⟨b,if c=j then o else o+j*s,none⟩,l.length-j,c-j⟩,w,trivial,?_,?_⟩
  ·have hjc:(j:Int)≤l.length:=by omega
   by_cases hcj:c=j
   ·simp [execOp,hE.ev hx,hE.ev hy,Instr.sliceAt,Instr.slice,run_underlying hS,Instr.sliceBounds,Instr.sliceBound,asIntOf,hU.sizeOf,sv,hjc,cC,hcj];exact fun h=>absurd h (by omega)
   ·simp [execOp,hE.ev hx,hE.ev hy,Instr.sliceAt,Instr.slice,run_underlying hS,Instr.sliceBounds,Instr.sliceBound,asIntOf,hU.sizeOf,sv,hjc,cC,hcj];exact fun h=>absurd h (by omega)
  ·refine hC.more (k:=r) hr fun G hG hlt=> ?_
   obtain⟨c',h1',h2',h3'⟩:=hG;rcases h3' with⟨_,_,hv⟩|⟨b',o',hv,hb',hc'⟩
   ·simp at hv
   ·simp only [Value.slice.injEq,Option.some.injEq,Addr.mk.injEq,and_true,true_and]at hv;obtain⟨⟨rfl,rfl⟩,rfl⟩:=hv;refine⟨G,⟨c-j,by rw [List.length_drop];omega,by omega,.inr ⟨b,if c=j then o else o+j*s,by simp [sv],hb',fun q u hq=> ?_⟩⟩,fun b hb=>hb⟩;by_cases hcj:c=j
    ·have:l.drop j= []:=List.drop_eq_nil_of_le (by omega);rw [this]at hq;simp at hq
    ·rw [if_neg hcj,Nat.add_assoc];exact hc' _ u (sH he hj hq)
theorem xA{α:Type}{S U:TypeId}{D:TypeDesc}{z:Value}{s bb j:Nat}{enc:α→List Value}{x y:Operand}{k:IntKind}{i:Int}{v:Value}{l:List α}(r m:Nat)(hS:P.underlying S=some (.slice U))(hU:TI P U D z s bb)(he:∀x,(enc x).length=s)(hx:ev E x=some v)(hy:ev E y=some (.int k i))(hi:i=(j:Int))(hj:j≤l.length)(hr:bL R r=some (sl s enc v l))(hd:Nat.blt d N=true)
  (kk:∀v':SV,At N w0 M H ((d,sv v')::E) Γ ((m,sl s enc (sv v') (l.drop j))::R) (wpList P ops Q rest)):At N w0 M H E Γ R (wpList P ops Q (⟨some d,.slice S x (some y) none none,T,ps,af,none⟩::rest)):=
 xD (vC r m hS hU he hx hy hi hj hr) hd fun v' _=>kk v'
theorem Spec.ro1{P:Program}{n:Nat}{vs:List Value}{A B:Asn}{X:Type}{φ:X→Prop}{v:X→Value}{L' R':X→List Asn}(h:Spec P n vs [] [A] φ v L' R')(hAB:∀w G,B.pred w G→A.pred w G):Spec P n vs [] [B] φ v L' R':=fun w M H ⟨F,hF⟩=>
 h w M H ⟨F,hF.touch,hF.has,hF.lt,hF.mine,hF.apart,fun k C hk=>by
  cases k with
  | zero=>
   obtain⟨G,h1,h2⟩:=hF.ro 0 B J;simp at hk;subst hk;exact⟨G,hAB _ _ h1,h2⟩
  | succ k=>simp at hk⟩
end
section
variable{P:Program}{N:Nat}{w0:World}{M H:Nat→Prop}{E:el}{Γ R:dQ}{Q:Exit→Act→World→Prop}
def Nx(P:Program)(N:Nat)(w0:World)(M H:Nat→Prop)(E:el)(Γ R:dQ)(l:List Oper)(Q:Exit→Act→World→Prop)(V:dg)(C:List Nat)(c:Nat):Prop:=
 ∀ord D a w o,l[c]?=some o→D c=false→(∀j∈d9 o,D j=true)→Ord l (fun j=>bif Nat.beq j c then true else D j) ord→StI N w0 M H E Γ R l V C D a w→wpOps P l.toArray Q (c::ord) a w
def NxAll(P:Program)(N:Nat)(w0:World)(M H:Nat→Prop)(E:el)(Γ R:dQ)(l:List Oper)(Q:Exit→Act→World→Prop)(V:dg)(C:List Nat):List Nat→Prop
 | []=>True
 | c::cs=>Nx P N w0 M H E Γ R l Q V C c∧NxAll P N w0 M H E Γ R l Q V C cs
theorem NxAll.get{l:List Oper}{V:dg}{C:List Nat}:∀{cs:List Nat},NxAll P N w0 M H E Γ R l Q V C cs→∀c∈cs,Nx P N w0 M H E Γ R l Q V C c
 | [],_,c,h=>by simp at h
 | d::cs,hp,c,h=>by
  rcases List.mem_cons.1 h with rfl|h
  ·exact hp.1
  ·exact hp.2.get c h
theorem ju{l:List Oper}{V:dg}{C:List Nat}:NxAll P N w0 M H E Γ R l Q V C []:=trivial
theorem dx{l:List Oper}{V:dg}{C:List Nat}{c:Nat}{cs:List Nat}(h:Nx P N w0 M H E Γ R l Q V C c)(hs:NxAll P N w0 M H E Γ R l Q V C cs):NxAll P N w0 M H E Γ R l Q V C (c::cs):=⟨h,hs⟩
def KY(l:List Oper)(I:List Nat)(cs:List Nat):Bool:=
 (List.range l.length).all fun i=>I.any (Nat.beq i) || oS cs i || (match l[i]? with|some o=>(d9 o).any (fun j=> !(I.any (Nat.beq j)))|none=>true)
theorem fS{l:List Oper}{V:dg}{C:List Nat}(is:List Nat){I:dg}(hI0:ib is V=I)(hst:uR N E V=true)(hI:PRs P N w0 M H E Γ R l V I)(hcov:sS V is C=true)(cs:List Nat)
  (hcls:KY l (dR V++C) cs=true) (hne:(match cs with|c::_=>Nat.blt c l.length&& !(oS (dR V++C) c)|[]=>false)=true) (hmem:NxAll P N w0 M H E Γ R l Q V C cs):
  Fa P N w0 M H E Γ R l Q V C:=by
 obtain⟨h1,h2,h3,h4⟩:=pI hst;intro ord
 induction ord with
 | nil=>
  intro D a w ho hS;cases ho with
  | nil h=>
   cases cs with
   | nil=>cases hne
   | cons c cs=>
    simp only [Bool.and_eq_true,Bool.not_eq_true']at hne;have:=ew (hS.done c (h c (by simpa using hne.1)));rw [this]at hne;cases hne.2
 | cons i ord ih=>
  intro D a w ho hS;cases ho with
  | cons hio hD hpr hrest=>
   have hi:i<l.length:=(List.getElem?_eq_some_iff.1 hio).1;have hc:=List.all_eq_true.1 hcls i (by simpa using hi);simp only [hio,Bool.or_eq_true]at hc;rcases hc with(hc|hc)|hc
   ·have hiV:i∈dR V:=by
     rcases List.mem_append.1 (eT hc:i∈dR V++C)with h|h
     ·exact h
     ·have:=hS.sure i h;rw [hD]at this;cases this
    have hcv:=List.all_eq_true.1 hcov i hiV;simp only [Bool.or_eq_true]at hcv;rcases hcv with hcv|hcv
    ·obtain⟨d,v,hm⟩:=nt hiV (eT hcv);exact uQ h1 h2 h3 h4 (kF hm) ((hI0▸hI:PRs P N w0 M H E Γ R l V (ib is V)).get i d v hm) hio hpr hS fun a' hS'=>ih _ a' w hrest hS'
    ·have:=hS.sure i (eT hcv);rw [hD]at this;cases this
   ·exact hmem.get i (eT hc) ord D a w _ hio hD hpr hrest hS
   ·obtain⟨j,hj,hjn⟩:=List.any_eq_true.1 hc;have hjV:=ew (hS.done j (hpr j hj));rw [oS]at hjV;rw [hjV]at hjn;simp at hjn
theorem eu{l:List Oper}{V:dg}{C:List Nat}(c:Nat)(C' Jx:List Nat){X:Type}{φ:X→Prop}{v:X→Value}{Γ' R':X→dQ}{d:Nat}{o:Oper}(J':X→dg)
  (ho:l[c]?=some o) (hdst:o.dst=some d) (hgd:o.guard=none) (hd:Nat.blt d N=true) (hdE:dK E d=none) (hdV:oS (fo V) d=false) (hcV:oS (dR V++C) c=false)
  (hcl:yE l C c [] C'=true) (hCC0:C.all (oS C')=true) (hJ:∀x,φ x→dR (J' x)=Jx) (hJx:Jx.all (fun j=> !(oS (dR V++C) j)&& !(Nat.beq j c))=true) (hms:MS P N w0 M H (vpre (d9 o) V++E) Γ R o φ v Γ' R')
  (k:∀x,φ x→Fa P N w0 M H E (Γ' x) (R' x) l Q (J' x++(c,d,v x)::V) C'):Nx P N w0 M H E Γ R l Q V C c:=by
 have hCC:∀j∈C,j∈C':=fun j hj=>eT (List.all_eq_true.1 hCC0 j hj)
 intro ord D a w o' hio hDk hpr hrest hS;rw [ho]at hio;injection hio with hio;subst hio;have ho':l.toArray[c]?=some o:=by simpa using ho
 simp only [wpOps,ho'];rw [if_pos (by simp [Region.wanted,hgd])];left;have hEp:EOk N (vpre (d9 o) V++E) a:=hS.base.vpre fun j d v hj hjp=>hS.vals j d v hj (hpr j hjp)
 have hlt:d<a.tmps.size:=Nat.lt_of_lt_of_le (by simpa using hd) hS.base.size;refine hms a w hEp hS.ok _ _ fun x w' hφ hC'=> ?_
 rw [hdst];have hclosed:∀(j:Nat)(o':Oper),l[j]?=some o'→(bif Nat.beq j c then true else D j)=true→∀k∈d9 o',(bif Nat.beq k c then true else D k)=true:=by
  intro j o' hoj hj q hq;cases hb:Nat.beq j c with
  | true=>
   have:=Nat.eq_of_beq_eq_true hb;subst this;rw [ho]at hoj;injection hoj with hoj;subst hoj;simp [hpr q hq]
  | false=>rw [hb]at hj;simp [hS.closed j o' hoj hj q hq]
 refine k x hφ ord _ _ w' hrest ⟨fun j hj=> ?_,jf (fun i hi=>by simp [hS.sure i hi]) (by simp) hclosed C' [] hcl (fun s hs=>by simp at hs),hclosed,⟨hS.base.defers,by simpa [Act.put]using hS.base.size,fun t u ht=> ?_⟩,fun j e u hj hjD=> ?_,hC'⟩
 ·rw [mg];show j∈dR (J' x)++(c::dR V)++C';cases hb:Nat.beq j c with
  | true=>rw [Nat.eq_of_beq_eq_true hb];simp
  | false=>
   rw [hb]at hj;rcases List.mem_append.1 (hS.done j hj)with h|h
   ·simp [h]
   ·have:=hCC j h;simp [this]
 ·simp only [Act.put,Array.getElem?_setIfInBounds];have hne:d≠t:=fun e=>by subst e;rw [hdE]at ht;cases ht
  rw [if_neg hne];exact hS.base.slot t u ht
 ·simp only [Act.put,Array.getElem?_setIfInBounds];rcases List.mem_append.1 hj with hj|hj
  ·exfalso;have hjx:j∈Jx:=by rw [←hJ x hφ];exact eD.2 ⟨e,u,hj⟩
   have h6:=List.all_eq_true.1 hJx j hjx;simp only [Bool.and_eq_true,Bool.not_eq_true']at h6;rw [h6.2]at hjD;have:=ew (hS.done j hjD);rw [this]at h6;simp at h6
  ·rcases List.mem_cons.1 hj with e'|e'
   ·cases e';simp [hlt]
   ·have hne:d≠e:=fun h=>by
     subst h;rw [ew (fK e')]at hdV;cases hdV
    rw [if_neg hne];cases hb:Nat.beq j c with
    | true=>
     have:=Nat.eq_of_beq_eq_true hb;subst this;rw [ew (List.mem_append_left _ (eD.2 ⟨e,u,e'⟩))]at hcV;cases hcV
    | false=>rw [hb]at hjD;exact hS.vals j e u e' hjD
/-! ### Sub-slices -/
def Ff(x:SV)(j s:Nat):SV:=⟨if x.c=j then x.a else x.a.map (·.add (j*s)),x.n-j,x.c-j⟩
def GQ(x:SV)(j:Nat):SV:=⟨x.a,j,x.c⟩
theorem xI{α:Type}{S U:TypeId}{D:TypeDesc}{z:Value}{s bb j:Nat}{enc:α→List Value}{x y:Operand}{k:IntKind}{i:Int}{v:SV}{l:List α}(hS:P.underlying S=some (.slice U))(hU:TI P U D z s bb)(hx:ev E x=some (sv v))(hy:ev E y=some (.int k i))(hs:HasSl Γ R s enc (sv v) l)(hi:i=(j:Int))(hj:j≤l.length):PR P N w0 M H E Γ R (.slice S x (some y) none none) (sv (Ff v j s)):=
 fun _ _ _ a w hE hC _ _=>by
  subst hi;obtain⟨G,c,h1,h2,h3⟩:=hs.ok hC;obtain⟨va,vn,vc⟩:=v;rcases h3 with⟨rfl,_,hv⟩|⟨b,o,hv,_,_⟩
  ·simp [sv]at hv;obtain⟨rfl,rfl,rfl⟩:=hv;have hj0:j=0:=by simpa using hj
   subst hj0;simp [execOp,hE.ev hx,hE.ev hy,Instr.sliceAt,Instr.slice,run_underlying hS,Instr.sliceBounds,Instr.sliceBound,asIntOf,hU.sizeOf,sv,Ff]
  ·simp [sv]at hv;obtain⟨rfl,rfl,rfl⟩:=hv;have hjc:(j:Int)≤l.length:=by omega
   by_cases hcj:vc=j
   ·simp [execOp,hE.ev hx,hE.ev hy,Instr.sliceAt,Instr.slice,run_underlying hS,Instr.sliceBounds,Instr.sliceBound,asIntOf,hU.sizeOf,sv,hjc,cC,hcj,Ff];exact fun h=>absurd h (by omega)
   ·simp [execOp,hE.ev hx,hE.ev hy,Instr.sliceAt,Instr.slice,run_underlying hS,Instr.sliceBounds,Instr.sliceBound,asIntOf,hU.sizeOf,sv,hjc,cC,hcj,Ff];exact fun h=>absurd h (by omega)
theorem lM{α:Type}{S U:TypeId}{D:TypeDesc}{z:Value}{s bb j:Nat}{enc:α→List Value}{x y:Operand}{k:IntKind}{i:Int}{v:SV}{l:List α}(hS:P.underlying S=some (.slice U))(hU:TI P U D z s bb)(hx:ev E x=some (sv v))(hy:ev E y=some (.int k i))(hs:HasSl Γ R s enc (sv v) l)(hi:i=(j:Int))(hj:j≤l.length):PR P N w0 M H E Γ R (.slice S x none (some y) none) (sv (GQ v j)):=
 fun _ _ _ a w hE hC _ _=>by
  subst hi;obtain⟨G,c,h1,h2,h3⟩:=hs.ok hC;obtain⟨va,vn,vc⟩:=v;rcases h3 with⟨rfl,_,hv⟩|⟨b,o,hv,_,_⟩
  ·simp [sv]at hv;obtain⟨rfl,rfl,rfl⟩:=hv;have hj0:j=0:=by simpa using hj
   subst hj0;simp [execOp,hE.ev hx,hE.ev hy,Instr.sliceAt,Instr.slice,run_underlying hS,Instr.sliceBounds,Instr.sliceBound,asIntOf,hU.sizeOf,sv,GQ]
  ·simp [sv]at hv;obtain⟨rfl,rfl,rfl⟩:=hv;have hjc:(j:Int)≤vc:=by omega
   simp [execOp,hE.ev hx,hE.ev hy,Instr.sliceAt,Instr.slice,run_underlying hS,Instr.sliceBounds,Instr.sliceBound,asIntOf,hU.sizeOf,sv,hjc,cC,GQ];intro h;omega
theorem Ig{α:Type}{s j:Nat}{enc:α→List Value}(he:∀x,(enc x).length=s){v:SV}{l:List α}(hj:j≤l.length){w:World}{G:Nat→Prop}(h:ng w G s enc (sv v) l):ng w G s enc (sv (Ff v j s)) (l.drop j):=by
 obtain⟨c,h1,h2,h3⟩:=h;obtain⟨va,vn,vc⟩:=v;rcases h3 with⟨rfl,hn,hv⟩|⟨b,o,hv,hb,hc⟩
 ·simp [sv]at hv;obtain⟨rfl,rfl,rfl⟩:=hv;exact⟨0,by simp,by unfold maxLen;omega,.inl ⟨by simp,hn,by simp [Ff,sv]⟩⟩
 ·simp [sv]at hv;obtain⟨rfl,rfl,rfl⟩:=hv;refine⟨vc-j,by rw [List.length_drop];omega,by omega,.inr ⟨b,if vc=j then o else o+j*s,by simp [sv,Ff];split<;>simp [cC],hb,fun q u hq=> ?_⟩⟩;by_cases hcj:vc=j
  ·have:l.drop j= []:=List.drop_eq_nil_of_le (by omega);rw [this]at hq;simp at hq
  ·rw [if_neg hcj,Nat.add_assoc];exact hc _ u (sH he hj hq)
theorem Ih{α:Type}{s j:Nat}{enc:α→List Value}{v:SV}{l:List α}(hj:j≤l.length){w:World}{G:Nat→Prop}(h:ng w G s enc (sv v) l):ng w G s enc (sv (GQ v j)) (l.take j):=by
 obtain⟨c,h1,h2,h3⟩:=h;obtain⟨va,vn,vc⟩:=v;rcases h3 with⟨rfl,hn,hv⟩|⟨b,o,hv,hb,hc⟩
 ·simp [sv]at hv;obtain⟨rfl,rfl,rfl⟩:=hv;have hj0:j=0:=by simpa using hj
  subst hj0;exact⟨0,by simp,by unfold maxLen;omega,.inl ⟨by simp,hn,by simp [GQ,sv]⟩⟩
 ·simp [sv]at hv;obtain⟨rfl,rfl,rfl⟩:=hv;refine⟨vc,by rw [List.length_take];omega,h2,.inr ⟨b,o,by simp [sv,GQ,Nat.min_eq_left hj],hb,fun q u hq=>hc q u ?_⟩⟩;have:l.flatMap enc=(l.take j).flatMap enc++(l.drop j).flatMap enc:=by rw [←List.flatMap_append,List.take_append_drop]
  rw [this,List.getElem?_append_left (List.getElem?_eq_some_iff.1 hq).1];exact hq
theorem Mu{α:Type}(r m j:Nat){s:Nat}{enc:α→List Value}{v:SV}{l:List α}{Rel:Act→World→Prop}(hr:bL R r=some (sl s enc (sv v) l))(hj:j≤l.length)(h:At N w0 M H E Γ ((m,sl s enc (sv (GQ v j)) (l.take j))::R) Rel):At N w0 M H E Γ R Rel:=
 h.weak (fun _ h=>h) fun w hC=>hC.more hr fun G hG _=>⟨G,Ih (s:=s) hj hG,fun _ hb=>hb⟩
end
section
variable{P:Program}{N:Nat}{w0:World}{M H:Nat→Prop}{E:el}{Γ R:dQ}{Q:Exit→Act→World→Prop}
variable{ops:Array Oper}{rest:List Oper}{T:TypeId}{ps:String}{af:Array Edge}{d:Nat}{op:Op}
def SlS{α:Type}(w0:World)(M H:Nat→Prop)(Γ R:dQ)(s:Nat)(enc:α→List Value)(v:Value)(l:List α):Prop:=∀w,COk w0 M H Γ R w→∃G,ng w G s enc v l
theorem SlS.of{α:Type}{s:Nat}{enc:α→List Value}{v:Value}{l:List α}(h:HasSl Γ R s enc v l):SlS w0 M H Γ R s enc v l:=fun _ hC=>h.ok hC
theorem SlS.lo{α:Type}{s j:Nat}{enc:α→List Value}{v:SV}{l:List α}(h:SlS w0 M H Γ R s enc (sv v) l)(he:∀x,(enc x).length=s)(hj:j≤l.length):SlS w0 M H Γ R s enc (sv (Ff v j s)) (l.drop j):=fun w hC=>
 let⟨G,hG⟩:=h w hC
 ⟨G,Ig he hj hG⟩
theorem SlS.hi{α:Type}{s j:Nat}{enc:α→List Value}{v:SV}{l:List α}(h:SlS w0 M H Γ R s enc (sv v) l)(hj:j≤l.length):SlS w0 M H Γ R s enc (sv (GQ v j)) (l.take j):=fun w hC=>
 let⟨G,hG⟩:=h w hC
 ⟨G,Ih hj hG⟩
end
section
end
section
variable{P:Program}{N:Nat}{w0:World}{M H:Nat→Prop}{E:el}{Γ R:dQ}{Q:Exit→Act→World→Prop}
end
section
variable{P:Program}{N:Nat}{w0:World}{M H:Nat→Prop}{E:el}{Γ R:dQ}
theorem se{α:Type}{S U:TypeId}{D:TypeDesc}{z:Value}{s bb j:Nat}{x y:Operand}{k:IntKind}{i:Int}{enc:α→List Value}{v:Value}{l:List α}(hS:P.underlying S=some (.slice U))(hU:TI P U D z s bb)(hx:ev E x=some v)(hy:ev E y=some (.int k i))(hs:SlS w0 M H Γ R s enc v l)(hi:i=(j:Int))(hj:j<l.length):
  PR P N w0 M H E Γ R (.indexAddr S x y) (.pointer (some ⟨ig v,jp v+j*s,none⟩)):=fun _ _ _ a w hE hC _ _=>by
 obtain⟨G,c,h1,h2,h3⟩:=hs w hC;rcases h3 with⟨rfl,_⟩|⟨b,o,rfl,_,_⟩
 ·simp at hj
 ·subst hi;simp [execOp,hE.ev hx,hE.ev hy,Instr.indexAt,asIntOf,run_underlying hS,hU.sizeOf,cC,hj,ig,jp]
theorem KG{α:Type}{s:Nat}{enc:α→List Value}{v:Value}{l:List α}(h:SlS w0 M H Γ R s enc v l)(he:∀x,(enc x).length=s){i o:Nat}{x:α}(hx:l[i]?=some x){us:List Value}(hu:((enc x).drop o).take us.length=us):
  Gives w0 M H Γ R (ig v) (jp v+i*s+o) us:=by
 intro w hC j u hj;obtain⟨G,c,h1,h2,h3⟩:=h w hC;rcases h3 with⟨rfl,_⟩|⟨b,o',rfl,_,hc⟩
 ·simp at hx
 ·simp only [ig,jp];have hxu:(enc x)[o+j]?=some u:=by
   rw [←hu,List.getElem?_take]at hj;split at hj
   ·simpa using hj
   ·cases hj
  have:=hc _ u (lS he l i (o+j) x u hx hxu)
  rwa [show o'+(i*s+(o+j))=o'+i*s+o+j by omega]at this
theorem Nb{α:Type}{s:Nat}{enc:α→List Value}{v:Value}{l:List α}(h:SlS w0 M H Γ R s enc v l)(he:∀x,(enc x).length=s){i:Nat}{x:α}(hx:l[i]?=some x):
  Gives w0 M H Γ R (ig v) (jp v+i*s) (enc x):=by
 have:=KG (w0:=w0) (M:=M) (H:=H) h he (o:=0) hx (us:=enc x) (by simp);simpa using this
theorem D0{α:Type}{s:Nat}{enc:α→List Value}{v:Value}{l:List α}(h:SlS w0 M H Γ R s enc v l)(he:∀x,(enc x).length=s){i:Nat}{x:α}(hx:l[i]?=some x){us:List Value}(hu:enc x=us):Gives w0 M H Γ R (ig v) (jp v+i*s) us:=hu▸Nb h he hx
end
section
variable{P:Program}{N:Nat}{w0:World}{M H:Nat→Prop}{E:el}{Γ R:dQ}{Q:Exit→Act→World→Prop}
end
section
variable{P:Program}
theorem OH{S:TypeId}{a b:Bool}(hS:P.underlying S=some .bool):dM P .eql S (.bool a) (.bool b) (.bool (a==b)):=fun x y w=>by
 have:=run_equal_bool (P:=P) w S a b hS;rw [Ep];simp [binOp,this]
end
end Go.Proofs.YtedmdgbmdplifaaGreat
namespace Go.Proofs.YtedmdgbmdplifaaGreat
set_option linter.unusedSimpArgs false
set_option linter.unusedVariables false
set_option linter.unusedSectionVars false
open Go.RowKit
/-! ### Plain lists by key -/
section
variable{α κ:Type} [DecidableEq κ]
def yl(kf:α→κ)(vf:α→Value)(k:κ):List (α×Nat)→Nat→Option (Nat×Value)
  | [],_=>none
  | m::r,i=>if kf m.1=k then some (i,vf m.1)else yl kf vf k r (i+1)
theorem qB{kf:α→κ}{vf:α→Value}{k:κ}:∀{ms:List (α×Nat)}{i:Nat},yl kf vf k ms i=none→∀m∈ms,kf m.1≠k
  | [],_,_,m,hm=>by simp at hm
  | m0::r,i,h,m,hm=>by
    simp only [yl]at h;by_cases e:kf m0.1=k
    · rw [if_pos e]at h;cases h
    · rw [if_neg e]at h;rcases List.mem_cons.1 hm with rfl|hm
      · exact e
      · exact qB h m hm
theorem qA{kf:α→κ}{vf:α→Value}{k:κ}:∀{ms:List (α×Nat)}{i j:Nat}{v:Value},yl kf vf k ms i=some (j,v)→i≤j∧∃m,ms[j-i]?=some m∧kf m.1=k∧v=vf m.1
  | [],_,_,_,h=>by cases h
  | m0::r,i,j,v,h=>by
    simp only [yl]at h;by_cases e:kf m0.1=k
    · rw [if_pos e]at h;simp at h;obtain⟨rfl,rfl⟩:=h;exact⟨Nat.le_refl _,m0,by simp,e,rfl⟩
    · rw [if_neg e]at h;obtain⟨h1,m,h2,h3,h4⟩:=qA h;refine⟨by omega,m,?_,h3,h4⟩;rw [show j-i=(j-(i+1))+1 by omega];simpa using h2
structure MW(kf:α→κ)(ms:List (α×Nat))(clk:Nat):Prop where
  keys:(ms.map fun m=>kf m.1).Nodup
  born:(ms.map (·.2)).Nodup
  lt:∀m∈ms,m.2<clk
def iQ(mk:κ→Value)(kf:α→κ)(vf:α→Value)(m:α×Nat):MapEntry:={key:=mk (kf m.1),val:=vf m.1,born:=m.2}
structure KeyLaw(P:Program)(kt:TypeId)(mk:κ→Value):Prop where
  check:∀(b:Bool)(k:κ)(w:World),(Instr.checkKey b 10000 kt (mk k)).run P w= .ok () w
  find:∀{α:Type}(kf:α→κ)(vf:α→Value)(k:κ)(ms:List (α×Nat))(w:World),(Instr.findKey kt (mk k) (ms.map (iQ mk kf vf))).run P w= .ok (yl kf vf k ms 0) w
  stays:∀k:κ,Instr.sameBits 10000 (mk k) (mk k)=true
end
section
variable{α κ:Type} [DecidableEq κ]
def M5(mk:κ→Value)(kf:α→κ)(vf:α→Value)(o:Option Nat)(ms:List (α×Nat))(clk:Nat):Asn:=
  ⟨fun w F=>MW kf ms clk∧(∀x,F x↔o=some x)∧(o=none→ms= [])∧∀b,o=some b→w.heap[b]?=some (.map (ms.map (iQ mk kf vf)).toArray clk),
   fun⟨h0,h1,h2,h3⟩ hs=>⟨h0,h1,h2,fun b hb=>(hs b ((h1 b).2 hb)).trans (h3 b hb)⟩⟩
def mp(mk:κ→Value)(kf:α→κ)(vf:α→Value)(o:Option Nat)(L:List α):Asn:=
  ⟨fun w F=>∃ms clk,(ms.map (·.1)).Perm L∧(M5 mk kf vf o ms clk).pred w F,fun⟨ms,clk,h1,h2⟩ hs=>⟨ms,clk,h1,(M5 mk kf vf o ms clk).stable h2 hs⟩⟩
end
theorem MW.find{α κ:Type} [DecidableEq κ]{kf:α→κ}{ms:List (α×Nat)}{clk:Nat}(h:MW kf ms clk){L:List α}(hp:(ms.map (·.1)).Perm L){k:κ}{m:α×Nat}(hm:m∈ms)(hk:kf m.1=k):L.find? (fun a=>decide (kf a=k))=some m.1:=by
  have hmem:m.1∈L:=hp.mem_iff.1 (List.mem_map.2 ⟨m,hm,J⟩);have hnd:(L.map kf).Nodup:=by
    have:=(hp.map kf).nodup_iff.1 (by rw [List.map_map];exact h.keys);exact this
  cases hf:L.find? (fun a=>decide (kf a=k))with
  | none=>
    have:=List.find?_eq_none.1 hf m.1 hmem;simp [hk]at this
  | some a=>
    have h1:=List.find?_some hf;have h2:=List.mem_of_find?_eq_some hf;simp at h1;have:a=m.1:=by
      have hi:=List.getElem_of_mem h2;have hj:=List.getElem_of_mem hmem;obtain⟨i,hi,ei⟩:=hi;obtain⟨j,hj,ej⟩:=hj;have hp2:=List.pairwise_iff_getElem.1 hnd;rcases Nat.lt_trichotomy i j with hlt|he|hlt
      · have:=hp2 i j (by simpa using hi) (by simpa using hj) hlt;simp [ei,ej,h1,hk]at this
      · subst he;rw [←ei,←ej]
      · have:=hp2 j i (by simpa using hj) (by simpa using hi) hlt;simp [ei,ej,h1,hk]at this
    rw [this]
theorem MW.nofind{α κ:Type} [DecidableEq κ]{kf:α→κ}{ms:List (α×Nat)}{L:List α}(hp:(ms.map (·.1)).Perm L){k:κ}(hk:∀m∈ms,kf m.1≠k):L.find? (fun a=>decide (kf a=k))=none:=by
  refine List.find?_eq_none.2 fun a ha=> ?_
  obtain⟨m,hm,rfl⟩:=List.mem_map.1 (hp.mem_iff.2 ha);simpa using hk m hm
def zD:Obj→Bool
  | .cells _ _ _=>false
  | _=>true
theorem jq{P:Program}{w:World}{r:Nat}{o:Obj}(h:w.heap[r]?=some o)(hn:zD o=true):(getObj r).run P w= .ok o w:=by
  simp only [getObj,Sem.run,h];cases o<;>simp_all [zD]
theorem lG{P:Program}{w:World}{r:Nat}{o:Obj}(h:w.heap[r]?=some o)(hn:zD o=true)(o':Obj):(setObj r o').run P w= .ok () (Go.ChangeMaps.setBlock w r o'):=by
  simp only [setObj,Sem.run,h,Go.ChangeMaps.setBlock];cases o<;>simp_all [zD]
theorem kb{w:World}{r:Nat}{o':Obj}{M:Nat→Prop}(hM:M r):Touch M w (Go.ChangeMaps.setBlock w r o'):=
  ⟨rfl,rfl,rfl,by simp [Go.ChangeMaps.setBlock],fun k hk hm=>by
    simp only [Go.ChangeMaps.setBlock,Array.getElem?_setIfInBounds];rw [if_neg (fun e:r=k=>hm (e▸hM))]⟩
theorem lx{w:World}{r:Nat}{o o':Obj}(h:w.heap[r]?=some o):(Go.ChangeMaps.setBlock w r o').heap[r]?=some o':=by
  have:=(Array.getElem?_eq_some_iff.1 h).1;simp [Go.ChangeMaps.setBlock,this]
theorem lw{w:World}{r:Nat}{o':Obj}:(Go.ChangeMaps.setBlock w r o').heap.size=w.heap.size:=by simp [Go.ChangeMaps.setBlock]
section
variable{P:Program}{N:Nat}{w0:World}{M H:Nat→Prop}{E:el}{Γ R:dQ}{Q:Exit→Act→World→Prop}
variable{ops:Array Oper}{rest:List Oper}{T:TypeId}{ps:String}{af:Array Edge}{d:Nat}{op:Op}
variable{α κ:Type} [DecidableEq κ]{mk:κ→Value}{kf:α→κ}{vf:α→Value}
def HasMp(Γ R:dQ)(mk:κ→Value)(kf:α→κ)(vf:α→Value)(o:Option Nat)(L:List α):Prop:=(∃k,bL Γ k=some (mp mk kf vf o L))∨∃k,bL R k=some (mp mk kf vf o L)
theorem DN{k:Nat}{o:Option Nat}{L:List α}(h:bL Γ k=some (mp mk kf vf o L)):HasMp Γ R mk kf vf o L:= .inl ⟨k,h⟩
theorem sw{k:Nat}{o:Option Nat}{L:List α}(h:bL R k=some (mp mk kf vf o L)):HasMp Γ R mk kf vf o L:= .inr ⟨k,h⟩
theorem HasMp.ok{o:Option Nat}{L:List α}(h:HasMp Γ R mk kf vf o L){w:World}(hC:COk w0 M H Γ R w):∃G,(mp mk kf vf o L).pred w G:=by
  rcases h with⟨k,hk⟩|⟨k,hk⟩
  · obtain⟨G,h1,_⟩:=hC.reads (.inl hk);exact⟨G,h1⟩
  · obtain⟨G,h1,_⟩:=hC.reads (.inr hk);exact⟨G,h1⟩
theorem xP{S:TypeId}(kf:α→κ)(mk:κ→Value)(vf:α→Value):MS P N w0 M H E Γ R ⟨some d,.makeMap S none,T,ps,af,none⟩ (X:=Nat) (fun _=>True) (fun b=> .map (some b)) (fun b=>(d,mp mk kf vf (some b) [])::Γ) (fun _=>R):=
  gI fun a w hE hC=>⟨w.heap.size,w.alloc (.map #[] 0),trivial,by simp [execOp,Instr.makeMap,newObj,Sem.run],by
    refine hC.new (Touch.alloc _ _ _) ⟨fun x=>x=w.heap.size,⟨[],0,List.Perm.refl _,⟨by simp,by simp,by simp⟩,fun x=>by simp [eq_comm],by simp,fun b hb=> ?_⟩,fun b hb=>by subst hb;simp⟩;simp at hb;subst hb;exact(Go.MapKept.heap_alloc w _).1⟩
theorem kJ{S:TypeId}(kf:α→κ)(mk:κ→Value)(vf:α→Value)(hd:Nat.blt d N=true)(kk:∀b,At N w0 M H ((d,.map (some b))::E) ((d,mp mk kf vf (some b) [])::Γ) R (wpList P ops Q rest)):
    At N w0 M H E Γ R (wpList P ops Q (⟨some d,.makeMap S none,T,ps,af,none⟩::rest)):=xD (xP kf mk vf) hd fun b _=>kk b
theorem mF{S kt et:TypeId}{x y:Operand}{o:Option Nat}{k:κ}{L:List α}{r:Option α}{D:TypeDesc}{z:Value}{s bb:Nat}{ok:Bool}(hS:P.underlying S=some (.map kt et))(hK:KeyLaw P kt mk)(ht:TI P et D z s bb)(hx:ev E x=some (.map o))(hy:ev E y=some (mk k))(hm:HasMp Γ R mk kf vf o L)(hr:L.find? (fun a=>decide (kf a=k))=r):
    PR P N w0 M H E Γ R (.lookup S x y ok) (bif ok then .tuple #[(r.map vf).getD z,.bool r.isSome]else(r.map vf).getD z):=fun _ _ _ a w hE hC _ _=>by
  obtain⟨G,ms,clk,hp,hw,hF,hn,hb⟩:=hm.ok hC;have hrun:∀es:Array MapEntry,es=(ms.map (iQ mk kf vf)).toArray→(∀v ok',(yl kf vf k ms 0=none→v=z∧ok'=false)→(∀i u,yl kf vf k ms 0=some (i,u)→v=u∧ok'=true)→v=(r.map vf).getD z∧ok'=r.isSome):=by
    intro es _ v ok' h1 h2;cases hf:yl kf vf k ms 0 with
    | none=>
      obtain⟨rfl,rfl⟩:=h1 hf;rw [MW.nofind hp (qB hf)]at hr;subst hr;exact⟨J,J⟩
    | some p=>
      obtain⟨i,u⟩:=p;obtain⟨rfl,rfl⟩:=h2 i u hf;obtain⟨_,m,hm1,hm2,rfl⟩:=qA hf;rw [hw.find hp (List.mem_of_getElem? hm1) hm2]at hr;subst hr;exact⟨J,J⟩
  have h0:=hrun _ J;have key:(Instr.lookup S (.map o) (mk k) ok).run P w= .ok (bif ok then .tuple #[(r.map vf).getD z,.bool r.isSome]else(r.map vf).getD z) w:=by
    have hfind:=hK.find kf vf k ms w;unfold Instr.lookup;simp only [Sem.run_bind,run_underlying hS,Result.andThen_ok];cases o with
    | none=>
      rw [hn J]at hfind h0;simp only [List.map_nil]at hfind;simp only [Sem.run_bind,Sem.run_pure,Result.andThen_ok,hK.check,hfind];cases hf:yl kf vf k ([]:List (α×Nat)) 0 with
      | none=>
        obtain⟨h3,h4⟩:=h0 z false (fun _=>⟨J,J⟩) (fun i u h=>by rw [hf]at h;cases h);simp only [Sem.run_bind,ht.zero,Result.andThen_ok,Sem.run_pure,←h3,←h4];cases ok<;>simp
      | some p=>
        obtain⟨i,u⟩:=p;obtain⟨h3,h4⟩:=h0 u true (fun h=>by rw [hf]at h;cases h) (fun i' u' h=>by rw [hf]at h;simp at h;exact⟨h.2,J⟩);simp only [Sem.run_bind,Result.andThen_ok,Sem.run_pure,←h3,←h4];cases ok<;>simp
    | some b=>
      simp only [Sem.run_bind,jq (hb b J) J,Sem.run_pure,Result.andThen_ok,hK.check,hfind];cases hf:yl kf vf k ms 0 with
      | none=>
        obtain⟨h3,h4⟩:=h0 z false (fun _=>⟨J,J⟩) (fun i u h=>by rw [hf]at h;cases h);simp only [Sem.run_bind,ht.zero,Result.andThen_ok,Sem.run_pure,←h3,←h4];cases ok<;>simp
      | some p=>
        obtain⟨i,u⟩:=p;obtain⟨h3,h4⟩:=h0 u true (fun h=>by rw [hf]at h;cases h) (fun i' u' h=>by rw [hf]at h;simp at h;exact⟨h.2,J⟩);simp only [Sem.run_bind,Result.andThen_ok,Sem.run_pure,←h3,←h4];cases ok<;>simp
  simp [execOp,hE.ev hx,hE.ev hy,key]
theorem uT{kf:α→κ}(a:α):∀(l:List α)(i:Nat)(x:α),(l.map kf).Nodup→l[i]?=some x→kf x=kf a→(l.set i a).Perm (a::l.filter fun y=>decide (kf y≠kf a))
  | [],i,x,_,h,_=>by simp at h
  | y::r,0,x,hn,h,hk=>by
    simp at h;subst h;simp only [List.map_cons,List.nodup_cons]at hn;rw [List.set_cons_zero,List.filter_cons_of_neg (by simpa using hk),List.filter_eq_self.2];intro z hz;simp only [decide_eq_true_eq];intro e;exact hn.1 (by rw [hk,←e];exact List.mem_map.2 ⟨z,hz,J⟩)
  | y::r,i+1,x,hn,h,hk=>by
    simp only [List.map_cons,List.nodup_cons]at hn;have hr:r[i]?=some x:=by simpa using h
    have ih:=uT a r i x hn.2 hr hk;have hy:kf y≠kf a:=fun e=>hn.1 (by rw [e,←hk];exact List.mem_map.2 ⟨x,List.mem_of_getElem? hr,J⟩)
    rw [List.set_cons_succ,List.filter_cons_of_pos (by simpa using hy)];exact(ih.cons y).trans (List.Perm.swap a y _)
theorem xU{β γ:Type}(f:β→γ)(g:γ→γ)(l:List β)(i:Nat)(x b:β)(hi:l[i]?=some x)(h:g (f x)=f b):(l.map f).toArray.modify i g=((l.set i b).map f).toArray:=by
  apply Array.ext_getElem?;intro j;rw [Array.getElem?_modify];simp only [List.getElem?_toArray,List.getElem?_map,List.getElem?_set];by_cases e:i=j
  · subst e;obtain⟨hlt,hx⟩:=List.getElem?_eq_some_iff.1 hi;simp [hx,h,hlt]
  · simp [e]
theorem gU{S kt et:TypeId}{x y z:Operand}{b:Nat}{k:Nat}(e:α){L:List α}(L':List α)(hS:P.underlying S=some (.map kt et))(hK:KeyLaw P kt mk)(hx:ev E x=some (.map (some b)))(hy:ev E y=some (mk (kf e)))(hz:ev E z=some (vf e))(hk:bL Γ k=some (mp mk kf vf (some b) L))
    (hp:(e::L.filter fun a=>decide (kf a≠kf e)).Perm L'):
    MS P N w0 M H E Γ R ⟨none,.mapUpdate S x y z,T,ps,af,none⟩ (X:=Unit) (fun _=>True) (fun _=>undef) (fun _=>(k,mp mk kf vf (some b) L')::Γ) (fun _=>R):=by
  intro a w hE hC next Q hn
  obtain⟨G0,⟨ms,clk,hpm,hmp⟩,_⟩:=hC.reads (.inl hk);obtain⟨hW,hF,_,hb⟩:=hmp;have hb:=hb b J;have hfind:=hK.find kf vf (kf e) ms w;have hmid:∃(ms':List (α×Nat))(clk':Nat),(Instr.mapUpdate S (.map (some b)) (mk (kf e)) (vf e)).run P w= .ok () (Go.ChangeMaps.setBlock w b (.map (ms'.map (iQ mk kf vf)).toArray clk'))∧MW kf ms' clk'∧(ms'.map (·.1)).Perm L':=by
    unfold Instr.mapUpdate;simp only [Sem.run_bind,run_underlying hS,Result.andThen_ok,jq hb J,hK.check,hfind];cases hf:yl kf vf (kf e) ms 0 with
    | none=>
      have hno:=qB hf;refine⟨ms++ [(e,clk)],clk+1,?_,⟨?_,?_,?_⟩,?_⟩
      · simp only [lG hb J];simp [iQ]
      · rw [List.map_append,List.nodup_append];refine⟨hW.keys,by simp,fun u hu v hv=> ?_⟩;obtain⟨m,hm,rfl⟩:=List.mem_map.1 hu;simp at hv;subst hv;exact hno m hm
      · rw [List.map_append,List.nodup_append];refine⟨hW.born,by simp,fun u hu v hv=> ?_⟩;obtain⟨m,hm,rfl⟩:=List.mem_map.1 hu;simp at hv;subst hv;exact Nat.ne_of_lt (hW.lt m hm)
      · intro m hm;rcases List.mem_append.1 hm with h|h
        · have:=hW.lt m h;omega
        · simp at h;subst h;simp
      · refine List.Perm.trans ?_ hp;rw [List.map_append];have hfl:L.filter (fun a=>decide (kf a≠kf e))=L:=List.filter_eq_self.2 fun u hu=>by
          obtain⟨m,hm,rfl⟩:=List.mem_map.1 (hpm.mem_iff.2 hu);simpa using hno m hm
        rw [hfl];exact(List.perm_append_singleton e (ms.map (·.1))).trans (hpm.cons e)
    | some p=>
      obtain⟨i,u⟩:=p;obtain⟨_,m,hm1,hm2,rfl⟩:=qA hf;rw [Nat.sub_zero]at hm1;refine⟨ms.set i (e,m.2),clk,?_,⟨?_,?_,?_⟩,?_⟩
      · have hold:(((ms.map (iQ mk kf vf)).toArray[i]?).map (·.key)).getD (mk (kf e))=mk (kf e):=by
          simp [List.getElem?_map,hm1,iQ,hm2]
        simp only [Sem.run_bind,hold,Instr.keyThatStays,hK.stays,if_true,Sem.run_pure,Result.andThen_ok,lG hb J];rw [xU (iQ mk kf vf) _ ms i m (e,m.2) hm1 (by simp [iQ])]
      · have:(ms.set i (e,m.2)).map (fun m=>kf m.1)=ms.map fun m=>kf m.1:=by
          apply List.ext_getElem?;intro j;simp only [List.getElem?_map,List.getElem?_set];by_cases e1:i=j
          · subst e1;obtain⟨hlt,hx2⟩:=List.getElem?_eq_some_iff.1 hm1;simp [hx2,hlt,hm2]
          · simp [e1]
        rw [this];exact hW.keys
      · have:(ms.set i (e,m.2)).map (·.2)=ms.map (·.2):=by
          apply List.ext_getElem?;intro j;simp only [List.getElem?_map,List.getElem?_set];by_cases e1:i=j
          · subst e1;obtain⟨hlt,hx2⟩:=List.getElem?_eq_some_iff.1 hm1;simp [hx2,hlt]
          · simp [e1]
        rw [this];exact hW.born
      · intro m' hm';rcases List.mem_or_eq_of_mem_set hm' with h|h
        · exact hW.lt m' h
        · subst h;exact hW.lt m (List.mem_of_getElem? hm1)
      · refine List.Perm.trans ?_ hp;have e1:(ms.set i (e,m.2)).map (·.1)=(ms.map (·.1)).set i e:=by rw [List.map_set]
        rw [e1];have h2:=uT (kf:=kf) e (ms.map (·.1)) i m.1 (by rw [List.map_map];exact hW.keys) (by simp [hm1]) hm2;exact h2.trans ((hpm.filter _).cons e)
  obtain⟨ms',clk',hrun,hW',hp'⟩:=hmid;unfold Oper.wp;have hex:(execOp a.eval ⟨none,.mapUpdate S x y z,T,ps,af,none⟩).run P w= .ok .skip (Go.ChangeMaps.setBlock w b (.map (ms'.map (iQ mk kf vf)).toArray clk')):=by
    simp [execOp,hE.ev hx,hE.ev hy,hE.ev hz,hrun]
  rw [hex];refine hn () _ trivial (hC.upd hk fun G hG hGlt=> ?_);obtain⟨ms2,clk2,_,_,hF2,_,hb2⟩:=hG;have hGb:G b:=(hF2 b).2 J;refine⟨G,⟨ms',clk',hp',hW',hF2,by simp,fun c hc=> ?_⟩,fun c hc=>⟨by rw [lw];exact hGlt c hc,fun _=>hc⟩,kb hGb⟩;simp at hc;subst hc;exact lx hb
theorem MW.filter{kf:α→κ}{ms:List (α×Nat)}{clk:Nat}(h:MW kf ms clk)(p:α×Nat→Bool):MW kf (ms.filter p) clk:=
  ⟨(List.filter_sublist.map _).nodup h.keys,(List.filter_sublist.map _).nodup h.born,fun m hm=>h.lt m ((List.mem_filter.1 hm).1)⟩
/-! ### Ranging over a map -/
def HasMps(Γ R:dQ)(mk:κ→Value)(kf:α→κ)(vf:α→Value)(o:Option Nat)(ms:List (α×Nat))(clk:Nat):Prop:=(∃k,bL Γ k=some (M5 mk kf vf o ms clk))∨∃k,bL R k=some (M5 mk kf vf o ms clk)
theorem HasMps.ok{o:Option Nat}{ms:List (α×Nat)}{clk:Nat}(h:HasMps Γ R mk kf vf o ms clk){w:World}(hC:COk w0 M H Γ R w):∃G,(M5 mk kf vf o ms clk).pred w G:=by
  rcases h with⟨k,hk⟩|⟨k,hk⟩
  · obtain⟨G,h1,_⟩:=hC.reads (.inl hk);exact⟨G,h1⟩
  · obtain⟨G,h1,_⟩:=hC.reads (.inr hk);exact⟨G,h1⟩
end
section
variable{P:Program}{N:Nat}{w0:World}{M H:Nat→Prop}{E:el}{Γ R:dQ}{Q:Exit→Act→World→Prop}
variable{ops:Array Oper}{rest:List Oper}{T:TypeId}{ps:String}{af:Array Edge}{d:Nat}{op:Op}
/-! ### Calls of function values with first arguments -/
/-! ### nil -/
theorem JP{S t:TypeId}(hS:P.underlying S=some (.pointer t)):P.underlying S=some (.pointer (P.pointee S)):=by
  simp [Program.pointee,hS]
theorem Le{S t:TypeId}{p:Option Addr}(hS:P.underlying S=some (.pointer t)):dM P .eql S (.pointer p) (.pointer none) (.bool p.isNone):=fun x y w=>by
  have:=run_eql_pointer_nil (P:=P) w S p (JP hS);simp [Sem.run_bind,eqGuard,this]
theorem ut{S:TypeId}{a b:ByteArray}(h:a.size+b.size≤1000000):dM P .add S (.string a) (.string b) (.string (a++b)):=fun x y w=>by
  rw [lU];simp [binOp,Op.stringOp];omega
theorem ci{S:TypeId}{a b:ByteArray}:dM P .eql S (.string a) (.string b) (.bool (a==b)):=fun x y w=>by
  rw [lU,beq_toListBytes];simp [binOp,Op.stringOp]
theorem OG{S:TypeId}{a b:ByteArray}:dM P .neq S (.string a) (.string b) (.bool (!(a==b))):=fun x y w=>by
  rw [lU,beq_toListBytes];simp [binOp,Op.stringOp,bne]
/-! ### Strings and bytes -/
def bc(s:ByteArray):List Int:=s.data.toList.map fun b=>(b.toNat:Int)
theorem gk(s:ByteArray):(bc s).length=s.size:=by simp [bc]
theorem ji(s:ByteArray)(j:Nat):0≤(bc s).getD j 0∧(bc s).getD j 0<256:=by
  unfold bc;rw [List.getD_eq_getElem?_getD,List.getElem?_map];cases h:s.data.toList[j]? with
  | none=>simp
  | some b=>simp;have:=b.toNat_lt;omega
def bQ:Int→List Value:=fun n=> [.int .u8 n]
theorem dh{S:TypeId}{x y:Operand}{s:ByteArray}{k:IntKind}{i:Int}{j:Nat}(hS:P.underlying S=some .string)(hx:ev E x=some (.string s))(hy:ev E y=some (.int k i))(hi:i=(j:Int))(hj:j<s.size):
    PR P N w0 M H E Γ R (.index S x y) (.int .u8 ((bc s).getD j 0)):=fun _ _ _ a w hE hC _ _=>by
  subst hi;have hj':j<s.data.size:=hj;have he:(bc s).getD j 0=((s[j]'hj).toNat:Int):=by
    unfold bc;rw [List.getD_eq_getElem?_getD,List.getElem?_map,Array.getElem?_toList,Array.getElem?_eq_getElem hj'];rfl
  rw [he];simp [execOp,hE.ev hx,hE.ev hy,Instr.index,asIntOf,run_underlying hS,hj]
def jY(l:List Int):ByteArray:=l.foldl (fun r n=>r.push (UInt8.ofNat n.toNat)) ByteArray.empty
theorem fU(l:List Int):(jY l).size=l.length:=by
  have:∀(l:List Int)(r:ByteArray),(l.foldl (fun r n=>r.push (UInt8.ofNat n.toNat)) r).size=r.size+l.length:=by
    intro l
    induction l with
    | nil=>intro r;simp
    | cons n l ih=>intro r;rw [List.foldl_cons,ih,ByteArray.size_push,List.length_cons];omega
  have:=this l ByteArray.empty;simpa [jY]using this
theorem Dc{S D U:TypeId}{x:Operand}{v:SV}{l:List Int}(hS:P.underlying S=some (.slice U))(hU:P.underlying U=some (.int .u8))(hD:P.underlying D=some .string)(hx:ev E x=some (sv v))(hs:HasSl Γ R 1 bQ (sv v) l)(hl:l≠ []):
    PR P N w0 M H E Γ R (.convert S D x) (.string (jY l)):=fun _ _ _ a w hE hC _ _=>by
  obtain⟨G,c,h1,h2,h3⟩:=hs.ok hC;rcases h3 with⟨rfl,_⟩|⟨b,o,hv,_,hc⟩
  · exact absurd J hl
  · have hfl:l.flatMap bQ=l.map (Value.int .u8):=by
      clear hl hs hv hc h1 h2
      induction l with
      | nil=>rfl
      | cons y ys ih=>simp [bQ,ih]
    rw [hfl]at hc;have hld:=run_loadCells_list (P:=P) w ⟨b,o,none⟩ (l.map (Value.int .u8)) (fun j u hj=>by rw [cC];exact hc j u hj);rw [List.length_map]at hld;have:=run_bytesToString (P:=P) w ⟨b,o,none⟩ l.length c l hld;simp [execOp,hE.ev hx,hv,run_convert_bytes_string w S D U _ _ _ hS hU hD,this,jY]
/-! ### Many slices to read -/
/-! ### Rows to read -/
theorem KF{k b o:Nat}{S:TypeId}{c us:List Value}(hk:bL R k=some (aY b S c))(hu:(c.drop o).take us.length=us):Gives w0 M H Γ R b o us:=by
  intro w hC j u hj;obtain⟨G,⟨_,h2⟩,_⟩:=hC.reads (.inr hk);rw [cell_of_row w b (o+j) _ S (0,0) h2];rw [←hu,List.getElem?_take]at hj;split at hj
  · simpa using hj
  · cases hj
theorem cz{k b o:Nat}{S:TypeId}{c:List Value}{u:Value}(hk:bL R k=some (aY b S c))(hu:c[o]?=some u):Gives w0 M H Γ R b o [u]:=by
  intro w hC j u' hj;obtain⟨G,⟨_,h2⟩,_⟩:=hC.reads (.inr hk);cases j with
  | zero=>simp at hj;subst hj;rw [cell_of_row w b (o+0) _ S (0,0) h2];simpa using hu
  | succ j=>simp at hj
theorem j_(z:Int):0≤IntKind.u32.wrap z∧IntKind.u32.wrap z<4294967296:=by
  simp only [IntKind.wrap,IntKind.signed,IntKind.bits];simp;omega
end
inductive Fin where
 | ret (v:Value)
 | pan (v:Value)
def Fin.ending:Fin→Ending
 | .ret v=> .returned v
 | .pan v=> .panicked [{v:=v,recovered:=false}]
def Ro(w0:World)(M H:Nat→Prop){X:Type}(φ:X→Prop)(v:X→Fin)(L R:X→List Asn):Ending→World→Prop:=
 fun e w'=>∃x,φ x∧e=(v x).ending∧LOk w0 M H (L x) (R x) w'
def SpecE(P:Program)(n:Nat)(vs:List Value)(L R0:List Asn){X:Type}(φ:X→Prop)(v:X→Fin)(L' R':X→List Asn):Prop:=
 ∀w M H,LOk w M H L R0 w→Calls P n vs.toArray w (Ro w M H φ v L' R')
section
variable{P:Program}{N:Nat}{w0:World}{M H:Nat→Prop}{E:el}{Γ R:dQ}{Q:Exit→Act→World→Prop}
variable{ops:Array Oper}{rest:List Oper}{T:TypeId}{ps:String}{af:Array Edge}{d:Nat}{op:Op}
theorem SpecE.mono{n:Nat}{vs:List Value}{L R0:List Asn}{X Y:Type}{φ:X→Prop}{v:X→Fin}{L' R':X→List Asn}{ψ:Y→Prop}{u:Y→Fin}{K' S':Y→List Asn}(h:SpecE P n vs L R0 φ v L' R')
  (hy:∀x,φ x→∃y,ψ y∧v x=u y∧L' x=K' y∧R' x=S' y):SpecE P n vs L R0 ψ u K' S':=fun w M H hL=>(h w M H hL).mono (by
 rintro e w' ⟨x,h1,h2,h3⟩;obtain⟨y,g1,g2,g3,g4⟩:=hy x h1;exact⟨y,g1,by rw [h2,g2],by rw [←g3,←g4];exact h3⟩)
def Fin.val:Fin→Value
 | .ret v=>v
 | .pan v=>v
/-! ### Entering and leaving -/
end
section
variable{P:Program}{N:Nat}{w0:World}{M H:Nat→Prop}{E:el}{Γ R:dQ}{Q:Exit→Act→World→Prop}
variable{ops:Array Oper}{rest:List Oper}{T:TypeId}{ps:String}{af:Array Edge}{d:Nat}{op:Op}
theorem rM(z:Value)(n:Nat):(madeCells #[z] n).toList=List.replicate n z:=by
 unfold madeCells;apply List.ext_getElem
 ·simp
 ·intro i h1 h2;simp [Nat.mod_one]
theorem qC{α:Type}(enc:α→List Value)(x0:α)(z:Value)(he:enc x0= [z]):∀n,(List.replicate n x0).flatMap enc=List.replicate n z
 | 0=>rfl
 | n+1=>by simp [List.replicate_succ,he,qC enc x0 z he n]
theorem dt{α:Type}{S U:TypeId}{D:TypeDesc}{z:Value}{bb c:Nat}(enc:α→List Value)(x0:α){x y:Operand}{k k':IntKind}{i j:Int}(hS:P.underlying S=some (.slice U))(hU:TI P U D z 1 bb)(h1:z.cells= #[z])(he:enc x0= [z])(hx:ev E x=some (.int k i))(hy:ev E y=some (.int k' j))(hi:i=(c:Int))(hj:j=(c:Int))(hc:bb*c≤281474976710656)(hc2:c≤maxLen):
  MS P N w0 M H E Γ R ⟨some d,.makeSlice S x y,T,ps,af,none⟩ (X:=SV) (fun _=>True) (fun v'=>sv v') (fun v'=>(d,own U 1 enc (sv v') (List.replicate c x0))::Γ) (fun _=>R):=by
 subst hi;subst hj;refine gI fun a w hE hC=> ?_
 obtain⟨i,i1,i2,i3,i4⟩:=hU.info;have h63':(c:Int)≤9223372036854775807:=by
  have h:=hc2;simp [maxLen]at h;omega
 have hb':(i.bytes:Int)*(c:Int)≤281474976710656:=by
  have h:((i.bytes*c:Nat):Int)≤281474976710656:=by rw [i4];omega
  rwa [Int.natCast_mul]at h
 have hr:=run_make (P:=P) w S U i z hS i1 i2 k k' c c (by omega) (Int.le_refl _) hb' h63';simp only [Int.toNat_natCast,i3,Nat.mul_one,h1]at hr;have ho:(w.alloc (.cells (madeCells #[z] c) U)).ownsRow 0 U 1 (.slice (some ⟨w.heap.size,0,none⟩) c c) (List.replicate c x0).length ((List.replicate c x0).flatMap enc):=by
  refine⟨by rw [qC enc x0 z he];simp,.inr ⟨w.heap.size,c,madeCells #[z] c,by rw [List.length_replicate],Nat.zero_le _,heap_alloc_new w _,by rw [List.length_replicate];exact Nat.le_refl _,hc2,by simp [size_madeCells],?_⟩⟩;rw [rM,qC enc x0 z he];simp
 have hg:=World.grownBy_alloc w (.cells (madeCells #[z] c) U) none;refine⟨⟨some ⟨w.heap.size,0,none⟩,c,c⟩,w.alloc (.cells (madeCells #[z] c) U),trivial,by simp [execOp,hE.ev hx,hE.ev hy,hr,sv],?_⟩;refine hC.new ⟨hg.os,hg.tape,hg.output,hg.size,fun k hk _=>hg.block k hk (by simp)⟩ ⟨fun b=>b=w.heap.size,⟨fun x=>by simp [sv,Value.ownBlock,eq_comm],ho⟩,fun b hb=> ?_⟩;subst hb;exact⟨(ho.lt _ J).2,Nat.le_refl _⟩
theorem tz{α:Type}{S U:TypeId}{D:TypeDesc}{z:Value}{bb c:Nat}(enc:α→List Value)(x0:α){x y:Operand}{k k':IntKind}{i j:Int}(hS:P.underlying S=some (.slice U))(hU:TI P U D z 1 bb)(h1:z.cells= #[z])(he:enc x0= [z])(hx:ev E x=some (.int k i))(hy:ev E y=some (.int k' j))(hi:i=(c:Int))(hj:j=(c:Int))(hc:bb*c≤281474976710656)(hc2:c≤maxLen)(hd:Nat.blt d N=true)
  (kk:∀v':SV,At N w0 M H ((d,sv v')::E) ((d,own U 1 enc (sv v') (List.replicate c x0))::Γ) R (wpList P ops Q rest)):At N w0 M H E Γ R (wpList P ops Q (⟨some d,.makeSlice S x y,T,ps,af,none⟩::rest)):=
 xD (dt enc x0 hS hU h1 he hx hy hi hj hc hc2) hd fun v' _=>kk v'
theorem rG{S:TypeId}{x y:Operand}{k:IntKind}{s:ByteArray}{i:Int}(hS:P.underlying S=some .string)(hx:ev E x=some (.string s))(hy:ev E y=some (.int k i))(h0:0≤i)(h1:i≤s.size):PR P N w0 M H E Γ R (.slice S x none (some y) none) (.string (s.extract 0 i.toNat)):=
 fun _ _ _ a w hE _ _ _=>by
  have h2:=run_sliceAt_string (P:=P) w S (.string s) none (some (.int k i)) none hS;have h3:=run_slice_string_h (P:=P) w S s hS k i h0 h1;simp [execOp,hE.ev hx,hE.ev hy,h2,h3]
theorem rE{S:TypeId}{x y:Operand}{k:IntKind}{s:ByteArray}{i:Int}(hS:P.underlying S=some .string)(hx:ev E x=some (.string s))(hy:ev E y=some (.int k i))(h0:0≤i)(h1:i≤s.size):PR P N w0 M H E Γ R (.slice S x (some y) none none) (.string (s.extract i.toNat s.size)):=
 fun _ _ _ a w hE _ _ _=>by
  have h2:=run_sliceAt_string (P:=P) w S (.string s) (some (.int k i)) none none hS;have h3:=run_slice_string_l (P:=P) w S s hS k i h0 h1;simp [execOp,hE.ev hx,hE.ev hy,h2,h3]
end
theorem km{P:Program}(w:World)(t:TypeId)(s:ByteArray)(ht:P.underlying t=some .string)(kl kh:IntKind)(l h:Int)(h0:0≤l)(h1:l≤h)(h2:h≤s.size):
  (Instr.slice t (.string s) (some (.int kl l)) (some (.int kh h)) none).run P w= .ok (.string (s.extract l.toNat h.toNat)) w:=by
 have eh:(h.toNat:Int)=h:=Int.toNat_of_nonneg (by omega);simp [Instr.slice,run_underlying ht,Instr.sliceBounds,run_sliceBound,sliced, *,eh,(by omega:0≤l),(by omega:0≤h)]
section
variable{P:Program}{N:Nat}{w0:World}{M H:Nat→Prop}{E:el}{Γ R:dQ}{Q:Exit→Act→World→Prop}
variable{ops:Array Oper}{rest:List Oper}{T:TypeId}{ps:String}{af:Array Edge}{d:Nat}{op:Op}
theorem Ef(l:List Int):l.flatMap bQ=l.map (Value.int .u8):=by
 induction l with
 | nil=>rfl
 | cons y ys ih=>simp [bQ,ih]
/-! ### Append of a string -/
def ki(s:ByteArray):List Value:=(bc s).map (Value.int .u8)
theorem kg(s:ByteArray):(ki s).length=s.size:=by unfold ki;rw [List.length_map,gk]
theorem lH(w:World)(s:ByteArray):(Builtin.firstCells 1 s.size (.string s)).run P w= .ok (ki s).toArray w:=by
 have hx:(Array.map (fun b:UInt8=>Value.int IntKind.u8 (b.toNat:Int)) s.data).extract 0 s.size=Array.map (fun b:UInt8=>Value.int IntKind.u8 (b.toNat:Int)) s.data:=by
  have hs:s.size=(Array.map (fun b:UInt8=>Value.int IntKind.u8 (b.toNat:Int)) s.data).size:=by rw [Array.size_map];rfl
  rw [hs,Array.extract_size]
 simp [Builtin.firstCells,hx,ki,bc];apply Array.ext';simp
theorem lI(w:World)(t u ty e:TypeId)(i:TypeInfo)(z:Value)(ht:P.underlying t=some (.slice e))(hu:P.underlying u=some .string)(hi:P.info? e=some i)(hz:i.zero=some z)
  (hsize:i.size=1) (hby:i.bytes=1) (hzs:z.cells.size=1) (v:Value) (n:Nat) (xs:List Value) (hown:w.ownsRow 0 e 1 v n xs) (s:ByteArray) (h63:n+s.size≤1000000):
  ∃v' w',(Builtin.append_ #[t,u] ty #[v,.string s]).run P w= .ok v' w'∧w'.ownsRow 0 e 1 v' (n+s.size) (xs++ki s)∧w.grownBy w' v.ownBlock∧(∀b,v'.ownBlock=some b→b<w.heap.size→v.ownBlock=some b):=by
 have hlen:(xs++ki s).length=(n+s.size)*1:=by rw [List.length_append,hown.1,kg];omega
 have hml:n+s.size≤maxLen:=by unfold maxLen;omega
 have grown:∀(old:Nat),old<n+s.size→∀(aY:Option Nat),
   (w.drew.alloc (.cells (xs.toArray++(ki s).toArray++Builtin.zeroCells z.cells (grownCap w (n+s.size) old e-(n+s.size))) e)).ownsRow 0 e 1
    (.slice (some ⟨w.heap.size,0,none⟩) (n+s.size) (grownCap w (n+s.size) old e)) (n+s.size) (xs++ki s)∧
   w.grownBy (w.drew.alloc (.cells (xs.toArray++(ki s).toArray++Builtin.zeroCells z.cells (grownCap w (n+s.size) old e-(n+s.size))) e)) aY:=by
  intro old ho aY;have hge:=grownCap_ge w (n+s.size) old e;have hcm:grownCap w (n+s.size) old e≤maxLen:=grownCap_le_maxLen w (n+s.size) old e hml;refine⟨⟨hlen,.inr ⟨w.heap.size,_,_,J,Nat.zero_le _,heap_alloc_new w.drew _,hge,hcm,?_,?_⟩⟩,⟨J,J,J,by simp,fun k hk _=>by have:=heap_alloc_old w.drew (.cells (xs.toArray++(ki s).toArray++Builtin.zeroCells z.cells (grownCap w (n+s.size) old e-(n+s.size))) e) (r:=k) (by simpa using hk);exact this⟩⟩
  ·simp only [Array.size_append,List.size_toArray,size_zeroCells,hzs,hown.1,kg];omega
  ·simp only [Array.toList_append,List.append_assoc];rw [←List.append_assoc,←hlen];exact List.take_left
 have hf:∀w':World,(Builtin.firstCells 1 s.size (.string s)).run P w'= .ok (ki s).toArray w':=fun w'=>lH w' s
 rcases hown.2 with⟨rfl,rfl⟩|⟨g,cap,cur,rfl,hbg,hg,hnc,hcm,hcs,htake⟩
 ·have hx:xs= []:=List.eq_nil_of_length_eq_zero (by simpa using hown.1);subst hx;by_cases hm:s.size=0
  ·have hsv:ki s= []:=List.eq_nil_of_length_eq_zero (by rw [kg];exact hm);refine⟨.slice none 0 0,w,?_,by rw [hsv,hm];exact World.ownsRow_nil w 0 e 1,⟨J,J,J,Nat.le_refl _,fun _ _ _=>J⟩,fun b hb=>by simp [Value.ownBlock]at hb⟩;have hf':=hf w;rw [hm]at hf';simp [Builtin.append_,run_underlying ht,run_underlying hu,sizeOf,typeInfo,hi,hsize,Builtin.lenOf,hm,hf']
  ·have h63':¬(9223372036854775807<(s.size:Int)):=by omega
   have h48':¬(281474976710656<Builtin.nextslicecap s.size 0*i.bytes):=by rw [nextslicecap_zero (by omega),hby];omega
   have hgr:=grown 0 (by omega) (Value.ownBlock (.slice none 0 0));simp only [Nat.zero_add,List.nil_append,Array.empty_append]at hgr ⊢;refine⟨_,_,?_,hgr.1,hgr.2,fun b hb hlt=>by simp [Value.ownBlock]at hb;omega⟩;simp [Builtin.append_,run_underlying ht,run_underlying hu,sizeOf,typeInfo,zeroValue,hi,hz,hsize,Builtin.lenOf,hm,h63',h48',Question.forced,run_firstCells_none,hf,newRow,grownCap]
 ·have holds:∀j u,xs[j]?=some u→w.cell? ((⟨g,0,none⟩:Addr).add j)=some u:=hown.cells (g:=g) J;by_cases hroom:n+s.size≤cap
  ·have hfit:0+n*1+0+(ki s).length≤cur.size:=by rw [kg,hcs];omega
   have hst:=run_storeCells_at P g (n*1) e (ki s) 0 cur w hg (by omega) (fun u hu'=>by unfold ki at hu';obtain⟨y,_,rfl⟩:=List.mem_map.1 hu';rfl);simp only [Nat.add_zero]at hst;refine⟨.slice (some ⟨g,0,none⟩) (n+s.size) cap,w.setRow g (cur.toList.take (n*1)++ki s++cur.toList.drop (n*1+(ki s).length)).toArray,?_,⟨hlen,.inr ⟨g,cap,_,J,hbg,setRow_heap w g cur _ e _ hg,hroom,hcm,?_,?_⟩⟩,⟨J,J,J,by simp,fun k _ hk=>setRow_other w g k _ (fun e=>hk (by simp [Value.ownBlock,e]))⟩,fun b hb _=>hb⟩
   ·have h0:0+n*1=n*1:=by omega
    simp [Builtin.append_,run_underlying ht,run_underlying hu,sizeOf,typeInfo,hi,hsize,Builtin.lenOf,hroom,hf,Addr.add_lit];simp only [Nat.mul_one]at hst;simp [hst]
   ·simp only [List.size_toArray,List.length_append,List.length_take,List.length_drop,Array.length_toList,kg];omega
   ·rw [htake,←hlen];exact List.take_left
  ·have h63':¬(9223372036854775807<((n:Int)+(s.size:Int))):=by omega
   have h48':¬(281474976710656<Builtin.nextslicecap (n+s.size) cap*i.bytes):=by
    have:=growslice_fits (need:=n+s.size) (old:=cap) (bytes:=i.bytes) (by omega) (by rw [hby];omega);omega
   have hfo:=run_firstCells_some (P:=P) w.drew 1 n ⟨g,0,none⟩ n cap xs hown.1 (by simpa using holds);have hgr:=grown cap (by omega) (Value.ownBlock (.slice (some ⟨g,0,none⟩) n cap));refine⟨_,_,?_,hgr.1,hgr.2,fun b hb hlt=>by simp [Value.ownBlock]at hb;omega⟩;simp [Builtin.append_,run_underlying ht,run_underlying hu,sizeOf,typeInfo,zeroValue,hi,hz,hsize,Builtin.lenOf,hroom,h63',h48',Question.forced,hf,hfo,newRow,grownCap]
   congr 2
   apply Array.ext';simp [List.append_assoc]
theorem xQ{S SS U:TypeId}{D:TypeDesc}{z:Value}{x y:Operand}{v:Value}{l:List Int}{s:ByteArray}(k:Nat)(hS:P.underlying S=some (.slice U))(hSS:P.underlying SS=some .string)(hU:TI P U D z 1 1)(hzs:z.cells.size=1)
  (hx:ev E x=some v) (hy:ev E y=some (.string s)) (hk:bL Γ k=some (own U 1 bQ v l)) (hm:l.length+s.size≤1000000)
  :MS P N w0 M H E Γ R ⟨some d,.call {callee:= .builtin .append,args:= #[x,y],argTypes:= #[S,SS]},T,ps,af,none⟩ (X:=SV) (fun _=>True) (fun v'=>sv v') (fun v'=>(k,own U 1 bQ (sv v') (l++bc s))::Γ) (fun _=>R):=by
 refine gI fun a w hE hC=> ?_
 obtain⟨G0,hp0,hlt0⟩:=hC.reads (.inl hk);obtain⟨i,i1,i2,i3,i4⟩:=hU.info;obtain⟨v',w',hr,ho,hg,hn⟩:=lI (P:=P) w S SS T U i z hS hSS i1 i2 i3 i4 hzs v l.length _ hp0.2 s hm;obtain⟨xv,rfl⟩:=il ho;refine⟨xv,w',trivial,?_,?_⟩
 ·simp [execOp,resolve,invoke,builtin,hE.ev hx,hE.ev hy,hr]
 ·refine hC.upd hk fun G hG hGlt=>⟨fun b=>(sv xv).ownBlock=some b,⟨fun x=>Iff.rfl,?_⟩,fun b hb=>⟨(ho.lt b hb).2,fun hlt=> ?_⟩,⟨hg.os,hg.tape,hg.output,hg.size,fun i hi hne=>hg.block i hi (fun e=>hne ((hG.1 i).2 e.symm))⟩⟩
  ·rw [List.length_append,List.flatMap_append,gk,Ef (bc s)];exact ho
  ·exact(hG.1 b).2 (hn b hb hlt)
theorem Bl{S SS U:TypeId}{D:TypeDesc}{z:Value}{x y:Operand}{v:Value}{l:List Int}{s:ByteArray}(k:Nat)(hS:P.underlying S=some (.slice U))(hSS:P.underlying SS=some .string)(hU:TI P U D z 1 1)(hzs:z.cells.size=1)
  (hx:ev E x=some v) (hy:ev E y=some (.string s)) (hk:bL Γ k=some (own U 1 bQ v l)) (hm:l.length+s.size≤1000000) (hd:Nat.blt d N=true)
  (kk:∀v':SV,At N w0 M H ((d,sv v')::E) ((k,own U 1 bQ (sv v') (l++bc s))::Γ) R (wpList P ops Q rest)):At N w0 M H E Γ R (wpList P ops Q (⟨some d,.call {callee:= .builtin .append,args:= #[x,y],argTypes:= #[S,SS]},T,ps,af,none⟩::rest)):=
 xD (xQ k hS hSS hU hzs hx hy hk hm) hd fun v' _=>kk v'
/-! ### Slices with an offset, of the call's own -/
theorem iU{S:TypeId}{x y z:Operand}{k k':IntKind}{s:ByteArray}{i j:Int}(hS:P.underlying S=some .string)(hx:ev E x=some (.string s))(hy:ev E y=some (.int k i))(hz:ev E z=some (.int k' j))(h0:0≤i)(h1:i≤j)(h2:j≤s.size):PR P N w0 M H E Γ R (.slice S x (some y) (some z) none) (.string (s.extract i.toNat j.toNat)):=
 fun _ _ _ a w hE _ _ _=>by
  have h3:=run_sliceAt_string (P:=P) w S (.string s) (some (.int k i)) (some (.int k' j)) none hS;have h4:=km (P:=P) w S s hS k k' i j h0 h1 h2;simp [execOp,hE.ev hx,hE.ev hy,hE.ev hz,h3,h4]
/-! ### An array as a slice -/
theorem og{S U:TypeId}{D:TypeDesc}{z:Value}{s bb n b o:Nat}{x:Operand}(hS:P.underlying S=some (.array n U))(hU:TI P U D z s bb)(hx:ev E x=some (.pointer (some ⟨b,o,none⟩)))(hn:0<n):PR P N w0 M H E Γ R (.slice S x none none none) (sv ⟨some ⟨b,o,none⟩,n,n⟩):=
 fun _ _ _ a w hE _ _ _=>by
  have hn0:¬n=0:=by omega
  simp [execOp,hE.ev hx,Instr.sliceAt,Instr.sureAddr,Instr.slice,run_underlying hS,Instr.sliceBounds,Instr.sliceBound,sv,hU.sizeOf,hn0,Addr.add]
end
def eU(x:Int):List Value:= [.int .u32 x]
theorem bR(x y:ByteArray):(x==y)=decide (x=y):=by
 obtain⟨⟨x⟩⟩:=x;obtain⟨⟨y⟩⟩:=y;show((⟨x⟩:Array UInt8)==⟨y⟩)=_;simp;exact Bool.beq_eq_decide_eq x y
def fz(s:ByteArray):Value:= .string s
theorem GG{P:Program}{kt:TypeId}(h:P.underlying kt=some .string):KeyLaw P kt fz where
 check:=fun b k w=>by
  show(Instr.checkKey b (9999+1) kt (.string k)).run P w=_;unfold Instr.checkKey;simp [Sem.run_bind,run_underlying h]
 find:=fun{α} kf vf k ms w=>by
  have hnow:∀(ms:List (α×Nat))(i:Nat),Instr.findNow .string (.string k) (ms.map (iQ fz kf vf)) i=some (yl kf vf k ms i):=by
   intro ms
   induction ms with
   | nil=>intro i;rfl
   | cons m r ih=>
    intro i;simp only [List.map_cons,Instr.findNow,iQ,fz,Instr.sameNow,yl];by_cases e:kf m.1=k
    ·have:(k==kf m.1)=true:=by rw [bR];exact decide_eq_true e.symm
     rw [this,if_pos e]
    ·have:(k==kf m.1)=false:=by rw [bR];exact decide_eq_false fun h=>e h.symm
     rw [this,if_neg e];exact ih (i+1)
  unfold Instr.findKey;simp only [Sem.run_bind,run_underlying h,Result.andThen_ok];show(match Instr.findNow .string (fz k) (ms.map (iQ fz kf vf)) 0 with|some r=>pure r|none=>_:Sem (Option (Nat×Value))).run P w=_;rw [show Instr.findNow .string (fz k) (ms.map (iQ fz kf vf)) 0=some (yl kf vf k ms 0)from hnow ms 0];rfl
 stays:=fun k=>by
  show Instr.sameBits 10000 (.string k) (.string k)=true;simp [Instr.sameBits,bR]
section
variable{P:Program}{N:Nat}{w0:World}{M H:Nat→Prop}{E:el}{Γ R:dQ}{Q:Exit→Act→World→Prop}
variable{ops:Array Oper}{rest:List Oper}{T:TypeId}{ps:String}{af:Array Edge}{d:Nat}
variable{α κ:Type} [DecidableEq κ]{mk:κ→Value}{kf:α→κ}{vf:α→Value}
theorem Bp{S kt et:TypeId}{x y z:Operand}{b:Nat}{k:Nat}(e:α){L:List α}(L':List α)(hS:P.underlying S=some (.map kt et))(hK:KeyLaw P kt mk)(hx:ev E x=some (.map (some b)))(hy:ev E y=some (mk (kf e)))(hz:ev E z=some (vf e))(hk:bL Γ k=some (mp mk kf vf (some b) L))
  (hp:(e::L.filter fun a=>decide (kf a≠kf e)).Perm L'):
  MS P N w0 M H E Γ R ⟨none,.insert S x y z,T,ps,af,none⟩ (X:=Unit) (fun _=>True) (fun _=>undef) (fun _=>(k,mp mk kf vf (some b) L')::Γ) (fun _=>R):=
 fun a w hE hC next Q hn=>gU (T:=T) (ps:=ps) (af:=af) e L' hS hK hx hy hz hk hp a w hE hC next Q hn
theorem bT{S kt et:TypeId}{x y z:Operand}{b:Nat}{k:Nat}(e:α){L:List α}(L':List α)(hS:P.underlying S=some (.map kt et))(hK:KeyLaw P kt mk)(hx:ev E x=some (.map (some b)))(hy:ev E y=some (mk (kf e)))(hz:ev E z=some (vf e))(hk:bL Γ k=some (mp mk kf vf (some b) L))
  (hp:(e::L.filter fun a=>decide (kf a≠kf e)).Perm L') (kk:At N w0 M H E ((k,mp mk kf vf (some b) L')::Γ) R (wpList P ops Q rest)):At N w0 M H E Γ R (wpList P ops Q (⟨none,.insert S x y z,T,ps,af,none⟩::rest)):=
 Ik (Bp e L' hS hK hx hy hz hk hp) fun _ _=>kk
end
inductive Tx where
 | mk (kind n:Int) (name:ByteArray) (v:SV) (kids:List Tx)
def Tx.kind:Tx→Int | .mk k _ _ _ _=>k
def Tx.n:Tx→Int | .mk _ n _ _ _=>n
def Tx.name:Tx→ByteArray | .mk _ _ s _ _=>s
def Tx.v:Tx→SV | .mk _ _ _ v _=>v
def Tx.kids:Tx→List Tx | .mk _ _ _ _ l=>l
def df(t:Tx):List Value:= [.int .i64 t.kind,.int .u32 t.n,.string t.name,sv t.v]
abbrev xV(t:Tx):Value:= .agg (df t).toArray
inductive Ty where
 | mk (kind:Int) (name:ByteArray) (ve:SV) (es:List Tx) (vb:SV) (body:List Ty) (vl:SV) (els:List Ty)
def Ty.kind:Ty→Int | .mk k _ _ _ _ _ _ _=>k
def Ty.name:Ty→ByteArray | .mk _ s _ _ _ _ _ _=>s
def Ty.ve:Ty→SV | .mk _ _ v _ _ _ _ _=>v
def Ty.es:Ty→List Tx | .mk _ _ _ l _ _ _ _=>l
def Ty.vb:Ty→SV | .mk _ _ _ _ v _ _ _=>v
def Ty.body:Ty→List Ty | .mk _ _ _ _ _ l _ _=>l
def Ty.vl:Ty→SV | .mk _ _ _ _ _ _ v _=>v
def Ty.els:Ty→List Ty | .mk _ _ _ _ _ _ _ l=>l
def ec(t:Ty):List Value:= [.int .i64 t.kind,.string t.name,sv t.ve,sv t.vb,sv t.vl]
abbrev yV(t:Ty):Value:= .agg (ec t).toArray
def SlIn'{α:Type}(w:World)(F:Nat→Prop)(s:Nat)(enc:α→List Value)(v:Value)(l:List α):Prop:=∃G:Nat→Prop,ng w G s enc v l∧∀b,G b→F b
theorem SlIn'.stable{α:Type}{w w':World}{F:Nat→Prop}{s:Nat}{enc:α→List Value}{v:Value}{l:List α}(h:SlIn' w F s enc v l)(hs:∀b,F b→w'.heap[b]?=w.heap[b]?):SlIn' w' F s enc v l:=by
 obtain⟨G,h1,h2⟩:=h;exact⟨G,(sl s enc v l).stable h1 fun b hb=>hs b (h2 b hb),h2⟩
theorem SlIn'.mono{α:Type}{w:World}{F F':Nat→Prop}{s:Nat}{enc:α→List Value}{v:Value}{l:List α}(h:SlIn' w F s enc v l)(hs:∀b,F b→F' b):SlIn' w F' s enc v l:=by
 obtain⟨G,h1,h2⟩:=h;exact⟨G,h1,fun b hb=>hs b (h2 b hb)⟩
mutual
def TxIn(w:World)(F:Nat→Prop):Tx→Prop
 | .mk _ _ _ v kids=>SlIn' w F 4 df (sv v) kids∧TxsIn w F kids
def TxsIn(w:World)(F:Nat→Prop):List Tx→Prop
 | []=>True
 | t::r=>TxIn w F t∧TxsIn w F r
end
mutual
theorem TxIn.mono{w w':World}{F F':Nat→Prop}(hs:∀b,F b→F' b)(hw:∀b,F b→w'.heap[b]?=w.heap[b]?):∀t,TxIn w F t→TxIn w' F' t
 | .mk _ _ _ v kids,h=>⟨(h.1.stable hw).mono hs,TxsIn.mono hs hw kids h.2⟩
theorem TxsIn.mono{w w':World}{F F':Nat→Prop}(hs:∀b,F b→F' b)(hw:∀b,F b→w'.heap[b]?=w.heap[b]?):∀l,TxsIn w F l→TxsIn w' F' l
 | [],_=>trivial
 | t::r,h=>⟨TxIn.mono hs hw t h.1,TxsIn.mono hs hw r h.2⟩
end
theorem TxsIn.mem{w:World}{F:Nat→Prop}:∀{l:List Tx},TxsIn w F l→∀t∈l,TxIn w F t
 | [],_,_,h=>by simp at h
 | t::r,h,u,hu=>by
  rcases List.mem_cons.1 hu with rfl|hu
  ·exact h.1
  ·exact TxsIn.mem h.2 u hu
theorem TxsIn.of{w:World}{F:Nat→Prop}:∀{l:List Tx},(∀t∈l,TxIn w F t)→TxsIn w F l
 | [],_=>trivial
 | t::r,h=>⟨h t (by simp),TxsIn.of fun u hu=>h u (by simp [hu])⟩
mutual
def TyIn(w:World)(F:Nat→Prop):Ty→Prop
 | .mk _ _ ve es vb body vl els=>(SlIn' w F 4 df (sv ve) es∧TxsIn w F es)∧(SlIn' w F 5 ec (sv vb) body∧TysIn w F body)∧(SlIn' w F 5 ec (sv vl) els∧TysIn w F els)
def TysIn(w:World)(F:Nat→Prop):List Ty→Prop
 | []=>True
 | t::r=>TyIn w F t∧TysIn w F r
end
mutual
theorem TyIn.mono{w w':World}{F F':Nat→Prop}(hs:∀b,F b→F' b)(hw:∀b,F b→w'.heap[b]?=w.heap[b]?):∀t,TyIn w F t→TyIn w' F' t
 | .mk _ _ ve es vb body vl els,h=>⟨⟨(h.1.1.stable hw).mono hs,TxsIn.mono hs hw es h.1.2⟩,⟨(h.2.1.1.stable hw).mono hs,TysIn.mono hs hw body h.2.1.2⟩,⟨(h.2.2.1.stable hw).mono hs,TysIn.mono hs hw els h.2.2.2⟩⟩
theorem TysIn.mono{w w':World}{F F':Nat→Prop}(hs:∀b,F b→F' b)(hw:∀b,F b→w'.heap[b]?=w.heap[b]?):∀l,TysIn w F l→TysIn w' F' l
 | [],_=>trivial
 | t::r,h=>⟨TyIn.mono hs hw t h.1,TysIn.mono hs hw r h.2⟩
end
theorem TysIn.mem{w:World}{F:Nat→Prop}:∀{l:List Ty},TysIn w F l→∀t∈l,TyIn w F t
 | [],_,_,h=>by simp at h
 | t::r,h,u,hu=>by
  rcases List.mem_cons.1 hu with rfl|hu
  ·exact h.1
  ·exact TysIn.mem h.2 u hu
theorem TysIn.of{w:World}{F:Nat→Prop}:∀{l:List Ty},(∀t∈l,TyIn w F t)→TysIn w F l
 | [],_=>trivial
 | t::r,h=>⟨h t (by simp),TysIn.of fun u hu=>h u (by simp [hu])⟩
def bK(v:SV)(l:List Tx):Asn:=⟨fun w F=>SlIn' w F 4 df (sv v) l∧TxsIn w F l,fun h hs=>⟨h.1.stable hs,TxsIn.mono (fun _ hb=>hb) hs _ h.2⟩⟩
def bz(v:SV)(l:List Ty):Asn:=⟨fun w F=>SlIn' w F 5 ec (sv v) l∧TysIn w F l,fun h hs=>⟨h.1.stable hs,TysIn.mono (fun _ hb=>hb) hs _ h.2⟩⟩
theorem eL{v:SV}{l:List Tx}:∀w G,(bK v l).pred w G→(∀b,G b→b<w.heap.size)→∃G',(sl 4 df (sv v) l).pred w G'∧∀b,G' b→G b:=fun w G h _=>h.1
theorem fL{v:SV}{l:List Ty}:∀w G,(bz v l).pred w G→(∀b,G b→b<w.heap.size)→∃G',(sl 5 ec (sv v) l).pred w G'∧∀b,G' b→G b:=fun w G h _=>h.1
theorem cH{v:SV}{l:List Tx}{t:Tx}(ht:t∈l):∀w G,(bK v l).pred w G→(∀b,G b→b<w.heap.size)→∃G',(bK t.v t.kids).pred w G'∧∀b,G' b→G b:=fun w G h _=>by
 have:=h.2.mem t ht;cases t with
 | mk a b c d e=>exact⟨G,this,fun _ hb=>hb⟩
theorem jl{v:SV}{l:List Ty}{t:Ty}(ht:t∈l):∀w G,(bz v l).pred w G→(∀b,G b→b<w.heap.size)→∃G',(bK t.ve t.es).pred w G'∧∀b,G' b→G b:=fun w G h _=>by
 have:=h.2.mem t ht;cases t with
 | mk a b c d e f g i=>exact⟨G,this.1,fun _ hb=>hb⟩
theorem fv{v:SV}{l:List Ty}{t:Ty}(ht:t∈l):∀w G,(bz v l).pred w G→(∀b,G b→b<w.heap.size)→∃G',(bz t.vb t.body).pred w G'∧∀b,G' b→G b:=fun w G h _=>by
 have:=h.2.mem t ht;cases t with
 | mk a b c d e f g i=>exact⟨G,this.2.1,fun _ hb=>hb⟩
theorem gl{v:SV}{l:List Ty}{t:Ty}(ht:t∈l):∀w G,(bz v l).pred w G→(∀b,G b→b<w.heap.size)→∃G',(bz t.vl t.els).pred w G'∧∀b,G' b→G b:=fun w G h _=>by
 have:=h.2.mem t ht;cases t with
 | mk a b c d e f g i=>exact⟨G,this.2.2,fun _ hb=>hb⟩
structure Tf where
 name:ByteArray
 vp:SV
 ps:List ByteArray
 vb:SV
 body:List Ty
def iR(f:Tf):List Value:= [.string f.name,sv f.vp,sv f.vb]
def TfIn(w:World)(F:Nat→Prop)(f:Tf):Prop:=SlIn' w F 1 eS (sv f.vp) f.ps∧(SlIn' w F 5 ec (sv f.vb) f.body∧TysIn w F f.body)
theorem TfIn.stable{w w':World}{F:Nat→Prop}{f:Tf}(h:TfIn w F f)(hs:∀b,F b→w'.heap[b]?=w.heap[b]?):TfIn w' F f:=⟨h.1.stable hs,h.2.1.stable hs,TysIn.mono (fun _ hb=>hb) hs _ h.2.2⟩
def cm(v:SV)(l:List Tf):Asn:=⟨fun w F=>SlIn' w F 3 iR (sv v) l∧∀f∈l,TfIn w F f,fun h hs=>⟨h.1.stable hs,fun f hf=>(h.2 f hf).stable hs⟩⟩
def y_(f:Tf):Asn:=⟨fun w F=>TfIn w F f,fun h hs=>h.stable hs⟩
theorem jm{v:SV}{l:List Tf}:∀w G,(cm v l).pred w G→(∀b,G b→b<w.heap.size)→∃G',(sl 3 iR (sv v) l).pred w G'∧∀b,G' b→G b:=fun w G h _=>h.1
theorem lr{v:SV}{l:List Tf}{f:Tf}(hf:f∈l):∀w G,(cm v l).pred w G→(∀b,G b→b<w.heap.size)→∃G',(y_ f).pred w G'∧∀b,G' b→G b:=fun w G h _=>⟨G,h.2 f hf,fun _ hb=>hb⟩
theorem lu{f:Tf}:∀w G,(y_ f).pred w G→(∀b,G b→b<w.heap.size)→∃G',(sl 1 eS (sv f.vp) f.ps).pred w G'∧∀b,G' b→G b:=fun w G h _=>h.1
theorem jn{f:Tf}:∀w G,(y_ f).pred w G→(∀b,G b→b<w.heap.size)→∃G',(bz f.vb f.body).pred w G'∧∀b,G' b→G b:=fun w G h _=>⟨G,h.2,fun _ hb=>hb⟩
def wU(n:Int):Int:=IntKind.u32.wrap n
def tr(b:Bool):Int:=if b=true then 1 else 0
def dw:ByteArray:=⟨#[45]⟩
def qf:ByteArray:=⟨#[126]⟩
def rJ:ByteArray:=⟨#[33]⟩
def eG:ByteArray:=⟨#[43]⟩
def ff:ByteArray:=⟨#[42]⟩
def iV:ByteArray:=⟨#[47]⟩
def jt:ByteArray:=⟨#[37]⟩
def dW:ByteArray:=⟨#[38]⟩
def iH:ByteArray:=⟨#[124]⟩
def d6:ByteArray:=⟨#[94]⟩
def fe:ByteArray:=⟨#[60,60]⟩
def fy:ByteArray:=⟨#[62,62]⟩
def jZ:ByteArray:=⟨#[60]⟩
def lh:ByteArray:=⟨#[60,61]⟩
def li:ByteArray:=⟨#[62]⟩
def l9:ByteArray:=⟨#[62,61]⟩
def lm:ByteArray:=⟨#[61,61]⟩
def lg:ByteArray:=⟨#[33,61]⟩
def BX(op:ByteArray)(a:Int):Option Int:=
 if op=dw then some (wU (-a))else if op=qf then some (4294967295-a)else if op=rJ then some (tr (decide (a=0)))else none
def nr(op:ByteArray)(a b:Int):Option Int:=
 if op=eG then some (wU (a+b))else if op=dw then some (wU (a-b))else if op=ff then some (wU (a*b))else
 if op=iV then some (if b=0 then 0 else a/b)else if op=jt then some (if b=0 then a else a%b)else
 if op=dW then some (bits .and .u32 a b)else if op=iH then some (bits .or .u32 a b)else if op=d6 then some (bits .xor .u32 a b)else
 if op=fe then some (wU (a*2^(b%32).toNat))else if op=fy then some (a/2^(b%32).toNat)else
 if op=jZ then some (tr (decide (a<b)))else if op=lh then some (tr (decide (a≤b)))else if op=li then some (tr (decide (a>b)))else if op=l9 then some (tr (decide (a≥b)))else
 if op=lm then some (tr (decide (a=b)))else if op=lg then some (tr (!decide (a=b)))else none
structure Ms where
 inp:List Int
 out:List Int
 mem:Nat→Int
 fuel:Int
inductive Re(α:Type) where
 | ok (a:α) (s:Ms)
 | err (e:Int)
abbrev Vs:=List (ByteArray×Int)
def gE(vs:Vs)(x:ByteArray):Int:=match vs.find? (fun p=>decide (p.1=x))with
 | some p=>p.2
 | none=>0
def dV(vs:Vs)(x:ByteArray)(n:Int):Vs:=(x,n)::vs.filter fun p=>decide (p.1≠x)
def dD(vs:Vs):List ByteArray→List Int→Vs
 | p::ps,a::al=>dD (dV vs p a) ps al
 | _,_=>vs
def ce(fs:List Tf)(x:ByteArray):Option Tf:=fs.find? fun f=>decide (f.name=x)
def rL(m:Nat→Int)(i:Nat)(v:Int):Nat→Int:=fun k=>if k=i then v else m k
mutual
def d_:Nat→List Tf→Nat→Vs→Tx→Ms→Option (Re Int)
 | 0,_,_,_,_,_=>none
 | g+1,fs,d,vs,t,s=>if s.fuel≤0 then some (.err 25)else
  match fR g fs d vs [] t.kids {s with fuel:=s.fuel-1}with
  | none=>none
  | some (.err e)=>some (.err e)
  | some (.ok ks s1)=>
   if t.kind=1 then some (.ok t.n s1)else if t.kind=2 then some (.ok (gE vs t.name) s1)else
   if t.kind=4 then some (.ok (s1.mem (ks.getD 0 0%256).toNat) s1)else
   if t.kind=5 then(match s1.inp with
    | []=>some (.ok 0 s1)
    | a::r=>some (.ok a {s1 with inp:=r}))else
   if t.kind=6 then some (.ok ((BX t.name (ks.getD 0 0)).getD 0) s1)else if t.kind=7 then some (.ok ((nr t.name (ks.getD 0 0) (ks.getD 1 0)).getD 0) s1)else
   match ce fs t.name with
   | none=>none
   | some f=>jS g fs d f ks s1
def fR:Nat→List Tf→Nat→Vs→List Int→List Tx→Ms→Option (Re (List Int))
 | 0,_,_,_,_,_,_=>none
 | _+1,_,_,_,acc,[],s=>some (.ok acc s)
 | g+1,fs,d,vs,acc,t::r,s=>match d_ g fs d vs t s with
  | none=>none
  | some (.err e)=>some (.err e)
  | some (.ok v s1)=>fR g fs d vs (acc++ [v]) r s1
def jS:Nat→List Tf→Nat→Tf→List Int→Ms→Option (Re Int)
 | 0,_,_,_,_,_=>none
 | g+1,fs,d,f,al,s=>if d=12 then some (.err 26)else
  match fA g fs (d+1) (dD [] f.ps al) f.body s with
  | none=>none
  | some (.err e)=>some (.err e)
  | some (.ok (_,r) s1)=>some (.ok (r.getD 0) s1)
def fA:Nat→List Tf→Nat→Vs→List Ty→Ms→Option (Re (Vs×Option Int))
 | 0,_,_,_,_,_=>none
 | _+1,_,_,vs,[],s=>some (.ok (vs,none) s)
 | g+1,fs,d,vs,t::r,s=>match gB g fs d vs t s with
  | none=>none
  | some (.err e)=>some (.err e)
  | some (.ok (vs1,some x) s1)=>some (.ok (vs1,some x) s1)
  | some (.ok (vs1,none) s1)=>fA g fs d vs1 r s1
def gB:Nat→List Tf→Nat→Vs→Ty→Ms→Option (Re (Vs×Option Int))
 | 0,_,_,_,_,_=>none
 | g+1,fs,d,vs,t,s=>if s.fuel≤0 then some (.err 25)else
  match t.es with
  | []=>none
  | e::es=>match d_ g fs d vs e {s with fuel:=s.fuel-1}with
   | none=>none
   | some (.err e)=>some (.err e)
   | some (.ok v s1)=>
    if t.kind=1∨t.kind=2 then some (.ok (dV vs t.name v,none) s1)else
    if t.kind=3 then(match es with
     | []=>none
     | e2::_=>match d_ g fs d vs e2 s1 with
      | none=>none
      | some (.err e)=>some (.err e)
      | some (.ok w s2)=>some (.ok (vs,none) {s2 with mem:=rL s2.mem (v%256).toNat w}))else
    if t.kind=4 then fA g fs d vs (if v=0 then t.els else t.body) s1 else
    if t.kind=5 then i6 g fs d vs e t.body v s1 else
    if t.kind=6 then some (.ok (vs,some v) s1)else if t.kind=7 then some (.ok (vs,none) {s1 with out:=s1.out++ [v]})else some (.ok (vs,none) s1)
def i6:Nat→List Tf→Nat→Vs→Tx→List Ty→Int→Ms→Option (Re (Vs×Option Int))
 | 0,_,_,_,_,_,_,_=>none
 | g+1,fs,d,vs,e,l,v,s=>if v=0 then some (.ok (vs,none) s)else
  match fA g fs d vs l s with
  | none=>none
  | some (.err e)=>some (.err e)
  | some (.ok (vs1,some x) s1)=>some (.ok (vs1,some x) s1)
  | some (.ok (vs1,none) s1)=>match d_ g fs d vs1 e s1 with
   | none=>none
   | some (.err e)=>some (.err e)
   | some (.ok w s2)=>i6 g fs d vs1 e l w s2
end
end Go.Proofs.YtedmdgbmdplifaaGreat
