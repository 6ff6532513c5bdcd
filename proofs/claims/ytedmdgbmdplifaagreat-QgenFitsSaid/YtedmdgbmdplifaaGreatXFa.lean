/-
  A part of the proof. Conditions are with the theorems.
-/
import Derived.WalkKit
import Derived.ProofKit
import Derived.OpenShut
import Derived.Below
import Derived.ChangeSame
import Derived.Carry
import Derived.WalkSpells
import Derived.WalkLawsBesides
import Derived.Lib.Hide
import Derived.Deep.Draws
import Derived.Deep.QuietTactic
import Derived.BigQuiet
import Derived.Deep.OwnRows
import Derived.Deep.WholeRow
import Derived.Deep.MidRow
import Derived.Laws.AppendOwnNone
import Derived.ChangeSlices
import Derived.ChangeKeysEq
import Derived.Lib.SliceRun
import Derived.Maps.RangeRun
import Derived.Laws.BytesString
import Derived.Lib.ConvBytes
import Derived.Recover
import Derived.Laws.RangeString
import Derived.Lib.OthersKept
import Derived.Lib.Builder
import Derived.Lib.UnsafeStr
import Derived.Laws.Externs
import Derived.Orders
set_option maxHeartbeats 32000000
set_option maxRecDepth 100000
set_option linter.unusedSimpArgs false
set_option linter.unusedVariables false
namespace Go.Proofs.YtedmdgbmdplifaaGreat
open Go.ChangeShapes Go.WideShapes Go.ChangeAt Go.RowKit
theorem bl:(∀{p:Prop} [Decidable p],(decide p=true)=p)∧(∀{p:Prop} [Decidable p],decide p=false↔¬p)∧(∀a b:Bool,((a&&b)=true)=(a=true∧b=true))∧(∀a b:Bool,((a || b)=true)=(a=true∨b=true))∧(∀a b:Bool,(a&&b)=false↔a=false∨b=false)∧(∀a b:Bool,(a || b)=false↔a=false∧b=false)∧(∀b:Bool,¬b=true↔b=false)∧(∀b:Bool,¬b=false↔b=true)∧(∀b:Bool,(!b)=true↔b=false)∧(∀b:Bool,(!b)=false↔b=true)∧(∀b:Bool,(!!b)=b)∧(∀{α:Type} [BEq α] [LawfulBEq α](a b:α),(a !=b)=true↔a≠b)∧(∀{α:Type} [BEq α] [LawfulBEq α](a b:α),(a==b)=true↔a=b):=
  ⟨decide_eq_true_eq,decide_eq_false_iff_not,Bool.and_eq_true,Bool.or_eq_true,fun _ _=>Bool.and_eq_false_iff,fun _ _=>Bool.or_eq_false_iff,fun b=>by cases b<;>simp,fun b=>by cases b<;>simp,fun b=>by cases b<;>simp,fun b=>by cases b<;>simp,Bool.not_not,fun _ _=>bne_iff_ne,fun _ _=>beq_iff_eq⟩
theorem J{α:Sort _}{a:α}:a=a:=rfl
theorem O:True:=trivial
theorem ac{c:Prop}{h:Decidable c}(hc:¬c){α:Type}{t e:α}:ite c t e=e:=if_neg hc
theorem aj{c:Prop}{h:Decidable c}(hc:c){α:Type}{t e:α}:ite c t e=t:=if_pos hc
theorem bQ{α:Type}{l:List α}{i:Nat}(h:i<l.length):l[i]?=some l[i]:=List.getElem?_eq_getElem h
theorem bD{α:Type}{l m:List α}:(l++m).length=l.length+m.length:=List.length_append
theorem bV{α:Type}{l:List α}{i:Nat}{a:α}(h:l[i]?=some a):a∈l:=List.mem_of_getElem? h
theorem cU{α:Type}{l:List α}{i:Nat}{a:α}:l[i]?=some a↔∃h:i<l.length,l[i]=a:=List.getElem?_eq_some_iff
theorem cB{p:Prop} [Decidable p](h:decide p=true):p:=of_decide_eq_true h
theorem dl{p:Prop} [Decidable p](h:decide p=false):¬p:=of_decide_eq_false h
theorem dk{α:Type}{a:α}: [a].length=1:=rfl
theorem aY{α:Type}{a:α}{l:List α}:(a::l).length=l.length+1:=rfl
theorem aS{α:Type}:([]:List α).length=0:=rfl
theorem bn(n:Nat):0≤n:=Nat.zero_le n
theorem bU(n:Nat):n≤n:=Nat.le_refl n
theorem dY{α:Type}{a b:α}(h:some a=some b):a=b:=Option.some.inj h
theorem cW{n m:Nat}(h:Nat.beq n m=true):n=m:=Nat.eq_of_beq_eq_true h
theorem cQ{α:Type}{l:List α}:l.take l.length=l:=List.take_length
section
variable{H:Type}{enc:TypeId×Value→H}{P:Program}
theorem uN{f:Func}{s:ChangeSpec}{apart fresh handsOn again:Bool}{W W':World}{args:Array Value}{v:Value}{ds gs:List (DataW H)}{before pa pv:List MemPlace}
  (hW:DataW.Whole enc P f.params.toList s.vars apart W args.toList ds gs before)
  (hres:∀(b:Nat)(sp:Nat→Bool)(hd:Bool),DataW.TrodAll enc P W' b sp hd f.resultTypes.toList (v.resultList f.resultTypes.size) (s.fn H (ds++gs)).results [])
  (hargs:∀sp:Nat→Bool,(∀p∈before,sp p.block=true)→DataW.TrodAll enc P W' 0 sp true f.params.toList args.toList (s.fn H (ds++gs)).args pa)
  (hvars:∀sp:Nat→Bool,(∀p∈before,sp p.block=true)→DataW.TrodVars enc P W' sp s.vars (s.fn H (ds++gs)).vars pv)
  (hps:before=pa++pv) (hb:Below W.heap.size W W')
  (hok:∀(j:Nat)(t:TypeId)(r:Value),f.resultTypes[j]?=some t→(v.resultList f.resultTypes.size)[j]?=some r→Value.okWide P W' .any 0 t r):
  s.post enc P f apart fresh handsOn again W args v W':=by
 have hlt:∀p∈before,p.block<W.heap.size:=fun p hp=>hW.lt p hp
 have hold:∀p∈before,(fun b=>decide (b<W.heap.size)) p.block=true:=fun p hp=>by simpa using hlt p hp
 refine⟨ds,gs,before,[],pa,pv,hW,hres _ _ _,hargs _ hold,hvars _ hold,World.keptBut_mono (fun p hp=>⟨hp,?_⟩) (hb.frame (· ∈before)),fun _=> ?_⟩
 ·rw [hps,List.mem_append]at hp;exact Or.inr hp
 ·obtain⟨_,_,_,_,_,hz,hn⟩:=hW;refine⟨hok,_,_,([]++pa)++pv,⟨[]++pa,pv,trodAll_append (hargs _ (fun _ _=>J)) (hres _ _ _),hvars _ (fun _ _=>J),J,?_,?_⟩,?_⟩
  ·intro b off hp;have hin:MemPlace.cell b off∈before:=by rw [hps];simpa using hp
   rw [hb.frozen (hlt _ hin)];exact hz b off hin
  ·intro ha;have:=hn ha;rw [hps]at this;simpa using this
  ·intro p hp _;rw [hps];simpa using hp
theorem nU(hl:laidOutB P=true){W W':World}(hb:Below W.heap.size W W'){sp:Nat→Bool}:
  ∀{ts:List TypeId}{vs:List Value}{ds:List (DataW H)}{ps:List MemPlace}(_:∀t∈ts,P.readableRec t=true∧t<P.types.size)(_:∀p∈ps,p.block<W.heap.size)(_:∀p∈ps,sp p.block=true)
   (_:DataW.TrodAll enc P W 0 (fun _=>true) true ts vs ds ps),DataW.TrodAll enc P W' 0 sp true ts vs ds ps
 | [],vs,ds,ps,_,_,_,h=>by
  obtain⟨rfl,rfl,rfl⟩:=trodAll_nil h;exact trodAll_mk0
 | t::ts,vs,ds,ps,hts,hlt,hsp,h=>by
  obtain⟨v,vs',d,ds',p,q,rfl,rfl,rfl,h0,hr⟩:=trodAll_cons h;exact trodAll_cons_mk (WideElems.Trod_stays hl (hts t (by simp)).1 (hts t (by simp)).2 h0 (fun x hx=>hb.same (hlt x (by simp [hx]))) (fun x hx=>hsp x (by simp [hx])))
   (nU hl hb (fun t' ht'=>hts t' (by simp [ht'])) (fun x hx=>hlt x (by simp [hx])) (fun x hx=>hsp x (by simp [hx])) hr)
theorem GE{f:Func}{s:ChangeSpec}{fresh handsOn again:Bool}{W W':World}{args:Array Value}{ds gs:List (DataW H)}{before:List MemPlace}{tb:TypeId}
  (hW:DataW.Whole enc P f.params.toList s.vars false W args.toList ds gs before) (hl:laidOutB P=true)
  (hts:(f.params.toList.all fun t=>P.readableRec t&&decide (t<P.types.size))=true) (hrt:f.resultTypes= #[tb]) (htb:P.underlying tb=some .bool)
  (hv:s.vars= []) (hr:(s.fn H (ds++gs)).results= [.lit (.bool true)]) (ha:(s.fn H (ds++gs)).args=ds) (hvs:(s.fn H (ds++gs)).vars= []) (hb:Below W.heap.size W W'):
  s.post enc P f false fresh handsOn again W args (.bool true) W':=by
 have hW0:=hW;obtain⟨p,q,hA,hV,rfl,hfz,hnd⟩:=hW;rw [hv]at hV;obtain⟨rfl,rfl⟩:=trodVars_none hV;have hts':∀t∈f.params.toList,P.readableRec t=true∧t<P.types.size:=fun t ht=>by
  have:=List.all_eq_true.1 hts t ht;simpa using this
 refine uN (pa:=p) (pv:= []) hW0 (fun _ _ _=> ?_) (fun sp hsp=> ?_) (fun sp _=> ?_) J hb ?_
 ·rw [hr,hrt];exact trodAll_mk1 (shut_bool htb true)
 ·rw [ha];exact nU hl hb hts' (fun x hx=>hW0.lt x (by simpa using hx)) (fun x hx=>hsp x (by simpa using hx)) hA
 ·rw [hv,hvs];rfl
 ·intro j t r h1 h2;rw [hrt]at h1 h2;cases j with
  | zero=>
   simp at h1;subst h1;have:r= .bool true:=by simpa [Value.resultList]using h2.symm
   subst this;exact okWide_bool_mk htb true
  | succ j=>simp at h1
end
end Go.Proofs.YtedmdgbmdplifaaGreat
namespace Go.Proofs.YtedmdgbmdplifaaGreat
open Go.RowKit
structure Touch(M:Nat→Prop)(w w':World):Prop where
  os:w'.os=w.os
  tape:w'.tape=w.tape
  output:w'.output=w.output
  size:w.heap.size≤w'.heap.size
  block:∀k,k<w.heap.size→¬M k→w'.heap[k]?=w.heap[k]?
theorem Touch.refl(M:Nat→Prop)(w:World):Touch M w w:=⟨rfl,rfl,rfl,bU _,fun _ _ _=>rfl⟩
theorem Touch.trans{M M':Nat→Prop}{a b c:World}(h:Touch M a b)(k:Touch M' b c)(hM:∀x,x<a.heap.size→M' x→M x):Touch M a c:=
  ⟨k.os.trans h.os,k.tape.trans h.tape,k.output.trans h.output,Nat.le_trans h.size k.size,
   fun i hi hm=>(k.block i (Nat.lt_of_lt_of_le hi h.size) (fun e=>hm (hM i hi e))).trans (h.block i hi hm)⟩
theorem Touch.below{w w':World}(h:Touch (fun _=>False) w w'):Below w.heap.size w w':=⟨h.os,h.tape,h.output,h.size,fun k hk=>h.block k hk (fun e=>e)⟩
theorem Touch.alloc(M:Nat→Prop)(w:World)(o:Obj):Touch M w (w.alloc o):=⟨rfl,rfl,rfl,by simp,fun k hk _=>Below.heap_alloc w o k hk⟩
structure Asn where
  pred:World→(Nat→Prop)→Prop
  stable:∀{w w':World}{F:Nat→Prop},pred w F→(∀b,F b→w'.heap[b]?=w.heap[b]?)→pred w' F
def KB:Asn:=⟨fun _ F=>∀b,¬F b,fun h _=>h⟩
abbrev eD:=List (Nat×Asn)
def ch:eD→Nat→Option Asn
  | [],_=>none
  | (j,A)::r,k=>bif Nat.beq j k then some A else ch r k
structure Own(w0:World)(M H:Nat→Prop)(g r:Nat→Option Asn)(w:World)(F:Nat→Nat→Prop):Prop where
  touch:Touch M w0 w
  has:∀k A,g k=some A→A.pred w (F k)
  lt:∀k b,F k b→b<w.heap.size
  mine:∀k b,F k b→b<w0.heap.size→M b
  apart:∀j k b,F j b→F k b→j=k
  ro:∀k A,r k=some A→∃G:Nat→Prop,A.pred w G∧∀b,G b→b<w.heap.size∧(∀j,¬F j b)∧(b<w0.heap.size→M b∨H b)
theorem Own.call{w0:World}{M H M' H':Nat→Prop}{g r g' r' g'' r'':Nat→Option Asn}{w w':World}{F F':Nat→Nat→Prop}
    (h:Own w0 M H g r w F) (ks:Nat→Prop) (hM':∀b,M' b→∃k,ks k∧F k b) (hM'':∀k b,ks k→F k b→M' b) (h':Own w M' H' g' r' w' F')
    (ns:Nat→Option Nat) (hns:∀j k i,ns j=some i→ns k=some i→j=k)
    (hg:∀k A,g'' k=some A→(∃i,ns k=some i∧g' i=some A)∨(ns k=none∧¬ks k∧g k=some A)∨(A=KB∧ns k=none∧ks k))
    (hr:∀k A,r'' k=some A→r k=some A∨((∃i,r' i=some A)∧∀b,H' b→b<w.heap.size→(∀j,¬F j b)∧(b<w0.heap.size→M b∨H b))):
    ∃F'',Own w0 M H g'' r'' w' F'':=by
  classical
  let F'':Nat→Nat→Prop:=fun k=>match ns k with
    | some i=>F' i
    | none=>if ks k then fun _=>False else F k
  have hnew:∀k i,ns k=some i→F'' k=F' i:=fun k i e=>by simp [F'',e]
  have hold:∀k,ns k=none→¬ks k→F'' k=F k:=fun k e e'=>by simp [F'',e,e']
  have hemp:∀k,ns k=none→ks k→F'' k=fun _=>False:=fun k e e'=>by simp [F'',e,e']
  have hcase:∀k b,F'' k b→(∃i,ns k=some i∧F' i b)∨(ns k=none∧¬ks k∧F k b):=by
    intro k b hb;cases e:ns k with
    | some i=>rw [hnew k i e]at hb;exact .inl ⟨i,rfl,hb⟩
    | none=>
      by_cases e':ks k
      · rw [hemp k e e']at hb;exact hb.elim
      · rw [hold k e e']at hb;exact .inr ⟨J,e',hb⟩
  have hfree:∀k b,¬ks k→F k b→¬M' b:=by
    intro k b hk hb hm;obtain⟨j,hj,hjb⟩:=hM' b hm;exact hk (h.apart j k b hjb hb▸hj)
  have hnewold:∀i k b,¬ks k→F k b→¬F' i b:=by
    intro i k b hk hb hb';exact hfree k b hk hb (h'.mine i b hb' (h.lt k b hb))
  refine⟨F'',?_,?_,?_,?_,?_,?_⟩
  · refine h.touch.trans h'.touch fun x hx hm=> ?_
    obtain⟨k,_,hk⟩:=hM' x hm;exact h.mine k x hk hx
  · intro k A hk;rcases hg k A hk with⟨i,hi,hA⟩|⟨hn,hk',hA⟩|⟨rfl,hn,hk'⟩
    · rw [hnew k i hi];exact h'.has i A hA
    · rw [hold k hn hk'];exact A.stable (h.has k A hA) fun b hb=>h'.touch.block b (h.lt k b hb) (hfree k b hk' hb)
    · rw [hemp k hn hk'];exact fun b hb=>hb
  · intro k b hb;rcases hcase k b hb with⟨i,_,hi⟩|⟨_,_,hk⟩
    · exact h'.lt i b hi
    · exact Nat.lt_of_lt_of_le (h.lt k b hk) h'.touch.size
  · intro k b hb hlt;rcases hcase k b hb with⟨i,_,hi⟩|⟨_,_,hk⟩
    · obtain⟨j,_,hj⟩:=hM' b (h'.mine i b hi (Nat.lt_of_lt_of_le hlt h.touch.size));exact h.mine j b hj hlt
    · exact h.mine k b hk hlt
  · intro j k b hj hk;rcases hcase j b hj with⟨i,hi,hib⟩|⟨_,hjk,hjb⟩<;>rcases hcase k b hk with⟨i',hi',hib'⟩|⟨_,hkk,hkb⟩
    · have:=h'.apart i i' b hib hib';subst this;exact hns j k i hi hi'
    · exact(hnewold i k b hkk hkb hib).elim
    · exact(hnewold i' j b hjk hjb hib').elim
    · exact h.apart j k b hjb hkb
  · intro k A hk;rcases hr k A hk with hA|⟨⟨i,hA⟩,hH⟩
    · obtain⟨G,hp,hG⟩:=h.ro k A hA;have hnm:∀b,G b→¬M' b:=fun b hb hm=>by
        obtain⟨j,_,hj⟩:=hM' b hm;exact(hG b hb).2.1 j hj
      refine⟨G,A.stable hp fun b hb=>h'.touch.block b (hG b hb).1 (hnm b hb),fun b hb=>⟨Nat.lt_of_lt_of_le (hG b hb).1 h'.touch.size,fun j hj=> ?_,(hG b hb).2.2⟩⟩;rcases hcase j b hj with⟨i,_,hi⟩|⟨_,_,hjb⟩
      · exact hnm b hb (h'.mine i b hi (hG b hb).1)
      · exact(hG b hb).2.1 j hjb
    · obtain⟨G,hp,hG⟩:=h'.ro i A hA;refine⟨G,hp,fun b hb=>⟨(hG b hb).1,fun j hj=> ?_,fun hlt=> ?_⟩⟩
      · rcases hcase j b hj with⟨i',_,hi'⟩|⟨_,hjk,hjb⟩
        · exact(hG b hb).2.1 i' hi'
        · have hlt:b<w.heap.size:=h.lt j b hjb;rcases(hG b hb).2.2 hlt with hm|hh
          · exact hfree j b hjk hjb hm
          · exact(hH b hh hlt).1 j hjb
      · have hlt':b<w.heap.size:=Nat.lt_of_lt_of_le hlt h.touch.size;rcases(hG b hb).2.2 hlt' with hm|hh
        · obtain⟨j,_,hj⟩:=hM' b hm;exact .inl (h.mine j b hj hlt)
        · exact(hH b hh hlt').2 hlt
def COk(w0:World)(M H:Nat→Prop)(Γ R:eD)(w:World):Prop:=∃F,Own w0 M H (ch Γ) (ch R) w F
def LOk(w0:World)(M H:Nat→Prop)(L R:List Asn)(w:World):Prop:=∃F,Own w0 M H (fun k=>L[k]?) (fun k=>R[k]?) w F
def OU(w0:World)(M H:Nat→Prop){X:Type}(φ:X→Prop)(v:X→Value)(L R:X→List Asn):Ending→World→Prop:=
  fun e w'=>∃x,φ x∧e= .returned (v x)∧LOk w0 M H (L x) (R x) w'
/-! ### Frames -/
abbrev ft:=List (Nat×Value)
def eM:ft→Nat→Option Value
  | [],_=>none
  | (j,v)::r,k=>bif Nat.beq j k then some v else eM r k
def ev(E:ft):Operand→Option Value
  | .tmp t=>eM E t
  | .const v=>some v
  | .global g=>some (.pointer (some ⟨g,0,none⟩))
  | .func f=>some (.func (.func f) #[] #[])
structure EOk(N:Nat)(E:ft)(a:Act):Prop where
  defers:a.defers= []
  size:N≤a.tmps.size
  slot:∀t v,eM E t=some v→a.tmps[t]?=some v
theorem EOk.ev{N:Nat}{E:ft}{a:Act}(h:EOk N E a){x:Operand}{v:Value}(hv:ev E x=some v):a.eval x=v:=by
  cases x with
  | tmp t=>
    have:=h.slot t v hv;simp [Act.eval,this]
  | const u=>simpa [YtedmdgbmdplifaaGreat.ev,Act.eval]using hv
  | global g=>simpa [YtedmdgbmdplifaaGreat.ev,Act.eval]using hv
  | func f=>simpa [YtedmdgbmdplifaaGreat.ev,Act.eval]using hv
theorem EOk.put{N:Nat}{E:ft}{a:Act}(h:EOk N E a){d:Nat}(hd:Nat.blt d N=true)(v:Value):EOk N ((d,v)::E) (a.put (some d) v):=by
  have hd':d<N:=by simpa [Nat.blt_eq]using hd
  refine⟨h.defers,by simpa [Act.put]using h.size,fun t u ht=> ?_⟩;simp only [eM]at ht;simp only [Act.put,Array.getElem?_setIfInBounds];cases hb:Nat.beq d t with
  | true=>
    rw [hb]at ht;have:d=t:=cW hb;subst this;have:=h.size;simp only [cond_true,Option.some.injEq]at ht;simp [ht];omega
  | false=>
    rw [hb]at ht;have hne:d≠t:=fun e=>by subst e;simp at hb
    rw [ac hne];exact h.slot t u ht
def At(N:Nat)(w0:World)(M H:Nat→Prop)(E:ft)(Γ R:eD)(Rel:Act→World→Prop):Prop:=
  ∀a w,EOk N E a→COk w0 M H Γ R w→Rel a w
/-! ### Contexts by names -/
def gk:List Nat→List Asn→eD→eD
  | n::ns,A::L,Γ=>(n,A)::gk ns L Γ
  | _,_,Γ=>Γ
def gl:List Nat→eD→eD
  | k::ks,Γ=>(k,KB)::gl ks Γ
  | [],Γ=>Γ
def e9(Γ:eD):List Nat→List (Option Asn)
  | []=> []
  | k::ks=>ch Γ k::e9 Γ ks
def dv:List Asn→List (Option Asn)
  | []=> []
  | A::L=>some A::dv L
def lw:List Nat→Nat→Nat→Option Nat
  | [],_,_=>none
  | n::ns,k,i=>bif Nat.beq n k then some i else lw ns k (i+1)
theorem tv:∀{ns:List Nat}{k i j:Nat},lw ns k i=some j→i≤j∧ns[j-i]?=some k
  | [],_,_,_,h=>by cases h
  | n::ns,k,i,j,h=>by
    simp only [lw]at h;cases hb:Nat.beq n k with
    | true=>
      rw [hb]at h;simp at h;subst h;simp [cW hb]
    | false=>
      rw [hb]at h;obtain⟨h1,h2⟩:=tv (ns:=ns) h;refine⟨by omega,?_⟩;have:j-i=(j-(i+1))+1:=by omega
      rw [this];simpa using h2
theorem oM:∀(ns:List Nat)(L:List Asn)(Γ:eD)(k i:Nat)(A:Asn),ns.length=L.length→ch (gk ns L Γ) k=some A→
    (∃j,lw ns k i=some (i+j)∧L[j]?=some A)∨(lw ns k i=none∧ch Γ k=some A)
  | [],[],Γ,k,i,A,_,h=> .inr ⟨rfl,h⟩
  | n::ns,B::L,Γ,k,i,A,hl,h=>by
    simp only [gk,ch]at h;simp only [lw];cases hb:Nat.beq n k with
    | true=>
      rw [hb]at h;simp at h;exact .inl ⟨0,by simp,by simp [h]⟩
    | false=>
      rw [hb]at h;rcases oM ns L Γ k (i+1) A (by simpa using hl) h with⟨j,h1,h2⟩|⟨h1,h2⟩
      · exact .inl ⟨j+1,by simpa [Nat.add_assoc,Nat.add_comm 1 j]using h1,by simpa using h2⟩
      · exact .inr ⟨by simpa using h1,h2⟩
  | [],_::_,_,_,_,_,hl,_=>by simp at hl
  | _::_,[],_,_,_,_,hl,_=>by simp at hl
theorem oN:∀(ks:List Nat)(Γ:eD)(k:Nat)(A:Asn),ch (gl ks Γ) k=some A→(A=KB∧k∈ks)∨(k∉ks∧ch Γ k=some A)
  | [],Γ,k,A,h=> .inr ⟨by simp,h⟩
  | n::ks,Γ,k,A,h=>by
    simp only [gl,ch]at h;cases hb:Nat.beq n k with
    | true=>
      rw [hb]at h;simp at h;exact .inl ⟨h.symm,by simp [cW hb]⟩
    | false=>
      rw [hb]at h;have hne:k≠n:=fun e=>by subst e;simp at hb
      rcases oN ks Γ k A h with⟨h1,h2⟩|⟨h1,h2⟩
      · exact .inl ⟨h1,by simp [h2]⟩
      · exact .inr ⟨by simp [hne,h1],h2⟩
theorem nf:∀(Γ:eD)(ks:List Nat)(L:List Asn)(i:Nat)(A:Asn),e9 Γ ks=dv L→L[i]?=some A→∃k,ks[i]?=some k∧ch Γ k=some A
  | Γ,[],[],i,A,_,h=>by simp at h
  | Γ,k::ks,B::L,i,A,h,hi=>by
    simp only [e9,dv,List.cons.injEq]at h;cases i with
    | zero=>simp at hi;subst hi;exact⟨k,by simp,h.1⟩
    | succ i=>simpa using nf Γ ks L i A h.2 (by simpa using hi)
  | Γ,[],_::_,_,_,h,_=>by simp [e9,dv]at h
  | Γ,_::_,[],_,_,h,_=>by simp [e9,dv]at h
theorem Gk{ks:List Nat}(h:ks.Nodup){i j k:Nat}(hi:ks[i]?=some k)(hj:ks[j]?=some k):i=j:=by
  obtain⟨hi1,hi2⟩:=cU.1 hi;obtain⟨hj1,hj2⟩:=cU.1 hj;have hp:=List.pairwise_iff_getElem.1 h;rcases Nat.lt_trichotomy i j with hlt|he|hlt
  · exact absurd (hi2.trans hj2.symm) (hp i j hi1 hj1 hlt)
  · exact he
  · exact absurd (hj2.trans hi2.symm) (hp j i hj1 hi1 hlt)
theorem COk.enter{w0:World}{M H:Nat→Prop}{Γ R:eD}{w:World}(F:Nat→Nat→Prop)(h:Own w0 M H (ch Γ) (ch R) w F)(ks:List Nat)(hnd:ks.Nodup){L:List Asn}(hL:e9 Γ ks=dv L)
    {R0:List Asn} (hR:∀(i:Nat) A,R0[i]?=some A→(∃k,ch R k=some A)∨∃k,k∉ks∧ch Γ k=some A) (H':Nat→Prop)
    (hH:∀b,b<w.heap.size→((∀j,¬F j b)∧(b<w0.heap.size→M b∨H b))∨(∃(i:Nat)(A:Asn)(k:Nat),R0[i]?=some A∧k∉ks∧ch Γ k=some A∧F k b∧∀k',ch R k'≠some A)→H' b):
    LOk w (fun b=>∃k,k∈ks∧F k b) H' L R0 w:=by
  classical
  refine⟨fun i b=>∃k,ks[i]?=some k∧F k b,Touch.refl _ _,?_,?_,?_,?_,?_⟩
  · intro i A hi;obtain⟨k,hk,hA⟩:=nf Γ ks L i A hL hi;have:(fun b=>∃k,ks[i]?=some k∧F k b)=F k:=by
      funext b;simp [hk]
    show A.pred w _;rw [this];exact h.has k A hA
  · rintro i b ⟨k,_,hb⟩;exact h.lt k b hb
  · rintro i b ⟨k,hk,hb⟩ _;exact⟨k,bV hk,hb⟩
  · rintro i j b ⟨k,hk,hb⟩ ⟨k',hk',hb'⟩;have:=h.apart k k' b hb hb';subst this;exact Gk hnd hk hk'
  · intro i A hi;by_cases hro:∃k,ch R k=some A
    · obtain⟨k,hA⟩:=hro;obtain⟨G,hp,hG⟩:=h.ro k A hA;refine⟨G,hp,fun b hb=>⟨(hG b hb).1,?_,fun hlt=> .inr (hH b hlt (.inl (hG b hb).2))⟩⟩;rintro j ⟨k',_,hb'⟩;exact(hG b hb).2.1 k' hb'
    · rcases hR i A hi with hx|⟨k,hk,hA⟩
      · exact absurd hx hro
      · refine⟨F k,h.has k A hA,fun b hb=>⟨h.lt k b hb,?_,fun hlt=> .inr (hH b hlt (.inr ⟨i,A,k,hi,hk,hA,hb,fun k' e=>hro ⟨k',e⟩⟩))⟩⟩;rintro j ⟨k',hk',hb'⟩;have:=h.apart k k' b hb hb';subst this;exact hk (bV hk')
theorem COk.step{w0:World}{M H:Nat→Prop}{Γ R:eD}{w:World}(h:COk w0 M H Γ R w)(ks:List Nat)(hnd:ks.Nodup){L:List Asn}(hL:e9 Γ ks=dv L)
    {R0:List Asn} (hR:∀(i:Nat) A,R0[i]?=some A→(∃k,ch R k=some A)∨∃k,k∉ks∧ch Γ k=some A):
    ∃M' H':Nat→Prop,LOk w M' H' L R0 w∧∀(L' R':List Asn)(ns rs:List Nat)(w':World),ns.Nodup→ns.length=L'.length→rs.length=R'.length→
      LOk w M' H' L' R' w'→COk w0 M H (gk ns L' (gl ks Γ)) R w'∧((∀(i:Nat) A,R0[i]?=some A→∃k,ch R k=some A)→COk w0 M H (gk ns L' (gl ks Γ)) (gk rs R' R) w'):=by
  classical
  obtain⟨F,hF⟩:=h
  let H':Nat→Prop:=fun b=>((∀j,¬F j b)∧(b<w0.heap.size→M b∨H b))∨(∃(i:Nat)(A:Asn)(k:Nat),R0[i]?=some A∧k∉ks∧ch Γ k=some A∧F k b∧∀k',ch R k'≠some A)
  refine⟨fun b=>∃k,k∈ks∧F k b,H',COk.enter F hF ks hnd hL hR H' (fun b _ hb=>hb),?_⟩;rintro L' R' ns rs w' hns hnl hrl ⟨F',h'⟩;have hgg:∀k A,ch (gk ns L' (gl ks Γ)) k=some A→
      (∃i,lw ns k 0=some i∧L'[i]?=some A)∨(lw ns k 0=none∧¬k∈ks∧ch Γ k=some A)∨(A=KB∧lw ns k 0=none∧k∈ks):=by
    intro k A hA;rcases oM ns L' _ k 0 A hnl hA with⟨j,h1,h2⟩|⟨h1,h2⟩
    · exact .inl ⟨j,by simpa using h1,h2⟩
    · rcases oN ks Γ k A h2 with⟨h3,h4⟩|⟨h3,h4⟩
      · exact .inr (.inr ⟨h3,h1,h4⟩)
      · exact .inr (.inl ⟨h1,h3,h4⟩)
  have hinj:∀j k i,lw ns j 0=some i→lw ns k 0=some i→j=k:=by
    intro j k i h1 h2;have e1:=(tv h1).2;have e2:=(tv h2).2;rw [e1]at e2;injection e2
  constructor
  · exact hF.call (fun k=>k∈ks) (fun b hb=>hb) (fun k b hk hb=>⟨k,hk,hb⟩) h' (fun k=>lw ns k 0) hinj hgg (fun k A hA=> .inl hA)
  · intro hro;refine hF.call (fun k=>k∈ks) (fun b hb=>hb) (fun k b hk hb=>⟨k,hk,hb⟩) h' (fun k=>lw ns k 0) hinj hgg (fun k A hA=> ?_);rcases oM rs R' R k 0 A hrl hA with⟨j,_,h2⟩|⟨_,h2⟩
    · refine .inr ⟨⟨j,h2⟩,fun b hb _=> ?_⟩;rcases hb with hb|⟨i,A',k',hi,_,_,_,hno⟩
      · exact hb
      · obtain⟨k'',hk''⟩:=hro i A' hi;exact absurd hk'' (hno k'')
    · exact .inl h2
section
variable{P:Program}{N:Nat}{w0:World}{M H:Nat→Prop}{E:ft}{Γ R:eD}{Q:Exit→Act→World→Prop}
/-! ### Code -/
def XT(next:Act→World→Prop)(Q:Exit→Act→World→Prop):Exit→Act→World→Prop
  | .normal=>next
  | .exit j=>Q (.exit j)
  | .goto j=>Q (.goto j)
  | .ret=>Q .ret
  | .panic c=>Q (.panic c)
  | .outgrown=>Q .outgrown
def XB(id:Nat)(Q:Exit→Act→World→Prop):Exit→Act→World→Prop
  | .normal=>Q .normal
  | .exit j=>bif Nat.beq j id then Q .normal else Q (.exit j)
  | .goto j=>Q (.goto j)
  | .ret=>Q .ret
  | .panic c=>Q (.panic c)
  | .outgrown=>Q .outgrown
theorem be{x y:Code}(h:At N w0 M H E Γ R (x.wp P (XT (y.wp P Q) Q))):At N w0 M H E Γ R ((Code.seq x y).wp P Q):=fun a w hE hC=>
  wp_seq (wp_mono (h a w hE hC) fun e a w q=>by cases e<;>exact q)
theorem aA{id:Nat}{c:Code}(h:At N w0 M H E Γ R (c.wp P (XB id Q))):At N w0 M H E Γ R ((Code.block id c).wp P Q):=fun a w hE hC=>
  wp_block (wp_mono (h a w hE hC) fun e a w q=>by
    cases e with
    | exit j=>
      simp only [XB]at q;simp only [Exit.inBlock];cases hb:Nat.beq j id with
      | true=>rw [hb]at q;rw [aj (cW hb)];exact q
      | false=>rw [hb]at q;rw [ac (fun e=>by subst e;simp at hb)];exact q
    | _=>exact q)
theorem aC(h:At N w0 M H E Γ R (Q .normal)):At N w0 M H E Γ R (Code.skip.wp P Q):=fun a w hE hC=>wp_skip (h a w hE hC)
theorem bL{id:Nat}(h:At N w0 M H E Γ R (Q (.exit id))):At N w0 M H E Γ R ((Code.exit id).wp P Q):=fun a w hE hC=>wp_exit (h a w hE hC)
theorem ay(h:At N w0 M H E Γ R (Q .ret)):At N w0 M H E Γ R (Code.ret.wp P Q):=fun a w hE hC=>wp_ret (h a w hE hC)
theorem ap{c:Operand}{x y:Code}{t:Bool}(hc:ev E c=some (.bool t))(ht:t=true→At N w0 M H E Γ R (x.wp P Q))(hf:t=false→At N w0 M H E Γ R (y.wp P Q)):
    At N w0 M H E Γ R ((Code.cond c x y).wp P Q):=fun a w hE hC=>
  wp_cond_split (hE.ev hc) (fun h=>ht h a w hE hC) (fun h=>hf h a w hE hC)
theorem ak{id:Nat}{l:List Oper}(h:At N w0 M H E Γ R (wpList P l.toArray Q l)):At N w0 M H E Γ R ((Code.region id l.toArray false).wp P Q):=fun a w hE hC=>
  wp_region_lit (h a w hE hC)
theorem aa{ops:Array Oper}(h:At N w0 M H E Γ R (Q .normal)):At N w0 M H E Γ R (wpList P ops Q []):=h
theorem At.weak{E':ft}{Γ' R':eD}{Rel:Act→World→Prop}(h:At N w0 M H E' Γ' R' Rel)(hE:∀a,EOk N E a→EOk N E' a)(hC:∀w,COk w0 M H Γ R w→COk w0 M H Γ' R' w):
    At N w0 M H E Γ R Rel:=fun a w h1 h2=>h a w (hE a h1) (hC w h2)
def vU(E:ft):ft→List (Option Value)
  | []=> []
  | (k,_)::r=>eM E k::vU E r
def vS:ft→List (Option Value)
  | []=> []
  | (_,v)::r=>some v::vS r
theorem EOk.sub{a:Act}(h:EOk N E a):∀{E':ft},vU E E'=vS E'→EOk N E' a
  | [],_=>⟨h.defers,h.size,fun t v hv=>by cases hv⟩
  | (k,u)::r,he=>by
    simp only [vU,vS,List.cons.injEq]at he;have ih:=EOk.sub h (E':=r) he.2;refine⟨h.defers,h.size,fun t v hv=> ?_⟩;simp only [eM]at hv;cases hb:Nat.beq k t with
    | true=>
      rw [hb]at hv;simp at hv;subst hv;rw [←cW hb];exact h.slot k u he.1
    | false=>rw [hb]at hv;exact ih.slot t v hv
theorem COk.congr{w:World}{Γ' R':eD}(h:COk w0 M H Γ R w)(h1:∀k A,ch Γ' k=some A→ch Γ k=some A)(h2:∀k A,ch R' k=some A→ch R k=some A):COk w0 M H Γ' R' w:=by
  obtain⟨F,hF⟩:=h;exact⟨F,hF.touch,fun k A hk=>hF.has k A (h1 k A hk),hF.lt,hF.mine,hF.apart,fun k A hk=>hF.ro k A (h2 k A hk)⟩
def ue(Γ:eD):eD→List (Option Asn)
  | []=> []
  | (k,_)::r=>ch Γ k::ue Γ r
def ul:eD→List (Option Asn)
  | []=> []
  | (_,A)::r=>some A::ul r
theorem HJ{Γ:eD}:∀{Γ':eD},ue Γ Γ'=ul Γ'→∀k A,ch Γ' k=some A→ch Γ k=some A
  | [],_,_,_,h=>by cases h
  | (j,B)::r,he,k,A,h=>by
    simp only [ue,ul,List.cons.injEq]at he;simp only [ch]at h;cases hb:Nat.beq j k with
    | true=>
      rw [hb]at h;simp at h;subst h;rw [←cW hb];exact he.1
    | false=>rw [hb]at h;exact HJ he.2 k A h
def OG(N:Nat)(w0:World)(M H:Nat→Prop){X:Type}(I:X→Prop)(Ei:X→ft)(Γi Ri:X→eD):Act→World→Prop:=
  fun a w=>∃x,I x∧EOk N (Ei x) a∧COk w0 M H (Γi x) (Ri x) w
theorem aG{X:Type}{I:X→Prop}{Ei:X→ft}{Γi Ri:X→eD}(x:X)(hI:I x)(hE:vU E (Ei x)=vS (Ei x))(hΓ:ue Γ (Γi x)=ul (Γi x))(hR:ue R (Ri x)=ul (Ri x)):
    At N w0 M H E Γ R (OG N w0 M H I Ei Γi Ri):=fun a w h1 h2=>⟨x,hI,h1.sub hE,h2.congr (HJ hΓ) (HJ hR)⟩
theorem bC{X:Type}(I:X→Prop)(Ei:X→ft)(Γi Ri:X→eD){x y:Code}(h:At N w0 M H E Γ R (x.wp P (XT (OG N w0 M H I Ei Γi Ri) Q)))(k:∀x,I x→At N w0 M H (Ei x) (Γi x) (Ri x) (y.wp P Q)):
    At N w0 M H E Γ R ((Code.seq x y).wp P Q):=fun a w hE hC=>
  wp_seq (wp_mono (h a w hE hC) fun e a w q=>by
    cases e with
    | normal=>obtain⟨z,h1,h2,h3⟩:=q;exact k z h1 a w h2 h3
    | _=>exact q)
theorem bJ{X:Type}(I:X→Prop)(Ei:X→ft)(Γi Ri:X→eD)(μ:X→Nat){c:Code}(x0:X)(hI:I x0)(hE:vU E (Ei x0)=vS (Ei x0))(hΓ:ue Γ (Γi x0)=ul (Γi x0))(hR:ue R (Ri x0)=ul (Ri x0))
    (round:∀x,I x→At N w0 M H (Ei x) (Γi x) (Ri x) (c.wp P (XT (OG N w0 M H (fun y=>I y∧μ y<μ x) Ei Γi Ri) Q))):At N w0 M H E Γ R ((Code.loop c).wp P Q):=by
  classical
  intro a w h1 h2
  let I':Act→World→Prop:=fun a w=>∃x,I x∧EOk N (Ei x) a∧COk w0 M H (Γi x) (Ri x) w
  let Y:Act→World→Nat→Prop:=fun a w n=>∃x,I x∧EOk N (Ei x) a∧COk w0 M H (Γi x) (Ri x) w∧μ x=n
  have least:∀n a w,Y a w n→∃m,Y a w m∧∀j,Y a w j→m≤j:=by
    intro n
    induction n using Nat.strongRecOn with
    | _ n ih=>
      intro a w hn;by_cases hx:∃j,j<n∧Y a w j
      · obtain⟨j,hj,hy⟩:=hx;exact ih j hj a w hy
      · exact⟨n,hn,fun j hj=>by
          rcases Nat.lt_or_ge j n with h|h
          · exact absurd ⟨j,h,hj⟩ hx
          · exact h⟩
  let ν:Act→World→Nat:=fun a w=>if h:∃m,Y a w m∧∀j,Y a w j→m≤j then Classical.choose h else 0
  have hν:∀a w n,Y a w n→Y a w (ν a w)∧ν a w≤n:=by
    intro a w n hn;have hex:=least n a w hn;have hs:=Classical.choose_spec hex;have e:ν a w=Classical.choose hex:=by simp only [ν];rw [dif_pos hex]
    rw [e];exact⟨hs.1,hs.2 n hn⟩
  refine wp_loop I' ν ⟨x0,hI,h1.sub hE,h2.congr (HJ hΓ) (HJ hR)⟩ fun a w hx=> ?_
  obtain⟨x,e1,e2,e3⟩:=hx;obtain⟨⟨y,f1,f2,f3,f4⟩,_⟩:=hν a w (μ x) ⟨x,e1,e2,e3,J⟩;refine wp_mono (round y f1 a w f2 f3) fun e a' w' q=> ?_
  cases e with
  | normal=>
    obtain⟨z,⟨g1,g4⟩,g2,g3⟩:=q;exact⟨⟨z,g1,g2,g3⟩,Nat.lt_of_le_of_lt (hν a' w' (μ z) ⟨z,g1,g2,g3,J⟩).2 (f4▸g4)⟩
  | _=>exact q
/-! ### Guards -/
def kV(ops:List Oper)(i:Nat):Option Nat:=(ops[i]?).bind (·.dst)
theorem EOk.yield{a:Act}(h:EOk N E a){l:List Oper}{i t:Nat}{b:Bool}(hi:kV l i=some t)(ht:eM E t=some (.bool b)):yielded l.toArray a.tmps i=some b:=by
  unfold yielded;have:(l.toArray[i]?).bind (·.dst)=some t:=by simpa [kV]using hi
  rw [this];simp [h.slot t _ ht]
/-! ### Operations in general -/
variable{ops:Array Oper}{rest:List Oper}{T:TypeId}{ps:String}{af:Array Edge}{d:Nat}{op:Op}
theorem ti{X:Type}(φ:X→Prop)(v:X→Value)(Γ' R':X→eD)(hd:Nat.blt d N=true)
    (hrun:∀a w,EOk N E a→COk w0 M H Γ R w→∃x w',φ x∧(execOp a.eval ⟨some d,op,T,ps,af,none⟩).run P w= .ok (.value (v x)) w'∧COk w0 M H (Γ' x) (R' x) w')
    (k:∀x,φ x→At N w0 M H ((d,v x)::E) (Γ' x) (R' x) (wpList P ops Q rest)):At N w0 M H E Γ R (wpList P ops Q (⟨some d,op,T,ps,af,none⟩::rest)):=by
  intro a w hE hC;obtain⟨x,w',h1,h2,h3⟩:=hrun a w hE hC;unfold wpList;rw [aj (by simp [Region.wanted])];left;unfold Oper.wp;rw [h2];exact k x h1 _ _ (hE.put hd _) h3
def dQ(P:Program)(op:BinOp)(T:TypeId)(u v z:Value):Prop:=∀(x y:Operand)(w:World),((do eqGuard op T x y u v;binOp op T u v:Sem Value)).run P w= .ok z w
theorem fE(o:BinOp)(S:TypeId)(x y:Operand)(k:IntKind)(n:Int)(v:Value):eqGuard o S x y (.int k n) v=pure ():=by cases o<;>rfl
theorem oL(o:BinOp)(S:TypeId)(x y:Operand)(b:ByteArray)(v:Value):eqGuard o S x y (.string b) v=pure ():=by cases o<;>rfl
theorem co{S:TypeId}{k:IntKind}{a b c:Int}(h:k.wrap (a+b)=c):dQ P .add S (.int k a) (.int k b) (.int k c):=fun x y w=>by rw [fE];simp [binOp,Op.intArith,h]
theorem io{S:TypeId}{k:IntKind}{a b c:Int}(h:k.wrap (a-b)=c):dQ P .sub S (.int k a) (.int k b) (.int k c):=fun x y w=>by rw [fE];simp [binOp,Op.intArith,h]
theorem fN{S:TypeId}{k:IntKind}{a b c:Int}(h:k.wrap (a*b)=c):dQ P .mul S (.int k a) (.int k b) (.int k c):=fun x y w=>by rw [fE];simp [binOp,Op.intArith,h]
theorem ml{S:TypeId}{k:IntKind}{a b c:Int}(h0:b≠0)(h:k.wrap (a.tdiv b)=c):dQ P .quo S (.int k a) (.int k b) (.int k c):=fun x y w=>by rw [fE];simp [binOp,Op.intDiv,h0,h]
theorem k8{S:TypeId}{k:IntKind}{a b c:Int}(h0:b≠0)(h:a.tmod b=c):dQ P .rem S (.int k a) (.int k b) (.int k c):=fun x y w=>by rw [fE];simp [binOp,Op.intDiv,h0,h]
theorem Dq{S:TypeId}{k:IntKind}{a b c:Int}(h:bits .and k a b=c):dQ P .and S (.int k a) (.int k b) (.int k c):=fun x y w=>by rw [fE];simp [binOp,intBits_and,h]
theorem Ij{S:TypeId}{k:IntKind}{a b c:Int}(h:bits .or k a b=c):dQ P .or S (.int k a) (.int k b) (.int k c):=fun x y w=>by rw [fE];simp [binOp,intBits_or,h]
theorem RR{S:TypeId}{k:IntKind}{a b c:Int}(h:bits .xor k a b=c):dQ P .xor S (.int k a) (.int k b) (.int k c):=fun x y w=>by rw [fE];simp [binOp,intBits_xor,h]
theorem uq{S:TypeId}{k yk:IntKind}{a b c:Int}(h0:0≤b)(h1:b≤k.bits)(h:a/2^b.toNat=c):dQ P .shr S (.int k a) (.int yk b) (.int k c):=fun x y w=>by
  rw [fE];simp [binOp,shift_shr k yk a b h0 h1,h]
theorem jQ{S:TypeId}{k yk:IntKind}{a b c:Int}(h0:0≤b)(h1:b≤k.bits)(h:k.wrap (a*2^b.toNat)=c):dQ P .shl S (.int k a) (.int yk b) (.int k c):=fun x y w=>by
  rw [fE];simp [binOp,shift_shl k yk a b h0 h1,h]
theorem cy{S:TypeId}{k:IntKind}{a b:Int}:dQ P .lss S (.int k a) (.int k b) (.bool (decide (a<b))):=fun x y w=>by rw [fE];simp [binOp,Op.intCmp]
theorem mt{S:TypeId}{k:IntKind}{a b:Int}:dQ P .leq S (.int k a) (.int k b) (.bool (decide (a≤b))):=fun x y w=>by rw [fE];simp [binOp,Op.intCmp]
theorem fA{S:TypeId}{k:IntKind}{a b:Int}:dQ P .gtr S (.int k a) (.int k b) (.bool (decide (a>b))):=fun x y w=>by rw [fE];simp [binOp,Op.intCmp]
theorem iz{S:TypeId}{k:IntKind}{a b:Int}:dQ P .geq S (.int k a) (.int k b) (.bool (decide (a≥b))):=fun x y w=>by rw [fE];simp [binOp,Op.intCmp]
theorem bv{S:TypeId}{k:IntKind}{a b:Int}:dQ P .eql S (.int k a) (.int k b) (.bool (decide (a=b))):=fun x y w=>by
  rw [fE];simp [binOp,Op.intCmp];exact(Bool.beq_eq_decide_eq a b)
theorem iT{S:TypeId}{k:IntKind}{a b:Int}:dQ P .neq S (.int k a) (.int k b) (.bool (!decide (a=b))):=fun x y w=>by
  rw [fE];simp [binOp,Op.intCmp];simp [bne,Bool.beq_eq_decide_eq a b]
def evs(E:ft):List Operand→Option (List Value)
  | []=>some []
  | x::r=>match ev E x,evs E r with
    | some v,some vs=>some (v::vs)
    | _,_=>none
theorem EOk.evs{a:Act}(h:EOk N E a):∀{xs:List Operand}{vs:List Value},YtedmdgbmdplifaaGreat.evs E xs=some vs→xs.map a.eval=vs
  | [],vs,e=>by simp [YtedmdgbmdplifaaGreat.evs]at e;simp [e]
  | x::r,vs,e=>by
    simp only [YtedmdgbmdplifaaGreat.evs]at e;cases hx: YtedmdgbmdplifaaGreat.ev E x with
    | none=>simp [hx]at e
    | some v=>
      cases hr: YtedmdgbmdplifaaGreat.evs E r with
      | none=>simp [hx,hr]at e
      | some us=>
        simp [hx,hr]at e;subst e;simp [h.ev hx,EOk.evs h hr]
end
/-! ### Types -/
def u9:TypeDesc→Bool
  | .struct _ | .array _ _=>true
  | _=>false
structure TI(P:Program)(T:TypeId)(D:TypeDesc)(z:Value)(s b:Nat):Prop where
  und:P.underlying T=some D
  inf:(P.info? T).map (fun i=>(i.zero,i.size,i.bytes))=some (some z,s,b)
section
variable{P:Program}{T:TypeId}{D:TypeDesc}{z:Value}{s b:Nat}
theorem TI.info(h:TI P T D z s b):∃i,P.info? T=some i∧i.zero=some z∧i.size=s∧i.bytes=b:=by
  have hi:=h.inf;cases hx:P.info? T with
  | none=>rw [hx]at hi;simp at hi
  | some i=>
    rw [hx]at hi;simp at hi;exact⟨i,J,hi.1,hi.2.1,hi.2.2⟩
theorem TI.isAgg(h:TI P T D z s b)(w:World):(isAgg T).run P w= .ok (u9 D) w:=by
  unfold Go.isAgg;rw [Sem.run_bind,run_underlying h.und];cases D<;>simp [u9]
theorem TI.sizeOf(h:TI P T D z s b)(w:World):(sizeOf T).run P w= .ok s w:=by
  obtain⟨i,h1,h2,h3,h4⟩:=h.info;simp [Go.sizeOf,typeInfo,h1,h3]
theorem TI.zero(h:TI P T D z s b)(w:World):(zeroValue T).run P w= .ok z w:=by
  obtain⟨i,h1,h2,h3,h4⟩:=h.info;simp [zeroValue,typeInfo,h1,h2]
end
/-! ### Assertions -/
def bj(b:Nat)(T:TypeId)(c:List Value):Asn:=⟨fun w F=>(∀x,F x↔x=b)∧w.heap[b]?=some (.cells c.toArray T (0,0)),fun⟨h1,h2⟩ hs=>⟨h1,(hs b ((h1 b).2 rfl)).trans h2⟩⟩
theorem uR{w w':World}{base:Nat}{e:TypeId}{size:Nat}{v:Value}{n:Nat}{xs:List Value}(h:w.ownsRow base e size v n xs)(hb:∀b,v.ownBlock=some b→w'.heap[b]?=w.heap[b]?):w'.ownsRow base e size v n xs:=by
  refine⟨h.1,?_⟩;rcases h.2 with hn|⟨g,cap,cur,rfl,hbg,hg,rest⟩
  · exact .inl hn
  · exact .inr ⟨g,cap,cur,J,hbg,(hb g J).trans hg,rest⟩
def own{α:Type}(T:TypeId)(s:Nat)(enc:α→List Value)(v:Value)(l:List α):Asn:=
  ⟨fun w F=>(∀x,F x↔v.ownBlock=some x)∧w.ownsRow 0 T s v l.length (l.flatMap enc),fun⟨h1,h2⟩ hs=>⟨h1,uR h2 fun b hb=>hs b ((h1 b).2 hb)⟩⟩
def uu{α:Type}(w:World)(F:Nat→Prop)(s:Nat)(enc:α→List Value)(v:Value)(l:List α):Prop:=
  ∃c,l.length≤c∧c≤maxLen∧((l= []∧(∀x,¬F x)∧v= .slice none 0 0)∨
    ∃b o,v= .slice (some ⟨b,o,none⟩) l.length c∧F b∧∀j u,(l.flatMap enc)[j]?=some u→w.cell? ⟨b,o+j,none⟩=some u)
def sl{α:Type}(s:Nat)(enc:α→List Value)(v:Value)(l:List α):Asn:=
  ⟨fun w F=>uu w F s enc v l,fun⟨c,h1,h2,h3⟩ hs=>⟨c,h1,h2,by
    rcases h3 with h|⟨b,o,hv,hb,hc⟩
    · exact .inl h
    · exact .inr ⟨b,o,hv,hb,fun j u hj=>(World.cell?_of_block (hs b hb)).trans (hc j u hj)⟩⟩⟩
structure SV where
  a:Option Addr
  n:Nat
  c:Nat
def sv(x:SV):Value:= .slice x.a x.n x.c
def bc:SV:=⟨none,0,0⟩
theorem fS{w:World}{base:Nat}{e:TypeId}{size:Nat}{v:Value}{n:Nat}{xs:List Value}(h:w.ownsRow base e size v n xs):∃x,v=sv x:=by
  rcases h.2 with⟨rfl,_⟩|⟨g,cap,cur,rfl,_⟩
  · exact⟨bc,J⟩
  · exact⟨⟨_,_,_⟩,J⟩
def kg:Value→Nat
  | .slice (some a) _ _=>a.block
  | _=>0
def lM:Value→Nat
  | .slice (some a) _ _=>a.off
  | _=>0
theorem wQ{α:Type}{T:TypeId}{s:Nat}{enc:α→List Value}{v:Value}{l:List α}{w:World}{F:Nat→Prop}(h:(own T s enc v l).pred w F):uu w F s enc v l:=by
  obtain⟨h1,h2⟩:=h;rcases h2.2 with⟨rfl,hn⟩|⟨g,cap,cur,rfl,_,hg,hnc,hcm,hcs,htake⟩
  · have:l= []:=List.eq_nil_of_length_eq_zero hn;subst this;exact⟨0,by simp,by simp,.inl ⟨rfl,fun x hx=>by simpa [Value.ownBlock]using(h1 x).1 hx,rfl⟩⟩
  · refine⟨cap,hnc,hcm,.inr ⟨g,0,J,(h1 g).2 J,fun j u hj=> ?_⟩⟩;have:=h2.cells (g:=g) J j u hj;have hadd:(⟨g,0,none⟩:Addr).add j=⟨g,0+j,none⟩:=by unfold Addr.add;split<;>simp_all
    rwa [hadd]at this
/-! ### Changing what is owned -/
section
variable{w0:World}{M H:Nat→Prop}{Γ R:eD}{w w':World}
theorem EC{k:Nat}{A':Asn}(Γ:eD):∀j A,ch ((k,A')::Γ) j=some A→ch (gk [k] [A'] (gl [k] Γ)) j=some A:=by
  intro j A h;simp only [gk,gl,ch]at h ⊢;cases hb:Nat.beq k j with
  | true=>rw [hb]at h;simpa using h
  | false=>rw [hb]at h;simpa using h
theorem COk.upd{k:Nat}{A A':Asn}(h:COk w0 M H Γ R w)(hk:ch Γ k=some A)
    (hs:∀G,A.pred w G→(∀b,G b→b<w.heap.size)→∃G',A'.pred w' G'∧(∀b,G' b→b<w'.heap.size∧(b<w.heap.size→G b))∧Touch G w w'):COk w0 M H ((k,A')::Γ) R w':=by
  obtain⟨M',H',hL,hstep⟩:=h.step [k] (by simp) (L:= [A]) (by simp [e9,dv,hk]) (R0:= []) (by intro i A h;simp at h);obtain⟨F0,hF⟩:=hL;obtain⟨G',h1,h2,h3⟩:=hs (F0 0) (hF.has 0 A J) (hF.lt 0);have hnew:LOk w M' H' [A'] [] w':=by
    refine⟨fun i b=>i=0∧G' b,?_,?_,?_,?_,?_,?_⟩
    · exact(hF.touch).trans h3 (fun x hx hg=>hF.mine 0 x hg hx)
    · intro i B hi;cases i with
      | zero=>
        simp at hi;subst hi;have:(fun b=>(0:Nat)=0∧G' b)=G':=by funext b;simp
        show A'.pred w' _;rw [this];exact h1
      | succ i=>simp at hi
    · rintro i b ⟨_,hb⟩;exact(h2 b hb).1
    · rintro i b ⟨_,hb⟩ hlt;exact hF.mine 0 b ((h2 b hb).2 hlt) hlt
    · rintro i j b ⟨rfl,_⟩ ⟨rfl,_⟩;rfl
    · intro i B hi;simp at hi
  exact(hstep [A'] [] [k] [] w' (by simp) J J hnew).1.congr (EC Γ) (fun _ _ h=>h)
theorem COk.new{k:Nat}{A':Asn}(h:COk w0 M H Γ R w)(ht:Touch (fun _=>False) w w')(hs:∃G',A'.pred w' G'∧∀b,G' b→b<w'.heap.size∧w.heap.size≤b):COk w0 M H ((k,A')::Γ) R w':=by
  obtain⟨M',H',hL,hstep⟩:=h.step [] (by simp) (L:= []) J (R0:= []) (by intro i A h;simp at h);obtain⟨F0,hF⟩:=hL;obtain⟨G',h1,h2⟩:=hs;have hnew:LOk w M' H' [A'] [] w':=by
    refine⟨fun i b=>i=0∧G' b,?_,?_,?_,?_,?_,?_⟩
    · exact(hF.touch).trans ht (fun x hx hg=>hg.elim)
    · intro i B hi;cases i with
      | zero=>
        simp at hi;subst hi;have:(fun b=>(0:Nat)=0∧G' b)=G':=by funext b;simp
        show A'.pred w' _;rw [this];exact h1
      | succ i=>simp at hi
    · rintro i b ⟨_,hb⟩;exact(h2 b hb).1
    · rintro i b ⟨_,hb⟩ hlt;have:=(h2 b hb).2;omega
    · rintro i j b ⟨rfl,_⟩ ⟨rfl,_⟩;rfl
    · intro i B hi;simp at hi
  exact(hstep [A'] [] [k] [] w' (by simp) J J hnew).1
theorem COk.stay(h:COk w0 M H Γ R w)(ht:Touch (fun _=>False) w w'):COk w0 M H Γ R w':=by
  obtain⟨M',H',hL,hstep⟩:=h.step [] (by simp) (L:= []) J (R0:= []) (by intro i A h;simp at h);obtain⟨F0,hF⟩:=hL;have hnew:LOk w M' H' [] [] w':=⟨fun _ _=>False,(hF.touch).trans ht (fun x hx hg=>hg.elim),fun i B hi=>by simp at hi,fun _ _ h=>h.elim,fun _ _ h=>h.elim,fun _ _ _ h=>h.elim,fun i B hi=>by simp at hi⟩
  exact(hstep [] [] [] [] w' (by simp) J J hnew).1
theorem COk.reads{k:Nat}{A:Asn}(h:COk w0 M H Γ R w)(hk:ch Γ k=some A∨ch R k=some A):∃G,A.pred w G∧∀b,G b→b<w.heap.size:=by
  obtain⟨F,hF⟩:=h;rcases hk with hk|hk
  · exact⟨F k,hF.has k A hk,hF.lt k⟩
  · obtain⟨G,h1,h2⟩:=hF.ro k A hk;exact⟨G,h1,fun b hb=>(h2 b hb).1⟩
theorem COk.freeze{k r:Nat}{A A':Asn}(h:COk w0 M H Γ R w)(hk:ch Γ k=some A)(hA:∀w G,A.pred w G→A'.pred w G):COk w0 M H ((k,KB)::Γ) ((r,A')::R) w:=by
  classical
  obtain⟨F,hF⟩:=h;refine⟨fun j b=>j≠k∧F j b,hF.touch,?_,?_,?_,?_,?_⟩
  · intro j B hj;simp only [ch]at hj;cases hb:Nat.beq k j with
    | true=>
      rw [hb]at hj;simp at hj;subst hj;have:=cW hb;subst this;rintro b ⟨hne,_⟩;exact hne J
    | false=>
      rw [hb]at hj;have hne:j≠k:=fun e=>by subst e;simp at hb
      have:(fun b=>j≠k∧F j b)=F j:=by funext b;simp [hne]
      show B.pred w _;rw [this];exact hF.has j B hj
  · rintro j b ⟨_,hb⟩;exact hF.lt j b hb
  · rintro j b ⟨_,hb⟩ hlt;exact hF.mine j b hb hlt
  · rintro i j b ⟨_,hi⟩ ⟨_,hj⟩;exact hF.apart i j b hi hj
  · intro j B hj;simp only [ch]at hj;cases hb:Nat.beq r j with
    | true=>
      rw [hb]at hj;simp at hj;subst hj;refine⟨F k,hA _ _ (hF.has k A hk),fun b hb=>⟨hF.lt k b hb,?_,fun hlt=> .inl (hF.mine k b hb hlt)⟩⟩;rintro j ⟨hne,hj⟩;exact hne (hF.apart j k b hj hb)
    | false=>
      rw [hb]at hj;obtain⟨G,h1,h2⟩:=hF.ro j B hj;refine⟨G,h1,fun b hb=>⟨(h2 b hb).1,?_,(h2 b hb).2.2⟩⟩;rintro i ⟨_,hi⟩;exact(h2 b hb).2.1 i hi
theorem COk.more{k r:Nat}{A A':Asn}(h:COk w0 M H Γ R w)(hk:ch R k=some A)(hA:∀G,A.pred w G→(∀b,G b→b<w.heap.size)→∃G',A'.pred w G'∧∀b,G' b→G b):COk w0 M H Γ ((r,A')::R) w:=by
  obtain⟨F,hF⟩:=h;refine⟨F,hF.touch,hF.has,hF.lt,hF.mine,hF.apart,fun j B hj=> ?_⟩;simp only [ch]at hj;cases hb:Nat.beq r j with
  | true=>
    rw [hb]at hj;simp at hj;subst hj;obtain⟨G,h1,h2⟩:=hF.ro k A hk;obtain⟨G',h3,h4⟩:=hA G h1 (fun b hb=>(h2 b hb).1);exact⟨G',h3,fun b hb=>h2 b (h4 b hb)⟩
  | false=>rw [hb]at hj;exact hF.ro j B hj
theorem COk.nil{r:Nat}{α:Type}{s:Nat}{enc:α→List Value}(h:COk w0 M H Γ R w):COk w0 M H Γ ((r,sl s enc (.slice none 0 0) [])::R) w:=by
  obtain⟨F,hF⟩:=h;refine⟨F,hF.touch,hF.has,hF.lt,hF.mine,hF.apart,fun j B hj=> ?_⟩;simp only [ch]at hj;cases hb:Nat.beq r j with
  | true=>
    rw [hb]at hj;simp at hj;subst hj;exact⟨fun _=>False,⟨0,by simp,by simp,.inl ⟨rfl,fun x h=>h,rfl⟩⟩,fun b hb=>hb.elim⟩
  | false=>rw [hb]at hj;exact hF.ro j B hj
end
/-! ### Reading cells -/
section
variable{P:Program}{N:Nat}{w0:World}{M H:Nat→Prop}{E:ft}{Γ R:eD}{Q:Exit→Act→World→Prop}
variable{ops:Array Oper}{rest:List Oper}{T:TypeId}{ps:String}{af:Array Edge}{d:Nat}{op:Op}
def Gives(w0:World)(M H:Nat→Prop)(Γ R:eD)(b o:Nat)(us:List Value):Prop:=∀w,COk w0 M H Γ R w→∀(j:Nat) u,us[j]?=some u→w.cell? ⟨b,o+j,none⟩=some u
theorem c8(b o j:Nat):(⟨b,o,none⟩:Addr).add j=⟨b,o+j,none⟩:=by unfold Addr.add;split<;>simp_all
theorem od{k b o:Nat}{S:TypeId}{c us:List Value}(hk:ch Γ k=some (bj b S c))(hu:(c.drop o).take us.length=us):Gives w0 M H Γ R b o us:=by
  intro w hC j u hj;obtain⟨G,⟨_,h2⟩,_⟩:=hC.reads (.inl hk);rw [cell_of_row w b (o+j) _ S (0,0) h2];rw [←hu,List.getElem?_take]at hj;split at hj
  · simpa using hj
  · cases hj
theorem ax{k b o:Nat}{S:TypeId}{c:List Value}{u:Value}(hk:ch Γ k=some (bj b S c))(hu:c[o]?=some u):Gives w0 M H Γ R b o [u]:=by
  intro w hC j u' hj;obtain⟨G,⟨_,h2⟩,_⟩:=hC.reads (.inl hk);cases j with
  | zero=>simp at hj;subst hj;rw [cell_of_row w b (o+0) _ S (0,0) h2];simpa using hu
  | succ j=>simp at hj
theorem oI{α:Type}{s:Nat}{enc:α→List Value}(he:∀x,(enc x).length=s):∀(l:List α)(i o:Nat)(x:α)(u:Value),l[i]?=some x→(enc x)[o]?=some u→(l.flatMap enc)[i*s+o]?=some u
  | [],i,o,x,u,hi,_=>by simp at hi
  | y::l,0,o,x,u,hi,hu=>by
    simp at hi;subst hi;rw [List.flatMap_cons,List.getElem?_append_left (by have:=(cU.1 hu).1;omega)];simpa using hu
  | y::l,i+1,o,x,u,hi,hu=>by
    rw [List.flatMap_cons,List.getElem?_append_right (by rw [he];rw [Nat.add_mul];omega),he];have:=oI he l i o x u (by simpa using hi) hu;rw [show(i+1)*s+o-s=i*s+o by rw [Nat.add_mul];omega];exact this
def HasSl{α:Type}(Γ R:eD)(s:Nat)(enc:α→List Value)(v:Value)(l:List α):Prop:=
  (∃k T,ch Γ k=some (own T s enc v l))∨∃k,ch R k=some (sl s enc v l)
theorem bh{α:Type}{k:Nat}{T:TypeId}{s:Nat}{enc:α→List Value}{v:Value}{l:List α}(h:ch Γ k=some (own T s enc v l)):HasSl Γ R s enc v l:= .inl ⟨k,T,h⟩
theorem aJ{α:Type}{k:Nat}{s:Nat}{enc:α→List Value}{v:Value}{l:List α}(h:ch R k=some (sl s enc v l)):HasSl Γ R s enc v l:= .inr ⟨k,h⟩
theorem HasSl.ok{α:Type}{s:Nat}{enc:α→List Value}{v:Value}{l:List α}(h:HasSl Γ R s enc v l){w:World}(hC:COk w0 M H Γ R w):∃G,uu w G s enc v l:=by
  rcases h with⟨k,T,hk⟩|⟨k,hk⟩
  · obtain⟨G,h1,_⟩:=hC.reads (.inl hk);exact⟨G,wQ h1⟩
  · obtain⟨G,h1,_⟩:=hC.reads (.inr hk);exact⟨G,h1⟩
theorem oe{α:Type}{s:Nat}{enc:α→List Value}{v:Value}{l:List α}(h:HasSl Γ R s enc v l)(he:∀x,(enc x).length=s){i o:Nat}{x:α}(hx:l[i]?=some x){us:List Value}(hu:((enc x).drop o).take us.length=us):
    Gives w0 M H Γ R (kg v) (lM v+i*s+o) us:=by
  intro w hC j u hj;obtain⟨G,c,h1,h2,h3⟩:=h.ok hC;rcases h3 with⟨rfl,_⟩|⟨b,o',rfl,_,hc⟩
  · simp at hx
  · simp only [kg,lM];have hxu:(enc x)[o+j]?=some u:=by
      rw [←hu,List.getElem?_take]at hj;split at hj
      · simpa using hj
      · cases hj
    have:=hc _ u (oI he l i (o+j) x u hx hxu)
    rwa [show o'+(i*s+(o+j))=o'+i*s+o+j by omega]at this
theorem TH{α:Type}{s:Nat}{enc:α→List Value}{v:Value}{l:List α}(h:HasSl Γ R s enc v l)(he:∀x,(enc x).length=s){i:Nat}{x:α}(hx:l[i]?=some x):
    Gives w0 M H Γ R (kg v) (lM v+i*s) (enc x):=by
  have:=oe (w0:=w0) (M:=M) (H:=H) h he (o:=0) hx (us:=enc x) (by simp);simpa using this
theorem Gives.cells{b o:Nat}{us:List Value}(h:Gives w0 M H Γ R b o us){w:World}(hC:COk w0 M H Γ R w):(loadCells ⟨b,o,none⟩ us.length).run P w= .ok us.toArray w:=
  run_loadCells_list w _ us fun j v hj=>by rw [c8];exact h w hC j v hj
/-! ### New blocks -/
theorem DY(w:World)(S:TypeId)(c:List Value):(bj w.heap.size S c).pred (w.alloc (.cells c.toArray S)) (· =w.heap.size):=⟨fun x=>Iff.rfl,heap_alloc_new w _⟩
theorem COk.alloc{k:Nat}{S:TypeId}{c:List Value}{w:World}(h:COk w0 M H Γ R w):COk w0 M H ((k,bj w.heap.size S c)::Γ) R (w.alloc (.cells c.toArray S)):=
  h.new (Touch.alloc _ _ _) ⟨_,DY w S c,fun b hb=>by subst hb;simp⟩
theorem aZ{S:TypeId}{D:TypeDesc}{z:Value}{s bb:Nat}{c:List Value}(ht:TI P S D z s bb)(hc:z.cells.toList=c)(hd:Nat.blt d N=true)
    (k:∀b,At N w0 M H ((d,.pointer (some ⟨b,0,none⟩))::E) ((d,bj b S c)::Γ) R (wpList P ops Q rest)):At N w0 M H E Γ R (wpList P ops Q (⟨some d,.alloc S,T,ps,af,none⟩::rest)):=
  ti (X:=Nat) (fun _=>True) (fun b=> .pointer (some ⟨b,0,none⟩)) (fun b=>(d,bj b S c)::Γ) (fun _=>R) hd (fun a w hE hC=>⟨w.heap.size,w.alloc (.cells c.toArray S),trivial,by
    subst hc;simp [execOp,Instr.alloc,ht.zero,newVar,newRow],hC.alloc⟩) fun b _=>k b
theorem K7{S:TypeId}{x:Operand}{v:Value}{c:List Value}(hx:ev E x=some v)(hc:v.cells.toList=c)(hd:Nat.blt d N=true)
    (k:∀b,At N w0 M H ((d,.pointer (some ⟨b,0,none⟩))::E) ((d,bj b S c)::Γ) R (wpList P ops Q rest)):At N w0 M H E Γ R (wpList P ops Q (⟨some d,.box S x,T,ps,af,none⟩::rest)):=
  ti (X:=Nat) (fun _=>True) (fun b=> .pointer (some ⟨b,0,none⟩)) (fun b=>(d,bj b S c)::Γ) (fun _=>R) hd (fun a w hE hC=>⟨w.heap.size,w.alloc (.cells c.toArray S),trivial,by
    subst hc;simp [execOp,hE.ev hx,Instr.box,newVar,newRow],hC.alloc⟩) fun b _=>k b
theorem r_{k:Nat}{A A':Asn}{Rel:Act→World→Prop}(hk:ch Γ k=some A)(hA:∀w G,A.pred w G→A'.pred w G)(h:At N w0 M H E ((k,A')::Γ) R Rel):At N w0 M H E Γ R Rel:=
  h.weak (fun _ h=>h) fun w hC=>hC.upd hk fun G hG hlt=>⟨G,hA w G hG,fun b hb=>⟨hlt b hb,fun _=>hb⟩,Touch.refl _ _⟩
theorem cK(k r:Nat){A A':Asn}{Rel:Act→World→Prop}(hk:ch Γ k=some A)(hA:∀w G,A.pred w G→A'.pred w G)(h:At N w0 M H E ((k,KB)::Γ) ((r,A')::R) Rel):At N w0 M H E Γ R Rel:=
  h.weak (fun _ h=>h) fun w hC=>hC.freeze hk hA
theorem eo(k:Nat){α:Type}{S:TypeId}{s:Nat}{enc:α→List Value}{Rel:Act→World→Prop}(h:At N w0 M H E ((k,own S s enc (.slice none 0 0) [])::Γ) R Rel):At N w0 M H E Γ R Rel:=
  h.weak (fun _ h=>h) fun w hC=>hC.new (Touch.refl _ _) ⟨fun _=>False,⟨fun x=>by simp [Value.ownBlock],World.ownsRow_nil _ _ _ _⟩,fun b hb=>hb.elim⟩
theorem a_(k r:Nat){A A':Asn}{Rel:Act→World→Prop}(hk:ch R k=some A)(hA:∀w G,A.pred w G→(∀b,G b→b<w.heap.size)→∃G',A'.pred w G'∧∀b,G' b→G b)(h:At N w0 M H E Γ ((r,A')::R) Rel):At N w0 M H E Γ R Rel:=
  h.weak (fun _ h=>h) fun w hC=>hC.more hk (hA w)
/-! ### Stores -/
theorem yA{S:TypeId}{D:TypeDesc}{z:Value}{s bb:Nat}{x y:Operand}{b o:Nat}{v:Value}{A A':Asn}{k:Nat}{us:List Value}(ht:TI P S D z s bb)(hx:ev E x=some (.pointer (some ⟨b,o,none⟩)))(hy:ev E y=some v)
    (hus:v.cells.toList=us) (hs:us.length=s) (h1:us.all (·.oneCell')=true) (hk:ch Γ k=some A)
    (hA:∀w G,A.pred w G→∃cur S',w.heap[b]?=some (.cells cur S' (0,0))∧G b∧o+us.length≤cur.size∧A'.pred (w.setRow b (cur.toList.take o++us++cur.toList.drop (o+us.length)).toArray) G)
    (kk:At N w0 M H E ((k,A')::Γ) R (wpList P ops Q rest)):At N w0 M H E Γ R (wpList P ops Q (⟨none,.store S x y,T,ps,af,none⟩::rest)):=by
  intro a w hE hC;obtain⟨G0,hp,hlt⟩:=hC.reads (.inl hk);obtain⟨cur,S',hb,_,hfit,_⟩:=hA w G0 hp;have hst:=run_storeCells_at P b o S' us 0 cur w hb (by simpa using hfit) (fun v hv=>by simpa using List.all_eq_true.1 h1 v hv);simp only [Nat.add_zero]at hst;have hC':COk w0 M H ((k,A')::Γ) R (w.setRow b (cur.toList.take o++us++cur.toList.drop (o+us.length)).toArray):=
    hC.upd hk fun G hG hGlt=>by
      obtain⟨cur',S'',hb',hGb,hfit',hA'⟩:=hA w G hG;rw [hb]at hb';injection hb' with hb';injection hb' with e1 e2;subst e1;exact⟨G,hA',fun x hx=>⟨by simpa using hGlt x hx,fun _=>hx⟩,⟨J,J,J,by simp,fun i _ hi=>setRow_other w b i _ (fun e=>hi (e▸hGb))⟩⟩
  unfold wpList;rw [aj (by simp [Region.wanted])];left;unfold Oper.wp;have hrun:(execOp a.eval ⟨none,.store S x y,T,ps,af,none⟩).run P w= .ok .skip (w.setRow b (cur.toList.take o++us++cur.toList.drop (o+us.length)).toArray):=by
    have hsz:v.cells.size=s:=by rw [←hs,←hus];simp
    simp [execOp,hE.ev hx,hE.ev hy,Instr.storeAt,Instr.sureAddr,storeVar,ht.sizeOf,hsz,hus,hst]
  rw [hrun];exact kk _ _ hE hC'
theorem B1{b o:Nat}{S:TypeId}{c c' us:List Value}(hc:c.take o++us++c.drop (o+us.length)=c')(hfit:o+us.length≤c.length):∀(w:World)(G:Nat→Prop),(bj b S c).pred w G→
    ∃cur S',w.heap[b]?=some (.cells cur S' (0,0))∧G b∧o+us.length≤cur.size∧(bj b S c').pred (w.setRow b (cur.toList.take o++us++cur.toList.drop (o+us.length)).toArray) G:=by
  rintro w G ⟨h1,h2⟩;refine⟨_,S,h2,(h1 b).2 J,by simpa using hfit,h1,?_⟩;rw [setRow_heap w b _ _ S (0,0) h2,←hc]
theorem aB{S S':TypeId}{D:TypeDesc}{z:Value}{s bb:Nat}{x y:Operand}{b o:Nat}{v:Value}{k:Nat}{c c' us:List Value}(ht:TI P S D z s bb)(hx:ev E x=some (.pointer (some ⟨b,o,none⟩)))(hy:ev E y=some v)
    (hus:v.cells.toList=us) (hs:us.length=s) (h1:us.all (·.oneCell')=true) (hk:ch Γ k=some (bj b S' c)) (hfit:Nat.ble (o+us.length) c.length=true) (hc:c.take o++us++c.drop (o+us.length)=c')
    (kk:At N w0 M H E ((k,bj b S' c')::Γ) R (wpList P ops Q rest)):At N w0 M H E Γ R (wpList P ops Q (⟨none,.store S x y,T,ps,af,none⟩::rest)):=
  yA ht hx hy hus hs h1 hk (B1 hc (by simpa using hfit)) kk
theorem fq{α:Type}{s:Nat}{enc:α→List Value}(he:∀x,(enc x).length=s):∀(l:List α),(l.flatMap enc).length=l.length*s
  | []=>by simp
  | x::l=>by rw [List.flatMap_cons,bD,he,fq he l,aY,Nat.add_mul];omega
theorem rE{α:Type}{s:Nat}{enc:α→List Value}(he:∀x,(enc x).length=s):∀(l:List α)(i o:Nat)(x x':α)(us:List Value),l[i]?=some x→o+us.length≤s→(enc x).take o++us++(enc x).drop (o+us.length)=enc x'→
    (l.flatMap enc).take (i*s+o)++us++(l.flatMap enc).drop (i*s+o+us.length)=(l.set i x').flatMap enc
  | [],i,o,x,x',us,hi,_,_=>by simp at hi
  | y::l,0,o,x,x',us,hi,ho,hx=>by
    simp at hi;subst hi;simp only [List.set_cons_zero,List.flatMap_cons,Nat.zero_mul,Nat.zero_add];rw [List.take_append_of_le_length (by rw [he];omega),List.drop_append_of_le_length (by rw [he];omega),←hx];simp
  | y::l,i+1,o,x,x',us,hi,ho,hx=>by
    simp only [List.set_cons_succ,List.flatMap_cons];rw [←rE he l i o x x' us (by simpa using hi) ho hx];have e1:(i+1)*s+o=(enc y).length+(i*s+o):=by rw [he,Nat.add_mul];omega
    rw [e1,List.take_length_add_append,Nat.add_assoc,List.drop_length_add_append];simp [List.append_assoc]
theorem JB{α:Type}{S:TypeId}{s:Nat}{enc:α→List Value}{v:Value}{l:List α}(he:∀x,(enc x).length=s){i o:Nat}{x x':α}{us:List Value}(hi:l[i]?=some x)(ho:o+us.length≤s)(hx:(enc x).take o++us++(enc x).drop (o+us.length)=enc x'):
    ∀(w:World)(G:Nat→Prop),(own S s enc v l).pred w G→∃cur S',w.heap[kg v]?=some (.cells cur S' (0,0))∧G (kg v)∧lM v+i*s+o+us.length≤cur.size∧
      (own S s enc v (l.set i x')).pred (w.setRow (kg v) (cur.toList.take (lM v+i*s+o)++us++cur.toList.drop (lM v+i*s+o+us.length)).toArray) G:=by
  rintro w G ⟨h1,h2⟩;rcases h2.2 with⟨rfl,hn⟩|⟨g,cap,cur,rfl,hbg,hg,hnc,hcm,hcs,htake⟩
  · have:l= []:=List.eq_nil_of_length_eq_zero hn;subst this;simp at hi
  · simp only [kg,lM,Nat.zero_add];have hil:i<l.length:=(cU.1 hi).1;have hb1:i*s+o+us.length≤l.length*s:=by
      have:(i+1)*s≤l.length*s:=Nat.mul_le_mul_right s hil;rw [Nat.add_mul]at this;omega
    have hb2:l.length*s≤cur.size:=by rw [hcs];exact Nat.mul_le_mul_right s hnc
    refine⟨cur,S,hg,(h1 g).2 J,by omega,h1,?_,.inr ⟨g,cap,_,by simp,hbg,setRow_heap w g _ _ S (0,0) hg,by simpa using hnc,hcm,?_,?_⟩⟩
    · rw [fq he]
    · simp only [List.size_toArray,bD,List.length_take,List.length_drop,Array.length_toList];omega
    · rw [←rE he l i o x x' us hi ho hx,←htake];have hl:(cur.toList.take (l.length*s)).length=l.length*s:=by rw [List.length_take];simp;omega
      simp only [List.length_set];apply List.ext_getElem?;intro j;simp only [List.getElem?_append,List.getElem?_take,List.getElem?_drop,bD,List.length_take,Array.length_toList]
      repeat' split
      all_goals (first|rfl|omega|(congr 1;omega)|skip)
end
structure FO(P:Program)(S:TypeId)(i off:Nat):Prop where
  ex:∃fields f n,P.underlying S=some (.struct fields)∧fields[i]?=some f∧f.offset=off∧(P.info? f.type).map (·.size)=some (n+1)
section
variable{P:Program}{N:Nat}{w0:World}{M H:Nat→Prop}{E:ft}{Γ R:eD}{Q:Exit→Act→World→Prop}
variable{ops:Array Oper}{rest:List Oper}{T:TypeId}{ps:String}{af:Array Edge}{d:Nat}{op:Op}
theorem FO.run{S:TypeId}{i off:Nat}(h:FO P S i off)(b o:Nat)(w:World):(Instr.fieldAt S (.pointer (some ⟨b,o,none⟩)) i).run P w= .ok (.pointer (some ⟨b,o+off,none⟩)) w:=by
  obtain⟨fields,f,n,h1,h2,h3,h4⟩:=h.ex;have hs:(sizeOf f.type).run P w= .ok (n+1) w:=by
    cases hi:P.info? f.type with
    | none=>rw [hi]at h4;simp at h4
    | some t=>rw [hi]at h4;simp at h4;simp [sizeOf,typeInfo,hi,h4]
  simp [Instr.fieldAt,run_underlying h1,h2,Instr.sureAddr,fieldPlace,hs,c8,h3]
/-! ### Values that are aggregates -/
theorem gO{S:TypeId}{D:TypeDesc}{z:Value}{s bb o:Nat}{cs:Array Value}{u:Value}(ht:TI P S D z s bb)(hag:u9 D=false)(hu:cs[o]?=some u)(w:World):(part S cs o).run P w= .ok u w:=by
  simp [part,ht.isAgg,hag,hu]
theorem DT{S:TypeId}{D:TypeDesc}{z:Value}{s bb o:Nat}{cs us:Array Value}(ht:TI P S D z s bb)(hag:u9 D=true)(hu:cs.extract o (o+s)=us)(w:World):(part S cs o).run P w= .ok (.agg us) w:=by
  simp [part,ht.isAgg,hag,ht.sizeOf,hu]
def FT(P:Program)(S:TypeId)(i off:Nat)(U:TypeId):Prop:=∃fields f,P.underlying S=some (.struct fields)∧fields[i]?=some f∧f.offset=off∧f.type=U
def PL(P:Program)(S:TypeId)(places:List (Nat×Nat)):Prop:=∃fields,P.underlying S=some (.struct fields)∧fields.toList.mapM (fun f=>(P.info? f.type).map fun i=>(f.offset,i.size))=some places
def evps(E:ft):List (Nat×Operand)→Option (List (Nat×Value))
  | []=>some []
  | (i,x)::r=>match ev E x,evps E r with
    | some v,some vs=>some ((i,v)::vs)
    | _,_=>none
theorem EOk.evps{a:Act}(h:EOk N E a):∀{xs:List (Nat×Operand)}{vs:List (Nat×Value)},YtedmdgbmdplifaaGreat.evps E xs=some vs→xs.map (fun p=>(p.1,a.eval p.2))=vs
  | [],vs,e=>by simp [YtedmdgbmdplifaaGreat.evps]at e;simp [e]
  | (i,x)::r,vs,e=>by
    simp only [YtedmdgbmdplifaaGreat.evps]at e;cases hx: YtedmdgbmdplifaaGreat.ev E x with
    | none=>simp [hx]at e
    | some v=>
      cases hr: YtedmdgbmdplifaaGreat.evps E r with
      | none=>simp [hx,hr]at e
      | some us=>
        simp [hx,hr]at e;subst e;simp [h.ev hx,EOk.evps h hr]
/-! ### Slices of the call's own -/
theorem pw{α:Type}{S:TypeId}{s:Nat}{enc:α→List Value}{l:List α}{w:World}{cap:Nat}{cur:Array Value}(he:(l.flatMap enc).length=l.length*s)(hc:cur.size=cap*s)(hlc:l.length≤cap)(hm:cap≤maxLen)(ht:cur.toList.take (l.length*s)=l.flatMap enc):
    (own S s enc (.slice (some ⟨w.heap.size,0,none⟩) l.length cap) l).pred (w.alloc (.cells cur S)) (· =w.heap.size):=
  ⟨fun x=>by simp [Value.ownBlock,eq_comm],he,.inr ⟨w.heap.size,cap,cur,rfl,bn _,heap_alloc_new w _,hlc,hm,hc,ht⟩⟩
theorem zi{s:Nat}{v:Value}{zs:Array Value}(hv:v.cells.size=s)(hz:zs.size=s):Instr.fill (fun i=>some (i*s,s)) zs [(0,v)]=some v.cells:=by
  have h:∀(l:List Value)(k:Nat)(cs:Array Value),k+l.length=cs.size→(l.zipIdx k).foldl (fun cs(p:Value×Nat)=>cs.setIfInBounds (0+p.2) p.1) cs=(cs.toList.take k++l).toArray:=by
    intro l
    induction l with
    | nil=>intro k cs hk;simp at hk;subst hk;simp only [List.zipIdx_nil,List.foldl_nil,List.append_nil];rw [List.take_of_length_le (by simp)]
    | cons u l ih=>
      intro k cs hk;simp only [List.zipIdx_cons,List.foldl_cons,Nat.zero_add];have h2:=ih (k+1) (cs.setIfInBounds k u) (by simp at hk ⊢;omega);simp only [Nat.zero_add]at h2;rw [h2]
      congr 1
      have hlt:k<cs.toList.length:=by rw [Array.length_toList];simp at hk;omega
      simp [List.take_set,List.take_succ_eq_append_getElem hlt];rw [List.set_append_right _ _ (by simp;omega)];have hmin:k-(List.take k cs.toList).length=0:=by rw [List.length_take];omega
      rw [hmin];simp
  simp only [Instr.fill];rw [ac (by simp [hv,hz])];have h2:=h v.cells.toList 0 zs (by simp [hv,hz]);simp only [List.take_zero,List.nil_append,Array.toArray_toList]at h2
  congr 1
  rw [←Array.foldl_toList,Array.toList_zipIdx,Nat.zero_mul];exact h2
theorem bq{α:Type}{S U:TypeId}{D:TypeDesc}{z:Value}{s bb:Nat}(enc:α→List Value)(e:α){x:Operand}{v:Value}(hS:P.underlying S=some (.slice U))(hU:TI P U D z s bb)(hs:z.cells.size=s)(hs0:0<s)(hsb:s≤1000000)(hx:ev E x=some v)(hv:v.cells.toList=enc e)(he:(enc e).length=s)
    (hd:Nat.blt d N=true) (k:∀v':SV,At N w0 M H ((d,sv v')::E) ((d,own U s enc (sv v') [e])::Γ) R (wpList P ops Q rest)):At N w0 M H E Γ R (wpList P ops Q (⟨some d,.buildSlice S 1 #[(0,x)],T,ps,af,none⟩::rest)):=
  ti (X:=SV) (fun _=>True) (fun v'=>sv v') (fun v'=>(d,own U s enc (sv v') [e])::Γ) (fun _=>R) hd (fun a w hE hC=>⟨⟨some ⟨w.heap.size,0,none⟩,1,1⟩,w.alloc (.cells v.cells U),trivial,by
    have hvs:v.cells.size=s:=by rw [←he,←hv];simp
    have h0:¬s=0:=by omega
    have hzz:((Array.range (1*s)).map (z.cells[· %z.cells.size]!)).size=s:=by simp
    have hf:=zi (s:=s) (v:=v) hvs hzz;simp only [Nat.one_mul]at hf;have hb:¬16777216<s:=by omega
    simp [execOp,hE.ev hx,Instr.buildSlice,run_underlying hS,hU.sizeOf,hU.zero,newRow,h0,hb,hf,sv],by
    have hvs:v.cells.size=s:=by rw [←he,←hv];simp
    refine hC.new (Touch.alloc _ _ _) ⟨_,pw (S:=U) (s:=s) (enc:=enc) (l:= [e]) (cap:=1) (by simpa using he) (by simpa using hvs) (by simp) (by simp [maxLen]) (by simp [hv];rw [←he];exact List.take_of_length_le (bU _)),fun b hb=>by subst hb;simp⟩⟩) fun v' _=>k v'
theorem D4{α:Type}{S U:TypeId}{D:TypeDesc}{z:Value}{s bb:Nat}(enc:α→List Value)(hS:P.underlying S=some (.slice U))(hU:TI P U D z s bb)
    (hd:Nat.blt d N=true) (k:∀v':SV,At N w0 M H ((d,sv v')::E) ((d,own U s enc (sv v') [])::Γ) R (wpList P ops Q rest)):At N w0 M H E Γ R (wpList P ops Q (⟨some d,.buildSlice S 0 #[],T,ps,af,none⟩::rest)):=
  ti (X:=SV) (fun _=>True) (fun v'=>sv v') (fun v'=>(d,own U s enc (sv v') [])::Γ) (fun _=>R) hd (fun a w hE hC=>⟨⟨some ⟨w.heap.size,0,none⟩,0,0⟩,w.alloc (.cells #[] U),trivial,by
    simp [execOp,Instr.buildSlice,run_underlying hS,hU.sizeOf,newRow,Instr.fill,Array.range_zero',sv],
    hC.new (Touch.alloc _ _ _) ⟨_,pw (S:=U) (s:=s) (enc:=enc) (l:= []) (cap:=0) (by simp) (by simp) (by simp) (by simp) (by simp),fun b hb=>by subst hb;simp⟩⟩) fun v' _=>k v'
theorem dy{α:Type}{S U:TypeId}{D:TypeDesc}{z:Value}{s bb:Nat}{enc:α→List Value}{x y:Operand}{v v2:Value}{l l2:List α}(k:Nat)(hS:P.underlying S=some (.slice U))(hU:TI P U D z s bb)(hzs:z.cells.size=s)(hs0:0<s)(he:∀x,(enc x).length=s)(h1:∀x,(enc x).all (·.oneCell')=true)
    (hx:ev E x=some v) (hy:ev E y=some v2) (hk:ch Γ k=some (own U s enc v l)) (h2:HasSl Γ R s enc v2 l2) (hm:(l.length+l2.length)*bb≤140737488355328) (hm':l.length+l2.length≤maxLen)
    (hd:Nat.blt d N=true) (kk:∀v':SV,At N w0 M H ((d,sv v')::E) ((k,own U s enc (sv v') (l++l2))::Γ) R (wpList P ops Q rest)):At N w0 M H E Γ R (wpList P ops Q (⟨some d,.call {callee:= .builtin .append,args:= #[x,y],argTypes:= #[S,S]},T,ps,af,none⟩::rest)):=by
  refine ti (X:=SV) (fun _=>True) (fun v'=>sv v') (fun v'=>(k,own U s enc (sv v') (l++l2))::Γ) (fun _=>R) hd (fun a w hE hC=> ?_) fun v' _=>kk v'
  obtain⟨G0,hp0,hlt0⟩:=hC.reads (.inl hk);obtain⟨G2,c,h3,h4,h5⟩:=h2.ok hC;obtain⟨i,i1,i2,i3,i4⟩:=hU.info;have hfl:∀l':List α,(l'.flatMap enc).length=l'.length*s:=fq he;rcases h5 with⟨rfl,_,rfl⟩|⟨b2,o2,rfl,_,hc2⟩
  · obtain⟨xv,rfl⟩:=fS hp0.2;refine⟨xv,w,O,?_,?_⟩
    · have hr:=run_append_owned_none (P:=P) w 0 S T U i s hS i1 (sv xv) l.length _ hp0.2;simp [execOp,resolve,invoke,builtin,hE.ev hx,hE.ev hy,hr]
    · simp only [List.append_nil];exact hC.upd hk fun G hG hGlt=>⟨G,hG,fun b hb=>⟨hGlt b hb,fun _=>hb⟩,Touch.refl _ _⟩
  · obtain⟨v',w',hr,ho,hg,hn⟩:=run_append_own (P:=P) w 0 S T U i z s bb hS i1 i2 i3 i4 hzs hs0 v l.length _ hp0.2 ⟨b2,o2,none⟩ l2.length c (l2.flatMap enc) (hfl l2)
      (fun j u hj=>by rw [c8];exact hc2 j u hj) (fun u hu=>by obtain⟨x,_,hxu⟩:=List.mem_flatMap.1 hu;simpa using List.all_eq_true.1 (h1 x) u hxu) hm' hm (bn _)
    obtain⟨xv,rfl⟩:=fS ho;refine⟨xv,w',O,?_,?_⟩
    · simp [execOp,resolve,invoke,builtin,hE.ev hx,hE.ev hy,hr]
    · refine hC.upd hk fun G hG hGlt=>⟨fun b=>(sv xv).ownBlock=some b,⟨fun x=>Iff.rfl,?_⟩,fun b hb=>⟨(ho.lt b hb).2,fun hlt=> ?_⟩,⟨hg.os,hg.tape,hg.output,hg.size,fun i hi hne=>hg.block i hi (fun e=>hne ((hG.1 i).2 e.symm))⟩⟩
      · rw [bD,List.flatMap_append];exact ho
      · rcases hp0.2.2 with⟨rfl,hl0⟩|⟨g,cap,cur,rfl,hbg,hgg,hnc,hcm,hcs,htake⟩
        · exfalso;have hl:l= []:=List.eq_nil_of_length_eq_zero hl0;subst hl;by_cases hz:l2.length=0
          · have hl2:l2= []:=List.eq_nil_of_length_eq_zero hz;subst hl2;have:=(hn.2 ⟨J,J⟩)
            rw [this]at hb;simp [Value.ownBlock]at hb
          · have hr2:=run_append_nil (P:=P) w S T U i z hS i1 i2 ⟨b2,o2,none⟩ l2.length c (l2.flatMap enc) (by rw [hfl,i3]) (fun j u hj=>by rw [c8];exact hc2 j u hj) (by simpa using Nat.pos_of_ne_zero hz) (by simp only [maxLen]at hm';simp at hm';omega) (by rw [i4];simp at hm;omega);rw [hr2]at hr;injection hr with hr3 hr4;replace hb:(sv xv).ownBlock=some b:=hb;rw [←hr3]at hb;simp [Value.ownBlock]at hb;omega
        · by_cases hroom:l.length+l2.length≤cap
          · have hfit:l.length*i.size+(l2.flatMap enc).length≤cur.size:=by rw [hfl,hcs,i3,←Nat.add_mul];exact Nat.mul_le_mul_right _ hroom
            have hr2:=run_append_room (P:=P) w S T U i hS i1 g l.length cap cur hgg ⟨b2,o2,none⟩ l2.length c (l2.flatMap enc) (by rw [hfl,i3]) (fun j u hj=>by rw [c8];exact hc2 j u hj) (fun u hu=>by obtain⟨x,_,hxu⟩:=List.mem_flatMap.1 hu;simpa using List.all_eq_true.1 (h1 x) u hxu) hroom hfit;rw [hr2]at hr;injection hr with hr3 hr4;replace hb:(sv xv).ownBlock=some b:=hb;rw [←hr3]at hb;simp [Value.ownBlock]at hb;subst hb;exact(hG.1 g).2 J
          · exfalso;have holds:=hp0.2.cells (g:=g) J;have hr2:=run_append_grow (P:=P) w S T U i z hS i1 i2 ⟨g,0,none⟩ l.length cap (l.flatMap enc) (by rw [hfl,i3]) holds ⟨b2,o2,none⟩ l2.length c (l2.flatMap enc) (by rw [hfl,i3]) (fun j u hj=>by rw [c8];exact hc2 j u hj) (by omega) (by simp only [maxLen]at hm';omega) (growslice_fits (by omega) (by rw [i4];exact hm));rw [hr2]at hr;injection hr with hr3 hr4;replace hb:(sv xv).ownBlock=some b:=hb;rw [←hr3]at hb;simp [Value.ownBlock]at hb;omega
end
def Cb(P:Program)(n:Nat):Prop:=∃fn,P.funcs[n]?=some fn∧(fn.name== "runtime.NumGoroutine")=false∧fn.body.isNone=false
def Spec(P:Program)(n:Nat)(vs:List Value)(L R0:List Asn){X:Type}(φ:X→Prop)(v:X→Value)(L' R':X→List Asn):Prop:=
  ∀w M H,LOk w M H L R0 w→Calls P n vs.toArray w (OU w M H φ v L' R')
def jr(Γ R:eD):List (Bool×Nat)→List (Option Asn)
  | []=> []
  | (true,k)::r=>ch Γ k::jr Γ R r
  | (false,k)::r=>ch R k::jr Γ R r
theorem nq:∀(Γ R:eD)(ks:List (Bool×Nat))(L:List Asn)(i:Nat)(A:Asn),jr Γ R ks=dv L→L[i]?=some A→∃p,p∈ks∧(match p with|(true,k)=>ch Γ k=some A|(false,k)=>ch R k=some A)
  | Γ,R,[],[],i,A,_,h=>by simp at h
  | Γ,R,(true,k)::ks,B::L,i,A,h,hi=>by
    simp only [jr,dv,List.cons.injEq]at h;cases i with
    | zero=>simp at hi;subst hi;exact⟨(true,k),by simp,h.1⟩
    | succ i=>obtain⟨p,hp,hq⟩:=nq Γ R ks L i A h.2 (by simpa using hi);exact⟨p,by simp [hp],hq⟩
  | Γ,R,(false,k)::ks,B::L,i,A,h,hi=>by
    simp only [jr,dv,List.cons.injEq]at h;cases i with
    | zero=>simp at hi;subst hi;exact⟨(false,k),by simp,h.1⟩
    | succ i=>obtain⟨p,hp,hq⟩:=nq Γ R ks L i A h.2 (by simpa using hi);exact⟨p,by simp [hp],hq⟩
  | Γ,R,[],_::_,_,_,h,_=>by simp [jr,dv]at h
  | Γ,R,(true,_)::_,[],_,_,h,_=>by simp [jr,dv]at h
  | Γ,R,(false,_)::_,[],_,_,h,_=>by simp [jr,dv]at h
def iR(ks:List Nat):List (Bool×Nat)→Bool
  | []=>true
  | (true,k)::r=> !(ks.any (Nat.beq k))&&iR ks r
  | (false,_)::r=>iR ks r
def ep:List (Bool×Nat)→Bool
  | []=>true
  | (true,_)::_=>false
  | (false,_)::r=>ep r
theorem oH{ks:List Nat}:∀{rs:List (Bool×Nat)},iR ks rs=true→∀k,(true,k)∈rs→k∉ks
  | [],_,k,h=>by simp at h
  | (true,j)::rs,h,k,hk=>by
    simp only [iR,Bool.and_eq_true]at h;rcases List.mem_cons.1 hk with e|e
    · injection e with _ e;subst e;intro hm;have:ks.any (Nat.beq k)=true:=List.any_eq_true.2 ⟨k,hm,by simp⟩;simp [this]at h
    · exact oH h.2 k e
  | (false,j)::rs,h,k,hk=>by
    simp only [iR]at h;rcases List.mem_cons.1 hk with e|e
    · injection e with e _;cases e
    · exact oH h k e
theorem px:∀{rs:List (Bool×Nat)},ep rs=true→∀k,(true,k)∉rs
  | [],_,k=>by simp
  | (true,j)::rs,h,k=>by simp [ep]at h
  | (false,j)::rs,h,k=>by
    simp only [ep]at h;simp [px h k]
def rr:List Nat→Bool
  | []=>true
  | k::ks=> !(ks.any (Nat.beq k))&&rr ks
theorem oG:∀{ks:List Nat},rr ks=true→ks.Nodup
  | [],_=>by simp
  | k::ks,h=>by
    simp only [rr,Bool.and_eq_true]at h;refine List.nodup_cons.2 ⟨fun hm=> ?_,oG h.2⟩;have:ks.any (Nat.beq k)=true:=List.any_eq_true.2 ⟨k,hm,by simp⟩;simp [this]at h
section
variable{P:Program}{N:Nat}{w0:World}{M H:Nat→Prop}{E:ft}{Γ R:eD}{Q:Exit→Act→World→Prop}
variable{ops:Array Oper}{rest:List Oper}{T:TypeId}{ps:String}{af:Array Edge}{d:Nat}{op:Op}
theorem wg{n:Nat}{vs:List Value}{L R0:List Asn}{X:Type}{φ:X→Prop}{v:X→Value}{L' R':X→List Asn}(hs:Spec P n vs L R0 φ v L' R'){w:World}(hC:COk w0 M H Γ R w)
    (ks:List Nat) (hnd:rr ks=true) (hL:e9 Γ ks=dv L) (rs:List (Bool×Nat)) (hR:jr Γ R rs=dv R0) (hl:iR ks rs=true) (ns:List Nat) (hns:rr ns=true) (hnl:∀x,φ x→ns.length=(L' x).length) (rns:List Nat) (hrl:∀x,φ x→ep rs=true→rns.length=(R' x).length):
    Calls P n vs.toArray w fun e w'=>∃x,φ x∧e= .returned (v x)∧COk w0 M H (gk ns (L' x) (gl ks Γ)) (bif ep rs then gk rns (R' x) R else R) w':=by
  have hR0:∀(i:Nat) A,R0[i]?=some A→(∃k,ch R k=some A)∨∃k,k∉ks∧ch Γ k=some A:=by
    intro i A hi;obtain⟨⟨b,k⟩,hp,hq⟩:=nq Γ R rs R0 i A hR hi;cases b with
    | true=>exact .inr ⟨k,oH hl k hp,hq⟩
    | false=>exact .inl ⟨k,hq⟩
  obtain⟨M',H',hin,hout⟩:=hC.step ks (oG hnd) hL hR0;refine(hs w M' H' hin).mono ?_;rintro e w' ⟨x,h1,rfl,h2⟩;refine⟨x,h1,J,?_⟩;cases hno:ep rs with
  | false=>
    have hdrop:LOk w M' H' (L' x) [] w':=by
      obtain⟨F,hF⟩:=h2;exact⟨F,hF.touch,hF.has,hF.lt,hF.mine,hF.apart,fun i A hi=>by simp at hi⟩
    exact(hout (L' x) [] ns [] w' (oG hns) (hnl x h1) J hdrop).1
  | true=>
    refine(hout (L' x) (R' x) ns rns w' (oG hns) (hnl x h1) (hrl x h1 hno) h2).2 fun i A hi=> ?_
    obtain⟨⟨b,k⟩,hp,hq⟩:=nq Γ R rs R0 i A hR hi;cases b with
    | true=>exact absurd hp (px hno k)
    | false=>exact⟨k,hq⟩
theorem pe{n:Nat}(h:Cb P n)(args:Array Value)(w:World):(callFunc n args).run P w= .ok (.enter n args) w:=by
  obtain⟨fn,h1,h2,h3⟩:=h;have h3':¬fn.body=none:=by intro e;rw [e]at h3;simp at h3
  simp at h2;simp [callFunc,h1,h2,h3']
theorem MN{n:Nat}{f:Operand}{xs:List Operand}{cap us vs:List Value}{at_:Array TypeId}{L R0:List Asn}{X:Type}{φ:X→Prop}{v:X→Value}{L' R':X→List Asn}(hs:Spec P n vs L R0 φ v L' R')(hcb:Cb P n)
    (ks:List Nat) (rs:List (Bool×Nat)) (ns rns:List Nat) (hf:ev E f=some (.func (.func n) #[] cap.toArray)) (hx:evs E xs=some us) (hu:us++cap=vs)
    (hnd:rr ks=true) (hL:e9 Γ ks=dv L) (hR:jr Γ R rs=dv R0) (hl:iR ks rs=true) (hns:rr ns=true) (hnl:∀x,φ x→ns.length=(L' x).length) (hrl:∀x,φ x→ep rs=true→rns.length=(R' x).length)
    (hd:Nat.blt d N=true) (k:∀x,φ x→At N w0 M H ((d,v x)::E) (gk ns (L' x) (gl ks Γ)) (bif ep rs then gk rns (R' x) R else R) (wpList P ops Q rest)):
    At N w0 M H E Γ R (wpList P ops Q (⟨some d,.call {callee:= .value f,args:=xs.toArray,argTypes:=at_},T,ps,af,none⟩::rest)):=by
  intro a w hE hC;unfold wpList;rw [aj (by simp [Region.wanted])];left;unfold Oper.wp;have hev:=hE.evs hx;have hrun:(execOp a.eval ⟨some d,.call {callee:= .value f,args:=xs.toArray,argTypes:=at_},T,ps,af,none⟩).run P w= .ok (.enter n vs.toArray) w:=by
    subst hu;simp [execOp,resolve,hE.ev hf,Deferred.ofValue,invoke,hev,pe hcb]
  rw [hrun];refine(wg hs hC ks hnd hL rs hR hl ns hns hnl rns hrl).mono ?_;rintro e w' ⟨x,h1,rfl,h2⟩;exact k x h1 _ _ (hE.put hd _) h2
/-! ### Entering a function -/
def KL:Nat→List Value→ft
  | _,[]=> []
  | i,v::vs=>(i,v)::KL (i+1) vs
def HM:Nat→List Asn→eD
  | _,[]=> []
  | i,A::L=>(i,A)::HM (i+1) L
theorem zJ:∀{vs:List Value}{i t:Nat}{v:Value},eM (KL i vs) t=some v→i≤t∧vs[t-i]?=some v
  | [],_,_,_,h=>by cases h
  | u::vs,i,t,v,h=>by
    simp only [KL,eM]at h;cases hb:Nat.beq i t with
    | true=>
      rw [hb]at h;have:=cW hb;subst this;simp at h;simp [h]
    | false=>
      rw [hb]at h;obtain⟨h1,h2⟩:=zJ (vs:=vs) h;refine⟨by omega,?_⟩;rw [show t-i=(t-(i+1))+1 by omega];simpa using h2
theorem uh:∀{L:List Asn}{i t:Nat}{A:Asn},ch (HM i L) t=some A→i≤t∧L[t-i]?=some A
  | [],_,_,_,h=>by cases h
  | u::vs,i,t,v,h=>by
    simp only [HM,ch]at h;cases hb:Nat.beq i t with
    | true=>
      rw [hb]at h;have:=cW hb;subst this;simp at h;simp [h]
    | false=>
      rw [hb]at h;obtain⟨h1,h2⟩:=uh (L:=vs) h;refine⟨by omega,?_⟩;rw [show t-i=(t-(i+1))+1 by omega];simpa using h2
theorem aI{n:Nat}{fn:Func}{c:Code}{vs:List Value}{L R0:List Asn}{X:Type}{φ:X→Prop}{v:X→Value}{L' R':X→List Asn}(hf:P.funcs[n]?=some fn)(hb:fn.body=some c)(hN:fn.ntmps=N)(hv:Nat.ble vs.length N=true)
    (h:∀w0 M H,At N w0 M H (KL 0 vs) (HM 0 L) (HM 0 R0) (c.wp P (bodyPost P fn (OU w0 M H φ v L' R')))):Spec P n vs L R0 φ v L' R':=by
  intro w M H hL;refine calls_of_wp hf hb (h w M H _ _ ⟨J,?_,fun t u ht=> ?_⟩ ?_)
  · simp only [Array.size_append,Array.size_replicate];omega
  · obtain⟨h1,h2⟩:=zJ ht;simp only [Nat.sub_zero]at h2;rw [Array.getElem?_append_left (by have:=(cU.1 h2).1;simpa using this)];simpa using h2
  · obtain⟨F,hF⟩:=hL;refine⟨F,hF.touch,fun k A hk=>hF.has k A ?_,hF.lt,hF.mine,hF.apart,fun k A hk=>hF.ro k A ?_⟩
    · simpa using(uh hk).2
    · simpa using(uh hk).2
/-! ### Returning -/
def yu(tmps:Array Value):ResultVar→Sem Value
  | .tmp t=>pure (tmps.getD t undef)
  | .cell x t=>do loadVar t (←asAddr (tmps.getD x undef))
theorem oD(fn:Func)(tmps:Array Value):results fn tmps=(do
    let vs←fn.results.mapM (yu tmps)
    pure (if h:vs.size=1 then vs[0]else .tuple vs)):=by
  have:(fun r=>match r with
    | ResultVar.tmp t=>(pure (tmps.getD t undef):Sem Value)
    | ResultVar.cell x t=>do loadVar t (←asAddr (tmps.getD x undef)))=yu tmps:=by
    funext r;cases r<;>rfl
  rw [←this];rfl
def RV(P:Program)(N:Nat)(w0:World)(M H:Nat→Prop)(E:ft)(Γ R:eD)(r:ResultVar)(u:Value):Prop:=
  ∀a w,EOk N E a→COk w0 M H Γ R w→(yu a.tmps r).run P w= .ok u w
theorem aL{t:Nat}{u:Value}(h:eM E t=some u):RV P N w0 M H E Γ R (.tmp t) u:=fun a w hE hC=>by simp [yu,hE.slot t u h]
theorem bw{x:Nat}{S:TypeId}{D:TypeDesc}{z:Value}{s bb b o:Nat}{us:List Value}(ht:TI P S D z s bb)(hag:u9 D=true)(hx:eM E x=some (.pointer (some ⟨b,o,none⟩)))(hn:us.length=s)(hg:Gives w0 M H Γ R b o us):
    RV P N w0 M H E Γ R (.cell x S) (.agg us.toArray):=fun a w hE hC=>by
  have:=hg.cells (P:=P) hC;rw [hn]at this;simp [yu,hE.slot x _ hx,asAddr,loadVar,ht.isAgg,hag,ht.sizeOf,this]
def RS(P:Program)(N:Nat)(w0:World)(M H:Nat→Prop)(E:ft)(Γ R:eD)(rs:Array ResultVar)(u:Value):Prop:=
  ∀(fn:Func) a w,fn.results=rs→EOk N E a→COk w0 M H Γ R w→(results fn a.tmps).run P w= .ok u w
theorem iU:RS P N w0 M H E Γ R #[] (.tuple #[]):=fun fn a w hr _ _=>results_none hr _ _ _
theorem ce{r1:ResultVar}{u1:Value}(h1:RV P N w0 M H E Γ R r1 u1):RS P N w0 M H E Γ R #[r1] u1:=fun fn a w hr hE hC=>by
  have e1:=h1 a w hE hC;simp [oD,hr,e1]
theorem Jd{r1 r2:ResultVar}{u1 u2:Value}(h1:RV P N w0 M H E Γ R r1 u1)(h2:RV P N w0 M H E Γ R r2 u2):RS P N w0 M H E Γ R #[r1,r2] (.tuple #[u1,u2]):=fun fn a w hr hE hC=>by
  have e1:=h1 a w hE hC;have e2:=h2 a w hE hC;simp [oD,hr,e1,e2]
theorem Vh{r1 r2 r3:ResultVar}{u1 u2 u3:Value}(h1:RV P N w0 M H E Γ R r1 u1)(h2:RV P N w0 M H E Γ R r2 u2)(h3:RV P N w0 M H E Γ R r3 u3):RS P N w0 M H E Γ R #[r1,r2,r3] (.tuple #[u1,u2,u3]):=fun fn a w hr hE hC=>by
  have e1:=h1 a w hE hC;have e2:=h2 a w hE hC;have e3:=h3 a w hE hC;simp [oD,hr,e1,e2,e3]
theorem COk.toL{w:World}(h:COk w0 M H Γ R w)(ks:List Nat)(hnd:rr ks=true){L:List Asn}(hL:e9 Γ ks=dv L)(rs:List Nat){R':List Asn}(hR:e9 R rs=dv R'):LOk w0 M H L R' w:=by
  obtain⟨F,hF⟩:=h;refine⟨fun i b=>∃k,ks[i]?=some k∧F k b,hF.touch,?_,?_,?_,?_,?_⟩
  · intro i A hi;obtain⟨k,hk,hA⟩:=nf Γ ks L i A hL hi;have:(fun b=>∃k,ks[i]?=some k∧F k b)=F k:=by
      funext b;simp [hk]
    show A.pred w _;rw [this];exact hF.has k A hA
  · rintro i b ⟨k,_,hb⟩;exact hF.lt k b hb
  · rintro i b ⟨k,hk,hb⟩ hlt;exact hF.mine k b hb hlt
  · rintro i j b ⟨k,hk,hb⟩ ⟨k',hk',hb'⟩;have:=hF.apart k k' b hb hb';subst this;exact Gk (oG hnd) hk hk'
  · intro i A hi;obtain⟨k,hk,hA⟩:=nf R rs R' i A hR hi;obtain⟨G,h1,h2⟩:=hF.ro k A hA;refine⟨G,h1,fun b hb=>⟨(h2 b hb).1,?_,(h2 b hb).2.2⟩⟩;rintro j ⟨k',_,hb'⟩;exact(h2 b hb).2.1 k' hb'
theorem aN{fn:Func}{rv:Array ResultVar}{u:Value}{X:Type}{φ:X→Prop}{v:X→Value}{L' R':X→List Asn}(x:X)(hφ:φ x)(hr:fn.results=rv)(hrs:RS P N w0 M H E Γ R rv u)(hu:u=v x)
    (ks:List Nat) (rs:List Nat) (hnd:rr ks=true) (hL:e9 Γ ks=dv (L' x)) (hR:e9 R rs=dv (R' x)):At N w0 M H E Γ R (bodyPost P fn (OU w0 M H φ v L' R') .ret):=fun a w hE hC=>
  ⟨hE.defers,u,hrs fn a w hr hE hC,x,hφ,by rw [hu],hC.toL ks hnd hL rs hR⟩
theorem cJ{fn:Func}{rv:Array ResultVar}{u:Value}{X:Type}{φ:X→Prop}{v:X→Value}{L' R':X→List Asn}(x:X)(hφ:φ x)(hr:fn.results=rv)(hrs:RS P N w0 M H E Γ R rv u)(hu:u=v x)
    (ks:List Nat) (rs:List Nat) (hnd:rr ks=true) (hL:e9 Γ ks=dv (L' x)) (hR:e9 R rs=dv (R' x)):At N w0 M H E Γ R (bodyPost P fn (OU w0 M H φ v L' R') .normal):=fun a w hE hC=>
  ⟨hE.defers,u,hrs fn a w hr hE hC,x,hφ,by rw [hu],hC.toL ks hnd hL rs hR⟩
/-! ### Contracts, between one another -/
def PR(P:Program)(N:Nat)(w0:World)(M H:Nat→Prop)(E:ft)(Γ R:eD)(op:Op)(v:Value):Prop:=
  ∀T ps af a w,EOk N E a→COk w0 M H Γ R w→∀d g,(execOp a.eval ⟨d,op,T,ps,af,g⟩).run P w= .ok (.value v) w
theorem uE{v:Value}(h:PR P N w0 M H E Γ R op v)(hd:Nat.blt d N=true)(k:At N w0 M H ((d,v)::E) Γ R (wpList P ops Q rest)):At N w0 M H E Γ R (wpList P ops Q (⟨some d,op,T,ps,af,none⟩::rest)):=
  ti (X:=Unit) (fun _=>True) (fun _=>v) (fun _=>Γ) (fun _=>R) hd (fun a w hE hC=>⟨(),w,trivial,h _ _ _ a w hE hC _ _,hC⟩) fun _ _=>k
def gb:Bool→Bool→Bool
  | true,b=>b
  | false,b=> !b
def gv(g:Bool)(v:Value):Value:=bif g then v else undef
def GS(E:ft)(g:Bool):ft→Prop
  | []=>True
  | (t,u)::r=>eM E t=some (gv g u)∧GS E g r
theorem EOk.gs{a:Act}{g:Bool}(h:EOk N E a)(hg:g=true):∀{Eg:ft},GS E g Eg→EOk N (Eg++E) a
  | [],_=>h
  | (t,u)::r,hs=>by
    have ih:=EOk.gs h hg hs.2;refine⟨h.defers,h.size,fun s v hv=> ?_⟩;simp only [List.cons_append,eM]at hv;cases hb:Nat.beq t s with
    | true=>
      rw [hb]at hv;simp at hv;subst hv;rw [←cW hb];have:=h.slot t _ hs.1;rw [hg]at this;exact this
    | false=>rw [hb]at hv;exact ih.slot s v hv
theorem aH{l:List Oper}{rest:List Oper}{i t:Nat}{c b:Bool}{v:Value}(Eg:ft)(hi:kV l i=some t)(ht:eM E t=some (.bool b))(hgs:GS E (gb c b) Eg)(h:gb c b=true→PR P N w0 M H (Eg++E) Γ R op v)(hd:Nat.blt d N=true)
    (k:At N w0 M H ((d,gv (gb c b) v)::E) Γ R (wpList P l.toArray Q rest)):At N w0 M H E Γ R (wpList P l.toArray Q (⟨some d,op,T,ps,af,some (i,c)⟩::rest)):=by
  intro a w hE hC;have hyd:=hE.yield hi ht;unfold wpList;cases hg:gb c b with
  | true=>
    have hbc:b=c:=by cases b<;>cases c<;>simp_all [gb]
    rw [aj (by simp [Region.wanted,hyd,hbc])];left;unfold Oper.wp;rw [h hg _ _ _ a w (hE.gs hg hgs) hC _ _];rw [hg]at k;exact k _ _ (hE.put hd v) hC
  | false=>
    have hbc:b≠c:=by cases b<;>cases c<;>simp_all [gb]
    rw [ac (by simp [Region.wanted,hyd,hbc])];rw [hg]at k;exact k _ _ (hE.put hd undef) hC
theorem dL{b c:Bool}:(bif b then gv (gb true b) (.bool c)else .bool false)= .bool (b&&c):=by cases b<;>rfl
theorem eu{b c:Bool}:(bif b then .bool true else gv (gb false b) (.bool c))= .bool (b || c):=by cases b<;>rfl
theorem aV{x:Operand}{v:Value}(hx:ev E x=some v):PR P N w0 M H E Γ R (.move x) v:=fun _ _ _ a w hE _ _ _=>by simp [execOp,hE.ev hx]
theorem df{x:Operand}{v:Value}(hx:ev E x=some v):PR P N w0 M H E Γ R (.assign x) v:=fun _ _ _ a w hE _ _ _=>by simp [execOp,hE.ev hx]
theorem d7{c x y:Operand}{b:Bool}{u v z:Value}(hc:ev E c=some (.bool b))(hx:ev E x=some u)(hy:ev E y=some v)(hz:(bif b then u else v)=z):PR P N w0 M H E Γ R (.pick c x y) z:=fun _ _ _ a w hE _ _ _=>by
  subst hz;simp only [execOp,hE.ev hc,hE.ev hx,hE.ev hy,asBool];cases b<;>rfl
theorem aQ{o:BinOp}{S S':TypeId}{x y:Operand}{u v z:Value}(hx:ev E x=some u)(hy:ev E y=some v)(hb:dQ P o S u v z):PR P N w0 M H E Γ R (.binOp o S x y S') z:=fun _ _ _ a w hE _ _ _=>by
  have:=hb x y w;simp only [execOp,hE.ev hx,hE.ev hy,Sem.run_bind]at this ⊢;rw [this];rfl
theorem cZ{S:TypeId}{x:Operand}{b:Bool}(hx:ev E x=some (.bool b)):PR P N w0 M H E Γ R (.unOp .not S x) (.bool (!b)):=fun _ _ _ a w hE _ _ _=>by simp [execOp,hE.ev hx,Op.unary]
theorem PY{S:TypeId}{x:Operand}{k:IntKind}{n c:Int}(hx:ev E x=some (.int k n))(hc:k.wrap (-n)=c):PR P N w0 M H E Γ R (.unOp .neg S x) (.int k c):=fun _ _ _ a w hE _ _ _=>by simp [execOp,hE.ev hx,Op.unary,Op.intArith,hc]
theorem cw{S D:TypeId}{x:Operand}{k k':IntKind}{n c:Int}{D':TypeDesc}(hS:P.underlying S=some D')(hD:P.underlying D=some (.int k'))(hx:ev E x=some (.int k n))(hc:k'.wrap n=c):PR P N w0 M H E Γ R (.convert S D x) (.int k' c):=
  fun _ _ _ a w hE _ _ _=>by simp [execOp,hE.ev hx,convert,run_underlying hS,run_underlying hD,Conv.intToInt,hc]
theorem ah{S:TypeId}{i off:Nat}{x:Operand}{b:Nat}(hf:FO P S i off)(hx:ev E x=some (.pointer (some ⟨b,0,none⟩))):PR P N w0 M H E Γ R (.fieldAddr S x i) (.pointer (some ⟨b,off,none⟩)):=fun _ _ _ a w hE _ _ _=>by simp [execOp,hE.ev hx,hf.run]
theorem fR{S:TypeId}{i off:Nat}{x:Operand}{b o:Nat}(hf:FO P S i off)(hx:ev E x=some (.pointer (some ⟨b,o,none⟩))):PR P N w0 M H E Γ R (.fieldAddr S x i) (.pointer (some ⟨b,o+off,none⟩)):=fun _ _ _ a w hE _ _ _=>by simp [execOp,hE.ev hx,hf.run]
theorem dT{S U:TypeId}{D:TypeDesc}{z:Value}{s bb n b o j:Nat}{x y:Operand}{k:IntKind}{i:Int}(hS:P.underlying S=some (.array n U))(hU:TI P U D z s bb)(hx:ev E x=some (.pointer (some ⟨b,o,none⟩)))(hy:ev E y=some (.int k i))(hi:i=(j:Int))(hj:j<n):
    PR P N w0 M H E Γ R (.indexAddr S x y) (.pointer (some ⟨b,o+j*s,none⟩)):=
  fun _ _ _ a w hE _ _ _=>by subst hi;simp [execOp,hE.ev hx,hE.ev hy,Instr.indexAt,asIntOf,run_underlying hS,Instr.sureAddr,hU.sizeOf,c8,hj]
theorem aO{α:Type}{S U:TypeId}{D:TypeDesc}{z:Value}{s bb j:Nat}{x y:Operand}{k:IntKind}{i:Int}{enc:α→List Value}{v:Value}{l:List α}(hS:P.underlying S=some (.slice U))(hU:TI P U D z s bb)(hx:ev E x=some v)(hy:ev E y=some (.int k i))(hs:HasSl Γ R s enc v l)(hi:i=(j:Int))(hj:j<l.length):
    PR P N w0 M H E Γ R (.indexAddr S x y) (.pointer (some ⟨kg v,lM v+j*s,none⟩)):=fun _ _ _ a w hE hC _ _=>by
  obtain⟨G,c,h1,h2,h3⟩:=hs.ok hC;rcases h3 with⟨rfl,_⟩|⟨b,o,rfl,_,_⟩
  · simp at hj
  · subst hi;simp [execOp,hE.ev hx,hE.ev hy,Instr.indexAt,asIntOf,run_underlying hS,hU.sizeOf,c8,hj,kg,lM]
theorem ag{S:TypeId}{D:TypeDesc}{z:Value}{s bb:Nat}{x:Operand}{b o:Nat}{u:Value}(ht:TI P S D z s bb)(hag:u9 D=false)(hx:ev E x=some (.pointer (some ⟨b,o,none⟩)))(hg:Gives w0 M H Γ R b o [u]):PR P N w0 M H E Γ R (.load S x) u:=
  fun _ _ _ a w hE hC _ _=>by
    have:=hg w hC 0 u J;simp only [Nat.add_zero]at this;simp [execOp,hE.ev hx,Instr.loadAt,Instr.sureAddr,loadVar,ht.isAgg,hag,this]
theorem aM{S:TypeId}{D:TypeDesc}{z:Value}{s bb:Nat}{x:Operand}{b o:Nat}{us:List Value}(ht:TI P S D z s bb)(hag:u9 D=true)(hx:ev E x=some (.pointer (some ⟨b,o,none⟩)))(hn:us.length=s)(hg:Gives w0 M H Γ R b o us):PR P N w0 M H E Γ R (.load S x) (.agg us.toArray):=
  fun _ _ _ a w hE hC _ _=>by
    have:=hg.cells (P:=P) hC;rw [hn]at this;simp [execOp,hE.ev hx,Instr.loadAt,Instr.sureAddr,loadVar,ht.isAgg,hag,ht.sizeOf,this]
theorem aT{α:Type}{S U:TypeId}{s:Nat}{x:Operand}{enc:α→List Value}{v:Value}{l:List α}(hS:P.underlying S=some (.slice U))(hx:ev E x=some v)(hs:HasSl Γ R s enc v l):PR P N w0 M H E Γ R (.call {callee:= .builtin .len,args:= #[x],argTypes:= #[S]}) (.int .i64 (l.length:Int)):=
  fun _ _ _ a w hE hC _ _=>by
    obtain⟨G,c,h1,h2,h3⟩:=hs.ok hC;rcases h3 with⟨rfl,_,rfl⟩|⟨b,o,rfl,_,_⟩
    · simp [execOp,resolve,invoke,builtin,hE.ev hx,Builtin.len_,run_underlying hS,goInt]
    · simp [execOp,resolve,invoke,builtin,hE.ev hx,Builtin.len_,run_underlying hS,goInt]
theorem cH{S:TypeId}{x:Operand}{s:ByteArray}(hS:P.underlying S=some .string)(hx:ev E x=some (.string s)):PR P N w0 M H E Γ R (.call {callee:= .builtin .len,args:= #[x],argTypes:= #[S]}) (.int .i64 (s.size:Int)):=
  fun _ _ _ a w hE _ _ _=>by simp [execOp,resolve,invoke,builtin,hE.ev hx,Builtin.len_,run_underlying hS,goInt]
theorem Lc{x y:Operand}{k:IntKind}{m n c:Int}{at_:Array TypeId}(hx:ev E x=some (.int k m))(hy:ev E y=some (.int k n))(hc:min m n=c):PR P N w0 M H E Γ R (.call {callee:= .builtin .min,args:= #[x,y],argTypes:=at_}) (.int k c):=
  fun _ _ _ a w hE _ _ _=>by
    have:(if n<m then n else m)=c:=by rw [←hc];split<;>omega
    simp [execOp,resolve,invoke,builtin,hE.ev hx,hE.ev hy,Builtin.min_,Builtin.min2,this]
theorem yO{x y:Operand}{k:IntKind}{m n c:Int}{at_:Array TypeId}(hx:ev E x=some (.int k m))(hy:ev E y=some (.int k n))(hc:max m n=c):PR P N w0 M H E Γ R (.call {callee:= .builtin .max,args:= #[x,y],argTypes:=at_}) (.int k c):=
  fun _ _ _ a w hE _ _ _=>by
    have:(if n>m then n else m)=c:=by rw [←hc];split<;>omega
    simp [execOp,resolve,invoke,builtin,hE.ev hx,hE.ev hy,Builtin.max_,Builtin.max2,this]
theorem yM{S U:TypeId}{D:TypeDesc}{z:Value}{i off s bb:Nat}{x:Operand}{cs:Array Value}{u:Value}(hf:FT P S i off U)(ht:TI P U D z s bb)(hx:ev E x=some (.agg cs))(hu:(bif u9 D then some (.agg (cs.extract off (off+s)))else cs[off]?)=some u):PR P N w0 M H E Γ R (.field S x i) u:=
  fun _ _ _ a w hE _ _ _=>by
    obtain⟨fields,f,h1,h2,h3,h4⟩:=hf;subst h4;cases hag:u9 D with
    | true=>rw [hag]at hu;simp at hu;simp [execOp,hE.ev hx,Instr.field,run_underlying h1,h2,asAgg,h3,DT ht hag rfl,hu]
    | false=>rw [hag]at hu;simp at hu;simp [execOp,hE.ev hx,Instr.field,run_underlying h1,h2,asAgg,h3,gO ht hag hu]
theorem fv{fn:Fn}{first cap:List Operand}{fs cs:List Value}(hf:evs E first=some fs)(hc:evs E cap=some cs):PR P N w0 M H E Γ R (.makeFunc fn first.toArray cap.toArray) (.func fn fs.toArray cs.toArray):=
  fun _ _ _ a w hE _ _ _=>by simp [execOp,Instr.makeFunc,hE.evs hf,hE.evs hc]
theorem cC{x:Operand}{i:Nat}{vs:List Value}{v:Value}(hx:ev E x=some (.tuple vs.toArray))(hv:vs[i]?=some v):PR P N w0 M H E Γ R (.extract x i) v:=fun _ _ _ a w hE _ _ _=>by simp [execOp,hE.ev hx,Instr.extract,hv]
theorem au{x:Operand}{A:Addr}(hx:ev E x=some (.pointer (some A))):PR P N w0 M H E Γ R (.nilCheck x) (.pointer (some A)):=fun _ _ _ a w hE _ _ _=>by simp [execOp,hE.ev hx]
theorem aX{S:TypeId}{D:TypeDesc}{z:Value}{s bb:Nat}{places:List (Nat×Nat)}{parts:List (Nat×Operand)}{vs:List (Nat×Value)}{cs:Array Value}(ht:TI P S D z s bb)(hp:PL P S places)(hv:evps E parts=some vs)(hf:Instr.fill (fun i=>places[i]?) z.cells vs=some cs):
    PR P N w0 M H E Γ R (.build S parts.toArray) (.agg cs):=fun _ _ _ a w hE _ _ _=>by
  obtain⟨fields,h1,h2⟩:=hp;obtain⟨i,h3,h4,_,_⟩:=ht.info;have hb:P.built S vs=some cs:=by
    simp only [Program.built,h3,h1,h4,h2];simpa using hf
  have:=run_build (P:=P) w S vs.toArray cs (by simpa using hb);have hev:=hE.evps hv;simp [execOp,hev,this]
theorem F2{S U:TypeId}{D DU:TypeDesc}{z zu:Value}{n s bb su bu:Nat}{parts:List (Nat×Operand)}{vs:List (Nat×Value)}{cs:Array Value}(ht:TI P S (.array n U) z s bb)(hU:TI P U DU zu su bu)(hv:evps E parts=some vs)(hf:Instr.fill (fun i=>some (i*su,su)) z.cells vs=some cs):
    PR P N w0 M H E Γ R (.build S parts.toArray) (.agg cs):=fun _ _ _ a w hE _ _ _=>by
  obtain⟨i,h3,h4,_,_⟩:=ht.info;obtain⟨iu,h5,h6,h7,_⟩:=hU.info;have hb:P.built S vs=some cs:=by
    simp only [Program.built,h3,ht.und,h4,h5,h7];exact hf
  have:=run_build (P:=P) w S vs.toArray cs (by simpa using hb);have hev:=hE.evps hv;simp [execOp,hev,this]
end
theorem q_{n:Int}(h1: -9223372036854775808≤n)(h2:n≤9223372036854775807):IntKind.i64.wrap n=n:=by rw [IntKind.wrap_i64];omega
theorem mc{n:Int}(h1:0≤n)(h2:n<4294967296):IntKind.u32.wrap n=n:=by simp [IntKind.wrap,IntKind.signed,IntKind.bits];omega
theorem Dz{n:Int}(h1:0≤n)(h2:n<256):IntKind.u8.wrap n=n:=by simp [IntKind.wrap,IntKind.signed,IntKind.bits];omega
theorem BL{n:Int}(h1:0≤n)(h2:n<18446744073709551616):IntKind.u64.wrap n=n:=by simp [IntKind.wrap,IntKind.signed,IntKind.bits];omega
theorem EW{n:Int}(h1: -2147483648≤n)(h2:n<2147483648):IntKind.i32.wrap n=n:=by simp [IntKind.wrap,IntKind.signed,IntKind.bits];omega
theorem sZ{a b:Int}(h:0≤a):a.tmod b=a%b:=Int.tmod_eq_emod_of_nonneg h
def eI:Int→List Value:=fun n=> [.int .i64 n]
def eS:ByteArray→List Value:=fun s=> [.string s]
section
variable{P:Program}{N:Nat}{w0:World}{M H:Nat→Prop}{E:ft}{Γ R:eD}{Q:Exit→Act→World→Prop}
variable{ops:Array Oper}{rest:List Oper}{T:TypeId}{ps:String}{af:Array Edge}{d:Nat}{op:Op}
theorem bp{k b:Nat}{S:TypeId}{c:List Value}(hk:ch Γ k=some (bj b S c)):Gives w0 M H Γ R b 0 c:=od hk (by simp)
theorem cM{S:TypeId}{x:Operand}{c:List Value}(hx:ev E x=some (.agg c.toArray))(hd:Nat.blt d N=true)
    (k:∀b,At N w0 M H ((d,.pointer (some ⟨b,0,none⟩))::E) ((d,bj b S c)::Γ) R (wpList P ops Q rest)):At N w0 M H E Γ R (wpList P ops Q (⟨some d,.box S x,T,ps,af,none⟩::rest)):=
  K7 hx (by simp [Value.cells]) hd k
theorem wK{S:TypeId}{x:Operand}{u:Value}(hx:ev E x=some u)(h1:u.oneCell'=true)(hd:Nat.blt d N=true)
    (k:∀b,At N w0 M H ((d,.pointer (some ⟨b,0,none⟩))::E) ((d,bj b S [u])::Γ) R (wpList P ops Q rest)):At N w0 M H E Γ R (wpList P ops Q (⟨some d,.box S x,T,ps,af,none⟩::rest)):=
  K7 hx (by cases u<;>first|rfl|simp [Value.oneCell']at h1) hd k
theorem av{S S':TypeId}{D:TypeDesc}{z:Value}{s bb:Nat}{x y:Operand}{b:Nat}{k:Nat}{c us:List Value}(ht:TI P S D z s bb)(hx:ev E x=some (.pointer (some ⟨b,0,none⟩)))(hy:ev E y=some (.agg us.toArray))
    (hs:us.length=s) (h1:us.all (·.oneCell')=true) (hk:ch Γ k=some (bj b S' c)) (hc:c.length=s)
    (kk:At N w0 M H E ((k,bj b S' us)::Γ) R (wpList P ops Q rest)):At N w0 M H E Γ R (wpList P ops Q (⟨none,.store S x y,T,ps,af,none⟩::rest)):=
  aB (us:=us) ht hx hy (by simp [Value.cells]) hs h1 hk (by rw [hs,hc];simp) (by rw [hs,←hc];simp) kk
theorem cA{l:List Oper}{rest:List Oper}{i t:Nat}{c b g:Bool}{v:Value}(Eg E2:ft)(hi:kV l i=some t)(ht:eM E t=some (gv g (.bool b)))(hgs:GS E (g&&gb c b) Eg)(hgs2:GS E g E2)(h:g=true→gb c b=true→PR P N w0 M H (E2++(Eg++E)) Γ R op v)(hd:Nat.blt d N=true)
    (k:At N w0 M H ((d,gv (g&&gb c b) v)::E) Γ R (wpList P l.toArray Q rest)):At N w0 M H E Γ R (wpList P l.toArray Q (⟨some d,op,T,ps,af,some (i,c)⟩::rest)):=by
  intro a w hE hC;have hyd:yielded l.toArray a.tmps i=bif g then some b else none:=by
    unfold yielded;have:(l.toArray[i]?).bind (·.dst)=some t:=by simpa [kV]using hi
    rw [this];cases g<;>simp [hE.slot t _ ht,gv,undef]
  unfold wpList;cases hg:(g&&gb c b)with
  | true=>
    have hg1:g=true∧gb c b=true:=by simpa using hg
    obtain⟨hg1,hg2⟩:=hg1;have hbc:b=c:=by cases b<;>cases c<;>simp_all [gb]
    rw [aj (by simp [Region.wanted,hyd,hg1,hbc])];left;unfold Oper.wp;have hE':=hE.gs hg hgs;have hgs2':GS (Eg++E) g E2→EOk N (E2++(Eg++E)) a:=fun h2=>hE'.gs hg1 h2
    have:EOk N (E2++(Eg++E)) a:=by
      have h2:=hE.gs hg1 hgs2;refine⟨hE.defers,hE.size,fun s v hv=> ?_⟩;have key:∀(A B:ft)(s:Nat)(v:Value),eM (A++B) s=some v→eM A s=some v∨eM B s=some v:=by
        intro A
        induction A with
        | nil=>intro B s v h;exact .inr h
        | cons p A ih=>
          intro B s v h;obtain⟨j,u⟩:=p;simp only [List.cons_append,eM]at h ⊢;cases hb:Nat.beq j s with
          | true=>rw [hb]at h;exact .inl (by simpa using h)
          | false=>rw [hb]at h;simpa using ih B s v h
      rcases key _ _ s v hv with h3|h3
      · have:∀(A B:ft)(s:Nat)(v:Value),eM A s=some v→eM (A++B) s=some v:=by
          intro A
          induction A with
          | nil=>intro B s v h;cases h
          | cons p A ih=>
            intro B s v h;obtain⟨j,u⟩:=p;simp only [List.cons_append,eM]at h ⊢;cases hb:Nat.beq j s with
            | true=>rw [hb]at h;simpa using h
            | false=>rw [hb]at h;simpa using ih B s v h
        exact h2.slot s v (this _ _ s v h3)
      · exact hE'.slot s v h3
    rw [h hg1 hg2 _ _ _ a w this hC _ _];rw [hg]at k;exact k _ _ (hE.put hd v) hC
  | false=>
    have:Region.wanted (⟨some d,op,T,ps,af,some (i,c)⟩:Oper) (yielded l.toArray a.tmps)=false:=by
      cases g<;>cases b<;>cases c<;>simp_all [gb,Region.wanted]
    rw [ac (by rw [this];simp)];rw [hg]at k;exact k _ _ (hE.put hd undef) hC
theorem da{b c g:Bool}(hg:g=true):(bif b then gv (g&&gb true b) (.bool c)else .bool false)= .bool (b&&c):=by subst hg;cases b<;>rfl
theorem dF{b c g:Bool}(hg:g=true):(bif b then .bool true else gv (g&&gb false b) (.bool c))= .bool (b || c):=by subst hg;cases b<;>rfl
theorem bF{α:Type}{s:Nat}{enc:α→List Value}{v:Value}{l:List α}(h:HasSl Γ R s enc v l)(he:∀x,(enc x).length=s){i:Nat}{x:α}(hx:l[i]?=some x){us:List Value}(hu:enc x=us):Gives w0 M H Γ R (kg v) (lM v+i*s) us:=hu▸TH h he hx
end
end Go.Proofs.YtedmdgbmdplifaaGreat
namespace Go.Proofs.YtedmdgbmdplifaaGreat
open Go.ChangeShapes Go.WideShapes Go.ChangeAt Go.RowKit
section
variable{H:Type}{enc:TypeId×Value→H}{P:Program}
theorem NG{w:World}{r:Reach}{b0:Nat}{a:Addr}{e:TypeId}{n:Nat}(h:w.has P r b0 a e n):a.spot=none∧a.block<w.heap.size:=by
 obtain⟨-,h1,bj,cells,h2,-⟩:=h;refine⟨h1,?_⟩;unfold World.shape? at h2;rcases Nat.lt_or_ge a.block w.heap.size with hl|hl
 ·exact hl
 ·rw [Array.getElem?_eq_none hl]at h2;simp at h2
theorem Spec.law{n:Nat}{vs:List Value}{R0:List Asn}{X:Type}{φ:X→Prop}{v:X→Value}{L' R':X→List Asn}(h:Spec P n vs [] R0 φ v L' R')(w:World)(hR:∀A∈R0,∃G:Nat→Prop,A.pred w G∧∀b,G b→b<w.heap.size):
  Calls P n vs.toArray w fun e w'=>∃x,φ x∧e= .returned (v x)∧Below w.heap.size w w':=by
 refine(h w (fun _=>False) (fun _=>True) ⟨fun _ _=>False,Touch.refl _ _,fun i A hi=>by simp at hi,fun _ _ h=>h.elim,fun _ _ h=>h.elim,fun _ _ _ h=>h.elim,fun i A hi=> ?_⟩).mono ?_
 ·obtain⟨G,h1,h2⟩:=hR A (bV hi);exact⟨G,h1,fun b hb=>⟨h2 b hb,fun _ h=>h,fun _=> .inr O⟩⟩
 ·rintro e w' ⟨x,h1,h2,F,hF⟩;exact⟨x,h1,h2,hF.touch.below⟩
end
end Go.Proofs.YtedmdgbmdplifaaGreat
namespace Go.Proofs.YtedmdgbmdplifaaGreat
open Go.RowKit
/-! ### Orders -/
def fi(o:Oper):List Nat:=(o.after.toList.filter (Region.binds .any)).map (·.on)
inductive Ord(ops:List Oper):(Nat→Bool)→List Nat→Prop
 | nil {D:Nat→Bool} (h:∀i,i<ops.length→D i=true):Ord ops D []
 | cons {D:Nat→Bool} {i:Nat} {o:Oper} {l:List Nat} (ho:ops[i]?=some o) (hD:D i=false) (hp:∀j∈fi o,D j=true) (h:Ord ops (fun j=>bif Nat.beq j i then true else D j) l):Ord ops D (i::l)
def DB:Nat→List Oper→Bool
 | _,[]=>true
 | i,o::l=>o.after.toList.all (fun e=>Nat.blt e.on i)&&DB (i+1) l
theorem yc:∀{l:List Oper}{k i:Nat}{o:Oper},DB k l=true→l[i]?=some o→∀e∈o.after.toList,e.on<k+i
 | [],_,_,_,_,h=>by simp at h
 | x::l,k,i,o,ht,h=>by
  simp only [DB,Bool.and_eq_true]at ht;cases i with
  | zero=>
   simp at h;subst h;intro e he;simpa using List.all_eq_true.1 ht.1 e he
  | succ i=>
   intro e he;have:=yc ht.2 (by simpa using h) e he;omega
def Rk(m:Region.Mode)(rk:Nat→Nat)(l:List Oper):Prop:=∀(i:Nat)(o:Oper),l[i]?=some o→∀e∈o.after.toList,e.on<l.length∧(Region.binds m e=true→rk e.on<rk i)
theorem BQ{l:List Oper}(m:Region.Mode)(h:DB 0 l=true):Rk m (fun i=>i) l:=fun i o ho e he=>by
 have h1:=yc (k:=0) h ho e he;have h2:=(cU.1 ho).1;exact⟨by omega,fun _=>by dsimp only;omega⟩
def sY(m:Region.Mode)(rk:List Nat)(l:List Oper):Bool:=
 (List.range l.length).all fun i=>match l[i]? with
  | some o=>o.after.toList.all fun e=>Nat.blt e.on l.length&&(!Region.binds m e || Nat.blt (rk.getD e.on 0) (rk.getD i 0))
  | none=>true
theorem sX{m:Region.Mode}{rk:List Nat}{l:List Oper}(h:sY m rk l=true):Rk m (fun i=>rk.getD i 0) l:=fun i o ho e he=>by
 have hi:=(cU.1 ho).1;have h1:=List.all_eq_true.1 h i (by simpa using hi);rw [ho]at h1;have h2:=List.all_eq_true.1 h1 e he;simp only [Bool.and_eq_true,Bool.or_eq_true]at h2;refine⟨by simpa using h2.1,fun hb=> ?_⟩;rcases h2.2 with h3|h3
 ·rw [hb]at h3;cases h3
 ·simpa using h3
theorem tf{m:Region.Mode}{rk:Nat→Nat}{ops:Array Oper}{listed:Array Bool}(hs:listed.size=ops.size)(ht:Rk m rk ops.toList)(hx:∃i,i<ops.size∧listed.getD i true=false):
  ∃i,i<ops.size∧listed.getD i true=false∧((ops[i]?).map (·.after.all fun e=> !Region.binds m e || listed.getD e.on false)).getD false=true:=by
 have key:∀n i,rk i≤n→i<ops.size→listed.getD i true=false→∃j,j<ops.size∧listed.getD j true=false∧∀k,k<ops.size→rk k<rk j→listed.getD k true=true:=by
  intro n
  induction n with
  | zero=>
   intro i hi h1 h2;exact⟨i,h1,h2,fun k _ hk=>by omega⟩
  | succ n ih=>
   intro i hi h1 h2;by_cases hk:∃k,k<ops.size∧rk k<rk i∧listed.getD k true=false
   ·obtain⟨k,hk0,hk1,hk2⟩:=hk;exact ih k (by omega) hk0 hk2
   ·refine⟨i,h1,h2,fun k hk0 hk'=> ?_⟩;cases hb:listed.getD k true with
    | true=>rfl
    | false=>exact absurd ⟨k,hk0,hk',hb⟩ hk
 obtain⟨i,h1,h2⟩:=hx;obtain⟨j,h3,h4,h5⟩:=key (rk i) i (bU _) h1 h2;refine⟨j,h3,h4,?_⟩;rw [Array.getElem?_eq_getElem h3];simp only [Option.map_some,Option.getD_some];rw [Array.all_eq_true_iff_forall_mem];intro e he;obtain⟨h6,h7⟩:=ht j ops[j] (by simp [h3]) e (by simpa using he);cases hb:Region.binds m e with
 | false=>rfl
 | true=>
  have h8:=h5 e.on (by simpa using h6) (h7 hb);have h9:e.on<listed.size:=by rw [hs];simpa using h6
  simp [Array.getD,h9]at h8 ⊢;exact h8
theorem Ord.congr{ops:List Oper}:∀{l:List Nat}{D D':Nat→Bool}(_:∀i,i<ops.length→D i=D' i)(_:∀(i:Nat)(o:Oper),ops[i]?=some o→∀j∈fi o,j<ops.length)(_:Ord ops D l),Ord ops D' l
 | [],D,D',he,_,h=>by
  cases h with
  | nil h=>exact .nil fun i hi=>by rw [←he i hi];exact h i hi
 | i::l,D,D',he,hp,h=>by
  cases h with
  | cons ho hD hpr hl=>
   have hi:i<ops.length:=(cU.1 ho).1;refine .cons ho (by rw [←he i hi];exact hD) (fun j hj=>by rw [←he j (hp i _ ho j hj)];exact hpr j hj) (Ord.congr (fun j hj=> ?_) hp hl);simp [he j hj]
def OJ(listed:Array Bool):Nat:=(listed.toList.filter (! ·)).length
theorem II{listed:Array Bool}{i:Nat}(hi:i<listed.size)(h:listed.getD i true=false):OJ (listed.setIfInBounds i true)+1=OJ listed:=by
 have key:∀(l:List Bool)(i:Nat),l[i]?=some false→((l.set i true).filter (! ·)).length+1=(l.filter (! ·)).length:=by
  intro l
  induction l with
  | nil=>intro i h;simp at h
  | cons b l ih=>
   intro i h;cases i with
   | zero=>simp at h;subst h;simp
   | succ i=>
    have:=ih i (by simpa using h);simp only [List.set_cons_succ];cases b<;>simp [List.filter_cons]at this ⊢ <;>omega
 unfold OJ;have h':listed.toList[i]?=some false:=by
  simp [Array.getD,hi]at h;simp [hi,h]
 simpa using key listed.toList i h'
theorem Ct(m:Region.Mode)(rk:Nat→Nat)(ops:Array Oper)(ht:Rk m rk ops.toList):∀(fuel t:Nat)(listed:Array Bool)(acc:List Nat),listed.size=ops.size→OJ listed=fuel→
  ∃rest,Region.linearise.go m ops fuel t listed acc=acc.reverse++rest∧Ord ops.toList (fun i=>listed.getD i false) rest
 | 0,t,listed,acc,hs,hu=>by
  refine⟨[],by simp [Region.linearise.go],.nil fun i hi=> ?_⟩;have hi':i<listed.size:=by rw [hs];simpa using hi
  have:∀b∈listed.toList,b=true:=by
   intro b hb;have h0:listed.toList.filter (! ·)= []:=List.eq_nil_of_length_eq_zero hu;have:=List.filter_eq_nil_iff.1 h0 b hb;simpa using this
  simp [Array.getD,hi'];exact this _ (by simp)
 | fuel+1,t,listed,acc,hs,hu=>by
  have hx:∃i,i<ops.size∧listed.getD i true=false:=by
   have hne:listed.toList.filter (! ·)≠ []:=fun e=>by unfold OJ at hu;rw [e]at hu;simp at hu
   obtain⟨b,hb⟩:=List.exists_mem_of_ne_nil _ hne;obtain⟨hb1,hb2⟩:=List.mem_filter.1 hb;have:b=false:=by simpa using hb2
   subst this;obtain⟨i,hi,he⟩:=List.getElem_of_mem hb1;have hi':i<listed.size:=by simpa using hi
   refine⟨i,by omega,?_⟩;simp [Array.getD,hi'];simpa using he
  obtain⟨j,h1,h2,h3⟩:=tf hs ht hx;rw [Region.linearise.go];generalize hrs:((List.range ops.size).filter fun i=> !listed.getD i true&&((ops[i]?).map (·.after.all fun e=> !Region.binds m e || listed.getD e.on false)).getD false)=rs;have hj:j∈rs:=by rw [←hrs];exact List.mem_filter.2 ⟨by simpa using h1,by simp only [h2,h3];rfl⟩
  have hpos:0<rs.length:=List.length_pos_of_mem hj;have hlt:t%rs.length<rs.length:=Nat.mod_lt _ hpos;simp only [bQ hlt];have hmem:rs[t%rs.length]∈rs:=List.getElem_mem hlt;generalize rs[t%rs.length]=i at hmem;rw [←hrs]at hmem;obtain⟨hi1,hi2⟩:=List.mem_filter.1 hmem;have hi:i<ops.size:=by simpa using hi1
  have hi':i<listed.size:=by omega
  simp only [Bool.and_eq_true,Bool.not_eq_true']at hi2;obtain⟨rest,hr1,hr2⟩:=Ct m rk ops ht fuel (t/rs.length) (listed.setIfInBounds i true) (i::acc) (by simpa using hs) (by have:=II hi' hi2.1;omega);refine⟨i::rest,by rw [hr1];simp,.cons (o:=ops[i]) (by simp [hi]) ?_ ?_ ?_⟩
  ·have:=hi2.1;simp [Array.getD,hi']at this ⊢;exact this
  ·intro k hk;obtain⟨e,he,rfl⟩:=List.mem_map.1 hk;obtain⟨he1,he2⟩:=List.mem_filter.1 he;have h4:=hi2.2;rw [Array.getElem?_eq_getElem hi]at h4;simp only [Option.map_some,Option.getD_some]at h4;have h5:=Array.all_eq_true_iff_forall_mem.1 h4 e (by simpa using he1);have hb:Region.binds m e=true:=by
    unfold Region.binds at he2 ⊢;cases hg:e.ground<;>simp [hg]at he2 ⊢ <;>simp_all
   simpa [hb]using h5
  ·refine Ord.congr (fun k hk=> ?_) (fun i o ho k hk=> ?_) hr2
   ·have hk':k<listed.size:=by rw [hs];simpa using hk
    simp only [Array.getD,Array.size_setIfInBounds,hk',dite_true];cases hb:Nat.beq k i with
    | true=>have:=cW hb;subst this;simp
    | false=>
     have hne:i≠k:=fun e=>by subst e;simp at hb
     have h9:(listed.setIfInBounds i true)[k]?=listed[k]?:=by rw [Array.getElem?_setIfInBounds,ac hne]
     have h10:k<(listed.setIfInBounds i true).size:=by simpa using hk'
     rw [Array.getElem?_eq_getElem h10,Array.getElem?_eq_getElem hk']at h9;simpa using h9
   ·obtain⟨e,he,rfl⟩:=List.mem_map.1 hk;exact(ht i o ho e (List.mem_filter.1 he).1).1
theorem pI{m:Region.Mode}{rk:Nat→Nat}{l:List Oper}(ht:Rk m rk l)(t:Nat):Ord l (fun _=>false) (Region.linearise m l.toArray t):=by
 obtain⟨rest,h1,h2⟩:=Ct m rk l.toArray (by simpa using ht) l.toArray.size t (Array.replicate l.toArray.size false) [] (by simp) (by
  have:∀n,((List.replicate n false).filter (! ·)).length=n:=by
   intro n
   induction n with
   | zero=>rfl
   | succ n ih=>simp
  simp [OJ])
 unfold Region.linearise;rw [h1];simp only [List.reverse_nil,List.nil_append];refine Ord.congr (fun i hi=> ?_) (fun i o ho k hk=> ?_) h2
 ·have hi':i<l.toArray.size:=by simpa using hi
  simp [Array.getD]
 ·obtain⟨e,he,rfl⟩:=List.mem_map.1 hk;have:=(ht i o (by simpa using ho) e (List.mem_filter.1 he).1).1;simpa using this
theorem DQ(mixed:Bool)(l:List Oper)(ht:DB 0 l=true)(t:Nat):Ord l (fun _=>false) (Region.schedule mixed l.toArray t):=by
 unfold Region.schedule;split
 ·exact pI (BQ _ ht) _
 ·exact pI (BQ _ ht) _
theorem Ak(mixed:Bool)(l:List Oper)(rt rg:List Nat)(h1:sY .any rt l=true)(h2:sY .text rt l=true)(h3:sY .gc rg l=true)(t:Nat):Ord l (fun _=>false) (Region.schedule mixed l.toArray t):=by
 unfold Region.schedule;split
 ·exact pI (sX h1) _
 ·split
  ·exact pI (sX h2) _
  ·exact pI (sX h3) _
/-! ### Stages -/
section
variable{P:Program}{N:Nat}{w0:World}{M H:Nat→Prop}{E:ft}{Γ R:eD}{Q:Exit→Act→World→Prop}
def Bj(ds:List Nat):ft→ft
 | []=> []
 | (t,v)::r=>bif ds.any (Nat.beq t)then Bj ds r else(t,v)::Bj ds r
theorem ub{ds:List Nat}:∀{E:ft}{t:Nat}{v:Value},eM (Bj ds E) t=some v→eM E t=some v∧t∉ds
 | [],t,v,h=>by cases h
 | (s,u)::r,t,v,h=>by
  simp only [Bj]at h;cases ha:ds.any (Nat.beq s)with
  | true=>
   rw [ha]at h;obtain⟨h1,h2⟩:=ub (E:=r) h;refine⟨?_,h2⟩;simp only [eM];cases hb:Nat.beq s t with
   | true=>
    have:=cW hb;subst this;obtain⟨x,hx,hxe⟩:=List.any_eq_true.1 ha;exact absurd (cW hxe▸hx) h2
   | false=>simpa using h1
  | false=>
   rw [ha]at h;simp only [cond_false,eM]at h ⊢;cases hb:Nat.beq s t with
   | true=>
    rw [hb]at h;have:=cW hb;subst this;refine⟨by simpa using h,fun hm=> ?_⟩;have:ds.any (Nat.beq s)=true:=List.any_eq_true.2 ⟨s,hm,by simp⟩;rw [this]at ha;cases ha
   | false=>rw [hb]at h;simpa using ub (E:=r) h
theorem EOk.del{a:Act}(h:EOk N E a)(ds:List Nat):EOk N (Bj ds E) a:=⟨h.defers,h.size,fun t v hv=>h.slot t v (ub hv).1⟩
abbrev eg:=List (Nat×Nat×Value)
def g8:eg→List Nat
 | []=> []
 | (_,d,_)::r=>d::g8 r
def fg:eg→List Nat
 | []=> []
 | (i,_,_)::r=>i::fg r
def DA:eg→ft
 | []=> []
 | (_,d,v)::r=>(d,v)::DA r
def vpre(js:List Nat):eg→ft
 | []=> []
 | (i,d,v)::r=>bif js.any (Nat.beq i)then(d,v)::vpre js r else vpre js r
theorem EOk.vals{a:Act}:∀{V:eg}(_:EOk N E a)(_:∀i d v,(i,d,v)∈V→a.tmps[d]?=some v),EOk N (DA V++E) a
 | [],h,_=>h
 | (i,d,v)::r,h,hv=>by
  have ih:=EOk.vals (V:=r) h fun i d v hm=>hv i d v (by simp [hm])
  refine⟨h.defers,h.size,fun t u ht=> ?_⟩;simp only [DA,List.cons_append,eM]at ht;cases hb:Nat.beq d t with
  | true=>
   rw [hb]at ht;simp at ht;subst ht;rw [←cW hb];exact hv i d v (by simp)
  | false=>rw [hb]at ht;exact ih.slot t u ht
theorem EOk.vpre{a:Act}{js:List Nat}:∀{V:eg}(_:EOk N E a)(_:∀i d v,(i,d,v)∈V→i∈js→a.tmps[d]?=some v),EOk N (YtedmdgbmdplifaaGreat.vpre js V++E) a
 | [],h,_=>h
 | (i,d,v)::r,h,hv=>by
  have ih:=EOk.vpre (V:=r) h fun i d v hm=>hv i d v (by simp [hm])
  simp only [YtedmdgbmdplifaaGreat.vpre];cases ha:js.any (Nat.beq i)with
  | false=>exact ih
  | true=>
   obtain⟨x,hx,hxe⟩:=List.any_eq_true.1 ha;have hij:i∈js:=cW hxe▸hx;refine⟨h.defers,h.size,fun t u ht=> ?_⟩;simp only [cond_true,List.cons_append,eM]at ht;cases hb:Nat.beq d t with
   | true=>
    rw [hb]at ht;simp at ht;subst ht;rw [←cW hb];exact hv i d v (by simp) hij
   | false=>rw [hb]at ht;exact ih.slot t u ht
def OV(P:Program)(N:Nat)(w0:World)(M H:Nat→Prop)(E:ft)(Γ R:eD)(l:List Oper)(V:eg)(i d:Nat)(v:Value):Prop:=
 ∃o,l[i]?=some o∧o.dst=some d∧∀a w,EOk N (vpre (fi o) V++E) a→COk w0 M H Γ R w→(Region.wanted o (yielded l.toArray a.tmps)=true∧(execOp a.eval o).run P w= .ok (.value v) w)∨(Region.wanted o (yielded l.toArray a.tmps)=false∧v=undef)
def PRs(P:Program)(N:Nat)(w0:World)(M H:Nat→Prop)(E:ft)(Γ R:eD)(l:List Oper)(V:eg):List (Nat×Nat×Value)→Prop
 | []=>True
 | (i,d,v)::r=>OV P N w0 M H E Γ R l V i d v∧PRs P N w0 M H E Γ R l V r
theorem PRs.get{l:List Oper}{V:eg}:∀{I:eg},PRs P N w0 M H E Γ R l V I→∀i d v,(i,d,v)∈I→OV P N w0 M H E Γ R l V i d v
 | [],_,i,d,v,h=>by simp at h
 | (i',d',v')::I,hp,i,d,v,h=>by
  rcases List.mem_cons.1 h with e|e
  ·cases e;exact hp.1
  ·exact hp.2.get i d v e
def MS(P:Program)(N:Nat)(w0:World)(M H:Nat→Prop)(E:ft)(Γ R:eD)(o:Oper){X:Type}(φ:X→Prop)(v:X→Value)(Γ' R':X→eD):Prop:=
 ∀a w,EOk N E a→COk w0 M H Γ R w→∀(next:Act→World→Prop)(Q:Exit→Act→World→Prop),(∀x w',φ x→COk w0 M H (Γ' x) (R' x) w'→next (a.put o.dst (v x)) w')→o.wp P a w next Q
theorem i_{o:Oper}{X:Type}{φ:X→Prop}{v:X→Value}{Γ' R':X→eD}(hrun:∀a w,EOk N E a→COk w0 M H Γ R w→∃x w',φ x∧(execOp a.eval o).run P w= .ok (.value (v x)) w'∧COk w0 M H (Γ' x) (R' x) w'):MS P N w0 M H E Γ R o φ v Γ' R':=by
 intro a w hE hC next Q hn
 obtain⟨x,w',h1,h2,h3⟩:=hrun a w hE hC;unfold Oper.wp;rw [h2];exact hn x w' h1 h3
theorem D3{X:Type}{φ:X→Prop}{v:X→Value}{Γ' R':X→eD}{ops:Array Oper}{rest:List Oper}{T:TypeId}{ps:String}{af:Array Edge}{d:Nat}{op:Op}(h:MS P N w0 M H E Γ R ⟨some d,op,T,ps,af,none⟩ φ v Γ' R')(hd:Nat.blt d N=true)
  (k:∀x,φ x→At N w0 M H ((d,v x)::E) (Γ' x) (R' x) (wpList P ops Q rest)):At N w0 M H E Γ R (wpList P ops Q (⟨some d,op,T,ps,af,none⟩::rest)):=by
 intro a w hE hC;unfold wpList;rw [aj (by simp [Region.wanted])];left;exact h a w hE hC _ _ fun x w' h1 h2=>k x h1 _ _ (hE.put hd _) h2
structure StI(N:Nat)(w0:World)(M H:Nat→Prop)(E:ft)(Γ R:eD)(l:List Oper)(V:eg)(C:List Nat)(D:Nat→Bool)(a:Act)(w:World):Prop where
 done:∀i,D i=true→i∈fg V++C
 sure:∀i∈C,D i=true
 closed:∀(i:Nat)(o:Oper),l[i]?=some o→D i=true→∀j∈fi o,D j=true
 base:EOk N E a
 vals:∀i d v,(i,d,v)∈V→D i=true→a.tmps[d]?=some v
 ok:COk w0 M H Γ R w
def Ip(P:Program)(N:Nat)(w0:World)(M H:Nat→Prop)(E:ft)(Γ R:eD)(l:List Oper)(Q:Exit→Act→World→Prop)(V:eg)(C:List Nat):Prop:=
 ∀ord D a w,Ord l D ord→StI N w0 M H E Γ R l V C D a w→wpOps P l.toArray Q ord a w
theorem gd:∀{V:eg}{i:Nat},i∈fg V↔∃d v,(i,d,v)∈V
 | [],i=>by simp [fg]
 | (j,d,v)::r,i=>by
  simp only [fg,List.mem_cons,gd (V:=r)];constructor
  ·rintro (rfl|⟨d',v',h⟩)
   ·exact⟨d,v,.inl J⟩
   ·exact⟨d',v',.inr h⟩
  ·rintro ⟨d',v',h|h⟩
   ·cases h;exact .inl J
   ·exact .inr ⟨d',v',h⟩
theorem iv:∀{V:eg}{i d:Nat}{v:Value},(i,d,v)∈V→d∈g8 V
 | [],_,_,_,h=>by simp at h
 | (j,d',v')::r,i,d,v,h=>by
  rcases List.mem_cons.1 h with e|e
  ·cases e;simp [g8]
  ·simp [g8,iv e]
theorem sU:∀{V:eg},(g8 V).Nodup→∀{i j d:Nat}{v u:Value},(i,d,v)∈V→(j,d,u)∈V→i=j∧v=u
 | [],_,_,_,_,_,_,h,_=>by simp at h
 | (k,e,x)::r,hn,i,j,d,v,u,h1,h2=>by
  have hn':=List.nodup_cons.1 (show(e::g8 r).Nodup from hn);rcases List.mem_cons.1 h1 with e1|e1<;>rcases List.mem_cons.1 h2 with e2|e2
  ·cases e1;cases e2;exact⟨J,J⟩
  ·cases e1;exact absurd (iv e2) hn'.1
  ·cases e2;exact absurd (iv e1) hn'.1
  ·exact sU hn'.2 e1 e2
theorem x8:∀{V:eg},(fg V).Nodup→∀{i d e:Nat}{v u:Value},(i,d,v)∈V→(i,e,u)∈V→d=e∧v=u
 | [],_,_,_,_,_,_,h,_=>by simp at h
 | (k,f,x)::r,hn,i,d,e,v,u,h1,h2=>by
  have hn':=List.nodup_cons.1 (show(k::fg r).Nodup from hn);rcases List.mem_cons.1 h1 with e1|e1<;>rcases List.mem_cons.1 h2 with e2|e2
  ·cases e1;cases e2;exact⟨J,J⟩
  ·cases e1;exact absurd (gd.2 ⟨_,_,e2⟩) hn'.1
  ·cases e2;exact absurd (gd.2 ⟨_,_,e1⟩) hn'.1
  ·exact x8 hn'.2 e1 e2
theorem yh{l:List Oper}{V:eg}(hsl:(g8 V).Nodup)(hix:(fg V).Nodup)(hE0:∀d∈g8 V,∀v,eM E d≠some v)(hN:∀d∈g8 V,d<N){i d:Nat}{v:Value}(hm:(i,d,v)∈V)(hp:OV P N w0 M H E Γ R l V i d v)
  {ord:List Nat} {D:Nat→Bool} {a:Act} {w:World} {o:Oper} (ho:l[i]?=some o) (hpr:∀j∈fi o,D j=true) {C:List Nat} (hS:StI N w0 M H E Γ R l V C D a w)
  (ih:∀a,StI N w0 M H E Γ R l V C (fun j=>bif Nat.beq j i then true else D j) a w→wpOps P l.toArray Q ord a w):wpOps P l.toArray Q (i::ord) a w:=by
 obtain⟨o',h1,h2,h3⟩:=hp;rw [ho]at h1;injection h1 with h1;subst h1;have hEp:EOk N (vpre (fi o) V++E) a:=hS.base.vpre fun j d v hj hjp=>hS.vals j d v hj (hpr j hjp)
 have hlt:d<a.tmps.size:=Nat.lt_of_lt_of_le (hN d (iv hm)) hS.base.size;have hnext:StI N w0 M H E Γ R l V C (fun j=>bif Nat.beq j i then true else D j) (a.put (some d) v) w:=by
  refine⟨fun j hj=> ?_,fun j hj=>by simp [hS.sure j hj],fun j o' ho' hj k hk=> ?_,⟨hS.base.defers,by simpa [Act.put]using hS.base.size,fun t u ht=> ?_⟩,fun j e u hj hjD=> ?_,hS.ok⟩
  ·cases hb:Nat.beq j i with
   | true=>rw [cW hb];exact List.mem_append_left _ (gd.2 ⟨d,v,hm⟩)
   | false=>rw [hb]at hj;exact hS.done j hj
  ·cases hb:Nat.beq j i with
   | true=>
    have:=cW hb;subst this;rw [ho]at ho';injection ho' with ho';subst ho';simp [hpr k hk]
   | false=>rw [hb]at hj;simp [hS.closed j o' ho' hj k hk]
  ·simp only [Act.put,Array.getElem?_setIfInBounds];have hne:d≠t:=fun e=>hE0 d (iv hm) u (e▸ht)
   rw [ac hne];exact hS.base.slot t u ht
  ·simp only [Act.put,Array.getElem?_setIfInBounds];by_cases hde:d=e
   ·subst hde;obtain⟨_,rfl⟩:=sU hsl hm hj;simp [hlt]
   ·rw [ac hde];cases hb:Nat.beq j i with
    | true=>
     have:=cW hb;subst this;exact absurd (x8 hix hm hj).1 hde
    | false=>rw [hb]at hjD;exact hS.vals j e u hj hjD
 have ho':l.toArray[i]?=some o:=by simpa using ho
 simp only [wpOps,ho'];rcases h3 a w hEp hS.ok with⟨hw,hr⟩|⟨hw,rfl⟩
 ·rw [aj hw];left;unfold Oper.wp;rw [hr];show wpOps P l.toArray Q ord (a.put o.dst v) w;rw [h2];exact ih _ hnext
 ·rw [ac (by rw [hw];simp),h2];exact ih _ hnext
def yj(N:Nat)(E:ft)(V:eg):Bool:=rr (g8 V)&&rr (fg V)&&(g8 V).all (fun d=>Nat.blt d N&&(match eM E d with|none=>true|some _=>false))
def zo(l:List Oper)(I:List Nat)(c:Option Nat):Bool:=
 (List.range l.length).all fun i=>I.any (Nat.beq i) || (match c with|some k=>Nat.beq i k|none=>false) || (match l[i]? with|some o=>(fi o).any (fun j=> !(I.any (Nat.beq j)))|none=>true)
def kb(is:List Nat):eg→eg
 | []=> []
 | (i,d,v)::r=>bif is.any (Nat.beq i)then(i,d,v)::kb is r else kb is r
theorem mZ{is:List Nat}:∀{V:eg}{p:Nat×Nat×Value},p∈kb is V→p∈V
 | [],p,h=>by simp [kb]at h
 | (i,d,v)::r,p,h=>by
  simp only [kb]at h;cases ha:is.any (Nat.beq i)with
  | true=>
   rw [ha]at h;rcases List.mem_cons.1 h with e|e
   ·simp [e]
   ·simp [mZ e]
  | false=>rw [ha]at h;simp [mZ h]
theorem qD{is:List Nat}:∀{V:eg}{i:Nat},i∈fg V→i∈is→∃d v,(i,d,v)∈kb is V
 | [],i,h,_=>by simp [fg]at h
 | (j,d,v)::r,i,h,hi=>by
  simp only [kb];rcases List.mem_cons.1 (show i∈j::fg r from h)with e|e
  ·subst e;have:is.any (Nat.beq i)=true:=List.any_eq_true.2 ⟨i,hi,by simp⟩;rw [this];exact⟨d,v,by simp⟩
  ·obtain⟨d',v',h'⟩:=qD (V:=r) e hi;cases is.any (Nat.beq j)with
   | true=>exact⟨d',v',by simp [h']⟩
   | false=>exact⟨d',v',h'⟩
def sj(l:List Nat)(k:Nat):Bool:=l.any (Nat.beq k)
theorem gz{l:List Nat}{k:Nat}(h:sj l k=true):k∈l:=by
 obtain⟨x,hx,he⟩:=List.any_eq_true.1 h;exact cW he▸hx
theorem fT{l:List Nat}{k:Nat}(h:k∈l):sj l k=true:=List.any_eq_true.2 ⟨k,h,by simp⟩
def v_(V:eg)(is C:List Nat):Bool:=(fg V).all fun i=>sj is i || sj C i
def Bu(l:List Oper)(C:List Nat)(c:Nat):List Nat→List Nat→Bool
 | _,[]=>true
 | seen,k::ks=>(sj C k || Nat.beq k c || seen.any (fun s=>match l[s]? with|some o=>sj (fi o) k|none=>false))&&Bu l C c (k::seen) ks
theorem s7{V:eg}(h:yj N E V=true):(g8 V).Nodup∧(fg V).Nodup∧(∀d∈g8 V,∀v,eM E d≠some v)∧∀d∈g8 V,d<N:=by
 simp only [yj,Bool.and_eq_true]at h;refine⟨oG h.1.1,oG h.1.2,fun d hd v hv=> ?_,fun d hd=> ?_⟩
 ·have:=List.all_eq_true.1 h.2 d hd;rw [hv]at this;simp at this
 ·have:=List.all_eq_true.1 h.2 d hd;simp only [Bool.and_eq_true]at this;simpa using this.1
theorem o9{l:List Oper}{V:eg}{C:List Nat}(is:List Nat){I:eg}(hI0:kb is V=I)(hst:yj N E V=true)(hI:PRs P N w0 M H E Γ R l V I)(hcov:v_ V is C=true)(c:Option Nat)
  (hcls:zo l (fg V++C) c=true) (hfin:∀D a w,(∀i,i<l.length→D i=true)→StI N w0 M H E Γ R l V C D a w→Q .normal a w)
  (hmem:∀k,c=some k→∀ord D a w o,l[k]?=some o→D k=false→(∀j∈fi o,D j=true)→Ord l (fun j=>bif Nat.beq j k then true else D j) ord→StI N w0 M H E Γ R l V C D a w→wpOps P l.toArray Q (k::ord) a w):
  Ip P N w0 M H E Γ R l Q V C:=by
 obtain⟨h1,h2,h3,h4⟩:=s7 hst;intro ord
 induction ord with
 | nil=>
  intro D a w ho hS;cases ho with
  | nil h=>exact hfin D a w h hS
 | cons i ord ih=>
  intro D a w ho hS;cases ho with
  | cons hio hD hpr hrest=>
   have hi:i<l.length:=(cU.1 hio).1;have hc:=List.all_eq_true.1 hcls i (by simpa using hi);simp only [hio,Bool.or_eq_true]at hc;rcases hc with(hc|hc)|hc
   ·have hiV:i∈fg V:=by
     rcases List.mem_append.1 (gz hc:i∈fg V++C)with h|h
     ·exact h
     ·have:=hS.sure i h;rw [hD]at this;cases this
    have hcv:=List.all_eq_true.1 hcov i hiV;simp only [Bool.or_eq_true]at hcv;rcases hcv with hcv|hcv
    ·obtain⟨d,v,hm⟩:=qD hiV (gz hcv);exact yh h1 h2 h3 h4 (mZ hm) ((hI0▸hI:PRs P N w0 M H E Γ R l V (kb is V)).get i d v hm) hio hpr hS fun a' hS'=>ih _ a' w hrest hS'
    ·have:=hS.sure i (gz hcv);rw [hD]at this;cases this
   ·cases c with
    | none=>simp at hc
    | some k=>
     have:i=k:=cW hc;subst this;exact hmem i J ord D a w _ hio hD hpr hrest hS
   ·obtain⟨j,hj,hjn⟩:=List.any_eq_true.1 hc;have hjV:=fT (hS.done j (hpr j hj));rw [sj]at hjV;rw [hjV]at hjn;simp at hjn
theorem bA{l:List Oper}{V:eg}{C:List Nat}(is:List Nat){I:eg}(hI0:kb is V=I)(hst:yj N E V=true)(hI:PRs P N w0 M H E Γ R l V I)(hcov:v_ V is C=true)(hcls:zo l (fg V++C) none=true)
  (hall:(fg V).all (fun i=>Nat.blt i l.length)=true) (k:At N w0 M H (DA V++E) Γ R (Q .normal)):Ip P N w0 M H E Γ R l Q V C:=
 o9 is hI0 hst hI hcov none hcls (fun D a w hD hS=>k a w (hS.base.vals fun i d v hm=>hS.vals i d v hm (hD i (by
  have:=List.all_eq_true.1 hall i (gd.2 ⟨d,v,hm⟩);simpa using this))) hS.ok) (fun k hk=>by cases hk)
theorem lB{l:List Oper}{C:List Nat}{c:Nat}{D:Nat→Bool}(hC:∀i∈C,D i=true)(hc:D c=true)(hcl:∀(i:Nat)(o:Oper),l[i]?=some o→D i=true→∀j∈fi o,D j=true):
  ∀(ks seen:List Nat),Bu l C c seen ks=true→(∀s∈seen,D s=true)→∀k∈ks,D k=true
 | [],_,_,_,k,h=>by simp at h
 | k'::ks,seen,h,hs,k,hk=>by
  simp only [Bu,Bool.and_eq_true,Bool.or_eq_true]at h;have hk':D k'=true:=by
   rcases h.1 with(h1|h1)|h1
   ·exact hC _ (gz h1)
   ·rw [cW h1];exact hc
   ·obtain⟨s,hs1,hs2⟩:=List.any_eq_true.1 h1;cases ho:l[s]? with
    | none=>rw [ho]at hs2;cases hs2
    | some o=>rw [ho]at hs2;exact hcl s o ho (hs s hs1) k' (gz hs2)
  rcases List.mem_cons.1 hk with e|e
  ·rw [e];exact hk'
  ·exact lB hC hc hcl ks (k'::seen) h.2 (fun s hs'=>by rcases List.mem_cons.1 hs' with e|e;exact e▸hk';exact hs s e) k e
theorem oX:∀(U V:eg),fg (U++V)=fg U++fg V
 | [],V=>rfl
 | (i,d,v)::U,V=>by simp [fg,oX U V]
theorem bi{l:List Oper}{V:eg}{C:List Nat}(is:List Nat){I:eg}(c:Nat)(C' Jx:List Nat){X:Type}{φ:X→Prop}{v:X→Value}{Γ' R':X→eD}{d:Nat}{o:Oper}(J':X→eg)(hI0:kb is V=I)(hst:yj N E V=true)(hI:PRs P N w0 M H E Γ R l V I)(hcov:v_ V is C=true)
  (hcls:zo l (fg V++C) (some c)=true) (ho:l[c]?=some o) (hdst:o.dst=some d) (hgd:o.guard=none) (hd:Nat.blt d N=true) (hdE:eM E d=none) (hdV:sj (g8 V) d=false) (hcV:sj (fg V++C) c=false)
  (hcl:Bu l C c [] C'=true) (hCC0:C.all (sj C')=true) (hJ:∀x,φ x→fg (J' x)=Jx) (hJx:Jx.all (fun j=> !(sj (fg V++C) j)&& !(Nat.beq j c))=true) (hms:MS P N w0 M H (vpre (fi o) V++E) Γ R o φ v Γ' R')
  (k:∀x,φ x→Ip P N w0 M H E (Γ' x) (R' x) l Q (J' x++(c,d,v x)::V) C'):Ip P N w0 M H E Γ R l Q V C:=by
 have hCC:∀j∈C,j∈C':=fun j hj=>gz (List.all_eq_true.1 hCC0 j hj)
 refine o9 is hI0 hst hI hcov (some c) hcls (fun D a w hD hS=> ?_) fun k' hk' ord D a w o' hio hDk hpr hrest hS=> ?_
 ·have:=hS.done c (hD c (cU.1 ho).1);rw [fT this]at hcV;cases hcV
 ·injection hk' with hk';subst hk';rw [ho]at hio;injection hio with hio;subst hio;have ho':l.toArray[c]?=some o:=by simpa using ho
  simp only [wpOps,ho'];rw [aj (by simp [Region.wanted,hgd])];left;have hEp:EOk N (vpre (fi o) V++E) a:=hS.base.vpre fun j d v hj hjp=>hS.vals j d v hj (hpr j hjp)
  have hlt:d<a.tmps.size:=Nat.lt_of_lt_of_le (by simpa using hd) hS.base.size;refine hms a w hEp hS.ok _ _ fun x w' hφ hC'=> ?_
  rw [hdst];have hclosed:∀(j:Nat)(o':Oper),l[j]?=some o'→(bif Nat.beq j c then true else D j)=true→∀k∈fi o',(bif Nat.beq k c then true else D k)=true:=by
   intro j o' hoj hj q hq;cases hb:Nat.beq j c with
   | true=>
    have:=cW hb;subst this;rw [ho]at hoj;injection hoj with hoj;subst hoj;simp [hpr q hq]
   | false=>rw [hb]at hj;simp [hS.closed j o' hoj hj q hq]
  refine k x hφ ord _ _ w' hrest ⟨fun j hj=> ?_,lB (fun i hi=>by simp [hS.sure i hi]) (by simp) hclosed C' [] hcl (fun s hs=>by simp at hs),hclosed,⟨hS.base.defers,by simpa [Act.put]using hS.base.size,fun t u ht=> ?_⟩,fun j e u hj hjD=> ?_,hC'⟩
  ·rw [oX];show j∈fg (J' x)++(c::fg V)++C';cases hb:Nat.beq j c with
   | true=>rw [cW hb];simp
   | false=>
    rw [hb]at hj;rcases List.mem_append.1 (hS.done j hj)with h|h
    ·simp [h]
    ·have:=hCC j h;simp [this]
  ·simp only [Act.put,Array.getElem?_setIfInBounds];have hne:d≠t:=fun e=>by subst e;rw [hdE]at ht;cases ht
   rw [ac hne];exact hS.base.slot t u ht
  ·simp only [Act.put,Array.getElem?_setIfInBounds];rcases List.mem_append.1 hj with hj|hj
   ·exfalso;have hjx:j∈Jx:=by rw [←hJ x hφ];exact gd.2 ⟨e,u,hj⟩
    have h6:=List.all_eq_true.1 hJx j hjx;simp only [Bool.and_eq_true,Bool.not_eq_true']at h6;rw [h6.2]at hjD;have:=fT (hS.done j hjD);rw [this]at h6;simp at h6
   ·rcases List.mem_cons.1 hj with e'|e'
    ·cases e';simp [hlt]
    ·have hne:d≠e:=fun h=>by
      subst h;rw [fT (iv e')]at hdV;cases hdV
     rw [ac hne];cases hb:Nat.beq j c with
     | true=>
      have:=cW hb;subst this;rw [fT (List.mem_append_left _ (gd.2 ⟨e,u,e'⟩))]at hcV;cases hcV
     | false=>rw [hb]at hjD;exact hS.vals j e u e' hjD
theorem bP{l:List Oper}{V:eg}{C:List Nat}(is:List Nat){I:eg}(c:Nat)(C' Jx:List Nat){X:Type}{φ:X→Prop}{v:X→Value}{Γ' R':X→eD}{o:Oper}(J':X→eg)(hI0:kb is V=I)(hst:yj N E V=true)(hI:PRs P N w0 M H E Γ R l V I)(hcov:v_ V is C=true)
  (hcls:zo l (fg V++C) (some c)=true) (ho:l[c]?=some o) (hdst:o.dst=none) (hgd:o.guard=none) (hcC':sj C' c=true) (hcV:sj (fg V++C) c=false)
  (hcl:Bu l C c [] C'=true) (hCC0:C.all (sj C')=true) (hJ:∀x,φ x→fg (J' x)=Jx) (hJx:Jx.all (fun j=> !(sj (fg V++C) j)&& !(Nat.beq j c))=true) (hms:MS P N w0 M H (vpre (fi o) V++E) Γ R o φ v Γ' R')
  (k:∀x,φ x→Ip P N w0 M H E (Γ' x) (R' x) l Q (J' x++V) C'):Ip P N w0 M H E Γ R l Q V C:=by
 have hCC:∀j∈C,j∈C':=fun j hj=>gz (List.all_eq_true.1 hCC0 j hj)
 refine o9 is hI0 hst hI hcov (some c) hcls (fun D a w hD hS=> ?_) fun k' hk' ord D a w o' hio hDk hpr hrest hS=> ?_
 ·have:=hS.done c (hD c (cU.1 ho).1);rw [fT this]at hcV;cases hcV
 ·injection hk' with hk';subst hk';rw [ho]at hio;injection hio with hio;subst hio;have ho':l.toArray[c]?=some o:=by simpa using ho
  simp only [wpOps,ho'];rw [aj (by simp [Region.wanted,hgd])];left;have hEp:EOk N (vpre (fi o) V++E) a:=hS.base.vpre fun j d v hj hjp=>hS.vals j d v hj (hpr j hjp)
  refine hms a w hEp hS.ok _ _ fun x w' hφ hC'=> ?_
  rw [hdst];have hclosed:∀(j:Nat)(o':Oper),l[j]?=some o'→(bif Nat.beq j c then true else D j)=true→∀k∈fi o',(bif Nat.beq k c then true else D k)=true:=by
   intro j o' hoj hj q hq;cases hb:Nat.beq j c with
   | true=>
    have:=cW hb;subst this;rw [ho]at hoj;injection hoj with hoj;subst hoj;simp [hpr q hq]
   | false=>rw [hb]at hj;simp [hS.closed j o' hoj hj q hq]
  refine k x hφ ord _ _ w' hrest ⟨fun j hj=> ?_,lB (fun i hi=>by simp [hS.sure i hi]) (by simp) hclosed C' [] hcl (fun s hs=>by simp at hs),hclosed,hS.base,fun j e u hj hjD=> ?_,hC'⟩
  ·rw [oX];cases hb:Nat.beq j c with
   | true=>rw [cW hb];simp [gz hcC']
   | false=>
    rw [hb]at hj;rcases List.mem_append.1 (hS.done j hj)with h|h
    ·simp [h]
    ·have:=hCC j h;simp [this]
  ·rcases List.mem_append.1 hj with hj|hj
   ·exfalso;have hjx:j∈Jx:=by rw [←hJ x hφ];exact gd.2 ⟨e,u,hj⟩
    have h6:=List.all_eq_true.1 hJx j hjx;simp only [Bool.and_eq_true,Bool.not_eq_true']at h6;rw [h6.2]at hjD;have:=fT (hS.done j hjD);rw [this]at h6;simp at h6
   ·cases hb:Nat.beq j c with
    | true=>
     have:=cW hb;subst this;rw [fT (List.mem_append_left _ (gd.2 ⟨e,u,hj⟩))]at hcV;cases hcV
    | false=>rw [hb]at hjD;exact hS.vals j e u hj hjD
theorem bX{id:Nat}{l:List Oper}(ds:List Nat)(V:eg)(ht:DB 0 l=true)(h:Ip P N w0 M H (Bj ds E) Γ R l Q V []):At N w0 M H E Γ R ((Code.region id l.toArray true).wp P Q):=by
 intro a w hE hC;refine wp_region_draw fun t=>h _ (fun _=>false) a _ (DQ _ l ht t) ⟨(fun i hi=>by cases hi),(fun i hi=>by simp at hi),(fun i o _ hi=>by cases hi),hE.del ds,(fun i d v _ hi=>by cases hi),hC.stay ⟨J,J,J,bU _,fun _ _ _=>J⟩⟩
theorem B2{id:Nat}{l:List Oper}(rt rg:List Nat)(ds:List Nat)(V:eg)(h1:sY .any rt l=true)(h2:sY .text rt l=true)(h3:sY .gc rg l=true)(h:Ip P N w0 M H (Bj ds E) Γ R l Q V []):At N w0 M H E Γ R ((Code.region id l.toArray true).wp P Q):=by
 intro a w hE hC;refine wp_region_draw fun t=>h _ (fun _=>false) a _ (Ak _ l rt rg h1 h2 h3 t) ⟨(fun i hi=>by cases hi),(fun i hi=>by simp at hi),(fun i o _ hi=>by cases hi),hE.del ds,(fun i d v _ hi=>by cases hi),hC.stay ⟨J,J,J,bU _,fun _ _ _=>J⟩⟩
theorem aw{l:List Oper}{V:eg}:PRs P N w0 M H E Γ R l V []:=trivial
theorem bk{l:List Oper}{V I:eg}{i d:Nat}{v:Value}(h:OV P N w0 M H E Γ R l V i d v)(t:PRs P N w0 M H E Γ R l V I):PRs P N w0 M H E Γ R l V ((i,d,v)::I):=⟨h,t⟩
theorem Jj{l:List Oper}{V:eg}{i d:Nat}{v:Value}{op:Op}{T:TypeId}{ps:String}{af:Array Edge}(ho:l[i]?=some ⟨some d,op,T,ps,af,none⟩)(h:PR P N w0 M H (vpre (fi ⟨some d,op,T,ps,af,none⟩) V++E) Γ R op v):OV P N w0 M H E Γ R l V i d v:=
 ⟨_,ho,rfl,fun a w hE hC=> .inl ⟨by simp [Region.wanted],h T ps af a w hE hC _ _⟩⟩
end
section
variable{P:Program}{N:Nat}{w0:World}{M H:Nat→Prop}{E:ft}{Γ R:eD}{Q:Exit→Act→World→Prop}
variable{ops:Array Oper}{rest:List Oper}{T:TypeId}{ps:String}{af:Array Edge}{d:Nat}{op:Op}
theorem gh{S:TypeId}{D:TypeDesc}{z:Value}{s bb:Nat}{c:List Value}(ht:TI P S D z s bb)(hc:z.cells.toList=c)
  :MS P N w0 M H E Γ R ⟨some d,.alloc S,T,ps,af,none⟩ (X:=Nat) (fun _=>True) (fun b=> .pointer (some ⟨b,0,none⟩)) (fun b=>(d,bj b S c)::Γ) (fun _=>R):=i_ (fun a w hE hC=>⟨w.heap.size,w.alloc (.cells c.toArray S),trivial,by
  subst hc;simp [execOp,Instr.alloc,ht.zero,newVar,newRow],hC.alloc⟩)
theorem qN{S:TypeId}{x:Operand}{v:Value}{c:List Value}(hx:ev E x=some v)(hc:v.cells.toList=c)
  :MS P N w0 M H E Γ R ⟨some d,.box S x,T,ps,af,none⟩ (X:=Nat) (fun _=>True) (fun b=> .pointer (some ⟨b,0,none⟩)) (fun b=>(d,bj b S c)::Γ) (fun _=>R):=i_ (fun a w hE hC=>⟨w.heap.size,w.alloc (.cells c.toArray S),trivial,by
  subst hc;simp [execOp,hE.ev hx,Instr.box,newVar,newRow],hC.alloc⟩)
theorem d9{α:Type}{S U:TypeId}{D:TypeDesc}{z:Value}{s bb:Nat}(enc:α→List Value)(e:α){x:Operand}{v:Value}(hS:P.underlying S=some (.slice U))(hU:TI P U D z s bb)(hs:z.cells.size=s)(hs0:0<s)(hsb:s≤1000000)(hx:ev E x=some v)(hv:v.cells.toList=enc e)(he:(enc e).length=s)
  :MS P N w0 M H E Γ R ⟨some d,.buildSlice S 1 #[(0,x)],T,ps,af,none⟩ (X:=SV) (fun _=>True) (fun v'=>sv v') (fun v'=>(d,own U s enc (sv v') [e])::Γ) (fun _=>R):=i_ (fun a w hE hC=>⟨⟨some ⟨w.heap.size,0,none⟩,1,1⟩,w.alloc (.cells v.cells U),trivial,by
  have hvs:v.cells.size=s:=by rw [←he,←hv];simp
  have h0:¬s=0:=by omega
  have hzz:((Array.range (1*s)).map (z.cells[· %z.cells.size]!)).size=s:=by simp
  have hf:=zi (s:=s) (v:=v) hvs hzz;simp only [Nat.one_mul]at hf;have hb:¬16777216<s:=by omega
  simp [execOp,hE.ev hx,Instr.buildSlice,run_underlying hS,hU.sizeOf,hU.zero,newRow,h0,hb,hf,sv],by
  have hvs:v.cells.size=s:=by rw [←he,←hv];simp
  refine hC.new (Touch.alloc _ _ _) ⟨_,pw (S:=U) (s:=s) (enc:=enc) (l:= [e]) (cap:=1) (by simpa using he) (by simpa using hvs) (by simp) (by simp [maxLen]) (by simp [hv];rw [←he];exact List.take_of_length_le (bU _)),fun b hb=>by subst hb;simp⟩⟩)
theorem AI{α:Type}{S U:TypeId}{D:TypeDesc}{z:Value}{s bb:Nat}(enc:α→List Value)(hS:P.underlying S=some (.slice U))(hU:TI P U D z s bb)
  :MS P N w0 M H E Γ R ⟨some d,.buildSlice S 0 #[],T,ps,af,none⟩ (X:=SV) (fun _=>True) (fun v'=>sv v') (fun v'=>(d,own U s enc (sv v') [])::Γ) (fun _=>R):=i_ (fun a w hE hC=>⟨⟨some ⟨w.heap.size,0,none⟩,0,0⟩,w.alloc (.cells #[] U),trivial,by
  simp [execOp,Instr.buildSlice,run_underlying hS,hU.sizeOf,newRow,Instr.fill,Array.range_zero',sv],
  hC.new (Touch.alloc _ _ _) ⟨_,pw (S:=U) (s:=s) (enc:=enc) (l:= []) (cap:=0) (by simp) (by simp) (by simp) (by simp) (by simp),fun b hb=>by subst hb;simp⟩⟩)
theorem ja{α:Type}{S U:TypeId}{D:TypeDesc}{z:Value}{s bb:Nat}{enc:α→List Value}{x y:Operand}{v v2:Value}{l l2:List α}(k:Nat)(hS:P.underlying S=some (.slice U))(hU:TI P U D z s bb)(hzs:z.cells.size=s)(hs0:0<s)(he:∀x,(enc x).length=s)(h1:∀x,(enc x).all (·.oneCell')=true)
  (hx:ev E x=some v) (hy:ev E y=some v2) (hk:ch Γ k=some (own U s enc v l)) (h2:HasSl Γ R s enc v2 l2) (hm:(l.length+l2.length)*bb≤140737488355328) (hm':l.length+l2.length≤maxLen)
  :MS P N w0 M H E Γ R ⟨some d,.call {callee:= .builtin .append,args:= #[x,y],argTypes:= #[S,S]},T,ps,af,none⟩ (X:=SV) (fun _=>True) (fun v'=>sv v') (fun v'=>(k,own U s enc (sv v') (l++l2))::Γ) (fun _=>R):=by
 refine i_ fun a w hE hC=> ?_
 obtain⟨G0,hp0,hlt0⟩:=hC.reads (.inl hk);obtain⟨G2,c,h3,h4,h5⟩:=h2.ok hC;obtain⟨i,i1,i2,i3,i4⟩:=hU.info;have hfl:∀l':List α,(l'.flatMap enc).length=l'.length*s:=fq he;rcases h5 with⟨rfl,_,rfl⟩|⟨b2,o2,rfl,_,hc2⟩
 ·obtain⟨xv,rfl⟩:=fS hp0.2;refine⟨xv,w,O,?_,?_⟩
  ·have hr:=run_append_owned_none (P:=P) w 0 S T U i s hS i1 (sv xv) l.length _ hp0.2;simp [execOp,resolve,invoke,builtin,hE.ev hx,hE.ev hy,hr]
  ·simp only [List.append_nil];exact hC.upd hk fun G hG hGlt=>⟨G,hG,fun b hb=>⟨hGlt b hb,fun _=>hb⟩,Touch.refl _ _⟩
 ·obtain⟨v',w',hr,ho,hg,hn⟩:=run_append_own (P:=P) w 0 S T U i z s bb hS i1 i2 i3 i4 hzs hs0 v l.length _ hp0.2 ⟨b2,o2,none⟩ l2.length c (l2.flatMap enc) (hfl l2)
   (fun j u hj=>by rw [c8];exact hc2 j u hj) (fun u hu=>by obtain⟨x,_,hxu⟩:=List.mem_flatMap.1 hu;simpa using List.all_eq_true.1 (h1 x) u hxu) hm' hm (bn _)
  obtain⟨xv,rfl⟩:=fS ho;refine⟨xv,w',O,?_,?_⟩
  ·simp [execOp,resolve,invoke,builtin,hE.ev hx,hE.ev hy,hr]
  ·refine hC.upd hk fun G hG hGlt=>⟨fun b=>(sv xv).ownBlock=some b,⟨fun x=>Iff.rfl,?_⟩,fun b hb=>⟨(ho.lt b hb).2,fun hlt=> ?_⟩,⟨hg.os,hg.tape,hg.output,hg.size,fun i hi hne=>hg.block i hi (fun e=>hne ((hG.1 i).2 e.symm))⟩⟩
   ·rw [bD,List.flatMap_append];exact ho
   ·rcases hp0.2.2 with⟨rfl,hl0⟩|⟨g,cap,cur,rfl,hbg,hgg,hnc,hcm,hcs,htake⟩
    ·exfalso;have hl:l= []:=List.eq_nil_of_length_eq_zero hl0;subst hl;by_cases hz:l2.length=0
     ·have hl2:l2= []:=List.eq_nil_of_length_eq_zero hz;subst hl2;have:=(hn.2 ⟨J,J⟩)
      rw [this]at hb;simp [Value.ownBlock]at hb
     ·have hr2:=run_append_nil (P:=P) w S T U i z hS i1 i2 ⟨b2,o2,none⟩ l2.length c (l2.flatMap enc) (by rw [hfl,i3]) (fun j u hj=>by rw [c8];exact hc2 j u hj) (by simpa using Nat.pos_of_ne_zero hz) (by simp only [maxLen]at hm';simp at hm';omega) (by rw [i4];simp at hm;omega);rw [hr2]at hr;injection hr with hr3 hr4;replace hb:(sv xv).ownBlock=some b:=hb;rw [←hr3]at hb;simp [Value.ownBlock]at hb;omega
    ·by_cases hroom:l.length+l2.length≤cap
     ·have hfit:l.length*i.size+(l2.flatMap enc).length≤cur.size:=by rw [hfl,hcs,i3,←Nat.add_mul];exact Nat.mul_le_mul_right _ hroom
      have hr2:=run_append_room (P:=P) w S T U i hS i1 g l.length cap cur hgg ⟨b2,o2,none⟩ l2.length c (l2.flatMap enc) (by rw [hfl,i3]) (fun j u hj=>by rw [c8];exact hc2 j u hj) (fun u hu=>by obtain⟨x,_,hxu⟩:=List.mem_flatMap.1 hu;simpa using List.all_eq_true.1 (h1 x) u hxu) hroom hfit;rw [hr2]at hr;injection hr with hr3 hr4;replace hb:(sv xv).ownBlock=some b:=hb;rw [←hr3]at hb;simp [Value.ownBlock]at hb;subst hb;exact(hG.1 g).2 J
     ·exfalso;have holds:=hp0.2.cells (g:=g) J;have hr2:=run_append_grow (P:=P) w S T U i z hS i1 i2 ⟨g,0,none⟩ l.length cap (l.flatMap enc) (by rw [hfl,i3]) holds ⟨b2,o2,none⟩ l2.length c (l2.flatMap enc) (by rw [hfl,i3]) (fun j u hj=>by rw [c8];exact hc2 j u hj) (by omega) (by simp only [maxLen]at hm';omega) (growslice_fits (by omega) (by rw [i4];exact hm));rw [hr2]at hr;injection hr with hr3 hr4;replace hb:(sv xv).ownBlock=some b:=hb;rw [←hr3]at hb;simp [Value.ownBlock]at hb;omega
theorem pG{S:TypeId}{D:TypeDesc}{z:Value}{s bb:Nat}{x y:Operand}{b o:Nat}{v:Value}{A A':Asn}{k:Nat}{us:List Value}(ht:TI P S D z s bb)(hx:ev E x=some (.pointer (some ⟨b,o,none⟩)))(hy:ev E y=some v)
  (hus:v.cells.toList=us) (hs:us.length=s) (h1:us.all (·.oneCell')=true) (hk:ch Γ k=some A)
  (hA:∀w G,A.pred w G→∃cur S',w.heap[b]?=some (.cells cur S' (0,0))∧G b∧o+us.length≤cur.size∧A'.pred (w.setRow b (cur.toList.take o++us++cur.toList.drop (o+us.length)).toArray) G)
  :MS P N w0 M H E Γ R ⟨none,.store S x y,T,ps,af,none⟩ (X:=Unit) (fun _=>True) (fun _=>undef) (fun _=>(k,A')::Γ) (fun _=>R):=by
 intro a w hE hC next Q hnext
 obtain⟨G0,hp,hlt⟩:=hC.reads (.inl hk);obtain⟨cur,S',hb,_,hfit,_⟩:=hA w G0 hp;have hst:=run_storeCells_at P b o S' us 0 cur w hb (by simpa using hfit) (fun v hv=>by simpa using List.all_eq_true.1 h1 v hv);simp only [Nat.add_zero]at hst;have hC':COk w0 M H ((k,A')::Γ) R (w.setRow b (cur.toList.take o++us++cur.toList.drop (o+us.length)).toArray):=
  hC.upd hk fun G hG hGlt=>by
   obtain⟨cur',S'',hb',hGb,hfit',hA'⟩:=hA w G hG;rw [hb]at hb';injection hb' with hb';injection hb' with e1 e2;subst e1;exact⟨G,hA',fun x hx=>⟨by simpa using hGlt x hx,fun _=>hx⟩,⟨J,J,J,by simp,fun i _ hi=>setRow_other w b i _ (fun e=>hi (e▸hGb))⟩⟩
 unfold Oper.wp;have hrun:(execOp a.eval ⟨none,.store S x y,T,ps,af,none⟩).run P w= .ok .skip (w.setRow b (cur.toList.take o++us++cur.toList.drop (o+us.length)).toArray):=by
  have hsz:v.cells.size=s:=by rw [←hs,←hus];simp
  simp [execOp,hE.ev hx,hE.ev hy,Instr.storeAt,Instr.sureAddr,storeVar,ht.sizeOf,hsz,hus,hst]
 rw [hrun];exact hnext () _ O hC'
theorem dw{S S':TypeId}{D:TypeDesc}{z:Value}{s bb:Nat}{x y:Operand}{b o:Nat}{v:Value}{k:Nat}{c c' us:List Value}(ht:TI P S D z s bb)(hx:ev E x=some (.pointer (some ⟨b,o,none⟩)))(hy:ev E y=some v)
  (hus:v.cells.toList=us) (hs:us.length=s) (h1:us.all (·.oneCell')=true) (hk:ch Γ k=some (bj b S' c)) (hfit:Nat.ble (o+us.length) c.length=true) (hc:c.take o++us++c.drop (o+us.length)=c')
  :MS P N w0 M H E Γ R ⟨none,.store S x y,T,ps,af,none⟩ (X:=Unit) (fun _=>True) (fun _=>undef) (fun _=>((k,bj b S' c')::Γ)) (fun _=>R):=
 pG ht hx hy hus hs h1 hk (B1 hc (by simpa using hfit))
theorem pF{α:Type}{S S':TypeId}{D:TypeDesc}{z:Value}{s n bb:Nat}{x y:Operand}{u v:Value}{k i o:Nat}{enc:α→List Value}{l:List α}{e e':α}{us:List Value}(ht:TI P S D z n bb)(hx:ev E x=some (.pointer (some ⟨kg v,lM v+i*s+o,none⟩)))(hy:ev E y=some u)
  (hus:u.cells.toList=us) (hs:us.length=n) (h1:us.all (·.oneCell')=true) (hk:ch Γ k=some (own S' s enc v l)) (he:∀x,(enc x).length=s) (hi:l[i]?=some e) (ho:o+us.length≤s) (hx':(enc e).take o++us++(enc e).drop (o+us.length)=enc e')
  :MS P N w0 M H E Γ R ⟨none,.store S x y,T,ps,af,none⟩ (X:=Unit) (fun _=>True) (fun _=>undef) (fun _=>((k,own S' s enc v (l.set i e'))::Γ)) (fun _=>R):=
 pG ht hx hy hus hs h1 hk (JB he hi ho hx')
theorem bZ{S S':TypeId}{D:TypeDesc}{z:Value}{s bb:Nat}{x y:Operand}{b:Nat}{k:Nat}{c us:List Value}(ht:TI P S D z s bb)(hx:ev E x=some (.pointer (some ⟨b,0,none⟩)))(hy:ev E y=some (.agg us.toArray))
  (hs:us.length=s) (h1:us.all (·.oneCell')=true) (hk:ch Γ k=some (bj b S' c)) (hc:c.length=s)
  :MS P N w0 M H E Γ R ⟨none,.store S x y,T,ps,af,none⟩ (X:=Unit) (fun _=>True) (fun _=>undef) (fun _=>((k,bj b S' us)::Γ)) (fun _=>R):=
 dw (us:=us) ht hx hy (by simp [Value.cells]) hs h1 hk (by rw [hs,hc];simp) (by rw [hs,←hc];simp)
theorem jW{dst:Option Nat}{n:Nat}{f:Operand}{xs:List Operand}{cap us vs:List Value}{at_:Array TypeId}{L R0:List Asn}{X:Type}{φ:X→Prop}{v:X→Value}{L' R':X→List Asn}(hs:Spec P n vs L R0 φ v L' R')(hcb:Cb P n)
  (ks:List Nat) (rs:List (Bool×Nat)) (ns rns:List Nat) (hf:ev E f=some (.func (.func n) #[] cap.toArray)) (hx:evs E xs=some us) (hu:us++cap=vs)
  (hnd:rr ks=true) (hL:e9 Γ ks=dv L) (hR:jr Γ R rs=dv R0) (hl:iR ks rs=true) (hns:rr ns=true) (hnl:∀x,φ x→ns.length=(L' x).length) (hrl:∀x,φ x→ep rs=true→rns.length=(R' x).length):
  MS P N w0 M H E Γ R ⟨dst,.call {callee:= .value f,args:=xs.toArray,argTypes:=at_},T,ps,af,none⟩ φ v (fun x=>gk ns (L' x) (gl ks Γ)) (fun x=>bif ep rs then gk rns (R' x) R else R):=by
 intro a w hE hC next Q hnext
 unfold Oper.wp;have hev:=hE.evs hx;have hrun:(execOp a.eval ⟨dst,.call {callee:= .value f,args:=xs.toArray,argTypes:=at_},T,ps,af,none⟩).run P w= .ok (.enter n vs.toArray) w:=by
  subst hu;simp [execOp,resolve,hE.ev hf,Deferred.ofValue,invoke,hev,pe hcb]
 rw [hrun];refine(wg hs hC ks hnd hL rs hR hl ns hns hnl rns hrl).mono ?_;rintro e w' ⟨x,h1,rfl,h2⟩;exact hnext x w' h1 h2
end
def OQ:Nat→List Value→List (Nat×Value)
 | _,[]=> []
 | k,v::vs=>(k,v)::OQ (k+1) vs
theorem vN(o:Nat):∀(l:List Value)(k:Nat)(cs:Array Value),o+k+l.length≤cs.size→(l.zipIdx k).foldl (fun cs(p:Value×Nat)=>cs.setIfInBounds (o+p.2) p.1) cs=(cs.toList.take (o+k)++l++cs.toList.drop (o+k+l.length)).toArray
 | [],k,cs,hk=>by simp
 | u::l,k,cs,hk=>by
  simp only [List.zipIdx_cons,List.foldl_cons];rw [vN o l (k+1) (cs.setIfInBounds (o+k) u) (by simp at hk ⊢;omega)]
  congr 1
  have hlt:o+k<cs.toList.length:=by rw [Array.length_toList];simp at hk;omega
  apply List.ext_getElem?;intro j;simp only [Array.toList_setIfInBounds,List.getElem?_append,List.getElem?_take,List.getElem?_drop,List.getElem?_set,bD,List.length_take,List.length_set,aY,Array.length_toList];have hlt':o+k<cs.size:=by simpa using hlt
  have e1:min (o+(k+1)) cs.size=o+k+1:=by omega
  have e2:min (o+k) cs.size=o+k:=by omega
  simp only [e1,e2];by_cases h1:j<o+k
  ·simp [h1,show j<o+k+1 by omega,show j<o+(k+1) by omega,show ¬o+k=j by omega,show j<o+k+(l.length+1) by omega,show j<o+k+1+l.length by omega]
  ·by_cases h2:j=o+k
   ·subst h2;simp [hlt',show o+k<o+(k+1) by omega,show o+k<o+k+1+l.length by omega]
   ·simp only [show ¬j<o+k+1 by omega,h1,if_false];by_cases h3:j<o+k+1+l.length
    ·simp only [h3,show j<o+k+(l.length+1) by omega,if_true];rw [show j-(o+k)=(j-(o+k+1))+1 by omega];simp
    ·simp only [h3,show ¬j<o+k+(l.length+1) by omega,if_false];rw [ac (by omega)]
     congr 1
     omega
theorem zj{s:Nat}:∀(vs:List Value)(k:Nat)(cs:Array Value),(∀v∈vs,v.cells.size=s)→k*s+vs.length*s=cs.size→
  Instr.fill (fun i=>some (i*s,s)) cs (OQ k vs)=some (cs.toList.take (k*s)++vs.flatMap (·.cells.toList)).toArray
 | [],k,cs,_,hk=>by
  simp at hk;simp only [OQ,Instr.fill,List.flatMap_nil,List.append_nil,hk];rw [List.take_of_length_le (by simp)]
 | v::vs,k,cs,hv,hk=>by
  have hs:v.cells.size=s:=hv v (by simp);have hk2:(k+1)*s+vs.length*s=cs.size:=by rw [aY]at hk;rw [←hk,Nat.add_mul,Nat.add_mul];omega
  have hle:k*s+s≤cs.size:=by rw [Nat.add_mul]at hk2;omega
  simp only [OQ,Instr.fill];rw [ac (by simp [hs];omega)];have hf:=vN (k*s) v.cells.toList 0 cs (by simp [hs];omega);simp only [Nat.add_zero,Array.length_toList,hs]at hf;rw [←Array.foldl_toList,Array.toList_zipIdx];have e:(fun cs(x:Value×Nat)=>match x with|(c,j)=>cs.setIfInBounds (k*s+j) c)=(fun(cs:Array Value)(p:Value×Nat)=>cs.setIfInBounds (k*s+p.2) p.1):=J;rw [hf];have hsz:(cs.toList.take (k*s)++v.cells.toList++cs.toList.drop (k*s+s)).toArray.size=cs.size:=by
   simp [hs];omega
  rw [zj vs (k+1) _ (fun u hu=>hv u (by simp [hu])) (by rw [hsz];exact hk2)];simp only [List.flatMap_cons]
  congr 2
  rw [←List.append_assoc]
  congr 1
  rw [show(k+1)*s=k*s+s by rw [Nat.add_mul];omega];have h1:(cs.toList.take (k*s)).length=k*s:=by rw [List.length_take];simp;omega
  have h2:(cs.toList.take (k*s)++v.cells.toList).length=k*s+s:=by rw [bD,h1];simp [hs]
  rw [List.take_append_of_le_length (by rw [h2];exact bU _),List.take_of_length_le (by rw [h2];exact bU _)]
theorem cf{α:Type}{T:TypeId}{s:Nat}{enc:α→List Value}{v:Value}{l:List α}:∀(w:World)(G:Nat→Prop),(own T s enc v l).pred w G→(sl s enc v l).pred w G:=fun _ _ h=>wQ h
section
variable{P:Program}{N:Nat}{w0:World}{M H:Nat→Prop}{E:ft}{Γ R:eD}{Q:Exit→Act→World→Prop}
variable{ops:Array Oper}{rest:List Oper}{T:TypeId}{ps:String}{af:Array Edge}{d:Nat}{op:Op}
theorem gm{α:Type}{S U n:Nat}{D:TypeDesc}{z:Value}{s bb:Nat}(enc:α→List Value)(es:List α){parts:List (Nat×Operand)}{pvs:List (Nat×Value)}(hS:P.underlying S=some (.slice U))(hU:TI P U D z s bb)(hs:z.cells.size=s)(hs0:0<s)(he:∀x,(enc x).length=s)(hn:es.length=n)(hn0:0<n)(hsb:n*s≤1000000)
  (hx:evps E parts=some pvs) (hi:OQ 0 (pvs.map (·.2))=pvs) (hv:(pvs.map (·.2)).map (·.cells.toList)=es.map enc):MS P N w0 M H E Γ R ⟨some d,.buildSlice S n parts.toArray,T,ps,af,none⟩ (X:=SV) (fun _=>True) (fun v'=>sv v') (fun v'=>(d,own U s enc (sv v') es)::Γ) (fun _=>R):=by
 obtain⟨vs,hvs0⟩:∃vs,pvs.map (·.2)=vs:=⟨_,J⟩
 rw [hvs0]at hi hv;subst hi;clear hvs0;have hlen:vs.length=n:=by rw [←hn];have:=congrArg List.length hv;simpa using this
 have hvs:∀v∈vs,v.cells.size=s:=by
  intro v hm;have:v.cells.toList∈es.map enc:=by rw [←hv];exact List.mem_map.2 ⟨v,hm,J⟩
  obtain⟨x,_,hx⟩:=List.mem_map.1 this;have h1:=congrArg List.length hx;rw [he]at h1;simpa using h1.symm
 have hfm:vs.flatMap (·.cells.toList)=es.flatMap enc:=by
  rw [List.flatMap_def,List.flatMap_def,hv]
 refine i_ fun a w hE hC=>⟨⟨some ⟨w.heap.size,0,none⟩,n,n⟩,w.alloc (.cells (vs.flatMap (·.cells.toList)).toArray U),O,?_,?_⟩
 ·have hev:=hE.evps hx;have hfill:=zj (s:=s) vs 0 ((Array.range (n*s)).map (z.cells[· %z.cells.size]!)) hvs (by simp [hlen]);simp only [Nat.zero_mul,List.take_zero,List.nil_append]at hfill;have hns:¬n*s=0:=by
   have:=Nat.mul_pos hn0 hs0;omega
  have hb:¬16777216<n*s:=by omega
  have hns1:¬(n=0∨s=0):=by omega
  simp [execOp,Instr.buildSlice,run_underlying hS,hU.sizeOf,hU.zero,newRow,hb,hev,hfill,hns1,sv];intro h0;exact absurd h0 hns
 ·subst hn;refine hC.new (Touch.alloc _ _ _) ⟨_,pw (S:=U) (s:=s) (enc:=enc) (l:=es) (cap:=es.length) (fq he es) (by rw [hfm];simp [fq he]) (bU _) (by unfold maxLen;have:es.length*1≤es.length*s:=Nat.mul_le_mul_left _ hs0;omega) (by rw [hfm];exact List.take_of_length_le (by simp [fq he])),fun b hb=>by subst hb;simp⟩
theorem cI{α:Type}{S U n:Nat}{D:TypeDesc}{z:Value}{s bb:Nat}(enc:α→List Value)(es:List α){parts:List (Nat×Operand)}{pvs:List (Nat×Value)}(hS:P.underlying S=some (.slice U))(hU:TI P U D z s bb)(hs:z.cells.size=s)(hs0:0<s)(he:∀x,(enc x).length=s)(hn:es.length=n)(hn0:0<n)(hsb:n*s≤1000000)
  (hx:evps E parts=some pvs) (hi:OQ 0 (pvs.map (·.2))=pvs) (hv:(pvs.map (·.2)).map (·.cells.toList)=es.map enc) (hd:Nat.blt d N=true) (k:∀v':SV,At N w0 M H ((d,sv v')::E) ((d,own U s enc (sv v') es)::Γ) R (wpList P ops Q rest)):At N w0 M H E Γ R (wpList P ops Q (⟨some d,.buildSlice S n parts.toArray,T,ps,af,none⟩::rest)):=
 D3 (gm enc es hS hU hs hs0 he hn hn0 hsb hx hi hv) hd fun v' _=>k v'
theorem fB{Rel:Act→World→Prop}{t:Nat}{b:Bool}(ht:eM E t=some (.bool b))(h1:b=true→At N w0 M H ((t,.bool true)::E) Γ R Rel)(h2:b=false→At N w0 M H ((t,.bool false)::E) Γ R Rel):At N w0 M H E Γ R Rel:=by
 have key:∀c,b=c→At N w0 M H ((t,.bool c)::E) Γ R Rel→At N w0 M H E Γ R Rel:=by
  rintro c rfl h;refine h.weak (fun a hE=>⟨hE.defers,hE.size,fun s v hv=> ?_⟩) fun _ h=>h
  simp only [eM]at hv;cases hb:Nat.beq t s with
  | true=>
   rw [hb]at hv;rw [←cW hb];simp at hv;subst hv;exact hE.slot t _ ht
  | false=>rw [hb]at hv;exact hE.slot s v hv
 cases hb:b with
 | true=>exact key true hb (h1 hb)
 | false=>exact key false hb (h2 hb)
theorem bK{l:List Oper}{dst:Option Tmp}{i t:Nat}{c:Bool}(hi:kV l i=some t)(ht:eM E t=some (.bool c))(h:At N w0 M H E Γ R (wpList P l.toArray Q (⟨dst,op,T,ps,af,none⟩::rest))):
  At N w0 M H E Γ R (wpList P l.toArray Q (⟨dst,op,T,ps,af,some (i,c)⟩::rest)):=by
 intro a w hE hC;have hyd:=hE.yield hi ht;have:=h a w hE hC;unfold wpList at this ⊢;rw [aj (by simp [Region.wanted])]at this;rw [aj (by simp [Region.wanted,hyd])];exact this
theorem dj{l:List Oper}{i t:Nat}{c b:Bool}(hi:kV l i=some t)(ht:eM E t=some (.bool b))(hb:b= !c)(hd:Nat.blt d N=true)(h:At N w0 M H ((d,undef)::E) Γ R (wpList P l.toArray Q rest)):
  At N w0 M H E Γ R (wpList P l.toArray Q (⟨some d,op,T,ps,af,some (i,c)⟩::rest)):=by
 intro a w hE hC;have hyd:=hE.yield hi ht;subst hb;unfold wpList;rw [ac (by simp [Region.wanted,hyd])];exact h _ _ (hE.put hd undef) hC
theorem jp{α:Type}{S S':TypeId}{D:TypeDesc}{z:Value}{s bb:Nat}{x y:Operand}{u v:Value}{k i:Nat}{enc:α→List Value}{l:List α}{e e':α}(ht:TI P S D z s bb)(hx:ev E x=some (.pointer (some ⟨kg v,lM v+i*s,none⟩)))(hy:ev E y=some u)
  (hk:ch Γ k=some (own S' s enc v l)) (he:∀x,(enc x).length=s) (hi:l[i]?=some e) (hus:u.cells.toList=enc e') (h1:(enc e').all (·.oneCell')=true)
  :MS P N w0 M H E Γ R ⟨none,.store S x y,T,ps,af,none⟩ (X:=Unit) (fun _=>True) (fun _=>undef) (fun _=>(k,own S' s enc v (l.set i e'))::Γ) (fun _=>R):=
 pF (o:=0) (us:=enc e') ht hx hy hus (he e') h1 hk he hi (by rw [he];omega) (by
  have h1:=he e;have h2:=he e';simp [h2,←h1])
theorem K6{X:Type}{φ:X→Prop}{v:X→Value}{Γ' R':X→eD}{ops:Array Oper}{rest:List Oper}{T:TypeId}{ps:String}{af:Array Edge}{op:Op}(h:MS P N w0 M H E Γ R ⟨none,op,T,ps,af,none⟩ φ v Γ' R')
  (k:∀x,φ x→At N w0 M H E (Γ' x) (R' x) (wpList P ops Q rest)):At N w0 M H E Γ R (wpList P ops Q (⟨none,op,T,ps,af,none⟩::rest)):=by
 intro a w hE hC;unfold wpList;rw [aj (by simp [Region.wanted])];left;exact h a w hE hC _ _ fun x w' h1 h2=>k x h1 _ _ hE h2
theorem th{α:Type}{S S':TypeId}{D:TypeDesc}{z:Value}{s bb:Nat}{x y:Operand}{u v:Value}{k i:Nat}{enc:α→List Value}{l:List α}{e e':α}(ht:TI P S D z s bb)(hx:ev E x=some (.pointer (some ⟨kg v,lM v+i*s,none⟩)))(hy:ev E y=some u)
  (hk:ch Γ k=some (own S' s enc v l)) (he:∀x,(enc x).length=s) (hi:l[i]?=some e) (hus:u.cells.toList=enc e') (h1:(enc e').all (·.oneCell')=true)
  (kk:At N w0 M H E ((k,own S' s enc v (l.set i e'))::Γ) R (wpList P ops Q rest)):At N w0 M H E Γ R (wpList P ops Q (⟨none,.store S x y,T,ps,af,none⟩::rest)):=
 K6 (jp ht hx hy hk he hi hus h1) fun _ _=>kk
theorem tj{b:Bool}{u v:Value}(hb:b=true):(bif b then u else v)=u:=by rw [hb];rfl
theorem FW{b:Bool}{u v:Value}(hb:b=false):(bif b then u else v)=v:=by rw [hb];rfl
end
section
variable{P:Program}{N:Nat}{w0:World}{M H:Nat→Prop}{E:ft}{Γ R:eD}{Q:Exit→Act→World→Prop}
end
section
variable{P:Program}{N:Nat}{w0:World}{M H:Nat→Prop}{E:ft}{Γ R:eD}
theorem bT{l:List Oper}{V:eg}{i d gi t:Nat}{c b:Bool}{v:Value}{op:Op}{T:TypeId}{ps:String}{af:Array Edge}(Eg:ft)(ho:l[i]?=some ⟨some d,op,T,ps,af,some (gi,c)⟩)(hi:kV l gi=some t)(ht:eM (vpre (fi ⟨some d,op,T,ps,af,some (gi,c)⟩) V++E) t=some (.bool b))
  (hgs:GS (vpre (fi ⟨some d,op,T,ps,af,some (gi,c)⟩) V++E) (gb c b) Eg) (h:gb c b=true→PR P N w0 M H (Eg++(vpre (fi ⟨some d,op,T,ps,af,some (gi,c)⟩) V++E)) Γ R op v):OV P N w0 M H E Γ R l V i d (gv (gb c b) v):=
 ⟨_,ho,rfl,fun a w hE hC=>by
  have hyd:=hE.yield hi ht;cases hg:gb c b with
  | true=>
   have hbc:b=c:=by cases b<;>cases c<;>simp_all [gb]
   exact .inl ⟨by simp [Region.wanted,hyd,hbc],h hg _ _ _ a w (hE.gs hg hgs) hC _ _⟩
  | false=>
   have hbc:b≠c:=by cases b<;>cases c<;>simp_all [gb]
   exact .inr ⟨by simp [Region.wanted,hyd,hbc],rfl⟩⟩
end
section
variable{P:Program}{N:Nat}{w0:World}{M H:Nat→Prop}{E:ft}{Γ R:eD}
variable{d:Nat}{ops:Array Oper}{rest:List Oper}{Q:Exit→Act→World→Prop}{T:TypeId}{ps:String}{af:Array Edge}
theorem vO{α:Type}{enc:α→List Value}{s:Nat}(he:∀x,(enc x).length=s):∀l:List α,(l.flatMap enc).length=l.length*s
 | []=>by simp
 | a::l=>by simp [vO he l,he a,Nat.succ_mul,Nat.add_comm]
theorem Eu{α:Type}{enc:α→List Value}{s:Nat}(he:∀x,(enc x).length=s){l:List α}{j q:Nat}{u:Value}(hj:j≤l.length)(h:((l.drop j).flatMap enc)[q]?=some u):(l.flatMap enc)[j*s+q]?=some u:=by
 have e:l.flatMap enc=(l.take j).flatMap enc++(l.drop j).flatMap enc:=by rw [←List.flatMap_append,List.take_append_drop]
 have hl:((l.take j).flatMap enc).length=j*s:=by rw [vO he,List.length_take,Nat.min_eq_left hj]
 rw [e,List.getElem?_append_right (by omega),hl,show j*s+q-j*s=q by omega];exact h
theorem yS{α:Type}{S U:TypeId}{D:TypeDesc}{z:Value}{s bb j:Nat}{enc:α→List Value}{x y:Operand}{k:IntKind}{i:Int}{v:Value}{l:List α}(r m:Nat)(hS:P.underlying S=some (.slice U))(hU:TI P U D z s bb)(he:∀x,(enc x).length=s)(hx:ev E x=some v)(hy:ev E y=some (.int k i))(hi:i=(j:Int))(hj:j≤l.length)(hr:ch R r=some (sl s enc v l)):
  MS P N w0 M H E Γ R ⟨some d,.slice S x (some y) none none,T,ps,af,none⟩ (X:=SV) (fun _=>True) (fun v'=>sv v') (fun _=>Γ) (fun v'=>(m,sl s enc (sv v') (l.drop j))::R):=by
 subst hi;refine i_ fun a w hE hC=> ?_
 obtain⟨G,⟨c,h1,h2,h3⟩,_⟩:=hC.reads (.inr hr);rcases h3 with⟨rfl,_,rfl⟩|⟨b,o,rfl,hb,hc⟩
 ·have hj0:j=0:=by simpa using hj
  subst hj0;refine⟨bc,w,O,?_,?_⟩
  ·simp [execOp,hE.ev hx,hE.ev hy,Instr.sliceAt,Instr.slice,run_underlying hS,Instr.sliceBounds,Instr.sliceBound,asIntOf,hU.sizeOf,sv,bc]
  ·simpa [sv,bc]using hC.nil (r:=m) (s:=s) (enc:=enc)
 ·refine⟨⟨some ⟨b,if c=j then o else o+j*s,none⟩,l.length-j,c-j⟩,w,O,?_,?_⟩
  ·have hjc:(j:Int)≤l.length:=by omega
   by_cases hcj:c=j
   ·simp [execOp,hE.ev hx,hE.ev hy,Instr.sliceAt,Instr.slice,run_underlying hS,Instr.sliceBounds,Instr.sliceBound,asIntOf,hU.sizeOf,sv,hjc,c8,hcj];exact fun h=>absurd h (by omega)
   ·simp [execOp,hE.ev hx,hE.ev hy,Instr.sliceAt,Instr.slice,run_underlying hS,Instr.sliceBounds,Instr.sliceBound,asIntOf,hU.sizeOf,sv,hjc,c8,hcj];exact fun h=>absurd h (by omega)
  ·refine hC.more (k:=r) hr fun G hG hlt=> ?_
   obtain⟨c',h1',h2',h3'⟩:=hG;rcases h3' with⟨_,_,hv⟩|⟨b',o',hv,hb',hc'⟩
   ·simp at hv
   ·simp only [Value.slice.injEq,Option.some.injEq,Addr.mk.injEq,and_true,true_and]at hv;obtain⟨⟨rfl,rfl⟩,rfl⟩:=hv;refine⟨G,⟨c-j,by rw [List.length_drop];omega,by omega,.inr ⟨b,if c=j then o else o+j*s,by simp [sv],hb',fun q u hq=> ?_⟩⟩,fun b hb=>hb⟩;by_cases hcj:c=j
    ·have:l.drop j= []:=List.drop_eq_nil_of_le (by omega);rw [this]at hq;simp at hq
    ·rw [ac hcj,Nat.add_assoc];exact hc' _ u (Eu he hj hq)
theorem Av{α:Type}{S U:TypeId}{D:TypeDesc}{z:Value}{s bb j:Nat}{enc:α→List Value}{x y:Operand}{k:IntKind}{i:Int}{v:Value}{l:List α}(r m:Nat)(hS:P.underlying S=some (.slice U))(hU:TI P U D z s bb)(he:∀x,(enc x).length=s)(hx:ev E x=some v)(hy:ev E y=some (.int k i))(hi:i=(j:Int))(hj:j≤l.length)(hr:ch R r=some (sl s enc v l))(hd:Nat.blt d N=true)
  (kk:∀v':SV,At N w0 M H ((d,sv v')::E) Γ ((m,sl s enc (sv v') (l.drop j))::R) (wpList P ops Q rest)):At N w0 M H E Γ R (wpList P ops Q (⟨some d,.slice S x (some y) none none,T,ps,af,none⟩::rest)):=
 D3 (yS r m hS hU he hx hy hi hj hr) hd fun v' _=>kk v'
theorem Spec.ro1{P:Program}{n:Nat}{vs:List Value}{A B:Asn}{X:Type}{φ:X→Prop}{v:X→Value}{L' R':X→List Asn}(h:Spec P n vs [] [A] φ v L' R')(hAB:∀w G,B.pred w G→A.pred w G):Spec P n vs [] [B] φ v L' R':=fun w M H ⟨F,hF⟩=>
 h w M H ⟨F,hF.touch,hF.has,hF.lt,hF.mine,hF.apart,fun k C hk=>by
  cases k with
  | zero=>
   obtain⟨G,h1,h2⟩:=hF.ro 0 B J;simp at hk;subst hk;exact⟨G,hAB _ _ h1,h2⟩
  | succ k=>simp at hk⟩
end
section
variable{P:Program}{N:Nat}{w0:World}{M H:Nat→Prop}{E:ft}{Γ R:eD}{Q:Exit→Act→World→Prop}
def Nx(P:Program)(N:Nat)(w0:World)(M H:Nat→Prop)(E:ft)(Γ R:eD)(l:List Oper)(Q:Exit→Act→World→Prop)(V:eg)(C:List Nat)(c:Nat):Prop:=
 ∀ord D a w o,l[c]?=some o→D c=false→(∀j∈fi o,D j=true)→Ord l (fun j=>bif Nat.beq j c then true else D j) ord→StI N w0 M H E Γ R l V C D a w→wpOps P l.toArray Q (c::ord) a w
def NxAll(P:Program)(N:Nat)(w0:World)(M H:Nat→Prop)(E:ft)(Γ R:eD)(l:List Oper)(Q:Exit→Act→World→Prop)(V:eg)(C:List Nat):List Nat→Prop
 | []=>True
 | c::cs=>Nx P N w0 M H E Γ R l Q V C c∧NxAll P N w0 M H E Γ R l Q V C cs
theorem NxAll.get{l:List Oper}{V:eg}{C:List Nat}:∀{cs:List Nat},NxAll P N w0 M H E Γ R l Q V C cs→∀c∈cs,Nx P N w0 M H E Γ R l Q V C c
 | [],_,c,h=>by simp at h
 | d::cs,hp,c,h=>by
  rcases List.mem_cons.1 h with rfl|h
  ·exact hp.1
  ·exact hp.2.get c h
theorem ld{l:List Oper}{V:eg}{C:List Nat}:NxAll P N w0 M H E Γ R l Q V C []:=trivial
theorem ea{l:List Oper}{V:eg}{C:List Nat}{c:Nat}{cs:List Nat}(h:Nx P N w0 M H E Γ R l Q V C c)(hs:NxAll P N w0 M H E Γ R l Q V C cs):NxAll P N w0 M H E Γ R l Q V C (c::cs):=⟨h,hs⟩
def Ob(l:List Oper)(I:List Nat)(cs:List Nat):Bool:=
 (List.range l.length).all fun i=>I.any (Nat.beq i) || sj cs i || (match l[i]? with|some o=>(fi o).any (fun j=> !(I.any (Nat.beq j)))|none=>true)
theorem hQ{l:List Oper}{V:eg}{C:List Nat}(is:List Nat){I:eg}(hI0:kb is V=I)(hst:yj N E V=true)(hI:PRs P N w0 M H E Γ R l V I)(hcov:v_ V is C=true)(cs:List Nat)
  (hcls:Ob l (fg V++C) cs=true) (hne:(match cs with|c::_=>Nat.blt c l.length&& !(sj (fg V++C) c)|[]=>false)=true) (hmem:NxAll P N w0 M H E Γ R l Q V C cs):
  Ip P N w0 M H E Γ R l Q V C:=by
 obtain⟨h1,h2,h3,h4⟩:=s7 hst;intro ord
 induction ord with
 | nil=>
  intro D a w ho hS;cases ho with
  | nil h=>
   cases cs with
   | nil=>cases hne
   | cons c cs=>
    simp only [Bool.and_eq_true,Bool.not_eq_true']at hne;have:=fT (hS.done c (h c (by simpa using hne.1)));rw [this]at hne;cases hne.2
 | cons i ord ih=>
  intro D a w ho hS;cases ho with
  | cons hio hD hpr hrest=>
   have hi:i<l.length:=(cU.1 hio).1;have hc:=List.all_eq_true.1 hcls i (by simpa using hi);simp only [hio,Bool.or_eq_true]at hc;rcases hc with(hc|hc)|hc
   ·have hiV:i∈fg V:=by
     rcases List.mem_append.1 (gz hc:i∈fg V++C)with h|h
     ·exact h
     ·have:=hS.sure i h;rw [hD]at this;cases this
    have hcv:=List.all_eq_true.1 hcov i hiV;simp only [Bool.or_eq_true]at hcv;rcases hcv with hcv|hcv
    ·obtain⟨d,v,hm⟩:=qD hiV (gz hcv);exact yh h1 h2 h3 h4 (mZ hm) ((hI0▸hI:PRs P N w0 M H E Γ R l V (kb is V)).get i d v hm) hio hpr hS fun a' hS'=>ih _ a' w hrest hS'
    ·have:=hS.sure i (gz hcv);rw [hD]at this;cases this
   ·exact hmem.get i (gz hc) ord D a w _ hio hD hpr hrest hS
   ·obtain⟨j,hj,hjn⟩:=List.any_eq_true.1 hc;have hjV:=fT (hS.done j (hpr j hj));rw [sj]at hjV;rw [hjV]at hjn;simp at hjn
theorem fy{l:List Oper}{V:eg}{C:List Nat}(c:Nat)(C' Jx:List Nat){X:Type}{φ:X→Prop}{v:X→Value}{Γ' R':X→eD}{d:Nat}{o:Oper}(J':X→eg)
  (ho:l[c]?=some o) (hdst:o.dst=some d) (hgd:o.guard=none) (hd:Nat.blt d N=true) (hdE:eM E d=none) (hdV:sj (g8 V) d=false) (hcV:sj (fg V++C) c=false)
  (hcl:Bu l C c [] C'=true) (hCC0:C.all (sj C')=true) (hJ:∀x,φ x→fg (J' x)=Jx) (hJx:Jx.all (fun j=> !(sj (fg V++C) j)&& !(Nat.beq j c))=true) (hms:MS P N w0 M H (vpre (fi o) V++E) Γ R o φ v Γ' R')
  (k:∀x,φ x→Ip P N w0 M H E (Γ' x) (R' x) l Q (J' x++(c,d,v x)::V) C'):Nx P N w0 M H E Γ R l Q V C c:=by
 have hCC:∀j∈C,j∈C':=fun j hj=>gz (List.all_eq_true.1 hCC0 j hj)
 intro ord D a w o' hio hDk hpr hrest hS;rw [ho]at hio;injection hio with hio;subst hio;have ho':l.toArray[c]?=some o:=by simpa using ho
 simp only [wpOps,ho'];rw [aj (by simp [Region.wanted,hgd])];left;have hEp:EOk N (vpre (fi o) V++E) a:=hS.base.vpre fun j d v hj hjp=>hS.vals j d v hj (hpr j hjp)
 have hlt:d<a.tmps.size:=Nat.lt_of_lt_of_le (by simpa using hd) hS.base.size;refine hms a w hEp hS.ok _ _ fun x w' hφ hC'=> ?_
 rw [hdst];have hclosed:∀(j:Nat)(o':Oper),l[j]?=some o'→(bif Nat.beq j c then true else D j)=true→∀k∈fi o',(bif Nat.beq k c then true else D k)=true:=by
  intro j o' hoj hj q hq;cases hb:Nat.beq j c with
  | true=>
   have:=cW hb;subst this;rw [ho]at hoj;injection hoj with hoj;subst hoj;simp [hpr q hq]
  | false=>rw [hb]at hj;simp [hS.closed j o' hoj hj q hq]
 refine k x hφ ord _ _ w' hrest ⟨fun j hj=> ?_,lB (fun i hi=>by simp [hS.sure i hi]) (by simp) hclosed C' [] hcl (fun s hs=>by simp at hs),hclosed,⟨hS.base.defers,by simpa [Act.put]using hS.base.size,fun t u ht=> ?_⟩,fun j e u hj hjD=> ?_,hC'⟩
 ·rw [oX];show j∈fg (J' x)++(c::fg V)++C';cases hb:Nat.beq j c with
  | true=>rw [cW hb];simp
  | false=>
   rw [hb]at hj;rcases List.mem_append.1 (hS.done j hj)with h|h
   ·simp [h]
   ·have:=hCC j h;simp [this]
 ·simp only [Act.put,Array.getElem?_setIfInBounds];have hne:d≠t:=fun e=>by subst e;rw [hdE]at ht;cases ht
  rw [ac hne];exact hS.base.slot t u ht
 ·simp only [Act.put,Array.getElem?_setIfInBounds];rcases List.mem_append.1 hj with hj|hj
  ·exfalso;have hjx:j∈Jx:=by rw [←hJ x hφ];exact gd.2 ⟨e,u,hj⟩
   have h6:=List.all_eq_true.1 hJx j hjx;simp only [Bool.and_eq_true,Bool.not_eq_true']at h6;rw [h6.2]at hjD;have:=fT (hS.done j hjD);rw [this]at h6;simp at h6
  ·rcases List.mem_cons.1 hj with e'|e'
   ·cases e';simp [hlt]
   ·have hne:d≠e:=fun h=>by
     subst h;rw [fT (iv e')]at hdV;cases hdV
    rw [ac hne];cases hb:Nat.beq j c with
    | true=>
     have:=cW hb;subst this;rw [fT (List.mem_append_left _ (gd.2 ⟨e,u,e'⟩))]at hcV;cases hcV
    | false=>rw [hb]at hjD;exact hS.vals j e u e' hjD
/-! ### Sub-slices -/
def JZ(x:SV)(j:Nat):SV:=⟨x.a,j,x.c⟩
theorem lP{α:Type}{S U:TypeId}{D:TypeDesc}{z:Value}{s bb j:Nat}{enc:α→List Value}{x y:Operand}{k:IntKind}{i:Int}{v:SV}{l:List α}(hS:P.underlying S=some (.slice U))(hU:TI P U D z s bb)(hx:ev E x=some (sv v))(hy:ev E y=some (.int k i))(hs:HasSl Γ R s enc (sv v) l)(hi:i=(j:Int))(hj:j≤l.length):PR P N w0 M H E Γ R (.slice S x none (some y) none) (sv (JZ v j)):=
 fun _ _ _ a w hE hC _ _=>by
  subst hi;obtain⟨G,c,h1,h2,h3⟩:=hs.ok hC;obtain⟨va,vn,vc⟩:=v;rcases h3 with⟨rfl,_,hv⟩|⟨b,o,hv,_,_⟩
  ·simp [sv]at hv;obtain⟨rfl,rfl,rfl⟩:=hv;have hj0:j=0:=by simpa using hj
   subst hj0;simp [execOp,hE.ev hx,hE.ev hy,Instr.sliceAt,Instr.slice,run_underlying hS,Instr.sliceBounds,Instr.sliceBound,asIntOf,hU.sizeOf,sv,JZ]
  ·simp [sv]at hv;obtain⟨rfl,rfl,rfl⟩:=hv;have hjc:(j:Int)≤vc:=by omega
   simp [execOp,hE.ev hx,hE.ev hy,Instr.sliceAt,Instr.slice,run_underlying hS,Instr.sliceBounds,Instr.sliceBound,asIntOf,hU.sizeOf,sv,hjc,c8,JZ];intro h;omega
theorem K3{α:Type}{s j:Nat}{enc:α→List Value}{v:SV}{l:List α}(hj:j≤l.length){w:World}{G:Nat→Prop}(h:uu w G s enc (sv v) l):uu w G s enc (sv (JZ v j)) (l.take j):=by
 obtain⟨c,h1,h2,h3⟩:=h;obtain⟨va,vn,vc⟩:=v;rcases h3 with⟨rfl,hn,hv⟩|⟨b,o,hv,hb,hc⟩
 ·simp [sv]at hv;obtain⟨rfl,rfl,rfl⟩:=hv;have hj0:j=0:=by simpa using hj
  subst hj0;exact⟨0,by simp,by unfold maxLen;omega,.inl ⟨by simp,hn,by simp [JZ,sv]⟩⟩
 ·simp [sv]at hv;obtain⟨rfl,rfl,rfl⟩:=hv;refine⟨vc,by rw [List.length_take];omega,h2,.inr ⟨b,o,by simp [sv,JZ,Nat.min_eq_left hj],hb,fun q u hq=>hc q u ?_⟩⟩;have:l.flatMap enc=(l.take j).flatMap enc++(l.drop j).flatMap enc:=by rw [←List.flatMap_append,List.take_append_drop]
  rw [this,List.getElem?_append_left (cU.1 hq).1];exact hq
theorem PB{α:Type}(r m j:Nat){s:Nat}{enc:α→List Value}{v:SV}{l:List α}{Rel:Act→World→Prop}(hr:ch R r=some (sl s enc (sv v) l))(hj:j≤l.length)(h:At N w0 M H E Γ ((m,sl s enc (sv (JZ v j)) (l.take j))::R) Rel):At N w0 M H E Γ R Rel:=
 h.weak (fun _ h=>h) fun w hC=>hC.more hr fun G hG _=>⟨G,K3 (s:=s) hj hG,fun _ hb=>hb⟩
end
section
variable{P:Program}{N:Nat}{w0:World}{M H:Nat→Prop}{E:ft}{Γ R:eD}{Q:Exit→Act→World→Prop}
variable{ops:Array Oper}{rest:List Oper}{T:TypeId}{ps:String}{af:Array Edge}{d:Nat}{op:Op}
def SlS{α:Type}(w0:World)(M H:Nat→Prop)(Γ R:eD)(s:Nat)(enc:α→List Value)(v:Value)(l:List α):Prop:=∀w,COk w0 M H Γ R w→∃G,uu w G s enc v l
theorem SlS.of{α:Type}{s:Nat}{enc:α→List Value}{v:Value}{l:List α}(h:HasSl Γ R s enc v l):SlS w0 M H Γ R s enc v l:=fun _ hC=>h.ok hC
theorem SlS.hi{α:Type}{s j:Nat}{enc:α→List Value}{v:SV}{l:List α}(h:SlS w0 M H Γ R s enc (sv v) l)(hj:j≤l.length):SlS w0 M H Γ R s enc (sv (JZ v j)) (l.take j):=fun w hC=>
 let⟨G,hG⟩:=h w hC
 ⟨G,K3 hj hG⟩
theorem F6{α:Type}{U s:Nat}{enc:α→List Value}{v:Value}{l:List α}:∀(w:World)(G:Nat→Prop),(own U s enc v l).pred w G→(own U s enc v l).pred w G:=fun _ _ h=>h
theorem D6{α:Type}{S U:TypeId}{D:TypeDesc}{z:Value}{s bb:Nat}{enc:α→List Value}{x y:Operand}{v v2 v0:Value}{l l2 l0:List α}(k:Nat)(hS:P.underlying S=some (.slice U))(hU:TI P U D z s bb)(hzs:z.cells.size=s)(hs0:0<s)(he:∀x,(enc x).length=s)(h1:∀x,(enc x).all (·.oneCell')=true)
  (hx:ev E x=some v) (hy:ev E y=some v2) (hk:ch Γ k=some (own U s enc v0 l0)) (hown:∀w G,(own U s enc v0 l0).pred w G→(own U s enc v l).pred w G) (h2:SlS w0 M H Γ R s enc v2 l2) (hm:(l.length+l2.length)*bb≤140737488355328) (hm':l.length+l2.length≤maxLen)
  (hd:Nat.blt d N=true) (kk:∀v':SV,At N w0 M H ((d,sv v')::E) ((k,own U s enc (sv v') (l++l2))::Γ) R (wpList P ops Q rest)):At N w0 M H E Γ R (wpList P ops Q (⟨some d,.call {callee:= .builtin .append,args:= #[x,y],argTypes:= #[S,S]},T,ps,af,none⟩::rest)):=by
 refine ti (X:=SV) (fun _=>True) (fun v'=>sv v') (fun v'=>(k,own U s enc (sv v') (l++l2))::Γ) (fun _=>R) hd (fun a w hE hC=> ?_) fun v' _=>kk v'
 obtain⟨G0,hp00,hlt0⟩:=hC.reads (.inl hk);have hp0:=hown _ _ hp00;obtain⟨G2,c,h3,h4,h5⟩:=h2 w hC;obtain⟨i,i1,i2,i3,i4⟩:=hU.info;have hfl:∀l':List α,(l'.flatMap enc).length=l'.length*s:=fq he;rcases h5 with⟨rfl,_,rfl⟩|⟨b2,o2,rfl,_,hc2⟩
 ·obtain⟨xv,rfl⟩:=fS hp0.2;refine⟨xv,w,O,?_,?_⟩
  ·have hr:=run_append_owned_none (P:=P) w 0 S T U i s hS i1 (sv xv) l.length _ hp0.2;simp [execOp,resolve,invoke,builtin,hE.ev hx,hE.ev hy,hr]
  ·simp only [List.append_nil];exact hC.upd hk fun G hG0 hGlt=>⟨G,hown _ _ hG0,fun b hb=>⟨hGlt b hb,fun _=>hb⟩,Touch.refl _ _⟩
 ·obtain⟨v',w',hr,ho,hg,hn⟩:=run_append_own (P:=P) w 0 S T U i z s bb hS i1 i2 i3 i4 hzs hs0 v l.length _ hp0.2 ⟨b2,o2,none⟩ l2.length c (l2.flatMap enc) (hfl l2)
   (fun j u hj=>by rw [c8];exact hc2 j u hj) (fun u hu=>by obtain⟨x,_,hxu⟩:=List.mem_flatMap.1 hu;simpa using List.all_eq_true.1 (h1 x) u hxu) hm' hm (bn _)
  obtain⟨xv,rfl⟩:=fS ho;refine⟨xv,w',O,?_,?_⟩
  ·simp [execOp,resolve,invoke,builtin,hE.ev hx,hE.ev hy,hr]
  ·refine hC.upd hk fun G hG0 hGlt=>by
    have hG:=hown _ _ hG0;refine⟨fun b=>(sv xv).ownBlock=some b,⟨fun x=>Iff.rfl,?_⟩,fun b hb=>⟨(ho.lt b hb).2,fun hlt=> ?_⟩,⟨hg.os,hg.tape,hg.output,hg.size,fun i hi hne=>hg.block i hi (fun e=>hne ((hG.1 i).2 e.symm))⟩⟩
    ·rw [bD,List.flatMap_append];exact ho
    ·rcases hp0.2.2 with⟨rfl,hl0⟩|⟨g,cap,cur,rfl,hbg,hgg,hnc,hcm,hcs,htake⟩
     ·exfalso;have hl:l= []:=List.eq_nil_of_length_eq_zero hl0;subst hl;by_cases hz:l2.length=0
      ·have hl2:l2= []:=List.eq_nil_of_length_eq_zero hz;subst hl2;have:=(hn.2 ⟨J,J⟩)
       rw [this]at hb;simp [Value.ownBlock]at hb
      ·have hr2:=run_append_nil (P:=P) w S T U i z hS i1 i2 ⟨b2,o2,none⟩ l2.length c (l2.flatMap enc) (by rw [hfl,i3]) (fun j u hj=>by rw [c8];exact hc2 j u hj) (by simpa using Nat.pos_of_ne_zero hz) (by simp only [maxLen]at hm';simp at hm';omega) (by rw [i4];simp at hm;omega);rw [hr2]at hr;injection hr with hr3 hr4;replace hb:(sv xv).ownBlock=some b:=hb;rw [←hr3]at hb;simp [Value.ownBlock]at hb;omega
     ·by_cases hroom:l.length+l2.length≤cap
      ·have hfit:l.length*i.size+(l2.flatMap enc).length≤cur.size:=by rw [hfl,hcs,i3,←Nat.add_mul];exact Nat.mul_le_mul_right _ hroom
       have hr2:=run_append_room (P:=P) w S T U i hS i1 g l.length cap cur hgg ⟨b2,o2,none⟩ l2.length c (l2.flatMap enc) (by rw [hfl,i3]) (fun j u hj=>by rw [c8];exact hc2 j u hj) (fun u hu=>by obtain⟨x,_,hxu⟩:=List.mem_flatMap.1 hu;simpa using List.all_eq_true.1 (h1 x) u hxu) hroom hfit;rw [hr2]at hr;injection hr with hr3 hr4;replace hb:(sv xv).ownBlock=some b:=hb;rw [←hr3]at hb;simp [Value.ownBlock]at hb;subst hb;exact(hG.1 g).2 J
      ·exfalso;have holds:=hp0.2.cells (g:=g) J;have hr2:=run_append_grow (P:=P) w S T U i z hS i1 i2 ⟨g,0,none⟩ l.length cap (l.flatMap enc) (by rw [hfl,i3]) holds ⟨b2,o2,none⟩ l2.length c (l2.flatMap enc) (by rw [hfl,i3]) (fun j u hj=>by rw [c8];exact hc2 j u hj) (by omega) (by simp only [maxLen]at hm';omega) (growslice_fits (by omega) (by rw [i4];exact hm));rw [hr2]at hr;injection hr with hr3 hr4;replace hb:(sv xv).ownBlock=some b:=hb;rw [←hr3]at hb;simp [Value.ownBlock]at hb;omega
end
section
variable{P:Program}{N:Nat}{w0:World}{M H:Nat→Prop}{E:ft}{Γ R:eD}
theorem EOk.yield_u{a:Act}(h:EOk N E a){l:List Oper}{i t:Nat}(hi:kV l i=some t)(ht:eM E t=some undef):yielded l.toArray a.tmps i=none:=by
 unfold yielded;have:(l.toArray[i]?).bind (·.dst)=some t:=by simpa [kV]using hi
 rw [this];simp [h.slot t _ ht,undef]
end
section
variable{P:Program}{N:Nat}{w0:World}{M H:Nat→Prop}{E:ft}{Γ R:eD}{Q:Exit→Act→World→Prop}
variable{ops:Array Oper}{rest:List Oper}{T:TypeId}{ps:String}{af:Array Edge}{d:Nat}{op:Op}
theorem Jh{k:Nat}{A:Asn}{Rel:Act→World→Prop}{φ:Prop}(hk:ch Γ k=some A)(hA:∀w G,A.pred w G→φ)(h:φ→At N w0 M H E Γ R Rel):At N w0 M H E Γ R Rel:=fun a w hE hC=>by
 obtain⟨G,h1,_⟩:=hC.reads (.inl hk);exact h (hA w G h1) a w hE hC
end
section
variable{P:Program}{N:Nat}{w0:World}{M H:Nat→Prop}{E:ft}{Γ R:eD}
theorem nn{α:Type}{S U:TypeId}{D:TypeDesc}{z:Value}{s bb j:Nat}{x y:Operand}{k:IntKind}{i:Int}{enc:α→List Value}{v:Value}{l:List α}(hS:P.underlying S=some (.slice U))(hU:TI P U D z s bb)(hx:ev E x=some v)(hy:ev E y=some (.int k i))(hs:SlS w0 M H Γ R s enc v l)(hi:i=(j:Int))(hj:j<l.length):
  PR P N w0 M H E Γ R (.indexAddr S x y) (.pointer (some ⟨kg v,lM v+j*s,none⟩)):=fun _ _ _ a w hE hC _ _=>by
 obtain⟨G,c,h1,h2,h3⟩:=hs w hC;rcases h3 with⟨rfl,_⟩|⟨b,o,rfl,_,_⟩
 ·simp at hj
 ·subst hi;simp [execOp,hE.ev hx,hE.ev hy,Instr.indexAt,asIntOf,run_underlying hS,hU.sizeOf,c8,hj,kg,lM]
theorem G7{α:Type}{s:Nat}{enc:α→List Value}{v:Value}{l:List α}(h:SlS w0 M H Γ R s enc v l)(he:∀x,(enc x).length=s){i o:Nat}{x:α}(hx:l[i]?=some x){us:List Value}(hu:((enc x).drop o).take us.length=us):
  Gives w0 M H Γ R (kg v) (lM v+i*s+o) us:=by
 intro w hC j u hj;obtain⟨G,c,h1,h2,h3⟩:=h w hC;rcases h3 with⟨rfl,_⟩|⟨b,o',rfl,_,hc⟩
 ·simp at hx
 ·simp only [kg,lM];have hxu:(enc x)[o+j]?=some u:=by
   rw [←hu,List.getElem?_take]at hj;split at hj
   ·simpa using hj
   ·cases hj
  have:=hc _ u (oI he l i (o+j) x u hx hxu)
  rwa [show o'+(i*s+(o+j))=o'+i*s+o+j by omega]at this
theorem Qt{α:Type}{s:Nat}{enc:α→List Value}{v:Value}{l:List α}(h:SlS w0 M H Γ R s enc v l)(he:∀x,(enc x).length=s){i:Nat}{x:α}(hx:l[i]?=some x):
  Gives w0 M H Γ R (kg v) (lM v+i*s) (enc x):=by
 have:=G7 (w0:=w0) (M:=M) (H:=H) h he (o:=0) hx (us:=enc x) (by simp);simpa using this
theorem A1{α:Type}{s:Nat}{enc:α→List Value}{v:Value}{l:List α}(h:SlS w0 M H Γ R s enc v l)(he:∀x,(enc x).length=s){i:Nat}{x:α}(hx:l[i]?=some x){us:List Value}(hu:enc x=us):Gives w0 M H Γ R (kg v) (lM v+i*s) us:=hu▸Qt h he hx
end
section
variable{P:Program}{N:Nat}{w0:World}{M H:Nat→Prop}{E:ft}{Γ R:eD}{Q:Exit→Act→World→Prop}
end
section
end
end Go.Proofs.YtedmdgbmdplifaaGreat
namespace Go.Proofs.YtedmdgbmdplifaaGreat
set_option linter.unusedSectionVars false
open Go.RowKit
/-! ### Plain lists by key -/
section
variable{α κ:Type} [DecidableEq κ]
def Bc(kf:α→κ)(vf:α→Value)(k:κ):List (α×Nat)→Nat→Option (Nat×Value)
  | [],_=>none
  | m::r,i=>if kf m.1=k then some (i,vf m.1)else Bc kf vf k r (i+1)
theorem tW{kf:α→κ}{vf:α→Value}{k:κ}:∀{ms:List (α×Nat)}{i:Nat},Bc kf vf k ms i=none→∀m∈ms,kf m.1≠k
  | [],_,_,m,hm=>by simp at hm
  | m0::r,i,h,m,hm=>by
    simp only [Bc]at h;by_cases e:kf m0.1=k
    · rw [aj e]at h;cases h
    · rw [ac e]at h;rcases List.mem_cons.1 hm with rfl|hm
      · exact e
      · exact tW h m hm
theorem tV{kf:α→κ}{vf:α→Value}{k:κ}:∀{ms:List (α×Nat)}{i j:Nat}{v:Value},Bc kf vf k ms i=some (j,v)→i≤j∧∃m,ms[j-i]?=some m∧kf m.1=k∧v=vf m.1
  | [],_,_,_,h=>by cases h
  | m0::r,i,j,v,h=>by
    simp only [Bc]at h;by_cases e:kf m0.1=k
    · rw [aj e]at h;simp at h;obtain⟨rfl,rfl⟩:=h;exact⟨bU _,m0,by simp,e,rfl⟩
    · rw [ac e]at h;obtain⟨h1,m,h2,h3,h4⟩:=tV h;refine⟨by omega,m,?_,h3,h4⟩;rw [show j-i=(j-(i+1))+1 by omega];simpa using h2
structure MW(kf:α→κ)(ms:List (α×Nat))(clk:Nat):Prop where
  keys:(ms.map fun m=>kf m.1).Nodup
  born:(ms.map (·.2)).Nodup
  lt:∀m∈ms,m.2<clk
def kY(mk:κ→Value)(kf:α→κ)(vf:α→Value)(m:α×Nat):MapEntry:={key:=mk (kf m.1),val:=vf m.1,born:=m.2}
structure KeyLaw(P:Program)(kt:TypeId)(mk:κ→Value):Prop where
  check:∀(b:Bool)(k:κ)(w:World),(Instr.checkKey b 10000 kt (mk k)).run P w= .ok () w
  find:∀{α:Type}(kf:α→κ)(vf:α→Value)(k:κ)(ms:List (α×Nat))(w:World),(Instr.findKey kt (mk k) (ms.map (kY mk kf vf))).run P w= .ok (Bc kf vf k ms 0) w
  stays:∀k:κ,Instr.sameBits 10000 (mk k) (mk k)=true
def UT(mk:κ→Value)(kf:α→κ)(vf:α→Value)(o:Option Nat)(ms:List (α×Nat))(clk:Nat):Asn:=
  ⟨fun w F=>MW kf ms clk∧(∀x,F x↔o=some x)∧(o=none→ms= [])∧∀b,o=some b→w.heap[b]?=some (.map (ms.map (kY mk kf vf)).toArray clk),
   fun⟨h0,h1,h2,h3⟩ hs=>⟨h0,h1,h2,fun b hb=>(hs b ((h1 b).2 hb)).trans (h3 b hb)⟩⟩
def mp(mk:κ→Value)(kf:α→κ)(vf:α→Value)(o:Option Nat)(L:List α):Asn:=
  ⟨fun w F=>∃ms clk,(ms.map (·.1)).Perm L∧(UT mk kf vf o ms clk).pred w F,fun⟨ms,clk,h1,h2⟩ hs=>⟨ms,clk,h1,(UT mk kf vf o ms clk).stable h2 hs⟩⟩
end
theorem MW.find{α κ:Type} [DecidableEq κ]{kf:α→κ}{ms:List (α×Nat)}{clk:Nat}(h:MW kf ms clk){L:List α}(hp:(ms.map (·.1)).Perm L){k:κ}{m:α×Nat}(hm:m∈ms)(hk:kf m.1=k):L.find? (fun a=>decide (kf a=k))=some m.1:=by
  have hmem:m.1∈L:=hp.mem_iff.1 (List.mem_map.2 ⟨m,hm,J⟩);have hnd:(L.map kf).Nodup:=by
    have:=(hp.map kf).nodup_iff.1 (by rw [List.map_map];exact h.keys);exact this
  cases hf:L.find? (fun a=>decide (kf a=k))with
  | none=>
    have:=List.find?_eq_none.1 hf m.1 hmem;simp [hk]at this
  | some a=>
    have h1:=List.find?_some hf;have h2:=List.mem_of_find?_eq_some hf;simp at h1;have:a=m.1:=by
      have hi:=List.getElem_of_mem h2;have hj:=List.getElem_of_mem hmem;obtain⟨i,hi,ei⟩:=hi;obtain⟨j,hj,ej⟩:=hj;have hp2:=List.pairwise_iff_getElem.1 hnd;rcases Nat.lt_trichotomy i j with hlt|he|hlt
      · have:=hp2 i j (by simpa using hi) (by simpa using hj) hlt;simp [ei,ej,h1,hk]at this
      · subst he;rw [←ei,←ej]
      · have:=hp2 j i (by simpa using hj) (by simpa using hi) hlt;simp [ei,ej,h1,hk]at this
    rw [this]
theorem MW.nofind{α κ:Type} [DecidableEq κ]{kf:α→κ}{ms:List (α×Nat)}{L:List α}(hp:(ms.map (·.1)).Perm L){k:κ}(hk:∀m∈ms,kf m.1≠k):L.find? (fun a=>decide (kf a=k))=none:=by
  refine List.find?_eq_none.2 fun a ha=> ?_
  obtain⟨m,hm,rfl⟩:=List.mem_map.1 (hp.mem_iff.2 ha);simpa using hk m hm
def Cn:Obj→Bool
  | .cells _ _ _=>false
  | _=>true
theorem lN{P:Program}{w:World}{r:Nat}{o:Obj}(h:w.heap[r]?=some o)(hn:Cn o=true):(getObj r).run P w= .ok o w:=by
  simp only [getObj,Sem.run,h];cases o<;>simp_all [Cn]
theorem ox{P:Program}{w:World}{r:Nat}{o:Obj}(h:w.heap[r]?=some o)(hn:Cn o=true)(o':Obj):(setObj r o').run P w= .ok () (Go.ChangeMaps.setBlock w r o'):=by
  simp only [setObj,Sem.run,h,Go.ChangeMaps.setBlock];cases o<;>simp_all [Cn]
theorem mE{w:World}{r:Nat}{o':Obj}{M:Nat→Prop}(hM:M r):Touch M w (Go.ChangeMaps.setBlock w r o'):=
  ⟨rfl,rfl,rfl,by simp [Go.ChangeMaps.setBlock],fun k hk hm=>by
    simp only [Go.ChangeMaps.setBlock,Array.getElem?_setIfInBounds];rw [ac (fun e:r=k=>hm (e▸hM))]⟩
theorem nW{w:World}{r:Nat}{o o':Obj}(h:w.heap[r]?=some o):(Go.ChangeMaps.setBlock w r o').heap[r]?=some o':=by
  have:=(Array.getElem?_eq_some_iff.1 h).1;simp [Go.ChangeMaps.setBlock,this]
theorem nV{w:World}{r:Nat}{o':Obj}:(Go.ChangeMaps.setBlock w r o').heap.size=w.heap.size:=by simp [Go.ChangeMaps.setBlock]
section
variable{P:Program}{N:Nat}{w0:World}{M H:Nat→Prop}{E:ft}{Γ R:eD}{Q:Exit→Act→World→Prop}
variable{ops:Array Oper}{rest:List Oper}{T:TypeId}{ps:String}{af:Array Edge}{d:Nat}{op:Op}
variable{α κ:Type} [DecidableEq κ]{mk:κ→Value}{kf:α→κ}{vf:α→Value}
def HasMp(Γ R:eD)(mk:κ→Value)(kf:α→κ)(vf:α→Value)(o:Option Nat)(L:List α):Prop:=(∃k,ch Γ k=some (mp mk kf vf o L))∨∃k,ch R k=some (mp mk kf vf o L)
theorem GN{k:Nat}{o:Option Nat}{L:List α}(h:ch Γ k=some (mp mk kf vf o L)):HasMp Γ R mk kf vf o L:= .inl ⟨k,h⟩
theorem vJ{k:Nat}{o:Option Nat}{L:List α}(h:ch R k=some (mp mk kf vf o L)):HasMp Γ R mk kf vf o L:= .inr ⟨k,h⟩
theorem HasMp.ok{o:Option Nat}{L:List α}(h:HasMp Γ R mk kf vf o L){w:World}(hC:COk w0 M H Γ R w):∃G,(mp mk kf vf o L).pred w G:=by
  rcases h with⟨k,hk⟩|⟨k,hk⟩
  · obtain⟨G,h1,_⟩:=hC.reads (.inl hk);exact⟨G,h1⟩
  · obtain⟨G,h1,_⟩:=hC.reads (.inr hk);exact⟨G,h1⟩
theorem AH{S:TypeId}(kf:α→κ)(mk:κ→Value)(vf:α→Value):MS P N w0 M H E Γ R ⟨some d,.makeMap S none,T,ps,af,none⟩ (X:=Nat) (fun _=>True) (fun b=> .map (some b)) (fun b=>(d,mp mk kf vf (some b) [])::Γ) (fun _=>R):=
  i_ fun a w hE hC=>⟨w.heap.size,w.alloc (.map #[] 0),trivial,by simp [execOp,Instr.makeMap,newObj,Sem.run],by
    refine hC.new (Touch.alloc _ _ _) ⟨fun x=>x=w.heap.size,⟨[],0,List.Perm.refl _,⟨by simp,by simp,by simp⟩,fun x=>by simp [eq_comm],by simp,fun b hb=> ?_⟩,fun b hb=>by subst hb;simp⟩;simp at hb;subst hb;exact(Go.MapKept.heap_alloc w _).1⟩
theorem ni{S:TypeId}(kf:α→κ)(mk:κ→Value)(vf:α→Value)(hd:Nat.blt d N=true)(kk:∀b,At N w0 M H ((d,.map (some b))::E) ((d,mp mk kf vf (some b) [])::Γ) R (wpList P ops Q rest)):
    At N w0 M H E Γ R (wpList P ops Q (⟨some d,.makeMap S none,T,ps,af,none⟩::rest)):=D3 (AH kf mk vf) hd fun b _=>kk b
theorem pn{S kt et:TypeId}{x y:Operand}{o:Option Nat}{k:κ}{L:List α}{r:Option α}{D:TypeDesc}{z:Value}{s bb:Nat}{ok:Bool}(hS:P.underlying S=some (.map kt et))(hK:KeyLaw P kt mk)(ht:TI P et D z s bb)(hx:ev E x=some (.map o))(hy:ev E y=some (mk k))(hm:HasMp Γ R mk kf vf o L)(hr:L.find? (fun a=>decide (kf a=k))=r):
    PR P N w0 M H E Γ R (.lookup S x y ok) (bif ok then .tuple #[(r.map vf).getD z,.bool r.isSome]else(r.map vf).getD z):=fun _ _ _ a w hE hC _ _=>by
  obtain⟨G,ms,clk,hp,hw,hF,hn,hb⟩:=hm.ok hC;have hrun:∀es:Array MapEntry,es=(ms.map (kY mk kf vf)).toArray→(∀v ok',(Bc kf vf k ms 0=none→v=z∧ok'=false)→(∀i u,Bc kf vf k ms 0=some (i,u)→v=u∧ok'=true)→v=(r.map vf).getD z∧ok'=r.isSome):=by
    intro es _ v ok' h1 h2;cases hf:Bc kf vf k ms 0 with
    | none=>
      obtain⟨rfl,rfl⟩:=h1 hf;rw [MW.nofind hp (tW hf)]at hr;subst hr;exact⟨J,J⟩
    | some p=>
      obtain⟨i,u⟩:=p;obtain⟨rfl,rfl⟩:=h2 i u hf;obtain⟨_,m,hm1,hm2,rfl⟩:=tV hf;rw [hw.find hp (bV hm1) hm2]at hr;subst hr;exact⟨J,J⟩
  have h0:=hrun _ J;have key:(Instr.lookup S (.map o) (mk k) ok).run P w= .ok (bif ok then .tuple #[(r.map vf).getD z,.bool r.isSome]else(r.map vf).getD z) w:=by
    have hfind:=hK.find kf vf k ms w;unfold Instr.lookup;simp only [Sem.run_bind,run_underlying hS,Result.andThen_ok];cases o with
    | none=>
      rw [hn J]at hfind h0;simp only [List.map_nil]at hfind;simp only [Sem.run_bind,Sem.run_pure,Result.andThen_ok,hK.check,hfind];cases hf:Bc kf vf k ([]:List (α×Nat)) 0 with
      | none=>
        obtain⟨h3,h4⟩:=h0 z false (fun _=>⟨J,J⟩) (fun i u h=>by rw [hf]at h;cases h);simp only [Sem.run_bind,ht.zero,Result.andThen_ok,Sem.run_pure,←h3,←h4];cases ok<;>simp
      | some p=>
        obtain⟨i,u⟩:=p;obtain⟨h3,h4⟩:=h0 u true (fun h=>by rw [hf]at h;cases h) (fun i' u' h=>by rw [hf]at h;simp at h;exact⟨h.2,J⟩);simp only [Sem.run_bind,Result.andThen_ok,Sem.run_pure,←h3,←h4];cases ok<;>simp
    | some b=>
      simp only [Sem.run_bind,lN (hb b J) J,Sem.run_pure,Result.andThen_ok,hK.check,hfind];cases hf:Bc kf vf k ms 0 with
      | none=>
        obtain⟨h3,h4⟩:=h0 z false (fun _=>⟨J,J⟩) (fun i u h=>by rw [hf]at h;cases h);simp only [Sem.run_bind,ht.zero,Result.andThen_ok,Sem.run_pure,←h3,←h4];cases ok<;>simp
      | some p=>
        obtain⟨i,u⟩:=p;obtain⟨h3,h4⟩:=h0 u true (fun h=>by rw [hf]at h;cases h) (fun i' u' h=>by rw [hf]at h;simp at h;exact⟨h.2,J⟩);simp only [Sem.run_bind,Result.andThen_ok,Sem.run_pure,←h3,←h4];cases ok<;>simp
  simp [execOp,hE.ev hx,hE.ev hy,key]
theorem yn{kf:α→κ}(a:α):∀(l:List α)(i:Nat)(x:α),(l.map kf).Nodup→l[i]?=some x→kf x=kf a→(l.set i a).Perm (a::l.filter fun y=>decide (kf y≠kf a))
  | [],i,x,_,h,_=>by simp at h
  | y::r,0,x,hn,h,hk=>by
    simp at h;subst h;simp only [List.map_cons,List.nodup_cons]at hn;rw [List.set_cons_zero,List.filter_cons_of_neg (by simpa using hk),List.filter_eq_self.2];intro z hz;simp only [decide_eq_true_eq];intro e;exact hn.1 (by rw [hk,←e];exact List.mem_map.2 ⟨z,hz,J⟩)
  | y::r,i+1,x,hn,h,hk=>by
    simp only [List.map_cons,List.nodup_cons]at hn;have hr:r[i]?=some x:=by simpa using h
    have ih:=yn a r i x hn.2 hr hk;have hy:kf y≠kf a:=fun e=>hn.1 (by rw [e,←hk];exact List.mem_map.2 ⟨x,bV hr,J⟩)
    rw [List.set_cons_succ,List.filter_cons_of_pos (by simpa using hy)];exact(ih.cons y).trans (List.Perm.swap a y _)
theorem AM{β γ:Type}(f:β→γ)(g:γ→γ)(l:List β)(i:Nat)(x b:β)(hi:l[i]?=some x)(h:g (f x)=f b):(l.map f).toArray.modify i g=((l.set i b).map f).toArray:=by
  apply Array.ext_getElem?;intro j;rw [Array.getElem?_modify];simp only [List.getElem?_toArray,List.getElem?_map,List.getElem?_set];by_cases e:i=j
  · subst e;obtain⟨hlt,hx⟩:=cU.1 hi;simp [hx,h,hlt]
  · simp [e]
theorem jV{S kt et:TypeId}{x y z:Operand}{b:Nat}{k:Nat}(e:α){L:List α}(L':List α)(hS:P.underlying S=some (.map kt et))(hK:KeyLaw P kt mk)(hx:ev E x=some (.map (some b)))(hy:ev E y=some (mk (kf e)))(hz:ev E z=some (vf e))(hk:ch Γ k=some (mp mk kf vf (some b) L))
    (hp:(e::L.filter fun a=>decide (kf a≠kf e)).Perm L'):
    MS P N w0 M H E Γ R ⟨none,.mapUpdate S x y z,T,ps,af,none⟩ (X:=Unit) (fun _=>True) (fun _=>undef) (fun _=>(k,mp mk kf vf (some b) L')::Γ) (fun _=>R):=by
  intro a w hE hC next Q hn
  obtain⟨G0,⟨ms,clk,hpm,hmp⟩,_⟩:=hC.reads (.inl hk);obtain⟨hW,hF,_,hb⟩:=hmp;have hb:=hb b J;have hfind:=hK.find kf vf (kf e) ms w;have hmid:∃(ms':List (α×Nat))(clk':Nat),(Instr.mapUpdate S (.map (some b)) (mk (kf e)) (vf e)).run P w= .ok () (Go.ChangeMaps.setBlock w b (.map (ms'.map (kY mk kf vf)).toArray clk'))∧MW kf ms' clk'∧(ms'.map (·.1)).Perm L':=by
    unfold Instr.mapUpdate;simp only [Sem.run_bind,run_underlying hS,Result.andThen_ok,lN hb J,hK.check,hfind];cases hf:Bc kf vf (kf e) ms 0 with
    | none=>
      have hno:=tW hf;refine⟨ms++ [(e,clk)],clk+1,?_,⟨?_,?_,?_⟩,?_⟩
      · simp only [ox hb J];simp [kY]
      · rw [List.map_append,List.nodup_append];refine⟨hW.keys,by simp,fun u hu v hv=> ?_⟩;obtain⟨m,hm,rfl⟩:=List.mem_map.1 hu;simp at hv;subst hv;exact hno m hm
      · rw [List.map_append,List.nodup_append];refine⟨hW.born,by simp,fun u hu v hv=> ?_⟩;obtain⟨m,hm,rfl⟩:=List.mem_map.1 hu;simp at hv;subst hv;exact Nat.ne_of_lt (hW.lt m hm)
      · intro m hm;rcases List.mem_append.1 hm with h|h
        · have:=hW.lt m h;omega
        · simp at h;subst h;simp
      · refine List.Perm.trans ?_ hp;rw [List.map_append];have hfl:L.filter (fun a=>decide (kf a≠kf e))=L:=List.filter_eq_self.2 fun u hu=>by
          obtain⟨m,hm,rfl⟩:=List.mem_map.1 (hpm.mem_iff.2 hu);simpa using hno m hm
        rw [hfl];exact(List.perm_append_singleton e (ms.map (·.1))).trans (hpm.cons e)
    | some p=>
      obtain⟨i,u⟩:=p;obtain⟨_,m,hm1,hm2,rfl⟩:=tV hf;rw [Nat.sub_zero]at hm1;refine⟨ms.set i (e,m.2),clk,?_,⟨?_,?_,?_⟩,?_⟩
      · have hold:(((ms.map (kY mk kf vf)).toArray[i]?).map (·.key)).getD (mk (kf e))=mk (kf e):=by
          simp [List.getElem?_map,hm1,kY,hm2]
        simp only [Sem.run_bind,hold,Instr.keyThatStays,hK.stays,if_true,Sem.run_pure,Result.andThen_ok,ox hb J];rw [AM (kY mk kf vf) _ ms i m (e,m.2) hm1 (by simp [kY])]
      · have:(ms.set i (e,m.2)).map (fun m=>kf m.1)=ms.map fun m=>kf m.1:=by
          apply List.ext_getElem?;intro j;simp only [List.getElem?_map,List.getElem?_set];by_cases e1:i=j
          · subst e1;obtain⟨hlt,hx2⟩:=cU.1 hm1;simp [hx2,hlt,hm2]
          · simp [e1]
        rw [this];exact hW.keys
      · have:(ms.set i (e,m.2)).map (·.2)=ms.map (·.2):=by
          apply List.ext_getElem?;intro j;simp only [List.getElem?_map,List.getElem?_set];by_cases e1:i=j
          · subst e1;obtain⟨hlt,hx2⟩:=cU.1 hm1;simp [hx2,hlt]
          · simp [e1]
        rw [this];exact hW.born
      · intro m' hm';rcases List.mem_or_eq_of_mem_set hm' with h|h
        · exact hW.lt m' h
        · subst h;exact hW.lt m (bV hm1)
      · refine List.Perm.trans ?_ hp;have e1:(ms.set i (e,m.2)).map (·.1)=(ms.map (·.1)).set i e:=by rw [List.map_set]
        rw [e1];have h2:=yn (kf:=kf) e (ms.map (·.1)) i m.1 (by rw [List.map_map];exact hW.keys) (by simp [hm1]) hm2;exact h2.trans ((hpm.filter _).cons e)
  obtain⟨ms',clk',hrun,hW',hp'⟩:=hmid;unfold Oper.wp;have hex:(execOp a.eval ⟨none,.mapUpdate S x y z,T,ps,af,none⟩).run P w= .ok .skip (Go.ChangeMaps.setBlock w b (.map (ms'.map (kY mk kf vf)).toArray clk')):=by
    simp [execOp,hE.ev hx,hE.ev hy,hE.ev hz,hrun]
  rw [hex];refine hn () _ O (hC.upd hk fun G hG hGlt=> ?_);obtain⟨ms2,clk2,_,_,hF2,_,hb2⟩:=hG;have hGb:G b:=(hF2 b).2 J;refine⟨G,⟨ms',clk',hp',hW',hF2,by simp,fun c hc=> ?_⟩,fun c hc=>⟨by rw [nV];exact hGlt c hc,fun _=>hc⟩,mE hGb⟩;simp at hc;subst hc;exact nW hb
/-! ### Ranging over a map -/
end
section
variable{P:Program}{N:Nat}{w0:World}{M H:Nat→Prop}{E:ft}{Γ R:eD}{Q:Exit→Act→World→Prop}
variable{ops:Array Oper}{rest:List Oper}{T:TypeId}{ps:String}{af:Array Edge}{d:Nat}{op:Op}
/-! ### Calls of function values with first arguments -/
/-! ### nil -/
theorem MV{S t:TypeId}(hS:P.underlying S=some (.pointer t)):P.underlying S=some (.pointer (P.pointee S)):=by
  simp [Program.pointee,hS]
theorem Ov{S t:TypeId}{p:Option Addr}(hS:P.underlying S=some (.pointer t)):dQ P .eql S (.pointer p) (.pointer none) (.bool p.isNone):=fun x y w=>by
  have:=run_eql_pointer_nil (P:=P) w S p (MV hS);simp [Sem.run_bind,eqGuard,this]
theorem bO{S:TypeId}{a b:ByteArray}(h:a.size+b.size≤1000000):dQ P .add S (.string a) (.string b) (.string (a++b)):=fun x y w=>by
  rw [oL];simp [binOp,Op.stringOp];omega
theorem e_{S:TypeId}{a b:ByteArray}:dQ P .eql S (.string a) (.string b) (.bool (a==b)):=fun x y w=>by
  rw [oL,beq_toListBytes];simp [binOp,Op.stringOp]
theorem RT{S:TypeId}{a b:ByteArray}:dQ P .neq S (.string a) (.string b) (.bool (!(a==b))):=fun x y w=>by
  rw [oL,beq_toListBytes];simp [binOp,Op.stringOp,bne]
/-! ### Strings and bytes -/
def br(s:ByteArray):List Int:=s.data.toList.map fun b=>(b.toNat:Int)
theorem fY(s:ByteArray):(br s).length=s.size:=by simp [br]
theorem lE(s:ByteArray)(j:Nat):0≤(br s).getD j 0∧(br s).getD j 0<256:=by
  unfold br;rw [List.getD_eq_getElem?_getD,List.getElem?_map];cases h:s.data.toList[j]? with
  | none=>simp
  | some b=>simp;have:=b.toNat_lt;omega
def cn:Int→List Value:=fun n=> [.int .u8 n]
theorem ew{S:TypeId}{x y:Operand}{s:ByteArray}{k:IntKind}{i:Int}{j:Nat}(hS:P.underlying S=some .string)(hx:ev E x=some (.string s))(hy:ev E y=some (.int k i))(hi:i=(j:Int))(hj:j<s.size):
    PR P N w0 M H E Γ R (.index S x y) (.int .u8 ((br s).getD j 0)):=fun _ _ _ a w hE hC _ _=>by
  subst hi;have hj':j<s.data.size:=hj;have he:(br s).getD j 0=((s[j]'hj).toNat:Int):=by
    unfold br;rw [List.getD_eq_getElem?_getD,List.getElem?_map,Array.getElem?_toList,Array.getElem?_eq_getElem hj'];rfl
  rw [he];simp [execOp,hE.ev hx,hE.ev hy,Instr.index,asIntOf,run_underlying hS,hj]
def mM(l:List Int):ByteArray:=l.foldl (fun r n=>r.push (UInt8.ofNat n.toNat)) ByteArray.empty
theorem iO(l:List Int):(mM l).size=l.length:=by
  have:∀(l:List Int)(r:ByteArray),(l.foldl (fun r n=>r.push (UInt8.ofNat n.toNat)) r).size=r.size+l.length:=by
    intro l
    induction l with
    | nil=>intro r;simp
    | cons n l ih=>intro r;rw [List.foldl_cons,ih,ByteArray.size_push,aY];omega
  have:=this l ByteArray.empty;simpa [mM]using this
theorem Cc{S D U:TypeId}{x:Operand}{v:SV}{l:List Int}(hS:P.underlying S=some (.slice U))(hU:P.underlying U=some (.int .u8))(hD:P.underlying D=some .string)(hx:ev E x=some (sv v))(hs:HasSl Γ R 1 cn (sv v) l)(hl:l≠ []):
    PR P N w0 M H E Γ R (.convert S D x) (.string (mM l)):=fun _ _ _ a w hE hC _ _=>by
  obtain⟨G,c,h1,h2,h3⟩:=hs.ok hC;rcases h3 with⟨rfl,_⟩|⟨b,o,hv,_,hc⟩
  · exact absurd J hl
  · have hfl:l.flatMap cn=l.map (Value.int .u8):=by
      clear hl hs hv hc h1 h2
      induction l with
      | nil=>rfl
      | cons y ys ih=>simp [cn,ih]
    rw [hfl]at hc;have hld:=run_loadCells_list (P:=P) w ⟨b,o,none⟩ (l.map (Value.int .u8)) (fun j u hj=>by rw [c8];exact hc j u hj);rw [List.length_map]at hld;have:=run_bytesToString (P:=P) w ⟨b,o,none⟩ l.length c l hld;simp [execOp,hE.ev hx,hv,run_convert_bytes_string w S D U _ _ _ hS hU hD,this,mM]
/-! ### Many slices to read -/
/-! ### Rows to read -/
theorem ed{k b o:Nat}{S:TypeId}{c:List Value}{u:Value}(hk:ch R k=some (bj b S c))(hu:c[o]?=some u):Gives w0 M H Γ R b o [u]:=by
  intro w hC j u' hj;obtain⟨G,⟨_,h2⟩,_⟩:=hC.reads (.inr hk);cases j with
  | zero=>simp at hj;subst hj;rw [cell_of_row w b (o+0) _ S (0,0) h2];simpa using hu
  | succ j=>simp at hj
theorem mB(z:Int):0≤IntKind.u32.wrap z∧IntKind.u32.wrap z<4294967296:=by
  simp only [IntKind.wrap,IntKind.signed,IntKind.bits];simp;omega
/-! ### Entering and leaving -/
theorem uS(z:Value)(n:Nat):(madeCells #[z] n).toList=List.replicate n z:=by
 unfold madeCells;apply List.ext_getElem
 ·simp
 ·intro i h1 h2;simp [Nat.mod_one]
theorem tX{α:Type}(enc:α→List Value)(x0:α)(z:Value)(he:enc x0= [z]):∀n,(List.replicate n x0).flatMap enc=List.replicate n z
 | 0=>rfl
 | n+1=>by simp [List.replicate_succ,he,tX enc x0 z he n]
theorem eE{α:Type}{S U:TypeId}{D:TypeDesc}{z:Value}{bb c:Nat}(enc:α→List Value)(x0:α){x y:Operand}{k k':IntKind}{i j:Int}(hS:P.underlying S=some (.slice U))(hU:TI P U D z 1 bb)(h1:z.cells= #[z])(he:enc x0= [z])(hx:ev E x=some (.int k i))(hy:ev E y=some (.int k' j))(hi:i=(c:Int))(hj:j=(c:Int))(hc:bb*c≤281474976710656)(hc2:c≤maxLen):
  MS P N w0 M H E Γ R ⟨some d,.makeSlice S x y,T,ps,af,none⟩ (X:=SV) (fun _=>True) (fun v'=>sv v') (fun v'=>(d,own U 1 enc (sv v') (List.replicate c x0))::Γ) (fun _=>R):=by
 subst hi;subst hj;refine i_ fun a w hE hC=> ?_
 obtain⟨i,i1,i2,i3,i4⟩:=hU.info;have h63':(c:Int)≤9223372036854775807:=by
  have h:=hc2;simp [maxLen]at h;omega
 have hb':(i.bytes:Int)*(c:Int)≤281474976710656:=by
  have h:((i.bytes*c:Nat):Int)≤281474976710656:=by rw [i4];omega
  rwa [Int.natCast_mul]at h
 have hr:=run_make (P:=P) w S U i z hS i1 i2 k k' c c (by omega) (Int.le_refl _) hb' h63';simp only [Int.toNat_natCast,i3,Nat.mul_one,h1]at hr;have ho:(w.alloc (.cells (madeCells #[z] c) U)).ownsRow 0 U 1 (.slice (some ⟨w.heap.size,0,none⟩) c c) (List.replicate c x0).length ((List.replicate c x0).flatMap enc):=by
  refine⟨by rw [tX enc x0 z he];simp,.inr ⟨w.heap.size,c,madeCells #[z] c,by rw [List.length_replicate],bn _,heap_alloc_new w _,by rw [List.length_replicate];exact bU _,hc2,by simp [size_madeCells],?_⟩⟩;rw [uS,tX enc x0 z he];simp
 have hg:=World.grownBy_alloc w (.cells (madeCells #[z] c) U) none;refine⟨⟨some ⟨w.heap.size,0,none⟩,c,c⟩,w.alloc (.cells (madeCells #[z] c) U),O,by simp [execOp,hE.ev hx,hE.ev hy,hr,sv],?_⟩;refine hC.new ⟨hg.os,hg.tape,hg.output,hg.size,fun k hk _=>hg.block k hk (by simp)⟩ ⟨fun b=>b=w.heap.size,⟨fun x=>by simp [sv,Value.ownBlock,eq_comm],ho⟩,fun b hb=> ?_⟩;subst hb;exact⟨(ho.lt _ J).2,bU _⟩
theorem wJ{α:Type}{S U:TypeId}{D:TypeDesc}{z:Value}{bb c:Nat}(enc:α→List Value)(x0:α){x y:Operand}{k k':IntKind}{i j:Int}(hS:P.underlying S=some (.slice U))(hU:TI P U D z 1 bb)(h1:z.cells= #[z])(he:enc x0= [z])(hx:ev E x=some (.int k i))(hy:ev E y=some (.int k' j))(hi:i=(c:Int))(hj:j=(c:Int))(hc:bb*c≤281474976710656)(hc2:c≤maxLen)(hd:Nat.blt d N=true)
  (kk:∀v':SV,At N w0 M H ((d,sv v')::E) ((d,own U 1 enc (sv v') (List.replicate c x0))::Γ) R (wpList P ops Q rest)):At N w0 M H E Γ R (wpList P ops Q (⟨some d,.makeSlice S x y,T,ps,af,none⟩::rest)):=
 D3 (eE enc x0 hS hU h1 he hx hy hi hj hc hc2) hd fun v' _=>kk v'
theorem uQ{S:TypeId}{x y:Operand}{k:IntKind}{s:ByteArray}{i:Int}(hS:P.underlying S=some .string)(hx:ev E x=some (.string s))(hy:ev E y=some (.int k i))(h0:0≤i)(h1:i≤s.size):PR P N w0 M H E Γ R (.slice S x none (some y) none) (.string (s.extract 0 i.toNat)):=
 fun _ _ _ a w hE _ _ _=>by
  have h2:=run_sliceAt_string (P:=P) w S (.string s) none (some (.int k i)) none hS;have h3:=run_slice_string_h (P:=P) w S s hS k i h0 h1;simp [execOp,hE.ev hx,hE.ev hy,h2,h3]
theorem uP{S:TypeId}{x y:Operand}{k:IntKind}{s:ByteArray}{i:Int}(hS:P.underlying S=some .string)(hx:ev E x=some (.string s))(hy:ev E y=some (.int k i))(h0:0≤i)(h1:i≤s.size):PR P N w0 M H E Γ R (.slice S x (some y) none none) (.string (s.extract i.toNat s.size)):=
 fun _ _ _ a w hE _ _ _=>by
  have h2:=run_sliceAt_string (P:=P) w S (.string s) (some (.int k i)) none none hS;have h3:=run_slice_string_l (P:=P) w S s hS k i h0 h1;simp [execOp,hE.ev hx,hE.ev hy,h2,h3]
end
theorem mK{P:Program}(w:World)(t:TypeId)(s:ByteArray)(ht:P.underlying t=some .string)(kl kh:IntKind)(l h:Int)(h0:0≤l)(h1:l≤h)(h2:h≤s.size):
  (Instr.slice t (.string s) (some (.int kl l)) (some (.int kh h)) none).run P w= .ok (.string (s.extract l.toNat h.toNat)) w:=by
 have eh:(h.toNat:Int)=h:=Int.toNat_of_nonneg (by omega);simp [Instr.slice,run_underlying ht,Instr.sliceBounds,run_sliceBound,sliced, *,eh,(by omega:0≤l),(by omega:0≤h)]
section
variable{P:Program}{N:Nat}{w0:World}{M H:Nat→Prop}{E:ft}{Γ R:eD}{Q:Exit→Act→World→Prop}
variable{ops:Array Oper}{rest:List Oper}{T:TypeId}{ps:String}{af:Array Edge}{d:Nat}{op:Op}
theorem Hk(l:List Int):l.flatMap cn=l.map (Value.int .u8):=by
 induction l with
 | nil=>rfl
 | cons y ys ih=>simp [cn,ih]
/-! ### Append of a string -/
def mI(s:ByteArray):List Value:=(br s).map (Value.int .u8)
theorem mH(s:ByteArray):(mI s).length=s.size:=by unfold mI;rw [List.length_map,fY]
theorem oy(w:World)(s:ByteArray):(Builtin.firstCells 1 s.size (.string s)).run P w= .ok (mI s).toArray w:=by
 have hx:(Array.map (fun b:UInt8=>Value.int IntKind.u8 (b.toNat:Int)) s.data).extract 0 s.size=Array.map (fun b:UInt8=>Value.int IntKind.u8 (b.toNat:Int)) s.data:=by
  have hs:s.size=(Array.map (fun b:UInt8=>Value.int IntKind.u8 (b.toNat:Int)) s.data).size:=by rw [Array.size_map];rfl
  rw [hs,Array.extract_size]
 simp [Builtin.firstCells,hx,mI,br];apply Array.ext';simp
theorem oz(w:World)(t u ty e:TypeId)(i:TypeInfo)(z:Value)(ht:P.underlying t=some (.slice e))(hu:P.underlying u=some .string)(hi:P.info? e=some i)(hz:i.zero=some z)
  (hsize:i.size=1) (hby:i.bytes=1) (hzs:z.cells.size=1) (v:Value) (n:Nat) (xs:List Value) (hown:w.ownsRow 0 e 1 v n xs) (s:ByteArray) (h63:n+s.size≤1000000):
  ∃v' w',(Builtin.append_ #[t,u] ty #[v,.string s]).run P w= .ok v' w'∧w'.ownsRow 0 e 1 v' (n+s.size) (xs++mI s)∧w.grownBy w' v.ownBlock∧(∀b,v'.ownBlock=some b→b<w.heap.size→v.ownBlock=some b):=by
 have hlen:(xs++mI s).length=(n+s.size)*1:=by rw [bD,hown.1,mH];omega
 have hml:n+s.size≤maxLen:=by unfold maxLen;omega
 have grown:∀(old:Nat),old<n+s.size→∀(bj:Option Nat),
   (w.drew.alloc (.cells (xs.toArray++(mI s).toArray++Builtin.zeroCells z.cells (grownCap w (n+s.size) old e-(n+s.size))) e)).ownsRow 0 e 1
    (.slice (some ⟨w.heap.size,0,none⟩) (n+s.size) (grownCap w (n+s.size) old e)) (n+s.size) (xs++mI s)∧
   w.grownBy (w.drew.alloc (.cells (xs.toArray++(mI s).toArray++Builtin.zeroCells z.cells (grownCap w (n+s.size) old e-(n+s.size))) e)) bj:=by
  intro old ho bj;have hge:=grownCap_ge w (n+s.size) old e;have hcm:grownCap w (n+s.size) old e≤maxLen:=grownCap_le_maxLen w (n+s.size) old e hml;refine⟨⟨hlen,.inr ⟨w.heap.size,_,_,J,bn _,heap_alloc_new w.drew _,hge,hcm,?_,?_⟩⟩,⟨J,J,J,by simp,fun k hk _=>by have:=heap_alloc_old w.drew (.cells (xs.toArray++(mI s).toArray++Builtin.zeroCells z.cells (grownCap w (n+s.size) old e-(n+s.size))) e) (r:=k) (by simpa using hk);exact this⟩⟩
  ·simp only [Array.size_append,List.size_toArray,size_zeroCells,hzs,hown.1,mH];omega
  ·simp only [Array.toList_append,List.append_assoc];rw [←List.append_assoc,←hlen];exact List.take_left
 have hf:∀w':World,(Builtin.firstCells 1 s.size (.string s)).run P w'= .ok (mI s).toArray w':=fun w'=>oy w' s
 rcases hown.2 with⟨rfl,rfl⟩|⟨g,cap,cur,rfl,hbg,hg,hnc,hcm,hcs,htake⟩
 ·have hx:xs= []:=List.eq_nil_of_length_eq_zero (by simpa using hown.1);subst hx;by_cases hm:s.size=0
  ·have hsv:mI s= []:=List.eq_nil_of_length_eq_zero (by rw [mH];exact hm);refine⟨.slice none 0 0,w,?_,by rw [hsv,hm];exact World.ownsRow_nil w 0 e 1,⟨J,J,J,bU _,fun _ _ _=>J⟩,fun b hb=>by simp [Value.ownBlock]at hb⟩;have hf':=hf w;rw [hm]at hf';simp [Builtin.append_,run_underlying ht,run_underlying hu,sizeOf,typeInfo,hi,hsize,Builtin.lenOf,hm,hf']
  ·have h63':¬(9223372036854775807<(s.size:Int)):=by omega
   have h48':¬(281474976710656<Builtin.nextslicecap s.size 0*i.bytes):=by rw [nextslicecap_zero (by omega),hby];omega
   have hgr:=grown 0 (by omega) (Value.ownBlock (.slice none 0 0));simp only [Nat.zero_add,List.nil_append,Array.empty_append]at hgr ⊢;refine⟨_,_,?_,hgr.1,hgr.2,fun b hb hlt=>by simp [Value.ownBlock]at hb;omega⟩;simp [Builtin.append_,run_underlying ht,run_underlying hu,sizeOf,typeInfo,zeroValue,hi,hz,hsize,Builtin.lenOf,hm,h63',h48',Question.forced,run_firstCells_none,hf,newRow,grownCap]
 ·have holds:∀j u,xs[j]?=some u→w.cell? ((⟨g,0,none⟩:Addr).add j)=some u:=hown.cells (g:=g) J;by_cases hroom:n+s.size≤cap
  ·have hfit:0+n*1+0+(mI s).length≤cur.size:=by rw [mH,hcs];omega
   have hst:=run_storeCells_at P g (n*1) e (mI s) 0 cur w hg (by omega) (fun u hu'=>by unfold mI at hu';obtain⟨y,_,rfl⟩:=List.mem_map.1 hu';rfl);simp only [Nat.add_zero]at hst;refine⟨.slice (some ⟨g,0,none⟩) (n+s.size) cap,w.setRow g (cur.toList.take (n*1)++mI s++cur.toList.drop (n*1+(mI s).length)).toArray,?_,⟨hlen,.inr ⟨g,cap,_,J,hbg,setRow_heap w g cur _ e _ hg,hroom,hcm,?_,?_⟩⟩,⟨J,J,J,by simp,fun k _ hk=>setRow_other w g k _ (fun e=>hk (by simp [Value.ownBlock,e]))⟩,fun b hb _=>hb⟩
   ·have h0:0+n*1=n*1:=by omega
    simp [Builtin.append_,run_underlying ht,run_underlying hu,sizeOf,typeInfo,hi,hsize,Builtin.lenOf,hroom,hf,Addr.add_lit];simp only [Nat.mul_one]at hst;simp [hst]
   ·simp only [List.size_toArray,bD,List.length_take,List.length_drop,Array.length_toList,mH];omega
   ·rw [htake,←hlen];exact List.take_left
  ·have h63':¬(9223372036854775807<((n:Int)+(s.size:Int))):=by omega
   have h48':¬(281474976710656<Builtin.nextslicecap (n+s.size) cap*i.bytes):=by
    have:=growslice_fits (need:=n+s.size) (old:=cap) (bytes:=i.bytes) (by omega) (by rw [hby];omega);omega
   have hfo:=run_firstCells_some (P:=P) w.drew 1 n ⟨g,0,none⟩ n cap xs hown.1 (by simpa using holds);have hgr:=grown cap (by omega) (Value.ownBlock (.slice (some ⟨g,0,none⟩) n cap));refine⟨_,_,?_,hgr.1,hgr.2,fun b hb hlt=>by simp [Value.ownBlock]at hb;omega⟩;simp [Builtin.append_,run_underlying ht,run_underlying hu,sizeOf,typeInfo,zeroValue,hi,hz,hsize,Builtin.lenOf,hroom,h63',h48',Question.forced,hf,hfo,newRow,grownCap]
   congr 2
   apply Array.ext';simp [List.append_assoc]
theorem AJ{S SS U:TypeId}{D:TypeDesc}{z:Value}{x y:Operand}{v:Value}{l:List Int}{s:ByteArray}(k:Nat)(hS:P.underlying S=some (.slice U))(hSS:P.underlying SS=some .string)(hU:TI P U D z 1 1)(hzs:z.cells.size=1)
  (hx:ev E x=some v) (hy:ev E y=some (.string s)) (hk:ch Γ k=some (own U 1 cn v l)) (hm:l.length+s.size≤1000000)
  :MS P N w0 M H E Γ R ⟨some d,.call {callee:= .builtin .append,args:= #[x,y],argTypes:= #[S,SS]},T,ps,af,none⟩ (X:=SV) (fun _=>True) (fun v'=>sv v') (fun v'=>(k,own U 1 cn (sv v') (l++br s))::Γ) (fun _=>R):=by
 refine i_ fun a w hE hC=> ?_
 obtain⟨G0,hp0,hlt0⟩:=hC.reads (.inl hk);obtain⟨i,i1,i2,i3,i4⟩:=hU.info;obtain⟨v',w',hr,ho,hg,hn⟩:=oz (P:=P) w S SS T U i z hS hSS i1 i2 i3 i4 hzs v l.length _ hp0.2 s hm;obtain⟨xv,rfl⟩:=fS ho;refine⟨xv,w',O,?_,?_⟩
 ·simp [execOp,resolve,invoke,builtin,hE.ev hx,hE.ev hy,hr]
 ·refine hC.upd hk fun G hG hGlt=>⟨fun b=>(sv xv).ownBlock=some b,⟨fun x=>Iff.rfl,?_⟩,fun b hb=>⟨(ho.lt b hb).2,fun hlt=> ?_⟩,⟨hg.os,hg.tape,hg.output,hg.size,fun i hi hne=>hg.block i hi (fun e=>hne ((hG.1 i).2 e.symm))⟩⟩
  ·rw [bD,List.flatMap_append,fY,Hk (br s)];exact ho
  ·exact(hG.1 b).2 (hn b hb hlt)
theorem D5{S SS U:TypeId}{D:TypeDesc}{z:Value}{x y:Operand}{v:Value}{l:List Int}{s:ByteArray}(k:Nat)(hS:P.underlying S=some (.slice U))(hSS:P.underlying SS=some .string)(hU:TI P U D z 1 1)(hzs:z.cells.size=1)
  (hx:ev E x=some v) (hy:ev E y=some (.string s)) (hk:ch Γ k=some (own U 1 cn v l)) (hm:l.length+s.size≤1000000) (hd:Nat.blt d N=true)
  (kk:∀v':SV,At N w0 M H ((d,sv v')::E) ((k,own U 1 cn (sv v') (l++br s))::Γ) R (wpList P ops Q rest)):At N w0 M H E Γ R (wpList P ops Q (⟨some d,.call {callee:= .builtin .append,args:= #[x,y],argTypes:= #[S,SS]},T,ps,af,none⟩::rest)):=
 D3 (AJ k hS hSS hU hzs hx hy hk hm) hd fun v' _=>kk v'
/-! ### Slices with an offset, of the call's own -/
theorem k_{S:TypeId}{x y z:Operand}{k k':IntKind}{s:ByteArray}{i j:Int}(hS:P.underlying S=some .string)(hx:ev E x=some (.string s))(hy:ev E y=some (.int k i))(hz:ev E z=some (.int k' j))(h0:0≤i)(h1:i≤j)(h2:j≤s.size):PR P N w0 M H E Γ R (.slice S x (some y) (some z) none) (.string (s.extract i.toNat j.toNat)):=
 fun _ _ _ a w hE _ _ _=>by
  have h3:=run_sliceAt_string (P:=P) w S (.string s) (some (.int k i)) (some (.int k' j)) none hS;have h4:=mK (P:=P) w S s hS k k' i j h0 h1 h2;simp [execOp,hE.ev hx,hE.ev hy,hE.ev hz,h3,h4]
/-! ### An array as a slice -/
theorem yN{S U:TypeId}{D:TypeDesc}{z:Value}{s bb n b o:Nat}{x:Operand}(hS:P.underlying S=some (.array n U))(hU:TI P U D z s bb)(hx:ev E x=some (.pointer (some ⟨b,o,none⟩)))(hn:0<n):PR P N w0 M H E Γ R (.slice S x none none none) (sv ⟨some ⟨b,o,none⟩,n,n⟩):=
 fun _ _ _ a w hE _ _ _=>by
  have hn0:¬n=0:=by omega
  simp [execOp,hE.ev hx,Instr.sliceAt,Instr.sureAddr,Instr.slice,run_underlying hS,Instr.sliceBounds,Instr.sliceBound,sv,hU.sizeOf,hn0,Addr.add]
end
theorem Dp{a b:Bool}(h:a=true)(h':b=true):(a&&b)=true:=by rw [h,h'];rfl
section
variable{P:Program}{N:Nat}{w0:World}{M H:Nat→Prop}{E:ft}{Γ R:eD}{Q:Exit→Act→World→Prop}
variable{T:TypeId}{ps:String}{af:Array Edge}{d:Nat}{op:Op}
theorem xZ{dst:Option Nat}{g:Option (Nat×Bool)}{a:Act}{w:World}{next:Act→World→Prop}{Q:Exit→Act→World→Prop}(h:(⟨dst,op,T,ps,af,none⟩:Oper).wp P a w next Q):(⟨dst,op,T,ps,af,g⟩:Oper).wp P a w next Q:=h
theorem kP{l:List Oper}{rest:List Oper}{i t:Nat}{c b:Bool}{v:Value}(Eg:ft)(hi:kV l i=some t)(ht:eM E t=some (.bool b))(hgs:GS E (gb c b) Eg)
  (h:gb c b=true→MS P N w0 M H (Eg++E) Γ R ⟨some d,op,T,ps,af,none⟩ (X:=Unit) (fun _=>True) (fun _=>v) (fun _=>Γ) (fun _=>R)) (hd:Nat.blt d N=true)
  (k:At N w0 M H ((d,gv (gb c b) v)::E) Γ R (wpList P l.toArray Q rest)):At N w0 M H E Γ R (wpList P l.toArray Q (⟨some d,op,T,ps,af,some (i,c)⟩::rest)):=by
 intro a w hE hC;have hyd:=hE.yield hi ht;unfold wpList;cases hg:gb c b with
 | true=>
  have hbc:b=c:=by cases b<;>cases c<;>simp_all [gb]
  rw [aj (by simp [Region.wanted,hyd,hbc])];left;rw [hg]at k;exact xZ (h hg a w (hE.gs hg hgs) hC _ _ fun x w' _ h2=>k _ _ (hE.put hd v) h2)
 | false=>
  have hbc:b≠c:=by cases b<;>cases c<;>simp_all [gb]
  rw [ac (by simp [Region.wanted,hyd,hbc])];rw [hg]at k;exact k _ _ (hE.put hd undef) hC
theorem vV:∀(A B:ft)(s:Nat)(v:Value),eM (A++B) s=some v→eM A s=some v∨eM B s=some v
 | [],B,s,v,h=> .inr h
 | (j,u)::A,B,s,v,h=>by
  simp only [List.cons_append,eM]at h ⊢;cases hb:Nat.beq j s with
  | true=>rw [hb]at h;exact .inl (by simpa using h)
  | false=>rw [hb]at h;simpa using vV A B s v h
theorem ua:∀(A B:ft)(s:Nat)(v:Value),eM A s=some v→eM (A++B) s=some v
 | [],B,s,v,h=>by cases h
 | (j,u)::A,B,s,v,h=>by
  simp only [List.cons_append,eM]at h ⊢;cases hb:Nat.beq j s with
  | true=>rw [hb]at h;simpa using h
  | false=>rw [hb]at h;simpa using ua A B s v h
theorem FN{l:List Oper}{rest:List Oper}{i t:Nat}{c b g:Bool}{v:Value}(Eg E2:ft)(hi:kV l i=some t)(ht:eM E t=some (gv g (.bool b)))(hgs:GS E (g&&gb c b) Eg)(hgs2:GS E g E2)
  (h:g=true→gb c b=true→MS P N w0 M H (E2++(Eg++E)) Γ R ⟨some d,op,T,ps,af,none⟩ (X:=Unit) (fun _=>True) (fun _=>v) (fun _=>Γ) (fun _=>R)) (hd:Nat.blt d N=true)
  (k:At N w0 M H ((d,gv (g&&gb c b) v)::E) Γ R (wpList P l.toArray Q rest)):At N w0 M H E Γ R (wpList P l.toArray Q (⟨some d,op,T,ps,af,some (i,c)⟩::rest)):=by
 intro a w hE hC;have hyd:yielded l.toArray a.tmps i=bif g then some b else none:=by
  unfold yielded;have:(l.toArray[i]?).bind (·.dst)=some t:=by simpa [kV]using hi
  rw [this];cases g<;>simp [hE.slot t _ ht,gv,undef]
 unfold wpList;cases hg:(g&&gb c b)with
 | true=>
  have hg1:g=true∧gb c b=true:=by simpa using hg
  obtain⟨hg1,hg2⟩:=hg1;have hbc:b=c:=by cases b<;>cases c<;>simp_all [gb]
  rw [aj (by simp [Region.wanted,hyd,hg1,hbc])];left;have hE':=hE.gs hg hgs;have:EOk N (E2++(Eg++E)) a:=by
   have h2:=hE.gs hg1 hgs2;refine⟨hE.defers,hE.size,fun s v hv=> ?_⟩;rcases vV _ _ s v hv with h3|h3
   ·exact h2.slot s v (ua _ _ s v h3)
   ·exact hE'.slot s v h3
  rw [hg]at k;exact xZ (h hg1 hg2 a w this hC _ _ fun x w' _ h2=>k _ _ (hE.put hd v) h2)
 | false=>
  have:Region.wanted (⟨some d,op,T,ps,af,some (i,c)⟩:Oper) (yielded l.toArray a.tmps)=false:=by
   cases g<;>cases b<;>cases c<;>simp_all [gb,Region.wanted]
  rw [ac (by rw [this];simp)];rw [hg]at k;exact k _ _ (hE.put hd undef) hC
end
def Pq(i:Nat)(s:ByteArray)(pos:Nat):Asn:=⟨fun w F=>(∀x,F x↔x=i)∧w.heap[i]?=some (.stringIter s pos),fun⟨h1,h2⟩ hs=>⟨h1,(hs i ((h1 i).2 rfl)).trans h2⟩⟩
section
variable{P:Program}{N:Nat}{w0:World}{M H:Nat→Prop}{E:ft}{Γ R:eD}{Q:Exit→Act→World→Prop}
variable{ops:Array Oper}{rest:List Oper}{T:TypeId}{ps:String}{af:Array Edge}{d:Nat}
theorem Ea{S:TypeId}{x:Operand}{s:ByteArray}(hS:P.underlying S=some .string)(hx:ev E x=some (.string s)):
  MS P N w0 M H E Γ R ⟨some d,.range S x,T,ps,af,none⟩ (X:=Nat) (fun _=>True) (fun i=> .pointer (some ⟨i,0,none⟩)) (fun i=>(d,Pq i s 0)::Γ) (fun _=>R):=by
 refine i_ fun a w hE hC=> ?_
 refine⟨w.heap.size,w.alloc (.stringIter s 0),O,?_,hC.new (Touch.alloc _ _ _) ⟨fun x=>x=w.heap.size,⟨fun x=>Iff.rfl,by simpa using(Go.MapKept.heap_alloc w _).1⟩,fun b hb=>by subst hb;simp⟩⟩;simp [execOp,hE.ev hx,Instr.range,run_underlying hS,newObj,Sem.run]
theorem FL{S:TypeId}{x:Operand}{s:ByteArray}(hS:P.underlying S=some .string)(hx:ev E x=some (.string s))(hd:Nat.blt d N=true)
  (kk:∀i,At N w0 M H ((d,.pointer (some ⟨i,0,none⟩))::E) ((d,Pq i s 0)::Γ) R (wpList P ops Q rest)):At N w0 M H E Γ R (wpList P ops Q (⟨some d,.range S x,T,ps,af,none⟩::rest)):=D3 (Ea hS hx) hd fun i _=>kk i
theorem Jg{x:Operand}{i k pos:Nat}{s:ByteArray}(hx:ev E x=some (.pointer (some ⟨i,0,none⟩)))(hk:ch Γ k=some (Pq i s pos))(has:∀(h:pos<s.size),(s[pos]'h).toNat<128)(hd:Nat.blt d N=true)
  (over:¬pos<s.size→At N w0 M H ((d,.tuple #[.bool false])::E) Γ R (wpList P ops Q rest))
  (more:∀h:pos<s.size,At N w0 M H ((d,.tuple #[.bool true,.int .i64 (pos:Int),.int .i32 ((s[pos]'h).toNat:Int)])::E) ((k,Pq i s (pos+1))::Γ) R (wpList P ops Q rest)):
  At N w0 M H E Γ R (wpList P ops Q (⟨some d,.next x true,T,ps,af,none⟩::rest)):=by
 intro a w hE hC;obtain⟨GI,⟨hI1,hI2⟩,_⟩:=hC.reads (.inl hk);unfold wpList;rw [aj (by simp [Region.wanted])];left;unfold Oper.wp;by_cases h:pos<s.size
 ·have hr:(Instr.next (.pointer (some ⟨i,0,none⟩)) true T).run P w= .ok (.tuple #[.bool true,.int .i64 (pos:Int),.int .i32 ((s[pos]'h).toNat:Int)]) (Go.ChangeMaps.setBlock w i (.stringIter s (pos+1))):=by
   simp only [Instr.next,Sem.run_bind,lN hI2 J,Result.andThen_ok,h,if_true,decode_ascii s pos h (has h),ox hI2 J];simp [goInt]
  have hrun:(execOp a.eval ⟨some d,.next x true,T,ps,af,none⟩).run P w= .ok (.value (.tuple #[.bool true,.int .i64 (pos:Int),.int .i32 ((s[pos]'h).toNat:Int)])) (Go.ChangeMaps.setBlock w i (.stringIter s (pos+1))):=by
   simp [execOp,hE.ev hx,hr]
  rw [hrun];refine more h _ _ (hE.put hd _) (hC.upd hk fun G hG hGlt=> ?_);obtain⟨g1,g2⟩:=hG;have hGb:G i:=(g1 i).2 J;exact⟨G,⟨g1,nW g2⟩,fun c hc=>⟨by rw [nV];exact hGlt c hc,fun _=>hc⟩,mE hGb⟩
 ·have hr:(Instr.next (.pointer (some ⟨i,0,none⟩)) true T).run P w= .ok (.tuple #[.bool false]) w:=by
   simp only [Instr.next,Sem.run_bind,lN hI2 J,Result.andThen_ok,h,if_false];rfl
  have hrun:(execOp a.eval ⟨some d,.next x true,T,ps,af,none⟩).run P w= .ok (.value (.tuple #[.bool false])) w:=by
   simp [execOp,hE.ev hx,hr]
  rw [hrun];exact over h _ _ (hE.put hd _) hC
theorem Gj{b:Bool}{A:List Asn}{R:eD}:(bif b then gk [] A R else R)=R:=by cases b<;>rfl
theorem dI{n:Nat}{f:Operand}{xs:List Operand}{cap us vs:List Value}{at_:Array TypeId}{L R0:List Asn}{X:Type}{φ:X→Prop}{v:X→Value}{L' R':X→List Asn}(hs:Spec P n vs L R0 φ v L' R')(hcb:Cb P n)
  (ks:List Nat) (rs:List (Bool×Nat)) (ns:List Nat) (hf:ev E f=some (.func (.func n) #[] cap.toArray)) (hx:evs E xs=some us) (hu:us++cap=vs)
  (hnd:rr ks=true) (hL:e9 Γ ks=dv L) (hR:jr Γ R rs=dv R0) (hl:iR ks rs=true) (hns:rr ns=true) (hnl:∀x,φ x→ns.length=(L' x).length) (hrl:∀x,φ x→ep rs=true→0=(R' x).length)
  (hd:Nat.blt d N=true) (k:∀x,φ x→At N w0 M H ((d,v x)::E) (gk ns (L' x) (gl ks Γ)) R (wpList P ops Q rest)):
  At N w0 M H E Γ R (wpList P ops Q (⟨some d,.call {callee:= .value f,args:=xs.toArray,argTypes:=at_},T,ps,af,none⟩::rest)):=
 MN hs hcb ks rs ns [] hf hx hu hnd hL hR hl hns hnl hrl hd fun x hx=>by rw [Gj];exact k x hx
theorem jq{dst:Option Nat}{n:Nat}{f:Operand}{xs:List Operand}{cap us vs:List Value}{at_:Array TypeId}{L R0:List Asn}{X:Type}{φ:X→Prop}{v:X→Value}{L' R':X→List Asn}(hs:Spec P n vs L R0 φ v L' R')(hcb:Cb P n)
  (ks:List Nat) (rs:List (Bool×Nat)) (ns:List Nat) (hf:ev E f=some (.func (.func n) #[] cap.toArray)) (hx:evs E xs=some us) (hu:us++cap=vs)
  (hnd:rr ks=true) (hL:e9 Γ ks=dv L) (hR:jr Γ R rs=dv R0) (hl:iR ks rs=true) (hns:rr ns=true) (hnl:∀x,φ x→ns.length=(L' x).length) (hrl:∀x,φ x→ep rs=true→0=(R' x).length):
  MS P N w0 M H E Γ R ⟨dst,.call {callee:= .value f,args:=xs.toArray,argTypes:=at_},T,ps,af,none⟩ φ v (fun x=>gk ns (L' x) (gl ks Γ)) (fun _=>R):=by
 have h:=jW (dst:=dst) (T:=T) (ps:=ps) (af:=af) (at_:=at_) (w0:=w0) (M:=M) (H:=H) (N:=N) hs hcb ks rs ns [] hf hx hu hnd hL hR hl hns hnl hrl;intro a w hE hC next Q hn
 refine h a w hE hC next Q fun x w' h1 h2=>hn x w' h1 ?_
 dsimp only at h2 ⊢;rw [Gj]at h2;exact h2
end
def Hn{α:Type}(f:α→List Asn):Asn:=
 ⟨fun w F=>∃(a:α)(Fs:Nat→Nat→Prop),(∀(i:Nat)(A:Asn),(f a)[i]?=some A→A.pred w (Fs i))∧(∀i b,Fs i b→F b)∧(∀i j b,Fs i b→Fs j b→i=j),
  fun⟨a,Fs,h1,h2,h3⟩ hs=>⟨a,Fs,fun i A hi=>A.stable (h1 i A hi) fun b hb=>hs b (h2 i b hb),h2,h3⟩⟩
theorem LOk.open{α:Type}{f:α→List Asn}{w0 w:World}{M H:Nat→Prop}{L R:List Asn}(h:LOk w0 M H (Hn f::L) R w):∃a,LOk w0 M H (f a++L) R w:=by
 obtain⟨F,hF⟩:=h;obtain⟨a,Fs,h1,h2,h3⟩:=hF.has 0 _ J;have hc:∀k b,(if k<(f a).length then Fs k else F (k-(f a).length+1)) b→(k<(f a).length∧Fs k b∧F 0 b)∨(¬k<(f a).length∧F (k-(f a).length+1) b):=by
  intro k b hb;by_cases hk:k<(f a).length
  ·rw [aj hk]at hb;exact .inl ⟨hk,hb,h2 k b hb⟩
  ·rw [ac hk]at hb;exact .inr ⟨hk,hb⟩
 refine⟨a,fun k=>if k<(f a).length then Fs k else F (k-(f a).length+1),hF.touch,fun k A hk=> ?_,fun k b hb=> ?_,fun k b hb=> ?_,fun i j b hi hj=> ?_,fun k A hk=> ?_⟩
 ·by_cases hl:k<(f a).length
  ·rw [aj hl];rw [List.getElem?_append_left hl]at hk;exact h1 k A hk
  ·rw [ac hl];rw [List.getElem?_append_right (by omega)]at hk;exact hF.has (k-(f a).length+1) A hk
 ·rcases hc k b hb with⟨_,_,h⟩|⟨_,h⟩<;>exact hF.lt _ b h
 ·rcases hc k b hb with⟨_,_,h⟩|⟨_,h⟩<;>exact hF.mine _ b h
 ·rcases hc i b hi with⟨i1,i2,i3⟩|⟨i1,i2⟩<;>rcases hc j b hj with⟨j1,j2,j3⟩|⟨j1,j2⟩
  ·exact h3 i j b i2 j2
  ·have:=hF.apart _ _ b i3 j2;omega
  ·have:=hF.apart _ _ b i2 j3;omega
  ·have:=hF.apart _ _ b i2 j2;omega
 ·obtain⟨G,g1,g2⟩:=hF.ro k A hk;refine⟨G,g1,fun b hb=> ?_⟩;obtain⟨a1,a2,a3⟩:=g2 b hb;refine⟨a1,fun j hj=> ?_,a3⟩;rcases hc j b hj with⟨_,_,h⟩|⟨_,h⟩<;>exact a2 _ h
theorem LOk.shut{α:Type}{f:α→List Asn}{w0 w:World}{M H:Nat→Prop}{L R:List Asn}(a:α)(h:LOk w0 M H (f a++L) R w):LOk w0 M H (Hn f::L) R w:=by
 obtain⟨F,hF⟩:=h;have hc:∀k b,(if k=0 then fun b=>∃i,i<(f a).length∧F i b else F (k-1+(f a).length)) b→∃i,F i b∧((k=0∧i<(f a).length)∨(k≠0∧i=k-1+(f a).length)):=by
  intro k b hb;by_cases hk:k=0
  ·rw [aj hk]at hb;obtain⟨i,hi,hb⟩:=hb;exact⟨i,hb,.inl ⟨hk,hi⟩⟩
  ·rw [ac hk]at hb;exact⟨_,hb,.inr ⟨hk,J⟩⟩
 refine⟨fun k=>if k=0 then fun b=>∃i,i<(f a).length∧F i b else F (k-1+(f a).length),hF.touch,fun k A hk=> ?_,fun k b hb=> ?_,fun k b hb=> ?_,fun i j b hi hj=> ?_,fun k A hk=> ?_⟩
 ·cases k with
  | zero=>
   rw [aj J];cases hk;refine⟨a,fun i b=>i<(f a).length∧F i b,fun i A hi=> ?_,fun i b hb=>⟨i,hb.1,hb.2⟩,fun i j b hi hj=>hF.apart i j b hi.2 hj.2⟩;obtain⟨hl,-⟩:=cU.1 hi;have:=hF.has i A (by rw [List.getElem?_append_left hl];exact hi);have e:F i=(fun b=>i<(f a).length∧F i b):=funext fun b=>propext ⟨fun h=>⟨hl,h⟩,fun h=>h.2⟩
   rw [e]at this;exact this
  | succ k=>
   rw [ac (Nat.succ_ne_zero k)];refine hF.has (k+1-1+(f a).length) A ?_;rw [List.getElem?_append_right (by omega),show k+1-1+(f a).length-(f a).length=k by omega];exact hk
 ·obtain⟨i,hi,-⟩:=hc k b hb;exact hF.lt i b hi
 ·obtain⟨i,hi,-⟩:=hc k b hb;exact hF.mine i b hi
 ·obtain⟨x,hx,hx'⟩:=hc i b hi;obtain⟨y,hy,hy'⟩:=hc j b hj;have:=hF.apart x y b hx hy;omega
 ·obtain⟨G,g1,g2⟩:=hF.ro k A hk;refine⟨G,g1,fun b hb=> ?_⟩;obtain⟨a1,a2,a3⟩:=g2 b hb;refine⟨a1,fun j hj=> ?_,a3⟩;obtain⟨i,hi,-⟩:=hc j b hj;exact a2 _ hi
theorem Spec.pack{P:Program}{n:Nat}{vs:List Value}{α X β:Type}{f:α→List Asn}{L R0:List Asn}{φ:X→Prop}{v:X→Value}{L1 R1:X→List Asn}(g:X→β→List Asn)(c:α→X→β)
  (h:∀a,Spec P n vs (f a++L) R0 φ v (fun x=>g x (c a x)++L1 x) R1):Spec P n vs (Hn f::L) R0 φ v (fun x=>Hn (g x)::L1 x) R1:=by
 intro w M H hl;obtain⟨a,ha⟩:=hl.open;refine(h a w M H ha).mono fun e w' ⟨x,h1,h2,h3⟩=>⟨x,h1,h2,LOk.shut (c a x) h3⟩
theorem Spec.map{P:Program}{n:Nat}{vs:List Value}{X Y:Type}{L R0:List Asn}{φ:X→Prop}{v:X→Value}{L1 R1:X→List Asn}{ψ:Y→Prop}{v':Y→Value}{L2 R2:Y→List Asn}(p:X→Y)
  (h1:∀x,φ x→ψ (p x)) (h2:∀x,v x=v' (p x)) (h3:∀x,L1 x=L2 (p x)) (h4:∀x,R1 x=R2 (p x)) (h:Spec P n vs L R0 φ v L1 R1):Spec P n vs L R0 ψ v' L2 R2:=by
 intro w M H hl;refine(h w M H hl).mono fun e w' ⟨x,g1,g2,g3⟩=>⟨p x,h1 x g1,(h2 x)▸g2,?_⟩
 rw [←h3,←h4];exact g3
theorem COk.unpack{α:Type}{f:α→List Asn}{w0:World}{M H:Nat→Prop}{Γ R:eD}{w:World}(h:COk w0 M H Γ R w)(k:Nat)(ns:List Nat)(hns:ns.Nodup)(hl:∀a,ns.length=(f a).length)(hk:ch Γ k=some (Hn f)):
  ∃a,COk w0 M H (gk ns (f a) (gl [k] Γ)) R w:=by
 obtain⟨M',H',h1,h2⟩:=h.step [k] (by simp) (L:= [Hn f]) (R0:= []) (by simp only [e9,dv,hk]) (fun i A hi=>by simp at hi);obtain⟨a,ha⟩:=h1.open;rw [List.append_nil]at ha;exact⟨a,(h2 (f a) [] ns [] w hns (hl a) J ha).1⟩
theorem COk.pack{α:Type}{f:α→List Asn}{w0:World}{M H:Nat→Prop}{Γ R:eD}{w:World}(h:COk w0 M H Γ R w)(k:Nat)(ks:List Nat)(hks:ks.Nodup)(a:α)(hL:e9 Γ ks=dv (f a)):
  COk w0 M H ((k,Hn f)::gl ks Γ) R w:=by
 obtain⟨M',H',h1,h2⟩:=h.step ks hks (L:=f a) (R0:= []) hL (fun i A hi=>by simp at hi);refine(h2 [Hn f] [] [k] [] w (by simp) J J (LOk.shut a ?_)).1;rw [List.append_nil];exact h1
section
variable{P:Program}{N:Nat}{w0:World}{M H:Nat→Prop}{E:ft}{Γ R:eD}
theorem FK{α:Type}{f:α→List Asn}(k:Nat)(ns:List Nat){Rel:Act→World→Prop}(hk:ch Γ k=some (Hn f))(hns:ns.Nodup)(hl:∀a,ns.length=(f a).length)
  (h:∀a,At N w0 M H E (gk ns (f a) (gl [k] Γ)) R Rel):At N w0 M H E Γ R Rel:=fun A w hE hC=>by
 obtain⟨a,ha⟩:=hC.unpack k ns hns hl hk;exact h a A w hE ha
theorem MM{α:Type}{f:α→List Asn}(k:Nat)(ks:List Nat)(a:α){Rel:Act→World→Prop}(hL:e9 Γ ks=dv (f a))(hks:ks.Nodup)(h:At N w0 M H E ((k,Hn f)::gl ks Γ) R Rel):At N w0 M H E Γ R Rel:=
 h.weak (fun _ h=>h) fun w hC=>hC.pack k ks hks a hL
end
def AllIn(w:World)(F:Nat→Prop):List Asn→Prop
 | []=>True
 | A::r=>(∃G:Nat→Prop,A.pred w G∧∀b,G b→F b)∧AllIn w F r
theorem zH{w:World}{Γ:eD}{F:Nat→Nat→Prop}{U:Nat→Prop}(h:∀k A,ch Γ k=some A→A.pred w (F k)):∀(ks:List Nat)(L:List Asn),e9 Γ ks=dv L→(∀k∈ks,∀b,F k b→U b)→AllIn w U L
 | [],[],_,_=>trivial
 | [],A::L,hL,_=>by cases hL
 | k::ks,[],hL,_=>by cases hL
 | k::ks,A::L,hL,hU=>by
  simp only [e9,dv,List.cons.injEq]at hL;exact⟨⟨F k,h k A hL.1,hU k (by simp)⟩,zH h ks L hL.2 fun j hj=>hU j (by simp [hj])⟩
theorem COk.collect{w0:World}{M H:Nat→Prop}{Γ R:eD}{w:World}(h:COk w0 M H Γ R w)(k:Nat)(ks:List Nat){L:List Asn}{C:Asn}(hL:e9 Γ ks=dv L)(hC:∀w F,AllIn w F L→C.pred w F):COk w0 M H ((k,C)::gl ks Γ) R w:=by
 obtain⟨F,hF⟩:=h;have hsub:∀j b,(if j=k then fun b=>∃i∈ks,F i b else if j∈ks then fun _=>False else F j) b→(j=k∧∃i∈ks,F i b)∨(j≠k∧j∉ks∧F j b):=by
  intro j b hb;split at hb
  ·exact .inl ⟨by assumption,hb⟩
  ·split at hb
   ·exact hb.elim
   ·exact .inr ⟨by assumption,by assumption,hb⟩
 refine⟨fun j=>if j=k then fun b=>∃i∈ks,F i b else if j∈ks then fun _=>False else F j,hF.touch,?_,?_,?_,?_,?_⟩
 ·intro j B hj;simp only [ch]at hj;cases h1:Nat.beq k j with
  | true=>
   rw [h1]at hj;simp at hj;subst hj;have:=cW h1;subst this;simp only [if_true];exact hC w _ (zH hF.has ks L hL fun i hi b hb=>⟨i,hi,hb⟩)
  | false=>
   rw [h1]at hj;have hj1:j≠k:=fun e=>by subst e;simp at h1
   rcases oN ks Γ j B hj with⟨rfl,h2⟩|⟨h2,h3⟩
   ·simp only [hj1,if_false,h2,if_true];exact fun b hb=>hb
   ·simp only [hj1,if_false,h2];exact hF.has j B h3
 ·intro j b hb;rcases hsub j b hb with⟨_,i,_,hb⟩|⟨_,_,hb⟩<;>exact hF.lt _ b hb
 ·intro j b hb;rcases hsub j b hb with⟨_,i,_,hb⟩|⟨_,_,hb⟩<;>exact hF.mine _ b hb
 ·intro i j b hi hj;rcases hsub i b hi with⟨e1,x,hx,hx2⟩|⟨e1,n1,g1⟩<;>rcases hsub j b hj with⟨e2,y,hy,hy2⟩|⟨e2,n2,g2⟩
  ·rw [e1,e2]
  ·have:=hF.apart _ _ b hx2 g2;subst this;exact absurd hx n2
  ·have:=hF.apart _ _ b g1 hy2;subst this;exact absurd hy n1
  ·exact hF.apart i j b g1 g2
 ·intro r A hr;obtain⟨G,g1,g2⟩:=hF.ro r A hr;refine⟨G,g1,fun b hb=> ?_⟩;obtain⟨h1,h2,h3⟩:=g2 b hb;refine⟨h1,fun j hj=> ?_,h3⟩;rcases hsub j b hj with⟨_,i,_,hb⟩|⟨_,_,hb⟩<;>exact h2 _ hb
section
variable{P:Program}{N:Nat}{w0:World}{M H:Nat→Prop}{E:ft}{Γ R:eD}
theorem bz(k:Nat)(ks:List Nat){L:List Asn}{C:Asn}{Rel:Act→World→Prop}(hL:e9 Γ ks=dv L)(hC:∀w F,AllIn w F L→C.pred w F)(h:At N w0 M H E ((k,C)::gl ks Γ) R Rel):At N w0 M H E Γ R Rel:=
 h.weak (fun _ h=>h) fun w hc=>hc.collect k ks hL hC
end
theorem dm{α:Type}{w:World}{F G:Nat→Prop}{T s:Nat}{enc:α→List Value}{v:Value}{l:List α}(h:(own T s enc v l).pred w G)(hs:∀b,G b→F b):∃G':Nat→Prop,uu w G' s enc v l∧∀b,G' b→F b:=⟨G,wQ h,hs⟩
theorem i9{α:Type}{w:World}{F:Nat→Prop}{s:Nat}{enc:α→List Value}:∃G':Nat→Prop,uu w G' s enc (sv bc) ([]:List α)∧∀b,G' b→F b:=⟨fun _=>False,⟨0,bU _,bn _,.inl ⟨rfl,fun _ h=>h,rfl⟩⟩,fun _ h=>h.elim⟩
section
variable{P:Program}{N:Nat}{w0:World}{M H:Nat→Prop}{E:ft}{Γ R:eD}{ops:Array Oper}{Q:Act→World→Prop}{rest:List Oper}{T:TypeId}{ps:String}{af:Array Edge}{d:Nat}
theorem PX{S D t:TypeId}{Dt:TypeDesc}{z:Value}{s bb:Nat}{x:Operand}{b k:Nat}{T0:TypeId}{c:List Value}(hS:P.underlying S=some (.pointer t))(hD:P.underlying D=some .unsafePointer)(ht:TI P t Dt z s bb)(hs:s≠0)(hx:ev E x=some (.pointer (some ⟨b,0,none⟩)))(hk:ch Γ k=some (bj b T0 c))(hc:0<c.length):
  PR P N w0 M H E Γ R (.convert S D x) (.pointer (some ⟨b,0,none⟩)):=fun _ _ _ a w hE hC _ _=>by
 obtain⟨G,⟨_,h2⟩,_⟩:=hC.reads (.inl hk);obtain⟨i,i1,i2,i3,i4⟩:=ht.info;have hsh:w.shape? b=some (T0,c.length):=by simp [World.shape?,h2]
 have:=Go.Lib.run_to_unsafe (P:=P) w ⟨b,0,none⟩ hS hD i1 (by rw [i3];exact hs) hsh hc;simp [execOp,hE.ev hx,this]
theorem Jv{S D t:TypeId}{Dt:TypeDesc}{z:Value}{s bb:Nat}{x:Operand}{b k:Nat}{T0:TypeId}{c:List Value}(hS:P.underlying S=some .unsafePointer)(hD:P.underlying D=some (.pointer t))(ht:TI P t Dt z s bb)(hx:ev E x=some (.pointer (some ⟨b,0,none⟩)))(hk:ch Γ k=some (bj b T0 c))(hl:liesAt P P.depth T0 (c.length/P.cellsOf T0) 0 t 1=true):
  PR P N w0 M H E Γ R (.convert S D x) (.pointer (some ⟨b,0,none⟩)):=fun _ _ _ a w hE hC _ _=>by
 obtain⟨G,⟨_,h2⟩,_⟩:=hC.reads (.inl hk);obtain⟨i,i1,i2,i3,i4⟩:=ht.info;have hsh:w.shape? b=some (T0,c.length):=by simp [World.shape?,h2]
 have:=Go.Lib.run_from_unsafe (P:=P) w ⟨b,0,none⟩ hS hD i1 hsh hl;simp [execOp,hE.ev hx,this]
theorem Jt{n:Nat}{x:Operand}{v:Value}{at_:Array TypeId}{fn:Func}(hf:P.funcs[n]?=some fn)(hname:(fn.name== "runtime.NumGoroutine")=false)(hb:fn.body.isNone=true)(hn:Extern.findNext fn=none)(he:Extern.find fn=some Extern.AbiNoEscape.same)(hx:ev E x=some v):
  PR P N w0 M H E Γ R (.call {callee:= .value (.func n),args:= #[x],argTypes:=at_}) v:=fun _ _ _ a w hE _ _ _=>by
 have h:=run_callFunc_extern hf hname hb hn he #[v] w;rw [Go.Lib.run_noEscape]at h;have e:a.eval (.func n)= .func (.func n) #[] #[]:=J;simp [execOp,resolve,Deferred.ofValue,invoke,hE.ev hx,e,h,Result.andThen]
theorem Ju{S t:TypeId}{Dt:TypeDesc}{z:Value}{s bb:Nat}{x y:Operand}{a1:Addr}(hS:P.underlying S=some (.pointer t))(ht:TI P t Dt z s bb)(hx:ev E x=some (.pointer (some a1)))(hy:ev E y=some (.pointer (some a1))):
  PR P N w0 M H E Γ R (.binOp .neq S x y S) (.bool false):=fun _ _ _ a w hE _ _ _=>by
 obtain⟨i,i1,i2,i3,i4⟩:=ht.info;have:=Go.Lib.run_neq_ptr_same (P:=P) w a1 hS i1;simp [execOp,hE.ev hx,hE.ev hy,Sem.run_bind,eqGuard,this]
theorem yP{U:TypeId}{k:Nat}{v:SV}{l:List Int}(hk:ch Γ k=some (own U 1 cn (sv v) l))(hl:l≠ []){w:World}(hC:COk w0 M H Γ R w):
  ∃g cap,sv v= .slice (some ⟨g,0,none⟩) l.length cap∧l.length≤cap∧l.length≤maxLen∧∃cur,w.heap[g]?=some (.cells cur U (0,0))∧cap≤cur.size∧∀(j:Nat)(x:Int),l[j]?=some x→cur[j]?=some (Value.int .u8 x):=by
 obtain⟨G,⟨h1,h2⟩,h3⟩:=hC.reads (.inl hk);have hfl:l.flatMap cn=l.map (Value.int .u8):=by
  clear hl hk h1 h2
  induction l with
  | nil=>rfl
  | cons y ys ih=>simp [cn,ih]
 rw [hfl]at h2;rcases h2.2 with⟨_,hn⟩|⟨g,cap,cur,hv,hbg,hg,hnc,hcm,hcs,htake⟩
 ·exact absurd (List.eq_nil_of_length_eq_zero hn) hl
 ·refine⟨g,cap,hv,hnc,by omega,cur,hg,by omega,fun j x hj=> ?_⟩;have hjl:=(cU.1 hj).1;rw [Nat.mul_one]at htake;have:(cur.toList.take l.length)[j]?=some (.int .u8 x):=by rw [htake,List.getElem?_map,hj];rfl
  rw [List.getElem?_take,aj hjl]at this;simpa using this
theorem PW{S U:TypeId}{x:Operand}{k:Nat}{v:SV}{l:List Int}(hx:ev E x=some (sv v))(hk:ch Γ k=some (own U 1 cn (sv v) l))(hl:l≠ []):
  PR P N w0 M H E Γ R (.call {callee:= .builtin .unsafeSliceData,args:= #[x],argTypes:= #[S]}) (.pointer (some ⟨kg (sv v),0,none⟩)):=fun T1 _ _ a w hE hC _ _=>by
 obtain⟨g,cap,hv,h1,h2,cur,h3,h4,h5⟩:=yP hk hl hC;have hpos:0<l.length:=by cases l with|nil=>exact absurd J hl|cons _ _=>simp
 have h:=Go.Lib.run_unsafeSliceData_row (P:=P) w #[S] T1 ⟨g,0,none⟩ l.length cap (by omega);have e:kg (sv v)=g:=by rw [hv];rfl
 rw [e];rw [hv]at hx;simp [execOp,resolve,invoke,builtin,hE.ev hx,h]
theorem JK{pt it e:TypeId}{x y:Operand}{k:Nat}{v:SV}{l:List Int}(hp:P.underlying pt=some (.pointer e))(hc:P.cellsOf e=1)(hx:ev E x=some (.pointer (some ⟨kg (sv v),0,none⟩)))(hy:ev E y=some (.int .i64 (l.length:Int)))(hk:ch Γ k=some (own e 1 cn (sv v) l))(hl:l≠ [])(hb:∀n∈l,0≤n∧n<256):
  MS P N w0 M H E Γ R ⟨some d,.call {callee:= .builtin .unsafeString,args:= #[x,y],argTypes:= #[pt,it]},T,ps,af,none⟩ (X:=Unit) (fun _=>True) (fun _=> .string (mM l)) (fun _=>(k,KB)::Γ) (fun _=>R):=by
 refine i_ fun a w hE hC=> ?_
 obtain⟨g,cap,hv,h1,h2,cur,h3,h4,h5⟩:=yP hk hl hC;have e1:kg (sv v)=g:=by rw [hv];rfl
 rw [e1]at hx;obtain⟨l',hl'⟩:∃l':List UInt8,l'=l.map fun n=>UInt8.ofNat n.toNat:=⟨_,J⟩
 have hlen:l'.length=l.length:=by rw [hl',List.length_map]
 have hof:(⟨l'.toArray⟩:ByteArray)=mM l:=by
  have:∀(l:List Int)(r:ByteArray),l.foldl (fun r n=>r.push (UInt8.ofNat n.toNat)) r=⟨r.data++(l.map fun n=>UInt8.ofNat n.toNat).toArray⟩:=by
   intro l
   induction l with
   | nil=>intro r;simp
   | cons n l ih=>
    intro r;rw [List.foldl_cons,ih];simp [ByteArray.push]
  have h:=this l ByteArray.empty;rw [hl'];unfold mM;rw [h];simp
 have hrun:=Go.Lib.run_unsafeString_row (P:=P) w pt it T e hp hc g cur.size (by simp [World.shape?,h3]) l' (by rw [hl'];simpa using hl) (by omega) (by unfold maxLen at h2;omega) (fun j x hj=>by
  rw [hl',List.getElem?_map]at hj;cases hlj:l[j]? with
  | none=>rw [hlj]at hj;cases hj
  | some n=>
   rw [hlj]at hj;cases hj;have hn:=hb n (bV hlj);have hcell:=h5 j n hlj;have:((UInt8.ofNat n.toNat).toNat:Int)=n:=by
    rw [UInt8.toNat_ofNat'];omega
   rw [this];have e2:((⟨g,0,none⟩:Addr).add j)=⟨g,j,none⟩:=by
    unfold Addr.add;split
    ·subst_vars;rfl
    ·simp
   rw [e2];simp [World.cell?,h3,hcell])
 rw [hof,hlen]at hrun;refine⟨(),w.freeze ⟨g,0,none⟩ l.length,O,?_,?_⟩
 ·simp [execOp,resolve,invoke,builtin,hE.ev hx,hE.ev hy,hrun]
 ·refine hC.upd hk fun G hG hGlt=>⟨fun _=>False,fun b hb=>hb,fun b hb=>hb.elim,?_⟩
  have hGg:G g:=(hG.1 g).2 (by rw [hv];rfl);unfold World.freeze;split
  ·exact Touch.refl _ _
  ·exact⟨J,J,J,by simp,fun b hb hn=>by
    have:g≠b:=fun e=>hn (e▸hGg)
    simp [Array.getElem?_modify,this]⟩
end
section
end
end Go.Proofs.YtedmdgbmdplifaaGreat
namespace Go.Proofs.YtedmdgbmdplifaaGreat
section
end
end Go.Proofs.YtedmdgbmdplifaaGreat
namespace Go.Proofs.YtedmdgbmdplifaaGreat
open Go.RowKit
section
variable{P:Program}{N:Nat}{w0:World}{M H:Nat→Prop}{E:ft}{Γ R:eD}{Q:Exit→Act→World→Prop}
theorem yi{l:List Oper}{V:eg}{C:List Nat}(is:List Nat){I:eg}(c:Nat)(C':List Nat){d:Nat}{v:Value}{op:Op}{T:TypeId}{ps:String}{af:Array Edge}(hI0:kb is V=I)(hst:yj N E V=true)(hI:PRs P N w0 M H E Γ R l V I)(hcov:v_ V is C=true)
  (hcls:zo l (fg V++C) (some c)=true) (ho:l[c]?=some ⟨some d,op,T,ps,af,none⟩) (hd:Nat.blt d N=true) (hcV:sj (fg V++C) c=false)
  (hcl:Bu l C c [] C'=true) (hall:(List.range l.length).all (fun i=>sj C' i)=true) (hlt:(fg V).all (fun i=>Nat.blt i l.length)=true) (hpr:PR P N w0 M H (vpre (fi ⟨some d,op,T,ps,af,none⟩) V++E) Γ R op v)
  (k:At N w0 M H ((d,v)::(DA V++E)) Γ R (Q .normal)):Ip P N w0 M H E Γ R l Q V C:=by
 refine o9 is hI0 hst hI hcov (some c) hcls (fun D a w hD hS=> ?_) fun k' hk' ord D a w o' hio hDk hprd hrest hS=> ?_
 ·have:=hS.done c (hD c (cU.1 ho).1);rw [fT this]at hcV;cases hcV
 ·injection hk' with hk';subst hk';rw [ho]at hio;injection hio with hio;subst hio;have ho':l.toArray[c]?=some ⟨some d,op,T,ps,af,none⟩:=by simpa using ho
  have hclosed:∀(j:Nat)(o':Oper),l[j]?=some o'→(bif Nat.beq j c then true else D j)=true→∀k∈fi o',(bif Nat.beq k c then true else D k)=true:=by
   intro j o' hoj hj q hq;cases hb:Nat.beq j c with
   | true=>
    have:=cW hb;subst this;rw [ho]at hoj;injection hoj with hoj;subst hoj;simp [hprd q hq]
   | false=>rw [hb]at hj;simp [hS.closed j o' hoj hj q hq]
  have hdone:∀i,i<l.length→(bif Nat.beq i c then true else D i)=true:=fun i hi=>
   lB (D:=fun i=>bif Nat.beq i c then true else D i) (fun i hi=>by simp [hS.sure i hi]) (by simp) hclosed C' [] hcl (fun s hs=>by simp at hs) i (gz (List.all_eq_true.1 hall i (List.mem_range.2 hi)))
  cases hrest with
  | cons ho2 hD2 _ _=>
   dsimp only at hD2;rw [hdone _ (cU.1 ho2).1]at hD2;cases hD2
  | nil h=>
   simp only [wpOps,ho'];rw [aj (by simp [Region.wanted])];left;have hEp:EOk N (vpre (fi ⟨some d,op,T,ps,af,none⟩) V++E) a:=hS.base.vpre fun j d v hj hjp=>hS.vals j d v hj (hprd j hjp)
   unfold Oper.wp;rw [hpr _ _ _ a w hEp hS.ok _ _];have hEv:EOk N (DA V++E) a:=hS.base.vals fun i e u hm=>hS.vals i e u hm (by
    have h1:i∈fg V:=gd.2 ⟨e,u,hm⟩;have h2:Nat.blt i l.length=true:=List.all_eq_true.1 hlt i h1;have h3:=hdone i (by simpa using h2);cases hb:Nat.beq i c with
    | true=>
     have:=cW hb;subst this;rw [fT (List.mem_append_left _ h1)]at hcV;cases hcV
    | false=>rw [hb]at h3;exact h3)
   exact k _ _ (hEv.put hd v) hS.ok
end
end Go.Proofs.YtedmdgbmdplifaaGreat
