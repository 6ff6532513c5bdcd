/-
  Part of the proof: the texts A1, A2, F, A3, A4, A5, A6, OJ, A7, A8, A9, AA, AB, AC, AD, AI, AJ, AK, AL, AM, AN, AO, AP, AQ, AR, AS, shortened. Conditions are with the theorems.
-/
import Derived.Test.YtedmdgbmdplifaaGreatProg
import Derived.ChangeMaps5
import Derived.Test.YtedmdgbmdplifaaGreatXCa
set_option maxHeartbeats 32000000
set_option maxRecDepth 100000
namespace Go.Proofs.YtedmdgbmdplifaaGreat
set_option linter.unusedSimpArgs false
set_option linter.unusedVariables false
open Go.RowKit Tryz
inductive Tx where
 | mk (kind n:Int) (name:ByteArray) (v:SV) (kids:List Tx)
def Tx.kind:Tx→Int | .mk k _ _ _ _=>k
def Tx.n:Tx→Int | .mk _ n _ _ _=>n
def Tx.name:Tx→ByteArray | .mk _ _ s _ _=>s
def Tx.v:Tx→SV | .mk _ _ _ v _=>v
def Tx.kids:Tx→List Tx | .mk _ _ _ _ l=>l
def dt(t:Tx):List Value:= [.int .i64 t.kind,.int .u32 t.n,.string t.name,sv t.v]
abbrev xV(t:Tx):Value:= .agg (dt t).toArray
inductive Ty where
 | mk (kind:Int) (name:ByteArray) (ve:SV) (es:List Tx) (vb:SV) (body:List Ty) (vl:SV) (els:List Ty)
def Ty.kind:Ty→Int | .mk k _ _ _ _ _ _ _=>k
def Ty.name:Ty→ByteArray | .mk _ s _ _ _ _ _ _=>s
def Ty.ve:Ty→SV | .mk _ _ v _ _ _ _ _=>v
def Ty.es:Ty→List Tx | .mk _ _ _ l _ _ _ _=>l
def Ty.vb:Ty→SV | .mk _ _ _ _ v _ _ _=>v
def Ty.body:Ty→List Ty | .mk _ _ _ _ _ l _ _=>l
def Ty.vl:Ty→SV | .mk _ _ _ _ _ _ v _=>v
def Ty.els:Ty→List Ty | .mk _ _ _ _ _ _ _ l=>l
def eu(t:Ty):List Value:= [.int .i64 t.kind,.string t.name,sv t.ve,sv t.vb,sv t.vl]
abbrev yV(t:Ty):Value:= .agg (eu t).toArray
def SlIn'{α:Type}(w:World)(F:Nat→Prop)(s:Nat)(enc:α→List Value)(v:Value)(l:List α):Prop:=∃G:Nat→Prop,m_ w G s enc v l∧∀b,G b→F b
theorem SlIn'.stable{α:Type}{w w':World}{F:Nat→Prop}{s:Nat}{enc:α→List Value}{v:Value}{l:List α}(h:SlIn' w F s enc v l)(hs:∀b,F b→w'.heap[b]?=w.heap[b]?):SlIn' w' F s enc v l:=by
 obtain⟨G,h1,h2⟩:=h;exact⟨G,(sl s enc v l).stable h1 fun b hb=>hs b (h2 b hb),h2⟩
theorem SlIn'.mono{α:Type}{w:World}{F F':Nat→Prop}{s:Nat}{enc:α→List Value}{v:Value}{l:List α}(h:SlIn' w F s enc v l)(hs:∀b,F b→F' b):SlIn' w F' s enc v l:=by
 obtain⟨G,h1,h2⟩:=h;exact⟨G,h1,fun b hb=>hs b (h2 b hb)⟩
mutual
def TxIn(w:World)(F:Nat→Prop):Tx→Prop
 | .mk _ _ _ v kids=>SlIn' w F 4 dt (sv v) kids∧TxsIn w F kids
def TxsIn(w:World)(F:Nat→Prop):List Tx→Prop
 | []=>True
 | t::r=>TxIn w F t∧TxsIn w F r
end
mutual
theorem TxIn.mono{w w':World}{F F':Nat→Prop}(hs:∀b,F b→F' b)(hw:∀b,F b→w'.heap[b]?=w.heap[b]?):∀t,TxIn w F t→TxIn w' F' t
 | .mk _ _ _ v kids,h=>⟨(h.1.stable hw).mono hs,TxsIn.mono hs hw kids h.2⟩
theorem TxsIn.mono{w w':World}{F F':Nat→Prop}(hs:∀b,F b→F' b)(hw:∀b,F b→w'.heap[b]?=w.heap[b]?):∀l,TxsIn w F l→TxsIn w' F' l
 | [],_=>trivial
 | t::r,h=>⟨TxIn.mono hs hw t h.1,TxsIn.mono hs hw r h.2⟩
end
theorem TxsIn.mem{w:World}{F:Nat→Prop}:∀{l:List Tx},TxsIn w F l→∀t∈l,TxIn w F t
 | [],_,_,h=>by simp at h
 | t::r,h,u,hu=>by
  rcases List.mem_cons.1 hu with rfl|hu
  ·exact h.1
  ·exact TxsIn.mem h.2 u hu
mutual
def TyIn(w:World)(F:Nat→Prop):Ty→Prop
 | .mk _ _ ve es vb body vl els=>(SlIn' w F 4 dt (sv ve) es∧TxsIn w F es)∧(SlIn' w F 5 eu (sv vb) body∧TysIn w F body)∧(SlIn' w F 5 eu (sv vl) els∧TysIn w F els)
def TysIn(w:World)(F:Nat→Prop):List Ty→Prop
 | []=>True
 | t::r=>TyIn w F t∧TysIn w F r
end
mutual
theorem TyIn.mono{w w':World}{F F':Nat→Prop}(hs:∀b,F b→F' b)(hw:∀b,F b→w'.heap[b]?=w.heap[b]?):∀t,TyIn w F t→TyIn w' F' t
 | .mk _ _ ve es vb body vl els,h=>⟨⟨(h.1.1.stable hw).mono hs,TxsIn.mono hs hw es h.1.2⟩,⟨(h.2.1.1.stable hw).mono hs,TysIn.mono hs hw body h.2.1.2⟩,⟨(h.2.2.1.stable hw).mono hs,TysIn.mono hs hw els h.2.2.2⟩⟩
theorem TysIn.mono{w w':World}{F F':Nat→Prop}(hs:∀b,F b→F' b)(hw:∀b,F b→w'.heap[b]?=w.heap[b]?):∀l,TysIn w F l→TysIn w' F' l
 | [],_=>trivial
 | t::r,h=>⟨TyIn.mono hs hw t h.1,TysIn.mono hs hw r h.2⟩
end
theorem TysIn.mem{w:World}{F:Nat→Prop}:∀{l:List Ty},TysIn w F l→∀t∈l,TyIn w F t
 | [],_,_,h=>by simp at h
 | t::r,h,u,hu=>by
  rcases List.mem_cons.1 hu with rfl|hu
  ·exact h.1
  ·exact TysIn.mem h.2 u hu
def bS(v:SV)(l:List Tx):Asn:=⟨fun w F=>SlIn' w F 4 dt (sv v) l∧TxsIn w F l,fun h hs=>⟨h.1.stable hs,TxsIn.mono (fun _ hb=>hb) hs _ h.2⟩⟩
def bF(v:SV)(l:List Ty):Asn:=⟨fun w F=>SlIn' w F 5 eu (sv v) l∧TysIn w F l,fun h hs=>⟨h.1.stable hs,TysIn.mono (fun _ hb=>hb) hs _ h.2⟩⟩
theorem eW{v:SV}{l:List Tx}:∀w G,(bS v l).pred w G→(∀b,G b→b<w.heap.size)→∃G',(sl 4 dt (sv v) l).pred w G'∧∀b,G' b→G b:=fun w G h _=>h.1
theorem fQ{v:SV}{l:List Ty}:∀w G,(bF v l).pred w G→(∀b,G b→b<w.heap.size)→∃G',(sl 5 eu (sv v) l).pred w G'∧∀b,G' b→G b:=fun w G h _=>h.1
theorem cS{v:SV}{l:List Tx}{t:Tx}(ht:t∈l):∀w G,(bS v l).pred w G→(∀b,G b→b<w.heap.size)→∃G',(bS t.v t.kids).pred w G'∧∀b,G' b→G b:=fun w G h _=>by
 have:=h.2.mem t ht;cases t with
 | mk a b c d e=>exact⟨G,this,fun _ hb=>hb⟩
theorem jn{v:SV}{l:List Ty}{t:Ty}(ht:t∈l):∀w G,(bF v l).pred w G→(∀b,G b→b<w.heap.size)→∃G',(bS t.ve t.es).pred w G'∧∀b,G' b→G b:=fun w G h _=>by
 have:=h.2.mem t ht;cases t with
 | mk a b c d e f g i=>exact⟨G,this.1,fun _ hb=>hb⟩
theorem fF{v:SV}{l:List Ty}{t:Ty}(ht:t∈l):∀w G,(bF v l).pred w G→(∀b,G b→b<w.heap.size)→∃G',(bF t.vb t.body).pred w G'∧∀b,G' b→G b:=fun w G h _=>by
 have:=h.2.mem t ht;cases t with
 | mk a b c d e f g i=>exact⟨G,this.2.1,fun _ hb=>hb⟩
theorem gt{v:SV}{l:List Ty}{t:Ty}(ht:t∈l):∀w G,(bF v l).pred w G→(∀b,G b→b<w.heap.size)→∃G',(bF t.vl t.els).pred w G'∧∀b,G' b→G b:=fun w G h _=>by
 have:=h.2.mem t ht;cases t with
 | mk a b c d e f g i=>exact⟨G,this.2.2,fun _ hb=>hb⟩
structure Tf where
 name:ByteArray
 vp:SV
 ps:List ByteArray
 vb:SV
 body:List Ty
def iW(f:Tf):List Value:= [.string f.name,sv f.vp,sv f.vb]
def TfIn(w:World)(F:Nat→Prop)(f:Tf):Prop:=SlIn' w F 1 eS (sv f.vp) f.ps∧(SlIn' w F 5 eu (sv f.vb) f.body∧TysIn w F f.body)
theorem TfIn.stable{w w':World}{F:Nat→Prop}{f:Tf}(h:TfIn w F f)(hs:∀b,F b→w'.heap[b]?=w.heap[b]?):TfIn w' F f:=⟨h.1.stable hs,h.2.1.stable hs,TysIn.mono (fun _ hb=>hb) hs _ h.2.2⟩
def cx(v:SV)(l:List Tf):Asn:=⟨fun w F=>SlIn' w F 3 iW (sv v) l∧∀f∈l,TfIn w F f,fun h hs=>⟨h.1.stable hs,fun f hf=>(h.2 f hf).stable hs⟩⟩
def yL(f:Tf):Asn:=⟨fun w F=>TfIn w F f,fun h hs=>h.stable hs⟩
theorem jo{v:SV}{l:List Tf}:∀w G,(cx v l).pred w G→(∀b,G b→b<w.heap.size)→∃G',(sl 3 iW (sv v) l).pred w G'∧∀b,G' b→G b:=fun w G h _=>h.1
theorem ln{v:SV}{l:List Tf}{f:Tf}(hf:f∈l):∀w G,(cx v l).pred w G→(∀b,G b→b<w.heap.size)→∃G',(yL f).pred w G'∧∀b,G' b→G b:=fun w G h _=>⟨G,h.2 f hf,fun _ hb=>hb⟩
theorem lp{f:Tf}:∀w G,(yL f).pred w G→(∀b,G b→b<w.heap.size)→∃G',(sl 1 eS (sv f.vp) f.ps).pred w G'∧∀b,G' b→G b:=fun w G h _=>h.1
theorem jp{f:Tf}:∀w G,(yL f).pred w G→(∀b,G b→b<w.heap.size)→∃G',(bF f.vb f.body).pred w G'∧∀b,G' b→G b:=fun w G h _=>⟨G,h.2,fun _ hb=>hb⟩
def wU(n:Int):Int:=IntKind.u32.wrap n
def tr(b:Bool):Int:=if b=true then 1 else 0
def d7:ByteArray:=⟨#[45]⟩
def p_:ByteArray:=⟨#[126]⟩
def rC:ByteArray:=⟨#[33]⟩
def e8:ByteArray:=⟨#[43]⟩
def fD:ByteArray:=⟨#[42]⟩
def jc:ByteArray:=⟨#[47]⟩
def jV:ByteArray:=⟨#[37]⟩
def ed:ByteArray:=⟨#[38]⟩
def iO:ByteArray:=⟨#[124]⟩
def em:ByteArray:=⟨#[94]⟩
def fB:ByteArray:=⟨#[60,60]⟩
def fR:ByteArray:=⟨#[62,62]⟩
def kv:ByteArray:=⟨#[60]⟩
def lz:ByteArray:=⟨#[60,61]⟩
def lA:ByteArray:=⟨#[62]⟩
def mE:ByteArray:=⟨#[62,61]⟩
def lB:ByteArray:=⟨#[61,61]⟩
def ly:ByteArray:=⟨#[33,61]⟩
def BJ(op:ByteArray)(a:Int):Option Int:=
 if op=d7 then some (wU (-a))else if op=p_ then some (4294967295-a)else if op=rC then some (tr (decide (a=0)))else none
def nn(op:ByteArray)(a b:Int):Option Int:=
 if op=e8 then some (wU (a+b))else if op=d7 then some (wU (a-b))else if op=fD then some (wU (a*b))else
 if op=jc then some (if b=0 then 0 else a/b)else if op=jV then some (if b=0 then a else a%b)else
 if op=ed then some (bits .and .u32 a b)else if op=iO then some (bits .or .u32 a b)else if op=em then some (bits .xor .u32 a b)else
 if op=fB then some (wU (a*2^(b%32).toNat))else if op=fR then some (a/2^(b%32).toNat)else
 if op=kv then some (tr (decide (a<b)))else if op=lz then some (tr (decide (a≤b)))else if op=lA then some (tr (decide (a>b)))else if op=mE then some (tr (decide (a≥b)))else
 if op=lB then some (tr (decide (a=b)))else if op=ly then some (tr (!decide (a=b)))else none
structure Ms where
 inp:List Int
 out:List Int
 mem:Nat→Int
 fuel:Int
inductive Re(α:Type) where
 | ok (a:α) (s:Ms)
 | err (e:Int)
abbrev Vs:=List (ByteArray×Int)
def gM(vs:Vs)(x:ByteArray):Int:=match vs.find? (fun p=>decide (p.1=x))with
 | some p=>p.2
 | none=>0
def d8(vs:Vs)(x:ByteArray)(n:Int):Vs:=(x,n)::vs.filter fun p=>decide (p.1≠x)
def dM(vs:Vs):List ByteArray→List Int→Vs
 | p::ps,a::al=>dM (d8 vs p a) ps al
 | _,_=>vs
def cm(fs:List Tf)(x:ByteArray):Option Tf:=fs.find? fun f=>decide (f.name=x)
def rG(m:Nat→Int)(i:Nat)(v:Int):Nat→Int:=fun k=>if k=i then v else m k
mutual
def eo:Nat→List Tf→Nat→Vs→Tx→Ms→Option (Re Int)
 | 0,_,_,_,_,_=>none
 | g+1,fs,d,vs,t,s=>if s.fuel≤0 then some (.err 25)else
  match fY g fs d vs [] t.kids {s with fuel:=s.fuel-1}with
  | none=>none
  | some (.err e)=>some (.err e)
  | some (.ok ks s1)=>
   if t.kind=1 then some (.ok t.n s1)else if t.kind=2 then some (.ok (gM vs t.name) s1)else
   if t.kind=4 then some (.ok (s1.mem (ks.getD 0 0%256).toNat) s1)else
   if t.kind=5 then(match s1.inp with
    | []=>some (.ok 0 s1)
    | a::r=>some (.ok a {s1 with inp:=r}))else
   if t.kind=6 then some (.ok ((BJ t.name (ks.getD 0 0)).getD 0) s1)else if t.kind=7 then some (.ok ((nn t.name (ks.getD 0 0) (ks.getD 1 0)).getD 0) s1)else
   match cm fs t.name with
   | none=>none
   | some f=>jR g fs d f ks s1
def fY:Nat→List Tf→Nat→Vs→List Int→List Tx→Ms→Option (Re (List Int))
 | 0,_,_,_,_,_,_=>none
 | _+1,_,_,_,acc,[],s=>some (.ok acc s)
 | g+1,fs,d,vs,acc,t::r,s=>match eo g fs d vs t s with
  | none=>none
  | some (.err e)=>some (.err e)
  | some (.ok v s1)=>fY g fs d vs (acc++ [v]) r s1
def jR:Nat→List Tf→Nat→Tf→List Int→Ms→Option (Re Int)
 | 0,_,_,_,_,_=>none
 | g+1,fs,d,f,al,s=>if d=12 then some (.err 26)else
  match fI g fs (d+1) (dM [] f.ps al) f.body s with
  | none=>none
  | some (.err e)=>some (.err e)
  | some (.ok (_,r) s1)=>some (.ok (r.getD 0) s1)
def fI:Nat→List Tf→Nat→Vs→List Ty→Ms→Option (Re (Vs×Option Int))
 | 0,_,_,_,_,_=>none
 | _+1,_,_,vs,[],s=>some (.ok (vs,none) s)
 | g+1,fs,d,vs,t::r,s=>match gK g fs d vs t s with
  | none=>none
  | some (.err e)=>some (.err e)
  | some (.ok (vs1,some x) s1)=>some (.ok (vs1,some x) s1)
  | some (.ok (vs1,none) s1)=>fI g fs d vs1 r s1
def gK:Nat→List Tf→Nat→Vs→Ty→Ms→Option (Re (Vs×Option Int))
 | 0,_,_,_,_,_=>none
 | g+1,fs,d,vs,t,s=>if s.fuel≤0 then some (.err 25)else
  match t.es with
  | []=>none
  | e::es=>match eo g fs d vs e {s with fuel:=s.fuel-1}with
   | none=>none
   | some (.err e)=>some (.err e)
   | some (.ok v s1)=>
    if t.kind=1∨t.kind=2 then some (.ok (d8 vs t.name v,none) s1)else
    if t.kind=3 then(match es with
     | []=>none
     | e2::_=>match eo g fs d vs e2 s1 with
      | none=>none
      | some (.err e)=>some (.err e)
      | some (.ok w s2)=>some (.ok (vs,none) {s2 with mem:=rG s2.mem (v%256).toNat w}))else
    if t.kind=4 then fI g fs d vs (if v=0 then t.els else t.body) s1 else
    if t.kind=5 then i9 g fs d vs e t.body v s1 else
    if t.kind=6 then some (.ok (vs,some v) s1)else if t.kind=7 then some (.ok (vs,none) {s1 with out:=s1.out++ [v]})else some (.ok (vs,none) s1)
def i9:Nat→List Tf→Nat→Vs→Tx→List Ty→Int→Ms→Option (Re (Vs×Option Int))
 | 0,_,_,_,_,_,_,_=>none
 | g+1,fs,d,vs,e,l,v,s=>if v=0 then some (.ok (vs,none) s)else
  match fI g fs d vs l s with
  | none=>none
  | some (.err e)=>some (.err e)
  | some (.ok (vs1,some x) s1)=>some (.ok (vs1,some x) s1)
  | some (.ok (vs1,none) s1)=>match eo g fs d vs1 e s1 with
   | none=>none
   | some (.err e)=>some (.err e)
   | some (.ok w s2)=>i9 g fs d vs1 e l w s2
end
end Go.Proofs.YtedmdgbmdplifaaGreat
namespace Go.Proofs.YtedmdgbmdplifaaGreat
open Go.RowKit Tryz
set_option linter.unusedVariables false
theorem t1:TI prog 1 (Go.TypeDesc.func #[] #[] Bool.false) (.nilFunc) 1 8:=⟨underlying1,by kernel_rfl⟩
theorem t3:TI prog 3 (Go.TypeDesc.int Go.IntKind.i64) (.int .i64 0) 1 8:=⟨underlying3,by kernel_rfl⟩
theorem t4:TI prog 4 Go.TypeDesc.bool (.bool false) 1 1:=⟨underlying4,by kernel_rfl⟩
theorem t5:TI prog 5 (Go.TypeDesc.int Go.IntKind.u8) (.int .u8 0) 1 1:=⟨underlying5,by kernel_rfl⟩
theorem t9:TI prog 9 Go.TypeDesc.string (.string ⟨#[]⟩) 1 16:=⟨underlying9,by kernel_rfl⟩
theorem Fl:TI prog 22 (Go.TypeDesc.slice 3) (.slice none 0 0) 1 24:=⟨underlying22,by kernel_rfl⟩
theorem mh:TI prog 25 (Go.TypeDesc.slice 66) (.slice none 0 0) 1 24:=⟨underlying25,by kernel_rfl⟩
theorem i7:TI prog 27 (Go.TypeDesc.struct #[(Go.Field.mk "Funcs" 25 0 Bool.false "" "" 0)]) (.agg #[.slice none 0 0]) 1 24:=⟨underlying27,by kernel_rfl⟩
theorem de:FO prog 27 0 0:=⟨_,_,0,underlying27,rfl,rfl,by kernel_rfl⟩
theorem Pd:PL prog 27 [(0,1)]:=⟨_,underlying27,by kernel_rfl⟩
theorem qW:TI prog 31 (Go.TypeDesc.struct #[(Go.Field.mk "Kind" 3 0 Bool.false "" "" 0),(Go.Field.mk "Code" 9 1 Bool.false "" "" 8)]) (.agg #[.int .i64 0,.string ⟨#[]⟩]) 2 24:=⟨underlying31,by kernel_rfl⟩
theorem DX:FO prog 31 0 0:=⟨_,_,0,underlying31,rfl,rfl,by kernel_rfl⟩
theorem iD:FO prog 31 1 1:=⟨_,_,0,underlying31,rfl,rfl,by kernel_rfl⟩
theorem Jp:PL prog 31 [(0,1),(1,1)]:=⟨_,underlying31,by kernel_rfl⟩
theorem nf:TI prog 32 (Go.TypeDesc.int Go.IntKind.i64) (.int .i64 0) 1 8:=⟨underlying32,by kernel_rfl⟩
theorem cB:TI prog 41 (Go.TypeDesc.int Go.IntKind.u32) (.int .u32 0) 1 4:=⟨underlying41,by kernel_rfl⟩
theorem gu:TI prog 46 (Go.TypeDesc.slice 9) (.slice none 0 0) 1 24:=⟨underlying46,by kernel_rfl⟩
theorem oo:TI prog 48 (Go.TypeDesc.slice 41) (.slice none 0 0) 1 24:=⟨underlying48,by kernel_rfl⟩
theorem wB:TI prog 53 (Go.TypeDesc.struct #[(Go.Field.mk "Kind" 3 0 Bool.false "" "" 0),(Go.Field.mk "Info" 41 1 Bool.false "" "" 8)]) (.agg #[.int .i64 0,.int .u32 0]) 2 16:=⟨underlying53,by kernel_rfl⟩
theorem lS:FO prog 53 0 0:=⟨_,_,0,underlying53,rfl,rfl,by kernel_rfl⟩
theorem xT:FO prog 53 1 1:=⟨_,_,0,underlying53,rfl,rfl,by kernel_rfl⟩
theorem Jn:PL prog 53 [(0,1),(1,1)]:=⟨_,underlying53,by kernel_rfl⟩
theorem uE:TI prog 55 (Go.TypeDesc.struct #[(Go.Field.mk "Outputs" 48 0 Bool.false "" "" 0),(Go.Field.mk "Mem" 48 1 Bool.false "" "" 24),(Go.Field.mk "End" 53 2 Bool.false "" "" 48)]) (.agg #[.slice none 0 0,.slice none 0 0,.int .i64 0,.int .u32 0]) 4 64:=⟨underlying55,by kernel_rfl⟩
theorem nL:FO prog 55 0 0:=⟨_,_,0,underlying55,rfl,rfl,by kernel_rfl⟩
theorem nK:FO prog 55 1 1:=⟨_,_,0,underlying55,rfl,rfl,by kernel_rfl⟩
theorem nJ:FO prog 55 2 2:=⟨_,_,1,underlying55,rfl,rfl,by kernel_rfl⟩
theorem Pc:PL prog 55 [(0,1),(1,1),(2,2)]:=⟨_,underlying55,by kernel_rfl⟩
theorem ij:TI prog 59 (Go.TypeDesc.slice 61) (.slice none 0 0) 1 24:=⟨underlying59,by kernel_rfl⟩
theorem co:TI prog 61 (Go.TypeDesc.struct #[(Go.Field.mk "Kind" 3 0 Bool.false "" "" 0),(Go.Field.mk "N" 41 1 Bool.false "" "" 8),(Go.Field.mk "Name" 9 2 Bool.false "" "" 16),(Go.Field.mk "Kids" 59 3 Bool.false "" "" 32)]) (.agg #[.int .i64 0,.int .u32 0,.string ⟨#[]⟩,.slice none 0 0]) 4 56:=⟨underlying61,by kernel_rfl⟩
theorem iC:FO prog 61 0 0:=⟨_,_,0,underlying61,rfl,rfl,by kernel_rfl⟩
theorem tV:FO prog 61 1 1:=⟨_,_,0,underlying61,rfl,rfl,by kernel_rfl⟩
theorem cZ:FO prog 61 2 2:=⟨_,_,0,underlying61,rfl,rfl,by kernel_rfl⟩
theorem dc:FO prog 61 3 3:=⟨_,_,0,underlying61,rfl,rfl,by kernel_rfl⟩
theorem pM:PL prog 61 [(0,1),(1,1),(2,1),(3,1)]:=⟨_,underlying61,by kernel_rfl⟩
theorem hQ:TI prog 62 (Go.TypeDesc.slice 64) (.slice none 0 0) 1 24:=⟨underlying62,by kernel_rfl⟩
theorem dJ:TI prog 64 (Go.TypeDesc.struct #[(Go.Field.mk "Kind" 3 0 Bool.false "" "" 0),(Go.Field.mk "Name" 9 1 Bool.false "" "" 8),(Go.Field.mk "Exprs" 59 2 Bool.false "" "" 24),(Go.Field.mk "Body" 62 3 Bool.false "" "" 48),(Go.Field.mk "Else" 62 4 Bool.false "" "" 72)]) (.agg #[.int .i64 0,.string ⟨#[]⟩,.slice none 0 0,.slice none 0 0,.slice none 0 0]) 5 96:=⟨underlying64,by kernel_rfl⟩
theorem dT:FO prog 64 0 0:=⟨_,_,0,underlying64,rfl,rfl,by kernel_rfl⟩
theorem gn:FO prog 64 1 1:=⟨_,_,0,underlying64,rfl,rfl,by kernel_rfl⟩
theorem e9:FO prog 64 2 2:=⟨_,_,0,underlying64,rfl,rfl,by kernel_rfl⟩
theorem fi:FO prog 64 3 3:=⟨_,_,0,underlying64,rfl,rfl,by kernel_rfl⟩
theorem ez:FO prog 64 4 4:=⟨_,_,0,underlying64,rfl,rfl,by kernel_rfl⟩
theorem oq:PL prog 64 [(0,1),(1,1),(2,1),(3,1),(4,1)]:=⟨_,underlying64,by kernel_rfl⟩
theorem ge:TI prog 66 (Go.TypeDesc.struct #[(Go.Field.mk "Name" 9 0 Bool.false "" "" 0),(Go.Field.mk "Params" 46 1 Bool.false "" "" 16),(Go.Field.mk "Body" 62 2 Bool.false "" "" 40)]) (.agg #[.string ⟨#[]⟩,.slice none 0 0,.slice none 0 0]) 3 64:=⟨underlying66,by kernel_rfl⟩
theorem jD:FO prog 66 0 0:=⟨_,_,0,underlying66,rfl,rfl,by kernel_rfl⟩
theorem dA:FO prog 66 1 1:=⟨_,_,0,underlying66,rfl,rfl,by kernel_rfl⟩
theorem iB:FO prog 66 2 2:=⟨_,_,0,underlying66,rfl,rfl,by kernel_rfl⟩
theorem L7:PL prog 66 [(0,1),(1,1),(2,1)]:=⟨_,underlying66,by kernel_rfl⟩
theorem wA:TI prog 78 (Go.TypeDesc.struct #[(Go.Field.mk "PC" 41 0 Bool.false "" "" 0),(Go.Field.mk "R" 75 1 Bool.false "" "" 4),(Go.Field.mk "F" 41 17 Bool.false "" "" 68),(Go.Field.mk "C" 76 18 Bool.false "" "" 72),(Go.Field.mk "Steps" 3 22 Bool.false "" "" 88),(Go.Field.mk "Due" 3 23 Bool.false "" "" 96)]) (.agg #[.int .u32 0,.int .u32 0,.int .u32 0,.int .u32 0,.int .u32 0,.int .u32 0,.int .u32 0,.int .u32 0,.int .u32 0,.int .u32 0,.int .u32 0,.int .u32 0,.int .u32 0,.int .u32 0,.int .u32 0,.int .u32 0,.int .u32 0,.int .u32 0,.int .u32 0,.int .u32 0,.int .u32 0,.int .u32 0,.int .i64 0,.int .i64 0]) 24 104:=⟨underlying78,by kernel_rfl⟩
theorem gS:FO prog 78 0 0:=⟨_,_,0,underlying78,rfl,rfl,by kernel_rfl⟩
theorem fS:FO prog 78 1 1:=⟨_,_,15,underlying78,rfl,rfl,by kernel_rfl⟩
theorem Ki:FO prog 78 2 17:=⟨_,_,0,underlying78,rfl,rfl,by kernel_rfl⟩
theorem gQ:FO prog 78 4 22:=⟨_,_,0,underlying78,rfl,rfl,by kernel_rfl⟩
theorem tU:FO prog 78 5 23:=⟨_,_,0,underlying78,rfl,rfl,by kernel_rfl⟩
theorem Pb:PL prog 78 [(0,1),(1,16),(17,1),(18,4),(22,1),(23,1)]:=⟨_,underlying78,by kernel_rfl⟩
theorem wV:TI prog 84 (Go.TypeDesc.slice 5) (.slice none 0 0) 1 24:=⟨underlying84,by kernel_rfl⟩
theorem uD:TI prog 91 (Go.TypeDesc.pointer 157) (.pointer none) 1 8:=⟨underlying91,by kernel_rfl⟩
theorem Rh:TI prog 93 (Go.TypeDesc.struct #[(Go.Field.mk "S" 78 0 Bool.false "" "" 0),(Go.Field.mk "M" 91 24 Bool.false "" "" 104)]) (.agg #[.int .u32 0,.int .u32 0,.int .u32 0,.int .u32 0,.int .u32 0,.int .u32 0,.int .u32 0,.int .u32 0,.int .u32 0,.int .u32 0,.int .u32 0,.int .u32 0,.int .u32 0,.int .u32 0,.int .u32 0,.int .u32 0,.int .u32 0,.int .u32 0,.int .u32 0,.int .u32 0,.int .u32 0,.int .u32 0,.int .i64 0,.int .i64 0,.pointer none]) 25 112:=⟨underlying93,by kernel_rfl⟩
theorem dG:FO prog 93 0 0:=⟨_,_,23,underlying93,rfl,rfl,by kernel_rfl⟩
theorem fh:FO prog 93 1 24:=⟨_,_,0,underlying93,rfl,rfl,by kernel_rfl⟩
theorem Pa:PL prog 93 [(0,24),(24,1)]:=⟨_,underlying93,by kernel_rfl⟩
theorem ke:TI prog 104 (Go.TypeDesc.pointer 111) (.pointer none) 1 8:=⟨underlying104,by kernel_rfl⟩
theorem Cd:TI prog 105 (Go.TypeDesc.map 9 3) (.map none) 1 8:=⟨underlying105,by kernel_rfl⟩
theorem AM:TI prog 106 (Go.TypeDesc.slice 118) (.slice none 0 0) 1 24:=⟨underlying106,by kernel_rfl⟩
theorem Fp:TI prog 107 (Go.TypeDesc.slice 171) (.slice none 0 0) 1 24:=⟨underlying107,by kernel_rfl⟩
theorem AL:TI prog 108 (Go.TypeDesc.map 9 41) (.map none) 1 8:=⟨underlying108,by kernel_rfl⟩
theorem LK:TI prog 109 (Go.TypeDesc.map 9 1) (.map none) 1 8:=⟨underlying109,by kernel_rfl⟩
theorem OW:TI prog 111 (Go.TypeDesc.struct #[(Go.Field.mk "p" 27 0 Bool.false "" "babel/qgen" 0),(Go.Field.mk "code" 106 1 Bool.false "" "babel/qgen" 24),(Go.Field.mk "fixes" 107 2 Bool.false "" "babel/qgen" 48),(Go.Field.mk "labels" 22 3 Bool.false "" "babel/qgen" 72),(Go.Field.mk "starts" 105 4 Bool.false "" "babel/qgen" 96),(Go.Field.mk "offs" 108 5 Bool.false "" "babel/qgen" 104),(Go.Field.mk "ops" 109 6 Bool.false "" "babel/qgen" 112),(Go.Field.mk "end" 3 7 Bool.false "" "babel/qgen" 120)]) (.agg #[.slice none 0 0,.slice none 0 0,.slice none 0 0,.slice none 0 0,.map none,.map none,.map none,.int .i64 0]) 8 128:=⟨underlying111,by kernel_rfl⟩
theorem kY:FO prog 111 1 1:=⟨_,_,0,underlying111,rfl,rfl,by kernel_rfl⟩
theorem o_:FO prog 111 2 2:=⟨_,_,0,underlying111,rfl,rfl,by kernel_rfl⟩
theorem m5:FO prog 111 3 3:=⟨_,_,0,underlying111,rfl,rfl,by kernel_rfl⟩
theorem m4:FO prog 111 4 4:=⟨_,_,0,underlying111,rfl,rfl,by kernel_rfl⟩
theorem kX:FO prog 111 5 5:=⟨_,_,0,underlying111,rfl,rfl,by kernel_rfl⟩
theorem z9:FO prog 111 6 6:=⟨_,_,0,underlying111,rfl,rfl,by kernel_rfl⟩
theorem t7:FO prog 111 7 7:=⟨_,_,0,underlying111,rfl,rfl,by kernel_rfl⟩
theorem Mf:PL prog 111 [(0,1),(1,1),(2,1),(3,1),(4,1),(5,1),(6,1),(7,1)]:=⟨_,underlying111,by kernel_rfl⟩
theorem ew:TI prog 118 (Go.TypeDesc.struct #[(Go.Field.mk "Op" 3 0 Bool.false "" "" 0),(Go.Field.mk "D" 3 1 Bool.false "" "" 8),(Go.Field.mk "A" 3 2 Bool.false "" "" 16),(Go.Field.mk "B" 3 3 Bool.false "" "" 24),(Go.Field.mk "Imm" 41 4 Bool.false "" "" 32)]) (.agg #[.int .i64 0,.int .i64 0,.int .i64 0,.int .i64 0,.int .u32 0]) 5 40:=⟨underlying118,by kernel_rfl⟩
theorem bl:FO prog 118 0 0:=⟨_,_,0,underlying118,rfl,rfl,by kernel_rfl⟩
theorem fN:FO prog 118 1 1:=⟨_,_,0,underlying118,rfl,rfl,by kernel_rfl⟩
theorem kW:FO prog 118 2 2:=⟨_,_,0,underlying118,rfl,rfl,by kernel_rfl⟩
theorem kV:FO prog 118 3 3:=⟨_,_,0,underlying118,rfl,rfl,by kernel_rfl⟩
theorem dk:FO prog 118 4 4:=⟨_,_,0,underlying118,rfl,rfl,by kernel_rfl⟩
theorem lw:PL prog 118 [(0,1),(1,1),(2,1),(3,1),(4,1)]:=⟨_,underlying118,by kernel_rfl⟩
theorem eY:TI prog 124 (Go.TypeDesc.struct #[(Go.Field.mk "Nodes" 3 0 Bool.false "" "" 0),(Go.Field.mk "Vars" 3 1 Bool.false "" "" 8),(Go.Field.mk "Stmts" 3 2 Bool.false "" "" 16),(Go.Field.mk "Exprs" 3 3 Bool.false "" "" 24)]) (.agg #[.int .i64 0,.int .i64 0,.int .i64 0,.int .i64 0]) 4 32:=⟨underlying124,by kernel_rfl⟩
theorem jF:FO prog 124 0 0:=⟨_,_,0,underlying124,rfl,rfl,by kernel_rfl⟩
theorem mZ:FO prog 124 1 1:=⟨_,_,0,underlying124,rfl,rfl,by kernel_rfl⟩
theorem mY:FO prog 124 2 2:=⟨_,_,0,underlying124,rfl,rfl,by kernel_rfl⟩
theorem mX:FO prog 124 3 3:=⟨_,_,0,underlying124,rfl,rfl,by kernel_rfl⟩
theorem CS:PL prog 124 [(0,1),(1,1),(2,1),(3,1)]:=⟨_,underlying124,by kernel_rfl⟩
theorem OV:TI prog 128 (Go.TypeDesc.struct #[(Go.Field.mk "p" 27 0 Bool.false "" "babel/babelref08" 0),(Go.Field.mk "names" 46 1 Bool.false "" "babel/babelref08" 24)]) (.agg #[.slice none 0 0,.slice none 0 0]) 2 48:=⟨underlying128,by kernel_rfl⟩
theorem z8:FO prog 128 0 0:=⟨_,_,0,underlying128,rfl,rfl,by kernel_rfl⟩
theorem g_:FO prog 128 1 1:=⟨_,_,0,underlying128,rfl,rfl,by kernel_rfl⟩
theorem Md:PL prog 128 [(0,1),(1,1)]:=⟨_,underlying128,by kernel_rfl⟩
theorem nu:TI prog 136 (Go.TypeDesc.struct #[(Go.Field.mk "Outputs" 48 0 Bool.false "" "" 0),(Go.Field.mk "Mem" 48 1 Bool.false "" "" 24),(Go.Field.mk "Err" 32 2 Bool.false "" "" 48)]) (.agg #[.slice none 0 0,.slice none 0 0,.int .i64 0]) 3 56:=⟨underlying136,by kernel_rfl⟩
theorem GZ:FO prog 136 0 0:=⟨_,_,0,underlying136,rfl,rfl,by kernel_rfl⟩
theorem GW:FO prog 136 1 1:=⟨_,_,0,underlying136,rfl,rfl,by kernel_rfl⟩
theorem z7:FO prog 136 2 2:=⟨_,_,0,underlying136,rfl,rfl,by kernel_rfl⟩
theorem CQ:PL prog 136 [(0,1),(1,1),(2,1)]:=⟨_,underlying136,by kernel_rfl⟩
theorem AK:TI prog 157 (Go.TypeDesc.struct #[(Go.Field.mk "Data" 84 0 Bool.false "" "" 0),(Go.Field.mk "Image" 84 1 Bool.false "" "" 24),(Go.Field.mk "OldData" 84 2 Bool.false "" "" 48),(Go.Field.mk "OldImage" 84 3 Bool.false "" "" 72),(Go.Field.mk "Rights" 22 4 Bool.false "" "" 96),(Go.Field.mk "Coherent" 4 5 Bool.false "" "" 120)]) (.agg #[.slice none 0 0,.slice none 0 0,.slice none 0 0,.slice none 0 0,.slice none 0 0,.bool false]) 6 128:=⟨underlying157,by kernel_rfl⟩
theorem kU:FO prog 157 0 0:=⟨_,_,0,underlying157,rfl,rfl,by kernel_rfl⟩
theorem o9:FO prog 157 1 1:=⟨_,_,0,underlying157,rfl,rfl,by kernel_rfl⟩
theorem GV:FO prog 157 3 3:=⟨_,_,0,underlying157,rfl,rfl,by kernel_rfl⟩
theorem o8:FO prog 157 4 4:=⟨_,_,0,underlying157,rfl,rfl,by kernel_rfl⟩
theorem t6:FO prog 157 5 5:=⟨_,_,0,underlying157,rfl,rfl,by kernel_rfl⟩
theorem r8:PL prog 157 [(0,1),(1,1),(2,1),(3,1),(4,1),(5,1)]:=⟨_,underlying157,by kernel_rfl⟩
theorem OU:TI prog 165 (Go.TypeDesc.struct #[(Go.Field.mk "p" 27 0 Bool.false "" "babel/syntax" 0),(Go.Field.mk "names" 46 1 Bool.false "" "babel/syntax" 24),(Go.Field.mk "nodes" 3 2 Bool.false "" "babel/syntax" 48),(Go.Field.mk "vars" 3 3 Bool.false "" "babel/syntax" 56),(Go.Field.mk "deep" 4 4 Bool.false "" "babel/syntax" 64),(Go.Field.mk "err" 32 5 Bool.false "" "babel/syntax" 72)]) (.agg #[.slice none 0 0,.slice none 0 0,.int .i64 0,.int .i64 0,.bool false,.int .i64 0]) 6 80:=⟨underlying165,by kernel_rfl⟩
theorem zZ:FO prog 165 0 0:=⟨_,_,0,underlying165,rfl,rfl,by kernel_rfl⟩
theorem mW:FO prog 165 1 1:=⟨_,_,0,underlying165,rfl,rfl,by kernel_rfl⟩
theorem kT:FO prog 165 2 2:=⟨_,_,0,underlying165,rfl,rfl,by kernel_rfl⟩
theorem oZ:FO prog 165 3 3:=⟨_,_,0,underlying165,rfl,rfl,by kernel_rfl⟩
theorem mV:FO prog 165 4 4:=⟨_,_,0,underlying165,rfl,rfl,by kernel_rfl⟩
theorem tZ:FO prog 165 5 5:=⟨_,_,0,underlying165,rfl,rfl,by kernel_rfl⟩
theorem Mc:PL prog 165 [(0,1),(1,1),(2,1),(3,1),(4,1),(5,1)]:=⟨_,underlying165,by kernel_rfl⟩
theorem wZ:TI prog 171 (Go.TypeDesc.struct #[(Go.Field.mk "at" 3 0 Bool.false "" "babel/qgen" 0),(Go.Field.mk "label" 3 1 Bool.false "" "babel/qgen" 8)]) (.agg #[.int .i64 0,.int .i64 0]) 2 16:=⟨underlying171,by kernel_rfl⟩
theorem zU:FO prog 171 0 0:=⟨_,_,0,underlying171,rfl,rfl,by kernel_rfl⟩
theorem GU:FO prog 171 1 1:=⟨_,_,0,underlying171,rfl,rfl,by kernel_rfl⟩
theorem Mb:PL prog 171 [(0,1),(1,1)]:=⟨_,underlying171,by kernel_rfl⟩
theorem I4:TI prog 175 (Go.TypeDesc.pointer 177) (.pointer none) 1 8:=⟨underlying175,by kernel_rfl⟩
theorem Fm:TI prog 177 (Go.TypeDesc.struct #[(Go.Field.mk "addr" 175 0 Bool.false "" "strings" 0),(Go.Field.mk "buf" 84 1 Bool.false "" "strings" 8)]) (.agg #[.pointer none,.slice none 0 0]) 2 32:=⟨underlying177,by kernel_rfl⟩
theorem tY:FO prog 177 0 0:=⟨_,_,0,underlying177,rfl,rfl,by kernel_rfl⟩
theorem oY:FO prog 177 1 1:=⟨_,_,0,underlying177,rfl,rfl,by kernel_rfl⟩
theorem nt:TI prog 192 (Go.TypeDesc.slice 197) (.slice none 0 0) 1 24:=⟨underlying192,by kernel_rfl⟩
theorem OT:TI prog 195 (Go.TypeDesc.struct #[(Go.Field.mk "l" 192 0 Bool.false "" "babel/babelref08" 0),(Go.Field.mk "at" 3 1 Bool.false "" "babel/babelref08" 24),(Go.Field.mk "off" 3 2 Bool.false "" "babel/babelref08" 32),(Go.Field.mk "err" 32 3 Bool.false "" "babel/babelref08" 40)]) (.agg #[.slice none 0 0,.int .i64 0,.int .i64 0,.int .i64 0]) 4 48:=⟨underlying195,by kernel_rfl⟩
theorem fq:FO prog 195 0 0:=⟨_,_,0,underlying195,rfl,rfl,by kernel_rfl⟩
theorem bR:FO prog 195 1 1:=⟨_,_,0,underlying195,rfl,rfl,by kernel_rfl⟩
theorem gw:FO prog 195 3 3:=⟨_,_,0,underlying195,rfl,rfl,by kernel_rfl⟩
theorem Ma:PL prog 195 [(0,1),(1,1),(2,1),(3,1)]:=⟨_,underlying195,by kernel_rfl⟩
theorem d6:TI prog 197 (Go.TypeDesc.struct #[(Go.Field.mk "Kind" 3 0 Bool.false "" "" 0),(Go.Field.mk "Text" 9 1 Bool.false "" "" 8),(Go.Field.mk "N" 41 2 Bool.false "" "" 24),(Go.Field.mk "Big" 4 3 Bool.false "" "" 28),(Go.Field.mk "At" 3 4 Bool.false "" "" 32)]) (.agg #[.int .i64 0,.string ⟨#[]⟩,.int .u32 0,.bool false,.int .i64 0]) 5 40:=⟨underlying197,by kernel_rfl⟩
theorem dH:FO prog 197 0 0:=⟨_,_,0,underlying197,rfl,rfl,by kernel_rfl⟩
theorem dx:FO prog 197 1 1:=⟨_,_,0,underlying197,rfl,rfl,by kernel_rfl⟩
theorem zT:FO prog 197 2 2:=⟨_,_,0,underlying197,rfl,rfl,by kernel_rfl⟩
theorem zS:FO prog 197 3 3:=⟨_,_,0,underlying197,rfl,rfl,by kernel_rfl⟩
theorem HL:PL prog 197 [(0,1),(1,1),(2,1),(3,1),(4,1)]:=⟨_,underlying197,by kernel_rfl⟩
theorem OS:TI prog 204 (Go.TypeDesc.struct #[(Go.Field.mk "P" 27 0 Bool.false "" "" 0),(Go.Field.mk "In" 48 1 Bool.false "" "" 24),(Go.Field.mk "Out" 48 2 Bool.false "" "" 48),(Go.Field.mk "Mem" 202 3 Bool.false "" "" 72),(Go.Field.mk "Fuel" 3 259 Bool.false "" "" 1096),(Go.Field.mk "Used" 3 260 Bool.false "" "" 1104),(Go.Field.mk "Err" 32 261 Bool.false "" "" 1112)]) (.agg #[.slice none 0 0,.slice none 0 0,.slice none 0 0,.int .u32 0,.int .u32 0,.int .u32 0,.int .u32 0,.int .u32 0,.int .u32 0,.int .u32 0,.int .u32 0,.int .u32 0,.int .u32 0,.int .u32 0,.int .u32 0,.int .u32 0,.int .u32 0,.int .u32 0,.int .u32 0,.int .u32 0,.int .u32 0,.int .u32 0,.int .u32 0,.int .u32 0,.int .u32 0,.int .u32 0,.int .u32 0,.int .u32 0,.int .u32 0,.int .u32 0,.int .u32 0,.int .u32 0,.int .u32 0,.int .u32 0,.int .u32 0,.int .u32 0,.int .u32 0,.int .u32 0,.int .u32 0,.int .u32 0,.int .u32 0,.int .u32 0,.int .u32 0,.int .u32 0,.int .u32 0,.int .u32 0,.int .u32 0,.int .u32 0,.int .u32 0,.int .u32 0,.int .u32 0,.int .u32 0,.int .u32 0,.int .u32 0,.int .u32 0,.int .u32 0,.int .u32 0,.int .u32 0,.int .u32 0,.int .u32 0,.int .u32 0,.int .u32 0,.int .u32 0,.int .u32 0,.int .u32 0,.int .u32 0,.int .u32 0,.int .u32 0,.int .u32 0,.int .u32 0,.int .u32 0,.int .u32 0,.int .u32 0,.int .u32 0,.int .u32 0,.int .u32 0,.int .u32 0,.int .u32 0,.int .u32 0,.int .u32 0,.int .u32 0,.int .u32 0,.int .u32 0,.int .u32 0,.int .u32 0,.int .u32 0,.int .u32 0,.int .u32 0,.int .u32 0,.int .u32 0,.int .u32 0,.int .u32 0,.int .u32 0,.int .u32 0,.int .u32 0,.int .u32 0,.int .u32 0,.int .u32 0,.int .u32 0,.int .u32 0,.int .u32 0,.int .u32 0,.int .u32 0,.int .u32 0,.int .u32 0,.int .u32 0,.int .u32 0,.int .u32 0,.int .u32 0,.int .u32 0,.int .u32 0,.int .u32 0,.int .u32 0,.int .u32 0,.int .u32 0,.int .u32 0,.int .u32 0,.int .u32 0,.int .u32 0,.int .u32 0,.int .u32 0,.int .u32 0,.int .u32 0,.int .u32 0,.int .u32 0,.int .u32 0,.int .u32 0,.int .u32 0,.int .u32 0,.int .u32 0,.int .u32 0,.int .u32 0,.int .u32 0,.int .u32 0,.int .u32 0,.int .u32 0,.int .u32 0,.int .u32 0,.int .u32 0,.int .u32 0,.int .u32 0,.int .u32 0,.int .u32 0,.int .u32 0,.int .u32 0,.int .u32 0,.int .u32 0,.int .u32 0,.int .u32 0,.int .u32 0,.int .u32 0,.int .u32 0,.int .u32 0,.int .u32 0,.int .u32 0,.int .u32 0,.int .u32 0,.int .u32 0,.int .u32 0,.int .u32 0,.int .u32 0,.int .u32 0,.int .u32 0,.int .u32 0,.int .u32 0,.int .u32 0,.int .u32 0,.int .u32 0,.int .u32 0,.int .u32 0,.int .u32 0,.int .u32 0,.int .u32 0,.int .u32 0,.int .u32 0,.int .u32 0,.int .u32 0,.int .u32 0,.int .u32 0,.int .u32 0,.int .u32 0,.int .u32 0,.int .u32 0,.int .u32 0,.int .u32 0,.int .u32 0,.int .u32 0,.int .u32 0,.int .u32 0,.int .u32 0,.int .u32 0,.int .u32 0,.int .u32 0,.int .u32 0,.int .u32 0,.int .u32 0,.int .u32 0,.int .u32 0,.int .u32 0,.int .u32 0,.int .u32 0,.int .u32 0,.int .u32 0,.int .u32 0,.int .u32 0,.int .u32 0,.int .u32 0,.int .u32 0,.int .u32 0,.int .u32 0,.int .u32 0,.int .u32 0,.int .u32 0,.int .u32 0,.int .u32 0,.int .u32 0,.int .u32 0,.int .u32 0,.int .u32 0,.int .u32 0,.int .u32 0,.int .u32 0,.int .u32 0,.int .u32 0,.int .u32 0,.int .u32 0,.int .u32 0,.int .u32 0,.int .u32 0,.int .u32 0,.int .u32 0,.int .u32 0,.int .u32 0,.int .u32 0,.int .u32 0,.int .u32 0,.int .u32 0,.int .u32 0,.int .u32 0,.int .u32 0,.int .u32 0,.int .u32 0,.int .u32 0,.int .u32 0,.int .u32 0,.int .u32 0,.int .u32 0,.int .u32 0,.int .u32 0,.int .u32 0,.int .u32 0,.int .u32 0,.int .u32 0,.int .u32 0,.int .u32 0,.int .u32 0,.int .u32 0,.int .u32 0,.int .u32 0,.int .i64 0,.int .i64 0,.int .i64 0]) 262 1120:=⟨underlying204,by kernel_rfl⟩
theorem jE:FO prog 204 0 0:=⟨_,_,0,underlying204,rfl,rfl,by kernel_rfl⟩
theorem oX:FO prog 204 1 1:=⟨_,_,0,underlying204,rfl,rfl,by kernel_rfl⟩
theorem tX:FO prog 204 2 2:=⟨_,_,0,underlying204,rfl,rfl,by kernel_rfl⟩
theorem tW:FO prog 204 3 3:=⟨_,_,255,underlying204,rfl,rfl,by kernel_rfl⟩
theorem zQ:FO prog 204 4 259:=⟨_,_,0,underlying204,rfl,rfl,by kernel_rfl⟩
theorem oV:FO prog 204 5 260:=⟨_,_,0,underlying204,rfl,rfl,by kernel_rfl⟩
theorem fp:FO prog 204 6 261:=⟨_,_,0,underlying204,rfl,rfl,by kernel_rfl⟩
theorem L_:PL prog 204 [(0,1),(1,1),(2,1),(3,256),(259,1),(260,1),(261,1)]:=⟨_,underlying204,by kernel_rfl⟩
theorem lf:TI prog 207 (Go.TypeDesc.struct #[(Go.Field.mk "S" 78 0 Bool.false "" "" 0),(Go.Field.mk "T" 53 24 Bool.false "" "" 104)]) (.agg #[.int .u32 0,.int .u32 0,.int .u32 0,.int .u32 0,.int .u32 0,.int .u32 0,.int .u32 0,.int .u32 0,.int .u32 0,.int .u32 0,.int .u32 0,.int .u32 0,.int .u32 0,.int .u32 0,.int .u32 0,.int .u32 0,.int .u32 0,.int .u32 0,.int .u32 0,.int .u32 0,.int .u32 0,.int .u32 0,.int .i64 0,.int .i64 0,.int .i64 0,.int .u32 0]) 26 120:=⟨underlying207,by kernel_rfl⟩
theorem zP:FO prog 207 0 0:=⟨_,_,23,underlying207,rfl,rfl,by kernel_rfl⟩
theorem oU:FO prog 207 1 24:=⟨_,_,1,underlying207,rfl,rfl,by kernel_rfl⟩
theorem HJ:PL prog 207 [(0,24),(24,2)]:=⟨_,underlying207,by kernel_rfl⟩
theorem gO:TI prog 219 (Go.TypeDesc.struct #[(Go.Field.mk "known" 4 0 Bool.false "" "babel/qcode" 0),(Go.Field.mk "d" 4 1 Bool.false "" "babel/qcode" 1),(Go.Field.mk "a" 4 2 Bool.false "" "babel/qcode" 2),(Go.Field.mk "b" 4 3 Bool.false "" "babel/qcode" 3),(Go.Field.mk "kind" 3 4 Bool.false "" "babel/qcode" 8),(Go.Field.mk "bits" 3 5 Bool.false "" "babel/qcode" 16),(Go.Field.mk "most" 41 6 Bool.false "" "babel/qcode" 24)]) (.agg #[.bool false,.bool false,.bool false,.bool false,.int .i64 0,.int .i64 0,.int .u32 0]) 7 32:=⟨underlying219,by kernel_rfl⟩
theorem zO:FO prog 219 0 0:=⟨_,_,0,underlying219,rfl,rfl,by kernel_rfl⟩
theorem GT:FO prog 219 1 1:=⟨_,_,0,underlying219,rfl,rfl,by kernel_rfl⟩
theorem GR:FO prog 219 2 2:=⟨_,_,0,underlying219,rfl,rfl,by kernel_rfl⟩
theorem GQ:FO prog 219 3 3:=⟨_,_,0,underlying219,rfl,rfl,by kernel_rfl⟩
theorem zN:FO prog 219 4 4:=⟨_,_,0,underlying219,rfl,rfl,by kernel_rfl⟩
theorem zM:FO prog 219 5 5:=⟨_,_,0,underlying219,rfl,rfl,by kernel_rfl⟩
theorem GE:FT prog 219 5 5 3:=⟨_,_,underlying219,rfl,rfl,rfl⟩
theorem zL:FO prog 219 6 6:=⟨_,_,0,underlying219,rfl,rfl,by kernel_rfl⟩
theorem jQ:PL prog 219 [(0,1),(1,1),(2,1),(3,1),(4,1),(5,1),(6,1)]:=⟨_,underlying219,by kernel_rfl⟩
theorem OR:TI prog 232 (Go.TypeDesc.struct #[(Go.Field.mk "Names" 46 0 Bool.false "" "" 0),(Go.Field.mk "Values" 48 1 Bool.false "" "" 24),(Go.Field.mk "Depth" 3 2 Bool.false "" "" 48),(Go.Field.mk "Done" 4 3 Bool.false "" "" 56),(Go.Field.mk "Value" 41 4 Bool.false "" "" 60)]) (.agg #[.slice none 0 0,.slice none 0 0,.int .i64 0,.bool false,.int .u32 0]) 5 64:=⟨underlying232,by kernel_rfl⟩
theorem kS:FO prog 232 0 0:=⟨_,_,0,underlying232,rfl,rfl,by kernel_rfl⟩
theorem oT:FO prog 232 1 1:=⟨_,_,0,underlying232,rfl,rfl,by kernel_rfl⟩
theorem GO:FO prog 232 2 2:=⟨_,_,0,underlying232,rfl,rfl,by kernel_rfl⟩
theorem oS:FO prog 232 3 3:=⟨_,_,0,underlying232,rfl,rfl,by kernel_rfl⟩
theorem zK:FO prog 232 4 4:=⟨_,_,0,underlying232,rfl,rfl,by kernel_rfl⟩
theorem L9:PL prog 232 [(0,1),(1,1),(2,1),(3,1),(4,1)]:=⟨_,underlying232,by kernel_rfl⟩
theorem AJ:TI prog 236 (Go.TypeDesc.struct #[(Go.Field.mk "I" 118 0 Bool.false "" "" 0),(Go.Field.mk "T" 53 5 Bool.false "" "" 40)]) (.agg #[.int .i64 0,.int .i64 0,.int .i64 0,.int .i64 0,.int .u32 0,.int .i64 0,.int .u32 0]) 7 56:=⟨underlying236,by kernel_rfl⟩
theorem GN:FO prog 236 0 0:=⟨_,_,4,underlying236,rfl,rfl,by kernel_rfl⟩
theorem GM:FO prog 236 1 5:=⟨_,_,1,underlying236,rfl,rfl,by kernel_rfl⟩
theorem L8:PL prog 236 [(0,5),(5,2)]:=⟨_,underlying236,by kernel_rfl⟩
theorem gC:TI prog 241 (Go.TypeDesc.struct #[(Go.Field.mk "V" 41 0 Bool.false "" "" 0),(Go.Field.mk "At" 41 1 Bool.false "" "" 4),(Go.Field.mk "Ok" 4 2 Bool.false "" "" 8)]) (.agg #[.int .u32 0,.int .u32 0,.bool false]) 3 12:=⟨underlying241,by kernel_rfl⟩
theorem oR:FO prog 241 0 0:=⟨_,_,0,underlying241,rfl,rfl,by kernel_rfl⟩
theorem mU:FO prog 241 2 2:=⟨_,_,0,underlying241,rfl,rfl,by kernel_rfl⟩
theorem HI:PL prog 241 [(0,1),(1,1),(2,1)]:=⟨_,underlying241,by kernel_rfl⟩
theorem eN:TI prog 275 (Go.TypeDesc.struct #[(Go.Field.mk "Is" 4 0 Bool.false "" "" 0),(Go.Field.mk "D" 4 1 Bool.false "" "" 1),(Go.Field.mk "A" 4 2 Bool.false "" "" 2),(Go.Field.mk "B" 4 3 Bool.false "" "" 3),(Go.Field.mk "Signed" 4 4 Bool.false "" "" 4),(Go.Field.mk "Bits" 3 5 Bool.false "" "" 8),(Go.Field.mk "Most" 41 6 Bool.false "" "" 16)]) (.agg #[.bool false,.bool false,.bool false,.bool false,.bool false,.int .i64 0,.int .u32 0]) 7 24:=⟨underlying275,by kernel_rfl⟩
theorem GL:FO prog 275 0 0:=⟨_,_,0,underlying275,rfl,rfl,by kernel_rfl⟩
theorem zJ:FO prog 275 1 1:=⟨_,_,0,underlying275,rfl,rfl,by kernel_rfl⟩
theorem zI:FO prog 275 2 2:=⟨_,_,0,underlying275,rfl,rfl,by kernel_rfl⟩
theorem zH:FO prog 275 3 3:=⟨_,_,0,underlying275,rfl,rfl,by kernel_rfl⟩
theorem zG:FO prog 275 4 4:=⟨_,_,0,underlying275,rfl,rfl,by kernel_rfl⟩
theorem kR:FO prog 275 5 5:=⟨_,_,0,underlying275,rfl,rfl,by kernel_rfl⟩
theorem GD:FT prog 275 5 5 3:=⟨_,_,underlying275,rfl,rfl,rfl⟩
theorem zE:FO prog 275 6 6:=⟨_,_,0,underlying275,rfl,rfl,by kernel_rfl⟩
theorem ku:PL prog 275 [(0,1),(1,1),(2,1),(3,1),(4,1),(5,1),(6,1)]:=⟨_,underlying275,by kernel_rfl⟩
theorem AI:TI prog 281 (Go.TypeDesc.array 2 118) (.agg #[.int .i64 0,.int .i64 0,.int .i64 0,.int .i64 0,.int .u32 0,.int .i64 0,.int .i64 0,.int .i64 0,.int .i64 0,.int .u32 0]) 10 80:=⟨underlying281,by kernel_rfl⟩
theorem cC:TI prog 284 (Go.TypeDesc.struct #[(Go.Field.mk "V" 41 0 Bool.false "" "" 0),(Go.Field.mk "Ok" 4 1 Bool.false "" "" 4)]) (.agg #[.int .u32 0,.bool false]) 2 8:=⟨underlying284,by kernel_rfl⟩
theorem zC:FT prog 284 0 0 41:=⟨_,_,underlying284,rfl,rfl,rfl⟩
theorem gf:PL prog 284 [(0,1),(1,1)]:=⟨_,underlying284,by kernel_rfl⟩
theorem KI:Cb prog 12:=⟨_,func12,by decide,rfl⟩
theorem BC:Cb prog 15:=⟨_,func15,by decide,rfl⟩
theorem NB:Cb prog 16:=⟨_,func16,by decide,rfl⟩
theorem Qv:Cb prog 17:=⟨_,func17,by decide,rfl⟩
theorem Eu:Cb prog 19:=⟨_,func19,by decide,rfl⟩
theorem KH:Cb prog 21:=⟨_,func21,by decide,rfl⟩
theorem Er:Cb prog 22:=⟨_,func22,by decide,rfl⟩
theorem M7:Cb prog 23:=⟨_,func23,by decide,rfl⟩
theorem Hh:Cb prog 24:=⟨_,func24,by decide,rfl⟩
theorem Eq:Cb prog 25:=⟨_,func25,by decide,rfl⟩
theorem Qu:Cb prog 34:=⟨_,func34,by decide,rfl⟩
theorem M6:Cb prog 35:=⟨_,func35,by decide,rfl⟩
theorem Qt:Cb prog 37:=⟨_,func37,by decide,rfl⟩
theorem Qr:Cb prog 38:=⟨_,func38,by decide,rfl⟩
theorem Qq:Cb prog 39:=⟨_,func39,by decide,rfl⟩
theorem Hg:Cb prog 41:=⟨_,func41,by decide,rfl⟩
theorem Qp:Cb prog 43:=⟨_,func43,by decide,rfl⟩
theorem Hf:Cb prog 44:=⟨_,func44,by decide,rfl⟩
theorem Qo:Cb prog 48:=⟨_,func48,by decide,rfl⟩
theorem Qn:Cb prog 49:=⟨_,func49,by decide,rfl⟩
theorem ug:Cb prog 50:=⟨_,func50,by decide,rfl⟩
theorem iN:Cb prog 51:=⟨_,func51,by decide,rfl⟩
theorem rS:Cb prog 52:=⟨_,func52,by decide,rfl⟩
theorem wm:Cb prog 53:=⟨_,func53,by decide,rfl⟩
theorem Qm:Cb prog 54:=⟨_,func54,by decide,rfl⟩
theorem Ql:Cb prog 55:=⟨_,func55,by decide,rfl⟩
theorem Qk:Cb prog 56:=⟨_,func56,by decide,rfl⟩
theorem Ep:Cb prog 57:=⟨_,func57,by decide,rfl⟩
theorem BB:Cb prog 58:=⟨_,func58,by decide,rfl⟩
theorem yr:Cb prog 59:=⟨_,func59,by decide,rfl⟩
theorem KG:Cb prog 60:=⟨_,func60,by decide,rfl⟩
theorem KF:Cb prog 61:=⟨_,func61,by decide,rfl⟩
theorem Qj:Cb prog 62:=⟨_,func62,by decide,rfl⟩
theorem Qh:Cb prog 64:=⟨_,func64,by decide,rfl⟩
theorem Qf:Cb prog 65:=⟨_,func65,by decide,rfl⟩
theorem Qe:Cb prog 66:=⟨_,func66,by decide,rfl⟩
theorem Qd:Cb prog 74:=⟨_,func74,by decide,rfl⟩
theorem Eo:Cb prog 75:=⟨_,func75,by decide,rfl⟩
theorem Qc:Cb prog 76:=⟨_,func76,by decide,rfl⟩
theorem Qb:Cb prog 77:=⟨_,func77,by decide,rfl⟩
theorem Qa:Cb prog 81:=⟨_,func81,by decide,rfl⟩
theorem KE:Cb prog 82:=⟨_,func82,by decide,rfl⟩
theorem P_:Cb prog 83:=⟨_,func83,by decide,rfl⟩
theorem rQ:Cb prog 84:=⟨_,func84,by decide,rfl⟩
theorem rO:Cb prog 85:=⟨_,func85,by decide,rfl⟩
theorem l7:Cb prog 86:=⟨_,func86,by decide,rfl⟩
theorem M5:Cb prog 87:=⟨_,func87,by decide,rfl⟩
theorem KD:Cb prog 88:=⟨_,func88,by decide,rfl⟩
theorem KC:Cb prog 89:=⟨_,func89,by decide,rfl⟩
theorem M4:Cb prog 90:=⟨_,func90,by decide,rfl⟩
theorem P9:Cb prog 91:=⟨_,func91,by decide,rfl⟩
theorem qM:Cb prog 92:=⟨_,func92,by decide,rfl⟩
theorem P8:Cb prog 93:=⟨_,func93,by decide,rfl⟩
theorem KB:Cb prog 94:=⟨_,func94,by decide,rfl⟩
theorem BA:Cb prog 95:=⟨_,func95,by decide,rfl⟩
theorem Em:Cb prog 96:=⟨_,func96,by decide,rfl⟩
theorem He:Cb prog 97:=⟨_,func97,by decide,rfl⟩
theorem P7:Cb prog 98:=⟨_,func98,by decide,rfl⟩
theorem P6:Cb prog 99:=⟨_,func99,by decide,rfl⟩
theorem NY:Cb prog 100:=⟨_,func100,by decide,rfl⟩
theorem NX:Cb prog 101:=⟨_,func101,by decide,rfl⟩
theorem Ap:Cb prog 102:=⟨_,func102,by decide,rfl⟩
theorem ED:Cb prog 103:=⟨_,func103,by decide,rfl⟩
theorem qP:Cb prog 104:=⟨_,func104,by decide,rfl⟩
theorem IM:Cb prog 105:=⟨_,func105,by decide,rfl⟩
theorem EC:Cb prog 106:=⟨_,func106,by decide,rfl⟩
theorem IL:Cb prog 107:=⟨_,func107,by decide,rfl⟩
theorem NW:Cb prog 108:=⟨_,func108,by decide,rfl⟩
theorem iX:Cb prog 109:=⟨_,func109,by decide,rfl⟩
theorem EB:Cb prog 110:=⟨_,func110,by decide,rfl⟩
theorem oh:Cb prog 111:=⟨_,func111,by decide,rfl⟩
theorem Ao:Cb prog 112:=⟨_,func112,by decide,rfl⟩
theorem IK:Cb prog 114:=⟨_,func114,by decide,rfl⟩
theorem IJ:Cb prog 115:=⟨_,func115,by decide,rfl⟩
theorem NV:Cb prog 118:=⟨_,func118,by decide,rfl⟩
theorem NU:Cb prog 119:=⟨_,func119,by decide,rfl⟩
theorem NT:Cb prog 120:=⟨_,func120,by decide,rfl⟩
theorem NS:Cb prog 121:=⟨_,func121,by decide,rfl⟩
theorem wq:Cb prog 122:=⟨_,func122,by decide,rfl⟩
theorem EA:Cb prog 123:=⟨_,func123,by decide,rfl⟩
theorem II:Cb prog 124:=⟨_,func124,by decide,rfl⟩
theorem NR:Cb prog 125:=⟨_,func125,by decide,rfl⟩
theorem Ez:Cb prog 126:=⟨_,func126,by decide,rfl⟩
theorem wo:Cb prog 127:=⟨_,func127,by decide,rfl⟩
theorem IH:Cb prog 128:=⟨_,func128,by decide,rfl⟩
theorem Ey:Cb prog 129:=⟨_,func129,by decide,rfl⟩
theorem NQ:Cb prog 130:=⟨_,func130,by decide,rfl⟩
theorem NP:Cb prog 131:=⟨_,func131,by decide,rfl⟩
theorem IG:Cb prog 132:=⟨_,func132,by decide,rfl⟩
theorem NO:Cb prog 133:=⟨_,func133,by decide,rfl⟩
theorem IF:Cb prog 134:=⟨_,func134,by decide,rfl⟩
theorem An:Cb prog 135:=⟨_,func135,by decide,rfl⟩
theorem Am:Cb prog 136:=⟨_,func136,by decide,rfl⟩
theorem IE:Cb prog 137:=⟨_,func137,by decide,rfl⟩
theorem NN:Cb prog 138:=⟨_,func138,by decide,rfl⟩
theorem NM:Cb prog 139:=⟨_,func139,by decide,rfl⟩
theorem ID:Cb prog 141:=⟨_,func141,by decide,rfl⟩
theorem NL:Cb prog 142:=⟨_,func142,by decide,rfl⟩
theorem Ew:Cb prog 145:=⟨_,func145,by decide,rfl⟩
theorem Al:Cb prog 146:=⟨_,func146,by decide,rfl⟩
theorem NK:Cb prog 147:=⟨_,func147,by decide,rfl⟩
theorem NJ:Cb prog 148:=⟨_,func148,by decide,rfl⟩
theorem IC:Cb prog 149:=⟨_,func149,by decide,rfl⟩
theorem NI:Cb prog 150:=⟨_,func150,by decide,rfl⟩
theorem NH:Cb prog 151:=⟨_,func151,by decide,rfl⟩
theorem NG:Cb prog 152:=⟨_,func152,by decide,rfl⟩
theorem IB:Cb prog 153:=⟨_,func153,by decide,rfl⟩
theorem NF:Cb prog 154:=⟨_,func154,by decide,rfl⟩
theorem Ak:Cb prog 155:=⟨_,func155,by decide,rfl⟩
theorem NE:Cb prog 156:=⟨_,func156,by decide,rfl⟩
theorem IA:Cb prog 157:=⟨_,func157,by decide,rfl⟩
theorem ND:Cb prog 158:=⟨_,func158,by decide,rfl⟩
theorem NC:Cb prog 159:=⟨_,func159,by decide,rfl⟩
theorem NA:Cb prog 160:=⟨_,func160,by decide,rfl⟩
theorem Nz:Cb prog 161:=⟨_,func161,by decide,rfl⟩
theorem Ny:Cb prog 162:=⟨_,func162,by decide,rfl⟩
theorem Nw:Cb prog 163:=⟨_,func163,by decide,rfl⟩
theorem Iz:Cb prog 164:=⟨_,func164,by decide,rfl⟩
theorem Iy:Cb prog 165:=⟨_,func165,by decide,rfl⟩
theorem Ix:Cb prog 166:=⟨_,func166,by decide,rfl⟩
theorem qO:Cb prog 167:=⟨_,func167,by decide,rfl⟩
theorem Iw:Cb prog 168:=⟨_,func168,by decide,rfl⟩
theorem Ev:Cb prog 169:=⟨_,func169,by decide,rfl⟩
theorem Nv:Cb prog 170:=⟨_,func170,by decide,rfl⟩
theorem Nu:Cb prog 171:=⟨_,func171,by decide,rfl⟩
theorem Nt:Cb prog 173:=⟨_,func173,by decide,rfl⟩
theorem Ns:Cb prog 174:=⟨_,func174,by decide,rfl⟩
theorem jS:Cb prog 175:=⟨_,func175,by decide,rfl⟩
theorem Iv:Cb prog 176:=⟨_,func176,by decide,rfl⟩
theorem Nr:Cb prog 178:=⟨_,func178,by decide,rfl⟩
theorem Nq:Cb prog 179:=⟨_,func179,by decide,rfl⟩
theorem Np:Cb prog 180:=⟨_,func180,by decide,rfl⟩
theorem No:Cb prog 182:=⟨_,func182,by decide,rfl⟩
theorem Iu:Cb prog 183:=⟨_,func183,by decide,rfl⟩
theorem Nn:Cb prog 184:=⟨_,func184,by decide,rfl⟩
theorem Nm:Cb prog 185:=⟨_,func185,by decide,rfl⟩
theorem It:Cb prog 186:=⟨_,func186,by decide,rfl⟩
theorem Nl:Cb prog 187:=⟨_,func187,by decide,rfl⟩
theorem Ir:Cb prog 188:=⟨_,func188,by decide,rfl⟩
theorem Nk:Cb prog 189:=⟨_,func189,by decide,rfl⟩
theorem Iq:Cb prog 190:=⟨_,func190,by decide,rfl⟩
theorem kE:Cb prog 191:=⟨_,func191,by decide,rfl⟩
theorem Ip:Cb prog 192:=⟨_,func192,by decide,rfl⟩
theorem wn:Cb prog 194:=⟨_,func194,by decide,rfl⟩
theorem Aj:Cb prog 195:=⟨_,func195,by decide,rfl⟩
theorem Io:Cb prog 196:=⟨_,func196,by decide,rfl⟩
theorem Et:Cb prog 197:=⟨_,func197,by decide,rfl⟩
theorem Im:Cb prog 198:=⟨_,func198,by decide,rfl⟩
theorem Nj:Cb prog 199:=⟨_,func199,by decide,rfl⟩
theorem Ni:Cb prog 200:=⟨_,func200,by decide,rfl⟩
theorem Nh:Cb prog 201:=⟨_,func201,by decide,rfl⟩
theorem Ng:Cb prog 202:=⟨_,func202,by decide,rfl⟩
theorem Nf:Cb prog 203:=⟨_,func203,by decide,rfl⟩
theorem Ne:Cb prog 204:=⟨_,func204,by decide,rfl⟩
theorem Nd:Cb prog 205:=⟨_,func205,by decide,rfl⟩
theorem Nc:Cb prog 206:=⟨_,func206,by decide,rfl⟩
theorem Nb:Cb prog 207:=⟨_,func207,by decide,rfl⟩
theorem Na:Cb prog 208:=⟨_,func208,by decide,rfl⟩
theorem M_:Cb prog 209:=⟨_,func209,by decide,rfl⟩
theorem M9:Cb prog 210:=⟨_,func210,by decide,rfl⟩
theorem qN:Cb prog 211:=⟨_,func211,by decide,rfl⟩
theorem Es:Cb prog 212:=⟨_,func212,by decide,rfl⟩
theorem M8:Cb prog 213:=⟨_,func213,by decide,rfl⟩
end Go.Proofs.YtedmdgbmdplifaaGreat
namespace Go.Proofs.YtedmdgbmdplifaaGreat
set_option linter.unusedSimpArgs false
set_option linter.unusedVariables false
open Go.RowKit Tryz
theorem qFS{a b:Int}(ha:0≤a∧a<4294967296)(hb:0≤b∧b<4294967296)(h:¬b=0):IntKind.u32.wrap (a.tdiv b)=a/b:=by
 rw [Int.tdiv_eq_ediv_of_nonneg ha.1];have h1:0≤a/b:=Int.ediv_nonneg ha.1 hb.1;have h2:a/b≤a:=Int.ediv_le_self b ha.1;exact bK h1 (by omega)
section
end
theorem pw{a b:Int}(ha:0≤a∧a<4294967296):a.tmod b=a%b:=Int.tmod_eq_emod_of_nonneg ha.1
theorem eg:KeyLaw prog 9 fH:=Gj underlying9
theorem IP{b:Int}(hb:0≤b∧b<4294967296):bits .and .u32 b 31=b%32:=by
 have h1:bits .and .u32 b 31=IntKind.u32.wrap (((BitVec.ofInt 32 b&&&BitVec.ofInt 32 31).toNat:Nat):Int):=J;have h2:(BitVec.ofInt 32 b).toNat=b.toNat:=by
  rw [BitVec.toNat_ofInt,Int.emod_eq_of_lt hb.1 (by omega)]
 have h3:(BitVec.ofInt 32 31).toNat=2^5-1:=by decide
 rw [h1,BitVec.toNat_and,h2,h3,Nat.and_two_pow_sub_one_eq_mod,bK (by omega) (by omega)];omega
theorem iI(b:Bool):
  Spec prog 211 [.bool b] [] [] (X:=Unit) (fun _=>True) (fun _=> .agg #[.int .u32 (tr b),.bool true]) (fun _=> []) (fun _=> []):=by
 refine aI func211 J ntmps211 J fun w0 M H=>aj (aZ cC J J fun b2=>ac (aS (ad J J (ac (ae J (fun h1=> ?_) (fun h1=> ?_))))))
 ·have hq:=h1;refine aj (aO (aV (parts:= [(0,.const (.int .u32 1)),(1,.const (.bool Bool.true))]) cC gf J J) J (aq (k:=2) cC J J J J J J (ac (au (aH () O J (bE (bh cC J J J (aX (k:=2) J))) (by rw [hq];rfl) [] [] J J J)))))
 ·have hq:=h1;refine ax (aj (aO (aV (parts:= [(0,.const (.int .u32 0)),(1,.const (.bool Bool.true))]) cC gf J J) J (aq (k:=2) cC J J J J J J (ac (au (aH () O J (bE (bh cC J J J (aX (k:=2) J))) (by rw [hq];rfl) [] [] J J J))))))
def vO(o:Option Int):Value:=match o with
 | some u=> .agg #[.int .u32 u,.bool true]
 | none=> .agg #[.int .u32 0,.bool false]
theorem uP(op:ByteArray)(a:Int)(ha:0≤a∧a<4294967296):
  Spec prog 207 [.string op,.int .u32 a] [] [] (X:=Unit) (fun _=>True) (fun _=>vO (BJ op a)) (fun _=> []) (fun _=> []):=by
 refine aI func207 J ntmps207 J fun w0 M H=>aj (aZ cC J J fun b4=>ac (aS (ad J J (ac (aB (aj (ar J J cr J (ai J J (ac (ae J (fun h1=> ?_) (fun h1=> ?_)))))))))))
 ·have hoSub:op=d7:=by rw [b_]at h1;exact of_decide_eq_true h1
  refine aj (ad J J (ar J J (fX (c:=wU (-a)) (by rw [Int.zero_sub];rfl)) J (aO (aV (parts:= [(0,.tmp 9),(1,.const (.bool Bool.true))]) cC gf J J) J (aq (k:=4) cC J J J J J J (ac (au (aH () O J (bE (bh cC J J J (aX (k:=4) J))) (by unfold BJ;rw [if_pos hoSub];rfl) [] [] J J J)))))))
 ·have hoSub:¬op=d7:=by rw [b_]at h1;exact of_decide_eq_false h1
  refine aj (ar J J cr J (ai J J (ac (ae J (fun h2=> ?_) (fun h2=> ?_)))))
  ·have hoCom:op=p_:=by rw [b_]at h2;exact of_decide_eq_true h2
   refine aj (ad J J (ar J J (fX (by first|exact bK (by omega) (by omega)|rfl)) J (aO (aV (parts:= [(0,.tmp 14),(1,.const (.bool Bool.true))]) cC gf J J) J (aq (k:=4) cC J J J J J J (ac (au (aH () O J (bE (bh cC J J J (aX (k:=4) J))) (by unfold BJ;rw [if_neg hoSub,if_pos hoCom];rfl) [] [] J J J)))))))
  ·have hoCom:¬op=p_:=by rw [b_]at h2;exact of_decide_eq_false h2
   refine aj (ar J J cr J (ai J J (ac (ae J (fun h3=> ?_) (fun h3=> ?_)))))
   ·have hoNot:op=rC:=by rw [b_]at h3;exact of_decide_eq_true h3
    refine aj (ad J J (ar J J aY J (bN (xs:= [.tmp 19]) (iI (decide (a=0))) qN [] [] [] [] J J J J J J J J (fun _ _=>J) (fun _ _ _=>J) J (fun _ _=>aq (k:=4) cC J J J J J J (ac (au (aH () O J (bE (bh cC J J J (aX (k:=4) J))) (by unfold BJ;rw [if_neg hoSub,if_neg hoCom,if_pos hoNot];rfl) [] [] J J J)))))))
   ·have hoNot:¬op=rC:=by rw [b_]at h3;exact of_decide_eq_false h3
    refine ax (aj (aO (aV (parts:= []) cC gf J J) J (aq (k:=4) cC J J J J J J (ac (au (aH () O J (bE (bh cC J J J (aX (k:=4) J))) (by unfold BJ;rw [if_neg hoSub,if_neg hoCom,if_neg hoNot];rfl) [] [] J J J))))))
theorem th(op:ByteArray)(a b:Int)(ha:0≤a∧a<4294967296)(hb:0≤b∧b<4294967296):
  Spec prog 208 [.string op,.int .u32 a,.int .u32 b] [] [] (X:=Unit) (fun _=>True) (fun _=>vO (nn op a b)) (fun _=> []) (fun _=> []):=by
 refine aI func208 J ntmps208 J fun w0 M H=>aj (aZ cC J J fun b6=>ac (aS (ad J J (ac (aB (aj (ar J J cr J (ai J J (ac (ae J (fun h1=> ?_) (fun h1=> ?_)))))))))))
 ·have hoAdd:op=e8:=by rw [b_]at h1;exact of_decide_eq_true h1
  refine aj (ad J J (ad J J (ar J J (bi J) J (aO (aV (parts:= [(0,.tmp 12),(1,.const (.bool Bool.true))]) cC gf J J) J (aq (k:=6) cC J J J J J J (ac (au (aH () O J (bE (bh cC J J J (aX (k:=6) J))) (by unfold nn;rw [if_pos hoAdd];first|rfl|(rw [if_pos hz];rfl)|(rw [if_neg hz];rfl)) [] [] J J J))))))))
 ·have hoAdd:¬op=e8:=by rw [b_]at h1;exact of_decide_eq_false h1
  refine aj (ar J J cr J (ai J J (ac (ae J (fun h2=> ?_) (fun h2=> ?_)))))
  ·have hoSub:op=d7:=by rw [b_]at h2;exact of_decide_eq_true h2
   refine aj (ad J J (ad J J (ar J J (fX J) J (aO (aV (parts:= [(0,.tmp 18),(1,.const (.bool Bool.true))]) cC gf J J) J (aq (k:=6) cC J J J J J J (ac (au (aH () O J (bE (bh cC J J J (aX (k:=6) J))) (by unfold nn;rw [if_neg hoAdd,if_pos hoSub];first|rfl|(rw [if_pos hz];rfl)|(rw [if_neg hz];rfl)) [] [] J J J))))))))
  ·have hoSub:¬op=d7:=by rw [b_]at h2;exact of_decide_eq_false h2
   refine aj (ar J J cr J (ai J J (ac (ae J (fun h3=> ?_) (fun h3=> ?_)))))
   ·have hoMul:op=fD:=by rw [b_]at h3;exact of_decide_eq_true h3
    refine aj (ad J J (ad J J (ar J J (dr J) J (aO (aV (parts:= [(0,.tmp 24),(1,.const (.bool Bool.true))]) cC gf J J) J (aq (k:=6) cC J J J J J J (ac (au (aH () O J (bE (bh cC J J J (aX (k:=6) J))) (by unfold nn;rw [if_neg hoAdd,if_neg hoSub,if_pos hoMul];first|rfl|(rw [if_pos hz];rfl)|(rw [if_neg hz];rfl)) [] [] J J J))))))))
   ·have hoMul:¬op=fD:=by rw [b_]at h3;exact of_decide_eq_false h3
    refine aj (ar J J cr J (ai J J (ac (ae J (fun h4=> ?_) (fun h4=> ?_)))))
    ·have hoQuo:op=jc:=by rw [b_]at h4;exact of_decide_eq_true h4
     refine aS (ad J J (ar J J aY J (ac (ae J (fun h5=> ?_) (fun h5=> ?_)))))
     ·(try simp only [be]at h5)
      have hz:b=0:=h5;refine aj (aO (aV (parts:= [(0,.const (.int .u32 0)),(1,.const (.bool Bool.true))]) cC gf J J) J (aq (k:=6) cC J J J J J J (ac (au (aH () O J (bE (bh cC J J J (aX (k:=6) J))) (by unfold nn;rw [if_neg hoAdd,if_neg hoSub,if_neg hoMul,if_pos hoQuo];first|rfl|(rw [if_pos hz];rfl)|(rw [if_neg hz];rfl)) [] [] J J J)))))
     ·(try simp only [be]at h5)
      have hz:¬b=0:=h5;refine ax (aj (ad J J (ad J J (ar J J (jT hz (qFS ha hb hz)) J (aO (aV (parts:= [(0,.tmp 33),(1,.const (.bool Bool.true))]) cC gf J J) J (aq (k:=6) cC J J J J J J (ac (au (aH () O J (bE (bh cC J J J (aX (k:=6) J))) (by unfold nn;rw [if_neg hoAdd,if_neg hoSub,if_neg hoMul,if_pos hoQuo];first|rfl|(rw [if_pos hz];rfl)|(rw [if_neg hz];rfl)) [] [] J J J)))))))))
    ·have hoQuo:¬op=jc:=by rw [b_]at h4;exact of_decide_eq_false h4
     refine aj (ar J J cr J (ai J J (ac (ae J (fun h6=> ?_) (fun h6=> ?_)))))
     ·have hoRem:op=jV:=by rw [b_]at h6;exact of_decide_eq_true h6
      refine aS (ad J J (ar J J aY J (ac (ae J (fun h7=> ?_) (fun h7=> ?_)))))
      ·(try simp only [be]at h7)
       have hz:b=0:=h7;refine aj (ad J J (aO (aV (parts:= [(0,.tmp 39),(1,.const (.bool Bool.true))]) cC gf J J) J (aq (k:=6) cC J J J J J J (ac (au (aH () O J (bE (bh cC J J J (aX (k:=6) J))) (by unfold nn;rw [if_neg hoAdd,if_neg hoSub,if_neg hoMul,if_neg hoQuo,if_pos hoRem];first|rfl|(rw [if_pos hz];rfl)|(rw [if_neg hz];rfl)) [] [] J J J))))))
      ·(try simp only [be]at h7)
       have hz:¬b=0:=h7;refine ax (aj (ad J J (ad J J (ar J J (gd hz (pw ha)) J (aO (aV (parts:= [(0,.tmp 43),(1,.const (.bool Bool.true))]) cC gf J J) J (aq (k:=6) cC J J J J J J (ac (au (aH () O J (bE (bh cC J J J (aX (k:=6) J))) (by unfold nn;rw [if_neg hoAdd,if_neg hoSub,if_neg hoMul,if_neg hoQuo,if_pos hoRem];first|rfl|(rw [if_pos hz];rfl)|(rw [if_neg hz];rfl)) [] [] J J J)))))))))
     ·have hoRem:¬op=jV:=by rw [b_]at h6;exact of_decide_eq_false h6
      refine aj (ar J J cr J (ai J J (ac (ae J (fun h8=> ?_) (fun h8=> ?_)))))
      ·have hoAnd:op=ed:=by rw [b_]at h8;exact of_decide_eq_true h8
       refine aj (ad J J (ad J J (ar J J (lE J) J (aO (aV (parts:= [(0,.tmp 49),(1,.const (.bool Bool.true))]) cC gf J J) J (aq (k:=6) cC J J J J J J (ac (au (aH () O J (bE (bh cC J J J (aX (k:=6) J))) (by unfold nn;rw [if_neg hoAdd,if_neg hoSub,if_neg hoMul,if_neg hoQuo,if_neg hoRem,if_pos hoAnd];first|rfl|(rw [if_pos hz];rfl)|(rw [if_neg hz];rfl)) [] [] J J J))))))))
      ·have hoAnd:¬op=ed:=by rw [b_]at h8;exact of_decide_eq_false h8
       refine aj (ar J J cr J (ai J J (ac (ae J (fun h9=> ?_) (fun h9=> ?_)))))
       ·have hoOr:op=iO:=by rw [b_]at h9;exact of_decide_eq_true h9
        refine aj (ad J J (ad J J (ar J J (BH J) J (aO (aV (parts:= [(0,.tmp 55),(1,.const (.bool Bool.true))]) cC gf J J) J (aq (k:=6) cC J J J J J J (ac (au (aH () O J (bE (bh cC J J J (aX (k:=6) J))) (by unfold nn;rw [if_neg hoAdd,if_neg hoSub,if_neg hoMul,if_neg hoQuo,if_neg hoRem,if_neg hoAnd,if_pos hoOr];first|rfl|(rw [if_pos hz];rfl)|(rw [if_neg hz];rfl)) [] [] J J J))))))))
       ·have hoOr:¬op=iO:=by rw [b_]at h9;exact of_decide_eq_false h9
        refine aj (ar J J cr J (ai J J (ac (ae J (fun h10=> ?_) (fun h10=> ?_)))))
        ·have hoXor:op=em:=by rw [b_]at h10;exact of_decide_eq_true h10
         refine aj (ad J J (ad J J (ar J J (IN J) J (aO (aV (parts:= [(0,.tmp 61),(1,.const (.bool Bool.true))]) cC gf J J) J (aq (k:=6) cC J J J J J J (ac (au (aH () O J (bE (bh cC J J J (aX (k:=6) J))) (by unfold nn;rw [if_neg hoAdd,if_neg hoSub,if_neg hoMul,if_neg hoQuo,if_neg hoRem,if_neg hoAnd,if_neg hoOr,if_pos hoXor];first|rfl|(rw [if_pos hz];rfl)|(rw [if_neg hz];rfl)) [] [] J J J))))))))
        ·have hoXor:¬op=em:=by rw [b_]at h10;exact of_decide_eq_false h10
         refine aj (ar J J cr J (ai J J (ac (ae J (fun h11=> ?_) (fun h11=> ?_)))))
         ·have hoShl:op=fB:=by rw [b_]at h11;exact of_decide_eq_true h11
          refine aj (ad J J (ad J J (ar J J (lE (IP hb)) J (ar J J (gj (by omega) (by simp [IntKind.bits];omega) J) J (aO (aV (parts:= [(0,.tmp 68),(1,.const (.bool Bool.true))]) cC gf J J) J (aq (k:=6) cC J J J J J J (ac (au (aH () O J (bE (bh cC J J J (aX (k:=6) J))) (by unfold nn;rw [if_neg hoAdd,if_neg hoSub,if_neg hoMul,if_neg hoQuo,if_neg hoRem,if_neg hoAnd,if_neg hoOr,if_neg hoXor,if_pos hoShl];first|rfl|(rw [if_pos hz];rfl)|(rw [if_neg hz];rfl)) [] [] J J J)))))))))
         ·have hoShl:¬op=fB:=by rw [b_]at h11;exact of_decide_eq_false h11
          refine aj (ar J J cr J (ai J J (ac (ae J (fun h12=> ?_) (fun h12=> ?_)))))
          ·have hoShr:op=fR:=by rw [b_]at h12;exact of_decide_eq_true h12
           refine aj (ad J J (ad J J (ar J J (lE (IP hb)) J (ar J J (m7 (by omega) (by simp [IntKind.bits];omega) J) J (aO (aV (parts:= [(0,.tmp 75),(1,.const (.bool Bool.true))]) cC gf J J) J (aq (k:=6) cC J J J J J J (ac (au (aH () O J (bE (bh cC J J J (aX (k:=6) J))) (by unfold nn;rw [if_neg hoAdd,if_neg hoSub,if_neg hoMul,if_neg hoQuo,if_neg hoRem,if_neg hoAnd,if_neg hoOr,if_neg hoXor,if_neg hoShl,if_pos hoShr];first|rfl|(rw [if_pos hz];rfl)|(rw [if_neg hz];rfl)) [] [] J J J)))))))))
          ·have hoShr:¬op=fR:=by rw [b_]at h12;exact of_decide_eq_false h12
           refine aj (ar J J cr J (ai J J (ac (ae J (fun h13=> ?_) (fun h13=> ?_)))))
           ·have hoLt:op=kv:=by rw [b_]at h13;exact of_decide_eq_true h13
            refine aj (ad J J (ad J J (ar J J ci J (bN (xs:= [.tmp 81]) (iI (decide (a<b))) qN [] [] [] [] J J J J J J J J (fun _ _=>J) (fun _ _ _=>J) J (fun _ _=>aq (k:=6) cC J J J J J J (ac (au (aH () O J (bE (bh cC J J J (aX (k:=6) J))) (by unfold nn;rw [if_neg hoAdd,if_neg hoSub,if_neg hoMul,if_neg hoQuo,if_neg hoRem,if_neg hoAnd,if_neg hoOr,if_neg hoXor,if_neg hoShl,if_neg hoShr,if_pos hoLt];first|rfl|(rw [if_pos hz];rfl)|(rw [if_neg hz];rfl)) [] [] J J J))))))))
           ·have hoLt:¬op=kv:=by rw [b_]at h13;exact of_decide_eq_false h13
            refine aj (ar J J cr J (ai J J (ac (ae J (fun h14=> ?_) (fun h14=> ?_)))))
            ·have hoLe:op=lz:=by rw [b_]at h14;exact of_decide_eq_true h14
             refine aj (ad J J (ad J J (ar J J jl J (bN (xs:= [.tmp 87]) (iI (decide (a≤b))) qN [] [] [] [] J J J J J J J J (fun _ _=>J) (fun _ _ _=>J) J (fun _ _=>aq (k:=6) cC J J J J J J (ac (au (aH () O J (bE (bh cC J J J (aX (k:=6) J))) (by unfold nn;rw [if_neg hoAdd,if_neg hoSub,if_neg hoMul,if_neg hoQuo,if_neg hoRem,if_neg hoAnd,if_neg hoOr,if_neg hoXor,if_neg hoShl,if_neg hoShr,if_neg hoLt,if_pos hoLe];first|rfl|(rw [if_pos hz];rfl)|(rw [if_neg hz];rfl)) [] [] J J J))))))))
            ·have hoLe:¬op=lz:=by rw [b_]at h14;exact of_decide_eq_false h14
             refine aj (ar J J cr J (ai J J (ac (ae J (fun h15=> ?_) (fun h15=> ?_)))))
             ·have hoGt:op=lA:=by rw [b_]at h15;exact of_decide_eq_true h15
              refine aj (ad J J (ad J J (ar J J dV J (bN (xs:= [.tmp 93]) (iI (decide (a>b))) qN [] [] [] [] J J J J J J J J (fun _ _=>J) (fun _ _ _=>J) J (fun _ _=>aq (k:=6) cC J J J J J J (ac (au (aH () O J (bE (bh cC J J J (aX (k:=6) J))) (by unfold nn;rw [if_neg hoAdd,if_neg hoSub,if_neg hoMul,if_neg hoQuo,if_neg hoRem,if_neg hoAnd,if_neg hoOr,if_neg hoXor,if_neg hoShl,if_neg hoShr,if_neg hoLt,if_neg hoLe,if_pos hoGt];first|rfl|(rw [if_pos hz];rfl)|(rw [if_neg hz];rfl)) [] [] J J J))))))))
             ·have hoGt:¬op=lA:=by rw [b_]at h15;exact of_decide_eq_false h15
              refine aj (ar J J cr J (ai J J (ac (ae J (fun h16=> ?_) (fun h16=> ?_)))))
              ·have hoGe:op=mE:=by rw [b_]at h16;exact of_decide_eq_true h16
               refine aj (ad J J (ad J J (ar J J fe J (bN (xs:= [.tmp 99]) (iI (decide (a≥b))) qN [] [] [] [] J J J J J J J J (fun _ _=>J) (fun _ _ _=>J) J (fun _ _=>aq (k:=6) cC J J J J J J (ac (au (aH () O J (bE (bh cC J J J (aX (k:=6) J))) (by unfold nn;rw [if_neg hoAdd,if_neg hoSub,if_neg hoMul,if_neg hoQuo,if_neg hoRem,if_neg hoAnd,if_neg hoOr,if_neg hoXor,if_neg hoShl,if_neg hoShr,if_neg hoLt,if_neg hoLe,if_neg hoGt,if_pos hoGe];first|rfl|(rw [if_pos hz];rfl)|(rw [if_neg hz];rfl)) [] [] J J J))))))))
              ·have hoGe:¬op=mE:=by rw [b_]at h16;exact of_decide_eq_false h16
               refine aj (ar J J cr J (ai J J (ac (ae J (fun h17=> ?_) (fun h17=> ?_)))))
               ·have hoEq:op=lB:=by rw [b_]at h17;exact of_decide_eq_true h17
                refine aj (ad J J (ad J J (ar J J aY J (bN (xs:= [.tmp 105]) (iI (decide (a=b))) qN [] [] [] [] J J J J J J J J (fun _ _=>J) (fun _ _ _=>J) J (fun _ _=>aq (k:=6) cC J J J J J J (ac (au (aH () O J (bE (bh cC J J J (aX (k:=6) J))) (by unfold nn;rw [if_neg hoAdd,if_neg hoSub,if_neg hoMul,if_neg hoQuo,if_neg hoRem,if_neg hoAnd,if_neg hoOr,if_neg hoXor,if_neg hoShl,if_neg hoShr,if_neg hoLt,if_neg hoLe,if_neg hoGt,if_neg hoGe,if_pos hoEq];first|rfl|(rw [if_pos hz];rfl)|(rw [if_neg hz];rfl)) [] [] J J J))))))))
               ·have hoEq:¬op=lB:=by rw [b_]at h17;exact of_decide_eq_false h17
                refine aj (ar J J cr J (ai J J (ac (ae J (fun h18=> ?_) (fun h18=> ?_)))))
                ·have hoNe:op=ly:=by rw [b_]at h18;exact of_decide_eq_true h18
                 refine aj (ad J J (ad J J (ar J J df J (bN (xs:= [.tmp 111]) (iI (!decide (a=b))) qN [] [] [] [] J J J J J J J J (fun _ _=>J) (fun _ _ _=>J) J (fun _ _=>aq (k:=6) cC J J J J J J (ac (au (aH () O J (bE (bh cC J J J (aX (k:=6) J))) (by unfold nn;rw [if_neg hoAdd,if_neg hoSub,if_neg hoMul,if_neg hoQuo,if_neg hoRem,if_neg hoAnd,if_neg hoOr,if_neg hoXor,if_neg hoShl,if_neg hoShr,if_neg hoLt,if_neg hoLe,if_neg hoGt,if_neg hoGe,if_neg hoEq,if_pos hoNe];first|rfl|(rw [if_pos hz];rfl)|(rw [if_neg hz];rfl)) [] [] J J J))))))))
                ·have hoNe:¬op=ly:=by rw [b_]at h18;exact of_decide_eq_false h18
                 refine ax (aj (aO (aV (parts:= []) cC gf J J) J (aq (k:=6) cC J J J J J J (ac (au (aH () O J (bE (bh cC J J J (aX (k:=6) J))) (by unfold nn;rw [if_neg hoAdd,if_neg hoSub,if_neg hoMul,if_neg hoQuo,if_neg hoRem,if_neg hoAnd,if_neg hoOr,if_neg hoXor,if_neg hoShl,if_neg hoShr,if_neg hoLt,if_neg hoLe,if_neg hoGt,if_neg hoGe,if_neg hoEq,if_neg hoNe];first|rfl|(rw [if_pos hz];rfl)|(rw [if_neg hz];rfl)) [] [] J J J))))))
abbrev oW(n:Int):Prop:=0≤n∧n<4294967296
mutual
def VX(fs:List Tf):Tx→Prop
 | .mk k n nm _ kids=>oW n∧kids.length≤1000000∧(k=4→1≤kids.length)∧(k=6→1≤kids.length∧∀a,(BJ nm a).isSome=true)∧(k=7→2≤kids.length∧∀a b,(nn nm a b).isSome=true)∧
   (k≠1→k≠2→k≠4→k≠5→k≠6→k≠7→∃f,cm fs nm=some f∧kids.length≤f.ps.length)∧VXs fs kids
def VXs(fs:List Tf):List Tx→Prop
 | []=>True
 | t::r=>VX fs t∧VXs fs r
end
theorem VXs.mem{fs:List Tf}:∀{l:List Tx},VXs fs l→∀t∈l,VX fs t
 | [],_,_,h=>by simp at h
 | t::r,h,u,hu=>by
  rcases List.mem_cons.1 hu with rfl|hu
  ·exact h.1
  ·exact VXs.mem h.2 u hu
mutual
def VY(fs:List Tf):Ty→Prop
 | .mk k _ _ es _ body _ els=>(1≤es.length∧es.length≤1000000∧(k=3→2≤es.length)∧VXs fs es)∧(body.length≤1000000∧VYs fs body)∧(els.length≤1000000∧VYs fs els)
def VYs(fs:List Tf):List Ty→Prop
 | []=>True
 | t::r=>VY fs t∧VYs fs r
end
theorem VYs.mem{fs:List Tf}:∀{l:List Ty},VYs fs l→∀t∈l,VY fs t
 | [],_,_,h=>by simp at h
 | t::r,h,u,hu=>by
  rcases List.mem_cons.1 hu with rfl|hu
  ·exact h.1
  ·exact VYs.mem h.2 u hu
def VF(fs:List Tf):Prop:=∀f∈fs,f.ps.length≤1000000∧f.body.length≤1000000∧VYs fs f.body
def okVs(vs:Vs):Prop:=∀p∈vs,oW p.2
structure okMs(s:Ms):Prop where
 inp:∀x∈s.inp,oW x
 mem:∀i,oW (s.mem i)
 fuel:s.fuel<9223372036854775808
 out:(s.out.length:Int)+max s.fuel 0≤1000000000000
theorem okVs.get{vs:Vs}(h:okVs vs)(x:ByteArray):oW (gM vs x):=by
 unfold gM;cases hf:vs.find? (fun p=>decide (p.1=x))with
 | none=>exact⟨Int.le_refl _,by show(0:Int)<4294967296;decide⟩
 | some p=>exact h p (List.mem_of_find?_eq_some hf)
theorem okVs.put{vs:Vs}(h:okVs vs)(x:ByteArray){n:Int}(hn:oW n):okVs (d8 vs x n):=fun p hp=>by
 rcases List.mem_cons.1 hp with rfl|hp
 ·exact hn
 ·exact h p (List.mem_filter.1 hp).1
theorem okVs.bind:∀{vs:Vs}(ps:List ByteArray)(al:List Int),okVs vs→(∀a∈al,oW a)→okVs (dM vs ps al)
 | vs,p::ps,a::al,h,ha=>okVs.bind ps al (h.put p (ha a (by simp))) fun b hb=>ha b (by simp [hb])
 | vs,[],al,h,_=>by unfold dM;exact h
 | vs,p::ps,[],h,_=>by unfold dM;exact h
theorem pZ:oW 0:=⟨Int.le_refl _,by show(0:Int)<4294967296;decide⟩
theorem pY(b:Bool):oW (tr b):=by
 cases b
 ·exact pZ
 ·exact⟨by decide,by decide⟩
theorem pW(n:Int):oW (wU n):=j_ n
theorem tC(o:BinOp)(a b:Int)(h:∃z,bits o .u32 a b=IntKind.u32.wrap z):oW (bits o .u32 a b):=by
 obtain⟨z,hz⟩:=h;rw [hz];exact j_ z
theorem Mr{op:ByteArray}{a:Int}(ha:oW a):oW ((BJ op a).getD 0):=by
 unfold BJ;split
 ·exact pW _
 ·split
  ·show 0≤4294967295-a∧4294967295-a<4294967296;have h1:=ha.1;have h2:=ha.2;omega
  ·split
   ·exact pY _
   ·exact pZ
theorem JM{a:Int}(ha:oW a)(n:Nat):oW (a/2^n):=by
 have h0:(0:Int)<2^n:=Int.pow_pos (by decide);refine⟨Int.ediv_nonneg ha.1 (Int.le_of_lt h0),Int.lt_of_le_of_lt (Int.ediv_le_self _ ha.1) ha.2⟩
theorem Mt{op:ByteArray}{a b:Int}(ha:oW a)(hb:oW b):oW ((nn op a b).getD 0):=by
 have hq:oW (if b=0 then 0 else a/b):=by
  split
  ·exact pZ
  ·exact⟨Int.ediv_nonneg ha.1 hb.1,Int.lt_of_le_of_lt (Int.ediv_le_self _ ha.1) ha.2⟩
 have hr:oW (if b=0 then a else a%b):=by
  split
  ·exact ha
  ·rename_i h;have h1:=Int.emod_nonneg a h;have h2:=Int.emod_lt_of_pos a (b:=b) (by have:=hb.1;omega);have h3:=hb.2;exact⟨h1,by omega⟩
 unfold nn;by_cases h0:op=e8
 ·rw [if_pos h0];exact pW _
 rw [if_neg h0];by_cases h1:op=d7
 ·rw [if_pos h1];exact pW _
 rw [if_neg h1];by_cases h2:op=fD
 ·rw [if_pos h2];exact pW _
 rw [if_neg h2];by_cases h3:op=jc
 ·rw [if_pos h3];exact hq
 rw [if_neg h3];by_cases h4:op=jV
 ·rw [if_pos h4];exact hr
 rw [if_neg h4];by_cases h5:op=ed
 ·rw [if_pos h5];exact(show oW (bits .and .u32 a b)from tC .and a b ⟨_,J⟩)
 rw [if_neg h5];by_cases h6:op=iO
 ·rw [if_pos h6];exact(show oW (bits .or .u32 a b)from tC .or a b ⟨_,J⟩)
 rw [if_neg h6];by_cases h7:op=em
 ·rw [if_pos h7];exact(show oW (bits .xor .u32 a b)from tC .xor a b ⟨_,J⟩)
 rw [if_neg h7];by_cases h8:op=fB
 ·rw [if_pos h8];exact pW _
 rw [if_neg h8];by_cases h9:op=fR
 ·rw [if_pos h9];exact JM ha _
 rw [if_neg h9];by_cases h10:op=kv
 ·rw [if_pos h10];exact pY _
 rw [if_neg h10];by_cases h11:op=lz
 ·rw [if_pos h11];exact pY _
 rw [if_neg h11];by_cases h12:op=lA
 ·rw [if_pos h12];exact pY _
 rw [if_neg h12];by_cases h13:op=mE
 ·rw [if_pos h13];exact pY _
 rw [if_neg h13];by_cases h14:op=lB
 ·rw [if_pos h14];exact pY _
 rw [if_neg h14];by_cases h15:op=ly
 ·rw [if_pos h15];exact pY _
 rw [if_neg h15];exact pZ
structure Kp(s s':Ms):Prop where
 ok:okMs s'
 sum:(s'.out.length:Int)+max s'.fuel 0≤(s.out.length:Int)+max s.fuel 0
 fl:s'.fuel≤s.fuel
 inp:∃k,s'.inp=s.inp.drop k
theorem Kp.refl{s:Ms}(h:okMs s):Kp s s:=⟨h,Int.le_refl _,Int.le_refl _,0,by simp⟩
theorem Kp.trans{a b c:Ms}(h:Kp a b)(h':Kp b c):Kp a c:=⟨h'.ok,Int.le_trans h'.sum h.sum,Int.le_trans h'.fl h.fl,by
 obtain⟨k,hk⟩:=h.inp;obtain⟨j,hj⟩:=h'.inp;exact⟨k+j,by rw [hj,hk,List.drop_drop]⟩⟩
theorem Kp.pay{s:Ms}(h:okMs s)(hf:¬s.fuel≤0):Kp s {s with fuel:=s.fuel-1}:=⟨⟨h.inp,h.mem,by have:=h.fuel;dsimp only;omega,by have:=h.out;dsimp only;omega⟩,by dsimp only;omega,by dsimp only;omega,0,by simp⟩
structure EvOk(fs:List Tf)(g:Nat):Prop where
 x:∀d vs t s v s',VX fs t→okVs vs→okMs s→eo g fs d vs t s=some (.ok v s')→oW v∧Kp s s'
 k:∀d vs acc l s ks s',VXs fs l→okVs vs→okMs s→(∀a∈acc,oW a)→fY g fs d vs acc l s=some (.ok ks s')→(∀a∈ks,oW a)∧ks.length=acc.length+l.length∧Kp s s'
 c:∀d f al s v s',f∈fs→(∀a∈al,oW a)→okMs s→jR g fs d f al s=some (.ok v s')→oW v∧Kp s s'
 b:∀d vs l s p s',VYs fs l→okVs vs→okMs s→fI g fs d vs l s=some (.ok p s')→okVs p.1∧(∀x,p.2=some x→oW x)∧Kp s s'
 s:∀d vs t s p s',VY fs t→okVs vs→okMs s→gK g fs d vs t s=some (.ok p s')→okVs p.1∧(∀x,p.2=some x→oW x)∧Kp s s'
 w:∀d vs e l v s p s',VX fs e→VYs fs l→okVs vs→okMs s→i9 g fs d vs e l v s=some (.ok p s')→okVs p.1∧(∀x,p.2=some x→oW x)∧Kp s s'
theorem jA{ks:List Int}(h:∀a∈ks,oW a)(i:Nat):oW (ks.getD i 0):=by
 rw [List.getD_eq_getElem?_getD];cases hk:ks[i]? with
 | none=>exact pZ
 | some a=>exact h a (List.mem_of_getElem? hk)
theorem fW{fs:List Tf}{x:ByteArray}{f:Tf}(h:cm fs x=some f):f∈fs:=List.mem_of_find?_eq_some h
theorem eB{fs:List Tf}(hF:VF fs):∀g,EvOk fs g
 | 0=>⟨fun _ _ _ _ _ _ _ _ _ h=>by simp [eo]at h,fun _ _ _ _ _ _ _ _ _ _ _ h=>by simp [fY]at h,fun _ _ _ _ _ _ _ _ _ h=>by simp [jR]at h,fun _ _ _ _ _ _ _ _ _ h=>by simp [fI]at h,fun _ _ _ _ _ _ _ _ _ h=>by simp [gK]at h,fun _ _ _ _ _ _ _ _ _ _ _ _ h=>by simp [i9]at h⟩
 | g+1=>by
  have ih:=eB hF g;refine⟨fun d vs t s v s' ht hv hs h=> ?_,fun d vs acc l s ks s' hl hv hs ha h=> ?_,fun d f al s v s' hf ha hs h=> ?_,fun d vs l s p s' hl hv hs h=> ?_,fun d vs t s p s' ht hv hs h=> ?_,fun d vs e l v s p s' he hl hv hs h=> ?_⟩
  · -- an expression
   unfold eo at h;by_cases hfu:s.fuel≤0
   ·rw [if_pos hfu]at h;simp at h
   ·rw [if_neg hfu]at h;have hp:=Kp.pay hs hfu;cases hk:fY g fs d vs [] t.kids {s with fuel:=s.fuel-1}with
    | none=>rw [hk]at h;simp at h
    | some r=>
     cases r with
     | err e=>rw [hk]at h;simp at h
     | ok ks s1=>
      rw [hk]at h;dsimp only at h;have hkids:VXs fs t.kids:=by cases t;exact ht.2.2.2.2.2.2
      obtain⟨k1,k2,k3⟩:=ih.k d vs [] t.kids _ ks s1 hkids hv hp.ok (by simp) hk;have k4:=hp.trans k3;split at h
      ·simp only [Option.some.injEq,Re.ok.injEq]at h;obtain⟨rfl,rfl⟩:=h;exact⟨by cases t;exact ht.1,k4⟩
      ·split at h
       ·simp only [Option.some.injEq,Re.ok.injEq]at h;obtain⟨rfl,rfl⟩:=h;exact⟨hv.get _,k4⟩
       ·split at h
        ·simp only [Option.some.injEq,Re.ok.injEq]at h;obtain⟨rfl,rfl⟩:=h;exact⟨k4.ok.mem _,k4⟩
        ·split at h
         ·split at h
          ·simp only [Option.some.injEq,Re.ok.injEq]at h;obtain⟨rfl,rfl⟩:=h;exact⟨pZ,k4⟩
          ·rename_i a r hi;simp only [Option.some.injEq,Re.ok.injEq]at h;obtain⟨rfl,rfl⟩:=h;refine⟨k4.ok.inp a (by rw [hi];simp),k4.trans ⟨⟨fun x hx=>k4.ok.inp x (by rw [hi];simp [hx]),k4.ok.mem,k4.ok.fuel,k4.ok.out⟩,Int.le_refl _,Int.le_refl _,1,by rw [hi];rfl⟩⟩
         ·split at h
          ·simp only [Option.some.injEq,Re.ok.injEq]at h;obtain⟨rfl,rfl⟩:=h;exact⟨Mr (jA k1 0),k4⟩
          ·split at h
           ·simp only [Option.some.injEq,Re.ok.injEq]at h;obtain⟨rfl,rfl⟩:=h;exact⟨Mt (jA k1 0) (jA k1 1),k4⟩
           ·split at h
            ·simp at h
            ·rename_i f hff;obtain⟨c1,c2⟩:=ih.c d f ks s1 v s' (fW hff) k1 k4.ok h;exact⟨c1,k4.trans c2⟩
  · -- parts
   cases l with
   | nil=>
    simp only [fY,Option.some.injEq,Re.ok.injEq]at h;obtain⟨rfl,rfl⟩:=h;exact⟨ha,by simp,Kp.refl hs⟩
   | cons t r=>
    unfold fY at h;cases hx:eo g fs d vs t s with
    | none=>rw [hx]at h;simp at h
    | some q=>
     cases q with
     | err e=>rw [hx]at h;simp at h
     | ok v s1=>
      rw [hx]at h;dsimp only at h;obtain⟨x1,x2⟩:=ih.x d vs t s v s1 hl.1 hv hs hx;obtain⟨k1,k2,k3⟩:=ih.k d vs (acc++ [v]) r s1 ks s' hl.2 hv x2.ok (fun a hm=>by
       rcases List.mem_append.1 hm with hm|hm
       ·exact ha a hm
       ·rw [List.mem_singleton.1 hm];exact x1) h
      exact⟨k1,by rw [k2];simp;omega,x2.trans k3⟩
  · -- a call
   unfold jR at h;split at h
   ·simp at h
   ·cases hb:fI g fs (d+1) (dM [] f.ps al) f.body s with
    | none=>rw [hb]at h;simp at h
    | some q=>
     cases q with
     | err e=>rw [hb]at h;simp at h
     | ok p s1=>
      obtain⟨vs1,r⟩:=p;rw [hb]at h;simp only [Option.some.injEq,Re.ok.injEq]at h;obtain⟨rfl,rfl⟩:=h;obtain⟨b1,b2,b3⟩:=ih.b (d+1) _ f.body s _ s1 (hF f hf).2.2 (okVs.bind _ _ (fun p hp=>by simp at hp) ha) hs hb;refine⟨?_,b3⟩;cases r with
      | none=>exact pZ
      | some x=>exact b2 x rfl
  · -- statements
   cases l with
   | nil=>
    simp only [fI,Option.some.injEq,Re.ok.injEq]at h;obtain⟨rfl,rfl⟩:=h;exact⟨hv,fun x hx=>by simp at hx,Kp.refl hs⟩
   | cons t r=>
    unfold fI at h;cases hx:gK g fs d vs t s with
    | none=>rw [hx]at h;simp at h
    | some q=>
     cases q with
     | err e=>rw [hx]at h;simp at h
     | ok q s1=>
      obtain⟨vs1,ro⟩:=q;obtain⟨x1,x2,x3⟩:=ih.s d vs t s _ s1 hl.1 hv hs hx;rw [hx]at h;cases ro with
      | some x=>
       simp only [Option.some.injEq,Re.ok.injEq]at h;obtain⟨rfl,rfl⟩:=h;exact⟨x1,x2,x3⟩
      | none=>
       dsimp only at h;obtain⟨b1,b2,b3⟩:=ih.b d vs1 r s1 p s' hl.2 x1 x3.ok h;exact⟨b1,b2,x3.trans b3⟩
  · -- a statement
   unfold gK at h;by_cases hfu:s.fuel≤0
   ·rw [if_pos hfu]at h;simp at h
   ·rw [if_neg hfu]at h;have hp:=Kp.pay hs hfu;obtain⟨kd,nm,ve,es,vb,body,vl,els⟩:=t;obtain⟨⟨e1,e2,e3,e4⟩,⟨b1,b2⟩,c1,c2⟩:=ht;cases es with
    | nil=>simp [Ty.es]at h
    | cons e r=>
     simp only [Ty.es]at h;cases hx:eo g fs d vs e {s with fuel:=s.fuel-1}with
     | none=>rw [hx]at h;simp at h
     | some q=>
      cases q with
      | err z=>rw [hx]at h;simp at h
      | ok v s1=>
       rw [hx]at h;dsimp only at h;obtain⟨x1,x2⟩:=ih.x d vs e _ v s1 e4.1 hv hp.ok hx;have x3:=hp.trans x2;split at h
       ·simp only [Option.some.injEq,Re.ok.injEq]at h;obtain⟨rfl,rfl⟩:=h;exact⟨hv.put _ x1,fun x hx=>by simp at hx,x3⟩
       ·split at h
        ·cases r with
         | nil=>simp at h
         | cons e5 r=>
          dsimp only at h;cases hx2:eo g fs d vs e5 s1 with
          | none=>rw [hx2]at h;simp at h
          | some q=>
           cases q with
           | err z=>rw [hx2]at h;simp at h
           | ok w s2=>
            rw [hx2]at h;simp only [Option.some.injEq,Re.ok.injEq]at h;obtain⟨rfl,rfl⟩:=h;obtain⟨y1,y2⟩:=ih.x d vs e5 s1 w s2 e4.2.1 hv x3.ok hx2;have y3:=x3.trans y2;refine⟨hv,fun x hx=>by simp at hx,y3.trans ⟨⟨y3.ok.inp,fun i=> ?_,y3.ok.fuel,y3.ok.out⟩,Int.le_refl _,Int.le_refl _,0,by simp⟩⟩;dsimp only [rG];split
            ·exact y1
            ·exact y3.ok.mem i
        ·split at h
         ·obtain⟨z1,z2,z3⟩:=ih.b d vs (if v=0 then els else body) s1 p s' (by split<;>assumption) hv x3.ok (by simpa only [Ty.els,Ty.body]using h);exact⟨z1,z2,x3.trans z3⟩
         ·split at h
          ·obtain⟨z1,z2,z3⟩:=ih.w d vs e body v s1 p s' e4.1 b2 hv x3.ok (by simpa only [Ty.body]using h);exact⟨z1,z2,x3.trans z3⟩
          ·split at h
           ·simp only [Option.some.injEq,Re.ok.injEq]at h;obtain⟨rfl,rfl⟩:=h;exact⟨hv,fun x hx=>by simp at hx;rw [←hx];exact x1,x3⟩
           ·split at h
            ·simp only [Option.some.injEq,Re.ok.injEq]at h;obtain⟨rfl,rfl⟩:=h;have x4:=x2.sum;have x5:=hs.out;dsimp only at x4;obtain⟨k,hk⟩:=x3.inp;exact⟨hv,fun x hx=>by simp at hx,⟨⟨x3.ok.inp,x3.ok.mem,x3.ok.fuel,by dsimp only;rw [List.length_append,List.length_singleton];omega⟩,by dsimp only;rw [List.length_append,List.length_singleton];omega,x3.fl,k,hk⟩⟩
            ·simp only [Option.some.injEq,Re.ok.injEq]at h;obtain⟨rfl,rfl⟩:=h;exact⟨hv,fun x hx=>by simp at hx,x3⟩
  · -- a loop
   unfold i9 at h;split at h
   ·simp only [Option.some.injEq,Re.ok.injEq]at h;obtain⟨rfl,rfl⟩:=h;exact⟨hv,fun x hx=>by simp at hx,Kp.refl hs⟩
   ·cases hb:fI g fs d vs l s with
    | none=>rw [hb]at h;simp at h
    | some q=>
     cases q with
     | err z=>rw [hb]at h;simp at h
     | ok q s1=>
      obtain⟨vs1,ro⟩:=q;obtain⟨x1,x2,x3⟩:=ih.b d vs l s _ s1 hl hv hs hb;rw [hb]at h;cases ro with
      | some x=>
       simp only [Option.some.injEq,Re.ok.injEq]at h;obtain⟨rfl,rfl⟩:=h;exact⟨x1,x2,x3⟩
      | none=>
       dsimp only at h;cases hx:eo g fs d vs1 e s1 with
       | none=>rw [hx]at h;simp at h
       | some q=>
        cases q with
        | err z=>rw [hx]at h;simp at h
        | ok w s2=>
         rw [hx]at h;dsimp only at h;obtain⟨y1,y2⟩:=ih.x d vs1 e s1 w s2 he x1 x3.ok hx;have y3:=x3.trans y2;obtain⟨z1,z2,z3⟩:=ih.w d vs1 e l w s2 p s' he hl x1 y3.ok h;exact⟨z1,z2,y3.trans z3⟩
end Go.Proofs.YtedmdgbmdplifaaGreat
namespace Go.Proofs.YtedmdgbmdplifaaGreat
set_option linter.unusedSimpArgs false
set_option linter.unusedVariables false
open Go.ChangeShapes Go.WideShapes Go.ChangeAt Go.RowKit Tryz
abbrev Pg(n:Int):Prop:= -9223372036854775808≤n∧n<9223372036854775808
theorem Dv{n:Int}(h:(Lit.int .i64 n).wf=true):Pg n:=by
 simp only [Lit.wf,Bool.and_eq_true,decide_eq_true_eq]at h;have h1:IntKind.i64.min= -9223372036854775808:=by decide
 have h2:IntKind.i64.max=9223372036854775807:=by decide
 rw [h1,h2]at h;exact⟨h.1,by omega⟩
section
variable{H:Type}{enc:TypeId×Value→H}{P:Program}
theorem A7{W:World}{r:Reach}{b0 base:Nat}{spare:Nat→Bool}{held:Bool}{t e:TypeId}{v:Value}{d:DataW H}{p:List MemPlace}(ht:P.underlying t=some (.slice e))(he:P.underlying e=some (.int .u32))
  (hce:P.cellsOf e=1) (hv:Value.okWide P W r b0 t v) (h:DataW.Trod enc P W base spare held t v d p):
  ∃(x:SV)(s:List Int),v=sv x∧(∀n∈s,oW n)∧∃G:Nat→Prop,m_ W G 1 eU (sv x) s∧∀b,G b→b<W.heap.size:=by
 have hv':Cell.ok P W r b0 t v:=by
  have:Cell.okWide P W r b0 t v:=by simpa [Value.okWide,ht]using hv
  simpa [Cell.okWide,ht]using this
 obtain⟨va,vn,vc,rfl⟩:∃a n c,v= .slice a n c:=by
  cases v with
  | slice a n c=>exact⟨a,n,c,rfl⟩
  | _=>simp [Cell.ok,ht]at hv'
 obtain⟨fuel,hf⟩:=h;rcases open_ints ht he hce hf with⟨hc,-⟩|⟨a,len,cap,zs,hc,-,h1,h2,h3,-,h5,h6⟩
 ·simp [Value.cells]at hc;obtain⟨rfl,rfl,rfl⟩:=hc;refine⟨⟨none,0,0⟩,[],J,by simp,fun _=>False,⟨0,by simp,by unfold maxLen;omega,.inl ⟨rfl,fun _ h=>h,rfl⟩⟩,fun _ h=>h.elim⟩
 ·simp [Value.cells]at hc;obtain⟨rfl,rfl,rfl⟩:=hc;have hh:W.has P r b0 a e vc:=by
   simp [Cell.ok,ht]at hv';exact hv'.2.2
  obtain⟨hs,hb⟩:=J2 hh;obtain⟨ab,ao,asp⟩:=a;dsimp only at hs hb;subst hs;have hzl:vn≤zs.length:=by split at h3<;>omega
  have htl:(zs.take vn).length=vn:=by rw [List.length_take];omega
  refine⟨⟨some ⟨ab,ao,none⟩,vn,vc⟩,zs.take vn,J,fun n hn=>I0 (h6 n (List.mem_of_mem_take hn)),fun b=>b=ab,⟨vc,by omega,h2,.inr ⟨ab,ao,by rw [htl];rfl,rfl,?_⟩⟩,fun b hb'=>hb'▸hb⟩;intro j u hj;have hfm:(zs.take vn).flatMap eU=(zs.take vn).map (Value.int .u32):=by
   induction zs.take vn with
   | nil=>rfl
   | cons x xs ih=>simp [eU,ih]
  rw [hfm,List.getElem?_map]at hj;have hjl:j<vn:=by
   rcases Nat.lt_or_ge j vn with h|h
   ·exact h
   ·rw [List.getElem?_eq_none (by omega)]at hj;simp at hj
  have:=h5 j (by omega);rw [List.getElem?_take,if_pos hjl,List.getElem?_eq_getElem (by omega)]at hj;rw [List.getD_eq_getElem?_getD,List.getElem?_eq_getElem (by omega)]at this;simp at hj this;rw [←hj,←this];unfold Addr.add;split
  ·subst_vars;rfl
  ·rfl
end
end Go.Proofs.YtedmdgbmdplifaaGreat
namespace Go.Proofs.YtedmdgbmdplifaaGreat
set_option linter.unusedSimpArgs false
set_option linter.unusedVariables false
open Go.RowKit Tryz
section
variable{mf mu mb:Nat}{vi vo:SV}{mem:Nat→Int}{fuel d:Int}{rt:Bool}{val:Int}
theorem tt{l:List Value}{o:Nat}{v:Value}(h:o<l.length):l.take o++ [v]++l.drop (o+ [v].length)=l.set o v:=by
 rw [List.set_eq_take_append_cons_drop,if_pos h];simp
theorem Ge{i:Nat}(hi:i<256){v:Int}:((List.range 256).map (fun i=>Value.int .u32 (mem i))).set i (.int .u32 v)=(List.range 256).map (fun k=> .int .u32 (rG mem i v k)):=by
 apply List.ext_getElem?;intro j;rw [List.getElem?_set,List.getElem?_map,List.getElem?_map,List.length_map,List.length_range];by_cases hj:j<256
 ·rw [List.getElem?_range hj];by_cases hij:i=j
  ·subst hij;rw [if_pos J,if_pos hi];simp [rG]
  ·rw [if_neg hij];have:¬j=i:=fun e=>hij e.symm
   simp [rG,this]
 ·rw [if_neg (by omega)];have:(List.range 256)[j]?=none:=by rw [List.getElem?_eq_none];simp;omega
  rw [this];rfl
end
structure En where
 m:Nat
 mf:Nat
 mu:Nat
 mb:Nat
 vin:SV
 ins:List Int
 fs:List Tf
def K3(f:Tf):Value:= .agg (iW f).toArray
def G4(fs:List Tf):Asn:=⟨fun w F=>∀f∈fs,TfIn w F f,fun h hs f hf=>(h f hf).stable hs⟩
theorem MK{fs:List Tf}{f:Tf}(hf:f∈fs):∀w G,(G4 fs).pred w G→(∀b,G b→b<w.heap.size)→∃G',(yL f).pred w G'∧∀b,G' b→G b:=fun w G h _=>⟨G,h f hf,fun _ hb=>hb⟩
def BM(v:SV):Nat→SV
 | 0=>v
 | k+1=>Gg (BM v k) 1 1
theorem Ds{w:World}{G:Nat→Prop}{v:SV}{l:List Int}(h:m_ w G 1 eU (sv v) l):∀k,k≤l.length→m_ w G 1 eU (sv (BM v k)) (l.drop k)
 | 0,_=>by simpa [BM]using h
 | k+1,hk=>by
  have h2:1≤(l.drop k).length:=by rw [List.length_drop];omega
  have h3:=LO (enc:=eU) (fun _=>J) h2 (Ds h k (by omega));rw [List.drop_drop]at h3;exact h3
def SkI(e:En)(s:Ms):Prop:=∃k,k≤e.ins.length∧s.inp=e.ins.drop k
theorem SkI.len{e:En}{s:Ms}(h:SkI e s):s.inp.length≤e.ins.length∧s.inp=e.ins.drop (e.ins.length-s.inp.length):=by
 obtain⟨k,h1,h2⟩:=h;have h3:s.inp.length=e.ins.length-k:=by rw [h2,List.length_drop]
 exact⟨by omega,by rw [h3,show e.ins.length-(e.ins.length-k)=k by omega];exact h2⟩
theorem SkI.kp{e:En}{s s':Ms}(h:SkI e s)(h':Kp s s'):SkI e s':=by
 obtain⟨k,h1,h2⟩:=h;obtain⟨j,hj⟩:=h'.inp;rw [h2,List.drop_drop]at hj;by_cases hk:k+j≤e.ins.length
 ·exact⟨k+j,hk,hj⟩
 ·exact⟨e.ins.length,Nat.le_refl _,by rw [hj,List.drop_of_length_le (by omega),List.drop_length]⟩
theorem Gm{e:En}{s:Ms}(h:SkI e s):∀w G,(sl 1 eU (sv e.vin) e.ins).pred w G→(∀b,G b→b<w.heap.size)→∃G',(sl 1 eU (sv (BM e.vin (e.ins.length-s.inp.length))) s.inp).pred w G'∧∀b,G' b→G b:=fun w G hG _=>
 ⟨G,by
  have:=Ds hG (e.ins.length-s.inp.length) (by omega);rw [←h.len.2]at this;exact this,fun _ hb=>hb⟩
theorem G7{g:Nat}{fs:List Tf}{d:Nat}{vs:Vs}{acc:List Int}{s:Ms}{rk:Re (List Int)}(h:fY g fs d vs acc [] s=some rk):rk= .ok acc s:=by
 cases g with
 | zero=>simp [fY]at h
 | succ g=>
  simp only [fY,Option.some.injEq]at h;exact h.symm
theorem D3{g:Nat}{fs:List Tf}{d:Nat}{vs:Vs}{acc:List Int}{t:Tx}{r:List Tx}{s:Ms}{rk:Re (List Int)}(h:fY g fs d vs acc (t::r) s=some rk):
  ∃g2 rx,g=g2+1∧eo g2 fs d vs t s=some rx∧(∀z,rx= .err z→rk= .err z)∧∀v s1,rx= .ok v s1→fY g2 fs d vs (acc++ [v]) r s1=some rk:=by
 cases g with
 | zero=>simp [fY]at h
 | succ g=>
  unfold fY at h;cases hx:eo g fs d vs t s with
  | none=>rw [hx]at h;simp at h
  | some rx=>
   rw [hx]at h;refine⟨g,rx,J,hx,fun z hz=> ?_,fun v s1 hv=> ?_⟩
   ·subst hz;exact(Option.some.inj h).symm
   ·subst hv;exact h
theorem ET{l:List Int}(h:∀a∈l,oW a){v:Int}(hv:oW v):∀a∈l++ [v],oW a:=fun a ha=>by
 rcases List.mem_append.1 ha with ha|ha
 ·exact h a ha
 ·rw [List.mem_singleton.1 ha];exact hv
theorem wa{α:Type}{l:List α}{i:Nat}{k:α}(h:l[i]?=some k):l.drop i=k::l.drop (i+1):=by
 obtain⟨hi,hk⟩:=List.getElem?_eq_some_iff.1 h;rw [List.drop_eq_getElem_cons hi,hk]
theorem ul{fs:List Tf}{t:Tx}(h:VX fs t):VXs fs t.kids:=by cases t;exact h.2.2.2.2.2.2
theorem KU{fs:List Tf}{t:Tx}(h:VX fs t):t.kids.length≤1000000:=by cases t;exact h.2.1
theorem KT{fs:List Tf}{t:Tx}(h:VX fs t)(hk:t.kind=4):1≤t.kids.length:=by cases t;exact h.2.2.1 hk
theorem Oa{fs:List Tf}{t:Tx}(h:VX fs t)(hk:t.kind=6):1≤t.kids.length∧∀a,(BJ t.name a).isSome=true:=by cases t;exact h.2.2.2.1 hk
theorem Ob{fs:List Tf}{t:Tx}(h:VX fs t)(hk:t.kind=7):2≤t.kids.length∧∀a b,(nn t.name a b).isSome=true:=by cases t;exact h.2.2.2.2.1 hk
theorem Ay{fs:List Tf}{t:Tx}(h:VX fs t)(h1:¬t.kind=1)(h2:¬t.kind=2)(h4:¬t.kind=4)(h5:¬t.kind=5)(h6:¬t.kind=6)(h7:¬t.kind=7):∃f,cm fs t.name=some f∧t.kids.length≤f.ps.length:=by cases t;exact h.2.2.2.2.2.1 h1 h2 h4 h5 h6 h7
theorem G8{g:Nat}{fs:List Tf}{d:Nat}{vs:Vs}{s:Ms}{r:Re (Vs×Option Int)}(h:fI g fs d vs [] s=some r):r= .ok (vs,none) s:=by
 cases g with
 | zero=>simp [fI]at h
 | succ g=>
  simp only [fI,Option.some.injEq]at h;exact h.symm
theorem D4{g:Nat}{fs:List Tf}{d:Nat}{vs:Vs}{t:Ty}{l:List Ty}{s:Ms}{r:Re (Vs×Option Int)}(h:fI g fs d vs (t::l) s=some r):
  ∃g2 q,g=g2+1∧gK g2 fs d vs t s=some q∧(∀z,q= .err z→r= .err z)∧(∀vs1 x s1,q= .ok (vs1,some x) s1→r= .ok (vs1,some x) s1)∧∀vs1 s1,q= .ok (vs1,none) s1→fI g2 fs d vs1 l s1=some r:=by
 cases g with
 | zero=>simp [fI]at h
 | succ g=>
  unfold fI at h;cases hx:gK g fs d vs t s with
  | none=>rw [hx]at h;simp at h
  | some q=>
   rw [hx]at h;refine⟨g,q,J,hx,fun z hz=> ?_,fun vs1 x s1 hv=> ?_,fun vs1 s1 hv=> ?_⟩
   ·subst hz;exact(Option.some.inj h).symm
   ·subst hv;exact(Option.some.inj h).symm
   ·subst hv;exact h
theorem G5{g:Nat}{fs:List Tf}{d:Nat}{vs:Vs}{e:Tx}{l:List Ty}{v:Int}{s:Ms}{r:Re (Vs×Option Int)}(h:i9 g fs d vs e l v s=some r)(hv:v=0):r= .ok (vs,none) s:=by
 cases g with
 | zero=>simp [i9]at h
 | succ g=>
  unfold i9 at h;rw [if_pos hv]at h;exact(Option.some.inj h).symm
theorem Kj{g:Nat}{fs:List Tf}{d:Nat}{vs:Vs}{e:Tx}{l:List Ty}{v:Int}{s:Ms}{r:Re (Vs×Option Int)}(h:i9 g fs d vs e l v s=some r)(hv:¬v=0):
  ∃g2 q,g=g2+1∧fI g2 fs d vs l s=some q∧(∀z,q= .err z→r= .err z)∧(∀vs1 x s1,q= .ok (vs1,some x) s1→r= .ok (vs1,some x) s1)∧
   ∀vs1 s1,q= .ok (vs1,none) s1→∃rx,eo g2 fs d vs1 e s1=some rx∧(∀z,rx= .err z→r= .err z)∧∀w s2,rx= .ok w s2→i9 g2 fs d vs1 e l w s2=some r:=by
 cases g with
 | zero=>simp [i9]at h
 | succ g=>
  unfold i9 at h;rw [if_neg hv]at h;cases hx:fI g fs d vs l s with
  | none=>rw [hx]at h;simp at h
  | some q=>
   rw [hx]at h;refine⟨g,q,J,hx,fun z hz=> ?_,fun vs1 x s1 hq=> ?_,fun vs1 s1 hq=> ?_⟩
   ·subst hz;exact(Option.some.inj h).symm
   ·subst hq;exact(Option.some.inj h).symm
   ·subst hq;dsimp only at h;cases hy:eo g fs d vs1 e s1 with
    | none=>rw [hy]at h;simp at h
    | some rx=>
     rw [hy]at h;refine⟨rx,J,fun z hz=> ?_,fun w s2 hz=> ?_⟩
     ·subst hz;exact(Option.some.inj h).symm
     ·subst hz;exact h
section
end
theorem IQ{fs:List Tf}{t:Ty}(h:VY fs t):1≤t.es.length∧t.es.length≤1000000∧(t.kind=3→2≤t.es.length)∧VXs fs t.es:=by cases t;exact h.1
theorem jP{fs:List Tf}{t:Ty}(h:VY fs t):t.body.length≤1000000∧VYs fs t.body:=by cases t;exact h.2.1
theorem yw{fs:List Tf}{t:Ty}(h:VY fs t):t.els.length≤1000000∧VYs fs t.els:=by cases t;exact h.2.2
def wE{α:Type}(p:α→Bool)(l:List α):Int:=match l.findIdx? p with
 | some i=>(i:Int)
 | none=> -1
theorem nH{α:Type}{p:α→Bool}{l:List α}{k:Nat}{x:α}(hk:l[k]?=some x)(hp:p x=true)(hb:∀i y,i<k→l[i]?=some y→p y=false):wE p l=(k:Int):=by
 have h:l.findIdx? p=some k:=by
  rw [List.findIdx?_eq_some_iff_getElem];obtain⟨h1,h2⟩:=List.getElem?_eq_some_iff.1 hk;refine⟨h1,by rw [h2];exact hp,fun j hj=> ?_⟩;have:=hb j l[j] hj (List.getElem?_eq_getElem (by omega));simp [this]
 unfold wE;rw [h]
theorem nG{α:Type}{p:α→Bool}{l:List α}(hb:∀i y,i<l.length→l[i]?=some y→p y=false):wE p l= -1:=by
 have h:l.findIdx? p=none:=by
  rw [List.findIdx?_eq_none_iff];intro x hx;obtain⟨i,hi,rfl⟩:=List.mem_iff_getElem.1 hx;exact hb i _ hi (List.getElem?_eq_getElem hi)
 unfold wE;rw [h]
theorem Dr(v:SV)(l:List ByteArray)(hl:l.length≤1000000)(n:Nat)(p:ByteArray→Bool)(hcb:Cb prog n)(hs:∀s∈l,Spec prog n [.string s] [] [] (X:=Unit) (fun _=>True) (fun _=> .bool (p s)) (fun _=> []) (fun _=> [])):
  Spec prog 154 [sv v,.func (.func n) #[] #[]] [] [sl 1 eS (sv v) l] (X:=Unit) (fun _=>True) (fun _=> .int .i64 (wE p l)) (fun _=> []) (fun _=> []):=by
 refine aI func154 J ntmps154 J fun w0 M H=>aj (ai J J (ac (aS (ad J J (aO (aU underlying46 J (aN (k:=0) J)) J (ad J J (ac (aB ?_))))))))
 refine bv (X:=Nat) (fun k=>k≤l.length∧∀i y,i<k→l[i]?=some y→p y=false) (fun k=> [(0,sv v),(1,.func (.func n) #[] #[]),(7,.int .i64 (l.length:Int)),(8,.int .i64 (k:Int))]) (fun k=> []) (fun k=> [(0,sl 1 eS (sv v) l)]) (fun k=>l.length-k) 0 ⟨Nat.zero_le _,fun i y hi=>by omega⟩ J J J (fun k hk0=> ?_);obtain⟨n1,n2⟩:=hk0;refine aj (ar J J ci J (ac (a_ (ae J (fun h1=> ?_) (fun h1=> ?_)))))
 ·(try simp only [be]at h1)
  have hk:k<l.length:=by omega
  obtain⟨x,hx⟩:∃x,l[k]?=some x:=⟨_,List.getElem?_eq_getElem hk⟩
  refine ax (a_ (aB (aj (ad J J (ai J J (aG J (ad J J (ad J J (ad J J (aO (aR (j:=k) underlying46 t9 J J (aN (k:=0) J) (by first|rfl|omega) (by first|omega|(simp;done)|(simp;omega))) J (aO (ah t9 J J (bD (aN (k:=0) J) (by intro _;rfl) hx (by rfl))) J (bN (xs:= [.tmp 15]) (hs x (List.mem_of_getElem? hx)) hcb [] [] [] [] J J J J J J J J (fun _ _=>J) (fun _ _ _=>J) J (fun _ _=>ac (ae J (fun h2=> ?_) (fun h2=> ?_)))))))))))))))
  ·have hq:p x=true:=h2;refine aj (ad J J (ai J J (ac (au (aH () O J (bE (aJ J)) (by rw [nH hx hq n2]) [] [] J J J)))))
  ·have hq:p x=false:=h2;refine ax (ap (ar J J (bi (by first|exact bc (by omega) (by omega)|rfl)) J (ad J J (ac ?_))));refine aM (k+1) ⟨⟨by omega,fun i y hi hy=>by rcases Nat.lt_succ_iff_lt_or_eq.1 hi with h|h;exact n2 i y h hy;rw [h,hx]at hy;rw [←Option.some.inj hy];exact hq⟩,by omega⟩ J J J
 ·(try simp only [be]at h1)
  have hk:k=l.length:=by omega
  subst hk;refine bx (aj (ai J J (ac (au (aH () O J (bE (aJ J)) (by rw [nG n2]) [] [] J J J)))))
theorem xI(v:SV)(l:List ByteArray)(hl:l.length≤1000000)(s:ByteArray):
  Spec prog 184 [sv v,.string s] [] [sl 1 eS (sv v) l] (X:=Unit) (fun _=>True) (fun _=> .int .i64 (wE (fun x=>decide (s=x)) l)) (fun _=> []) (fun _=> []):=by
 refine aI func184 J ntmps184 J fun w0 M H=>aj (ai J J (ac (aS (ad J J (aO (aU underlying46 J (aN (k:=0) J)) J (ad J J (ac (aB ?_))))))))
 refine bv (X:=Nat) (fun k=>k≤l.length∧∀i y,i<k→l[i]?=some y→(fun x=>decide (s=x)) y=false) (fun k=> [(0,sv v),(1,.string s),(7,.int .i64 (l.length:Int)),(8,.int .i64 (k:Int))]) (fun k=> []) (fun k=> [(0,sl 1 eS (sv v) l)]) (fun k=>l.length-k) 0 ⟨Nat.zero_le _,fun i y hi=>by omega⟩ J J J (fun k hk0=> ?_);obtain⟨n1,n2⟩:=hk0;refine aj (ar J J ci J (ac (a_ (ae J (fun h1=> ?_) (fun h1=> ?_)))))
 ·(try simp only [be]at h1)
  have hk:k<l.length:=by omega
  obtain⟨x,hx⟩:∃x,l[k]?=some x:=⟨_,List.getElem?_eq_getElem hk⟩
  refine ax (a_ (aB (aj (ad J J (ai J J (aG J (ad J J (ad J J (ad J J (aO (aR (j:=k) underlying46 t9 J J (aN (k:=0) J) (by first|rfl|omega) (by first|omega|(simp;done)|(simp;omega))) J (aO (ah t9 J J (bD (aN (k:=0) J) (by intro _;rfl) hx (by rfl))) J (ar J J cr J (ac (ae J (fun h2=> ?_) (fun h2=> ?_)))))))))))))))
  ·have hq:decide (s=x)=true:=by rw [←b_];exact h2
   refine aj (ad J J (ai J J (ac (au (aH () O J (bE (aJ J)) (by rw [nH hx hq n2]) [] [] J J J)))))
  ·have hq:decide (s=x)=false:=by rw [←b_];exact h2
   refine ax (ap (ar J J (bi (by first|exact bc (by omega) (by omega)|rfl)) J (ad J J (ac ?_))));refine aM (k+1) ⟨⟨by omega,fun i y hi hy=>by rcases Nat.lt_succ_iff_lt_or_eq.1 hi with h|h;exact n2 i y h hy;rw [h,hx]at hy;rw [←Option.some.inj hy];exact hq⟩,by omega⟩ J J J
 ·(try simp only [be]at h1)
  have hk:k=l.length:=by omega
  subst hk;refine bx (aj (ai J J (ac (au (aH () O J (bE (aJ J)) (by rw [nG n2]) [] [] J J J)))))
def cg(s:ByteArray)(l:List ByteArray):Bool:=l.any fun x=>decide (s=x)
theorem JY{l:List ByteArray}{s:ByteArray}:decide (wE (fun x=>decide (s=x)) l≥0)=cg s l:=by
 unfold wE cg;cases h:l.findIdx? (fun x=>decide (s=x))with
 | none=>
  rw [List.findIdx?_eq_none_iff]at h;have:(l.any fun x=>decide (s=x))=false:=List.any_eq_false.2 fun x hx=>by rw [h x hx];simp
  rw [this];rfl
 | some i=>
  rw [List.findIdx?_eq_some_iff_getElem]at h;obtain⟨h1,h2,_⟩:=h;have:(l.any fun x=>decide (s=x))=true:=List.any_eq_true.2 ⟨_,List.getElem_mem h1,h2⟩;rw [this];exact decide_eq_true (Int.natCast_nonneg i)
theorem gy(v:SV)(l:List ByteArray)(hl:l.length≤1000000)(s:ByteArray):
  Spec prog 155 [sv v,.string s] [] [sl 1 eS (sv v) l] (X:=Unit) (fun _=>True) (fun _=> .bool (cg s l)) (fun _=> []) (fun _=> []):=by
 refine aI func155 J ntmps155 J fun w0 M H=>aj (ai J J (aG J (ad J J (ad J J (bN (xs:= [.tmp 5,.tmp 6]) (xI v l hl s) Nn [] [(false,0)] [] [] J J J J J J J J (fun _ _=>J) (fun _ _ _=>J) J (fun _ _=>ar J J fe J (ai J J (ac (au (aH () O J (bE (aJ J)) (congrArg Value.bool JY) [] [] J J J))))))))))
def rJ:List ByteArray:= [(⟨#[101,108,115,101]⟩:ByteArray),(⟨#[102,110]⟩:ByteArray),(⟨#[105,102]⟩:ByteArray),(⟨#[105,110]⟩:ByteArray),(⟨#[109,101,109]⟩:ByteArray),(⟨#[111,117,116]⟩:ByteArray),(⟨#[114,101,116,117,114,110]⟩:ByteArray),(⟨#[118,97,114]⟩:ByteArray),(⟨#[119,104,105,108,101]⟩:ByteArray)]
def mL(c:Int):Bool:=decide (c≥97)&&decide (c≤122)
def iG(c:Int):Bool:=decide (c≥48)&&decide (c≤57)
theorem rK:
  Spec prog 156 [] [] [] (X:=SV) (fun _=>True) (fun u=>sv u) (fun u=> [own 9 1 eS (sv u) rJ]) (fun _=> []):=by
 refine aI func156 J ntmps156 J fun w0 M H=>aj (ai J J (aG J (cD eS rJ (parts:= [(0,.const (.string (ByteArray.mk #[101,108,115,101]))),(1,.const (.string (ByteArray.mk #[102,110]))),(2,.const (.string (ByteArray.mk #[105,102]))),(3,.const (.string (ByteArray.mk #[105,110]))),(4,.const (.string (ByteArray.mk #[109,101,109]))),(5,.const (.string (ByteArray.mk #[111,117,116]))),(6,.const (.string (ByteArray.mk #[114,101,116,117,114,110]))),(7,.const (.string (ByteArray.mk #[118,97,114]))),(8,.const (.string (ByteArray.mk #[119,104,105,108,101])))]) underlying46 t9 J (by decide) (by intro _;rfl) J (by decide) (by decide) J J J J fun v1=>ai J J (ac (au (aH v1 O J (bE (aJ J)) J [1] [] J J J))))))
theorem ob(c:Int):
  Spec prog 157 [.int .i32 c] [] [] (X:=Unit) (fun _=>True) (fun _=> .bool (mL c)) (fun _=> []) (fun _=> []):=by
 refine aI func157 J ntmps157 J fun w0 M H=>aj (ai J J (aG J (ad J J (ar J J fe J (ad J J (aA [] J J O (fun hg1=>am J) J (aA [(6,_)] J J ⟨J,O⟩ (fun hg2=>aT J J jl) J (aO (aQ J J J (by first|exact av|exact aC|rfl)) J (ai J J (ac (au (aH () O J (bE (aJ J)) J [] [] J J J))))))))))))
theorem yc(c:Int):
  Spec prog 160 [.int .i32 c] [] [] (X:=Unit) (fun _=>True) (fun _=> .bool (iG c)) (fun _=> []) (fun _=> []):=by
 refine aI func160 J ntmps160 J fun w0 M H=>aj (ai J J (aG J (ad J J (ar J J fe J (ad J J (aA [] J J O (fun hg1=>am J) J (aA [(6,_)] J J ⟨J,O⟩ (fun hg2=>aT J J jl) J (aO (aQ J J J (by first|exact av|exact aC|rfl)) J (ai J J (ac (au (aH () O J (bE (aJ J)) J [] [] J J J))))))))))))
theorem vC(c:Int):
  Spec prog 159 [.int .i32 c] [] [] (X:=Unit) (fun _=>True) (fun _=> .bool (mL c || iG c)) (fun _=> []) (fun _=> []):=by
 refine aI func159 J ntmps159 J fun w0 M H=>aj (ai J J (aG J (ad J J (bN (xs:= [.tmp 3]) (ob c) IA [] [] [] [] J J J J J J J J (fun _ _=>J) (fun _ _ _=>J) J (fun _ _=>ad J J (gW (t:=5) J (fun h1=> ?_) (fun h1=> ?_)))))))
 ·(try simp only [be]at h1)
  have hq:mL c=true:=h1;refine dQ J J J J (dQ J J J J (aO (aQ J J J (by first|exact av|exact aC|rfl)) J (ai J J (ac (au (aH () O J (bE (aJ J)) (by first|(rw [hq];done)|(rw [hq];rfl)|(rw [hq];simp)) [] [] J J J))))))
 ·(try simp only [be]at h1)
  have hq:mL c=false:=by simpa using h1
  refine cn J J (ad J J (cn J J (bN (xs:= [.tmp 6]) (yc c) NA [] [] [] [] J J J J J J J J (fun _ _=>J) (fun _ _ _=>J) J (fun _ _=>aO (aQ J J J (by first|exact av|exact aC|rfl)) J (ai J J (ac (au (aH () O J (bE (aJ J)) (by first|(rw [hq];done)|(rw [hq];rfl)|(rw [hq];simp)) [] [] J J J))))))))
def sS(s:ByteArray):Int:=((s.data.toList.headD 0).toNat:Int)
def yv(p:Int→Bool)(s:ByteArray):Bool:=s.data.toList.all fun b=>p (b.toNat:Int)
def ca(s:ByteArray):Bool:=decide (s.size≠0)&&decide (s.size≤12)&& !cg s rJ&&mL (sS s)&&yv (fun c=>mL c || iG c) s
def KN(s:ByteArray):Prop:=∀(i:Nat)(h:i<s.size),(s[i]'h).toNat<128
def HZ(s:ByteArray):Prop:=KN s∧s.size≤1000000
def oNil:ByteArray:=⟨#[]⟩
def cN:ByteArray:=⟨#[109,97,105,110]⟩
def AG:List ByteArray:= [d7,p_,rC]
def lvL:List (ByteArray×Int):= [(jV,7),(jc,7),(fD,7),(d7,6),(e8,6),(fR,5),(fB,5),(mE,4),(lA,4),(lz,4),(kv,4),(ly,3),(lB,3),(ed,2),(em,1),(iO,0)]
def gI(s:ByteArray):Bool:=(lvL.find? fun p=>decide (p.1=s)).isSome
def oK(k:Int)(nm:ByteArray)(n:Nat):Bool:=
 if k=1∨k=5 then decide (nm=oNil)&&decide (n=0)else if k=2 then ca nm&&decide (n=0)else if k=3 then ca nm else
 if k=4 then decide (nm=oNil)&&decide (n=1)else if k=6 then cg nm AG&&decide (n=1)else if k=7 then gI nm&&decide (n=2)else false
mutual
def rX:Tx→Bool
 | .mk k n nm _ kids=>oK k nm kids.length&&(decide (k=1) || decide (n=0))&&oI kids
def oI:List Tx→Bool
 | []=>true
 | t::r=>rX t&&oI r
end
def ze(k:Int)(nm:ByteArray)(ne nb nl:Nat):Bool:=
 decide (k≥1)&&decide (k≤8)&&decide (ne=if k=3 then 2 else 1)&&(if k=1∨k=2 then ca nm else decide (nm=oNil))&&(decide (k=4) || decide (k=5) || decide (nb=0))&&(decide (k=4) || decide (nl=0))
mutual
def rY:Ty→Bool
 | .mk k nm _ es _ body _ els=>ze k nm es.length body.length els.length&&oI es&&lu body&&lu els
def lu:List Ty→Bool
 | []=>true
 | t::r=>rY t&&lu r
end
def rF(f:Tf):Bool:=f.ps.all ca&&ca f.name&&lu f.body
def rP(fs:List Tf):Bool:=fs.all rF
mutual
def nX:Tx→Nat
 | .mk _ _ _ _ kids=>ey kids+1
def ey:List Tx→Nat
 | []=>0
 | t::r=>nX t+ey r
end
mutual
def dX:Tx→Nat
 | .mk _ _ _ _ kids=>ft kids+1
def ft:List Tx→Nat
 | []=>0
 | t::r=>max (dX t) (ft r)
end
mutual
def nY:Ty→Nat
 | .mk _ _ _ es _ body _ els=>1+ey es+cw body+cw els
def cw:List Ty→Nat
 | []=>0
 | t::r=>nY t+cw r
end
mutual
def vY:Ty→Nat
 | .mk k _ _ _ _ body _ els=>(if k=1 then 1 else 0)+cL body+cL els
def cL:List Ty→Nat
 | []=>0
 | t::r=>vY t+cL r
end
mutual
def BN:Nat→Ty→Bool
 | d,.mk _ _ _ es _ body _ els=>decide (d>8) || decide (ft es>8) || da (d+1) body || da (d+1) els
def da:Nat→List Ty→Bool
 | _,[]=>false
 | d,t::r=>BN d t || da d r
end
def fst(a b:Int):Int:=if a=0 then b else a
theorem fo(a b c:Int):fst (fst a b) c=fst a (fst b c):=by
 unfold fst;split
 ·rfl
 ·rfl
theorem dm(a:Int):fst a 0=a:=by
 unfold fst;split
 ·rename_i h;exact h.symm
 ·rfl
theorem ic(a:Int):fst 0 a=a:=rfl
theorem bw{a b:Int}:fst a b=0↔a=0∧b=0:=by
 unfold fst;split
 ·rename_i h;simp [h]
 ·rename_i h;simp [h]
def qy(fs:List Tf)(x:ByteArray):Int:=wE (fun f=>decide (f.name=x)) fs
mutual
def eX(fs:List Tf)(ns:List ByteArray):Tx→Int
 | .mk k _ nm _ kids=>fst (if k=2 then(if cg nm ns=true then 0 else 21)else if k=3 then(match cm fs nm with
   | none=>21
   | some f=>if f.ps.length=kids.length then 0 else 23)else 0) (iF fs ns kids)
def iF(fs:List Tf)(ns:List ByteArray):List Tx→Int
 | []=>0
 | t::r=>fst (eX fs ns t) (iF fs ns r)
end
mutual
def bY(fs:List Tf):List ByteArray→Ty→List ByteArray×Int
 | ns,.mk k nm _ es _ body _ els=>
  let n1:=if k=1 then ns++ [nm]else ns
  let p1:=cA fs n1 body
  let p2:=cA fs p1.1 els
  (p2.1,fst (if k=2 then(if cg nm ns=true then 0 else 21)else 0) (fst (iF fs ns es) (fst (if k=1 then(if cg nm ns=true then 22 else 0)else 0) (fst p1.2 p2.2))))
def cA(fs:List Tf):List ByteArray→List Ty→List ByteArray×Int
 | ns,[]=>(ns,0)
 | ns,t::r=>let p:=bY fs ns t;let q:=cA fs p.1 r;(q.1,fst p.2 q.2)
end
def qG:List ByteArray→List ByteArray→Int
 | _,[]=>0
 | ns,x::r=>fst (if cg x ns=true then 22 else 0) (qG (ns++ [x]) r)
def jI(fs:List Tf)(f:Tf):Int:=
 fst (if f.ps.length>4∨f.ps.length+cL f.body>12∨cw f.body>400∨da 1 f.body=true then 2 else 0) (fst (qG [] f.ps) (cA fs f.ps f.body).2)
def fJ(fs:List Tf):List Tf→Int
 | []=>0
 | f::r=>fst (jI fs f) (fJ fs r)
def once(fs:List Tf):Bool:=(List.range fs.length).all fun i=>decide (qy fs (fs.getD i ⟨oNil,bJ,[],bJ,[]⟩).name=(i:Int))
def fT(fs:List Tf):Int:=
 if rP fs=false then 1 else if fs.length>16 then 2 else if once fs=false then 22 else match cm fs cN with
  | none=>21
  | some f=>if f.ps.length>0 then 23 else fJ fs fs
mutual
def GX:Tx→Prop
 | .mk k n nm _ kids=>oW n∧HZ nm∧kids.length≤1000000∧GXs kids
def GXs:List Tx→Prop
 | []=>True
 | t::r=>GX t∧GXs r
end
mutual
def GY:Ty→Prop
 | .mk k nm _ es _ body _ els=>HZ nm∧(es.length≤1000000∧GXs es)∧(body.length≤1000000∧GYs body)∧(els.length≤1000000∧GYs els)
def GYs:List Ty→Prop
 | []=>True
 | t::r=>GY t∧GYs r
end
def GF(f:Tf):Prop:=HZ f.name∧(∀s∈f.ps,HZ s)∧f.ps.length≤1000000∧f.body.length≤1000000∧GYs f.body∧f.ps.length+cw f.body≤1000000
def GP(fs:List Tf):Prop:=fs.length≤1000000∧∀f∈fs,GF f
theorem GXs.mem:∀{l:List Tx},GXs l→∀t∈l,GX t
 | [],_,_,h=>by simp at h
 | t::r,h,u,hu=>by
  rcases List.mem_cons.1 hu with rfl|hu
  ·exact h.1
  ·exact GXs.mem h.2 u hu
theorem GYs.mem:∀{l:List Ty},GYs l→∀t∈l,GY t
 | [],_,_,h=>by simp at h
 | t::r,h,u,hu=>by
  rcases List.mem_cons.1 hu with rfl|hu
  ·exact h.1
  ·exact GYs.mem h.2 u hu
theorem iY{t:Tx}(h:GX t):GXs t.kids:=by cases t;exact h.2.2.2
theorem kF{t:Tx}(h:GX t):t.kids.length≤1000000:=by cases t;exact h.2.2.1
theorem Ho{t:Tx}(h:GX t):HZ t.name:=by cases t;exact h.2.1
theorem Hn{t:Ty}(h:GY t):HZ t.name:=by cases t;exact h.1
theorem na{t:Ty}(h:GY t):t.es.length≤1000000∧GXs t.es:=by cases t;exact h.2.1
theorem dY{t:Ty}(h:GY t):t.body.length≤1000000∧GYs t.body:=by cases t;exact h.2.2.1
theorem e_{t:Ty}(h:GY t):t.els.length≤1000000∧GYs t.els:=by cases t;exact h.2.2.2
theorem oH:∀l,oI l=l.all rX
 | []=>rfl
 | t::r=>by rw [oI,oH r];rfl
theorem ju:∀l,lu l=l.all rY
 | []=>rfl
 | t::r=>by rw [lu,ju r];rfl
theorem nU{t u:Tx}(h:u∈t.kids):SizeOf.sizeOf u<SizeOf.sizeOf t:=by
 cases t with
 | mk k n nm v kids=>
  have:=List.sizeOf_lt_of_mem h;simp only [Tx.kids]at this;simp only [Tx.mk.sizeOf_spec];omega
theorem Hw{t u:Ty}(h:u∈t.body∨u∈t.els):SizeOf.sizeOf u<SizeOf.sizeOf t:=by
 cases t with
 | mk k nm ve es vb body vl els=>
  simp only [Ty.mk.sizeOf_spec];rcases h with h|h
  ·have:=List.sizeOf_lt_of_mem h;simp only [Ty.body]at this;omega
  ·have:=List.sizeOf_lt_of_mem h;simp only [Ty.els]at this;omega
theorem dL{fs:List Tf}{x:ByteArray}:(qy fs x<0↔cm fs x=none)∧(∀f,cm fs x=some f→∃i:Nat,qy fs x=(i:Int)∧fs[i]?=some f):=by
 unfold qy wE cm;cases h:fs.findIdx? (fun f=>decide (f.name=x))with
 | none=>
  rw [List.findIdx?_eq_none_iff]at h;have h2:fs.find? (fun f=>decide (f.name=x))=none:=List.find?_eq_none.2 fun f hf=>by rw [h f hf];simp
  rw [h2];simp
 | some i=>
  rw [List.findIdx?_eq_some_iff_getElem]at h;obtain⟨h1,h2,h3⟩:=h;have h4:fs.find? (fun f=>decide (f.name=x))=some fs[i]:=by
   rw [List.find?_eq_some_iff_getElem];refine⟨h2,i,h1,J,fun j hj=> ?_⟩;have:=h3 j hj;simpa using this
  rw [h4];refine⟨⟨fun h=>by simp at h;omega,fun h=>by simp at h⟩,fun f hf=>⟨i,J,?_⟩⟩;rw [←Option.some.inj hf];exact List.getElem?_eq_getElem h1
theorem oM{α:Type}{p:α→Bool}{l:List α}:decide (wE p l≥0)=l.any p:=by
 unfold wE;cases h:l.findIdx? p with
 | none=>
  rw [List.findIdx?_eq_none_iff]at h;have:l.any p=false:=List.any_eq_false.2 fun x hx=>by rw [h x hx];simp
  rw [this];rfl
 | some i=>
  rw [List.findIdx?_eq_some_iff_getElem]at h;obtain⟨h1,h2,_⟩:=h;have:l.any p=true:=List.any_eq_true.2 ⟨_,List.getElem_mem h1,h2⟩;rw [this];exact decide_eq_true (Int.natCast_nonneg i)
theorem vz(v:SV)(l:List Tf)(hl:l.length≤1000000)(n:Nat)(cap:List Value)(C:Asn)(p:Tf→Bool)(hcb:Cb prog n)(hs:∀x∈l,Spec prog n (K3 x::cap) [] [C] (X:=Unit) (fun _=>True) (fun _=> .bool (p x)) (fun _=> []) (fun _=> [])):
  Spec prog 124 [sv v,.func (.func n) #[] cap.toArray] [] [sl 3 iW (sv v) l,C] (X:=Unit) (fun _=>True) (fun _=> .int .i64 (wE p l)) (fun _=> []) (fun _=> []):=by
 refine aI func124 J ntmps124 J fun w0 M H=>aj (ai J J (ac (aS (ad J J (aO (aU underlying25 J (aN (k:=0) J)) J (ad J J (ac (aB ?_))))))))
 refine bv (X:=Nat) (fun k=>k≤l.length∧∀i y,i<k→l[i]?=some y→p y=false) (fun k=> [(0,sv v),(1,.func (.func n) #[] cap.toArray),(7,.int .i64 (l.length:Int)),(8,.int .i64 (k:Int))]) (fun k=> []) (fun k=> [(0,sl 3 iW (sv v) l),(1,C)]) (fun k=>l.length-k) 0 ⟨Nat.zero_le _,fun i y hi=>by omega⟩ J J J (fun k hk0=> ?_);obtain⟨n1,n2⟩:=hk0;refine aj (ar J J ci J (ac (a_ (ae J (fun h1=> ?_) (fun h1=> ?_)))))
 ·(try simp only [be]at h1)
  have hk:k<l.length:=by omega
  obtain⟨x,hx⟩:∃x,l[k]?=some x:=⟨_,List.getElem?_eq_getElem hk⟩
  refine ax (a_ (aB (aj (ad J J (ai J J (aG J (ad J J (ad J J (ad J J (aO (aR (j:=k) underlying25 ge J J (aN (k:=0) J) (by first|rfl|omega) (by first|omega|(simp;done)|(simp;omega))) J (aO (aL ge J J J (bD (aN (k:=0) J) (by intro _;rfl) hx (by rfl))) J (bN (xs:= [.tmp 15]) (hs x (List.mem_of_getElem? hx)) hcb [] [(false,1)] [] [] J J J J J J J J (fun _ _=>J) (fun _ _ _=>J) J (fun _ _=>ac (ae J (fun h2=> ?_) (fun h2=> ?_)))))))))))))))
  ·have hq:p x=true:=h2;refine aj (ad J J (ai J J (ac (au (aH () O J (bE (aJ J)) (by rw [nH hx hq n2]) [] [] J J J)))))
  ·have hq:p x=false:=h2;refine ax (ap (ar J J (bi (by first|exact bc (by omega) (by omega)|rfl)) J (ad J J (ac ?_))));refine aM (k+1) ⟨⟨by omega,fun i y hi hy=>by rcases Nat.lt_succ_iff_lt_or_eq.1 hi with h|h;exact n2 i y h hy;rw [h,hx]at hy;rw [←Option.some.inj hy];exact hq⟩,by omega⟩ J J J
 ·(try simp only [be]at h1)
  have hk:k=l.length:=by omega
  subst hk;refine bx (aj (ai J J (ac (au (aH () O J (bE (aJ J)) (by rw [nG n2]) [] [] J J J)))))
theorem Bw(v:SV)(l:List Tf)(hl:l.length≤1000000)(n:Nat)(cap:List Value)(C:Asn)(p:Tf→Bool)(hcb:Cb prog n)(hs:∀x∈l,Spec prog n (K3 x::cap) [] [C] (X:=Unit) (fun _=>True) (fun _=> .bool (p x)) (fun _=> []) (fun _=> [])):
  Spec prog 118 [sv v,.func (.func n) #[] cap.toArray] [] [sl 3 iW (sv v) l,C] (X:=Unit) (fun _=>True) (fun _=> .bool (l.any p)) (fun _=> []) (fun _=> []):=by
 refine aI func118 J ntmps118 J fun w0 M H=>aj (ai J J (aG J (ad J J (ad J J (bN (xs:= [.tmp 5,.tmp 6]) (vz v l hl n cap C p hcb hs) II [] [(false,0),(false,1)] [] [] J J J J J J J J (fun _ _=>J) (fun _ _ _=>J) J (fun _ _=>ar J J fe J (ai J J (ac (au (aH () O J (bE (aJ J)) (congrArg Value.bool oM) [] [] J J J))))))))))
theorem Dp(v:SV)(l:List Ty)(hl:l.length≤1000000)(n:Nat)(cap:List Value)(C:Asn)(p:Ty→Bool)(hcb:Cb prog n)(hs:∀x∈l,Spec prog n (yV x::cap) [] [C] (X:=Unit) (fun _=>True) (fun _=> .bool (p x)) (fun _=> []) (fun _=> [])):
  Spec prog 185 [sv v,.func (.func n) #[] cap.toArray] [] [sl 5 eu (sv v) l,C] (X:=Unit) (fun _=>True) (fun _=> .int .i64 (wE p l)) (fun _=> []) (fun _=> []):=by
 refine aI func185 J ntmps185 J fun w0 M H=>aj (ai J J (ac (aS (ad J J (aO (aU underlying62 J (aN (k:=0) J)) J (ad J J (ac (aB ?_))))))))
 refine bv (X:=Nat) (fun k=>k≤l.length∧∀i y,i<k→l[i]?=some y→p y=false) (fun k=> [(0,sv v),(1,.func (.func n) #[] cap.toArray),(7,.int .i64 (l.length:Int)),(8,.int .i64 (k:Int))]) (fun k=> []) (fun k=> [(0,sl 5 eu (sv v) l),(1,C)]) (fun k=>l.length-k) 0 ⟨Nat.zero_le _,fun i y hi=>by omega⟩ J J J (fun k hk0=> ?_);obtain⟨n1,n2⟩:=hk0;refine aj (ar J J ci J (ac (a_ (ae J (fun h1=> ?_) (fun h1=> ?_)))))
 ·(try simp only [be]at h1)
  have hk:k<l.length:=by omega
  obtain⟨x,hx⟩:∃x,l[k]?=some x:=⟨_,List.getElem?_eq_getElem hk⟩
  refine ax (a_ (aB (aj (ad J J (ai J J (aG J (ad J J (ad J J (ad J J (aO (aR (j:=k) underlying62 dJ J J (aN (k:=0) J) (by first|rfl|omega) (by first|omega|(simp;done)|(simp;omega))) J (aO (aL dJ J J J (bD (aN (k:=0) J) (by intro _;rfl) hx (by rfl))) J (bN (xs:= [.tmp 15]) (hs x (List.mem_of_getElem? hx)) hcb [] [(false,1)] [] [] J J J J J J J J (fun _ _=>J) (fun _ _ _=>J) J (fun _ _=>ac (ae J (fun h2=> ?_) (fun h2=> ?_)))))))))))))))
  ·have hq:p x=true:=h2;refine aj (ad J J (ai J J (ac (au (aH () O J (bE (aJ J)) (by rw [nH hx hq n2]) [] [] J J J)))))
  ·have hq:p x=false:=h2;refine ax (ap (ar J J (bi (by first|exact bc (by omega) (by omega)|rfl)) J (ad J J (ac ?_))));refine aM (k+1) ⟨⟨by omega,fun i y hi hy=>by rcases Nat.lt_succ_iff_lt_or_eq.1 hi with h|h;exact n2 i y h hy;rw [h,hx]at hy;rw [←Option.some.inj hy];exact hq⟩,by omega⟩ J J J
 ·(try simp only [be]at h1)
  have hk:k=l.length:=by omega
  subst hk;refine bx (aj (ai J J (ac (au (aH () O J (bE (aJ J)) (by rw [nG n2]) [] [] J J J)))))
theorem Bu(v:SV)(l:List Ty)(hl:l.length≤1000000)(n:Nat)(cap:List Value)(C:Asn)(p:Ty→Bool)(hcb:Cb prog n)(hs:∀x∈l,Spec prog n (yV x::cap) [] [C] (X:=Unit) (fun _=>True) (fun _=> .bool (p x)) (fun _=> []) (fun _=> [])):
  Spec prog 161 [sv v,.func (.func n) #[] cap.toArray] [] [sl 5 eu (sv v) l,C] (X:=Unit) (fun _=>True) (fun _=> .bool (l.any p)) (fun _=> []) (fun _=> []):=by
 refine aI func161 J ntmps161 J fun w0 M H=>aj (ai J J (aG J (ad J J (ad J J (bN (xs:= [.tmp 5,.tmp 6]) (Dp v l hl n cap C p hcb hs) Nm [] [(false,0),(false,1)] [] [] J J J J J J J J (fun _ _=>J) (fun _ _ _=>J) J (fun _ _=>ar J J fe J (ai J J (ac (au (aH () O J (bE (aJ J)) (congrArg Value.bool oM) [] [] J J J))))))))))
theorem Dq(v:SV)(l:List Tx)(hl:l.length≤1000000)(n:Nat)(cap:List Value)(C:Asn)(p:Tx→Bool)(hcb:Cb prog n)(hs:∀x∈l,Spec prog n (xV x::cap) [] [C] (X:=Unit) (fun _=>True) (fun _=> .bool (p x)) (fun _=> []) (fun _=> [])):
  Spec prog 200 [sv v,.func (.func n) #[] cap.toArray] [] [sl 4 dt (sv v) l,C] (X:=Unit) (fun _=>True) (fun _=> .int .i64 (wE p l)) (fun _=> []) (fun _=> []):=by
 refine aI func200 J ntmps200 J fun w0 M H=>aj (ai J J (ac (aS (ad J J (aO (aU underlying59 J (aN (k:=0) J)) J (ad J J (ac (aB ?_))))))))
 refine bv (X:=Nat) (fun k=>k≤l.length∧∀i y,i<k→l[i]?=some y→p y=false) (fun k=> [(0,sv v),(1,.func (.func n) #[] cap.toArray),(7,.int .i64 (l.length:Int)),(8,.int .i64 (k:Int))]) (fun k=> []) (fun k=> [(0,sl 4 dt (sv v) l),(1,C)]) (fun k=>l.length-k) 0 ⟨Nat.zero_le _,fun i y hi=>by omega⟩ J J J (fun k hk0=> ?_);obtain⟨n1,n2⟩:=hk0;refine aj (ar J J ci J (ac (a_ (ae J (fun h1=> ?_) (fun h1=> ?_)))))
 ·(try simp only [be]at h1)
  have hk:k<l.length:=by omega
  obtain⟨x,hx⟩:∃x,l[k]?=some x:=⟨_,List.getElem?_eq_getElem hk⟩
  refine ax (a_ (aB (aj (ad J J (ai J J (aG J (ad J J (ad J J (ad J J (aO (aR (j:=k) underlying59 co J J (aN (k:=0) J) (by first|rfl|omega) (by first|omega|(simp;done)|(simp;omega))) J (aO (aL co J J J (bD (aN (k:=0) J) (by intro _;rfl) hx (by rfl))) J (bN (xs:= [.tmp 15]) (hs x (List.mem_of_getElem? hx)) hcb [] [(false,1)] [] [] J J J J J J J J (fun _ _=>J) (fun _ _ _=>J) J (fun _ _=>ac (ae J (fun h2=> ?_) (fun h2=> ?_)))))))))))))))
  ·have hq:p x=true:=h2;refine aj (ad J J (ai J J (ac (au (aH () O J (bE (aJ J)) (by rw [nH hx hq n2]) [] [] J J J)))))
  ·have hq:p x=false:=h2;refine ax (ap (ar J J (bi (by first|exact bc (by omega) (by omega)|rfl)) J (ad J J (ac ?_))));refine aM (k+1) ⟨⟨by omega,fun i y hi hy=>by rcases Nat.lt_succ_iff_lt_or_eq.1 hi with h|h;exact n2 i y h hy;rw [h,hx]at hy;rw [←Option.some.inj hy];exact hq⟩,by omega⟩ J J J
 ·(try simp only [be]at h1)
  have hk:k=l.length:=by omega
  subst hk;refine bx (aj (ai J J (ac (au (aH () O J (bE (aJ J)) (by rw [nG n2]) [] [] J J J)))))
theorem sL(v:SV)(l:List Tx)(hl:l.length≤1000000)(n:Nat)(cap:List Value)(C:Asn)(p:Tx→Bool)(hcb:Cb prog n)(hs:∀x∈l,Spec prog n (xV x::cap) [] [C] (X:=Unit) (fun _=>True) (fun _=> .bool (p x)) (fun _=> []) (fun _=> [])):
  Spec prog 186 [sv v,.func (.func n) #[] cap.toArray] [] [sl 4 dt (sv v) l,C] (X:=Unit) (fun _=>True) (fun _=> .bool (l.any p)) (fun _=> []) (fun _=> []):=by
 refine aI func186 J ntmps186 J fun w0 M H=>aj (ai J J (aG J (ad J J (ad J J (bN (xs:= [.tmp 5,.tmp 6]) (Dq v l hl n cap C p hcb hs) Ni [] [(false,0),(false,1)] [] [] J J J J J J J J (fun _ _=>J) (fun _ _ _=>J) J (fun _ _=>ar J J fe J (ai J J (ac (au (aH () O J (bE (aJ J)) (congrArg Value.bool oM) [] [] J J J))))))))))
theorem Bv(v:SV)(l:List ByteArray)(hl:l.length≤1000000)(n:Nat)(p:ByteArray→Bool)(hcb:Cb prog n)(hs:∀s∈l,Spec prog n [.string s] [] [] (X:=Unit) (fun _=>True) (fun _=> .bool (p s)) (fun _=> []) (fun _=> [])):
  Spec prog 120 [sv v,.func (.func n) #[] #[]] [] [sl 1 eS (sv v) l] (X:=Unit) (fun _=>True) (fun _=> .bool (l.any p)) (fun _=> []) (fun _=> []):=by
 refine aI func120 J ntmps120 J fun w0 M H=>aj (ai J J (aG J (ad J J (ad J J (bN (xs:= [.tmp 5,.tmp 6]) (Dr v l hl n p hcb hs) NF [] [(false,0)] [] [] J J J J J J J J (fun _ _=>J) (fun _ _ _=>J) J (fun _ _=>ar J J fe J (ai J J (ac (au (aH () O J (bE (aJ J)) (congrArg Value.bool oM) [] [] J J J))))))))))
theorem m9{p:Int→Bool}{s:ByteArray}:yv p s=true↔∀(i:Nat)(h:i<s.size),p (((s[i]'h).toNat:Nat):Int)=true:=by
 unfold yv;rw [List.all_eq_true];constructor
 ·intro h i hi;refine h (s[i]'hi) ?_;have:s[i]'hi=s.data.toList[i]'(by simpa using hi):=by simp [ByteArray.getElem_eq_getElem_data]
  rw [this];exact List.getElem_mem _
 ·intro h b hb;obtain⟨i,hi,rfl⟩:=List.mem_iff_getElem.1 hb;have hi':i<s.size:=by simpa using hi
  have:=h i hi';rw [show s[i]'hi'=s.data.toList[i]'hi by simp [ByteArray.getElem_eq_getElem_data]]at this;exact this
theorem EL{s:ByteArray}:s=oNil↔s.size=0:=by
 constructor
 ·intro h;subst h;rfl
 ·intro h;obtain⟨⟨l⟩⟩:=s;cases l with
  | nil=>rfl
  | cons a r=>simp [ByteArray.size]at h
theorem qz{s:ByteArray}(h:0<s.size):IntKind.i32.wrap ((bn s).getD 0 0)=sS s:=by
 unfold sS bn;obtain⟨⟨l⟩⟩:=s;cases l with
 | nil=>simp [ByteArray.size]at h
 | cons a r=>
  have:=a.toNat_lt;simp only [List.map_cons,List.getD_cons_zero,List.headD_cons];exact BZ (by omega) (by omega)
theorem vB(s:ByteArray):ca s=(!(s==⟨#[]⟩)&& !decide ((s.size:Int)>12)&& !cg s rJ&&mL (sS s)&&yv (fun c=>mL c || iG c) s):=by
 unfold ca
 congr 4
 ·rw [b_];have:=EL (s:=s);unfold oNil at this;by_cases h:s.size=0
  ·rw [this.2 h];rfl
  ·have h2:¬s=⟨#[]⟩:=fun e=>h (this.1 e)
   simp [h,h2]
 ·by_cases h:s.size≤12
  ·have:¬(s.size:Int)>12:=by omega
   simp [h,this]
  ·have:(s.size:Int)>12:=by omega
   simp [h,this]
theorem qg{s:ByteArray}(h:((s==⟨#[]⟩)=true∨(s.size:Int)>12)∨cg s rJ=true∨(0<s.size∧(false || !mL (IntKind.i32.wrap ((bn s).getD 0 0)))=true)):ca s=false:=by
 rw [vB];rcases h with(h|h)|h|⟨h0,h⟩
 ·rw [h];rfl
 ·rw [decide_eq_true h];simp
 ·rw [h];simp
 ·rw [qz h0,Bool.false_or,Bool.not_eq_true']at h;rw [h];simp
theorem Bj{s:ByteArray}{k:Nat}(h1:(s==⟨#[]⟩)=false∧¬(s.size:Int)>12)(h2:True∧cg s rJ=false)(h0:0<s.size)(h3:(false || !mL (IntKind.i32.wrap ((bn s).getD 0 0)))=false)(hk:decide ((k:Int)=(s.size:Int))=yv (fun c=>mL c || iG c) s):decide ((k:Int)=(s.size:Int))=ca s:=by
 rw [vB,h1.1,decide_eq_false h1.2,h2.2,hk];rw [qz h0,Bool.false_or,Bool.not_eq_false']at h3;rw [h3];simp
theorem AQ(s:ByteArray)(n:Nat)(p:Int→Bool)(has:KN s)(hcb:Cb prog n)(hz:s.size≤1000000)(hs:∀c:Int,Spec prog n [.int .i32 c] [] [] (X:=Unit) (fun _=>True) (fun _=> .bool (p c)) (fun _=> []) (fun _=> [])):
  Spec prog 158 [.string s,.func (.func n) #[] #[]] [] [] (X:=Nat) (fun k=>decide ((k:Int)=(s.size:Int))=yv p s) (fun k=> .int .i64 (k:Int)) (fun _=> []) (fun _=> []):=by
 refine aI func158 J ntmps158 J fun w0 M H=>aj (ai J J (ac (aS (ad J J (CJ underlying9 J J fun i8=>ac (aB ?_))))))
 refine bv (X:=Nat) (fun x=>x≤s.size∧∀j(h:j<s.size),j<x→p (((s[j]'h).toNat:Nat):Int)=true) (fun x=> [(0,.string s),(1,.func (.func n) #[] #[]),(8,.pointer (some ⟨i8,0,none⟩))]) (fun x=> [(8,LQ i8 s x)]) (fun x=> []) (fun x=>s.size-x) 0 ⟨Nat.zero_le _,fun j h hj=>by omega⟩ J J J (fun x hx0=> ?_);obtain⟨n1,n2⟩:=hx0;refine aj (FR (k:=8) J J (fun h=>has x h) J (fun hover=> ?_) (fun hmore=> ?_))
 ·have hx:x=s.size:=by omega
  subst hx;refine aO (ce J J) J (ac (a_ (ae J (fun h1=> ?_) (fun h1=> ?_))))
  ·exact absurd h1 (by simp)
  ·(try simp only [be]at h1)
   refine bx (aj (ad J J (aO (cl underlying9 J) J (ai J J (ac (au (aH s.size (by rw [decide_eq_true J];symm;exact m9.2 fun i h=>n2 i h h) J (bE (aJ J)) J [] [] J J J)))))))
 ·have hxs:x<s.size:=hmore;refine aO (ce J J) J (ac (a_ (ae J (fun h2=> ?_) (fun h2=> ?_))))
  ·(try simp only [be]at h2)
   refine ax (aB (aj (aO (ce J J) J (aO (ce J J) J (ai J J (ai J J (aG J (ad J J (ad J J (bN (xs:= [.tmp 14]) (hs _) hcb [] [] [] [] J J J J J J J J (fun _ _=>J) (fun _ _ _=>J) J (fun _ _=>aO (ch J) J (ac (ae J (fun h3=> ?_) (fun h3=> ?_))))))))))))))
   ·have hq:p (((s[x]'hxs).toNat:Nat):Int)=false:=by simpa using h3
    refine aj (ad J J (ai J J (ac (au ?_))));refine aH x (by rw [decide_eq_false (show ¬((x:Int)=(s.size:Int)) by omega)];symm;rw [Bool.eq_false_iff];intro h;have:=m9.1 h x hxs;rw [hq]at this;cases this) J (bE (aJ J)) J [] [] J J J
   ·have hq:p (((s[x]'hxs).toNat:Nat):Int)=true:=by simpa using h3
    refine ax ?_;refine aM (x+1) ⟨⟨by omega,fun j h hj=>by rcases Nat.lt_succ_iff_lt_or_eq.1 hj with h2|h2;exact n2 j h h2;subst h2;exact hq⟩,by omega⟩ J J J
  ·exact absurd h2 (by simp)
theorem ix(s:ByteArray)(has:KN s)(hz:s.size≤1000000):
  Spec prog 122 [.string s] [] [] (X:=Unit) (fun _=>True) (fun _=> .bool (ca s)) (fun _=> []) (fun _=> []):=by
 refine aI func122 J ntmps122 J fun w0 M H=>aj (ai J J (ac (aS (ad J J (ar J J cr J (ad J J (aA [] J J O (fun hg1=>am J) J (aA [(6,_)] J J ⟨J,O⟩ (fun hg2=>cl underlying9 J) J (aA [(6,_),(7,_)] J J ⟨J,J,O⟩ (fun hg3=>aT J J dV) J (aO (aQ J J J (by first|exact av|exact aC|rfl)) J (ad J J (gW (t:=10) J (fun h4=> ?_) (fun h4=> ?_)))))))))))))
 ·(try simp only [be]at h4)
  have q7:=h4;refine dQ J J J J (dQ J J J J (dQ J J J J (aO (aQ J J J (by first|exact av|exact aC|rfl)) J (ad J J (gW (t:=15) J (fun h5=> ?_) (fun h5=> ?_))))))
  ·(try simp only [be]at h5)
   have q12:=h5;refine dQ J J J J (dQ J J J J (dQ J J J J (dQ J J J J (dQ J J J J (aO (aQ J J J (by first|exact av|exact aC|rfl)) J (ac (ae J (fun h6=> ?_) (fun h6=> ?_))))))))
   ·refine aj (ai J J (ac (au (aH () O J (bE (aJ J)) (congrArg Value.bool (qg (.inl q7)).symm) [] [] J J J))))
   ·exact absurd h6 (by simp)
  ·(try simp only [be]at h5)
   have q12:=h5;exact absurd h5 (by simp)
 ·(try simp only [be]at h4)
  have q7:=h4;have hs0:0<s.size:=Nat.pos_of_ne_zero fun e=>by have:=EL.2 e;subst this;exact absurd q7.1 (by decide)
  refine cn J J (bN (xs:= []) rK NE [] [] [11] [] J J J J J J J J (fun _ _=>J) (fun _ _ _=>J) J (fun v11 _=>cf 11 21 J bB (cn J J (ad J J (cn J J (bN (xs:= [.tmp 11,.tmp 12]) (gy v11 rJ (by decide) s) Ak [] [(false,21)] [] [] J J J J J J J J (fun _ _=>J) (fun _ _ _=>J) J (fun _ _=>aO (aQ J J J (by first|exact av|exact aC|rfl)) J (ad J J (gW (t:=15) J (fun h7=> ?_) (fun h7=> ?_))))))))))
  ·(try simp only [be]at h7)
   have q12:=h7;refine dQ J J J J (dQ J J J J (dQ J J J J (dQ J J J J (dQ J J J J (aO (aQ J J J (by first|exact av|exact aC|rfl)) J (ac (ae J (fun h8=> ?_) (fun h8=> ?_))))))))
   ·refine aj (ai J J (ac (au (aH () O J (bE (aJ J)) (congrArg Value.bool (qg (.inr (.inl (by rcases q12 with q|q;exact absurd q (by simp);exact q)))).symm) [] [] J J J))))
   ·exact absurd h8 (by simp)
  ·(try simp only [be]at h7)
   have q12:=h7;refine cn J J (ad J J (cn J J (aO (dv (j:=0) underlying9 J J J hs0) J (cn J J (aO (bX underlying5 underlying21 J (by first|exact BZ (by omega) (by omega)|rfl)) J (cn J J (bN (xs:= [.tmp 18]) (ob _) IA [] [] [] [] J J J J J J J J (fun _ _=>J) (fun _ _ _=>J) J (fun _ _=>cn J J (aO (ch J) J (aO (aQ J J J (by first|exact av|exact aC|rfl)) J (ac (ae J (fun h9=> ?_) (fun h9=> ?_)))))))))))))
   ·have q0:=h9;refine aj (ai J J (ac (au (aH () O J (bE (aJ J)) (congrArg Value.bool (qg (.inr (.inr ⟨hs0,q0⟩))).symm) [] [] J J J))))
   ·have q0:=h9;refine ax (aj (ad J J (bN (xs:= [.tmp 22,.func 159]) (AQ s 159 (fun c=>mL c || iG c) has NC hz (fun c=>vC c)) ND [] [] [] [] J J J J J J J J (fun _ _=>J) (fun _ _ _=>J) J (fun k hk=>ad J J (aO (cl underlying9 J) J (ar J J aY J (ai J J (ac (au (aH () O J (bE (aJ J)) (congrArg Value.bool (Bj q7 q12 hs0 q0 hk)) [] [] J J J))))))))))
def vI(p:ByteArray×Int):Value:= .int .i64 p.2
theorem zf{k:Int}{nm:ByteArray}{n:Nat}(h:k=1∨k=5):oK k nm n=((nm==⟨#[]⟩)&&decide ((n:Int)=0)):=by
 unfold oK;rw [if_pos h,b_]
 congr 1
 exact decide_eq_decide.2 (by omega)
theorem HQ{k:Int}{nm:ByteArray}{n:Nat}(h:k=2):oK k nm n=(ca nm&&decide ((n:Int)=0)):=by
 subst h;show(ca nm&&decide (n=0))=_
 congr 1
 exact decide_eq_decide.2 (by omega)
theorem HP{k:Int}{nm:ByteArray}{n:Nat}(h:k=3):oK k nm n=ca nm:=by
 subst h;rfl
theorem HO{k:Int}{nm:ByteArray}{n:Nat}(h:k=4):oK k nm n=((nm==⟨#[]⟩)&&decide ((n:Int)=1)):=by
 subst h;show(decide (nm=oNil)&&decide (n=1))=_;rw [b_]
 congr 1
 exact decide_eq_decide.2 (by omega)
theorem HN{k:Int}{nm:ByteArray}{n:Nat}(h:k=6):oK k nm n=(cg nm AG&&decide ((n:Int)=1)):=by
 subst h;show(cg nm AG&&decide (n=1))=_
 congr 1
 exact decide_eq_decide.2 (by omega)
theorem HM{k:Int}{nm:ByteArray}{n:Nat}(h:k=7):oK k nm n=(gI nm&&decide ((n:Int)=2)):=by
 subst h;show(gI nm&&decide (n=2))=_
 congr 1
 exact decide_eq_decide.2 (by omega)
theorem HR{k:Int}{nm:ByteArray}{n:Nat}(h1:¬k=1)(h5:¬k=5)(h2:¬k=2)(h3:¬k=3)(h4:¬k=4)(h6:¬k=6)(h7:¬k=7):oK k nm n=false:=by
 unfold oK;rw [if_neg (fun h=>h.elim h1 h5),if_neg h2,if_neg h3,if_neg h4,if_neg h6,if_neg h7]
theorem fV{α:Type}(p:α→Bool):∀l:List α,(!(l.any fun x=> !p x))=l.all p
 | []=>rfl
 | a::r=>by rw [List.any_cons,List.all_cons,←fV p r];cases p a<;>simp
theorem y0(t:Tx):rX t=(oK t.kind t.name t.kids.length&&(decide (t.kind=1) || decide (t.n=0))&& !(t.kids.any fun u=> !rX u)):=by
 rw [fV];cases t;rw [rX,oH];rfl
theorem vq:
  Spec prog 201 [] [] [] (X:=Nat) (fun _=>True) (fun b=> .map (some b)) (fun b=> [mp fH Prod.fst vI (some b) lvL]) (fun _=> []):=by
 refine aI func201 J ntmps201 J fun w0 M H=>aj (ai J J (aG J (kK (Prod.fst:ByteArray×Int→ByteArray) fH vI J fun b1=>cc (k:=1) (α:=ByteArray×Int) (kf:=Prod.fst) (vf:=vI) (iO,0) [(iO,0)] underlying105 eg J J J J (List.Perm.of_eq J) (cc (k:=1) (α:=ByteArray×Int) (kf:=Prod.fst) (vf:=vI) (em,1) [(em,1),(iO,0)] underlying105 eg J J J J (List.Perm.of_eq J) (cc (k:=1) (α:=ByteArray×Int) (kf:=Prod.fst) (vf:=vI) (ed,2) [(ed,2),(em,1),(iO,0)] underlying105 eg J J J J (List.Perm.of_eq J) (cc (k:=1) (α:=ByteArray×Int) (kf:=Prod.fst) (vf:=vI) (lB,3) [(lB,3),(ed,2),(em,1),(iO,0)] underlying105 eg J J J J (List.Perm.of_eq J) (cc (k:=1) (α:=ByteArray×Int) (kf:=Prod.fst) (vf:=vI) (ly,3) [(ly,3),(lB,3),(ed,2),(em,1),(iO,0)] underlying105 eg J J J J (List.Perm.of_eq J) (cc (k:=1) (α:=ByteArray×Int) (kf:=Prod.fst) (vf:=vI) (kv,4) [(kv,4),(ly,3),(lB,3),(ed,2),(em,1),(iO,0)] underlying105 eg J J J J (List.Perm.of_eq J) (cc (k:=1) (α:=ByteArray×Int) (kf:=Prod.fst) (vf:=vI) (lz,4) [(lz,4),(kv,4),(ly,3),(lB,3),(ed,2),(em,1),(iO,0)] underlying105 eg J J J J (List.Perm.of_eq J) (cc (k:=1) (α:=ByteArray×Int) (kf:=Prod.fst) (vf:=vI) (lA,4) [(lA,4),(lz,4),(kv,4),(ly,3),(lB,3),(ed,2),(em,1),(iO,0)] underlying105 eg J J J J (List.Perm.of_eq J) (cc (k:=1) (α:=ByteArray×Int) (kf:=Prod.fst) (vf:=vI) (mE,4) [(mE,4),(lA,4),(lz,4),(kv,4),(ly,3),(lB,3),(ed,2),(em,1),(iO,0)] underlying105 eg J J J J (List.Perm.of_eq J) (cc (k:=1) (α:=ByteArray×Int) (kf:=Prod.fst) (vf:=vI) (fB,5) [(fB,5),(mE,4),(lA,4),(lz,4),(kv,4),(ly,3),(lB,3),(ed,2),(em,1),(iO,0)] underlying105 eg J J J J (List.Perm.of_eq J) (cc (k:=1) (α:=ByteArray×Int) (kf:=Prod.fst) (vf:=vI) (fR,5) [(fR,5),(fB,5),(mE,4),(lA,4),(lz,4),(kv,4),(ly,3),(lB,3),(ed,2),(em,1),(iO,0)] underlying105 eg J J J J (List.Perm.of_eq J) (cc (k:=1) (α:=ByteArray×Int) (kf:=Prod.fst) (vf:=vI) (e8,6) [(e8,6),(fR,5),(fB,5),(mE,4),(lA,4),(lz,4),(kv,4),(ly,3),(lB,3),(ed,2),(em,1),(iO,0)] underlying105 eg J J J J (List.Perm.of_eq J) ?_))))))))))))))
 refine cc (k:=1) (α:=ByteArray×Int) (kf:=Prod.fst) (vf:=vI) (d7,6) [(d7,6),(e8,6),(fR,5),(fB,5),(mE,4),(lA,4),(lz,4),(kv,4),(ly,3),(lB,3),(ed,2),(em,1),(iO,0)] underlying105 eg J J J J (List.Perm.of_eq J) (cc (k:=1) (α:=ByteArray×Int) (kf:=Prod.fst) (vf:=vI) (fD,7) [(fD,7),(d7,6),(e8,6),(fR,5),(fB,5),(mE,4),(lA,4),(lz,4),(kv,4),(ly,3),(lB,3),(ed,2),(em,1),(iO,0)] underlying105 eg J J J J (List.Perm.of_eq J) (cc (k:=1) (α:=ByteArray×Int) (kf:=Prod.fst) (vf:=vI) (jc,7) [(jc,7),(fD,7),(d7,6),(e8,6),(fR,5),(fB,5),(mE,4),(lA,4),(lz,4),(kv,4),(ly,3),(lB,3),(ed,2),(em,1),(iO,0)] underlying105 eg J J J J (List.Perm.of_eq J) (cc (k:=1) (α:=ByteArray×Int) (kf:=Prod.fst) (vf:=vI) (jV,7) [(jV,7),(jc,7),(fD,7),(d7,6),(e8,6),(fR,5),(fB,5),(mE,4),(lA,4),(lz,4),(kv,4),(ly,3),(lB,3),(ed,2),(em,1),(iO,0)] underlying105 eg J J J J (List.Perm.of_eq J) (ad J J (ai J J (ac (au (aH b1 O J (bE (aJ J)) J [1] [] J J J))))))))
theorem CA(v:SV)(l:List Tx)(ih:∀u∈l,Spec prog 188 [xV u] [] [bS u.v u.kids] (X:=Unit) (fun _=>True) (fun _=> .bool (rX u)) (fun _=> []) (fun _=> []))(u:Tx)(hu:u∈l):
  Spec prog 202 [xV u] [] [bS v l] (X:=Unit) (fun _=>True) (fun _=> .bool (!rX u)) (fun _=> []) (fun _=> []):=by
 refine aI func202 J ntmps202 J fun w0 M H=>aW 0 7 J (cS hu) (aj (bU J J fun b1=>ai J J (aG J (aO (aL co J J J (aX (k:=1) J)) J (bN (xs:= [.tmp 3]) (ih u hu) Ir [] [(false,7)] [] [] J J J J J J J J (fun _ _=>J) (fun _ _ _=>J) J (fun _ _=>aO (ch J) J (ai J J (ac (au (aH () O J (bE (aJ J)) J [] [] J J J))))))))))
theorem Cz(v:SV)(l:List Tx)(ih:∀u∈l,Spec prog 188 [xV u] [] [bS u.v u.kids] (X:=Unit) (fun _=>True) (fun _=> .bool (rX u)) (fun _=> []) (fun _=> []))(u:Tx)(hu:u∈l):
  Spec prog 187 [xV u] [] [bS v l] (X:=Unit) (fun _=>True) (fun _=> .bool (!rX u)) (fun _=> []) (fun _=> []):=by
 refine aI func187 J ntmps187 J fun w0 M H=>aW 0 7 J (cS hu) (aj (bU J J fun b1=>ai J J (aG J (aO (aL co J J J (aX (k:=1) J)) J (bN (xs:= [.tmp 3]) (ih u hu) Ir [] [(false,7)] [] [] J J J J J J J J (fun _ _=>J) (fun _ _ _=>J) J (fun _ _=>aO (ch J) J (ai J J (ac (au (aH () O J (bE (aJ J)) J [] [] J J J))))))))))
theorem FG(t:Tx)(ht:GX t)(ih:∀u∈t.kids,Spec prog 188 [xV u] [] [bS u.v u.kids] (X:=Unit) (fun _=>True) (fun _=> .bool (rX u)) (fun _=> []) (fun _=> [])):
  Spec prog 188 [xV t] [] [bS t.v t.kids] (X:=Unit) (fun _=>True) (fun _=> .bool (rX t)) (fun _=> []) (fun _=> []):=by
 refine aI func188 J ntmps188 J fun w0 M H=>aW 0 1 J eW ?_
 have hnm:=Ho ht;have hkl:=kF ht;refine aj (bU J J fun b1=>ai J J (aG J (ai J J (ac (a_ (yX [0,1,2,3,4,5,6,7,8] [0,1,2,3,4,5,7,6,8] [7,8,9,10,6,11,12,4,5] _ J J J (bk (V:= [(1,8,_),(2,9,_)]) [1,2] 0 [0] [3,4,5,6,7,8] (fun bm=> [(3,10,_),(4,6,_),(5,11,_),(6,12,_),(7,4,_),(8,5,_)]) J J (aa (aD J (ag cZ J)) (aa (aD J (ah t9 J J (ay (k:=1) J J))) aw)) J J J J J J J J J J J (fun _ _=>J) J (g9 (xs:= []) vq Nh [] [] [60] [] J J J J J J J J (fun _ _=>J) (fun _ _ _=>J)) (fun bm _=>bp [3,4,5,6,7,8,1,2] J J (aa (aD J (mC underlying105 eg t3 J J (Dy (k:=60) J) J)) (aa (aD J (am J)) (aa (aD J (ce J J)) (aa (aD J (ce J J)) (aa (aD J (ct J)) (aa (aD J (ct J)) (aa (aD J (ag cZ J)) (aa (aD J (ah t9 J J (ay (k:=1) J J))) aw)))))))) J J J (br (X:=Unit) (fun _=>True) (fun _=> [(1,.pointer (some ⟨b1,0,none⟩)),(3,.bool (oK t.kind t.name t.kids.length))]) (fun _=> [(1,bj b1 61 (dt t))]) (fun _=> [(0,bS t.v t.kids),(1,sl 4 dt (sv t.v) t.kids)]) ?_ (fun _ _=> ?_))))))))))
 ·refine aj (az iC J J (aP 1 t3 J J J J J (ac (aB (aS (ar J J aY J (ai J J (ac (ae J (fun h1=> ?_) (fun h1=> ?_))))))))))
  ·have q1:t.kind=1:=of_decide_eq_true h1;refine ax (ae J (fun h2=> ?_) (fun h2=> ?_))
   ·(try simp only [be]at h2)
    refine ap (az cZ J J (aP 1 t9 J J J J J (ar J J cr J (ad J J (aA [] J J O (fun hg3=>ag dc J) J (aA [(22,_)] J J ⟨J,O⟩ (fun hg4=>ah ij J J (ay (k:=1) J J)) J (aA [(22,_),(23,_)] J J ⟨J,J,O⟩ (fun hg5=>aU underlying59 J (aN (k:=1) J)) J (aA [(22,_),(23,_),(24,_)] J J ⟨J,J,J,O⟩ (fun hg6=>aT J J aY) J (aO (aQ J J J (by first|exact av|exact aC|rfl)) J (ai J J (ac (aM () O (by rw [zf (.inl q1)];rfl) J J))))))))))))
   ·exact absurd (decide_eq_true q1) (by rw [h2];simp)
  ·have q1:¬t.kind=1:=of_decide_eq_false h1;refine ap (ar J J aY J (ai J J (ac (ae J (fun h7=> ?_) (fun h7=> ?_)))))
   ·have q5:t.kind=5:=of_decide_eq_true h7;refine ap (az cZ J J (aP 1 t9 J J J J J (ar J J cr J (ad J J (aA [] J J O (fun hg8=>ag dc J) J (aA [(22,_)] J J ⟨J,O⟩ (fun hg9=>ah ij J J (ay (k:=1) J J)) J (aA [(22,_),(23,_)] J J ⟨J,J,O⟩ (fun hg10=>aU underlying59 J (aN (k:=1) J)) J (aA [(22,_),(23,_),(24,_)] J J ⟨J,J,J,O⟩ (fun hg11=>aT J J aY) J (aO (aQ J J J (by first|exact av|exact aC|rfl)) J (ai J J (ac (aM () O (by rw [zf (.inr q5)];rfl) J J))))))))))))
   ·have q5:¬t.kind=5:=of_decide_eq_false h7;refine aj (ar J J aY J (ai J J (ac (ae J (fun h12=> ?_) (fun h12=> ?_)))))
    ·have q2:t.kind=2:=of_decide_eq_true h12;refine ap (az cZ J J (aP 1 t9 J J J J J (bN (xs:= [.tmp 30]) (ix t.name hnm.1 hnm.2) wq [] [] [] [] J J J J J J J J (fun _ _=>J) (fun _ _ _=>J) J (fun _ _=>ad J J (aA [] J J O (fun hg13=>ag dc J) J (aA [(33,_)] J J ⟨J,O⟩ (fun hg14=>ah ij J J (ay (k:=1) J J)) J (aA [(33,_),(34,_)] J J ⟨J,J,O⟩ (fun hg15=>aU underlying59 J (aN (k:=1) J)) J (aA [(33,_),(34,_),(35,_)] J J ⟨J,J,J,O⟩ (fun hg16=>aT J J aY) J (aO (aQ J J J (by first|exact av|exact aC|rfl)) J (ai J J (ac (aM () O (by rw [HQ q2];rfl) J J))))))))))))
    ·have q2:¬t.kind=2:=of_decide_eq_false h12;refine aj (ar J J aY J (ai J J (ac (ae J (fun h17=> ?_) (fun h17=> ?_)))))
     ·have q3:t.kind=3:=of_decide_eq_true h17;refine ap (az cZ J J (aP 1 t9 J J J J J (bN (xs:= [.tmp 41]) (ix t.name hnm.1 hnm.2) wq [] [] [] [] J J J J J J J J (fun _ _=>J) (fun _ _ _=>J) J (fun _ _=>ai J J (ac (aM () O (by rw [HP q3];rfl) J J))))))
     ·have q3:¬t.kind=3:=of_decide_eq_false h17;refine aj (ar J J aY J (ai J J (ac (ae J (fun h18=> ?_) (fun h18=> ?_)))))
      ·have q4:t.kind=4:=of_decide_eq_true h18;refine ap (az cZ J J (aP 1 t9 J J J J J (ar J J cr J (ad J J (aA [] J J O (fun hg19=>ag dc J) J (aA [(49,_)] J J ⟨J,O⟩ (fun hg20=>ah ij J J (ay (k:=1) J J)) J (aA [(49,_),(50,_)] J J ⟨J,J,O⟩ (fun hg21=>aU underlying59 J (aN (k:=1) J)) J (aA [(49,_),(50,_),(51,_)] J J ⟨J,J,J,O⟩ (fun hg22=>aT J J aY) J (aO (aQ J J J (by first|exact av|exact aC|rfl)) J (ai J J (ac (aM () O (by rw [HO q4];rfl) J J))))))))))))
      ·have q4:¬t.kind=4:=of_decide_eq_false h18;refine aj (ar J J aY J (ai J J (ac (ae J (fun h23=> ?_) (fun h23=> ?_)))))
       ·have q6:t.kind=6:=of_decide_eq_true h23;refine ap (cD eS AG (parts:= [(0,.const (.string (ByteArray.mk #[45]))),(1,.const (.string (ByteArray.mk #[126]))),(2,.const (.string (ByteArray.mk #[33])))]) underlying46 t9 J (by decide) (by intro _;rfl) J (by decide) (by decide) J J J J fun v56=>az cZ J J (aP 1 t9 J J J J J (cf 56 21 J bB (bN (xs:= [.tmp 56,.tmp 58]) (gy v56 AG (by decide) t.name) Ak [] [(false,21)] [] [] J J J J J J J J (fun _ _=>J) (fun _ _ _=>J) J (fun _ _=>ad J J (aA [] J J O (fun hg24=>ag dc J) J (aA [(61,_)] J J ⟨J,O⟩ (fun hg25=>ah ij J J (ay (k:=1) J J)) J (aA [(61,_),(62,_)] J J ⟨J,J,O⟩ (fun hg26=>aU underlying59 J (aN (k:=1) J)) J (aA [(61,_),(62,_),(63,_)] J J ⟨J,J,J,O⟩ (fun hg27=>aT J J aY) J (aO (aQ J J J (by first|exact av|exact aC|rfl)) J (ai J J (ac (aM () O (by rw [HN q6];rfl) J J)))))))))))))
       ·have q6:¬t.kind=6:=of_decide_eq_false h23;refine aj (ar J J aY J (ai J J (ac (ae J (fun h28=> ?_) (fun h28=> ?_)))))
        ·have q7:t.kind=7:=of_decide_eq_true h28;refine ap (ad J J (ad J J (aA [] J J O (fun hg29=>ag dc J) J (aA [(70,_)] J J ⟨J,O⟩ (fun hg30=>ah ij J J (ay (k:=1) J J)) J (aA [(70,_),(71,_)] J J ⟨J,J,O⟩ (fun hg31=>aU underlying59 J (aN (k:=1) J)) J (aA [(70,_),(71,_),(72,_)] J J ⟨J,J,J,O⟩ (fun hg32=>aT J J aY) J (aO (aQ J J J (by first|exact av|exact aC|rfl)) J (ai J J (ac (aM () O (by rw [HM q7];rfl) J J))))))))))
        ·have q7:¬t.kind=7:=of_decide_eq_false h28;refine ax (aM () O (by rw [HR q1 q5 q2 q3 q4 q6 q7];rfl) J J)
 ·refine aj (ad J J (ad J J (aA [] J J O (fun hg33=>ag iC J) J (aA [(77,_)] J J ⟨J,O⟩ (fun hg34=>ah t3 J J (ay (k:=1) J J)) J (aA [(77,_),(78,_)] J J ⟨J,J,O⟩ (fun hg35=>aT J J aY) J (aA [(77,_),(78,_),(79,_)] J J ⟨J,J,J,O⟩ (fun hg36=>am J) J (cq [] [(77,_),(78,_),(79,_),(80,_)] J J O ⟨J,J,J,J,O⟩ (fun hg37 hg37'=>ag tV J) J (cq [(81,_)] [(77,_),(78,_),(79,_),(80,_)] J J ⟨J,O⟩ ⟨J,J,J,J,O⟩ (fun hg38 hg38'=>ah cB J J (ay (k:=1) J J)) J (cq [(81,_),(82,_)] [(77,_),(78,_),(79,_),(80,_)] J J ⟨J,J,O⟩ ⟨J,J,J,J,O⟩ (fun hg39 hg39'=>aT J J aY) J (aA [(77,_),(78,_),(79,_),(80,_)] J J ⟨J,J,J,J,O⟩ (fun hg40=>aQ J J J (by first|exact av|exact aC|exact cz hg40|exact c8 hg40|rfl)) J (aO (aQ J J J (by first|exact av|exact aC|rfl)) J (ad J J (aA [] J J O (fun hg41=>ag dc J) J (aA [(87,_)] J J ⟨J,O⟩ (fun hg42=>ah ij J J (ay (k:=1) J J)) J (gT [(87,_),(88,_)] J J ⟨J,J,O⟩ (fun hg43=>g9 (xs:= [.tmp 88,.func 202]) (sL t.v t.kids hkl 202 [] (bS t.v t.kids) (fun u=> !rX u) Ng (fun u hu=>CA t.v t.kids ih u hu)) It [] [(false,1),(false,0)] [] [] J J J J J J J J (fun _ _=>J) (fun _ _ _=>J)) J (aA [(87,_),(88,_),(89,_)] J J ⟨J,J,J,O⟩ (fun hg44=>ch J) J (aO (aQ J J J (by first|exact av|exact aC|rfl)) J (ai J J ?_))))))))))))))))));refine ac (au (aH () O J (bE (aJ J)) (congrArg Value.bool (y0 t).symm) [] [] J J J))
theorem Cw:∀(n:Nat)(t:Tx),SizeOf.sizeOf t<n→GX t→Spec prog 188 [xV t] [] [bS t.v t.kids] (X:=Unit) (fun _=>True) (fun _=> .bool (rX t)) (fun _=> []) (fun _=> [])
 | 0,_,h,_=>absurd h (Nat.not_lt_zero _)
 | n+1,t,h,ht=>FG t ht fun u hu=>Cw n u (by have:=nU hu;omega) ((iY ht).mem u hu)
theorem FH(t:Tx)(ht:GX t):Spec prog 188 [xV t] [] [bS t.v t.kids] (X:=Unit) (fun _=>True) (fun _=> .bool (rX t)) (fun _=> []) (fun _=> []):=Cw _ t (Nat.lt_succ_self _) ht
theorem L0(t:Ty):rY t=(decide (t.kind≥1)&&decide (t.kind≤8)&&decide ((t.es.length:Int)=if t.kind=3 then 2 else 1)&&((decide (t.kind=1) || decide (t.kind=2))&&ca t.name || !(decide (t.kind=1) || decide (t.kind=2))&&(t.name==⟨#[]⟩))&&
   (decide ((if t.kind=4 then 2 else if t.kind=5 then 1 else 0:Int)>0) || decide ((t.body.length:Int)=0))&&(decide ((if t.kind=4 then 2 else if t.kind=5 then 1 else 0:Int)>1) || decide ((t.els.length:Int)=0))&& !(t.es.any fun u=> !rX u)&&t.body.all rY&&t.els.all rY):=by
 rw [fV];have e1:decide ((t.es.length:Int)=if t.kind=3 then 2 else 1)=decide (t.es.length=if t.kind=3 then 2 else 1):=decide_eq_decide.2 (by split<;>omega);have e2:((decide (t.kind=1) || decide (t.kind=2))&&ca t.name || !(decide (t.kind=1) || decide (t.kind=2))&&(t.name==⟨#[]⟩))=(if t.kind=1∨t.kind=2 then ca t.name else decide (t.name=oNil)):=by
  rw [b_];by_cases h:t.kind=1∨t.kind=2
  ·rw [if_pos h];have:(decide (t.kind=1) || decide (t.kind=2))=true:=by simpa using h
   rw [this];simp
  ·rw [if_neg h];have:(decide (t.kind=1) || decide (t.kind=2))=false:=by simpa using h
   rw [this];simp only [Bool.false_and,Bool.not_false,Bool.true_and,Bool.false_or];rfl
 have e3:(decide ((if t.kind=4 then 2 else if t.kind=5 then 1 else 0:Int)>0) || decide ((t.body.length:Int)=0))=(decide (t.kind=4) || decide (t.kind=5) || decide (t.body.length=0)):=by
  rw [show decide ((t.body.length:Int)=0)=decide (t.body.length=0)from decide_eq_decide.2 (by omega)]
  congr 1
  by_cases h4:t.kind=4
  ·simp [h4]
  ·by_cases h5:t.kind=5
   ·simp [h5]
   ·simp [h4,h5]
 have e4:(decide ((if t.kind=4 then 2 else if t.kind=5 then 1 else 0:Int)>1) || decide ((t.els.length:Int)=0))=(decide (t.kind=4) || decide (t.els.length=0)):=by
  rw [show decide ((t.els.length:Int)=0)=decide (t.els.length=0)from decide_eq_decide.2 (by omega)]
  congr 1
  by_cases h4:t.kind=4
  ·simp [h4]
  ·by_cases h5:t.kind=5
   ·simp [h5]
   ·simp [h4,h5]
 rw [e1,e2,e3,e4];cases t;rw [rY,oH,ju,ju];rfl
theorem L5(f:Tf):(f.ps.any (fun s=> !ca s) || !ca f.name || !(f.body.all rY))= !rF f:=by
 unfold rF;rw [ju,←fV ca f.ps];cases f.ps.any (fun s=> !ca s)<;>cases ca f.name<;>cases f.body.all rY<;>rfl
theorem Fk{v:SV}{l:List Tf}:∀w G,(cx v l).pred w G→(∀b,G b→b<w.heap.size)→∃G',(G4 l).pred w G'∧∀b,G' b→G b:=fun w G h _=>⟨G,h.2,fun _ hb=>hb⟩
theorem Cv(v:SV)(l:List Ty)(ih:∀u∈l,Spec prog 163 [yV u] [] [bS u.ve u.es,bF u.vb u.body,bF u.vl u.els] (X:=Unit) (fun _=>True) (fun _=> .bool (rY u)) (fun _=> []) (fun _=> []))(u:Ty)(hu:u∈l):
  Spec prog 162 [yV u] [] [bF v l] (X:=Unit) (fun _=>True) (fun _=> .bool (!rY u)) (fun _=> []) (fun _=> []):=by
 refine aI func162 J ntmps162 J fun w0 M H=>aW 0 7 J (jn hu) (aW 0 8 J (fF hu) (aW 0 9 J (gt hu) (aj (bU J J fun b1=>ai J J (aG J (aO (aL dJ J J J (aX (k:=1) J)) J (bN (xs:= [.tmp 3]) (ih u hu) Nw [] [(false,7),(false,8),(false,9)] [] [] J J J J J J J J (fun _ _=>J) (fun _ _ _=>J) J (fun _ _=>aO (ch J) J (ai J J (ac (au (aH () O J (bE (aJ J)) J [] [] J J J))))))))))))
theorem nA(v:SV)(l:List Ty)(hl:l.length≤1000000)(ih:∀u∈l,Spec prog 163 [yV u] [] [bS u.ve u.es,bF u.vb u.body,bF u.vl u.els] (X:=Unit) (fun _=>True) (fun _=> .bool (rY u)) (fun _=> []) (fun _=> [])):
  Spec prog 123 [sv v] [] [bF v l] (X:=Unit) (fun _=>True) (fun _=> .bool (l.all rY)) (fun _=> []) (fun _=> []):=by
 refine aI func123 J ntmps123 J fun w0 M H=>aW 0 1 J fQ (aj (ai J J (aG J (ad J J (bN (xs:= [.tmp 3,.func 162]) (Bu v l hl 162 [] (bF v l) (fun u=> !rY u) Ny (fun u hu=>Cv v l ih u hu)) Nz [] [(false,1),(false,0)] [] [] J J J J J J J J (fun _ _=>J) (fun _ _ _=>J) J (fun _ _=>aO (ch J) J (ai J J (ac (au (aH () O J (bE (aJ J)) (congrArg Value.bool (fV rY l)) [] [] J J J))))))))))
theorem FE(t:Ty)(ht:GY t)(ihb:∀u∈t.body,Spec prog 163 [yV u] [] [bS u.ve u.es,bF u.vb u.body,bF u.vl u.els] (X:=Unit) (fun _=>True) (fun _=> .bool (rY u)) (fun _=> []) (fun _=> []))(ihl:∀u∈t.els,Spec prog 163 [yV u] [] [bS u.ve u.es,bF u.vb u.body,bF u.vl u.els] (X:=Unit) (fun _=>True) (fun _=> .bool (rY u)) (fun _=> []) (fun _=> [])):
  Spec prog 163 [yV t] [] [bS t.ve t.es,bF t.vb t.body,bF t.vl t.els] (X:=Unit) (fun _=>True) (fun _=> .bool (rY t)) (fun _=> []) (fun _=> []):=by
 refine aI func163 J ntmps163 J fun w0 M H=>aW 0 3 J eW (aW 1 4 J fQ (aW 2 5 J fQ ?_))
 have hnm:=Hn ht;obtain⟨hel,heg⟩:=na ht;obtain⟨hbl,hbg⟩:=dY ht;obtain⟨hll,hlg⟩:=e_ ht;refine aj (bU J J fun b1=>ai J J (aG J (az dT J J (aP 1 t3 J J J J J (ar J J aY J (ad J J (aA [] J J O (fun hg1=>ag dT J) J (aA [(10,_)] J J ⟨J,O⟩ (fun hg2=>ah t3 J J (ay (k:=1) J J)) J (aA [(10,_),(11,_)] J J ⟨J,J,O⟩ (fun hg3=>aT J J aY) J (aO (aQ J J J (by first|exact av|exact aC|rfl)) J (ai J J (aG J (ai J J ?_)))))))))))));refine ac (br (X:=Unit) (fun _=>True) (fun _=> [(1,.pointer (some ⟨b1,0,none⟩)),(3,.bool (decide (t.kind=1) || decide (t.kind=2))),(4,.int .i64 (if t.kind=3 then 2 else 1))]) (fun _=> [(1,bj b1 64 (eu t))]) (fun _=> [(0,bS t.ve t.es),(1,bF t.vb t.body),(2,bF t.vl t.els),(3,sl 4 dt (sv t.ve) t.es),(4,sl 5 eu (sv t.vb) t.body),(5,sl 5 eu (sv t.vl) t.els)]) ?_ (fun _ _=> ?_))
 ·refine aj (az dT J J (aP 1 t3 J J J J J (ar J J aY J (ac (ae J (fun h4=> ?_) (fun h4=> ?_))))))
  ·have q3:t.kind=3:=of_decide_eq_true h4;refine ap (ai J J (ac (aM () O (by rw [if_pos q3];rfl) J J)))
  ·have q3:¬t.kind=3:=of_decide_eq_false h4;refine ax (aM () O (by rw [if_neg q3];rfl) J J)
 ·refine aj (ai J J (ac (br (X:=Unit) (fun _=>True) (fun _=> [(1,.pointer (some ⟨b1,0,none⟩)),(3,.bool (decide (t.kind=1) || decide (t.kind=2))),(4,.int .i64 (if t.kind=3 then 2 else 1)),(5,.int .i64 (if t.kind=4 then 2 else if t.kind=5 then 1 else 0))]) (fun _=> [(1,bj b1 64 (eu t))]) (fun _=> [(0,bS t.ve t.es),(1,bF t.vb t.body),(2,bF t.vl t.els),(3,sl 4 dt (sv t.ve) t.es),(4,sl 5 eu (sv t.vb) t.body),(5,sl 5 eu (sv t.vl) t.els)]) ?_ (fun _ _=> ?_))))
  ·refine aj (az dT J J (aP 1 t3 J J J J J (ac (aB (aj (ar J J aY J (ai J J (ac (ae J (fun h5=> ?_) (fun h5=> ?_))))))))))
   ·have q4:t.kind=4:=of_decide_eq_true h5;refine ap (ai J J (ac (aM () O (by rw [if_pos q4];rfl) J J)))
   ·have q4:¬t.kind=4:=of_decide_eq_false h5;refine aj (ar J J aY J (ai J J (ac (ae J (fun h6=> ?_) (fun h6=> ?_)))))
    ·have q5:t.kind=5:=of_decide_eq_true h6;refine ap (ai J J (ac (aM () O (by rw [if_neg q4,if_pos q5];rfl) J J)))
    ·have q5:¬t.kind=5:=of_decide_eq_false h6;refine ax (aM () O (by rw [if_neg q4,if_neg q5];rfl) J J)
  ·refine aj (az dT J J (aP 1 t3 J J J J J (ar J J fe J (ad J J (aA [] J J O (fun hg7=>ag dT J) J (aA [(27,_)] J J ⟨J,O⟩ (fun hg8=>ah t3 J J (ay (k:=1) J J)) J (aA [(27,_),(28,_)] J J ⟨J,J,O⟩ (fun hg9=>aT J J jl) J (aO (aQ J J J (by first|exact av|exact aC|rfl)) J (ad J J (aA [] J J O (fun hg10=>ag e9 J) J (aA [(32,_)] J J ⟨J,O⟩ (fun hg11=>ah ij J J (ay (k:=1) J J)) J (aA [(32,_),(33,_)] J J ⟨J,J,O⟩ (fun hg12=>aU underlying59 J (aN (k:=3) J)) J (aA [(32,_),(33,_),(34,_)] J J ⟨J,J,J,O⟩ (fun hg13=>am J) J (aA [(32,_),(33,_),(34,_),(35,_)] J J ⟨J,J,J,J,O⟩ (fun hg14=>aT J J aY) J (aO (aQ J J J (by first|exact av|exact aC|rfl)) J (ad J J (aA [] J J O (fun hg15=>am J) J (aA [(39,_)] J J ⟨J,O⟩ (fun hg16=>am J) J ?_))))))))))))))))))
   refine cq [] [(39,_),(40,_)] J J O ⟨J,J,O⟩ (fun hg17 hg17'=>ag gn J) J (cq [(41,_)] [(39,_),(40,_)] J J ⟨J,O⟩ ⟨J,J,O⟩ (fun hg18 hg18'=>ah t9 J J (ay (k:=1) J J)) J (CK [(41,_),(42,_)] [(39,_),(40,_)] J J ⟨J,J,O⟩ ⟨J,J,O⟩ (fun hg19 hg19'=>g9 (xs:= [.tmp 42]) (ix t.name hnm.1 hnm.2) wq [] [] [] [] J J J J J J J J (fun _ _=>J) (fun _ _ _=>J)) J (aA [(39,_),(40,_)] J J ⟨J,J,O⟩ (fun hg20=>aQ J J J (by first|exact av|exact aC|exact cz hg20|exact c8 hg20|rfl)) J (aA [(39,_),(40,_),(44,_)] J J ⟨J,J,J,O⟩ (fun hg21=>am J) J (cq [] [(39,_),(40,_),(44,_),(45,_)] J J O ⟨J,J,J,J,O⟩ (fun hg22 hg22'=>am J) J (cq [(46,_)] [(39,_),(40,_),(44,_),(45,_)] J J ⟨J,O⟩ ⟨J,J,J,J,O⟩ (fun hg23 hg23'=>ch J) J (cq [(46,_),(47,_)] [(39,_),(40,_),(44,_),(45,_)] J J ⟨J,J,O⟩ ⟨J,J,J,J,O⟩ (fun hg24 hg24'=>am J) J (cq [] [(46,_),(47,_),(48,_)] J J O ⟨J,J,J,O⟩ (fun hg25 hg25'=>ag gn J) J (cq [(49,_)] [(46,_),(47,_),(48,_)] J J ⟨J,O⟩ ⟨J,J,J,O⟩ (fun hg26 hg26'=>ah t9 J J (ay (k:=1) J J)) J (cq [(49,_),(50,_)] [(46,_),(47,_),(48,_)] J J ⟨J,J,O⟩ ⟨J,J,J,O⟩ (fun hg27 hg27'=>aT J J cr) J (cq [(46,_),(47,_),(48,_)] [(39,_),(40,_),(44,_),(45,_)] J J ⟨J,J,J,O⟩ ⟨J,J,J,J,O⟩ (fun hg28 hg28'=>aQ J J J (by first|exact av|exact aC|exact cz hg28|exact c8 hg28|exact cz (As hg28 hg28')|exact c8 (As hg28 hg28')|rfl)) J (aA [(39,_),(40,_),(44,_),(45,_)] J J ⟨J,J,J,J,O⟩ (fun hg29=>aQ J J J (by first|exact av|exact aC|exact cz hg29|exact c8 hg29|rfl)) J (aO (aQ J J J (by first|exact av|exact aC|rfl)) J (ad J J (aA [] J J O (fun hg30=>am J) J (aA [(56,_)] J J ⟨J,O⟩ (fun hg31=>aT J J dV) J (aA [(56,_),(57,_)] J J ⟨J,J,O⟩ (fun hg32=>am J) J ?_)))))))))))))))))
   refine cq [] [(56,_),(57,_),(58,_)] J J O ⟨J,J,J,O⟩ (fun hg33 hg33'=>ag fi J) J (cq [(59,_)] [(56,_),(57,_),(58,_)] J J ⟨J,O⟩ ⟨J,J,J,O⟩ (fun hg34 hg34'=>ah hQ J J (ay (k:=1) J J)) J (cq [(59,_),(60,_)] [(56,_),(57,_),(58,_)] J J ⟨J,J,O⟩ ⟨J,J,J,O⟩ (fun hg35 hg35'=>aU underlying62 J (aN (k:=4) J)) J (cq [(59,_),(60,_),(61,_)] [(56,_),(57,_),(58,_)] J J ⟨J,J,J,O⟩ ⟨J,J,J,O⟩ (fun hg36 hg36'=>aT J J aY) J (aA [(56,_),(57,_),(58,_)] J J ⟨J,J,J,O⟩ (fun hg37=>aQ J J J (by first|exact av|exact aC|exact cz hg37|exact c8 hg37|rfl)) J (aO (aQ J J J (by first|exact av|exact aC|rfl)) J (ad J J (aA [] J J O (fun hg38=>am J) J (aA [(66,_)] J J ⟨J,O⟩ (fun hg39=>aT J J dV) J (aA [(66,_),(67,_)] J J ⟨J,J,O⟩ (fun hg40=>am J) J (cq [] [(66,_),(67,_),(68,_)] J J O ⟨J,J,J,O⟩ (fun hg41 hg41'=>ag ez J) J (cq [(69,_)] [(66,_),(67,_),(68,_)] J J ⟨J,O⟩ ⟨J,J,J,O⟩ (fun hg42 hg42'=>ah hQ J J (ay (k:=1) J J)) J (cq [(69,_),(70,_)] [(66,_),(67,_),(68,_)] J J ⟨J,J,O⟩ ⟨J,J,J,O⟩ (fun hg43 hg43'=>aU underlying62 J (aN (k:=5) J)) J (cq [(69,_),(70,_),(71,_)] [(66,_),(67,_),(68,_)] J J ⟨J,J,J,O⟩ ⟨J,J,J,O⟩ (fun hg44 hg44'=>aT J J aY) J (aA [(66,_),(67,_),(68,_)] J J ⟨J,J,J,O⟩ (fun hg45=>aQ J J J (by first|exact av|exact aC|exact cz hg45|exact c8 hg45|rfl)) J (aO (aQ J J J (by first|exact av|exact aC|rfl)) J (ad J J (aA [] J J O (fun hg46=>ag e9 J) J (aA [(76,_)] J J ⟨J,O⟩ (fun hg47=>ah ij J J (ay (k:=1) J J)) J (gT [(76,_),(77,_)] J J ⟨J,J,O⟩ (fun hg48=>g9 (xs:= [.tmp 77,.func 187]) (sL t.ve t.es hel 187 [] (bS t.ve t.es) (fun u=> !rX u) Nl (fun u hu=>Cz t.ve t.es (fun u hu=>FH u (heg.mem u hu)) u hu)) It [] [(false,3),(false,0)] [] [] J J J J J J J J (fun _ _=>J) (fun _ _ _=>J)) J ?_)))))))))))))))))))
   refine aA [(76,_),(77,_),(78,_)] J J ⟨J,J,J,O⟩ (fun hg49=>ch J) J (aO (aQ J J J (by first|exact av|exact aC|rfl)) J (ad J J (aA [] J J O (fun hg50=>ag fi J) J (aA [(82,_)] J J ⟨J,O⟩ (fun hg51=>ah hQ J J (ay (k:=1) J J)) J (gT [(82,_),(83,_)] J J ⟨J,J,O⟩ (fun hg52=>g9 (xs:= [.tmp 83]) (nA t.vb t.body hbl ihb) EA [] [(false,1)] [] [] J J J J J J J J (fun _ _=>J) (fun _ _ _=>J)) J (aO (aQ J J J (by first|exact av|exact aC|rfl)) J (ad J J (aA [] J J O (fun hg53=>ag ez J) J (aA [(87,_)] J J ⟨J,O⟩ (fun hg54=>ah hQ J J (ay (k:=1) J J)) J (gT [(87,_),(88,_)] J J ⟨J,J,O⟩ (fun hg55=>g9 (xs:= [.tmp 88]) (nA t.vl t.els hll ihl) EA [] [(false,2)] [] [] J J J J J J J J (fun _ _=>J) (fun _ _ _=>J)) J (aO (aQ J J J (by first|exact av|exact aC|rfl)) J (ai J J (ac (au (aH () O J (bE (aJ J)) (congrArg Value.bool (L0 t).symm) [] [] J J J)))))))))))))))
theorem xa:∀(n:Nat)(t:Ty),SizeOf.sizeOf t<n→GY t→Spec prog 163 [yV t] [] [bS t.ve t.es,bF t.vb t.body,bF t.vl t.els] (X:=Unit) (fun _=>True) (fun _=> .bool (rY t)) (fun _=> []) (fun _=> [])
 | 0,_,h,_=>absurd h (Nat.not_lt_zero _)
 | n+1,t,h,ht=>FE t ht (fun u hu=>xa n u (by have:=Hw (.inl hu);omega) ((dY ht).2.mem u hu)) (fun u hu=>xa n u (by have:=Hw (.inr hu);omega) ((e_ ht).2.mem u hu))
theorem FF(t:Ty)(ht:GY t):Spec prog 163 [yV t] [] [bS t.ve t.es,bF t.vb t.body,bF t.vl t.els] (X:=Unit) (fun _=>True) (fun _=> .bool (rY t)) (fun _=> []) (fun _=> []):=xa _ t (Nat.lt_succ_self _) ht
theorem te(s:ByteArray)(hs:HZ s):
  Spec prog 121 [.string s] [] [] (X:=Unit) (fun _=>True) (fun _=> .bool (!ca s)) (fun _=> []) (fun _=> []):=by
 refine aI func121 J ntmps121 J fun w0 M H=>aj (ai J J (aG J (ad J J (bN (xs:= [.tmp 3]) (ix s hs.1 hs.2) wq [] [] [] [] J J J J J J J J (fun _ _=>J) (fun _ _ _=>J) J (fun _ _=>aO (ch J) J (ai J J (ac (au (aH () O J (bE (aJ J)) J [] [] J J J)))))))))
theorem uU(f:Tf)(fs:List Tf)(hf:f∈fs)(hg:GF f):
  Spec prog 119 [K3 f] [] [G4 fs] (X:=Unit) (fun _=>True) (fun _=> .bool (!rF f)) (fun _=> []) (fun _=> []):=by
 refine aI func119 J ntmps119 J fun w0 M H=>aW 0 1 J (MK hf) (aW 1 2 J lp (aW 1 3 J jp ?_))
 obtain⟨g1,g2,g3,g4,g5,g6⟩:=hg;refine aj (bU J J fun b1=>ai J J (aG J (az dA J J (aP 1 gu J J J J J (bN (xs:= [.tmp 5,.func 121]) (Bv f.vp f.ps g3 121 (fun s=> !ca s) NS (fun s hs=>te s (g2 s hs))) NT [] [(false,2)] [] [] J J J J J J J J (fun _ _=>J) (fun _ _ _=>J) J (fun _ _=>ai J J (aG J (ad J J (ad J J (aA [] J J O (fun hg1=>ag jD J) J (aA [(9,_)] J J ⟨J,O⟩ (fun hg2=>ah t9 J J (ay (k:=1) J J)) J (gT [(9,_),(10,_)] J J ⟨J,J,O⟩ (fun hg3=>g9 (xs:= [.tmp 10]) (ix f.name g1.1 g1.2) wq [] [] [] [] J J J J J J J J (fun _ _=>J) (fun _ _ _=>J)) J (aA [(9,_),(10,_),(11,_)] J J ⟨J,J,J,O⟩ (fun hg4=>ch J) J ?_)))))))))))));refine aO (aQ J J J (by first|exact av|exact aC|rfl)) J (ad J J (aA [] J J O (fun hg5=>ag iB J) J (aA [(15,_)] J J ⟨J,O⟩ (fun hg6=>ah hQ J J (ay (k:=1) J J)) J (gT [(15,_),(16,_)] J J ⟨J,J,O⟩ (fun hg7=>g9 (xs:= [.tmp 16]) (nA f.vb f.body g4 (fun u hu=>FF u (g5.mem u hu))) EA [] [(false,3)] [] [] J J J J J J J J (fun _ _=>J) (fun _ _ _=>J)) J (aA [(15,_),(16,_),(17,_)] J J ⟨J,J,J,O⟩ (fun hg8=>ch J) J (aO (aQ J J J (by first|exact av|exact aC|rfl)) J (ai J J (ac (au (aH () O J (bE (aJ J)) (congrArg Value.bool (L5 f)) [] [] J J J))))))))))
theorem xf(vp:SV)(fs:List Tf)(hg:GP fs):
  Spec prog 81 [.agg #[sv vp]] [] [cx vp fs] (X:=Unit) (fun _=>True) (fun _=> .bool (rP fs)) (fun _=> []) (fun _=> []):=by
 refine aI func81 J ntmps81 J fun w0 M H=>aW 0 1 J jo (aW 0 2 J Fk (aj (bU J J fun b1=>ai J J (aG J (az de J J (aP 1 mh J J J J J (bN (xs:= [.tmp 4,.func 119]) (Bw vp fs hg.1 119 [] (G4 fs) (fun f=> !rF f) NU (fun f hf=>uU f fs hf (hg.2 f hf))) NV [] [(false,1),(false,2)] [] [] J J J J J J J J (fun _ _=>J) (fun _ _ _=>J) J (fun _ _=>aO (ch J) J (ai J J (ac (au (aH () O J (bE (aJ J)) (congrArg Value.bool (fV rF fs)) [] [] J J J))))))))))))
def cR(vp vn:SV)(nd va:Int)(dp:Bool)(er:Int):List Value:= [sv vp,sv vn,.int .i64 nd,.int .i64 va,.bool dp,.int .i64 er]
theorem bT{α:Type}{l:List α}{i:Nat}{k:α}(h:l[i]?=some k):l.take (i+1)=l.take i++ [k]:=by
 obtain⟨hi,hk⟩:=List.getElem?_eq_some_iff.1 h;rw [List.take_add_one,List.getElem?_eq_getElem hi,hk];rfl
theorem tF:∀(a b:List Tx),ey (a++b)=ey a+ey b
 | [],b=>by simp [ey]
 | t::r,b=>by simp [ey,tF r b,Nat.add_assoc]
theorem Af:∀(a b:List Tx),ft (a++b)=max (ft a) (ft b)
 | [],b=>by simp [ft]
 | t::r,b=>by simp [ft,Af r b,Nat.max_assoc]
theorem tE:∀(a b:List Ty),cw (a++b)=cw a+cw b
 | [],b=>by simp [cw]
 | t::r,b=>by simp [cw,tE r b,Nat.add_assoc]
theorem kH:∀(a b:List Ty),cL (a++b)=cL a+cL b
 | [],b=>by simp [cL]
 | t::r,b=>by simp [cL,kH r b,Nat.add_assoc]
theorem wb(d:Nat):∀(a b:List Ty),da d (a++b)=(da d a || da d b)
 | [],b=>by simp [da]
 | t::r,b=>by simp [da,wb d r b,Bool.or_assoc]
theorem Gc(t:Tx):ey [t]=nX t:=by simp [ey]
theorem Hc(t:Tx):ft [t]=dX t:=by simp [ft]
theorem Gb(t:Ty):cw [t]=nY t:=by simp [cw]
theorem Fa(t:Ty):cL [t]=vY t:=by simp [cL]
theorem D8(d:Nat)(t:Ty):da d [t]=BN d t:=by simp [da]
theorem sh(t:Tx):nX t=ey t.kids+1:=by cases t;rfl
theorem MV(t:Tx):dX t=ft t.kids+1:=by cases t;rfl
theorem C6(t:Ty):nY t=1+ey t.es+cw t.body+cw t.els:=by cases t;rfl
theorem B7(t:Ty):vY t=(if t.kind=1 then 1 else 0)+cL t.body+cL t.els:=by cases t;rfl
theorem Kt(d:Nat)(t:Ty):BN d t=(decide (d>8) || decide (ft t.es>8) || da (d+1) t.body || da (d+1) t.els):=by cases t;rfl
theorem ea{l:List Tx}{i:Nat}{k:Tx}(h:l[i]?=some k):ey (l.take (i+1))=ey (l.take i)+nX k:=by rw [bT h,tF,Gc]
theorem kD{l:List Tx}{i:Nat}{k:Tx}(h:l[i]?=some k):ft (l.take (i+1))=max (ft (l.take i)) (dX k):=by rw [bT h,Af,Hc]
theorem kw:∀(l:List Tx)(i:Nat),ey (l.take i)≤ey l:=fun l i=>by
 have h:=tF (l.take i) (l.drop i);rw [List.take_append_drop]at h;omega
theorem lQ:∀(l:List Ty)(i:Nat),cw (l.take i)≤cw l:=fun l i=>by
 have h:=tE (l.take i) (l.drop i);rw [List.take_append_drop]at h;omega
theorem gG{l:List Ty}{i:Nat}{k:Ty}(h:l[i]?=some k):cw (l.take (i+1))=cw (l.take i)+nY k:=by rw [bT h,tE,Gb]
theorem i_{l:List Ty}{i:Nat}{k:Ty}(h:l[i]?=some k):cL (l.take (i+1))=cL (l.take i)+vY k:=by rw [bT h,kH,Fa]
theorem Bs{d:Nat}{l:List Ty}{i:Nat}{k:Ty}(h:l[i]?=some k):da d (l.take (i+1))=(da d (l.take i) || BN d k):=by rw [bT h,wb,D8]
mutual
theorem wd:∀t:Tx,dX t≤nX t
 | .mk _ _ _ _ kids=>by
  have:=qH kids;rw [dX,nX];omega
theorem qH:∀l:List Tx,ft l≤ey l
 | []=>Nat.le_refl _
 | t::r=>by
  have h1:=wd t;have h2:=qH r;rw [ft,ey];omega
end
mutual
theorem B6:∀t:Ty,vY t≤nY t
 | .mk k _ _ _ _ body _ els=>by
  have h1:=gN body;have h2:=gN els;rw [vY,nY];split<;>omega
theorem gN:∀l:List Ty,cL l≤cw l
 | []=>Nat.le_refl _
 | t::r=>by
  have h1:=B6 t;have h2:=gN r;rw [cL,cw];omega
end
theorem EE(a b:Nat):((max a b:Nat):Int)=max (a:Int) (b:Int):=by omega
theorem Ae{a b:Nat}:(decide (a>8) || decide (b>8))=decide (max a b>8):=by
 by_cases h:a>8
 ·have:max a b>8:=by omega
  simp [h,this]
 ·by_cases h2:b>8
  ·have:max a b>8:=by omega
   simp [h2,this]
  ·have:¬max a b>8:=by omega
   simp [h,h2,this]
theorem iH(c:Nat)(vp vn:SV)(nd va:Int)(dp:Bool)(er:Int)(e:Int):
  Spec prog 127 [.pointer (some ⟨c,0,none⟩),.int .i64 e] [bj c 165 (cR vp vn nd va dp er)] [] (X:=Unit) (fun _=>True) (fun _=> .tuple #[]) (fun _=> [bj c 165 (cR vp vn nd va dp (fst er e))]) (fun _=> []):=by
 refine aI func127 J ntmps127 J fun w0 M H=>aj (ad J J (bG J J (az tZ J J (aP 0 nf J J J J J (ar J J aY J (ac (ae J (fun h1=> ?_) (fun h1=> ?_))))))))
 ·have h0:er=0:=of_decide_eq_true h1;have hfs:fst er e=e:=if_pos h0;refine ap (ad J J (ad J J (bG J J (az tZ J J (aK (k:=0) nf J J J J J J J J (ac ?_))))));rw [hfs];refine bW () O J ff J [0] [] J J J
 ·have h0:¬er=0:=of_decide_eq_false h1;have hfs:fst er e=er:=if_neg h0;refine ax ?_;rw [hfs];refine bW () O J ff J [0] [] J J J
theorem Kg(er z:Int)(b:Bool)(h:b=true):fst er (if b=true then z else 0)=fst er z:=by rw [if_pos h]
theorem GG(er z:Int)(b:Bool)(h:b=false):fst er (if b=true then z else 0)=er:=by rw [if_neg (by rw [h];simp),dm]
theorem GH(er z:Int)(b:Bool)(h:b=true):fst er (if b=true then 0 else z)=er:=by rw [if_pos h,dm]
theorem DW(er z:Int)(b:Bool)(h:b=false):fst er (if b=true then 0 else z)=fst er z:=by rw [if_neg (by rw [h];simp)]
theorem sJ(c:Nat)(vp vn:SV)(nd va:Int)(dp:Bool)(er:Int)(ns:List ByteArray)(hn:ns.length≤1000000)(s:ByteArray):
  Spec prog 165 [.pointer (some ⟨c,0,none⟩),.string s] [bj c 165 (cR vp vn nd va dp er),own 9 1 eS (sv vn) ns] [] (X:=Unit) (fun _=>True) (fun _=> .tuple #[]) (fun _=> [bj c 165 (cR vp vn nd va dp (fst er (if cg s ns=true then 0 else 21))),own 9 1 eS (sv vn) ns]) (fun _=> []):=by
 refine aI func165 J ntmps165 J fun w0 M H=>aj (ad J J (bG J J (az mW J J (aP 0 gu J J J J J (ad J J (bN (xs:= [.tmp 7,.tmp 8]) (Spec.ro1 (gy vn ns (by omega) s) bB) Ak [] [(true,1)] [] [] J J J J J J J J (fun _ _=>J) (fun _ _ _=>J) J (fun _ _=>aO (ch J) J (ac (ae J (fun h1=> ?_) (fun h1=> ?_))))))))))
 ·have h0:cg s ns=false:=by simpa using h1
  rw [DW _ _ _ h0];refine ap (ad J J (bN (xs:= [.tmp 11,.const (.int .i64 21)]) (iH c vp vn nd va dp er 21) wo [0] [] [0] [] J J J J J J J J (fun _ _=>J) (fun _ _ _=>J) J (fun _ _=>ac (bW () O J ff J [0,1] [] J J J))))
 ·have h0:cg s ns=true:=by simpa using h1
  rw [GH _ _ _ h0];refine ax (bW () O J ff J [0,1] [] J J J)
theorem qL(c:Nat)(vp vn:SV)(nd va:Int)(dp:Bool)(er:Int)(ns:List ByteArray)(hn:ns.length≤1000000)(s:ByteArray):
  Spec prog 128 [.pointer (some ⟨c,0,none⟩),.string s] [bj c 165 (cR vp vn nd va dp er),own 9 1 eS (sv vn) ns] [] (X:=SV) (fun _=>True) (fun _=> .tuple #[]) (fun v=> [bj c 165 (cR vp v nd va dp (fst er (if cg s ns=true then 22 else 0))),own 9 1 eS (sv v) (ns++ [s])]) (fun _=> []):=by
 refine aI func128 J ntmps128 J fun w0 M H=>br (X:=Unit) (fun _=>True) (fun _=> [(0,.pointer (some ⟨c,0,none⟩)),(1,.string s)]) (fun _=> [(0,bj c 165 (cR vp vn nd va dp (fst er (if cg s ns=true then 22 else 0)))),(1,own 9 1 eS (sv vn) ns)]) (fun _=> []) ?_ (fun _ _=> ?_)
 ·refine aj (ad J J (bG J J (az mW J J (aP 0 gu J J J J J (ad J J (bN (xs:= [.tmp 7,.tmp 8]) (Spec.ro1 (gy vn ns (by omega) s) bB) Ak [] [(true,1)] [] [] J J J J J J J J (fun _ _=>J) (fun _ _ _=>J) J (fun _ _=>ac (ae J (fun h1=> ?_) (fun h1=> ?_)))))))))
  ·have h0:cg s ns=true:=h1;rw [Kg _ _ _ h0];refine ap (ad J J (bN (xs:= [.tmp 10,.const (.int .i64 22)]) (iH c vp vn nd va dp er 22) wo [0] [] [0] [] J J J J J J J J (fun _ _=>J) (fun _ _ _=>J) J (fun _ _=>ac (aM () O J J J))))
  ·have h0:cg s ns=false:=h1;rw [GG _ _ _ h0];refine ax (aM () O J J J)
 ·refine ap (ad J J (ad J J (bG J J (az mW J J (aP 0 gu J J J J J (ad J J (bA eS _ underlying46 t9 J (by decide) (by decide) J J J J fun v18=>eO 1 underlying46 t9 J (by decide) (fun _=>J) (fun _=>J) J J J (bs (k:=18) J) (by first|omega|(simp;done)|(simp;omega)) (by unfold maxLen;first|omega|(simp;done)|(simp;omega)) J fun v19=>bG J J (az mW J J (aK (k:=0) gu J J J J J J J J (ac (bW v19 O J ff J [0,1] [] J J J)))))))))))
theorem xX(f:Tf)(b:Nat)(s:ByteArray):
  Spec prog 125 [K3 f,.pointer (some ⟨b,0,none⟩)] [] [bj b 9 [.string s]] (X:=Unit) (fun _=>True) (fun _=> .bool (decide (f.name=s))) (fun _=> []) (fun _=> []):=by
 refine aI func125 J ntmps125 J fun w0 M H=>aj (bU J J fun b2=>ai J J (aG J (az jD J J (aP 2 t9 J J J J J (aO (ah t9 J J (cI (k:=0) J J)) J (ar J J cr J (ai J J (ac (au (aH () O J (bE (aJ J)) (congrArg Value.bool (b_ _ _)) [] [] J J J))))))))))
theorem lZ(c:Nat)(vp vn:SV)(nd va:Int)(dp:Bool)(er:Int)(s:ByteArray)(fs:List Tf)(hf:fs.length≤1000000):
  Spec prog 82 [.pointer (some ⟨c,0,none⟩),.string s] [bj c 165 (cR vp vn nd va dp er)] [sl 3 iW (sv vp) fs] (X:=Unit) (fun _=>True) (fun _=> .int .i64 (qy fs s)) (fun _=> [bj c 165 (cR vp vn nd va dp er)]) (fun _=> []):=by
 refine aI func82 J ntmps82 J fun w0 M H=>aj (tn J J J fun b3=>ai J J (aG J (ad J J (bG J J (az zZ J J (az de J J (aP 0 mh J J J J J (aO (ec (first:= []) (cap:= [.tmp 3]) J J) J (bN (xs:= [.tmp 9,.tmp 10]) (vz vp fs hf 125 [.pointer (some ⟨b3,0,none⟩)] (bj b3 9 [.string s]) (fun f=>decide (f.name=s)) NR (fun f _=>xX f b3 s)) II [] [(false,0),(true,3)] [] [] J J J J J J J J (fun _ _=>J) (fun _ _ _=>J) J (fun _ _=>ai J J (ac (au (aH () O J (bE (aJ J)) J [0] [] J J J)))))))))))))
theorem Bd(c:Nat)(vp vn:SV)(va er:Int)(t:Tx)(ht:GX t)(ih:∀u∈t.kids,∀(nd:Int)(dp:Bool),0≤nd→nd+(nX u:Int)≤1000000000000→Spec prog 164 [.pointer (some ⟨c,0,none⟩),xV u] [bj c 165 (cR vp vn nd va dp er)] [bS u.v u.kids] (X:=Unit) (fun _=>True) (fun _=> .int .i64 (dX u:Int)) (fun _=> [bj c 165 (cR vp vn (nd+(nX u:Int)) va (dp || decide (dX u>8)) er)]) (fun _=> []))(nd:Int)(dp:Bool)(h0:0≤nd)(hn:nd+(nX t:Int)≤1000000000000):
  Spec prog 164 [.pointer (some ⟨c,0,none⟩),xV t] [bj c 165 (cR vp vn nd va dp er)] [bS t.v t.kids] (X:=Unit) (fun _=>True) (fun _=> .int .i64 (dX t:Int)) (fun _=> [bj c 165 (cR vp vn (nd+(nX t:Int)) va (dp || decide (dX t>8)) er)]) (fun _=> []):=by
 refine aI func164 J ntmps164 J fun w0 M H=> ?_
 have hkl:=kF ht;have hnx:=sh t;have hdx:=MV t;have hdn:=wd t;refine aW 0 1 J eW (aj (bU J J fun b3=>ai J J (aG J (ad J J (bG J J (az kT J J (aP 0 t3 J J J J J (ar J J (bi (by first|exact bc (by omega) (by omega)|rfl)) J (bG J J (az kT J J (aK (k:=0) t3 J J J J J J J J (aG J (ai J J ?_)))))))))))));refine ac (aS (az dc J J (aP 3 ij J J J J J (aO (aU underlying59 J (aN (k:=1) J)) J (ad J J (ac (aB ?_)))))));refine bv (X:=Nat) (fun i=>i≤t.kids.length) (fun i=> [(0,.pointer (some ⟨c,0,none⟩)),(3,.pointer (some ⟨b3,0,none⟩)),(5,.int .i64 (ft (t.kids.take i):Int)),(16,sv t.v),(17,.int .i64 (t.kids.length:Int)),(18,.int .i64 (i:Int))]) (fun i=> [(0,bj c 165 (cR vp vn (nd+1+(ey (t.kids.take i):Int)) va (dp || decide (ft (t.kids.take i)>8)) er)),(3,bj b3 61 (dt t))]) (fun i=> [(0,bS t.v t.kids),(1,sl 4 dt (sv t.v) t.kids)]) (fun i=>t.kids.length-i) 0 (Nat.zero_le _) J (by rw [show(dp || decide (ft (t.kids.take 0)>8))=dp by simp [ft],show nd+1+(ey (t.kids.take 0):Int)=nd+1 by simp [ey]];rfl) J (fun i n1=> ?_);refine aj (ar J J ci J (ac (a_ (ae J (fun h1=> ?_) (fun h1=> ?_)))))
 ·(try simp only [be]at h1)
  have hi:i<t.kids.length:=by omega
  obtain⟨kid,hkid⟩:∃k,t.kids[i]?=some k:=⟨_,List.getElem?_eq_getElem hi⟩
  have hkm:=List.mem_of_getElem? hkid;have hle:=kw t.kids (i+1);rw [ea hkid]at hle;refine ax (a_ (aB (aj (aO (aR (j:=i) underlying59 co J J (aN (k:=1) J) (by first|rfl|omega) (by first|omega|(simp;done)|(simp;omega))) J (aO (aL co J J J (bD (aN (k:=1) J) (by intro _;rfl) hkid (by rfl))) J (aZ co J J fun b7=>aq (k:=7) co J J J J J J (ac (ap (ad J J (ad J J (aO (aL co J J J (aX (k:=7) J)) J (aW 0 8 J (cS hkm) (bN (xs:= [.tmp 23,.tmp 24]) (ih kid hkm (nd+1+(ey (t.kids.take i):Int)) (dp || decide (ft (t.kids.take i)>8)) (by omega) (by omega)) Iz [0] [(false,8)] [0] [] J J J J J J J J (fun _ _=>J) (fun _ _ _=>J) J (fun _ _=>aO (pN J J J) J (ai J J (ac (ap ?_)))))))))))))))));refine ar J J (bi (by first|exact bc (by omega) (by omega)|rfl)) J (ad J J (ac ?_));refine aM (i+1) ⟨by omega,by omega⟩ (by rw [kD hkid,EE];rfl) (by rw [kD hkid,ea hkid,←Ae,←Bool.or_assoc,Int.natCast_add,←Int.add_assoc];rfl) J
 ·(try simp only [be]at h1)
  have hi:i=t.kids.length:=by omega
  subst hi;rw [List.take_length];refine bx (aj (ad J J (ad J J (bG J J (az mV J J (aP 0 t4 J J J J J (ad J J (aA [] J J O (fun hg2=>am J) J (aA [(34,_)] J J ⟨J,O⟩ (fun hg3=>aT J J (bi (by first|exact bc (by omega) (by omega)|rfl))) J (aA [(34,_),(35,_)] J J ⟨J,J,O⟩ (fun hg4=>aT J J dV) J (aO (aQ J J J (by first|exact av|exact aC|rfl)) J (bG J J (az mV J J (aK (k:=0) t4 J J J J J J J J (aG J (ad J J ?_))))))))))))))));refine ar J J (bi (by first|exact bc (by omega) (by omega)|rfl)) J (ai J J (ac (au ?_)));have hfin:cR vp vn (nd+1+(ey t.kids:Int)) va (dp || decide (ft t.kids>8) || decide ((ft t.kids:Int)+1>8)) er=cR vp vn (nd+(nX t:Int)) va (dp || decide (dX t>8)) er:=by
   rw [hnx,hdx];have e1:nd+1+(ey t.kids:Int)=nd+((ey t.kids+1:Nat):Int):=by omega
   have e2:(dp || decide (ft t.kids>8) || decide ((ft t.kids:Int)+1>8))=(dp || decide (ft t.kids+1>8)):=by
    rw [Bool.or_assoc]
    congr 1
    by_cases h:ft t.kids+1>8
    ·have h2:(ft t.kids:Int)+1>8:=by omega
     simp [h,h2]
    ·have h2:¬(ft t.kids:Int)+1>8:=by omega
     have h3:¬ft t.kids>8:=by omega
     simp [h,h2,h3]
   rw [e1,e2]
  rw [←hfin];refine aH () O J (bE (aJ J)) (by rw [hdx];rfl) [0] [] J J J
theorem vj(c:Nat)(vp vn:SV)(va er:Int):∀(n:Nat)(t:Tx),SizeOf.sizeOf t<n→GX t→∀(nd:Int)(dp:Bool),0≤nd→nd+(nX t:Int)≤1000000000000→Spec prog 164 [.pointer (some ⟨c,0,none⟩),xV t] [bj c 165 (cR vp vn nd va dp er)] [bS t.v t.kids] (X:=Unit) (fun _=>True) (fun _=> .int .i64 (dX t:Int)) (fun _=> [bj c 165 (cR vp vn (nd+(nX t:Int)) va (dp || decide (dX t>8)) er)]) (fun _=> [])
 | 0,_,h,_=>absurd h (Nat.not_lt_zero _)
 | n+1,t,h,ht=>fun nd dp h0 hn=>Bd c vp vn va er t ht (fun u hu=>vj c vp vn va er n u (by have:=nU hu;omega) ((iY ht).mem u hu)) nd dp h0 hn
theorem Be(c:Nat)(vp vn:SV)(va er:Int)(t:Tx)(ht:GX t)(nd:Int)(dp:Bool)(h0:0≤nd)(hn:nd+(nX t:Int)≤1000000000000):Spec prog 164 [.pointer (some ⟨c,0,none⟩),xV t] [bj c 165 (cR vp vn nd va dp er)] [bS t.v t.kids] (X:=Unit) (fun _=>True) (fun _=> .int .i64 (dX t:Int)) (fun _=> [bj c 165 (cR vp vn (nd+(nX t:Int)) va (dp || decide (dX t>8)) er)]) (fun _=> []):=vj c vp vn va er _ t (Nat.lt_succ_self _) ht nd dp h0 hn
def OA(c:Nat)(vp vn:SV)(er:Int)(v:SV)(l:List Ty):Prop:=∀(d:Nat)(nd va:Int)(dp:Bool),d+cw l≤1000000000000→0≤nd→nd+(cw l:Int)≤1000000000000→0≤va→va+(cL l:Int)≤1000000000000→
 Spec prog 126 [.pointer (some ⟨c,0,none⟩),sv v,.int .i64 (d:Int)] [bj c 165 (cR vp vn nd va dp er)] [bF v l] (X:=Unit) (fun _=>True) (fun _=> .tuple #[]) (fun _=> [bj c 165 (cR vp vn (nd+(cw l:Int)) (va+(cL l:Int)) (dp || da d l) er)]) (fun _=> [])
theorem JF(p q a b c d:Bool):(p || q || a || b || c || d)=(p || (q || (a || b || c || d))):=by cases p<;>cases q<;>rfl
theorem yg(c:Nat)(vp vn:SV)(er:Int)(v:SV)(l:List Ty)(hl:l.length≤1000000)(hg:GYs l)(ih:∀u∈l,OA c vp vn er u.vb u.body∧OA c vp vn er u.vl u.els)(d:Nat)(nd va:Int)(dp:Bool)(hd:d+cw l≤1000000000000)(h0:0≤nd)(hn:nd+(cw l:Int)≤1000000000000)(h1:0≤va)(hv:va+(cL l:Int)≤1000000000000):
  Spec prog 126 [.pointer (some ⟨c,0,none⟩),sv v,.int .i64 (d:Int)] [bj c 165 (cR vp vn nd va dp er)] [bF v l] (X:=Unit) (fun _=>True) (fun _=> .tuple #[]) (fun _=> [bj c 165 (cR vp vn (nd+(cw l:Int)) (va+(cL l:Int)) (dp || da d l) er)]) (fun _=> []):=by
 refine aI func126 J ntmps126 J fun w0 M H=>aW 0 1 J fQ (aj (ad J J (aO (aU underlying62 J (aN (k:=1) J)) J (ad J J (ac (aB ?_))))))
 refine bv (X:=Nat) (fun i=>i≤l.length) (fun i=> [(0,.pointer (some ⟨c,0,none⟩)),(2,.int .i64 (d:Int)),(10,sv v),(11,.int .i64 (l.length:Int)),(12,.int .i64 (i:Int))]) (fun i=> [(0,bj c 165 (cR vp vn (nd+(cw (l.take i):Int)) (va+(cL (l.take i):Int)) (dp || da d (l.take i)) er))]) (fun i=> [(0,bF v l),(1,sl 5 eu (sv v) l)]) (fun i=>l.length-i) 0 (Nat.zero_le _) J (by rw [show(dp || da d (l.take 0))=dp by simp [da],show nd+(cw (l.take 0):Int)=nd by simp [cw],show va+(cL (l.take 0):Int)=va by simp [cL]];rfl) J (fun i n1=> ?_);refine aj (ar J J ci J (ac (a_ (ae J (fun h1=> ?_) (fun h1=> ?_)))))
 ·(try simp only [be]at h1)
  have hi:i<l.length:=by omega
  obtain⟨st,hst⟩:∃k,l[i]?=some k:=⟨_,List.getElem?_eq_getElem hi⟩
  have hsm:=List.mem_of_getElem? hst;have hsy:=hg.mem st hsm;have hsg:=na hsy;have hle:=lQ l (i+1);rw [gG hst]at hle;have hny:=C6 st;have hvy:=B6 st;have hvl:=gN l;have hva:=gN (l.take i);have hvb:=gN st.body;have hvs:=gN st.els;have hnl:=lQ l i;have hvy2:(vY st:Int)=(if st.kind=1 then 1 else 0:Int)+(cL st.body:Int)+(cL st.els:Int):=by
   rw [B7];split<;>omega
  have hki:0≤(if st.kind=1 then 1 else 0:Int)∧(if st.kind=1 then 1 else 0:Int)≤1:=by split<;>omega
  have hvv:(cL (l.take i):Int)+(vY st:Int)≤(cL l:Int):=by
   have h:=kH (l.take (i+1)) (l.drop (i+1));rw [List.take_append_drop,i_ hst]at h;omega
  refine aW 0 7 J (jn hsm) (aW 0 8 J (fF hsm) (aW 0 9 J (gt hsm) (aW 7 10 J eW (ax (a_ (aB (aj (aO (aR (j:=i) underlying62 dJ J J (aN (k:=1) J) (by first|rfl|omega) (by first|omega|(simp;done)|(simp;omega))) J (aO (aL dJ J J J (bD (aN (k:=1) J) (by intro _;rfl) hst (by rfl))) J (aZ dJ J J fun b7=>aq (k:=7) dJ J J J J J J (aG J (ad J J (bG J J (az kT J J (aP 0 t3 J J J J J ?_)))))))))))))));refine ar J J (bi (by first|exact bc (by omega) (by omega)|rfl)) J (bG J J (az kT J J (aK (k:=0) t3 J J J J J J J J (aG J (ad J J (ad J J (bG J J (az mV J J (aP 0 t4 J J J J J (ad J J (aA [] J J O (fun hg2=>am J) J (aA [(29,_)] J J ⟨J,O⟩ (fun hg3=>aT J J dV) J (aO (aQ J J J (by first|exact av|exact aC|rfl)) J (bG J J (az mV J J (aK (k:=0) t4 J J J J J J J J (ac ?_)))))))))))))))));refine br (X:=Unit) (fun _=>True) (fun _=> [(0,.pointer (some ⟨c,0,none⟩)),(2,.int .i64 (d:Int)),(10,sv v),(11,.int .i64 (l.length:Int)),(12,.int .i64 (i:Int)),(7,.pointer (some ⟨b7,0,none⟩))]) (fun _=> [(0,bj c 165 (cR vp vn (nd+(cw (l.take i):Int)+1) (va+(cL (l.take i):Int)+(if st.kind=1 then 1 else 0:Int)) (dp || da d (l.take i) || decide (d>8)) er)),(7,bj b7 64 (eu st))]) (fun _=> [(0,bF v l),(1,sl 5 eu (sv v) l),(7,bS st.ve st.es),(8,bF st.vb st.body),(9,bF st.vl st.els),(10,sl 4 dt (sv st.ve) st.es)]) ?_ (fun _ _=> ?_)
  ·refine aj (az dT J J (aP 7 t3 J J J J J (ar J J aY J (ac (ae J (fun h4=> ?_) (fun h4=> ?_))))))
   ·have q1:st.kind=1:=of_decide_eq_true h4;refine ap (ad J J (bG J J (az oZ J J (aP 0 t3 J J J J J (ar J J (bi (by first|exact bc (by omega) (by omega)|rfl)) J (bG J J (az oZ J J (aK (k:=0) t3 J J J J J J J J (ac (aM () O J (by rw [show decide (d>8)=decide ((d:Int)>8)from decide_eq_decide.2 (by omega),if_pos q1];rfl) J))))))))))
   ·have q1:¬st.kind=1:=of_decide_eq_false h4;refine ax (aM () O J (by rw [show decide (d>8)=decide ((d:Int)>8)from decide_eq_decide.2 (by omega),if_neg q1,Int.add_zero];rfl) J)
  ·refine aS (az e9 J J (aP 7 ij J J J J J (aO (aU underlying59 J (aN (k:=10) J)) J (ad J J (ac (aB ?_))))));refine bv (X:=Nat) (fun j=>j≤st.es.length) (fun j=> [(0,.pointer (some ⟨c,0,none⟩)),(2,.int .i64 (d:Int)),(10,sv v),(11,.int .i64 (l.length:Int)),(12,.int .i64 (i:Int)),(7,.pointer (some ⟨b7,0,none⟩)),(45,sv st.ve),(46,.int .i64 (st.es.length:Int)),(47,.int .i64 (j:Int))]) (fun j=> [(0,bj c 165 (cR vp vn (nd+(cw (l.take i):Int)+1+(ey (st.es.take j):Int)) (va+(cL (l.take i):Int)+(if st.kind=1 then 1 else 0:Int)) (dp || da d (l.take i) || decide (d>8) || decide (ft (st.es.take j)>8)) er)),(7,bj b7 64 (eu st))]) (fun j=> [(0,bF v l),(1,sl 5 eu (sv v) l),(7,bS st.ve st.es),(8,bF st.vb st.body),(9,bF st.vl st.els),(10,sl 4 dt (sv st.ve) st.es)]) (fun j=>st.es.length-j) 0 (Nat.zero_le _) J (by rw [show(dp || da d (l.take i) || decide (d>8) || decide (ft (st.es.take 0)>8))=(dp || da d (l.take i) || decide (d>8)) by simp [ft],show nd+(cw (l.take i):Int)+1+(ey (st.es.take 0):Int)=nd+(cw (l.take i):Int)+1 by simp [ey]];rfl) J (fun j n2=> ?_);refine aj (ar J J ci J (ac (a_ (ae J (fun h5=> ?_) (fun h5=> ?_)))))
   ·(try simp only [be]at h5)
    have hj:j<st.es.length:=by omega
    obtain⟨kid,hkid⟩:∃k,st.es[j]?=some k:=⟨_,List.getElem?_eq_getElem hj⟩
    have hkm:=List.mem_of_getElem? hkid;have hlx:=kw st.es (j+1);rw [ea hkid]at hlx;have hdx:=wd kid;refine ax (a_ (aB (aj (aO (aR (j:=j) underlying59 co J J (aN (k:=10) J) (by first|rfl|omega) (by first|omega|(simp;done)|(simp;omega))) J (aO (aL co J J J (bD (aN (k:=10) J) (by intro _;rfl) hkid (by rfl))) J (aZ co J J fun b9=>aq (k:=9) co J J J J J J (ac (ap (ad J J (aO (aL co J J J (aX (k:=9) J)) J (aW 7 12 J (cS hkm) (bN (xs:= [.tmp 51,.tmp 52]) (Be c vp vn (va+(cL (l.take i):Int)+(if st.kind=1 then 1 else 0:Int)) er kid (hsg.2.mem kid hkm) (nd+(cw (l.take i):Int)+1+(ey (st.es.take j):Int)) (dp || da d (l.take i) || decide (d>8) || decide (ft (st.es.take j)>8)) (by omega) (by omega)) Iz [0] [(false,12)] [0] [] J J J J J J J J (fun _ _=>J) (fun _ _ _=>J) J (fun _ _=>ac (ap (ar J J (bi (by first|exact bc (by omega) (by omega)|rfl)) J (ad J J (ac ?_)))))))))))))))));refine aM (j+1) ⟨by omega,by omega⟩ J (by rw [kD hkid,ea hkid,←Ae,←Bool.or_assoc,Int.natCast_add,←Int.add_assoc];rfl) J
   ·(try simp only [be]at h5)
    have hj:j=st.es.length:=by omega
    subst hj;rw [List.take_length];refine bx (aj (ad J J (az fi J J (aP 7 hQ J J J J J (ad J J (ar J J (bi (by first|exact bc (by omega) (by omega)|rfl)) J (bN (xs:= [.tmp 55,.tmp 57,.tmp 59]) ((ih st hsm).1 (d+1) (nd+(cw (l.take i):Int)+1+(ey st.es:Int)) (va+(cL (l.take i):Int)+(if st.kind=1 then 1 else 0:Int)) (dp || da d (l.take i) || decide (d>8) || decide (ft st.es>8)) (by omega) (by omega) (by omega) (by omega) (by omega)) Ez [0] [(false,8)] [0] [] J J J J J J J J (fun _ _=>J) (fun _ _ _=>J) J (fun _ _=>ac (ap (ad J J (az ez J J (aP 7 hQ J J J J J (ad J J (ar J J (bi (by first|exact bc (by omega) (by omega)|rfl)) J (bN (xs:= [.tmp 61,.tmp 63,.tmp 65]) ((ih st hsm).2 (d+1) (nd+(cw (l.take i):Int)+1+(ey st.es:Int)+(cw st.body:Int)) (va+(cL (l.take i):Int)+(if st.kind=1 then 1 else 0:Int)+(cL st.body:Int)) (dp || da d (l.take i) || decide (d>8) || decide (ft st.es>8) || da (d+1) st.body) (by omega) (by omega) (by omega) (by omega) (by omega)) Ez [0] [(false,9)] [0] [] J J J J J J J J (fun _ _=>J) (fun _ _ _=>J) J (fun _ _=>ac (ap (ar J J (bi (by first|exact bc (by omega) (by omega)|rfl)) J ?_))))))))))))))))));refine ad J J (ac ?_);have hfin:cR vp vn (nd+(cw (l.take i):Int)+1+(ey st.es:Int)+(cw st.body:Int)+(cw st.els:Int)) (va+(cL (l.take i):Int)+(if st.kind=1 then 1 else 0:Int)+(cL st.body:Int)+(cL st.els:Int)) (dp || da d (l.take i) || decide (d>8) || decide (ft st.es>8) || da (d+1) st.body || da (d+1) st.els) er=cR vp vn (nd+(cw (l.take (i+1)):Int)) (va+(cL (l.take (i+1)):Int)) (dp || da d (l.take (i+1))) er:=by
     rw [gG hst,i_ hst,Bs hst,Kt,JF]
     congr 1
     ·omega
     ·rw [Int.natCast_add,hvy2];omega
    refine aM (i+1) ⟨by omega,by omega⟩ J (by rw [←hfin];rfl) J
 ·(try simp only [be]at h1)
  have hi:i=l.length:=by omega
  subst hi;rw [List.take_length];refine bx (bW () O J ff J [0] [] J J J)
theorem nO(c:Nat)(vp vn:SV)(er:Int):∀(n:Nat)(v:SV)(l:List Ty),SizeOf.sizeOf l<n→l.length≤1000000→GYs l→OA c vp vn er v l
 | 0,_,_,h,_,_=>absurd h (Nat.not_lt_zero _)
 | n+1,v,l,h,hl,hg=>yg c vp vn er v l hl hg fun u hu=>by
  have h1:=List.sizeOf_lt_of_mem hu;have h2:SizeOf.sizeOf u.body<SizeOf.sizeOf u∧SizeOf.sizeOf u.els<SizeOf.sizeOf u:=by
   cases u;simp only [Ty.mk.sizeOf_spec,Ty.body,Ty.els];omega
  have h3:=hg.mem u hu;exact⟨nO c vp vn er n u.vb u.body (by omega) (dY h3).1 (dY h3).2,nO c vp vn er n u.vl u.els (by omega) (e_ h3).1 (e_ h3).2⟩
theorem yh(c:Nat)(vp vn:SV)(er:Int)(v:SV)(l:List Ty)(hl:l.length≤1000000)(hg:GYs l):OA c vp vn er v l:=nO c vp vn er _ v l (Nat.lt_succ_self _) hl hg
end Go.Proofs.YtedmdgbmdplifaaGreat
