/-
  A part of the proof. Conditions are with the theorems.
-/
import Derived.Test.YtedmdgbmdplifaaGreatProg
import Derived.ChangeMaps5
import Derived.Test.YtedmdgbmdplifaaGreatXRa
set_option maxHeartbeats 32000000
set_option maxRecDepth 100000
set_option linter.unusedSimpArgs false
set_option linter.unusedVariables false
namespace Go.Proofs.YtedmdgbmdplifaaGreat
open Go.RowKit Tryz
inductive Tx where
 | mk (kind n:Int) (name:Ba) (v:SV) (kids:List Tx)
def Tx.kind:Tx→Int | .mk k _ _ _ _=>k
def Tx.n:Tx→Int | .mk _ n _ _ _=>n
def Tx.name:Tx→Ba | .mk _ _ s _ _=>s
def Tx.v:Tx→SV | .mk _ _ _ v _=>v
def Tx.kids:Tx→List Tx | .mk _ _ _ _ l=>l
def gg(t:Tx):List Value:= [I6 t.kind,I3 t.n,Sg t.name,sv t.v]
abbrev xV(t:Tx):Value:= .agg (gg t).toArray
inductive Ty where
 | mk (kind:Int) (name:Ba) (ve:SV) (es:List Tx) (vb:SV) (body:List Ty) (vl:SV) (els:List Ty)
def Ty.kind:Ty→Int | .mk k _ _ _ _ _ _ _=>k
def Ty.name:Ty→Ba | .mk _ s _ _ _ _ _ _=>s
def Ty.ve:Ty→SV | .mk _ _ v _ _ _ _ _=>v
def Ty.es:Ty→List Tx | .mk _ _ _ l _ _ _ _=>l
def Ty.vb:Ty→SV | .mk _ _ _ _ v _ _ _=>v
def Ty.body:Ty→List Ty | .mk _ _ _ _ _ l _ _=>l
def Ty.vl:Ty→SV | .mk _ _ _ _ _ _ v _=>v
def Ty.els:Ty→List Ty | .mk _ _ _ _ _ _ _ l=>l
def iK(t:Ty):List Value:= [I6 t.kind,Sg t.name,sv t.ve,sv t.vb,sv t.vl]
abbrev yV(t:Ty):Value:= .agg (iK t).toArray
def SlIn'{α:Type}(w:World)(F:Nat→Prop)(s:Nat)(enc:α→List Value)(v:Value)(l:List α):Prop:=∃G:Nat→Prop,tw w G s enc v l∧∀b,G b→F b
theorem SlIn'.stable{α:Type}{w w':World}{F:Nat→Prop}{s:Nat}{enc:α→List Value}{v:Value}{l:List α}(h:SlIn' w F s enc v l)(hs:∀b,F b→w'.heap[b]?=w.heap[b]?):SlIn' w' F s enc v l:=by
 obtain⟨G,h1,h2⟩:=h;exact⟨G,(sl s enc v l).stable h1 fun b hb=>hs b (h2 b hb),h2⟩
theorem SlIn'.mono{α:Type}{w:World}{F F':Nat→Prop}{s:Nat}{enc:α→List Value}{v:Value}{l:List α}(h:SlIn' w F s enc v l)(hs:∀b,F b→F' b):SlIn' w F' s enc v l:=by
 obtain⟨G,h1,h2⟩:=h;exact⟨G,h1,fun b hb=>hs b (h2 b hb)⟩
mutual
def TxIn(w:World)(F:Nat→Prop):Tx→Prop
 | .mk _ _ _ v kids=>SlIn' w F 4 gg (sv v) kids∧TxsIn w F kids
def TxsIn(w:World)(F:Nat→Prop):List Tx→Prop
 | []=>True
 | t::r=>TxIn w F t∧TxsIn w F r
end
mutual
theorem TxIn.mono{w w':World}{F F':Nat→Prop}(hs:∀b,F b→F' b)(hw:∀b,F b→w'.heap[b]?=w.heap[b]?):∀t,TxIn w F t→TxIn w' F' t
 | .mk _ _ _ v kids,h=>⟨(h.1.stable hw).mono hs,TxsIn.mono hs hw kids h.2⟩
theorem TxsIn.mono{w w':World}{F F':Nat→Prop}(hs:∀b,F b→F' b)(hw:∀b,F b→w'.heap[b]?=w.heap[b]?):∀l,TxsIn w F l→TxsIn w' F' l
 | [],_=>trivial
 | t::r,h=>⟨TxIn.mono hs hw t h.1,TxsIn.mono hs hw r h.2⟩
end
theorem TxsIn.mem{w:World}{F:Nat→Prop}:∀{l:List Tx},TxsIn w F l→∀t∈l,TxIn w F t
 | [],_,_,h=>by simp at h
 | t::r,h,u,hu=>by
  rcases List.mem_cons.1 hu with rfl|hu
  ·exact h.1
  ·exact TxsIn.mem h.2 u hu
mutual
def TyIn(w:World)(F:Nat→Prop):Ty→Prop
 | .mk _ _ ve es vb body vl els=>(SlIn' w F 4 gg (sv ve) es∧TxsIn w F es)∧(SlIn' w F 5 iK (sv vb) body∧TysIn w F body)∧(SlIn' w F 5 iK (sv vl) els∧TysIn w F els)
def TysIn(w:World)(F:Nat→Prop):List Ty→Prop
 | []=>True
 | t::r=>TyIn w F t∧TysIn w F r
end
mutual
theorem TyIn.mono{w w':World}{F F':Nat→Prop}(hs:∀b,F b→F' b)(hw:∀b,F b→w'.heap[b]?=w.heap[b]?):∀t,TyIn w F t→TyIn w' F' t
 | .mk _ _ ve es vb body vl els,h=>⟨⟨(h.1.1.stable hw).mono hs,TxsIn.mono hs hw es h.1.2⟩,⟨(h.2.1.1.stable hw).mono hs,TysIn.mono hs hw body h.2.1.2⟩,⟨(h.2.2.1.stable hw).mono hs,TysIn.mono hs hw els h.2.2.2⟩⟩
theorem TysIn.mono{w w':World}{F F':Nat→Prop}(hs:∀b,F b→F' b)(hw:∀b,F b→w'.heap[b]?=w.heap[b]?):∀l,TysIn w F l→TysIn w' F' l
 | [],_=>trivial
 | t::r,h=>⟨TyIn.mono hs hw t h.1,TysIn.mono hs hw r h.2⟩
end
theorem TysIn.mem{w:World}{F:Nat→Prop}:∀{l:List Ty},TysIn w F l→∀t∈l,TyIn w F t
 | [],_,_,h=>by simp at h
 | t::r,h,u,hu=>by
  rcases List.mem_cons.1 hu with rfl|hu
  ·exact h.1
  ·exact TysIn.mem h.2 u hu
def cx(v:SV)(l:List Tx):Asn:=⟨fun w F=>SlIn' w F 4 gg (sv v) l∧TxsIn w F l,fun h hs=>⟨h.1.stable hs,TxsIn.mono (fun _ hb=>hb) hs _ h.2⟩⟩
def cm(v:SV)(l:List Ty):Asn:=⟨fun w F=>SlIn' w F 5 iK (sv v) l∧TysIn w F l,fun h hs=>⟨h.1.stable hs,TysIn.mono (fun _ hb=>hb) hs _ h.2⟩⟩
theorem jK{v:SV}{l:List Tx}:∀w G,(cx v l).pred w G→(∀b,G b→b<w.heap.size)→∃G',(sl 4 gg (sv v) l).pred w G'∧∀b,G' b→G b:=fun w G h _=>h.1
theorem jI{v:SV}{l:List Ty}:∀w G,(cm v l).pred w G→(∀b,G b→b<w.heap.size)→∃G',(sl 5 iK (sv v) l).pred w G'∧∀b,G' b→G b:=fun w G h _=>h.1
theorem fh{v:SV}{l:List Tx}{t:Tx}(ht:t∈l):∀w G,(cx v l).pred w G→(∀b,G b→b<w.heap.size)→∃G',(cx t.v t.kids).pred w G'∧∀b,G' b→G b:=fun w G h _=>by
 have:=h.2.mem t ht;cases t with
 | mk a b c d e=>exact⟨G,this,fun _ hb=>hb⟩
theorem sa{v:SV}{l:List Ty}{t:Ty}(ht:t∈l):∀w G,(cm v l).pred w G→(∀b,G b→b<w.heap.size)→∃G',(cx t.ve t.es).pred w G'∧∀b,G' b→G b:=fun w G h _=>by
 have:=h.2.mem t ht;cases t with
 | mk a b c d e f g i=>exact⟨G,this.1,fun _ hb=>hb⟩
theorem jJ{v:SV}{l:List Ty}{t:Ty}(ht:t∈l):∀w G,(cm v l).pred w G→(∀b,G b→b<w.heap.size)→∃G',(cm t.vb t.body).pred w G'∧∀b,G' b→G b:=fun w G h _=>by
 have:=h.2.mem t ht;cases t with
 | mk a b c d e f g i=>exact⟨G,this.2.1,fun _ hb=>hb⟩
theorem lU{v:SV}{l:List Ty}{t:Ty}(ht:t∈l):∀w G,(cm v l).pred w G→(∀b,G b→b<w.heap.size)→∃G',(cm t.vl t.els).pred w G'∧∀b,G' b→G b:=fun w G h _=>by
 have:=h.2.mem t ht;cases t with
 | mk a b c d e f g i=>exact⟨G,this.2.2,fun _ hb=>hb⟩
structure Tf where
 name:Ba
 vp:SV
 ps:List Ba
 vb:SV
 body:List Ty
def oq(f:Tf):List Value:= [Sg f.name,sv f.vp,sv f.vb]
def TfIn(w:World)(F:Nat→Prop)(f:Tf):Prop:=SlIn' w F 1 eS (sv f.vp) f.ps∧(SlIn' w F 5 iK (sv f.vb) f.body∧TysIn w F f.body)
theorem TfIn.stable{w w':World}{F:Nat→Prop}{f:Tf}(h:TfIn w F f)(hs:∀b,F b→w'.heap[b]?=w.heap[b]?):TfIn w' F f:=⟨h.1.stable hs,h.2.1.stable hs,TysIn.mono (fun _ hb=>hb) hs _ h.2.2⟩
def fA(v:SV)(l:List Tf):Asn:=⟨fun w F=>SlIn' w F 3 oq (sv v) l∧∀f∈l,TfIn w F f,fun h hs=>⟨h.1.stable hs,fun f hf=>(h.2 f hf).stable hs⟩⟩
def Dm(f:Tf):Asn:=⟨fun w F=>TfIn w F f,fun h hs=>h.stable hs⟩
theorem sc{v:SV}{l:List Tf}:∀w G,(fA v l).pred w G→(∀b,G b→b<w.heap.size)→∃G',(sl 3 oq (sv v) l).pred w G'∧∀b,G' b→G b:=fun w G h _=>h.1
theorem xL{v:SV}{l:List Tf}{f:Tf}(hf:f∈l):∀w G,(fA v l).pred w G→(∀b,G b→b<w.heap.size)→∃G',(Dm f).pred w G'∧∀b,G' b→G b:=fun w G h _=>⟨G,h.2 f hf,fun _ hb=>hb⟩
theorem tJ{f:Tf}:∀w G,(Dm f).pred w G→(∀b,G b→b<w.heap.size)→∃G',(sl 1 eS (sv f.vp) f.ps).pred w G'∧∀b,G' b→G b:=fun w G h _=>h.1
theorem sd{f:Tf}:∀w G,(Dm f).pred w G→(∀b,G b→b<w.heap.size)→∃G',(cm f.vb f.body).pred w G'∧∀b,G' b→G b:=fun w G h _=>⟨G,h.2,fun _ hb=>hb⟩
def wU(n:Int):Int:=IntKind.u32.wrap n
def tr(b:Bool):Int:=if b=true then 1 else 0
def ef:Ba:=⟨#[45]⟩
def sN:Ba:=⟨#[126]⟩
def uf:Ba:=⟨#[33]⟩
def e_:Ba:=⟨#[43]⟩
def fL:Ba:=⟨#[42]⟩
def jx:Ba:=⟨#[47]⟩
def kM:Ba:=⟨#[37]⟩
def eq:Ba:=⟨#[38]⟩
def iQ:Ba:=⟨#[124]⟩
def ey:Ba:=⟨#[94]⟩
def fK:Ba:=⟨#[60,60]⟩
def fW:Ba:=⟨#[62,62]⟩
def kN:Ba:=⟨#[60]⟩
def lM:Ba:=⟨#[60,61]⟩
def lN:Ba:=⟨#[62]⟩
def mU:Ba:=⟨#[62,61]⟩
def lO:Ba:=⟨#[61,61]⟩
def lL:Ba:=⟨#[33,61]⟩
def IH(op:Ba)(a:Int):Option Int:=
 if op=ef then some (wU (-a))else if op=sN then some (4294967295-a)else if op=uf then some (tr (decide (a=0)))else none
def Ir(op:Ba)(a b:Int):Option Int:=
 if op=e_ then some (wU (a+b))else if op=ef then some (wU (a-b))else if op=fL then some (wU (a*b))else
 if op=jx then some (if b=0 then 0 else a/b)else if op=kM then some (if b=0 then a else a%b)else
 if op=eq then some (bits .and .u32 a b)else if op=iQ then some (bits .or .u32 a b)else if op=ey then some (bits .xor .u32 a b)else
 if op=fK then some (wU (a*2^(b%32).toNat))else if op=fW then some (a/2^(b%32).toNat)else
 if op=kN then some (tr (decide (a<b)))else if op=lM then some (tr (decide (a≤b)))else if op=lN then some (tr (decide (a>b)))else if op=mU then some (tr (decide (a≥b)))else
 if op=lO then some (tr (decide (a=b)))else if op=lL then some (tr (!decide (a=b)))else none
structure Ms where
 inp:List Int
 out:List Int
 mem:Nat→Int
 fuel:Int
inductive Re(α:Type) where
 | ok (a:α) (s:Ms)
 | err (e:Int)
abbrev Vs:=List (Ba×Int)
def oy(vs:Vs)(x:Ba):Int:=match vs.find? (fun p=>decide (p.1=x))with
 | some p=>p.2
 | none=>0
def fz(vs:Vs)(x:Ba)(n:Int):Vs:=(x,n)::vs.filter fun p=>decide (p.1≠x)
def gN(vs:Vs):List Ba→List Int→Vs
 | p::ps,a::al=>gN (fz vs p a) ps al
 | _,_=>vs
def cK(fs:List Tf)(x:Ba):Option Tf:=fs.find? fun f=>decide (f.name=x)
def BJ(m:Nat→Int)(i:Nat)(v:Int):Nat→Int:=fun k=>if k=i then v else m k
mutual
def jl:Nat→List Tf→Nat→Vs→Tx→Ms→Option (Re Int)
 | 0,_,_,_,_,_=>none
 | g+1,fs,d,vs,t,s=>if s.fuel≤0 then some (.err 25)else
  match jC g fs d vs [] t.kids {s with fuel:=s.fuel-1}with
  | none=>none
  | some (.err e)=>some (.err e)
  | some (.ok ks s1)=>
   if t.kind=1 then some (.ok t.n s1)else if t.kind=2 then some (.ok (oy vs t.name) s1)else
   if t.kind=4 then some (.ok (s1.mem (ks.getD 0 0%256).toNat) s1)else
   if t.kind=5 then(match s1.inp with
    | []=>some (.ok 0 s1)
    | a::r=>some (.ok a {s1 with inp:=r}))else
   if t.kind=6 then some (.ok ((IH t.name (ks.getD 0 0)).getD 0) s1)else if t.kind=7 then some (.ok ((Ir t.name (ks.getD 0 0) (ks.getD 1 0)).getD 0) s1)else
   match cK fs t.name with
   | none=>none
   | some f=>qM g fs d f ks s1
def jC:Nat→List Tf→Nat→Vs→List Int→List Tx→Ms→Option (Re (List Int))
 | 0,_,_,_,_,_,_=>none
 | _+1,_,_,_,acc,[],s=>some (.ok acc s)
 | g+1,fs,d,vs,acc,t::r,s=>match jl g fs d vs t s with
  | none=>none
  | some (.err e)=>some (.err e)
  | some (.ok v s1)=>jC g fs d vs (acc++ [v]) r s1
def qM:Nat→List Tf→Nat→Tf→List Int→Ms→Option (Re Int)
 | 0,_,_,_,_,_=>none
 | g+1,fs,d,f,al,s=>if d=12 then some (.err 26)else
  match kO g fs (d+1) (gN [] f.ps al) f.body s with
  | none=>none
  | some (.err e)=>some (.err e)
  | some (.ok (_,r) s1)=>some (.ok (r.getD 0) s1)
def kO:Nat→List Tf→Nat→Vs→List Ty→Ms→Option (Re (Vs×Option Int))
 | 0,_,_,_,_,_=>none
 | _+1,_,_,vs,[],s=>some (.ok (vs,none) s)
 | g+1,fs,d,vs,t::r,s=>match nH g fs d vs t s with
  | none=>none
  | some (.err e)=>some (.err e)
  | some (.ok (vs1,some x) s1)=>some (.ok (vs1,some x) s1)
  | some (.ok (vs1,none) s1)=>kO g fs d vs1 r s1
def nH:Nat→List Tf→Nat→Vs→Ty→Ms→Option (Re (Vs×Option Int))
 | 0,_,_,_,_,_=>none
 | g+1,fs,d,vs,t,s=>if s.fuel≤0 then some (.err 25)else
  match t.es with
  | []=>none
  | e::es=>match jl g fs d vs e {s with fuel:=s.fuel-1}with
   | none=>none
   | some (.err e)=>some (.err e)
   | some (.ok v s1)=>
    if t.kind=1∨t.kind=2 then some (.ok (fz vs t.name v,none) s1)else
    if t.kind=3 then(match es with
     | []=>none
     | e2::_=>match jl g fs d vs e2 s1 with
      | none=>none
      | some (.err e)=>some (.err e)
      | some (.ok w s2)=>some (.ok (vs,none) {s2 with mem:=BJ s2.mem (v%256).toNat w}))else
    if t.kind=4 then kO g fs d vs (if v=0 then t.els else t.body) s1 else
    if t.kind=5 then qL g fs d vs e t.body v s1 else
    if t.kind=6 then some (.ok (vs,some v) s1)else if t.kind=7 then some (.ok (vs,none) {s1 with out:=s1.out++ [v]})else some (.ok (vs,none) s1)
def qL:Nat→List Tf→Nat→Vs→Tx→List Ty→Int→Ms→Option (Re (Vs×Option Int))
 | 0,_,_,_,_,_,_,_=>none
 | g+1,fs,d,vs,e,l,v,s=>if v=0 then some (.ok (vs,none) s)else
  match kO g fs d vs l s with
  | none=>none
  | some (.err e)=>some (.err e)
  | some (.ok (vs1,some x) s1)=>some (.ok (vs1,some x) s1)
  | some (.ok (vs1,none) s1)=>match jl g fs d vs1 e s1 with
   | none=>none
   | some (.err e)=>some (.err e)
   | some (.ok w s2)=>qL g fs d vs1 e l w s2
end
end Go.Proofs.YtedmdgbmdplifaaGreat
namespace Go.Proofs.YtedmdgbmdplifaaGreat
open Go.RowKit Tryz
theorem t1:TI prog 1 (.func #[] #[] Bool.false) (.nilFunc) 1 8:=⟨underlying1,by kernel_rfl⟩
theorem t3:TI prog 3 (.int .i64) (I6 0) 1 8:=⟨underlying3,by kernel_rfl⟩
theorem t4:TI prog 4 Go.TypeDesc.bool (.bool false) 1 1:=⟨underlying4,by kernel_rfl⟩
theorem t5:TI prog 5 (.int .u8) (.int .u8 0) 1 1:=⟨underlying5,by kernel_rfl⟩
theorem t9:TI prog 9 Go.TypeDesc.string (Sg ⟨#[]⟩) 1 16:=⟨underlying9,by kernel_rfl⟩
theorem DQ:TI prog 22 (.slice 3) (.slice none 0 0) 1 24:=⟨underlying22,by kernel_rfl⟩
theorem AX:TI prog 25 (.slice 66) (.slice none 0 0) 1 24:=⟨underlying25,by kernel_rfl⟩
theorem vS:TI prog 27 (.struct #[⟨ "Funcs",25,0,false,"","",0⟩]) (.agg #[.slice none 0 0]) 1 24:=⟨underlying27,by kernel_rfl⟩
theorem iw:FO prog 27 0 0:=⟨_,_,0,underlying27,rfl,rfl,by kernel_rfl⟩
theorem qY:TI prog 31 (.struct #[⟨ "Kind",3,0,false,"","",0⟩,⟨ "Code",9,1,false,"","",8⟩]) (.agg #[I6 0,Sg ⟨#[]⟩]) 2 24:=⟨underlying31,by kernel_rfl⟩
theorem w9:FO prog 31 0 0:=⟨_,_,0,underlying31,rfl,rfl,by kernel_rfl⟩
theorem jk:FO prog 31 1 1:=⟨_,_,0,underlying31,rfl,rfl,by kernel_rfl⟩
theorem wq:PL prog 31 [(0,1),(1,1)]:=⟨_,underlying31,by kernel_rfl⟩
theorem zl:TI prog 32 (.int .i64) (I6 0) 1 8:=⟨underlying32,by kernel_rfl⟩
theorem dt:TI prog 41 (.int .u32) (I3 0) 1 4:=⟨underlying41,by kernel_rfl⟩
theorem oD:TI prog 46 (.slice 9) (.slice none 0 0) 1 24:=⟨underlying46,by kernel_rfl⟩
theorem Dn:TI prog 48 (.slice 41) (.slice none 0 0) 1 24:=⟨underlying48,by kernel_rfl⟩
theorem xM:TI prog 53 (.struct #[⟨ "Kind",3,0,false,"","",0⟩,⟨ "Info",41,1,false,"","",8⟩]) (.agg #[I6 0,I3 0]) 2 16:=⟨underlying53,by kernel_rfl⟩
theorem pG:FO prog 53 0 0:=⟨_,_,0,underlying53,rfl,rfl,by kernel_rfl⟩
theorem w8:FO prog 53 1 1:=⟨_,_,0,underlying53,rfl,rfl,by kernel_rfl⟩
theorem Jv:PL prog 53 [(0,1),(1,1)]:=⟨_,underlying53,by kernel_rfl⟩
theorem zk:TI prog 55 (.struct #[⟨ "Outputs",48,0,false,"","",0⟩,⟨ "Mem",48,1,false,"","",24⟩,⟨ "End",53,2,false,"","",48⟩]) (.agg #[.slice none 0 0,.slice none 0 0,I6 0,I3 0]) 4 64:=⟨underlying55,by kernel_rfl⟩
theorem pF:FO prog 55 0 0:=⟨_,_,0,underlying55,rfl,rfl,by kernel_rfl⟩
theorem pD:FO prog 55 1 1:=⟨_,_,0,underlying55,rfl,rfl,by kernel_rfl⟩
theorem w7:FO prog 55 2 2:=⟨_,_,1,underlying55,rfl,rfl,by kernel_rfl⟩
theorem Mg:PL prog 55 [(0,1),(1,1),(2,2)]:=⟨_,underlying55,by kernel_rfl⟩
theorem nQ:TI prog 59 (.slice 61) (.slice none 0 0) 1 24:=⟨underlying59,by kernel_rfl⟩
theorem dn:TI prog 61 (.struct #[⟨ "Kind",3,0,false,"","",0⟩,⟨ "N",41,1,false,"","",8⟩,⟨ "Name",9,2,false,"","",16⟩,⟨ "Kids",59,3,false,"","",32⟩]) (.agg #[I6 0,I3 0,Sg ⟨#[]⟩,.slice none 0 0]) 4 56:=⟨underlying61,by kernel_rfl⟩
theorem m6:FO prog 61 0 0:=⟨_,_,0,underlying61,rfl,rfl,by kernel_rfl⟩
theorem Cu:FO prog 61 1 1:=⟨_,_,0,underlying61,rfl,rfl,by kernel_rfl⟩
theorem fe:FO prog 61 2 2:=⟨_,_,0,underlying61,rfl,rfl,by kernel_rfl⟩
theorem eT:FO prog 61 3 3:=⟨_,_,0,underlying61,rfl,rfl,by kernel_rfl⟩
theorem wo:PL prog 61 [(0,1),(1,1),(2,1),(3,1)]:=⟨_,underlying61,by kernel_rfl⟩
theorem nP:TI prog 62 (.slice 64) (.slice none 0 0) 1 24:=⟨underlying62,by kernel_rfl⟩
theorem fB:TI prog 64 (.struct #[⟨ "Kind",3,0,false,"","",0⟩,⟨ "Name",9,1,false,"","",8⟩,⟨ "Exprs",59,2,false,"","",24⟩,⟨ "Body",62,3,false,"","",48⟩,⟨ "Else",62,4,false,"","",72⟩]) (.agg #[I6 0,Sg ⟨#[]⟩,.slice none 0 0,.slice none 0 0,.slice none 0 0]) 5 96:=⟨underlying64,by kernel_rfl⟩
theorem iv:FO prog 64 0 0:=⟨_,_,0,underlying64,rfl,rfl,by kernel_rfl⟩
theorem lz:FO prog 64 1 1:=⟨_,_,0,underlying64,rfl,rfl,by kernel_rfl⟩
theorem m5:FO prog 64 2 2:=⟨_,_,0,underlying64,rfl,rfl,by kernel_rfl⟩
theorem jj:FO prog 64 3 3:=⟨_,_,0,underlying64,rfl,rfl,by kernel_rfl⟩
theorem ji:FO prog 64 4 4:=⟨_,_,0,underlying64,rfl,rfl,by kernel_rfl⟩
theorem wn:PL prog 64 [(0,1),(1,1),(2,1),(3,1),(4,1)]:=⟨_,underlying64,by kernel_rfl⟩
theorem mE:TI prog 66 (.struct #[⟨ "Name",9,0,false,"","",0⟩,⟨ "Params",46,1,false,"","",16⟩,⟨ "Body",62,2,false,"","",40⟩]) (.agg #[Sg ⟨#[]⟩,.slice none 0 0,.slice none 0 0]) 3 64:=⟨underlying66,by kernel_rfl⟩
theorem m4:FO prog 66 0 0:=⟨_,_,0,underlying66,rfl,rfl,by kernel_rfl⟩
theorem fO:FO prog 66 1 1:=⟨_,_,0,underlying66,rfl,rfl,by kernel_rfl⟩
theorem m3:FO prog 66 2 2:=⟨_,_,0,underlying66,rfl,rfl,by kernel_rfl⟩
theorem Mf:PL prog 66 [(0,1),(1,1),(2,1)]:=⟨_,underlying66,by kernel_rfl⟩
theorem DP:TI prog 72 (.slice 148) (.slice none 0 0) 1 24:=⟨underlying72,by kernel_rfl⟩
theorem IJ:TI prog 74 (.struct #[⟨ "slots",72,0,false,"","babel/mem",0⟩,⟨ "coherent",4,1,false,"","babel/mem",24⟩]) (.agg #[.slice none 0 0,.bool false]) 2 32:=⟨underlying74,by kernel_rfl⟩
theorem jh:FO prog 74 0 0:=⟨_,_,0,underlying74,rfl,rfl,by kernel_rfl⟩
theorem HV:FO prog 74 1 1:=⟨_,_,0,underlying74,rfl,rfl,by kernel_rfl⟩
theorem Md:PL prog 74 [(0,1),(1,1)]:=⟨_,underlying74,by kernel_rfl⟩
theorem nO:TI prog 78 (.struct #[⟨ "PC",41,0,false,"","",0⟩,⟨ "R",75,1,false,"","",4⟩,⟨ "F",41,17,false,"","",68⟩,⟨ "C",76,18,false,"","",72⟩,⟨ "Steps",3,22,false,"","",88⟩,⟨ "Due",3,23,false,"","",96⟩]) (.agg #[I3 0,I3 0,I3 0,I3 0,I3 0,I3 0,I3 0,I3 0,I3 0,I3 0,I3 0,I3 0,I3 0,I3 0,I3 0,I3 0,I3 0,I3 0,I3 0,I3 0,I3 0,I3 0,I6 0,I6 0]) 24 104:=⟨underlying78,by kernel_rfl⟩
theorem gL:FO prog 78 0 0:=⟨_,_,0,underlying78,rfl,rfl,by kernel_rfl⟩
theorem w5:FT prog 78 0 0 41:=⟨_,_,underlying78,rfl,rfl,rfl⟩
theorem fw:FO prog 78 1 1:=⟨_,_,15,underlying78,rfl,rfl,by kernel_rfl⟩
theorem Ct:FO prog 78 2 17:=⟨_,_,0,underlying78,rfl,rfl,by kernel_rfl⟩
theorem f_:FO prog 78 4 22:=⟨_,_,0,underlying78,rfl,rfl,by kernel_rfl⟩
theorem mZ:FO prog 78 5 23:=⟨_,_,0,underlying78,rfl,rfl,by kernel_rfl⟩
theorem GZ:PL prog 78 [(0,1),(1,16),(17,1),(18,4),(22,1),(23,1)]:=⟨_,underlying78,by kernel_rfl⟩
theorem N1:TI prog 80 (.struct #[⟨ "Mem",74,0,true,"","",0⟩,⟨ "s",78,2,false,"","babel/qcpu",32⟩]) (.agg #[.slice none 0 0,.bool false,I3 0,I3 0,I3 0,I3 0,I3 0,I3 0,I3 0,I3 0,I3 0,I3 0,I3 0,I3 0,I3 0,I3 0,I3 0,I3 0,I3 0,I3 0,I3 0,I3 0,I3 0,I3 0,I6 0,I6 0]) 26 136:=⟨underlying80,by kernel_rfl⟩
theorem px:FO prog 80 0 0:=⟨_,_,1,underlying80,rfl,rfl,by kernel_rfl⟩
theorem Cs:FO prog 80 1 2:=⟨_,_,23,underlying80,rfl,rfl,by kernel_rfl⟩
theorem Mc:PL prog 80 [(0,2),(2,24)]:=⟨_,underlying80,by kernel_rfl⟩
theorem vR:TI prog 84 (.slice 5) (.slice none 0 0) 1 24:=⟨underlying84,by kernel_rfl⟩
theorem tK:TI prog 91 (.pointer 157) (.pointer none) 1 8:=⟨underlying91,by kernel_rfl⟩
theorem N0:TI prog 93 (.struct #[⟨ "S",78,0,false,"","",0⟩,⟨ "M",91,24,false,"","",104⟩]) (.agg #[I3 0,I3 0,I3 0,I3 0,I3 0,I3 0,I3 0,I3 0,I3 0,I3 0,I3 0,I3 0,I3 0,I3 0,I3 0,I3 0,I3 0,I3 0,I3 0,I3 0,I3 0,I3 0,I6 0,I6 0,.pointer none]) 25 112:=⟨underlying93,by kernel_rfl⟩
theorem dH:FO prog 93 0 0:=⟨_,_,23,underlying93,rfl,rfl,by kernel_rfl⟩
theorem fc:FO prog 93 1 24:=⟨_,_,0,underlying93,rfl,rfl,by kernel_rfl⟩
theorem Mb:PL prog 93 [(0,24),(24,1)]:=⟨_,underlying93,by kernel_rfl⟩
theorem jN:TI prog 104 (.pointer 111) (.pointer none) 1 8:=⟨underlying104,by kernel_rfl⟩
theorem AY:TI prog 105 (.map 9 3) (.map none) 1 8:=⟨underlying105,by kernel_rfl⟩
theorem zq:TI prog 106 (.slice 118) (.slice none 0 0) 1 24:=⟨underlying106,by kernel_rfl⟩
theorem DS:TI prog 107 (.slice 171) (.slice none 0 0) 1 24:=⟨underlying107,by kernel_rfl⟩
theorem zp:TI prog 108 (.map 9 41) (.map none) 1 8:=⟨underlying108,by kernel_rfl⟩
theorem Jf:TI prog 109 (.map 9 1) (.map none) 1 8:=⟨underlying109,by kernel_rfl⟩
theorem L0:TI prog 111 (.struct #[⟨ "p",27,0,false,"","babel/qgen",0⟩,⟨ "code",106,1,false,"","babel/qgen",24⟩,⟨ "fixes",107,2,false,"","babel/qgen",48⟩,⟨ "labels",22,3,false,"","babel/qgen",72⟩,⟨ "starts",105,4,false,"","babel/qgen",96⟩,⟨ "offs",108,5,false,"","babel/qgen",104⟩,⟨ "ops",109,6,false,"","babel/qgen",112⟩,⟨ "end",3,7,false,"","babel/qgen",120⟩]) (.agg #[.slice none 0 0,.slice none 0 0,.slice none 0 0,.slice none 0 0,.map none,.map none,.map none,I6 0]) 8 128:=⟨underlying111,by kernel_rfl⟩
theorem kD:FO prog 111 1 1:=⟨_,_,0,underlying111,rfl,rfl,by kernel_rfl⟩
theorem ol:FO prog 111 2 2:=⟨_,_,0,underlying111,rfl,rfl,by kernel_rfl⟩
theorem mx:FO prog 111 3 3:=⟨_,_,0,underlying111,rfl,rfl,by kernel_rfl⟩
theorem mu:FO prog 111 4 4:=⟨_,_,0,underlying111,rfl,rfl,by kernel_rfl⟩
theorem kC:FO prog 111 5 5:=⟨_,_,0,underlying111,rfl,rfl,by kernel_rfl⟩
theorem yU:FO prog 111 6 6:=⟨_,_,0,underlying111,rfl,rfl,by kernel_rfl⟩
theorem tj:FO prog 111 7 7:=⟨_,_,0,underlying111,rfl,rfl,by kernel_rfl⟩
theorem JC:PL prog 111 [(0,1),(1,1),(2,1),(3,1),(4,1),(5,1),(6,1),(7,1)]:=⟨_,underlying111,by kernel_rfl⟩
theorem el:TI prog 118 (.struct #[⟨ "Op",3,0,false,"","",0⟩,⟨ "D",3,1,false,"","",8⟩,⟨ "A",3,2,false,"","",16⟩,⟨ "B",3,3,false,"","",24⟩,⟨ "Imm",41,4,false,"","",32⟩]) (.agg #[I6 0,I6 0,I6 0,I6 0,I3 0]) 5 40:=⟨underlying118,by kernel_rfl⟩
theorem bW:FO prog 118 0 0:=⟨_,_,0,underlying118,rfl,rfl,by kernel_rfl⟩
theorem fH:FO prog 118 1 1:=⟨_,_,0,underlying118,rfl,rfl,by kernel_rfl⟩
theorem kB:FO prog 118 2 2:=⟨_,_,0,underlying118,rfl,rfl,by kernel_rfl⟩
theorem kA:FO prog 118 3 3:=⟨_,_,0,underlying118,rfl,rfl,by kernel_rfl⟩
theorem dm:FO prog 118 4 4:=⟨_,_,0,underlying118,rfl,rfl,by kernel_rfl⟩
theorem kV:PL prog 118 [(0,1),(1,1),(2,1),(3,1),(4,1)]:=⟨_,underlying118,by kernel_rfl⟩
theorem LZ:TI prog 141 (.pointer 74) (.pointer none) 1 8:=⟨underlying141,by kernel_rfl⟩
theorem mM:TI prog 146 (.pointer 159) (.pointer none) 1 8:=⟨underlying146,by kernel_rfl⟩
theorem qx:TI prog 148 (.struct #[⟨ "data",146,0,false,"","babel/mem",0⟩,⟨ "code",146,1,false,"","babel/mem",8⟩,⟨ "ownData",4,2,false,"","babel/mem",16⟩,⟨ "ownCode",4,3,false,"","babel/mem",17⟩,⟨ "cleanData",146,4,false,"","babel/mem",24⟩,⟨ "cleaned",146,5,false,"","babel/mem",32⟩,⟨ "rights",3,6,false,"","babel/mem",40⟩]) (.agg #[.pointer none,.pointer none,.bool false,.bool false,.pointer none,.pointer none,I6 0]) 7 48:=⟨underlying148,by kernel_rfl⟩
theorem kz:FO prog 148 0 0:=⟨_,_,0,underlying148,rfl,rfl,by kernel_rfl⟩
theorem ky:FO prog 148 1 1:=⟨_,_,0,underlying148,rfl,rfl,by kernel_rfl⟩
theorem yT:FO prog 148 2 2:=⟨_,_,0,underlying148,rfl,rfl,by kernel_rfl⟩
theorem yS:FO prog 148 3 3:=⟨_,_,0,underlying148,rfl,rfl,by kernel_rfl⟩
theorem E4:FO prog 148 5 5:=⟨_,_,0,underlying148,rfl,rfl,by kernel_rfl⟩
theorem yR:FO prog 148 6 6:=⟨_,_,0,underlying148,rfl,rfl,by kernel_rfl⟩
theorem JB:PL prog 148 [(0,1),(1,1),(2,1),(3,1),(4,1),(5,1),(6,1)]:=⟨_,underlying148,by kernel_rfl⟩
theorem zo:TI prog 157 (.struct #[⟨ "Data",84,0,false,"","",0⟩,⟨ "Image",84,1,false,"","",24⟩,⟨ "OldData",84,2,false,"","",48⟩,⟨ "OldImage",84,3,false,"","",72⟩,⟨ "Rights",22,4,false,"","",96⟩,⟨ "Coherent",4,5,false,"","",120⟩]) (.agg #[.slice none 0 0,.slice none 0 0,.slice none 0 0,.slice none 0 0,.slice none 0 0,.bool false]) 6 128:=⟨underlying157,by kernel_rfl⟩
theorem kx:FO prog 157 0 0:=⟨_,_,0,underlying157,rfl,rfl,by kernel_rfl⟩
theorem oj:FO prog 157 1 1:=⟨_,_,0,underlying157,rfl,rfl,by kernel_rfl⟩
theorem E3:FO prog 157 3 3:=⟨_,_,0,underlying157,rfl,rfl,by kernel_rfl⟩
theorem oi:FO prog 157 4 4:=⟨_,_,0,underlying157,rfl,rfl,by kernel_rfl⟩
theorem ti:FO prog 157 5 5:=⟨_,_,0,underlying157,rfl,rfl,by kernel_rfl⟩
theorem rf:PL prog 157 [(0,1),(1,1),(2,1),(3,1),(4,1),(5,1)]:=⟨_,underlying157,by kernel_rfl⟩
theorem vV:TI prog 159 (.array 256 5) (.agg #[.int .u8 0,.int .u8 0,.int .u8 0,.int .u8 0,.int .u8 0,.int .u8 0,.int .u8 0,.int .u8 0,.int .u8 0,.int .u8 0,.int .u8 0,.int .u8 0,.int .u8 0,.int .u8 0,.int .u8 0,.int .u8 0,.int .u8 0,.int .u8 0,.int .u8 0,.int .u8 0,.int .u8 0,.int .u8 0,.int .u8 0,.int .u8 0,.int .u8 0,.int .u8 0,.int .u8 0,.int .u8 0,.int .u8 0,.int .u8 0,.int .u8 0,.int .u8 0,.int .u8 0,.int .u8 0,.int .u8 0,.int .u8 0,.int .u8 0,.int .u8 0,.int .u8 0,.int .u8 0,.int .u8 0,.int .u8 0,.int .u8 0,.int .u8 0,.int .u8 0,.int .u8 0,.int .u8 0,.int .u8 0,.int .u8 0,.int .u8 0,.int .u8 0,.int .u8 0,.int .u8 0,.int .u8 0,.int .u8 0,.int .u8 0,.int .u8 0,.int .u8 0,.int .u8 0,.int .u8 0,.int .u8 0,.int .u8 0,.int .u8 0,.int .u8 0,.int .u8 0,.int .u8 0,.int .u8 0,.int .u8 0,.int .u8 0,.int .u8 0,.int .u8 0,.int .u8 0,.int .u8 0,.int .u8 0,.int .u8 0,.int .u8 0,.int .u8 0,.int .u8 0,.int .u8 0,.int .u8 0,.int .u8 0,.int .u8 0,.int .u8 0,.int .u8 0,.int .u8 0,.int .u8 0,.int .u8 0,.int .u8 0,.int .u8 0,.int .u8 0,.int .u8 0,.int .u8 0,.int .u8 0,.int .u8 0,.int .u8 0,.int .u8 0,.int .u8 0,.int .u8 0,.int .u8 0,.int .u8 0,.int .u8 0,.int .u8 0,.int .u8 0,.int .u8 0,.int .u8 0,.int .u8 0,.int .u8 0,.int .u8 0,.int .u8 0,.int .u8 0,.int .u8 0,.int .u8 0,.int .u8 0,.int .u8 0,.int .u8 0,.int .u8 0,.int .u8 0,.int .u8 0,.int .u8 0,.int .u8 0,.int .u8 0,.int .u8 0,.int .u8 0,.int .u8 0,.int .u8 0,.int .u8 0,.int .u8 0,.int .u8 0,.int .u8 0,.int .u8 0,.int .u8 0,.int .u8 0,.int .u8 0,.int .u8 0,.int .u8 0,.int .u8 0,.int .u8 0,.int .u8 0,.int .u8 0,.int .u8 0,.int .u8 0,.int .u8 0,.int .u8 0,.int .u8 0,.int .u8 0,.int .u8 0,.int .u8 0,.int .u8 0,.int .u8 0,.int .u8 0,.int .u8 0,.int .u8 0,.int .u8 0,.int .u8 0,.int .u8 0,.int .u8 0,.int .u8 0,.int .u8 0,.int .u8 0,.int .u8 0,.int .u8 0,.int .u8 0,.int .u8 0,.int .u8 0,.int .u8 0,.int .u8 0,.int .u8 0,.int .u8 0,.int .u8 0,.int .u8 0,.int .u8 0,.int .u8 0,.int .u8 0,.int .u8 0,.int .u8 0,.int .u8 0,.int .u8 0,.int .u8 0,.int .u8 0,.int .u8 0,.int .u8 0,.int .u8 0,.int .u8 0,.int .u8 0,.int .u8 0,.int .u8 0,.int .u8 0,.int .u8 0,.int .u8 0,.int .u8 0,.int .u8 0,.int .u8 0,.int .u8 0,.int .u8 0,.int .u8 0,.int .u8 0,.int .u8 0,.int .u8 0,.int .u8 0,.int .u8 0,.int .u8 0,.int .u8 0,.int .u8 0,.int .u8 0,.int .u8 0,.int .u8 0,.int .u8 0,.int .u8 0,.int .u8 0,.int .u8 0,.int .u8 0,.int .u8 0,.int .u8 0,.int .u8 0,.int .u8 0,.int .u8 0,.int .u8 0,.int .u8 0,.int .u8 0,.int .u8 0,.int .u8 0,.int .u8 0,.int .u8 0,.int .u8 0,.int .u8 0,.int .u8 0,.int .u8 0,.int .u8 0,.int .u8 0,.int .u8 0,.int .u8 0,.int .u8 0,.int .u8 0,.int .u8 0,.int .u8 0,.int .u8 0,.int .u8 0,.int .u8 0,.int .u8 0,.int .u8 0,.int .u8 0,.int .u8 0,.int .u8 0,.int .u8 0,.int .u8 0,.int .u8 0,.int .u8 0,.int .u8 0,.int .u8 0,.int .u8 0,.int .u8 0,.int .u8 0,.int .u8 0,.int .u8 0,.int .u8 0,.int .u8 0]) 256 256:=⟨underlying159,by kernel_rfl⟩
theorem LY:TI prog 165 (.struct #[⟨ "p",27,0,false,"","babel/syntax",0⟩,⟨ "names",46,1,false,"","babel/syntax",24⟩,⟨ "nodes",3,2,false,"","babel/syntax",48⟩,⟨ "vars",3,3,false,"","babel/syntax",56⟩,⟨ "deep",4,4,false,"","babel/syntax",64⟩,⟨ "err",32,5,false,"","babel/syntax",72⟩]) (.agg #[.slice none 0 0,.slice none 0 0,I6 0,I6 0,.bool false,I6 0]) 6 80:=⟨underlying165,by kernel_rfl⟩
theorem yQ:FO prog 165 0 0:=⟨_,_,0,underlying165,rfl,rfl,by kernel_rfl⟩
theorem mt:FO prog 165 1 1:=⟨_,_,0,underlying165,rfl,rfl,by kernel_rfl⟩
theorem kw:FO prog 165 2 2:=⟨_,_,0,underlying165,rfl,rfl,by kernel_rfl⟩
theorem oh:FO prog 165 3 3:=⟨_,_,0,underlying165,rfl,rfl,by kernel_rfl⟩
theorem mr:FO prog 165 4 4:=⟨_,_,0,underlying165,rfl,rfl,by kernel_rfl⟩
theorem th:FO prog 165 5 5:=⟨_,_,0,underlying165,rfl,rfl,by kernel_rfl⟩
theorem JA:PL prog 165 [(0,1),(1,1),(2,1),(3,1),(4,1),(5,1)]:=⟨_,underlying165,by kernel_rfl⟩
theorem vU:TI prog 171 (.struct #[⟨ "at",3,0,false,"","babel/qgen",0⟩,⟨ "label",3,1,false,"","babel/qgen",8⟩]) (.agg #[I6 0,I6 0]) 2 16:=⟨underlying171,by kernel_rfl⟩
theorem yP:FO prog 171 0 0:=⟨_,_,0,underlying171,rfl,rfl,by kernel_rfl⟩
theorem E1:FO prog 171 1 1:=⟨_,_,0,underlying171,rfl,rfl,by kernel_rfl⟩
theorem Jz:PL prog 171 [(0,1),(1,1)]:=⟨_,underlying171,by kernel_rfl⟩
theorem GB:TI prog 175 (.pointer 177) (.pointer none) 1 8:=⟨underlying175,by kernel_rfl⟩
theorem DR:TI prog 177 (.struct #[⟨ "addr",175,0,false,"","strings",0⟩,⟨ "buf",84,1,false,"","strings",8⟩]) (.agg #[.pointer none,.slice none 0 0]) 2 32:=⟨underlying177,by kernel_rfl⟩
theorem tg:FO prog 177 0 0:=⟨_,_,0,underlying177,rfl,rfl,by kernel_rfl⟩
theorem og:FO prog 177 1 1:=⟨_,_,0,underlying177,rfl,rfl,by kernel_rfl⟩
theorem mL:TI prog 192 (.slice 197) (.slice none 0 0) 1 24:=⟨underlying192,by kernel_rfl⟩
theorem LX:TI prog 195 (.struct #[⟨ "l",192,0,false,"","babel/babelref08",0⟩,⟨ "at",3,1,false,"","babel/babelref08",24⟩,⟨ "off",3,2,false,"","babel/babelref08",32⟩,⟨ "err",32,3,false,"","babel/babelref08",40⟩]) (.agg #[.slice none 0 0,I6 0,I6 0,I6 0]) 4 48:=⟨underlying195,by kernel_rfl⟩
theorem fq:FO prog 195 0 0:=⟨_,_,0,underlying195,rfl,rfl,by kernel_rfl⟩
theorem bI:FO prog 195 1 1:=⟨_,_,0,underlying195,rfl,rfl,by kernel_rfl⟩
theorem gr:FO prog 195 3 3:=⟨_,_,0,underlying195,rfl,rfl,by kernel_rfl⟩
theorem Jy:PL prog 195 [(0,1),(1,1),(2,1),(3,1)]:=⟨_,underlying195,by kernel_rfl⟩
theorem dZ:TI prog 197 (.struct #[⟨ "Kind",3,0,false,"","",0⟩,⟨ "Text",9,1,false,"","",8⟩,⟨ "N",41,2,false,"","",24⟩,⟨ "Big",4,3,false,"","",28⟩,⟨ "At",3,4,false,"","",32⟩]) (.agg #[I6 0,Sg ⟨#[]⟩,I3 0,.bool false,I6 0]) 5 40:=⟨underlying197,by kernel_rfl⟩
theorem dI:FO prog 197 0 0:=⟨_,_,0,underlying197,rfl,rfl,by kernel_rfl⟩
theorem dw:FO prog 197 1 1:=⟨_,_,0,underlying197,rfl,rfl,by kernel_rfl⟩
theorem yO:FO prog 197 2 2:=⟨_,_,0,underlying197,rfl,rfl,by kernel_rfl⟩
theorem yN:FO prog 197 3 3:=⟨_,_,0,underlying197,rfl,rfl,by kernel_rfl⟩
theorem FD:PL prog 197 [(0,1),(1,1),(2,1),(3,1),(4,1)]:=⟨_,underlying197,by kernel_rfl⟩
theorem kK:TI prog 207 (.struct #[⟨ "S",78,0,false,"","",0⟩,⟨ "T",53,24,false,"","",104⟩]) (.agg #[I3 0,I3 0,I3 0,I3 0,I3 0,I3 0,I3 0,I3 0,I3 0,I3 0,I3 0,I3 0,I3 0,I3 0,I3 0,I3 0,I3 0,I3 0,I3 0,I3 0,I3 0,I3 0,I6 0,I6 0,I6 0,I3 0]) 26 120:=⟨underlying207,by kernel_rfl⟩
theorem yM:FO prog 207 0 0:=⟨_,_,23,underlying207,rfl,rfl,by kernel_rfl⟩
theorem oe:FO prog 207 1 24:=⟨_,_,1,underlying207,rfl,rfl,by kernel_rfl⟩
theorem FC:PL prog 207 [(0,24),(24,2)]:=⟨_,underlying207,by kernel_rfl⟩
theorem gK:TI prog 219 (.struct #[⟨ "known",4,0,false,"","babel/qcode",0⟩,⟨ "d",4,1,false,"","babel/qcode",1⟩,⟨ "a",4,2,false,"","babel/qcode",2⟩,⟨ "b",4,3,false,"","babel/qcode",3⟩,⟨ "kind",3,4,false,"","babel/qcode",8⟩,⟨ "bits",3,5,false,"","babel/qcode",16⟩,⟨ "most",41,6,false,"","babel/qcode",24⟩]) (.agg #[.bool false,.bool false,.bool false,.bool false,I6 0,I6 0,I3 0]) 7 32:=⟨underlying219,by kernel_rfl⟩
theorem yL:FO prog 219 0 0:=⟨_,_,0,underlying219,rfl,rfl,by kernel_rfl⟩
theorem E0:FO prog 219 1 1:=⟨_,_,0,underlying219,rfl,rfl,by kernel_rfl⟩
theorem EZ:FO prog 219 2 2:=⟨_,_,0,underlying219,rfl,rfl,by kernel_rfl⟩
theorem EY:FO prog 219 3 3:=⟨_,_,0,underlying219,rfl,rfl,by kernel_rfl⟩
theorem yK:FO prog 219 4 4:=⟨_,_,0,underlying219,rfl,rfl,by kernel_rfl⟩
theorem yJ:FO prog 219 5 5:=⟨_,_,0,underlying219,rfl,rfl,by kernel_rfl⟩
theorem EQ:FT prog 219 5 5 3:=⟨_,_,underlying219,rfl,rfl,rfl⟩
theorem yI:FO prog 219 6 6:=⟨_,_,0,underlying219,rfl,rfl,by kernel_rfl⟩
theorem jr:PL prog 219 [(0,1),(1,1),(2,1),(3,1),(4,1),(5,1),(6,1)]:=⟨_,underlying219,by kernel_rfl⟩
theorem zn:TI prog 236 (.struct #[⟨ "I",118,0,false,"","",0⟩,⟨ "T",53,5,false,"","",40⟩]) (.agg #[I6 0,I6 0,I6 0,I6 0,I3 0,I6 0,I3 0]) 7 56:=⟨underlying236,by kernel_rfl⟩
theorem EX:FO prog 236 0 0:=⟨_,_,4,underlying236,rfl,rfl,by kernel_rfl⟩
theorem EW:FO prog 236 1 5:=⟨_,_,1,underlying236,rfl,rfl,by kernel_rfl⟩
theorem Jw:PL prog 236 [(0,5),(5,2)]:=⟨_,underlying236,by kernel_rfl⟩
theorem gx:TI prog 241 (.struct #[⟨ "V",41,0,false,"","",0⟩,⟨ "At",41,1,false,"","",4⟩,⟨ "Ok",4,2,false,"","",8⟩]) (.agg #[I3 0,I3 0,.bool false]) 3 12:=⟨underlying241,by kernel_rfl⟩
theorem ob:FO prog 241 0 0:=⟨_,_,0,underlying241,rfl,rfl,by kernel_rfl⟩
theorem mn:FO prog 241 2 2:=⟨_,_,0,underlying241,rfl,rfl,by kernel_rfl⟩
theorem FB:PL prog 241 [(0,1),(1,1),(2,1)]:=⟨_,underlying241,by kernel_rfl⟩
theorem eL:TI prog 275 (.struct #[⟨ "Is",4,0,false,"","",0⟩,⟨ "D",4,1,false,"","",1⟩,⟨ "A",4,2,false,"","",2⟩,⟨ "B",4,3,false,"","",3⟩,⟨ "Signed",4,4,false,"","",4⟩,⟨ "Bits",3,5,false,"","",8⟩,⟨ "Most",41,6,false,"","",16⟩]) (.agg #[.bool false,.bool false,.bool false,.bool false,.bool false,I6 0,I3 0]) 7 24:=⟨underlying275,by kernel_rfl⟩
theorem EV:FO prog 275 0 0:=⟨_,_,0,underlying275,rfl,rfl,by kernel_rfl⟩
theorem yH:FO prog 275 1 1:=⟨_,_,0,underlying275,rfl,rfl,by kernel_rfl⟩
theorem yG:FO prog 275 2 2:=⟨_,_,0,underlying275,rfl,rfl,by kernel_rfl⟩
theorem yF:FO prog 275 3 3:=⟨_,_,0,underlying275,rfl,rfl,by kernel_rfl⟩
theorem yE:FO prog 275 4 4:=⟨_,_,0,underlying275,rfl,rfl,by kernel_rfl⟩
theorem kv:FO prog 275 5 5:=⟨_,_,0,underlying275,rfl,rfl,by kernel_rfl⟩
theorem EP:FT prog 275 5 5 3:=⟨_,_,underlying275,rfl,rfl,rfl⟩
theorem yD:FO prog 275 6 6:=⟨_,_,0,underlying275,rfl,rfl,by kernel_rfl⟩
theorem jT:PL prog 275 [(0,1),(1,1),(2,1),(3,1),(4,1),(5,1),(6,1)]:=⟨_,underlying275,by kernel_rfl⟩
theorem zm:TI prog 281 (.array 2 118) (.agg #[I6 0,I6 0,I6 0,I6 0,I3 0,I6 0,I6 0,I6 0,I6 0,I3 0]) 10 80:=⟨underlying281,by kernel_rfl⟩
theorem Nr:Cb prog 12:=⟨_,func12,by decide,rfl⟩
theorem Iq:Cb prog 15:=⟨_,func15,by decide,rfl⟩
theorem Ip:Cb prog 19:=⟨_,func19,by decide,rfl⟩
theorem Nq:Cb prog 21:=⟨_,func21,by decide,rfl⟩
theorem CV:Cb prog 24:=⟨_,func24,by decide,rfl⟩
theorem Io:Cb prog 25:=⟨_,func25,by decide,rfl⟩
theorem Np:Cb prog 26:=⟨_,func26,by decide,rfl⟩
theorem KC:Cb prog 27:=⟨_,func27,by decide,rfl⟩
theorem Fe:Cb prog 28:=⟨_,func28,by decide,rfl⟩
theorem KB:Cb prog 29:=⟨_,func29,by decide,rfl⟩
theorem Fd:Cb prog 30:=⟨_,func30,by decide,rfl⟩
theorem In:Cb prog 31:=⟨_,func31,by decide,rfl⟩
theorem KA:Cb prog 32:=⟨_,func32,by decide,rfl⟩
theorem No:Cb prog 33:=⟨_,func33,by decide,rfl⟩
theorem Nn:Cb prog 34:=⟨_,func34,by decide,rfl⟩
theorem Kz:Cb prog 35:=⟨_,func35,by decide,rfl⟩
theorem Nm:Cb prog 36:=⟨_,func36,by decide,rfl⟩
theorem Nl:Cb prog 37:=⟨_,func37,by decide,rfl⟩
theorem Nk:Cb prog 38:=⟨_,func38,by decide,rfl⟩
theorem Nj:Cb prog 39:=⟨_,func39,by decide,rfl⟩
theorem Fc:Cb prog 41:=⟨_,func41,by decide,rfl⟩
theorem Ni:Cb prog 43:=⟨_,func43,by decide,rfl⟩
theorem Ky:Cb prog 44:=⟨_,func44,by decide,rfl⟩
theorem Nh:Cb prog 48:=⟨_,func48,by decide,rfl⟩
theorem Ng:Cb prog 49:=⟨_,func49,by decide,rfl⟩
theorem tt:Cb prog 50:=⟨_,func50,by decide,rfl⟩
theorem iF:Cb prog 51:=⟨_,func51,by decide,rfl⟩
theorem qS:Cb prog 52:=⟨_,func52,by decide,rfl⟩
theorem u0:Cb prog 53:=⟨_,func53,by decide,rfl⟩
theorem Nf:Cb prog 54:=⟨_,func54,by decide,rfl⟩
theorem Ne:Cb prog 55:=⟨_,func55,by decide,rfl⟩
theorem Kx:Cb prog 59:=⟨_,func59,by decide,rfl⟩
theorem Nd:Cb prog 62:=⟨_,func62,by decide,rfl⟩
theorem Nc:Cb prog 65:=⟨_,func65,by decide,rfl⟩
theorem Nb:Cb prog 66:=⟨_,func66,by decide,rfl⟩
theorem Na:Cb prog 67:=⟨_,func67,by decide,rfl⟩
theorem M_:Cb prog 68:=⟨_,func68,by decide,rfl⟩
theorem M9:Cb prog 69:=⟨_,func69,by decide,rfl⟩
theorem M8:Cb prog 70:=⟨_,func70,by decide,rfl⟩
theorem As:Cb prog 71:=⟨_,func71,by decide,rfl⟩
theorem M7:Cb prog 72:=⟨_,func72,by decide,rfl⟩
theorem Kw:Cb prog 73:=⟨_,func73,by decide,rfl⟩
theorem M6:Cb prog 74:=⟨_,func74,by decide,rfl⟩
theorem CU:Cb prog 75:=⟨_,func75,by decide,rfl⟩
theorem M5:Cb prog 76:=⟨_,func76,by decide,rfl⟩
theorem M4:Cb prog 77:=⟨_,func77,by decide,rfl⟩
theorem M3:Cb prog 81:=⟨_,func81,by decide,rfl⟩
theorem Im:Cb prog 82:=⟨_,func82,by decide,rfl⟩
theorem M2:Cb prog 83:=⟨_,func83,by decide,rfl⟩
theorem qR:Cb prog 84:=⟨_,func84,by decide,rfl⟩
theorem qQ:Cb prog 85:=⟨_,func85,by decide,rfl⟩
theorem lI:Cb prog 86:=⟨_,func86,by decide,rfl⟩
theorem Ku:Cb prog 87:=⟨_,func87,by decide,rfl⟩
theorem Il:Cb prog 88:=⟨_,func88,by decide,rfl⟩
theorem Ik:Cb prog 89:=⟨_,func89,by decide,rfl⟩
theorem Kt:Cb prog 90:=⟨_,func90,by decide,rfl⟩
theorem M1:Cb prog 91:=⟨_,func91,by decide,rfl⟩
theorem qg:Cb prog 92:=⟨_,func92,by decide,rfl⟩
theorem M0:Cb prog 93:=⟨_,func93,by decide,rfl⟩
theorem Ij:Cb prog 94:=⟨_,func94,by decide,rfl⟩
theorem Ar:Cb prog 95:=⟨_,func95,by decide,rfl⟩
theorem CT:Cb prog 96:=⟨_,func96,by decide,rfl⟩
theorem Fb:Cb prog 97:=⟨_,func97,by decide,rfl⟩
theorem MZ:Cb prog 98:=⟨_,func98,by decide,rfl⟩
theorem MY:Cb prog 99:=⟨_,func99,by decide,rfl⟩
theorem Lv:Cb prog 100:=⟨_,func100,by decide,rfl⟩
theorem Lu:Cb prog 101:=⟨_,func101,by decide,rfl⟩
theorem Lt:Cb prog 108:=⟨_,func108,by decide,rfl⟩
theorem iL:Cb prog 109:=⟨_,func109,by decide,rfl⟩
theorem C3:Cb prog 110:=⟨_,func110,by decide,rfl⟩
theorem nA:Cb prog 111:=⟨_,func111,by decide,rfl⟩
theorem y8:Cb prog 112:=⟨_,func112,by decide,rfl⟩
theorem Gn:Cb prog 115:=⟨_,func115,by decide,rfl⟩
theorem Ls:Cb prog 116:=⟨_,func116,by decide,rfl⟩
theorem Lr:Cb prog 118:=⟨_,func118,by decide,rfl⟩
theorem Ln:Cb prog 119:=⟨_,func119,by decide,rfl⟩
theorem Lm:Cb prog 120:=⟨_,func120,by decide,rfl⟩
theorem Ll:Cb prog 121:=⟨_,func121,by decide,rfl⟩
theorem u5:Cb prog 122:=⟨_,func122,by decide,rfl⟩
theorem C2:Cb prog 123:=⟨_,func123,by decide,rfl⟩
theorem Gm:Cb prog 124:=⟨_,func124,by decide,rfl⟩
theorem Lk:Cb prog 125:=⟨_,func125,by decide,rfl⟩
theorem C1:Cb prog 126:=⟨_,func126,by decide,rfl⟩
theorem u4:Cb prog 127:=⟨_,func127,by decide,rfl⟩
theorem Gl:Cb prog 128:=⟨_,func128,by decide,rfl⟩
theorem C0:Cb prog 129:=⟨_,func129,by decide,rfl⟩
theorem Lj:Cb prog 130:=⟨_,func130,by decide,rfl⟩
theorem Li:Cb prog 131:=⟨_,func131,by decide,rfl⟩
theorem Gk:Cb prog 132:=⟨_,func132,by decide,rfl⟩
theorem Lh:Cb prog 133:=⟨_,func133,by decide,rfl⟩
theorem Lg:Cb prog 134:=⟨_,func134,by decide,rfl⟩
theorem Gj:Cb prog 135:=⟨_,func135,by decide,rfl⟩
theorem CZ:Cb prog 136:=⟨_,func136,by decide,rfl⟩
theorem Lf:Cb prog 138:=⟨_,func138,by decide,rfl⟩
theorem Le:Cb prog 139:=⟨_,func139,by decide,rfl⟩
theorem Gi:Cb prog 141:=⟨_,func141,by decide,rfl⟩
theorem Ld:Cb prog 142:=⟨_,func142,by decide,rfl⟩
theorem Lc:Cb prog 147:=⟨_,func147,by decide,rfl⟩
theorem K_:Cb prog 148:=⟨_,func148,by decide,rfl⟩
theorem Gh:Cb prog 149:=⟨_,func149,by decide,rfl⟩
theorem K9:Cb prog 150:=⟨_,func150,by decide,rfl⟩
theorem K8:Cb prog 151:=⟨_,func151,by decide,rfl⟩
theorem K7:Cb prog 152:=⟨_,func152,by decide,rfl⟩
theorem Gg:Cb prog 153:=⟨_,func153,by decide,rfl⟩
theorem K6:Cb prog 154:=⟨_,func154,by decide,rfl⟩
theorem y7:Cb prog 155:=⟨_,func155,by decide,rfl⟩
theorem K5:Cb prog 156:=⟨_,func156,by decide,rfl⟩
theorem Gf:Cb prog 157:=⟨_,func157,by decide,rfl⟩
theorem K4:Cb prog 158:=⟨_,func158,by decide,rfl⟩
theorem K3:Cb prog 159:=⟨_,func159,by decide,rfl⟩
theorem K1:Cb prog 160:=⟨_,func160,by decide,rfl⟩
theorem K0:Cb prog 161:=⟨_,func161,by decide,rfl⟩
theorem KZ:Cb prog 162:=⟨_,func162,by decide,rfl⟩
theorem KY:Cb prog 163:=⟨_,func163,by decide,rfl⟩
theorem Ge:Cb prog 164:=⟨_,func164,by decide,rfl⟩
theorem Gd:Cb prog 165:=⟨_,func165,by decide,rfl⟩
theorem Gc:Cb prog 166:=⟨_,func166,by decide,rfl⟩
theorem qh:Cb prog 167:=⟨_,func167,by decide,rfl⟩
theorem Gb:Cb prog 168:=⟨_,func168,by decide,rfl⟩
theorem CY:Cb prog 169:=⟨_,func169,by decide,rfl⟩
theorem KX:Cb prog 170:=⟨_,func170,by decide,rfl⟩
theorem KW:Cb prog 171:=⟨_,func171,by decide,rfl⟩
theorem KV:Cb prog 174:=⟨_,func174,by decide,rfl⟩
theorem jv:Cb prog 175:=⟨_,func175,by decide,rfl⟩
theorem F_:Cb prog 176:=⟨_,func176,by decide,rfl⟩
theorem KU:Cb prog 179:=⟨_,func179,by decide,rfl⟩
theorem KT:Cb prog 180:=⟨_,func180,by decide,rfl⟩
theorem KS:Cb prog 182:=⟨_,func182,by decide,rfl⟩
theorem F9:Cb prog 183:=⟨_,func183,by decide,rfl⟩
theorem KQ:Cb prog 184:=⟨_,func184,by decide,rfl⟩
theorem KP:Cb prog 185:=⟨_,func185,by decide,rfl⟩
theorem F8:Cb prog 186:=⟨_,func186,by decide,rfl⟩
theorem KO:Cb prog 187:=⟨_,func187,by decide,rfl⟩
theorem F7:Cb prog 188:=⟨_,func188,by decide,rfl⟩
theorem KN:Cb prog 189:=⟨_,func189,by decide,rfl⟩
theorem F6:Cb prog 190:=⟨_,func190,by decide,rfl⟩
theorem j9:Cb prog 191:=⟨_,func191,by decide,rfl⟩
theorem F5:Cb prog 192:=⟨_,func192,by decide,rfl⟩
theorem F4:Cb prog 196:=⟨_,func196,by decide,rfl⟩
theorem CX:Cb prog 197:=⟨_,func197,by decide,rfl⟩
theorem F3:Cb prog 198:=⟨_,func198,by decide,rfl⟩
theorem KM:Cb prog 199:=⟨_,func199,by decide,rfl⟩
theorem KL:Cb prog 200:=⟨_,func200,by decide,rfl⟩
theorem KK:Cb prog 201:=⟨_,func201,by decide,rfl⟩
theorem KJ:Cb prog 202:=⟨_,func202,by decide,rfl⟩
theorem KI:Cb prog 203:=⟨_,func203,by decide,rfl⟩
theorem KH:Cb prog 204:=⟨_,func204,by decide,rfl⟩
theorem KG:Cb prog 205:=⟨_,func205,by decide,rfl⟩
theorem KF:Cb prog 209:=⟨_,func209,by decide,rfl⟩
theorem KE:Cb prog 210:=⟨_,func210,by decide,rfl⟩
theorem CW:Cb prog 212:=⟨_,func212,by decide,rfl⟩
theorem KD:Cb prog 213:=⟨_,func213,by decide,rfl⟩
theorem F2:Cb prog 232:=⟨_,func232,by decide,rfl⟩
end Go.Proofs.YtedmdgbmdplifaaGreat
namespace Go.Proofs.YtedmdgbmdplifaaGreat
open Go.RowKit Tryz
section
end
theorem ea:KeyLaw prog 9 fE:=EA underlying9
abbrev oW(n:Int):Prop:=0≤n∧n<4294967296
mutual
def VX(fs:List Tf):Tx→Prop
 | .mk k n nm _ kids=>oW n∧kids.length≤1000000∧(k=4→1≤kids.length)∧(k=6→1≤kids.length∧∀a,(IH nm a).isSome=true)∧(k=7→2≤kids.length∧∀a b,(Ir nm a b).isSome=true)∧
   (k≠1→k≠2→k≠4→k≠5→k≠6→k≠7→∃f,cK fs nm=some f∧kids.length≤f.ps.length)∧Iz fs kids
def Iz(fs:List Tf):List Tx→Prop
 | []=>True
 | t::r=>VX fs t∧Iz fs r
end
mutual
def VY(fs:List Tf):Ty→Prop
 | .mk k _ _ es _ body _ els=>(1≤es.length∧es.length≤1000000∧(k=3→2≤es.length)∧Iz fs es)∧(body.length≤1000000∧Gr fs body)∧(els.length≤1000000∧Gr fs els)
def Gr(fs:List Tf):List Ty→Prop
 | []=>True
 | t::r=>VY fs t∧Gr fs r
end
def VF(fs:List Tf):Prop:=∀f∈fs,f.ps.length≤1000000∧f.body.length≤1000000∧Gr fs f.body
def okVs(vs:Vs):Prop:=∀p∈vs,oW p.2
structure okMs(s:Ms):Prop where
 inp:∀x∈s.inp,oW x
 mem:∀i,oW (s.mem i)
 fuel:s.fuel<9223372036854775808
 out:(s.out.length:Int)+max s.fuel 0≤1000000000000
theorem okVs.get{vs:Vs}(h:okVs vs)(x:Ba):oW (oy vs x):=by
 unfold oy;cases hf:vs.find? (fun p=>decide (p.1=x))with
 | none=>exact⟨Int.le_refl _,by show(0:Int)<4294967296;decide⟩
 | some p=>exact h p (List.mem_of_find?_eq_some hf)
theorem okVs.put{vs:Vs}(h:okVs vs)(x:Ba){n:Int}(hn:oW n):okVs (fz vs x n):=fun p hp=>by
 rcases List.mem_cons.1 hp with rfl|hp
 ·exact hn
 ·exact h p (List.mem_filter.1 hp).1
theorem okVs.bind:∀{vs:Vs}(ps:List Ba)(al:List Int),okVs vs→(∀a∈al,oW a)→okVs (gN vs ps al)
 | vs,p::ps,a::al,h,ha=>okVs.bind ps al (h.put p (ha a (by simp))) fun b hb=>ha b (by simp [hb])
 | vs,[],al,h,_=>by unfold gN;exact h
 | vs,p::ps,[],h,_=>by unfold gN;exact h
theorem oY:oW 0:=⟨Int.le_refl _,by show(0:Int)<4294967296;decide⟩
theorem oX(b:Bool):oW (tr b):=by
 cases b
 ·exact oY
 ·exact⟨by decide,by decide⟩
theorem oV(n:Int):oW (wU n):=jF n
theorem sM(o:BinOp)(a b:Int)(h:∃z,bits o .u32 a b=IntKind.u32.wrap z):oW (bits o .u32 a b):=by
 obtain⟨z,hz⟩:=h;rw [hz];exact jF z
theorem JT{op:Ba}{a:Int}(ha:oW a):oW ((IH op a).getD 0):=by
 unfold IH;split
 ·exact oV _
 ·split
  ·show 0≤4294967295-a∧4294967295-a<4294967296;have h1:=ha.1;have h2:=ha.2;omega
  ·split
   ·exact oX _
   ·exact oY
theorem Hm{a:Int}(ha:oW a)(n:Nat):oW (a/2^n):=by
 have h0:(0:Int)<2^n:=Int.pow_pos (by decide);refine⟨Int.ediv_nonneg ha.1 (Int.le_of_lt h0),Int.lt_of_le_of_lt (Int.ediv_le_self _ ha.1) ha.2⟩
theorem JU{op:Ba}{a b:Int}(ha:oW a)(hb:oW b):oW ((Ir op a b).getD 0):=by
 have hq:oW (if b=0 then 0 else a/b):=by
  split
  ·exact oY
  ·exact⟨Int.ediv_nonneg ha.1 hb.1,Int.lt_of_le_of_lt (Int.ediv_le_self _ ha.1) ha.2⟩
 have hr:oW (if b=0 then a else a%b):=by
  split
  ·exact ha
  ·rename_i h;have h1:=Int.emod_nonneg a h;have h2:=Int.emod_lt_of_pos a (b:=b) (by have:=hb.1;omega);have h3:=hb.2;exact⟨h1,by omega⟩
 unfold Ir;by_cases h0:op=e_
 ·rw [ao h0];exact oV _
 rw [ac h0];by_cases h1:op=ef
 ·rw [ao h1];exact oV _
 rw [ac h1];by_cases h2:op=fL
 ·rw [ao h2];exact oV _
 rw [ac h2];by_cases h3:op=jx
 ·rw [ao h3];exact hq
 rw [ac h3];by_cases h4:op=kM
 ·rw [ao h4];exact hr
 rw [ac h4];by_cases h5:op=eq
 ·rw [ao h5];exact(show oW (bits .and .u32 a b)from sM .and a b ⟨_,J⟩)
 rw [ac h5];by_cases h6:op=iQ
 ·rw [ao h6];exact(show oW (bits .or .u32 a b)from sM .or a b ⟨_,J⟩)
 rw [ac h6];by_cases h7:op=ey
 ·rw [ao h7];exact(show oW (bits .xor .u32 a b)from sM .xor a b ⟨_,J⟩)
 rw [ac h7];by_cases h8:op=fK
 ·rw [ao h8];exact oV _
 rw [ac h8];by_cases h9:op=fW
 ·rw [ao h9];exact Hm ha _
 rw [ac h9];by_cases h10:op=kN
 ·rw [ao h10];exact oX _
 rw [ac h10];by_cases h11:op=lM
 ·rw [ao h11];exact oX _
 rw [ac h11];by_cases h12:op=lN
 ·rw [ao h12];exact oX _
 rw [ac h12];by_cases h13:op=mU
 ·rw [ao h13];exact oX _
 rw [ac h13];by_cases h14:op=lO
 ·rw [ao h14];exact oX _
 rw [ac h14];by_cases h15:op=lL
 ·rw [ao h15];exact oX _
 rw [ac h15];exact oY
structure Kp(s s':Ms):Prop where
 ok:okMs s'
 sum:(s'.out.length:Int)+max s'.fuel 0≤(s.out.length:Int)+max s.fuel 0
 fl:s'.fuel≤s.fuel
 inp:∃k,s'.inp=s.inp.drop k
theorem Kp.refl{s:Ms}(h:okMs s):Kp s s:=⟨h,Int.le_refl _,Int.le_refl _,0,by simp⟩
theorem Kp.trans{a b c:Ms}(h:Kp a b)(h':Kp b c):Kp a c:=⟨h'.ok,Int.le_trans h'.sum h.sum,Int.le_trans h'.fl h.fl,by
 obtain⟨k,hk⟩:=h.inp;obtain⟨j,hj⟩:=h'.inp;exact⟨k+j,by rw [hj,hk,List.drop_drop]⟩⟩
theorem Kp.pay{s:Ms}(h:okMs s)(hf:¬s.fuel≤0):Kp s {s with fuel:=s.fuel-1}:=⟨⟨h.inp,h.mem,by have:=h.fuel;dsimp only;omega,by have:=h.out;dsimp only;omega⟩,by dsimp only;omega,by dsimp only;omega,0,by simp⟩
structure EvOk(fs:List Tf)(g:Nat):Prop where
 x:∀d vs t s v s',VX fs t→okVs vs→okMs s→jl g fs d vs t s=some (.ok v s')→oW v∧Kp s s'
 k:∀d vs acc l s ks s',Iz fs l→okVs vs→okMs s→(∀a∈acc,oW a)→jC g fs d vs acc l s=some (.ok ks s')→(∀a∈ks,oW a)∧ks.length=acc.length+l.length∧Kp s s'
 c:∀d f al s v s',f∈fs→(∀a∈al,oW a)→okMs s→qM g fs d f al s=some (.ok v s')→oW v∧Kp s s'
 b:∀d vs l s p s',Gr fs l→okVs vs→okMs s→kO g fs d vs l s=some (.ok p s')→okVs p.1∧(∀x,p.2=some x→oW x)∧Kp s s'
 s:∀d vs t s p s',VY fs t→okVs vs→okMs s→nH g fs d vs t s=some (.ok p s')→okVs p.1∧(∀x,p.2=some x→oW x)∧Kp s s'
 w:∀d vs e l v s p s',VX fs e→Gr fs l→okVs vs→okMs s→qL g fs d vs e l v s=some (.ok p s')→okVs p.1∧(∀x,p.2=some x→oW x)∧Kp s s'
theorem s_{ks:List Int}(h:∀a∈ks,oW a)(i:Nat):oW (ks.getD i 0):=by
 rw [List.getD_eq_getElem?_getD];cases hk:ks[i]? with
 | none=>exact oY
 | some a=>exact h a (cO hk)
theorem i6{fs:List Tf}{x:Ba}{f:Tf}(h:cK fs x=some f):f∈fs:=List.mem_of_find?_eq_some h
theorem jt{fs:List Tf}(hF:VF fs):∀g,EvOk fs g
 | 0=>⟨fun _ _ _ _ _ _ _ _ _ h=>by simp [jl]at h,fun _ _ _ _ _ _ _ _ _ _ _ h=>by simp [jC]at h,fun _ _ _ _ _ _ _ _ _ h=>by simp [qM]at h,fun _ _ _ _ _ _ _ _ _ h=>by simp [kO]at h,fun _ _ _ _ _ _ _ _ _ h=>by simp [nH]at h,fun _ _ _ _ _ _ _ _ _ _ _ _ h=>by simp [qL]at h⟩
 | g+1=>by
  have ih:=jt hF g;refine⟨fun d vs t s v s' ht hv hs h=> ?_,fun d vs acc l s ks s' hl hv hs ha h=> ?_,fun d f al s v s' hf ha hs h=> ?_,fun d vs l s p s' hl hv hs h=> ?_,fun d vs t s p s' ht hv hs h=> ?_,fun d vs e l v s p s' he hl hv hs h=> ?_⟩
  · -- an expression
   unfold jl at h;by_cases hfu:s.fuel≤0
   ·rw [ao hfu]at h;simp at h
   ·rw [ac hfu]at h;have hp:=Kp.pay hs hfu;cases hk:jC g fs d vs [] t.kids {s with fuel:=s.fuel-1}with
    | none=>rw [hk]at h;simp at h
    | some r=>
     cases r with
     | err e=>rw [hk]at h;simp at h
     | ok ks s1=>
      rw [hk]at h;dsimp only at h;have hkids:Iz fs t.kids:=by cases t;exact ht.2.2.2.2.2.2
      obtain⟨k1,k2,k3⟩:=ih.k d vs [] t.kids _ ks s1 hkids hv hp.ok (by simp) hk;have k4:=hp.trans k3;split at h
      ·simp only [Option.some.injEq,Re.ok.injEq]at h;obtain⟨rfl,rfl⟩:=h;exact⟨by cases t;exact ht.1,k4⟩
      ·split at h
       ·simp only [Option.some.injEq,Re.ok.injEq]at h;obtain⟨rfl,rfl⟩:=h;exact⟨hv.get _,k4⟩
       ·split at h
        ·simp only [Option.some.injEq,Re.ok.injEq]at h;obtain⟨rfl,rfl⟩:=h;exact⟨k4.ok.mem _,k4⟩
        ·split at h
         ·split at h
          ·simp only [Option.some.injEq,Re.ok.injEq]at h;obtain⟨rfl,rfl⟩:=h;exact⟨oY,k4⟩
          ·rename_i a r hi;simp only [Option.some.injEq,Re.ok.injEq]at h;obtain⟨rfl,rfl⟩:=h;refine⟨k4.ok.inp a (by rw [hi];simp),k4.trans ⟨⟨fun x hx=>k4.ok.inp x (by rw [hi];simp [hx]),k4.ok.mem,k4.ok.fuel,k4.ok.out⟩,Int.le_refl _,Int.le_refl _,1,by rw [hi];rfl⟩⟩
         ·split at h
          ·simp only [Option.some.injEq,Re.ok.injEq]at h;obtain⟨rfl,rfl⟩:=h;exact⟨JT (s_ k1 0),k4⟩
          ·split at h
           ·simp only [Option.some.injEq,Re.ok.injEq]at h;obtain⟨rfl,rfl⟩:=h;exact⟨JU (s_ k1 0) (s_ k1 1),k4⟩
           ·split at h
            ·simp at h
            ·rename_i f hff;obtain⟨c1,c2⟩:=ih.c d f ks s1 v s' (i6 hff) k1 k4.ok h;exact⟨c1,k4.trans c2⟩
  · -- parts
   cases l with
   | nil=>
    simp only [jC,Option.some.injEq,Re.ok.injEq]at h;obtain⟨rfl,rfl⟩:=h;exact⟨ha,by simp,Kp.refl hs⟩
   | cons t r=>
    unfold jC at h;cases hx:jl g fs d vs t s with
    | none=>rw [hx]at h;simp at h
    | some q=>
     cases q with
     | err e=>rw [hx]at h;simp at h
     | ok v s1=>
      rw [hx]at h;dsimp only at h;obtain⟨x1,x2⟩:=ih.x d vs t s v s1 hl.1 hv hs hx;obtain⟨k1,k2,k3⟩:=ih.k d vs (acc++ [v]) r s1 ks s' hl.2 hv x2.ok (fun a hm=>by
       rcases List.mem_append.1 hm with hm|hm
       ·exact ha a hm
       ·rw [List.mem_singleton.1 hm];exact x1) h
      exact⟨k1,by rw [k2];simp;omega,x2.trans k3⟩
  · -- a call
   unfold qM at h;split at h
   ·simp at h
   ·cases hb:kO g fs (d+1) (gN [] f.ps al) f.body s with
    | none=>rw [hb]at h;simp at h
    | some q=>
     cases q with
     | err e=>rw [hb]at h;simp at h
     | ok p s1=>
      obtain⟨vs1,r⟩:=p;rw [hb]at h;simp only [Option.some.injEq,Re.ok.injEq]at h;obtain⟨rfl,rfl⟩:=h;obtain⟨b1,b2,b3⟩:=ih.b (d+1) _ f.body s _ s1 (hF f hf).2.2 (okVs.bind _ _ (fun p hp=>by simp at hp) ha) hs hb;refine⟨?_,b3⟩;cases r with
      | none=>exact oY
      | some x=>exact b2 x rfl
  · -- statements
   cases l with
   | nil=>
    simp only [kO,Option.some.injEq,Re.ok.injEq]at h;obtain⟨rfl,rfl⟩:=h;exact⟨hv,fun x hx=>by simp at hx,Kp.refl hs⟩
   | cons t r=>
    unfold kO at h;cases hx:nH g fs d vs t s with
    | none=>rw [hx]at h;simp at h
    | some q=>
     cases q with
     | err e=>rw [hx]at h;simp at h
     | ok q s1=>
      obtain⟨vs1,ro⟩:=q;obtain⟨x1,x2,x3⟩:=ih.s d vs t s _ s1 hl.1 hv hs hx;rw [hx]at h;cases ro with
      | some x=>
       simp only [Option.some.injEq,Re.ok.injEq]at h;obtain⟨rfl,rfl⟩:=h;exact⟨x1,x2,x3⟩
      | none=>
       dsimp only at h;obtain⟨b1,b2,b3⟩:=ih.b d vs1 r s1 p s' hl.2 x1 x3.ok h;exact⟨b1,b2,x3.trans b3⟩
  · -- a statement
   unfold nH at h;by_cases hfu:s.fuel≤0
   ·rw [ao hfu]at h;simp at h
   ·rw [ac hfu]at h;have hp:=Kp.pay hs hfu;obtain⟨kd,nm,ve,es,vb,body,vl,els⟩:=t;obtain⟨⟨e1,e2,e3,e4⟩,⟨b1,b2⟩,c1,c2⟩:=ht;cases es with
    | nil=>simp [Ty.es]at h
    | cons e r=>
     simp only [Ty.es]at h;cases hx:jl g fs d vs e {s with fuel:=s.fuel-1}with
     | none=>rw [hx]at h;simp at h
     | some q=>
      cases q with
      | err z=>rw [hx]at h;simp at h
      | ok v s1=>
       rw [hx]at h;dsimp only at h;obtain⟨x1,x2⟩:=ih.x d vs e _ v s1 e4.1 hv hp.ok hx;have x3:=hp.trans x2;split at h
       ·simp only [Option.some.injEq,Re.ok.injEq]at h;obtain⟨rfl,rfl⟩:=h;exact⟨hv.put _ x1,fun x hx=>by simp at hx,x3⟩
       ·split at h
        ·cases r with
         | nil=>simp at h
         | cons e5 r=>
          dsimp only at h;cases hx2:jl g fs d vs e5 s1 with
          | none=>rw [hx2]at h;simp at h
          | some q=>
           cases q with
           | err z=>rw [hx2]at h;simp at h
           | ok w s2=>
            rw [hx2]at h;simp only [Option.some.injEq,Re.ok.injEq]at h;obtain⟨rfl,rfl⟩:=h;obtain⟨y1,y2⟩:=ih.x d vs e5 s1 w s2 e4.2.1 hv x3.ok hx2;have y3:=x3.trans y2;refine⟨hv,fun x hx=>by simp at hx,y3.trans ⟨⟨y3.ok.inp,fun i=> ?_,y3.ok.fuel,y3.ok.out⟩,Int.le_refl _,Int.le_refl _,0,by simp⟩⟩;dsimp only [BJ];split
            ·exact y1
            ·exact y3.ok.mem i
        ·split at h
         ·obtain⟨z1,z2,z3⟩:=ih.b d vs (if v=0 then els else body) s1 p s' (by split<;>assumption) hv x3.ok (by simpa only [Ty.els,Ty.body]using h);exact⟨z1,z2,x3.trans z3⟩
         ·split at h
          ·obtain⟨z1,z2,z3⟩:=ih.w d vs e body v s1 p s' e4.1 b2 hv x3.ok (by simpa only [Ty.body]using h);exact⟨z1,z2,x3.trans z3⟩
          ·split at h
           ·simp only [Option.some.injEq,Re.ok.injEq]at h;obtain⟨rfl,rfl⟩:=h;exact⟨hv,fun x hx=>by simp at hx;rw [←hx];exact x1,x3⟩
           ·split at h
            ·simp only [Option.some.injEq,Re.ok.injEq]at h;obtain⟨rfl,rfl⟩:=h;have x4:=x2.sum;have x5:=hs.out;dsimp only at x4;obtain⟨k,hk⟩:=x3.inp;exact⟨hv,fun x hx=>by simp at hx,⟨⟨x3.ok.inp,x3.ok.mem,x3.ok.fuel,by dsimp only;rw [bO,dJ];omega⟩,by dsimp only;rw [bO,dJ];omega,x3.fl,k,hk⟩⟩
            ·simp only [Option.some.injEq,Re.ok.injEq]at h;obtain⟨rfl,rfl⟩:=h;exact⟨hv,fun x hx=>by simp at hx,x3⟩
  · -- a loop
   unfold qL at h;split at h
   ·simp only [Option.some.injEq,Re.ok.injEq]at h;obtain⟨rfl,rfl⟩:=h;exact⟨hv,fun x hx=>by simp at hx,Kp.refl hs⟩
   ·cases hb:kO g fs d vs l s with
    | none=>rw [hb]at h;simp at h
    | some q=>
     cases q with
     | err z=>rw [hb]at h;simp at h
     | ok q s1=>
      obtain⟨vs1,ro⟩:=q;obtain⟨x1,x2,x3⟩:=ih.b d vs l s _ s1 hl hv hs hb;rw [hb]at h;cases ro with
      | some x=>
       simp only [Option.some.injEq,Re.ok.injEq]at h;obtain⟨rfl,rfl⟩:=h;exact⟨x1,x2,x3⟩
      | none=>
       dsimp only at h;cases hx:jl g fs d vs1 e s1 with
       | none=>rw [hx]at h;simp at h
       | some q=>
        cases q with
        | err z=>rw [hx]at h;simp at h
        | ok w s2=>
         rw [hx]at h;dsimp only at h;obtain⟨y1,y2⟩:=ih.x d vs1 e s1 w s2 he x1 x3.ok hx;have y3:=x3.trans y2;obtain⟨z1,z2,z3⟩:=ih.w d vs1 e l w s2 p s' he hl x1 y3.ok h;exact⟨z1,z2,y3.trans z3⟩
end Go.Proofs.YtedmdgbmdplifaaGreat
namespace Go.Proofs.YtedmdgbmdplifaaGreat
open Go.ChangeShapes Go.WideShapes Go.ChangeAt Go.RowKit Tryz
abbrev LQ(n:Int):Prop:= -9223372036854775808≤n∧n<9223372036854775808
theorem wP{n:Int}(h:(Lit.int .i64 n).wf=true):LQ n:=by
 simp only [Lit.wf,Bool.and_eq_true,decide_eq_true_eq]at h;have h1:IntKind.i64.min= -9223372036854775808:=by decide
 have h2:IntKind.i64.max=9223372036854775807:=by decide
 rw [h1,h2]at h;exact⟨h.1,by omega⟩
section
end
end Go.Proofs.YtedmdgbmdplifaaGreat
namespace Go.Proofs.YtedmdgbmdplifaaGreat
open Go.RowKit Tryz
section
end
def II(f:Tf):Value:= .agg (oq f).toArray
def E5(fs:List Tf):Asn:=⟨fun w F=>∀f∈fs,TfIn w F f,fun h hs f hf=>(h f hf).stable hs⟩
theorem Ke{fs:List Tf}{f:Tf}(hf:f∈fs):∀w G,(E5 fs).pred w G→(∀b,G b→b<w.heap.size)→∃G',(Dm f).pred w G'∧∀b,G' b→G b:=fun w G h _=>⟨G,h f hf,fun _ hb=>hb⟩
section
end
def vC{α:Type}(p:α→Bool)(l:List α):Int:=match l.findIdx? p with
 | some i=>(i:Int)
 | none=> -1
theorem pg{α:Type}{p:α→Bool}{l:List α}{k:Nat}{x:α}(hk:l[k]?=some x)(hp:p x=true)(hb:∀i y,i<k→l[i]?=some y→p y=false):vC p l=(k:Int):=by
 have h:l.findIdx? p=some k:=by
  rw [List.findIdx?_eq_some_iff_getElem];obtain⟨h1,h2⟩:=cC.1 hk;refine⟨h1,by rw [h2];exact hp,fun j hj=> ?_⟩;have:=hb j l[j] hj (bV (by omega));simp [this]
 unfold vC;rw [h]
theorem pe{α:Type}{p:α→Bool}{l:List α}(hb:∀i y,i<l.length→l[i]?=some y→p y=false):vC p l= -1:=by
 have h:l.findIdx? p=none:=by
  rw [List.findIdx?_eq_none_iff];intro x hx;obtain⟨i,hi,rfl⟩:=List.mem_iff_getElem.1 hx;exact hb i _ hi (bV hi)
 unfold vC;rw [h]
theorem BY(v:SV)(l:List Ba)(hl:l.length≤1000000)(n:Nat)(p:Ba→Bool)(hcb:Cb prog n)(hs:∀s∈l,Spec prog n [Sg s] [] [] (X:=Unit) (fun _=>True) (fun _=> .bool (p s)) (fun _=> []) (fun _=> [])):
  aO prog 154 [sv v,.func (.func n) #[] #[]] [] [sl 1 eS (sv v) l] (I6 (vC p l)) []:=by
 refine au func154 J ntmps154 J fun w0 M H=>ak (am J (aa (aS (ab J (aH (aZ underlying46 J (aQ (k:=0) J)) (ab J (aa (aC ?_))))))))
 refine bG (X:=Nat) (fun k=>k≤l.length∧∀i y,i<k→l[i]?=some y→p y=false) (fun k=> [(0,sv v),(1,.func (.func n) #[] #[]),(7,I6 (l.length:Int)),(8,I6 (k:Int))]) (fun k=> []) (fun k=> [(0,sl 1 eS (sv v) l)]) (fun k=>l.length-k) 0 ⟨bB _,fun i y hi=>by omega⟩ J J J (fun k hk0=> ?_);obtain⟨n1,n2⟩:=hk0;refine ak (ap J J cL (aa (aW (ah J (fun h1=> ?_) (fun h1=> ?_)))))
 ·(try simp only [aY]at h1);have hk:k<l.length:=by omega
  obtain⟨x,hx⟩:∃x,l[k]?=some x:=⟨_,bV hk⟩
  refine az (aW (aC (ak (ab J (am J (av J (ab J (ab J (ab J (aH (aR (j:=k) underlying46 t9 J J (aQ (k:=0) J) (by first|rfl|omega) (by first|omega|(simp;done)|(simp;omega))) (aH (ag t9 J J (ci (aQ (k:=0) J) (by intro _;rfl) hx (by rfl))) (ae (xs:= [.tmp 15]) (hs x (cO hx)) hcb [] [] [] (fun _ _=>aa (ah J (fun h2=> ?_) (fun h2=> ?_)))))))))))))))
  ·have hq:p x=true:=h2;refine ak (ab J (am J (aa (ar (aG () O J (bR (aD J)) (by rw [pg hx hq n2]) [] [] J J J)))))
  ·have hq:p x=false:=h2;refine az (aj (ap J J a_ (ab J (aa ?_))));refine aI (k+1) ⟨⟨by omega,fun i y hi hy=>by rcases Nat.lt_succ_iff_lt_or_eq.1 hi with h|h;exact n2 i y h hy;rw [h,hx]at hy;rw [←dr hy];exact hq⟩,by omega⟩ J J J
 ·(try simp only [aY]at h1);have hk:k=l.length:=by omega
  subst hk;refine bK (ak (am J (aa (ar (aG () O J (bR (aD J)) (by rw [pe n2]) [] [] J J J)))))
theorem wO(v:SV)(l:List Ba)(hl:l.length≤1000000)(s:Ba):
  aO prog 184 [sv v,Sg s] [] [sl 1 eS (sv v) l] (I6 (vC (fun x=>decide (s=x)) l)) []:=by
 refine au func184 J ntmps184 J fun w0 M H=>ak (am J (aa (aS (ab J (aH (aZ underlying46 J (aQ (k:=0) J)) (ab J (aa (aC ?_))))))))
 refine bG (X:=Nat) (fun k=>k≤l.length∧∀i y,i<k→l[i]?=some y→(fun x=>decide (s=x)) y=false) (fun k=> [(0,sv v),(1,Sg s),(7,I6 (l.length:Int)),(8,I6 (k:Int))]) (fun k=> []) (fun k=> [(0,sl 1 eS (sv v) l)]) (fun k=>l.length-k) 0 ⟨bB _,fun i y hi=>by omega⟩ J J J (fun k hk0=> ?_);obtain⟨n1,n2⟩:=hk0;refine ak (ap J J cL (aa (aW (ah J (fun h1=> ?_) (fun h1=> ?_)))))
 ·(try simp only [aY]at h1);have hk:k<l.length:=by omega
  obtain⟨x,hx⟩:∃x,l[k]?=some x:=⟨_,bV hk⟩
  refine az (aW (aC (ak (ab J (am J (av J (ab J (ab J (ab J (aH (aR (j:=k) underlying46 t9 J J (aQ (k:=0) J) (by first|rfl|omega) (by first|omega|(simp;done)|(simp;omega))) (aH (ag t9 J J (ci (aQ (k:=0) J) (by intro _;rfl) hx (by rfl))) (ap J J eM (aa (ah J (fun h2=> ?_) (fun h2=> ?_)))))))))))))))
  ·have hq:decide (s=x)=true:=by rw [←gk];exact h2
   refine ak (ab J (am J (aa (ar (aG () O J (bR (aD J)) (by rw [pg hx hq n2]) [] [] J J J)))))
  ·have hq:decide (s=x)=false:=by rw [←gk];exact h2
   refine az (aj (ap J J a_ (ab J (aa ?_))));refine aI (k+1) ⟨⟨by omega,fun i y hi hy=>by rcases Nat.lt_succ_iff_lt_or_eq.1 hi with h|h;exact n2 i y h hy;rw [h,hx]at hy;rw [←dr hy];exact hq⟩,by omega⟩ J J J
 ·(try simp only [aY]at h1);have hk:k=l.length:=by omega
  subst hk;refine bK (ak (am J (aa (ar (aG () O J (bR (aD J)) (by rw [pe n2]) [] [] J J J)))))
def cU(s:Ba)(l:List Ba):Bool:=l.any fun x=>decide (s=x)
theorem Hw{l:List Ba}{s:Ba}:decide (vC (fun x=>decide (s=x)) l≥0)=cU s l:=by
 unfold vC cU;cases h:l.findIdx? (fun x=>decide (s=x))with
 | none=>
  rw [List.findIdx?_eq_none_iff]at h;have:(l.any fun x=>decide (s=x))=false:=List.any_eq_false.2 fun x hx=>by rw [h x hx];simp
  rw [this];rfl
 | some i=>
  rw [List.findIdx?_eq_some_iff_getElem]at h;obtain⟨h1,h2,_⟩:=h;have:(l.any fun x=>decide (s=x))=true:=List.any_eq_true.2 ⟨_,List.getElem_mem h1,h2⟩;rw [this];exact decide_eq_true (Int.natCast_nonneg i)
theorem gt(v:SV)(l:List Ba)(hl:l.length≤1000000)(s:Ba):
  aO prog 155 [sv v,Sg s] [] [sl 1 eS (sv v) l] (.bool (cU s l)) []:=by
 refine au func155 J ntmps155 J fun w0 M H=>ak (am J (av J (ab J (ab J (ae (xs:= [.tmp 5,.tmp 6]) (wO v l hl s) KQ [] [(false,0)] [] (fun _ _=>ap J J eY (am J (aa (ar (aG () O J (bR (aD J)) (congrArg Value.bool Hw) [] [] J J J))))))))))
def vB:List Ba:= [(⟨#[101,108,115,101]⟩:Ba),(⟨#[102,110]⟩:Ba),(⟨#[105,102]⟩:Ba),(⟨#[105,110]⟩:Ba),(⟨#[109,101,109]⟩:Ba),(⟨#[111,117,116]⟩:Ba),(⟨#[114,101,116,117,114,110]⟩:Ba),(⟨#[118,97,114]⟩:Ba),(⟨#[119,104,105,108,101]⟩:Ba)]
def qI(c:Int):Bool:=decide (c≥97)&&decide (c≤122)
def mA(c:Int):Bool:=decide (c≥48)&&decide (c≤57)
theorem qK:
  Spec prog 156 [] [] [] (X:=SV) (fun _=>True) (fun u=>sv u) (fun u=> [own 9 1 eS (sv u) vB]) (fun _=> []):=by
 refine au func156 J ntmps156 J fun w0 M H=>ak (am J (av J (dB eS vB (parts:= [(0,.const (Sg (ByteArray.mk #[101,108,115,101]))),(1,.const (Sg (ByteArray.mk #[102,110]))),(2,.const (Sg (ByteArray.mk #[105,102]))),(3,.const (Sg (ByteArray.mk #[105,110]))),(4,.const (Sg (ByteArray.mk #[109,101,109]))),(5,.const (Sg (ByteArray.mk #[111,117,116]))),(6,.const (Sg (ByteArray.mk #[114,101,116,117,114,110]))),(7,.const (Sg (ByteArray.mk #[118,97,114]))),(8,.const (Sg (ByteArray.mk #[119,104,105,108,101])))]) underlying46 t9 J (by decide) (by intro _;rfl) J (by decide) (by decide) J J J J fun v1=>am J (aa (ar (aG v1 O J (bR (aD J)) J [1] [] J J J))))))
theorem nt(c:Int):
  aO prog 157 [.int .i32 c] [] [] (.bool (qI c)) []:=by
 refine au func157 J ntmps157 J fun w0 M H=>ak (am J (av J (ab J (ap J J eY (ab J (aF [] J J O (fun hg1=>aX J) J (aF [(6,_)] J J ⟨J,O⟩ (fun hg2=>aU J J jz) J (aH (bw J J J) (am J (aa (ar (aG () O J (bR (aD J)) J [] [] J J J))))))))))))
theorem xk(c:Int):
  aO prog 160 [.int .i32 c] [] [] (.bool (mA c)) []:=by
 refine au func160 J ntmps160 J fun w0 M H=>ak (am J (av J (ab J (ap J J eY (ab J (aF [] J J O (fun hg1=>aX J) J (aF [(6,_)] J J ⟨J,O⟩ (fun hg2=>aU J J jz) J (aH (bw J J J) (am J (aa (ar (aG () O J (bR (aD J)) J [] [] J J J))))))))))))
theorem uy(c:Int):
  aO prog 159 [.int .i32 c] [] [] (.bool (qI c || mA c)) []:=by
 refine au func159 J ntmps159 J fun w0 M H=>ak (am J (av J (ab J (ae (xs:= [.tmp 3]) (nt c) Gf [] [] [] (fun _ _=>ab J (d7 (t:=5) J (fun h1=> ?_) (fun h1=> ?_)))))))
 ·(try simp only [aY]at h1);have hq:qI c=true:=h1;refine bJ J J J J (bJ J J J J (aH (bw J J J) (am J (aa (ar (aG () O J (bR (aD J)) (by first|(rw [hq];done)|(rw [hq];rfl)|(rw [hq];simp)) [] [] J J J))))))
 ·(try simp only [aY]at h1);have hq:qI c=false:=by simpa using h1
  refine aK J J (ab J (aK J J (ae (xs:= [.tmp 6]) (xk c) K1 [] [] [] (fun _ _=>aH (bw J J J) (am J (aa (ar (aG () O J (bR (aD J)) (by first|(rw [hq];done)|(rw [hq];rfl)|(rw [hq];simp)) [] [] J J J))))))))
def y_(s:Ba):Int:=((s.data.toList.headD 0).toNat:Int)
def Az(p:Int→Bool)(s:Ba):Bool:=s.data.toList.all fun b=>p (b.toNat:Int)
def dz(s:Ba):Bool:=decide (s.size≠0)&&decide (s.size≤12)&& !cU s vB&&qI (y_ s)&&Az (fun c=>qI c || mA c) s
def Iv(s:Ba):Prop:=∀(i:Nat)(h:i<s.size),(s[i]'h).toNat<128
def FI(s:Ba):Prop:=Iv s∧s.size≤1000000
def cG:Ba:=⟨#[]⟩
def dV:Ba:=⟨#[109,97,105,110]⟩
def AB:List Ba:= [ef,sN,uf]
def lvL:List (Ba×Int):= [(kM,7),(jx,7),(fL,7),(ef,6),(e_,6),(fW,5),(fK,5),(mU,4),(lN,4),(lM,4),(kN,4),(lL,3),(lO,3),(eq,2),(ey,1),(iQ,0)]
def iZ(s:Ba):Bool:=(lvL.find? fun p=>decide (p.1=s)).isSome
def rq(k:Int)(nm:Ba)(n:Nat):Bool:=
 if k=1∨k=5 then decide (nm=cG)&&decide (n=0)else if k=2 then dz nm&&decide (n=0)else if k=3 then dz nm else
 if k=4 then decide (nm=cG)&&decide (n=1)else if k=6 then cU nm AB&&decide (n=1)else if k=7 then iZ nm&&decide (n=2)else false
mutual
def rX:Tx→Bool
 | .mk k n nm _ kids=>rq k nm kids.length&&(decide (k=1) || decide (n=0))&&nW kids
def nW:List Tx→Bool
 | []=>true
 | t::r=>rX t&&nW r
end
def FE(k:Int)(nm:Ba)(ne nb nl:Nat):Bool:=
 decide (k≥1)&&decide (k≤8)&&decide (ne=if k=3 then 2 else 1)&&(if k=1∨k=2 then dz nm else decide (nm=cG))&&(decide (k=4) || decide (k=5) || decide (nb=0))&&(decide (k=4) || decide (nl=0))
mutual
def rY:Ty→Bool
 | .mk k nm _ es _ body _ els=>FE k nm es.length body.length els.length&&nW es&&kU body&&kU els
def kU:List Ty→Bool
 | []=>true
 | t::r=>rY t&&kU r
end
def rF(f:Tf):Bool:=f.ps.all dz&&dz f.name&&kU f.body
def rP(fs:List Tf):Bool:=fs.all rF
mutual
def nX:Tx→Nat
 | .mk _ _ _ _ kids=>fM kids+1
def fM:List Tx→Nat
 | []=>0
 | t::r=>nX t+fM r
end
mutual
def dX:Tx→Nat
 | .mk _ _ _ _ kids=>gJ kids+1
def gJ:List Tx→Nat
 | []=>0
 | t::r=>max (dX t) (gJ r)
end
mutual
def nY:Ty→Nat
 | .mk _ _ _ es _ body _ els=>1+fM es+d9 body+d9 els
def d9:List Ty→Nat
 | []=>0
 | t::r=>nY t+d9 r
end
mutual
def vY:Ty→Nat
 | .mk k _ _ _ _ body _ els=>(if k=1 then 1 else 0)+dA body+dA els
def dA:List Ty→Nat
 | []=>0
 | t::r=>vY t+dA r
end
mutual
def Ds:Nat→Ty→Bool
 | d,.mk _ _ _ es _ body _ els=>decide (d>8) || decide (gJ es>8) || db (d+1) body || db (d+1) els
def db:Nat→List Ty→Bool
 | _,[]=>false
 | d,t::r=>Ds d t || db d r
end
def fst(a b:Int):Int:=if a=0 then b else a
theorem fp(a b c:Int):fst (fst a b) c=fst a (fst b c):=by
 unfold fst;split
 ·rfl
 ·rfl
theorem dD(a:Int):fst a 0=a:=by
 unfold fst;split
 ·rename_i h;exact h.symm
 ·rfl
theorem be{a b:Int}:fst a b=0↔a=0∧b=0:=by
 unfold fst;split
 ·rename_i h;simp [h]
 ·rename_i h;simp [h]
def xc(fs:List Tf)(x:Ba):Int:=vC (fun f=>decide (f.name=x)) fs
mutual
def eX(fs:List Tf)(ns:List Ba):Tx→Int
 | .mk k _ nm _ kids=>fst (if k=2 then(if cU nm ns=true then 0 else 21)else if k=3 then(match cK fs nm with
   | none=>21
   | some f=>if f.ps.length=kids.length then 0 else 23)else 0) (ju fs ns kids)
def ju(fs:List Tf)(ns:List Ba):List Tx→Int
 | []=>0
 | t::r=>fst (eX fs ns t) (ju fs ns r)
end
mutual
def bY(fs:List Tf):List Ba→Ty→List Ba×Int
 | ns,.mk k nm _ es _ body _ els=>
  let n1:=if k=1 then ns++ [nm]else ns
  let p1:=dx fs n1 body
  let p2:=dx fs p1.1 els
  (p2.1,fst (if k=2 then(if cU nm ns=true then 0 else 21)else 0) (fst (ju fs ns es) (fst (if k=1 then(if cU nm ns=true then 22 else 0)else 0) (fst p1.2 p2.2))))
def dx(fs:List Tf):List Ba→List Ty→List Ba×Int
 | ns,[]=>(ns,0)
 | ns,t::r=>let p:=bY fs ns t;let q:=dx fs p.1 r;(q.1,fst p.2 q.2)
end
def tB:List Ba→List Ba→Int
 | _,[]=>0
 | ns,x::r=>fst (if cU x ns=true then 22 else 0) (tB (ns++ [x]) r)
def lD(fs:List Tf)(f:Tf):Int:=
 fst (if f.ps.length>4∨f.ps.length+dA f.body>12∨d9 f.body>400∨db 1 f.body=true then 2 else 0) (fst (tB [] f.ps) (dx fs f.ps f.body).2)
def gh(fs:List Tf):List Tf→Int
 | []=>0
 | f::r=>fst (lD fs f) (gh fs r)
def once(fs:List Tf):Bool:=(List.range fs.length).all fun i=>decide (xc fs (fs.getD i ⟨cG,bQ,[],bQ,[]⟩).name=(i:Int))
def jn(fs:List Tf):Int:=
 if rP fs=false then 1 else if fs.length>16 then 2 else if once fs=false then 22 else match cK fs dV with
  | none=>21
  | some f=>if f.ps.length>0 then 23 else gh fs fs
mutual
def GX:Tx→Prop
 | .mk k n nm _ kids=>oW n∧FI nm∧kids.length≤1000000∧GXs kids
def GXs:List Tx→Prop
 | []=>True
 | t::r=>GX t∧GXs r
end
mutual
def GY:Ty→Prop
 | .mk k nm _ es _ body _ els=>FI nm∧(es.length≤1000000∧GXs es)∧(body.length≤1000000∧GYs body)∧(els.length≤1000000∧GYs els)
def GYs:List Ty→Prop
 | []=>True
 | t::r=>GY t∧GYs r
end
def GF(f:Tf):Prop:=FI f.name∧(∀s∈f.ps,FI s)∧f.ps.length≤1000000∧f.body.length≤1000000∧GYs f.body∧f.ps.length+d9 f.body≤1000000
def GP(fs:List Tf):Prop:=fs.length≤1000000∧∀f∈fs,GF f
theorem GXs.mem:∀{l:List Tx},GXs l→∀t∈l,GX t
 | [],_,_,h=>by simp at h
 | t::r,h,u,hu=>by
  rcases List.mem_cons.1 hu with rfl|hu
  ·exact h.1
  ·exact GXs.mem h.2 u hu
theorem GYs.mem:∀{l:List Ty},GYs l→∀t∈l,GY t
 | [],_,_,h=>by simp at h
 | t::r,h,u,hu=>by
  rcases List.mem_cons.1 hu with rfl|hu
  ·exact h.1
  ·exact GYs.mem h.2 u hu
theorem ot{t:Tx}(h:GX t):GXs t.kids:=by cases t;exact h.2.2.2
theorem tx{t:Tx}(h:GX t):t.kids.length≤1000000:=by cases t;exact h.2.2.1
theorem Fi{t:Tx}(h:GX t):FI t.name:=by cases t;exact h.2.1
theorem Fh{t:Ty}(h:GY t):FI t.name:=by cases t;exact h.1
theorem vu{t:Ty}(h:GY t):t.es.length≤1000000∧GXs t.es:=by cases t;exact h.2.1
theorem gu{t:Ty}(h:GY t):t.body.length≤1000000∧GYs t.body:=by cases t;exact h.2.2.1
theorem iO{t:Ty}(h:GY t):t.els.length≤1000000∧GYs t.els:=by cases t;exact h.2.2.2
theorem sF:∀l,nW l=l.all rX
 | []=>rfl
 | t::r=>by rw [nW,sF r];rfl
theorem nV:∀l,kU l=l.all rY
 | []=>rfl
 | t::r=>by rw [kU,nV r];rfl
theorem xJ{t u:Tx}(h:u∈t.kids):SizeOf.sizeOf u<SizeOf.sizeOf t:=by
 cases t with
 | mk k n nm v kids=>
  have:=List.sizeOf_lt_of_mem h;simp only [Tx.kids]at this;simp only [Tx.mk.sizeOf_spec];omega
theorem Fv{t u:Ty}(h:u∈t.body∨u∈t.els):SizeOf.sizeOf u<SizeOf.sizeOf t:=by
 cases t with
 | mk k nm ve es vb body vl els=>
  simp only [Ty.mk.sizeOf_spec];rcases h with h|h
  ·have:=List.sizeOf_lt_of_mem h;simp only [Ty.body]at this;omega
  ·have:=List.sizeOf_lt_of_mem h;simp only [Ty.els]at this;omega
theorem hQ{fs:List Tf}{x:Ba}:(xc fs x<0↔cK fs x=none)∧(∀f,cK fs x=some f→∃i:Nat,xc fs x=(i:Int)∧fs[i]?=some f):=by
 unfold xc vC cK;cases h:fs.findIdx? (fun f=>decide (f.name=x))with
 | none=>
  rw [List.findIdx?_eq_none_iff]at h;have h2:fs.find? (fun f=>decide (f.name=x))=none:=List.find?_eq_none.2 fun f hf=>by rw [h f hf];simp
  rw [h2];simp
 | some i=>
  rw [List.findIdx?_eq_some_iff_getElem]at h;obtain⟨h1,h2,h3⟩:=h;have h4:fs.find? (fun f=>decide (f.name=x))=some fs[i]:=by
   rw [List.find?_eq_some_iff_getElem];refine⟨h2,i,h1,J,fun j hj=> ?_⟩;have:=h3 j hj;simpa using this
  rw [h4];refine⟨⟨fun h=>by simp at h;omega,fun h=>by simp at h⟩,fun f hf=>⟨i,J,?_⟩⟩;rw [←dr hf];exact bV h1
theorem n9{α:Type}{p:α→Bool}{l:List α}:decide (vC p l≥0)=l.any p:=by
 unfold vC;cases h:l.findIdx? p with
 | none=>
  rw [List.findIdx?_eq_none_iff]at h;have:l.any p=false:=List.any_eq_false.2 fun x hx=>by rw [h x hx];simp
  rw [this];rfl
 | some i=>
  rw [List.findIdx?_eq_some_iff_getElem]at h;obtain⟨h1,h2,_⟩:=h;have:l.any p=true:=List.any_eq_true.2 ⟨_,List.getElem_mem h1,h2⟩;rw [this];exact decide_eq_true (Int.natCast_nonneg i)
theorem uu(v:SV)(l:List Tf)(hl:l.length≤1000000)(n:Nat)(cap:List Value)(C:Asn)(p:Tf→Bool)(hcb:Cb prog n)(hs:∀x∈l,Spec prog n (II x::cap) [] [C] (X:=Unit) (fun _=>True) (fun _=> .bool (p x)) (fun _=> []) (fun _=> [])):
  aO prog 124 [sv v,.func (.func n) #[] cap.toArray] [] [sl 3 oq (sv v) l,C] (I6 (vC p l)) []:=by
 refine au func124 J ntmps124 J fun w0 M H=>ak (am J (aa (aS (ab J (aH (aZ underlying25 J (aQ (k:=0) J)) (ab J (aa (aC ?_))))))))
 refine bG (X:=Nat) (fun k=>k≤l.length∧∀i y,i<k→l[i]?=some y→p y=false) (fun k=> [(0,sv v),(1,.func (.func n) #[] cap.toArray),(7,I6 (l.length:Int)),(8,I6 (k:Int))]) (fun k=> []) (fun k=> [(0,sl 3 oq (sv v) l),(1,C)]) (fun k=>l.length-k) 0 ⟨bB _,fun i y hi=>by omega⟩ J J J (fun k hk0=> ?_);obtain⟨n1,n2⟩:=hk0;refine ak (ap J J cL (aa (aW (ah J (fun h1=> ?_) (fun h1=> ?_)))))
 ·(try simp only [aY]at h1);have hk:k<l.length:=by omega
  obtain⟨x,hx⟩:∃x,l[k]?=some x:=⟨_,bV hk⟩
  refine az (aW (aC (ak (ab J (am J (av J (ab J (ab J (ab J (aH (aR (j:=k) underlying25 mE J J (aQ (k:=0) J) (by first|rfl|omega) (by first|omega|(simp;done)|(simp;omega))) (aH (aM mE J J J (ci (aQ (k:=0) J) (by intro _;rfl) hx (by rfl))) (ae (xs:= [.tmp 15]) (hs x (cO hx)) hcb [] [(false,1)] [] (fun _ _=>aa (ah J (fun h2=> ?_) (fun h2=> ?_)))))))))))))))
  ·have hq:p x=true:=h2;refine ak (ab J (am J (aa (ar (aG () O J (bR (aD J)) (by rw [pg hx hq n2]) [] [] J J J)))))
  ·have hq:p x=false:=h2;refine az (aj (ap J J a_ (ab J (aa ?_))));refine aI (k+1) ⟨⟨by omega,fun i y hi hy=>by rcases Nat.lt_succ_iff_lt_or_eq.1 hi with h|h;exact n2 i y h hy;rw [h,hx]at hy;rw [←dr hy];exact hq⟩,by omega⟩ J J J
 ·(try simp only [aY]at h1);have hk:k=l.length:=by omega
  subst hk;refine bK (ak (am J (aa (ar (aG () O J (bR (aD J)) (by rw [pe n2]) [] [] J J J)))))
theorem Am(v:SV)(l:List Tf)(hl:l.length≤1000000)(n:Nat)(cap:List Value)(C:Asn)(p:Tf→Bool)(hcb:Cb prog n)(hs:∀x∈l,Spec prog n (II x::cap) [] [C] (X:=Unit) (fun _=>True) (fun _=> .bool (p x)) (fun _=> []) (fun _=> [])):
  aO prog 118 [sv v,.func (.func n) #[] cap.toArray] [] [sl 3 oq (sv v) l,C] (.bool (l.any p)) []:=by
 refine au func118 J ntmps118 J fun w0 M H=>ak (am J (av J (ab J (ab J (ae (xs:= [.tmp 5,.tmp 6]) (uu v l hl n cap C p hcb hs) Gm [] [(false,0),(false,1)] [] (fun _ _=>ap J J eY (am J (aa (ar (aG () O J (bR (aD J)) (congrArg Value.bool n9) [] [] J J J))))))))))
theorem BW(v:SV)(l:List Ty)(hl:l.length≤1000000)(n:Nat)(cap:List Value)(C:Asn)(p:Ty→Bool)(hcb:Cb prog n)(hs:∀x∈l,Spec prog n (yV x::cap) [] [C] (X:=Unit) (fun _=>True) (fun _=> .bool (p x)) (fun _=> []) (fun _=> [])):
  aO prog 185 [sv v,.func (.func n) #[] cap.toArray] [] [sl 5 iK (sv v) l,C] (I6 (vC p l)) []:=by
 refine au func185 J ntmps185 J fun w0 M H=>ak (am J (aa (aS (ab J (aH (aZ underlying62 J (aQ (k:=0) J)) (ab J (aa (aC ?_))))))))
 refine bG (X:=Nat) (fun k=>k≤l.length∧∀i y,i<k→l[i]?=some y→p y=false) (fun k=> [(0,sv v),(1,.func (.func n) #[] cap.toArray),(7,I6 (l.length:Int)),(8,I6 (k:Int))]) (fun k=> []) (fun k=> [(0,sl 5 iK (sv v) l),(1,C)]) (fun k=>l.length-k) 0 ⟨bB _,fun i y hi=>by omega⟩ J J J (fun k hk0=> ?_);obtain⟨n1,n2⟩:=hk0;refine ak (ap J J cL (aa (aW (ah J (fun h1=> ?_) (fun h1=> ?_)))))
 ·(try simp only [aY]at h1);have hk:k<l.length:=by omega
  obtain⟨x,hx⟩:∃x,l[k]?=some x:=⟨_,bV hk⟩
  refine az (aW (aC (ak (ab J (am J (av J (ab J (ab J (ab J (aH (aR (j:=k) underlying62 fB J J (aQ (k:=0) J) (by first|rfl|omega) (by first|omega|(simp;done)|(simp;omega))) (aH (aM fB J J J (ci (aQ (k:=0) J) (by intro _;rfl) hx (by rfl))) (ae (xs:= [.tmp 15]) (hs x (cO hx)) hcb [] [(false,1)] [] (fun _ _=>aa (ah J (fun h2=> ?_) (fun h2=> ?_)))))))))))))))
  ·have hq:p x=true:=h2;refine ak (ab J (am J (aa (ar (aG () O J (bR (aD J)) (by rw [pg hx hq n2]) [] [] J J J)))))
  ·have hq:p x=false:=h2;refine az (aj (ap J J a_ (ab J (aa ?_))));refine aI (k+1) ⟨⟨by omega,fun i y hi hy=>by rcases Nat.lt_succ_iff_lt_or_eq.1 hi with h|h;exact n2 i y h hy;rw [h,hx]at hy;rw [←dr hy];exact hq⟩,by omega⟩ J J J
 ·(try simp only [aY]at h1);have hk:k=l.length:=by omega
  subst hk;refine bK (ak (am J (aa (ar (aG () O J (bR (aD J)) (by rw [pe n2]) [] [] J J J)))))
theorem Ak(v:SV)(l:List Ty)(hl:l.length≤1000000)(n:Nat)(cap:List Value)(C:Asn)(p:Ty→Bool)(hcb:Cb prog n)(hs:∀x∈l,Spec prog n (yV x::cap) [] [C] (X:=Unit) (fun _=>True) (fun _=> .bool (p x)) (fun _=> []) (fun _=> [])):
  aO prog 161 [sv v,.func (.func n) #[] cap.toArray] [] [sl 5 iK (sv v) l,C] (.bool (l.any p)) []:=by
 refine au func161 J ntmps161 J fun w0 M H=>ak (am J (av J (ab J (ab J (ae (xs:= [.tmp 5,.tmp 6]) (BW v l hl n cap C p hcb hs) KP [] [(false,0),(false,1)] [] (fun _ _=>ap J J eY (am J (aa (ar (aG () O J (bR (aD J)) (congrArg Value.bool n9) [] [] J J J))))))))))
theorem BX(v:SV)(l:List Tx)(hl:l.length≤1000000)(n:Nat)(cap:List Value)(C:Asn)(p:Tx→Bool)(hcb:Cb prog n)(hs:∀x∈l,Spec prog n (xV x::cap) [] [C] (X:=Unit) (fun _=>True) (fun _=> .bool (p x)) (fun _=> []) (fun _=> [])):
  aO prog 200 [sv v,.func (.func n) #[] cap.toArray] [] [sl 4 gg (sv v) l,C] (I6 (vC p l)) []:=by
 refine au func200 J ntmps200 J fun w0 M H=>ak (am J (aa (aS (ab J (aH (aZ underlying59 J (aQ (k:=0) J)) (ab J (aa (aC ?_))))))))
 refine bG (X:=Nat) (fun k=>k≤l.length∧∀i y,i<k→l[i]?=some y→p y=false) (fun k=> [(0,sv v),(1,.func (.func n) #[] cap.toArray),(7,I6 (l.length:Int)),(8,I6 (k:Int))]) (fun k=> []) (fun k=> [(0,sl 4 gg (sv v) l),(1,C)]) (fun k=>l.length-k) 0 ⟨bB _,fun i y hi=>by omega⟩ J J J (fun k hk0=> ?_);obtain⟨n1,n2⟩:=hk0;refine ak (ap J J cL (aa (aW (ah J (fun h1=> ?_) (fun h1=> ?_)))))
 ·(try simp only [aY]at h1);have hk:k<l.length:=by omega
  obtain⟨x,hx⟩:∃x,l[k]?=some x:=⟨_,bV hk⟩
  refine az (aW (aC (ak (ab J (am J (av J (ab J (ab J (ab J (aH (aR (j:=k) underlying59 dn J J (aQ (k:=0) J) (by first|rfl|omega) (by first|omega|(simp;done)|(simp;omega))) (aH (aM dn J J J (ci (aQ (k:=0) J) (by intro _;rfl) hx (by rfl))) (ae (xs:= [.tmp 15]) (hs x (cO hx)) hcb [] [(false,1)] [] (fun _ _=>aa (ah J (fun h2=> ?_) (fun h2=> ?_)))))))))))))))
  ·have hq:p x=true:=h2;refine ak (ab J (am J (aa (ar (aG () O J (bR (aD J)) (by rw [pg hx hq n2]) [] [] J J J)))))
  ·have hq:p x=false:=h2;refine az (aj (ap J J a_ (ab J (aa ?_))));refine aI (k+1) ⟨⟨by omega,fun i y hi hy=>by rcases Nat.lt_succ_iff_lt_or_eq.1 hi with h|h;exact n2 i y h hy;rw [h,hx]at hy;rw [←dr hy];exact hq⟩,by omega⟩ J J J
 ·(try simp only [aY]at h1);have hk:k=l.length:=by omega
  subst hk;refine bK (ak (am J (aa (ar (aG () O J (bR (aD J)) (by rw [pe n2]) [] [] J J J)))))
theorem rT(v:SV)(l:List Tx)(hl:l.length≤1000000)(n:Nat)(cap:List Value)(C:Asn)(p:Tx→Bool)(hcb:Cb prog n)(hs:∀x∈l,Spec prog n (xV x::cap) [] [C] (X:=Unit) (fun _=>True) (fun _=> .bool (p x)) (fun _=> []) (fun _=> [])):
  aO prog 186 [sv v,.func (.func n) #[] cap.toArray] [] [sl 4 gg (sv v) l,C] (.bool (l.any p)) []:=by
 refine au func186 J ntmps186 J fun w0 M H=>ak (am J (av J (ab J (ab J (ae (xs:= [.tmp 5,.tmp 6]) (BX v l hl n cap C p hcb hs) KL [] [(false,0),(false,1)] [] (fun _ _=>ap J J eY (am J (aa (ar (aG () O J (bR (aD J)) (congrArg Value.bool n9) [] [] J J J))))))))))
theorem Al(v:SV)(l:List Ba)(hl:l.length≤1000000)(n:Nat)(p:Ba→Bool)(hcb:Cb prog n)(hs:∀s∈l,Spec prog n [Sg s] [] [] (X:=Unit) (fun _=>True) (fun _=> .bool (p s)) (fun _=> []) (fun _=> [])):
  aO prog 120 [sv v,.func (.func n) #[] #[]] [] [sl 1 eS (sv v) l] (.bool (l.any p)) []:=by
 refine au func120 J ntmps120 J fun w0 M H=>ak (am J (av J (ab J (ab J (ae (xs:= [.tmp 5,.tmp 6]) (BY v l hl n p hcb hs) K6 [] [(false,0)] [] (fun _ _=>ap J J eY (am J (aa (ar (aG () O J (bR (aD J)) (congrArg Value.bool n9) [] [] J J J))))))))))
theorem vk{p:Int→Bool}{s:Ba}:Az p s=true↔∀(i:Nat)(h:i<s.size),p (((s[i]'h).toNat:Nat):Int)=true:=by
 unfold Az;rw [List.all_eq_true];constructor
 ·intro h i hi;refine h (s[i]'hi) ?_;have:s[i]'hi=s.data.toList[i]'(by simpa using hi):=by simp [ByteArray.getElem_eq_getElem_data]
  rw [this];exact List.getElem_mem _
 ·intro h b hb;obtain⟨i,hi,rfl⟩:=List.mem_iff_getElem.1 hb;have hi':i<s.size:=by simpa using hi
  have:=h i hi';rw [show s[i]'hi'=s.data.toList[i]'hi by simp [ByteArray.getElem_eq_getElem_data]]at this;exact this
theorem Db{s:Ba}:s=cG↔s.size=0:=by
 constructor
 ·intro h;subst h;rfl
 ·intro h;obtain⟨⟨l⟩⟩:=s;cases l with
  | nil=>rfl
  | cons a r=>simp [ByteArray.size]at h
theorem pK{s:Ba}(h:0<s.size):IntKind.i32.wrap ((aN s).getD 0 0)=y_ s:=by
 unfold y_ aN;obtain⟨⟨l⟩⟩:=s;cases l with
 | nil=>simp [ByteArray.size]at h
 | cons a r=>
  have:=a.toNat_lt;simp only [List.map_cons,List.getD_cons_zero,List.headD_cons];exact AM (by omega) (by omega)
theorem ux(s:Ba):dz s=(!(s==⟨#[]⟩)&& !decide ((s.size:Int)>12)&& !cU s vB&&qI (y_ s)&&Az (fun c=>qI c || mA c) s):=by
 unfold dz
 congr 4
 ·rw [gk];have:=Db (s:=s);unfold cG at this;by_cases h:s.size=0
  ·rw [this.2 h];rfl
  ·have h2:¬s=⟨#[]⟩:=fun e=>h (this.1 e)
   simp [h,h2]
 ·by_cases h:s.size≤12
  ·have:¬(s.size:Int)>12:=by omega
   simp [h,this]
  ·have:(s.size:Int)>12:=by omega
   simp [h,this]
theorem ph{s:Ba}(h:((s==⟨#[]⟩)=true∨(s.size:Int)>12)∨cU s vB=true∨(0<s.size∧(false || !qI (IntKind.i32.wrap ((aN s).getD 0 0)))=true)):dz s=false:=by
 rw [ux];rcases h with(h|h)|h|⟨h0,h⟩
 ·rw [h];rfl
 ·rw [decide_eq_true h];simp
 ·rw [h];simp
 ·rw [pK h0,Bool.false_or,Bool.not_eq_true']at h;rw [h];simp
theorem z7{s:Ba}{k:Nat}(h1:(s==⟨#[]⟩)=false∧¬(s.size:Int)>12)(h2:True∧cU s vB=false)(h0:0<s.size)(h3:(false || !qI (IntKind.i32.wrap ((aN s).getD 0 0)))=false)(hk:decide ((k:Int)=(s.size:Int))=Az (fun c=>qI c || mA c) s):decide ((k:Int)=(s.size:Int))=dz s:=by
 rw [ux,h1.1,decide_eq_false h1.2,h2.2,hk];rw [pK h0,Bool.false_or,Bool.not_eq_false']at h3;rw [h3];simp
theorem zw(s:Ba)(n:Nat)(p:Int→Bool)(has:Iv s)(hcb:Cb prog n)(hz:s.size≤1000000)(hs:∀c:Int,Spec prog n [.int .i32 c] [] [] (X:=Unit) (fun _=>True) (fun _=> .bool (p c)) (fun _=> []) (fun _=> [])):
  Spec prog 158 [Sg s,.func (.func n) #[] #[]] [] [] (X:=Nat) (fun k=>decide ((k:Int)=(s.size:Int))=Az p s) (fun k=>I6 (k:Int)) (fun _=> []) (fun _=> []):=by
 refine au func158 J ntmps158 J fun w0 M H=>ak (am J (aa (aS (ab J (Bl underlying9 J J fun i8=>aa (aC ?_))))))
 refine bG (X:=Nat) (fun x=>x≤s.size∧∀j(h:j<s.size),j<x→p (((s[j]'h).toNat:Nat):Int)=true) (fun x=> [(0,Sg s),(1,.func (.func n) #[] #[]),(8,Pt i8)]) (fun x=> [(8,Jk i8 s x)]) (fun x=> []) (fun x=>s.size-x) 0 ⟨bB _,fun j h hj=>by omega⟩ J J J (fun x hx0=> ?_);obtain⟨n1,n2⟩:=hx0;refine ak (D6 (k:=8) J J (fun h=>has x h) J (fun hover=> ?_) (fun hmore=> ?_))
 ·have hx:x=s.size:=by omega
  subst hx;refine aH (cv J J) (aa (aW (ah J (fun h1=> ?_) (fun h1=> ?_))))
  ·exact absurd h1 (by simp)
  ·(try simp only [aY]at h1);refine bK (ak (ab J (aH (ck underlying9 J) (am J (aa (ar (aG s.size (by rw [decide_eq_true J];symm;exact vk.2 fun i h=>n2 i h h) J (bR (aD J)) J [] [] J J J)))))))
 ·have hxs:x<s.size:=hmore;refine aH (cv J J) (aa (aW (ah J (fun h2=> ?_) (fun h2=> ?_))))
  ·(try simp only [aY]at h2);refine az (aC (ak (aH (cv J J) (aH (cv J J) (am J (am J (av J (ab J (ab J (ch (xs:= [.tmp 14]) (hs _) hcb [] [] [] J J J (fun _ _=>aH (cZ J) (aa (ah J (fun h3=> ?_) (fun h3=> ?_))))))))))))))
   ·have hq:p (((s[x]'hxs).toNat:Nat):Int)=false:=by simpa using h3
    refine ak (ab J (am J (aa (ar ?_))));refine aG x (by rw [decide_eq_false (show ¬((x:Int)=(s.size:Int)) by omega)];symm;rw [Bool.eq_false_iff];intro h;have:=vk.1 h x hxs;rw [hq]at this;cases this) J (bR (aD J)) J [] [] J J J
   ·have hq:p (((s[x]'hxs).toNat:Nat):Int)=true:=by simpa using h3
    refine az ?_;refine aI (x+1) ⟨⟨by omega,fun j h hj=>by rcases Nat.lt_succ_iff_lt_or_eq.1 hj with h2|h2;exact n2 j h h2;subst h2;exact hq⟩,by omega⟩ J J J
  ·exact absurd h2 (by simp)
theorem il(s:Ba)(has:Iv s)(hz:s.size≤1000000):
  aO prog 122 [Sg s] [] [] (.bool (dz s)) []:=by
 refine au func122 J ntmps122 J fun w0 M H=>ak (am J (aa (aS (ab J (ap J J eM (ab J (aF [] J J O (fun hg1=>aX J) J (aF [(6,_)] J J ⟨J,O⟩ (fun hg2=>ck underlying9 J) J (aF [(6,_),(7,_)] J J ⟨J,J,O⟩ (fun hg3=>aU J J fU) J (aH (bw J J J) (ab J (d7 (t:=10) J (fun h4=> ?_) (fun h4=> ?_)))))))))))))
 ·(try simp only [aY]at h4);have q7:=h4;refine bJ J J J J (bJ J J J J (bJ J J J J (aH (bw J J J) (ab J (d7 (t:=15) J (fun h5=> ?_) (fun h5=> ?_))))))
  ·(try simp only [aY]at h5);have q12:=h5;refine bJ J J J J (bJ J J J J (bJ J J J J (bJ J J J J (bJ J J J J (aH (bw J J J) (aa (ah J (fun h6=> ?_) (fun h6=> ?_))))))))
   ·refine ak (am J (aa (ar (aG () O J (bR (aD J)) (congrArg Value.bool (ph (.inl q7)).symm) [] [] J J J))))
   ·exact absurd h6 (by simp)
  ·(try simp only [aY]at h5);have q12:=h5;exact absurd h5 (by simp)
 ·(try simp only [aY]at h4);have q7:=h4;have hs0:0<s.size:=Nat.pos_of_ne_zero fun e=>by have:=Db.2 e;subst this;exact absurd q7.1 (by decide)
  refine aK J J (ae (xs:= []) qK K5 [] [] [11] (fun v11 _=>cr 11 21 J bE (aK J J (ab J (aK J J (ae (xs:= [.tmp 11,.tmp 12]) (gt v11 vB (by decide) s) y7 [] [(false,21)] [] (fun _ _=>aH (bw J J J) (ab J (d7 (t:=15) J (fun h7=> ?_) (fun h7=> ?_))))))))))
  ·(try simp only [aY]at h7);have q12:=h7;refine bJ J J J J (bJ J J J J (bJ J J J J (bJ J J J J (bJ J J J J (aH (bw J J J) (aa (ah J (fun h8=> ?_) (fun h8=> ?_))))))))
   ·refine ak (am J (aa (ar (aG () O J (bR (aD J)) (congrArg Value.bool (ph (.inr (.inl (by rcases q12 with q|q;exact absurd q (by simp);exact q)))).symm) [] [] J J J))))
   ·exact absurd h8 (by simp)
  ·(try simp only [aY]at h7);have q12:=h7;refine aK J J (ab J (aK J J (aH (d6 (j:=0) underlying9 J J J hs0) (aK J J (aH (bX underlying5 underlying21 J (by first|exact AM (by omega) (by omega)|rfl)) (aK J J (ch (xs:= [.tmp 18]) (nt _) Gf [] [] [] J J J (fun _ _=>aK J J (aH (cZ J) (aH (bw J J J) (aa (ah J (fun h9=> ?_) (fun h9=> ?_)))))))))))))
   ·have q0:=h9;refine ak (am J (aa (ar (aG () O J (bR (aD J)) (congrArg Value.bool (ph (.inr (.inr ⟨hs0,q0⟩))).symm) [] [] J J J))))
   ·have q0:=h9;refine az (ak (ab J (ae (xs:= [.tmp 22,.func 159]) (zw s 159 (fun c=>qI c || mA c) has K3 hz (fun c=>uy c)) K4 [] [] [] (fun k hk=>ab J (aH (ck underlying9 J) (ap J J bc (am J (aa (ar (aG () O J (bR (aD J)) (congrArg Value.bool (z7 q7 q12 hs0 q0 hk)) [] [] J J J))))))))))
def vI(p:Ba×Int):Value:=I6 p.2
theorem FF{k:Int}{nm:Ba}{n:Nat}(h:k=1∨k=5):rq k nm n=((nm==⟨#[]⟩)&&decide ((n:Int)=0)):=by
 unfold rq;rw [ao h,gk]
 congr 1
 exact decide_eq_decide.2 (by omega)
theorem JN{k:Int}{nm:Ba}{n:Nat}(h:k=2):rq k nm n=(dz nm&&decide ((n:Int)=0)):=by
 subst h;show(dz nm&&decide (n=0))=_
 congr 1
 exact decide_eq_decide.2 (by omega)
theorem JM{k:Int}{nm:Ba}{n:Nat}(h:k=3):rq k nm n=dz nm:=by
 subst h;rfl
theorem JL{k:Int}{nm:Ba}{n:Nat}(h:k=4):rq k nm n=((nm==⟨#[]⟩)&&decide ((n:Int)=1)):=by
 subst h;show(decide (nm=cG)&&decide (n=1))=_;rw [gk]
 congr 1
 exact decide_eq_decide.2 (by omega)
theorem JK{k:Int}{nm:Ba}{n:Nat}(h:k=6):rq k nm n=(cU nm AB&&decide ((n:Int)=1)):=by
 subst h;show(cU nm AB&&decide (n=1))=_
 congr 1
 exact decide_eq_decide.2 (by omega)
theorem JJ{k:Int}{nm:Ba}{n:Nat}(h:k=7):rq k nm n=(iZ nm&&decide ((n:Int)=2)):=by
 subst h;show(iZ nm&&decide (n=2))=_
 congr 1
 exact decide_eq_decide.2 (by omega)
theorem JO{k:Int}{nm:Ba}{n:Nat}(h1:¬k=1)(h5:¬k=5)(h2:¬k=2)(h3:¬k=3)(h4:¬k=4)(h6:¬k=6)(h7:¬k=7):rq k nm n=false:=by
 unfold rq;rw [ac (fun h=>h.elim h1 h5),ac h2,ac h3,ac h4,ac h6,ac h7]
theorem fQ{α:Type}(p:α→Bool):∀l:List α,(!(l.any fun x=> !p x))=l.all p
 | []=>rfl
 | a::r=>by rw [List.any_cons,List.all_cons,←fQ p r];cases p a<;>simp
theorem Js(t:Tx):rX t=(rq t.kind t.name t.kids.length&&(decide (t.kind=1) || decide (t.n=0))&& !(t.kids.any fun u=> !rX u)):=by
 rw [fQ];cases t;rw [rX,sF];rfl
theorem uq:
  Spec prog 201 [] [] [] (X:=Nat) (fun _=>True) (fun b=> .map (some b)) (fun b=> [mp fE Prod.fst vI (some b) lvL]) (fun _=> []):=by
 refine au func201 J ntmps201 J fun w0 M H=>ak (am J (av J (ki (Prod.fst:Ba×Int→Ba) fE vI J fun b1=>bS (k:=1) (α:=Ba×Int) (kf:=Prod.fst) (vf:=vI) (iQ,0) [(iQ,0)] underlying105 ea J J J J (List.Perm.of_eq J) (bS (k:=1) (α:=Ba×Int) (kf:=Prod.fst) (vf:=vI) (ey,1) [(ey,1),(iQ,0)] underlying105 ea J J J J (List.Perm.of_eq J) (bS (k:=1) (α:=Ba×Int) (kf:=Prod.fst) (vf:=vI) (eq,2) [(eq,2),(ey,1),(iQ,0)] underlying105 ea J J J J (List.Perm.of_eq J) (bS (k:=1) (α:=Ba×Int) (kf:=Prod.fst) (vf:=vI) (lO,3) [(lO,3),(eq,2),(ey,1),(iQ,0)] underlying105 ea J J J J (List.Perm.of_eq J) (bS (k:=1) (α:=Ba×Int) (kf:=Prod.fst) (vf:=vI) (lL,3) [(lL,3),(lO,3),(eq,2),(ey,1),(iQ,0)] underlying105 ea J J J J (List.Perm.of_eq J) (bS (k:=1) (α:=Ba×Int) (kf:=Prod.fst) (vf:=vI) (kN,4) [(kN,4),(lL,3),(lO,3),(eq,2),(ey,1),(iQ,0)] underlying105 ea J J J J (List.Perm.of_eq J) (bS (k:=1) (α:=Ba×Int) (kf:=Prod.fst) (vf:=vI) (lM,4) [(lM,4),(kN,4),(lL,3),(lO,3),(eq,2),(ey,1),(iQ,0)] underlying105 ea J J J J (List.Perm.of_eq J) (bS (k:=1) (α:=Ba×Int) (kf:=Prod.fst) (vf:=vI) (lN,4) [(lN,4),(lM,4),(kN,4),(lL,3),(lO,3),(eq,2),(ey,1),(iQ,0)] underlying105 ea J J J J (List.Perm.of_eq J) (bS (k:=1) (α:=Ba×Int) (kf:=Prod.fst) (vf:=vI) (mU,4) [(mU,4),(lN,4),(lM,4),(kN,4),(lL,3),(lO,3),(eq,2),(ey,1),(iQ,0)] underlying105 ea J J J J (List.Perm.of_eq J) (bS (k:=1) (α:=Ba×Int) (kf:=Prod.fst) (vf:=vI) (fK,5) [(fK,5),(mU,4),(lN,4),(lM,4),(kN,4),(lL,3),(lO,3),(eq,2),(ey,1),(iQ,0)] underlying105 ea J J J J (List.Perm.of_eq J) (bS (k:=1) (α:=Ba×Int) (kf:=Prod.fst) (vf:=vI) (fW,5) [(fW,5),(fK,5),(mU,4),(lN,4),(lM,4),(kN,4),(lL,3),(lO,3),(eq,2),(ey,1),(iQ,0)] underlying105 ea J J J J (List.Perm.of_eq J) (bS (k:=1) (α:=Ba×Int) (kf:=Prod.fst) (vf:=vI) (e_,6) [(e_,6),(fW,5),(fK,5),(mU,4),(lN,4),(lM,4),(kN,4),(lL,3),(lO,3),(eq,2),(ey,1),(iQ,0)] underlying105 ea J J J J (List.Perm.of_eq J) ?_))))))))))))))
 refine bS (k:=1) (α:=Ba×Int) (kf:=Prod.fst) (vf:=vI) (ef,6) [(ef,6),(e_,6),(fW,5),(fK,5),(mU,4),(lN,4),(lM,4),(kN,4),(lL,3),(lO,3),(eq,2),(ey,1),(iQ,0)] underlying105 ea J J J J (List.Perm.of_eq J) (bS (k:=1) (α:=Ba×Int) (kf:=Prod.fst) (vf:=vI) (fL,7) [(fL,7),(ef,6),(e_,6),(fW,5),(fK,5),(mU,4),(lN,4),(lM,4),(kN,4),(lL,3),(lO,3),(eq,2),(ey,1),(iQ,0)] underlying105 ea J J J J (List.Perm.of_eq J) (bS (k:=1) (α:=Ba×Int) (kf:=Prod.fst) (vf:=vI) (jx,7) [(jx,7),(fL,7),(ef,6),(e_,6),(fW,5),(fK,5),(mU,4),(lN,4),(lM,4),(kN,4),(lL,3),(lO,3),(eq,2),(ey,1),(iQ,0)] underlying105 ea J J J J (List.Perm.of_eq J) (bS (k:=1) (α:=Ba×Int) (kf:=Prod.fst) (vf:=vI) (kM,7) [(kM,7),(jx,7),(fL,7),(ef,6),(e_,6),(fW,5),(fK,5),(mU,4),(lN,4),(lM,4),(kN,4),(lL,3),(lO,3),(eq,2),(ey,1),(iQ,0)] underlying105 ea J J J J (List.Perm.of_eq J) (ab J (am J (aa (ar (aG b1 O J (bR (aD J)) J [1] [] J J J))))))))
theorem Be(v:SV)(l:List Tx)(ih:∀u∈l,Spec prog 188 [xV u] [] [cx u.v u.kids] (X:=Unit) (fun _=>True) (fun _=> .bool (rX u)) (fun _=> []) (fun _=> []))(u:Tx)(hu:u∈l):
  aO prog 202 [xV u] [] [cx v l] (.bool (!rX u)) []:=by
 refine au func202 J ntmps202 J fun w0 M H=>bs 0 7 J (fh hu) (ak (cz J J fun b1=>am J (av J (aH (aM dn J J J (bi (k:=1) J)) (ae (xs:= [.tmp 3]) (ih u hu) F7 [] [(false,7)] [] (fun _ _=>aH (cZ J) (am J (aa (ar (aG () O J (bR (aD J)) J [] [] J J J))))))))))
theorem Bd(v:SV)(l:List Tx)(ih:∀u∈l,Spec prog 188 [xV u] [] [cx u.v u.kids] (X:=Unit) (fun _=>True) (fun _=> .bool (rX u)) (fun _=> []) (fun _=> []))(u:Tx)(hu:u∈l):
  aO prog 187 [xV u] [] [cx v l] (.bool (!rX u)) []:=by
 refine au func187 J ntmps187 J fun w0 M H=>bs 0 7 J (fh hu) (ak (cz J J fun b1=>am J (av J (aH (aM dn J J J (bi (k:=1) J)) (ae (xs:= [.tmp 3]) (ih u hu) F7 [] [(false,7)] [] (fun _ _=>aH (cZ J) (am J (aa (ar (aG () O J (bR (aD J)) J [] [] J J J))))))))))
theorem D1(t:Tx)(ht:GX t)(ih:∀u∈t.kids,Spec prog 188 [xV u] [] [cx u.v u.kids] (X:=Unit) (fun _=>True) (fun _=> .bool (rX u)) (fun _=> []) (fun _=> [])):
  aO prog 188 [xV t] [] [cx t.v t.kids] (.bool (rX t)) []:=by
 refine au func188 J ntmps188 J fun w0 M H=>bs 0 1 J jK ?_
 have hnm:=Fi ht;have hkl:=tx ht;refine ak (cz J J fun b1=>am J (av J (am J (aa (aW (sy [0,1,2,3,4,5,6,7,8] [0,1,2,3,4,5,7,6,8] [7,8,9,10,6,11,12,4,5] _ J J J (bn (V:= [(1,8,_),(2,9,_)]) [1,2] 0 [0] [3,4,5,6,7,8] (fun bm=> [(3,10,_),(4,6,_),(5,11,_),(6,12,_),(7,4,_),(8,5,_)]) J J (ad J (ai fe J) (ad J (ag t9 J J (aB (k:=1) J J)) ay)) J J J J J J J J J J J (fun _ _=>J) J (g9 (xs:= []) uq KK [] [] [60] [] J J J J J J J J (fun _ _=>J) (fun _ _ _=>J)) (fun bm _=>br [3,4,5,6,7,8,1,2] J J (ad J (l9 underlying105 ea t3 J J (B4 (k:=60) J) J) (aJ J J (ad J (cv J J) (ad J (cv J J) (ad J (dU J) (ad J (dU J) (ad J (ai fe J) (ad J (ag t9 J J (aB (k:=1) J J)) ay)))))))) J J J (bq (X:=Unit) (fun _=>True) (fun _=> [(1,Pt b1),(3,.bool (rq t.kind t.name t.kids.length))]) (fun _=> [(1,aP b1 61 (gg t))]) (fun _=> [(0,cx t.v t.kids),(1,sl 4 gg (sv t.v) t.kids)]) ?_ (fun _ _=> ?_))))))))))
 ·refine ak (ax m6 J (aL 1 t3 J J J J (aa (aC (aS (ap J J bc (am J (aa (ah J (fun h1=> ?_) (fun h1=> ?_))))))))))
  ·have q1:t.kind=1:=de h1;refine az (ah J (fun h2=> ?_) (fun h2=> ?_))
   ·(try simp only [aY]at h2);refine aj (ax fe J (aL 1 t9 J J J J (ap J J eM (ab J (aF [] J J O (fun hg3=>ai eT J) J (aF [(22,_)] J J ⟨J,O⟩ (fun hg4=>ag nQ J J (aB (k:=1) J J)) J (aF [(22,_),(23,_)] J J ⟨J,J,O⟩ (fun hg5=>aZ underlying59 J (aQ (k:=1) J)) J (aF [(22,_),(23,_),(24,_)] J J ⟨J,J,J,O⟩ (fun hg6=>aU J J bc) J (aH (bw J J J) (am J (aa (aI () O (by rw [FF (.inl q1)];rfl) J J))))))))))))
   ·exact absurd (decide_eq_true q1) (by rw [h2];simp)
  ·have q1:¬t.kind=1:=eW h1;refine aj (ap J J bc (am J (aa (ah J (fun h7=> ?_) (fun h7=> ?_)))))
   ·have q5:t.kind=5:=de h7;refine aj (ax fe J (aL 1 t9 J J J J (ap J J eM (ab J (aF [] J J O (fun hg8=>ai eT J) J (aF [(22,_)] J J ⟨J,O⟩ (fun hg9=>ag nQ J J (aB (k:=1) J J)) J (aF [(22,_),(23,_)] J J ⟨J,J,O⟩ (fun hg10=>aZ underlying59 J (aQ (k:=1) J)) J (aF [(22,_),(23,_),(24,_)] J J ⟨J,J,J,O⟩ (fun hg11=>aU J J bc) J (aH (bw J J J) (am J (aa (aI () O (by rw [FF (.inr q5)];rfl) J J))))))))))))
   ·have q5:¬t.kind=5:=eW h7;refine ak (ap J J bc (am J (aa (ah J (fun h12=> ?_) (fun h12=> ?_)))))
    ·have q2:t.kind=2:=de h12;refine aj (ax fe J (aL 1 t9 J J J J (ae (xs:= [.tmp 30]) (il t.name hnm.1 hnm.2) u5 [] [] [] (fun _ _=>ab J (aF [] J J O (fun hg13=>ai eT J) J (aF [(33,_)] J J ⟨J,O⟩ (fun hg14=>ag nQ J J (aB (k:=1) J J)) J (aF [(33,_),(34,_)] J J ⟨J,J,O⟩ (fun hg15=>aZ underlying59 J (aQ (k:=1) J)) J (aF [(33,_),(34,_),(35,_)] J J ⟨J,J,J,O⟩ (fun hg16=>aU J J bc) J (aH (bw J J J) (am J (aa (aI () O (by rw [JN q2];rfl) J J))))))))))))
    ·have q2:¬t.kind=2:=eW h12;refine ak (ap J J bc (am J (aa (ah J (fun h17=> ?_) (fun h17=> ?_)))))
     ·have q3:t.kind=3:=de h17;refine aj (ax fe J (aL 1 t9 J J J J (ae (xs:= [.tmp 41]) (il t.name hnm.1 hnm.2) u5 [] [] [] (fun _ _=>am J (aa (aI () O (by rw [JM q3];rfl) J J))))))
     ·have q3:¬t.kind=3:=eW h17;refine ak (ap J J bc (am J (aa (ah J (fun h18=> ?_) (fun h18=> ?_)))))
      ·have q4:t.kind=4:=de h18;refine aj (ax fe J (aL 1 t9 J J J J (ap J J eM (ab J (aF [] J J O (fun hg19=>ai eT J) J (aF [(49,_)] J J ⟨J,O⟩ (fun hg20=>ag nQ J J (aB (k:=1) J J)) J (aF [(49,_),(50,_)] J J ⟨J,J,O⟩ (fun hg21=>aZ underlying59 J (aQ (k:=1) J)) J (aF [(49,_),(50,_),(51,_)] J J ⟨J,J,J,O⟩ (fun hg22=>aU J J bc) J (aH (bw J J J) (am J (aa (aI () O (by rw [JL q4];rfl) J J))))))))))))
      ·have q4:¬t.kind=4:=eW h18;refine ak (ap J J bc (am J (aa (ah J (fun h23=> ?_) (fun h23=> ?_)))))
       ·have q6:t.kind=6:=de h23;refine aj (dB eS AB (parts:= [(0,.const (Sg (ByteArray.mk #[45]))),(1,.const (Sg (ByteArray.mk #[126]))),(2,.const (Sg (ByteArray.mk #[33])))]) underlying46 t9 J (by decide) (by intro _;rfl) J (by decide) (by decide) J J J J fun v56=>ax fe J (aL 1 t9 J J J J (cr 56 21 J bE (ae (xs:= [.tmp 56,.tmp 58]) (gt v56 AB (by decide) t.name) y7 [] [(false,21)] [] (fun _ _=>ab J (aF [] J J O (fun hg24=>ai eT J) J (aF [(61,_)] J J ⟨J,O⟩ (fun hg25=>ag nQ J J (aB (k:=1) J J)) J (aF [(61,_),(62,_)] J J ⟨J,J,O⟩ (fun hg26=>aZ underlying59 J (aQ (k:=1) J)) J (aF [(61,_),(62,_),(63,_)] J J ⟨J,J,J,O⟩ (fun hg27=>aU J J bc) J (aH (bw J J J) (am J (aa (aI () O (by rw [JK q6];rfl) J J)))))))))))))
       ·have q6:¬t.kind=6:=eW h23;refine ak (ap J J bc (am J (aa (ah J (fun h28=> ?_) (fun h28=> ?_)))))
        ·have q7:t.kind=7:=de h28;refine aj (ab J (ab J (aF [] J J O (fun hg29=>ai eT J) J (aF [(70,_)] J J ⟨J,O⟩ (fun hg30=>ag nQ J J (aB (k:=1) J J)) J (aF [(70,_),(71,_)] J J ⟨J,J,O⟩ (fun hg31=>aZ underlying59 J (aQ (k:=1) J)) J (aF [(70,_),(71,_),(72,_)] J J ⟨J,J,J,O⟩ (fun hg32=>aU J J bc) J (aH (bw J J J) (am J (aa (aI () O (by rw [JJ q7];rfl) J J))))))))))
        ·have q7:¬t.kind=7:=eW h28;refine az (aI () O (by rw [JO q1 q5 q2 q3 q4 q6 q7];rfl) J J)
 ·refine ak (ab J (ab J (aF [] J J O (fun hg33=>ai m6 J) J (aF [(77,_)] J J ⟨J,O⟩ (fun hg34=>ag t3 J J (aB (k:=1) J J)) J (aF [(77,_),(78,_)] J J ⟨J,J,O⟩ (fun hg35=>aU J J bc) J (aF [(77,_),(78,_),(79,_)] J J ⟨J,J,J,O⟩ (fun hg36=>aX J) J (c_ [] [(77,_),(78,_),(79,_),(80,_)] J J O ⟨J,J,J,J,O⟩ (fun hg37 hg37'=>ai Cu J) J (c_ [(81,_)] [(77,_),(78,_),(79,_),(80,_)] J J ⟨J,O⟩ ⟨J,J,J,J,O⟩ (fun hg38 hg38'=>ag dt J J (aB (k:=1) J J)) J (c_ [(81,_),(82,_)] [(77,_),(78,_),(79,_),(80,_)] J J ⟨J,J,O⟩ ⟨J,J,J,J,O⟩ (fun hg39 hg39'=>aU J J bc) J (aF [(77,_),(78,_),(79,_),(80,_)] J J ⟨J,J,J,J,O⟩ (fun hg40=>cq J J J (by first|exact dR|exact eE|exact dj hg40|exact dQ hg40|rfl)) J (aH (bw J J J) (ab J (aF [] J J O (fun hg41=>ai eT J) J (aF [(87,_)] J J ⟨J,O⟩ (fun hg42=>ag nQ J J (aB (k:=1) J J)) J (iW [(87,_),(88,_)] J J ⟨J,J,O⟩ (fun hg43=>g9 (xs:= [.tmp 88,.func 202]) (rT t.v t.kids hkl 202 [] (cx t.v t.kids) (fun u=> !rX u) KJ (fun u hu=>Be t.v t.kids ih u hu)) F8 [] [(false,1),(false,0)] [] [] J J J J J J J J (fun _ _=>J) (fun _ _ _=>J)) J (aF [(87,_),(88,_),(89,_)] J J ⟨J,J,J,O⟩ (fun hg44=>cZ J) J (aH (bw J J J) (am J ?_))))))))))))))))));refine aa (ar (aG () O J (bR (aD J)) (congrArg Value.bool (Js t).symm) [] [] J J J))
theorem Bc:∀(n:Nat)(t:Tx),SizeOf.sizeOf t<n→GX t→aO prog 188 [xV t] [] [cx t.v t.kids] (.bool (rX t)) []
 | 0,_,h,_=>absurd h (Nat.not_lt_zero _)
 | n+1,t,h,ht=>D1 t ht fun u hu=>Bc n u (by have:=xJ hu;omega) ((ot ht).mem u hu)
theorem D2(t:Tx)(ht:GX t):aO prog 188 [xV t] [] [cx t.v t.kids] (.bool (rX t)) []:=Bc _ t (Nat.lt_succ_self _) ht
theorem Jr(t:Ty):rY t=(decide (t.kind≥1)&&decide (t.kind≤8)&&decide ((t.es.length:Int)=if t.kind=3 then 2 else 1)&&((decide (t.kind=1) || decide (t.kind=2))&&dz t.name || !(decide (t.kind=1) || decide (t.kind=2))&&(t.name==⟨#[]⟩))&&
   (decide ((if t.kind=4 then 2 else if t.kind=5 then 1 else 0:Int)>0) || decide ((t.body.length:Int)=0))&&(decide ((if t.kind=4 then 2 else if t.kind=5 then 1 else 0:Int)>1) || decide ((t.els.length:Int)=0))&& !(t.es.any fun u=> !rX u)&&t.body.all rY&&t.els.all rY):=by
 rw [fQ];have e1:decide ((t.es.length:Int)=if t.kind=3 then 2 else 1)=decide (t.es.length=if t.kind=3 then 2 else 1):=decide_eq_decide.2 (by split<;>omega);have e2:((decide (t.kind=1) || decide (t.kind=2))&&dz t.name || !(decide (t.kind=1) || decide (t.kind=2))&&(t.name==⟨#[]⟩))=(if t.kind=1∨t.kind=2 then dz t.name else decide (t.name=cG)):=by
  rw [gk];by_cases h:t.kind=1∨t.kind=2
  ·rw [ao h];have:(decide (t.kind=1) || decide (t.kind=2))=true:=by simpa using h
   rw [this];simp
  ·rw [ac h];have:(decide (t.kind=1) || decide (t.kind=2))=false:=by simpa using h
   rw [this];simp only [Bool.false_and,Bool.not_false,Bool.true_and,Bool.false_or];rfl
 have e3:(decide ((if t.kind=4 then 2 else if t.kind=5 then 1 else 0:Int)>0) || decide ((t.body.length:Int)=0))=(decide (t.kind=4) || decide (t.kind=5) || decide (t.body.length=0)):=by
  rw [show decide ((t.body.length:Int)=0)=decide (t.body.length=0)from decide_eq_decide.2 (by omega)]
  congr 1
  by_cases h4:t.kind=4
  ·simp [h4]
  ·by_cases h5:t.kind=5
   ·simp [h5]
   ·simp [h4,h5]
 have e4:(decide ((if t.kind=4 then 2 else if t.kind=5 then 1 else 0:Int)>1) || decide ((t.els.length:Int)=0))=(decide (t.kind=4) || decide (t.els.length=0)):=by
  rw [show decide ((t.els.length:Int)=0)=decide (t.els.length=0)from decide_eq_decide.2 (by omega)]
  congr 1
  by_cases h4:t.kind=4
  ·simp [h4]
  ·by_cases h5:t.kind=5
   ·simp [h5]
   ·simp [h4,h5]
 rw [e1,e2,e3,e4];cases t;rw [rY,sF,nV,nV];rfl
theorem Jt(f:Tf):(f.ps.any (fun s=> !dz s) || !dz f.name || !(f.body.all rY))= !rF f:=by
 unfold rF;rw [nV,←fQ dz f.ps];cases f.ps.any (fun s=> !dz s)<;>cases dz f.name<;>cases f.body.all rY<;>rfl
theorem DO{v:SV}{l:List Tf}:∀w G,(fA v l).pred w G→(∀b,G b→b<w.heap.size)→∃G',(E5 l).pred w G'∧∀b,G' b→G b:=fun w G h _=>⟨G,h.2,fun _ hb=>hb⟩
theorem Bb(v:SV)(l:List Ty)(ih:∀u∈l,Spec prog 163 [yV u] [] [cx u.ve u.es,cm u.vb u.body,cm u.vl u.els] (X:=Unit) (fun _=>True) (fun _=> .bool (rY u)) (fun _=> []) (fun _=> []))(u:Ty)(hu:u∈l):
  aO prog 162 [yV u] [] [cm v l] (.bool (!rY u)) []:=by
 refine au func162 J ntmps162 J fun w0 M H=>bs 0 7 J (sa hu) (bs 0 8 J (jJ hu) (bs 0 9 J (lU hu) (ak (cz J J fun b1=>am J (av J (aH (aM fB J J J (bi (k:=1) J)) (ae (xs:= [.tmp 3]) (ih u hu) KY [] [(false,7),(false,8),(false,9)] [] (fun _ _=>aH (cZ J) (am J (aa (ar (aG () O J (bR (aD J)) J [] [] J J J))))))))))))
theorem mO(v:SV)(l:List Ty)(hl:l.length≤1000000)(ih:∀u∈l,Spec prog 163 [yV u] [] [cx u.ve u.es,cm u.vb u.body,cm u.vl u.els] (X:=Unit) (fun _=>True) (fun _=> .bool (rY u)) (fun _=> []) (fun _=> [])):
  aO prog 123 [sv v] [] [cm v l] (.bool (l.all rY)) []:=by
 refine au func123 J ntmps123 J fun w0 M H=>bs 0 1 J jI (ak (am J (av J (ab J (ae (xs:= [.tmp 3,.func 162]) (Ak v l hl 162 [] (cm v l) (fun u=> !rY u) KZ (fun u hu=>Bb v l ih u hu)) K0 [] [(false,1),(false,0)] [] (fun _ _=>aH (cZ J) (am J (aa (ar (aG () O J (bR (aD J)) (congrArg Value.bool (fQ rY l)) [] [] J J J))))))))))
theorem DZ(t:Ty)(ht:GY t)(ihb:∀u∈t.body,Spec prog 163 [yV u] [] [cx u.ve u.es,cm u.vb u.body,cm u.vl u.els] (X:=Unit) (fun _=>True) (fun _=> .bool (rY u)) (fun _=> []) (fun _=> []))(ihl:∀u∈t.els,Spec prog 163 [yV u] [] [cx u.ve u.es,cm u.vb u.body,cm u.vl u.els] (X:=Unit) (fun _=>True) (fun _=> .bool (rY u)) (fun _=> []) (fun _=> [])):
  aO prog 163 [yV t] [] [cx t.ve t.es,cm t.vb t.body,cm t.vl t.els] (.bool (rY t)) []:=by
 refine au func163 J ntmps163 J fun w0 M H=>bs 0 3 J jK (bs 1 4 J jI (bs 2 5 J jI ?_))
 have hnm:=Fh ht;obtain⟨hel,heg⟩:=vu ht;obtain⟨hbl,hbg⟩:=gu ht;obtain⟨hll,hlg⟩:=iO ht;refine ak (cz J J fun b1=>am J (av J (ax iv J (aL 1 t3 J J J J (ap J J bc (ab J (aF [] J J O (fun hg1=>ai iv J) J (aF [(10,_)] J J ⟨J,O⟩ (fun hg2=>ag t3 J J (aB (k:=1) J J)) J (aF [(10,_),(11,_)] J J ⟨J,J,O⟩ (fun hg3=>aU J J bc) J (aH (bw J J J) (am J (av J (am J ?_)))))))))))));refine aa (bq (X:=Unit) (fun _=>True) (fun _=> [(1,Pt b1),(3,.bool (decide (t.kind=1) || decide (t.kind=2))),(4,I6 (if t.kind=3 then 2 else 1))]) (fun _=> [(1,aP b1 64 (iK t))]) (fun _=> [(0,cx t.ve t.es),(1,cm t.vb t.body),(2,cm t.vl t.els),(3,sl 4 gg (sv t.ve) t.es),(4,sl 5 iK (sv t.vb) t.body),(5,sl 5 iK (sv t.vl) t.els)]) ?_ (fun _ _=> ?_))
 ·refine ak (ax iv J (aL 1 t3 J J J J (ap J J bc (aa (ah J (fun h4=> ?_) (fun h4=> ?_))))))
  ·have q3:t.kind=3:=de h4;refine aj (am J (aa (aI () O (by rw [ao q3];rfl) J J)))
  ·have q3:¬t.kind=3:=eW h4;refine az (aI () O (by rw [ac q3];rfl) J J)
 ·refine ak (am J (aa (bq (X:=Unit) (fun _=>True) (fun _=> [(1,Pt b1),(3,.bool (decide (t.kind=1) || decide (t.kind=2))),(4,I6 (if t.kind=3 then 2 else 1)),(5,I6 (if t.kind=4 then 2 else if t.kind=5 then 1 else 0))]) (fun _=> [(1,aP b1 64 (iK t))]) (fun _=> [(0,cx t.ve t.es),(1,cm t.vb t.body),(2,cm t.vl t.els),(3,sl 4 gg (sv t.ve) t.es),(4,sl 5 iK (sv t.vb) t.body),(5,sl 5 iK (sv t.vl) t.els)]) ?_ (fun _ _=> ?_))))
  ·refine ak (ax iv J (aL 1 t3 J J J J (aa (aC (ak (ap J J bc (am J (aa (ah J (fun h5=> ?_) (fun h5=> ?_))))))))))
   ·have q4:t.kind=4:=de h5;refine aj (am J (aa (aI () O (by rw [ao q4];rfl) J J)))
   ·have q4:¬t.kind=4:=eW h5;refine ak (ap J J bc (am J (aa (ah J (fun h6=> ?_) (fun h6=> ?_)))))
    ·have q5:t.kind=5:=de h6;refine aj (am J (aa (aI () O (by rw [ac q4,ao q5];rfl) J J)))
    ·have q5:¬t.kind=5:=eW h6;refine az (aI () O (by rw [ac q4,ac q5];rfl) J J)
  ·refine ak (ax iv J (aL 1 t3 J J J J (ap J J eY (ab J (aF [] J J O (fun hg7=>ai iv J) J (aF [(27,_)] J J ⟨J,O⟩ (fun hg8=>ag t3 J J (aB (k:=1) J J)) J (aF [(27,_),(28,_)] J J ⟨J,J,O⟩ (fun hg9=>aU J J jz) J (aH (bw J J J) (ab J (aF [] J J O (fun hg10=>ai m5 J) J (aF [(32,_)] J J ⟨J,O⟩ (fun hg11=>ag nQ J J (aB (k:=1) J J)) J (aF [(32,_),(33,_)] J J ⟨J,J,O⟩ (fun hg12=>aZ underlying59 J (aQ (k:=3) J)) J (aF [(32,_),(33,_),(34,_)] J J ⟨J,J,J,O⟩ (fun hg13=>aX J) J (aF [(32,_),(33,_),(34,_),(35,_)] J J ⟨J,J,J,J,O⟩ (fun hg14=>aU J J bc) J (aH (bw J J J) (ab J (aF [] J J O (fun hg15=>aX J) J (aF [(39,_)] J J ⟨J,O⟩ (fun hg16=>aX J) J ?_))))))))))))))))))
   refine c_ [] [(39,_),(40,_)] J J O ⟨J,J,O⟩ (fun hg17 hg17'=>ai lz J) J (c_ [(41,_)] [(39,_),(40,_)] J J ⟨J,O⟩ ⟨J,J,O⟩ (fun hg18 hg18'=>ag t9 J J (aB (k:=1) J J)) J (Bm [(41,_),(42,_)] [(39,_),(40,_)] J J ⟨J,J,O⟩ ⟨J,J,O⟩ (fun hg19 hg19'=>g9 (xs:= [.tmp 42]) (il t.name hnm.1 hnm.2) u5 [] [] [] [] J J J J J J J J (fun _ _=>J) (fun _ _ _=>J)) J (aF [(39,_),(40,_)] J J ⟨J,J,O⟩ (fun hg20=>cq J J J (by first|exact dR|exact eE|exact dj hg20|exact dQ hg20|rfl)) J (aF [(39,_),(40,_),(44,_)] J J ⟨J,J,J,O⟩ (fun hg21=>aX J) J (c_ [] [(39,_),(40,_),(44,_),(45,_)] J J O ⟨J,J,J,J,O⟩ (fun hg22 hg22'=>aX J) J (c_ [(46,_)] [(39,_),(40,_),(44,_),(45,_)] J J ⟨J,O⟩ ⟨J,J,J,J,O⟩ (fun hg23 hg23'=>cZ J) J (c_ [(46,_),(47,_)] [(39,_),(40,_),(44,_),(45,_)] J J ⟨J,J,O⟩ ⟨J,J,J,J,O⟩ (fun hg24 hg24'=>aX J) J (c_ [] [(46,_),(47,_),(48,_)] J J O ⟨J,J,J,O⟩ (fun hg25 hg25'=>ai lz J) J (c_ [(49,_)] [(46,_),(47,_),(48,_)] J J ⟨J,O⟩ ⟨J,J,J,O⟩ (fun hg26 hg26'=>ag t9 J J (aB (k:=1) J J)) J (c_ [(49,_),(50,_)] [(46,_),(47,_),(48,_)] J J ⟨J,J,O⟩ ⟨J,J,J,O⟩ (fun hg27 hg27'=>aU J J eM) J (c_ [(46,_),(47,_),(48,_)] [(39,_),(40,_),(44,_),(45,_)] J J ⟨J,J,J,O⟩ ⟨J,J,J,J,O⟩ (fun hg28 hg28'=>cq J J J (by first|exact dR|exact eE|exact dj hg28|exact dQ hg28|exact dj (Gp hg28 hg28')|exact dQ (Gp hg28 hg28')|rfl)) J (aF [(39,_),(40,_),(44,_),(45,_)] J J ⟨J,J,J,J,O⟩ (fun hg29=>cq J J J (by first|exact dR|exact eE|exact dj hg29|exact dQ hg29|rfl)) J (aH (bw J J J) (ab J (aF [] J J O (fun hg30=>aX J) J (aF [(56,_)] J J ⟨J,O⟩ (fun hg31=>aU J J fU) J (aF [(56,_),(57,_)] J J ⟨J,J,O⟩ (fun hg32=>aX J) J ?_)))))))))))))))))
   refine c_ [] [(56,_),(57,_),(58,_)] J J O ⟨J,J,J,O⟩ (fun hg33 hg33'=>ai jj J) J (c_ [(59,_)] [(56,_),(57,_),(58,_)] J J ⟨J,O⟩ ⟨J,J,J,O⟩ (fun hg34 hg34'=>ag nP J J (aB (k:=1) J J)) J (c_ [(59,_),(60,_)] [(56,_),(57,_),(58,_)] J J ⟨J,J,O⟩ ⟨J,J,J,O⟩ (fun hg35 hg35'=>aZ underlying62 J (aQ (k:=4) J)) J (c_ [(59,_),(60,_),(61,_)] [(56,_),(57,_),(58,_)] J J ⟨J,J,J,O⟩ ⟨J,J,J,O⟩ (fun hg36 hg36'=>aU J J bc) J (aF [(56,_),(57,_),(58,_)] J J ⟨J,J,J,O⟩ (fun hg37=>cq J J J (by first|exact dR|exact eE|exact dj hg37|exact dQ hg37|rfl)) J (aH (bw J J J) (ab J (aF [] J J O (fun hg38=>aX J) J (aF [(66,_)] J J ⟨J,O⟩ (fun hg39=>aU J J fU) J (aF [(66,_),(67,_)] J J ⟨J,J,O⟩ (fun hg40=>aX J) J (c_ [] [(66,_),(67,_),(68,_)] J J O ⟨J,J,J,O⟩ (fun hg41 hg41'=>ai ji J) J (c_ [(69,_)] [(66,_),(67,_),(68,_)] J J ⟨J,O⟩ ⟨J,J,J,O⟩ (fun hg42 hg42'=>ag nP J J (aB (k:=1) J J)) J (c_ [(69,_),(70,_)] [(66,_),(67,_),(68,_)] J J ⟨J,J,O⟩ ⟨J,J,J,O⟩ (fun hg43 hg43'=>aZ underlying62 J (aQ (k:=5) J)) J (c_ [(69,_),(70,_),(71,_)] [(66,_),(67,_),(68,_)] J J ⟨J,J,J,O⟩ ⟨J,J,J,O⟩ (fun hg44 hg44'=>aU J J bc) J (aF [(66,_),(67,_),(68,_)] J J ⟨J,J,J,O⟩ (fun hg45=>cq J J J (by first|exact dR|exact eE|exact dj hg45|exact dQ hg45|rfl)) J (aH (bw J J J) (ab J (aF [] J J O (fun hg46=>ai m5 J) J (aF [(76,_)] J J ⟨J,O⟩ (fun hg47=>ag nQ J J (aB (k:=1) J J)) J (iW [(76,_),(77,_)] J J ⟨J,J,O⟩ (fun hg48=>g9 (xs:= [.tmp 77,.func 187]) (rT t.ve t.es hel 187 [] (cx t.ve t.es) (fun u=> !rX u) KO (fun u hu=>Bd t.ve t.es (fun u hu=>D2 u (heg.mem u hu)) u hu)) F8 [] [(false,3),(false,0)] [] [] J J J J J J J J (fun _ _=>J) (fun _ _ _=>J)) J ?_)))))))))))))))))))
   refine aF [(76,_),(77,_),(78,_)] J J ⟨J,J,J,O⟩ (fun hg49=>cZ J) J (aH (bw J J J) (ab J (aF [] J J O (fun hg50=>ai jj J) J (aF [(82,_)] J J ⟨J,O⟩ (fun hg51=>ag nP J J (aB (k:=1) J J)) J (iW [(82,_),(83,_)] J J ⟨J,J,O⟩ (fun hg52=>g9 (xs:= [.tmp 83]) (mO t.vb t.body hbl ihb) C2 [] [(false,1)] [] [] J J J J J J J J (fun _ _=>J) (fun _ _ _=>J)) J (aH (bw J J J) (ab J (aF [] J J O (fun hg53=>ai ji J) J (aF [(87,_)] J J ⟨J,O⟩ (fun hg54=>ag nP J J (aB (k:=1) J J)) J (iW [(87,_),(88,_)] J J ⟨J,J,O⟩ (fun hg55=>g9 (xs:= [.tmp 88]) (mO t.vl t.els hll ihl) C2 [] [(false,2)] [] [] J J J J J J J J (fun _ _=>J) (fun _ _ _=>J)) J (aH (bw J J J) (am J (aa (ar (aG () O J (bR (aD J)) (congrArg Value.bool (Jr t).symm) [] [] J J J)))))))))))))))
theorem wb:∀(n:Nat)(t:Ty),SizeOf.sizeOf t<n→GY t→aO prog 163 [yV t] [] [cx t.ve t.es,cm t.vb t.body,cm t.vl t.els] (.bool (rY t)) []
 | 0,_,h,_=>absurd h (Nat.not_lt_zero _)
 | n+1,t,h,ht=>DZ t ht (fun u hu=>wb n u (by have:=Fv (.inl hu);omega) ((gu ht).2.mem u hu)) (fun u hu=>wb n u (by have:=Fv (.inr hu);omega) ((iO ht).2.mem u hu))
theorem D0(t:Ty)(ht:GY t):aO prog 163 [yV t] [] [cx t.ve t.es,cm t.vb t.body,cm t.vl t.els] (.bool (rY t)) []:=wb _ t (Nat.lt_succ_self _) ht
theorem sn(s:Ba)(hs:FI s):
  aO prog 121 [Sg s] [] [] (.bool (!dz s)) []:=by
 refine au func121 J ntmps121 J fun w0 M H=>ak (am J (av J (ab J (ae (xs:= [.tmp 3]) (il s hs.1 hs.2) u5 [] [] [] (fun _ _=>aH (cZ J) (am J (aa (ar (aG () O J (bR (aD J)) J [] [] J J J)))))))))
theorem tW(f:Tf)(fs:List Tf)(hf:f∈fs)(hg:GF f):
  aO prog 119 [II f] [] [E5 fs] (.bool (!rF f)) []:=by
 refine au func119 J ntmps119 J fun w0 M H=>bs 0 1 J (Ke hf) (bs 1 2 J tJ (bs 1 3 J sd ?_))
 obtain⟨g1,g2,g3,g4,g5,g6⟩:=hg;refine ak (cz J J fun b1=>am J (av J (ax fO J (aL 1 oD J J J J (ae (xs:= [.tmp 5,.func 121]) (Al f.vp f.ps g3 121 (fun s=> !dz s) Ll (fun s hs=>sn s (g2 s hs))) Lm [] [(false,2)] [] (fun _ _=>am J (av J (ab J (ab J (aF [] J J O (fun hg1=>ai m4 J) J (aF [(9,_)] J J ⟨J,O⟩ (fun hg2=>ag t9 J J (aB (k:=1) J J)) J (iW [(9,_),(10,_)] J J ⟨J,J,O⟩ (fun hg3=>g9 (xs:= [.tmp 10]) (il f.name g1.1 g1.2) u5 [] [] [] [] J J J J J J J J (fun _ _=>J) (fun _ _ _=>J)) J (aF [(9,_),(10,_),(11,_)] J J ⟨J,J,J,O⟩ (fun hg4=>cZ J) J ?_)))))))))))));refine aH (bw J J J) (ab J (aF [] J J O (fun hg5=>ai m3 J) J (aF [(15,_)] J J ⟨J,O⟩ (fun hg6=>ag nP J J (aB (k:=1) J J)) J (iW [(15,_),(16,_)] J J ⟨J,J,O⟩ (fun hg7=>g9 (xs:= [.tmp 16]) (mO f.vb f.body g4 (fun u hu=>D0 u (g5.mem u hu))) C2 [] [(false,3)] [] [] J J J J J J J J (fun _ _=>J) (fun _ _ _=>J)) J (aF [(15,_),(16,_),(17,_)] J J ⟨J,J,J,O⟩ (fun hg8=>cZ J) J (aH (bw J J J) (am J (aa (ar (aG () O J (bR (aD J)) (congrArg Value.bool (Jt f)) [] [] J J J))))))))))
theorem wh(vp:SV)(fs:List Tf)(hg:GP fs):
  aO prog 81 [.agg #[sv vp]] [] [fA vp fs] (.bool (rP fs)) []:=by
 refine au func81 J ntmps81 J fun w0 M H=>bs 0 1 J sc (bs 0 2 J DO (ak (cz J J fun b1=>am J (av J (ax iw J (aL 1 AX J J J J (ae (xs:= [.tmp 4,.func 119]) (Am vp fs hg.1 119 [] (E5 fs) (fun f=> !rF f) Ln (fun f hf=>tW f fs hf (hg.2 f hf))) Lr [] [(false,1),(false,2)] [] (fun _ _=>aH (cZ J) (am J (aa (ar (aG () O J (bR (aD J)) (congrArg Value.bool (fQ rF fs)) [] [] J J J))))))))))))
def cR(vp vn:SV)(nd va:Int)(dp:Bool)(er:Int):List Value:= [sv vp,sv vn,I6 nd,I6 va,.bool dp,I6 er]
theorem cn{α:Type}{l:List α}{i:Nat}{k:α}(h:l[i]?=some k):l.take (i+1)=l.take i++ [k]:=by
 obtain⟨hi,hk⟩:=cC.1 h;rw [List.take_add_one,bV hi,hk];rfl
theorem sU:∀(a b:List Tx),fM (a++b)=fM a+fM b
 | [],b=>by simp [fM]
 | t::r,b=>by simp [fM,sU r b,Nat.add_assoc]
theorem y4:∀(a b:List Tx),gJ (a++b)=max (gJ a) (gJ b)
 | [],b=>by simp [gJ]
 | t::r,b=>by simp [gJ,y4 r b,Nat.max_assoc]
theorem sQ:∀(a b:List Ty),d9 (a++b)=d9 a+d9 b
 | [],b=>by simp [d9]
 | t::r,b=>by simp [d9,sQ r b,Nat.add_assoc]
theorem nK:∀(a b:List Ty),dA (a++b)=dA a+dA b
 | [],b=>by simp [dA]
 | t::r,b=>by simp [dA,nK r b,Nat.add_assoc]
theorem uQ(d:Nat):∀(a b:List Ty),db d (a++b)=(db d a || db d b)
 | [],b=>by simp [db]
 | t::r,b=>by simp [db,uQ d r b,Bool.or_assoc]
theorem Eo(t:Tx):fM [t]=nX t:=by simp [fM]
theorem E9(t:Tx):gJ [t]=dX t:=by simp [gJ]
theorem En(t:Ty):d9 [t]=nY t:=by simp [d9]
theorem DD(t:Ty):dA [t]=vY t:=by simp [dA]
theorem CA(d:Nat)(t:Ty):db d [t]=Ds d t:=by simp [db]
theorem ug(t:Tx):nX t=fM t.kids+1:=by cases t;rfl
theorem Km(t:Tx):dX t=gJ t.kids+1:=by cases t;rfl
theorem FJ(t:Ty):nY t=1+fM t.es+d9 t.body+d9 t.els:=by cases t;rfl
theorem AT(t:Ty):vY t=(if t.kind=1 then 1 else 0)+dA t.body+dA t.els:=by cases t;rfl
theorem Id(d:Nat)(t:Ty):Ds d t=(decide (d>8) || decide (gJ t.es>8) || db (d+1) t.body || db (d+1) t.els):=by cases t;rfl
theorem jX{l:List Tx}{i:Nat}{k:Tx}(h:l[i]?=some k):fM (l.take (i+1))=fM (l.take i)+nX k:=by rw [cn h,sU,Eo]
theorem p_{l:List Tx}{i:Nat}{k:Tx}(h:l[i]?=some k):gJ (l.take (i+1))=max (gJ (l.take i)) (dX k):=by rw [cn h,y4,E9]
theorem wB:∀(l:List Tx)(i:Nat),fM (l.take i)≤fM l:=fun l i=>by
 have h:=sU (l.take i) (l.drop i);rw [List.take_append_drop]at h;omega
theorem wA:∀(l:List Ty)(i:Nat),d9 (l.take i)≤d9 l:=fun l i=>by
 have h:=sQ (l.take i) (l.drop i);rw [List.take_append_drop]at h;omega
theorem o9{l:List Ty}{i:Nat}{k:Ty}(h:l[i]?=some k):d9 (l.take (i+1))=d9 (l.take i)+nY k:=by rw [cn h,sQ,En]
theorem lS{l:List Ty}{i:Nat}{k:Ty}(h:l[i]?=some k):dA (l.take (i+1))=dA (l.take i)+vY k:=by rw [cn h,nK,DD]
theorem Ah{d:Nat}{l:List Ty}{i:Nat}{k:Ty}(h:l[i]?=some k):db d (l.take (i+1))=(db d (l.take i) || Ds d k):=by rw [cn h,uQ,CA]
mutual
theorem CJ:∀t:Tx,dX t≤nX t
 | .mk _ _ _ _ kids=>by
  have:=CG kids;rw [dX,nX];omega
theorem CG:∀l:List Tx,gJ l≤fM l
 | []=>bU _
 | t::r=>by
  have h1:=CJ t;have h2:=CG r;rw [gJ,fM];omega
end
mutual
theorem Fu:∀t:Ty,vY t≤nY t
 | .mk k _ _ _ _ body _ els=>by
  have h1:=jH body;have h2:=jH els;rw [vY,nY];split<;>omega
theorem jH:∀l:List Ty,dA l≤d9 l
 | []=>bU _
 | t::r=>by
  have h1:=Fu t;have h2:=jH r;rw [dA,d9];omega
end
theorem C4(a b:Nat):((max a b:Nat):Int)=max (a:Int) (b:Int):=by omega
theorem yZ{a b:Nat}:(decide (a>8) || decide (b>8))=decide (max a b>8):=by
 by_cases h:a>8
 ·have:max a b>8:=by omega
  simp [h,this]
 ·by_cases h2:b>8
  ·have:max a b>8:=by omega
   simp [h2,this]
  ·have:¬max a b>8:=by omega
   simp [h,h2,this]
theorem ix(c:Nat)(vp vn:SV)(nd va:Int)(dp:Bool)(er:Int)(e:Int):
  aO prog 127 [Pt c,I6 e] [aP c 165 (cR vp vn nd va dp er)] [] (.tuple #[]) [aP c 165 (cR vp vn nd va dp (fst er e))]:=by
 refine au func127 J ntmps127 J fun w0 M H=>ak (ab J (bp J (ax th J (aL 0 zl J J J J (ap J J bc (aa (ah J (fun h1=> ?_) (fun h1=> ?_))))))))
 ·have h0:er=0:=de h1;have hfs:fst er e=e:=ao h0;refine aj (ab J (ab J (bp J (ax th J (aw (k:=0) zl J J J J J J J J (aa ?_))))));rw [hfs];refine bN () O J fi J [0] [] J J J
 ·have h0:¬er=0:=eW h1;have hfs:fst er e=er:=ac h0;refine az ?_;rw [hfs];refine bN () O J fi J [0] [] J J J
theorem HT(er z:Int)(b:Bool)(h:b=true):fst er (if b=true then z else 0)=fst er z:=by rw [ao h]
theorem ER(er z:Int)(b:Bool)(h:b=false):fst er (if b=true then z else 0)=er:=by rw [ac (by rw [h];simp),dD]
theorem ES(er z:Int)(b:Bool)(h:b=true):fst er (if b=true then 0 else z)=er:=by rw [ao h,dD]
theorem Cr(er z:Int)(b:Bool)(h:b=false):fst er (if b=true then 0 else z)=fst er z:=by rw [ac (by rw [h];simp)]
theorem rS(c:Nat)(vp vn:SV)(nd va:Int)(dp:Bool)(er:Int)(ns:List Ba)(hn:ns.length≤1000000)(s:Ba):
  aO prog 165 [Pt c,Sg s] [aP c 165 (cR vp vn nd va dp er),own 9 1 eS (sv vn) ns] [] (.tuple #[]) [aP c 165 (cR vp vn nd va dp (fst er (if cU s ns=true then 0 else 21))),own 9 1 eS (sv vn) ns]:=by
 refine au func165 J ntmps165 J fun w0 M H=>ak (ab J (bp J (ax mt J (aL 0 oD J J J J (ab J (ae (xs:= [.tmp 7,.tmp 8]) (Spec.ro1 (gt vn ns (by omega) s) bE) y7 [] [(true,1)] [] (fun _ _=>aH (cZ J) (aa (ah J (fun h1=> ?_) (fun h1=> ?_))))))))))
 ·have h0:cU s ns=false:=by simpa using h1
  rw [Cr _ _ _ h0];refine aj (ab J (ae (xs:= [.tmp 11,.const (I6 21)]) (ix c vp vn nd va dp er 21) u4 [0] [] [0] (fun _ _=>aa (bN () O J fi J [0,1] [] J J J))))
 ·have h0:cU s ns=true:=by simpa using h1
  rw [ES _ _ _ h0];refine az (bN () O J fi J [0,1] [] J J J)
theorem qf(c:Nat)(vp vn:SV)(nd va:Int)(dp:Bool)(er:Int)(ns:List Ba)(hn:ns.length≤1000000)(s:Ba):
  Spec prog 128 [Pt c,Sg s] [aP c 165 (cR vp vn nd va dp er),own 9 1 eS (sv vn) ns] [] (X:=SV) (fun _=>True) (fun _=> .tuple #[]) (fun v=> [aP c 165 (cR vp v nd va dp (fst er (if cU s ns=true then 22 else 0))),own 9 1 eS (sv v) (ns++ [s])]) (fun _=> []):=by
 refine au func128 J ntmps128 J fun w0 M H=>bq (X:=Unit) (fun _=>True) (fun _=> [(0,Pt c),(1,Sg s)]) (fun _=> [(0,aP c 165 (cR vp vn nd va dp (fst er (if cU s ns=true then 22 else 0)))),(1,own 9 1 eS (sv vn) ns)]) (fun _=> []) ?_ (fun _ _=> ?_)
 ·refine ak (ab J (bp J (ax mt J (aL 0 oD J J J J (ab J (ae (xs:= [.tmp 7,.tmp 8]) (Spec.ro1 (gt vn ns (by omega) s) bE) y7 [] [(true,1)] [] (fun _ _=>aa (ah J (fun h1=> ?_) (fun h1=> ?_)))))))))
  ·have h0:cU s ns=true:=h1;rw [HT _ _ _ h0];refine aj (ab J (ae (xs:= [.tmp 10,.const (I6 22)]) (ix c vp vn nd va dp er 22) u4 [0] [] [0] (fun _ _=>aa (aI () O J J J))))
  ·have h0:cU s ns=false:=h1;rw [ER _ _ _ h0];refine az (aI () O J J J)
 ·refine aj (ab J (ab J (bp J (ax mt J (aL 0 oD J J J J (ab J (bD eS _ underlying46 t9 J (by decide) (by decide) J J J J fun v18=>gz 1 underlying46 t9 J (by decide) (fun _=>J) (fun _=>J) J J J (bl (k:=18) J) (by first|omega|(simp;done)|(simp;omega)) (by unfold maxLen;first|omega|(simp;done)|(simp;omega)) J fun v19=>bp J (ax mt J (aw (k:=0) oD J J J J J J J J (aa (bN v19 O J fi J [0,1] [] J J J)))))))))))
theorem xe(f:Tf)(b:Nat)(s:Ba):
  aO prog 125 [II f,Pt b] [] [aP b 9 [Sg s]] (.bool (decide (f.name=s))) []:=by
 refine au func125 J ntmps125 J fun w0 M H=>ak (cz J J fun b2=>am J (av J (ax m4 J (aL 2 t9 J J J J (aH (ag t9 J J (cN (k:=0) J J)) (ap J J eM (am J (aa (ar (aG () O J (bR (aD J)) (congrArg Value.bool (gk _ _)) [] [] J J J))))))))))
theorem lG(c:Nat)(vp vn:SV)(nd va:Int)(dp:Bool)(er:Int)(s:Ba)(fs:List Tf)(hf:fs.length≤1000000):
  aO prog 82 [Pt c,Sg s] [aP c 165 (cR vp vn nd va dp er)] [sl 3 oq (sv vp) fs] (I6 (xc fs s)) [aP c 165 (cR vp vn nd va dp er)]:=by
 refine au func82 J ntmps82 J fun w0 M H=>ak (mP J J J fun b3=>am J (av J (ab J (bp J (ax yQ J (ax iw J (aL 0 AX J J J J (aH (dS (first:= []) (cap:= [.tmp 3]) J J) (ch (xs:= [.tmp 9,.tmp 10]) (uu vp fs hf 125 [Pt b3] (aP b3 9 [Sg s]) (fun f=>decide (f.name=s)) Lk (fun f _=>xe f b3 s)) Gm [] [(false,0),(true,3)] [] J J J (fun _ _=>am J (aa (ar (aG () O J (bR (aD J)) J [0] [] J J J)))))))))))))
theorem zV(c:Nat)(vp vn:SV)(va er:Int)(t:Tx)(ht:GX t)(ih:∀u∈t.kids,∀(nd:Int)(dp:Bool),0≤nd→nd+(nX u:Int)≤1000000000000→Spec prog 164 [Pt c,xV u] [aP c 165 (cR vp vn nd va dp er)] [cx u.v u.kids] (X:=Unit) (fun _=>True) (fun _=>I6 (dX u:Int)) (fun _=> [aP c 165 (cR vp vn (nd+(nX u:Int)) va (dp || decide (dX u>8)) er)]) (fun _=> []))(nd:Int)(dp:Bool)(h0:0≤nd)(hn:nd+(nX t:Int)≤1000000000000):
  aO prog 164 [Pt c,xV t] [aP c 165 (cR vp vn nd va dp er)] [cx t.v t.kids] (I6 (dX t:Int)) [aP c 165 (cR vp vn (nd+(nX t:Int)) va (dp || decide (dX t>8)) er)]:=by
 refine au func164 J ntmps164 J fun w0 M H=> ?_
 have hkl:=tx ht;have hnx:=ug t;have hdx:=Km t;have hdn:=CJ t;refine bs 0 1 J jK (ak (cz J J fun b3=>am J (av J (ab J (bp J (ax kw J (aL 0 t3 J J J J (ap J J a_ (bp J (ax kw J (aw (k:=0) t3 J J J J J J J J (av J (am J ?_)))))))))))));refine aa (aS (ax eT J (aL 3 nQ J J J J (aH (aZ underlying59 J (aQ (k:=1) J)) (ab J (aa (aC ?_)))))));refine bG (X:=Nat) (fun i=>i≤t.kids.length) (fun i=> [(0,Pt c),(3,Pt b3),(5,I6 (gJ (t.kids.take i):Int)),(16,sv t.v),(17,I6 (t.kids.length:Int)),(18,I6 (i:Int))]) (fun i=> [(0,aP c 165 (cR vp vn (nd+1+(fM (t.kids.take i):Int)) va (dp || decide (gJ (t.kids.take i)>8)) er)),(3,aP b3 61 (gg t))]) (fun i=> [(0,cx t.v t.kids),(1,sl 4 gg (sv t.v) t.kids)]) (fun i=>t.kids.length-i) 0 (bB _) J (by rw [show(dp || decide (gJ (t.kids.take 0)>8))=dp by simp [gJ],show nd+1+(fM (t.kids.take 0):Int)=nd+1 by simp [fM]];rfl) J (fun i n1=> ?_);refine ak (ap J J cL (aa (aW (ah J (fun h1=> ?_) (fun h1=> ?_)))))
 ·(try simp only [aY]at h1);have hi:i<t.kids.length:=by omega
  obtain⟨kid,hkid⟩:∃k,t.kids[i]?=some k:=⟨_,bV hi⟩
  have hkm:=cO hkid;have hle:=wB t.kids (i+1);rw [jX hkid]at hle;refine az (aW (aC (ak (aH (aR (j:=i) underlying59 dn J J (aQ (k:=1) J) (by first|rfl|omega) (by first|omega|(simp;done)|(simp;omega))) (aH (aM dn J J J (ci (aQ (k:=1) J) (by intro _;rfl) hkid (by rfl))) (aV dn J J fun b7=>aq (k:=7) dn J J J J J J (aa (aj (ab J (ab J (aH (aM dn J J J (bi (k:=7) J)) (bs 0 8 J (fh hkm) (ae (xs:= [.tmp 23,.tmp 24]) (ih kid hkm (nd+1+(fM (t.kids.take i):Int)) (dp || decide (gJ (t.kids.take i)>8)) (by omega) (by omega)) Ge [0] [(false,8)] [0] (fun _ _=>aH (kY J J J) (am J (aa (aj ?_)))))))))))))))));refine ap J J a_ (ab J (aa ?_));refine aI (i+1) ⟨by omega,by omega⟩ (by rw [p_ hkid,C4];rfl) (by rw [p_ hkid,jX hkid,←yZ,←Bool.or_assoc,Int.natCast_add,←Int.add_assoc];rfl) J
 ·(try simp only [aY]at h1);have hi:i=t.kids.length:=by omega
  subst hi;rw [eo];refine bK (ak (ab J (ab J (bp J (ax mr J (aL 0 t4 J J J J (ab J (aF [] J J O (fun hg2=>aX J) J (aF [(34,_)] J J ⟨J,O⟩ (fun hg3=>aU J J a_) J (aF [(34,_),(35,_)] J J ⟨J,J,O⟩ (fun hg4=>aU J J fU) J (aH (bw J J J) (bp J (ax mr J (aw (k:=0) t4 J J J J J J J J (av J (ab J ?_))))))))))))))));refine ap J J a_ (am J (aa (ar ?_)));have hfin:cR vp vn (nd+1+(fM t.kids:Int)) va (dp || decide (gJ t.kids>8) || decide ((gJ t.kids:Int)+1>8)) er=cR vp vn (nd+(nX t:Int)) va (dp || decide (dX t>8)) er:=by
   rw [hnx,hdx];have e1:nd+1+(fM t.kids:Int)=nd+((fM t.kids+1:Nat):Int):=by omega
   have e2:(dp || decide (gJ t.kids>8) || decide ((gJ t.kids:Int)+1>8))=(dp || decide (gJ t.kids+1>8)):=by
    rw [Bool.or_assoc]
    congr 1
    by_cases h:gJ t.kids+1>8
    ·have h2:(gJ t.kids:Int)+1>8:=by omega
     simp [h,h2]
    ·have h2:¬(gJ t.kids:Int)+1>8:=by omega
     have h3:¬gJ t.kids>8:=by omega
     simp [h,h2,h3]
   rw [e1,e2]
  rw [←hfin];refine aG () O J (bR (aD J)) (by rw [hdx];rfl) [0] [] J J J
theorem uo(c:Nat)(vp vn:SV)(va er:Int):∀(n:Nat)(t:Tx),SizeOf.sizeOf t<n→GX t→∀(nd:Int)(dp:Bool),0≤nd→nd+(nX t:Int)≤1000000000000→aO prog 164 [Pt c,xV t] [aP c 165 (cR vp vn nd va dp er)] [cx t.v t.kids] (I6 (dX t:Int)) [aP c 165 (cR vp vn (nd+(nX t:Int)) va (dp || decide (dX t>8)) er)]
 | 0,_,h,_=>absurd h (Nat.not_lt_zero _)
 | n+1,t,h,ht=>fun nd dp h0 hn=>zV c vp vn va er t ht (fun u hu=>uo c vp vn va er n u (by have:=xJ hu;omega) ((ot ht).mem u hu)) nd dp h0 hn
theorem zZ(c:Nat)(vp vn:SV)(va er:Int)(t:Tx)(ht:GX t)(nd:Int)(dp:Bool)(h0:0≤nd)(hn:nd+(nX t:Int)≤1000000000000):aO prog 164 [Pt c,xV t] [aP c 165 (cR vp vn nd va dp er)] [cx t.v t.kids] (I6 (dX t:Int)) [aP c 165 (cR vp vn (nd+(nX t:Int)) va (dp || decide (dX t>8)) er)]:=uo c vp vn va er _ t (Nat.lt_succ_self _) ht nd dp h0 hn
def LT(c:Nat)(vp vn:SV)(er:Int)(v:SV)(l:List Ty):Prop:=∀(d:Nat)(nd va:Int)(dp:Bool),d+d9 l≤1000000000000→0≤nd→nd+(d9 l:Int)≤1000000000000→0≤va→va+(dA l:Int)≤1000000000000→
 aO prog 126 [Pt c,sv v,I6 (d:Int)] [aP c 165 (cR vp vn nd va dp er)] [cm v l] (.tuple #[]) [aP c 165 (cR vp vn (nd+(d9 l:Int)) (va+(dA l:Int)) (dp || db d l) er)]
theorem Hh(p q a b c d:Bool):(p || q || a || b || c || d)=(p || (q || (a || b || c || d))):=by cases p<;>cases q<;>rfl
theorem xl(c:Nat)(vp vn:SV)(er:Int)(v:SV)(l:List Ty)(hl:l.length≤1000000)(hg:GYs l)(ih:∀u∈l,LT c vp vn er u.vb u.body∧LT c vp vn er u.vl u.els)(d:Nat)(nd va:Int)(dp:Bool)(hd:d+d9 l≤1000000000000)(h0:0≤nd)(hn:nd+(d9 l:Int)≤1000000000000)(h1:0≤va)(hv:va+(dA l:Int)≤1000000000000):
  aO prog 126 [Pt c,sv v,I6 (d:Int)] [aP c 165 (cR vp vn nd va dp er)] [cm v l] (.tuple #[]) [aP c 165 (cR vp vn (nd+(d9 l:Int)) (va+(dA l:Int)) (dp || db d l) er)]:=by
 refine au func126 J ntmps126 J fun w0 M H=>bs 0 1 J jI (ak (ab J (aH (aZ underlying62 J (aQ (k:=1) J)) (ab J (aa (aC ?_))))))
 refine bG (X:=Nat) (fun i=>i≤l.length) (fun i=> [(0,Pt c),(2,I6 (d:Int)),(10,sv v),(11,I6 (l.length:Int)),(12,I6 (i:Int))]) (fun i=> [(0,aP c 165 (cR vp vn (nd+(d9 (l.take i):Int)) (va+(dA (l.take i):Int)) (dp || db d (l.take i)) er))]) (fun i=> [(0,cm v l),(1,sl 5 iK (sv v) l)]) (fun i=>l.length-i) 0 (bB _) J (by rw [show(dp || db d (l.take 0))=dp by simp [db],show nd+(d9 (l.take 0):Int)=nd by simp [d9],show va+(dA (l.take 0):Int)=va by simp [dA]];rfl) J (fun i n1=> ?_);refine ak (ap J J cL (aa (aW (ah J (fun h1=> ?_) (fun h1=> ?_)))))
 ·(try simp only [aY]at h1);have hi:i<l.length:=by omega
  obtain⟨st,hst⟩:∃k,l[i]?=some k:=⟨_,bV hi⟩
  have hsm:=cO hst;have hsy:=hg.mem st hsm;have hsg:=vu hsy;have hle:=wA l (i+1);rw [o9 hst]at hle;have hny:=FJ st;have hvy:=Fu st;have hvl:=jH l;have hva:=jH (l.take i);have hvb:=jH st.body;have hvs:=jH st.els;have hnl:=wA l i;have hvy2:(vY st:Int)=(if st.kind=1 then 1 else 0:Int)+(dA st.body:Int)+(dA st.els:Int):=by
   rw [AT];split<;>omega
  have hki:0≤(if st.kind=1 then 1 else 0:Int)∧(if st.kind=1 then 1 else 0:Int)≤1:=by split<;>omega
  have hvv:(dA (l.take i):Int)+(vY st:Int)≤(dA l:Int):=by
   have h:=nK (l.take (i+1)) (l.drop (i+1));rw [List.take_append_drop,lS hst]at h;omega
  refine bs 0 7 J (sa hsm) (bs 0 8 J (jJ hsm) (bs 0 9 J (lU hsm) (bs 7 10 J jK (az (aW (aC (ak (aH (aR (j:=i) underlying62 fB J J (aQ (k:=1) J) (by first|rfl|omega) (by first|omega|(simp;done)|(simp;omega))) (aH (aM fB J J J (ci (aQ (k:=1) J) (by intro _;rfl) hst (by rfl))) (aV fB J J fun b7=>aq (k:=7) fB J J J J J J (av J (ab J (bp J (ax kw J (aL 0 t3 J J J J ?_)))))))))))))));refine ap J J a_ (bp J (ax kw J (aw (k:=0) t3 J J J J J J J J (av J (ab J (ab J (bp J (ax mr J (aL 0 t4 J J J J (ab J (aF [] J J O (fun hg2=>aX J) J (aF [(29,_)] J J ⟨J,O⟩ (fun hg3=>aU J J fU) J (aH (bw J J J) (bp J (ax mr J (aw (k:=0) t4 J J J J J J J J (aa ?_)))))))))))))))));refine bq (X:=Unit) (fun _=>True) (fun _=> [(0,Pt c),(2,I6 (d:Int)),(10,sv v),(11,I6 (l.length:Int)),(12,I6 (i:Int)),(7,Pt b7)]) (fun _=> [(0,aP c 165 (cR vp vn (nd+(d9 (l.take i):Int)+1) (va+(dA (l.take i):Int)+(if st.kind=1 then 1 else 0:Int)) (dp || db d (l.take i) || decide (d>8)) er)),(7,aP b7 64 (iK st))]) (fun _=> [(0,cm v l),(1,sl 5 iK (sv v) l),(7,cx st.ve st.es),(8,cm st.vb st.body),(9,cm st.vl st.els),(10,sl 4 gg (sv st.ve) st.es)]) ?_ (fun _ _=> ?_)
  ·refine ak (ax iv J (aL 7 t3 J J J J (ap J J bc (aa (ah J (fun h4=> ?_) (fun h4=> ?_))))))
   ·have q1:st.kind=1:=de h4;refine aj (ab J (bp J (ax oh J (aL 0 t3 J J J J (ap J J a_ (bp J (ax oh J (aw (k:=0) t3 J J J J J J J J (aa (aI () O J (by rw [show decide (d>8)=decide ((d:Int)>8)from decide_eq_decide.2 (by omega),ao q1];rfl) J))))))))))
   ·have q1:¬st.kind=1:=eW h4;refine az (aI () O J (by rw [show decide (d>8)=decide ((d:Int)>8)from decide_eq_decide.2 (by omega),ac q1,Int.add_zero];rfl) J)
  ·refine aS (ax m5 J (aL 7 nQ J J J J (aH (aZ underlying59 J (aQ (k:=10) J)) (ab J (aa (aC ?_))))));refine bG (X:=Nat) (fun j=>j≤st.es.length) (fun j=> [(0,Pt c),(2,I6 (d:Int)),(10,sv v),(11,I6 (l.length:Int)),(12,I6 (i:Int)),(7,Pt b7),(45,sv st.ve),(46,I6 (st.es.length:Int)),(47,I6 (j:Int))]) (fun j=> [(0,aP c 165 (cR vp vn (nd+(d9 (l.take i):Int)+1+(fM (st.es.take j):Int)) (va+(dA (l.take i):Int)+(if st.kind=1 then 1 else 0:Int)) (dp || db d (l.take i) || decide (d>8) || decide (gJ (st.es.take j)>8)) er)),(7,aP b7 64 (iK st))]) (fun j=> [(0,cm v l),(1,sl 5 iK (sv v) l),(7,cx st.ve st.es),(8,cm st.vb st.body),(9,cm st.vl st.els),(10,sl 4 gg (sv st.ve) st.es)]) (fun j=>st.es.length-j) 0 (bB _) J (by rw [show(dp || db d (l.take i) || decide (d>8) || decide (gJ (st.es.take 0)>8))=(dp || db d (l.take i) || decide (d>8)) by simp [gJ],show nd+(d9 (l.take i):Int)+1+(fM (st.es.take 0):Int)=nd+(d9 (l.take i):Int)+1 by simp [fM]];rfl) J (fun j n2=> ?_);refine ak (ap J J cL (aa (aW (ah J (fun h5=> ?_) (fun h5=> ?_)))))
   ·(try simp only [aY]at h5);have hj:j<st.es.length:=by omega
    obtain⟨kid,hkid⟩:∃k,st.es[j]?=some k:=⟨_,bV hj⟩
    have hkm:=cO hkid;have hlx:=wB st.es (j+1);rw [jX hkid]at hlx;have hdx:=CJ kid;refine az (aW (aC (ak (aH (aR (j:=j) underlying59 dn J J (aQ (k:=10) J) (by first|rfl|omega) (by first|omega|(simp;done)|(simp;omega))) (aH (aM dn J J J (ci (aQ (k:=10) J) (by intro _;rfl) hkid (by rfl))) (aV dn J J fun b9=>aq (k:=9) dn J J J J J J (aa (aj (ab J (aH (aM dn J J J (bi (k:=9) J)) (bs 7 12 J (fh hkm) (ae (xs:= [.tmp 51,.tmp 52]) (zZ c vp vn (va+(dA (l.take i):Int)+(if st.kind=1 then 1 else 0:Int)) er kid (hsg.2.mem kid hkm) (nd+(d9 (l.take i):Int)+1+(fM (st.es.take j):Int)) (dp || db d (l.take i) || decide (d>8) || decide (gJ (st.es.take j)>8)) (by omega) (by omega)) Ge [0] [(false,12)] [0] (fun _ _=>aa (aj (ap J J a_ (ab J (aa ?_)))))))))))))))));refine aI (j+1) ⟨by omega,by omega⟩ J (by rw [p_ hkid,jX hkid,←yZ,←Bool.or_assoc,Int.natCast_add,←Int.add_assoc];rfl) J
   ·(try simp only [aY]at h5);have hj:j=st.es.length:=by omega
    subst hj;rw [eo];refine bK (ak (ab J (ax jj J (aL 7 nP J J J J (ab J (ap J J a_ (ae (xs:= [.tmp 55,.tmp 57,.tmp 59]) ((ih st hsm).1 (d+1) (nd+(d9 (l.take i):Int)+1+(fM st.es:Int)) (va+(dA (l.take i):Int)+(if st.kind=1 then 1 else 0:Int)) (dp || db d (l.take i) || decide (d>8) || decide (gJ st.es>8)) (by omega) (by omega) (by omega) (by omega) (by omega)) C1 [0] [(false,8)] [0] (fun _ _=>aa (aj (ab J (ax ji J (aL 7 nP J J J J (ab J (ap J J a_ (ae (xs:= [.tmp 61,.tmp 63,.tmp 65]) ((ih st hsm).2 (d+1) (nd+(d9 (l.take i):Int)+1+(fM st.es:Int)+(d9 st.body:Int)) (va+(dA (l.take i):Int)+(if st.kind=1 then 1 else 0:Int)+(dA st.body:Int)) (dp || db d (l.take i) || decide (d>8) || decide (gJ st.es>8) || db (d+1) st.body) (by omega) (by omega) (by omega) (by omega) (by omega)) C1 [0] [(false,9)] [0] (fun _ _=>aa (aj (ap J J a_ ?_))))))))))))))))));refine ab J (aa ?_);have hfin:cR vp vn (nd+(d9 (l.take i):Int)+1+(fM st.es:Int)+(d9 st.body:Int)+(d9 st.els:Int)) (va+(dA (l.take i):Int)+(if st.kind=1 then 1 else 0:Int)+(dA st.body:Int)+(dA st.els:Int)) (dp || db d (l.take i) || decide (d>8) || decide (gJ st.es>8) || db (d+1) st.body || db (d+1) st.els) er=cR vp vn (nd+(d9 (l.take (i+1)):Int)) (va+(dA (l.take (i+1)):Int)) (dp || db d (l.take (i+1))) er:=by
     rw [o9 hst,lS hst,Ah hst,Id,Hh]
     congr 1
     ·omega
     ·rw [Int.natCast_add,hvy2];omega
    refine aI (i+1) ⟨by omega,by omega⟩ J (by rw [←hfin];rfl) J
 ·(try simp only [aY]at h1);have hi:i=l.length:=by omega
  subst hi;rw [eo];refine bK (bN () O J fi J [0] [] J J J)
theorem na(c:Nat)(vp vn:SV)(er:Int):∀(n:Nat)(v:SV)(l:List Ty),SizeOf.sizeOf l<n→l.length≤1000000→GYs l→LT c vp vn er v l
 | 0,_,_,h,_,_=>absurd h (Nat.not_lt_zero _)
 | n+1,v,l,h,hl,hg=>xl c vp vn er v l hl hg fun u hu=>by
  have h1:=List.sizeOf_lt_of_mem hu;have h2:SizeOf.sizeOf u.body<SizeOf.sizeOf u∧SizeOf.sizeOf u.els<SizeOf.sizeOf u:=by
   cases u;simp only [Ty.mk.sizeOf_spec,Ty.body,Ty.els];omega
  have h3:=hg.mem u hu;exact⟨na c vp vn er n u.vb u.body (by omega) (gu h3).1 (gu h3).2,na c vp vn er n u.vl u.els (by omega) (iO h3).1 (iO h3).2⟩
theorem xm(c:Nat)(vp vn:SV)(er:Int)(v:SV)(l:List Ty)(hl:l.length≤1000000)(hg:GYs l):LT c vp vn er v l:=na c vp vn er _ v l (Nat.lt_succ_self _) hl hg
def nE(fs:List Tf)(ns:List Ba)(t:Tx):Int:=if t.kind=2 then(if cU t.name ns=true then 0 else 21)else if t.kind=3 then(match cK fs t.name with
   | none=>21
   | some f=>if f.ps.length=t.kids.length then 0 else 23)else 0
theorem FZ(fs:List Tf)(ns:List Ba)(t:Tx):eX fs ns t=fst (nE fs ns t) (ju fs ns t.kids):=by cases t;rfl
theorem yY(fs:List Tf)(ns:List Ba):∀a b:List Tx,ju fs ns (a++b)=fst (ju fs ns a) (ju fs ns b)
 | [],b=>rfl
 | t::r,b=>by rw [List.cons_append,ju,yY fs ns r b,ju,fp]
theorem uP{fs:List Tf}{ns:List Ba}{l:List Tx}{i:Nat}{k:Tx}(h:l[i]?=some k):ju fs ns (l.take (i+1))=fst (ju fs ns (l.take i)) (eX fs ns k):=by
 rw [cn h,yY];show fst _ (fst (eX fs ns k) 0)=_;rw [dD]
theorem Mt{fs:List Tf}{ns:List Ba}{t:Tx}(h:t.kind=2):nE fs ns t=if cU t.name ns=true then 0 else 21:=ao h
theorem yi{fs:List Tf}{ns:List Ba}{t:Tx}(h:t.kind=3)(hf:cK fs t.name=none):nE fs ns t=21:=by
 unfold nE;rw [ac (by omega),ao h,hf]
theorem sV{fs:List Tf}{ns:List Ba}{t:Tx}{f:Tf}(h:t.kind=3)(hf:cK fs t.name=some f):nE fs ns t=if f.ps.length=t.kids.length then 0 else 23:=by
 unfold nE;rw [ac (by omega),ao h,hf]
theorem Mu{fs:List Tf}{ns:List Ba}{t:Tx}(h2:¬t.kind=2)(h3:¬t.kind=3):nE fs ns t=0:=by
 unfold nE;rw [ac h2,ac h3]
def aE(ns:List Ba)(t:Ty):Int:=if t.kind=2 then(if cU t.name ns=true then 0 else 21)else 0
def dE(ns:List Ba)(t:Ty):Int:=if t.kind=1 then(if cU t.name ns=true then 22 else 0)else 0
def dN(ns:List Ba)(t:Ty):List Ba:=if t.kind=1 then ns++ [t.name]else ns
theorem Gq(fs:List Tf)(ns:List Ba)(t:Ty):bY fs ns t=((dx fs (dx fs (dN ns t) t.body).1 t.els).1,fst (aE ns t) (fst (ju fs ns t.es) (fst (dE ns t) (fst (dx fs (dN ns t) t.body).2 (dx fs (dx fs (dN ns t) t.body).1 t.els).2)))):=by cases t;rfl
theorem zc(fs:List Tf):∀(ns:List Ba)(a b:List Ty),dx fs ns (a++b)=((dx fs (dx fs ns a).1 b).1,fst (dx fs ns a).2 (dx fs (dx fs ns a).1 b).2)
 | ns,[],b=>rfl
 | ns,t::r,b=>by
  rw [List.cons_append,dx,zc fs _ r b,dx];simp only [fp]
theorem Df{fs:List Tf}{ns:List Ba}{l:List Ty}{i:Nat}{k:Ty}(h:l[i]?=some k):dx fs ns (l.take (i+1))=((bY fs (dx fs ns (l.take i)).1 k).1,fst (dx fs ns (l.take i)).2 (bY fs (dx fs ns (l.take i)).1 k).2):=by
 rw [cn h,zc];show((bY fs _ k).1,fst _ (fst (bY fs _ k).2 0))=_;rw [dD]
mutual
theorem Iu(fs:List Tf):∀(ns:List Ba)(t:Ty),(bY fs ns t).1.length=ns.length+vY t
 | ns,.mk k nm _ es _ body _ els=>by
  show(dx fs (dx fs (if k=1 then ns++ [nm]else ns) body).1 els).1.length=_;rw [mD fs _ els,mD fs _ body,vY];split<;>simp<;>omega
theorem mD(fs:List Tf):∀(ns:List Ba)(l:List Ty),(dx fs ns l).1.length=ns.length+dA l
 | ns,[]=>by simp [dx,dA]
 | ns,t::r=>by
  show(dx fs (bY fs ns t).1 r).1.length=_;rw [mD fs _ r,Iu fs ns t,dA];omega
end
theorem nh{l:List Ty}{i:Nat}{k:Ty}(h:l[i]?=some k):dA (l.take i)+vY k≤dA l:=by
 have h2:=nK (l.take (i+1)) (l.drop (i+1));rw [List.take_append_drop,lS h]at h2;omega
theorem CM(ns:List Ba)(t:Ty):(dN ns t).length=ns.length+if t.kind=1 then 1 else 0:=by
 unfold dN;split
 ·simp
 ·rfl
theorem xt(c:Nat)(vp vn:SV)(nd va:Int)(dp:Bool)(fs:List Tf)(hfl:fs.length≤1000000)(ns:List Ba)(hns:ns.length≤1000000)(t:Tx)(ht:GX t)(ih:∀u∈t.kids,∀er:Int,Spec prog 166 [Pt c,xV u] [aP c 165 (cR vp vn nd va dp er),own 9 1 eS (sv vn) ns] [cx u.v u.kids,fA vp fs] (X:=Unit) (fun _=>True) (fun _=> .tuple #[]) (fun _=> [aP c 165 (cR vp vn nd va dp (fst er (eX fs ns u))),own 9 1 eS (sv vn) ns]) (fun _=> []))(er:Int):
  aO prog 166 [Pt c,xV t] [aP c 165 (cR vp vn nd va dp (er)),own 9 1 eS (sv vn) (ns)] [cx t.v t.kids,fA vp fs] (.tuple #[]) [aP c 165 (cR vp vn nd va dp (fst er (eX fs ns t))),own 9 1 eS (sv vn) (ns)]:=by
 refine au func166 J ntmps166 J fun w0 M H=> ?_
 have hkl:=tx ht;refine bs 0 2 J jK (bs 1 3 J sc (ak (cz J J fun b3=>aa (bq (X:=Unit) (fun _=>True) (fun _=> [(0,Pt c),(3,Pt b3)]) (fun _=> [(0,aP c 165 (cR vp vn nd va dp (fst er (nE fs ns t)))),(1,own 9 1 eS (sv vn) (ns)),(3,aP b3 61 (gg t))]) (fun _=> [(0,cx t.v t.kids),(1,fA vp fs),(2,sl 4 gg (sv t.v) t.kids),(3,sl 3 oq (sv vp) fs)]) ?_ (fun _ _=> ?_)))))
 ·refine ak (ax m6 J (aL 3 t3 J J J J (aa (aC (ak (ap J J bc (am J (aa (ah J (fun h1=> ?_) (fun h1=> ?_))))))))))
  ·have q2:t.kind=2:=de h1;refine aj (ab J (ax fe J (aL 3 t9 J J J J (ae (xs:= [.tmp 11,.tmp 13]) (rS c vp vn nd va dp er ns hns t.name) Gd [0,1] [] [0,1] (fun _ _=>aa (aI () O J (by rw [Mt q2];rfl) J))))))
  ·have q2:¬t.kind=2:=eW h1;refine ak (ap J J bc (am J (aa (ah J (fun h2=> ?_) (fun h2=> ?_)))))
   ·have q3:t.kind=3:=de h2;refine ak (ab J (ax fe J (aL 3 t9 J J J J (ae (xs:= [.tmp 17,.tmp 19]) (lG c vp vn nd va dp er t.name fs hfl) Im [0] [(false,3)] [0] (fun _ _=>am J (av J (ab J (ap J J cL (aa (ah J (fun h3=> ?_) (fun h3=> ?_)))))))))))
    ·have hff:cK fs t.name=none:=hQ.1.1 (de h3);refine aj (ab J (ae (xs:= [.tmp 23,.const (I6 21)]) (ix c vp vn nd va dp er 21) u4 [0] [] [0] (fun _ _=>aa (aI () O J (by rw [yi q3 hff];rfl) J))))
    ·obtain⟨f,hff⟩:∃f,cK fs t.name=some f:=by
      cases hf:cK fs t.name with
      | none=>exact absurd (hQ.1.2 hf) (eW h3)
      | some f=>exact⟨f,rfl⟩
     obtain⟨j,hj1,hj2⟩:=hQ.2 f hff;have hjl:=(cC.1 hj2).1;rw [hj1];refine bs 1 7 J (xL (i6 hff)) (bs 7 9 J tJ (aW (ce [25,26,27,28,29,30,31,32,33,34,35,36,37,38] _ J (br (V:= [(0,25,_),(1,26,_),(2,27,_),(3,28,_),(4,29,_),(5,30,_),(6,31,_),(7,32,_),(8,33,_),(9,34,_),(10,35,_),(11,36,_),(12,37,_),(13,38,_)]) [0,1,2,3,4,5,6,7,8,9,10,11,12,13] J J (aJ J J (ad J (aA J) (ad J (ai yQ J) (ad J (ai iw J) (ad J (ag AX J J (aB (k:=0) J J)) (aJ J J (ad J (aR (j:=j) underlying25 mE J J (aQ (k:=3) J) J hjl) (ad J (cH fO J) (ad J (ag oD J J (gQ (aQ (k:=3) J) (by intro _;rfl) hj2 J)) (ad J (aZ underlying46 J (aQ (k:=9) J)) (ad J (ai eT J) (ad J (ag nQ J J (aB (k:=3) J J)) (ad J (aZ underlying59 J (aQ (k:=2) J)) (ad J (aU J J ga) ay)))))))))))))) J J J (ah J (fun h4=> ?_) (fun h4=> ?_))))))
     ·have hne:¬f.ps.length=t.kids.length:=fun e=>by rw [e]at h4;simp at h4
      refine aj (ab J (ae (xs:= [.tmp 39,.const (I6 23)]) (ix c vp vn nd va dp er 23) u4 [0] [] [0] (fun _ _=>aa (aI () O J (by rw [sV q3 hff,ac hne];rfl) J))))
     ·have hne:f.ps.length=t.kids.length:=by
       have:=h4;simp only [Bool.not_eq_false',decide_eq_true_eq]at this;omega
      refine az (aI () O J (by rw [sV q3 hff,ao hne,dD];rfl) J)
   ·have q3:¬t.kind=3:=eW h2;refine az (aI () O J (by rw [Mu q2 q3,dD];rfl) J)
 ·refine ak (ax eT J (aL 3 nQ J J J J (aH (aZ underlying59 J (aQ (k:=2) J)) (ab J (aa (aC ?_))))));refine bG (X:=Nat) (fun i=>i≤t.kids.length) (fun i=> [(0,Pt c),(3,Pt b3),(42,sv t.v),(43,I6 (t.kids.length:Int)),(44,I6 (i:Int))]) (fun i=> [(0,aP c 165 (cR vp vn nd va dp (fst er (fst (nE fs ns t) (ju fs ns (t.kids.take i)))))),(1,own 9 1 eS (sv vn) (ns)),(3,aP b3 61 (gg t))]) (fun i=> [(0,cx t.v t.kids),(1,fA vp fs),(2,sl 4 gg (sv t.v) t.kids),(3,sl 3 oq (sv vp) fs)]) (fun i=>t.kids.length-i) 0 (bB _) J (by rw [show ju fs ns (t.kids.take 0)=0 by simp [ju],dD];rfl) J (fun i n1=> ?_);refine ak (ap J J cL (aa (aW (ah J (fun h5=> ?_) (fun h5=> ?_)))))
  ·(try simp only [aY]at h5);have hi:i<t.kids.length:=by omega
   obtain⟨kid,hkid⟩:∃k,t.kids[i]?=some k:=⟨_,bV hi⟩
   have hkm:=cO hkid;refine az (aW (aC (ak (aH (aR (j:=i) underlying59 dn J J (aQ (k:=2) J) (by first|rfl|omega) (by first|omega|(simp;done)|(simp;omega))) (aH (aM dn J J J (ci (aQ (k:=2) J) (by intro _;rfl) hkid (by rfl))) (aV dn J J fun b6=>aq (k:=6) dn J J J J J J (aa (aj (ab J (aH (aM dn J J J (bi (k:=6) J)) (bs 0 8 J (fh hkm) (ae (xs:= [.tmp 48,.tmp 49]) (ih kid hkm (fst er (fst (nE fs ns t) (ju fs ns (t.kids.take i))))) Gc [0,1] [(false,8),(false,1)] [0,1] (fun _ _=>aa (aj (ap J J a_ (ab J (aa ?_)))))))))))))))));refine aI (i+1) ⟨by omega,by omega⟩ J (by rw [uP hkid];simp only [fp];rfl) J
  ·(try simp only [aY]at h5);have hi:i=t.kids.length:=by omega
   subst hi;rw [eo,←FZ];refine bK (bN () O J fi J [0,1] [] J J J)
theorem rW(c:Nat)(vp vn:SV)(nd va:Int)(dp:Bool)(fs:List Tf)(hfl:fs.length≤1000000)(ns:List Ba)(hns:ns.length≤1000000):∀(n:Nat)(t:Tx),SizeOf.sizeOf t<n→GX t→∀er:Int,aO prog 166 [Pt c,xV t] [aP c 165 (cR vp vn nd va dp er),own 9 1 eS (sv vn) ns] [cx t.v t.kids,fA vp fs] (.tuple #[]) [aP c 165 (cR vp vn nd va dp (fst er (eX fs ns t))),own 9 1 eS (sv vn) ns]
 | 0,_,h,_=>absurd h (Nat.not_lt_zero _)
 | n+1,t,h,ht=>xt c vp vn nd va dp fs hfl ns hns t ht fun u hu=>rW c vp vn nd va dp fs hfl ns hns n u (by have:=xJ hu;omega) ((ot ht).mem u hu)
theorem xu(c:Nat)(vp vn:SV)(nd va:Int)(dp:Bool)(fs:List Tf)(hfl:fs.length≤1000000)(ns:List Ba)(hns:ns.length≤1000000)(t:Tx)(ht:GX t)(er:Int):aO prog 166 [Pt c,xV t] [aP c 165 (cR vp vn nd va dp er),own 9 1 eS (sv vn) ns] [cx t.v t.kids,fA vp fs] (.tuple #[]) [aP c 165 (cR vp vn nd va dp (fst er (eX fs ns t))),own 9 1 eS (sv vn) ns]:=rW c vp vn nd va dp fs hfl ns hns _ t (Nat.lt_succ_self _) ht er
theorem uW(c:Nat)(vp vn:SV)(nd va:Int)(dp:Bool)(fs:List Tf)(hfl:fs.length≤1000000)(v:SV)(l:List Ty)(hl:l.length≤1000000)(hg:GYs l)(ihb:∀u∈l,(∀(vn:SV)(ns:List Ba)(er:Int),ns.length+dA u.body≤1000000→Spec prog 129 [Pt c,sv u.vb] [aP c 165 (cR vp vn nd va dp er),own 9 1 eS (sv vn) ns] [cm u.vb u.body,fA vp fs] (X:=SV) (fun _=>True) (fun _=> .tuple #[]) (fun x=> [aP c 165 (cR vp x nd va dp (fst er (dx fs ns u.body).2)),own 9 1 eS (sv x) (dx fs ns u.body).1]) (fun _=> [])))(ihe:∀u∈l,(∀(vn:SV)(ns:List Ba)(er:Int),ns.length+dA u.els≤1000000→Spec prog 129 [Pt c,sv u.vl] [aP c 165 (cR vp vn nd va dp er),own 9 1 eS (sv vn) ns] [cm u.vl u.els,fA vp fs] (X:=SV) (fun _=>True) (fun _=> .tuple #[]) (fun x=> [aP c 165 (cR vp x nd va dp (fst er (dx fs ns u.els).2)),own 9 1 eS (sv x) (dx fs ns u.els).1]) (fun _=> [])))(ns:List Ba)(er:Int)(hnv:ns.length+dA l≤1000000):
  Spec prog 129 [Pt c,sv v] [aP c 165 (cR vp vn nd va dp (er)),own 9 1 eS (sv vn) (ns)] [cm v l,fA vp fs] (X:=SV) (fun _=>True) (fun _=> .tuple #[]) (fun x=> [aP c 165 (cR vp x nd va dp (fst er (dx fs ns l).2)),own 9 1 eS (sv x) ((dx fs ns l).1)]) (fun _=> []):=by
 refine au func129 J ntmps129 J fun w0 M H=>bs 0 2 J jI (ak (ab J (aH (aZ underlying62 J (aQ (k:=2) J)) (ab J (aa (aC (bG (X:=Nat×SV) (fun x=>x.1≤l.length) (fun x=> [(0,Pt c),(8,sv v),(9,I6 (l.length:Int)),(10,I6 (x.1:Int))]) (fun x=> [(0,aP c 165 (cR vp x.2 nd va dp (fst er (dx fs ns (l.take x.1)).2))),(1,own 9 1 eS (sv x.2) ((dx fs ns (l.take x.1)).1))]) (fun x=> [(0,cm v l),(1,fA vp fs),(2,sl 5 iK (sv v) l)]) (fun x=>l.length-x.1) (0,vn) (bB _) J (by rw [show fst er (dx fs ns (l.take (0,vn).1)).2=er from dD er];rfl) J (fun x n1=> ?_))))))))
 obtain⟨i,vx⟩:=x;dsimp only at n1 ⊢;refine ak (ap J J cL (aa (aW (ah J (fun h1=> ?_) (fun h1=> ?_)))))
 ·(try simp only [aY]at h1);have hi:i<l.length:=by omega
  obtain⟨st,hst⟩:∃k,l[i]?=some k:=⟨_,bV hi⟩
  have hsm:=cO hst;have hsy:=hg.mem st hsm;have hsg:=vu hsy;have hbl:=mD fs ns (l.take i);have hvt:=nh hst;have hve:=AT st;have hni:(dx fs ns (l.take i)).1.length≤1000000:=by omega
  refine bs 0 7 J (sa hsm) (bs 0 8 J (jJ hsm) (bs 0 9 J (lU hsm) (bs 7 10 J jK (az (aW (aC (ak (aH (aR (j:=i) underlying62 fB J J (aQ (k:=2) J) (by first|rfl|omega) (by first|omega|(simp;done)|(simp;omega))) (aH (aM fB J J J (ci (aQ (k:=2) J) (by intro _;rfl) hst (by rfl))) (aV fB J J fun b5=>aq (k:=5) fB J J J J J J (aa (bq (X:=Unit) (fun _=>True) (fun _=> [(0,Pt c),(8,sv v),(9,I6 (l.length:Int)),(10,I6 (i:Int)),(5,Pt b5)]) (fun _=> [(0,aP c 165 (cR vp vx nd va dp (fst (fst er (dx fs ns (l.take i)).2) (aE ((dx fs ns (l.take i)).1) st)))),(1,own 9 1 eS (sv vx) ((dx fs ns (l.take i)).1)),(5,aP b5 64 (iK st))]) (fun _=> [(0,cm v l),(1,fA vp fs),(2,sl 5 iK (sv v) l),(7,cx st.ve st.es),(8,cm st.vb st.body),(9,cm st.vl st.els),(10,sl 4 gg (sv st.ve) st.es)]) ?_ (fun _ _=> ?_)))))))))))))
  ·refine ak (ax iv J (aL 5 t3 J J J J (ap J J bc (aa (ah J (fun h2=> ?_) (fun h2=> ?_))))))
   ·have q2:st.kind=2:=de h2;refine aj (ab J (ax lz J (aL 5 t9 J J J J (ae (xs:= [.tmp 17,.tmp 19]) (rS c vp vx nd va dp (fst er (dx fs ns (l.take i)).2) ((dx fs ns (l.take i)).1) hni st.name) Gd [0,1] [] [0,1] (fun _ _=>aa (aI () O J (by unfold aE;rw [ao q2];rfl) J))))))
   ·have q2:¬st.kind=2:=eW h2;refine az (aI () O J (by unfold aE;rw [ac q2,dD];rfl) J)
  ·refine aS (ax m5 J (aL 5 nQ J J J J (aH (aZ underlying59 J (aQ (k:=10) J)) (ab J (aa (aC ?_))))));refine bG (X:=Nat) (fun j=>j≤st.es.length) (fun j=> [(0,Pt c),(8,sv v),(9,I6 (l.length:Int)),(10,I6 (i:Int)),(5,Pt b5),(22,sv st.ve),(23,I6 (st.es.length:Int)),(24,I6 (j:Int))]) (fun j=> [(0,aP c 165 (cR vp vx nd va dp (fst (fst (fst er (dx fs ns (l.take i)).2) (aE ((dx fs ns (l.take i)).1) st)) (ju fs ((dx fs ns (l.take i)).1) (st.es.take j))))),(1,own 9 1 eS (sv vx) ((dx fs ns (l.take i)).1)),(5,aP b5 64 (iK st))]) (fun j=> [(0,cm v l),(1,fA vp fs),(2,sl 5 iK (sv v) l),(7,cx st.ve st.es),(8,cm st.vb st.body),(9,cm st.vl st.els),(10,sl 4 gg (sv st.ve) st.es)]) (fun j=>st.es.length-j) 0 (bB _) J (by rw [show ju fs ((dx fs ns (l.take i)).1) (st.es.take 0)=0 by simp [ju],dD];rfl) J (fun j n2=> ?_);refine ak (ap J J cL (aa (aW (ah J (fun h3=> ?_) (fun h3=> ?_)))))
   ·(try simp only [aY]at h3);have hj:j<st.es.length:=by omega
    obtain⟨kid,hkid⟩:∃k,st.es[j]?=some k:=⟨_,bV hj⟩
    have hkm:=cO hkid;refine az (aW (aC (ak (aH (aR (j:=j) underlying59 dn J J (aQ (k:=10) J) (by first|rfl|omega) (by first|omega|(simp;done)|(simp;omega))) (aH (aM dn J J J (ci (aQ (k:=10) J) (by intro _;rfl) hkid (by rfl))) (aV dn J J fun b7=>aq (k:=7) dn J J J J J J (aa (aj (ab J (aH (aM dn J J J (bi (k:=7) J)) (bs 7 12 J (fh hkm) (ae (xs:= [.tmp 28,.tmp 29]) (xu c vp vx nd va dp fs hfl ((dx fs ns (l.take i)).1) hni kid (hsg.2.mem kid hkm) (fst (fst (fst er (dx fs ns (l.take i)).2) (aE ((dx fs ns (l.take i)).1) st)) (ju fs ((dx fs ns (l.take i)).1) (st.es.take j)))) Gc [0,1] [(false,12),(false,1)] [0,1] (fun _ _=>aa (aj (ap J J a_ (ab J (aa ?_)))))))))))))))));refine aI (j+1) ⟨by omega,by omega⟩ J (by rw [uP hkid];simp only [fp];rfl) J
   ·(try simp only [aY]at h3);have hj:j=st.es.length:=by omega
    subst hj;rw [eo];refine bK (bq (X:=SV) (fun _=>True) (fun vd=> [(0,Pt c),(8,sv v),(9,I6 (l.length:Int)),(10,I6 (i:Int)),(5,Pt b5)]) (fun vd=> [(0,aP c 165 (cR vp vd nd va dp (fst (fst (fst (fst er (dx fs ns (l.take i)).2) (aE ((dx fs ns (l.take i)).1) st)) (ju fs ((dx fs ns (l.take i)).1) (st.es))) (dE ((dx fs ns (l.take i)).1) st)))),(1,own 9 1 eS (sv vd) (dN ((dx fs ns (l.take i)).1) st)),(5,aP b5 64 (iK st))]) (fun vd=> [(0,cm v l),(1,fA vp fs),(2,sl 5 iK (sv v) l),(7,cx st.ve st.es),(8,cm st.vb st.body),(9,cm st.vl st.els),(10,sl 4 gg (sv st.ve) st.es)]) ?_ (fun vd _=> ?_))
    ·refine ak (ax iv J (aL 5 t3 J J J J (ap J J bc (aa (ah J (fun h4=> ?_) (fun h4=> ?_))))))
     ·have q1:st.kind=1:=de h4;refine aj (ab J (ax lz J (aL 5 t9 J J J J (ae (xs:= [.tmp 35,.tmp 37]) (qf c vp vx nd va dp (fst (fst (fst er (dx fs ns (l.take i)).2) (aE ((dx fs ns (l.take i)).1) st)) (ju fs ((dx fs ns (l.take i)).1) (st.es))) ((dx fs ns (l.take i)).1) hni st.name) Gl [0,1] [] [0,1] (fun vd _=>aa (aI vd O J (by unfold dE dN;rw [ao q1,ao q1];rfl) J))))))
     ·have q1:¬st.kind=1:=eW h4;refine az (aI vx O J (by unfold dE dN;rw [ac q1,ac q1,dD];rfl) J)
    ·refine ak (ab J (ax jj J (aL 5 nP J J J J (ae (xs:= [.tmp 39,.tmp 41]) (ihb st hsm vd (dN ((dx fs ns (l.take i)).1) st) (fst (fst (fst (fst er (dx fs ns (l.take i)).2) (aE ((dx fs ns (l.take i)).1) st)) (ju fs ((dx fs ns (l.take i)).1) (st.es))) (dE ((dx fs ns (l.take i)).1) st)) (by rw [CM];omega)) C0 [0,1] [(false,8),(false,1)] [0,1] (fun v1 _=>aa (aj (ab J (ax ji J (aL 5 nP J J J J (ae (xs:= [.tmp 43,.tmp 45]) (ihe st hsm v1 (dx fs (dN ((dx fs ns (l.take i)).1) st) st.body).1 (fst (fst (fst (fst (fst er (dx fs ns (l.take i)).2) (aE ((dx fs ns (l.take i)).1) st)) (ju fs ((dx fs ns (l.take i)).1) (st.es))) (dE ((dx fs ns (l.take i)).1) st)) (dx fs (dN ((dx fs ns (l.take i)).1) st) st.body).2) (by rw [mD,CM];omega)) C0 [0,1] [(false,9),(false,1)] [0,1] (fun v2 _=>aa (aj (ap J J a_ (ab J (aa ?_)))))))))))))));refine aI (i+1,v2) ⟨by dsimp only;omega,by dsimp only;omega⟩ J (by dsimp only;rw [Df hst,Gq];simp only [fp];rfl) J
 ·(try simp only [aY]at h1);have hi:i=l.length:=by omega
  subst hi;rw [eo];refine bK (bN vx O J fi J [0,1] [] J J J)
theorem lH(c:Nat)(vp:SV)(nd va:Int)(dp:Bool)(fs:List Tf)(hfl:fs.length≤1000000):∀(n:Nat)(v:SV)(l:List Ty),SizeOf.sizeOf l<n→l.length≤1000000→GYs l→(∀(vn:SV)(ns:List Ba)(er:Int),ns.length+dA l≤1000000→Spec prog 129 [Pt c,sv v] [aP c 165 (cR vp vn nd va dp er),own 9 1 eS (sv vn) ns] [cm v l,fA vp fs] (X:=SV) (fun _=>True) (fun _=> .tuple #[]) (fun x=> [aP c 165 (cR vp x nd va dp (fst er (dx fs ns l).2)),own 9 1 eS (sv x) (dx fs ns l).1]) (fun _=> []))
 | 0,_,_,h,_,_=>absurd h (Nat.not_lt_zero _)
 | n+1,v,l,h,hl,hg=>fun vn ns er hnv=>by
  have key:∀u∈l,SizeOf.sizeOf u.body<n∧SizeOf.sizeOf u.els<n:=fun u hu=>by
   have h1:=List.sizeOf_lt_of_mem hu;have h2:SizeOf.sizeOf u.body<SizeOf.sizeOf u∧SizeOf.sizeOf u.els<SizeOf.sizeOf u:=by
    cases u;simp only [Ty.mk.sizeOf_spec,Ty.body,Ty.els];omega
   omega
  exact uW c vp vn nd va dp fs hfl v l hl hg (fun u hu=>lH c vp nd va dp fs hfl n u.vb u.body (key u hu).1 (gu (hg.mem u hu)).1 (gu (hg.mem u hu)).2) (fun u hu=>lH c vp nd va dp fs hfl n u.vl u.els (key u hu).2 (iO (hg.mem u hu)).1 (iO (hg.mem u hu)).2) ns er hnv
theorem uZ(c:Nat)(vp:SV)(nd va:Int)(dp:Bool)(fs:List Tf)(hfl:fs.length≤1000000)(v:SV)(l:List Ty)(hl:l.length≤1000000)(hg:GYs l):(∀(vn:SV)(ns:List Ba)(er:Int),ns.length+dA l≤1000000→Spec prog 129 [Pt c,sv v] [aP c 165 (cR vp vn nd va dp er),own 9 1 eS (sv vn) ns] [cm v l,fA vp fs] (X:=SV) (fun _=>True) (fun _=> .tuple #[]) (fun x=> [aP c 165 (cR vp x nd va dp (fst er (dx fs ns l).2)),own 9 1 eS (sv x) (dx fs ns l).1]) (fun _=> [])):=lH c vp nd va dp fs hfl _ v l (Nat.lt_succ_self _) hl hg
theorem y0:∀(ns a b:List Ba),tB ns (a++b)=fst (tB ns a) (tB (ns++a) b)
 | ns,[],b=>by simp [tB,fst]
 | ns,x::r,b=>by
  rw [List.cons_append,tB,y0 (ns++ [x]) r b,tB,fp,List.append_assoc];rfl
theorem CD{l:List Ba}{i:Nat}{x:Ba}(h:l[i]?=some x):tB [] (l.take (i+1))=fst (tB [] (l.take i)) (if cU x (l.take i)=true then 22 else 0):=by
 rw [cn h,y0];show fst _ (fst (if cU x ([]++l.take i)=true then 22 else 0) 0)=_;rw [dD,List.nil_append]
def u9(f:Tf):Prop:=f.ps.length>4∨f.ps.length+dA f.body>12∨d9 f.body>400∨db 1 f.body=true
instance(f:Tf):Decidable (u9 f):=by unfold u9;exact inferInstance
theorem tq(fs:List Tf)(f:Tf):lD fs f=fst (if u9 f then 2 else 0) (fst (tB [] f.ps) (dx fs f.ps f.body).2):=rfl
theorem Lw{f:Tf}{er:Int}{dp:Bool}(hdp:dp=true→er≠0)(h:(decide ((f.ps.length:Int)>4) || decide ((f.ps.length:Int)+(dA f.body:Int)>12) || decide (0+(d9 f.body:Int)>400) || (dp || db 1 f.body))=true):fst er 2=fst er (if u9 f then 2 else 0):=by
 by_cases hb:u9 f
 ·rw [ao hb]
 ·rw [ac hb,dD];unfold u9 at hb;have hd:dp=true:=by
   cases hd:dp with
   | true=>rfl
   | false=>
    exfalso;apply hb;rw [hd,Bool.false_or]at h;simp only [Bool.or_eq_true,decide_eq_true_eq]at h;rcases h with((h|h)|h)|h
    ·exact .inl (by omega)
    ·exact .inr (.inl (by omega))
    ·exact .inr (.inr (.inl (by omega)))
    ·exact .inr (.inr (.inr h))
  exact ac (hdp hd)
theorem Lx{f:Tf}{er:Int}{dp:Bool}(h:(decide ((f.ps.length:Int)>4) || decide ((f.ps.length:Int)+(dA f.body:Int)>12) || decide (0+(d9 f.body:Int)>400) || (dp || db 1 f.body))=false):er=fst er (if u9 f then 2 else 0):=by
 simp only [Bool.or_eq_false_iff,decide_eq_false_iff_not]at h;have hb:¬u9 f:=by
  unfold u9;rintro (h1|h1|h1|h1)
  ·omega
  ·omega
  ·omega
  ·rw [h.2.2]at h1;cases h1
 rw [ac hb,dD]
theorem CC{fs:List Tf}{f:Tf}{er:Int}{dp:Bool}(hdp:dp=true→er≠0)(h:(dp || db 1 f.body)=true):fst er (lD fs f)≠0:=by
 intro h2;obtain⟨h3,h4⟩:=be.1 h2;rw [tq]at h4;have h5:=(be.1 h4).1;have hb:¬u9 f:=fun hb=>by rw [ao hb]at h5;cases h5
 cases hd:dp with
 | true=>exact hdp hd h3
 | false=>
  rw [hd,Bool.false_or]at h;exact hb (.inr (.inr (.inr h)))
theorem rV(fs:List Tf):∀a b:List Tf,gh fs (a++b)=fst (gh fs a) (gh fs b)
 | [],b=>rfl
 | t::r,b=>by rw [List.cons_append,gh,rV fs r b,gh,fp]
theorem qd{fs l:List Tf}{i:Nat}{f:Tf}(h:l[i]?=some f):gh fs (l.take (i+1))=fst (gh fs (l.take i)) (lD fs f):=by
 rw [cn h,rV];show fst _ (fst (lD fs f) 0)=_;rw [dD]
theorem oT{fs:List Tf}:once fs=true↔∀(i:Nat)(f:Tf),fs[i]?=some f→xc fs f.name=(i:Int):=by
 unfold once;rw [List.all_eq_true];constructor
 ·intro h i f hf;obtain⟨hi,hf2⟩:=cC.1 hf;have:=h i (List.mem_range.2 hi);rw [List.getD_eq_getElem?_getD,hf]at this;simpa using this
 ·intro h i hi;have hi:=List.mem_range.1 hi;have h2:=bV hi;have:=h i _ h2;rw [List.getD_eq_getElem?_getD,h2];simpa using this
theorem Ej{fs:List Tf}{i:Nat}{f:Tf}(hf:fs[i]?=some f)(h:¬xc fs f.name=(i:Int)):once fs=false:=by
 rw [Bool.eq_false_iff];exact fun h2=>h (oT.1 h2 i f hf)
theorem Ko{fs:List Tf}(h:rP fs=false):jn fs=1:=ao h
theorem Kn{fs:List Tf}(h:rP fs=true)(h2:fs.length>16):jn fs=2:=by
 unfold jn;rw [ac (by rw [h];simp),ao h2]
theorem Ig{fs:List Tf}(h:rP fs=true)(h2:¬fs.length>16)(h3:once fs=false):jn fs=22:=by
 unfold jn;rw [ac (by rw [h];simp),ac h2,ao h3]
theorem Ih{fs:List Tf}(h:rP fs=true)(h2:¬fs.length>16)(h3:once fs=true)(h4:cK fs dV=none):jn fs=21:=by
 unfold jn;rw [ac (by rw [h];simp),ac h2,ac (by rw [h3];simp),h4]
theorem If{fs:List Tf}{f:Tf}(h:rP fs=true)(h2:¬fs.length>16)(h3:once fs=true)(h4:cK fs dV=some f)(h5:f.ps.length>0):jn fs=23:=by
 unfold jn;rw [ac (by rw [h];simp),ac h2,ac (by rw [h3];simp),h4];exact ao h5
theorem Kq{fs:List Tf}{f:Tf}(h:rP fs=true)(h2:¬fs.length>16)(h3:once fs=true)(h4:cK fs dV=some f)(h5:¬f.ps.length>0):jn fs=gh fs fs:=by
 unfold jn;rw [ac (by rw [h];simp),ac h2,ac (by rw [h3];simp),h4];exact ac h5
theorem xr(c:Nat)(vp vn:SV)(nd va:Int)(dp:Bool)(er:Int)(ns:List Ba)(fs:List Tf)(hfl:fs.length≤1000000)(f:Tf)(hg:GF f)(hdp:dp=true→er≠0):
  Spec prog 83 [Pt c,II f] [aP c 165 (cR vp (vn) (nd) (va) (dp) (er)),own 9 1 eS (sv vn) (ns)] [Dm f,fA vp fs] (X:=SV) (fun _=>True) (fun _=> .tuple #[]) (fun x=> [aP c 165 (cR vp (x) (0+(d9 f.body:Int)) ((f.ps.length:Int)+(dA f.body:Int)) (dp || db 1 f.body) (fst er (lD fs f))),own 9 1 eS (sv x) ((dx fs f.ps f.body).1)]) (fun _=> []):=by
 refine au func83 J ntmps83 J fun w0 M H=> ?_
 obtain⟨g1,g2,g3,g4,g5,g6⟩:=hg;have hvl:=jH f.body;refine bs 0 2 J tJ (bs 0 3 J sd (ak (cz J J fun b3=>aa (aW ?_))));refine sy [0,1,2,3,4,5,6,7,8,9,10,11,12,13,14] [0,7,11,1,2,3,4,5,6,8,9,10,12,13,14] [6,7,8,9,10,11,12,13,14,15,16,17] _ J J J (bP (V:= [(0,6,_),(1,7,_),(2,8,_),(3,9,_),(4,10,_),(5,11,_),(6,12,_),(7,13,_)]) [0,1,2,3,4,5,6,7] 8 [8,7,6,0] [9,10] (fun _=> [(9,14,_),(10,15,_)]) J J (aJ J J (aJ J J (aJ J J (ad J (ai fO J) (ad J (ag oD J J (aB (k:=3) J J)) (ad J (aZ underlying46 J (aQ (k:=2) J)) (ad J (aA J) (ad J (ai mt J) ay)))))))) J J J J J J J J J (fun _ _=>J) J (da (k:=0) oD J J J J J J J J) (fun _ _=>bP [9,10,1,2,3,4,5] 11 [11,10,9,8,7,6,1,0] [12,13] (fun _=> [(12,16,_),(13,17,_)]) J J (ad J (aA J) (ad J (ai kw J) (aJ J J (aJ J J (ad J (ai fO J) (ad J (ag oD J J (aB (k:=3) J J)) (ad J (aZ underlying46 J (aQ (k:=2) J)) ay))))))) J J J J J J J J J (fun _ _=>J) J (da (k:=0) t3 J J J J J J J J) (fun _ _=>bP [12,13,2,3,4,5] 14 [14,13,12,11,10,9,8,7,6,5,4,3,2,1,0] [] (fun _=> []) J J (ad J (aA J) (ad J (ai oh J) (aJ J J (ad J (ai fO J) (ad J (ag oD J J (aB (k:=3) J J)) (ad J (aZ underlying46 J (aQ (k:=2) J)) ay)))))) J J J J J J J J J (fun _ _=>J) J (da (k:=0) t3 J J J J J J J J) (fun _ _=>br [] J J ay J J J ?_))));refine em 1 (α:=Ba) (S:=9) (s:=1) (enc:=eS) (ak (ab J (ax m3 J (aL 3 nP J J J J (ae (xs:= [.tmp 18,.tmp 20,.const (I6 1)]) (xm c vp bQ er f.vb f.body g4 g5 1 0 (f.ps.length:Int) dp (by omega) (by omega) (by omega) (by omega) (by omega)) C1 [0] [(false,3)] [0] (fun _ _=>aa (bq (X:=Unit) (fun _=>True) (fun _=> [(0,Pt c),(3,Pt b3)]) (fun _=> [(0,aP c 165 (cR vp (bQ) (0+(d9 f.body:Int)) ((f.ps.length:Int)+(dA f.body:Int)) (dp || db 1 f.body) (fst er (if u9 f then 2 else 0)))),(1,own 9 1 eS (sv bQ) ([])),(3,aP b3 66 (oq f))]) (fun _=> [(0,Dm f),(1,fA vp fs),(2,sl 1 eS (sv f.vp) f.ps),(3,cm f.vb f.body)]) ?_ (fun _ _=> ?_))))))))
 ·refine ak (ax fO J (aL 3 oD J J J J (aH (aZ underlying46 J (aQ (k:=2) J)) (ap J J fU (ab J (aF [] J J O (fun hg1=>aX J) J (aF [(27,_)] J J ⟨J,O⟩ (fun hg2=>aA J) J (aF [(27,_),(28,_)] J J ⟨J,J,O⟩ (fun hg3=>ai oh J) J (aF [(27,_),(28,_),(29,_)] J J ⟨J,J,J,O⟩ (fun hg4=>ag t3 J J (aB (k:=0) J J)) J (aF [(27,_),(28,_),(29,_),(30,_)] J J ⟨J,J,J,J,O⟩ (fun hg5=>aU J J fU) J (aH (bw J J J) (ab J (aF [] J J O (fun hg6=>aX J) J (aF [(34,_)] J J ⟨J,O⟩ (fun hg7=>aA J) J (aF [(34,_),(35,_)] J J ⟨J,J,O⟩ (fun hg8=>ai kw J) J (aF [(34,_),(35,_),(36,_)] J J ⟨J,J,J,O⟩ (fun hg9=>ag t3 J J (aB (k:=0) J J)) J (aF [(34,_),(35,_),(36,_),(37,_)] J J ⟨J,J,J,J,O⟩ (fun hg10=>aU J J fU) J (aH (bw J J J) ?_))))))))))))))))));refine ab J (aF [] J J O (fun hg11=>aX J) J (aF [(41,_)] J J ⟨J,O⟩ (fun hg12=>aA J) J (aF [(41,_),(42,_)] J J ⟨J,J,O⟩ (fun hg13=>ai mr J) J (aF [(41,_),(42,_),(43,_)] J J ⟨J,J,J,O⟩ (fun hg14=>ag t4 J J (aB (k:=0) J J)) J (aH (bw J J J) (aa (ah J (fun h15=> ?_) (fun h15=> ?_))))))))
  ·have hq:=h15;refine aj (ab J (ae (xs:= [.tmp 46,.const (I6 2)]) (ix c vp bQ (0+(d9 f.body:Int)) ((f.ps.length:Int)+(dA f.body:Int)) (dp || db 1 f.body) er 2) u4 [0] [] [0] (fun _ _=>aa (aI () O J (by rw [←Lw hdp hq];rfl) J))))
  ·have hq:=h15;refine az (aI () O J (by rw [←Lx hq];rfl) J)
 ·refine aS (ax fO J (aL 3 oD J J J J (aH (aZ underlying46 J (aQ (k:=2) J)) (ab J (aa (aC (bG (X:=Nat×SV) (fun x=>x.1≤f.ps.length) (fun x=> [(0,Pt c),(3,Pt b3),(49,sv f.vp),(50,I6 (f.ps.length:Int)),(51,I6 (x.1:Int))]) (fun x=> [(0,aP c 165 (cR vp (x.2) (0+(d9 f.body:Int)) ((f.ps.length:Int)+(dA f.body:Int)) (dp || db 1 f.body) (fst (fst er (if u9 f then 2 else 0)) (tB [] (f.ps.take x.1))))),(1,own 9 1 eS (sv x.2) (f.ps.take x.1)),(3,aP b3 66 (oq f))]) (fun x=> [(0,Dm f),(1,fA vp fs),(2,sl 1 eS (sv f.vp) f.ps),(3,cm f.vb f.body)]) (fun x=>f.ps.length-x.1) (0,bQ) (bB _) J (by rw [show fst (fst er (if u9 f then 2 else 0)) (tB [] (f.ps.take (0,bQ).1))=fst er (if u9 f then 2 else 0)from dD _];rfl) J (fun x n1=> ?_))))))));obtain⟨i,v⟩:=x;dsimp only at n1 ⊢;refine ak (ap J J cL (aa (aW (ah J (fun h16=> ?_) (fun h16=> ?_)))))
  ·(try simp only [aY]at h16);have hi:i<f.ps.length:=by omega
   obtain⟨x,hx⟩:∃k,f.ps[i]?=some k:=⟨_,bV hi⟩
   refine az (aW (aC (ak (aH (aR (j:=i) underlying46 t9 J J (aQ (k:=2) J) (by first|rfl|omega) (by first|omega|(simp;done)|(simp;omega))) (aH (ag t9 J J (ci (aQ (k:=2) J) (by intro _;rfl) hx (by rfl))) (am J (aa (aj (ab J (ab J (ae (xs:= [.tmp 55,.tmp 56]) (qf c vp v (0+(d9 f.body:Int)) ((f.ps.length:Int)+(dA f.body:Int)) (dp || db 1 f.body) (fst (fst er (if u9 f then 2 else 0)) (tB [] (f.ps.take i))) (f.ps.take i) (by rw [List.length_take];omega) x) Gl [0,1] [] [0,1] (fun v2 _=>aa (aj (ap J J a_ (ab J (aa ?_))))))))))))))));refine aI (i+1,v2) ⟨by dsimp only;omega,by dsimp only;omega⟩ J (by dsimp only;rw [CD hx,cn hx];simp only [fp];rfl) J
  ·(try simp only [aY]at h16);have hi:i=f.ps.length:=by omega
   subst hi;rw [eo];refine bK (aj (ab J (ax m3 J (aL 3 nP J J J J (ae (xs:= [.tmp 59,.tmp 61]) (uZ c vp (0+(d9 f.body:Int)) ((f.ps.length:Int)+(dA f.body:Int)) (dp || db 1 f.body) fs hfl f.vb f.body g4 g5 v f.ps (fst (fst er (if u9 f then 2 else 0)) (tB [] f.ps)) (by omega)) C0 [0,1] [(false,3),(false,1)] [0,1] (fun v3 _=>aa ?_))))));rw [show fst er (lD fs f)=fst (fst (fst er (if u9 f then 2 else 0)) (tB [] f.ps)) (dx fs f.ps f.body).2 by rw [tq];simp only [fp]];refine bN v3 O J fi J [0,1] [] J J J
theorem xq(vp:SV)(fs:List Tf)(hg:GP fs):
  aO prog 48 [.agg #[sv vp]] [] [fA vp fs] (I6 (jn fs)) []:=by
 refine au func48 J ntmps48 J fun w0 M H=>bs 0 1 J sc ?_
 have hfl:=hg.1;refine ak (cz J J fun b1=>am J (aa (aS (aH (aM vS J J J (bi (k:=1) J)) (ae (xs:= [.tmp 9]) (wh vp fs hg) M3 [] [(false,0)] [] (fun _ _=>aH (cZ J) (aa (ah J (fun h1=> ?_) (fun h1=> ?_)))))))))
 ·have hr:rP fs=false:=by simpa using h1
  refine ak (am J (aa (ar (aG () O J (bR (aD J)) (by rw [Ko hr]) [] [] J J J))))
 ·have hr:rP fs=true:=by simpa using h1
  refine az (aS (ax iw J (aL 1 AX J J J J (aH (aZ underlying25 J (aQ (k:=1) J)) (ap J J fU (aa (ah J (fun h2=> ?_) (fun h2=> ?_))))))))
  ·(try simp only [aY]at h2);refine ak (am J (aa (ar (aG () O J (bR (aD J)) (by rw [Kn hr (by omega)]) [] [] J J J))))
  ·(try simp only [aY]at h2);refine az (ak (aH (aM vS J J J (bi (k:=1) J)) (aH (aT (parts:= [(0,.tmp 16)]) LY JA J J) (cz J J fun b18=>am J (aa (aS (ax iw J (aL 1 AX J J J J (aH (aZ underlying25 J (aQ (k:=1) J)) (ab J (aa (aC ?_))))))))))));refine bG (X:=Nat) (fun i=>i≤fs.length∧∀j f,j<i→fs[j]?=some f→xc fs f.name=(j:Int)) (fun i=> [(1,Pt b1),(2,I6 0),(3,Pt b18),(20,sv vp),(21,I6 (fs.length:Int)),(22,I6 (i:Int))]) (fun i=> [(1,aP b1 27 [sv vp]),(18,aP b18 165 (cR vp bQ 0 0 false 0))]) (fun i=> [(0,fA vp fs),(1,sl 3 oq (sv vp) fs)]) (fun i=>fs.length-i) 0 ⟨bB _,fun j f hj=>by omega⟩ J J J (fun i hx0=> ?_);obtain⟨n1,n2⟩:=hx0;refine ak (ap J J cL (aa (aW (ah J (fun h3=> ?_) (fun h3=> ?_)))))
   ·(try simp only [aY]at h3);have hi:i<fs.length:=by omega
    obtain⟨f,hst⟩:∃k,fs[i]?=some k:=⟨_,bV hi⟩
    refine az (aW (aC (ak (ab J (aH (aR (j:=i) underlying25 mE J J (aQ (k:=1) J) (by first|rfl|omega) (by first|omega|(simp;done)|(simp;omega))) (aH (aM mE J J J (ci (aQ (k:=1) J) (by intro _;rfl) hst (by rfl))) (aV mE J J fun b5=>am J (aq (k:=5) mE J J J J J J (av J (ab J (ax m4 J (aL 5 t9 J J J J (ae (xs:= [.tmp 27,.tmp 29]) (lG b18 vp bQ 0 0 false 0 f.name fs hfl) Im [18] [(false,1)] [18] (fun _ _=>ab J (ap J J ga ?_)))))))))))))));refine aa (ah J (fun h4=> ?_) (fun h4=> ?_))
    ·have hne:¬xc fs f.name=(i:Int):=by simpa using h4
     refine ak (am J (aa (ar (aG () O J (bR (aD J)) (by rw [Ig hr (by omega) (Ej hst hne)]) [] [] J J J))))
    ·have hne:xc fs f.name=(i:Int):=by simpa using h4
     refine az (aj (ap J J a_ (ab J (aa ?_))));refine aI (i+1) ⟨⟨by omega,fun j f2 hj hf2=>by rcases Nat.lt_succ_iff_lt_or_eq.1 hj with h|h;exact n2 j f2 h hf2;subst h;rw [hst]at hf2;cases hf2;exact hne⟩,by omega⟩ J J J
   ·(try simp only [aY]at h3);have hi:i=fs.length:=by omega
    subst hi;have ho:once fs=true:=oT.2 fun j f hf=>n2 j f (cC.1 hf).1 hf
    refine bK (ak (ab J (ae (xs:= [.tmp 34,.const (Sg (ByteArray.mk #[109,97,105,110]))]) (lG b18 vp bQ 0 0 false 0 dV fs hfl) Im [18] [(false,1)] [18] (fun _ _=>am J (aa (aS (ab J (ap J J cL (aa (ah J (fun h5=> ?_) (fun h5=> ?_)))))))))))
    ·(try simp only [aY]at h5);have hm:cK fs dV=none:=hQ.1.1 h5;refine ak (am J (aa (ar (aG () O J (bR (aD J)) (by rw [Ih hr (by omega) ho hm]) [] [] J J J))))
    ·(try simp only [aY]at h5);obtain⟨f,hm⟩:∃f,cK fs dV=some f:=by
      cases hf:cK fs dV with
      | none=>exact absurd (hQ.1.2 hf) (by omega)
      | some f=>exact⟨f,rfl⟩
     obtain⟨j,hj1,hj2⟩:=hQ.2 f hm;have hjl:=(cC.1 hj2).1;rw [hj1];refine bs 0 7 J (xL (i6 hm)) (bs 7 9 J tJ (az (aS (ax iw J (aL 1 AX J J J J (ab J (aH (aR (j:=j) underlying25 mE J J (aQ (k:=1) J) J hjl) (aH (cH fO J) (aH (ag oD J J (gQ (aQ (k:=1) J) (by intro _;rfl) hj2 J)) (aH (aZ underlying46 J (aQ (k:=9) J)) (ap J J fU (aa (ah J (fun h6=> ?_) (fun h6=> ?_))))))))))))))
     ·(try simp only [aY]at h6);refine ak (am J (aa (ar (aG () O J (bR (aD J)) (by rw [If hr (by omega) ho hm (by omega)]) [] [] J J J))))
     ·(try simp only [aY]at h6);refine az (aS (ax iw J (aL 1 AX J J J J (aH (aZ underlying25 J (aQ (k:=1) J)) (ab J (aa (aC (em 19 (α:=Ba) (S:=9) (s:=1) (enc:=eS) ?_))))))));refine bG (X:=Nat×SV×List Ba×Int×Int×Bool) (fun x=>x.1≤fs.length∧(x.2.2.2.2.2=true→gh fs (fs.take x.1)≠0)) (fun x=> [(1,Pt b1),(2,I6 0),(3,Pt b18),(47,sv vp),(48,I6 (fs.length:Int)),(49,I6 (x.1:Int))]) (fun x=> [(18,aP b18 165 (cR vp x.2.1 x.2.2.2.1 x.2.2.2.2.1 x.2.2.2.2.2 (gh fs (fs.take x.1)))),(19,own 9 1 eS (sv x.2.1) x.2.2.1)]) (fun x=> [(0,fA vp fs),(1,sl 3 oq (sv vp) fs)]) (fun x=>fs.length-x.1) (0,bQ,[],0,0,false) ⟨bB _,fun h=>by cases h⟩ J J J (fun x hx0=> ?_);obtain⟨i,v,ns,nd,va,dp⟩:=x;obtain⟨n1,n2⟩:=hx0;dsimp only at n1 n2 ⊢;refine ak (ap J J cL (aa (aW (ah J (fun h7=> ?_) (fun h7=> ?_)))))
      ·(try simp only [aY]at h7);have hi:i<fs.length:=by omega
       obtain⟨f,hst⟩:∃k,fs[i]?=some k:=⟨_,bV hi⟩
       refine az (aW (aC (ak (aH (aR (j:=i) underlying25 mE J J (aQ (k:=1) J) (by first|rfl|omega) (by first|omega|(simp;done)|(simp;omega))) (aH (aM mE J J J (ci (aQ (k:=1) J) (by intro _;rfl) hst (by rfl))) (aV mE J J fun b8=>aq (k:=8) mE J J J J J J (aa (aj (ab J (aH (aM mE J J J (bi (k:=8) J)) (bs 0 11 J (xL (cO hst)) (ae (xs:= [.tmp 53,.tmp 54]) (xr b18 vp v nd va dp (gh fs (fs.take i)) ns fs hfl f (hg.2 f (cO hst)) n2) M2 [18,19] [(false,11),(false,0)] [18,19] (fun v2 _=>aa (aj (ap J J a_ (ab J (aa ?_)))))))))))))))));refine aI (i+1,v2,(dx fs f.ps f.body).1,0+(d9 f.body:Int),(f.ps.length:Int)+(dA f.body:Int),dp || db 1 f.body) ⟨⟨by dsimp only;omega,fun h=>by dsimp only;rw [qd hst];exact CC n2 h⟩,by dsimp only;omega⟩ J (by dsimp only;rw [qd hst];rfl) J
      ·(try simp only [aY]at h7);have hi:i=fs.length:=by omega
       subst hi;rw [eo];refine bK (ak (ab J (bp J (ax th J (aL 18 zl J J J J (am J (aa (ar (aG () O J (bR (aD J)) (by rw [Kq hr (by omega) ho hm (by omega)]) [] [] J J J)))))))))
end Go.Proofs.YtedmdgbmdplifaaGreat
