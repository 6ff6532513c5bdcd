/-
  Expressions and statements in memory: trees of slices. No condition.
-/
import Derived.Test.YtdcbbkpdlcojfaaA0
namespace Go.Proofs.Ytdcbbkpdlcojfaa
set_option linter.unusedSimpArgs false
set_option linter.unusedVariables false
open Go.RowKit

/-- An expression, with the slice that holds its parts. -/
inductive Tx where
  | mk (kind n : Int) (name : ByteArray) (v : SV) (kids : List Tx)
def Tx.kind : Tx → Int | .mk k _ _ _ _ => k
def Tx.n : Tx → Int | .mk _ n _ _ _ => n
def Tx.name : Tx → ByteArray | .mk _ _ s _ _ => s
def Tx.v : Tx → SV | .mk _ _ _ v _ => v
def Tx.kids : Tx → List Tx | .mk _ _ _ _ l => l
def eTx (t : Tx) : List Value := [.int .i64 t.kind, .int .u32 t.n, .string t.name, sv t.v]
abbrev xV (t : Tx) : Value := .agg (eTx t).toArray
/-- A statement, with the slices that hold its parts. -/
inductive Ty where
  | mk (kind : Int) (name : ByteArray) (ve : SV) (es : List Tx) (vb : SV) (body : List Ty) (vl : SV) (els : List Ty)
def Ty.kind : Ty → Int | .mk k _ _ _ _ _ _ _ => k
def Ty.name : Ty → ByteArray | .mk _ s _ _ _ _ _ _ => s
def Ty.ve : Ty → SV | .mk _ _ v _ _ _ _ _ => v
def Ty.es : Ty → List Tx | .mk _ _ _ l _ _ _ _ => l
def Ty.vb : Ty → SV | .mk _ _ _ _ v _ _ _ => v
def Ty.body : Ty → List Ty | .mk _ _ _ _ _ l _ _ => l
def Ty.vl : Ty → SV | .mk _ _ _ _ _ _ v _ => v
def Ty.els : Ty → List Ty | .mk _ _ _ _ _ _ _ l => l
def eTy (t : Ty) : List Value := [.int .i64 t.kind, .string t.name, sv t.ve, sv t.vb, sv t.vl]
abbrev yV (t : Ty) : Value := .agg (eTy t).toArray

def SlIn' {α : Type} (w : World) (F : Nat → Prop) (s : Nat) (enc : α → List Value) (v : Value) (l : List α) : Prop := ∃ G : Nat → Prop, SlOk w G s enc v l ∧ ∀ b, G b → F b
theorem SlIn'.stable {α : Type} {w w' : World} {F : Nat → Prop} {s : Nat} {enc : α → List Value} {v : Value} {l : List α} (h : SlIn' w F s enc v l) (hs : ∀ b, F b → w'.heap[b]? = w.heap[b]?) : SlIn' w' F s enc v l := by
  obtain ⟨G, h1, h2⟩ := h
  exact ⟨G, (sl s enc v l).stable h1 fun b hb => hs b (h2 b hb), h2⟩
theorem SlIn'.mono {α : Type} {w : World} {F F' : Nat → Prop} {s : Nat} {enc : α → List Value} {v : Value} {l : List α} (h : SlIn' w F s enc v l) (hs : ∀ b, F b → F' b) : SlIn' w F' s enc v l := by
  obtain ⟨G, h1, h2⟩ := h
  exact ⟨G, h1, fun b hb => hs b (h2 b hb)⟩
mutual
/-- The parts of an expression can be read. -/
def TxIn (w : World) (F : Nat → Prop) : Tx → Prop
  | .mk _ _ _ v kids => SlIn' w F 4 eTx (sv v) kids ∧ TxsIn w F kids
def TxsIn (w : World) (F : Nat → Prop) : List Tx → Prop
  | [] => True
  | t :: r => TxIn w F t ∧ TxsIn w F r
end
mutual
theorem TxIn.mono {w w' : World} {F F' : Nat → Prop} (hs : ∀ b, F b → F' b) (hw : ∀ b, F b → w'.heap[b]? = w.heap[b]?) : ∀ t, TxIn w F t → TxIn w' F' t
  | .mk _ _ _ v kids, h => ⟨(h.1.stable hw).mono hs, TxsIn.mono hs hw kids h.2⟩
theorem TxsIn.mono {w w' : World} {F F' : Nat → Prop} (hs : ∀ b, F b → F' b) (hw : ∀ b, F b → w'.heap[b]? = w.heap[b]?) : ∀ l, TxsIn w F l → TxsIn w' F' l
  | [], _ => trivial
  | t :: r, h => ⟨TxIn.mono hs hw t h.1, TxsIn.mono hs hw r h.2⟩
end
theorem TxsIn.mem {w : World} {F : Nat → Prop} : ∀ {l : List Tx}, TxsIn w F l → ∀ t ∈ l, TxIn w F t
  | [], _, _, h => by simp at h
  | t :: r, h, u, hu => by
    rcases List.mem_cons.1 hu with rfl | hu
    · exact h.1
    · exact TxsIn.mem h.2 u hu
theorem TxsIn.of {w : World} {F : Nat → Prop} : ∀ {l : List Tx}, (∀ t ∈ l, TxIn w F t) → TxsIn w F l
  | [], _ => trivial
  | t :: r, h => ⟨h t (by simp), TxsIn.of fun u hu => h u (by simp [hu])⟩
mutual
/-- The parts of a statement can be read. -/
def TyIn (w : World) (F : Nat → Prop) : Ty → Prop
  | .mk _ _ ve es vb body vl els => (SlIn' w F 4 eTx (sv ve) es ∧ TxsIn w F es) ∧ (SlIn' w F 5 eTy (sv vb) body ∧ TysIn w F body) ∧ (SlIn' w F 5 eTy (sv vl) els ∧ TysIn w F els)
def TysIn (w : World) (F : Nat → Prop) : List Ty → Prop
  | [] => True
  | t :: r => TyIn w F t ∧ TysIn w F r
end
mutual
theorem TyIn.mono {w w' : World} {F F' : Nat → Prop} (hs : ∀ b, F b → F' b) (hw : ∀ b, F b → w'.heap[b]? = w.heap[b]?) : ∀ t, TyIn w F t → TyIn w' F' t
  | .mk _ _ ve es vb body vl els, h => ⟨⟨(h.1.1.stable hw).mono hs, TxsIn.mono hs hw es h.1.2⟩, ⟨(h.2.1.1.stable hw).mono hs, TysIn.mono hs hw body h.2.1.2⟩, ⟨(h.2.2.1.stable hw).mono hs, TysIn.mono hs hw els h.2.2.2⟩⟩
theorem TysIn.mono {w w' : World} {F F' : Nat → Prop} (hs : ∀ b, F b → F' b) (hw : ∀ b, F b → w'.heap[b]? = w.heap[b]?) : ∀ l, TysIn w F l → TysIn w' F' l
  | [], _ => trivial
  | t :: r, h => ⟨TyIn.mono hs hw t h.1, TysIn.mono hs hw r h.2⟩
end
theorem TysIn.mem {w : World} {F : Nat → Prop} : ∀ {l : List Ty}, TysIn w F l → ∀ t ∈ l, TyIn w F t
  | [], _, _, h => by simp at h
  | t :: r, h, u, hu => by
    rcases List.mem_cons.1 hu with rfl | hu
    · exact h.1
    · exact TysIn.mem h.2 u hu
theorem TysIn.of {w : World} {F : Nat → Prop} : ∀ {l : List Ty}, (∀ t ∈ l, TyIn w F t) → TysIn w F l
  | [], _ => trivial
  | t :: r, h => ⟨h t (by simp), TysIn.of fun u hu => h u (by simp [hu])⟩
/-- A list of expressions that can be read, with all their parts. -/
def txsA (v : SV) (l : List Tx) : Asn := ⟨fun w F => SlIn' w F 4 eTx (sv v) l ∧ TxsIn w F l, fun h hs => ⟨h.1.stable hs, TxsIn.mono (fun _ hb => hb) hs _ h.2⟩⟩
/-- A list of statements that can be read, with all their parts. -/
def tysA (v : SV) (l : List Ty) : Asn := ⟨fun w F => SlIn' w F 5 eTy (sv v) l ∧ TysIn w F l, fun h hs => ⟨h.1.stable hs, TysIn.mono (fun _ hb => hb) hs _ h.2⟩⟩
theorem txs_sl {v : SV} {l : List Tx} : ∀ w G, (txsA v l).pred w G → (∀ b, G b → b < w.heap.size) → ∃ G', (sl 4 eTx (sv v) l).pred w G' ∧ ∀ b, G' b → G b := fun w G h _ => h.1
theorem tys_sl {v : SV} {l : List Ty} : ∀ w G, (tysA v l).pred w G → (∀ b, G b → b < w.heap.size) → ∃ G', (sl 5 eTy (sv v) l).pred w G' ∧ ∀ b, G' b → G b := fun w G h _ => h.1
theorem txs_kid {v : SV} {l : List Tx} {t : Tx} (ht : t ∈ l) : ∀ w G, (txsA v l).pred w G → (∀ b, G b → b < w.heap.size) → ∃ G', (txsA t.v t.kids).pred w G' ∧ ∀ b, G' b → G b := fun w G h _ => by
  have := h.2.mem t ht
  cases t with
  | mk a b c d e => exact ⟨G, this, fun _ hb => hb⟩
theorem tys_es {v : SV} {l : List Ty} {t : Ty} (ht : t ∈ l) : ∀ w G, (tysA v l).pred w G → (∀ b, G b → b < w.heap.size) → ∃ G', (txsA t.ve t.es).pred w G' ∧ ∀ b, G' b → G b := fun w G h _ => by
  have := h.2.mem t ht
  cases t with
  | mk a b c d e f g i => exact ⟨G, this.1, fun _ hb => hb⟩
theorem tys_body {v : SV} {l : List Ty} {t : Ty} (ht : t ∈ l) : ∀ w G, (tysA v l).pred w G → (∀ b, G b → b < w.heap.size) → ∃ G', (tysA t.vb t.body).pred w G' ∧ ∀ b, G' b → G b := fun w G h _ => by
  have := h.2.mem t ht
  cases t with
  | mk a b c d e f g i => exact ⟨G, this.2.1, fun _ hb => hb⟩
theorem tys_els {v : SV} {l : List Ty} {t : Ty} (ht : t ∈ l) : ∀ w G, (tysA v l).pred w G → (∀ b, G b → b < w.heap.size) → ∃ G', (tysA t.vl t.els).pred w G' ∧ ∀ b, G' b → G b := fun w G h _ => by
  have := h.2.mem t ht
  cases t with
  | mk a b c d e f g i => exact ⟨G, this.2.2, fun _ hb => hb⟩
/-- Functions. -/
structure Tf where
  name : ByteArray
  vp : SV
  ps : List ByteArray
  vb : SV
  body : List Ty
def eTf (f : Tf) : List Value := [.string f.name, sv f.vp, sv f.vb]
def TfIn (w : World) (F : Nat → Prop) (f : Tf) : Prop := SlIn' w F 1 eS (sv f.vp) f.ps ∧ (SlIn' w F 5 eTy (sv f.vb) f.body ∧ TysIn w F f.body)
theorem TfIn.stable {w w' : World} {F : Nat → Prop} {f : Tf} (h : TfIn w F f) (hs : ∀ b, F b → w'.heap[b]? = w.heap[b]?) : TfIn w' F f := ⟨h.1.stable hs, h.2.1.stable hs, TysIn.mono (fun _ hb => hb) hs _ h.2.2⟩
/-- The functions of a program that can be read, with all their parts. -/
def tfsA (v : SV) (l : List Tf) : Asn := ⟨fun w F => SlIn' w F 3 eTf (sv v) l ∧ ∀ f ∈ l, TfIn w F f, fun h hs => ⟨h.1.stable hs, fun f hf => (h.2 f hf).stable hs⟩⟩
def tfA (f : Tf) : Asn := ⟨fun w F => TfIn w F f, fun h hs => h.stable hs⟩
theorem tfs_sl {v : SV} {l : List Tf} : ∀ w G, (tfsA v l).pred w G → (∀ b, G b → b < w.heap.size) → ∃ G', (sl 3 eTf (sv v) l).pred w G' ∧ ∀ b, G' b → G b := fun w G h _ => h.1
theorem tfs_f {v : SV} {l : List Tf} {f : Tf} (hf : f ∈ l) : ∀ w G, (tfsA v l).pred w G → (∀ b, G b → b < w.heap.size) → ∃ G', (tfA f).pred w G' ∧ ∀ b, G' b → G b := fun w G h _ => ⟨G, h.2 f hf, fun _ hb => hb⟩
theorem tf_ps {f : Tf} : ∀ w G, (tfA f).pred w G → (∀ b, G b → b < w.heap.size) → ∃ G', (sl 1 eS (sv f.vp) f.ps).pred w G' ∧ ∀ b, G' b → G b := fun w G h _ => h.1
theorem tf_body {f : Tf} : ∀ w G, (tfA f).pred w G → (∀ b, G b → b < w.heap.size) → ∃ G', (tysA f.vb f.body).pred w G' ∧ ∀ b, G' b → G b := fun w G h _ => ⟨G, h.2, fun _ hb => hb⟩
end Go.Proofs.Ytdcbbkpdlcojfaa
