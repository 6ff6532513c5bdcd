/-
  A part of the proof. Conditions are with the theorems.
-/
import Derived.Test.YtedmdgbmdplifaaGreatProg
import Derived.ChangeMaps5
import Derived.SizedLaws
import Derived.Test.YtedmdgbmdplifaaGreatXDa
set_option maxHeartbeats 32000000
set_option maxRecDepth 100000
set_option linter.unusedSimpArgs false
set_option linter.unusedVariables false
namespace Go.Proofs.YtedmdgbmdplifaaGreat
open Go.RowKit Tryz
section
variable{P:Program}{N:Nat}{w0:World}{M H:Nat→Prop}{E:fv}{Γ R:ey}{Q:Exit→Act→World→Prop}
variable{ops:Array Oper}{rest:List Oper}{T:TypeId}{ps:String}{af:Array Edge}{d:Nat}{op:Op}
theorem ad{x:Operand}{v:Value}(hx:ev E x=some v)(k:At N w0 M H ((d,v)::E) Γ R (wpList P ops Q rest))(hd:Nat.blt d N=true:=by exact rfl):At N w0 M H E Γ R (wpList P ops Q (⟨some d,.move x,T,ps,af,none⟩::rest)):=sE (bc hx) hd k
theorem ak{x:Operand}{v:Value}(hx:ev E x=some v)(k:At N w0 M H ((d,v)::E) Γ R (wpList P ops Q rest))(hd:Nat.blt d N=true:=by exact rfl):At N w0 M H E Γ R (wpList P ops Q (⟨some d,.assign x,T,ps,af,none⟩::rest)):=sE (cA hx) hd k
theorem bI{x:Operand}{A:Addr}(hx:ev E x=some (.pointer (some A)))(k:At N w0 M H ((d,.pointer (some A))::E) Γ R (wpList P ops Q rest))(hd:Nat.blt d N=true:=by exact rfl):At N w0 M H E Γ R (wpList P ops Q (⟨some d,.nilCheck x,T,ps,af,none⟩::rest)):=sE (au hx) hd k
theorem aC{S:TypeId}{i off:Nat}{x:Operand}{b:Nat}(hf:FO P S i off)(hx:ev E x=some (.pointer (some ⟨b,0,none⟩)))(k:At N w0 M H ((d,.pointer (some ⟨b,off,none⟩))::E) Γ R (wpList P ops Q rest))(hd:Nat.blt d N=true:=by exact rfl):At N w0 M H E Γ R (wpList P ops Q (⟨some d,.fieldAddr S x i,T,ps,af,none⟩::rest)):=sE (ag hf hx) hd k
theorem aw{o:BinOp}{S S':TypeId}{x y:Operand}{u v z:Value}(hx:ev E x=some u)(hy:ev E y=some v)(hb:dU P o S u v z)(k:At N w0 M H ((d,z)::E) Γ R (wpList P ops Q rest))(hd:Nat.blt d N=true:=by exact rfl):At N w0 M H E Γ R (wpList P ops Q (⟨some d,.binOp o S x y S',T,ps,af,none⟩::rest)):=sE (aR hx hy hb) hd k
theorem aQ(j:Nat){S S0:TypeId}{D:TypeDesc}{z:Value}{s bb:Nat}{x:Operand}{b o:Nat}{c:List Value}{u:Value}(ht:TI P S D z s bb)(hag:uw D=false)(hx:ev E x=some (.pointer (some ⟨b,o,none⟩)))(hk:ci Γ j=some (bh b S0 c))(hu:c[o]?=some u)(k:At N w0 M H ((d,u)::E) Γ R (wpList P ops Q rest))(hd:Nat.blt d N=true:=by exact rfl):
  At N w0 M H E Γ R (wpList P ops Q (⟨some d,.load S x,T,ps,af,none⟩::rest)):=sE (ah ht hag hx (ay (k:=j) hk hu)) hd k
theorem aP{v:Value}(h:PR P N w0 M H E Γ R op v)(k:At N w0 M H ((d,v)::E) Γ R (wpList P ops Q rest))(hd:Nat.blt d N=true:=by exact rfl):At N w0 M H E Γ R (wpList P ops Q (⟨some d,op,T,ps,af,none⟩::rest)):=sE h hd k
theorem aF{id:Nat}{l:List Oper}{y:Code}{Q2:Exit→Act→World→Prop}(hq:Q .normal=(Code.seq (Code.region id l.toArray false) y).wp P Q2)(h:At N w0 M H E Γ R (wpList P l.toArray (XT (y.wp P Q2) Q2) l)):At N w0 M H E Γ R (wpList P ops Q []):=aa (by rw [hq];exact a_ (am h))
theorem ap{id:Nat}{l:List Oper}{y:Code}(h:At N w0 M H E Γ R (wpList P l.toArray (XT (y.wp P Q) Q) l)):At N w0 M H E Γ R ((Code.seq (Code.region id l.toArray false) y).wp P Q):=a_ (am h)
theorem aT{id:Nat}{l:List Oper}{y z:Code}(h:At N w0 M H E Γ R (wpList P l.toArray (XT (y.wp P (XT (z.wp P Q) Q)) (XT (z.wp P Q) Q)) l)):At N w0 M H E Γ R ((Code.seq (Code.seq (Code.region id l.toArray false) y) z).wp P Q):=a_ (ap h)
theorem aj{n:Nat}{f:Operand}{xs:List Operand}{cap us vs:List Value}{at_:Array TypeId}{L R0:List Asn}{X:Type}{φ:X→Prop}{v:X→Value}{L' R':X→List Asn}(hs:Spec P n vs L R0 φ v L' R')(hcb:Cb P n)
  (ks:List Nat) (rs:List (Bool×Nat)) (ns:List Nat) (k:∀x,φ x→At N w0 M H ((d,v x)::E) (fV ns (L' x) (fW ks Γ)) R (wpList P ops Q rest))
  (hf:ev E f=some (.func (.func n) #[] cap.toArray):=by exact rfl) (hx:evs E xs=some us:=by exact rfl) (hu:us++cap=vs:=by exact rfl)
  (hnd:qD ks=true:=by exact rfl) (hL:eR Γ ks=dr L:=by exact rfl) (hR:iZ Γ R rs=dr R0:=by exact rfl) (hl:iy ks rs=true:=by exact rfl) (hns:qD ns=true:=by exact rfl) (hnl:∀x,φ x→ns.length=(L' x).length:=by exact fun _ _=>rfl) (hrl:∀x,φ x→eb rs=true→0=(R' x).length:=by exact fun _ _ _=>rfl)
  (hd:Nat.blt d N=true:=by exact rfl):
  At N w0 M H E Γ R (wpList P ops Q (⟨some d,.call {callee:= .value f,args:=xs.toArray,argTypes:=at_},T,ps,af,none⟩::rest)):=dh hs hcb ks rs ns hf hx hu hnd hL hR hl hns hnl hrl hd k
theorem db{n:Nat}{f:Operand}{xs:List Operand}{cap us vs:List Value}{at_:Array TypeId}{L R0:List Asn}{X:Type}{φ:X→Prop}{v:X→Value}{L' R':X→List Asn}(hs:Spec P n vs L R0 φ v L' R')(hcb:Cb P n)
  (ks:List Nat) (rs:List (Bool×Nat)) (ns:List Nat) (hf:ev E f=some (.func (.func n) #[] cap.toArray)) (hx:evs E xs=some us) (hu:us++cap=vs) (k:∀x,φ x→At N w0 M H ((d,v x)::E) (fV ns (L' x) (fW ks Γ)) R (wpList P ops Q rest))
  (hnd:qD ks=true:=by exact rfl) (hL:eR Γ ks=dr L:=by exact rfl) (hR:iZ Γ R rs=dr R0:=by exact rfl) (hl:iy ks rs=true:=by exact rfl) (hns:qD ns=true:=by exact rfl) (hnl:∀x,φ x→ns.length=(L' x).length:=by exact fun _ _=>rfl) (hrl:∀x,φ x→eb rs=true→0=(R' x).length:=by exact fun _ _ _=>rfl)
  (hd:Nat.blt d N=true:=by exact rfl):
  At N w0 M H E Γ R (wpList P ops Q (⟨some d,.call {callee:= .value f,args:=xs.toArray,argTypes:=at_},T,ps,af,none⟩::rest)):=dh hs hcb ks rs ns hf hx hu hnd hL hR hl hns hnl hrl hd k
theorem bB{dst:Option Nat}{n:Nat}{f:Operand}{xs:List Operand}{cap us vs:List Value}{at_:Array TypeId}{L R0:List Asn}{X:Type}{φ:X→Prop}{v:X→Value}{L' R':X→List Asn}(hs:Spec P n vs L R0 φ v L' R')(hcb:Cb P n)
  (ks:List Nat) (rs:List (Bool×Nat)) (ns:List Nat) (hf:ev E f=some (.func (.func n) #[] cap.toArray):=by exact rfl) (hx:evs E xs=some us:=by exact rfl) (hu:us++cap=vs:=by exact rfl)
  (hnd:qD ks=true:=by exact rfl) (hL:eR Γ ks=dr L:=by exact rfl) (hR:iZ Γ R rs=dr R0:=by exact rfl) (hl:iy ks rs=true:=by exact rfl) (hns:qD ns=true:=by exact rfl) (hnl:∀x,φ x→ns.length=(L' x).length:=by exact fun _ _=>rfl) (hrl:∀x,φ x→eb rs=true→0=(R' x).length:=by exact fun _ _ _=>rfl):
  MS P N w0 M H E Γ R ⟨dst,.call {callee:= .value f,args:=xs.toArray,argTypes:=at_},T,ps,af,none⟩ φ v (fun x=>fV ns (L' x) (fW ks Γ)) (fun _=>R):=iY hs hcb ks rs ns hf hx hu hnd hL hR hl hns hnl hrl
theorem fh{dst:Option Nat}{n:Nat}{f:Operand}{xs:List Operand}{cap us vs:List Value}{at_:Array TypeId}{L R0:List Asn}{X:Type}{φ:X→Prop}{v:X→Value}{L' R':X→List Asn}(hs:Spec P n vs L R0 φ v L' R')(hcb:Cb P n)
  (ks:List Nat) (rs:List (Bool×Nat)) (ns:List Nat) (hf:ev E f=some (.func (.func n) #[] cap.toArray)) (hx:evs E xs=some us) (hu:us++cap=vs)
  (hnd:qD ks=true:=by exact rfl) (hL:eR Γ ks=dr L:=by exact rfl) (hR:iZ Γ R rs=dr R0:=by exact rfl) (hl:iy ks rs=true:=by exact rfl) (hns:qD ns=true:=by exact rfl) (hnl:∀x,φ x→ns.length=(L' x).length:=by exact fun _ _=>rfl) (hrl:∀x,φ x→eb rs=true→0=(R' x).length:=by exact fun _ _ _=>rfl):
  MS P N w0 M H E Γ R ⟨dst,.call {callee:= .value f,args:=xs.toArray,argTypes:=at_},T,ps,af,none⟩ φ v (fun x=>fV ns (L' x) (fW ks Γ)) (fun _=>R):=iY hs hcb ks rs ns hf hx hu hnd hL hR hl hns hnl hrl
theorem aD{l:List Oper}{V I:d_}{i d:Nat}{v:Value}{x:Operand}{T:TypeId}{ps:String}{af:Array Edge}(ho:l[i]?=some ⟨some d,.move x,T,ps,af,none⟩)(hx:ev (vpre (e9 ⟨some d,.move x,T,ps,af,none⟩) V++E) x=some v)(t:PRs P N w0 M H E Γ R l V I):PRs P N w0 M H E Γ R l V ((i,d,v)::I):=bp (IU ho (bc hx)) t
theorem ac{l:List Oper}{V I:d_}{i d:Nat}{v:Value}{op:Op}{T:TypeId}{ps:String}{af:Array Edge}(ho:l[i]?=some ⟨some d,op,T,ps,af,none⟩)(h:PR P N w0 M H (vpre (e9 ⟨some d,op,T,ps,af,none⟩) V++E) Γ R op v)(t:PRs P N w0 M H E Γ R l V I):PRs P N w0 M H E Γ R l V ((i,d,v)::I):=bp (IU ho h) t
end
theorem bU{n:Int}(h: -9223372036854775808≤n∧n≤9223372036854775807):IntKind.i64.wrap n=n:=qu h.1 h.2
theorem cd{n:Int}(h:0≤n∧n<4294967296):IntKind.u32.wrap n=n:=kH h.1 h.2
theorem aO{P:Program}{S:TypeId}{a b c:Int}(h:IntKind.i64.wrap (a+b)=c:=by first|exact bU (by omega)|rfl):dU P .add S (.int .i64 a) (.int .i64 b) (.int .i64 c):=cw h
theorem tL{P:Program}{S:TypeId}{a b c:Int}(h:IntKind.u32.wrap (a+b)=c:=by first|exact cd (by omega)|rfl):dU P .add S (.int .u32 a) (.int .u32 b) (.int .u32 c):=cw h
theorem ew{P:Program}{S:TypeId}{a b c:Int}(h:IntKind.i64.wrap (a-b)=c:=by first|exact bU (by omega)|rfl):dU P .sub S (.int .i64 a) (.int .i64 b) (.int .i64 c):=gu h
theorem yZ{P:Program}{S:TypeId}{a b c:Int}(h:IntKind.u32.wrap (a-b)=c:=by first|exact cd (by omega)|rfl):dU P .sub S (.int .u32 a) (.int .u32 b) (.int .u32 c):=gu h
theorem kW{P:Program}{S:TypeId}{a b c:Int}(h:IntKind.i64.wrap (a*b)=c:=by first|exact bU (by omega)|rfl):dU P .mul S (.int .i64 a) (.int .i64 b) (.int .i64 c):=fG h
theorem ph{P:Program}{S:TypeId}{a b c:Int}(h:IntKind.u32.wrap (a*b)=c:=by first|exact cd (by omega)|rfl):dU P .mul S (.int .u32 a) (.int .u32 b) (.int .u32 c):=fG h
abbrev Ba:=ByteArray
class Pk (b:Bool) (u v:Value) (z:outParam Value):Prop where
 h:(bif b then u else v)=z
instance Pk0{b:Bool}{u v:Value}:Pk b u v (bif b then u else v):=⟨rfl⟩
instance Pk1{b c:Bool}:Pk b (.bool true) (gv (gb false b) (.bool c)) (.bool (b || c)):=⟨ef⟩
instance Pk2{b c:Bool}:Pk b (gv (gb true b) (.bool c)) (.bool false) (.bool (b&&c)):=⟨dL⟩
instance Pk3{c:Bool}:Pk false (.bool true) (.bool c) (.bool (false || c)):=⟨rfl⟩
instance Pk4{c:Bool}:Pk true (.bool c) (.bool false) (.bool (true&&c)):=⟨rfl⟩
theorem bH{P:Program}{N:Nat}{w0:World}{M H:Nat→Prop}{E:fv}{Γ R:ey}{c x y:Operand}{b:Bool}{u v z:Value}(hc:ev E c=some (.bool b))(hx:ev E x=some u)(hy:ev E y=some v) [hz:Pk b u v z]:PR P N w0 M H E Γ R (.pick c x y) z:=eL hc hx hy hz.h
abbrev Sg(s:ByteArray):Value:= .string s
abbrev Pt(b:Nat):Value:= .pointer (some ⟨b,0,none⟩)
abbrev I6(n:Int):Value:= .int .i64 n
abbrev I3(n:Int):Value:= .int .u32 n
abbrev bi(P:Program)(n:Nat)(vs:List Value)(L R:List Asn)(v:Value)(L1:List Asn):Prop:=Spec P n vs L R (X:=Unit) (fun _=>True) (fun _=>v) (fun _=>L1) (fun _=> [])
def eU(x:Int):List Value:= [.int .u32 x]
theorem cq(x y:ByteArray):(x==y)=decide (x=y):=by
 obtain⟨⟨x⟩⟩:=x;obtain⟨⟨y⟩⟩:=y;show((⟨x⟩:Array UInt8)==⟨y⟩)=_;simp;exact Bool.beq_eq_decide_eq x y
def gV(s:ByteArray):Value:= .string s
theorem Jj{P:Program}{kt:TypeId}(h:P.underlying kt=some .string):KeyLaw P kt gV where
 check:=fun b k w=>by
  show(Instr.checkKey b (9999+1) kt (.string k)).run P w=_;unfold Instr.checkKey;simp [Sem.run_bind,run_underlying h]
 find:=fun{α} kf vf k ms w=>by
  have hnow:∀(ms:List (α×Nat))(i:Nat),Instr.findNow .string (.string k) (ms.map (ku gV kf vf)) i=some (AG kf vf k ms i):=by
   intro ms
   induction ms with
   | nil=>intro i;rfl
   | cons m r ih=>
    intro i;simp only [List.map_cons,Instr.findNow,ku,gV,Instr.sameNow,AG];by_cases e:kf m.1=k
    ·have:(k==kf m.1)=true:=by rw [cq];exact decide_eq_true e.symm
     rw [this,ar e]
    ·have:(k==kf m.1)=false:=by rw [cq];exact decide_eq_false fun h=>e h.symm
     rw [this,ae e];exact ih (i+1)
  unfold Instr.findKey;simp only [Sem.run_bind,run_underlying h,Result.andThen_ok];show(match Instr.findNow .string (gV k) (ms.map (ku gV kf vf)) 0 with|some r=>pure r|none=>_:Sem (Option (Nat×Value))).run P w=_;rw [show Instr.findNow .string (gV k) (ms.map (ku gV kf vf)) 0=some (AG kf vf k ms 0)from hnow ms 0];rfl
 stays:=fun k=>by
  show Instr.sameBits 10000 (.string k) (.string k)=true;simp [Instr.sameBits,cq]
section
variable{P:Program}{N:Nat}{w0:World}{M H:Nat→Prop}{E:fv}{Γ R:ey}{Q:Exit→Act→World→Prop}
variable{ops:Array Oper}{rest:List Oper}{T:TypeId}{ps:String}{af:Array Edge}{d:Nat}
variable{α κ:Type} [DecidableEq κ]{mk:κ→Value}{kf:α→κ}{vf:α→Value}
theorem DD{S kt et:TypeId}{x y z:Operand}{b:Nat}{k:Nat}(e:α){L:List α}(L':List α)(hS:P.underlying S=some (.map kt et))(hK:KeyLaw P kt mk)(hx:ev E x=some (.map (some b)))(hy:ev E y=some (mk (kf e)))(hz:ev E z=some (vf e))(hk:ci Γ k=some (mp mk kf vf (some b) L))
  (hp:(e::L.filter fun a=>decide (kf a≠kf e)).Perm L'):
  MS P N w0 M H E Γ R ⟨none,.insert S x y z,T,ps,af,none⟩ (X:=Unit) (fun _=>True) (fun _=>undef) (fun _=>(k,mp mk kf vf (some b) L')::Γ) (fun _=>R):=
 fun a w hE hC next Q hn=>jw (T:=T) (ps:=ps) (af:=af) e L' hS hK hx hy hz hk hp a w hE hC next Q hn
theorem ct{S kt et:TypeId}{x y z:Operand}{b:Nat}{k:Nat}(e:α){L:List α}(L':List α)(hS:P.underlying S=some (.map kt et))(hK:KeyLaw P kt mk)(hx:ev E x=some (.map (some b)))(hy:ev E y=some (mk (kf e)))(hz:ev E z=some (vf e))(hk:ci Γ k=some (mp mk kf vf (some b) L))
  (hp:(e::L.filter fun a=>decide (kf a≠kf e)).Perm L') (kk:At N w0 M H E ((k,mp mk kf vf (some b) L')::Γ) R (wpList P ops Q rest)):At N w0 M H E Γ R (wpList P ops Q (⟨none,.insert S x y z,T,ps,af,none⟩::rest)):=
 KJ (DD e L' hS hK hx hy hz hk hp) fun _ _=>kk
end
inductive Tx where
 | mk (kind n:Int) (name:ByteArray) (v:SV) (kids:List Tx)
def Tx.kind:Tx→Int | .mk k _ _ _ _=>k
def Tx.n:Tx→Int | .mk _ n _ _ _=>n
def Tx.name:Tx→ByteArray | .mk _ _ s _ _=>s
def Tx.v:Tx→SV | .mk _ _ _ v _=>v
def Tx.kids:Tx→List Tx | .mk _ _ _ _ l=>l
def dT(t:Tx):List Value:= [.int .i64 t.kind,.int .u32 t.n,.string t.name,sv t.v]
abbrev xV(t:Tx):Value:= .agg (dT t).toArray
inductive Ty where
 | mk (kind:Int) (name:ByteArray) (ve:SV) (es:List Tx) (vb:SV) (body:List Ty) (vl:SV) (els:List Ty)
def Ty.kind:Ty→Int | .mk k _ _ _ _ _ _ _=>k
def Ty.name:Ty→ByteArray | .mk _ s _ _ _ _ _ _=>s
def Ty.ve:Ty→SV | .mk _ _ v _ _ _ _ _=>v
def Ty.es:Ty→List Tx | .mk _ _ _ l _ _ _ _=>l
def Ty.vb:Ty→SV | .mk _ _ _ _ v _ _ _=>v
def Ty.body:Ty→List Ty | .mk _ _ _ _ _ l _ _=>l
def Ty.vl:Ty→SV | .mk _ _ _ _ _ _ v _=>v
def Ty.els:Ty→List Ty | .mk _ _ _ _ _ _ _ l=>l
def eE(t:Ty):List Value:= [.int .i64 t.kind,.string t.name,sv t.ve,sv t.vb,sv t.vl]
abbrev yV(t:Ty):Value:= .agg (eE t).toArray
def SlIn'{α:Type}(w:World)(F:Nat→Prop)(s:Nat)(enc:α→List Value)(v:Value)(l:List α):Prop:=∃G:Nat→Prop,ni w G s enc v l∧∀b,G b→F b
theorem SlIn'.stable{α:Type}{w w':World}{F:Nat→Prop}{s:Nat}{enc:α→List Value}{v:Value}{l:List α}(h:SlIn' w F s enc v l)(hs:∀b,F b→w'.heap[b]?=w.heap[b]?):SlIn' w' F s enc v l:=by
 obtain⟨G,h1,h2⟩:=h;exact⟨G,(sl s enc v l).stable h1 fun b hb=>hs b (h2 b hb),h2⟩
theorem SlIn'.mono{α:Type}{w:World}{F F':Nat→Prop}{s:Nat}{enc:α→List Value}{v:Value}{l:List α}(h:SlIn' w F s enc v l)(hs:∀b,F b→F' b):SlIn' w F' s enc v l:=by
 obtain⟨G,h1,h2⟩:=h;exact⟨G,h1,fun b hb=>hs b (h2 b hb)⟩
mutual
def TxIn(w:World)(F:Nat→Prop):Tx→Prop
 | .mk _ _ _ v kids=>SlIn' w F 4 dT (sv v) kids∧TxsIn w F kids
def TxsIn(w:World)(F:Nat→Prop):List Tx→Prop
 | []=>True
 | t::r=>TxIn w F t∧TxsIn w F r
end
mutual
theorem TxIn.mono{w w':World}{F F':Nat→Prop}(hs:∀b,F b→F' b)(hw:∀b,F b→w'.heap[b]?=w.heap[b]?):∀t,TxIn w F t→TxIn w' F' t
 | .mk _ _ _ v kids,h=>⟨(h.1.stable hw).mono hs,TxsIn.mono hs hw kids h.2⟩
theorem TxsIn.mono{w w':World}{F F':Nat→Prop}(hs:∀b,F b→F' b)(hw:∀b,F b→w'.heap[b]?=w.heap[b]?):∀l,TxsIn w F l→TxsIn w' F' l
 | [],_=>trivial
 | t::r,h=>⟨TxIn.mono hs hw t h.1,TxsIn.mono hs hw r h.2⟩
end
theorem TxsIn.mem{w:World}{F:Nat→Prop}:∀{l:List Tx},TxsIn w F l→∀t∈l,TxIn w F t
 | [],_,_,h=>by simp at h
 | t::r,h,u,hu=>by
  rcases List.mem_cons.1 hu with rfl|hu
  ·exact h.1
  ·exact TxsIn.mem h.2 u hu
mutual
def TyIn(w:World)(F:Nat→Prop):Ty→Prop
 | .mk _ _ ve es vb body vl els=>(SlIn' w F 4 dT (sv ve) es∧TxsIn w F es)∧(SlIn' w F 5 eE (sv vb) body∧TysIn w F body)∧(SlIn' w F 5 eE (sv vl) els∧TysIn w F els)
def TysIn(w:World)(F:Nat→Prop):List Ty→Prop
 | []=>True
 | t::r=>TyIn w F t∧TysIn w F r
end
mutual
theorem TyIn.mono{w w':World}{F F':Nat→Prop}(hs:∀b,F b→F' b)(hw:∀b,F b→w'.heap[b]?=w.heap[b]?):∀t,TyIn w F t→TyIn w' F' t
 | .mk _ _ ve es vb body vl els,h=>⟨⟨(h.1.1.stable hw).mono hs,TxsIn.mono hs hw es h.1.2⟩,⟨(h.2.1.1.stable hw).mono hs,TysIn.mono hs hw body h.2.1.2⟩,⟨(h.2.2.1.stable hw).mono hs,TysIn.mono hs hw els h.2.2.2⟩⟩
theorem TysIn.mono{w w':World}{F F':Nat→Prop}(hs:∀b,F b→F' b)(hw:∀b,F b→w'.heap[b]?=w.heap[b]?):∀l,TysIn w F l→TysIn w' F' l
 | [],_=>trivial
 | t::r,h=>⟨TyIn.mono hs hw t h.1,TysIn.mono hs hw r h.2⟩
end
theorem TysIn.mem{w:World}{F:Nat→Prop}:∀{l:List Ty},TysIn w F l→∀t∈l,TyIn w F t
 | [],_,_,h=>by simp at h
 | t::r,h,u,hu=>by
  rcases List.mem_cons.1 hu with rfl|hu
  ·exact h.1
  ·exact TysIn.mem h.2 u hu
def ce(v:SV)(l:List Tx):Asn:=⟨fun w F=>SlIn' w F 4 dT (sv v) l∧TxsIn w F l,fun h hs=>⟨h.1.stable hs,TxsIn.mono (fun _ hb=>hb) hs _ h.2⟩⟩
def bV(v:SV)(l:List Ty):Asn:=⟨fun w F=>SlIn' w F 5 eE (sv v) l∧TysIn w F l,fun h hs=>⟨h.1.stable hs,TysIn.mono (fun _ hb=>hb) hs _ h.2⟩⟩
theorem gd{v:SV}{l:List Tx}:∀w G,(ce v l).pred w G→(∀b,G b→b<w.heap.size)→∃G',(sl 4 dT (sv v) l).pred w G'∧∀b,G' b→G b:=fun w G h _=>h.1
theorem ic{v:SV}{l:List Ty}:∀w G,(bV v l).pred w G→(∀b,G b→b<w.heap.size)→∃G',(sl 5 eE (sv v) l).pred w G'∧∀b,G' b→G b:=fun w G h _=>h.1
theorem dD{v:SV}{l:List Tx}{t:Tx}(ht:t∈l):∀w G,(ce v l).pred w G→(∀b,G b→b<w.heap.size)→∃G',(ce t.v t.kids).pred w G'∧∀b,G' b→G b:=fun w G h _=>by
 have:=h.2.mem t ht;cases t with
 | mk a b c d e=>exact⟨G,this,fun _ hb=>hb⟩
theorem kZ{v:SV}{l:List Ty}{t:Ty}(ht:t∈l):∀w G,(bV v l).pred w G→(∀b,G b→b<w.heap.size)→∃G',(ce t.ve t.es).pred w G'∧∀b,G' b→G b:=fun w G h _=>by
 have:=h.2.mem t ht;cases t with
 | mk a b c d e f g i=>exact⟨G,this.1,fun _ hb=>hb⟩
theorem gS{v:SV}{l:List Ty}{t:Ty}(ht:t∈l):∀w G,(bV v l).pred w G→(∀b,G b→b<w.heap.size)→∃G',(bV t.vb t.body).pred w G'∧∀b,G' b→G b:=fun w G h _=>by
 have:=h.2.mem t ht;cases t with
 | mk a b c d e f g i=>exact⟨G,this.2.1,fun _ hb=>hb⟩
theorem iO{v:SV}{l:List Ty}{t:Ty}(ht:t∈l):∀w G,(bV v l).pred w G→(∀b,G b→b<w.heap.size)→∃G',(bV t.vl t.els).pred w G'∧∀b,G' b→G b:=fun w G h _=>by
 have:=h.2.mem t ht;cases t with
 | mk a b c d e f g i=>exact⟨G,this.2.2,fun _ hb=>hb⟩
structure Tf where
 name:ByteArray
 vp:SV
 ps:List ByteArray
 vb:SV
 body:List Ty
def ip(f:Tf):List Value:= [.string f.name,sv f.vp,sv f.vb]
def TfIn(w:World)(F:Nat→Prop)(f:Tf):Prop:=SlIn' w F 1 eS (sv f.vp) f.ps∧(SlIn' w F 5 eE (sv f.vb) f.body∧TysIn w F f.body)
theorem TfIn.stable{w w':World}{F:Nat→Prop}{f:Tf}(h:TfIn w F f)(hs:∀b,F b→w'.heap[b]?=w.heap[b]?):TfIn w' F f:=⟨h.1.stable hs,h.2.1.stable hs,TysIn.mono (fun _ hb=>hb) hs _ h.2.2⟩
def cx(v:SV)(l:List Tf):Asn:=⟨fun w F=>SlIn' w F 3 ip (sv v) l∧∀f∈l,TfIn w F f,fun h hs=>⟨h.1.stable hs,fun f hf=>(h.2 f hf).stable hs⟩⟩
def Bn(f:Tf):Asn:=⟨fun w F=>TfIn w F f,fun h hs=>h.stable hs⟩
theorem jG{v:SV}{l:List Tf}:∀w G,(cx v l).pred w G→(∀b,G b→b<w.heap.size)→∃G',(sl 3 ip (sv v) l).pred w G'∧∀b,G' b→G b:=fun w G h _=>h.1
theorem l_{v:SV}{l:List Tf}{f:Tf}(hf:f∈l):∀w G,(cx v l).pred w G→(∀b,G b→b<w.heap.size)→∃G',(Bn f).pred w G'∧∀b,G' b→G b:=fun w G h _=>⟨G,h.2 f hf,fun _ hb=>hb⟩
theorem ma{f:Tf}:∀w G,(Bn f).pred w G→(∀b,G b→b<w.heap.size)→∃G',(sl 1 eS (sv f.vp) f.ps).pred w G'∧∀b,G' b→G b:=fun w G h _=>h.1
theorem k8{f:Tf}:∀w G,(Bn f).pred w G→(∀b,G b→b<w.heap.size)→∃G',(bV f.vb f.body).pred w G'∧∀b,G' b→G b:=fun w G h _=>⟨G,h.2,fun _ hb=>hb⟩
def wU(n:Int):Int:=IntKind.u32.wrap n
def tr(b:Bool):Int:=if b=true then 1 else 0
def dR:ByteArray:=⟨#[45]⟩
def sK:ByteArray:=⟨#[126]⟩
def ug:ByteArray:=⟨#[33]⟩
def fU:ByteArray:=⟨#[43]⟩
def gB:ByteArray:=⟨#[42]⟩
def kA:ByteArray:=⟨#[47]⟩
def lg:ByteArray:=⟨#[37]⟩
def ff:ByteArray:=⟨#[38]⟩
def j9:ByteArray:=⟨#[124]⟩
def fo:ByteArray:=⟨#[94]⟩
def gw:ByteArray:=⟨#[60,60]⟩
def gU:ByteArray:=⟨#[62,62]⟩
def lU:ByteArray:=⟨#[60]⟩
def nf:ByteArray:=⟨#[60,61]⟩
def ng:ByteArray:=⟨#[62]⟩
def n8:ByteArray:=⟨#[62,61]⟩
def nh:ByteArray:=⟨#[61,61]⟩
def na:ByteArray:=⟨#[33,61]⟩
def Ec(op:ByteArray)(a:Int):Option Int:=
 if op=dR then some (wU (-a))else if op=sK then some (4294967295-a)else if op=ug then some (tr (decide (a=0)))else none
def pF(op:ByteArray)(a b:Int):Option Int:=
 if op=fU then some (wU (a+b))else if op=dR then some (wU (a-b))else if op=gB then some (wU (a*b))else
 if op=kA then some (if b=0 then 0 else a/b)else if op=lg then some (if b=0 then a else a%b)else
 if op=ff then some (bits .and .u32 a b)else if op=j9 then some (bits .or .u32 a b)else if op=fo then some (bits .xor .u32 a b)else
 if op=gw then some (wU (a*2^(b%32).toNat))else if op=gU then some (a/2^(b%32).toNat)else
 if op=lU then some (tr (decide (a<b)))else if op=nf then some (tr (decide (a≤b)))else if op=ng then some (tr (decide (a>b)))else if op=n8 then some (tr (decide (a≥b)))else
 if op=nh then some (tr (decide (a=b)))else if op=na then some (tr (!decide (a=b)))else none
structure Ms where
 inp:List Int
 out:List Int
 mem:Nat→Int
 fuel:Int
inductive Re(α:Type) where
 | ok (a:α) (s:Ms)
 | err (e:Int)
abbrev Vs:=List (ByteArray×Int)
def jc(vs:Vs)(x:ByteArray):Int:=match vs.find? (fun p=>decide (p.1=x))with
 | some p=>p.2
 | none=>0
def fc(vs:Vs)(x:ByteArray)(n:Int):Vs:=(x,n)::vs.filter fun p=>decide (p.1≠x)
def eG(vs:Vs):List ByteArray→List Int→Vs
 | p::ps,a::al=>eG (fc vs p a) ps al
 | _,_=>vs
def cy(fs:List Tf)(x:ByteArray):Option Tf:=fs.find? fun f=>decide (f.name=x)
def ui(m:Nat→Int)(i:Nat)(v:Int):Nat→Int:=fun k=>if k=i then v else m k
mutual
def fw:Nat→List Tf→Nat→Vs→Tx→Ms→Option (Re Int)
 | 0,_,_,_,_,_=>none
 | g+1,fs,d,vs,t,s=>if s.fuel≤0 then some (.err 25)else
  match iq g fs d vs [] t.kids {s with fuel:=s.fuel-1}with
  | none=>none
  | some (.err e)=>some (.err e)
  | some (.ok ks s1)=>
   if t.kind=1 then some (.ok t.n s1)else if t.kind=2 then some (.ok (jc vs t.name) s1)else
   if t.kind=4 then some (.ok (s1.mem (ks.getD 0 0%256).toNat) s1)else
   if t.kind=5 then(match s1.inp with
    | []=>some (.ok 0 s1)
    | a::r=>some (.ok a {s1 with inp:=r}))else
   if t.kind=6 then some (.ok ((Ec t.name (ks.getD 0 0)).getD 0) s1)else if t.kind=7 then some (.ok ((pF t.name (ks.getD 0 0) (ks.getD 1 0)).getD 0) s1)else
   match cy fs t.name with
   | none=>none
   | some f=>lM g fs d f ks s1
def iq:Nat→List Tf→Nat→Vs→List Int→List Tx→Ms→Option (Re (List Int))
 | 0,_,_,_,_,_,_=>none
 | _+1,_,_,_,acc,[],s=>some (.ok acc s)
 | g+1,fs,d,vs,acc,t::r,s=>match fw g fs d vs t s with
  | none=>none
  | some (.err e)=>some (.err e)
  | some (.ok v s1)=>iq g fs d vs (acc++ [v]) r s1
def lM:Nat→List Tf→Nat→Tf→List Int→Ms→Option (Re Int)
 | 0,_,_,_,_,_=>none
 | g+1,fs,d,f,al,s=>if d=12 then some (.err 26)else
  match gW g fs (d+1) (eG [] f.ps al) f.body s with
  | none=>none
  | some (.err e)=>some (.err e)
  | some (.ok (_,r) s1)=>some (.ok (r.getD 0) s1)
def gW:Nat→List Tf→Nat→Vs→List Ty→Ms→Option (Re (Vs×Option Int))
 | 0,_,_,_,_,_=>none
 | _+1,_,_,vs,[],s=>some (.ok (vs,none) s)
 | g+1,fs,d,vs,t::r,s=>match i_ g fs d vs t s with
  | none=>none
  | some (.err e)=>some (.err e)
  | some (.ok (vs1,some x) s1)=>some (.ok (vs1,some x) s1)
  | some (.ok (vs1,none) s1)=>gW g fs d vs1 r s1
def i_:Nat→List Tf→Nat→Vs→Ty→Ms→Option (Re (Vs×Option Int))
 | 0,_,_,_,_,_=>none
 | g+1,fs,d,vs,t,s=>if s.fuel≤0 then some (.err 25)else
  match t.es with
  | []=>none
  | e::es=>match fw g fs d vs e {s with fuel:=s.fuel-1}with
   | none=>none
   | some (.err e)=>some (.err e)
   | some (.ok v s1)=>
    if t.kind=1∨t.kind=2 then some (.ok (fc vs t.name v,none) s1)else
    if t.kind=3 then(match es with
     | []=>none
     | e2::_=>match fw g fs d vs e2 s1 with
      | none=>none
      | some (.err e)=>some (.err e)
      | some (.ok w s2)=>some (.ok (vs,none) {s2 with mem:=ui s2.mem (v%256).toNat w}))else
    if t.kind=4 then gW g fs d vs (if v=0 then t.els else t.body) s1 else
    if t.kind=5 then kF g fs d vs e t.body v s1 else
    if t.kind=6 then some (.ok (vs,some v) s1)else if t.kind=7 then some (.ok (vs,none) {s1 with out:=s1.out++ [v]})else some (.ok (vs,none) s1)
def kF:Nat→List Tf→Nat→Vs→Tx→List Ty→Int→Ms→Option (Re (Vs×Option Int))
 | 0,_,_,_,_,_,_,_=>none
 | g+1,fs,d,vs,e,l,v,s=>if v=0 then some (.ok (vs,none) s)else
  match gW g fs d vs l s with
  | none=>none
  | some (.err e)=>some (.err e)
  | some (.ok (vs1,some x) s1)=>some (.ok (vs1,some x) s1)
  | some (.ok (vs1,none) s1)=>match fw g fs d vs1 e s1 with
   | none=>none
   | some (.err e)=>some (.err e)
   | some (.ok w s2)=>kF g fs d vs1 e l w s2
end
end Go.Proofs.YtedmdgbmdplifaaGreat
namespace Go.Proofs.YtedmdgbmdplifaaGreat
open Go.RowKit Tryz
theorem t1:TI prog 1 (.func #[] #[] Bool.false) (.nilFunc) 1 8:=⟨underlying1,by kernel_rfl⟩
theorem t3:TI prog 3 (.int .i64) (I6 0) 1 8:=⟨underlying3,by kernel_rfl⟩
theorem t4:TI prog 4 Go.TypeDesc.bool (.bool false) 1 1:=⟨underlying4,by kernel_rfl⟩
theorem t5:TI prog 5 (.int .u8) (.int .u8 0) 1 1:=⟨underlying5,by kernel_rfl⟩
theorem t9:TI prog 9 Go.TypeDesc.string (Sg ⟨#[]⟩) 1 16:=⟨underlying9,by kernel_rfl⟩
theorem EL:TI prog 22 (.slice 3) (.slice none 0 0) 1 24:=⟨underlying22,by kernel_rfl⟩
theorem iB:TI prog 25 (.slice 66) (.slice none 0 0) 1 24:=⟨underlying25,by kernel_rfl⟩
theorem jB:TI prog 27 (.struct #[⟨ "Funcs",25,0,false,"","",0⟩]) (.agg #[.slice none 0 0]) 1 24:=⟨underlying27,by kernel_rfl⟩
theorem dJ:FO prog 27 0 0:=⟨_,_,0,underlying27,rfl,rfl,by kernel_rfl⟩
theorem Sp:PL prog 27 [(0,1)]:=⟨_,underlying27,by kernel_rfl⟩
theorem uD:TI prog 31 (.struct #[⟨ "Kind",3,0,false,"","",0⟩,⟨ "Code",9,1,false,"","",8⟩]) (.agg #[I6 0,Sg ⟨#[]⟩]) 2 24:=⟨underlying31,by kernel_rfl⟩
theorem GK:FO prog 31 0 0:=⟨_,_,0,underlying31,rfl,rfl,by kernel_rfl⟩
theorem lu:FO prog 31 1 1:=⟨_,_,0,underlying31,rfl,rfl,by kernel_rfl⟩
theorem My:PL prog 31 [(0,1),(1,1)]:=⟨_,underlying31,by kernel_rfl⟩
theorem pr:TI prog 32 (.int .i64) (I6 0) 1 8:=⟨underlying32,by kernel_rfl⟩
theorem dm:TI prog 41 (.int .u32) (I3 0) 1 4:=⟨underlying41,by kernel_rfl⟩
theorem gO:TI prog 46 (.slice 9) (.slice none 0 0) 1 24:=⟨underlying46,by kernel_rfl⟩
theorem qS:TI prog 48 (.slice 41) (.slice none 0 0) 1 24:=⟨underlying48,by kernel_rfl⟩
theorem za:TI prog 53 (.struct #[⟨ "Kind",3,0,false,"","",0⟩,⟨ "Info",41,1,false,"","",8⟩]) (.agg #[I6 0,I3 0]) 2 16:=⟨underlying53,by kernel_rfl⟩
theorem qg:FO prog 53 0 0:=⟨_,_,0,underlying53,rfl,rfl,by kernel_rfl⟩
theorem AF:FO prog 53 1 1:=⟨_,_,0,underlying53,rfl,rfl,by kernel_rfl⟩
theorem Mx:PL prog 53 [(0,1),(1,1)]:=⟨_,underlying53,by kernel_rfl⟩
theorem zw:TI prog 55 (.struct #[⟨ "Outputs",48,0,false,"","",0⟩,⟨ "Mem",48,1,false,"","",24⟩,⟨ "End",53,2,false,"","",48⟩]) (.agg #[.slice none 0 0,.slice none 0 0,I6 0,I3 0]) 4 64:=⟨underlying55,by kernel_rfl⟩
theorem qf:FO prog 55 0 0:=⟨_,_,0,underlying55,rfl,rfl,by kernel_rfl⟩
theorem qe:FO prog 55 1 1:=⟨_,_,0,underlying55,rfl,rfl,by kernel_rfl⟩
theorem td:FO prog 55 2 2:=⟨_,_,1,underlying55,rfl,rfl,by kernel_rfl⟩
theorem So:PL prog 55 [(0,1),(1,1),(2,2)]:=⟨_,underlying55,by kernel_rfl⟩
theorem jh:TI prog 59 (.slice 61) (.slice none 0 0) 1 24:=⟨underlying59,by kernel_rfl⟩
theorem cl:TI prog 61 (.struct #[⟨ "Kind",3,0,false,"","",0⟩,⟨ "N",41,1,false,"","",8⟩,⟨ "Name",9,2,false,"","",16⟩,⟨ "Kids",59,3,false,"","",32⟩]) (.agg #[I6 0,I3 0,Sg ⟨#[]⟩,.slice none 0 0]) 4 56:=⟨underlying61,by kernel_rfl⟩
theorem jQ:FO prog 61 0 0:=⟨_,_,0,underlying61,rfl,rfl,by kernel_rfl⟩
theorem wP:FO prog 61 1 1:=⟨_,_,0,underlying61,rfl,rfl,by kernel_rfl⟩
theorem dI:FO prog 61 2 2:=⟨_,_,0,underlying61,rfl,rfl,by kernel_rfl⟩
theorem dx:FO prog 61 3 3:=⟨_,_,0,underlying61,rfl,rfl,by kernel_rfl⟩
theorem ky:PL prog 61 [(0,1),(1,1),(2,1),(3,1)]:=⟨_,underlying61,by kernel_rfl⟩
theorem iP:TI prog 62 (.slice 64) (.slice none 0 0) 1 24:=⟨underlying62,by kernel_rfl⟩
theorem dK:TI prog 64 (.struct #[⟨ "Kind",3,0,false,"","",0⟩,⟨ "Name",9,1,false,"","",8⟩,⟨ "Exprs",59,2,false,"","",24⟩,⟨ "Body",62,3,false,"","",48⟩,⟨ "Else",62,4,false,"","",72⟩]) (.agg #[I6 0,Sg ⟨#[]⟩,.slice none 0 0,.slice none 0 0,.slice none 0 0]) 5 96:=⟨underlying64,by kernel_rfl⟩
theorem eM:FO prog 64 0 0:=⟨_,_,0,underlying64,rfl,rfl,by kernel_rfl⟩
theorem iK:FO prog 64 1 1:=⟨_,_,0,underlying64,rfl,rfl,by kernel_rfl⟩
theorem gj:FO prog 64 2 2:=⟨_,_,0,underlying64,rfl,rfl,by kernel_rfl⟩
theorem ft:FO prog 64 3 3:=⟨_,_,0,underlying64,rfl,rfl,by kernel_rfl⟩
theorem fq:FO prog 64 4 4:=⟨_,_,0,underlying64,rfl,rfl,by kernel_rfl⟩
theorem lP:PL prog 64 [(0,1),(1,1),(2,1),(3,1),(4,1)]:=⟨_,underlying64,by kernel_rfl⟩
theorem fj:TI prog 66 (.struct #[⟨ "Name",9,0,false,"","",0⟩,⟨ "Params",46,1,false,"","",16⟩,⟨ "Body",62,2,false,"","",40⟩]) (.agg #[Sg ⟨#[]⟩,.slice none 0 0,.slice none 0 0]) 3 64:=⟨underlying66,by kernel_rfl⟩
theorem kC:FO prog 66 0 0:=⟨_,_,0,underlying66,rfl,rfl,by kernel_rfl⟩
theorem d6:FO prog 66 1 1:=⟨_,_,0,underlying66,rfl,rfl,by kernel_rfl⟩
theorem jl:FO prog 66 2 2:=⟨_,_,0,underlying66,rfl,rfl,by kernel_rfl⟩
theorem Pa:PL prog 66 [(0,1),(1,1),(2,1)]:=⟨_,underlying66,by kernel_rfl⟩
theorem y_:TI prog 78 (.struct #[⟨ "PC",41,0,false,"","",0⟩,⟨ "R",75,1,false,"","",4⟩,⟨ "F",41,17,false,"","",68⟩,⟨ "C",76,18,false,"","",72⟩,⟨ "Steps",3,22,false,"","",88⟩,⟨ "Due",3,23,false,"","",96⟩]) (.agg #[I3 0,I3 0,I3 0,I3 0,I3 0,I3 0,I3 0,I3 0,I3 0,I3 0,I3 0,I3 0,I3 0,I3 0,I3 0,I3 0,I3 0,I3 0,I3 0,I3 0,I3 0,I3 0,I6 0,I6 0]) 24 104:=⟨underlying78,by kernel_rfl⟩
theorem jk:FO prog 78 0 0:=⟨_,_,0,underlying78,rfl,rfl,by kernel_rfl⟩
theorem ig:FO prog 78 1 1:=⟨_,_,15,underlying78,rfl,rfl,by kernel_rfl⟩
theorem Nw:FO prog 78 2 17:=⟨_,_,0,underlying78,rfl,rfl,by kernel_rfl⟩
theorem jj:FO prog 78 4 22:=⟨_,_,0,underlying78,rfl,rfl,by kernel_rfl⟩
theorem wO:FO prog 78 5 23:=⟨_,_,0,underlying78,rfl,rfl,by kernel_rfl⟩
theorem Sn:PL prog 78 [(0,1),(1,16),(17,1),(18,4),(22,1),(23,1)]:=⟨_,underlying78,by kernel_rfl⟩
theorem zv:TI prog 84 (.slice 5) (.slice none 0 0) 1 24:=⟨underlying84,by kernel_rfl⟩
theorem xz:TI prog 91 (.pointer 157) (.pointer none) 1 8:=⟨underlying91,by kernel_rfl⟩
theorem Uq:TI prog 93 (.struct #[⟨ "S",78,0,false,"","",0⟩,⟨ "M",91,24,false,"","",104⟩]) (.agg #[I3 0,I3 0,I3 0,I3 0,I3 0,I3 0,I3 0,I3 0,I3 0,I3 0,I3 0,I3 0,I3 0,I3 0,I3 0,I3 0,I3 0,I3 0,I3 0,I3 0,I3 0,I3 0,I6 0,I6 0,.pointer none]) 25 112:=⟨underlying93,by kernel_rfl⟩
theorem eA:FO prog 93 0 0:=⟨_,_,23,underlying93,rfl,rfl,by kernel_rfl⟩
theorem gq:FO prog 93 1 24:=⟨_,_,0,underlying93,rfl,rfl,by kernel_rfl⟩
theorem Sm:PL prog 93 [(0,24),(24,1)]:=⟨_,underlying93,by kernel_rfl⟩
theorem R5:TI prog 102 (.struct #[⟨ "l",22,0,false,"","babel/babelref08",0⟩,⟨ "at",3,1,false,"","babel/babelref08",24⟩,⟨ "left",3,2,false,"","babel/babelref08",32⟩,⟨ "nodes",3,3,false,"","babel/babelref08",40⟩,⟨ "names",46,4,false,"","babel/babelref08",48⟩,⟨ "vars",3,5,false,"","babel/babelref08",72⟩,⟨ "me",3,6,false,"","babel/babelref08",80⟩,⟨ "funcs",25,7,false,"","babel/babelref08",88⟩]) (.agg #[.slice none 0 0,I6 0,I6 0,I6 0,.slice none 0 0,I6 0,I6 0,.slice none 0 0]) 8 112:=⟨underlying102,by kernel_rfl⟩
theorem Cx:FO prog 102 0 0:=⟨_,_,0,underlying102,rfl,rfl,by kernel_rfl⟩
theorem rS:FO prog 102 1 1:=⟨_,_,0,underlying102,rfl,rfl,by kernel_rfl⟩
theorem rQ:FO prog 102 2 2:=⟨_,_,0,underlying102,rfl,rfl,by kernel_rfl⟩
theorem rO:FO prog 102 3 3:=⟨_,_,0,underlying102,rfl,rfl,by kernel_rfl⟩
theorem gm:FO prog 102 4 4:=⟨_,_,0,underlying102,rfl,rfl,by kernel_rfl⟩
theorem jA:FO prog 102 5 5:=⟨_,_,0,underlying102,rfl,rfl,by kernel_rfl⟩
theorem eV:FO prog 102 6 6:=⟨_,_,0,underlying102,rfl,rfl,by kernel_rfl⟩
theorem du:FO prog 102 7 7:=⟨_,_,0,underlying102,rfl,rfl,by kernel_rfl⟩
theorem Pl:PL prog 102 [(0,1),(1,1),(2,1),(3,1),(4,1),(5,1),(6,1),(7,1)]:=⟨_,underlying102,by kernel_rfl⟩
theorem md:TI prog 104 (.pointer 111) (.pointer none) 1 8:=⟨underlying104,by kernel_rfl⟩
theorem EM:TI prog 105 (.map 9 3) (.map none) 1 8:=⟨underlying105,by kernel_rfl⟩
theorem Db:TI prog 106 (.slice 118) (.slice none 0 0) 1 24:=⟨underlying106,by kernel_rfl⟩
theorem It:TI prog 107 (.slice 171) (.slice none 0 0) 1 24:=⟨underlying107,by kernel_rfl⟩
theorem Da:TI prog 108 (.map 9 41) (.map none) 1 8:=⟨underlying108,by kernel_rfl⟩
theorem OT:TI prog 109 (.map 9 1) (.map none) 1 8:=⟨underlying109,by kernel_rfl⟩
theorem R4:TI prog 111 (.struct #[⟨ "p",27,0,false,"","babel/qgen",0⟩,⟨ "code",106,1,false,"","babel/qgen",24⟩,⟨ "fixes",107,2,false,"","babel/qgen",48⟩,⟨ "labels",22,3,false,"","babel/qgen",72⟩,⟨ "starts",105,4,false,"","babel/qgen",96⟩,⟨ "offs",108,5,false,"","babel/qgen",104⟩,⟨ "ops",109,6,false,"","babel/qgen",112⟩,⟨ "end",3,7,false,"","babel/qgen",120⟩]) (.agg #[.slice none 0 0,.slice none 0 0,.slice none 0 0,.slice none 0 0,.map none,.map none,.map none,I6 0]) 8 128:=⟨underlying111,by kernel_rfl⟩
theorem mY:FO prog 111 1 1:=⟨_,_,0,underlying111,rfl,rfl,by kernel_rfl⟩
theorem rN:FO prog 111 2 2:=⟨_,_,0,underlying111,rfl,rfl,by kernel_rfl⟩
theorem o8:FO prog 111 3 3:=⟨_,_,0,underlying111,rfl,rfl,by kernel_rfl⟩
theorem oZ:FO prog 111 4 4:=⟨_,_,0,underlying111,rfl,rfl,by kernel_rfl⟩
theorem mX:FO prog 111 5 5:=⟨_,_,0,underlying111,rfl,rfl,by kernel_rfl⟩
theorem Cw:FO prog 111 6 6:=⟨_,_,0,underlying111,rfl,rfl,by kernel_rfl⟩
theorem wW:FO prog 111 7 7:=⟨_,_,0,underlying111,rfl,rfl,by kernel_rfl⟩
theorem Pj:PL prog 111 [(0,1),(1,1),(2,1),(3,1),(4,1),(5,1),(6,1),(7,1)]:=⟨_,underlying111,by kernel_rfl⟩
theorem fA:TI prog 118 (.struct #[⟨ "Op",3,0,false,"","",0⟩,⟨ "D",3,1,false,"","",8⟩,⟨ "A",3,2,false,"","",16⟩,⟨ "B",3,3,false,"","",24⟩,⟨ "Imm",41,4,false,"","",32⟩]) (.agg #[I6 0,I6 0,I6 0,I6 0,I3 0]) 5 40:=⟨underlying118,by kernel_rfl⟩
theorem cv:FO prog 118 0 0:=⟨_,_,0,underlying118,rfl,rfl,by kernel_rfl⟩
theorem h_:FO prog 118 1 1:=⟨_,_,0,underlying118,rfl,rfl,by kernel_rfl⟩
theorem mW:FO prog 118 2 2:=⟨_,_,0,underlying118,rfl,rfl,by kernel_rfl⟩
theorem mV:FO prog 118 3 3:=⟨_,_,0,underlying118,rfl,rfl,by kernel_rfl⟩
theorem d9:FO prog 118 4 4:=⟨_,_,0,underlying118,rfl,rfl,by kernel_rfl⟩
theorem nr:PL prog 118 [(0,1),(1,1),(2,1),(3,1),(4,1)]:=⟨_,underlying118,by kernel_rfl⟩
theorem ge:TI prog 124 (.struct #[⟨ "Nodes",3,0,false,"","",0⟩,⟨ "Vars",3,1,false,"","",8⟩,⟨ "Stmts",3,2,false,"","",16⟩,⟨ "Exprs",3,3,false,"","",24⟩]) (.agg #[I6 0,I6 0,I6 0,I6 0]) 4 32:=⟨underlying124,by kernel_rfl⟩
theorem lx:FO prog 124 0 0:=⟨_,_,0,underlying124,rfl,rfl,by kernel_rfl⟩
theorem oY:FO prog 124 1 1:=⟨_,_,0,underlying124,rfl,rfl,by kernel_rfl⟩
theorem oX:FO prog 124 2 2:=⟨_,_,0,underlying124,rfl,rfl,by kernel_rfl⟩
theorem oV:FO prog 124 3 3:=⟨_,_,0,underlying124,rfl,rfl,by kernel_rfl⟩
theorem Ft:PL prog 124 [(0,1),(1,1),(2,1),(3,1)]:=⟨_,underlying124,by kernel_rfl⟩
theorem R3:TI prog 128 (.struct #[⟨ "p",27,0,false,"","babel/babelref08",0⟩,⟨ "names",46,1,false,"","babel/babelref08",24⟩]) (.agg #[.slice none 0 0,.slice none 0 0]) 2 48:=⟨underlying128,by kernel_rfl⟩
theorem Cu:FO prog 128 0 0:=⟨_,_,0,underlying128,rfl,rfl,by kernel_rfl⟩
theorem jz:FO prog 128 1 1:=⟨_,_,0,underlying128,rfl,rfl,by kernel_rfl⟩
theorem Pi:PL prog 128 [(0,1),(1,1)]:=⟨_,underlying128,by kernel_rfl⟩
theorem pJ:TI prog 136 (.struct #[⟨ "Outputs",48,0,false,"","",0⟩,⟨ "Mem",48,1,false,"","",24⟩,⟨ "Err",32,2,false,"","",48⟩]) (.agg #[.slice none 0 0,.slice none 0 0,I6 0]) 3 56:=⟨underlying136,by kernel_rfl⟩
theorem J0:FO prog 136 0 0:=⟨_,_,0,underlying136,rfl,rfl,by kernel_rfl⟩
theorem JZ:FO prog 136 1 1:=⟨_,_,0,underlying136,rfl,rfl,by kernel_rfl⟩
theorem Ct:FO prog 136 2 2:=⟨_,_,0,underlying136,rfl,rfl,by kernel_rfl⟩
theorem Fq:PL prog 136 [(0,1),(1,1),(2,1)]:=⟨_,underlying136,by kernel_rfl⟩
theorem C_:TI prog 157 (.struct #[⟨ "Data",84,0,false,"","",0⟩,⟨ "Image",84,1,false,"","",24⟩,⟨ "OldData",84,2,false,"","",48⟩,⟨ "OldImage",84,3,false,"","",72⟩,⟨ "Rights",22,4,false,"","",96⟩,⟨ "Coherent",4,5,false,"","",120⟩]) (.agg #[.slice none 0 0,.slice none 0 0,.slice none 0 0,.slice none 0 0,.slice none 0 0,.bool false]) 6 128:=⟨underlying157,by kernel_rfl⟩
theorem mU:FO prog 157 0 0:=⟨_,_,0,underlying157,rfl,rfl,by kernel_rfl⟩
theorem rM:FO prog 157 1 1:=⟨_,_,0,underlying157,rfl,rfl,by kernel_rfl⟩
theorem JY:FO prog 157 3 3:=⟨_,_,0,underlying157,rfl,rfl,by kernel_rfl⟩
theorem rL:FO prog 157 4 4:=⟨_,_,0,underlying157,rfl,rfl,by kernel_rfl⟩
theorem wV:FO prog 157 5 5:=⟨_,_,0,underlying157,rfl,rfl,by kernel_rfl⟩
theorem uJ:PL prog 157 [(0,1),(1,1),(2,1),(3,1),(4,1),(5,1)]:=⟨_,underlying157,by kernel_rfl⟩
theorem RZ:TI prog 165 (.struct #[⟨ "p",27,0,false,"","babel/syntax",0⟩,⟨ "names",46,1,false,"","babel/syntax",24⟩,⟨ "nodes",3,2,false,"","babel/syntax",48⟩,⟨ "vars",3,3,false,"","babel/syntax",56⟩,⟨ "deep",4,4,false,"","babel/syntax",64⟩,⟨ "err",32,5,false,"","babel/syntax",72⟩]) (.agg #[.slice none 0 0,.slice none 0 0,I6 0,I6 0,.bool false,I6 0]) 6 80:=⟨underlying165,by kernel_rfl⟩
theorem Cs:FO prog 165 0 0:=⟨_,_,0,underlying165,rfl,rfl,by kernel_rfl⟩
theorem oU:FO prog 165 1 1:=⟨_,_,0,underlying165,rfl,rfl,by kernel_rfl⟩
theorem mT:FO prog 165 2 2:=⟨_,_,0,underlying165,rfl,rfl,by kernel_rfl⟩
theorem rK:FO prog 165 3 3:=⟨_,_,0,underlying165,rfl,rfl,by kernel_rfl⟩
theorem oT:FO prog 165 4 4:=⟨_,_,0,underlying165,rfl,rfl,by kernel_rfl⟩
theorem wT:FO prog 165 5 5:=⟨_,_,0,underlying165,rfl,rfl,by kernel_rfl⟩
theorem Ph:PL prog 165 [(0,1),(1,1),(2,1),(3,1),(4,1),(5,1)]:=⟨_,underlying165,by kernel_rfl⟩
theorem zy:TI prog 171 (.struct #[⟨ "at",3,0,false,"","babel/qgen",0⟩,⟨ "label",3,1,false,"","babel/qgen",8⟩]) (.agg #[I6 0,I6 0]) 2 16:=⟨underlying171,by kernel_rfl⟩
theorem Cr:FO prog 171 0 0:=⟨_,_,0,underlying171,rfl,rfl,by kernel_rfl⟩
theorem JX:FO prog 171 1 1:=⟨_,_,0,underlying171,rfl,rfl,by kernel_rfl⟩
theorem Pg:PL prog 171 [(0,1),(1,1)]:=⟨_,underlying171,by kernel_rfl⟩
theorem Ma:TI prog 175 (.pointer 177) (.pointer none) 1 8:=⟨underlying175,by kernel_rfl⟩
theorem Ir:TI prog 177 (.struct #[⟨ "addr",175,0,false,"","strings",0⟩,⟨ "buf",84,1,false,"","strings",8⟩]) (.agg #[.pointer none,.slice none 0 0]) 2 32:=⟨underlying177,by kernel_rfl⟩
theorem wS:FO prog 177 0 0:=⟨_,_,0,underlying177,rfl,rfl,by kernel_rfl⟩
theorem rJ:FO prog 177 1 1:=⟨_,_,0,underlying177,rfl,rfl,by kernel_rfl⟩
theorem pI:TI prog 192 (.slice 197) (.slice none 0 0) 1 24:=⟨underlying192,by kernel_rfl⟩
theorem RY:TI prog 195 (.struct #[⟨ "l",192,0,false,"","babel/babelref08",0⟩,⟨ "at",3,1,false,"","babel/babelref08",24⟩,⟨ "off",3,2,false,"","babel/babelref08",32⟩,⟨ "err",32,3,false,"","babel/babelref08",40⟩]) (.agg #[.slice none 0 0,I6 0,I6 0,I6 0]) 4 48:=⟨underlying195,by kernel_rfl⟩
theorem gH:FO prog 195 0 0:=⟨_,_,0,underlying195,rfl,rfl,by kernel_rfl⟩
theorem ch:FO prog 195 1 1:=⟨_,_,0,underlying195,rfl,rfl,by kernel_rfl⟩
theorem iS:FO prog 195 3 3:=⟨_,_,0,underlying195,rfl,rfl,by kernel_rfl⟩
theorem Pe:PL prog 195 [(0,1),(1,1),(2,1),(3,1)]:=⟨_,underlying195,by kernel_rfl⟩
theorem eZ:TI prog 197 (.struct #[⟨ "Kind",3,0,false,"","",0⟩,⟨ "Text",9,1,false,"","",8⟩,⟨ "N",41,2,false,"","",24⟩,⟨ "Big",4,3,false,"","",28⟩,⟨ "At",3,4,false,"","",32⟩]) (.agg #[I6 0,Sg ⟨#[]⟩,I3 0,.bool false,I6 0]) 5 40:=⟨underlying197,by kernel_rfl⟩
theorem eC:FO prog 197 0 0:=⟨_,_,0,underlying197,rfl,rfl,by kernel_rfl⟩
theorem el:FO prog 197 1 1:=⟨_,_,0,underlying197,rfl,rfl,by kernel_rfl⟩
theorem Cq:FO prog 197 2 2:=⟨_,_,0,underlying197,rfl,rfl,by kernel_rfl⟩
theorem Cp:FO prog 197 3 3:=⟨_,_,0,underlying197,rfl,rfl,by kernel_rfl⟩
theorem KN:PL prog 197 [(0,1),(1,1),(2,1),(3,1),(4,1)]:=⟨_,underlying197,by kernel_rfl⟩
theorem RW:TI prog 204 (.struct #[⟨ "P",27,0,false,"","",0⟩,⟨ "In",48,1,false,"","",24⟩,⟨ "Out",48,2,false,"","",48⟩,⟨ "Mem",202,3,false,"","",72⟩,⟨ "Fuel",3,259,false,"","",1096⟩,⟨ "Used",3,260,false,"","",1104⟩,⟨ "Err",32,261,false,"","",1112⟩]) (.agg #[.slice none 0 0,.slice none 0 0,.slice none 0 0,I3 0,I3 0,I3 0,I3 0,I3 0,I3 0,I3 0,I3 0,I3 0,I3 0,I3 0,I3 0,I3 0,I3 0,I3 0,I3 0,I3 0,I3 0,I3 0,I3 0,I3 0,I3 0,I3 0,I3 0,I3 0,I3 0,I3 0,I3 0,I3 0,I3 0,I3 0,I3 0,I3 0,I3 0,I3 0,I3 0,I3 0,I3 0,I3 0,I3 0,I3 0,I3 0,I3 0,I3 0,I3 0,I3 0,I3 0,I3 0,I3 0,I3 0,I3 0,I3 0,I3 0,I3 0,I3 0,I3 0,I3 0,I3 0,I3 0,I3 0,I3 0,I3 0,I3 0,I3 0,I3 0,I3 0,I3 0,I3 0,I3 0,I3 0,I3 0,I3 0,I3 0,I3 0,I3 0,I3 0,I3 0,I3 0,I3 0,I3 0,I3 0,I3 0,I3 0,I3 0,I3 0,I3 0,I3 0,I3 0,I3 0,I3 0,I3 0,I3 0,I3 0,I3 0,I3 0,I3 0,I3 0,I3 0,I3 0,I3 0,I3 0,I3 0,I3 0,I3 0,I3 0,I3 0,I3 0,I3 0,I3 0,I3 0,I3 0,I3 0,I3 0,I3 0,I3 0,I3 0,I3 0,I3 0,I3 0,I3 0,I3 0,I3 0,I3 0,I3 0,I3 0,I3 0,I3 0,I3 0,I3 0,I3 0,I3 0,I3 0,I3 0,I3 0,I3 0,I3 0,I3 0,I3 0,I3 0,I3 0,I3 0,I3 0,I3 0,I3 0,I3 0,I3 0,I3 0,I3 0,I3 0,I3 0,I3 0,I3 0,I3 0,I3 0,I3 0,I3 0,I3 0,I3 0,I3 0,I3 0,I3 0,I3 0,I3 0,I3 0,I3 0,I3 0,I3 0,I3 0,I3 0,I3 0,I3 0,I3 0,I3 0,I3 0,I3 0,I3 0,I3 0,I3 0,I3 0,I3 0,I3 0,I3 0,I3 0,I3 0,I3 0,I3 0,I3 0,I3 0,I3 0,I3 0,I3 0,I3 0,I3 0,I3 0,I3 0,I3 0,I3 0,I3 0,I3 0,I3 0,I3 0,I3 0,I3 0,I3 0,I3 0,I3 0,I3 0,I3 0,I3 0,I3 0,I3 0,I3 0,I3 0,I3 0,I3 0,I3 0,I3 0,I3 0,I3 0,I3 0,I3 0,I3 0,I3 0,I3 0,I3 0,I3 0,I3 0,I3 0,I3 0,I3 0,I3 0,I3 0,I3 0,I3 0,I3 0,I3 0,I3 0,I3 0,I3 0,I3 0,I3 0,I3 0,I3 0,I3 0,I3 0,I3 0,I3 0,I3 0,I3 0,I3 0,I3 0,I3 0,I3 0,I3 0,I3 0,I3 0,I6 0,I6 0,I6 0]) 262 1120:=⟨underlying204,by kernel_rfl⟩
theorem lw:FO prog 204 0 0:=⟨_,_,0,underlying204,rfl,rfl,by kernel_rfl⟩
theorem rI:FO prog 204 1 1:=⟨_,_,0,underlying204,rfl,rfl,by kernel_rfl⟩
theorem wR:FO prog 204 2 2:=⟨_,_,0,underlying204,rfl,rfl,by kernel_rfl⟩
theorem wQ:FO prog 204 3 3:=⟨_,_,255,underlying204,rfl,rfl,by kernel_rfl⟩
theorem Co:FO prog 204 4 259:=⟨_,_,0,underlying204,rfl,rfl,by kernel_rfl⟩
theorem rH:FO prog 204 5 260:=⟨_,_,0,underlying204,rfl,rfl,by kernel_rfl⟩
theorem gG:FO prog 204 6 261:=⟨_,_,0,underlying204,rfl,rfl,by kernel_rfl⟩
theorem Pd:PL prog 204 [(0,1),(1,1),(2,1),(3,256),(259,1),(260,1),(261,1)]:=⟨_,underlying204,by kernel_rfl⟩
theorem m8:TI prog 207 (.struct #[⟨ "S",78,0,false,"","",0⟩,⟨ "T",53,24,false,"","",104⟩]) (.agg #[I3 0,I3 0,I3 0,I3 0,I3 0,I3 0,I3 0,I3 0,I3 0,I3 0,I3 0,I3 0,I3 0,I3 0,I3 0,I3 0,I3 0,I3 0,I3 0,I3 0,I3 0,I3 0,I6 0,I6 0,I6 0,I3 0]) 26 120:=⟨underlying207,by kernel_rfl⟩
theorem Cn:FO prog 207 0 0:=⟨_,_,23,underlying207,rfl,rfl,by kernel_rfl⟩
theorem rG:FO prog 207 1 24:=⟨_,_,1,underlying207,rfl,rfl,by kernel_rfl⟩
theorem KM:PL prog 207 [(0,24),(24,2)]:=⟨_,underlying207,by kernel_rfl⟩
theorem ji:TI prog 219 (.struct #[⟨ "known",4,0,false,"","babel/qcode",0⟩,⟨ "d",4,1,false,"","babel/qcode",1⟩,⟨ "a",4,2,false,"","babel/qcode",2⟩,⟨ "b",4,3,false,"","babel/qcode",3⟩,⟨ "kind",3,4,false,"","babel/qcode",8⟩,⟨ "bits",3,5,false,"","babel/qcode",16⟩,⟨ "most",41,6,false,"","babel/qcode",24⟩]) (.agg #[.bool false,.bool false,.bool false,.bool false,I6 0,I6 0,I3 0]) 7 32:=⟨underlying219,by kernel_rfl⟩
theorem Cm:FO prog 219 0 0:=⟨_,_,0,underlying219,rfl,rfl,by kernel_rfl⟩
theorem JW:FO prog 219 1 1:=⟨_,_,0,underlying219,rfl,rfl,by kernel_rfl⟩
theorem JV:FO prog 219 2 2:=⟨_,_,0,underlying219,rfl,rfl,by kernel_rfl⟩
theorem JU:FO prog 219 3 3:=⟨_,_,0,underlying219,rfl,rfl,by kernel_rfl⟩
theorem Cl:FO prog 219 4 4:=⟨_,_,0,underlying219,rfl,rfl,by kernel_rfl⟩
theorem Ck:FO prog 219 5 5:=⟨_,_,0,underlying219,rfl,rfl,by kernel_rfl⟩
theorem JJ:FT prog 219 5 5 3:=⟨_,_,underlying219,rfl,rfl,rfl⟩
theorem Cj:FO prog 219 6 6:=⟨_,_,0,underlying219,rfl,rfl,by kernel_rfl⟩
theorem lL:PL prog 219 [(0,1),(1,1),(2,1),(3,1),(4,1),(5,1),(6,1)]:=⟨_,underlying219,by kernel_rfl⟩
theorem RU:TI prog 232 (.struct #[⟨ "Names",46,0,false,"","",0⟩,⟨ "Values",48,1,false,"","",24⟩,⟨ "Depth",3,2,false,"","",48⟩,⟨ "Done",4,3,false,"","",56⟩,⟨ "Value",41,4,false,"","",60⟩]) (.agg #[.slice none 0 0,.slice none 0 0,I6 0,.bool false,I3 0]) 5 64:=⟨underlying232,by kernel_rfl⟩
theorem mS:FO prog 232 0 0:=⟨_,_,0,underlying232,rfl,rfl,by kernel_rfl⟩
theorem rE:FO prog 232 1 1:=⟨_,_,0,underlying232,rfl,rfl,by kernel_rfl⟩
theorem JT:FO prog 232 2 2:=⟨_,_,0,underlying232,rfl,rfl,by kernel_rfl⟩
theorem rD:FO prog 232 3 3:=⟨_,_,0,underlying232,rfl,rfl,by kernel_rfl⟩
theorem Ci:FO prog 232 4 4:=⟨_,_,0,underlying232,rfl,rfl,by kernel_rfl⟩
theorem Pc:PL prog 232 [(0,1),(1,1),(2,1),(3,1),(4,1)]:=⟨_,underlying232,by kernel_rfl⟩
theorem C9:TI prog 236 (.struct #[⟨ "I",118,0,false,"","",0⟩,⟨ "T",53,5,false,"","",40⟩]) (.agg #[I6 0,I6 0,I6 0,I6 0,I3 0,I6 0,I3 0]) 7 56:=⟨underlying236,by kernel_rfl⟩
theorem JS:FO prog 236 0 0:=⟨_,_,4,underlying236,rfl,rfl,by kernel_rfl⟩
theorem JR:FO prog 236 1 5:=⟨_,_,1,underlying236,rfl,rfl,by kernel_rfl⟩
theorem Pb:PL prog 236 [(0,5),(5,2)]:=⟨_,underlying236,by kernel_rfl⟩
theorem iV:TI prog 241 (.struct #[⟨ "V",41,0,false,"","",0⟩,⟨ "At",41,1,false,"","",4⟩,⟨ "Ok",4,2,false,"","",8⟩]) (.agg #[I3 0,I3 0,.bool false]) 3 12:=⟨underlying241,by kernel_rfl⟩
theorem rC:FO prog 241 0 0:=⟨_,_,0,underlying241,rfl,rfl,by kernel_rfl⟩
theorem oS:FO prog 241 2 2:=⟨_,_,0,underlying241,rfl,rfl,by kernel_rfl⟩
theorem KL:PL prog 241 [(0,1),(1,1),(2,1)]:=⟨_,underlying241,by kernel_rfl⟩
theorem fT:TI prog 275 (.struct #[⟨ "Is",4,0,false,"","",0⟩,⟨ "D",4,1,false,"","",1⟩,⟨ "A",4,2,false,"","",2⟩,⟨ "B",4,3,false,"","",3⟩,⟨ "Signed",4,4,false,"","",4⟩,⟨ "Bits",3,5,false,"","",8⟩,⟨ "Most",41,6,false,"","",16⟩]) (.agg #[.bool false,.bool false,.bool false,.bool false,.bool false,I6 0,I3 0]) 7 24:=⟨underlying275,by kernel_rfl⟩
theorem JQ:FO prog 275 0 0:=⟨_,_,0,underlying275,rfl,rfl,by kernel_rfl⟩
theorem Ch:FO prog 275 1 1:=⟨_,_,0,underlying275,rfl,rfl,by kernel_rfl⟩
theorem Cg:FO prog 275 2 2:=⟨_,_,0,underlying275,rfl,rfl,by kernel_rfl⟩
theorem Cf:FO prog 275 3 3:=⟨_,_,0,underlying275,rfl,rfl,by kernel_rfl⟩
theorem Ce:FO prog 275 4 4:=⟨_,_,0,underlying275,rfl,rfl,by kernel_rfl⟩
theorem mQ:FO prog 275 5 5:=⟨_,_,0,underlying275,rfl,rfl,by kernel_rfl⟩
theorem JI:FT prog 275 5 5 3:=⟨_,_,underlying275,rfl,rfl,rfl⟩
theorem Cd:FO prog 275 6 6:=⟨_,_,0,underlying275,rfl,rfl,by kernel_rfl⟩
theorem mm:PL prog 275 [(0,1),(1,1),(2,1),(3,1),(4,1),(5,1),(6,1)]:=⟨_,underlying275,by kernel_rfl⟩
theorem C8:TI prog 281 (.array 2 118) (.agg #[I6 0,I6 0,I6 0,I6 0,I3 0,I6 0,I6 0,I6 0,I6 0,I3 0]) 10 80:=⟨underlying281,by kernel_rfl⟩
theorem di:TI prog 284 (.struct #[⟨ "V",41,0,false,"","",0⟩,⟨ "Ok",4,1,false,"","",4⟩]) (.agg #[I3 0,.bool false]) 2 8:=⟨underlying284,by kernel_rfl⟩
theorem Ca:FT prog 284 0 0 41:=⟨_,_,underlying284,rfl,rfl,rfl⟩
theorem iC:PL prog 284 [(0,1),(1,1)]:=⟨_,underlying284,by kernel_rfl⟩
theorem TD:Cb prog 12:=⟨_,func12,by decide,rfl⟩
theorem Q0:Cb prog 14:=⟨_,func14,by decide,rfl⟩
theorem Hk:Cb prog 15:=⟨_,func15,by decide,rfl⟩
theorem QP:Cb prog 16:=⟨_,func16,by decide,rfl⟩
theorem QK:Cb prog 17:=⟨_,func17,by decide,rfl⟩
theorem TC:Cb prog 18:=⟨_,func18,by decide,rfl⟩
theorem Kh:Cb prog 19:=⟨_,func19,by decide,rfl⟩
theorem Ql:Cb prog 21:=⟨_,func21,by decide,rfl⟩
theorem NU:Cb prog 22:=⟨_,func22,by decide,rfl⟩
theorem Qh:Cb prog 24:=⟨_,func24,by decide,rfl⟩
theorem Kg:Cb prog 25:=⟨_,func25,by decide,rfl⟩
theorem TB:Cb prog 34:=⟨_,func34,by decide,rfl⟩
theorem Qf:Cb prog 35:=⟨_,func35,by decide,rfl⟩
theorem TA:Cb prog 37:=⟨_,func37,by decide,rfl⟩
theorem Tz:Cb prog 38:=⟨_,func38,by decide,rfl⟩
theorem Tw:Cb prog 39:=⟨_,func39,by decide,rfl⟩
theorem Ke:Cb prog 41:=⟨_,func41,by decide,rfl⟩
theorem Tv:Cb prog 43:=⟨_,func43,by decide,rfl⟩
theorem Kd:Cb prog 44:=⟨_,func44,by decide,rfl⟩
theorem kT:Cb prog 46:=⟨_,func46,by decide,rfl⟩
theorem Kc:Cb prog 47:=⟨_,func47,by decide,rfl⟩
theorem Tu:Cb prog 48:=⟨_,func48,by decide,rfl⟩
theorem Tt:Cb prog 49:=⟨_,func49,by decide,rfl⟩
theorem xd:Cb prog 50:=⟨_,func50,by decide,rfl⟩
theorem kb:Cb prog 51:=⟨_,func51,by decide,rfl⟩
theorem uv:Cb prog 52:=⟨_,func52,by decide,rfl⟩
theorem yR:Cb prog 53:=⟨_,func53,by decide,rfl⟩
theorem Ts:Cb prog 54:=⟨_,func54,by decide,rfl⟩
theorem Tr:Cb prog 55:=⟨_,func55,by decide,rfl⟩
theorem Tp:Cb prog 56:=⟨_,func56,by decide,rfl⟩
theorem Hg:Cb prog 57:=⟨_,func57,by decide,rfl⟩
theorem D6:Cb prog 58:=⟨_,func58,by decide,rfl⟩
theorem A2:Cb prog 59:=⟨_,func59,by decide,rfl⟩
theorem NT:Cb prog 60:=⟨_,func60,by decide,rfl⟩
theorem NS:Cb prog 61:=⟨_,func61,by decide,rfl⟩
theorem To:Cb prog 62:=⟨_,func62,by decide,rfl⟩
theorem Tn:Cb prog 64:=⟨_,func64,by decide,rfl⟩
theorem Tm:Cb prog 65:=⟨_,func65,by decide,rfl⟩
theorem Tl:Cb prog 66:=⟨_,func66,by decide,rfl⟩
theorem Tj:Cb prog 74:=⟨_,func74,by decide,rfl⟩
theorem Hf:Cb prog 75:=⟨_,func75,by decide,rfl⟩
theorem Ti:Cb prog 76:=⟨_,func76,by decide,rfl⟩
theorem Th:Cb prog 77:=⟨_,func77,by decide,rfl⟩
theorem nV:Cb prog 79:=⟨_,func79,by decide,rfl⟩
theorem Qe:Cb prog 80:=⟨_,func80,by decide,rfl⟩
theorem Tg:Cb prog 81:=⟨_,func81,by decide,rfl⟩
theorem NR:Cb prog 82:=⟨_,func82,by decide,rfl⟩
theorem Te:Cb prog 83:=⟨_,func83,by decide,rfl⟩
theorem uu:Cb prog 84:=⟨_,func84,by decide,rfl⟩
theorem ut:Cb prog 85:=⟨_,func85,by decide,rfl⟩
theorem nU:Cb prog 86:=⟨_,func86,by decide,rfl⟩
theorem Qd:Cb prog 87:=⟨_,func87,by decide,rfl⟩
theorem NQ:Cb prog 88:=⟨_,func88,by decide,rfl⟩
theorem NP:Cb prog 89:=⟨_,func89,by decide,rfl⟩
theorem Qc:Cb prog 90:=⟨_,func90,by decide,rfl⟩
theorem Td:Cb prog 91:=⟨_,func91,by decide,rfl⟩
theorem tE:Cb prog 92:=⟨_,func92,by decide,rfl⟩
theorem Tc:Cb prog 93:=⟨_,func93,by decide,rfl⟩
theorem NO:Cb prog 94:=⟨_,func94,by decide,rfl⟩
theorem D5:Cb prog 95:=⟨_,func95,by decide,rfl⟩
theorem He:Cb prog 96:=⟨_,func96,by decide,rfl⟩
theorem Kb:Cb prog 97:=⟨_,func97,by decide,rfl⟩
theorem Tb:Cb prog 98:=⟨_,func98,by decide,rfl⟩
theorem Ta:Cb prog 99:=⟨_,func99,by decide,rfl⟩
theorem Rf:Cb prog 100:=⟨_,func100,by decide,rfl⟩
theorem Rd:Cb prog 101:=⟨_,func101,by decide,rfl⟩
theorem CQ:Cb prog 102:=⟨_,func102,by decide,rfl⟩
theorem Hr:Cb prog 103:=⟨_,func103,by decide,rfl⟩
theorem tH:Cb prog 104:=⟨_,func104,by decide,rfl⟩
theorem LJ:Cb prog 105:=⟨_,func105,by decide,rfl⟩
theorem Hq:Cb prog 106:=⟨_,func106,by decide,rfl⟩
theorem LI:Cb prog 107:=⟨_,func107,by decide,rfl⟩
theorem Rc:Cb prog 108:=⟨_,func108,by decide,rfl⟩
theorem kw:Cb prog 109:=⟨_,func109,by decide,rfl⟩
theorem Hp:Cb prog 110:=⟨_,func110,by decide,rfl⟩
theorem qN:Cb prog 111:=⟨_,func111,by decide,rfl⟩
theorem CO:Cb prog 112:=⟨_,func112,by decide,rfl⟩
theorem LH:Cb prog 114:=⟨_,func114,by decide,rfl⟩
theorem LG:Cb prog 115:=⟨_,func115,by decide,rfl⟩
theorem Rb:Cb prog 117:=⟨_,func117,by decide,rfl⟩
theorem Ra:Cb prog 118:=⟨_,func118,by decide,rfl⟩
theorem Q_:Cb prog 119:=⟨_,func119,by decide,rfl⟩
theorem Q9:Cb prog 120:=⟨_,func120,by decide,rfl⟩
theorem Q8:Cb prog 121:=⟨_,func121,by decide,rfl⟩
theorem yU:Cb prog 122:=⟨_,func122,by decide,rfl⟩
theorem Ho:Cb prog 123:=⟨_,func123,by decide,rfl⟩
theorem LF:Cb prog 124:=⟨_,func124,by decide,rfl⟩
theorem Q7:Cb prog 125:=⟨_,func125,by decide,rfl⟩
theorem Hn:Cb prog 126:=⟨_,func126,by decide,rfl⟩
theorem yT:Cb prog 127:=⟨_,func127,by decide,rfl⟩
theorem LE:Cb prog 128:=⟨_,func128,by decide,rfl⟩
theorem Hm:Cb prog 129:=⟨_,func129,by decide,rfl⟩
theorem Q6:Cb prog 130:=⟨_,func130,by decide,rfl⟩
theorem Q5:Cb prog 131:=⟨_,func131,by decide,rfl⟩
theorem LD:Cb prog 132:=⟨_,func132,by decide,rfl⟩
theorem Q4:Cb prog 133:=⟨_,func133,by decide,rfl⟩
theorem LC:Cb prog 134:=⟨_,func134,by decide,rfl⟩
theorem CN:Cb prog 135:=⟨_,func135,by decide,rfl⟩
theorem CM:Cb prog 136:=⟨_,func136,by decide,rfl⟩
theorem LA:Cb prog 137:=⟨_,func137,by decide,rfl⟩
theorem Q3:Cb prog 138:=⟨_,func138,by decide,rfl⟩
theorem Q1:Cb prog 139:=⟨_,func139,by decide,rfl⟩
theorem Lz:Cb prog 141:=⟨_,func141,by decide,rfl⟩
theorem QZ:Cb prog 142:=⟨_,func142,by decide,rfl⟩
theorem Hl:Cb prog 145:=⟨_,func145,by decide,rfl⟩
theorem CL:Cb prog 146:=⟨_,func146,by decide,rfl⟩
theorem QY:Cb prog 147:=⟨_,func147,by decide,rfl⟩
theorem QX:Cb prog 148:=⟨_,func148,by decide,rfl⟩
theorem Ly:Cb prog 149:=⟨_,func149,by decide,rfl⟩
theorem QW:Cb prog 150:=⟨_,func150,by decide,rfl⟩
theorem QV:Cb prog 151:=⟨_,func151,by decide,rfl⟩
theorem QU:Cb prog 152:=⟨_,func152,by decide,rfl⟩
theorem Lx:Cb prog 153:=⟨_,func153,by decide,rfl⟩
theorem QT:Cb prog 154:=⟨_,func154,by decide,rfl⟩
theorem CK:Cb prog 155:=⟨_,func155,by decide,rfl⟩
theorem QS:Cb prog 156:=⟨_,func156,by decide,rfl⟩
theorem Lv:Cb prog 157:=⟨_,func157,by decide,rfl⟩
theorem QR:Cb prog 158:=⟨_,func158,by decide,rfl⟩
theorem QQ:Cb prog 159:=⟨_,func159,by decide,rfl⟩
theorem QO:Cb prog 160:=⟨_,func160,by decide,rfl⟩
theorem QN:Cb prog 161:=⟨_,func161,by decide,rfl⟩
theorem QM:Cb prog 162:=⟨_,func162,by decide,rfl⟩
theorem QL:Cb prog 163:=⟨_,func163,by decide,rfl⟩
theorem Lu:Cb prog 164:=⟨_,func164,by decide,rfl⟩
theorem Lt:Cb prog 165:=⟨_,func165,by decide,rfl⟩
theorem Ls:Cb prog 166:=⟨_,func166,by decide,rfl⟩
theorem tG:Cb prog 167:=⟨_,func167,by decide,rfl⟩
theorem Lr:Cb prog 168:=⟨_,func168,by decide,rfl⟩
theorem Hj:Cb prog 169:=⟨_,func169,by decide,rfl⟩
theorem QJ:Cb prog 170:=⟨_,func170,by decide,rfl⟩
theorem QI:Cb prog 171:=⟨_,func171,by decide,rfl⟩
theorem QH:Cb prog 173:=⟨_,func173,by decide,rfl⟩
theorem QG:Cb prog 174:=⟨_,func174,by decide,rfl⟩
theorem lN:Cb prog 175:=⟨_,func175,by decide,rfl⟩
theorem Ln:Cb prog 176:=⟨_,func176,by decide,rfl⟩
theorem QF:Cb prog 178:=⟨_,func178,by decide,rfl⟩
theorem QE:Cb prog 179:=⟨_,func179,by decide,rfl⟩
theorem QD:Cb prog 180:=⟨_,func180,by decide,rfl⟩
theorem QC:Cb prog 182:=⟨_,func182,by decide,rfl⟩
theorem Lm:Cb prog 183:=⟨_,func183,by decide,rfl⟩
theorem QB:Cb prog 184:=⟨_,func184,by decide,rfl⟩
theorem QA:Cb prog 185:=⟨_,func185,by decide,rfl⟩
theorem Ll:Cb prog 186:=⟨_,func186,by decide,rfl⟩
theorem Qz:Cb prog 187:=⟨_,func187,by decide,rfl⟩
theorem Lk:Cb prog 188:=⟨_,func188,by decide,rfl⟩
theorem Qy:Cb prog 189:=⟨_,func189,by decide,rfl⟩
theorem Lj:Cb prog 190:=⟨_,func190,by decide,rfl⟩
theorem mB:Cb prog 191:=⟨_,func191,by decide,rfl⟩
theorem Li:Cb prog 192:=⟨_,func192,by decide,rfl⟩
theorem yS:Cb prog 194:=⟨_,func194,by decide,rfl⟩
theorem CJ:Cb prog 195:=⟨_,func195,by decide,rfl⟩
theorem Lh:Cb prog 196:=⟨_,func196,by decide,rfl⟩
theorem Hi:Cb prog 197:=⟨_,func197,by decide,rfl⟩
theorem Lg:Cb prog 198:=⟨_,func198,by decide,rfl⟩
theorem Qx:Cb prog 199:=⟨_,func199,by decide,rfl⟩
theorem Qw:Cb prog 200:=⟨_,func200,by decide,rfl⟩
theorem Qv:Cb prog 201:=⟨_,func201,by decide,rfl⟩
theorem Qu:Cb prog 202:=⟨_,func202,by decide,rfl⟩
theorem Qt:Cb prog 203:=⟨_,func203,by decide,rfl⟩
theorem Qr:Cb prog 204:=⟨_,func204,by decide,rfl⟩
theorem Qq:Cb prog 205:=⟨_,func205,by decide,rfl⟩
theorem Qp:Cb prog 206:=⟨_,func206,by decide,rfl⟩
theorem Qo:Cb prog 207:=⟨_,func207,by decide,rfl⟩
theorem Qn:Cb prog 208:=⟨_,func208,by decide,rfl⟩
theorem Qm:Cb prog 209:=⟨_,func209,by decide,rfl⟩
theorem Qk:Cb prog 210:=⟨_,func210,by decide,rfl⟩
theorem tF:Cb prog 211:=⟨_,func211,by decide,rfl⟩
theorem Hh:Cb prog 212:=⟨_,func212,by decide,rfl⟩
theorem Qj:Cb prog 213:=⟨_,func213,by decide,rfl⟩
end Go.Proofs.YtedmdgbmdplifaaGreat
namespace Go.Proofs.YtedmdgbmdplifaaGreat
open Go.RowKit Tryz
theorem IS{a b:Int}(ha:0≤a∧a<4294967296)(hb:0≤b∧b<4294967296)(h:¬b=0):IntKind.u32.wrap (a.tdiv b)=a/b:=by
 rw [Int.tdiv_eq_ediv_of_nonneg ha.1];have h1:0≤a/b:=Int.ediv_nonneg ha.1 hb.1;have h2:a/b≤a:=Int.ediv_le_self b ha.1;exact kH h1 (by omega)
section
end
theorem sc{a b:Int}(ha:0≤a∧a<4294967296):a.tmod b=a%b:=Int.tmod_eq_emod_of_nonneg ha.1
theorem fp:KeyLaw prog 9 gV:=Jj underlying9
theorem LM{b:Int}(hb:0≤b∧b<4294967296):bits .and .u32 b 31=b%32:=by
 have h1:bits .and .u32 b 31=IntKind.u32.wrap (((BitVec.ofInt 32 b&&&BitVec.ofInt 32 31).toNat:Nat):Int):=J;have h2:(BitVec.ofInt 32 b).toNat=b.toNat:=by
  rw [BitVec.toNat_ofInt,Int.emod_eq_of_lt hb.1 (by omega)]
 have h3:(BitVec.ofInt 32 31).toNat=2^5-1:=by decide
 rw [h1,BitVec.toNat_and,h2,h3,Nat.and_two_pow_sub_one_eq_mod,cd (by omega)];omega
theorem jW(b:Bool):
  bi prog 211 [.bool b] [] [] (.agg #[I3 (tr b),.bool true]) []:=by
 refine aI func211 J ntmps211 J fun w0 M H=>ap (aY di J J fun b2=>aa (aT (ad J (aa (ai J (fun h1=> ?_) (fun h1=> ?_))))))
 ·have hq:=h1;refine ap (aP (aU (parts:= [(0,.const (I3 1)),(1,.const (.bool Bool.true))]) di iC J J) (aq (k:=2) di J J J J J J (aa (ax (aH () O J (bQ (aV di J J J (aX (k:=2) J))) (by rw [hq];rfl) [] [] J J J)))))
 ·have hq:=h1;refine az (ap (aP (aU (parts:= [(0,.const (I3 0)),(1,.const (.bool Bool.true))]) di iC J J) (aq (k:=2) di J J J J J J (aa (ax (aH () O J (bQ (aV di J J J (aX (k:=2) J))) (by rw [hq];rfl) [] [] J J J))))))
def vO(o:Option Int):Value:=match o with
 | some u=> .agg #[.int .u32 u,.bool true]
 | none=> .agg #[.int .u32 0,.bool false]
theorem xM(op:Ba)(a:Int)(ha:0≤a∧a<4294967296):
  bi prog 207 [Sg op,I3 a] [] [] (vO (Ec op a)) []:=by
 refine aI func207 J ntmps207 J fun w0 M H=>ap (aY di J J fun b4=>aa (aT (ad J (aa (aB (ap (aw J J cW (ak J (aa (ai J (fun h1=> ?_) (fun h1=> ?_)))))))))))
 ·have hoSub:op=dR:=by rw [cq]at h1;exact bW h1
  refine ap (ad J (aw J J (gu (c:=wU (-a)) (by rw [Int.zero_sub];rfl)) (aP (aU (parts:= [(0,.tmp 9),(1,.const (.bool Bool.true))]) di iC J J) (aq (k:=4) di J J J J J J (aa (ax (aH () O J (bQ (aV di J J J (aX (k:=4) J))) (by unfold Ec;rw [ar hoSub];rfl) [] [] J J J)))))))
 ·have hoSub:¬op=dR:=by rw [cq]at h1;exact cg h1
  refine ap (aw J J cW (ak J (aa (ai J (fun h2=> ?_) (fun h2=> ?_)))))
  ·have hoCom:op=sK:=by rw [cq]at h2;exact bW h2
   refine ap (ad J (aw J J yZ (aP (aU (parts:= [(0,.tmp 14),(1,.const (.bool Bool.true))]) di iC J J) (aq (k:=4) di J J J J J J (aa (ax (aH () O J (bQ (aV di J J J (aX (k:=4) J))) (by unfold Ec;rw [ae hoSub,ar hoCom];rfl) [] [] J J J)))))))
  ·have hoCom:¬op=sK:=by rw [cq]at h2;exact cg h2
   refine ap (aw J J cW (ak J (aa (ai J (fun h3=> ?_) (fun h3=> ?_)))))
   ·have hoNot:op=ug:=by rw [cq]at h3;exact bW h3
    refine ap (ad J (aw J J bn (aj (xs:= [.tmp 19]) (jW (decide (a=0))) tF [] [] [] (fun _ _=>aq (k:=4) di J J J J J J (aa (ax (aH () O J (bQ (aV di J J J (aX (k:=4) J))) (by unfold Ec;rw [ae hoSub,ae hoCom,ar hoNot];rfl) [] [] J J J)))))))
   ·have hoNot:¬op=ug:=by rw [cq]at h3;exact cg h3
    refine az (ap (aP (aU (parts:= []) di iC J J) (aq (k:=4) di J J J J J J (aa (ax (aH () O J (bQ (aV di J J J (aX (k:=4) J))) (by unfold Ec;rw [ae hoSub,ae hoCom,ae hoNot];rfl) [] [] J J J))))))
theorem wc(op:Ba)(a b:Int)(ha:0≤a∧a<4294967296)(hb:0≤b∧b<4294967296):
  bi prog 208 [Sg op,I3 a,I3 b] [] [] (vO (pF op a b)) []:=by
 refine aI func208 J ntmps208 J fun w0 M H=>ap (aY di J J fun b6=>aa (aT (ad J (aa (aB (ap (aw J J cW (ak J (aa (ai J (fun h1=> ?_) (fun h1=> ?_)))))))))))
 ·have hoAdd:op=fU:=by rw [cq]at h1;exact bW h1
  refine ap (ad J (ad J (aw J J (cw J) (aP (aU (parts:= [(0,.tmp 12),(1,.const (.bool Bool.true))]) di iC J J) (aq (k:=6) di J J J J J J (aa (ax (aH () O J (bQ (aV di J J J (aX (k:=6) J))) (by unfold pF;rw [ar hoAdd];first|rfl|(rw [ar hz];rfl)|(rw [ae hz];rfl)) [] [] J J J))))))))
 ·have hoAdd:¬op=fU:=by rw [cq]at h1;exact cg h1
  refine ap (aw J J cW (ak J (aa (ai J (fun h2=> ?_) (fun h2=> ?_)))))
  ·have hoSub:op=dR:=by rw [cq]at h2;exact bW h2
   refine ap (ad J (ad J (aw J J (gu J) (aP (aU (parts:= [(0,.tmp 18),(1,.const (.bool Bool.true))]) di iC J J) (aq (k:=6) di J J J J J J (aa (ax (aH () O J (bQ (aV di J J J (aX (k:=6) J))) (by unfold pF;rw [ae hoAdd,ar hoSub];first|rfl|(rw [ar hz];rfl)|(rw [ae hz];rfl)) [] [] J J J))))))))
  ·have hoSub:¬op=dR:=by rw [cq]at h2;exact cg h2
   refine ap (aw J J cW (ak J (aa (ai J (fun h3=> ?_) (fun h3=> ?_)))))
   ·have hoMul:op=gB:=by rw [cq]at h3;exact bW h3
    refine ap (ad J (ad J (aw J J (fG J) (aP (aU (parts:= [(0,.tmp 24),(1,.const (.bool Bool.true))]) di iC J J) (aq (k:=6) di J J J J J J (aa (ax (aH () O J (bQ (aV di J J J (aX (k:=6) J))) (by unfold pF;rw [ae hoAdd,ae hoSub,ar hoMul];first|rfl|(rw [ar hz];rfl)|(rw [ae hz];rfl)) [] [] J J J))))))))
   ·have hoMul:¬op=gB:=by rw [cq]at h3;exact cg h3
    refine ap (aw J J cW (ak J (aa (ai J (fun h4=> ?_) (fun h4=> ?_)))))
    ·have hoQuo:op=kA:=by rw [cq]at h4;exact bW h4
     refine aT (ad J (aw J J bn (aa (ai J (fun h5=> ?_) (fun h5=> ?_)))))
     ·(try simp only [bj]at h5);have hz:b=0:=h5;refine ap (aP (aU (parts:= [(0,.const (I3 0)),(1,.const (.bool Bool.true))]) di iC J J) (aq (k:=6) di J J J J J J (aa (ax (aH () O J (bQ (aV di J J J (aX (k:=6) J))) (by unfold pF;rw [ae hoAdd,ae hoSub,ae hoMul,ar hoQuo];first|rfl|(rw [ar hz];rfl)|(rw [ae hz];rfl)) [] [] J J J)))))
     ·(try simp only [bj]at h5);have hz:¬b=0:=h5;refine az (ap (ad J (ad J (aw J J (lO hz (IS ha hb hz)) (aP (aU (parts:= [(0,.tmp 33),(1,.const (.bool Bool.true))]) di iC J J) (aq (k:=6) di J J J J J J (aa (ax (aH () O J (bQ (aV di J J J (aX (k:=6) J))) (by unfold pF;rw [ae hoAdd,ae hoSub,ae hoMul,ar hoQuo];first|rfl|(rw [ar hz];rfl)|(rw [ae hz];rfl)) [] [] J J J)))))))))
    ·have hoQuo:¬op=kA:=by rw [cq]at h4;exact cg h4
     refine ap (aw J J cW (ak J (aa (ai J (fun h6=> ?_) (fun h6=> ?_)))))
     ·have hoRem:op=lg:=by rw [cq]at h6;exact bW h6
      refine aT (ad J (aw J J bn (aa (ai J (fun h7=> ?_) (fun h7=> ?_)))))
      ·(try simp only [bj]at h7);have hz:b=0:=h7;refine ap (ad J (aP (aU (parts:= [(0,.tmp 39),(1,.const (.bool Bool.true))]) di iC J J) (aq (k:=6) di J J J J J J (aa (ax (aH () O J (bQ (aV di J J J (aX (k:=6) J))) (by unfold pF;rw [ae hoAdd,ae hoSub,ae hoMul,ae hoQuo,ar hoRem];first|rfl|(rw [ar hz];rfl)|(rw [ae hz];rfl)) [] [] J J J))))))
      ·(try simp only [bj]at h7);have hz:¬b=0:=h7;refine az (ap (ad J (ad J (aw J J (jt hz (sc ha)) (aP (aU (parts:= [(0,.tmp 43),(1,.const (.bool Bool.true))]) di iC J J) (aq (k:=6) di J J J J J J (aa (ax (aH () O J (bQ (aV di J J J (aX (k:=6) J))) (by unfold pF;rw [ae hoAdd,ae hoSub,ae hoMul,ae hoQuo,ar hoRem];first|rfl|(rw [ar hz];rfl)|(rw [ae hz];rfl)) [] [] J J J)))))))))
     ·have hoRem:¬op=lg:=by rw [cq]at h6;exact cg h6
      refine ap (aw J J cW (ak J (aa (ai J (fun h8=> ?_) (fun h8=> ?_)))))
      ·have hoAnd:op=ff:=by rw [cq]at h8;exact bW h8
       refine ap (ad J (ad J (aw J J (tK J) (aP (aU (parts:= [(0,.tmp 49),(1,.const (.bool Bool.true))]) di iC J J) (aq (k:=6) di J J J J J J (aa (ax (aH () O J (bQ (aV di J J J (aX (k:=6) J))) (by unfold pF;rw [ae hoAdd,ae hoSub,ae hoMul,ae hoQuo,ae hoRem,ar hoAnd];first|rfl|(rw [ar hz];rfl)|(rw [ae hz];rfl)) [] [] J J J))))))))
      ·have hoAnd:¬op=ff:=by rw [cq]at h8;exact cg h8
       refine ap (aw J J cW (ak J (aa (ai J (fun h9=> ?_) (fun h9=> ?_)))))
       ·have hoOr:op=j9:=by rw [cq]at h9;exact bW h9
        refine ap (ad J (ad J (aw J J (Ea J) (aP (aU (parts:= [(0,.tmp 55),(1,.const (.bool Bool.true))]) di iC J J) (aq (k:=6) di J J J J J J (aa (ax (aH () O J (bQ (aV di J J J (aX (k:=6) J))) (by unfold pF;rw [ae hoAdd,ae hoSub,ae hoMul,ae hoQuo,ae hoRem,ae hoAnd,ar hoOr];first|rfl|(rw [ar hz];rfl)|(rw [ae hz];rfl)) [] [] J J J))))))))
       ·have hoOr:¬op=j9:=by rw [cq]at h9;exact cg h9
        refine ap (aw J J cW (ak J (aa (ai J (fun h10=> ?_) (fun h10=> ?_)))))
        ·have hoXor:op=fo:=by rw [cq]at h10;exact bW h10
         refine ap (ad J (ad J (aw J J (LK J) (aP (aU (parts:= [(0,.tmp 61),(1,.const (.bool Bool.true))]) di iC J J) (aq (k:=6) di J J J J J J (aa (ax (aH () O J (bQ (aV di J J J (aX (k:=6) J))) (by unfold pF;rw [ae hoAdd,ae hoSub,ae hoMul,ae hoQuo,ae hoRem,ae hoAnd,ae hoOr,ar hoXor];first|rfl|(rw [ar hz];rfl)|(rw [ae hz];rfl)) [] [] J J J))))))))
        ·have hoXor:¬op=fo:=by rw [cq]at h10;exact cg h10
         refine ap (aw J J cW (ak J (aa (ai J (fun h11=> ?_) (fun h11=> ?_)))))
         ·have hoShl:op=gw:=by rw [cq]at h11;exact bW h11
          refine ap (ad J (ad J (aw J J (tK (LM hb)) (aw J J (jb (by omega) (by simp [IntKind.bits];omega) J) (aP (aU (parts:= [(0,.tmp 68),(1,.const (.bool Bool.true))]) di iC J J) (aq (k:=6) di J J J J J J (aa (ax (aH () O J (bQ (aV di J J J (aX (k:=6) J))) (by unfold pF;rw [ae hoAdd,ae hoSub,ae hoMul,ae hoQuo,ae hoRem,ae hoAnd,ae hoOr,ae hoXor,ar hoShl];first|rfl|(rw [ar hz];rfl)|(rw [ae hz];rfl)) [] [] J J J)))))))))
         ·have hoShl:¬op=gw:=by rw [cq]at h11;exact cg h11
          refine ap (aw J J cW (ak J (aa (ai J (fun h12=> ?_) (fun h12=> ?_)))))
          ·have hoShr:op=gU:=by rw [cq]at h12;exact bW h12
           refine ap (ad J (ad J (aw J J (tK (LM hb)) (aw J J (qO (by omega) (by simp [IntKind.bits];omega) J) (aP (aU (parts:= [(0,.tmp 75),(1,.const (.bool Bool.true))]) di iC J J) (aq (k:=6) di J J J J J J (aa (ax (aH () O J (bQ (aV di J J J (aX (k:=6) J))) (by unfold pF;rw [ae hoAdd,ae hoSub,ae hoMul,ae hoQuo,ae hoRem,ae hoAnd,ae hoOr,ae hoXor,ae hoShl,ar hoShr];first|rfl|(rw [ar hz];rfl)|(rw [ae hz];rfl)) [] [] J J J)))))))))
          ·have hoShr:¬op=gU:=by rw [cq]at h12;exact cg h12
           refine ap (aw J J cW (ak J (aa (ai J (fun h13=> ?_) (fun h13=> ?_)))))
           ·have hoLt:op=lU:=by rw [cq]at h13;exact bW h13
            refine ap (ad J (ad J (aw J J cr (aj (xs:= [.tmp 81]) (jW (decide (a<b))) tF [] [] [] (fun _ _=>aq (k:=6) di J J J J J J (aa (ax (aH () O J (bQ (aV di J J J (aX (k:=6) J))) (by unfold pF;rw [ae hoAdd,ae hoSub,ae hoMul,ae hoQuo,ae hoRem,ae hoAnd,ae hoOr,ae hoXor,ae hoShl,ae hoShr,ar hoLt];first|rfl|(rw [ar hz];rfl)|(rw [ae hz];rfl)) [] [] J J J))))))))
           ·have hoLt:¬op=lU:=by rw [cq]at h13;exact cg h13
            refine ap (aw J J cW (ak J (aa (ai J (fun h14=> ?_) (fun h14=> ?_)))))
            ·have hoLe:op=nf:=by rw [cq]at h14;exact bW h14
             refine ap (ad J (ad J (aw J J lR (aj (xs:= [.tmp 87]) (jW (decide (a≤b))) tF [] [] [] (fun _ _=>aq (k:=6) di J J J J J J (aa (ax (aH () O J (bQ (aV di J J J (aX (k:=6) J))) (by unfold pF;rw [ae hoAdd,ae hoSub,ae hoMul,ae hoQuo,ae hoRem,ae hoAnd,ae hoOr,ae hoXor,ae hoShl,ae hoShr,ae hoLt,ar hoLe];first|rfl|(rw [ar hz];rfl)|(rw [ae hz];rfl)) [] [] J J J))))))))
            ·have hoLe:¬op=nf:=by rw [cq]at h14;exact cg h14
             refine ap (aw J J cW (ak J (aa (ai J (fun h15=> ?_) (fun h15=> ?_)))))
             ·have hoGt:op=ng:=by rw [cq]at h15;exact bW h15
              refine ap (ad J (ad J (aw J J ec (aj (xs:= [.tmp 93]) (jW (decide (a>b))) tF [] [] [] (fun _ _=>aq (k:=6) di J J J J J J (aa (ax (aH () O J (bQ (aV di J J J (aX (k:=6) J))) (by unfold pF;rw [ae hoAdd,ae hoSub,ae hoMul,ae hoQuo,ae hoRem,ae hoAnd,ae hoOr,ae hoXor,ae hoShl,ae hoShr,ae hoLt,ae hoLe,ar hoGt];first|rfl|(rw [ar hz];rfl)|(rw [ae hz];rfl)) [] [] J J J))))))))
             ·have hoGt:¬op=ng:=by rw [cq]at h15;exact cg h15
              refine ap (aw J J cW (ak J (aa (ai J (fun h16=> ?_) (fun h16=> ?_)))))
              ·have hoGe:op=n8:=by rw [cq]at h16;exact bW h16
               refine ap (ad J (ad J (aw J J gI (aj (xs:= [.tmp 99]) (jW (decide (a≥b))) tF [] [] [] (fun _ _=>aq (k:=6) di J J J J J J (aa (ax (aH () O J (bQ (aV di J J J (aX (k:=6) J))) (by unfold pF;rw [ae hoAdd,ae hoSub,ae hoMul,ae hoQuo,ae hoRem,ae hoAnd,ae hoOr,ae hoXor,ae hoShl,ae hoShr,ae hoLt,ae hoLe,ae hoGt,ar hoGe];first|rfl|(rw [ar hz];rfl)|(rw [ae hz];rfl)) [] [] J J J))))))))
              ·have hoGe:¬op=n8:=by rw [cq]at h16;exact cg h16
               refine ap (aw J J cW (ak J (aa (ai J (fun h17=> ?_) (fun h17=> ?_)))))
               ·have hoEq:op=nh:=by rw [cq]at h17;exact bW h17
                refine ap (ad J (ad J (aw J J bn (aj (xs:= [.tmp 105]) (jW (decide (a=b))) tF [] [] [] (fun _ _=>aq (k:=6) di J J J J J J (aa (ax (aH () O J (bQ (aV di J J J (aX (k:=6) J))) (by unfold pF;rw [ae hoAdd,ae hoSub,ae hoMul,ae hoQuo,ae hoRem,ae hoAnd,ae hoOr,ae hoXor,ae hoShl,ae hoShr,ae hoLt,ae hoLe,ae hoGt,ae hoGe,ar hoEq];first|rfl|(rw [ar hz];rfl)|(rw [ae hz];rfl)) [] [] J J J))))))))
               ·have hoEq:¬op=nh:=by rw [cq]at h17;exact cg h17
                refine ap (aw J J cW (ak J (aa (ai J (fun h18=> ?_) (fun h18=> ?_)))))
                ·have hoNe:op=na:=by rw [cq]at h18;exact bW h18
                 refine ap (ad J (ad J (aw J J eD (aj (xs:= [.tmp 111]) (jW (!decide (a=b))) tF [] [] [] (fun _ _=>aq (k:=6) di J J J J J J (aa (ax (aH () O J (bQ (aV di J J J (aX (k:=6) J))) (by unfold pF;rw [ae hoAdd,ae hoSub,ae hoMul,ae hoQuo,ae hoRem,ae hoAnd,ae hoOr,ae hoXor,ae hoShl,ae hoShr,ae hoLt,ae hoLe,ae hoGt,ae hoGe,ae hoEq,ar hoNe];first|rfl|(rw [ar hz];rfl)|(rw [ae hz];rfl)) [] [] J J J))))))))
                ·have hoNe:¬op=na:=by rw [cq]at h18;exact cg h18
                 refine az (ap (aP (aU (parts:= []) di iC J J) (aq (k:=6) di J J J J J J (aa (ax (aH () O J (bQ (aV di J J J (aX (k:=6) J))) (by unfold pF;rw [ae hoAdd,ae hoSub,ae hoMul,ae hoQuo,ae hoRem,ae hoAnd,ae hoOr,ae hoXor,ae hoShl,ae hoShr,ae hoLt,ae hoLe,ae hoGt,ae hoGe,ae hoEq,ae hoNe];first|rfl|(rw [ar hz];rfl)|(rw [ae hz];rfl)) [] [] J J J))))))
abbrev oW(n:Int):Prop:=0≤n∧n<4294967296
mutual
def VX(fs:List Tf):Tx→Prop
 | .mk k n nm _ kids=>oW n∧kids.length≤1000000∧(k=4→1≤kids.length)∧(k=6→1≤kids.length∧∀a,(Ec nm a).isSome=true)∧(k=7→2≤kids.length∧∀a b,(pF nm a b).isSome=true)∧
   (k≠1→k≠2→k≠4→k≠5→k≠6→k≠7→∃f,cy fs nm=some f∧kids.length≤f.ps.length)∧VXs fs kids
def VXs(fs:List Tf):List Tx→Prop
 | []=>True
 | t::r=>VX fs t∧VXs fs r
end
theorem VXs.mem{fs:List Tf}:∀{l:List Tx},VXs fs l→∀t∈l,VX fs t
 | [],_,_,h=>by simp at h
 | t::r,h,u,hu=>by
  rcases List.mem_cons.1 hu with rfl|hu
  ·exact h.1
  ·exact VXs.mem h.2 u hu
mutual
def VY(fs:List Tf):Ty→Prop
 | .mk k _ _ es _ body _ els=>(1≤es.length∧es.length≤1000000∧(k=3→2≤es.length)∧VXs fs es)∧(body.length≤1000000∧VYs fs body)∧(els.length≤1000000∧VYs fs els)
def VYs(fs:List Tf):List Ty→Prop
 | []=>True
 | t::r=>VY fs t∧VYs fs r
end
theorem VYs.mem{fs:List Tf}:∀{l:List Ty},VYs fs l→∀t∈l,VY fs t
 | [],_,_,h=>by simp at h
 | t::r,h,u,hu=>by
  rcases List.mem_cons.1 hu with rfl|hu
  ·exact h.1
  ·exact VYs.mem h.2 u hu
def VF(fs:List Tf):Prop:=∀f∈fs,f.ps.length≤1000000∧f.body.length≤1000000∧VYs fs f.body
def okVs(vs:Vs):Prop:=∀p∈vs,oW p.2
structure okMs(s:Ms):Prop where
 inp:∀x∈s.inp,oW x
 mem:∀i,oW (s.mem i)
 fuel:s.fuel<9223372036854775808
 out:(s.out.length:Int)+max s.fuel 0≤1000000000000
theorem okVs.get{vs:Vs}(h:okVs vs)(x:Ba):oW (jc vs x):=by
 unfold jc;cases hf:vs.find? (fun p=>decide (p.1=x))with
 | none=>exact⟨Int.le_refl _,by show(0:Int)<4294967296;decide⟩
 | some p=>exact h p (List.mem_of_find?_eq_some hf)
theorem okVs.put{vs:Vs}(h:okVs vs)(x:Ba){n:Int}(hn:oW n):okVs (fc vs x n):=fun p hp=>by
 rcases List.mem_cons.1 hp with rfl|hp
 ·exact hn
 ·exact h p (List.mem_filter.1 hp).1
theorem okVs.bind:∀{vs:Vs}(ps:List Ba)(al:List Int),okVs vs→(∀a∈al,oW a)→okVs (eG vs ps al)
 | vs,p::ps,a::al,h,ha=>okVs.bind ps al (h.put p (ha a (by simp))) fun b hb=>ha b (by simp [hb])
 | vs,[],al,h,_=>by unfold eG;exact h
 | vs,p::ps,[],h,_=>by unfold eG;exact h
theorem m_:oW 0:=⟨Int.le_refl _,by show(0:Int)<4294967296;decide⟩
theorem sJ(b:Bool):oW (tr b):=by
 cases b
 ·exact m_
 ·exact⟨by decide,by decide⟩
theorem sI(n:Int):oW (wU n):=l6 n
theorem wt(o:BinOp)(a b:Int)(h:∃z,bits o .u32 a b=IntKind.u32.wrap z):oW (bits o .u32 a b):=by
 obtain⟨z,hz⟩:=h;rw [hz];exact l6 z
theorem PB{op:Ba}{a:Int}(ha:oW a):oW ((Ec op a).getD 0):=by
 unfold Ec;split
 ·exact sI _
 ·split
  ·show 0≤4294967295-a∧4294967295-a<4294967296;have h1:=ha.1;have h2:=ha.2;omega
  ·split
   ·exact sJ _
   ·exact m_
theorem MV{a:Int}(ha:oW a)(n:Nat):oW (a/2^n):=by
 have h0:(0:Int)<2^n:=Int.pow_pos (by decide);refine⟨Int.ediv_nonneg ha.1 (Int.le_of_lt h0),Int.lt_of_le_of_lt (Int.ediv_le_self _ ha.1) ha.2⟩
theorem PD{op:Ba}{a b:Int}(ha:oW a)(hb:oW b):oW ((pF op a b).getD 0):=by
 have hq:oW (if b=0 then 0 else a/b):=by
  split
  ·exact m_
  ·exact⟨Int.ediv_nonneg ha.1 hb.1,Int.lt_of_le_of_lt (Int.ediv_le_self _ ha.1) ha.2⟩
 have hr:oW (if b=0 then a else a%b):=by
  split
  ·exact ha
  ·rename_i h;have h1:=Int.emod_nonneg a h;have h2:=Int.emod_lt_of_pos a (b:=b) (by have:=hb.1;omega);have h3:=hb.2;exact⟨h1,by omega⟩
 unfold pF;by_cases h0:op=fU
 ·rw [ar h0];exact sI _
 rw [ae h0];by_cases h1:op=dR
 ·rw [ar h1];exact sI _
 rw [ae h1];by_cases h2:op=gB
 ·rw [ar h2];exact sI _
 rw [ae h2];by_cases h3:op=kA
 ·rw [ar h3];exact hq
 rw [ae h3];by_cases h4:op=lg
 ·rw [ar h4];exact hr
 rw [ae h4];by_cases h5:op=ff
 ·rw [ar h5];exact(show oW (bits .and .u32 a b)from wt .and a b ⟨_,J⟩)
 rw [ae h5];by_cases h6:op=j9
 ·rw [ar h6];exact(show oW (bits .or .u32 a b)from wt .or a b ⟨_,J⟩)
 rw [ae h6];by_cases h7:op=fo
 ·rw [ar h7];exact(show oW (bits .xor .u32 a b)from wt .xor a b ⟨_,J⟩)
 rw [ae h7];by_cases h8:op=gw
 ·rw [ar h8];exact sI _
 rw [ae h8];by_cases h9:op=gU
 ·rw [ar h9];exact MV ha _
 rw [ae h9];by_cases h10:op=lU
 ·rw [ar h10];exact sJ _
 rw [ae h10];by_cases h11:op=nf
 ·rw [ar h11];exact sJ _
 rw [ae h11];by_cases h12:op=ng
 ·rw [ar h12];exact sJ _
 rw [ae h12];by_cases h13:op=n8
 ·rw [ar h13];exact sJ _
 rw [ae h13];by_cases h14:op=nh
 ·rw [ar h14];exact sJ _
 rw [ae h14];by_cases h15:op=na
 ·rw [ar h15];exact sJ _
 rw [ae h15];exact m_
structure Kp(s s':Ms):Prop where
 ok:okMs s'
 sum:(s'.out.length:Int)+max s'.fuel 0≤(s.out.length:Int)+max s.fuel 0
 fl:s'.fuel≤s.fuel
 inp:∃k,s'.inp=s.inp.drop k
theorem Kp.refl{s:Ms}(h:okMs s):Kp s s:=⟨h,Int.le_refl _,Int.le_refl _,0,by simp⟩
theorem Kp.trans{a b c:Ms}(h:Kp a b)(h':Kp b c):Kp a c:=⟨h'.ok,Int.le_trans h'.sum h.sum,Int.le_trans h'.fl h.fl,by
 obtain⟨k,hk⟩:=h.inp;obtain⟨j,hj⟩:=h'.inp;exact⟨k+j,by rw [hj,hk,List.drop_drop]⟩⟩
theorem Kp.pay{s:Ms}(h:okMs s)(hf:¬s.fuel≤0):Kp s {s with fuel:=s.fuel-1}:=⟨⟨h.inp,h.mem,by have:=h.fuel;dsimp only;omega,by have:=h.out;dsimp only;omega⟩,by dsimp only;omega,by dsimp only;omega,0,by simp⟩
structure EvOk(fs:List Tf)(g:Nat):Prop where
 x:∀d vs t s v s',VX fs t→okVs vs→okMs s→fw g fs d vs t s=some (.ok v s')→oW v∧Kp s s'
 k:∀d vs acc l s ks s',VXs fs l→okVs vs→okMs s→(∀a∈acc,oW a)→iq g fs d vs acc l s=some (.ok ks s')→(∀a∈ks,oW a)∧ks.length=acc.length+l.length∧Kp s s'
 c:∀d f al s v s',f∈fs→(∀a∈al,oW a)→okMs s→lM g fs d f al s=some (.ok v s')→oW v∧Kp s s'
 b:∀d vs l s p s',VYs fs l→okVs vs→okMs s→gW g fs d vs l s=some (.ok p s')→okVs p.1∧(∀x,p.2=some x→oW x)∧Kp s s'
 s:∀d vs t s p s',VY fs t→okVs vs→okMs s→i_ g fs d vs t s=some (.ok p s')→okVs p.1∧(∀x,p.2=some x→oW x)∧Kp s s'
 w:∀d vs e l v s p s',VX fs e→VYs fs l→okVs vs→okMs s→kF g fs d vs e l v s=some (.ok p s')→okVs p.1∧(∀x,p.2=some x→oW x)∧Kp s s'
theorem ln{ks:List Int}(h:∀a∈ks,oW a)(i:Nat):oW (ks.getD i 0):=by
 rw [List.getD_eq_getElem?_getD];cases hk:ks[i]? with
 | none=>exact m_
 | some a=>exact h a (bT hk)
theorem io{fs:List Tf}{x:Ba}{f:Tf}(h:cy fs x=some f):f∈fs:=List.mem_of_find?_eq_some h
theorem fI{fs:List Tf}(hF:VF fs):∀g,EvOk fs g
 | 0=>⟨fun _ _ _ _ _ _ _ _ _ h=>by simp [fw]at h,fun _ _ _ _ _ _ _ _ _ _ _ h=>by simp [iq]at h,fun _ _ _ _ _ _ _ _ _ h=>by simp [lM]at h,fun _ _ _ _ _ _ _ _ _ h=>by simp [gW]at h,fun _ _ _ _ _ _ _ _ _ h=>by simp [i_]at h,fun _ _ _ _ _ _ _ _ _ _ _ _ h=>by simp [kF]at h⟩
 | g+1=>by
  have ih:=fI hF g;refine⟨fun d vs t s v s' ht hv hs h=> ?_,fun d vs acc l s ks s' hl hv hs ha h=> ?_,fun d f al s v s' hf ha hs h=> ?_,fun d vs l s p s' hl hv hs h=> ?_,fun d vs t s p s' ht hv hs h=> ?_,fun d vs e l v s p s' he hl hv hs h=> ?_⟩
  · -- an expression
   unfold fw at h;by_cases hfu:s.fuel≤0
   ·rw [ar hfu]at h;simp at h
   ·rw [ae hfu]at h;have hp:=Kp.pay hs hfu;cases hk:iq g fs d vs [] t.kids {s with fuel:=s.fuel-1}with
    | none=>rw [hk]at h;simp at h
    | some r=>
     cases r with
     | err e=>rw [hk]at h;simp at h
     | ok ks s1=>
      rw [hk]at h;dsimp only at h;have hkids:VXs fs t.kids:=by cases t;exact ht.2.2.2.2.2.2
      obtain⟨k1,k2,k3⟩:=ih.k d vs [] t.kids _ ks s1 hkids hv hp.ok (by simp) hk;have k4:=hp.trans k3;split at h
      ·simp only [Option.some.injEq,Re.ok.injEq]at h;obtain⟨rfl,rfl⟩:=h;exact⟨by cases t;exact ht.1,k4⟩
      ·split at h
       ·simp only [Option.some.injEq,Re.ok.injEq]at h;obtain⟨rfl,rfl⟩:=h;exact⟨hv.get _,k4⟩
       ·split at h
        ·simp only [Option.some.injEq,Re.ok.injEq]at h;obtain⟨rfl,rfl⟩:=h;exact⟨k4.ok.mem _,k4⟩
        ·split at h
         ·split at h
          ·simp only [Option.some.injEq,Re.ok.injEq]at h;obtain⟨rfl,rfl⟩:=h;exact⟨m_,k4⟩
          ·rename_i a r hi;simp only [Option.some.injEq,Re.ok.injEq]at h;obtain⟨rfl,rfl⟩:=h;refine⟨k4.ok.inp a (by rw [hi];simp),k4.trans ⟨⟨fun x hx=>k4.ok.inp x (by rw [hi];simp [hx]),k4.ok.mem,k4.ok.fuel,k4.ok.out⟩,Int.le_refl _,Int.le_refl _,1,by rw [hi];rfl⟩⟩
         ·split at h
          ·simp only [Option.some.injEq,Re.ok.injEq]at h;obtain⟨rfl,rfl⟩:=h;exact⟨PB (ln k1 0),k4⟩
          ·split at h
           ·simp only [Option.some.injEq,Re.ok.injEq]at h;obtain⟨rfl,rfl⟩:=h;exact⟨PD (ln k1 0) (ln k1 1),k4⟩
           ·split at h
            ·simp at h
            ·rename_i f hff;obtain⟨c1,c2⟩:=ih.c d f ks s1 v s' (io hff) k1 k4.ok h;exact⟨c1,k4.trans c2⟩
  · -- parts
   cases l with
   | nil=>
    simp only [iq,Option.some.injEq,Re.ok.injEq]at h;obtain⟨rfl,rfl⟩:=h;exact⟨ha,by simp,Kp.refl hs⟩
   | cons t r=>
    unfold iq at h;cases hx:fw g fs d vs t s with
    | none=>rw [hx]at h;simp at h
    | some q=>
     cases q with
     | err e=>rw [hx]at h;simp at h
     | ok v s1=>
      rw [hx]at h;dsimp only at h;obtain⟨x1,x2⟩:=ih.x d vs t s v s1 hl.1 hv hs hx;obtain⟨k1,k2,k3⟩:=ih.k d vs (acc++ [v]) r s1 ks s' hl.2 hv x2.ok (fun a hm=>by
       rcases List.mem_append.1 hm with hm|hm
       ·exact ha a hm
       ·rw [List.mem_singleton.1 hm];exact x1) h
      exact⟨k1,by rw [k2];simp;omega,x2.trans k3⟩
  · -- a call
   unfold lM at h;split at h
   ·simp at h
   ·cases hb:gW g fs (d+1) (eG [] f.ps al) f.body s with
    | none=>rw [hb]at h;simp at h
    | some q=>
     cases q with
     | err e=>rw [hb]at h;simp at h
     | ok p s1=>
      obtain⟨vs1,r⟩:=p;rw [hb]at h;simp only [Option.some.injEq,Re.ok.injEq]at h;obtain⟨rfl,rfl⟩:=h;obtain⟨b1,b2,b3⟩:=ih.b (d+1) _ f.body s _ s1 (hF f hf).2.2 (okVs.bind _ _ (fun p hp=>by simp at hp) ha) hs hb;refine⟨?_,b3⟩;cases r with
      | none=>exact m_
      | some x=>exact b2 x rfl
  · -- statements
   cases l with
   | nil=>
    simp only [gW,Option.some.injEq,Re.ok.injEq]at h;obtain⟨rfl,rfl⟩:=h;exact⟨hv,fun x hx=>by simp at hx,Kp.refl hs⟩
   | cons t r=>
    unfold gW at h;cases hx:i_ g fs d vs t s with
    | none=>rw [hx]at h;simp at h
    | some q=>
     cases q with
     | err e=>rw [hx]at h;simp at h
     | ok q s1=>
      obtain⟨vs1,ro⟩:=q;obtain⟨x1,x2,x3⟩:=ih.s d vs t s _ s1 hl.1 hv hs hx;rw [hx]at h;cases ro with
      | some x=>
       simp only [Option.some.injEq,Re.ok.injEq]at h;obtain⟨rfl,rfl⟩:=h;exact⟨x1,x2,x3⟩
      | none=>
       dsimp only at h;obtain⟨b1,b2,b3⟩:=ih.b d vs1 r s1 p s' hl.2 x1 x3.ok h;exact⟨b1,b2,x3.trans b3⟩
  · -- a statement
   unfold i_ at h;by_cases hfu:s.fuel≤0
   ·rw [ar hfu]at h;simp at h
   ·rw [ae hfu]at h;have hp:=Kp.pay hs hfu;obtain⟨kd,nm,ve,es,vb,body,vl,els⟩:=t;obtain⟨⟨e1,e2,e3,e4⟩,⟨b1,b2⟩,c1,c2⟩:=ht;cases es with
    | nil=>simp [Ty.es]at h
    | cons e r=>
     simp only [Ty.es]at h;cases hx:fw g fs d vs e {s with fuel:=s.fuel-1}with
     | none=>rw [hx]at h;simp at h
     | some q=>
      cases q with
      | err z=>rw [hx]at h;simp at h
      | ok v s1=>
       rw [hx]at h;dsimp only at h;obtain⟨x1,x2⟩:=ih.x d vs e _ v s1 e4.1 hv hp.ok hx;have x3:=hp.trans x2;split at h
       ·simp only [Option.some.injEq,Re.ok.injEq]at h;obtain⟨rfl,rfl⟩:=h;exact⟨hv.put _ x1,fun x hx=>by simp at hx,x3⟩
       ·split at h
        ·cases r with
         | nil=>simp at h
         | cons e5 r=>
          dsimp only at h;cases hx2:fw g fs d vs e5 s1 with
          | none=>rw [hx2]at h;simp at h
          | some q=>
           cases q with
           | err z=>rw [hx2]at h;simp at h
           | ok w s2=>
            rw [hx2]at h;simp only [Option.some.injEq,Re.ok.injEq]at h;obtain⟨rfl,rfl⟩:=h;obtain⟨y1,y2⟩:=ih.x d vs e5 s1 w s2 e4.2.1 hv x3.ok hx2;have y3:=x3.trans y2;refine⟨hv,fun x hx=>by simp at hx,y3.trans ⟨⟨y3.ok.inp,fun i=> ?_,y3.ok.fuel,y3.ok.out⟩,Int.le_refl _,Int.le_refl _,0,by simp⟩⟩;dsimp only [ui];split
            ·exact y1
            ·exact y3.ok.mem i
        ·split at h
         ·obtain⟨z1,z2,z3⟩:=ih.b d vs (if v=0 then els else body) s1 p s' (by split<;>assumption) hv x3.ok (by simpa only [Ty.els,Ty.body]using h);exact⟨z1,z2,x3.trans z3⟩
         ·split at h
          ·obtain⟨z1,z2,z3⟩:=ih.w d vs e body v s1 p s' e4.1 b2 hv x3.ok (by simpa only [Ty.body]using h);exact⟨z1,z2,x3.trans z3⟩
          ·split at h
           ·simp only [Option.some.injEq,Re.ok.injEq]at h;obtain⟨rfl,rfl⟩:=h;exact⟨hv,fun x hx=>by simp at hx;rw [←hx];exact x1,x3⟩
           ·split at h
            ·simp only [Option.some.injEq,Re.ok.injEq]at h;obtain⟨rfl,rfl⟩:=h;have x4:=x2.sum;have x5:=hs.out;dsimp only at x4;obtain⟨k,hk⟩:=x3.inp;exact⟨hv,fun x hx=>by simp at hx,⟨⟨x3.ok.inp,x3.ok.mem,x3.ok.fuel,by dsimp only;rw [bG,cE];omega⟩,by dsimp only;rw [bG,cE];omega,x3.fl,k,hk⟩⟩
            ·simp only [Option.some.injEq,Re.ok.injEq]at h;obtain⟨rfl,rfl⟩:=h;exact⟨hv,fun x hx=>by simp at hx,x3⟩
  · -- a loop
   unfold kF at h;split at h
   ·simp only [Option.some.injEq,Re.ok.injEq]at h;obtain⟨rfl,rfl⟩:=h;exact⟨hv,fun x hx=>by simp at hx,Kp.refl hs⟩
   ·cases hb:gW g fs d vs l s with
    | none=>rw [hb]at h;simp at h
    | some q=>
     cases q with
     | err z=>rw [hb]at h;simp at h
     | ok q s1=>
      obtain⟨vs1,ro⟩:=q;obtain⟨x1,x2,x3⟩:=ih.b d vs l s _ s1 hl hv hs hb;rw [hb]at h;cases ro with
      | some x=>
       simp only [Option.some.injEq,Re.ok.injEq]at h;obtain⟨rfl,rfl⟩:=h;exact⟨x1,x2,x3⟩
      | none=>
       dsimp only at h;cases hx:fw g fs d vs1 e s1 with
       | none=>rw [hx]at h;simp at h
       | some q=>
        cases q with
        | err z=>rw [hx]at h;simp at h
        | ok w s2=>
         rw [hx]at h;dsimp only at h;obtain⟨y1,y2⟩:=ih.x d vs1 e s1 w s2 he x1 x3.ok hx;have y3:=x3.trans y2;obtain⟨z1,z2,z3⟩:=ih.w d vs1 e l w s2 p s' he hl x1 y3.ok h;exact⟨z1,z2,y3.trans z3⟩
end Go.Proofs.YtedmdgbmdplifaaGreat
namespace Go.Proofs.YtedmdgbmdplifaaGreat
open Go.ChangeShapes Go.WideShapes Go.ChangeAt Go.RowKit Tryz
abbrev KV(n:Int):Prop:= -9223372036854775808≤n∧n<9223372036854775808
theorem Na{n:Int}(h:(Lit.int .i64 n).wf=true):KV n:=by
 simp only [Lit.wf,Bool.and_eq_true,decide_eq_true_eq]at h;have h1:IntKind.i64.min= -9223372036854775808:=by decide
 have h2:IntKind.i64.max=9223372036854775807:=by decide
 rw [h1,h2]at h;exact⟨h.1,by omega⟩
section
variable{H:Type}{enc:TypeId×Value→H}{P:Program}
theorem DA{W:World}{r:Reach}{b0 base:Nat}{spare:Nat→Bool}{held:Bool}{t e:TypeId}{v:Value}{d:DataW H}{p:List MemPlace}(ht:P.underlying t=some (.slice e))(he:P.underlying e=some (.int .i64))
  (hce:P.cellsOf e=1) (hv:Value.okWide P W r b0 t v) (h:DataW.Trod enc P W base spare held t v d p):
  ∃(x:SV)(s:List Int),v=sv x∧(∀n∈s,KV n)∧∃G:Nat→Prop,ni W G 1 eI (sv x) s∧∀b,G b→b<W.heap.size:=by
 have hv':Cell.ok P W r b0 t v:=by
  have:Cell.okWide P W r b0 t v:=by simpa [Value.okWide,ht]using hv
  simpa [Cell.okWide,ht]using this
 obtain⟨va,vn,vc,rfl⟩:∃a n c,v= .slice a n c:=by
  cases v with
  | slice a n c=>exact⟨a,n,c,rfl⟩
  | _=>simp [Cell.ok,ht]at hv'
 obtain⟨fuel,hf⟩:=h;rcases open_ints ht he hce hf with⟨hc,-⟩|⟨a,len,cap,zs,hc,-,h1,h2,h3,-,h5,h6⟩
 ·simp [Value.cells]at hc;obtain⟨rfl,rfl,rfl⟩:=hc;refine⟨⟨none,0,0⟩,[],J,by simp,fun _=>False,⟨0,by simp,by unfold maxLen;omega,.inl ⟨rfl,fun _ h=>h,rfl⟩⟩,fun _ h=>h.elim⟩
 ·simp [Value.cells]at hc;obtain⟨rfl,rfl,rfl⟩:=hc;have hh:W.has P r b0 a e vc:=by
   simp [Cell.ok,ht]at hv';exact hv'.2.2
  obtain⟨hs,hb⟩:=Gg hh;obtain⟨ab,ao,asp⟩:=a;dsimp only at hs hb;subst hs;have hzl:vn≤zs.length:=by split at h3<;>omega
  have htl:(zs.take vn).length=vn:=by rw [List.length_take];omega
  refine⟨⟨some ⟨ab,ao,none⟩,vn,vc⟩,zs.take vn,J,fun n hn=>Na (h6 n (List.mem_of_mem_take hn)),fun b=>b=ab,⟨vc,by omega,h2,.inr ⟨ab,ao,by rw [htl];rfl,rfl,?_⟩⟩,fun b hb'=>hb'▸hb⟩;intro j u hj;have hfm:(zs.take vn).flatMap eI=(zs.take vn).map (Value.int .i64):=by
   induction zs.take vn with
   | nil=>rfl
   | cons x xs ih=>simp [eI,ih]
  rw [hfm,List.getElem?_map]at hj;have hjl:j<vn:=by
   rcases Nat.lt_or_ge j vn with h|h
   ·exact h
   ·rw [List.getElem?_eq_none (by omega)]at hj;simp at hj
  have:=h5 j (by omega);rw [List.getElem?_take,ar hjl,bN (by omega)]at hj;rw [List.getD_eq_getElem?_getD,bN (by omega)]at this;simp at hj this;rw [←hj,←this];unfold Addr.add;split
  ·subst_vars;rfl
  ·rfl
theorem Dz{W:World}{r:Reach}{b0 base:Nat}{spare:Nat→Bool}{held:Bool}{t e:TypeId}{v:Value}{d:DataW H}{p:List MemPlace}(ht:P.underlying t=some (.slice e))(he:P.underlying e=some (.int .u32))
  (hce:P.cellsOf e=1) (hv:Value.okWide P W r b0 t v) (h:DataW.Trod enc P W base spare held t v d p):
  ∃(x:SV)(s:List Int),v=sv x∧(∀n∈s,oW n)∧∃G:Nat→Prop,ni W G 1 eU (sv x) s∧∀b,G b→b<W.heap.size:=by
 have hv':Cell.ok P W r b0 t v:=by
  have:Cell.okWide P W r b0 t v:=by simpa [Value.okWide,ht]using hv
  simpa [Cell.okWide,ht]using this
 obtain⟨va,vn,vc,rfl⟩:∃a n c,v= .slice a n c:=by
  cases v with
  | slice a n c=>exact⟨a,n,c,rfl⟩
  | _=>simp [Cell.ok,ht]at hv'
 obtain⟨fuel,hf⟩:=h;rcases open_ints ht he hce hf with⟨hc,-⟩|⟨a,len,cap,zs,hc,-,h1,h2,h3,-,h5,h6⟩
 ·simp [Value.cells]at hc;obtain⟨rfl,rfl,rfl⟩:=hc;refine⟨⟨none,0,0⟩,[],J,by simp,fun _=>False,⟨0,by simp,by unfold maxLen;omega,.inl ⟨rfl,fun _ h=>h,rfl⟩⟩,fun _ h=>h.elim⟩
 ·simp [Value.cells]at hc;obtain⟨rfl,rfl,rfl⟩:=hc;have hh:W.has P r b0 a e vc:=by
   simp [Cell.ok,ht]at hv';exact hv'.2.2
  obtain⟨hs,hb⟩:=Gg hh;obtain⟨ab,ao,asp⟩:=a;dsimp only at hs hb;subst hs;have hzl:vn≤zs.length:=by split at h3<;>omega
  have htl:(zs.take vn).length=vn:=by rw [List.length_take];omega
  refine⟨⟨some ⟨ab,ao,none⟩,vn,vc⟩,zs.take vn,J,fun n hn=>L0 (h6 n (List.mem_of_mem_take hn)),fun b=>b=ab,⟨vc,by omega,h2,.inr ⟨ab,ao,by rw [htl];rfl,rfl,?_⟩⟩,fun b hb'=>hb'▸hb⟩;intro j u hj;have hfm:(zs.take vn).flatMap eU=(zs.take vn).map (Value.int .u32):=by
   induction zs.take vn with
   | nil=>rfl
   | cons x xs ih=>simp [eU,ih]
  rw [hfm,List.getElem?_map]at hj;have hjl:j<vn:=by
   rcases Nat.lt_or_ge j vn with h|h
   ·exact h
   ·rw [List.getElem?_eq_none (by omega)]at hj;simp at hj
  have:=h5 j (by omega);rw [List.getElem?_take,ar hjl,bN (by omega)]at hj;rw [List.getD_eq_getElem?_getD,bN (by omega)]at this;simp at hj this;rw [←hj,←this];unfold Addr.add;split
  ·subst_vars;rfl
  ·rfl
end
end Go.Proofs.YtedmdgbmdplifaaGreat
namespace Go.Proofs.YtedmdgbmdplifaaGreat
open Go.ChangeShapes Go.WideShapes Go.ChangeAt Go.RowKit Tryz
theorem EZ{H:Type}{enc:TypeId×Value→H}{P:Program}{W:World}{base:Nat}{spare:Nat→Bool}{held:Bool}{t e:TypeId}{d:DataW H}{p:List MemPlace}{x:SV}{s:List Int}{n j:Nat}{ts:List TypeId}{ds:List (DataW H)}
  (ht:P.underlying t=some (.slice e)) (hb:P.bytesOf e=8) (h:DataW.Trod enc P W base spare held t (sv x) d p) (hs:∃G:Nat→Prop,ni W G 1 eI (sv x) s∧∀b,G b→b<n)
  (hz:(DataW.weightsEach P ts ds).all (· ≤reachBytes)=true) (h1:ts[j]?=some t) (h2:ds[j]?=some d):s.length≤1000000000000000000:=by
 obtain⟨G,⟨c,h3,h4,h5⟩,-⟩:=hs;rcases h5 with⟨h5,-⟩|⟨b,o,h5,-,-⟩
 ·rw [h5];exact br _
 ·obtain⟨fuel,hf⟩:=h;rw [h5]at hf;rcases DataW.trod_slice ht hf with⟨h6,-⟩|⟨a,len,cap,elems,rest,m,-,h6,h7,-,-,-,h8,-⟩
  ·simp [Value.cells]at h6
  ·simp [Value.cells]at h6;injection h7 with h7 h9;subst h7;have:=sized_slice hz h1 h2 ht;rw [hb,List.length_map]at this;have hr:reachBytes<140737488355328:=by decide
   have:=h6.2.1;omega
end Go.Proofs.YtedmdgbmdplifaaGreat
namespace Go.Proofs.YtedmdgbmdplifaaGreat
open Go.RowKit Tryz
section
variable{mf mu mb:Nat}{vi vo:SV}{mem:Nat→Int}{fuel d:Int}{rt:Bool}{val:Int}
theorem wl{l:List Value}{o:Nat}{v:Value}(h:o<l.length):l.take o++ [v]++l.drop (o+ [v].length)=l.set o v:=by
 rw [List.set_eq_take_append_cons_drop,ar h];simp
theorem Je{i:Nat}(hi:i<256){v:Int}:((List.range 256).map (fun i=>Value.int .u32 (mem i))).set i (I3 v)=(List.range 256).map (fun k=>I3 (ui mem i v k)):=by
 apply List.ext_getElem?;intro j;rw [List.getElem?_set,List.getElem?_map,List.getElem?_map,List.length_map,List.length_range];by_cases hj:j<256
 ·rw [List.getElem?_range hj];by_cases hij:i=j
  ·subst hij;rw [ar J,ar hi];simp [ui]
  ·rw [ae hij];have:¬j=i:=fun e=>hij e.symm
   simp [ui,this]
 ·rw [ae (by omega)];have:(List.range 256)[j]?=none:=by rw [List.getElem?_eq_none];simp;omega
  rw [this];rfl
end
structure En where
 m:Nat
 mf:Nat
 mu:Nat
 mb:Nat
 vin:SV
 ins:List Int
 fs:List Tf
def Iq(f:Tf):Value:= .agg (ip f).toArray
def J1(fs:List Tf):Asn:=⟨fun w F=>∀f∈fs,TfIn w F f,fun h hs f hf=>(h f hf).stable hs⟩
theorem PY{fs:List Tf}{f:Tf}(hf:f∈fs):∀w G,(J1 fs).pred w G→(∀b,G b→b<w.heap.size)→∃G',(Bn f).pred w G'∧∀b,G' b→G b:=fun w G h _=>⟨G,h f hf,fun _ hb=>hb⟩
def Ef(v:SV):Nat→SV
 | 0=>v
 | k+1=>Jh (Ef v k) 1 1
theorem F7{w:World}{G:Nat→Prop}{v:SV}{l:List Int}(h:ni w G 1 eU (sv v) l):∀k,k≤l.length→ni w G 1 eU (sv (Ef v k)) (l.drop k)
 | 0,_=>by simpa [Ef]using h
 | k+1,hk=>by
  have h2:1≤(l.drop k).length:=by rw [List.length_drop];omega
  have h3:=OX (enc:=eU) (fun _=>J) h2 (F7 h k (by omega));rw [List.drop_drop]at h3;exact h3
def SkI(e:En)(s:Ms):Prop:=∃k,k≤e.ins.length∧s.inp=e.ins.drop k
theorem SkI.len{e:En}{s:Ms}(h:SkI e s):s.inp.length≤e.ins.length∧s.inp=e.ins.drop (e.ins.length-s.inp.length):=by
 obtain⟨k,h1,h2⟩:=h;have h3:s.inp.length=e.ins.length-k:=by rw [h2,List.length_drop]
 exact⟨by omega,by rw [h3,show e.ins.length-(e.ins.length-k)=k by omega];exact h2⟩
theorem SkI.kp{e:En}{s s':Ms}(h:SkI e s)(h':Kp s s'):SkI e s':=by
 obtain⟨k,h1,h2⟩:=h;obtain⟨j,hj⟩:=h'.inp;rw [h2,List.drop_drop]at hj;by_cases hk:k+j≤e.ins.length
 ·exact⟨k+j,hk,hj⟩
 ·exact⟨e.ins.length,bX _,by rw [hj,List.drop_of_length_le (by omega),List.drop_length]⟩
theorem Jm{e:En}{s:Ms}(h:SkI e s):∀w G,(sl 1 eU (sv e.vin) e.ins).pred w G→(∀b,G b→b<w.heap.size)→∃G',(sl 1 eU (sv (Ef e.vin (e.ins.length-s.inp.length))) s.inp).pred w G'∧∀b,G' b→G b:=fun w G hG _=>
 ⟨G,by
  have:=F7 hG (e.ins.length-s.inp.length) (by omega);rw [←h.len.2]at this;exact this,fun _ hb=>hb⟩
theorem J4{g:Nat}{fs:List Tf}{d:Nat}{vs:Vs}{acc:List Int}{s:Ms}{rk:Re (List Int)}(h:iq g fs d vs acc [] s=some rk):rk= .ok acc s:=by
 cases g with
 | zero=>simp [iq]at h
 | succ g=>
  simp only [iq,Option.some.injEq]at h;exact h.symm
theorem GR{g:Nat}{fs:List Tf}{d:Nat}{vs:Vs}{acc:List Int}{t:Tx}{r:List Tx}{s:Ms}{rk:Re (List Int)}(h:iq g fs d vs acc (t::r) s=some rk):
  ∃g2 rx,g=g2+1∧fw g2 fs d vs t s=some rx∧(∀z,rx= .err z→rk= .err z)∧∀v s1,rx= .ok v s1→iq g2 fs d vs (acc++ [v]) r s1=some rk:=by
 cases g with
 | zero=>simp [iq]at h
 | succ g=>
  unfold iq at h;cases hx:fw g fs d vs t s with
  | none=>rw [hx]at h;simp at h
  | some rx=>
   rw [hx]at h;refine⟨g,rx,J,hx,fun z hz=> ?_,fun v s1 hv=> ?_⟩
   ·subst hz;exact(cf h).symm
   ·subst hv;exact h
theorem HL{l:List Int}(h:∀a∈l,oW a){v:Int}(hv:oW v):∀a∈l++ [v],oW a:=fun a ha=>by
 rcases List.mem_append.1 ha with ha|ha
 ·exact h a ha
 ·rw [List.mem_singleton.1 ha];exact hv
theorem yH{α:Type}{l:List α}{i:Nat}{k:α}(h:l[i]?=some k):l.drop i=k::l.drop (i+1):=by
 obtain⟨hi,hk⟩:=cJ.1 h;rw [List.drop_eq_getElem_cons hi,hk]
theorem xg{fs:List Tf}{t:Tx}(h:VX fs t):VXs fs t.kids:=by cases t;exact h.2.2.2.2.2.2
theorem N8{fs:List Tf}{t:Tx}(h:VX fs t):t.kids.length≤1000000:=by cases t;exact h.2.1
theorem N7{fs:List Tf}{t:Tx}(h:VX fs t)(hk:t.kind=4):1≤t.kids.length:=by cases t;exact h.2.2.1 hk
theorem Ry{fs:List Tf}{t:Tx}(h:VX fs t)(hk:t.kind=6):1≤t.kids.length∧∀a,(Ec t.name a).isSome=true:=by cases t;exact h.2.2.2.1 hk
theorem Rz{fs:List Tf}{t:Tx}(h:VX fs t)(hk:t.kind=7):2≤t.kids.length∧∀a b,(pF t.name a b).isSome=true:=by cases t;exact h.2.2.2.2.1 hk
theorem CY{fs:List Tf}{t:Tx}(h:VX fs t)(h1:¬t.kind=1)(h2:¬t.kind=2)(h4:¬t.kind=4)(h5:¬t.kind=5)(h6:¬t.kind=6)(h7:¬t.kind=7):∃f,cy fs t.name=some f∧t.kids.length≤f.ps.length:=by cases t;exact h.2.2.2.2.2.1 h1 h2 h4 h5 h6 h7
theorem J5{g:Nat}{fs:List Tf}{d:Nat}{vs:Vs}{s:Ms}{r:Re (Vs×Option Int)}(h:gW g fs d vs [] s=some r):r= .ok (vs,none) s:=by
 cases g with
 | zero=>simp [gW]at h
 | succ g=>
  simp only [gW,Option.some.injEq]at h;exact h.symm
theorem GT{g:Nat}{fs:List Tf}{d:Nat}{vs:Vs}{t:Ty}{l:List Ty}{s:Ms}{r:Re (Vs×Option Int)}(h:gW g fs d vs (t::l) s=some r):
  ∃g2 q,g=g2+1∧i_ g2 fs d vs t s=some q∧(∀z,q= .err z→r= .err z)∧(∀vs1 x s1,q= .ok (vs1,some x) s1→r= .ok (vs1,some x) s1)∧∀vs1 s1,q= .ok (vs1,none) s1→gW g2 fs d vs1 l s1=some r:=by
 cases g with
 | zero=>simp [gW]at h
 | succ g=>
  unfold gW at h;cases hx:i_ g fs d vs t s with
  | none=>rw [hx]at h;simp at h
  | some q=>
   rw [hx]at h;refine⟨g,q,J,hx,fun z hz=> ?_,fun vs1 x s1 hv=> ?_,fun vs1 s1 hv=> ?_⟩
   ·subst hz;exact(cf h).symm
   ·subst hv;exact(cf h).symm
   ·subst hv;exact h
theorem J2{g:Nat}{fs:List Tf}{d:Nat}{vs:Vs}{e:Tx}{l:List Ty}{v:Int}{s:Ms}{r:Re (Vs×Option Int)}(h:kF g fs d vs e l v s=some r)(hv:v=0):r= .ok (vs,none) s:=by
 cases g with
 | zero=>simp [kF]at h
 | succ g=>
  unfold kF at h;rw [ar hv]at h;exact(cf h).symm
theorem Ny{g:Nat}{fs:List Tf}{d:Nat}{vs:Vs}{e:Tx}{l:List Ty}{v:Int}{s:Ms}{r:Re (Vs×Option Int)}(h:kF g fs d vs e l v s=some r)(hv:¬v=0):
  ∃g2 q,g=g2+1∧gW g2 fs d vs l s=some q∧(∀z,q= .err z→r= .err z)∧(∀vs1 x s1,q= .ok (vs1,some x) s1→r= .ok (vs1,some x) s1)∧
   ∀vs1 s1,q= .ok (vs1,none) s1→∃rx,fw g2 fs d vs1 e s1=some rx∧(∀z,rx= .err z→r= .err z)∧∀w s2,rx= .ok w s2→kF g2 fs d vs1 e l w s2=some r:=by
 cases g with
 | zero=>simp [kF]at h
 | succ g=>
  unfold kF at h;rw [ae hv]at h;cases hx:gW g fs d vs l s with
  | none=>rw [hx]at h;simp at h
  | some q=>
   rw [hx]at h;refine⟨g,q,J,hx,fun z hz=> ?_,fun vs1 x s1 hq=> ?_,fun vs1 s1 hq=> ?_⟩
   ·subst hz;exact(cf h).symm
   ·subst hq;exact(cf h).symm
   ·subst hq;dsimp only at h;cases hy:fw g fs d vs1 e s1 with
    | none=>rw [hy]at h;simp at h
    | some rx=>
     rw [hy]at h;refine⟨rx,J,fun z hz=> ?_,fun w s2 hz=> ?_⟩
     ·subst hz;exact(cf h).symm
     ·subst hz;exact h
section
end
theorem LN{fs:List Tf}{t:Ty}(h:VY fs t):1≤t.es.length∧t.es.length≤1000000∧(t.kind=3→2≤t.es.length)∧VXs fs t.es:=by cases t;exact h.1
theorem lG{fs:List Tf}{t:Ty}(h:VY fs t):t.body.length≤1000000∧VYs fs t.body:=by cases t;exact h.2.1
theorem A7{fs:List Tf}{t:Ty}(h:VY fs t):t.els.length≤1000000∧VYs fs t.els:=by cases t;exact h.2.2
def zd{α:Type}(p:α→Bool)(l:List α):Int:=match l.findIdx? p with
 | some i=>(i:Int)
 | none=> -1
theorem qa{α:Type}{p:α→Bool}{l:List α}{k:Nat}{x:α}(hk:l[k]?=some x)(hp:p x=true)(hb:∀i y,i<k→l[i]?=some y→p y=false):zd p l=(k:Int):=by
 have h:l.findIdx? p=some k:=by
  rw [List.findIdx?_eq_some_iff_getElem];obtain⟨h1,h2⟩:=cJ.1 hk;refine⟨h1,by rw [h2];exact hp,fun j hj=> ?_⟩;have:=hb j l[j] hj (bN (by omega));simp [this]
 unfold zd;rw [h]
theorem p_{α:Type}{p:α→Bool}{l:List α}(hb:∀i y,i<l.length→l[i]?=some y→p y=false):zd p l= -1:=by
 have h:l.findIdx? p=none:=by
  rw [List.findIdx?_eq_none_iff];intro x hx;obtain⟨i,hi,rfl⟩:=List.mem_iff_getElem.1 hx;exact hb i _ hi (bN hi)
 unfold zd;rw [h]
theorem F6(v:SV)(l:List Ba)(hl:l.length≤1000000)(n:Nat)(p:Ba→Bool)(hcb:Cb prog n)(hs:∀s∈l,Spec prog n [Sg s] [] [] (X:=Unit) (fun _=>True) (fun _=> .bool (p s)) (fun _=> []) (fun _=> [])):
  bi prog 154 [sv v,.func (.func n) #[] #[]] [] [sl 1 eS (sv v) l] (I6 (zd p l)) []:=by
 refine aI func154 J ntmps154 J fun w0 M H=>ap (ak J (aa (aT (ad J (aP (aS underlying46 J (aK (k:=0) J)) (ad J (aa (aB ?_))))))))
 refine bC (X:=Nat) (fun k=>k≤l.length∧∀i y,i<k→l[i]?=some y→p y=false) (fun k=> [(0,sv v),(1,.func (.func n) #[] #[]),(7,I6 (l.length:Int)),(8,I6 (k:Int))]) (fun k=> []) (fun k=> [(0,sl 1 eS (sv v) l)]) (fun k=>l.length-k) 0 ⟨br _,fun i y hi=>by omega⟩ J J J (fun k hk0=> ?_);obtain⟨n1,n2⟩:=hk0;refine ap (aw J J cr (aa (a_ (ai J (fun h1=> ?_) (fun h1=> ?_)))))
 ·(try simp only [bj]at h1);have hk:k<l.length:=by omega
  obtain⟨x,hx⟩:∃x,l[k]?=some x:=⟨_,bN hk⟩
  refine az (a_ (aB (ap (ad J (ak J (aF J (ad J (ad J (ad J (aP (aN (j:=k) underlying46 t9 J J (aK (k:=0) J) (by first|rfl|omega) (by first|omega|(simp;done)|(simp;omega))) (aP (ah t9 J J (bA (aK (k:=0) J) (by intro _;rfl) hx (by rfl))) (aj (xs:= [.tmp 15]) (hs x (bT hx)) hcb [] [] [] (fun _ _=>aa (ai J (fun h2=> ?_) (fun h2=> ?_)))))))))))))))
  ·have hq:p x=true:=h2;refine ap (ad J (ak J (aa (ax (aH () O J (bQ (aL J)) (by rw [qa hx hq n2]) [] [] J J J)))))
  ·have hq:p x=false:=h2;refine az (am (aw J J aO (ad J (aa ?_))));refine aJ (k+1) ⟨⟨by omega,fun i y hi hy=>by rcases Nat.lt_succ_iff_lt_or_eq.1 hi with h|h;exact n2 i y h hy;rw [h,hx]at hy;rw [←cf hy];exact hq⟩,by omega⟩ J J J
 ·(try simp only [bj]at h1);have hk:k=l.length:=by omega
  subst hk;refine bF (ap (ak J (aa (ax (aH () O J (bQ (aL J)) (by rw [p_ n2]) [] [] J J J)))))
theorem Ao(v:SV)(l:List Ba)(hl:l.length≤1000000)(s:Ba):
  bi prog 184 [sv v,Sg s] [] [sl 1 eS (sv v) l] (I6 (zd (fun x=>decide (s=x)) l)) []:=by
 refine aI func184 J ntmps184 J fun w0 M H=>ap (ak J (aa (aT (ad J (aP (aS underlying46 J (aK (k:=0) J)) (ad J (aa (aB ?_))))))))
 refine bC (X:=Nat) (fun k=>k≤l.length∧∀i y,i<k→l[i]?=some y→(fun x=>decide (s=x)) y=false) (fun k=> [(0,sv v),(1,Sg s),(7,I6 (l.length:Int)),(8,I6 (k:Int))]) (fun k=> []) (fun k=> [(0,sl 1 eS (sv v) l)]) (fun k=>l.length-k) 0 ⟨br _,fun i y hi=>by omega⟩ J J J (fun k hk0=> ?_);obtain⟨n1,n2⟩:=hk0;refine ap (aw J J cr (aa (a_ (ai J (fun h1=> ?_) (fun h1=> ?_)))))
 ·(try simp only [bj]at h1);have hk:k<l.length:=by omega
  obtain⟨x,hx⟩:∃x,l[k]?=some x:=⟨_,bN hk⟩
  refine az (a_ (aB (ap (ad J (ak J (aF J (ad J (ad J (ad J (aP (aN (j:=k) underlying46 t9 J J (aK (k:=0) J) (by first|rfl|omega) (by first|omega|(simp;done)|(simp;omega))) (aP (ah t9 J J (bA (aK (k:=0) J) (by intro _;rfl) hx (by rfl))) (aw J J cW (aa (ai J (fun h2=> ?_) (fun h2=> ?_)))))))))))))))
  ·have hq:decide (s=x)=true:=by rw [←cq];exact h2
   refine ap (ad J (ak J (aa (ax (aH () O J (bQ (aL J)) (by rw [qa hx hq n2]) [] [] J J J)))))
  ·have hq:decide (s=x)=false:=by rw [←cq];exact h2
   refine az (am (aw J J aO (ad J (aa ?_))));refine aJ (k+1) ⟨⟨by omega,fun i y hi hy=>by rcases Nat.lt_succ_iff_lt_or_eq.1 hi with h|h;exact n2 i y h hy;rw [h,hx]at hy;rw [←cf hy];exact hq⟩,by omega⟩ J J J
 ·(try simp only [bj]at h1);have hk:k=l.length:=by omega
  subst hk;refine bF (ap (ak J (aa (ax (aH () O J (bQ (aL J)) (by rw [p_ n2]) [] [] J J J)))))
def cn(s:Ba)(l:List Ba):Bool:=l.any fun x=>decide (s=x)
theorem M8{l:List Ba}{s:Ba}:decide (zd (fun x=>decide (s=x)) l≥0)=cn s l:=by
 unfold zd cn;cases h:l.findIdx? (fun x=>decide (s=x))with
 | none=>
  rw [List.findIdx?_eq_none_iff]at h;have:(l.any fun x=>decide (s=x))=false:=List.any_eq_false.2 fun x hx=>by rw [h x hx];simp
  rw [this];rfl
 | some i=>
  rw [List.findIdx?_eq_some_iff_getElem]at h;obtain⟨h1,h2,_⟩:=h;have:(l.any fun x=>decide (s=x))=true:=List.any_eq_true.2 ⟨_,List.getElem_mem h1,h2⟩;rw [this];exact decide_eq_true (Int.natCast_nonneg i)
theorem iT(v:SV)(l:List Ba)(hl:l.length≤1000000)(s:Ba):
  bi prog 155 [sv v,Sg s] [] [sl 1 eS (sv v) l] (.bool (cn s l)) []:=by
 refine aI func155 J ntmps155 J fun w0 M H=>ap (ak J (aF J (ad J (ad J (aj (xs:= [.tmp 5,.tmp 6]) (Ao v l hl s) QB [] [(false,0)] [] (fun _ _=>aw J J gI (ak J (aa (ax (aH () O J (bQ (aL J)) (congrArg Value.bool M8) [] [] J J J))))))))))
def ul:List Ba:= [(⟨#[101,108,115,101]⟩:Ba),(⟨#[102,110]⟩:Ba),(⟨#[105,102]⟩:Ba),(⟨#[105,110]⟩:Ba),(⟨#[109,101,109]⟩:Ba),(⟨#[111,117,116]⟩:Ba),(⟨#[114,101,116,117,114,110]⟩:Ba),(⟨#[118,97,114]⟩:Ba),(⟨#[119,104,105,108,101]⟩:Ba)]
def oH(c:Int):Bool:=decide (c≥97)&&decide (c≤122)
def jT(c:Int):Bool:=decide (c≥48)&&decide (c≤57)
theorem um:
  Spec prog 156 [] [] [] (X:=SV) (fun _=>True) (fun u=>sv u) (fun u=> [own 9 1 eS (sv u) ul]) (fun _=> []):=by
 refine aI func156 J ntmps156 J fun w0 M H=>ap (ak J (aF J (dv eS ul (parts:= [(0,.const (Sg (ByteArray.mk #[101,108,115,101]))),(1,.const (Sg (ByteArray.mk #[102,110]))),(2,.const (Sg (ByteArray.mk #[105,102]))),(3,.const (Sg (ByteArray.mk #[105,110]))),(4,.const (Sg (ByteArray.mk #[109,101,109]))),(5,.const (Sg (ByteArray.mk #[111,117,116]))),(6,.const (Sg (ByteArray.mk #[114,101,116,117,114,110]))),(7,.const (Sg (ByteArray.mk #[118,97,114]))),(8,.const (Sg (ByteArray.mk #[119,104,105,108,101])))]) underlying46 t9 J (by decide) (by intro _;rfl) J (by decide) (by decide) J J J J fun v1=>ak J (aa (ax (aH v1 O J (bQ (aL J)) J [1] [] J J J))))))
theorem qG(c:Int):
  bi prog 157 [.int .i32 c] [] [] (.bool (oH c)) []:=by
 refine aI func157 J ntmps157 J fun w0 M H=>ap (ak J (aF J (ad J (aw J J gI (ad J (aG [] J J O (fun hg1=>bc J) J (aG [(6,_)] J J ⟨J,O⟩ (fun hg2=>aR J J lR) J (aP (bH J J J) (ak J (aa (ax (aH () O J (bQ (aL J)) J [] [] J J J))))))))))))
theorem AR(c:Int):
  bi prog 160 [.int .i32 c] [] [] (.bool (jT c)) []:=by
 refine aI func160 J ntmps160 J fun w0 M H=>ap (ak J (aF J (ad J (aw J J gI (ad J (aG [] J J O (fun hg1=>bc J) J (aG [(6,_)] J J ⟨J,O⟩ (fun hg2=>aR J J lR) J (aP (bH J J J) (ak J (aa (ax (aH () O J (bQ (aL J)) J [] [] J J J))))))))))))
theorem yo(c:Int):
  bi prog 159 [.int .i32 c] [] [] (.bool (oH c || jT c)) []:=by
 refine aI func159 J ntmps159 J fun w0 M H=>ap (ak J (aF J (ad J (aj (xs:= [.tmp 3]) (qG c) Lv [] [] [] (fun _ _=>ad J (iQ (t:=5) J (fun h1=> ?_) (fun h1=> ?_)))))))
 ·(try simp only [bj]at h1);have hq:oH c=true:=h1;refine ed J J J J (ed J J J J (aP (bH J J J) (ak J (aa (ax (aH () O J (bQ (aL J)) (by first|(rw [hq];done)|(rw [hq];rfl)|(rw [hq];simp)) [] [] J J J))))))
 ·(try simp only [bj]at h1);have hq:oH c=false:=by simpa using h1
  refine cI J J (ad J (cI J J (aj (xs:= [.tmp 6]) (AR c) QO [] [] [] (fun _ _=>aP (bH J J J) (ak J (aa (ax (aH () O J (bQ (aL J)) (by first|(rw [hq];done)|(rw [hq];rfl)|(rw [hq];simp)) [] [] J J J))))))))
def vA(s:Ba):Int:=((s.data.toList.headD 0).toNat:Int)
def A6(p:Int→Bool)(s:Ba):Bool:=s.data.toList.all fun b=>p (b.toNat:Int)
def bS(s:Ba):Bool:=decide (s.size≠0)&&decide (s.size≤12)&& !cn s ul&&oH (vA s)&&A6 (fun c=>oH c || jT c) s
def N2(s:Ba):Prop:=∀(i:Nat)(h:i<s.size),(s[i]'h).toNat<128
def tS(s:Ba):Prop:=N2 s∧s.size≤1000000
def oNil:Ba:=⟨#[]⟩
def dM:Ba:=⟨#[109,97,105,110]⟩
def tQ:List Ba:= [dR,sK,ug]
def lvL:List (Ba×Int):= [(lg,7),(kA,7),(gB,7),(dR,6),(fU,6),(gU,5),(gw,5),(n8,4),(ng,4),(nf,4),(lU,4),(na,3),(nh,3),(ff,2),(fo,1),(j9,0)]
def il(s:Ba):Bool:=(lvL.find? fun p=>decide (p.1=s)).isSome
def nZ(k:Int)(nm:Ba)(n:Nat):Bool:=
 if k=1∨k=5 then decide (nm=oNil)&&decide (n=0)else if k=2 then bS nm&&decide (n=0)else if k=3 then bS nm else
 if k=4 then decide (nm=oNil)&&decide (n=1)else if k=6 then cn nm tQ&&decide (n=1)else if k=7 then il nm&&decide (n=2)else false
mutual
def rX:Tx→Bool
 | .mk k n nm _ kids=>nZ k nm kids.length&&(decide (k=1) || decide (n=0))&&nq kids
def nq:List Tx→Bool
 | []=>true
 | t::r=>rX t&&nq r
end
def uf(k:Int)(nm:Ba)(ne nb nl:Nat):Bool:=
 decide (k≥1)&&decide (k≤8)&&decide (ne=if k=3 then 2 else 1)&&(if k=1∨k=2 then bS nm else decide (nm=oNil))&&(decide (k=4) || decide (k=5) || decide (nb=0))&&(decide (k=4) || decide (nl=0))
mutual
def rY:Ty→Bool
 | .mk k nm _ es _ body _ els=>uf k nm es.length body.length els.length&&nq es&&lK body&&lK els
def lK:List Ty→Bool
 | []=>true
 | t::r=>rY t&&lK r
end
def rF(f:Tf):Bool:=f.ps.all bS&&bS f.name&&lK f.body
def rP(fs:List Tf):Bool:=fs.all rF
mutual
def nX:Tx→Nat
 | .mk _ _ _ _ kids=>dW kids+1
def dW:List Tx→Nat
 | []=>0
 | t::r=>nX t+dW r
end
mutual
def dX:Tx→Nat
 | .mk _ _ _ _ kids=>f_ kids+1
def f_:List Tx→Nat
 | []=>0
 | t::r=>max (dX t) (f_ r)
end
mutual
def nY:Ty→Nat
 | .mk _ _ _ es _ body _ els=>1+dW es+cB body+cB els
def cB:List Ty→Nat
 | []=>0
 | t::r=>nY t+cB r
end
mutual
def vY:Ty→Nat
 | .mk k _ _ _ _ body _ els=>(if k=1 then 1 else 0)+dg body+dg els
def dg:List Ty→Nat
 | []=>0
 | t::r=>vY t+dg r
end
mutual
def Eh:Nat→Ty→Bool
 | d,.mk _ _ _ es _ body _ els=>decide (d>8) || decide (f_ es>8) || dC (d+1) body || dC (d+1) els
def dC:Nat→List Ty→Bool
 | _,[]=>false
 | d,t::r=>Eh d t || dC d r
end
def fst(a b:Int):Int:=if a=0 then b else a
theorem gE(a b c:Int):fst (fst a b) c=fst a (fst b c):=by
 unfold fst;split
 ·rfl
 ·rfl
theorem cN(a:Int):fst a 0=a:=by
 unfold fst;split
 ·rename_i h;exact h.symm
 ·rfl
theorem e_(a:Int):fst 0 a=a:=rfl
theorem bw{a b:Int}:fst a b=0↔a=0∧b=0:=by
 unfold fst;split
 ·rename_i h;simp [h]
 ·rename_i h;simp [h]
def ti(fs:List Tf)(x:Ba):Int:=zd (fun f=>decide (f.name=x)) fs
mutual
def eX(fs:List Tf)(ns:List Ba):Tx→Int
 | .mk k _ nm _ kids=>fst (if k=2 then(if cn nm ns=true then 0 else 21)else if k=3 then(match cy fs nm with
   | none=>21
   | some f=>if f.ps.length=kids.length then 0 else 23)else 0) (ir fs ns kids)
def ir(fs:List Tf)(ns:List Ba):List Tx→Int
 | []=>0
 | t::r=>fst (eX fs ns t) (ir fs ns r)
end
mutual
def bY(fs:List Tf):List Ba→Ty→List Ba×Int
 | ns,.mk k nm _ es _ body _ els=>
  let n1:=if k=1 then ns++ [nm]else ns
  let p1:=cV fs n1 body
  let p2:=cV fs p1.1 els
  (p2.1,fst (if k=2 then(if cn nm ns=true then 0 else 21)else 0) (fst (ir fs ns es) (fst (if k=1 then(if cn nm ns=true then 22 else 0)else 0) (fst p1.2 p2.2))))
def cV(fs:List Tf):List Ba→List Ty→List Ba×Int
 | ns,[]=>(ns,0)
 | ns,t::r=>let p:=bY fs ns t;let q:=cV fs p.1 r;(q.1,fst p.2 q.2)
end
def qU:List Ba→List Ba→Int
 | _,[]=>0
 | ns,x::r=>fst (if cn x ns=true then 22 else 0) (qU (ns++ [x]) r)
def kD(fs:List Tf)(f:Tf):Int:=
 fst (if f.ps.length>4∨f.ps.length+dg f.body>12∨cB f.body>400∨dC 1 f.body=true then 2 else 0) (fst (qU [] f.ps) (cV fs f.ps f.body).2)
def gt(fs:List Tf):List Tf→Int
 | []=>0
 | f::r=>fst (kD fs f) (gt fs r)
def once(fs:List Tf):Bool:=(List.range fs.length).all fun i=>decide (ti fs (fs.getD i ⟨oNil,bk,[],bk,[]⟩).name=(i:Int))
def iA(fs:List Tf):Int:=
 if rP fs=false then 1 else if fs.length>16 then 2 else if once fs=false then 22 else match cy fs dM with
  | none=>21
  | some f=>if f.ps.length>0 then 23 else gt fs fs
mutual
def GX:Tx→Prop
 | .mk k n nm _ kids=>oW n∧tS nm∧kids.length≤1000000∧GXs kids
def GXs:List Tx→Prop
 | []=>True
 | t::r=>GX t∧GXs r
end
mutual
def GY:Ty→Prop
 | .mk k nm _ es _ body _ els=>tS nm∧(es.length≤1000000∧GXs es)∧(body.length≤1000000∧GYs body)∧(els.length≤1000000∧GYs els)
def GYs:List Ty→Prop
 | []=>True
 | t::r=>GY t∧GYs r
end
def GF(f:Tf):Prop:=tS f.name∧(∀s∈f.ps,tS s)∧f.ps.length≤1000000∧f.body.length≤1000000∧GYs f.body∧f.ps.length+cB f.body≤1000000
def GP(fs:List Tf):Prop:=fs.length≤1000000∧∀f∈fs,GF f
theorem GXs.mem:∀{l:List Tx},GXs l→∀t∈l,GX t
 | [],_,_,h=>by simp at h
 | t::r,h,u,hu=>by
  rcases List.mem_cons.1 hu with rfl|hu
  ·exact h.1
  ·exact GXs.mem h.2 u hu
theorem GYs.mem:∀{l:List Ty},GYs l→∀t∈l,GY t
 | [],_,_,h=>by simp at h
 | t::r,h,u,hu=>by
  rcases List.mem_cons.1 hu with rfl|hu
  ·exact h.1
  ·exact GYs.mem h.2 u hu
theorem kx{t:Tx}(h:GX t):GXs t.kids:=by cases t;exact h.2.2.2
theorem mC{t:Tx}(h:GX t):t.kids.length≤1000000:=by cases t;exact h.2.2.1
theorem Kq{t:Tx}(h:GX t):tS t.name:=by cases t;exact h.2.1
theorem Ko{t:Ty}(h:GY t):tS t.name:=by cases t;exact h.1
theorem pn{t:Ty}(h:GY t):t.es.length≤1000000∧GXs t.es:=by cases t;exact h.2.1
theorem eW{t:Ty}(h:GY t):t.body.length≤1000000∧GYs t.body:=by cases t;exact h.2.2.1
theorem gk{t:Ty}(h:GY t):t.els.length≤1000000∧GYs t.els:=by cases t;exact h.2.2.2
theorem ri:∀l,nq l=l.all rX
 | []=>rfl
 | t::r=>by rw [nq,ri r];rfl
theorem hZ:∀l,lK l=l.all rY
 | []=>rfl
 | t::r=>by rw [lK,hZ r];rfl
theorem qy{t u:Tx}(h:u∈t.kids):SizeOf.sizeOf u<SizeOf.sizeOf t:=by
 cases t with
 | mk k n nm v kids=>
  have:=List.sizeOf_lt_of_mem h;simp only [Tx.kids]at this;simp only [Tx.mk.sizeOf_spec];omega
theorem KB{t u:Ty}(h:u∈t.body∨u∈t.els):SizeOf.sizeOf u<SizeOf.sizeOf t:=by
 cases t with
 | mk k nm ve es vb body vl els=>
  simp only [Ty.mk.sizeOf_spec];rcases h with h|h
  ·have:=List.sizeOf_lt_of_mem h;simp only [Ty.body]at this;omega
  ·have:=List.sizeOf_lt_of_mem h;simp only [Ty.els]at this;omega
theorem em{fs:List Tf}{x:Ba}:(ti fs x<0↔cy fs x=none)∧(∀f,cy fs x=some f→∃i:Nat,ti fs x=(i:Int)∧fs[i]?=some f):=by
 unfold ti zd cy;cases h:fs.findIdx? (fun f=>decide (f.name=x))with
 | none=>
  rw [List.findIdx?_eq_none_iff]at h;have h2:fs.find? (fun f=>decide (f.name=x))=none:=List.find?_eq_none.2 fun f hf=>by rw [h f hf];simp
  rw [h2];simp
 | some i=>
  rw [List.findIdx?_eq_some_iff_getElem]at h;obtain⟨h1,h2,h3⟩:=h;have h4:fs.find? (fun f=>decide (f.name=x))=some fs[i]:=by
   rw [List.find?_eq_some_iff_getElem];refine⟨h2,i,h1,J,fun j hj=> ?_⟩;have:=h3 j hj;simpa using this
  rw [h4];refine⟨⟨fun h=>by simp at h;omega,fun h=>by simp at h⟩,fun f hf=>⟨i,J,?_⟩⟩;rw [←cf hf];exact bN h1
theorem rm{α:Type}{p:α→Bool}{l:List α}:decide (zd p l≥0)=l.any p:=by
 unfold zd;cases h:l.findIdx? p with
 | none=>
  rw [List.findIdx?_eq_none_iff]at h;have:l.any p=false:=List.any_eq_false.2 fun x hx=>by rw [h x hx];simp
  rw [this];rfl
 | some i=>
  rw [List.findIdx?_eq_some_iff_getElem]at h;obtain⟨h1,h2,_⟩:=h;have:l.any p=true:=List.any_eq_true.2 ⟨_,List.getElem_mem h1,h2⟩;rw [this];exact decide_eq_true (Int.natCast_nonneg i)
theorem yl(v:SV)(l:List Tf)(hl:l.length≤1000000)(n:Nat)(cap:List Value)(C:Asn)(p:Tf→Bool)(hcb:Cb prog n)(hs:∀x∈l,Spec prog n (Iq x::cap) [] [C] (X:=Unit) (fun _=>True) (fun _=> .bool (p x)) (fun _=> []) (fun _=> [])):
  bi prog 124 [sv v,.func (.func n) #[] cap.toArray] [] [sl 3 ip (sv v) l,C] (I6 (zd p l)) []:=by
 refine aI func124 J ntmps124 J fun w0 M H=>ap (ak J (aa (aT (ad J (aP (aS underlying25 J (aK (k:=0) J)) (ad J (aa (aB ?_))))))))
 refine bC (X:=Nat) (fun k=>k≤l.length∧∀i y,i<k→l[i]?=some y→p y=false) (fun k=> [(0,sv v),(1,.func (.func n) #[] cap.toArray),(7,I6 (l.length:Int)),(8,I6 (k:Int))]) (fun k=> []) (fun k=> [(0,sl 3 ip (sv v) l),(1,C)]) (fun k=>l.length-k) 0 ⟨br _,fun i y hi=>by omega⟩ J J J (fun k hk0=> ?_);obtain⟨n1,n2⟩:=hk0;refine ap (aw J J cr (aa (a_ (ai J (fun h1=> ?_) (fun h1=> ?_)))))
 ·(try simp only [bj]at h1);have hk:k<l.length:=by omega
  obtain⟨x,hx⟩:∃x,l[k]?=some x:=⟨_,bN hk⟩
  refine az (a_ (aB (ap (ad J (ak J (aF J (ad J (ad J (ad J (aP (aN (j:=k) underlying25 fj J J (aK (k:=0) J) (by first|rfl|omega) (by first|omega|(simp;done)|(simp;omega))) (aP (aM fj J J J (bA (aK (k:=0) J) (by intro _;rfl) hx (by rfl))) (aj (xs:= [.tmp 15]) (hs x (bT hx)) hcb [] [(false,1)] [] (fun _ _=>aa (ai J (fun h2=> ?_) (fun h2=> ?_)))))))))))))))
  ·have hq:p x=true:=h2;refine ap (ad J (ak J (aa (ax (aH () O J (bQ (aL J)) (by rw [qa hx hq n2]) [] [] J J J)))))
  ·have hq:p x=false:=h2;refine az (am (aw J J aO (ad J (aa ?_))));refine aJ (k+1) ⟨⟨by omega,fun i y hi hy=>by rcases Nat.lt_succ_iff_lt_or_eq.1 hi with h|h;exact n2 i y h hy;rw [h,hx]at hy;rw [←cf hy];exact hq⟩,by omega⟩ J J J
 ·(try simp only [bj]at h1);have hk:k=l.length:=by omega
  subst hk;refine bF (ap (ak J (aa (ax (aH () O J (bQ (aL J)) (by rw [p_ n2]) [] [] J J J)))))
theorem D1(v:SV)(l:List Tf)(hl:l.length≤1000000)(n:Nat)(cap:List Value)(C:Asn)(p:Tf→Bool)(hcb:Cb prog n)(hs:∀x∈l,Spec prog n (Iq x::cap) [] [C] (X:=Unit) (fun _=>True) (fun _=> .bool (p x)) (fun _=> []) (fun _=> [])):
  bi prog 118 [sv v,.func (.func n) #[] cap.toArray] [] [sl 3 ip (sv v) l,C] (.bool (l.any p)) []:=by
 refine aI func118 J ntmps118 J fun w0 M H=>ap (ak J (aF J (ad J (ad J (aj (xs:= [.tmp 5,.tmp 6]) (yl v l hl n cap C p hcb hs) LF [] [(false,0),(false,1)] [] (fun _ _=>aw J J gI (ak J (aa (ax (aH () O J (bQ (aL J)) (congrArg Value.bool rm) [] [] J J J))))))))))
theorem F4(v:SV)(l:List Ty)(hl:l.length≤1000000)(n:Nat)(cap:List Value)(C:Asn)(p:Ty→Bool)(hcb:Cb prog n)(hs:∀x∈l,Spec prog n (yV x::cap) [] [C] (X:=Unit) (fun _=>True) (fun _=> .bool (p x)) (fun _=> []) (fun _=> [])):
  bi prog 185 [sv v,.func (.func n) #[] cap.toArray] [] [sl 5 eE (sv v) l,C] (I6 (zd p l)) []:=by
 refine aI func185 J ntmps185 J fun w0 M H=>ap (ak J (aa (aT (ad J (aP (aS underlying62 J (aK (k:=0) J)) (ad J (aa (aB ?_))))))))
 refine bC (X:=Nat) (fun k=>k≤l.length∧∀i y,i<k→l[i]?=some y→p y=false) (fun k=> [(0,sv v),(1,.func (.func n) #[] cap.toArray),(7,I6 (l.length:Int)),(8,I6 (k:Int))]) (fun k=> []) (fun k=> [(0,sl 5 eE (sv v) l),(1,C)]) (fun k=>l.length-k) 0 ⟨br _,fun i y hi=>by omega⟩ J J J (fun k hk0=> ?_);obtain⟨n1,n2⟩:=hk0;refine ap (aw J J cr (aa (a_ (ai J (fun h1=> ?_) (fun h1=> ?_)))))
 ·(try simp only [bj]at h1);have hk:k<l.length:=by omega
  obtain⟨x,hx⟩:∃x,l[k]?=some x:=⟨_,bN hk⟩
  refine az (a_ (aB (ap (ad J (ak J (aF J (ad J (ad J (ad J (aP (aN (j:=k) underlying62 dK J J (aK (k:=0) J) (by first|rfl|omega) (by first|omega|(simp;done)|(simp;omega))) (aP (aM dK J J J (bA (aK (k:=0) J) (by intro _;rfl) hx (by rfl))) (aj (xs:= [.tmp 15]) (hs x (bT hx)) hcb [] [(false,1)] [] (fun _ _=>aa (ai J (fun h2=> ?_) (fun h2=> ?_)))))))))))))))
  ·have hq:p x=true:=h2;refine ap (ad J (ak J (aa (ax (aH () O J (bQ (aL J)) (by rw [qa hx hq n2]) [] [] J J J)))))
  ·have hq:p x=false:=h2;refine az (am (aw J J aO (ad J (aa ?_))));refine aJ (k+1) ⟨⟨by omega,fun i y hi hy=>by rcases Nat.lt_succ_iff_lt_or_eq.1 hi with h|h;exact n2 i y h hy;rw [h,hx]at hy;rw [←cf hy];exact hq⟩,by omega⟩ J J J
 ·(try simp only [bj]at h1);have hk:k=l.length:=by omega
  subst hk;refine bF (ap (ak J (aa (ax (aH () O J (bQ (aL J)) (by rw [p_ n2]) [] [] J J J)))))
theorem DZ(v:SV)(l:List Ty)(hl:l.length≤1000000)(n:Nat)(cap:List Value)(C:Asn)(p:Ty→Bool)(hcb:Cb prog n)(hs:∀x∈l,Spec prog n (yV x::cap) [] [C] (X:=Unit) (fun _=>True) (fun _=> .bool (p x)) (fun _=> []) (fun _=> [])):
  bi prog 161 [sv v,.func (.func n) #[] cap.toArray] [] [sl 5 eE (sv v) l,C] (.bool (l.any p)) []:=by
 refine aI func161 J ntmps161 J fun w0 M H=>ap (ak J (aF J (ad J (ad J (aj (xs:= [.tmp 5,.tmp 6]) (F4 v l hl n cap C p hcb hs) QA [] [(false,0),(false,1)] [] (fun _ _=>aw J J gI (ak J (aa (ax (aH () O J (bQ (aL J)) (congrArg Value.bool rm) [] [] J J J))))))))))
theorem F5(v:SV)(l:List Tx)(hl:l.length≤1000000)(n:Nat)(cap:List Value)(C:Asn)(p:Tx→Bool)(hcb:Cb prog n)(hs:∀x∈l,Spec prog n (xV x::cap) [] [C] (X:=Unit) (fun _=>True) (fun _=> .bool (p x)) (fun _=> []) (fun _=> [])):
  bi prog 200 [sv v,.func (.func n) #[] cap.toArray] [] [sl 4 dT (sv v) l,C] (I6 (zd p l)) []:=by
 refine aI func200 J ntmps200 J fun w0 M H=>ap (ak J (aa (aT (ad J (aP (aS underlying59 J (aK (k:=0) J)) (ad J (aa (aB ?_))))))))
 refine bC (X:=Nat) (fun k=>k≤l.length∧∀i y,i<k→l[i]?=some y→p y=false) (fun k=> [(0,sv v),(1,.func (.func n) #[] cap.toArray),(7,I6 (l.length:Int)),(8,I6 (k:Int))]) (fun k=> []) (fun k=> [(0,sl 4 dT (sv v) l),(1,C)]) (fun k=>l.length-k) 0 ⟨br _,fun i y hi=>by omega⟩ J J J (fun k hk0=> ?_);obtain⟨n1,n2⟩:=hk0;refine ap (aw J J cr (aa (a_ (ai J (fun h1=> ?_) (fun h1=> ?_)))))
 ·(try simp only [bj]at h1);have hk:k<l.length:=by omega
  obtain⟨x,hx⟩:∃x,l[k]?=some x:=⟨_,bN hk⟩
  refine az (a_ (aB (ap (ad J (ak J (aF J (ad J (ad J (ad J (aP (aN (j:=k) underlying59 cl J J (aK (k:=0) J) (by first|rfl|omega) (by first|omega|(simp;done)|(simp;omega))) (aP (aM cl J J J (bA (aK (k:=0) J) (by intro _;rfl) hx (by rfl))) (aj (xs:= [.tmp 15]) (hs x (bT hx)) hcb [] [(false,1)] [] (fun _ _=>aa (ai J (fun h2=> ?_) (fun h2=> ?_)))))))))))))))
  ·have hq:p x=true:=h2;refine ap (ad J (ak J (aa (ax (aH () O J (bQ (aL J)) (by rw [qa hx hq n2]) [] [] J J J)))))
  ·have hq:p x=false:=h2;refine az (am (aw J J aO (ad J (aa ?_))));refine aJ (k+1) ⟨⟨by omega,fun i y hi hy=>by rcases Nat.lt_succ_iff_lt_or_eq.1 hi with h|h;exact n2 i y h hy;rw [h,hx]at hy;rw [←cf hy];exact hq⟩,by omega⟩ J J J
 ·(try simp only [bj]at h1);have hk:k=l.length:=by omega
  subst hk;refine bF (ap (ak J (aa (ax (aH () O J (bQ (aL J)) (by rw [p_ n2]) [] [] J J J)))))
theorem vq(v:SV)(l:List Tx)(hl:l.length≤1000000)(n:Nat)(cap:List Value)(C:Asn)(p:Tx→Bool)(hcb:Cb prog n)(hs:∀x∈l,Spec prog n (xV x::cap) [] [C] (X:=Unit) (fun _=>True) (fun _=> .bool (p x)) (fun _=> []) (fun _=> [])):
  bi prog 186 [sv v,.func (.func n) #[] cap.toArray] [] [sl 4 dT (sv v) l,C] (.bool (l.any p)) []:=by
 refine aI func186 J ntmps186 J fun w0 M H=>ap (ak J (aF J (ad J (ad J (aj (xs:= [.tmp 5,.tmp 6]) (F5 v l hl n cap C p hcb hs) Qw [] [(false,0),(false,1)] [] (fun _ _=>aw J J gI (ak J (aa (ax (aH () O J (bQ (aL J)) (congrArg Value.bool rm) [] [] J J J))))))))))
theorem D0(v:SV)(l:List Ba)(hl:l.length≤1000000)(n:Nat)(p:Ba→Bool)(hcb:Cb prog n)(hs:∀s∈l,Spec prog n [Sg s] [] [] (X:=Unit) (fun _=>True) (fun _=> .bool (p s)) (fun _=> []) (fun _=> [])):
  bi prog 120 [sv v,.func (.func n) #[] #[]] [] [sl 1 eS (sv v) l] (.bool (l.any p)) []:=by
 refine aI func120 J ntmps120 J fun w0 M H=>ap (ak J (aF J (ad J (ad J (aj (xs:= [.tmp 5,.tmp 6]) (F6 v l hl n p hcb hs) QT [] [(false,0)] [] (fun _ _=>aw J J gI (ak J (aa (ax (aH () O J (bQ (aL J)) (congrArg Value.bool rm) [] [] J J J))))))))))
theorem pl{p:Int→Bool}{s:Ba}:A6 p s=true↔∀(i:Nat)(h:i<s.size),p (((s[i]'h).toNat:Nat):Int)=true:=by
 unfold A6;rw [List.all_eq_true];constructor
 ·intro h i hi;refine h (s[i]'hi) ?_;have:s[i]'hi=s.data.toList[i]'(by simpa using hi):=by simp [ByteArray.getElem_eq_getElem_data]
  rw [this];exact List.getElem_mem _
 ·intro h b hb;obtain⟨i,hi,rfl⟩:=List.mem_iff_getElem.1 hb;have hi':i<s.size:=by simpa using hi
  have:=h i hi';rw [show s[i]'hi'=s.data.toList[i]'hi by simp [ByteArray.getElem_eq_getElem_data]]at this;exact this
theorem Hy{s:Ba}:s=oNil↔s.size=0:=by
 constructor
 ·intro h;subst h;rfl
 ·intro h;obtain⟨⟨l⟩⟩:=s;cases l with
  | nil=>rfl
  | cons a r=>simp [ByteArray.size]at h
theorem tj{s:Ba}(h:0<s.size):IntKind.i32.wrap ((bv s).getD 0 0)=vA s:=by
 unfold vA bv;obtain⟨⟨l⟩⟩:=s;cases l with
 | nil=>simp [ByteArray.size]at h
 | cons a r=>
  have:=a.toNat_lt;simp only [List.map_cons,List.getD_cons_zero,List.headD_cons];exact Ev (by omega) (by omega)
theorem yn(s:Ba):bS s=(!(s==⟨#[]⟩)&& !decide ((s.size:Int)>12)&& !cn s ul&&oH (vA s)&&A6 (fun c=>oH c || jT c) s):=by
 unfold bS
 congr 4
 ·rw [cq];have:=Hy (s:=s);unfold oNil at this;by_cases h:s.size=0
  ·rw [this.2 h];rfl
  ·have h2:¬s=⟨#[]⟩:=fun e=>h (this.1 e)
   simp [h,h2]
 ·by_cases h:s.size≤12
  ·have:¬(s.size:Int)>12:=by omega
   simp [h,this]
  ·have:(s.size:Int)>12:=by omega
   simp [h,this]
theorem sS{s:Ba}(h:((s==⟨#[]⟩)=true∨(s.size:Int)>12)∨cn s ul=true∨(0<s.size∧(false || !oH (IntKind.i32.wrap ((bv s).getD 0 0)))=true)):bS s=false:=by
 rw [yn];rcases h with(h|h)|h|⟨h0,h⟩
 ·rw [h];rfl
 ·rw [decide_eq_true h];simp
 ·rw [h];simp
 ·rw [tj h0,Bool.false_or,Bool.not_eq_true']at h;rw [h];simp
theorem DM{s:Ba}{k:Nat}(h1:(s==⟨#[]⟩)=false∧¬(s.size:Int)>12)(h2:True∧cn s ul=false)(h0:0<s.size)(h3:(false || !oH (IntKind.i32.wrap ((bv s).getD 0 0)))=false)(hk:decide ((k:Int)=(s.size:Int))=A6 (fun c=>oH c || jT c) s):decide ((k:Int)=(s.size:Int))=bS s:=by
 rw [yn,h1.1,decide_eq_false h1.2,h2.2,hk];rw [tj h0,Bool.false_or,Bool.not_eq_false']at h3;rw [h3];simp
theorem Df(s:Ba)(n:Nat)(p:Int→Bool)(has:N2 s)(hcb:Cb prog n)(hz:s.size≤1000000)(hs:∀c:Int,Spec prog n [.int .i32 c] [] [] (X:=Unit) (fun _=>True) (fun _=> .bool (p c)) (fun _=> []) (fun _=> [])):
  Spec prog 158 [Sg s,.func (.func n) #[] #[]] [] [] (X:=Nat) (fun k=>decide ((k:Int)=(s.size:Int))=A6 p s) (fun k=>I6 (k:Int)) (fun _=> []) (fun _=> []):=by
 refine aI func158 J ntmps158 J fun w0 M H=>ap (ak J (aa (aT (ad J (Fi underlying9 J J fun i8=>aa (aB ?_))))))
 refine bC (X:=Nat) (fun x=>x≤s.size∧∀j(h:j<s.size),j<x→p (((s[j]'h).toNat:Nat):Int)=true) (fun x=> [(0,Sg s),(1,.func (.func n) #[] #[]),(8,Pt i8)]) (fun x=> [(8,OY i8 s x)]) (fun x=> []) (fun x=>s.size-x) 0 ⟨br _,fun j h hj=>by omega⟩ J J J (fun x hx0=> ?_);obtain⟨n1,n2⟩:=hx0;refine ap (IR (k:=8) J J (fun h=>has x h) J (fun hover=> ?_) (fun hmore=> ?_))
 ·have hx:x=s.size:=by omega
  subst hx;refine aP (cG J J) (aa (a_ (ai J (fun h1=> ?_) (fun h1=> ?_))))
  ·exact absurd h1 (by simp)
  ·(try simp only [bj]at h1);refine bF (ap (ad J (aP (cT underlying9 J) (ak J (aa (ax (aH s.size (by rw [decide_eq_true J];symm;exact pl.2 fun i h=>n2 i h h) J (bQ (aL J)) J [] [] J J J)))))))
 ·have hxs:x<s.size:=hmore;refine aP (cG J J) (aa (a_ (ai J (fun h2=> ?_) (fun h2=> ?_))))
  ·(try simp only [bj]at h2);refine az (aB (ap (aP (cG J J) (aP (cG J J) (ak J (ak J (aF J (ad J (ad J (db (xs:= [.tmp 14]) (hs _) hcb [] [] [] J J J (fun _ _=>aP (cz J) (aa (ai J (fun h3=> ?_) (fun h3=> ?_))))))))))))))
   ·have hq:p (((s[x]'hxs).toNat:Nat):Int)=false:=by simpa using h3
    refine ap (ad J (ak J (aa (ax ?_))));refine aH x (by rw [decide_eq_false (show ¬((x:Int)=(s.size:Int)) by omega)];symm;rw [Bool.eq_false_iff];intro h;have:=pl.1 h x hxs;rw [hq]at this;cases this) J (bQ (aL J)) J [] [] J J J
   ·have hq:p (((s[x]'hxs).toNat:Nat):Int)=true:=by simpa using h3
    refine az ?_;refine aJ (x+1) ⟨⟨by omega,fun j h hj=>by rcases Nat.lt_succ_iff_lt_or_eq.1 hj with h2|h2;exact n2 j h h2;subst h2;exact hq⟩,by omega⟩ J J J
  ·exact absurd h2 (by simp)
theorem jM(s:Ba)(has:N2 s)(hz:s.size≤1000000):
  bi prog 122 [Sg s] [] [] (.bool (bS s)) []:=by
 refine aI func122 J ntmps122 J fun w0 M H=>ap (ak J (aa (aT (ad J (aw J J cW (ad J (aG [] J J O (fun hg1=>bc J) J (aG [(6,_)] J J ⟨J,O⟩ (fun hg2=>cT underlying9 J) J (aG [(6,_),(7,_)] J J ⟨J,J,O⟩ (fun hg3=>aR J J ec) J (aP (bH J J J) (ad J (iQ (t:=10) J (fun h4=> ?_) (fun h4=> ?_)))))))))))))
 ·(try simp only [bj]at h4);have q7:=h4;refine ed J J J J (ed J J J J (ed J J J J (aP (bH J J J) (ad J (iQ (t:=15) J (fun h5=> ?_) (fun h5=> ?_))))))
  ·(try simp only [bj]at h5);have q12:=h5;refine ed J J J J (ed J J J J (ed J J J J (ed J J J J (ed J J J J (aP (bH J J J) (aa (ai J (fun h6=> ?_) (fun h6=> ?_))))))))
   ·refine ap (ak J (aa (ax (aH () O J (bQ (aL J)) (congrArg Value.bool (sS (.inl q7)).symm) [] [] J J J))))
   ·exact absurd h6 (by simp)
  ·(try simp only [bj]at h5);have q12:=h5;exact absurd h5 (by simp)
 ·(try simp only [bj]at h4);have q7:=h4;have hs0:0<s.size:=Nat.pos_of_ne_zero fun e=>by have:=Hy.2 e;subst this;exact absurd q7.1 (by decide)
  refine cI J J (aj (xs:= []) um QS [] [] [11] (fun v11 _=>cQ 11 21 J bO (cI J J (ad J (cI J J (aj (xs:= [.tmp 11,.tmp 12]) (iT v11 ul (by decide) s) CK [] [(false,21)] [] (fun _ _=>aP (bH J J J) (ad J (iQ (t:=15) J (fun h7=> ?_) (fun h7=> ?_))))))))))
  ·(try simp only [bj]at h7);have q12:=h7;refine ed J J J J (ed J J J J (ed J J J J (ed J J J J (ed J J J J (aP (bH J J J) (aa (ai J (fun h8=> ?_) (fun h8=> ?_))))))))
   ·refine ap (ak J (aa (ax (aH () O J (bQ (aL J)) (congrArg Value.bool (sS (.inr (.inl (by rcases q12 with q|q;exact absurd q (by simp);exact q)))).symm) [] [] J J J))))
   ·exact absurd h8 (by simp)
  ·(try simp only [bj]at h7);have q12:=h7;refine cI J J (ad J (cI J J (aP (eg (j:=0) underlying9 J J J hs0) (cI J J (aP (cC underlying5 underlying21 J (by first|exact Ev (by omega) (by omega)|rfl)) (cI J J (db (xs:= [.tmp 18]) (qG _) Lv [] [] [] J J J (fun _ _=>cI J J (aP (cz J) (aP (bH J J J) (aa (ai J (fun h9=> ?_) (fun h9=> ?_)))))))))))))
   ·have q0:=h9;refine ap (ak J (aa (ax (aH () O J (bQ (aL J)) (congrArg Value.bool (sS (.inr (.inr ⟨hs0,q0⟩))).symm) [] [] J J J))))
   ·have q0:=h9;refine az (ap (ad J (aj (xs:= [.tmp 22,.func 159]) (Df s 159 (fun c=>oH c || jT c) has QQ hz (fun c=>yo c)) QR [] [] [] (fun k hk=>ad J (aP (cT underlying9 J) (aw J J bn (ak J (aa (ax (aH () O J (bQ (aL J)) (congrArg Value.bool (DM q7 q12 hs0 q0 hk)) [] [] J J J))))))))))
def vI(p:Ba×Int):Value:=I6 p.2
theorem BK{k:Int}{nm:Ba}{n:Nat}(h:k=1∨k=5):nZ k nm n=((nm==⟨#[]⟩)&&decide ((n:Int)=0)):=by
 unfold nZ;rw [ar h,cq]
 congr 1
 exact decide_eq_decide.2 (by omega)
theorem KT{k:Int}{nm:Ba}{n:Nat}(h:k=2):nZ k nm n=(bS nm&&decide ((n:Int)=0)):=by
 subst h;show(bS nm&&decide (n=0))=_
 congr 1
 exact decide_eq_decide.2 (by omega)
theorem KS{k:Int}{nm:Ba}{n:Nat}(h:k=3):nZ k nm n=bS nm:=by
 subst h;rfl
theorem KQ{k:Int}{nm:Ba}{n:Nat}(h:k=4):nZ k nm n=((nm==⟨#[]⟩)&&decide ((n:Int)=1)):=by
 subst h;show(decide (nm=oNil)&&decide (n=1))=_;rw [cq]
 congr 1
 exact decide_eq_decide.2 (by omega)
theorem KP{k:Int}{nm:Ba}{n:Nat}(h:k=6):nZ k nm n=(cn nm tQ&&decide ((n:Int)=1)):=by
 subst h;show(cn nm tQ&&decide (n=1))=_
 congr 1
 exact decide_eq_decide.2 (by omega)
theorem KO{k:Int}{nm:Ba}{n:Nat}(h:k=7):nZ k nm n=(il nm&&decide ((n:Int)=2)):=by
 subst h;show(il nm&&decide (n=2))=_
 congr 1
 exact decide_eq_decide.2 (by omega)
theorem KU{k:Int}{nm:Ba}{n:Nat}(h1:¬k=1)(h5:¬k=5)(h2:¬k=2)(h3:¬k=3)(h4:¬k=4)(h6:¬k=6)(h7:¬k=7):nZ k nm n=false:=by
 unfold nZ;rw [ae (fun h=>h.elim h1 h5),ae h2,ae h3,ae h4,ae h6,ae h7]
theorem ik{α:Type}(p:α→Bool):∀l:List α,(!(l.any fun x=> !p x))=l.all p
 | []=>rfl
 | a::r=>by rw [List.any_cons,List.all_cons,←ik p r];cases p a<;>simp
theorem BA(t:Tx):rX t=(nZ t.kind t.name t.kids.length&&(decide (t.kind=1) || decide (t.n=0))&& !(t.kids.any fun u=> !rX u)):=by
 rw [ik];cases t;rw [rX,ri];rfl
theorem yf:
  Spec prog 201 [] [] [] (X:=Nat) (fun _=>True) (fun b=> .map (some b)) (fun b=> [mp gV Prod.fst vI (some b) lvL]) (fun _=> []):=by
 refine aI func201 J ntmps201 J fun w0 M H=>ap (ak J (aF J (mH (Prod.fst:Ba×Int→Ba) gV vI J fun b1=>ct (k:=1) (α:=Ba×Int) (kf:=Prod.fst) (vf:=vI) (j9,0) [(j9,0)] underlying105 fp J J J J (List.Perm.of_eq J) (ct (k:=1) (α:=Ba×Int) (kf:=Prod.fst) (vf:=vI) (fo,1) [(fo,1),(j9,0)] underlying105 fp J J J J (List.Perm.of_eq J) (ct (k:=1) (α:=Ba×Int) (kf:=Prod.fst) (vf:=vI) (ff,2) [(ff,2),(fo,1),(j9,0)] underlying105 fp J J J J (List.Perm.of_eq J) (ct (k:=1) (α:=Ba×Int) (kf:=Prod.fst) (vf:=vI) (nh,3) [(nh,3),(ff,2),(fo,1),(j9,0)] underlying105 fp J J J J (List.Perm.of_eq J) (ct (k:=1) (α:=Ba×Int) (kf:=Prod.fst) (vf:=vI) (na,3) [(na,3),(nh,3),(ff,2),(fo,1),(j9,0)] underlying105 fp J J J J (List.Perm.of_eq J) (ct (k:=1) (α:=Ba×Int) (kf:=Prod.fst) (vf:=vI) (lU,4) [(lU,4),(na,3),(nh,3),(ff,2),(fo,1),(j9,0)] underlying105 fp J J J J (List.Perm.of_eq J) (ct (k:=1) (α:=Ba×Int) (kf:=Prod.fst) (vf:=vI) (nf,4) [(nf,4),(lU,4),(na,3),(nh,3),(ff,2),(fo,1),(j9,0)] underlying105 fp J J J J (List.Perm.of_eq J) (ct (k:=1) (α:=Ba×Int) (kf:=Prod.fst) (vf:=vI) (ng,4) [(ng,4),(nf,4),(lU,4),(na,3),(nh,3),(ff,2),(fo,1),(j9,0)] underlying105 fp J J J J (List.Perm.of_eq J) (ct (k:=1) (α:=Ba×Int) (kf:=Prod.fst) (vf:=vI) (n8,4) [(n8,4),(ng,4),(nf,4),(lU,4),(na,3),(nh,3),(ff,2),(fo,1),(j9,0)] underlying105 fp J J J J (List.Perm.of_eq J) (ct (k:=1) (α:=Ba×Int) (kf:=Prod.fst) (vf:=vI) (gw,5) [(gw,5),(n8,4),(ng,4),(nf,4),(lU,4),(na,3),(nh,3),(ff,2),(fo,1),(j9,0)] underlying105 fp J J J J (List.Perm.of_eq J) (ct (k:=1) (α:=Ba×Int) (kf:=Prod.fst) (vf:=vI) (gU,5) [(gU,5),(gw,5),(n8,4),(ng,4),(nf,4),(lU,4),(na,3),(nh,3),(ff,2),(fo,1),(j9,0)] underlying105 fp J J J J (List.Perm.of_eq J) (ct (k:=1) (α:=Ba×Int) (kf:=Prod.fst) (vf:=vI) (fU,6) [(fU,6),(gU,5),(gw,5),(n8,4),(ng,4),(nf,4),(lU,4),(na,3),(nh,3),(ff,2),(fo,1),(j9,0)] underlying105 fp J J J J (List.Perm.of_eq J) ?_))))))))))))))
 refine ct (k:=1) (α:=Ba×Int) (kf:=Prod.fst) (vf:=vI) (dR,6) [(dR,6),(fU,6),(gU,5),(gw,5),(n8,4),(ng,4),(nf,4),(lU,4),(na,3),(nh,3),(ff,2),(fo,1),(j9,0)] underlying105 fp J J J J (List.Perm.of_eq J) (ct (k:=1) (α:=Ba×Int) (kf:=Prod.fst) (vf:=vI) (gB,7) [(gB,7),(dR,6),(fU,6),(gU,5),(gw,5),(n8,4),(ng,4),(nf,4),(lU,4),(na,3),(nh,3),(ff,2),(fo,1),(j9,0)] underlying105 fp J J J J (List.Perm.of_eq J) (ct (k:=1) (α:=Ba×Int) (kf:=Prod.fst) (vf:=vI) (kA,7) [(kA,7),(gB,7),(dR,6),(fU,6),(gU,5),(gw,5),(n8,4),(ng,4),(nf,4),(lU,4),(na,3),(nh,3),(ff,2),(fo,1),(j9,0)] underlying105 fp J J J J (List.Perm.of_eq J) (ct (k:=1) (α:=Ba×Int) (kf:=Prod.fst) (vf:=vI) (lg,7) [(lg,7),(kA,7),(gB,7),(dR,6),(fU,6),(gU,5),(gw,5),(n8,4),(ng,4),(nf,4),(lU,4),(na,3),(nh,3),(ff,2),(fo,1),(j9,0)] underlying105 fp J J J J (List.Perm.of_eq J) (ad J (ak J (aa (ax (aH b1 O J (bQ (aL J)) J [1] [] J J J))))))))
theorem Fb(v:SV)(l:List Tx)(ih:∀u∈l,Spec prog 188 [xV u] [] [ce u.v u.kids] (X:=Unit) (fun _=>True) (fun _=> .bool (rX u)) (fun _=> []) (fun _=> []))(u:Tx)(hu:u∈l):
  bi prog 202 [xV u] [] [ce v l] (.bool (!rX u)) []:=by
 refine aI func202 J ntmps202 J fun w0 M H=>aZ 0 7 J (dD hu) (ap (ck J J fun b1=>ak J (aF J (aP (aM cl J J J (aX (k:=1) J)) (aj (xs:= [.tmp 3]) (ih u hu) Lk [] [(false,7)] [] (fun _ _=>aP (cz J) (ak J (aa (ax (aH () O J (bQ (aL J)) J [] [] J J J))))))))))
theorem Fa(v:SV)(l:List Tx)(ih:∀u∈l,Spec prog 188 [xV u] [] [ce u.v u.kids] (X:=Unit) (fun _=>True) (fun _=> .bool (rX u)) (fun _=> []) (fun _=> []))(u:Tx)(hu:u∈l):
  bi prog 187 [xV u] [] [ce v l] (.bool (!rX u)) []:=by
 refine aI func187 J ntmps187 J fun w0 M H=>aZ 0 7 J (dD hu) (ap (ck J J fun b1=>ak J (aF J (aP (aM cl J J J (aX (k:=1) J)) (aj (xs:= [.tmp 3]) (ih u hu) Lk [] [(false,7)] [] (fun _ _=>aP (cz J) (ak J (aa (ax (aH () O J (bQ (aL J)) J [] [] J J J))))))))))
theorem IH(t:Tx)(ht:GX t)(ih:∀u∈t.kids,Spec prog 188 [xV u] [] [ce u.v u.kids] (X:=Unit) (fun _=>True) (fun _=> .bool (rX u)) (fun _=> []) (fun _=> [])):
  bi prog 188 [xV t] [] [ce t.v t.kids] (.bool (rX t)) []:=by
 refine aI func188 J ntmps188 J fun w0 M H=>aZ 0 1 J gd ?_
 have hnm:=Kq ht;have hkl:=mC ht;refine ap (ck J J fun b1=>ak J (aF J (ak J (aa (a_ (Bx [0,1,2,3,4,5,6,7,8] [0,1,2,3,4,5,7,6,8] [7,8,9,10,6,11,12,4,5] _ J J J (aW (V:= [(1,8,_),(2,9,_)]) [1,2] 0 [0] [3,4,5,6,7,8] (fun bm=> [(3,10,_),(4,6,_),(5,11,_),(6,12,_),(7,4,_),(8,5,_)]) J J (ac J (ag dI J) (ac J (ah t9 J J (ay (k:=1) J J)) av)) J J J J J J J J J J J (fun _ _=>J) J (jx (xs:= []) yf Qv [] [] [60] [] J J J J J J J J (fun _ _=>J) (fun _ _ _=>J)) (fun bm _=>bl [3,4,5,6,7,8,1,2] J J (ac J (ow underlying105 fp t3 J J (Gd (k:=60) J) J) (aD J J (ac J (cG J J) (ac J (cG J J) (ac J (cA J) (ac J (cA J) (ac J (ag dI J) (ac J (ah t9 J J (ay (k:=1) J J)) av)))))))) J J J (bx (X:=Unit) (fun _=>True) (fun _=> [(1,Pt b1),(3,.bool (nZ t.kind t.name t.kids.length))]) (fun _=> [(1,bh b1 61 (dT t))]) (fun _=> [(0,ce t.v t.kids),(1,sl 4 dT (sv t.v) t.kids)]) ?_ (fun _ _=> ?_))))))))))
 ·refine ap (aC jQ J (aQ 1 t3 J J J J (aa (aB (aT (aw J J bn (ak J (aa (ai J (fun h1=> ?_) (fun h1=> ?_))))))))))
  ·have q1:t.kind=1:=bW h1;refine az (ai J (fun h2=> ?_) (fun h2=> ?_))
   ·(try simp only [bj]at h2);refine am (aC dI J (aQ 1 t9 J J J J (aw J J cW (ad J (aG [] J J O (fun hg3=>ag dx J) J (aG [(22,_)] J J ⟨J,O⟩ (fun hg4=>ah jh J J (ay (k:=1) J J)) J (aG [(22,_),(23,_)] J J ⟨J,J,O⟩ (fun hg5=>aS underlying59 J (aK (k:=1) J)) J (aG [(22,_),(23,_),(24,_)] J J ⟨J,J,J,O⟩ (fun hg6=>aR J J bn) J (aP (bH J J J) (ak J (aa (aJ () O (by rw [BK (.inl q1)];rfl) J J))))))))))))
   ·exact absurd (decide_eq_true q1) (by rw [h2];simp)
  ·have q1:¬t.kind=1:=cg h1;refine am (aw J J bn (ak J (aa (ai J (fun h7=> ?_) (fun h7=> ?_)))))
   ·have q5:t.kind=5:=bW h7;refine am (aC dI J (aQ 1 t9 J J J J (aw J J cW (ad J (aG [] J J O (fun hg8=>ag dx J) J (aG [(22,_)] J J ⟨J,O⟩ (fun hg9=>ah jh J J (ay (k:=1) J J)) J (aG [(22,_),(23,_)] J J ⟨J,J,O⟩ (fun hg10=>aS underlying59 J (aK (k:=1) J)) J (aG [(22,_),(23,_),(24,_)] J J ⟨J,J,J,O⟩ (fun hg11=>aR J J bn) J (aP (bH J J J) (ak J (aa (aJ () O (by rw [BK (.inr q5)];rfl) J J))))))))))))
   ·have q5:¬t.kind=5:=cg h7;refine ap (aw J J bn (ak J (aa (ai J (fun h12=> ?_) (fun h12=> ?_)))))
    ·have q2:t.kind=2:=bW h12;refine am (aC dI J (aQ 1 t9 J J J J (aj (xs:= [.tmp 30]) (jM t.name hnm.1 hnm.2) yU [] [] [] (fun _ _=>ad J (aG [] J J O (fun hg13=>ag dx J) J (aG [(33,_)] J J ⟨J,O⟩ (fun hg14=>ah jh J J (ay (k:=1) J J)) J (aG [(33,_),(34,_)] J J ⟨J,J,O⟩ (fun hg15=>aS underlying59 J (aK (k:=1) J)) J (aG [(33,_),(34,_),(35,_)] J J ⟨J,J,J,O⟩ (fun hg16=>aR J J bn) J (aP (bH J J J) (ak J (aa (aJ () O (by rw [KT q2];rfl) J J))))))))))))
    ·have q2:¬t.kind=2:=cg h12;refine ap (aw J J bn (ak J (aa (ai J (fun h17=> ?_) (fun h17=> ?_)))))
     ·have q3:t.kind=3:=bW h17;refine am (aC dI J (aQ 1 t9 J J J J (aj (xs:= [.tmp 41]) (jM t.name hnm.1 hnm.2) yU [] [] [] (fun _ _=>ak J (aa (aJ () O (by rw [KS q3];rfl) J J))))))
     ·have q3:¬t.kind=3:=cg h17;refine ap (aw J J bn (ak J (aa (ai J (fun h18=> ?_) (fun h18=> ?_)))))
      ·have q4:t.kind=4:=bW h18;refine am (aC dI J (aQ 1 t9 J J J J (aw J J cW (ad J (aG [] J J O (fun hg19=>ag dx J) J (aG [(49,_)] J J ⟨J,O⟩ (fun hg20=>ah jh J J (ay (k:=1) J J)) J (aG [(49,_),(50,_)] J J ⟨J,J,O⟩ (fun hg21=>aS underlying59 J (aK (k:=1) J)) J (aG [(49,_),(50,_),(51,_)] J J ⟨J,J,J,O⟩ (fun hg22=>aR J J bn) J (aP (bH J J J) (ak J (aa (aJ () O (by rw [KQ q4];rfl) J J))))))))))))
      ·have q4:¬t.kind=4:=cg h18;refine ap (aw J J bn (ak J (aa (ai J (fun h23=> ?_) (fun h23=> ?_)))))
       ·have q6:t.kind=6:=bW h23;refine am (dv eS tQ (parts:= [(0,.const (Sg (ByteArray.mk #[45]))),(1,.const (Sg (ByteArray.mk #[126]))),(2,.const (Sg (ByteArray.mk #[33])))]) underlying46 t9 J (by decide) (by intro _;rfl) J (by decide) (by decide) J J J J fun v56=>aC dI J (aQ 1 t9 J J J J (cQ 56 21 J bO (aj (xs:= [.tmp 56,.tmp 58]) (iT v56 tQ (by decide) t.name) CK [] [(false,21)] [] (fun _ _=>ad J (aG [] J J O (fun hg24=>ag dx J) J (aG [(61,_)] J J ⟨J,O⟩ (fun hg25=>ah jh J J (ay (k:=1) J J)) J (aG [(61,_),(62,_)] J J ⟨J,J,O⟩ (fun hg26=>aS underlying59 J (aK (k:=1) J)) J (aG [(61,_),(62,_),(63,_)] J J ⟨J,J,J,O⟩ (fun hg27=>aR J J bn) J (aP (bH J J J) (ak J (aa (aJ () O (by rw [KP q6];rfl) J J)))))))))))))
       ·have q6:¬t.kind=6:=cg h23;refine ap (aw J J bn (ak J (aa (ai J (fun h28=> ?_) (fun h28=> ?_)))))
        ·have q7:t.kind=7:=bW h28;refine am (ad J (ad J (aG [] J J O (fun hg29=>ag dx J) J (aG [(70,_)] J J ⟨J,O⟩ (fun hg30=>ah jh J J (ay (k:=1) J J)) J (aG [(70,_),(71,_)] J J ⟨J,J,O⟩ (fun hg31=>aS underlying59 J (aK (k:=1) J)) J (aG [(70,_),(71,_),(72,_)] J J ⟨J,J,J,O⟩ (fun hg32=>aR J J bn) J (aP (bH J J J) (ak J (aa (aJ () O (by rw [KO q7];rfl) J J))))))))))
        ·have q7:¬t.kind=7:=cg h28;refine az (aJ () O (by rw [KU q1 q5 q2 q3 q4 q6 q7];rfl) J J)
 ·refine ap (ad J (ad J (aG [] J J O (fun hg33=>ag jQ J) J (aG [(77,_)] J J ⟨J,O⟩ (fun hg34=>ah t3 J J (ay (k:=1) J J)) J (aG [(77,_),(78,_)] J J ⟨J,J,O⟩ (fun hg35=>aR J J bn) J (aG [(77,_),(78,_),(79,_)] J J ⟨J,J,J,O⟩ (fun hg36=>bc J) J (cD [] [(77,_),(78,_),(79,_),(80,_)] J J O ⟨J,J,J,J,O⟩ (fun hg37 hg37'=>ag wP J) J (cD [(81,_)] [(77,_),(78,_),(79,_),(80,_)] J J ⟨J,O⟩ ⟨J,J,J,J,O⟩ (fun hg38 hg38'=>ah dm J J (ay (k:=1) J J)) J (cD [(81,_),(82,_)] [(77,_),(78,_),(79,_),(80,_)] J J ⟨J,J,O⟩ ⟨J,J,J,J,O⟩ (fun hg39 hg39'=>aR J J bn) J (aG [(77,_),(78,_),(79,_),(80,_)] J J ⟨J,J,J,J,O⟩ (fun hg40=>eL J J J (by first|exact dL|exact ef|exact dc hg40|exact dA hg40|rfl)) J (aP (bH J J J) (ad J (aG [] J J O (fun hg41=>ag dx J) J (aG [(87,_)] J J ⟨J,O⟩ (fun hg42=>ah jh J J (ay (k:=1) J J)) J (jm [(87,_),(88,_)] J J ⟨J,J,O⟩ (fun hg43=>jx (xs:= [.tmp 88,.func 202]) (vq t.v t.kids hkl 202 [] (ce t.v t.kids) (fun u=> !rX u) Qu (fun u hu=>Fb t.v t.kids ih u hu)) Ll [] [(false,1),(false,0)] [] [] J J J J J J J J (fun _ _=>J) (fun _ _ _=>J)) J (aG [(87,_),(88,_),(89,_)] J J ⟨J,J,J,O⟩ (fun hg44=>cz J) J (aP (bH J J J) (ak J ?_))))))))))))))))));refine aa (ax (aH () O J (bQ (aL J)) (congrArg Value.bool (BA t).symm) [] [] J J J))
theorem E8:∀(n:Nat)(t:Tx),SizeOf.sizeOf t<n→GX t→bi prog 188 [xV t] [] [ce t.v t.kids] (.bool (rX t)) []
 | 0,_,h,_=>absurd h (Nat.not_lt_zero _)
 | n+1,t,h,ht=>IH t ht fun u hu=>E8 n u (by have:=qy hu;omega) ((kx ht).mem u hu)
theorem II(t:Tx)(ht:GX t):bi prog 188 [xV t] [] [ce t.v t.kids] (.bool (rX t)) []:=E8 _ t (Nat.lt_succ_self _) ht
theorem O6(t:Ty):rY t=(decide (t.kind≥1)&&decide (t.kind≤8)&&decide ((t.es.length:Int)=if t.kind=3 then 2 else 1)&&((decide (t.kind=1) || decide (t.kind=2))&&bS t.name || !(decide (t.kind=1) || decide (t.kind=2))&&(t.name==⟨#[]⟩))&&
   (decide ((if t.kind=4 then 2 else if t.kind=5 then 1 else 0:Int)>0) || decide ((t.body.length:Int)=0))&&(decide ((if t.kind=4 then 2 else if t.kind=5 then 1 else 0:Int)>1) || decide ((t.els.length:Int)=0))&& !(t.es.any fun u=> !rX u)&&t.body.all rY&&t.els.all rY):=by
 rw [ik];have e1:decide ((t.es.length:Int)=if t.kind=3 then 2 else 1)=decide (t.es.length=if t.kind=3 then 2 else 1):=decide_eq_decide.2 (by split<;>omega);have e2:((decide (t.kind=1) || decide (t.kind=2))&&bS t.name || !(decide (t.kind=1) || decide (t.kind=2))&&(t.name==⟨#[]⟩))=(if t.kind=1∨t.kind=2 then bS t.name else decide (t.name=oNil)):=by
  rw [cq];by_cases h:t.kind=1∨t.kind=2
  ·rw [ar h];have:(decide (t.kind=1) || decide (t.kind=2))=true:=by simpa using h
   rw [this];simp
  ·rw [ae h];have:(decide (t.kind=1) || decide (t.kind=2))=false:=by simpa using h
   rw [this];simp only [Bool.false_and,Bool.not_false,Bool.true_and,Bool.false_or];rfl
 have e3:(decide ((if t.kind=4 then 2 else if t.kind=5 then 1 else 0:Int)>0) || decide ((t.body.length:Int)=0))=(decide (t.kind=4) || decide (t.kind=5) || decide (t.body.length=0)):=by
  rw [show decide ((t.body.length:Int)=0)=decide (t.body.length=0)from decide_eq_decide.2 (by omega)]
  congr 1
  by_cases h4:t.kind=4
  ·simp [h4]
  ·by_cases h5:t.kind=5
   ·simp [h5]
   ·simp [h4,h5]
 have e4:(decide ((if t.kind=4 then 2 else if t.kind=5 then 1 else 0:Int)>1) || decide ((t.els.length:Int)=0))=(decide (t.kind=4) || decide (t.els.length=0)):=by
  rw [show decide ((t.els.length:Int)=0)=decide (t.els.length=0)from decide_eq_decide.2 (by omega)]
  congr 1
  by_cases h4:t.kind=4
  ·simp [h4]
  ·by_cases h5:t.kind=5
   ·simp [h5]
   ·simp [h4,h5]
 rw [e1,e2,e3,e4];cases t;rw [rY,ri,hZ,hZ];rfl
theorem O9(f:Tf):(f.ps.any (fun s=> !bS s) || !bS f.name || !(f.body.all rY))= !rF f:=by
 unfold rF;rw [hZ,←ik bS f.ps];cases f.ps.any (fun s=> !bS s)<;>cases bS f.name<;>cases f.body.all rY<;>rfl
theorem Ip{v:SV}{l:List Tf}:∀w G,(cx v l).pred w G→(∀b,G b→b<w.heap.size)→∃G',(J1 l).pred w G'∧∀b,G' b→G b:=fun w G h _=>⟨G,h.2,fun _ hb=>hb⟩
theorem E7(v:SV)(l:List Ty)(ih:∀u∈l,Spec prog 163 [yV u] [] [ce u.ve u.es,bV u.vb u.body,bV u.vl u.els] (X:=Unit) (fun _=>True) (fun _=> .bool (rY u)) (fun _=> []) (fun _=> []))(u:Ty)(hu:u∈l):
  bi prog 162 [yV u] [] [bV v l] (.bool (!rY u)) []:=by
 refine aI func162 J ntmps162 J fun w0 M H=>aZ 0 7 J (kZ hu) (aZ 0 8 J (gS hu) (aZ 0 9 J (iO hu) (ap (ck J J fun b1=>ak J (aF J (aP (aM dK J J J (aX (k:=1) J)) (aj (xs:= [.tmp 3]) (ih u hu) QL [] [(false,7),(false,8),(false,9)] [] (fun _ _=>aP (cz J) (ak J (aa (ax (aH () O J (bQ (aL J)) J [] [] J J J))))))))))))
theorem pT(v:SV)(l:List Ty)(hl:l.length≤1000000)(ih:∀u∈l,Spec prog 163 [yV u] [] [ce u.ve u.es,bV u.vb u.body,bV u.vl u.els] (X:=Unit) (fun _=>True) (fun _=> .bool (rY u)) (fun _=> []) (fun _=> [])):
  bi prog 123 [sv v] [] [bV v l] (.bool (l.all rY)) []:=by
 refine aI func123 J ntmps123 J fun w0 M H=>aZ 0 1 J ic (ap (ak J (aF J (ad J (aj (xs:= [.tmp 3,.func 162]) (DZ v l hl 162 [] (bV v l) (fun u=> !rY u) QM (fun u hu=>E7 v l ih u hu)) QN [] [(false,1),(false,0)] [] (fun _ _=>aP (cz J) (ak J (aa (ax (aH () O J (bQ (aL J)) (congrArg Value.bool (ik rY l)) [] [] J J J))))))))))
theorem IF(t:Ty)(ht:GY t)(ihb:∀u∈t.body,Spec prog 163 [yV u] [] [ce u.ve u.es,bV u.vb u.body,bV u.vl u.els] (X:=Unit) (fun _=>True) (fun _=> .bool (rY u)) (fun _=> []) (fun _=> []))(ihl:∀u∈t.els,Spec prog 163 [yV u] [] [ce u.ve u.es,bV u.vb u.body,bV u.vl u.els] (X:=Unit) (fun _=>True) (fun _=> .bool (rY u)) (fun _=> []) (fun _=> [])):
  bi prog 163 [yV t] [] [ce t.ve t.es,bV t.vb t.body,bV t.vl t.els] (.bool (rY t)) []:=by
 refine aI func163 J ntmps163 J fun w0 M H=>aZ 0 3 J gd (aZ 1 4 J ic (aZ 2 5 J ic ?_))
 have hnm:=Ko ht;obtain⟨hel,heg⟩:=pn ht;obtain⟨hbl,hbg⟩:=eW ht;obtain⟨hll,hlg⟩:=gk ht;refine ap (ck J J fun b1=>ak J (aF J (aC eM J (aQ 1 t3 J J J J (aw J J bn (ad J (aG [] J J O (fun hg1=>ag eM J) J (aG [(10,_)] J J ⟨J,O⟩ (fun hg2=>ah t3 J J (ay (k:=1) J J)) J (aG [(10,_),(11,_)] J J ⟨J,J,O⟩ (fun hg3=>aR J J bn) J (aP (bH J J J) (ak J (aF J (ak J ?_)))))))))))));refine aa (bx (X:=Unit) (fun _=>True) (fun _=> [(1,Pt b1),(3,.bool (decide (t.kind=1) || decide (t.kind=2))),(4,I6 (if t.kind=3 then 2 else 1))]) (fun _=> [(1,bh b1 64 (eE t))]) (fun _=> [(0,ce t.ve t.es),(1,bV t.vb t.body),(2,bV t.vl t.els),(3,sl 4 dT (sv t.ve) t.es),(4,sl 5 eE (sv t.vb) t.body),(5,sl 5 eE (sv t.vl) t.els)]) ?_ (fun _ _=> ?_))
 ·refine ap (aC eM J (aQ 1 t3 J J J J (aw J J bn (aa (ai J (fun h4=> ?_) (fun h4=> ?_))))))
  ·have q3:t.kind=3:=bW h4;refine am (ak J (aa (aJ () O (by rw [ar q3];rfl) J J)))
  ·have q3:¬t.kind=3:=cg h4;refine az (aJ () O (by rw [ae q3];rfl) J J)
 ·refine ap (ak J (aa (bx (X:=Unit) (fun _=>True) (fun _=> [(1,Pt b1),(3,.bool (decide (t.kind=1) || decide (t.kind=2))),(4,I6 (if t.kind=3 then 2 else 1)),(5,I6 (if t.kind=4 then 2 else if t.kind=5 then 1 else 0))]) (fun _=> [(1,bh b1 64 (eE t))]) (fun _=> [(0,ce t.ve t.es),(1,bV t.vb t.body),(2,bV t.vl t.els),(3,sl 4 dT (sv t.ve) t.es),(4,sl 5 eE (sv t.vb) t.body),(5,sl 5 eE (sv t.vl) t.els)]) ?_ (fun _ _=> ?_))))
  ·refine ap (aC eM J (aQ 1 t3 J J J J (aa (aB (ap (aw J J bn (ak J (aa (ai J (fun h5=> ?_) (fun h5=> ?_))))))))))
   ·have q4:t.kind=4:=bW h5;refine am (ak J (aa (aJ () O (by rw [ar q4];rfl) J J)))
   ·have q4:¬t.kind=4:=cg h5;refine ap (aw J J bn (ak J (aa (ai J (fun h6=> ?_) (fun h6=> ?_)))))
    ·have q5:t.kind=5:=bW h6;refine am (ak J (aa (aJ () O (by rw [ae q4,ar q5];rfl) J J)))
    ·have q5:¬t.kind=5:=cg h6;refine az (aJ () O (by rw [ae q4,ae q5];rfl) J J)
  ·refine ap (aC eM J (aQ 1 t3 J J J J (aw J J gI (ad J (aG [] J J O (fun hg7=>ag eM J) J (aG [(27,_)] J J ⟨J,O⟩ (fun hg8=>ah t3 J J (ay (k:=1) J J)) J (aG [(27,_),(28,_)] J J ⟨J,J,O⟩ (fun hg9=>aR J J lR) J (aP (bH J J J) (ad J (aG [] J J O (fun hg10=>ag gj J) J (aG [(32,_)] J J ⟨J,O⟩ (fun hg11=>ah jh J J (ay (k:=1) J J)) J (aG [(32,_),(33,_)] J J ⟨J,J,O⟩ (fun hg12=>aS underlying59 J (aK (k:=3) J)) J (aG [(32,_),(33,_),(34,_)] J J ⟨J,J,J,O⟩ (fun hg13=>bc J) J (aG [(32,_),(33,_),(34,_),(35,_)] J J ⟨J,J,J,J,O⟩ (fun hg14=>aR J J bn) J (aP (bH J J J) (ad J (aG [] J J O (fun hg15=>bc J) J (aG [(39,_)] J J ⟨J,O⟩ (fun hg16=>bc J) J ?_))))))))))))))))))
   refine cD [] [(39,_),(40,_)] J J O ⟨J,J,O⟩ (fun hg17 hg17'=>ag iK J) J (cD [(41,_)] [(39,_),(40,_)] J J ⟨J,O⟩ ⟨J,J,O⟩ (fun hg18 hg18'=>ah t9 J J (ay (k:=1) J J)) J (Fj [(41,_),(42,_)] [(39,_),(40,_)] J J ⟨J,J,O⟩ ⟨J,J,O⟩ (fun hg19 hg19'=>jx (xs:= [.tmp 42]) (jM t.name hnm.1 hnm.2) yU [] [] [] [] J J J J J J J J (fun _ _=>J) (fun _ _ _=>J)) J (aG [(39,_),(40,_)] J J ⟨J,J,O⟩ (fun hg20=>eL J J J (by first|exact dL|exact ef|exact dc hg20|exact dA hg20|rfl)) J (aG [(39,_),(40,_),(44,_)] J J ⟨J,J,J,O⟩ (fun hg21=>bc J) J (cD [] [(39,_),(40,_),(44,_),(45,_)] J J O ⟨J,J,J,J,O⟩ (fun hg22 hg22'=>bc J) J (cD [(46,_)] [(39,_),(40,_),(44,_),(45,_)] J J ⟨J,O⟩ ⟨J,J,J,J,O⟩ (fun hg23 hg23'=>cz J) J (cD [(46,_),(47,_)] [(39,_),(40,_),(44,_),(45,_)] J J ⟨J,J,O⟩ ⟨J,J,J,J,O⟩ (fun hg24 hg24'=>bc J) J (cD [] [(46,_),(47,_),(48,_)] J J O ⟨J,J,J,O⟩ (fun hg25 hg25'=>ag iK J) J (cD [(49,_)] [(46,_),(47,_),(48,_)] J J ⟨J,O⟩ ⟨J,J,J,O⟩ (fun hg26 hg26'=>ah t9 J J (ay (k:=1) J J)) J (cD [(49,_),(50,_)] [(46,_),(47,_),(48,_)] J J ⟨J,J,O⟩ ⟨J,J,J,O⟩ (fun hg27 hg27'=>aR J J cW) J (cD [(46,_),(47,_),(48,_)] [(39,_),(40,_),(44,_),(45,_)] J J ⟨J,J,J,O⟩ ⟨J,J,J,J,O⟩ (fun hg28 hg28'=>eL J J J (by first|exact dL|exact ef|exact dc hg28|exact dA hg28|exact dc (CU hg28 hg28')|exact dA (CU hg28 hg28')|rfl)) J (aG [(39,_),(40,_),(44,_),(45,_)] J J ⟨J,J,J,J,O⟩ (fun hg29=>eL J J J (by first|exact dL|exact ef|exact dc hg29|exact dA hg29|rfl)) J (aP (bH J J J) (ad J (aG [] J J O (fun hg30=>bc J) J (aG [(56,_)] J J ⟨J,O⟩ (fun hg31=>aR J J ec) J (aG [(56,_),(57,_)] J J ⟨J,J,O⟩ (fun hg32=>bc J) J ?_)))))))))))))))))
   refine cD [] [(56,_),(57,_),(58,_)] J J O ⟨J,J,J,O⟩ (fun hg33 hg33'=>ag ft J) J (cD [(59,_)] [(56,_),(57,_),(58,_)] J J ⟨J,O⟩ ⟨J,J,J,O⟩ (fun hg34 hg34'=>ah iP J J (ay (k:=1) J J)) J (cD [(59,_),(60,_)] [(56,_),(57,_),(58,_)] J J ⟨J,J,O⟩ ⟨J,J,J,O⟩ (fun hg35 hg35'=>aS underlying62 J (aK (k:=4) J)) J (cD [(59,_),(60,_),(61,_)] [(56,_),(57,_),(58,_)] J J ⟨J,J,J,O⟩ ⟨J,J,J,O⟩ (fun hg36 hg36'=>aR J J bn) J (aG [(56,_),(57,_),(58,_)] J J ⟨J,J,J,O⟩ (fun hg37=>eL J J J (by first|exact dL|exact ef|exact dc hg37|exact dA hg37|rfl)) J (aP (bH J J J) (ad J (aG [] J J O (fun hg38=>bc J) J (aG [(66,_)] J J ⟨J,O⟩ (fun hg39=>aR J J ec) J (aG [(66,_),(67,_)] J J ⟨J,J,O⟩ (fun hg40=>bc J) J (cD [] [(66,_),(67,_),(68,_)] J J O ⟨J,J,J,O⟩ (fun hg41 hg41'=>ag fq J) J (cD [(69,_)] [(66,_),(67,_),(68,_)] J J ⟨J,O⟩ ⟨J,J,J,O⟩ (fun hg42 hg42'=>ah iP J J (ay (k:=1) J J)) J (cD [(69,_),(70,_)] [(66,_),(67,_),(68,_)] J J ⟨J,J,O⟩ ⟨J,J,J,O⟩ (fun hg43 hg43'=>aS underlying62 J (aK (k:=5) J)) J (cD [(69,_),(70,_),(71,_)] [(66,_),(67,_),(68,_)] J J ⟨J,J,J,O⟩ ⟨J,J,J,O⟩ (fun hg44 hg44'=>aR J J bn) J (aG [(66,_),(67,_),(68,_)] J J ⟨J,J,J,O⟩ (fun hg45=>eL J J J (by first|exact dL|exact ef|exact dc hg45|exact dA hg45|rfl)) J (aP (bH J J J) (ad J (aG [] J J O (fun hg46=>ag gj J) J (aG [(76,_)] J J ⟨J,O⟩ (fun hg47=>ah jh J J (ay (k:=1) J J)) J (jm [(76,_),(77,_)] J J ⟨J,J,O⟩ (fun hg48=>jx (xs:= [.tmp 77,.func 187]) (vq t.ve t.es hel 187 [] (ce t.ve t.es) (fun u=> !rX u) Qz (fun u hu=>Fa t.ve t.es (fun u hu=>II u (heg.mem u hu)) u hu)) Ll [] [(false,3),(false,0)] [] [] J J J J J J J J (fun _ _=>J) (fun _ _ _=>J)) J ?_)))))))))))))))))))
   refine aG [(76,_),(77,_),(78,_)] J J ⟨J,J,J,O⟩ (fun hg49=>cz J) J (aP (bH J J J) (ad J (aG [] J J O (fun hg50=>ag ft J) J (aG [(82,_)] J J ⟨J,O⟩ (fun hg51=>ah iP J J (ay (k:=1) J J)) J (jm [(82,_),(83,_)] J J ⟨J,J,O⟩ (fun hg52=>jx (xs:= [.tmp 83]) (pT t.vb t.body hbl ihb) Ho [] [(false,1)] [] [] J J J J J J J J (fun _ _=>J) (fun _ _ _=>J)) J (aP (bH J J J) (ad J (aG [] J J O (fun hg53=>ag fq J) J (aG [(87,_)] J J ⟨J,O⟩ (fun hg54=>ah iP J J (ay (k:=1) J J)) J (jm [(87,_),(88,_)] J J ⟨J,J,O⟩ (fun hg55=>jx (xs:= [.tmp 88]) (pT t.vl t.els hll ihl) Ho [] [(false,2)] [] [] J J J J J J J J (fun _ _=>J) (fun _ _ _=>J)) J (aP (bH J J J) (ak J (aa (ax (aH () O J (bQ (aL J)) (congrArg Value.bool (O6 t).symm) [] [] J J J)))))))))))))))
theorem zI:∀(n:Nat)(t:Ty),SizeOf.sizeOf t<n→GY t→bi prog 163 [yV t] [] [ce t.ve t.es,bV t.vb t.body,bV t.vl t.els] (.bool (rY t)) []
 | 0,_,h,_=>absurd h (Nat.not_lt_zero _)
 | n+1,t,h,ht=>IF t ht (fun u hu=>zI n u (by have:=KB (.inl hu);omega) ((eW ht).2.mem u hu)) (fun u hu=>zI n u (by have:=KB (.inr hu);omega) ((gk ht).2.mem u hu))
theorem IG(t:Ty)(ht:GY t):bi prog 163 [yV t] [] [ce t.ve t.es,bV t.vb t.body,bV t.vl t.els] (.bool (rY t)) []:=zI _ t (Nat.lt_succ_self _) ht
theorem v_(s:Ba)(hs:tS s):
  bi prog 121 [Sg s] [] [] (.bool (!bS s)) []:=by
 refine aI func121 J ntmps121 J fun w0 M H=>ap (ak J (aF J (ad J (aj (xs:= [.tmp 3]) (jM s hs.1 hs.2) yU [] [] [] (fun _ _=>aP (cz J) (ak J (aa (ax (aH () O J (bQ (aL J)) J [] [] J J J)))))))))
theorem xQ(f:Tf)(fs:List Tf)(hf:f∈fs)(hg:GF f):
  bi prog 119 [Iq f] [] [J1 fs] (.bool (!rF f)) []:=by
 refine aI func119 J ntmps119 J fun w0 M H=>aZ 0 1 J (PY hf) (aZ 1 2 J ma (aZ 1 3 J k8 ?_))
 obtain⟨g1,g2,g3,g4,g5,g6⟩:=hg;refine ap (ck J J fun b1=>ak J (aF J (aC d6 J (aQ 1 gO J J J J (aj (xs:= [.tmp 5,.func 121]) (D0 f.vp f.ps g3 121 (fun s=> !bS s) Q8 (fun s hs=>v_ s (g2 s hs))) Q9 [] [(false,2)] [] (fun _ _=>ak J (aF J (ad J (ad J (aG [] J J O (fun hg1=>ag kC J) J (aG [(9,_)] J J ⟨J,O⟩ (fun hg2=>ah t9 J J (ay (k:=1) J J)) J (jm [(9,_),(10,_)] J J ⟨J,J,O⟩ (fun hg3=>jx (xs:= [.tmp 10]) (jM f.name g1.1 g1.2) yU [] [] [] [] J J J J J J J J (fun _ _=>J) (fun _ _ _=>J)) J (aG [(9,_),(10,_),(11,_)] J J ⟨J,J,J,O⟩ (fun hg4=>cz J) J ?_)))))))))))));refine aP (bH J J J) (ad J (aG [] J J O (fun hg5=>ag jl J) J (aG [(15,_)] J J ⟨J,O⟩ (fun hg6=>ah iP J J (ay (k:=1) J J)) J (jm [(15,_),(16,_)] J J ⟨J,J,O⟩ (fun hg7=>jx (xs:= [.tmp 16]) (pT f.vb f.body g4 (fun u hu=>IG u (g5.mem u hu))) Ho [] [(false,3)] [] [] J J J J J J J J (fun _ _=>J) (fun _ _ _=>J)) J (aG [(15,_),(16,_),(17,_)] J J ⟨J,J,J,O⟩ (fun hg8=>cz J) J (aP (bH J J J) (ak J (aa (ax (aH () O J (bQ (aL J)) (congrArg Value.bool (O9 f)) [] [] J J J))))))))))
theorem zN(vp:SV)(fs:List Tf)(hg:GP fs):
  bi prog 81 [.agg #[sv vp]] [] [cx vp fs] (.bool (rP fs)) []:=by
 refine aI func81 J ntmps81 J fun w0 M H=>aZ 0 1 J jG (aZ 0 2 J Ip (ap (ck J J fun b1=>ak J (aF J (aC dJ J (aQ 1 iB J J J J (aj (xs:= [.tmp 4,.func 119]) (D1 vp fs hg.1 119 [] (J1 fs) (fun f=> !rF f) Q_ (fun f hf=>xQ f fs hf (hg.2 f hf))) Ra [] [(false,1),(false,2)] [] (fun _ _=>aP (cz J) (ak J (aa (ax (aH () O J (bQ (aL J)) (congrArg Value.bool (ik rF fs)) [] [] J J J))))))))))))
def cR(vp vn:SV)(nd va:Int)(dp:Bool)(er:Int):List Value:= [sv vp,sv vn,I6 nd,I6 va,.bool dp,I6 er]
theorem cj{α:Type}{l:List α}{i:Nat}{k:α}(h:l[i]?=some k):l.take (i+1)=l.take i++ [k]:=by
 obtain⟨hi,hk⟩:=cJ.1 h;rw [List.take_add_one,bN hi,hk];rfl
theorem wv:∀(a b:List Tx),dW (a++b)=dW a+dW b
 | [],b=>by simp [dW]
 | t::r,b=>by simp [dW,wv r b,Nat.add_assoc]
theorem CE:∀(a b:List Tx),f_ (a++b)=max (f_ a) (f_ b)
 | [],b=>by simp [f_]
 | t::r,b=>by simp [f_,CE r b,Nat.max_assoc]
theorem kg:∀(a b:List Ty),cB (a++b)=cB a+cB b
 | [],b=>by simp [cB]
 | t::r,b=>by simp [cB,kg r b,Nat.add_assoc]
theorem kc:∀(a b:List Ty),dg (a++b)=dg a+dg b
 | [],b=>by simp [dg]
 | t::r,b=>by simp [dg,kc r b,Nat.add_assoc]
theorem pg(d:Nat):∀(a b:List Ty),dC d (a++b)=(dC d a || dC d b)
 | [],b=>by simp [dC]
 | t::r,b=>by simp [dC,pg d r b,Bool.or_assoc]
theorem BP(t:Tx):dW [t]=nX t:=by simp [dW]
theorem J_(t:Tx):f_ [t]=dX t:=by simp [f_]
theorem Jc(t:Ty):cB [t]=nY t:=by simp [cB]
theorem Ie(t:Ty):dg [t]=vY t:=by simp [dg]
theorem G1(d:Nat)(t:Ty):dC d [t]=Eh d t:=by simp [dC]
theorem uO(t:Tx):nX t=dW t.kids+1:=by cases t;rfl
theorem P8(t:Tx):dX t=f_ t.kids+1:=by cases t;rfl
theorem FL(t:Ty):nY t=1+dW t.es+cB t.body+cB t.els:=by cases t;rfl
theorem EE(t:Ty):vY t=(if t.kind=1 then 1 else 0)+dg t.body+dg t.els:=by cases t;rfl
theorem NH(d:Nat)(t:Ty):Eh d t=(decide (d>8) || decide (f_ t.es>8) || dC (d+1) t.body || dC (d+1) t.els):=by cases t;rfl
theorem fg{l:List Tx}{i:Nat}{k:Tx}(h:l[i]?=some k):dW (l.take (i+1))=dW (l.take i)+nX k:=by rw [cj h,wv,BP]
theorem mA{l:List Tx}{i:Nat}{k:Tx}(h:l[i]?=some k):f_ (l.take (i+1))=max (f_ (l.take i)) (dX k):=by rw [cj h,CE,J_]
theorem mn:∀(l:List Tx)(i:Nat),dW (l.take i)≤dW l:=fun l i=>by
 have h:=wv (l.take i) (l.drop i);rw [List.take_append_drop]at h;omega
theorem nK:∀(l:List Ty)(i:Nat),cB (l.take i)≤cB l:=fun l i=>by
 have h:=kg (l.take i) (l.drop i);rw [List.take_append_drop]at h;omega
theorem iW{l:List Ty}{i:Nat}{k:Ty}(h:l[i]?=some k):cB (l.take (i+1))=cB (l.take i)+nY k:=by rw [cj h,kg,Jc]
theorem kI{l:List Ty}{i:Nat}{k:Ty}(h:l[i]?=some k):dg (l.take (i+1))=dg (l.take i)+vY k:=by rw [cj h,kc,Ie]
theorem DW{d:Nat}{l:List Ty}{i:Nat}{k:Ty}(h:l[i]?=some k):dC d (l.take (i+1))=(dC d (l.take i) || Eh d k):=by rw [cj h,pg,G1]
mutual
theorem yI:∀t:Tx,dX t≤nX t
 | .mk _ _ _ _ kids=>by
  have:=tz kids;rw [dX,nX];omega
theorem tz:∀l:List Tx,f_ l≤dW l
 | []=>bX _
 | t::r=>by
  have h1:=yI t;have h2:=tz r;rw [f_,dW];omega
end
mutual
theorem ED:∀t:Ty,vY t≤nY t
 | .mk k _ _ _ _ body _ els=>by
  have h1:=jd body;have h2:=jd els;rw [vY,nY];split<;>omega
theorem jd:∀l:List Ty,dg l≤cB l
 | []=>bX _
 | t::r=>by
  have h1:=ED t;have h2:=jd r;rw [dg,cB];omega
end
theorem Hs(a b:Nat):((max a b:Nat):Int)=max (a:Int) (b:Int):=by omega
theorem CD{a b:Nat}:(decide (a>8) || decide (b>8))=decide (max a b>8):=by
 by_cases h:a>8
 ·have:max a b>8:=by omega
  simp [h,this]
 ·by_cases h2:b>8
  ·have:max a b>8:=by omega
   simp [h2,this]
  ·have:¬max a b>8:=by omega
   simp [h,h2,this]
theorem jV(c:Nat)(vp vn:SV)(nd va:Int)(dp:Bool)(er:Int)(e:Int):
  bi prog 127 [Pt c,I6 e] [bh c 165 (cR vp vn nd va dp er)] [] (.tuple #[]) [bh c 165 (cR vp vn nd va dp (fst er e))]:=by
 refine aI func127 J ntmps127 J fun w0 M H=>ap (ad J (bI J (aC wT J (aQ 0 pr J J J J (aw J J bn (aa (ai J (fun h1=> ?_) (fun h1=> ?_))))))))
 ·have h0:er=0:=bW h1;have hfs:fst er e=e:=ar h0;refine am (ad J (ad J (bI J (aC wT J (aA (k:=0) pr J J J J J J J J (aa ?_))))));rw [hfs];refine cm () O J gn J [0] [] J J J
 ·have h0:¬er=0:=cg h1;have hfs:fst er e=er:=ae h0;refine az ?_;rw [hfs];refine cm () O J gn J [0] [] J J J
theorem Ns(er z:Int)(b:Bool)(h:b=true):fst er (if b=true then z else 0)=fst er z:=by rw [ar h]
theorem JK(er z:Int)(b:Bool)(h:b=false):fst er (if b=true then z else 0)=er:=by rw [ae (by rw [h];simp),cN]
theorem JL(er z:Int)(b:Bool)(h:b=true):fst er (if b=true then 0 else z)=er:=by rw [ar h,cN]
theorem GJ(er z:Int)(b:Bool)(h:b=false):fst er (if b=true then 0 else z)=fst er z:=by rw [ae (by rw [h];simp)]
theorem vh(c:Nat)(vp vn:SV)(nd va:Int)(dp:Bool)(er:Int)(ns:List Ba)(hn:ns.length≤1000000)(s:Ba):
  bi prog 165 [Pt c,Sg s] [bh c 165 (cR vp vn nd va dp er),own 9 1 eS (sv vn) ns] [] (.tuple #[]) [bh c 165 (cR vp vn nd va dp (fst er (if cn s ns=true then 0 else 21))),own 9 1 eS (sv vn) ns]:=by
 refine aI func165 J ntmps165 J fun w0 M H=>ap (ad J (bI J (aC oU J (aQ 0 gO J J J J (ad J (aj (xs:= [.tmp 7,.tmp 8]) (Spec.ro1 (iT vn ns (by omega) s) bO) CK [] [(true,1)] [] (fun _ _=>aP (cz J) (aa (ai J (fun h1=> ?_) (fun h1=> ?_))))))))))
 ·have h0:cn s ns=false:=by simpa using h1
  rw [GJ _ _ _ h0];refine am (ad J (aj (xs:= [.tmp 11,.const (I6 21)]) (jV c vp vn nd va dp er 21) yT [0] [] [0] (fun _ _=>aa (cm () O J gn J [0,1] [] J J J))))
 ·have h0:cn s ns=true:=by simpa using h1
  rw [JL _ _ _ h0];refine az (cm () O J gn J [0,1] [] J J J)
theorem tD(c:Nat)(vp vn:SV)(nd va:Int)(dp:Bool)(er:Int)(ns:List Ba)(hn:ns.length≤1000000)(s:Ba):
  Spec prog 128 [Pt c,Sg s] [bh c 165 (cR vp vn nd va dp er),own 9 1 eS (sv vn) ns] [] (X:=SV) (fun _=>True) (fun _=> .tuple #[]) (fun v=> [bh c 165 (cR vp v nd va dp (fst er (if cn s ns=true then 22 else 0))),own 9 1 eS (sv v) (ns++ [s])]) (fun _=> []):=by
 refine aI func128 J ntmps128 J fun w0 M H=>bx (X:=Unit) (fun _=>True) (fun _=> [(0,Pt c),(1,Sg s)]) (fun _=> [(0,bh c 165 (cR vp vn nd va dp (fst er (if cn s ns=true then 22 else 0)))),(1,own 9 1 eS (sv vn) ns)]) (fun _=> []) ?_ (fun _ _=> ?_)
 ·refine ap (ad J (bI J (aC oU J (aQ 0 gO J J J J (ad J (aj (xs:= [.tmp 7,.tmp 8]) (Spec.ro1 (iT vn ns (by omega) s) bO) CK [] [(true,1)] [] (fun _ _=>aa (ai J (fun h1=> ?_) (fun h1=> ?_)))))))))
  ·have h0:cn s ns=true:=h1;rw [Ns _ _ _ h0];refine am (ad J (aj (xs:= [.tmp 10,.const (I6 22)]) (jV c vp vn nd va dp er 22) yT [0] [] [0] (fun _ _=>aa (aJ () O J J J))))
  ·have h0:cn s ns=false:=h1;rw [JK _ _ _ h0];refine az (aJ () O J J J)
 ·refine am (ad J (ad J (bI J (aC oU J (aQ 0 gO J J J J (ad J (bq eS _ underlying46 t9 J (by decide) (by decide) J J J J fun v18=>cM 1 underlying46 t9 J (by decide) (fun _=>J) (fun _=>J) J J J (be (k:=18) J) (by first|omega|(simp;done)|(simp;omega)) (by unfold maxLen;first|omega|(simp;done)|(simp;omega)) J fun v19=>bI J (aC oU J (aA (k:=0) gO J J J J J J J J (aa (cm v19 O J gn J [0,1] [] J J J)))))))))))
theorem AI(f:Tf)(b:Nat)(s:Ba):
  bi prog 125 [Iq f,Pt b] [] [bh b 9 [Sg s]] (.bool (decide (f.name=s))) []:=by
 refine aI func125 J ntmps125 J fun w0 M H=>ap (ck J J fun b2=>ak J (aF J (aC kC J (aQ 2 t9 J J J J (aP (ah t9 J J (dt (k:=0) J J)) (aw J J cW (ak J (aa (ax (aH () O J (bQ (aL J)) (congrArg Value.bool (cq _ _)) [] [] J J J))))))))))
theorem nS(c:Nat)(vp vn:SV)(nd va:Int)(dp:Bool)(er:Int)(s:Ba)(fs:List Tf)(hf:fs.length≤1000000):
  bi prog 82 [Pt c,Sg s] [bh c 165 (cR vp vn nd va dp er)] [sl 3 ip (sv vp) fs] (I6 (ti fs s)) [bh c 165 (cR vp vn nd va dp er)]:=by
 refine aI func82 J ntmps82 J fun w0 M H=>ap (wi J J J fun b3=>ak J (aF J (ad J (bI J (aC Cs J (aC dJ J (aQ 0 iB J J J J (aP (fk (first:= []) (cap:= [.tmp 3]) J J) (db (xs:= [.tmp 9,.tmp 10]) (yl vp fs hf 125 [Pt b3] (bh b3 9 [Sg s]) (fun f=>decide (f.name=s)) Q7 (fun f _=>AI f b3 s)) LF [] [(false,0),(true,3)] [] J J J (fun _ _=>ak J (aa (ax (aH () O J (bQ (aL J)) J [0] [] J J J)))))))))))))
theorem DG(c:Nat)(vp vn:SV)(va er:Int)(t:Tx)(ht:GX t)(ih:∀u∈t.kids,∀(nd:Int)(dp:Bool),0≤nd→nd+(nX u:Int)≤1000000000000→Spec prog 164 [Pt c,xV u] [bh c 165 (cR vp vn nd va dp er)] [ce u.v u.kids] (X:=Unit) (fun _=>True) (fun _=>I6 (dX u:Int)) (fun _=> [bh c 165 (cR vp vn (nd+(nX u:Int)) va (dp || decide (dX u>8)) er)]) (fun _=> []))(nd:Int)(dp:Bool)(h0:0≤nd)(hn:nd+(nX t:Int)≤1000000000000):
  bi prog 164 [Pt c,xV t] [bh c 165 (cR vp vn nd va dp er)] [ce t.v t.kids] (I6 (dX t:Int)) [bh c 165 (cR vp vn (nd+(nX t:Int)) va (dp || decide (dX t>8)) er)]:=by
 refine aI func164 J ntmps164 J fun w0 M H=> ?_
 have hkl:=mC ht;have hnx:=uO t;have hdx:=P8 t;have hdn:=yI t;refine aZ 0 1 J gd (ap (ck J J fun b3=>ak J (aF J (ad J (bI J (aC mT J (aQ 0 t3 J J J J (aw J J aO (bI J (aC mT J (aA (k:=0) t3 J J J J J J J J (aF J (ak J ?_)))))))))))));refine aa (aT (aC dx J (aQ 3 jh J J J J (aP (aS underlying59 J (aK (k:=1) J)) (ad J (aa (aB ?_)))))));refine bC (X:=Nat) (fun i=>i≤t.kids.length) (fun i=> [(0,Pt c),(3,Pt b3),(5,I6 (f_ (t.kids.take i):Int)),(16,sv t.v),(17,I6 (t.kids.length:Int)),(18,I6 (i:Int))]) (fun i=> [(0,bh c 165 (cR vp vn (nd+1+(dW (t.kids.take i):Int)) va (dp || decide (f_ (t.kids.take i)>8)) er)),(3,bh b3 61 (dT t))]) (fun i=> [(0,ce t.v t.kids),(1,sl 4 dT (sv t.v) t.kids)]) (fun i=>t.kids.length-i) 0 (br _) J (by rw [show(dp || decide (f_ (t.kids.take 0)>8))=dp by simp [f_],show nd+1+(dW (t.kids.take 0):Int)=nd+1 by simp [dW]];rfl) J (fun i n1=> ?_);refine ap (aw J J cr (aa (a_ (ai J (fun h1=> ?_) (fun h1=> ?_)))))
 ·(try simp only [bj]at h1);have hi:i<t.kids.length:=by omega
  obtain⟨kid,hkid⟩:∃k,t.kids[i]?=some k:=⟨_,bN hi⟩
  have hkm:=bT hkid;have hle:=mn t.kids (i+1);rw [fg hkid]at hle;refine az (a_ (aB (ap (aP (aN (j:=i) underlying59 cl J J (aK (k:=1) J) (by first|rfl|omega) (by first|omega|(simp;done)|(simp;omega))) (aP (aM cl J J J (bA (aK (k:=1) J) (by intro _;rfl) hkid (by rfl))) (aY cl J J fun b7=>aq (k:=7) cl J J J J J J (aa (am (ad J (ad J (aP (aM cl J J J (aX (k:=7) J)) (aZ 0 8 J (dD hkm) (aj (xs:= [.tmp 23,.tmp 24]) (ih kid hkm (nd+1+(dW (t.kids.take i):Int)) (dp || decide (f_ (t.kids.take i)>8)) (by omega) (by omega)) Lu [0] [(false,8)] [0] (fun _ _=>aP (sG J J J) (ak J (aa (am ?_)))))))))))))))));refine aw J J aO (ad J (aa ?_));refine aJ (i+1) ⟨by omega,by omega⟩ (by rw [mA hkid,Hs];rfl) (by rw [mA hkid,fg hkid,←CD,←Bool.or_assoc,Int.natCast_add,←Int.add_assoc];rfl) J
 ·(try simp only [bj]at h1);have hi:i=t.kids.length:=by omega
  subst hi;rw [cS];refine bF (ap (ad J (ad J (bI J (aC oT J (aQ 0 t4 J J J J (ad J (aG [] J J O (fun hg2=>bc J) J (aG [(34,_)] J J ⟨J,O⟩ (fun hg3=>aR J J aO) J (aG [(34,_),(35,_)] J J ⟨J,J,O⟩ (fun hg4=>aR J J ec) J (aP (bH J J J) (bI J (aC oT J (aA (k:=0) t4 J J J J J J J J (aF J (ad J ?_))))))))))))))));refine aw J J aO (ak J (aa (ax ?_)));have hfin:cR vp vn (nd+1+(dW t.kids:Int)) va (dp || decide (f_ t.kids>8) || decide ((f_ t.kids:Int)+1>8)) er=cR vp vn (nd+(nX t:Int)) va (dp || decide (dX t>8)) er:=by
   rw [hnx,hdx];have e1:nd+1+(dW t.kids:Int)=nd+((dW t.kids+1:Nat):Int):=by omega
   have e2:(dp || decide (f_ t.kids>8) || decide ((f_ t.kids:Int)+1>8))=(dp || decide (f_ t.kids+1>8)):=by
    rw [Bool.or_assoc]
    congr 1
    by_cases h:f_ t.kids+1>8
    ·have h2:(f_ t.kids:Int)+1>8:=by omega
     simp [h,h2]
    ·have h2:¬(f_ t.kids:Int)+1>8:=by omega
     have h3:¬f_ t.kids>8:=by omega
     simp [h,h2,h3]
   rw [e1,e2]
  rw [←hfin];refine aH () O J (bQ (aL J)) (by rw [hdx];rfl) [0] [] J J J
theorem yc(c:Nat)(vp vn:SV)(va er:Int):∀(n:Nat)(t:Tx),SizeOf.sizeOf t<n→GX t→∀(nd:Int)(dp:Bool),0≤nd→nd+(nX t:Int)≤1000000000000→bi prog 164 [Pt c,xV t] [bh c 165 (cR vp vn nd va dp er)] [ce t.v t.kids] (I6 (dX t:Int)) [bh c 165 (cR vp vn (nd+(nX t:Int)) va (dp || decide (dX t>8)) er)]
 | 0,_,h,_=>absurd h (Nat.not_lt_zero _)
 | n+1,t,h,ht=>fun nd dp h0 hn=>DG c vp vn va er t ht (fun u hu=>yc c vp vn va er n u (by have:=qy hu;omega) ((kx ht).mem u hu)) nd dp h0 hn
theorem DH(c:Nat)(vp vn:SV)(va er:Int)(t:Tx)(ht:GX t)(nd:Int)(dp:Bool)(h0:0≤nd)(hn:nd+(nX t:Int)≤1000000000000):bi prog 164 [Pt c,xV t] [bh c 165 (cR vp vn nd va dp er)] [ce t.v t.kids] (I6 (dX t:Int)) [bh c 165 (cR vp vn (nd+(nX t:Int)) va (dp || decide (dX t>8)) er)]:=yc c vp vn va er _ t (Nat.lt_succ_self _) ht nd dp h0 hn
def RO(c:Nat)(vp vn:SV)(er:Int)(v:SV)(l:List Ty):Prop:=∀(d:Nat)(nd va:Int)(dp:Bool),d+cB l≤1000000000000→0≤nd→nd+(cB l:Int)≤1000000000000→0≤va→va+(dg l:Int)≤1000000000000→
 bi prog 126 [Pt c,sv v,I6 (d:Int)] [bh c 165 (cR vp vn nd va dp er)] [bV v l] (.tuple #[]) [bh c 165 (cR vp vn (nd+(cB l:Int)) (va+(dg l:Int)) (dp || dC d l) er)]
theorem MM(p q a b c d:Bool):(p || q || a || b || c || d)=(p || (q || (a || b || c || d))):=by cases p<;>cases q<;>rfl
theorem AS(c:Nat)(vp vn:SV)(er:Int)(v:SV)(l:List Ty)(hl:l.length≤1000000)(hg:GYs l)(ih:∀u∈l,RO c vp vn er u.vb u.body∧RO c vp vn er u.vl u.els)(d:Nat)(nd va:Int)(dp:Bool)(hd:d+cB l≤1000000000000)(h0:0≤nd)(hn:nd+(cB l:Int)≤1000000000000)(h1:0≤va)(hv:va+(dg l:Int)≤1000000000000):
  bi prog 126 [Pt c,sv v,I6 (d:Int)] [bh c 165 (cR vp vn nd va dp er)] [bV v l] (.tuple #[]) [bh c 165 (cR vp vn (nd+(cB l:Int)) (va+(dg l:Int)) (dp || dC d l) er)]:=by
 refine aI func126 J ntmps126 J fun w0 M H=>aZ 0 1 J ic (ap (ad J (aP (aS underlying62 J (aK (k:=1) J)) (ad J (aa (aB ?_))))))
 refine bC (X:=Nat) (fun i=>i≤l.length) (fun i=> [(0,Pt c),(2,I6 (d:Int)),(10,sv v),(11,I6 (l.length:Int)),(12,I6 (i:Int))]) (fun i=> [(0,bh c 165 (cR vp vn (nd+(cB (l.take i):Int)) (va+(dg (l.take i):Int)) (dp || dC d (l.take i)) er))]) (fun i=> [(0,bV v l),(1,sl 5 eE (sv v) l)]) (fun i=>l.length-i) 0 (br _) J (by rw [show(dp || dC d (l.take 0))=dp by simp [dC],show nd+(cB (l.take 0):Int)=nd by simp [cB],show va+(dg (l.take 0):Int)=va by simp [dg]];rfl) J (fun i n1=> ?_);refine ap (aw J J cr (aa (a_ (ai J (fun h1=> ?_) (fun h1=> ?_)))))
 ·(try simp only [bj]at h1);have hi:i<l.length:=by omega
  obtain⟨st,hst⟩:∃k,l[i]?=some k:=⟨_,bN hi⟩
  have hsm:=bT hst;have hsy:=hg.mem st hsm;have hsg:=pn hsy;have hle:=nK l (i+1);rw [iW hst]at hle;have hny:=FL st;have hvy:=ED st;have hvl:=jd l;have hva:=jd (l.take i);have hvb:=jd st.body;have hvs:=jd st.els;have hnl:=nK l i;have hvy2:(vY st:Int)=(if st.kind=1 then 1 else 0:Int)+(dg st.body:Int)+(dg st.els:Int):=by
   rw [EE];split<;>omega
  have hki:0≤(if st.kind=1 then 1 else 0:Int)∧(if st.kind=1 then 1 else 0:Int)≤1:=by split<;>omega
  have hvv:(dg (l.take i):Int)+(vY st:Int)≤(dg l:Int):=by
   have h:=kc (l.take (i+1)) (l.drop (i+1));rw [List.take_append_drop,kI hst]at h;omega
  refine aZ 0 7 J (kZ hsm) (aZ 0 8 J (gS hsm) (aZ 0 9 J (iO hsm) (aZ 7 10 J gd (az (a_ (aB (ap (aP (aN (j:=i) underlying62 dK J J (aK (k:=1) J) (by first|rfl|omega) (by first|omega|(simp;done)|(simp;omega))) (aP (aM dK J J J (bA (aK (k:=1) J) (by intro _;rfl) hst (by rfl))) (aY dK J J fun b7=>aq (k:=7) dK J J J J J J (aF J (ad J (bI J (aC mT J (aQ 0 t3 J J J J ?_)))))))))))))));refine aw J J aO (bI J (aC mT J (aA (k:=0) t3 J J J J J J J J (aF J (ad J (ad J (bI J (aC oT J (aQ 0 t4 J J J J (ad J (aG [] J J O (fun hg2=>bc J) J (aG [(29,_)] J J ⟨J,O⟩ (fun hg3=>aR J J ec) J (aP (bH J J J) (bI J (aC oT J (aA (k:=0) t4 J J J J J J J J (aa ?_)))))))))))))))));refine bx (X:=Unit) (fun _=>True) (fun _=> [(0,Pt c),(2,I6 (d:Int)),(10,sv v),(11,I6 (l.length:Int)),(12,I6 (i:Int)),(7,Pt b7)]) (fun _=> [(0,bh c 165 (cR vp vn (nd+(cB (l.take i):Int)+1) (va+(dg (l.take i):Int)+(if st.kind=1 then 1 else 0:Int)) (dp || dC d (l.take i) || decide (d>8)) er)),(7,bh b7 64 (eE st))]) (fun _=> [(0,bV v l),(1,sl 5 eE (sv v) l),(7,ce st.ve st.es),(8,bV st.vb st.body),(9,bV st.vl st.els),(10,sl 4 dT (sv st.ve) st.es)]) ?_ (fun _ _=> ?_)
  ·refine ap (aC eM J (aQ 7 t3 J J J J (aw J J bn (aa (ai J (fun h4=> ?_) (fun h4=> ?_))))))
   ·have q1:st.kind=1:=bW h4;refine am (ad J (bI J (aC rK J (aQ 0 t3 J J J J (aw J J aO (bI J (aC rK J (aA (k:=0) t3 J J J J J J J J (aa (aJ () O J (by rw [show decide (d>8)=decide ((d:Int)>8)from decide_eq_decide.2 (by omega),ar q1];rfl) J))))))))))
   ·have q1:¬st.kind=1:=cg h4;refine az (aJ () O J (by rw [show decide (d>8)=decide ((d:Int)>8)from decide_eq_decide.2 (by omega),ae q1,Int.add_zero];rfl) J)
  ·refine aT (aC gj J (aQ 7 jh J J J J (aP (aS underlying59 J (aK (k:=10) J)) (ad J (aa (aB ?_))))));refine bC (X:=Nat) (fun j=>j≤st.es.length) (fun j=> [(0,Pt c),(2,I6 (d:Int)),(10,sv v),(11,I6 (l.length:Int)),(12,I6 (i:Int)),(7,Pt b7),(45,sv st.ve),(46,I6 (st.es.length:Int)),(47,I6 (j:Int))]) (fun j=> [(0,bh c 165 (cR vp vn (nd+(cB (l.take i):Int)+1+(dW (st.es.take j):Int)) (va+(dg (l.take i):Int)+(if st.kind=1 then 1 else 0:Int)) (dp || dC d (l.take i) || decide (d>8) || decide (f_ (st.es.take j)>8)) er)),(7,bh b7 64 (eE st))]) (fun j=> [(0,bV v l),(1,sl 5 eE (sv v) l),(7,ce st.ve st.es),(8,bV st.vb st.body),(9,bV st.vl st.els),(10,sl 4 dT (sv st.ve) st.es)]) (fun j=>st.es.length-j) 0 (br _) J (by rw [show(dp || dC d (l.take i) || decide (d>8) || decide (f_ (st.es.take 0)>8))=(dp || dC d (l.take i) || decide (d>8)) by simp [f_],show nd+(cB (l.take i):Int)+1+(dW (st.es.take 0):Int)=nd+(cB (l.take i):Int)+1 by simp [dW]];rfl) J (fun j n2=> ?_);refine ap (aw J J cr (aa (a_ (ai J (fun h5=> ?_) (fun h5=> ?_)))))
   ·(try simp only [bj]at h5);have hj:j<st.es.length:=by omega
    obtain⟨kid,hkid⟩:∃k,st.es[j]?=some k:=⟨_,bN hj⟩
    have hkm:=bT hkid;have hlx:=mn st.es (j+1);rw [fg hkid]at hlx;have hdx:=yI kid;refine az (a_ (aB (ap (aP (aN (j:=j) underlying59 cl J J (aK (k:=10) J) (by first|rfl|omega) (by first|omega|(simp;done)|(simp;omega))) (aP (aM cl J J J (bA (aK (k:=10) J) (by intro _;rfl) hkid (by rfl))) (aY cl J J fun b9=>aq (k:=9) cl J J J J J J (aa (am (ad J (aP (aM cl J J J (aX (k:=9) J)) (aZ 7 12 J (dD hkm) (aj (xs:= [.tmp 51,.tmp 52]) (DH c vp vn (va+(dg (l.take i):Int)+(if st.kind=1 then 1 else 0:Int)) er kid (hsg.2.mem kid hkm) (nd+(cB (l.take i):Int)+1+(dW (st.es.take j):Int)) (dp || dC d (l.take i) || decide (d>8) || decide (f_ (st.es.take j)>8)) (by omega) (by omega)) Lu [0] [(false,12)] [0] (fun _ _=>aa (am (aw J J aO (ad J (aa ?_)))))))))))))))));refine aJ (j+1) ⟨by omega,by omega⟩ J (by rw [mA hkid,fg hkid,←CD,←Bool.or_assoc,Int.natCast_add,←Int.add_assoc];rfl) J
   ·(try simp only [bj]at h5);have hj:j=st.es.length:=by omega
    subst hj;rw [cS];refine bF (ap (ad J (aC ft J (aQ 7 iP J J J J (ad J (aw J J aO (aj (xs:= [.tmp 55,.tmp 57,.tmp 59]) ((ih st hsm).1 (d+1) (nd+(cB (l.take i):Int)+1+(dW st.es:Int)) (va+(dg (l.take i):Int)+(if st.kind=1 then 1 else 0:Int)) (dp || dC d (l.take i) || decide (d>8) || decide (f_ st.es>8)) (by omega) (by omega) (by omega) (by omega) (by omega)) Hn [0] [(false,8)] [0] (fun _ _=>aa (am (ad J (aC fq J (aQ 7 iP J J J J (ad J (aw J J aO (aj (xs:= [.tmp 61,.tmp 63,.tmp 65]) ((ih st hsm).2 (d+1) (nd+(cB (l.take i):Int)+1+(dW st.es:Int)+(cB st.body:Int)) (va+(dg (l.take i):Int)+(if st.kind=1 then 1 else 0:Int)+(dg st.body:Int)) (dp || dC d (l.take i) || decide (d>8) || decide (f_ st.es>8) || dC (d+1) st.body) (by omega) (by omega) (by omega) (by omega) (by omega)) Hn [0] [(false,9)] [0] (fun _ _=>aa (am (aw J J aO ?_))))))))))))))))));refine ad J (aa ?_);have hfin:cR vp vn (nd+(cB (l.take i):Int)+1+(dW st.es:Int)+(cB st.body:Int)+(cB st.els:Int)) (va+(dg (l.take i):Int)+(if st.kind=1 then 1 else 0:Int)+(dg st.body:Int)+(dg st.els:Int)) (dp || dC d (l.take i) || decide (d>8) || decide (f_ st.es>8) || dC (d+1) st.body || dC (d+1) st.els) er=cR vp vn (nd+(cB (l.take (i+1)):Int)) (va+(dg (l.take (i+1)):Int)) (dp || dC d (l.take (i+1))) er:=by
     rw [iW hst,kI hst,DW hst,NH,MM]
     congr 1
     ·omega
     ·rw [Int.natCast_add,hvy2];omega
    refine aJ (i+1) ⟨by omega,by omega⟩ J (by rw [←hfin];rfl) J
 ·(try simp only [bj]at h1);have hi:i=l.length:=by omega
  subst hi;rw [cS];refine bF (cm () O J gn J [0] [] J J J)
theorem qp(c:Nat)(vp vn:SV)(er:Int):∀(n:Nat)(v:SV)(l:List Ty),SizeOf.sizeOf l<n→l.length≤1000000→GYs l→RO c vp vn er v l
 | 0,_,_,h,_,_=>absurd h (Nat.not_lt_zero _)
 | n+1,v,l,h,hl,hg=>AS c vp vn er v l hl hg fun u hu=>by
  have h1:=List.sizeOf_lt_of_mem hu;have h2:SizeOf.sizeOf u.body<SizeOf.sizeOf u∧SizeOf.sizeOf u.els<SizeOf.sizeOf u:=by
   cases u;simp only [Ty.mk.sizeOf_spec,Ty.body,Ty.els];omega
  have h3:=hg.mem u hu;exact⟨qp c vp vn er n u.vb u.body (by omega) (eW h3).1 (eW h3).2,qp c vp vn er n u.vl u.els (by omega) (gk h3).1 (gk h3).2⟩
theorem AT(c:Nat)(vp vn:SV)(er:Int)(v:SV)(l:List Ty)(hl:l.length≤1000000)(hg:GYs l):RO c vp vn er v l:=qp c vp vn er _ v l (Nat.lt_succ_self _) hl hg
end Go.Proofs.YtedmdgbmdplifaaGreat
