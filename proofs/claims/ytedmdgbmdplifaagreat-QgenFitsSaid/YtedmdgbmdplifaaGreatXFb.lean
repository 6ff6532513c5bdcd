/-
  A part of the proof. Conditions are with the theorems.
-/
import Derived.Test.YtedmdgbmdplifaaGreatProg
import Derived.ChangeMaps5
import Derived.SizedLaws
import Derived.Test.YtedmdgbmdplifaaGreatXFa
set_option maxHeartbeats 32000000
set_option maxRecDepth 100000
set_option linter.unusedSimpArgs false
set_option linter.unusedVariables false
namespace Go.Proofs.YtedmdgbmdplifaaGreat
open Go.RowKit Tryz
section
variable{P:Program}{N:Nat}{w0:World}{M H:Nat→Prop}{E:ft}{Γ R:eD}{Q:Exit→Act→World→Prop}
variable{ops:Array Oper}{rest:List Oper}{T:TypeId}{ps:String}{af:Array Edge}{d:Nat}{op:Op}
theorem ad{x:Operand}{v:Value}(hx:ev E x=some v)(k:At N w0 M H ((d,v)::E) Γ R (wpList P ops Q rest))(hd:Nat.blt d N=true:=by exact rfl):At N w0 M H E Γ R (wpList P ops Q (⟨some d,.move x,T,ps,af,none⟩::rest)):=uE (aV hx) hd k
theorem am{x:Operand}{v:Value}(hx:ev E x=some v)(k:At N w0 M H ((d,v)::E) Γ R (wpList P ops Q rest))(hd:Nat.blt d N=true:=by exact rfl):At N w0 M H E Γ R (wpList P ops Q (⟨some d,.assign x,T,ps,af,none⟩::rest)):=uE (df hx) hd k
theorem bS{x:Operand}{A:Addr}(hx:ev E x=some (.pointer (some A)))(k:At N w0 M H ((d,.pointer (some A))::E) Γ R (wpList P ops Q rest))(hd:Nat.blt d N=true:=by exact rfl):At N w0 M H E Γ R (wpList P ops Q (⟨some d,.nilCheck x,T,ps,af,none⟩::rest)):=uE (au hx) hd k
theorem aD{S:TypeId}{i off:Nat}{x:Operand}{b:Nat}(hf:FO P S i off)(hx:ev E x=some (.pointer (some ⟨b,0,none⟩)))(k:At N w0 M H ((d,.pointer (some ⟨b,off,none⟩))::E) Γ R (wpList P ops Q rest))(hd:Nat.blt d N=true:=by exact rfl):At N w0 M H E Γ R (wpList P ops Q (⟨some d,.fieldAddr S x i,T,ps,af,none⟩::rest)):=uE (ah hf hx) hd k
theorem ar{o:BinOp}{S S':TypeId}{x y:Operand}{u v z:Value}(hx:ev E x=some u)(hy:ev E y=some v)(hb:dQ P o S u v z)(k:At N w0 M H ((d,z)::E) Γ R (wpList P ops Q rest))(hd:Nat.blt d N=true:=by exact rfl):At N w0 M H E Γ R (wpList P ops Q (⟨some d,.binOp o S x y S',T,ps,af,none⟩::rest)):=uE (aQ hx hy hb) hd k
theorem aR(j:Nat){S S0:TypeId}{D:TypeDesc}{z:Value}{s bb:Nat}{x:Operand}{b o:Nat}{c:List Value}{u:Value}(ht:TI P S D z s bb)(hag:u9 D=false)(hx:ev E x=some (.pointer (some ⟨b,o,none⟩)))(hk:ch Γ j=some (bj b S0 c))(hu:c[o]?=some u)(k:At N w0 M H ((d,u)::E) Γ R (wpList P ops Q rest))(hd:Nat.blt d N=true:=by exact rfl):
  At N w0 M H E Γ R (wpList P ops Q (⟨some d,.load S x,T,ps,af,none⟩::rest)):=uE (ag ht hag hx (ax (k:=j) hk hu)) hd k
theorem aP{v:Value}(h:PR P N w0 M H E Γ R op v)(k:At N w0 M H ((d,v)::E) Γ R (wpList P ops Q rest))(hd:Nat.blt d N=true:=by exact rfl):At N w0 M H E Γ R (wpList P ops Q (⟨some d,op,T,ps,af,none⟩::rest)):=uE h hd k
theorem az{id:Nat}{l:List Oper}{y:Code}{Q2:Exit→Act→World→Prop}(hq:Q .normal=(Code.seq (Code.region id l.toArray false) y).wp P Q2)(h:At N w0 M H E Γ R (wpList P l.toArray (XT (y.wp P Q2) Q2) l)):At N w0 M H E Γ R (wpList P ops Q []):=aa (by rw [hq];exact be (ak h))
theorem aq{id:Nat}{l:List Oper}{y:Code}(h:At N w0 M H E Γ R (wpList P l.toArray (XT (y.wp P Q) Q) l)):At N w0 M H E Γ R ((Code.seq (Code.region id l.toArray false) y).wp P Q):=be (ak h)
theorem aU{id:Nat}{l:List Oper}{y z:Code}(h:At N w0 M H E Γ R (wpList P l.toArray (XT (y.wp P (XT (z.wp P Q) Q)) (XT (z.wp P Q) Q)) l)):At N w0 M H E Γ R ((Code.seq (Code.seq (Code.region id l.toArray false) y) z).wp P Q):=be (aq h)
theorem ai{n:Nat}{f:Operand}{xs:List Operand}{cap us vs:List Value}{at_:Array TypeId}{L R0:List Asn}{X:Type}{φ:X→Prop}{v:X→Value}{L' R':X→List Asn}(hs:Spec P n vs L R0 φ v L' R')(hcb:Cb P n)
  (ks:List Nat) (rs:List (Bool×Nat)) (ns:List Nat) (k:∀x,φ x→At N w0 M H ((d,v x)::E) (gk ns (L' x) (gl ks Γ)) R (wpList P ops Q rest))
  (hf:ev E f=some (.func (.func n) #[] cap.toArray):=by exact rfl) (hx:evs E xs=some us:=by exact rfl) (hu:us++cap=vs:=by exact rfl)
  (hnd:rr ks=true:=by exact rfl) (hL:e9 Γ ks=dv L:=by exact rfl) (hR:jr Γ R rs=dv R0:=by exact rfl) (hl:iR ks rs=true:=by exact rfl) (hns:rr ns=true:=by exact rfl) (hnl:∀x,φ x→ns.length=(L' x).length:=by exact fun _ _=>rfl) (hrl:∀x,φ x→ep rs=true→0=(R' x).length:=by exact fun _ _ _=>rfl)
  (hd:Nat.blt d N=true:=by exact rfl):
  At N w0 M H E Γ R (wpList P ops Q (⟨some d,.call {callee:= .value f,args:=xs.toArray,argTypes:=at_},T,ps,af,none⟩::rest)):=dI hs hcb ks rs ns hf hx hu hnd hL hR hl hns hnl hrl hd k
theorem c_{n:Nat}{f:Operand}{xs:List Operand}{cap us vs:List Value}{at_:Array TypeId}{L R0:List Asn}{X:Type}{φ:X→Prop}{v:X→Value}{L' R':X→List Asn}(hs:Spec P n vs L R0 φ v L' R')(hcb:Cb P n)
  (ks:List Nat) (rs:List (Bool×Nat)) (ns:List Nat) (hf:ev E f=some (.func (.func n) #[] cap.toArray)) (hx:evs E xs=some us) (hu:us++cap=vs) (k:∀x,φ x→At N w0 M H ((d,v x)::E) (gk ns (L' x) (gl ks Γ)) R (wpList P ops Q rest))
  (hnd:rr ks=true:=by exact rfl) (hL:e9 Γ ks=dv L:=by exact rfl) (hR:jr Γ R rs=dv R0:=by exact rfl) (hl:iR ks rs=true:=by exact rfl) (hns:rr ns=true:=by exact rfl) (hnl:∀x,φ x→ns.length=(L' x).length:=by exact fun _ _=>rfl) (hrl:∀x,φ x→ep rs=true→0=(R' x).length:=by exact fun _ _ _=>rfl)
  (hd:Nat.blt d N=true:=by exact rfl):
  At N w0 M H E Γ R (wpList P ops Q (⟨some d,.call {callee:= .value f,args:=xs.toArray,argTypes:=at_},T,ps,af,none⟩::rest)):=dI hs hcb ks rs ns hf hx hu hnd hL hR hl hns hnl hrl hd k
theorem b_{dst:Option Nat}{n:Nat}{f:Operand}{xs:List Operand}{cap us vs:List Value}{at_:Array TypeId}{L R0:List Asn}{X:Type}{φ:X→Prop}{v:X→Value}{L' R':X→List Asn}(hs:Spec P n vs L R0 φ v L' R')(hcb:Cb P n)
  (ks:List Nat) (rs:List (Bool×Nat)) (ns:List Nat) (hf:ev E f=some (.func (.func n) #[] cap.toArray):=by exact rfl) (hx:evs E xs=some us:=by exact rfl) (hu:us++cap=vs:=by exact rfl)
  (hnd:rr ks=true:=by exact rfl) (hL:e9 Γ ks=dv L:=by exact rfl) (hR:jr Γ R rs=dv R0:=by exact rfl) (hl:iR ks rs=true:=by exact rfl) (hns:rr ns=true:=by exact rfl) (hnl:∀x,φ x→ns.length=(L' x).length:=by exact fun _ _=>rfl) (hrl:∀x,φ x→ep rs=true→0=(R' x).length:=by exact fun _ _ _=>rfl):
  MS P N w0 M H E Γ R ⟨dst,.call {callee:= .value f,args:=xs.toArray,argTypes:=at_},T,ps,af,none⟩ φ v (fun x=>gk ns (L' x) (gl ks Γ)) (fun _=>R):=jq hs hcb ks rs ns hf hx hu hnd hL hR hl hns hnl hrl
theorem ic{dst:Option Nat}{n:Nat}{f:Operand}{xs:List Operand}{cap us vs:List Value}{at_:Array TypeId}{L R0:List Asn}{X:Type}{φ:X→Prop}{v:X→Value}{L' R':X→List Asn}(hs:Spec P n vs L R0 φ v L' R')(hcb:Cb P n)
  (ks:List Nat) (rs:List (Bool×Nat)) (ns:List Nat) (hf:ev E f=some (.func (.func n) #[] cap.toArray)) (hx:evs E xs=some us) (hu:us++cap=vs)
  (hnd:rr ks=true:=by exact rfl) (hL:e9 Γ ks=dv L:=by exact rfl) (hR:jr Γ R rs=dv R0:=by exact rfl) (hl:iR ks rs=true:=by exact rfl) (hns:rr ns=true:=by exact rfl) (hnl:∀x,φ x→ns.length=(L' x).length:=by exact fun _ _=>rfl) (hrl:∀x,φ x→ep rs=true→0=(R' x).length:=by exact fun _ _ _=>rfl):
  MS P N w0 M H E Γ R ⟨dst,.call {callee:= .value f,args:=xs.toArray,argTypes:=at_},T,ps,af,none⟩ φ v (fun x=>gk ns (L' x) (gl ks Γ)) (fun _=>R):=jq hs hcb ks rs ns hf hx hu hnd hL hR hl hns hnl hrl
theorem aF{l:List Oper}{V I:eg}{i d:Nat}{v:Value}{x:Operand}{T:TypeId}{ps:String}{af:Array Edge}(ho:l[i]?=some ⟨some d,.move x,T,ps,af,none⟩)(hx:ev (vpre (fi ⟨some d,.move x,T,ps,af,none⟩) V++E) x=some v)(t:PRs P N w0 M H E Γ R l V I):PRs P N w0 M H E Γ R l V ((i,d,v)::I):=bk (Jj ho (aV hx)) t
theorem ae{l:List Oper}{V I:eg}{i d:Nat}{v:Value}{op:Op}{T:TypeId}{ps:String}{af:Array Edge}(ho:l[i]?=some ⟨some d,op,T,ps,af,none⟩)(h:PR P N w0 M H (vpre (fi ⟨some d,op,T,ps,af,none⟩) V++E) Γ R op v)(t:PRs P N w0 M H E Γ R l V I):PRs P N w0 M H E Γ R l V ((i,d,v)::I):=bk (Jj ho h) t
end
theorem bM{n:Int}(h: -9223372036854775808≤n∧n≤9223372036854775807):IntKind.i64.wrap n=n:=q_ h.1 h.2
theorem cc{n:Int}(h:0≤n∧n<4294967296):IntKind.u32.wrap n=n:=mc h.1 h.2
theorem aK{P:Program}{S:TypeId}{a b c:Int}(h:IntKind.i64.wrap (a+b)=c:=by first|exact bM (by omega)|rfl):dQ P .add S (.int .i64 a) (.int .i64 b) (.int .i64 c):=co h
theorem ur{P:Program}{S:TypeId}{a b c:Int}(h:IntKind.u32.wrap (a+b)=c:=by first|exact cc (by omega)|rfl):dQ P .add S (.int .u32 a) (.int .u32 b) (.int .u32 c):=co h
theorem eG{P:Program}{S:TypeId}{a b c:Int}(h:IntKind.i64.wrap (a-b)=c:=by first|exact bM (by omega)|rfl):dQ P .sub S (.int .i64 a) (.int .i64 b) (.int .i64 c):=io h
theorem Ii{P:Program}{S:TypeId}{a b c:Int}(h:IntKind.u32.wrap (a-b)=c:=by first|exact cc (by omega)|rfl):dQ P .sub S (.int .u32 a) (.int .u32 b) (.int .u32 c):=io h
theorem lF{P:Program}{S:TypeId}{a b c:Int}(h:IntKind.i64.wrap (a*b)=c:=by first|exact bM (by omega)|rfl):dQ P .mul S (.int .i64 a) (.int .i64 b) (.int .i64 c):=fN h
theorem qt{P:Program}{S:TypeId}{a b c:Int}(h:IntKind.u32.wrap (a*b)=c:=by first|exact cc (by omega)|rfl):dQ P .mul S (.int .u32 a) (.int .u32 b) (.int .u32 c):=fN h
abbrev Ba:=ByteArray
class Pk (b:Bool) (u v:Value) (z:outParam Value):Prop where
 h:(bif b then u else v)=z
instance Pk0{b:Bool}{u v:Value}:Pk b u v (bif b then u else v):=⟨rfl⟩
instance Pk1{b c:Bool}:Pk b (.bool true) (gv (gb false b) (.bool c)) (.bool (b || c)):=⟨eu⟩
instance Pk2{b c:Bool}:Pk b (gv (gb true b) (.bool c)) (.bool false) (.bool (b&&c)):=⟨dL⟩
instance Pk3{c:Bool}:Pk false (.bool true) (.bool c) (.bool (false || c)):=⟨rfl⟩
instance Pk4{c:Bool}:Pk true (.bool c) (.bool false) (.bool (true&&c)):=⟨rfl⟩
theorem bH{P:Program}{N:Nat}{w0:World}{M H:Nat→Prop}{E:ft}{Γ R:eD}{c x y:Operand}{b:Bool}{u v z:Value}(hc:ev E c=some (.bool b))(hx:ev E x=some u)(hy:ev E y=some v) [hz:Pk b u v z]:PR P N w0 M H E Γ R (.pick c x y) z:=d7 hc hx hy hz.h
abbrev Sg(s:ByteArray):Value:= .string s
abbrev Pt(b:Nat):Value:= .pointer (some ⟨b,0,none⟩)
abbrev I6(n:Int):Value:= .int .i64 n
abbrev I3(n:Int):Value:= .int .u32 n
abbrev aW(P:Program)(n:Nat)(vs:List Value)(L R:List Asn)(v:Value)(L1:List Asn):Prop:=Spec P n vs L R (X:=Unit) (fun _=>True) (fun _=>v) (fun _=>L1) (fun _=> [])
def eU(x:Int):List Value:= [.int .u32 x]
theorem eT(x y:ByteArray):(x==y)=decide (x=y):=by
 obtain⟨⟨x⟩⟩:=x;obtain⟨⟨y⟩⟩:=y;show((⟨x⟩:Array UInt8)==⟨y⟩)=_;simp;exact Bool.beq_eq_decide_eq x y
def ie(s:ByteArray):Value:= .string s
theorem JR{P:Program}{kt:TypeId}(h:P.underlying kt=some .string):KeyLaw P kt ie where
 check:=fun b k w=>by
  show(Instr.checkKey b (9999+1) kt (.string k)).run P w=_;unfold Instr.checkKey;simp [Sem.run_bind,run_underlying h]
 find:=fun{α} kf vf k ms w=>by
  have hnow:∀(ms:List (α×Nat))(i:Nat),Instr.findNow .string (.string k) (ms.map (kY ie kf vf)) i=some (Bc kf vf k ms i):=by
   intro ms
   induction ms with
   | nil=>intro i;rfl
   | cons m r ih=>
    intro i;simp only [List.map_cons,Instr.findNow,kY,ie,Instr.sameNow,Bc];by_cases e:kf m.1=k
    ·have:(k==kf m.1)=true:=by rw [eT];exact decide_eq_true e.symm
     rw [this,aj e]
    ·have:(k==kf m.1)=false:=by rw [eT];exact decide_eq_false fun h=>e h.symm
     rw [this,ac e];exact ih (i+1)
  unfold Instr.findKey;simp only [Sem.run_bind,run_underlying h,Result.andThen_ok];show(match Instr.findNow .string (ie k) (ms.map (kY ie kf vf)) 0 with|some r=>pure r|none=>_:Sem (Option (Nat×Value))).run P w=_;rw [show Instr.findNow .string (ie k) (ms.map (kY ie kf vf)) 0=some (Bc kf vf k ms 0)from hnow ms 0];rfl
 stays:=fun k=>by
  show Instr.sameBits 10000 (.string k) (.string k)=true;simp [Instr.sameBits,eT]
section
variable{P:Program}{N:Nat}{w0:World}{M H:Nat→Prop}{E:ft}{Γ R:eD}{Q:Exit→Act→World→Prop}
variable{ops:Array Oper}{rest:List Oper}{T:TypeId}{ps:String}{af:Array Edge}{d:Nat}
variable{α κ:Type} [DecidableEq κ]{mk:κ→Value}{kf:α→κ}{vf:α→Value}
theorem Eb{S kt et:TypeId}{x y z:Operand}{b:Nat}{k:Nat}(e:α){L:List α}(L':List α)(hS:P.underlying S=some (.map kt et))(hK:KeyLaw P kt mk)(hx:ev E x=some (.map (some b)))(hy:ev E y=some (mk (kf e)))(hz:ev E z=some (vf e))(hk:ch Γ k=some (mp mk kf vf (some b) L))
  (hp:(e::L.filter fun a=>decide (kf a≠kf e)).Perm L'):
  MS P N w0 M H E Γ R ⟨none,.insert S x y z,T,ps,af,none⟩ (X:=Unit) (fun _=>True) (fun _=>undef) (fun _=>(k,mp mk kf vf (some b) L')::Γ) (fun _=>R):=
 fun a w hE hC next Q hn=>jV (T:=T) (ps:=ps) (af:=af) e L' hS hK hx hy hz hk hp a w hE hC next Q hn
theorem cq{S kt et:TypeId}{x y z:Operand}{b:Nat}{k:Nat}(e:α){L:List α}(L':List α)(hS:P.underlying S=some (.map kt et))(hK:KeyLaw P kt mk)(hx:ev E x=some (.map (some b)))(hy:ev E y=some (mk (kf e)))(hz:ev E z=some (vf e))(hk:ch Γ k=some (mp mk kf vf (some b) L))
  (hp:(e::L.filter fun a=>decide (kf a≠kf e)).Perm L') (kk:At N w0 M H E ((k,mp mk kf vf (some b) L')::Γ) R (wpList P ops Q rest)):At N w0 M H E Γ R (wpList P ops Q (⟨none,.insert S x y z,T,ps,af,none⟩::rest)):=
 K6 (Eb e L' hS hK hx hy hz hk hp) fun _ _=>kk
end
inductive Tx where
 | mk (kind n:Int) (name:ByteArray) (v:SV) (kids:List Tx)
def Tx.kind:Tx→Int | .mk k _ _ _ _=>k
def Tx.n:Tx→Int | .mk _ n _ _ _=>n
def Tx.name:Tx→ByteArray | .mk _ _ s _ _=>s
def Tx.v:Tx→SV | .mk _ _ _ v _=>v
def Tx.kids:Tx→List Tx | .mk _ _ _ _ l=>l
def eH(t:Tx):List Value:= [.int .i64 t.kind,.int .u32 t.n,.string t.name,sv t.v]
abbrev xV(t:Tx):Value:= .agg (eH t).toArray
inductive Ty where
 | mk (kind:Int) (name:ByteArray) (ve:SV) (es:List Tx) (vb:SV) (body:List Ty) (vl:SV) (els:List Ty)
def Ty.kind:Ty→Int | .mk k _ _ _ _ _ _ _=>k
def Ty.name:Ty→ByteArray | .mk _ s _ _ _ _ _ _=>s
def Ty.ve:Ty→SV | .mk _ _ v _ _ _ _ _=>v
def Ty.es:Ty→List Tx | .mk _ _ _ l _ _ _ _=>l
def Ty.vb:Ty→SV | .mk _ _ _ _ v _ _ _=>v
def Ty.body:Ty→List Ty | .mk _ _ _ _ _ l _ _=>l
def Ty.vl:Ty→SV | .mk _ _ _ _ _ _ v _=>v
def Ty.els:Ty→List Ty | .mk _ _ _ _ _ _ _ l=>l
def fK(t:Ty):List Value:= [.int .i64 t.kind,.string t.name,sv t.ve,sv t.vb,sv t.vl]
abbrev yV(t:Ty):Value:= .agg (fK t).toArray
def SlIn'{α:Type}(w:World)(F:Nat→Prop)(s:Nat)(enc:α→List Value)(v:Value)(l:List α):Prop:=∃G:Nat→Prop,uu w G s enc v l∧∀b,G b→F b
theorem SlIn'.stable{α:Type}{w w':World}{F:Nat→Prop}{s:Nat}{enc:α→List Value}{v:Value}{l:List α}(h:SlIn' w F s enc v l)(hs:∀b,F b→w'.heap[b]?=w.heap[b]?):SlIn' w' F s enc v l:=by
 obtain⟨G,h1,h2⟩:=h;exact⟨G,(sl s enc v l).stable h1 fun b hb=>hs b (h2 b hb),h2⟩
theorem SlIn'.mono{α:Type}{w:World}{F F':Nat→Prop}{s:Nat}{enc:α→List Value}{v:Value}{l:List α}(h:SlIn' w F s enc v l)(hs:∀b,F b→F' b):SlIn' w F' s enc v l:=by
 obtain⟨G,h1,h2⟩:=h;exact⟨G,h1,fun b hb=>hs b (h2 b hb)⟩
mutual
def TxIn(w:World)(F:Nat→Prop):Tx→Prop
 | .mk _ _ _ v kids=>SlIn' w F 4 eH (sv v) kids∧TxsIn w F kids
def TxsIn(w:World)(F:Nat→Prop):List Tx→Prop
 | []=>True
 | t::r=>TxIn w F t∧TxsIn w F r
end
mutual
theorem TxIn.mono{w w':World}{F F':Nat→Prop}(hs:∀b,F b→F' b)(hw:∀b,F b→w'.heap[b]?=w.heap[b]?):∀t,TxIn w F t→TxIn w' F' t
 | .mk _ _ _ v kids,h=>⟨(h.1.stable hw).mono hs,TxsIn.mono hs hw kids h.2⟩
theorem TxsIn.mono{w w':World}{F F':Nat→Prop}(hs:∀b,F b→F' b)(hw:∀b,F b→w'.heap[b]?=w.heap[b]?):∀l,TxsIn w F l→TxsIn w' F' l
 | [],_=>trivial
 | t::r,h=>⟨TxIn.mono hs hw t h.1,TxsIn.mono hs hw r h.2⟩
end
theorem TxsIn.mem{w:World}{F:Nat→Prop}:∀{l:List Tx},TxsIn w F l→∀t∈l,TxIn w F t
 | [],_,_,h=>by simp at h
 | t::r,h,u,hu=>by
  rcases List.mem_cons.1 hu with rfl|hu
  ·exact h.1
  ·exact TxsIn.mem h.2 u hu
mutual
def TyIn(w:World)(F:Nat→Prop):Ty→Prop
 | .mk _ _ ve es vb body vl els=>(SlIn' w F 4 eH (sv ve) es∧TxsIn w F es)∧(SlIn' w F 5 fK (sv vb) body∧TysIn w F body)∧(SlIn' w F 5 fK (sv vl) els∧TysIn w F els)
def TysIn(w:World)(F:Nat→Prop):List Ty→Prop
 | []=>True
 | t::r=>TyIn w F t∧TysIn w F r
end
mutual
theorem TyIn.mono{w w':World}{F F':Nat→Prop}(hs:∀b,F b→F' b)(hw:∀b,F b→w'.heap[b]?=w.heap[b]?):∀t,TyIn w F t→TyIn w' F' t
 | .mk _ _ ve es vb body vl els,h=>⟨⟨(h.1.1.stable hw).mono hs,TxsIn.mono hs hw es h.1.2⟩,⟨(h.2.1.1.stable hw).mono hs,TysIn.mono hs hw body h.2.1.2⟩,⟨(h.2.2.1.stable hw).mono hs,TysIn.mono hs hw els h.2.2.2⟩⟩
theorem TysIn.mono{w w':World}{F F':Nat→Prop}(hs:∀b,F b→F' b)(hw:∀b,F b→w'.heap[b]?=w.heap[b]?):∀l,TysIn w F l→TysIn w' F' l
 | [],_=>trivial
 | t::r,h=>⟨TyIn.mono hs hw t h.1,TysIn.mono hs hw r h.2⟩
end
theorem TysIn.mem{w:World}{F:Nat→Prop}:∀{l:List Ty},TysIn w F l→∀t∈l,TyIn w F t
 | [],_,_,h=>by simp at h
 | t::r,h,u,hu=>by
  rcases List.mem_cons.1 hu with rfl|hu
  ·exact h.1
  ·exact TysIn.mem h.2 u hu
def ck(v:SV)(l:List Tx):Asn:=⟨fun w F=>SlIn' w F 4 eH (sv v) l∧TxsIn w F l,fun h hs=>⟨h.1.stable hs,TxsIn.mono (fun _ hb=>hb) hs _ h.2⟩⟩
def cm(v:SV)(l:List Ty):Asn:=⟨fun w F=>SlIn' w F 5 fK (sv v) l∧TysIn w F l,fun h hs=>⟨h.1.stable hs,TysIn.mono (fun _ hb=>hb) hs _ h.2⟩⟩
theorem iM{v:SV}{l:List Tx}:∀w G,(ck v l).pred w G→(∀b,G b→b<w.heap.size)→∃G',(sl 4 eH (sv v) l).pred w G'∧∀b,G' b→G b:=fun w G h _=>h.1
theorem iK{v:SV}{l:List Ty}:∀w G,(cm v l).pred w G→(∀b,G b→b<w.heap.size)→∃G',(sl 5 fK (sv v) l).pred w G'∧∀b,G' b→G b:=fun w G h _=>h.1
theorem dH{v:SV}{l:List Tx}{t:Tx}(ht:t∈l):∀w G,(ck v l).pred w G→(∀b,G b→b<w.heap.size)→∃G',(ck t.v t.kids).pred w G'∧∀b,G' b→G b:=fun w G h _=>by
 have:=h.2.mem t ht;cases t with
 | mk a b c d e=>exact⟨G,this,fun _ hb=>hb⟩
theorem oq{v:SV}{l:List Ty}{t:Ty}(ht:t∈l):∀w G,(cm v l).pred w G→(∀b,G b→b<w.heap.size)→∃G',(ck t.ve t.es).pred w G'∧∀b,G' b→G b:=fun w G h _=>by
 have:=h.2.mem t ht;cases t with
 | mk a b c d e f g i=>exact⟨G,this.1,fun _ hb=>hb⟩
theorem iL{v:SV}{l:List Ty}{t:Ty}(ht:t∈l):∀w G,(cm v l).pred w G→(∀b,G b→b<w.heap.size)→∃G',(cm t.vb t.body).pred w G'∧∀b,G' b→G b:=fun w G h _=>by
 have:=h.2.mem t ht;cases t with
 | mk a b c d e f g i=>exact⟨G,this.2.1,fun _ hb=>hb⟩
theorem kN{v:SV}{l:List Ty}{t:Ty}(ht:t∈l):∀w G,(cm v l).pred w G→(∀b,G b→b<w.heap.size)→∃G',(cm t.vl t.els).pred w G'∧∀b,G' b→G b:=fun w G h _=>by
 have:=h.2.mem t ht;cases t with
 | mk a b c d e f g i=>exact⟨G,this.2.2,fun _ hb=>hb⟩
structure Tf where
 name:ByteArray
 vp:SV
 ps:List ByteArray
 vb:SV
 body:List Ty
def jI(f:Tf):List Value:= [.string f.name,sv f.vp,sv f.vb]
def TfIn(w:World)(F:Nat→Prop)(f:Tf):Prop:=SlIn' w F 1 eS (sv f.vp) f.ps∧(SlIn' w F 5 fK (sv f.vb) f.body∧TysIn w F f.body)
theorem TfIn.stable{w w':World}{F:Nat→Prop}{f:Tf}(h:TfIn w F f)(hs:∀b,F b→w'.heap[b]?=w.heap[b]?):TfIn w' F f:=⟨h.1.stable hs,h.2.1.stable hs,TysIn.mono (fun _ hb=>hb) hs _ h.2.2⟩
def dO(v:SV)(l:List Tf):Asn:=⟨fun w F=>SlIn' w F 3 jI (sv v) l∧∀f∈l,TfIn w F f,fun h hs=>⟨h.1.stable hs,fun f hf=>(h.2 f hf).stable hs⟩⟩
def EK(f:Tf):Asn:=⟨fun w F=>TfIn w F f,fun h hs=>h.stable hs⟩
theorem lL{v:SV}{l:List Tf}:∀w G,(dO v l).pred w G→(∀b,G b→b<w.heap.size)→∃G',(sl 3 jI (sv v) l).pred w G'∧∀b,G' b→G b:=fun w G h _=>h.1
theorem rh{v:SV}{l:List Tf}{f:Tf}(hf:f∈l):∀w G,(dO v l).pred w G→(∀b,G b→b<w.heap.size)→∃G',(EK f).pred w G'∧∀b,G' b→G b:=fun w G h _=>⟨G,h.2 f hf,fun _ hb=>hb⟩
theorem ri{f:Tf}:∀w G,(EK f).pred w G→(∀b,G b→b<w.heap.size)→∃G',(sl 1 eS (sv f.vp) f.ps).pred w G'∧∀b,G' b→G b:=fun w G h _=>h.1
theorem m_{f:Tf}:∀w G,(EK f).pred w G→(∀b,G b→b<w.heap.size)→∃G',(cm f.vb f.body).pred w G'∧∀b,G' b→G b:=fun w G h _=>⟨G,h.2,fun _ hb=>hb⟩
def wU(n:Int):Int:=IntKind.u32.wrap n
def tr(b:Bool):Int:=if b=true then 1 else 0
def dU:ByteArray:=⟨#[45]⟩
def rQ:ByteArray:=⟨#[126]⟩
def tt:ByteArray:=⟨#[33]⟩
def gg:ByteArray:=⟨#[43]⟩
def gT:ByteArray:=⟨#[42]⟩
def la:ByteArray:=⟨#[47]⟩
def lR:ByteArray:=⟨#[37]⟩
def fo:ByteArray:=⟨#[38]⟩
def kK:ByteArray:=⟨#[124]⟩
def fw:ByteArray:=⟨#[94]⟩
def gQ:ByteArray:=⟨#[60,60]⟩
def ib:ByteArray:=⟨#[62,62]⟩
def mx:ByteArray:=⟨#[60]⟩
def nP:ByteArray:=⟨#[60,61]⟩
def nQ:ByteArray:=⟨#[62]⟩
def oU:ByteArray:=⟨#[62,61]⟩
def nR:ByteArray:=⟨#[61,61]⟩
def nO:ByteArray:=⟨#[33,61]⟩
def OK(op:ByteArray)(a:Int):Option Int:=
 if op=dU then some (wU (-a))else if op=rQ then some (4294967295-a)else if op=tt then some (tr (decide (a=0)))else none
def Ot(op:ByteArray)(a b:Int):Option Int:=
 if op=gg then some (wU (a+b))else if op=dU then some (wU (a-b))else if op=gT then some (wU (a*b))else
 if op=la then some (if b=0 then 0 else a/b)else if op=lR then some (if b=0 then a else a%b)else
 if op=fo then some (bits .and .u32 a b)else if op=kK then some (bits .or .u32 a b)else if op=fw then some (bits .xor .u32 a b)else
 if op=gQ then some (wU (a*2^(b%32).toNat))else if op=ib then some (a/2^(b%32).toNat)else
 if op=mx then some (tr (decide (a<b)))else if op=nP then some (tr (decide (a≤b)))else if op=nQ then some (tr (decide (a>b)))else if op=oU then some (tr (decide (a≥b)))else
 if op=nR then some (tr (decide (a=b)))else if op=nO then some (tr (!decide (a=b)))else none
structure Ms where
 inp:List Int
 out:List Int
 mem:Nat→Int
 fuel:Int
inductive Re(α:Type) where
 | ok (a:α) (s:Ms)
 | err (e:Int)
abbrev Vs:=List (ByteArray×Int)
def sW(vs:Vs)(x:ByteArray):Int:=match vs.find? (fun p=>decide (p.1=x))with
 | some p=>p.2
 | none=>0
def g_(vs:Vs)(x:ByteArray)(n:Int):Vs:=(x,n)::vs.filter fun p=>decide (p.1≠x)
def jK(vs:Vs):List ByteArray→List Int→Vs
 | p::ps,a::al=>jK (g_ vs p a) ps al
 | _,_=>vs
def cV(fs:List Tf)(x:ByteArray):Option Tf:=fs.find? fun f=>decide (f.name=x)
def Gq(m:Nat→Int)(i:Nat)(v:Int):Nat→Int:=fun k=>if k=i then v else m k
mutual
def lX:Nat→List Tf→Nat→Vs→Tx→Ms→Option (Re Int)
 | 0,_,_,_,_,_=>none
 | g+1,fs,d,vs,t,s=>if s.fuel≤0 then some (.err 25)else
  match my g fs d vs [] t.kids {s with fuel:=s.fuel-1}with
  | none=>none
  | some (.err e)=>some (.err e)
  | some (.ok ks s1)=>
   if t.kind=1 then some (.ok t.n s1)else if t.kind=2 then some (.ok (sW vs t.name) s1)else
   if t.kind=4 then some (.ok (s1.mem (ks.getD 0 0%256).toNat) s1)else
   if t.kind=5 then(match s1.inp with
    | []=>some (.ok 0 s1)
    | a::r=>some (.ok a {s1 with inp:=r}))else
   if t.kind=6 then some (.ok ((OK t.name (ks.getD 0 0)).getD 0) s1)else if t.kind=7 then some (.ok ((Ot t.name (ks.getD 0 0) (ks.getD 1 0)).getD 0) s1)else
   match cV fs t.name with
   | none=>none
   | some f=>u0 g fs d f ks s1
def my:Nat→List Tf→Nat→Vs→List Int→List Tx→Ms→Option (Re (List Int))
 | 0,_,_,_,_,_,_=>none
 | _+1,_,_,_,acc,[],s=>some (.ok acc s)
 | g+1,fs,d,vs,acc,t::r,s=>match lX g fs d vs t s with
  | none=>none
  | some (.err e)=>some (.err e)
  | some (.ok v s1)=>my g fs d vs (acc++ [v]) r s1
def u0:Nat→List Tf→Nat→Tf→List Int→Ms→Option (Re Int)
 | 0,_,_,_,_,_=>none
 | g+1,fs,d,f,al,s=>if d=12 then some (.err 26)else
  match nS g fs (d+1) (jK [] f.ps al) f.body s with
  | none=>none
  | some (.err e)=>some (.err e)
  | some (.ok (_,r) s1)=>some (.ok (r.getD 0) s1)
def nS:Nat→List Tf→Nat→Vs→List Ty→Ms→Option (Re (Vs×Option Int))
 | 0,_,_,_,_,_=>none
 | _+1,_,_,vs,[],s=>some (.ok (vs,none) s)
 | g+1,fs,d,vs,t::r,s=>match rT g fs d vs t s with
  | none=>none
  | some (.err e)=>some (.err e)
  | some (.ok (vs1,some x) s1)=>some (.ok (vs1,some x) s1)
  | some (.ok (vs1,none) s1)=>nS g fs d vs1 r s1
def rT:Nat→List Tf→Nat→Vs→Ty→Ms→Option (Re (Vs×Option Int))
 | 0,_,_,_,_,_=>none
 | g+1,fs,d,vs,t,s=>if s.fuel≤0 then some (.err 25)else
  match t.es with
  | []=>none
  | e::es=>match lX g fs d vs e {s with fuel:=s.fuel-1}with
   | none=>none
   | some (.err e)=>some (.err e)
   | some (.ok v s1)=>
    if t.kind=1∨t.kind=2 then some (.ok (g_ vs t.name v,none) s1)else
    if t.kind=3 then(match es with
     | []=>none
     | e2::_=>match lX g fs d vs e2 s1 with
      | none=>none
      | some (.err e)=>some (.err e)
      | some (.ok w s2)=>some (.ok (vs,none) {s2 with mem:=Gq s2.mem (v%256).toNat w}))else
    if t.kind=4 then nS g fs d vs (if v=0 then t.els else t.body) s1 else
    if t.kind=5 then uZ g fs d vs e t.body v s1 else
    if t.kind=6 then some (.ok (vs,some v) s1)else if t.kind=7 then some (.ok (vs,none) {s1 with out:=s1.out++ [v]})else some (.ok (vs,none) s1)
def uZ:Nat→List Tf→Nat→Vs→Tx→List Ty→Int→Ms→Option (Re (Vs×Option Int))
 | 0,_,_,_,_,_,_,_=>none
 | g+1,fs,d,vs,e,l,v,s=>if v=0 then some (.ok (vs,none) s)else
  match nS g fs d vs l s with
  | none=>none
  | some (.err e)=>some (.err e)
  | some (.ok (vs1,some x) s1)=>some (.ok (vs1,some x) s1)
  | some (.ok (vs1,none) s1)=>match lX g fs d vs1 e s1 with
   | none=>none
   | some (.err e)=>some (.err e)
   | some (.ok w s2)=>uZ g fs d vs1 e l w s2
end
end Go.Proofs.YtedmdgbmdplifaaGreat
namespace Go.Proofs.YtedmdgbmdplifaaGreat
open Go.RowKit Tryz
theorem t1:TI prog 1 (.func #[] #[] Bool.false) (.nilFunc) 1 8:=⟨underlying1,by kernel_rfl⟩
theorem t3:TI prog 3 (.int .i64) (I6 0) 1 8:=⟨underlying3,by kernel_rfl⟩
theorem t4:TI prog 4 Go.TypeDesc.bool (.bool false) 1 1:=⟨underlying4,by kernel_rfl⟩
theorem t5:TI prog 5 (.int .u8) (.int .u8 0) 1 1:=⟨underlying5,by kernel_rfl⟩
theorem t9:TI prog 9 Go.TypeDesc.string (Sg ⟨#[]⟩) 1 16:=⟨underlying9,by kernel_rfl⟩
theorem Fa:TI prog 22 (.slice 3) (.slice none 0 0) 1 24:=⟨underlying22,by kernel_rfl⟩
theorem kJ:TI prog 25 (.slice 66) (.slice none 0 0) 1 24:=⟨underlying25,by kernel_rfl⟩
theorem mu:TI prog 27 (.struct #[⟨ "Funcs",25,0,false,"","",0⟩]) (.agg #[.slice none 0 0]) 1 24:=⟨underlying27,by kernel_rfl⟩
theorem fW:FO prog 27 0 0:=⟨_,_,0,underlying27,rfl,rfl,by kernel_rfl⟩
theorem S6:PL prog 27 [(0,1)]:=⟨_,underlying27,by kernel_rfl⟩
theorem uC:TI prog 31 (.struct #[⟨ "Kind",3,0,false,"","",0⟩,⟨ "Code",9,1,false,"","",8⟩]) (.agg #[I6 0,Sg ⟨#[]⟩]) 2 24:=⟨underlying31,by kernel_rfl⟩
theorem NZ:FO prog 31 0 0:=⟨_,_,0,underlying31,rfl,rfl,by kernel_rfl⟩
theorem mV:FO prog 31 1 1:=⟨_,_,0,underlying31,rfl,rfl,by kernel_rfl⟩
theorem MX:PL prog 31 [(0,1),(1,1)]:=⟨_,underlying31,by kernel_rfl⟩
theorem DE:TI prog 32 (.int .i64) (I6 0) 1 8:=⟨underlying32,by kernel_rfl⟩
theorem eA:TI prog 41 (.int .u32) (I3 0) 1 4:=⟨underlying41,by kernel_rfl⟩
theorem jT:TI prog 46 (.slice 9) (.slice none 0 0) 1 24:=⟨underlying46,by kernel_rfl⟩
theorem Iu:TI prog 48 (.slice 41) (.slice none 0 0) 1 24:=⟨underlying48,by kernel_rfl⟩
theorem BR:TI prog 53 (.struct #[⟨ "Kind",3,0,false,"","",0⟩,⟨ "Info",41,1,false,"","",8⟩]) (.agg #[I6 0,I3 0]) 2 16:=⟨underlying53,by kernel_rfl⟩
theorem tU:FO prog 53 0 0:=⟨_,_,0,underlying53,rfl,rfl,by kernel_rfl⟩
theorem Bb:FO prog 53 1 1:=⟨_,_,0,underlying53,rfl,rfl,by kernel_rfl⟩
theorem PK:PL prog 53 [(0,1),(1,1)]:=⟨_,underlying53,by kernel_rfl⟩
theorem DD:TI prog 55 (.struct #[⟨ "Outputs",48,0,false,"","",0⟩,⟨ "Mem",48,1,false,"","",24⟩,⟨ "End",53,2,false,"","",48⟩]) (.agg #[.slice none 0 0,.slice none 0 0,I6 0,I3 0]) 4 64:=⟨underlying55,by kernel_rfl⟩
theorem tT:FO prog 55 0 0:=⟨_,_,0,underlying55,rfl,rfl,by kernel_rfl⟩
theorem tS:FO prog 55 1 1:=⟨_,_,0,underlying55,rfl,rfl,by kernel_rfl⟩
theorem A_:FO prog 55 2 2:=⟨_,_,1,underlying55,rfl,rfl,by kernel_rfl⟩
theorem S5:PL prog 55 [(0,1),(1,1),(2,2)]:=⟨_,underlying55,by kernel_rfl⟩
theorem kc:TI prog 59 (.slice 61) (.slice none 0 0) 1 24:=⟨underlying59,by kernel_rfl⟩
theorem ci:TI prog 61 (.struct #[⟨ "Kind",3,0,false,"","",0⟩,⟨ "N",41,1,false,"","",8⟩,⟨ "Name",9,2,false,"","",16⟩,⟨ "Kids",59,3,false,"","",32⟩]) (.agg #[I6 0,I3 0,Sg ⟨#[]⟩,.slice none 0 0]) 4 56:=⟨underlying61,by kernel_rfl⟩
theorem jG:FO prog 61 0 0:=⟨_,_,0,underlying61,rfl,rfl,by kernel_rfl⟩
theorem xy:FO prog 61 1 1:=⟨_,_,0,underlying61,rfl,rfl,by kernel_rfl⟩
theorem di:FO prog 61 2 2:=⟨_,_,0,underlying61,rfl,rfl,by kernel_rfl⟩
theorem dq:FO prog 61 3 3:=⟨_,_,0,underlying61,rfl,rfl,by kernel_rfl⟩
theorem k9:PL prog 61 [(0,1),(1,1),(2,1),(3,1)]:=⟨_,underlying61,by kernel_rfl⟩
theorem kO:TI prog 62 (.slice 64) (.slice none 0 0) 1 24:=⟨underlying62,by kernel_rfl⟩
theorem dR:TI prog 64 (.struct #[⟨ "Kind",3,0,false,"","",0⟩,⟨ "Name",9,1,false,"","",8⟩,⟨ "Exprs",59,2,false,"","",24⟩,⟨ "Body",62,3,false,"","",48⟩,⟨ "Else",62,4,false,"","",72⟩]) (.agg #[I6 0,Sg ⟨#[]⟩,.slice none 0 0,.slice none 0 0,.slice none 0 0]) 5 96:=⟨underlying64,by kernel_rfl⟩
theorem fV:FO prog 64 0 0:=⟨_,_,0,underlying64,rfl,rfl,by kernel_rfl⟩
theorem kz:FO prog 64 1 1:=⟨_,_,0,underlying64,rfl,rfl,by kernel_rfl⟩
theorem jF:FO prog 64 2 2:=⟨_,_,0,underlying64,rfl,rfl,by kernel_rfl⟩
theorem gu:FO prog 64 3 3:=⟨_,_,0,underlying64,rfl,rfl,by kernel_rfl⟩
theorem g9:FO prog 64 4 4:=⟨_,_,0,underlying64,rfl,rfl,by kernel_rfl⟩
theorem mn:PL prog 64 [(0,1),(1,1),(2,1),(3,1),(4,1)]:=⟨_,underlying64,by kernel_rfl⟩
theorem gC:TI prog 66 (.struct #[⟨ "Name",9,0,false,"","",0⟩,⟨ "Params",46,1,false,"","",16⟩,⟨ "Body",62,2,false,"","",40⟩]) (.agg #[Sg ⟨#[]⟩,.slice none 0 0,.slice none 0 0]) 3 64:=⟨underlying66,by kernel_rfl⟩
theorem lW:FO prog 66 0 0:=⟨_,_,0,underlying66,rfl,rfl,by kernel_rfl⟩
theorem fj:FO prog 66 1 1:=⟨_,_,0,underlying66,rfl,rfl,by kernel_rfl⟩
theorem li:FO prog 66 2 2:=⟨_,_,0,underlying66,rfl,rfl,by kernel_rfl⟩
theorem PJ:PL prog 66 [(0,1),(1,1),(2,1)]:=⟨_,underlying66,by kernel_rfl⟩
theorem zL:TI prog 78 (.struct #[⟨ "PC",41,0,false,"","",0⟩,⟨ "R",75,1,false,"","",4⟩,⟨ "F",41,17,false,"","",68⟩,⟨ "C",76,18,false,"","",72⟩,⟨ "Steps",3,22,false,"","",88⟩,⟨ "Due",3,23,false,"","",96⟩]) (.agg #[I3 0,I3 0,I3 0,I3 0,I3 0,I3 0,I3 0,I3 0,I3 0,I3 0,I3 0,I3 0,I3 0,I3 0,I3 0,I3 0,I3 0,I3 0,I3 0,I3 0,I3 0,I3 0,I6 0,I6 0]) 24 104:=⟨underlying78,by kernel_rfl⟩
theorem jE:FO prog 78 0 0:=⟨_,_,0,underlying78,rfl,rfl,by kernel_rfl⟩
theorem iy:FO prog 78 1 1:=⟨_,_,15,underlying78,rfl,rfl,by kernel_rfl⟩
theorem NY:FO prog 78 2 17:=⟨_,_,0,underlying78,rfl,rfl,by kernel_rfl⟩
theorem jD:FO prog 78 4 22:=⟨_,_,0,underlying78,rfl,rfl,by kernel_rfl⟩
theorem xx:FO prog 78 5 23:=⟨_,_,0,underlying78,rfl,rfl,by kernel_rfl⟩
theorem S4:PL prog 78 [(0,1),(1,16),(17,1),(18,4),(22,1),(23,1)]:=⟨_,underlying78,by kernel_rfl⟩
theorem Ab:TI prog 84 (.slice 5) (.slice none 0 0) 1 24:=⟨underlying84,by kernel_rfl⟩
theorem yf:TI prog 91 (.pointer 157) (.pointer none) 1 8:=⟨underlying91,by kernel_rfl⟩
theorem Vg:TI prog 93 (.struct #[⟨ "S",78,0,false,"","",0⟩,⟨ "M",91,24,false,"","",104⟩]) (.agg #[I3 0,I3 0,I3 0,I3 0,I3 0,I3 0,I3 0,I3 0,I3 0,I3 0,I3 0,I3 0,I3 0,I3 0,I3 0,I3 0,I3 0,I3 0,I3 0,I3 0,I3 0,I3 0,I6 0,I6 0,.pointer none]) 25 112:=⟨underlying93,by kernel_rfl⟩
theorem eK:FO prog 93 0 0:=⟨_,_,23,underlying93,rfl,rfl,by kernel_rfl⟩
theorem gL:FO prog 93 1 24:=⟨_,_,0,underlying93,rfl,rfl,by kernel_rfl⟩
theorem S2:PL prog 93 [(0,24),(24,1)]:=⟨_,underlying93,by kernel_rfl⟩
theorem SI:TI prog 102 (.struct #[⟨ "l",22,0,false,"","babel/babelref08",0⟩,⟨ "at",3,1,false,"","babel/babelref08",24⟩,⟨ "left",3,2,false,"","babel/babelref08",32⟩,⟨ "nodes",3,3,false,"","babel/babelref08",40⟩,⟨ "names",46,4,false,"","babel/babelref08",48⟩,⟨ "vars",3,5,false,"","babel/babelref08",72⟩,⟨ "me",3,6,false,"","babel/babelref08",80⟩,⟨ "funcs",25,7,false,"","babel/babelref08",88⟩]) (.agg #[.slice none 0 0,I6 0,I6 0,I6 0,.slice none 0 0,I6 0,I6 0,.slice none 0 0]) 8 112:=⟨underlying102,by kernel_rfl⟩
theorem C4:FO prog 102 0 0:=⟨_,_,0,underlying102,rfl,rfl,by kernel_rfl⟩
theorem sK:FO prog 102 1 1:=⟨_,_,0,underlying102,rfl,rfl,by kernel_rfl⟩
theorem sJ:FO prog 102 2 2:=⟨_,_,0,underlying102,rfl,rfl,by kernel_rfl⟩
theorem sI:FO prog 102 3 3:=⟨_,_,0,underlying102,rfl,rfl,by kernel_rfl⟩
theorem gB:FO prog 102 4 4:=⟨_,_,0,underlying102,rfl,rfl,by kernel_rfl⟩
theorem jX:FO prog 102 5 5:=⟨_,_,0,underlying102,rfl,rfl,by kernel_rfl⟩
theorem fe:FO prog 102 6 6:=⟨_,_,0,underlying102,rfl,rfl,by kernel_rfl⟩
theorem dx:FO prog 102 7 7:=⟨_,_,0,underlying102,rfl,rfl,by kernel_rfl⟩
theorem PS:PL prog 102 [(0,1),(1,1),(2,1),(3,1),(4,1),(5,1),(6,1),(7,1)]:=⟨_,underlying102,by kernel_rfl⟩
theorem mG:TI prog 104 (.pointer 111) (.pointer none) 1 8:=⟨underlying104,by kernel_rfl⟩
theorem Fb:TI prog 105 (.map 9 3) (.map none) 1 8:=⟨underlying105,by kernel_rfl⟩
theorem DJ:TI prog 106 (.slice 118) (.slice none 0 0) 1 24:=⟨underlying106,by kernel_rfl⟩
theorem IY:TI prog 107 (.slice 171) (.slice none 0 0) 1 24:=⟨underlying107,by kernel_rfl⟩
theorem DI:TI prog 108 (.map 9 41) (.map none) 1 8:=⟨underlying108,by kernel_rfl⟩
theorem Pm:TI prog 109 (.map 9 1) (.map none) 1 8:=⟨underlying109,by kernel_rfl⟩
theorem SH:TI prog 111 (.struct #[⟨ "p",27,0,false,"","babel/qgen",0⟩,⟨ "code",106,1,false,"","babel/qgen",24⟩,⟨ "fixes",107,2,false,"","babel/qgen",48⟩,⟨ "labels",22,3,false,"","babel/qgen",72⟩,⟨ "starts",105,4,false,"","babel/qgen",96⟩,⟨ "offs",108,5,false,"","babel/qgen",104⟩,⟨ "ops",109,6,false,"","babel/qgen",112⟩,⟨ "end",3,7,false,"","babel/qgen",120⟩]) (.agg #[.slice none 0 0,.slice none 0 0,.slice none 0 0,.slice none 0 0,.map none,.map none,.map none,I6 0]) 8 128:=⟨underlying111,by kernel_rfl⟩
theorem nF:FO prog 111 1 1:=⟨_,_,0,underlying111,rfl,rfl,by kernel_rfl⟩
theorem sH:FO prog 111 2 2:=⟨_,_,0,underlying111,rfl,rfl,by kernel_rfl⟩
theorem qh:FO prog 111 3 3:=⟨_,_,0,underlying111,rfl,rfl,by kernel_rfl⟩
theorem qg:FO prog 111 4 4:=⟨_,_,0,underlying111,rfl,rfl,by kernel_rfl⟩
theorem nD:FO prog 111 5 5:=⟨_,_,0,underlying111,rfl,rfl,by kernel_rfl⟩
theorem C3:FO prog 111 6 6:=⟨_,_,0,underlying111,rfl,rfl,by kernel_rfl⟩
theorem xC:FO prog 111 7 7:=⟨_,_,0,underlying111,rfl,rfl,by kernel_rfl⟩
theorem PQ:PL prog 111 [(0,1),(1,1),(2,1),(3,1),(4,1),(5,1),(6,1),(7,1)]:=⟨_,underlying111,by kernel_rfl⟩
theorem fF:TI prog 118 (.struct #[⟨ "Op",3,0,false,"","",0⟩,⟨ "D",3,1,false,"","",8⟩,⟨ "A",3,2,false,"","",16⟩,⟨ "B",3,3,false,"","",24⟩,⟨ "Imm",41,4,false,"","",32⟩]) (.agg #[I6 0,I6 0,I6 0,I6 0,I3 0]) 5 40:=⟨underlying118,by kernel_rfl⟩
theorem ct:FO prog 118 0 0:=⟨_,_,0,underlying118,rfl,rfl,by kernel_rfl⟩
theorem iq:FO prog 118 1 1:=⟨_,_,0,underlying118,rfl,rfl,by kernel_rfl⟩
theorem nC:FO prog 118 2 2:=⟨_,_,0,underlying118,rfl,rfl,by kernel_rfl⟩
theorem nA:FO prog 118 3 3:=⟨_,_,0,underlying118,rfl,rfl,by kernel_rfl⟩
theorem ef:FO prog 118 4 4:=⟨_,_,0,underlying118,rfl,rfl,by kernel_rfl⟩
theorem nZ:PL prog 118 [(0,1),(1,1),(2,1),(3,1),(4,1)]:=⟨_,underlying118,by kernel_rfl⟩
theorem DH:TI prog 157 (.struct #[⟨ "Data",84,0,false,"","",0⟩,⟨ "Image",84,1,false,"","",24⟩,⟨ "OldData",84,2,false,"","",48⟩,⟨ "OldImage",84,3,false,"","",72⟩,⟨ "Rights",22,4,false,"","",96⟩,⟨ "Coherent",4,5,false,"","",120⟩]) (.agg #[.slice none 0 0,.slice none 0 0,.slice none 0 0,.slice none 0 0,.slice none 0 0,.bool false]) 6 128:=⟨underlying157,by kernel_rfl⟩
theorem nz:FO prog 157 0 0:=⟨_,_,0,underlying157,rfl,rfl,by kernel_rfl⟩
theorem sG:FO prog 157 1 1:=⟨_,_,0,underlying157,rfl,rfl,by kernel_rfl⟩
theorem Kx:FO prog 157 3 3:=⟨_,_,0,underlying157,rfl,rfl,by kernel_rfl⟩
theorem sF:FO prog 157 4 4:=⟨_,_,0,underlying157,rfl,rfl,by kernel_rfl⟩
theorem xB:FO prog 157 5 5:=⟨_,_,0,underlying157,rfl,rfl,by kernel_rfl⟩
theorem vw:PL prog 157 [(0,1),(1,1),(2,1),(3,1),(4,1),(5,1)]:=⟨_,underlying157,by kernel_rfl⟩
theorem SG:TI prog 165 (.struct #[⟨ "p",27,0,false,"","babel/syntax",0⟩,⟨ "names",46,1,false,"","babel/syntax",24⟩,⟨ "nodes",3,2,false,"","babel/syntax",48⟩,⟨ "vars",3,3,false,"","babel/syntax",56⟩,⟨ "deep",4,4,false,"","babel/syntax",64⟩,⟨ "err",32,5,false,"","babel/syntax",72⟩]) (.agg #[.slice none 0 0,.slice none 0 0,I6 0,I6 0,.bool false,I6 0]) 6 80:=⟨underlying165,by kernel_rfl⟩
theorem C2:FO prog 165 0 0:=⟨_,_,0,underlying165,rfl,rfl,by kernel_rfl⟩
theorem qf:FO prog 165 1 1:=⟨_,_,0,underlying165,rfl,rfl,by kernel_rfl⟩
theorem ny:FO prog 165 2 2:=⟨_,_,0,underlying165,rfl,rfl,by kernel_rfl⟩
theorem sE:FO prog 165 3 3:=⟨_,_,0,underlying165,rfl,rfl,by kernel_rfl⟩
theorem qe:FO prog 165 4 4:=⟨_,_,0,underlying165,rfl,rfl,by kernel_rfl⟩
theorem xA:FO prog 165 5 5:=⟨_,_,0,underlying165,rfl,rfl,by kernel_rfl⟩
theorem PP:PL prog 165 [(0,1),(1,1),(2,1),(3,1),(4,1),(5,1)]:=⟨_,underlying165,by kernel_rfl⟩
theorem Ad:TI prog 171 (.struct #[⟨ "at",3,0,false,"","babel/qgen",0⟩,⟨ "label",3,1,false,"","babel/qgen",8⟩]) (.agg #[I6 0,I6 0]) 2 16:=⟨underlying171,by kernel_rfl⟩
theorem C1:FO prog 171 0 0:=⟨_,_,0,underlying171,rfl,rfl,by kernel_rfl⟩
theorem Kw:FO prog 171 1 1:=⟨_,_,0,underlying171,rfl,rfl,by kernel_rfl⟩
theorem PO:PL prog 171 [(0,1),(1,1)]:=⟨_,underlying171,by kernel_rfl⟩
theorem Mz:TI prog 175 (.pointer 177) (.pointer none) 1 8:=⟨underlying175,by kernel_rfl⟩
theorem IX:TI prog 177 (.struct #[⟨ "addr",175,0,false,"","strings",0⟩,⟨ "buf",84,1,false,"","strings",8⟩]) (.agg #[.pointer none,.slice none 0 0]) 2 32:=⟨underlying177,by kernel_rfl⟩
theorem xz:FO prog 177 0 0:=⟨_,_,0,underlying177,rfl,rfl,by kernel_rfl⟩
theorem sy:FO prog 177 1 1:=⟨_,_,0,underlying177,rfl,rfl,by kernel_rfl⟩
theorem qF:TI prog 192 (.slice 197) (.slice none 0 0) 1 24:=⟨underlying192,by kernel_rfl⟩
theorem SF:TI prog 195 (.struct #[⟨ "l",192,0,false,"","babel/babelref08",0⟩,⟨ "at",3,1,false,"","babel/babelref08",24⟩,⟨ "off",3,2,false,"","babel/babelref08",32⟩,⟨ "err",32,3,false,"","babel/babelref08",40⟩]) (.agg #[.slice none 0 0,I6 0,I6 0,I6 0]) 4 48:=⟨underlying195,by kernel_rfl⟩
theorem gV:FO prog 195 0 0:=⟨_,_,0,underlying195,rfl,rfl,by kernel_rfl⟩
theorem cg:FO prog 195 1 1:=⟨_,_,0,underlying195,rfl,rfl,by kernel_rfl⟩
theorem jk:FO prog 195 3 3:=⟨_,_,0,underlying195,rfl,rfl,by kernel_rfl⟩
theorem PN:PL prog 195 [(0,1),(1,1),(2,1),(3,1)]:=⟨_,underlying195,by kernel_rfl⟩
theorem fh:TI prog 197 (.struct #[⟨ "Kind",3,0,false,"","",0⟩,⟨ "Text",9,1,false,"","",8⟩,⟨ "N",41,2,false,"","",24⟩,⟨ "Big",4,3,false,"","",28⟩,⟨ "At",3,4,false,"","",32⟩]) (.agg #[I6 0,Sg ⟨#[]⟩,I3 0,.bool false,I6 0]) 5 40:=⟨underlying197,by kernel_rfl⟩
theorem eL:FO prog 197 0 0:=⟨_,_,0,underlying197,rfl,rfl,by kernel_rfl⟩
theorem ez:FO prog 197 1 1:=⟨_,_,0,underlying197,rfl,rfl,by kernel_rfl⟩
theorem C0:FO prog 197 2 2:=⟨_,_,0,underlying197,rfl,rfl,by kernel_rfl⟩
theorem CZ:FO prog 197 3 3:=⟨_,_,0,underlying197,rfl,rfl,by kernel_rfl⟩
theorem K_:PL prog 197 [(0,1),(1,1),(2,1),(3,1),(4,1)]:=⟨_,underlying197,by kernel_rfl⟩
theorem nJ:TI prog 207 (.struct #[⟨ "S",78,0,false,"","",0⟩,⟨ "T",53,24,false,"","",104⟩]) (.agg #[I3 0,I3 0,I3 0,I3 0,I3 0,I3 0,I3 0,I3 0,I3 0,I3 0,I3 0,I3 0,I3 0,I3 0,I3 0,I3 0,I3 0,I3 0,I3 0,I3 0,I3 0,I3 0,I6 0,I6 0,I6 0,I3 0]) 26 120:=⟨underlying207,by kernel_rfl⟩
theorem CY:FO prog 207 0 0:=⟨_,_,23,underlying207,rfl,rfl,by kernel_rfl⟩
theorem sw:FO prog 207 1 24:=⟨_,_,1,underlying207,rfl,rfl,by kernel_rfl⟩
theorem K9:PL prog 207 [(0,24),(24,2)]:=⟨_,underlying207,by kernel_rfl⟩
theorem jA:TI prog 219 (.struct #[⟨ "known",4,0,false,"","babel/qcode",0⟩,⟨ "d",4,1,false,"","babel/qcode",1⟩,⟨ "a",4,2,false,"","babel/qcode",2⟩,⟨ "b",4,3,false,"","babel/qcode",3⟩,⟨ "kind",3,4,false,"","babel/qcode",8⟩,⟨ "bits",3,5,false,"","babel/qcode",16⟩,⟨ "most",41,6,false,"","babel/qcode",24⟩]) (.agg #[.bool false,.bool false,.bool false,.bool false,I6 0,I6 0,I3 0]) 7 32:=⟨underlying219,by kernel_rfl⟩
theorem CX:FO prog 219 0 0:=⟨_,_,0,underlying219,rfl,rfl,by kernel_rfl⟩
theorem Ku:FO prog 219 1 1:=⟨_,_,0,underlying219,rfl,rfl,by kernel_rfl⟩
theorem Kt:FO prog 219 2 2:=⟨_,_,0,underlying219,rfl,rfl,by kernel_rfl⟩
theorem Ks:FO prog 219 3 3:=⟨_,_,0,underlying219,rfl,rfl,by kernel_rfl⟩
theorem CW:FO prog 219 4 4:=⟨_,_,0,underlying219,rfl,rfl,by kernel_rfl⟩
theorem CV:FO prog 219 5 5:=⟨_,_,0,underlying219,rfl,rfl,by kernel_rfl⟩
theorem Ke:FT prog 219 5 5 3:=⟨_,_,underlying219,rfl,rfl,rfl⟩
theorem CU:FO prog 219 6 6:=⟨_,_,0,underlying219,rfl,rfl,by kernel_rfl⟩
theorem mf:PL prog 219 [(0,1),(1,1),(2,1),(3,1),(4,1),(5,1),(6,1)]:=⟨_,underlying219,by kernel_rfl⟩
theorem DG:TI prog 236 (.struct #[⟨ "I",118,0,false,"","",0⟩,⟨ "T",53,5,false,"","",40⟩]) (.agg #[I6 0,I6 0,I6 0,I6 0,I3 0,I6 0,I3 0]) 7 56:=⟨underlying236,by kernel_rfl⟩
theorem Kq:FO prog 236 0 0:=⟨_,_,4,underlying236,rfl,rfl,by kernel_rfl⟩
theorem Ko:FO prog 236 1 5:=⟨_,_,1,underlying236,rfl,rfl,by kernel_rfl⟩
theorem PM:PL prog 236 [(0,5),(5,2)]:=⟨_,underlying236,by kernel_rfl⟩
theorem jo:TI prog 241 (.struct #[⟨ "V",41,0,false,"","",0⟩,⟨ "At",41,1,false,"","",4⟩,⟨ "Ok",4,2,false,"","",8⟩]) (.agg #[I3 0,I3 0,.bool false]) 3 12:=⟨underlying241,by kernel_rfl⟩
theorem ss:FO prog 241 0 0:=⟨_,_,0,underlying241,rfl,rfl,by kernel_rfl⟩
theorem qd:FO prog 241 2 2:=⟨_,_,0,underlying241,rfl,rfl,by kernel_rfl⟩
theorem K8:PL prog 241 [(0,1),(1,1),(2,1)]:=⟨_,underlying241,by kernel_rfl⟩
theorem ge:TI prog 275 (.struct #[⟨ "Is",4,0,false,"","",0⟩,⟨ "D",4,1,false,"","",1⟩,⟨ "A",4,2,false,"","",2⟩,⟨ "B",4,3,false,"","",3⟩,⟨ "Signed",4,4,false,"","",4⟩,⟨ "Bits",3,5,false,"","",8⟩,⟨ "Most",41,6,false,"","",16⟩]) (.agg #[.bool false,.bool false,.bool false,.bool false,.bool false,I6 0,I3 0]) 7 24:=⟨underlying275,by kernel_rfl⟩
theorem Kn:FO prog 275 0 0:=⟨_,_,0,underlying275,rfl,rfl,by kernel_rfl⟩
theorem CT:FO prog 275 1 1:=⟨_,_,0,underlying275,rfl,rfl,by kernel_rfl⟩
theorem CS:FO prog 275 2 2:=⟨_,_,0,underlying275,rfl,rfl,by kernel_rfl⟩
theorem CQ:FO prog 275 3 3:=⟨_,_,0,underlying275,rfl,rfl,by kernel_rfl⟩
theorem CO:FO prog 275 4 4:=⟨_,_,0,underlying275,rfl,rfl,by kernel_rfl⟩
theorem nw:FO prog 275 5 5:=⟨_,_,0,underlying275,rfl,rfl,by kernel_rfl⟩
theorem Kd:FT prog 275 5 5 3:=⟨_,_,underlying275,rfl,rfl,rfl⟩
theorem CN:FO prog 275 6 6:=⟨_,_,0,underlying275,rfl,rfl,by kernel_rfl⟩
theorem mL:PL prog 275 [(0,1),(1,1),(2,1),(3,1),(4,1),(5,1),(6,1)]:=⟨_,underlying275,by kernel_rfl⟩
theorem DF:TI prog 281 (.array 2 118) (.agg #[I6 0,I6 0,I6 0,I6 0,I3 0,I6 0,I6 0,I6 0,I6 0,I3 0]) 10 80:=⟨underlying281,by kernel_rfl⟩
theorem Uy:Cb prog 12:=⟨_,func12,by decide,rfl⟩
theorem Rz:Cb prog 14:=⟨_,func14,by decide,rfl⟩
theorem HV:Cb prog 15:=⟨_,func15,by decide,rfl⟩
theorem Ux:Cb prog 17:=⟨_,func17,by decide,rfl⟩
theorem Uw:Cb prog 18:=⟨_,func18,by decide,rfl⟩
theorem KI:Cb prog 19:=⟨_,func19,by decide,rfl⟩
theorem Uv:Cb prog 20:=⟨_,func20,by decide,rfl⟩
theorem KH:Cb prog 21:=⟨_,func21,by decide,rfl⟩
theorem Uu:Cb prog 24:=⟨_,func24,by decide,rfl⟩
theorem On:Cb prog 25:=⟨_,func25,by decide,rfl⟩
theorem Ut:Cb prog 34:=⟨_,func34,by decide,rfl⟩
theorem QV:Cb prog 35:=⟨_,func35,by decide,rfl⟩
theorem Us:Cb prog 37:=⟨_,func37,by decide,rfl⟩
theorem Ur:Cb prog 38:=⟨_,func38,by decide,rfl⟩
theorem Uq:Cb prog 39:=⟨_,func39,by decide,rfl⟩
theorem KG:Cb prog 41:=⟨_,func41,by decide,rfl⟩
theorem Up:Cb prog 43:=⟨_,func43,by decide,rfl⟩
theorem QU:Cb prog 44:=⟨_,func44,by decide,rfl⟩
theorem lC:Cb prog 46:=⟨_,func46,by decide,rfl⟩
theorem KF:Cb prog 47:=⟨_,func47,by decide,rfl⟩
theorem Uo:Cb prog 48:=⟨_,func48,by decide,rfl⟩
theorem Un:Cb prog 49:=⟨_,func49,by decide,rfl⟩
theorem xJ:Cb prog 50:=⟨_,func50,by decide,rfl⟩
theorem kM:Cb prog 51:=⟨_,func51,by decide,rfl⟩
theorem u7:Cb prog 52:=⟨_,func52,by decide,rfl⟩
theorem zw:Cb prog 53:=⟨_,func53,by decide,rfl⟩
theorem Um:Cb prog 54:=⟨_,func54,by decide,rfl⟩
theorem Ul:Cb prog 55:=⟨_,func55,by decide,rfl⟩
theorem Uk:Cb prog 56:=⟨_,func56,by decide,rfl⟩
theorem HP:Cb prog 59:=⟨_,func59,by decide,rfl⟩
theorem Ol:Cb prog 61:=⟨_,func61,by decide,rfl⟩
theorem Uj:Cb prog 62:=⟨_,func62,by decide,rfl⟩
theorem Ui:Cb prog 63:=⟨_,func63,by decide,rfl⟩
theorem Uh:Cb prog 65:=⟨_,func65,by decide,rfl⟩
theorem Ug:Cb prog 66:=⟨_,func66,by decide,rfl⟩
theorem Uf:Cb prog 74:=⟨_,func74,by decide,rfl⟩
theorem HO:Cb prog 75:=⟨_,func75,by decide,rfl⟩
theorem Ue:Cb prog 76:=⟨_,func76,by decide,rfl⟩
theorem Ud:Cb prog 77:=⟨_,func77,by decide,rfl⟩
theorem oR:Cb prog 79:=⟨_,func79,by decide,rfl⟩
theorem QT:Cb prog 80:=⟨_,func80,by decide,rfl⟩
theorem Uc:Cb prog 81:=⟨_,func81,by decide,rfl⟩
theorem Oj:Cb prog 82:=⟨_,func82,by decide,rfl⟩
theorem Ub:Cb prog 83:=⟨_,func83,by decide,rfl⟩
theorem u6:Cb prog 84:=⟨_,func84,by decide,rfl⟩
theorem u5:Cb prog 85:=⟨_,func85,by decide,rfl⟩
theorem oQ:Cb prog 86:=⟨_,func86,by decide,rfl⟩
theorem QS:Cb prog 87:=⟨_,func87,by decide,rfl⟩
theorem Oi:Cb prog 88:=⟨_,func88,by decide,rfl⟩
theorem Oh:Cb prog 89:=⟨_,func89,by decide,rfl⟩
theorem QR:Cb prog 90:=⟨_,func90,by decide,rfl⟩
theorem Ua:Cb prog 91:=⟨_,func91,by decide,rfl⟩
theorem uj:Cb prog 92:=⟨_,func92,by decide,rfl⟩
theorem T_:Cb prog 93:=⟨_,func93,by decide,rfl⟩
theorem Og:Cb prog 94:=⟨_,func94,by decide,rfl⟩
theorem ED:Cb prog 95:=⟨_,func95,by decide,rfl⟩
theorem HN:Cb prog 96:=⟨_,func96,by decide,rfl⟩
theorem KE:Cb prog 97:=⟨_,func97,by decide,rfl⟩
theorem T9:Cb prog 98:=⟨_,func98,by decide,rfl⟩
theorem T8:Cb prog 99:=⟨_,func99,by decide,rfl⟩
theorem RN:Cb prog 100:=⟨_,func100,by decide,rfl⟩
theorem RM:Cb prog 101:=⟨_,func101,by decide,rfl⟩
theorem Dn:Cb prog 102:=⟨_,func102,by decide,rfl⟩
theorem Ib:Cb prog 103:=⟨_,func103,by decide,rfl⟩
theorem L8:Cb prog 107:=⟨_,func107,by decide,rfl⟩
theorem RL:Cb prog 108:=⟨_,func108,by decide,rfl⟩
theorem kZ:Cb prog 109:=⟨_,func109,by decide,rfl⟩
theorem Ia:Cb prog 110:=⟨_,func110,by decide,rfl⟩
theorem rJ:Cb prog 111:=⟨_,func111,by decide,rfl⟩
theorem Dm:Cb prog 112:=⟨_,func112,by decide,rfl⟩
theorem Dl:Cb prog 113:=⟨_,func113,by decide,rfl⟩
theorem L7:Cb prog 115:=⟨_,func115,by decide,rfl⟩
theorem RK:Cb prog 117:=⟨_,func117,by decide,rfl⟩
theorem RJ:Cb prog 118:=⟨_,func118,by decide,rfl⟩
theorem RI:Cb prog 119:=⟨_,func119,by decide,rfl⟩
theorem RH:Cb prog 120:=⟨_,func120,by decide,rfl⟩
theorem RG:Cb prog 121:=⟨_,func121,by decide,rfl⟩
theorem zy:Cb prog 122:=⟨_,func122,by decide,rfl⟩
theorem H_:Cb prog 123:=⟨_,func123,by decide,rfl⟩
theorem L6:Cb prog 124:=⟨_,func124,by decide,rfl⟩
theorem RF:Cb prog 125:=⟨_,func125,by decide,rfl⟩
theorem HZ:Cb prog 126:=⟨_,func126,by decide,rfl⟩
theorem zx:Cb prog 127:=⟨_,func127,by decide,rfl⟩
theorem L5:Cb prog 128:=⟨_,func128,by decide,rfl⟩
theorem HY:Cb prog 129:=⟨_,func129,by decide,rfl⟩
theorem RE:Cb prog 130:=⟨_,func130,by decide,rfl⟩
theorem RD:Cb prog 131:=⟨_,func131,by decide,rfl⟩
theorem L4:Cb prog 132:=⟨_,func132,by decide,rfl⟩
theorem RC:Cb prog 133:=⟨_,func133,by decide,rfl⟩
theorem L3:Cb prog 134:=⟨_,func134,by decide,rfl⟩
theorem Dk:Cb prog 135:=⟨_,func135,by decide,rfl⟩
theorem Dj:Cb prog 136:=⟨_,func136,by decide,rfl⟩
theorem L0:Cb prog 137:=⟨_,func137,by decide,rfl⟩
theorem RB:Cb prog 138:=⟨_,func138,by decide,rfl⟩
theorem RA:Cb prog 139:=⟨_,func139,by decide,rfl⟩
theorem LZ:Cb prog 141:=⟨_,func141,by decide,rfl⟩
theorem Ry:Cb prog 142:=⟨_,func142,by decide,rfl⟩
theorem Di:Cb prog 143:=⟨_,func143,by decide,rfl⟩
theorem rI:Cb prog 144:=⟨_,func144,by decide,rfl⟩
theorem Rx:Cb prog 147:=⟨_,func147,by decide,rfl⟩
theorem Rw:Cb prog 148:=⟨_,func148,by decide,rfl⟩
theorem LY:Cb prog 149:=⟨_,func149,by decide,rfl⟩
theorem Rv:Cb prog 150:=⟨_,func150,by decide,rfl⟩
theorem Rt:Cb prog 151:=⟨_,func151,by decide,rfl⟩
theorem Rs:Cb prog 152:=⟨_,func152,by decide,rfl⟩
theorem LX:Cb prog 153:=⟨_,func153,by decide,rfl⟩
theorem Rr:Cb prog 154:=⟨_,func154,by decide,rfl⟩
theorem Dh:Cb prog 155:=⟨_,func155,by decide,rfl⟩
theorem Rq:Cb prog 156:=⟨_,func156,by decide,rfl⟩
theorem LW:Cb prog 157:=⟨_,func157,by decide,rfl⟩
theorem Rp:Cb prog 158:=⟨_,func158,by decide,rfl⟩
theorem Ro:Cb prog 159:=⟨_,func159,by decide,rfl⟩
theorem Rn:Cb prog 160:=⟨_,func160,by decide,rfl⟩
theorem Rm:Cb prog 161:=⟨_,func161,by decide,rfl⟩
theorem Rj:Cb prog 162:=⟨_,func162,by decide,rfl⟩
theorem Rh:Cb prog 163:=⟨_,func163,by decide,rfl⟩
theorem LV:Cb prog 164:=⟨_,func164,by decide,rfl⟩
theorem LU:Cb prog 165:=⟨_,func165,by decide,rfl⟩
theorem LT:Cb prog 166:=⟨_,func166,by decide,rfl⟩
theorem uk:Cb prog 167:=⟨_,func167,by decide,rfl⟩
theorem LS:Cb prog 168:=⟨_,func168,by decide,rfl⟩
theorem HU:Cb prog 169:=⟨_,func169,by decide,rfl⟩
theorem Rg:Cb prog 170:=⟨_,func170,by decide,rfl⟩
theorem Rf:Cb prog 171:=⟨_,func171,by decide,rfl⟩
theorem Dg:Cb prog 173:=⟨_,func173,by decide,rfl⟩
theorem Rd:Cb prog 174:=⟨_,func174,by decide,rfl⟩
theorem mj:Cb prog 175:=⟨_,func175,by decide,rfl⟩
theorem LR:Cb prog 176:=⟨_,func176,by decide,rfl⟩
theorem HT:Cb prog 177:=⟨_,func177,by decide,rfl⟩
theorem Rc:Cb prog 179:=⟨_,func179,by decide,rfl⟩
theorem Rb:Cb prog 180:=⟨_,func180,by decide,rfl⟩
theorem Ra:Cb prog 182:=⟨_,func182,by decide,rfl⟩
theorem LQ:Cb prog 183:=⟨_,func183,by decide,rfl⟩
theorem Q_:Cb prog 184:=⟨_,func184,by decide,rfl⟩
theorem Q9:Cb prog 185:=⟨_,func185,by decide,rfl⟩
theorem LP:Cb prog 186:=⟨_,func186,by decide,rfl⟩
theorem Q8:Cb prog 187:=⟨_,func187,by decide,rfl⟩
theorem LO:Cb prog 188:=⟨_,func188,by decide,rfl⟩
theorem Q7:Cb prog 189:=⟨_,func189,by decide,rfl⟩
theorem LN:Cb prog 190:=⟨_,func190,by decide,rfl⟩
theorem mX:Cb prog 191:=⟨_,func191,by decide,rfl⟩
theorem LM:Cb prog 192:=⟨_,func192,by decide,rfl⟩
theorem LL:Cb prog 193:=⟨_,func193,by decide,rfl⟩
theorem LK:Cb prog 196:=⟨_,func196,by decide,rfl⟩
theorem HR:Cb prog 197:=⟨_,func197,by decide,rfl⟩
theorem LJ:Cb prog 198:=⟨_,func198,by decide,rfl⟩
theorem Q6:Cb prog 199:=⟨_,func199,by decide,rfl⟩
theorem Q5:Cb prog 200:=⟨_,func200,by decide,rfl⟩
theorem Q4:Cb prog 201:=⟨_,func201,by decide,rfl⟩
theorem Q3:Cb prog 202:=⟨_,func202,by decide,rfl⟩
theorem Q1:Cb prog 203:=⟨_,func203,by decide,rfl⟩
theorem Q0:Cb prog 204:=⟨_,func204,by decide,rfl⟩
theorem QZ:Cb prog 205:=⟨_,func205,by decide,rfl⟩
theorem QY:Cb prog 209:=⟨_,func209,by decide,rfl⟩
theorem QX:Cb prog 210:=⟨_,func210,by decide,rfl⟩
theorem HQ:Cb prog 212:=⟨_,func212,by decide,rfl⟩
theorem QW:Cb prog 213:=⟨_,func213,by decide,rfl⟩
end Go.Proofs.YtedmdgbmdplifaaGreat
namespace Go.Proofs.YtedmdgbmdplifaaGreat
open Go.RowKit Tryz
section
end
theorem fz:KeyLaw prog 9 ie:=JR underlying9
abbrev oW(n:Int):Prop:=0≤n∧n<4294967296
mutual
def VX(fs:List Tf):Tx→Prop
 | .mk k n nm _ kids=>oW n∧kids.length≤1000000∧(k=4→1≤kids.length)∧(k=6→1≤kids.length∧∀a,(OK nm a).isSome=true)∧(k=7→2≤kids.length∧∀a b,(Ot nm a b).isSome=true)∧
   (k≠1→k≠2→k≠4→k≠5→k≠6→k≠7→∃f,cV fs nm=some f∧kids.length≤f.ps.length)∧OE fs kids
def OE(fs:List Tf):List Tx→Prop
 | []=>True
 | t::r=>VX fs t∧OE fs r
end
mutual
def VY(fs:List Tf):Ty→Prop
 | .mk k _ _ es _ body _ els=>(1≤es.length∧es.length≤1000000∧(k=3→2≤es.length)∧OE fs es)∧(body.length≤1000000∧Mb fs body)∧(els.length≤1000000∧Mb fs els)
def Mb(fs:List Tf):List Ty→Prop
 | []=>True
 | t::r=>VY fs t∧Mb fs r
end
def VF(fs:List Tf):Prop:=∀f∈fs,f.ps.length≤1000000∧f.body.length≤1000000∧Mb fs f.body
def okVs(vs:Vs):Prop:=∀p∈vs,oW p.2
structure okMs(s:Ms):Prop where
 inp:∀x∈s.inp,oW x
 mem:∀i,oW (s.mem i)
 fuel:s.fuel<9223372036854775808
 out:(s.out.length:Int)+max s.fuel 0≤1000000000000
theorem okVs.get{vs:Vs}(h:okVs vs)(x:Ba):oW (sW vs x):=by
 unfold sW;cases hf:vs.find? (fun p=>decide (p.1=x))with
 | none=>exact⟨Int.le_refl _,by show(0:Int)<4294967296;decide⟩
 | some p=>exact h p (List.mem_of_find?_eq_some hf)
theorem okVs.put{vs:Vs}(h:okVs vs)(x:Ba){n:Int}(hn:oW n):okVs (g_ vs x n):=fun p hp=>by
 rcases List.mem_cons.1 hp with rfl|hp
 ·exact hn
 ·exact h p (List.mem_filter.1 hp).1
theorem okVs.bind:∀{vs:Vs}(ps:List Ba)(al:List Int),okVs vs→(∀a∈al,oW a)→okVs (jK vs ps al)
 | vs,p::ps,a::al,h,ha=>okVs.bind ps al (h.put p (ha a (by simp))) fun b hb=>ha b (by simp [hb])
 | vs,[],al,h,_=>by unfold jK;exact h
 | vs,p::ps,[],h,_=>by unfold jK;exact h
theorem nN:oW 0:=⟨Int.le_refl _,by show(0:Int)<4294967296;decide⟩
theorem tq(b:Bool):oW (tr b):=by
 cases b
 ·exact nN
 ·exact⟨by decide,by decide⟩
theorem tp(n:Int):oW (wU n):=mB n
theorem wV(o:BinOp)(a b:Int)(h:∃z,bits o .u32 a b=IntKind.u32.wrap z):oW (bits o .u32 a b):=by
 obtain⟨z,hz⟩:=h;rw [hz];exact mB z
theorem Qc{op:Ba}{a:Int}(ha:oW a):oW ((OK op a).getD 0):=by
 unfold OK;split
 ·exact tp _
 ·split
  ·show 0≤4294967295-a∧4294967295-a<4294967296;have h1:=ha.1;have h2:=ha.2;omega
  ·split
   ·exact tq _
   ·exact nN
theorem Nn{a:Int}(ha:oW a)(n:Nat):oW (a/2^n):=by
 have h0:(0:Int)<2^n:=Int.pow_pos (by decide);refine⟨Int.ediv_nonneg ha.1 (Int.le_of_lt h0),Int.lt_of_le_of_lt (Int.ediv_le_self _ ha.1) ha.2⟩
theorem Qd{op:Ba}{a b:Int}(ha:oW a)(hb:oW b):oW ((Ot op a b).getD 0):=by
 have hq:oW (if b=0 then 0 else a/b):=by
  split
  ·exact nN
  ·exact⟨Int.ediv_nonneg ha.1 hb.1,Int.lt_of_le_of_lt (Int.ediv_le_self _ ha.1) ha.2⟩
 have hr:oW (if b=0 then a else a%b):=by
  split
  ·exact ha
  ·rename_i h;have h1:=Int.emod_nonneg a h;have h2:=Int.emod_lt_of_pos a (b:=b) (by have:=hb.1;omega);have h3:=hb.2;exact⟨h1,by omega⟩
 unfold Ot;by_cases h0:op=gg
 ·rw [aj h0];exact tp _
 rw [ac h0];by_cases h1:op=dU
 ·rw [aj h1];exact tp _
 rw [ac h1];by_cases h2:op=gT
 ·rw [aj h2];exact tp _
 rw [ac h2];by_cases h3:op=la
 ·rw [aj h3];exact hq
 rw [ac h3];by_cases h4:op=lR
 ·rw [aj h4];exact hr
 rw [ac h4];by_cases h5:op=fo
 ·rw [aj h5];exact(show oW (bits .and .u32 a b)from wV .and a b ⟨_,J⟩)
 rw [ac h5];by_cases h6:op=kK
 ·rw [aj h6];exact(show oW (bits .or .u32 a b)from wV .or a b ⟨_,J⟩)
 rw [ac h6];by_cases h7:op=fw
 ·rw [aj h7];exact(show oW (bits .xor .u32 a b)from wV .xor a b ⟨_,J⟩)
 rw [ac h7];by_cases h8:op=gQ
 ·rw [aj h8];exact tp _
 rw [ac h8];by_cases h9:op=ib
 ·rw [aj h9];exact Nn ha _
 rw [ac h9];by_cases h10:op=mx
 ·rw [aj h10];exact tq _
 rw [ac h10];by_cases h11:op=nP
 ·rw [aj h11];exact tq _
 rw [ac h11];by_cases h12:op=nQ
 ·rw [aj h12];exact tq _
 rw [ac h12];by_cases h13:op=oU
 ·rw [aj h13];exact tq _
 rw [ac h13];by_cases h14:op=nR
 ·rw [aj h14];exact tq _
 rw [ac h14];by_cases h15:op=nO
 ·rw [aj h15];exact tq _
 rw [ac h15];exact nN
structure Kp(s s':Ms):Prop where
 ok:okMs s'
 sum:(s'.out.length:Int)+max s'.fuel 0≤(s.out.length:Int)+max s.fuel 0
 fl:s'.fuel≤s.fuel
 inp:∃k,s'.inp=s.inp.drop k
theorem Kp.refl{s:Ms}(h:okMs s):Kp s s:=⟨h,Int.le_refl _,Int.le_refl _,0,by simp⟩
theorem Kp.trans{a b c:Ms}(h:Kp a b)(h':Kp b c):Kp a c:=⟨h'.ok,Int.le_trans h'.sum h.sum,Int.le_trans h'.fl h.fl,by
 obtain⟨k,hk⟩:=h.inp;obtain⟨j,hj⟩:=h'.inp;exact⟨k+j,by rw [hj,hk,List.drop_drop]⟩⟩
theorem Kp.pay{s:Ms}(h:okMs s)(hf:¬s.fuel≤0):Kp s {s with fuel:=s.fuel-1}:=⟨⟨h.inp,h.mem,by have:=h.fuel;dsimp only;omega,by have:=h.out;dsimp only;omega⟩,by dsimp only;omega,by dsimp only;omega,0,by simp⟩
structure EvOk(fs:List Tf)(g:Nat):Prop where
 x:∀d vs t s v s',VX fs t→okVs vs→okMs s→lX g fs d vs t s=some (.ok v s')→oW v∧Kp s s'
 k:∀d vs acc l s ks s',OE fs l→okVs vs→okMs s→(∀a∈acc,oW a)→my g fs d vs acc l s=some (.ok ks s')→(∀a∈ks,oW a)∧ks.length=acc.length+l.length∧Kp s s'
 c:∀d f al s v s',f∈fs→(∀a∈al,oW a)→okMs s→u0 g fs d f al s=some (.ok v s')→oW v∧Kp s s'
 b:∀d vs l s p s',Mb fs l→okVs vs→okMs s→nS g fs d vs l s=some (.ok p s')→okVs p.1∧(∀x,p.2=some x→oW x)∧Kp s s'
 s:∀d vs t s p s',VY fs t→okVs vs→okMs s→rT g fs d vs t s=some (.ok p s')→okVs p.1∧(∀x,p.2=some x→oW x)∧Kp s s'
 w:∀d vs e l v s p s',VX fs e→Mb fs l→okVs vs→okMs s→uZ g fs d vs e l v s=some (.ok p s')→okVs p.1∧(∀x,p.2=some x→oW x)∧Kp s s'
theorem xn{ks:List Int}(h:∀a∈ks,oW a)(i:Nat):oW (ks.getD i 0):=by
 rw [List.getD_eq_getElem?_getD];cases hk:ks[i]? with
 | none=>exact nN
 | some a=>exact h a (bV hk)
theorem lA{fs:List Tf}{x:Ba}{f:Tf}(h:cV fs x=some f):f∈fs:=List.mem_of_find?_eq_some h
theorem mi{fs:List Tf}(hF:VF fs):∀g,EvOk fs g
 | 0=>⟨fun _ _ _ _ _ _ _ _ _ h=>by simp [lX]at h,fun _ _ _ _ _ _ _ _ _ _ _ h=>by simp [my]at h,fun _ _ _ _ _ _ _ _ _ h=>by simp [u0]at h,fun _ _ _ _ _ _ _ _ _ h=>by simp [nS]at h,fun _ _ _ _ _ _ _ _ _ h=>by simp [rT]at h,fun _ _ _ _ _ _ _ _ _ _ _ _ h=>by simp [uZ]at h⟩
 | g+1=>by
  have ih:=mi hF g;refine⟨fun d vs t s v s' ht hv hs h=> ?_,fun d vs acc l s ks s' hl hv hs ha h=> ?_,fun d f al s v s' hf ha hs h=> ?_,fun d vs l s p s' hl hv hs h=> ?_,fun d vs t s p s' ht hv hs h=> ?_,fun d vs e l v s p s' he hl hv hs h=> ?_⟩
  · -- an expression
   unfold lX at h;by_cases hfu:s.fuel≤0
   ·rw [aj hfu]at h;simp at h
   ·rw [ac hfu]at h;have hp:=Kp.pay hs hfu;cases hk:my g fs d vs [] t.kids {s with fuel:=s.fuel-1}with
    | none=>rw [hk]at h;simp at h
    | some r=>
     cases r with
     | err e=>rw [hk]at h;simp at h
     | ok ks s1=>
      rw [hk]at h;dsimp only at h;have hkids:OE fs t.kids:=by cases t;exact ht.2.2.2.2.2.2
      obtain⟨k1,k2,k3⟩:=ih.k d vs [] t.kids _ ks s1 hkids hv hp.ok (by simp) hk;have k4:=hp.trans k3;split at h
      ·simp only [Option.some.injEq,Re.ok.injEq]at h;obtain⟨rfl,rfl⟩:=h;exact⟨by cases t;exact ht.1,k4⟩
      ·split at h
       ·simp only [Option.some.injEq,Re.ok.injEq]at h;obtain⟨rfl,rfl⟩:=h;exact⟨hv.get _,k4⟩
       ·split at h
        ·simp only [Option.some.injEq,Re.ok.injEq]at h;obtain⟨rfl,rfl⟩:=h;exact⟨k4.ok.mem _,k4⟩
        ·split at h
         ·split at h
          ·simp only [Option.some.injEq,Re.ok.injEq]at h;obtain⟨rfl,rfl⟩:=h;exact⟨nN,k4⟩
          ·rename_i a r hi;simp only [Option.some.injEq,Re.ok.injEq]at h;obtain⟨rfl,rfl⟩:=h;refine⟨k4.ok.inp a (by rw [hi];simp),k4.trans ⟨⟨fun x hx=>k4.ok.inp x (by rw [hi];simp [hx]),k4.ok.mem,k4.ok.fuel,k4.ok.out⟩,Int.le_refl _,Int.le_refl _,1,by rw [hi];rfl⟩⟩
         ·split at h
          ·simp only [Option.some.injEq,Re.ok.injEq]at h;obtain⟨rfl,rfl⟩:=h;exact⟨Qc (xn k1 0),k4⟩
          ·split at h
           ·simp only [Option.some.injEq,Re.ok.injEq]at h;obtain⟨rfl,rfl⟩:=h;exact⟨Qd (xn k1 0) (xn k1 1),k4⟩
           ·split at h
            ·simp at h
            ·rename_i f hff;obtain⟨c1,c2⟩:=ih.c d f ks s1 v s' (lA hff) k1 k4.ok h;exact⟨c1,k4.trans c2⟩
  · -- parts
   cases l with
   | nil=>
    simp only [my,Option.some.injEq,Re.ok.injEq]at h;obtain⟨rfl,rfl⟩:=h;exact⟨ha,by simp,Kp.refl hs⟩
   | cons t r=>
    unfold my at h;cases hx:lX g fs d vs t s with
    | none=>rw [hx]at h;simp at h
    | some q=>
     cases q with
     | err e=>rw [hx]at h;simp at h
     | ok v s1=>
      rw [hx]at h;dsimp only at h;obtain⟨x1,x2⟩:=ih.x d vs t s v s1 hl.1 hv hs hx;obtain⟨k1,k2,k3⟩:=ih.k d vs (acc++ [v]) r s1 ks s' hl.2 hv x2.ok (fun a hm=>by
       rcases List.mem_append.1 hm with hm|hm
       ·exact ha a hm
       ·rw [List.mem_singleton.1 hm];exact x1) h
      exact⟨k1,by rw [k2];simp;omega,x2.trans k3⟩
  · -- a call
   unfold u0 at h;split at h
   ·simp at h
   ·cases hb:nS g fs (d+1) (jK [] f.ps al) f.body s with
    | none=>rw [hb]at h;simp at h
    | some q=>
     cases q with
     | err e=>rw [hb]at h;simp at h
     | ok p s1=>
      obtain⟨vs1,r⟩:=p;rw [hb]at h;simp only [Option.some.injEq,Re.ok.injEq]at h;obtain⟨rfl,rfl⟩:=h;obtain⟨b1,b2,b3⟩:=ih.b (d+1) _ f.body s _ s1 (hF f hf).2.2 (okVs.bind _ _ (fun p hp=>by simp at hp) ha) hs hb;refine⟨?_,b3⟩;cases r with
      | none=>exact nN
      | some x=>exact b2 x rfl
  · -- statements
   cases l with
   | nil=>
    simp only [nS,Option.some.injEq,Re.ok.injEq]at h;obtain⟨rfl,rfl⟩:=h;exact⟨hv,fun x hx=>by simp at hx,Kp.refl hs⟩
   | cons t r=>
    unfold nS at h;cases hx:rT g fs d vs t s with
    | none=>rw [hx]at h;simp at h
    | some q=>
     cases q with
     | err e=>rw [hx]at h;simp at h
     | ok q s1=>
      obtain⟨vs1,ro⟩:=q;obtain⟨x1,x2,x3⟩:=ih.s d vs t s _ s1 hl.1 hv hs hx;rw [hx]at h;cases ro with
      | some x=>
       simp only [Option.some.injEq,Re.ok.injEq]at h;obtain⟨rfl,rfl⟩:=h;exact⟨x1,x2,x3⟩
      | none=>
       dsimp only at h;obtain⟨b1,b2,b3⟩:=ih.b d vs1 r s1 p s' hl.2 x1 x3.ok h;exact⟨b1,b2,x3.trans b3⟩
  · -- a statement
   unfold rT at h;by_cases hfu:s.fuel≤0
   ·rw [aj hfu]at h;simp at h
   ·rw [ac hfu]at h;have hp:=Kp.pay hs hfu;obtain⟨kd,nm,ve,es,vb,body,vl,els⟩:=t;obtain⟨⟨e1,e2,e3,e4⟩,⟨b1,b2⟩,c1,c2⟩:=ht;cases es with
    | nil=>simp [Ty.es]at h
    | cons e r=>
     simp only [Ty.es]at h;cases hx:lX g fs d vs e {s with fuel:=s.fuel-1}with
     | none=>rw [hx]at h;simp at h
     | some q=>
      cases q with
      | err z=>rw [hx]at h;simp at h
      | ok v s1=>
       rw [hx]at h;dsimp only at h;obtain⟨x1,x2⟩:=ih.x d vs e _ v s1 e4.1 hv hp.ok hx;have x3:=hp.trans x2;split at h
       ·simp only [Option.some.injEq,Re.ok.injEq]at h;obtain⟨rfl,rfl⟩:=h;exact⟨hv.put _ x1,fun x hx=>by simp at hx,x3⟩
       ·split at h
        ·cases r with
         | nil=>simp at h
         | cons e5 r=>
          dsimp only at h;cases hx2:lX g fs d vs e5 s1 with
          | none=>rw [hx2]at h;simp at h
          | some q=>
           cases q with
           | err z=>rw [hx2]at h;simp at h
           | ok w s2=>
            rw [hx2]at h;simp only [Option.some.injEq,Re.ok.injEq]at h;obtain⟨rfl,rfl⟩:=h;obtain⟨y1,y2⟩:=ih.x d vs e5 s1 w s2 e4.2.1 hv x3.ok hx2;have y3:=x3.trans y2;refine⟨hv,fun x hx=>by simp at hx,y3.trans ⟨⟨y3.ok.inp,fun i=> ?_,y3.ok.fuel,y3.ok.out⟩,Int.le_refl _,Int.le_refl _,0,by simp⟩⟩;dsimp only [Gq];split
            ·exact y1
            ·exact y3.ok.mem i
        ·split at h
         ·obtain⟨z1,z2,z3⟩:=ih.b d vs (if v=0 then els else body) s1 p s' (by split<;>assumption) hv x3.ok (by simpa only [Ty.els,Ty.body]using h);exact⟨z1,z2,x3.trans z3⟩
         ·split at h
          ·obtain⟨z1,z2,z3⟩:=ih.w d vs e body v s1 p s' e4.1 b2 hv x3.ok (by simpa only [Ty.body]using h);exact⟨z1,z2,x3.trans z3⟩
          ·split at h
           ·simp only [Option.some.injEq,Re.ok.injEq]at h;obtain⟨rfl,rfl⟩:=h;exact⟨hv,fun x hx=>by simp at hx;rw [←hx];exact x1,x3⟩
           ·split at h
            ·simp only [Option.some.injEq,Re.ok.injEq]at h;obtain⟨rfl,rfl⟩:=h;have x4:=x2.sum;have x5:=hs.out;dsimp only at x4;obtain⟨k,hk⟩:=x3.inp;exact⟨hv,fun x hx=>by simp at hx,⟨⟨x3.ok.inp,x3.ok.mem,x3.ok.fuel,by dsimp only;rw [bD,dk];omega⟩,by dsimp only;rw [bD,dk];omega,x3.fl,k,hk⟩⟩
            ·simp only [Option.some.injEq,Re.ok.injEq]at h;obtain⟨rfl,rfl⟩:=h;exact⟨hv,fun x hx=>by simp at hx,x3⟩
  · -- a loop
   unfold uZ at h;split at h
   ·simp only [Option.some.injEq,Re.ok.injEq]at h;obtain⟨rfl,rfl⟩:=h;exact⟨hv,fun x hx=>by simp at hx,Kp.refl hs⟩
   ·cases hb:nS g fs d vs l s with
    | none=>rw [hb]at h;simp at h
    | some q=>
     cases q with
     | err z=>rw [hb]at h;simp at h
     | ok q s1=>
      obtain⟨vs1,ro⟩:=q;obtain⟨x1,x2,x3⟩:=ih.b d vs l s _ s1 hl hv hs hb;rw [hb]at h;cases ro with
      | some x=>
       simp only [Option.some.injEq,Re.ok.injEq]at h;obtain⟨rfl,rfl⟩:=h;exact⟨x1,x2,x3⟩
      | none=>
       dsimp only at h;cases hx:lX g fs d vs1 e s1 with
       | none=>rw [hx]at h;simp at h
       | some q=>
        cases q with
        | err z=>rw [hx]at h;simp at h
        | ok w s2=>
         rw [hx]at h;dsimp only at h;obtain⟨y1,y2⟩:=ih.x d vs1 e s1 w s2 he x1 x3.ok hx;have y3:=x3.trans y2;obtain⟨z1,z2,z3⟩:=ih.w d vs1 e l w s2 p s' he hl x1 y3.ok h;exact⟨z1,z2,y3.trans z3⟩
end Go.Proofs.YtedmdgbmdplifaaGreat
namespace Go.Proofs.YtedmdgbmdplifaaGreat
open Go.ChangeShapes Go.WideShapes Go.ChangeAt Go.RowKit Tryz
abbrev Lr(n:Int):Prop:= -9223372036854775808≤n∧n<9223372036854775808
theorem ND{n:Int}(h:(Lit.int .i64 n).wf=true):Lr n:=by
 simp only [Lit.wf,Bool.and_eq_true,decide_eq_true_eq]at h;have h1:IntKind.i64.min= -9223372036854775808:=by decide
 have h2:IntKind.i64.max=9223372036854775807:=by decide
 rw [h1,h2]at h;exact⟨h.1,by omega⟩
section
variable{H:Type}{enc:TypeId×Value→H}{P:Program}
theorem D_{W:World}{r:Reach}{b0 base:Nat}{spare:Nat→Bool}{held:Bool}{t e:TypeId}{v:Value}{d:DataW H}{p:List MemPlace}(ht:P.underlying t=some (.slice e))(he:P.underlying e=some (.int .i64))
  (hce:P.cellsOf e=1) (hv:Value.okWide P W r b0 t v) (h:DataW.Trod enc P W base spare held t v d p):
  ∃(x:SV)(s:List Int),v=sv x∧(∀n∈s,Lr n)∧∃G:Nat→Prop,uu W G 1 eI (sv x) s∧∀b,G b→b<W.heap.size:=by
 have hv':Cell.ok P W r b0 t v:=by
  have:Cell.okWide P W r b0 t v:=by simpa [Value.okWide,ht]using hv
  simpa [Cell.okWide,ht]using this
 obtain⟨va,vn,vc,rfl⟩:∃a n c,v= .slice a n c:=by
  cases v with
  | slice a n c=>exact⟨a,n,c,rfl⟩
  | _=>simp [Cell.ok,ht]at hv'
 obtain⟨fuel,hf⟩:=h;rcases open_ints ht he hce hf with⟨hc,-⟩|⟨a,len,cap,zs,hc,-,h1,h2,h3,-,h5,h6⟩
 ·simp [Value.cells]at hc;obtain⟨rfl,rfl,rfl⟩:=hc;refine⟨⟨none,0,0⟩,[],J,by simp,fun _=>False,⟨0,by simp,by unfold maxLen;omega,.inl ⟨rfl,fun _ h=>h,rfl⟩⟩,fun _ h=>h.elim⟩
 ·simp [Value.cells]at hc;obtain⟨rfl,rfl,rfl⟩:=hc;have hh:W.has P r b0 a e vc:=by
   simp [Cell.ok,ht]at hv';exact hv'.2.2
  obtain⟨hs,hb⟩:=NG hh;obtain⟨ab,ao,asp⟩:=a;dsimp only at hs hb;subst hs;have hzl:vn≤zs.length:=by split at h3<;>omega
  have htl:(zs.take vn).length=vn:=by rw [List.length_take];omega
  refine⟨⟨some ⟨ab,ao,none⟩,vn,vc⟩,zs.take vn,J,fun n hn=>ND (h6 n (List.mem_of_mem_take hn)),fun b=>b=ab,⟨vc,by omega,h2,.inr ⟨ab,ao,by rw [htl];rfl,rfl,?_⟩⟩,fun b hb'=>hb'▸hb⟩;intro j u hj;have hfm:(zs.take vn).flatMap eI=(zs.take vn).map (Value.int .i64):=by
   induction zs.take vn with
   | nil=>rfl
   | cons x xs ih=>simp [eI,ih]
  rw [hfm,List.getElem?_map]at hj;have hjl:j<vn:=by
   rcases Nat.lt_or_ge j vn with h|h
   ·exact h
   ·rw [List.getElem?_eq_none (by omega)]at hj;simp at hj
  have:=h5 j (by omega);rw [List.getElem?_take,aj hjl,bQ (by omega)]at hj;rw [List.getD_eq_getElem?_getD,bQ (by omega)]at this;simp at hj this;rw [←hj,←this];unfold Addr.add;split
  ·subst_vars;rfl
  ·rfl
end
end Go.Proofs.YtedmdgbmdplifaaGreat
namespace Go.Proofs.YtedmdgbmdplifaaGreat
open Go.ChangeShapes Go.WideShapes Go.ChangeAt Go.RowKit Tryz
theorem Fu{H:Type}{enc:TypeId×Value→H}{P:Program}{W:World}{base:Nat}{spare:Nat→Bool}{held:Bool}{t e:TypeId}{d:DataW H}{p:List MemPlace}{x:SV}{s:List Int}{n j:Nat}{ts:List TypeId}{ds:List (DataW H)}
  (ht:P.underlying t=some (.slice e)) (hb:P.bytesOf e=8) (h:DataW.Trod enc P W base spare held t (sv x) d p) (hs:∃G:Nat→Prop,uu W G 1 eI (sv x) s∧∀b,G b→b<n)
  (hz:(DataW.weightsEach P ts ds).all (· ≤reachBytes)=true) (h1:ts[j]?=some t) (h2:ds[j]?=some d):s.length≤1000000000000000000:=by
 obtain⟨G,⟨c,h3,h4,h5⟩,-⟩:=hs;rcases h5 with⟨h5,-⟩|⟨b,o,h5,-,-⟩
 ·rw [h5];exact bn _
 ·obtain⟨fuel,hf⟩:=h;rw [h5]at hf;rcases DataW.trod_slice ht hf with⟨h6,-⟩|⟨a,len,cap,elems,rest,m,-,h6,h7,-,-,-,h8,-⟩
  ·simp [Value.cells]at h6
  ·simp [Value.cells]at h6;injection h7 with h7 h9;subst h7;have:=sized_slice hz h1 h2 ht;rw [hb,List.length_map]at this;have hr:reachBytes<140737488355328:=by decide
   have:=h6.2.1;omega
end Go.Proofs.YtedmdgbmdplifaaGreat
namespace Go.Proofs.YtedmdgbmdplifaaGreat
open Go.RowKit Tryz
section
end
def IW(f:Tf):Value:= .agg (jI f).toArray
def Ky(fs:List Tf):Asn:=⟨fun w F=>∀f∈fs,TfIn w F f,fun h hs f hf=>(h f hf).stable hs⟩
theorem QD{fs:List Tf}{f:Tf}(hf:f∈fs):∀w G,(Ky fs).pred w G→(∀b,G b→b<w.heap.size)→∃G',(EK f).pred w G'∧∀b,G' b→G b:=fun w G h _=>⟨G,h f hf,fun _ hb=>hb⟩
section
end
def zO{α:Type}(p:α→Bool)(l:List α):Int:=match l.findIdx? p with
 | some i=>(i:Int)
 | none=> -1
theorem tD{α:Type}{p:α→Bool}{l:List α}{k:Nat}{x:α}(hk:l[k]?=some x)(hp:p x=true)(hb:∀i y,i<k→l[i]?=some y→p y=false):zO p l=(k:Int):=by
 have h:l.findIdx? p=some k:=by
  rw [List.findIdx?_eq_some_iff_getElem];obtain⟨h1,h2⟩:=cU.1 hk;refine⟨h1,by rw [h2];exact hp,fun j hj=> ?_⟩;have:=hb j l[j] hj (bQ (by omega));simp [this]
 unfold zO;rw [h]
theorem tC{α:Type}{p:α→Bool}{l:List α}(hb:∀i y,i<l.length→l[i]?=some y→p y=false):zO p l= -1:=by
 have h:l.findIdx? p=none:=by
  rw [List.findIdx?_eq_none_iff];intro x hx;obtain⟨i,hi,rfl⟩:=List.mem_iff_getElem.1 hx;exact hb i _ hi (bQ hi)
 unfold zO;rw [h]
theorem GJ(v:SV)(l:List Ba)(hl:l.length≤1000000)(n:Nat)(p:Ba→Bool)(hcb:Cb prog n)(hs:∀s∈l,Spec prog n [Sg s] [] [] (X:=Unit) (fun _=>True) (fun _=> .bool (p s)) (fun _=> []) (fun _=> [])):
  aW prog 154 [sv v,.func (.func n) #[] #[]] [] [sl 1 eS (sv v) l] (I6 (zO p l)) []:=by
 refine aI func154 J ntmps154 J fun w0 M H=>aq (am J (aa (aU (ad J (aP (aT underlying46 J (aJ (k:=0) J)) (ad J (aa (aA ?_))))))))
 refine bJ (X:=Nat) (fun k=>k≤l.length∧∀i y,i<k→l[i]?=some y→p y=false) (fun k=> [(0,sv v),(1,.func (.func n) #[] #[]),(7,I6 (l.length:Int)),(8,I6 (k:Int))]) (fun k=> []) (fun k=> [(0,sl 1 eS (sv v) l)]) (fun k=>l.length-k) 0 ⟨bn _,fun i y hi=>by omega⟩ J J J (fun k hk0=> ?_);obtain⟨n1,n2⟩:=hk0;refine aq (ar J J cy (aa (be (ap J (fun h1=> ?_) (fun h1=> ?_)))))
 ·(try simp only [bl]at h1);have hk:k<l.length:=by omega
  obtain⟨x,hx⟩:∃x,l[k]?=some x:=⟨_,bQ hk⟩
  refine aC (be (aA (aq (ad J (am J (az J (ad J (ad J (ad J (aP (aO (j:=k) underlying46 t9 J J (aJ (k:=0) J) (by first|rfl|omega) (by first|omega|(simp;done)|(simp;omega))) (aP (ag t9 J J (bF (aJ (k:=0) J) (by intro _;rfl) hx (by rfl))) (ai (xs:= [.tmp 15]) (hs x (bV hx)) hcb [] [] [] (fun _ _=>aa (ap J (fun h2=> ?_) (fun h2=> ?_)))))))))))))))
  ·have hq:p x=true:=h2;refine aq (ad J (am J (aa (ay (aN () O J (ce (aL J)) (by rw [tD hx hq n2]) [] [] J J J)))))
  ·have hq:p x=false:=h2;refine aC (ak (ar J J aK (ad J (aa ?_))));refine aG (k+1) ⟨⟨by omega,fun i y hi hy=>by rcases Nat.lt_succ_iff_lt_or_eq.1 hi with h|h;exact n2 i y h hy;rw [h,hx]at hy;rw [←dY hy];exact hq⟩,by omega⟩ J J J
 ·(try simp only [bl]at h1);have hk:k=l.length:=by omega
  subst hk;refine bL (aq (am J (aa (ay (aN () O J (ce (aL J)) (by rw [tC n2]) [] [] J J J)))))
theorem AU(v:SV)(l:List Ba)(hl:l.length≤1000000)(s:Ba):
  aW prog 184 [sv v,Sg s] [] [sl 1 eS (sv v) l] (I6 (zO (fun x=>decide (s=x)) l)) []:=by
 refine aI func184 J ntmps184 J fun w0 M H=>aq (am J (aa (aU (ad J (aP (aT underlying46 J (aJ (k:=0) J)) (ad J (aa (aA ?_))))))))
 refine bJ (X:=Nat) (fun k=>k≤l.length∧∀i y,i<k→l[i]?=some y→(fun x=>decide (s=x)) y=false) (fun k=> [(0,sv v),(1,Sg s),(7,I6 (l.length:Int)),(8,I6 (k:Int))]) (fun k=> []) (fun k=> [(0,sl 1 eS (sv v) l)]) (fun k=>l.length-k) 0 ⟨bn _,fun i y hi=>by omega⟩ J J J (fun k hk0=> ?_);obtain⟨n1,n2⟩:=hk0;refine aq (ar J J cy (aa (be (ap J (fun h1=> ?_) (fun h1=> ?_)))))
 ·(try simp only [bl]at h1);have hk:k<l.length:=by omega
  obtain⟨x,hx⟩:∃x,l[k]?=some x:=⟨_,bQ hk⟩
  refine aC (be (aA (aq (ad J (am J (az J (ad J (ad J (ad J (aP (aO (j:=k) underlying46 t9 J J (aJ (k:=0) J) (by first|rfl|omega) (by first|omega|(simp;done)|(simp;omega))) (aP (ag t9 J J (bF (aJ (k:=0) J) (by intro _;rfl) hx (by rfl))) (ar J J e_ (aa (ap J (fun h2=> ?_) (fun h2=> ?_)))))))))))))))
  ·have hq:decide (s=x)=true:=by rw [←eT];exact h2
   refine aq (ad J (am J (aa (ay (aN () O J (ce (aL J)) (by rw [tD hx hq n2]) [] [] J J J)))))
  ·have hq:decide (s=x)=false:=by rw [←eT];exact h2
   refine aC (ak (ar J J aK (ad J (aa ?_))));refine aG (k+1) ⟨⟨by omega,fun i y hi hy=>by rcases Nat.lt_succ_iff_lt_or_eq.1 hi with h|h;exact n2 i y h hy;rw [h,hx]at hy;rw [←dY hy];exact hq⟩,by omega⟩ J J J
 ·(try simp only [bl]at h1);have hk:k=l.length:=by omega
  subst hk;refine bL (aq (am J (aa (ay (aN () O J (ce (aL J)) (by rw [tC n2]) [] [] J J J)))))
def cx(s:Ba)(l:List Ba):Bool:=l.any fun x=>decide (s=x)
theorem Nz{l:List Ba}{s:Ba}:decide (zO (fun x=>decide (s=x)) l≥0)=cx s l:=by
 unfold zO cx;cases h:l.findIdx? (fun x=>decide (s=x))with
 | none=>
  rw [List.findIdx?_eq_none_iff]at h;have:(l.any fun x=>decide (s=x))=false:=List.any_eq_false.2 fun x hx=>by rw [h x hx];simp
  rw [this];rfl
 | some i=>
  rw [List.findIdx?_eq_some_iff_getElem]at h;obtain⟨h1,h2,_⟩:=h;have:(l.any fun x=>decide (s=x))=true:=List.any_eq_true.2 ⟨_,List.getElem_mem h1,h2⟩;rw [this];exact decide_eq_true (Int.natCast_nonneg i)
theorem jl(v:SV)(l:List Ba)(hl:l.length≤1000000)(s:Ba):
  aW prog 155 [sv v,Sg s] [] [sl 1 eS (sv v) l] (.bool (cx s l)) []:=by
 refine aI func155 J ntmps155 J fun w0 M H=>aq (am J (az J (ad J (ad J (ai (xs:= [.tmp 5,.tmp 6]) (AU v l hl s) Q_ [] [(false,0)] [] (fun _ _=>ar J J iz (am J (aa (ay (aN () O J (ce (aL J)) (congrArg Value.bool Nz) [] [] J J J))))))))))
def uV:List Ba:= [(⟨#[101,108,115,101]⟩:Ba),(⟨#[102,110]⟩:Ba),(⟨#[105,102]⟩:Ba),(⟨#[105,110]⟩:Ba),(⟨#[109,101,109]⟩:Ba),(⟨#[111,117,116]⟩:Ba),(⟨#[114,101,116,117,114,110]⟩:Ba),(⟨#[118,97,114]⟩:Ba),(⟨#[119,104,105,108,101]⟩:Ba)]
def mQ(c:Int):Bool:=decide (c≥97)&&decide (c≤122)
def kB(c:Int):Bool:=decide (c≥48)&&decide (c≤57)
theorem uW:
  Spec prog 156 [] [] [] (X:=SV) (fun _=>True) (fun u=>sv u) (fun u=> [own 9 1 eS (sv u) uV]) (fun _=> []):=by
 refine aI func156 J ntmps156 J fun w0 M H=>aq (am J (az J (cI eS uV (parts:= [(0,.const (Sg (ByteArray.mk #[101,108,115,101]))),(1,.const (Sg (ByteArray.mk #[102,110]))),(2,.const (Sg (ByteArray.mk #[105,102]))),(3,.const (Sg (ByteArray.mk #[105,110]))),(4,.const (Sg (ByteArray.mk #[109,101,109]))),(5,.const (Sg (ByteArray.mk #[111,117,116]))),(6,.const (Sg (ByteArray.mk #[114,101,116,117,114,110]))),(7,.const (Sg (ByteArray.mk #[118,97,114]))),(8,.const (Sg (ByteArray.mk #[119,104,105,108,101])))]) underlying46 t9 J (by decide) (by intro _;rfl) J (by decide) (by decide) J J J J fun v1=>am J (aa (ay (aN v1 O J (ce (aL J)) J [1] [] J J J))))))
theorem rB(c:Int):
  aW prog 157 [.int .i32 c] [] [] (.bool (mQ c)) []:=by
 refine aI func157 J ntmps157 J fun w0 M H=>aq (am J (az J (ad J (ar J J iz (ad J (aH [] J J O (fun hg1=>aV J) J (aH [(6,_)] J J ⟨J,O⟩ (fun hg2=>aQ J J mt) J (aP (bH J J J) (am J (aa (ay (aN () O J (ce (aL J)) J [] [] J J J))))))))))))
theorem Bn(c:Int):
  aW prog 160 [.int .i32 c] [] [] (.bool (kB c)) []:=by
 refine aI func160 J ntmps160 J fun w0 M H=>aq (am J (az J (ad J (ar J J iz (ad J (aH [] J J O (fun hg1=>aV J) J (aH [(6,_)] J J ⟨J,O⟩ (fun hg2=>aQ J J mt) J (aP (bH J J J) (am J (aa (ay (aN () O J (ce (aL J)) J [] [] J J J))))))))))))
theorem y7(c:Int):
  aW prog 159 [.int .i32 c] [] [] (.bool (mQ c || kB c)) []:=by
 refine aI func159 J ntmps159 J fun w0 M H=>aq (am J (az J (ad J (ai (xs:= [.tmp 3]) (rB c) LW [] [] [] (fun _ _=>ad J (fB (t:=5) J (fun h1=> ?_) (fun h1=> ?_)))))))
 ·(try simp only [bl]at h1);have hq:mQ c=true:=h1;refine dj J J J J (dj J J J J (aP (bH J J J) (am J (aa (ay (aN () O J (ce (aL J)) (by first|(rw [hq];done)|(rw [hq];rfl)|(rw [hq];simp)) [] [] J J J))))))
 ·(try simp only [bl]at h1);have hq:mQ c=false:=by simpa using h1
  refine bK J J (ad J (bK J J (ai (xs:= [.tmp 6]) (Bn c) Rn [] [] [] (fun _ _=>aP (bH J J J) (am J (aa (ay (aN () O J (ce (aL J)) (by first|(rw [hq];done)|(rw [hq];rfl)|(rw [hq];simp)) [] [] J J J))))))))
def uo(s:Ba):Int:=((s.data.toList.headD 0).toNat:Int)
def zI(p:Int→Bool)(s:Ba):Bool:=s.data.toList.all fun b=>p (b.toNat:Int)
def bE(s:Ba):Bool:=decide (s.size≠0)&&decide (s.size≤12)&& !cx s uV&&mQ (uo s)&&zI (fun c=>mQ c || kB c) s
def OA(s:Ba):Prop:=∀(i:Nat)(h:i<s.size),(s[i]'h).toNat<128
def qz(s:Ba):Prop:=OA s∧s.size≤1000000
def oNil:Ba:=⟨#[]⟩
def eq:Ba:=⟨#[109,97,105,110]⟩
def rf:List Ba:= [dU,rQ,tt]
def lvL:List (Ba×Int):= [(lR,7),(la,7),(gT,7),(dU,6),(gg,6),(ib,5),(gQ,5),(oU,4),(nQ,4),(nP,4),(mx,4),(nO,3),(nR,3),(fo,2),(fw,1),(kK,0)]
def gJ(s:Ba):Bool:=(lvL.find? fun p=>decide (p.1=s)).isSome
def jC(k:Int)(nm:Ba)(n:Nat):Bool:=
 if k=1∨k=5 then decide (nm=oNil)&&decide (n=0)else if k=2 then bE nm&&decide (n=0)else if k=3 then bE nm else
 if k=4 then decide (nm=oNil)&&decide (n=1)else if k=6 then cx nm rf&&decide (n=1)else if k=7 then gJ nm&&decide (n=2)else false
mutual
def rX:Tx→Bool
 | .mk k n nm _ kids=>jC k nm kids.length&&(decide (k=1) || decide (n=0))&&ji kids
def ji:List Tx→Bool
 | []=>true
 | t::r=>rX t&&ji r
end
def n_(k:Int)(nm:Ba)(ne nb nl:Nat):Bool:=
 decide (k≥1)&&decide (k≤8)&&decide (ne=if k=3 then 2 else 1)&&(if k=1∨k=2 then bE nm else decide (nm=oNil))&&(decide (k=4) || decide (k=5) || decide (nb=0))&&(decide (k=4) || decide (nl=0))
mutual
def rY:Ty→Bool
 | .mk k nm _ es _ body _ els=>n_ k nm es.length body.length els.length&&ji es&&h_ body&&h_ els
def h_:List Ty→Bool
 | []=>true
 | t::r=>rY t&&h_ r
end
def rF(f:Tf):Bool:=f.ps.all bE&&bE f.name&&h_ f.body
def rP(fs:List Tf):Bool:=fs.all rF
mutual
def nX:Tx→Nat
 | .mk _ _ _ _ kids=>dD kids+1
def dD:List Tx→Nat
 | []=>0
 | t::r=>nX t+dD r
end
mutual
def dX:Tx→Nat
 | .mk _ _ _ _ kids=>f_ kids+1
def f_:List Tx→Nat
 | []=>0
 | t::r=>max (dX t) (f_ r)
end
mutual
def nY:Ty→Nat
 | .mk _ _ _ es _ body _ els=>1+dD es+cv body+cv els
def cv:List Ty→Nat
 | []=>0
 | t::r=>nY t+cv r
end
mutual
def vY:Ty→Nat
 | .mk k _ _ _ _ body _ els=>(if k=1 then 1 else 0)+dW body+dW els
def dW:List Ty→Nat
 | []=>0
 | t::r=>vY t+dW r
end
mutual
def xG:Nat→Ty→Bool
 | d,.mk _ _ _ es _ body _ els=>decide (d>8) || decide (f_ es>8) || cG (d+1) body || cG (d+1) els
def cG:Nat→List Ty→Bool
 | _,[]=>false
 | d,t::r=>xG d t || cG d r
end
def fst(a b:Int):Int:=if a=0 then b else a
theorem gU(a b c:Int):fst (fst a b) c=fst a (fst b c):=by
 unfold fst;split
 ·rfl
 ·rfl
theorem cO(a:Int):fst a 0=a:=by
 unfold fst;split
 ·rename_i h;exact h.symm
 ·rfl
theorem bx{a b:Int}:fst a b=0↔a=0∧b=0:=by
 unfold fst;split
 ·rename_i h;simp [h]
 ·rename_i h;simp [h]
def Bd(fs:List Tf)(x:Ba):Int:=zO (fun f=>decide (f.name=x)) fs
mutual
def eX(fs:List Tf)(ns:List Ba):Tx→Int
 | .mk k _ nm _ kids=>fst (if k=2 then(if cx nm ns=true then 0 else 21)else if k=3 then(match cV fs nm with
   | none=>21
   | some f=>if f.ps.length=kids.length then 0 else 23)else 0) (jH fs ns kids)
def jH(fs:List Tf)(ns:List Ba):List Tx→Int
 | []=>0
 | t::r=>fst (eX fs ns t) (jH fs ns r)
end
mutual
def bY(fs:List Tf):List Ba→Ty→List Ba×Int
 | ns,.mk k nm _ es _ body _ els=>
  let n1:=if k=1 then ns++ [nm]else ns
  let p1:=dK fs n1 body
  let p2:=dK fs p1.1 els
  (p2.1,fst (if k=2 then(if cx nm ns=true then 0 else 21)else 0) (fst (jH fs ns es) (fst (if k=1 then(if cx nm ns=true then 22 else 0)else 0) (fst p1.2 p2.2))))
def dK(fs:List Tf):List Ba→List Ty→List Ba×Int
 | ns,[]=>(ns,0)
 | ns,t::r=>let p:=bY fs ns t;let q:=dK fs p.1 r;(q.1,fst p.2 q.2)
end
def vW:List Ba→List Ba→Int
 | _,[]=>0
 | ns,x::r=>fst (if cx x ns=true then 22 else 0) (vW (ns++ [x]) r)
def mW(fs:List Tf)(f:Tf):Int:=
 fst (if f.ps.length>4∨f.ps.length+dW f.body>12∨cv f.body>400∨cG 1 f.body=true then 2 else 0) (fst (vW [] f.ps) (dK fs f.ps f.body).2)
def iE(fs:List Tf):List Tf→Int
 | []=>0
 | f::r=>fst (mW fs f) (iE fs r)
def once(fs:List Tf):Bool:=(List.range fs.length).all fun i=>decide (Bd fs (fs.getD i ⟨oNil,bc,[],bc,[]⟩).name=(i:Int))
def jP(fs:List Tf):Int:=
 if rP fs=false then 1 else if fs.length>16 then 2 else if once fs=false then 22 else match cV fs eq with
  | none=>21
  | some f=>if f.ps.length>0 then 23 else iE fs fs
mutual
def GX:Tx→Prop
 | .mk k n nm _ kids=>oW n∧qz nm∧kids.length≤1000000∧GXs kids
def GXs:List Tx→Prop
 | []=>True
 | t::r=>GX t∧GXs r
end
mutual
def GY:Ty→Prop
 | .mk k nm _ es _ body _ els=>qz nm∧(es.length≤1000000∧GXs es)∧(body.length≤1000000∧GYs body)∧(els.length≤1000000∧GYs els)
def GYs:List Ty→Prop
 | []=>True
 | t::r=>GY t∧GYs r
end
def GF(f:Tf):Prop:=qz f.name∧(∀s∈f.ps,qz s)∧f.ps.length≤1000000∧f.body.length≤1000000∧GYs f.body∧f.ps.length+cv f.body≤1000000
def GP(fs:List Tf):Prop:=fs.length≤1000000∧∀f∈fs,GF f
theorem GXs.mem:∀{l:List Tx},GXs l→∀t∈l,GX t
 | [],_,_,h=>by simp at h
 | t::r,h,u,hu=>by
  rcases List.mem_cons.1 hu with rfl|hu
  ·exact h.1
  ·exact GXs.mem h.2 u hu
theorem GYs.mem:∀{l:List Ty},GYs l→∀t∈l,GY t
 | [],_,_,h=>by simp at h
 | t::r,h,u,hu=>by
  rcases List.mem_cons.1 hu with rfl|hu
  ·exact h.1
  ·exact GYs.mem h.2 u hu
theorem nH{t:Tx}(h:GX t):GXs t.kids:=by cases t;exact h.2.2.2
theorem qY{t:Tx}(h:GX t):t.kids.length≤1000000:=by cases t;exact h.2.2.1
theorem KN{t:Tx}(h:GX t):qz t.name:=by cases t;exact h.2.1
theorem KM{t:Ty}(h:GY t):qz t.name:=by cases t;exact h.1
theorem uy{t:Ty}(h:GY t):t.es.length≤1000000∧GXs t.es:=by cases t;exact h.2.1
theorem fZ{t:Ty}(h:GY t):t.body.length≤1000000∧GYs t.body:=by cases t;exact h.2.2.1
theorem iA{t:Ty}(h:GY t):t.els.length≤1000000∧GYs t.els:=by cases t;exact h.2.2.2
theorem sc:∀l,ji l=l.all rX
 | []=>rfl
 | t::r=>by rw [ji,sc r];rfl
theorem ip:∀l,h_ l=l.all rY
 | []=>rfl
 | t::r=>by rw [h_,ip r];rfl
theorem vj{t u:Tx}(h:u∈t.kids):SizeOf.sizeOf u<SizeOf.sizeOf t:=by
 cases t with
 | mk k n nm v kids=>
  have:=List.sizeOf_lt_of_mem h;simp only [Tx.kids]at this;simp only [Tx.mk.sizeOf_spec];omega
theorem K1{t u:Ty}(h:u∈t.body∨u∈t.els):SizeOf.sizeOf u<SizeOf.sizeOf t:=by
 cases t with
 | mk k nm ve es vb body vl els=>
  simp only [Ty.mk.sizeOf_spec];rcases h with h|h
  ·have:=List.sizeOf_lt_of_mem h;simp only [Ty.body]at this;omega
  ·have:=List.sizeOf_lt_of_mem h;simp only [Ty.els]at this;omega
theorem jb{fs:List Tf}{x:Ba}:(Bd fs x<0↔cV fs x=none)∧(∀f,cV fs x=some f→∃i:Nat,Bd fs x=(i:Int)∧fs[i]?=some f):=by
 unfold Bd zO cV;cases h:fs.findIdx? (fun f=>decide (f.name=x))with
 | none=>
  rw [List.findIdx?_eq_none_iff]at h;have h2:fs.find? (fun f=>decide (f.name=x))=none:=List.find?_eq_none.2 fun f hf=>by rw [h f hf];simp
  rw [h2];simp
 | some i=>
  rw [List.findIdx?_eq_some_iff_getElem]at h;obtain⟨h1,h2,h3⟩:=h;have h4:fs.find? (fun f=>decide (f.name=x))=some fs[i]:=by
   rw [List.find?_eq_some_iff_getElem];refine⟨h2,i,h1,J,fun j hj=> ?_⟩;have:=h3 j hj;simpa using this
  rw [h4];refine⟨⟨fun h=>by simp at h;omega,fun h=>by simp at h⟩,fun f hf=>⟨i,J,?_⟩⟩;rw [←dY hf];exact bQ h1
theorem sh{α:Type}{p:α→Bool}{l:List α}:decide (zO p l≥0)=l.any p:=by
 unfold zO;cases h:l.findIdx? p with
 | none=>
  rw [List.findIdx?_eq_none_iff]at h;have:l.any p=false:=List.any_eq_false.2 fun x hx=>by rw [h x hx];simp
  rw [this];rfl
 | some i=>
  rw [List.findIdx?_eq_some_iff_getElem]at h;obtain⟨h1,h2,_⟩:=h;have:l.any p=true:=List.any_eq_true.2 ⟨_,List.getElem_mem h1,h2⟩;rw [this];exact decide_eq_true (Int.natCast_nonneg i)
theorem y0(v:SV)(l:List Tf)(hl:l.length≤1000000)(n:Nat)(cap:List Value)(C:Asn)(p:Tf→Bool)(hcb:Cb prog n)(hs:∀x∈l,Spec prog n (IW x::cap) [] [C] (X:=Unit) (fun _=>True) (fun _=> .bool (p x)) (fun _=> []) (fun _=> [])):
  aW prog 124 [sv v,.func (.func n) #[] cap.toArray] [] [sl 3 jI (sv v) l,C] (I6 (zO p l)) []:=by
 refine aI func124 J ntmps124 J fun w0 M H=>aq (am J (aa (aU (ad J (aP (aT underlying25 J (aJ (k:=0) J)) (ad J (aa (aA ?_))))))))
 refine bJ (X:=Nat) (fun k=>k≤l.length∧∀i y,i<k→l[i]?=some y→p y=false) (fun k=> [(0,sv v),(1,.func (.func n) #[] cap.toArray),(7,I6 (l.length:Int)),(8,I6 (k:Int))]) (fun k=> []) (fun k=> [(0,sl 3 jI (sv v) l),(1,C)]) (fun k=>l.length-k) 0 ⟨bn _,fun i y hi=>by omega⟩ J J J (fun k hk0=> ?_);obtain⟨n1,n2⟩:=hk0;refine aq (ar J J cy (aa (be (ap J (fun h1=> ?_) (fun h1=> ?_)))))
 ·(try simp only [bl]at h1);have hk:k<l.length:=by omega
  obtain⟨x,hx⟩:∃x,l[k]?=some x:=⟨_,bQ hk⟩
  refine aC (be (aA (aq (ad J (am J (az J (ad J (ad J (ad J (aP (aO (j:=k) underlying25 gC J J (aJ (k:=0) J) (by first|rfl|omega) (by first|omega|(simp;done)|(simp;omega))) (aP (aM gC J J J (bF (aJ (k:=0) J) (by intro _;rfl) hx (by rfl))) (ai (xs:= [.tmp 15]) (hs x (bV hx)) hcb [] [(false,1)] [] (fun _ _=>aa (ap J (fun h2=> ?_) (fun h2=> ?_)))))))))))))))
  ·have hq:p x=true:=h2;refine aq (ad J (am J (aa (ay (aN () O J (ce (aL J)) (by rw [tD hx hq n2]) [] [] J J J)))))
  ·have hq:p x=false:=h2;refine aC (ak (ar J J aK (ad J (aa ?_))));refine aG (k+1) ⟨⟨by omega,fun i y hi hy=>by rcases Nat.lt_succ_iff_lt_or_eq.1 hi with h|h;exact n2 i y h hy;rw [h,hx]at hy;rw [←dY hy];exact hq⟩,by omega⟩ J J J
 ·(try simp only [bl]at h1);have hk:k=l.length:=by omega
  subst hk;refine bL (aq (am J (aa (ay (aN () O J (ce (aL J)) (by rw [tC n2]) [] [] J J J)))))
theorem EA(v:SV)(l:List Tf)(hl:l.length≤1000000)(n:Nat)(cap:List Value)(C:Asn)(p:Tf→Bool)(hcb:Cb prog n)(hs:∀x∈l,Spec prog n (IW x::cap) [] [C] (X:=Unit) (fun _=>True) (fun _=> .bool (p x)) (fun _=> []) (fun _=> [])):
  aW prog 118 [sv v,.func (.func n) #[] cap.toArray] [] [sl 3 jI (sv v) l,C] (.bool (l.any p)) []:=by
 refine aI func118 J ntmps118 J fun w0 M H=>aq (am J (az J (ad J (ad J (ai (xs:= [.tmp 5,.tmp 6]) (y0 v l hl n cap C p hcb hs) L6 [] [(false,0),(false,1)] [] (fun _ _=>ar J J iz (am J (aa (ay (aN () O J (ce (aL J)) (congrArg Value.bool sh) [] [] J J J))))))))))
theorem GG(v:SV)(l:List Ty)(hl:l.length≤1000000)(n:Nat)(cap:List Value)(C:Asn)(p:Ty→Bool)(hcb:Cb prog n)(hs:∀x∈l,Spec prog n (yV x::cap) [] [C] (X:=Unit) (fun _=>True) (fun _=> .bool (p x)) (fun _=> []) (fun _=> [])):
  aW prog 185 [sv v,.func (.func n) #[] cap.toArray] [] [sl 5 fK (sv v) l,C] (I6 (zO p l)) []:=by
 refine aI func185 J ntmps185 J fun w0 M H=>aq (am J (aa (aU (ad J (aP (aT underlying62 J (aJ (k:=0) J)) (ad J (aa (aA ?_))))))))
 refine bJ (X:=Nat) (fun k=>k≤l.length∧∀i y,i<k→l[i]?=some y→p y=false) (fun k=> [(0,sv v),(1,.func (.func n) #[] cap.toArray),(7,I6 (l.length:Int)),(8,I6 (k:Int))]) (fun k=> []) (fun k=> [(0,sl 5 fK (sv v) l),(1,C)]) (fun k=>l.length-k) 0 ⟨bn _,fun i y hi=>by omega⟩ J J J (fun k hk0=> ?_);obtain⟨n1,n2⟩:=hk0;refine aq (ar J J cy (aa (be (ap J (fun h1=> ?_) (fun h1=> ?_)))))
 ·(try simp only [bl]at h1);have hk:k<l.length:=by omega
  obtain⟨x,hx⟩:∃x,l[k]?=some x:=⟨_,bQ hk⟩
  refine aC (be (aA (aq (ad J (am J (az J (ad J (ad J (ad J (aP (aO (j:=k) underlying62 dR J J (aJ (k:=0) J) (by first|rfl|omega) (by first|omega|(simp;done)|(simp;omega))) (aP (aM dR J J J (bF (aJ (k:=0) J) (by intro _;rfl) hx (by rfl))) (ai (xs:= [.tmp 15]) (hs x (bV hx)) hcb [] [(false,1)] [] (fun _ _=>aa (ap J (fun h2=> ?_) (fun h2=> ?_)))))))))))))))
  ·have hq:p x=true:=h2;refine aq (ad J (am J (aa (ay (aN () O J (ce (aL J)) (by rw [tD hx hq n2]) [] [] J J J)))))
  ·have hq:p x=false:=h2;refine aC (ak (ar J J aK (ad J (aa ?_))));refine aG (k+1) ⟨⟨by omega,fun i y hi hy=>by rcases Nat.lt_succ_iff_lt_or_eq.1 hi with h|h;exact n2 i y h hy;rw [h,hx]at hy;rw [←dY hy];exact hq⟩,by omega⟩ J J J
 ·(try simp only [bl]at h1);have hk:k=l.length:=by omega
  subst hk;refine bL (aq (am J (aa (ay (aN () O J (ce (aL J)) (by rw [tC n2]) [] [] J J J)))))
theorem Ey(v:SV)(l:List Ty)(hl:l.length≤1000000)(n:Nat)(cap:List Value)(C:Asn)(p:Ty→Bool)(hcb:Cb prog n)(hs:∀x∈l,Spec prog n (yV x::cap) [] [C] (X:=Unit) (fun _=>True) (fun _=> .bool (p x)) (fun _=> []) (fun _=> [])):
  aW prog 161 [sv v,.func (.func n) #[] cap.toArray] [] [sl 5 fK (sv v) l,C] (.bool (l.any p)) []:=by
 refine aI func161 J ntmps161 J fun w0 M H=>aq (am J (az J (ad J (ad J (ai (xs:= [.tmp 5,.tmp 6]) (GG v l hl n cap C p hcb hs) Q9 [] [(false,0),(false,1)] [] (fun _ _=>ar J J iz (am J (aa (ay (aN () O J (ce (aL J)) (congrArg Value.bool sh) [] [] J J J))))))))))
theorem GH(v:SV)(l:List Tx)(hl:l.length≤1000000)(n:Nat)(cap:List Value)(C:Asn)(p:Tx→Bool)(hcb:Cb prog n)(hs:∀x∈l,Spec prog n (xV x::cap) [] [C] (X:=Unit) (fun _=>True) (fun _=> .bool (p x)) (fun _=> []) (fun _=> [])):
  aW prog 200 [sv v,.func (.func n) #[] cap.toArray] [] [sl 4 eH (sv v) l,C] (I6 (zO p l)) []:=by
 refine aI func200 J ntmps200 J fun w0 M H=>aq (am J (aa (aU (ad J (aP (aT underlying59 J (aJ (k:=0) J)) (ad J (aa (aA ?_))))))))
 refine bJ (X:=Nat) (fun k=>k≤l.length∧∀i y,i<k→l[i]?=some y→p y=false) (fun k=> [(0,sv v),(1,.func (.func n) #[] cap.toArray),(7,I6 (l.length:Int)),(8,I6 (k:Int))]) (fun k=> []) (fun k=> [(0,sl 4 eH (sv v) l),(1,C)]) (fun k=>l.length-k) 0 ⟨bn _,fun i y hi=>by omega⟩ J J J (fun k hk0=> ?_);obtain⟨n1,n2⟩:=hk0;refine aq (ar J J cy (aa (be (ap J (fun h1=> ?_) (fun h1=> ?_)))))
 ·(try simp only [bl]at h1);have hk:k<l.length:=by omega
  obtain⟨x,hx⟩:∃x,l[k]?=some x:=⟨_,bQ hk⟩
  refine aC (be (aA (aq (ad J (am J (az J (ad J (ad J (ad J (aP (aO (j:=k) underlying59 ci J J (aJ (k:=0) J) (by first|rfl|omega) (by first|omega|(simp;done)|(simp;omega))) (aP (aM ci J J J (bF (aJ (k:=0) J) (by intro _;rfl) hx (by rfl))) (ai (xs:= [.tmp 15]) (hs x (bV hx)) hcb [] [(false,1)] [] (fun _ _=>aa (ap J (fun h2=> ?_) (fun h2=> ?_)))))))))))))))
  ·have hq:p x=true:=h2;refine aq (ad J (am J (aa (ay (aN () O J (ce (aL J)) (by rw [tD hx hq n2]) [] [] J J J)))))
  ·have hq:p x=false:=h2;refine aC (ak (ar J J aK (ad J (aa ?_))));refine aG (k+1) ⟨⟨by omega,fun i y hi hy=>by rcases Nat.lt_succ_iff_lt_or_eq.1 hi with h|h;exact n2 i y h hy;rw [h,hx]at hy;rw [←dY hy];exact hq⟩,by omega⟩ J J J
 ·(try simp only [bl]at h1);have hk:k=l.length:=by omega
  subst hk;refine bL (aq (am J (aa (ay (aN () O J (ce (aL J)) (by rw [tC n2]) [] [] J J J)))))
theorem wa(v:SV)(l:List Tx)(hl:l.length≤1000000)(n:Nat)(cap:List Value)(C:Asn)(p:Tx→Bool)(hcb:Cb prog n)(hs:∀x∈l,Spec prog n (xV x::cap) [] [C] (X:=Unit) (fun _=>True) (fun _=> .bool (p x)) (fun _=> []) (fun _=> [])):
  aW prog 186 [sv v,.func (.func n) #[] cap.toArray] [] [sl 4 eH (sv v) l,C] (.bool (l.any p)) []:=by
 refine aI func186 J ntmps186 J fun w0 M H=>aq (am J (az J (ad J (ad J (ai (xs:= [.tmp 5,.tmp 6]) (GH v l hl n cap C p hcb hs) Q5 [] [(false,0),(false,1)] [] (fun _ _=>ar J J iz (am J (aa (ay (aN () O J (ce (aL J)) (congrArg Value.bool sh) [] [] J J J))))))))))
theorem Ez(v:SV)(l:List Ba)(hl:l.length≤1000000)(n:Nat)(p:Ba→Bool)(hcb:Cb prog n)(hs:∀s∈l,Spec prog n [Sg s] [] [] (X:=Unit) (fun _=>True) (fun _=> .bool (p s)) (fun _=> []) (fun _=> [])):
  aW prog 120 [sv v,.func (.func n) #[] #[]] [] [sl 1 eS (sv v) l] (.bool (l.any p)) []:=by
 refine aI func120 J ntmps120 J fun w0 M H=>aq (am J (az J (ad J (ad J (ai (xs:= [.tmp 5,.tmp 6]) (GJ v l hl n p hcb hs) Rr [] [(false,0)] [] (fun _ _=>ar J J iz (am J (aa (ay (aN () O J (ce (aL J)) (congrArg Value.bool sh) [] [] J J J))))))))))
theorem qw{p:Int→Bool}{s:Ba}:zI p s=true↔∀(i:Nat)(h:i<s.size),p (((s[i]'h).toNat:Nat):Int)=true:=by
 unfold zI;rw [List.all_eq_true];constructor
 ·intro h i hi;refine h (s[i]'hi) ?_;have:s[i]'hi=s.data.toList[i]'(by simpa using hi):=by simp [ByteArray.getElem_eq_getElem_data]
  rw [this];exact List.getElem_mem _
 ·intro h b hb;obtain⟨i,hi,rfl⟩:=List.mem_iff_getElem.1 hb;have hi':i<s.size:=by simpa using hi
  have:=h i hi';rw [show s[i]'hi'=s.data.toList[i]'hi by simp [ByteArray.getElem_eq_getElem_data]]at this;exact this
theorem BA{s:Ba}:s=oNil↔s.size=0:=by
 constructor
 ·intro h;subst h;rfl
 ·intro h;obtain⟨⟨l⟩⟩:=s;cases l with
  | nil=>rfl
  | cons a r=>simp [ByteArray.size]at h
theorem tY{s:Ba}(h:0<s.size):IntKind.i32.wrap ((br s).getD 0 0)=uo s:=by
 unfold uo br;obtain⟨⟨l⟩⟩:=s;cases l with
 | nil=>simp [ByteArray.size]at h
 | cons a r=>
  have:=a.toNat_lt;simp only [List.map_cons,List.getD_cons_zero,List.headD_cons];exact EW (by omega) (by omega)
theorem y6(s:Ba):bE s=(!(s==⟨#[]⟩)&& !decide ((s.size:Int)>12)&& !cx s uV&&mQ (uo s)&&zI (fun c=>mQ c || kB c) s):=by
 unfold bE
 congr 4
 ·rw [eT];have:=BA (s:=s);unfold oNil at this;by_cases h:s.size=0
  ·rw [this.2 h];rfl
  ·have h2:¬s=⟨#[]⟩:=fun e=>h (this.1 e)
   simp [h,h2]
 ·by_cases h:s.size≤12
  ·have:¬(s.size:Int)>12:=by omega
   simp [h,this]
  ·have:(s.size:Int)>12:=by omega
   simp [h,this]
theorem tE{s:Ba}(h:((s==⟨#[]⟩)=true∨(s.size:Int)>12)∨cx s uV=true∨(0<s.size∧(false || !mQ (IntKind.i32.wrap ((br s).getD 0 0)))=true)):bE s=false:=by
 rw [y6];rcases h with(h|h)|h|⟨h0,h⟩
 ·rw [h];rfl
 ·rw [decide_eq_true h];simp
 ·rw [h];simp
 ·rw [tY h0,Bool.false_or,Bool.not_eq_true']at h;rw [h];simp
theorem Eo{s:Ba}{k:Nat}(h1:(s==⟨#[]⟩)=false∧¬(s.size:Int)>12)(h2:True∧cx s uV=false)(h0:0<s.size)(h3:(false || !mQ (IntKind.i32.wrap ((br s).getD 0 0)))=false)(hk:decide ((k:Int)=(s.size:Int))=zI (fun c=>mQ c || kB c) s):decide ((k:Int)=(s.size:Int))=bE s:=by
 rw [y6,h1.1,decide_eq_false h1.2,h2.2,hk];rw [tY h0,Bool.false_or,Bool.not_eq_false']at h3;rw [h3];simp
theorem DN(s:Ba)(n:Nat)(p:Int→Bool)(has:OA s)(hcb:Cb prog n)(hz:s.size≤1000000)(hs:∀c:Int,Spec prog n [.int .i32 c] [] [] (X:=Unit) (fun _=>True) (fun _=> .bool (p c)) (fun _=> []) (fun _=> [])):
  Spec prog 158 [Sg s,.func (.func n) #[] #[]] [] [] (X:=Nat) (fun k=>decide ((k:Int)=(s.size:Int))=zI p s) (fun k=>I6 (k:Int)) (fun _=> []) (fun _=> []):=by
 refine aI func158 J ntmps158 J fun w0 M H=>aq (am J (aa (aU (ad J (FL underlying9 J J fun i8=>aa (aA ?_))))))
 refine bJ (X:=Nat) (fun x=>x≤s.size∧∀j(h:j<s.size),j<x→p (((s[j]'h).toNat:Nat):Int)=true) (fun x=> [(0,Sg s),(1,.func (.func n) #[] #[]),(8,Pt i8)]) (fun x=> [(8,Pq i8 s x)]) (fun x=> []) (fun x=>s.size-x) 0 ⟨bn _,fun j h hj=>by omega⟩ J J J (fun x hx0=> ?_);obtain⟨n1,n2⟩:=hx0;refine aq (Jg (k:=8) J J (fun h=>has x h) J (fun hover=> ?_) (fun hmore=> ?_))
 ·have hx:x=s.size:=by omega
  subst hx;refine aP (cC J J) (aa (be (ap J (fun h1=> ?_) (fun h1=> ?_))))
  ·exact absurd h1 (by simp)
  ·(try simp only [bl]at h1);refine bL (aq (ad J (aP (cH underlying9 J) (am J (aa (ay (aN s.size (by rw [decide_eq_true J];symm;exact qw.2 fun i h=>n2 i h h) J (ce (aL J)) J [] [] J J J)))))))
 ·have hxs:x<s.size:=hmore;refine aP (cC J J) (aa (be (ap J (fun h2=> ?_) (fun h2=> ?_))))
  ·(try simp only [bl]at h2);refine aC (aA (aq (aP (cC J J) (aP (cC J J) (am J (am J (az J (ad J (ad J (c_ (xs:= [.tmp 14]) (hs _) hcb [] [] [] J J J (fun _ _=>aP (cZ J) (aa (ap J (fun h3=> ?_) (fun h3=> ?_))))))))))))))
   ·have hq:p (((s[x]'hxs).toNat:Nat):Int)=false:=by simpa using h3
    refine aq (ad J (am J (aa (ay ?_))));refine aN x (by rw [decide_eq_false (show ¬((x:Int)=(s.size:Int)) by omega)];symm;rw [Bool.eq_false_iff];intro h;have:=qw.1 h x hxs;rw [hq]at this;cases this) J (ce (aL J)) J [] [] J J J
   ·have hq:p (((s[x]'hxs).toNat:Nat):Int)=true:=by simpa using h3
    refine aC ?_;refine aG (x+1) ⟨⟨by omega,fun j h hj=>by rcases Nat.lt_succ_iff_lt_or_eq.1 hj with h2|h2;exact n2 j h h2;subst h2;exact hq⟩,by omega⟩ J J J
  ·exact absurd h2 (by simp)
theorem ku(s:Ba)(has:OA s)(hz:s.size≤1000000):
  aW prog 122 [Sg s] [] [] (.bool (bE s)) []:=by
 refine aI func122 J ntmps122 J fun w0 M H=>aq (am J (aa (aU (ad J (ar J J e_ (ad J (aH [] J J O (fun hg1=>aV J) J (aH [(6,_)] J J ⟨J,O⟩ (fun hg2=>cH underlying9 J) J (aH [(6,_),(7,_)] J J ⟨J,J,O⟩ (fun hg3=>aQ J J fA) J (aP (bH J J J) (ad J (fB (t:=10) J (fun h4=> ?_) (fun h4=> ?_)))))))))))))
 ·(try simp only [bl]at h4);have q7:=h4;refine dj J J J J (dj J J J J (dj J J J J (aP (bH J J J) (ad J (fB (t:=15) J (fun h5=> ?_) (fun h5=> ?_))))))
  ·(try simp only [bl]at h5);have q12:=h5;refine dj J J J J (dj J J J J (dj J J J J (dj J J J J (dj J J J J (aP (bH J J J) (aa (ap J (fun h6=> ?_) (fun h6=> ?_))))))))
   ·refine aq (am J (aa (ay (aN () O J (ce (aL J)) (congrArg Value.bool (tE (.inl q7)).symm) [] [] J J J))))
   ·exact absurd h6 (by simp)
  ·(try simp only [bl]at h5);have q12:=h5;exact absurd h5 (by simp)
 ·(try simp only [bl]at h4);have q7:=h4;have hs0:0<s.size:=Nat.pos_of_ne_zero fun e=>by have:=BA.2 e;subst this;exact absurd q7.1 (by decide)
  refine bK J J (ai (xs:= []) uW Rq [] [] [11] (fun v11 _=>cK 11 21 J cf (bK J J (ad J (bK J J (ai (xs:= [.tmp 11,.tmp 12]) (jl v11 uV (by decide) s) Dh [] [(false,21)] [] (fun _ _=>aP (bH J J J) (ad J (fB (t:=15) J (fun h7=> ?_) (fun h7=> ?_))))))))))
  ·(try simp only [bl]at h7);have q12:=h7;refine dj J J J J (dj J J J J (dj J J J J (dj J J J J (dj J J J J (aP (bH J J J) (aa (ap J (fun h8=> ?_) (fun h8=> ?_))))))))
   ·refine aq (am J (aa (ay (aN () O J (ce (aL J)) (congrArg Value.bool (tE (.inr (.inl (by rcases q12 with q|q;exact absurd q (by simp);exact q)))).symm) [] [] J J J))))
   ·exact absurd h8 (by simp)
  ·(try simp only [bl]at h7);have q12:=h7;refine bK J J (ad J (bK J J (aP (ew (j:=0) underlying9 J J J hs0) (bK J J (aP (cw underlying5 underlying21 J (by first|exact EW (by omega) (by omega)|rfl)) (bK J J (c_ (xs:= [.tmp 18]) (rB _) LW [] [] [] J J J (fun _ _=>bK J J (aP (cZ J) (aP (bH J J J) (aa (ap J (fun h9=> ?_) (fun h9=> ?_)))))))))))))
   ·have q0:=h9;refine aq (am J (aa (ay (aN () O J (ce (aL J)) (congrArg Value.bool (tE (.inr (.inr ⟨hs0,q0⟩))).symm) [] [] J J J))))
   ·have q0:=h9;refine aC (aq (ad J (ai (xs:= [.tmp 22,.func 159]) (DN s 159 (fun c=>mQ c || kB c) has Ro hz (fun c=>y7 c)) Rp [] [] [] (fun k hk=>ad J (aP (cH underlying9 J) (ar J J bv (am J (aa (ay (aN () O J (ce (aL J)) (congrArg Value.bool (Eo q7 q12 hs0 q0 hk)) [] [] J J J))))))))))
def vI(p:Ba×Int):Value:=I6 p.2
theorem Cj{k:Int}{nm:Ba}{n:Nat}(h:k=1∨k=5):jC k nm n=((nm==⟨#[]⟩)&&decide ((n:Int)=0)):=by
 unfold jC;rw [aj h,eT]
 congr 1
 exact decide_eq_decide.2 (by omega)
theorem Lm{k:Int}{nm:Ba}{n:Nat}(h:k=2):jC k nm n=(bE nm&&decide ((n:Int)=0)):=by
 subst h;show(bE nm&&decide (n=0))=_
 congr 1
 exact decide_eq_decide.2 (by omega)
theorem Ll{k:Int}{nm:Ba}{n:Nat}(h:k=3):jC k nm n=bE nm:=by
 subst h;rfl
theorem Lk{k:Int}{nm:Ba}{n:Nat}(h:k=4):jC k nm n=((nm==⟨#[]⟩)&&decide ((n:Int)=1)):=by
 subst h;show(decide (nm=oNil)&&decide (n=1))=_;rw [eT]
 congr 1
 exact decide_eq_decide.2 (by omega)
theorem Lj{k:Int}{nm:Ba}{n:Nat}(h:k=6):jC k nm n=(cx nm rf&&decide ((n:Int)=1)):=by
 subst h;show(cx nm rf&&decide (n=1))=_
 congr 1
 exact decide_eq_decide.2 (by omega)
theorem Li{k:Int}{nm:Ba}{n:Nat}(h:k=7):jC k nm n=(gJ nm&&decide ((n:Int)=2)):=by
 subst h;show(gJ nm&&decide (n=2))=_
 congr 1
 exact decide_eq_decide.2 (by omega)
theorem Ln{k:Int}{nm:Ba}{n:Nat}(h1:¬k=1)(h5:¬k=5)(h2:¬k=2)(h3:¬k=3)(h4:¬k=4)(h6:¬k=6)(h7:¬k=7):jC k nm n=false:=by
 unfold jC;rw [ac (fun h=>h.elim h1 h5),ac h2,ac h3,ac h4,ac h6,ac h7]
theorem iC{α:Type}(p:α→Bool):∀l:List α,(!(l.any fun x=> !p x))=l.all p
 | []=>rfl
 | a::r=>by rw [List.any_cons,List.all_cons,←iC p r];cases p a<;>simp
theorem B5(t:Tx):rX t=(jC t.kind t.name t.kids.length&&(decide (t.kind=1) || decide (t.n=0))&& !(t.kids.any fun u=> !rX u)):=by
 rw [iC];cases t;rw [rX,sc];rfl
theorem yU:
  Spec prog 201 [] [] [] (X:=Nat) (fun _=>True) (fun b=> .map (some b)) (fun b=> [mp ie Prod.fst vI (some b) lvL]) (fun _=> []):=by
 refine aI func201 J ntmps201 J fun w0 M H=>aq (am J (az J (ni (Prod.fst:Ba×Int→Ba) ie vI J fun b1=>cq (k:=1) (α:=Ba×Int) (kf:=Prod.fst) (vf:=vI) (kK,0) [(kK,0)] underlying105 fz J J J J (List.Perm.of_eq J) (cq (k:=1) (α:=Ba×Int) (kf:=Prod.fst) (vf:=vI) (fw,1) [(fw,1),(kK,0)] underlying105 fz J J J J (List.Perm.of_eq J) (cq (k:=1) (α:=Ba×Int) (kf:=Prod.fst) (vf:=vI) (fo,2) [(fo,2),(fw,1),(kK,0)] underlying105 fz J J J J (List.Perm.of_eq J) (cq (k:=1) (α:=Ba×Int) (kf:=Prod.fst) (vf:=vI) (nR,3) [(nR,3),(fo,2),(fw,1),(kK,0)] underlying105 fz J J J J (List.Perm.of_eq J) (cq (k:=1) (α:=Ba×Int) (kf:=Prod.fst) (vf:=vI) (nO,3) [(nO,3),(nR,3),(fo,2),(fw,1),(kK,0)] underlying105 fz J J J J (List.Perm.of_eq J) (cq (k:=1) (α:=Ba×Int) (kf:=Prod.fst) (vf:=vI) (mx,4) [(mx,4),(nO,3),(nR,3),(fo,2),(fw,1),(kK,0)] underlying105 fz J J J J (List.Perm.of_eq J) (cq (k:=1) (α:=Ba×Int) (kf:=Prod.fst) (vf:=vI) (nP,4) [(nP,4),(mx,4),(nO,3),(nR,3),(fo,2),(fw,1),(kK,0)] underlying105 fz J J J J (List.Perm.of_eq J) (cq (k:=1) (α:=Ba×Int) (kf:=Prod.fst) (vf:=vI) (nQ,4) [(nQ,4),(nP,4),(mx,4),(nO,3),(nR,3),(fo,2),(fw,1),(kK,0)] underlying105 fz J J J J (List.Perm.of_eq J) (cq (k:=1) (α:=Ba×Int) (kf:=Prod.fst) (vf:=vI) (oU,4) [(oU,4),(nQ,4),(nP,4),(mx,4),(nO,3),(nR,3),(fo,2),(fw,1),(kK,0)] underlying105 fz J J J J (List.Perm.of_eq J) (cq (k:=1) (α:=Ba×Int) (kf:=Prod.fst) (vf:=vI) (gQ,5) [(gQ,5),(oU,4),(nQ,4),(nP,4),(mx,4),(nO,3),(nR,3),(fo,2),(fw,1),(kK,0)] underlying105 fz J J J J (List.Perm.of_eq J) (cq (k:=1) (α:=Ba×Int) (kf:=Prod.fst) (vf:=vI) (ib,5) [(ib,5),(gQ,5),(oU,4),(nQ,4),(nP,4),(mx,4),(nO,3),(nR,3),(fo,2),(fw,1),(kK,0)] underlying105 fz J J J J (List.Perm.of_eq J) (cq (k:=1) (α:=Ba×Int) (kf:=Prod.fst) (vf:=vI) (gg,6) [(gg,6),(ib,5),(gQ,5),(oU,4),(nQ,4),(nP,4),(mx,4),(nO,3),(nR,3),(fo,2),(fw,1),(kK,0)] underlying105 fz J J J J (List.Perm.of_eq J) ?_))))))))))))))
 refine cq (k:=1) (α:=Ba×Int) (kf:=Prod.fst) (vf:=vI) (dU,6) [(dU,6),(gg,6),(ib,5),(gQ,5),(oU,4),(nQ,4),(nP,4),(mx,4),(nO,3),(nR,3),(fo,2),(fw,1),(kK,0)] underlying105 fz J J J J (List.Perm.of_eq J) (cq (k:=1) (α:=Ba×Int) (kf:=Prod.fst) (vf:=vI) (gT,7) [(gT,7),(dU,6),(gg,6),(ib,5),(gQ,5),(oU,4),(nQ,4),(nP,4),(mx,4),(nO,3),(nR,3),(fo,2),(fw,1),(kK,0)] underlying105 fz J J J J (List.Perm.of_eq J) (cq (k:=1) (α:=Ba×Int) (kf:=Prod.fst) (vf:=vI) (la,7) [(la,7),(gT,7),(dU,6),(gg,6),(ib,5),(gQ,5),(oU,4),(nQ,4),(nP,4),(mx,4),(nO,3),(nR,3),(fo,2),(fw,1),(kK,0)] underlying105 fz J J J J (List.Perm.of_eq J) (cq (k:=1) (α:=Ba×Int) (kf:=Prod.fst) (vf:=vI) (lR,7) [(lR,7),(la,7),(gT,7),(dU,6),(gg,6),(ib,5),(gQ,5),(oU,4),(nQ,4),(nP,4),(mx,4),(nO,3),(nR,3),(fo,2),(fw,1),(kK,0)] underlying105 fz J J J J (List.Perm.of_eq J) (ad J (am J (aa (ay (aN b1 O J (ce (aL J)) J [1] [] J J J))))))))
theorem FF(v:SV)(l:List Tx)(ih:∀u∈l,Spec prog 188 [xV u] [] [ck u.v u.kids] (X:=Unit) (fun _=>True) (fun _=> .bool (rX u)) (fun _=> []) (fun _=> []))(u:Tx)(hu:u∈l):
  aW prog 202 [xV u] [] [ck v l] (.bool (!rX u)) []:=by
 refine aI func202 J ntmps202 J fun w0 M H=>a_ 0 7 J (dH hu) (aq (cM J J fun b1=>am J (az J (aP (aM ci J J J (bp (k:=1) J)) (ai (xs:= [.tmp 3]) (ih u hu) LO [] [(false,7)] [] (fun _ _=>aP (cZ J) (am J (aa (ay (aN () O J (ce (aL J)) J [] [] J J J))))))))))
theorem FE(v:SV)(l:List Tx)(ih:∀u∈l,Spec prog 188 [xV u] [] [ck u.v u.kids] (X:=Unit) (fun _=>True) (fun _=> .bool (rX u)) (fun _=> []) (fun _=> []))(u:Tx)(hu:u∈l):
  aW prog 187 [xV u] [] [ck v l] (.bool (!rX u)) []:=by
 refine aI func187 J ntmps187 J fun w0 M H=>a_ 0 7 J (dH hu) (aq (cM J J fun b1=>am J (az J (aP (aM ci J J J (bp (k:=1) J)) (ai (xs:= [.tmp 3]) (ih u hu) LO [] [(false,7)] [] (fun _ _=>aP (cZ J) (am J (aa (ay (aN () O J (ce (aL J)) J [] [] J J J))))))))))
theorem Ja(t:Tx)(ht:GX t)(ih:∀u∈t.kids,Spec prog 188 [xV u] [] [ck u.v u.kids] (X:=Unit) (fun _=>True) (fun _=> .bool (rX u)) (fun _=> []) (fun _=> [])):
  aW prog 188 [xV t] [] [ck t.v t.kids] (.bool (rX t)) []:=by
 refine aI func188 J ntmps188 J fun w0 M H=>a_ 0 1 J iM ?_
 have hnm:=KN ht;have hkl:=qY ht;refine aq (cM J J fun b1=>am J (az J (am J (aa (be (B2 [0,1,2,3,4,5,6,7,8] [0,1,2,3,4,5,7,6,8] [7,8,9,10,6,11,12,4,5] _ J J J (bi (V:= [(1,8,_),(2,9,_)]) [1,2] 0 [0] [3,4,5,6,7,8] (fun bm=> [(3,10,_),(4,6,_),(5,11,_),(6,12,_),(7,4,_),(8,5,_)]) J J (ae J (ah di J) (ae J (ag t9 J J (ax (k:=1) J J)) aw)) J J J J J J J J J J J (fun _ _=>J) J (jW (xs:= []) yU Q4 [] [] [60] [] J J J J J J J J (fun _ _=>J) (fun _ _ _=>J)) (fun bm _=>bA [3,4,5,6,7,8,1,2] J J (ae J (pn underlying105 fz t3 J J (GN (k:=60) J) J) (aF J J (ae J (cC J J) (ae J (cC J J) (ae J (df J) (ae J (df J) (ae J (ah di J) (ae J (ag t9 J J (ax (k:=1) J J)) aw)))))))) J J J (bC (X:=Unit) (fun _=>True) (fun _=> [(1,Pt b1),(3,.bool (jC t.kind t.name t.kids.length))]) (fun _=> [(1,bj b1 61 (eH t))]) (fun _=> [(0,ck t.v t.kids),(1,sl 4 eH (sv t.v) t.kids)]) ?_ (fun _ _=> ?_))))))))))
 ·refine aq (aD jG J (aR 1 t3 J J J J (aa (aA (aU (ar J J bv (am J (aa (ap J (fun h1=> ?_) (fun h1=> ?_))))))))))
  ·have q1:t.kind=1:=cB h1;refine aC (ap J (fun h2=> ?_) (fun h2=> ?_))
   ·(try simp only [bl]at h2);refine ak (aD di J (aR 1 t9 J J J J (ar J J e_ (ad J (aH [] J J O (fun hg3=>ah dq J) J (aH [(22,_)] J J ⟨J,O⟩ (fun hg4=>ag kc J J (ax (k:=1) J J)) J (aH [(22,_),(23,_)] J J ⟨J,J,O⟩ (fun hg5=>aT underlying59 J (aJ (k:=1) J)) J (aH [(22,_),(23,_),(24,_)] J J ⟨J,J,J,O⟩ (fun hg6=>aQ J J bv) J (aP (bH J J J) (am J (aa (aG () O (by rw [Cj (.inl q1)];rfl) J J))))))))))))
   ·exact absurd (decide_eq_true q1) (by rw [h2];simp)
  ·have q1:¬t.kind=1:=dl h1;refine ak (ar J J bv (am J (aa (ap J (fun h7=> ?_) (fun h7=> ?_)))))
   ·have q5:t.kind=5:=cB h7;refine ak (aD di J (aR 1 t9 J J J J (ar J J e_ (ad J (aH [] J J O (fun hg8=>ah dq J) J (aH [(22,_)] J J ⟨J,O⟩ (fun hg9=>ag kc J J (ax (k:=1) J J)) J (aH [(22,_),(23,_)] J J ⟨J,J,O⟩ (fun hg10=>aT underlying59 J (aJ (k:=1) J)) J (aH [(22,_),(23,_),(24,_)] J J ⟨J,J,J,O⟩ (fun hg11=>aQ J J bv) J (aP (bH J J J) (am J (aa (aG () O (by rw [Cj (.inr q5)];rfl) J J))))))))))))
   ·have q5:¬t.kind=5:=dl h7;refine aq (ar J J bv (am J (aa (ap J (fun h12=> ?_) (fun h12=> ?_)))))
    ·have q2:t.kind=2:=cB h12;refine ak (aD di J (aR 1 t9 J J J J (ai (xs:= [.tmp 30]) (ku t.name hnm.1 hnm.2) zy [] [] [] (fun _ _=>ad J (aH [] J J O (fun hg13=>ah dq J) J (aH [(33,_)] J J ⟨J,O⟩ (fun hg14=>ag kc J J (ax (k:=1) J J)) J (aH [(33,_),(34,_)] J J ⟨J,J,O⟩ (fun hg15=>aT underlying59 J (aJ (k:=1) J)) J (aH [(33,_),(34,_),(35,_)] J J ⟨J,J,J,O⟩ (fun hg16=>aQ J J bv) J (aP (bH J J J) (am J (aa (aG () O (by rw [Lm q2];rfl) J J))))))))))))
    ·have q2:¬t.kind=2:=dl h12;refine aq (ar J J bv (am J (aa (ap J (fun h17=> ?_) (fun h17=> ?_)))))
     ·have q3:t.kind=3:=cB h17;refine ak (aD di J (aR 1 t9 J J J J (ai (xs:= [.tmp 41]) (ku t.name hnm.1 hnm.2) zy [] [] [] (fun _ _=>am J (aa (aG () O (by rw [Ll q3];rfl) J J))))))
     ·have q3:¬t.kind=3:=dl h17;refine aq (ar J J bv (am J (aa (ap J (fun h18=> ?_) (fun h18=> ?_)))))
      ·have q4:t.kind=4:=cB h18;refine ak (aD di J (aR 1 t9 J J J J (ar J J e_ (ad J (aH [] J J O (fun hg19=>ah dq J) J (aH [(49,_)] J J ⟨J,O⟩ (fun hg20=>ag kc J J (ax (k:=1) J J)) J (aH [(49,_),(50,_)] J J ⟨J,J,O⟩ (fun hg21=>aT underlying59 J (aJ (k:=1) J)) J (aH [(49,_),(50,_),(51,_)] J J ⟨J,J,J,O⟩ (fun hg22=>aQ J J bv) J (aP (bH J J J) (am J (aa (aG () O (by rw [Lk q4];rfl) J J))))))))))))
      ·have q4:¬t.kind=4:=dl h18;refine aq (ar J J bv (am J (aa (ap J (fun h23=> ?_) (fun h23=> ?_)))))
       ·have q6:t.kind=6:=cB h23;refine ak (cI eS rf (parts:= [(0,.const (Sg (ByteArray.mk #[45]))),(1,.const (Sg (ByteArray.mk #[126]))),(2,.const (Sg (ByteArray.mk #[33])))]) underlying46 t9 J (by decide) (by intro _;rfl) J (by decide) (by decide) J J J J fun v56=>aD di J (aR 1 t9 J J J J (cK 56 21 J cf (ai (xs:= [.tmp 56,.tmp 58]) (jl v56 rf (by decide) t.name) Dh [] [(false,21)] [] (fun _ _=>ad J (aH [] J J O (fun hg24=>ah dq J) J (aH [(61,_)] J J ⟨J,O⟩ (fun hg25=>ag kc J J (ax (k:=1) J J)) J (aH [(61,_),(62,_)] J J ⟨J,J,O⟩ (fun hg26=>aT underlying59 J (aJ (k:=1) J)) J (aH [(61,_),(62,_),(63,_)] J J ⟨J,J,J,O⟩ (fun hg27=>aQ J J bv) J (aP (bH J J J) (am J (aa (aG () O (by rw [Lj q6];rfl) J J)))))))))))))
       ·have q6:¬t.kind=6:=dl h23;refine aq (ar J J bv (am J (aa (ap J (fun h28=> ?_) (fun h28=> ?_)))))
        ·have q7:t.kind=7:=cB h28;refine ak (ad J (ad J (aH [] J J O (fun hg29=>ah dq J) J (aH [(70,_)] J J ⟨J,O⟩ (fun hg30=>ag kc J J (ax (k:=1) J J)) J (aH [(70,_),(71,_)] J J ⟨J,J,O⟩ (fun hg31=>aT underlying59 J (aJ (k:=1) J)) J (aH [(70,_),(71,_),(72,_)] J J ⟨J,J,J,O⟩ (fun hg32=>aQ J J bv) J (aP (bH J J J) (am J (aa (aG () O (by rw [Li q7];rfl) J J))))))))))
        ·have q7:¬t.kind=7:=dl h28;refine aC (aG () O (by rw [Ln q1 q5 q2 q3 q4 q6 q7];rfl) J J)
 ·refine aq (ad J (ad J (aH [] J J O (fun hg33=>ah jG J) J (aH [(77,_)] J J ⟨J,O⟩ (fun hg34=>ag t3 J J (ax (k:=1) J J)) J (aH [(77,_),(78,_)] J J ⟨J,J,O⟩ (fun hg35=>aQ J J bv) J (aH [(77,_),(78,_),(79,_)] J J ⟨J,J,J,O⟩ (fun hg36=>aV J) J (cA [] [(77,_),(78,_),(79,_),(80,_)] J J O ⟨J,J,J,J,O⟩ (fun hg37 hg37'=>ah xy J) J (cA [(81,_)] [(77,_),(78,_),(79,_),(80,_)] J J ⟨J,O⟩ ⟨J,J,J,J,O⟩ (fun hg38 hg38'=>ag eA J J (ax (k:=1) J J)) J (cA [(81,_),(82,_)] [(77,_),(78,_),(79,_),(80,_)] J J ⟨J,J,O⟩ ⟨J,J,J,J,O⟩ (fun hg39 hg39'=>aQ J J bv) J (aH [(77,_),(78,_),(79,_),(80,_)] J J ⟨J,J,J,J,O⟩ (fun hg40=>d7 J J J (by first|exact dL|exact eu|exact da hg40|exact dF hg40|rfl)) J (aP (bH J J J) (ad J (aH [] J J O (fun hg41=>ah dq J) J (aH [(87,_)] J J ⟨J,O⟩ (fun hg42=>ag kc J J (ax (k:=1) J J)) J (kP [(87,_),(88,_)] J J ⟨J,J,O⟩ (fun hg43=>jW (xs:= [.tmp 88,.func 202]) (wa t.v t.kids hkl 202 [] (ck t.v t.kids) (fun u=> !rX u) Q3 (fun u hu=>FF t.v t.kids ih u hu)) LP [] [(false,1),(false,0)] [] [] J J J J J J J J (fun _ _=>J) (fun _ _ _=>J)) J (aH [(87,_),(88,_),(89,_)] J J ⟨J,J,J,O⟩ (fun hg44=>cZ J) J (aP (bH J J J) (am J ?_))))))))))))))))));refine aa (ay (aN () O J (ce (aL J)) (congrArg Value.bool (B5 t).symm) [] [] J J J))
theorem FB:∀(n:Nat)(t:Tx),SizeOf.sizeOf t<n→GX t→aW prog 188 [xV t] [] [ck t.v t.kids] (.bool (rX t)) []
 | 0,_,h,_=>absurd h (Nat.not_lt_zero _)
 | n+1,t,h,ht=>Ja t ht fun u hu=>FB n u (by have:=vj hu;omega) ((nH ht).mem u hu)
theorem Jb(t:Tx)(ht:GX t):aW prog 188 [xV t] [] [ck t.v t.kids] (.bool (rX t)) []:=FB _ t (Nat.lt_succ_self _) ht
theorem PE(t:Ty):rY t=(decide (t.kind≥1)&&decide (t.kind≤8)&&decide ((t.es.length:Int)=if t.kind=3 then 2 else 1)&&((decide (t.kind=1) || decide (t.kind=2))&&bE t.name || !(decide (t.kind=1) || decide (t.kind=2))&&(t.name==⟨#[]⟩))&&
   (decide ((if t.kind=4 then 2 else if t.kind=5 then 1 else 0:Int)>0) || decide ((t.body.length:Int)=0))&&(decide ((if t.kind=4 then 2 else if t.kind=5 then 1 else 0:Int)>1) || decide ((t.els.length:Int)=0))&& !(t.es.any fun u=> !rX u)&&t.body.all rY&&t.els.all rY):=by
 rw [iC];have e1:decide ((t.es.length:Int)=if t.kind=3 then 2 else 1)=decide (t.es.length=if t.kind=3 then 2 else 1):=decide_eq_decide.2 (by split<;>omega);have e2:((decide (t.kind=1) || decide (t.kind=2))&&bE t.name || !(decide (t.kind=1) || decide (t.kind=2))&&(t.name==⟨#[]⟩))=(if t.kind=1∨t.kind=2 then bE t.name else decide (t.name=oNil)):=by
  rw [eT];by_cases h:t.kind=1∨t.kind=2
  ·rw [aj h];have:(decide (t.kind=1) || decide (t.kind=2))=true:=by simpa using h
   rw [this];simp
  ·rw [ac h];have:(decide (t.kind=1) || decide (t.kind=2))=false:=by simpa using h
   rw [this];simp only [Bool.false_and,Bool.not_false,Bool.true_and,Bool.false_or];rfl
 have e3:(decide ((if t.kind=4 then 2 else if t.kind=5 then 1 else 0:Int)>0) || decide ((t.body.length:Int)=0))=(decide (t.kind=4) || decide (t.kind=5) || decide (t.body.length=0)):=by
  rw [show decide ((t.body.length:Int)=0)=decide (t.body.length=0)from decide_eq_decide.2 (by omega)]
  congr 1
  by_cases h4:t.kind=4
  ·simp [h4]
  ·by_cases h5:t.kind=5
   ·simp [h5]
   ·simp [h4,h5]
 have e4:(decide ((if t.kind=4 then 2 else if t.kind=5 then 1 else 0:Int)>1) || decide ((t.els.length:Int)=0))=(decide (t.kind=4) || decide (t.els.length=0)):=by
  rw [show decide ((t.els.length:Int)=0)=decide (t.els.length=0)from decide_eq_decide.2 (by omega)]
  congr 1
  by_cases h4:t.kind=4
  ·simp [h4]
  ·by_cases h5:t.kind=5
   ·simp [h5]
   ·simp [h4,h5]
 rw [e1,e2,e3,e4];cases t;rw [rY,sc,ip,ip];rfl
theorem PH(f:Tf):(f.ps.any (fun s=> !bE s) || !bE f.name || !(f.body.all rY))= !rF f:=by
 unfold rF;rw [ip,←iC bE f.ps];cases f.ps.any (fun s=> !bE s)<;>cases bE f.name<;>cases f.body.all rY<;>rfl
theorem IV{v:SV}{l:List Tf}:∀w G,(dO v l).pred w G→(∀b,G b→b<w.heap.size)→∃G',(Ky l).pred w G'∧∀b,G' b→G b:=fun w G h _=>⟨G,h.2,fun _ hb=>hb⟩
theorem FA(v:SV)(l:List Ty)(ih:∀u∈l,Spec prog 163 [yV u] [] [ck u.ve u.es,cm u.vb u.body,cm u.vl u.els] (X:=Unit) (fun _=>True) (fun _=> .bool (rY u)) (fun _=> []) (fun _=> []))(u:Ty)(hu:u∈l):
  aW prog 162 [yV u] [] [cm v l] (.bool (!rY u)) []:=by
 refine aI func162 J ntmps162 J fun w0 M H=>a_ 0 7 J (oq hu) (a_ 0 8 J (iL hu) (a_ 0 9 J (kN hu) (aq (cM J J fun b1=>am J (az J (aP (aM dR J J J (bp (k:=1) J)) (ai (xs:= [.tmp 3]) (ih u hu) Rh [] [(false,7),(false,8),(false,9)] [] (fun _ _=>aP (cZ J) (am J (aa (ay (aN () O J (ce (aL J)) J [] [] J J J))))))))))))
theorem qJ(v:SV)(l:List Ty)(hl:l.length≤1000000)(ih:∀u∈l,Spec prog 163 [yV u] [] [ck u.ve u.es,cm u.vb u.body,cm u.vl u.els] (X:=Unit) (fun _=>True) (fun _=> .bool (rY u)) (fun _=> []) (fun _=> [])):
  aW prog 123 [sv v] [] [cm v l] (.bool (l.all rY)) []:=by
 refine aI func123 J ntmps123 J fun w0 M H=>a_ 0 1 J iK (aq (am J (az J (ad J (ai (xs:= [.tmp 3,.func 162]) (Ey v l hl 162 [] (cm v l) (fun u=> !rY u) Rj (fun u hu=>FA v l ih u hu)) Rm [] [(false,1),(false,0)] [] (fun _ _=>aP (cZ J) (am J (aa (ay (aN () O J (ce (aL J)) (congrArg Value.bool (iC rY l)) [] [] J J J))))))))))
theorem I9(t:Ty)(ht:GY t)(ihb:∀u∈t.body,Spec prog 163 [yV u] [] [ck u.ve u.es,cm u.vb u.body,cm u.vl u.els] (X:=Unit) (fun _=>True) (fun _=> .bool (rY u)) (fun _=> []) (fun _=> []))(ihl:∀u∈t.els,Spec prog 163 [yV u] [] [ck u.ve u.es,cm u.vb u.body,cm u.vl u.els] (X:=Unit) (fun _=>True) (fun _=> .bool (rY u)) (fun _=> []) (fun _=> [])):
  aW prog 163 [yV t] [] [ck t.ve t.es,cm t.vb t.body,cm t.vl t.els] (.bool (rY t)) []:=by
 refine aI func163 J ntmps163 J fun w0 M H=>a_ 0 3 J iM (a_ 1 4 J iK (a_ 2 5 J iK ?_))
 have hnm:=KM ht;obtain⟨hel,heg⟩:=uy ht;obtain⟨hbl,hbg⟩:=fZ ht;obtain⟨hll,hlg⟩:=iA ht;refine aq (cM J J fun b1=>am J (az J (aD fV J (aR 1 t3 J J J J (ar J J bv (ad J (aH [] J J O (fun hg1=>ah fV J) J (aH [(10,_)] J J ⟨J,O⟩ (fun hg2=>ag t3 J J (ax (k:=1) J J)) J (aH [(10,_),(11,_)] J J ⟨J,J,O⟩ (fun hg3=>aQ J J bv) J (aP (bH J J J) (am J (az J (am J ?_)))))))))))));refine aa (bC (X:=Unit) (fun _=>True) (fun _=> [(1,Pt b1),(3,.bool (decide (t.kind=1) || decide (t.kind=2))),(4,I6 (if t.kind=3 then 2 else 1))]) (fun _=> [(1,bj b1 64 (fK t))]) (fun _=> [(0,ck t.ve t.es),(1,cm t.vb t.body),(2,cm t.vl t.els),(3,sl 4 eH (sv t.ve) t.es),(4,sl 5 fK (sv t.vb) t.body),(5,sl 5 fK (sv t.vl) t.els)]) ?_ (fun _ _=> ?_))
 ·refine aq (aD fV J (aR 1 t3 J J J J (ar J J bv (aa (ap J (fun h4=> ?_) (fun h4=> ?_))))))
  ·have q3:t.kind=3:=cB h4;refine ak (am J (aa (aG () O (by rw [aj q3];rfl) J J)))
  ·have q3:¬t.kind=3:=dl h4;refine aC (aG () O (by rw [ac q3];rfl) J J)
 ·refine aq (am J (aa (bC (X:=Unit) (fun _=>True) (fun _=> [(1,Pt b1),(3,.bool (decide (t.kind=1) || decide (t.kind=2))),(4,I6 (if t.kind=3 then 2 else 1)),(5,I6 (if t.kind=4 then 2 else if t.kind=5 then 1 else 0))]) (fun _=> [(1,bj b1 64 (fK t))]) (fun _=> [(0,ck t.ve t.es),(1,cm t.vb t.body),(2,cm t.vl t.els),(3,sl 4 eH (sv t.ve) t.es),(4,sl 5 fK (sv t.vb) t.body),(5,sl 5 fK (sv t.vl) t.els)]) ?_ (fun _ _=> ?_))))
  ·refine aq (aD fV J (aR 1 t3 J J J J (aa (aA (aq (ar J J bv (am J (aa (ap J (fun h5=> ?_) (fun h5=> ?_))))))))))
   ·have q4:t.kind=4:=cB h5;refine ak (am J (aa (aG () O (by rw [aj q4];rfl) J J)))
   ·have q4:¬t.kind=4:=dl h5;refine aq (ar J J bv (am J (aa (ap J (fun h6=> ?_) (fun h6=> ?_)))))
    ·have q5:t.kind=5:=cB h6;refine ak (am J (aa (aG () O (by rw [ac q4,aj q5];rfl) J J)))
    ·have q5:¬t.kind=5:=dl h6;refine aC (aG () O (by rw [ac q4,ac q5];rfl) J J)
  ·refine aq (aD fV J (aR 1 t3 J J J J (ar J J iz (ad J (aH [] J J O (fun hg7=>ah fV J) J (aH [(27,_)] J J ⟨J,O⟩ (fun hg8=>ag t3 J J (ax (k:=1) J J)) J (aH [(27,_),(28,_)] J J ⟨J,J,O⟩ (fun hg9=>aQ J J mt) J (aP (bH J J J) (ad J (aH [] J J O (fun hg10=>ah jF J) J (aH [(32,_)] J J ⟨J,O⟩ (fun hg11=>ag kc J J (ax (k:=1) J J)) J (aH [(32,_),(33,_)] J J ⟨J,J,O⟩ (fun hg12=>aT underlying59 J (aJ (k:=3) J)) J (aH [(32,_),(33,_),(34,_)] J J ⟨J,J,J,O⟩ (fun hg13=>aV J) J (aH [(32,_),(33,_),(34,_),(35,_)] J J ⟨J,J,J,J,O⟩ (fun hg14=>aQ J J bv) J (aP (bH J J J) (ad J (aH [] J J O (fun hg15=>aV J) J (aH [(39,_)] J J ⟨J,O⟩ (fun hg16=>aV J) J ?_))))))))))))))))))
   refine cA [] [(39,_),(40,_)] J J O ⟨J,J,O⟩ (fun hg17 hg17'=>ah kz J) J (cA [(41,_)] [(39,_),(40,_)] J J ⟨J,O⟩ ⟨J,J,O⟩ (fun hg18 hg18'=>ag t9 J J (ax (k:=1) J J)) J (FN [(41,_),(42,_)] [(39,_),(40,_)] J J ⟨J,J,O⟩ ⟨J,J,O⟩ (fun hg19 hg19'=>jW (xs:= [.tmp 42]) (ku t.name hnm.1 hnm.2) zy [] [] [] [] J J J J J J J J (fun _ _=>J) (fun _ _ _=>J)) J (aH [(39,_),(40,_)] J J ⟨J,J,O⟩ (fun hg20=>d7 J J J (by first|exact dL|exact eu|exact da hg20|exact dF hg20|rfl)) J (aH [(39,_),(40,_),(44,_)] J J ⟨J,J,J,O⟩ (fun hg21=>aV J) J (cA [] [(39,_),(40,_),(44,_),(45,_)] J J O ⟨J,J,J,J,O⟩ (fun hg22 hg22'=>aV J) J (cA [(46,_)] [(39,_),(40,_),(44,_),(45,_)] J J ⟨J,O⟩ ⟨J,J,J,J,O⟩ (fun hg23 hg23'=>cZ J) J (cA [(46,_),(47,_)] [(39,_),(40,_),(44,_),(45,_)] J J ⟨J,J,O⟩ ⟨J,J,J,J,O⟩ (fun hg24 hg24'=>aV J) J (cA [] [(46,_),(47,_),(48,_)] J J O ⟨J,J,J,O⟩ (fun hg25 hg25'=>ah kz J) J (cA [(49,_)] [(46,_),(47,_),(48,_)] J J ⟨J,O⟩ ⟨J,J,J,O⟩ (fun hg26 hg26'=>ag t9 J J (ax (k:=1) J J)) J (cA [(49,_),(50,_)] [(46,_),(47,_),(48,_)] J J ⟨J,J,O⟩ ⟨J,J,J,O⟩ (fun hg27 hg27'=>aQ J J e_) J (cA [(46,_),(47,_),(48,_)] [(39,_),(40,_),(44,_),(45,_)] J J ⟨J,J,J,O⟩ ⟨J,J,J,J,O⟩ (fun hg28 hg28'=>d7 J J J (by first|exact dL|exact eu|exact da hg28|exact dF hg28|exact da (Dp hg28 hg28')|exact dF (Dp hg28 hg28')|rfl)) J (aH [(39,_),(40,_),(44,_),(45,_)] J J ⟨J,J,J,J,O⟩ (fun hg29=>d7 J J J (by first|exact dL|exact eu|exact da hg29|exact dF hg29|rfl)) J (aP (bH J J J) (ad J (aH [] J J O (fun hg30=>aV J) J (aH [(56,_)] J J ⟨J,O⟩ (fun hg31=>aQ J J fA) J (aH [(56,_),(57,_)] J J ⟨J,J,O⟩ (fun hg32=>aV J) J ?_)))))))))))))))))
   refine cA [] [(56,_),(57,_),(58,_)] J J O ⟨J,J,J,O⟩ (fun hg33 hg33'=>ah gu J) J (cA [(59,_)] [(56,_),(57,_),(58,_)] J J ⟨J,O⟩ ⟨J,J,J,O⟩ (fun hg34 hg34'=>ag kO J J (ax (k:=1) J J)) J (cA [(59,_),(60,_)] [(56,_),(57,_),(58,_)] J J ⟨J,J,O⟩ ⟨J,J,J,O⟩ (fun hg35 hg35'=>aT underlying62 J (aJ (k:=4) J)) J (cA [(59,_),(60,_),(61,_)] [(56,_),(57,_),(58,_)] J J ⟨J,J,J,O⟩ ⟨J,J,J,O⟩ (fun hg36 hg36'=>aQ J J bv) J (aH [(56,_),(57,_),(58,_)] J J ⟨J,J,J,O⟩ (fun hg37=>d7 J J J (by first|exact dL|exact eu|exact da hg37|exact dF hg37|rfl)) J (aP (bH J J J) (ad J (aH [] J J O (fun hg38=>aV J) J (aH [(66,_)] J J ⟨J,O⟩ (fun hg39=>aQ J J fA) J (aH [(66,_),(67,_)] J J ⟨J,J,O⟩ (fun hg40=>aV J) J (cA [] [(66,_),(67,_),(68,_)] J J O ⟨J,J,J,O⟩ (fun hg41 hg41'=>ah g9 J) J (cA [(69,_)] [(66,_),(67,_),(68,_)] J J ⟨J,O⟩ ⟨J,J,J,O⟩ (fun hg42 hg42'=>ag kO J J (ax (k:=1) J J)) J (cA [(69,_),(70,_)] [(66,_),(67,_),(68,_)] J J ⟨J,J,O⟩ ⟨J,J,J,O⟩ (fun hg43 hg43'=>aT underlying62 J (aJ (k:=5) J)) J (cA [(69,_),(70,_),(71,_)] [(66,_),(67,_),(68,_)] J J ⟨J,J,J,O⟩ ⟨J,J,J,O⟩ (fun hg44 hg44'=>aQ J J bv) J (aH [(66,_),(67,_),(68,_)] J J ⟨J,J,J,O⟩ (fun hg45=>d7 J J J (by first|exact dL|exact eu|exact da hg45|exact dF hg45|rfl)) J (aP (bH J J J) (ad J (aH [] J J O (fun hg46=>ah jF J) J (aH [(76,_)] J J ⟨J,O⟩ (fun hg47=>ag kc J J (ax (k:=1) J J)) J (kP [(76,_),(77,_)] J J ⟨J,J,O⟩ (fun hg48=>jW (xs:= [.tmp 77,.func 187]) (wa t.ve t.es hel 187 [] (ck t.ve t.es) (fun u=> !rX u) Q8 (fun u hu=>FE t.ve t.es (fun u hu=>Jb u (heg.mem u hu)) u hu)) LP [] [(false,3),(false,0)] [] [] J J J J J J J J (fun _ _=>J) (fun _ _ _=>J)) J ?_)))))))))))))))))))
   refine aH [(76,_),(77,_),(78,_)] J J ⟨J,J,J,O⟩ (fun hg49=>cZ J) J (aP (bH J J J) (ad J (aH [] J J O (fun hg50=>ah gu J) J (aH [(82,_)] J J ⟨J,O⟩ (fun hg51=>ag kO J J (ax (k:=1) J J)) J (kP [(82,_),(83,_)] J J ⟨J,J,O⟩ (fun hg52=>jW (xs:= [.tmp 83]) (qJ t.vb t.body hbl ihb) H_ [] [(false,1)] [] [] J J J J J J J J (fun _ _=>J) (fun _ _ _=>J)) J (aP (bH J J J) (ad J (aH [] J J O (fun hg53=>ah g9 J) J (aH [(87,_)] J J ⟨J,O⟩ (fun hg54=>ag kO J J (ax (k:=1) J J)) J (kP [(87,_),(88,_)] J J ⟨J,J,O⟩ (fun hg55=>jW (xs:= [.tmp 88]) (qJ t.vl t.els hll ihl) H_ [] [(false,2)] [] [] J J J J J J J J (fun _ _=>J) (fun _ _ _=>J)) J (aP (bH J J J) (am J (aa (ay (aN () O J (ce (aL J)) (congrArg Value.bool (PE t).symm) [] [] J J J)))))))))))))))
theorem Am:∀(n:Nat)(t:Ty),SizeOf.sizeOf t<n→GY t→aW prog 163 [yV t] [] [ck t.ve t.es,cm t.vb t.body,cm t.vl t.els] (.bool (rY t)) []
 | 0,_,h,_=>absurd h (Nat.not_lt_zero _)
 | n+1,t,h,ht=>I9 t ht (fun u hu=>Am n u (by have:=K1 (.inl hu);omega) ((fZ ht).2.mem u hu)) (fun u hu=>Am n u (by have:=K1 (.inr hu);omega) ((iA ht).2.mem u hu))
theorem I_(t:Ty)(ht:GY t):aW prog 163 [yV t] [] [ck t.ve t.es,cm t.vb t.body,cm t.vl t.els] (.bool (rY t)) []:=Am _ t (Nat.lt_succ_self _) ht
theorem wC(s:Ba)(hs:qz s):
  aW prog 121 [Sg s] [] [] (.bool (!bE s)) []:=by
 refine aI func121 J ntmps121 J fun w0 M H=>aq (am J (az J (ad J (ai (xs:= [.tmp 3]) (ku s hs.1 hs.2) zy [] [] [] (fun _ _=>aP (cZ J) (am J (aa (ay (aN () O J (ce (aL J)) J [] [] J J J)))))))))
theorem yy(f:Tf)(fs:List Tf)(hf:f∈fs)(hg:GF f):
  aW prog 119 [IW f] [] [Ky fs] (.bool (!rF f)) []:=by
 refine aI func119 J ntmps119 J fun w0 M H=>a_ 0 1 J (QD hf) (a_ 1 2 J ri (a_ 1 3 J m_ ?_))
 obtain⟨g1,g2,g3,g4,g5,g6⟩:=hg;refine aq (cM J J fun b1=>am J (az J (aD fj J (aR 1 jT J J J J (ai (xs:= [.tmp 5,.func 121]) (Ez f.vp f.ps g3 121 (fun s=> !bE s) RG (fun s hs=>wC s (g2 s hs))) RH [] [(false,2)] [] (fun _ _=>am J (az J (ad J (ad J (aH [] J J O (fun hg1=>ah lW J) J (aH [(9,_)] J J ⟨J,O⟩ (fun hg2=>ag t9 J J (ax (k:=1) J J)) J (kP [(9,_),(10,_)] J J ⟨J,J,O⟩ (fun hg3=>jW (xs:= [.tmp 10]) (ku f.name g1.1 g1.2) zy [] [] [] [] J J J J J J J J (fun _ _=>J) (fun _ _ _=>J)) J (aH [(9,_),(10,_),(11,_)] J J ⟨J,J,J,O⟩ (fun hg4=>cZ J) J ?_)))))))))))));refine aP (bH J J J) (ad J (aH [] J J O (fun hg5=>ah li J) J (aH [(15,_)] J J ⟨J,O⟩ (fun hg6=>ag kO J J (ax (k:=1) J J)) J (kP [(15,_),(16,_)] J J ⟨J,J,O⟩ (fun hg7=>jW (xs:= [.tmp 16]) (qJ f.vb f.body g4 (fun u hu=>I_ u (g5.mem u hu))) H_ [] [(false,3)] [] [] J J J J J J J J (fun _ _=>J) (fun _ _ _=>J)) J (aH [(15,_),(16,_),(17,_)] J J ⟨J,J,J,O⟩ (fun hg8=>cZ J) J (aP (bH J J J) (am J (aa (ay (aN () O J (ce (aL J)) (congrArg Value.bool (PH f)) [] [] J J J))))))))))
theorem Ar(vp:SV)(fs:List Tf)(hg:GP fs):
  aW prog 81 [.agg #[sv vp]] [] [dO vp fs] (.bool (rP fs)) []:=by
 refine aI func81 J ntmps81 J fun w0 M H=>a_ 0 1 J lL (a_ 0 2 J IV (aq (cM J J fun b1=>am J (az J (aD fW J (aR 1 kJ J J J J (ai (xs:= [.tmp 4,.func 119]) (EA vp fs hg.1 119 [] (Ky fs) (fun f=> !rF f) RI (fun f hf=>yy f fs hf (hg.2 f hf))) RJ [] [(false,1),(false,2)] [] (fun _ _=>aP (cZ J) (am J (aa (ay (aN () O J (ce (aL J)) (congrArg Value.bool (iC rF fs)) [] [] J J J))))))))))))
def cR(vp vn:SV)(nd va:Int)(dp:Bool)(er:Int):List Value:= [sv vp,sv vn,I6 nd,I6 va,.bool dp,I6 er]
theorem cj{α:Type}{l:List α}{i:Nat}{k:α}(h:l[i]?=some k):l.take (i+1)=l.take i++ [k]:=by
 obtain⟨hi,hk⟩:=cU.1 h;rw [List.take_add_one,bQ hi,hk];rfl
theorem w3:∀(a b:List Tx),dD (a++b)=dD a+dD b
 | [],b=>by simp [dD]
 | t::r,b=>by simp [dD,w3 r b,Nat.add_assoc]
theorem Db:∀(a b:List Tx),f_ (a++b)=max (f_ a) (f_ b)
 | [],b=>by simp [f_]
 | t::r,b=>by simp [f_,Db r b,Nat.max_assoc]
theorem kS:∀(a b:List Ty),cv (a++b)=cv a+cv b
 | [],b=>by simp [cv]
 | t::r,b=>by simp [cv,kS r b,Nat.add_assoc]
theorem m9:∀(a b:List Ty),dW (a++b)=dW a+dW b
 | [],b=>by simp [dW]
 | t::r,b=>by simp [dW,m9 r b,Nat.add_assoc]
theorem qs(d:Nat):∀(a b:List Ty),cG d (a++b)=(cG d a || cG d b)
 | [],b=>by simp [cG]
 | t::r,b=>by simp [cG,qs d r b,Bool.or_assoc]
theorem Co(t:Tx):dD [t]=nX t:=by simp [dD]
theorem KC(t:Tx):f_ [t]=dX t:=by simp [f_]
theorem JI(t:Ty):cv [t]=nY t:=by simp [cv]
theorem IH(t:Ty):dW [t]=vY t:=by simp [dW]
theorem Hs(d:Nat)(t:Ty):cG d [t]=xG d t:=by simp [cG]
theorem vD(t:Tx):nX t=dD t.kids+1:=by cases t;rfl
theorem QL(t:Tx):dX t=f_ t.kids+1:=by cases t;rfl
theorem Gl(t:Ty):nY t=1+dD t.es+cv t.body+cv t.els:=by cases t;rfl
theorem E3(t:Ty):vY t=(if t.kind=1 then 1 else 0)+dW t.body+dW t.els:=by cases t;rfl
theorem N8(d:Nat)(t:Ty):xG d t=(decide (d>8) || decide (f_ t.es>8) || cG (d+1) t.body || cG (d+1) t.els):=by cases t;rfl
theorem iQ{l:List Tx}{i:Nat}{k:Tx}(h:l[i]?=some k):dD (l.take (i+1))=dD (l.take i)+nX k:=by rw [cj h,w3,Co]
theorem ud{l:List Tx}{i:Nat}{k:Tx}(h:l[i]?=some k):f_ (l.take (i+1))=max (f_ (l.take i)) (dX k):=by rw [cj h,Db,KC]
theorem tz:∀(l:List Tx)(i:Nat),dD (l.take i)≤dD l:=fun l i=>by
 have h:=w3 (l.take i) (l.drop i);rw [List.take_append_drop]at h;omega
theorem wZ:∀(l:List Ty)(i:Nat),cv (l.take i)≤cv l:=fun l i=>by
 have h:=kS (l.take i) (l.drop i);rw [List.take_append_drop]at h;omega
theorem mP{l:List Ty}{i:Nat}{k:Ty}(h:l[i]?=some k):cv (l.take (i+1))=cv (l.take i)+nY k:=by rw [cj h,kS,JI]
theorem oY{l:List Ty}{i:Nat}{k:Ty}(h:l[i]?=some k):dW (l.take (i+1))=dW (l.take i)+vY k:=by rw [cj h,m9,IH]
theorem Ew{d:Nat}{l:List Ty}{i:Nat}{k:Ty}(h:l[i]?=some k):cG d (l.take (i+1))=(cG d (l.take i) || xG d k):=by rw [cj h,qs,Hs]
mutual
theorem HH:∀t:Tx,dX t≤nX t
 | .mk _ _ _ _ kids=>by
  have:=HE kids;rw [dX,nX];omega
theorem HE:∀l:List Tx,f_ l≤dD l
 | []=>bU _
 | t::r=>by
  have h1:=HH t;have h2:=HE r;rw [f_,dD];omega
end
mutual
theorem KY:∀t:Ty,vY t≤nY t
 | .mk k _ _ _ _ body _ els=>by
  have h1:=mD body;have h2:=mD els;rw [vY,nY];split<;>omega
theorem mD:∀l:List Ty,dW l≤cv l
 | []=>bU _
 | t::r=>by
  have h1:=KY t;have h2:=mD r;rw [dW,cv];omega
end
theorem Ic(a b:Nat):((max a b:Nat):Int)=max (a:Int) (b:Int):=by omega
theorem C9{a b:Nat}:(decide (a>8) || decide (b>8))=decide (max a b>8):=by
 by_cases h:a>8
 ·have:max a b>8:=by omega
  simp [h,this]
 ·by_cases h2:b>8
  ·have:max a b>8:=by omega
   simp [h2,this]
  ·have:¬max a b>8:=by omega
   simp [h,h2,this]
theorem kH(c:Nat)(vp vn:SV)(nd va:Int)(dp:Bool)(er:Int)(e:Int):
  aW prog 127 [Pt c,I6 e] [bj c 165 (cR vp vn nd va dp er)] [] (.tuple #[]) [bj c 165 (cR vp vn nd va dp (fst er e))]:=by
 refine aI func127 J ntmps127 J fun w0 M H=>aq (ad J (bS J (aD xA J (aR 0 DE J J J J (ar J J bv (aa (ap J (fun h1=> ?_) (fun h1=> ?_))))))))
 ·have h0:er=0:=cB h1;have hfs:fst er e=e:=aj h0;refine ak (ad J (ad J (bS J (aD xA J (aB (k:=0) DE J J J J J J J J (aa ?_))))));rw [hfs];refine cJ () O J iU J [0] [] J J J
 ·have h0:¬er=0:=dl h1;have hfs:fst er e=er:=ac h0;refine aC ?_;rw [hfs];refine cJ () O J iU J [0] [] J J J
theorem NU(er z:Int)(b:Bool)(h:b=true):fst er (if b=true then z else 0)=fst er z:=by rw [aj h]
theorem Kh(er z:Int)(b:Bool)(h:b=false):fst er (if b=true then z else 0)=er:=by rw [ac (by rw [h];simp),cO]
theorem Ki(er z:Int)(b:Bool)(h:b=true):fst er (if b=true then 0 else z)=er:=by rw [aj h,cO]
theorem Hj(er z:Int)(b:Bool)(h:b=false):fst er (if b=true then 0 else z)=fst er z:=by rw [ac (by rw [h];simp)]
theorem vZ(c:Nat)(vp vn:SV)(nd va:Int)(dp:Bool)(er:Int)(ns:List Ba)(hn:ns.length≤1000000)(s:Ba):
  aW prog 165 [Pt c,Sg s] [bj c 165 (cR vp vn nd va dp er),own 9 1 eS (sv vn) ns] [] (.tuple #[]) [bj c 165 (cR vp vn nd va dp (fst er (if cx s ns=true then 0 else 21))),own 9 1 eS (sv vn) ns]:=by
 refine aI func165 J ntmps165 J fun w0 M H=>aq (ad J (bS J (aD qf J (aR 0 jT J J J J (ad J (ai (xs:= [.tmp 7,.tmp 8]) (Spec.ro1 (jl vn ns (by omega) s) cf) Dh [] [(true,1)] [] (fun _ _=>aP (cZ J) (aa (ap J (fun h1=> ?_) (fun h1=> ?_))))))))))
 ·have h0:cx s ns=false:=by simpa using h1
  rw [Hj _ _ _ h0];refine ak (ad J (ai (xs:= [.tmp 11,.const (I6 21)]) (kH c vp vn nd va dp er 21) zx [0] [] [0] (fun _ _=>aa (cJ () O J iU J [0,1] [] J J J))))
 ·have h0:cx s ns=true:=by simpa using h1
  rw [Ki _ _ _ h0];refine aC (cJ () O J iU J [0,1] [] J J J)
theorem ui(c:Nat)(vp vn:SV)(nd va:Int)(dp:Bool)(er:Int)(ns:List Ba)(hn:ns.length≤1000000)(s:Ba):
  Spec prog 128 [Pt c,Sg s] [bj c 165 (cR vp vn nd va dp er),own 9 1 eS (sv vn) ns] [] (X:=SV) (fun _=>True) (fun _=> .tuple #[]) (fun v=> [bj c 165 (cR vp v nd va dp (fst er (if cx s ns=true then 22 else 0))),own 9 1 eS (sv v) (ns++ [s])]) (fun _=> []):=by
 refine aI func128 J ntmps128 J fun w0 M H=>bC (X:=Unit) (fun _=>True) (fun _=> [(0,Pt c),(1,Sg s)]) (fun _=> [(0,bj c 165 (cR vp vn nd va dp (fst er (if cx s ns=true then 22 else 0)))),(1,own 9 1 eS (sv vn) ns)]) (fun _=> []) ?_ (fun _ _=> ?_)
 ·refine aq (ad J (bS J (aD qf J (aR 0 jT J J J J (ad J (ai (xs:= [.tmp 7,.tmp 8]) (Spec.ro1 (jl vn ns (by omega) s) cf) Dh [] [(true,1)] [] (fun _ _=>aa (ap J (fun h1=> ?_) (fun h1=> ?_)))))))))
  ·have h0:cx s ns=true:=h1;rw [NU _ _ _ h0];refine ak (ad J (ai (xs:= [.tmp 10,.const (I6 22)]) (kH c vp vn nd va dp er 22) zx [0] [] [0] (fun _ _=>aa (aG () O J J J))))
  ·have h0:cx s ns=false:=h1;rw [Kh _ _ _ h0];refine aC (aG () O J J J)
 ·refine ak (ad J (ad J (bS J (aD qf J (aR 0 jT J J J J (ad J (bq eS _ underlying46 t9 J (by decide) (by decide) J J J J fun v18=>dy 1 underlying46 t9 J (by decide) (fun _=>J) (fun _=>J) J J J (bh (k:=18) J) (by first|omega|(simp;done)|(simp;omega)) (by unfold maxLen;first|omega|(simp;done)|(simp;omega)) J fun v19=>bS J (aD qf J (aB (k:=0) jT J J J J J J J J (aa (cJ v19 O J iU J [0,1] [] J J J)))))))))))
theorem Bf(f:Tf)(b:Nat)(s:Ba):
  aW prog 125 [IW f,Pt b] [] [bj b 9 [Sg s]] (.bool (decide (f.name=s))) []:=by
 refine aI func125 J ntmps125 J fun w0 M H=>aq (cM J J fun b2=>am J (az J (aD lW J (aR 2 t9 J J J J (aP (ag t9 J J (ed (k:=0) J J)) (ar J J e_ (am J (aa (ay (aN () O J (ce (aL J)) (congrArg Value.bool (eT _ _)) [] [] J J J))))))))))
theorem oO(c:Nat)(vp vn:SV)(nd va:Int)(dp:Bool)(er:Int)(s:Ba)(fs:List Tf)(hf:fs.length≤1000000):
  aW prog 82 [Pt c,Sg s] [bj c 165 (cR vp vn nd va dp er)] [sl 3 jI (sv vp) fs] (I6 (Bd fs s)) [bj c 165 (cR vp vn nd va dp er)]:=by
 refine aI func82 J ntmps82 J fun w0 M H=>aq (wK J J J fun b3=>am J (az J (ad J (bS J (aD C2 J (aD fW J (aR 0 kJ J J J J (aP (fv (first:= []) (cap:= [.tmp 3]) J J) (c_ (xs:= [.tmp 9,.tmp 10]) (y0 vp fs hf 125 [Pt b3] (bj b3 9 [Sg s]) (fun f=>decide (f.name=s)) RF (fun f _=>Bf f b3 s)) L6 [] [(false,0),(true,3)] [] J J J (fun _ _=>am J (aa (ay (aN () O J (ce (aL J)) J [0] [] J J J)))))))))))))
theorem Ee(c:Nat)(vp vn:SV)(va er:Int)(t:Tx)(ht:GX t)(ih:∀u∈t.kids,∀(nd:Int)(dp:Bool),0≤nd→nd+(nX u:Int)≤1000000000000→Spec prog 164 [Pt c,xV u] [bj c 165 (cR vp vn nd va dp er)] [ck u.v u.kids] (X:=Unit) (fun _=>True) (fun _=>I6 (dX u:Int)) (fun _=> [bj c 165 (cR vp vn (nd+(nX u:Int)) va (dp || decide (dX u>8)) er)]) (fun _=> []))(nd:Int)(dp:Bool)(h0:0≤nd)(hn:nd+(nX t:Int)≤1000000000000):
  aW prog 164 [Pt c,xV t] [bj c 165 (cR vp vn nd va dp er)] [ck t.v t.kids] (I6 (dX t:Int)) [bj c 165 (cR vp vn (nd+(nX t:Int)) va (dp || decide (dX t>8)) er)]:=by
 refine aI func164 J ntmps164 J fun w0 M H=> ?_
 have hkl:=qY ht;have hnx:=vD t;have hdx:=QL t;have hdn:=HH t;refine a_ 0 1 J iM (aq (cM J J fun b3=>am J (az J (ad J (bS J (aD ny J (aR 0 t3 J J J J (ar J J aK (bS J (aD ny J (aB (k:=0) t3 J J J J J J J J (az J (am J ?_)))))))))))));refine aa (aU (aD dq J (aR 3 kc J J J J (aP (aT underlying59 J (aJ (k:=1) J)) (ad J (aa (aA ?_)))))));refine bJ (X:=Nat) (fun i=>i≤t.kids.length) (fun i=> [(0,Pt c),(3,Pt b3),(5,I6 (f_ (t.kids.take i):Int)),(16,sv t.v),(17,I6 (t.kids.length:Int)),(18,I6 (i:Int))]) (fun i=> [(0,bj c 165 (cR vp vn (nd+1+(dD (t.kids.take i):Int)) va (dp || decide (f_ (t.kids.take i)>8)) er)),(3,bj b3 61 (eH t))]) (fun i=> [(0,ck t.v t.kids),(1,sl 4 eH (sv t.v) t.kids)]) (fun i=>t.kids.length-i) 0 (bn _) J (by rw [show(dp || decide (f_ (t.kids.take 0)>8))=dp by simp [f_],show nd+1+(dD (t.kids.take 0):Int)=nd+1 by simp [dD]];rfl) J (fun i n1=> ?_);refine aq (ar J J cy (aa (be (ap J (fun h1=> ?_) (fun h1=> ?_)))))
 ·(try simp only [bl]at h1);have hi:i<t.kids.length:=by omega
  obtain⟨kid,hkid⟩:∃k,t.kids[i]?=some k:=⟨_,bQ hi⟩
  have hkm:=bV hkid;have hle:=tz t.kids (i+1);rw [iQ hkid]at hle;refine aC (be (aA (aq (aP (aO (j:=i) underlying59 ci J J (aJ (k:=1) J) (by first|rfl|omega) (by first|omega|(simp;done)|(simp;omega))) (aP (aM ci J J J (bF (aJ (k:=1) J) (by intro _;rfl) hkid (by rfl))) (aZ ci J J fun b7=>av (k:=7) ci J J J J J J (aa (ak (ad J (ad J (aP (aM ci J J J (bp (k:=7) J)) (a_ 0 8 J (dH hkm) (ai (xs:= [.tmp 23,.tmp 24]) (ih kid hkm (nd+1+(dD (t.kids.take i):Int)) (dp || decide (f_ (t.kids.take i)>8)) (by omega) (by omega)) LV [0] [(false,8)] [0] (fun _ _=>aP (yO J J J) (am J (aa (ak ?_)))))))))))))))));refine ar J J aK (ad J (aa ?_));refine aG (i+1) ⟨by omega,by omega⟩ (by rw [ud hkid,Ic];rfl) (by rw [ud hkid,iQ hkid,←C9,←Bool.or_assoc,Int.natCast_add,←Int.add_assoc];rfl) J
 ·(try simp only [bl]at h1);have hi:i=t.kids.length:=by omega
  subst hi;rw [cQ];refine bL (aq (ad J (ad J (bS J (aD qe J (aR 0 t4 J J J J (ad J (aH [] J J O (fun hg2=>aV J) J (aH [(34,_)] J J ⟨J,O⟩ (fun hg3=>aQ J J aK) J (aH [(34,_),(35,_)] J J ⟨J,J,O⟩ (fun hg4=>aQ J J fA) J (aP (bH J J J) (bS J (aD qe J (aB (k:=0) t4 J J J J J J J J (az J (ad J ?_))))))))))))))));refine ar J J aK (am J (aa (ay ?_)));have hfin:cR vp vn (nd+1+(dD t.kids:Int)) va (dp || decide (f_ t.kids>8) || decide ((f_ t.kids:Int)+1>8)) er=cR vp vn (nd+(nX t:Int)) va (dp || decide (dX t>8)) er:=by
   rw [hnx,hdx];have e1:nd+1+(dD t.kids:Int)=nd+((dD t.kids+1:Nat):Int):=by omega
   have e2:(dp || decide (f_ t.kids>8) || decide ((f_ t.kids:Int)+1>8))=(dp || decide (f_ t.kids+1>8)):=by
    rw [Bool.or_assoc]
    congr 1
    by_cases h:f_ t.kids+1>8
    ·have h2:(f_ t.kids:Int)+1>8:=by omega
     simp [h,h2]
    ·have h2:¬(f_ t.kids:Int)+1>8:=by omega
     have h3:¬f_ t.kids>8:=by omega
     simp [h,h2,h3]
   rw [e1,e2]
  rw [←hfin];refine aN () O J (ce (aL J)) (by rw [hdx];rfl) [0] [] J J J
theorem yT(c:Nat)(vp vn:SV)(va er:Int):∀(n:Nat)(t:Tx),SizeOf.sizeOf t<n→GX t→∀(nd:Int)(dp:Bool),0≤nd→nd+(nX t:Int)≤1000000000000→aW prog 164 [Pt c,xV t] [bj c 165 (cR vp vn nd va dp er)] [ck t.v t.kids] (I6 (dX t:Int)) [bj c 165 (cR vp vn (nd+(nX t:Int)) va (dp || decide (dX t>8)) er)]
 | 0,_,h,_=>absurd h (Nat.not_lt_zero _)
 | n+1,t,h,ht=>fun nd dp h0 hn=>Ee c vp vn va er t ht (fun u hu=>yT c vp vn va er n u (by have:=vj hu;omega) ((nH ht).mem u hu)) nd dp h0 hn
theorem Ef(c:Nat)(vp vn:SV)(va er:Int)(t:Tx)(ht:GX t)(nd:Int)(dp:Bool)(h0:0≤nd)(hn:nd+(nX t:Int)≤1000000000000):aW prog 164 [Pt c,xV t] [bj c 165 (cR vp vn nd va dp er)] [ck t.v t.kids] (I6 (dX t:Int)) [bj c 165 (cR vp vn (nd+(nX t:Int)) va (dp || decide (dX t>8)) er)]:=yT c vp vn va er _ t (Nat.lt_succ_self _) ht nd dp h0 hn
def Sk(c:Nat)(vp vn:SV)(er:Int)(v:SV)(l:List Ty):Prop:=∀(d:Nat)(nd va:Int)(dp:Bool),d+cv l≤1000000000000→0≤nd→nd+(cv l:Int)≤1000000000000→0≤va→va+(dW l:Int)≤1000000000000→
 aW prog 126 [Pt c,sv v,I6 (d:Int)] [bj c 165 (cR vp vn nd va dp er)] [cm v l] (.tuple #[]) [bj c 165 (cR vp vn (nd+(cv l:Int)) (va+(dW l:Int)) (dp || cG d l) er)]
theorem Nf(p q a b c d:Bool):(p || q || a || b || c || d)=(p || (q || (a || b || c || d))):=by cases p<;>cases q<;>rfl
theorem Bp(c:Nat)(vp vn:SV)(er:Int)(v:SV)(l:List Ty)(hl:l.length≤1000000)(hg:GYs l)(ih:∀u∈l,Sk c vp vn er u.vb u.body∧Sk c vp vn er u.vl u.els)(d:Nat)(nd va:Int)(dp:Bool)(hd:d+cv l≤1000000000000)(h0:0≤nd)(hn:nd+(cv l:Int)≤1000000000000)(h1:0≤va)(hv:va+(dW l:Int)≤1000000000000):
  aW prog 126 [Pt c,sv v,I6 (d:Int)] [bj c 165 (cR vp vn nd va dp er)] [cm v l] (.tuple #[]) [bj c 165 (cR vp vn (nd+(cv l:Int)) (va+(dW l:Int)) (dp || cG d l) er)]:=by
 refine aI func126 J ntmps126 J fun w0 M H=>a_ 0 1 J iK (aq (ad J (aP (aT underlying62 J (aJ (k:=1) J)) (ad J (aa (aA ?_))))))
 refine bJ (X:=Nat) (fun i=>i≤l.length) (fun i=> [(0,Pt c),(2,I6 (d:Int)),(10,sv v),(11,I6 (l.length:Int)),(12,I6 (i:Int))]) (fun i=> [(0,bj c 165 (cR vp vn (nd+(cv (l.take i):Int)) (va+(dW (l.take i):Int)) (dp || cG d (l.take i)) er))]) (fun i=> [(0,cm v l),(1,sl 5 fK (sv v) l)]) (fun i=>l.length-i) 0 (bn _) J (by rw [show(dp || cG d (l.take 0))=dp by simp [cG],show nd+(cv (l.take 0):Int)=nd by simp [cv],show va+(dW (l.take 0):Int)=va by simp [dW]];rfl) J (fun i n1=> ?_);refine aq (ar J J cy (aa (be (ap J (fun h1=> ?_) (fun h1=> ?_)))))
 ·(try simp only [bl]at h1);have hi:i<l.length:=by omega
  obtain⟨st,hst⟩:∃k,l[i]?=some k:=⟨_,bQ hi⟩
  have hsm:=bV hst;have hsy:=hg.mem st hsm;have hsg:=uy hsy;have hle:=wZ l (i+1);rw [mP hst]at hle;have hny:=Gl st;have hvy:=KY st;have hvl:=mD l;have hva:=mD (l.take i);have hvb:=mD st.body;have hvs:=mD st.els;have hnl:=wZ l i;have hvy2:(vY st:Int)=(if st.kind=1 then 1 else 0:Int)+(dW st.body:Int)+(dW st.els:Int):=by
   rw [E3];split<;>omega
  have hki:0≤(if st.kind=1 then 1 else 0:Int)∧(if st.kind=1 then 1 else 0:Int)≤1:=by split<;>omega
  have hvv:(dW (l.take i):Int)+(vY st:Int)≤(dW l:Int):=by
   have h:=m9 (l.take (i+1)) (l.drop (i+1));rw [List.take_append_drop,oY hst]at h;omega
  refine a_ 0 7 J (oq hsm) (a_ 0 8 J (iL hsm) (a_ 0 9 J (kN hsm) (a_ 7 10 J iM (aC (be (aA (aq (aP (aO (j:=i) underlying62 dR J J (aJ (k:=1) J) (by first|rfl|omega) (by first|omega|(simp;done)|(simp;omega))) (aP (aM dR J J J (bF (aJ (k:=1) J) (by intro _;rfl) hst (by rfl))) (aZ dR J J fun b7=>av (k:=7) dR J J J J J J (az J (ad J (bS J (aD ny J (aR 0 t3 J J J J ?_)))))))))))))));refine ar J J aK (bS J (aD ny J (aB (k:=0) t3 J J J J J J J J (az J (ad J (ad J (bS J (aD qe J (aR 0 t4 J J J J (ad J (aH [] J J O (fun hg2=>aV J) J (aH [(29,_)] J J ⟨J,O⟩ (fun hg3=>aQ J J fA) J (aP (bH J J J) (bS J (aD qe J (aB (k:=0) t4 J J J J J J J J (aa ?_)))))))))))))))));refine bC (X:=Unit) (fun _=>True) (fun _=> [(0,Pt c),(2,I6 (d:Int)),(10,sv v),(11,I6 (l.length:Int)),(12,I6 (i:Int)),(7,Pt b7)]) (fun _=> [(0,bj c 165 (cR vp vn (nd+(cv (l.take i):Int)+1) (va+(dW (l.take i):Int)+(if st.kind=1 then 1 else 0:Int)) (dp || cG d (l.take i) || decide (d>8)) er)),(7,bj b7 64 (fK st))]) (fun _=> [(0,cm v l),(1,sl 5 fK (sv v) l),(7,ck st.ve st.es),(8,cm st.vb st.body),(9,cm st.vl st.els),(10,sl 4 eH (sv st.ve) st.es)]) ?_ (fun _ _=> ?_)
  ·refine aq (aD fV J (aR 7 t3 J J J J (ar J J bv (aa (ap J (fun h4=> ?_) (fun h4=> ?_))))))
   ·have q1:st.kind=1:=cB h4;refine ak (ad J (bS J (aD sE J (aR 0 t3 J J J J (ar J J aK (bS J (aD sE J (aB (k:=0) t3 J J J J J J J J (aa (aG () O J (by rw [show decide (d>8)=decide ((d:Int)>8)from decide_eq_decide.2 (by omega),aj q1];rfl) J))))))))))
   ·have q1:¬st.kind=1:=dl h4;refine aC (aG () O J (by rw [show decide (d>8)=decide ((d:Int)>8)from decide_eq_decide.2 (by omega),ac q1,Int.add_zero];rfl) J)
  ·refine aU (aD jF J (aR 7 kc J J J J (aP (aT underlying59 J (aJ (k:=10) J)) (ad J (aa (aA ?_))))));refine bJ (X:=Nat) (fun j=>j≤st.es.length) (fun j=> [(0,Pt c),(2,I6 (d:Int)),(10,sv v),(11,I6 (l.length:Int)),(12,I6 (i:Int)),(7,Pt b7),(45,sv st.ve),(46,I6 (st.es.length:Int)),(47,I6 (j:Int))]) (fun j=> [(0,bj c 165 (cR vp vn (nd+(cv (l.take i):Int)+1+(dD (st.es.take j):Int)) (va+(dW (l.take i):Int)+(if st.kind=1 then 1 else 0:Int)) (dp || cG d (l.take i) || decide (d>8) || decide (f_ (st.es.take j)>8)) er)),(7,bj b7 64 (fK st))]) (fun j=> [(0,cm v l),(1,sl 5 fK (sv v) l),(7,ck st.ve st.es),(8,cm st.vb st.body),(9,cm st.vl st.els),(10,sl 4 eH (sv st.ve) st.es)]) (fun j=>st.es.length-j) 0 (bn _) J (by rw [show(dp || cG d (l.take i) || decide (d>8) || decide (f_ (st.es.take 0)>8))=(dp || cG d (l.take i) || decide (d>8)) by simp [f_],show nd+(cv (l.take i):Int)+1+(dD (st.es.take 0):Int)=nd+(cv (l.take i):Int)+1 by simp [dD]];rfl) J (fun j n2=> ?_);refine aq (ar J J cy (aa (be (ap J (fun h5=> ?_) (fun h5=> ?_)))))
   ·(try simp only [bl]at h5);have hj:j<st.es.length:=by omega
    obtain⟨kid,hkid⟩:∃k,st.es[j]?=some k:=⟨_,bQ hj⟩
    have hkm:=bV hkid;have hlx:=tz st.es (j+1);rw [iQ hkid]at hlx;have hdx:=HH kid;refine aC (be (aA (aq (aP (aO (j:=j) underlying59 ci J J (aJ (k:=10) J) (by first|rfl|omega) (by first|omega|(simp;done)|(simp;omega))) (aP (aM ci J J J (bF (aJ (k:=10) J) (by intro _;rfl) hkid (by rfl))) (aZ ci J J fun b9=>av (k:=9) ci J J J J J J (aa (ak (ad J (aP (aM ci J J J (bp (k:=9) J)) (a_ 7 12 J (dH hkm) (ai (xs:= [.tmp 51,.tmp 52]) (Ef c vp vn (va+(dW (l.take i):Int)+(if st.kind=1 then 1 else 0:Int)) er kid (hsg.2.mem kid hkm) (nd+(cv (l.take i):Int)+1+(dD (st.es.take j):Int)) (dp || cG d (l.take i) || decide (d>8) || decide (f_ (st.es.take j)>8)) (by omega) (by omega)) LV [0] [(false,12)] [0] (fun _ _=>aa (ak (ar J J aK (ad J (aa ?_)))))))))))))))));refine aG (j+1) ⟨by omega,by omega⟩ J (by rw [ud hkid,iQ hkid,←C9,←Bool.or_assoc,Int.natCast_add,←Int.add_assoc];rfl) J
   ·(try simp only [bl]at h5);have hj:j=st.es.length:=by omega
    subst hj;rw [cQ];refine bL (aq (ad J (aD gu J (aR 7 kO J J J J (ad J (ar J J aK (ai (xs:= [.tmp 55,.tmp 57,.tmp 59]) ((ih st hsm).1 (d+1) (nd+(cv (l.take i):Int)+1+(dD st.es:Int)) (va+(dW (l.take i):Int)+(if st.kind=1 then 1 else 0:Int)) (dp || cG d (l.take i) || decide (d>8) || decide (f_ st.es>8)) (by omega) (by omega) (by omega) (by omega) (by omega)) HZ [0] [(false,8)] [0] (fun _ _=>aa (ak (ad J (aD g9 J (aR 7 kO J J J J (ad J (ar J J aK (ai (xs:= [.tmp 61,.tmp 63,.tmp 65]) ((ih st hsm).2 (d+1) (nd+(cv (l.take i):Int)+1+(dD st.es:Int)+(cv st.body:Int)) (va+(dW (l.take i):Int)+(if st.kind=1 then 1 else 0:Int)+(dW st.body:Int)) (dp || cG d (l.take i) || decide (d>8) || decide (f_ st.es>8) || cG (d+1) st.body) (by omega) (by omega) (by omega) (by omega) (by omega)) HZ [0] [(false,9)] [0] (fun _ _=>aa (ak (ar J J aK ?_))))))))))))))))));refine ad J (aa ?_);have hfin:cR vp vn (nd+(cv (l.take i):Int)+1+(dD st.es:Int)+(cv st.body:Int)+(cv st.els:Int)) (va+(dW (l.take i):Int)+(if st.kind=1 then 1 else 0:Int)+(dW st.body:Int)+(dW st.els:Int)) (dp || cG d (l.take i) || decide (d>8) || decide (f_ st.es>8) || cG (d+1) st.body || cG (d+1) st.els) er=cR vp vn (nd+(cv (l.take (i+1)):Int)) (va+(dW (l.take (i+1)):Int)) (dp || cG d (l.take (i+1))) er:=by
     rw [mP hst,oY hst,Ew hst,N8,Nf]
     congr 1
     ·omega
     ·rw [Int.natCast_add,hvy2];omega
    refine aG (i+1) ⟨by omega,by omega⟩ J (by rw [←hfin];rfl) J
 ·(try simp only [bl]at h1);have hi:i=l.length:=by omega
  subst hi;rw [cQ];refine bL (cJ () O J iU J [0] [] J J J)
theorem qX(c:Nat)(vp vn:SV)(er:Int):∀(n:Nat)(v:SV)(l:List Ty),SizeOf.sizeOf l<n→l.length≤1000000→GYs l→Sk c vp vn er v l
 | 0,_,_,h,_,_=>absurd h (Nat.not_lt_zero _)
 | n+1,v,l,h,hl,hg=>Bp c vp vn er v l hl hg fun u hu=>by
  have h1:=List.sizeOf_lt_of_mem hu;have h2:SizeOf.sizeOf u.body<SizeOf.sizeOf u∧SizeOf.sizeOf u.els<SizeOf.sizeOf u:=by
   cases u;simp only [Ty.mk.sizeOf_spec,Ty.body,Ty.els];omega
  have h3:=hg.mem u hu;exact⟨qX c vp vn er n u.vb u.body (by omega) (fZ h3).1 (fZ h3).2,qX c vp vn er n u.vl u.els (by omega) (iA h3).1 (iA h3).2⟩
theorem Bq(c:Nat)(vp vn:SV)(er:Int)(v:SV)(l:List Ty)(hl:l.length≤1000000)(hg:GYs l):Sk c vp vn er v l:=qX c vp vn er _ v l (Nat.lt_succ_self _) hl hg
def nE(fs:List Tf)(ns:List Ba)(t:Tx):Int:=if t.kind=2 then(if cx t.name ns=true then 0 else 21)else if t.kind=3 then(match cV fs t.name with
   | none=>21
   | some f=>if f.ps.length=t.kids.length then 0 else 23)else 0
theorem LH(fs:List Tf)(ns:List Ba)(t:Tx):eX fs ns t=fst (nE fs ns t) (jH fs ns t.kids):=by cases t;rfl
theorem C8(fs:List Tf)(ns:List Ba):∀a b:List Tx,jH fs ns (a++b)=fst (jH fs ns a) (jH fs ns b)
 | [],b=>rfl
 | t::r,b=>by rw [List.cons_append,jH,C8 fs ns r b,jH,gU]
theorem zl{fs:List Tf}{ns:List Ba}{l:List Tx}{i:Nat}{k:Tx}(h:l[i]?=some k):jH fs ns (l.take (i+1))=fst (jH fs ns (l.take i)) (eX fs ns k):=by
 rw [cj h,C8];show fst _ (fst (eX fs ns k) 0)=_;rw [cO]
theorem Tj{fs:List Tf}{ns:List Ba}{t:Tx}(h:t.kind=2):nE fs ns t=if cx t.name ns=true then 0 else 21:=aj h
theorem Cs{fs:List Tf}{ns:List Ba}{t:Tx}(h:t.kind=3)(hf:cV fs t.name=none):nE fs ns t=21:=by
 unfold nE;rw [ac (by omega),aj h,hf]
theorem w4{fs:List Tf}{ns:List Ba}{t:Tx}{f:Tf}(h:t.kind=3)(hf:cV fs t.name=some f):nE fs ns t=if f.ps.length=t.kids.length then 0 else 23:=by
 unfold nE;rw [ac (by omega),aj h,hf]
theorem Tl{fs:List Tf}{ns:List Ba}{t:Tx}(h2:¬t.kind=2)(h3:¬t.kind=3):nE fs ns t=0:=by
 unfold nE;rw [ac h2,ac h3]
def aE(ns:List Ba)(t:Ty):Int:=if t.kind=2 then(if cx t.name ns=true then 0 else 21)else 0
def dE(ns:List Ba)(t:Ty):Int:=if t.kind=1 then(if cx t.name ns=true then 22 else 0)else 0
def dN(ns:List Ba)(t:Ty):List Ba:=if t.kind=1 then ns++ [t.name]else ns
theorem L_(fs:List Tf)(ns:List Ba)(t:Ty):bY fs ns t=((dK fs (dK fs (dN ns t) t.body).1 t.els).1,fst (aE ns t) (fst (jH fs ns t.es) (fst (dE ns t) (fst (dK fs (dN ns t) t.body).2 (dK fs (dK fs (dN ns t) t.body).1 t.els).2)))):=by cases t;rfl
theorem sO(fs:List Tf):∀(ns:List Ba)(a b:List Ty),dK fs ns (a++b)=((dK fs (dK fs ns a).1 b).1,fst (dK fs ns a).2 (dK fs (dK fs ns a).1 b).2)
 | ns,[],b=>rfl
 | ns,t::r,b=>by
  rw [List.cons_append,dK,sO fs _ r b,dK];simp only [gU]
theorem Ik{fs:List Tf}{ns:List Ba}{l:List Ty}{i:Nat}{k:Ty}(h:l[i]?=some k):dK fs ns (l.take (i+1))=((bY fs (dK fs ns (l.take i)).1 k).1,fst (dK fs ns (l.take i)).2 (bY fs (dK fs ns (l.take i)).1 k).2):=by
 rw [cj h,sO];show((bY fs _ k).1,fst _ (fst (bY fs _ k).2 0))=_;rw [cO]
mutual
theorem Oz(fs:List Tf):∀(ns:List Ba)(t:Ty),(bY fs ns t).1.length=ns.length+vY t
 | ns,.mk k nm _ es _ body _ els=>by
  show(dK fs (dK fs (if k=1 then ns++ [nm]else ns) body).1 els).1.length=_;rw [qu fs _ els,qu fs _ body,vY];split<;>simp<;>omega
theorem qu(fs:List Tf):∀(ns:List Ba)(l:List Ty),(dK fs ns l).1.length=ns.length+dW l
 | ns,[]=>by simp [dK,dW]
 | ns,t::r=>by
  show(dK fs (bY fs ns t).1 r).1.length=_;rw [qu fs _ r,Oz fs ns t,dW];omega
end
theorem re{l:List Ty}{i:Nat}{k:Ty}(h:l[i]?=some k):dW (l.take i)+vY k≤dW l:=by
 have h2:=m9 (l.take (i+1)) (l.drop (i+1));rw [List.take_append_drop,oY h]at h2;omega
theorem HI(ns:List Ba)(t:Ty):(dN ns t).length=ns.length+if t.kind=1 then 1 else 0:=by
 unfold dN;split
 ·simp
 ·rfl
theorem Bx(c:Nat)(vp vn:SV)(nd va:Int)(dp:Bool)(fs:List Tf)(hfl:fs.length≤1000000)(ns:List Ba)(hns:ns.length≤1000000)(t:Tx)(ht:GX t)(ih:∀u∈t.kids,∀er:Int,Spec prog 166 [Pt c,xV u] [bj c 165 (cR vp vn nd va dp er),own 9 1 eS (sv vn) ns] [ck u.v u.kids,dO vp fs] (X:=Unit) (fun _=>True) (fun _=> .tuple #[]) (fun _=> [bj c 165 (cR vp vn nd va dp (fst er (eX fs ns u))),own 9 1 eS (sv vn) ns]) (fun _=> []))(er:Int):
  aW prog 166 [Pt c,xV t] [bj c 165 (cR vp vn nd va dp (er)),own 9 1 eS (sv vn) (ns)] [ck t.v t.kids,dO vp fs] (.tuple #[]) [bj c 165 (cR vp vn nd va dp (fst er (eX fs ns t))),own 9 1 eS (sv vn) (ns)]:=by
 refine aI func166 J ntmps166 J fun w0 M H=> ?_
 have hkl:=qY ht;refine a_ 0 2 J iM (a_ 1 3 J lL (aq (cM J J fun b3=>aa (bC (X:=Unit) (fun _=>True) (fun _=> [(0,Pt c),(3,Pt b3)]) (fun _=> [(0,bj c 165 (cR vp vn nd va dp (fst er (nE fs ns t)))),(1,own 9 1 eS (sv vn) (ns)),(3,bj b3 61 (eH t))]) (fun _=> [(0,ck t.v t.kids),(1,dO vp fs),(2,sl 4 eH (sv t.v) t.kids),(3,sl 3 jI (sv vp) fs)]) ?_ (fun _ _=> ?_)))))
 ·refine aq (aD jG J (aR 3 t3 J J J J (aa (aA (aq (ar J J bv (am J (aa (ap J (fun h1=> ?_) (fun h1=> ?_))))))))))
  ·have q2:t.kind=2:=cB h1;refine ak (ad J (aD di J (aR 3 t9 J J J J (ai (xs:= [.tmp 11,.tmp 13]) (vZ c vp vn nd va dp er ns hns t.name) LU [0,1] [] [0,1] (fun _ _=>aa (aG () O J (by rw [Tj q2];rfl) J))))))
  ·have q2:¬t.kind=2:=dl h1;refine aq (ar J J bv (am J (aa (ap J (fun h2=> ?_) (fun h2=> ?_)))))
   ·have q3:t.kind=3:=cB h2;refine aq (ad J (aD di J (aR 3 t9 J J J J (ai (xs:= [.tmp 17,.tmp 19]) (oO c vp vn nd va dp er t.name fs hfl) Oj [0] [(false,3)] [0] (fun _ _=>am J (az J (ad J (ar J J cy (aa (ap J (fun h3=> ?_) (fun h3=> ?_)))))))))))
    ·have hff:cV fs t.name=none:=jb.1.1 (cB h3);refine ak (ad J (ai (xs:= [.tmp 23,.const (I6 21)]) (kH c vp vn nd va dp er 21) zx [0] [] [0] (fun _ _=>aa (aG () O J (by rw [Cs q3 hff];rfl) J))))
    ·obtain⟨f,hff⟩:∃f,cV fs t.name=some f:=by
      cases hf:cV fs t.name with
      | none=>exact absurd (jb.1.2 hf) (dl h3)
      | some f=>exact⟨f,rfl⟩
     obtain⟨j,hj1,hj2⟩:=jb.2 f hff;have hjl:=(cU.1 hj2).1;rw [hj1];refine a_ 1 7 J (rh (lA hff)) (a_ 7 9 J ri (be (bX [25,26,27,28,29,30,31,32,33,34,35,36,37,38] _ J (bA (V:= [(0,25,_),(1,26,_),(2,27,_),(3,28,_),(4,29,_),(5,30,_),(6,31,_),(7,32,_),(8,33,_),(9,34,_),(10,35,_),(11,36,_),(12,37,_),(13,38,_)]) [0,1,2,3,4,5,6,7,8,9,10,11,12,13] J J (aF J J (ae J (au J) (ae J (ah C2 J) (ae J (ah fW J) (ae J (ag kJ J J (ax (k:=0) J J)) (aF J J (ae J (aO (j:=j) underlying25 gC J J (aJ (k:=3) J) J hjl) (ae J (fR fj J) (ae J (ag jT J J (oe (aJ (k:=3) J) (by intro _;rfl) hj2 J)) (ae J (aT underlying46 J (aJ (k:=9) J)) (ae J (ah dq J) (ae J (ag kc J J (ax (k:=3) J J)) (ae J (aT underlying59 J (aJ (k:=2) J)) (ae J (aQ J J iT) aw)))))))))))))) J J J (ap J (fun h4=> ?_) (fun h4=> ?_))))))
     ·have hne:¬f.ps.length=t.kids.length:=fun e=>by rw [e]at h4;simp at h4
      refine ak (ad J (ai (xs:= [.tmp 39,.const (I6 23)]) (kH c vp vn nd va dp er 23) zx [0] [] [0] (fun _ _=>aa (aG () O J (by rw [w4 q3 hff,ac hne];rfl) J))))
     ·have hne:f.ps.length=t.kids.length:=by
       have:=h4;simp only [Bool.not_eq_false',decide_eq_true_eq]at this;omega
      refine aC (aG () O J (by rw [w4 q3 hff,aj hne,cO];rfl) J)
   ·have q3:¬t.kind=3:=dl h2;refine aC (aG () O J (by rw [Tl q2 q3,cO];rfl) J)
 ·refine aq (aD dq J (aR 3 kc J J J J (aP (aT underlying59 J (aJ (k:=2) J)) (ad J (aa (aA ?_))))));refine bJ (X:=Nat) (fun i=>i≤t.kids.length) (fun i=> [(0,Pt c),(3,Pt b3),(42,sv t.v),(43,I6 (t.kids.length:Int)),(44,I6 (i:Int))]) (fun i=> [(0,bj c 165 (cR vp vn nd va dp (fst er (fst (nE fs ns t) (jH fs ns (t.kids.take i)))))),(1,own 9 1 eS (sv vn) (ns)),(3,bj b3 61 (eH t))]) (fun i=> [(0,ck t.v t.kids),(1,dO vp fs),(2,sl 4 eH (sv t.v) t.kids),(3,sl 3 jI (sv vp) fs)]) (fun i=>t.kids.length-i) 0 (bn _) J (by rw [show jH fs ns (t.kids.take 0)=0 by simp [jH],cO];rfl) J (fun i n1=> ?_);refine aq (ar J J cy (aa (be (ap J (fun h5=> ?_) (fun h5=> ?_)))))
  ·(try simp only [bl]at h5);have hi:i<t.kids.length:=by omega
   obtain⟨kid,hkid⟩:∃k,t.kids[i]?=some k:=⟨_,bQ hi⟩
   have hkm:=bV hkid;refine aC (be (aA (aq (aP (aO (j:=i) underlying59 ci J J (aJ (k:=2) J) (by first|rfl|omega) (by first|omega|(simp;done)|(simp;omega))) (aP (aM ci J J J (bF (aJ (k:=2) J) (by intro _;rfl) hkid (by rfl))) (aZ ci J J fun b6=>av (k:=6) ci J J J J J J (aa (ak (ad J (aP (aM ci J J J (bp (k:=6) J)) (a_ 0 8 J (dH hkm) (ai (xs:= [.tmp 48,.tmp 49]) (ih kid hkm (fst er (fst (nE fs ns t) (jH fs ns (t.kids.take i))))) LT [0,1] [(false,8),(false,1)] [0,1] (fun _ _=>aa (ak (ar J J aK (ad J (aa ?_)))))))))))))))));refine aG (i+1) ⟨by omega,by omega⟩ J (by rw [zl hkid];simp only [gU];rfl) J
  ·(try simp only [bl]at h5);have hi:i=t.kids.length:=by omega
   subst hi;rw [cQ,←LH];refine bL (cJ () O J iU J [0,1] [] J J J)
theorem we(c:Nat)(vp vn:SV)(nd va:Int)(dp:Bool)(fs:List Tf)(hfl:fs.length≤1000000)(ns:List Ba)(hns:ns.length≤1000000):∀(n:Nat)(t:Tx),SizeOf.sizeOf t<n→GX t→∀er:Int,aW prog 166 [Pt c,xV t] [bj c 165 (cR vp vn nd va dp er),own 9 1 eS (sv vn) ns] [ck t.v t.kids,dO vp fs] (.tuple #[]) [bj c 165 (cR vp vn nd va dp (fst er (eX fs ns t))),own 9 1 eS (sv vn) ns]
 | 0,_,h,_=>absurd h (Nat.not_lt_zero _)
 | n+1,t,h,ht=>Bx c vp vn nd va dp fs hfl ns hns t ht fun u hu=>we c vp vn nd va dp fs hfl ns hns n u (by have:=vj hu;omega) ((nH ht).mem u hu)
theorem By(c:Nat)(vp vn:SV)(nd va:Int)(dp:Bool)(fs:List Tf)(hfl:fs.length≤1000000)(ns:List Ba)(hns:ns.length≤1000000)(t:Tx)(ht:GX t)(er:Int):aW prog 166 [Pt c,xV t] [bj c 165 (cR vp vn nd va dp er),own 9 1 eS (sv vn) ns] [ck t.v t.kids,dO vp fs] (.tuple #[]) [bj c 165 (cR vp vn nd va dp (fst er (eX fs ns t))),own 9 1 eS (sv vn) ns]:=we c vp vn nd va dp fs hfl ns hns _ t (Nat.lt_succ_self _) ht er
theorem zt(c:Nat)(vp vn:SV)(nd va:Int)(dp:Bool)(fs:List Tf)(hfl:fs.length≤1000000)(v:SV)(l:List Ty)(hl:l.length≤1000000)(hg:GYs l)(ihb:∀u∈l,(∀(vn:SV)(ns:List Ba)(er:Int),ns.length+dW u.body≤1000000→Spec prog 129 [Pt c,sv u.vb] [bj c 165 (cR vp vn nd va dp er),own 9 1 eS (sv vn) ns] [cm u.vb u.body,dO vp fs] (X:=SV) (fun _=>True) (fun _=> .tuple #[]) (fun x=> [bj c 165 (cR vp x nd va dp (fst er (dK fs ns u.body).2)),own 9 1 eS (sv x) (dK fs ns u.body).1]) (fun _=> [])))(ihe:∀u∈l,(∀(vn:SV)(ns:List Ba)(er:Int),ns.length+dW u.els≤1000000→Spec prog 129 [Pt c,sv u.vl] [bj c 165 (cR vp vn nd va dp er),own 9 1 eS (sv vn) ns] [cm u.vl u.els,dO vp fs] (X:=SV) (fun _=>True) (fun _=> .tuple #[]) (fun x=> [bj c 165 (cR vp x nd va dp (fst er (dK fs ns u.els).2)),own 9 1 eS (sv x) (dK fs ns u.els).1]) (fun _=> [])))(ns:List Ba)(er:Int)(hnv:ns.length+dW l≤1000000):
  Spec prog 129 [Pt c,sv v] [bj c 165 (cR vp vn nd va dp (er)),own 9 1 eS (sv vn) (ns)] [cm v l,dO vp fs] (X:=SV) (fun _=>True) (fun _=> .tuple #[]) (fun x=> [bj c 165 (cR vp x nd va dp (fst er (dK fs ns l).2)),own 9 1 eS (sv x) ((dK fs ns l).1)]) (fun _=> []):=by
 refine aI func129 J ntmps129 J fun w0 M H=>a_ 0 2 J iK (aq (ad J (aP (aT underlying62 J (aJ (k:=2) J)) (ad J (aa (aA (bJ (X:=Nat×SV) (fun x=>x.1≤l.length) (fun x=> [(0,Pt c),(8,sv v),(9,I6 (l.length:Int)),(10,I6 (x.1:Int))]) (fun x=> [(0,bj c 165 (cR vp x.2 nd va dp (fst er (dK fs ns (l.take x.1)).2))),(1,own 9 1 eS (sv x.2) ((dK fs ns (l.take x.1)).1))]) (fun x=> [(0,cm v l),(1,dO vp fs),(2,sl 5 fK (sv v) l)]) (fun x=>l.length-x.1) (0,vn) (bn _) J (by rw [show fst er (dK fs ns (l.take (0,vn).1)).2=er from cO er];rfl) J (fun x n1=> ?_))))))))
 obtain⟨i,vx⟩:=x;dsimp only at n1 ⊢;refine aq (ar J J cy (aa (be (ap J (fun h1=> ?_) (fun h1=> ?_)))))
 ·(try simp only [bl]at h1);have hi:i<l.length:=by omega
  obtain⟨st,hst⟩:∃k,l[i]?=some k:=⟨_,bQ hi⟩
  have hsm:=bV hst;have hsy:=hg.mem st hsm;have hsg:=uy hsy;have hbl:=qu fs ns (l.take i);have hvt:=re hst;have hve:=E3 st;have hni:(dK fs ns (l.take i)).1.length≤1000000:=by omega
  refine a_ 0 7 J (oq hsm) (a_ 0 8 J (iL hsm) (a_ 0 9 J (kN hsm) (a_ 7 10 J iM (aC (be (aA (aq (aP (aO (j:=i) underlying62 dR J J (aJ (k:=2) J) (by first|rfl|omega) (by first|omega|(simp;done)|(simp;omega))) (aP (aM dR J J J (bF (aJ (k:=2) J) (by intro _;rfl) hst (by rfl))) (aZ dR J J fun b5=>av (k:=5) dR J J J J J J (aa (bC (X:=Unit) (fun _=>True) (fun _=> [(0,Pt c),(8,sv v),(9,I6 (l.length:Int)),(10,I6 (i:Int)),(5,Pt b5)]) (fun _=> [(0,bj c 165 (cR vp vx nd va dp (fst (fst er (dK fs ns (l.take i)).2) (aE ((dK fs ns (l.take i)).1) st)))),(1,own 9 1 eS (sv vx) ((dK fs ns (l.take i)).1)),(5,bj b5 64 (fK st))]) (fun _=> [(0,cm v l),(1,dO vp fs),(2,sl 5 fK (sv v) l),(7,ck st.ve st.es),(8,cm st.vb st.body),(9,cm st.vl st.els),(10,sl 4 eH (sv st.ve) st.es)]) ?_ (fun _ _=> ?_)))))))))))))
  ·refine aq (aD fV J (aR 5 t3 J J J J (ar J J bv (aa (ap J (fun h2=> ?_) (fun h2=> ?_))))))
   ·have q2:st.kind=2:=cB h2;refine ak (ad J (aD kz J (aR 5 t9 J J J J (ai (xs:= [.tmp 17,.tmp 19]) (vZ c vp vx nd va dp (fst er (dK fs ns (l.take i)).2) ((dK fs ns (l.take i)).1) hni st.name) LU [0,1] [] [0,1] (fun _ _=>aa (aG () O J (by unfold aE;rw [aj q2];rfl) J))))))
   ·have q2:¬st.kind=2:=dl h2;refine aC (aG () O J (by unfold aE;rw [ac q2,cO];rfl) J)
  ·refine aU (aD jF J (aR 5 kc J J J J (aP (aT underlying59 J (aJ (k:=10) J)) (ad J (aa (aA ?_))))));refine bJ (X:=Nat) (fun j=>j≤st.es.length) (fun j=> [(0,Pt c),(8,sv v),(9,I6 (l.length:Int)),(10,I6 (i:Int)),(5,Pt b5),(22,sv st.ve),(23,I6 (st.es.length:Int)),(24,I6 (j:Int))]) (fun j=> [(0,bj c 165 (cR vp vx nd va dp (fst (fst (fst er (dK fs ns (l.take i)).2) (aE ((dK fs ns (l.take i)).1) st)) (jH fs ((dK fs ns (l.take i)).1) (st.es.take j))))),(1,own 9 1 eS (sv vx) ((dK fs ns (l.take i)).1)),(5,bj b5 64 (fK st))]) (fun j=> [(0,cm v l),(1,dO vp fs),(2,sl 5 fK (sv v) l),(7,ck st.ve st.es),(8,cm st.vb st.body),(9,cm st.vl st.els),(10,sl 4 eH (sv st.ve) st.es)]) (fun j=>st.es.length-j) 0 (bn _) J (by rw [show jH fs ((dK fs ns (l.take i)).1) (st.es.take 0)=0 by simp [jH],cO];rfl) J (fun j n2=> ?_);refine aq (ar J J cy (aa (be (ap J (fun h3=> ?_) (fun h3=> ?_)))))
   ·(try simp only [bl]at h3);have hj:j<st.es.length:=by omega
    obtain⟨kid,hkid⟩:∃k,st.es[j]?=some k:=⟨_,bQ hj⟩
    have hkm:=bV hkid;refine aC (be (aA (aq (aP (aO (j:=j) underlying59 ci J J (aJ (k:=10) J) (by first|rfl|omega) (by first|omega|(simp;done)|(simp;omega))) (aP (aM ci J J J (bF (aJ (k:=10) J) (by intro _;rfl) hkid (by rfl))) (aZ ci J J fun b7=>av (k:=7) ci J J J J J J (aa (ak (ad J (aP (aM ci J J J (bp (k:=7) J)) (a_ 7 12 J (dH hkm) (ai (xs:= [.tmp 28,.tmp 29]) (By c vp vx nd va dp fs hfl ((dK fs ns (l.take i)).1) hni kid (hsg.2.mem kid hkm) (fst (fst (fst er (dK fs ns (l.take i)).2) (aE ((dK fs ns (l.take i)).1) st)) (jH fs ((dK fs ns (l.take i)).1) (st.es.take j)))) LT [0,1] [(false,12),(false,1)] [0,1] (fun _ _=>aa (ak (ar J J aK (ad J (aa ?_)))))))))))))))));refine aG (j+1) ⟨by omega,by omega⟩ J (by rw [zl hkid];simp only [gU];rfl) J
   ·(try simp only [bl]at h3);have hj:j=st.es.length:=by omega
    subst hj;rw [cQ];refine bL (bC (X:=SV) (fun _=>True) (fun vd=> [(0,Pt c),(8,sv v),(9,I6 (l.length:Int)),(10,I6 (i:Int)),(5,Pt b5)]) (fun vd=> [(0,bj c 165 (cR vp vd nd va dp (fst (fst (fst (fst er (dK fs ns (l.take i)).2) (aE ((dK fs ns (l.take i)).1) st)) (jH fs ((dK fs ns (l.take i)).1) (st.es))) (dE ((dK fs ns (l.take i)).1) st)))),(1,own 9 1 eS (sv vd) (dN ((dK fs ns (l.take i)).1) st)),(5,bj b5 64 (fK st))]) (fun vd=> [(0,cm v l),(1,dO vp fs),(2,sl 5 fK (sv v) l),(7,ck st.ve st.es),(8,cm st.vb st.body),(9,cm st.vl st.els),(10,sl 4 eH (sv st.ve) st.es)]) ?_ (fun vd _=> ?_))
    ·refine aq (aD fV J (aR 5 t3 J J J J (ar J J bv (aa (ap J (fun h4=> ?_) (fun h4=> ?_))))))
     ·have q1:st.kind=1:=cB h4;refine ak (ad J (aD kz J (aR 5 t9 J J J J (ai (xs:= [.tmp 35,.tmp 37]) (ui c vp vx nd va dp (fst (fst (fst er (dK fs ns (l.take i)).2) (aE ((dK fs ns (l.take i)).1) st)) (jH fs ((dK fs ns (l.take i)).1) (st.es))) ((dK fs ns (l.take i)).1) hni st.name) L5 [0,1] [] [0,1] (fun vd _=>aa (aG vd O J (by unfold dE dN;rw [aj q1,aj q1];rfl) J))))))
     ·have q1:¬st.kind=1:=dl h4;refine aC (aG vx O J (by unfold dE dN;rw [ac q1,ac q1,cO];rfl) J)
    ·refine aq (ad J (aD gu J (aR 5 kO J J J J (ai (xs:= [.tmp 39,.tmp 41]) (ihb st hsm vd (dN ((dK fs ns (l.take i)).1) st) (fst (fst (fst (fst er (dK fs ns (l.take i)).2) (aE ((dK fs ns (l.take i)).1) st)) (jH fs ((dK fs ns (l.take i)).1) (st.es))) (dE ((dK fs ns (l.take i)).1) st)) (by rw [HI];omega)) HY [0,1] [(false,8),(false,1)] [0,1] (fun v1 _=>aa (ak (ad J (aD g9 J (aR 5 kO J J J J (ai (xs:= [.tmp 43,.tmp 45]) (ihe st hsm v1 (dK fs (dN ((dK fs ns (l.take i)).1) st) st.body).1 (fst (fst (fst (fst (fst er (dK fs ns (l.take i)).2) (aE ((dK fs ns (l.take i)).1) st)) (jH fs ((dK fs ns (l.take i)).1) (st.es))) (dE ((dK fs ns (l.take i)).1) st)) (dK fs (dN ((dK fs ns (l.take i)).1) st) st.body).2) (by rw [qu,HI];omega)) HY [0,1] [(false,9),(false,1)] [0,1] (fun v2 _=>aa (ak (ar J J aK (ad J (aa ?_)))))))))))))));refine aG (i+1,v2) ⟨by dsimp only;omega,by dsimp only;omega⟩ J (by dsimp only;rw [Ik hst,L_];simp only [gU];rfl) J
 ·(try simp only [bl]at h1);have hi:i=l.length:=by omega
  subst hi;rw [cQ];refine bL (cJ vx O J iU J [0,1] [] J J J)
theorem oP(c:Nat)(vp:SV)(nd va:Int)(dp:Bool)(fs:List Tf)(hfl:fs.length≤1000000):∀(n:Nat)(v:SV)(l:List Ty),SizeOf.sizeOf l<n→l.length≤1000000→GYs l→(∀(vn:SV)(ns:List Ba)(er:Int),ns.length+dW l≤1000000→Spec prog 129 [Pt c,sv v] [bj c 165 (cR vp vn nd va dp er),own 9 1 eS (sv vn) ns] [cm v l,dO vp fs] (X:=SV) (fun _=>True) (fun _=> .tuple #[]) (fun x=> [bj c 165 (cR vp x nd va dp (fst er (dK fs ns l).2)),own 9 1 eS (sv x) (dK fs ns l).1]) (fun _=> []))
 | 0,_,_,h,_,_=>absurd h (Nat.not_lt_zero _)
 | n+1,v,l,h,hl,hg=>fun vn ns er hnv=>by
  have key:∀u∈l,SizeOf.sizeOf u.body<n∧SizeOf.sizeOf u.els<n:=fun u hu=>by
   have h1:=List.sizeOf_lt_of_mem hu;have h2:SizeOf.sizeOf u.body<SizeOf.sizeOf u∧SizeOf.sizeOf u.els<SizeOf.sizeOf u:=by
    cases u;simp only [Ty.mk.sizeOf_spec,Ty.body,Ty.els];omega
   omega
  exact zt c vp vn nd va dp fs hfl v l hl hg (fun u hu=>oP c vp nd va dp fs hfl n u.vb u.body (key u hu).1 (fZ (hg.mem u hu)).1 (fZ (hg.mem u hu)).2) (fun u hu=>oP c vp nd va dp fs hfl n u.vl u.els (key u hu).2 (iA (hg.mem u hu)).1 (iA (hg.mem u hu)).2) ns er hnv
theorem zv(c:Nat)(vp:SV)(nd va:Int)(dp:Bool)(fs:List Tf)(hfl:fs.length≤1000000)(v:SV)(l:List Ty)(hl:l.length≤1000000)(hg:GYs l):(∀(vn:SV)(ns:List Ba)(er:Int),ns.length+dW l≤1000000→Spec prog 129 [Pt c,sv v] [bj c 165 (cR vp vn nd va dp er),own 9 1 eS (sv vn) ns] [cm v l,dO vp fs] (X:=SV) (fun _=>True) (fun _=> .tuple #[]) (fun x=> [bj c 165 (cR vp x nd va dp (fst er (dK fs ns l).2)),own 9 1 eS (sv x) (dK fs ns l).1]) (fun _=> [])):=oP c vp nd va dp fs hfl _ v l (Nat.lt_succ_self _) hl hg
end Go.Proofs.YtedmdgbmdplifaaGreat
