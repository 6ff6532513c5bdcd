/-
  A part of the proof. Conditions are with the theorems.
-/
import Derived.Test.YtedmdgbmdplifaaGreatProg
import Derived.ChangeMaps5
import Derived.Test.YtedmdgbmdplifaaGreatXLa
set_option maxHeartbeats 32000000
set_option maxRecDepth 100000
set_option linter.unusedSimpArgs false
set_option linter.unusedVariables false
namespace Go.Proofs.YtedmdgbmdplifaaGreat
open Go.RowKit Tryz
section
variable{P:Program}{N:Nat}{w0:World}{M H:Nat→Prop}{E:el}{Γ R:dL}{Q:Exit→Act→World→Prop}
variable{ops:Array Oper}{rest:List Oper}{T:TypeId}{ps:String}{af:Array Edge}{d:Nat}{op:Op}
theorem ab{x:Operand}{v:Value}(hx:ev E x=some v)(k:At N w0 M H ((d,v)::E) Γ R (wpList P ops Q rest))(hd:Nat.blt d N=true:=by exact rfl):At N w0 M H E Γ R (wpList P ops Q (⟨some d,.move x,T,ps,af,none⟩::rest)):=vU (aV hx) hd k
theorem ao{x:Operand}{v:Value}(hx:ev E x=some v)(k:At N w0 M H ((d,v)::E) Γ R (wpList P ops Q rest))(hd:Nat.blt d N=true:=by exact rfl):At N w0 M H E Γ R (wpList P ops Q (⟨some d,.assign x,T,ps,af,none⟩::rest)):=vU (d7 hx) hd k
theorem bq{x:Operand}{A:Addr}(hx:ev E x=some (.pointer (some A)))(k:At N w0 M H ((d,.pointer (some A))::E) Γ R (wpList P ops Q rest))(hd:Nat.blt d N=true:=by exact rfl):At N w0 M H E Γ R (wpList P ops Q (⟨some d,.nilCheck x,T,ps,af,none⟩::rest)):=vU (av hx) hd k
theorem aA{S:TypeId}{i off:Nat}{x:Operand}{b:Nat}(hf:FO P S i off)(hx:ev E x=some (.pointer (some ⟨b,0,none⟩)))(k:At N w0 M H ((d,.pointer (some ⟨b,off,none⟩))::E) Γ R (wpList P ops Q rest))(hd:Nat.blt d N=true:=by exact rfl):At N w0 M H E Γ R (wpList P ops Q (⟨some d,.fieldAddr S x i,T,ps,af,none⟩::rest)):=vU (ah hf hx) hd k
theorem ap{o:BinOp}{S S':TypeId}{x y:Operand}{u v z:Value}(hx:ev E x=some u)(hy:ev E y=some v)(hb:cW P o S u v z)(k:At N w0 M H ((d,z)::E) Γ R (wpList P ops Q rest))(hd:Nat.blt d N=true:=by exact rfl):At N w0 M H E Γ R (wpList P ops Q (⟨some d,.binOp o S x y S',T,ps,af,none⟩::rest)):=vU (aS hx hy hb) hd k
theorem aL(j:Nat){S S0:TypeId}{D:TypeDesc}{z:Value}{s bb:Nat}{x:Operand}{b o:Nat}{c:List Value}{u:Value}(ht:TI P S D z s bb)(hag:rc D=false)(hx:ev E x=some (.pointer (some ⟨b,o,none⟩)))(hk:bG Γ j=some (aO b S0 c))(hu:c[o]?=some u)(k:At N w0 M H ((d,u)::E) Γ R (wpList P ops Q rest))(hd:Nat.blt d N=true:=by exact rfl):
  At N w0 M H E Γ R (wpList P ops Q (⟨some d,.load S x,T,ps,af,none⟩::rest)):=vU (ag ht hag hx (aB (k:=j) hk hu)) hd k
theorem aJ{v:Value}(h:PR P N w0 M H E Γ R op v)(k:At N w0 M H ((d,v)::E) Γ R (wpList P ops Q rest))(hd:Nat.blt d N=true:=by exact rfl):At N w0 M H E Γ R (wpList P ops Q (⟨some d,op,T,ps,af,none⟩::rest)):=vU h hd k
theorem aw{id:Nat}{l:List Oper}{y:Code}{Q2:Exit→Act→World→Prop}(hq:Q .normal=(Code.seq (Code.region id l.toArray false) y).wp P Q2)(h:At N w0 M H E Γ R (wpList P l.toArray (XT (y.wp P Q2) Q2) l)):At N w0 M H E Γ R (wpList P ops Q []):=aa (by rw [hq];exact aT (aj h))
theorem am{id:Nat}{l:List Oper}{y:Code}(h:At N w0 M H E Γ R (wpList P l.toArray (XT (y.wp P Q) Q) l)):At N w0 M H E Γ R ((Code.seq (Code.region id l.toArray false) y).wp P Q):=aT (aj h)
theorem aR{id:Nat}{l:List Oper}{y z:Code}(h:At N w0 M H E Γ R (wpList P l.toArray (XT (y.wp P (XT (z.wp P Q) Q)) (XT (z.wp P Q) Q)) l)):At N w0 M H E Γ R ((Code.seq (Code.seq (Code.region id l.toArray false) y) z).wp P Q):=aT (am h)
theorem ae{n:Nat}{f:Operand}{xs:List Operand}{cap us vs:List Value}{at_:Array TypeId}{L R0:List Asn}{X:Type}{φ:X→Prop}{v:X→Value}{L' R':X→List Asn}(hs:Spec P n vs L R0 φ v L' R')(hcb:Cb P n)
  (ks:List Nat) (rs:List (Bool×Nat)) (ns:List Nat) (k:∀x,φ x→At N w0 M H ((d,v x)::E) (eE ns (L' x) (eF ks Γ)) R (wpList P ops Q rest))
  (hf:ev E f=some (.func (.func n) #[] cap.toArray):=by exact rfl) (hx:evs E xs=some us:=by exact rfl) (hu:us++cap=vs:=by exact rfl)
  (hnd:mK ks=true:=by exact rfl) (hL:dQ Γ ks=cz L:=by exact rfl) (hR:gg Γ R rs=cz R0:=by exact rfl) (hl:fQ ks rs=true:=by exact rfl) (hns:mK ns=true:=by exact rfl) (hnl:∀x,φ x→ns.length=(L' x).length:=by exact fun _ _=>rfl) (hrl:∀x,φ x→dg rs=true→0=(R' x).length:=by exact fun _ _ _=>rfl)
  (hd:Nat.blt d N=true:=by exact rfl):
  At N w0 M H E Γ R (wpList P ops Q (⟨some d,.call {callee:= .value f,args:=xs.toArray,argTypes:=at_},T,ps,af,none⟩::rest)):=fy hs hcb ks rs ns hf hx hu hnd hL hR hl hns hnl hrl hd k
theorem ct{n:Nat}{f:Operand}{xs:List Operand}{cap us vs:List Value}{at_:Array TypeId}{L R0:List Asn}{X:Type}{φ:X→Prop}{v:X→Value}{L' R':X→List Asn}(hs:Spec P n vs L R0 φ v L' R')(hcb:Cb P n)
  (ks:List Nat) (rs:List (Bool×Nat)) (ns:List Nat) (hf:ev E f=some (.func (.func n) #[] cap.toArray)) (hx:evs E xs=some us) (hu:us++cap=vs) (k:∀x,φ x→At N w0 M H ((d,v x)::E) (eE ns (L' x) (eF ks Γ)) R (wpList P ops Q rest))
  (hnd:mK ks=true:=by exact rfl) (hL:dQ Γ ks=cz L:=by exact rfl) (hR:gg Γ R rs=cz R0:=by exact rfl) (hl:fQ ks rs=true:=by exact rfl) (hns:mK ns=true:=by exact rfl) (hnl:∀x,φ x→ns.length=(L' x).length:=by exact fun _ _=>rfl) (hrl:∀x,φ x→dg rs=true→0=(R' x).length:=by exact fun _ _ _=>rfl)
  (hd:Nat.blt d N=true:=by exact rfl):
  At N w0 M H E Γ R (wpList P ops Q (⟨some d,.call {callee:= .value f,args:=xs.toArray,argTypes:=at_},T,ps,af,none⟩::rest)):=fy hs hcb ks rs ns hf hx hu hnd hL hR hl hns hnl hrl hd k
theorem bS{dst:Option Nat}{n:Nat}{f:Operand}{xs:List Operand}{cap us vs:List Value}{at_:Array TypeId}{L R0:List Asn}{X:Type}{φ:X→Prop}{v:X→Value}{L' R':X→List Asn}(hs:Spec P n vs L R0 φ v L' R')(hcb:Cb P n)
  (ks:List Nat) (rs:List (Bool×Nat)) (ns:List Nat) (hf:ev E f=some (.func (.func n) #[] cap.toArray):=by exact rfl) (hx:evs E xs=some us:=by exact rfl) (hu:us++cap=vs:=by exact rfl)
  (hnd:mK ks=true:=by exact rfl) (hL:dQ Γ ks=cz L:=by exact rfl) (hR:gg Γ R rs=cz R0:=by exact rfl) (hl:fQ ks rs=true:=by exact rfl) (hns:mK ns=true:=by exact rfl) (hnl:∀x,φ x→ns.length=(L' x).length:=by exact fun _ _=>rfl) (hrl:∀x,φ x→dg rs=true→0=(R' x).length:=by exact fun _ _ _=>rfl):
  MS P N w0 M H E Γ R ⟨dst,.call {callee:= .value f,args:=xs.toArray,argTypes:=at_},T,ps,af,none⟩ φ v (fun x=>eE ns (L' x) (eF ks Γ)) (fun _=>R):=uH hs hcb ks rs ns hf hx hu hnd hL hR hl hns hnl hrl
theorem ga{dst:Option Nat}{n:Nat}{f:Operand}{xs:List Operand}{cap us vs:List Value}{at_:Array TypeId}{L R0:List Asn}{X:Type}{φ:X→Prop}{v:X→Value}{L' R':X→List Asn}(hs:Spec P n vs L R0 φ v L' R')(hcb:Cb P n)
  (ks:List Nat) (rs:List (Bool×Nat)) (ns:List Nat) (hf:ev E f=some (.func (.func n) #[] cap.toArray)) (hx:evs E xs=some us) (hu:us++cap=vs)
  (hnd:mK ks=true:=by exact rfl) (hL:dQ Γ ks=cz L:=by exact rfl) (hR:gg Γ R rs=cz R0:=by exact rfl) (hl:fQ ks rs=true:=by exact rfl) (hns:mK ns=true:=by exact rfl) (hnl:∀x,φ x→ns.length=(L' x).length:=by exact fun _ _=>rfl) (hrl:∀x,φ x→dg rs=true→0=(R' x).length:=by exact fun _ _ _=>rfl):
  MS P N w0 M H E Γ R ⟨dst,.call {callee:= .value f,args:=xs.toArray,argTypes:=at_},T,ps,af,none⟩ φ v (fun x=>eE ns (L' x) (eF ks Γ)) (fun _=>R):=uH hs hcb ks rs ns hf hx hu hnd hL hR hl hns hnl hrl
theorem aK{l:List Oper}{V I:di}{i d:Nat}{v:Value}{x:Operand}{T:TypeId}{ps:String}{af:Array Edge}(ho:l[i]?=some ⟨some d,.move x,T,ps,af,none⟩)(hx:ev (vpre (dH ⟨some d,.move x,T,ps,af,none⟩) V++E) x=some v)(t:PRs P N w0 M H E Γ R l V I):PRs P N w0 M H E Γ R l V ((i,d,v)::I):=a_ (MI ho (aV hx)) t
theorem ad{l:List Oper}{V I:di}{i d:Nat}{v:Value}{op:Op}{T:TypeId}{ps:String}{af:Array Edge}(ho:l[i]?=some ⟨some d,op,T,ps,af,none⟩)(h:PR P N w0 M H (vpre (dH ⟨some d,op,T,ps,af,none⟩) V++E) Γ R op v)(t:PRs P N w0 M H E Γ R l V I):PRs P N w0 M H E Γ R l V ((i,d,v)::I):=a_ (MI ho h) t
end
theorem bs{n:Int}(h: -9223372036854775808≤n∧n≤9223372036854775807):IntKind.i64.wrap n=n:=rh h.1 h.2
theorem bw{n:Int}(h:0≤n∧n<4294967296):IntKind.u32.wrap n=n:=jA h.1 h.2
theorem aY{P:Program}{S:TypeId}{a b c:Int}(h:IntKind.i64.wrap (a+b)=c:=by first|exact bs (by omega)|rfl):cW P .add S (.int .i64 a) (.int .i64 b) (.int .i64 c):=bX h
theorem mG{P:Program}{S:TypeId}{a b c:Int}(h:IntKind.u32.wrap (a+b)=c:=by first|exact bw (by omega)|rfl):cW P .add S (.int .u32 a) (.int .u32 b) (.int .u32 c):=bX h
theorem iF{P:Program}{S:TypeId}{a b c:Int}(h:IntKind.i64.wrap (a-b)=c:=by first|exact bs (by omega)|rfl):cW P .sub S (.int .i64 a) (.int .i64 b) (.int .i64 c):=lg h
theorem DB{P:Program}{S:TypeId}{a b c:Int}(h:IntKind.u32.wrap (a-b)=c:=by first|exact bw (by omega)|rfl):cW P .sub S (.int .u32 a) (.int .u32 b) (.int .u32 c):=lg h
theorem iH{P:Program}{S:TypeId}{a b c:Int}(h:IntKind.i64.wrap (a*b)=c:=by first|exact bs (by omega)|rfl):cW P .mul S (.int .i64 a) (.int .i64 b) (.int .i64 c):=ek h
theorem mF{P:Program}{S:TypeId}{a b c:Int}(h:IntKind.u32.wrap (a*b)=c:=by first|exact bw (by omega)|rfl):cW P .mul S (.int .u32 a) (.int .u32 b) (.int .u32 c):=ek h
abbrev Ba:=ByteArray
class Pk (b:Bool) (u v:Value) (z:outParam Value):Prop where
 h:(bif b then u else v)=z
instance Pk0{b:Bool}{u v:Value}:Pk b u v (bif b then u else v):=⟨rfl⟩
instance Pk1{b c:Bool}:Pk b (.bool true) (gv (gb false b) (.bool c)) (.bool (b || c)):=⟨eK⟩
instance Pk2{b c:Bool}:Pk b (gv (gb true b) (.bool c)) (.bool false) (.bool (b&&c)):=⟨dZ⟩
instance Pk3{c:Bool}:Pk false (.bool true) (.bool c) (.bool (false || c)):=⟨rfl⟩
instance Pk4{c:Bool}:Pk true (.bool c) (.bool false) (.bool (true&&c)):=⟨rfl⟩
theorem bD{P:Program}{N:Nat}{w0:World}{M H:Nat→Prop}{E:el}{Γ R:dL}{c x y:Operand}{b:Bool}{u v z:Value}(hc:ev E c=some (.bool b))(hx:ev E x=some u)(hy:ev E y=some v) [hz:Pk b u v z]:PR P N w0 M H E Γ R (.pick c x y) z:=em hc hx hy hz.h
abbrev Sg(s:ByteArray):Value:= .string s
abbrev Pt(b:Nat):Value:= .pointer (some ⟨b,0,none⟩)
abbrev I6(n:Int):Value:= .int .i64 n
abbrev I3(n:Int):Value:= .int .u32 n
abbrev aN(P:Program)(n:Nat)(vs:List Value)(L R:List Asn)(v:Value)(L1:List Asn):Prop:=Spec P n vs L R (X:=Unit) (fun _=>True) (fun _=>v) (fun _=>L1) (fun _=> [])
def eU(x:Int):List Value:= [.int .u32 x]
theorem gn(x y:ByteArray):(x==y)=decide (x=y):=by
 obtain⟨⟨x⟩⟩:=x;obtain⟨⟨y⟩⟩:=y;show((⟨x⟩:Array UInt8)==⟨y⟩)=_;simp;exact Bool.beq_eq_decide_eq x y
def fG(s:ByteArray):Value:= .string s
theorem EV{P:Program}{kt:TypeId}(h:P.underlying kt=some .string):KeyLaw P kt fG where
 check:=fun b k w=>by
  show(Instr.checkKey b (9999+1) kt (.string k)).run P w=_;unfold Instr.checkKey;simp [Sem.run_bind,run_underlying h]
 find:=fun{α} kf vf k ms w=>by
  have hnow:∀(ms:List (α×Nat))(i:Nat),Instr.findNow .string (.string k) (ms.map (iQ fG kf vf)) i=some (xt kf vf k ms i):=by
   intro ms
   induction ms with
   | nil=>intro i;rfl
   | cons m r ih=>
    intro i;simp only [List.map_cons,Instr.findNow,iQ,fG,Instr.sameNow,xt];by_cases e:kf m.1=k
    ·have:(k==kf m.1)=true:=by rw [gn];exact decide_eq_true e.symm
     rw [this,ak e]
    ·have:(k==kf m.1)=false:=by rw [gn];exact decide_eq_false fun h=>e h.symm
     rw [this,ac e];exact ih (i+1)
  unfold Instr.findKey;simp only [Sem.run_bind,run_underlying h,Result.andThen_ok];show(match Instr.findNow .string (fG k) (ms.map (iQ fG kf vf)) 0 with|some r=>pure r|none=>_:Sem (Option (Nat×Value))).run P w=_;rw [show Instr.findNow .string (fG k) (ms.map (iQ fG kf vf)) 0=some (xt kf vf k ms 0)from hnow ms 0];rfl
 stays:=fun k=>by
  show Instr.sameBits 10000 (.string k) (.string k)=true;simp [Instr.sameBits,gn]
section
variable{P:Program}{N:Nat}{w0:World}{M H:Nat→Prop}{E:el}{Γ R:dL}{Q:Exit→Act→World→Prop}
variable{ops:Array Oper}{rest:List Oper}{T:TypeId}{ps:String}{af:Array Edge}{d:Nat}
variable{α κ:Type} [DecidableEq κ]{mk:κ→Value}{kf:α→κ}{vf:α→Value}
theorem Ab{S kt et:TypeId}{x y z:Operand}{b:Nat}{k:Nat}(e:α){L:List α}(L':List α)(hS:P.underlying S=some (.map kt et))(hK:KeyLaw P kt mk)(hx:ev E x=some (.map (some b)))(hy:ev E y=some (mk (kf e)))(hz:ev E z=some (vf e))(hk:bG Γ k=some (mp mk kf vf (some b) L))
  (hp:(e::L.filter fun a=>decide (kf a≠kf e)).Perm L'):
  MS P N w0 M H E Γ R ⟨none,.insert S x y z,T,ps,af,none⟩ (X:=Unit) (fun _=>True) (fun _=>undef) (fun _=>(k,mp mk kf vf (some b) L')::Γ) (fun _=>R):=
 fun a w hE hC next Q hn=>h_ (T:=T) (ps:=ps) (af:=af) e L' hS hK hx hy hz hk hp a w hE hC next Q hn
theorem bW{S kt et:TypeId}{x y z:Operand}{b:Nat}{k:Nat}(e:α){L:List α}(L':List α)(hS:P.underlying S=some (.map kt et))(hK:KeyLaw P kt mk)(hx:ev E x=some (.map (some b)))(hy:ev E y=some (mk (kf e)))(hz:ev E z=some (vf e))(hk:bG Γ k=some (mp mk kf vf (some b) L))
  (hp:(e::L.filter fun a=>decide (kf a≠kf e)).Perm L') (kk:At N w0 M H E ((k,mp mk kf vf (some b) L')::Γ) R (wpList P ops Q rest)):At N w0 M H E Γ R (wpList P ops Q (⟨none,.insert S x y z,T,ps,af,none⟩::rest)):=
 FV (Ab e L' hS hK hx hy hz hk hp) fun _ _=>kk
theorem z9{S:TypeId}{D:TypeDesc}{x:Operand}{v:Value}(hS:P.underlying S=some D)(hD:∀l,D≠ .interface l)(hx:ev E x=some v):PR P N w0 M H E Γ R (.makeInterface S x) (.iface S v):=fun _ _ _ a w hE _ _ _=>by
 have:(Instr.makeInterface S v).run P w= .ok (.iface S v) w:=by
  unfold Instr.makeInterface;simp only [Sem.run_bind,run_underlying hS,Result.andThen_ok];cases D<;>first|rfl|exact absurd J (hD _)
 simp [execOp,hE.ev hx,this]
end
inductive Tx where
 | mk (kind n:Int) (name:ByteArray) (v:SV) (kids:List Tx)
def Tx.kind:Tx→Int | .mk k _ _ _ _=>k
def Tx.n:Tx→Int | .mk _ n _ _ _=>n
def Tx.name:Tx→ByteArray | .mk _ _ s _ _=>s
def Tx.v:Tx→SV | .mk _ _ _ v _=>v
def Tx.kids:Tx→List Tx | .mk _ _ _ _ l=>l
def gk(t:Tx):List Value:= [.int .i64 t.kind,.int .u32 t.n,.string t.name,sv t.v]
abbrev xV(t:Tx):Value:= .agg (gk t).toArray
inductive Ty where
 | mk (kind:Int) (name:ByteArray) (ve:SV) (es:List Tx) (vb:SV) (body:List Ty) (vl:SV) (els:List Ty)
def Ty.kind:Ty→Int | .mk k _ _ _ _ _ _ _=>k
def Ty.name:Ty→ByteArray | .mk _ s _ _ _ _ _ _=>s
def Ty.ve:Ty→SV | .mk _ _ v _ _ _ _ _=>v
def Ty.es:Ty→List Tx | .mk _ _ _ l _ _ _ _=>l
def Ty.vb:Ty→SV | .mk _ _ _ _ v _ _ _=>v
def Ty.body:Ty→List Ty | .mk _ _ _ _ _ l _ _=>l
def Ty.vl:Ty→SV | .mk _ _ _ _ _ _ v _=>v
def Ty.els:Ty→List Ty | .mk _ _ _ _ _ _ _ l=>l
def iR(t:Ty):List Value:= [.int .i64 t.kind,.string t.name,sv t.ve,sv t.vb,sv t.vl]
abbrev yV(t:Ty):Value:= .agg (iR t).toArray
def SlIn'{α:Type}(w:World)(F:Nat→Prop)(s:Nat)(enc:α→List Value)(v:Value)(l:List α):Prop:=∃G:Nat→Prop,tL w G s enc v l∧∀b,G b→F b
theorem SlIn'.stable{α:Type}{w w':World}{F:Nat→Prop}{s:Nat}{enc:α→List Value}{v:Value}{l:List α}(h:SlIn' w F s enc v l)(hs:∀b,F b→w'.heap[b]?=w.heap[b]?):SlIn' w' F s enc v l:=by
 obtain⟨G,h1,h2⟩:=h;exact⟨G,(sl s enc v l).stable h1 fun b hb=>hs b (h2 b hb),h2⟩
theorem SlIn'.mono{α:Type}{w:World}{F F':Nat→Prop}{s:Nat}{enc:α→List Value}{v:Value}{l:List α}(h:SlIn' w F s enc v l)(hs:∀b,F b→F' b):SlIn' w F' s enc v l:=by
 obtain⟨G,h1,h2⟩:=h;exact⟨G,h1,fun b hb=>hs b (h2 b hb)⟩
mutual
def TxIn(w:World)(F:Nat→Prop):Tx→Prop
 | .mk _ _ _ v kids=>SlIn' w F 4 gk (sv v) kids∧TxsIn w F kids
def TxsIn(w:World)(F:Nat→Prop):List Tx→Prop
 | []=>True
 | t::r=>TxIn w F t∧TxsIn w F r
end
mutual
theorem TxIn.mono{w w':World}{F F':Nat→Prop}(hs:∀b,F b→F' b)(hw:∀b,F b→w'.heap[b]?=w.heap[b]?):∀t,TxIn w F t→TxIn w' F' t
 | .mk _ _ _ v kids,h=>⟨(h.1.stable hw).mono hs,TxsIn.mono hs hw kids h.2⟩
theorem TxsIn.mono{w w':World}{F F':Nat→Prop}(hs:∀b,F b→F' b)(hw:∀b,F b→w'.heap[b]?=w.heap[b]?):∀l,TxsIn w F l→TxsIn w' F' l
 | [],_=>trivial
 | t::r,h=>⟨TxIn.mono hs hw t h.1,TxsIn.mono hs hw r h.2⟩
end
theorem TxsIn.mem{w:World}{F:Nat→Prop}:∀{l:List Tx},TxsIn w F l→∀t∈l,TxIn w F t
 | [],_,_,h=>by simp at h
 | t::r,h,u,hu=>by
  rcases List.mem_cons.1 hu with rfl|hu
  ·exact h.1
  ·exact TxsIn.mem h.2 u hu
mutual
def TyIn(w:World)(F:Nat→Prop):Ty→Prop
 | .mk _ _ ve es vb body vl els=>(SlIn' w F 4 gk (sv ve) es∧TxsIn w F es)∧(SlIn' w F 5 iR (sv vb) body∧TysIn w F body)∧(SlIn' w F 5 iR (sv vl) els∧TysIn w F els)
def TysIn(w:World)(F:Nat→Prop):List Ty→Prop
 | []=>True
 | t::r=>TyIn w F t∧TysIn w F r
end
mutual
theorem TyIn.mono{w w':World}{F F':Nat→Prop}(hs:∀b,F b→F' b)(hw:∀b,F b→w'.heap[b]?=w.heap[b]?):∀t,TyIn w F t→TyIn w' F' t
 | .mk _ _ ve es vb body vl els,h=>⟨⟨(h.1.1.stable hw).mono hs,TxsIn.mono hs hw es h.1.2⟩,⟨(h.2.1.1.stable hw).mono hs,TysIn.mono hs hw body h.2.1.2⟩,⟨(h.2.2.1.stable hw).mono hs,TysIn.mono hs hw els h.2.2.2⟩⟩
theorem TysIn.mono{w w':World}{F F':Nat→Prop}(hs:∀b,F b→F' b)(hw:∀b,F b→w'.heap[b]?=w.heap[b]?):∀l,TysIn w F l→TysIn w' F' l
 | [],_=>trivial
 | t::r,h=>⟨TyIn.mono hs hw t h.1,TysIn.mono hs hw r h.2⟩
end
theorem TysIn.mem{w:World}{F:Nat→Prop}:∀{l:List Ty},TysIn w F l→∀t∈l,TyIn w F t
 | [],_,_,h=>by simp at h
 | t::r,h,u,hu=>by
  rcases List.mem_cons.1 hu with rfl|hu
  ·exact h.1
  ·exact TysIn.mem h.2 u hu
def cx(v:SV)(l:List Tx):Asn:=⟨fun w F=>SlIn' w F 4 gk (sv v) l∧TxsIn w F l,fun h hs=>⟨h.1.stable hs,TxsIn.mono (fun _ hb=>hb) hs _ h.2⟩⟩
def ck(v:SV)(l:List Ty):Asn:=⟨fun w F=>SlIn' w F 5 iR (sv v) l∧TysIn w F l,fun h hs=>⟨h.1.stable hs,TysIn.mono (fun _ hb=>hb) hs _ h.2⟩⟩
theorem jU{v:SV}{l:List Tx}:∀w G,(cx v l).pred w G→(∀b,G b→b<w.heap.size)→∃G',(sl 4 gk (sv v) l).pred w G'∧∀b,G' b→G b:=fun w G h _=>h.1
theorem jS{v:SV}{l:List Ty}:∀w G,(ck v l).pred w G→(∀b,G b→b<w.heap.size)→∃G',(sl 5 iR (sv v) l).pred w G'∧∀b,G' b→G b:=fun w G h _=>h.1
theorem ft{v:SV}{l:List Tx}{t:Tx}(ht:t∈l):∀w G,(cx v l).pred w G→(∀b,G b→b<w.heap.size)→∃G',(cx t.v t.kids).pred w G'∧∀b,G' b→G b:=fun w G h _=>by
 have:=h.2.mem t ht;cases t with
 | mk a b c d e=>exact⟨G,this,fun _ hb=>hb⟩
theorem sh{v:SV}{l:List Ty}{t:Ty}(ht:t∈l):∀w G,(ck v l).pred w G→(∀b,G b→b<w.heap.size)→∃G',(cx t.ve t.es).pred w G'∧∀b,G' b→G b:=fun w G h _=>by
 have:=h.2.mem t ht;cases t with
 | mk a b c d e f g i=>exact⟨G,this.1,fun _ hb=>hb⟩
theorem jT{v:SV}{l:List Ty}{t:Ty}(ht:t∈l):∀w G,(ck v l).pred w G→(∀b,G b→b<w.heap.size)→∃G',(ck t.vb t.body).pred w G'∧∀b,G' b→G b:=fun w G h _=>by
 have:=h.2.mem t ht;cases t with
 | mk a b c d e f g i=>exact⟨G,this.2.1,fun _ hb=>hb⟩
theorem lV{v:SV}{l:List Ty}{t:Ty}(ht:t∈l):∀w G,(ck v l).pred w G→(∀b,G b→b<w.heap.size)→∃G',(ck t.vl t.els).pred w G'∧∀b,G' b→G b:=fun w G h _=>by
 have:=h.2.mem t ht;cases t with
 | mk a b c d e f g i=>exact⟨G,this.2.2,fun _ hb=>hb⟩
structure Tf where
 name:ByteArray
 vp:SV
 ps:List ByteArray
 vb:SV
 body:List Ty
def oE(f:Tf):List Value:= [.string f.name,sv f.vp,sv f.vb]
def TfIn(w:World)(F:Nat→Prop)(f:Tf):Prop:=SlIn' w F 1 eS (sv f.vp) f.ps∧(SlIn' w F 5 iR (sv f.vb) f.body∧TysIn w F f.body)
theorem TfIn.stable{w w':World}{F:Nat→Prop}{f:Tf}(h:TfIn w F f)(hs:∀b,F b→w'.heap[b]?=w.heap[b]?):TfIn w' F f:=⟨h.1.stable hs,h.2.1.stable hs,TysIn.mono (fun _ hb=>hb) hs _ h.2.2⟩
def fD(v:SV)(l:List Tf):Asn:=⟨fun w F=>SlIn' w F 3 oE (sv v) l∧∀f∈l,TfIn w F f,fun h hs=>⟨h.1.stable hs,fun f hf=>(h.2 f hf).stable hs⟩⟩
def DK(f:Tf):Asn:=⟨fun w F=>TfIn w F f,fun h hs=>h.stable hs⟩
theorem sj{v:SV}{l:List Tf}:∀w G,(fD v l).pred w G→(∀b,G b→b<w.heap.size)→∃G',(sl 3 oE (sv v) l).pred w G'∧∀b,G' b→G b:=fun w G h _=>h.1
theorem x_{v:SV}{l:List Tf}{f:Tf}(hf:f∈l):∀w G,(fD v l).pred w G→(∀b,G b→b<w.heap.size)→∃G',(DK f).pred w G'∧∀b,G' b→G b:=fun w G h _=>⟨G,h.2 f hf,fun _ hb=>hb⟩
theorem tX{f:Tf}:∀w G,(DK f).pred w G→(∀b,G b→b<w.heap.size)→∃G',(sl 1 eS (sv f.vp) f.ps).pred w G'∧∀b,G' b→G b:=fun w G h _=>h.1
theorem sk{f:Tf}:∀w G,(DK f).pred w G→(∀b,G b→b<w.heap.size)→∃G',(ck f.vb f.body).pred w G'∧∀b,G' b→G b:=fun w G h _=>⟨G,h.2,fun _ hb=>hb⟩
def wU(n:Int):Int:=IntKind.u32.wrap n
def tr(b:Bool):Int:=if b=true then 1 else 0
def ep:ByteArray:=⟨#[45]⟩
def s5:ByteArray:=⟨#[126]⟩
def uC:ByteArray:=⟨#[33]⟩
def fh:ByteArray:=⟨#[43]⟩
def fN:ByteArray:=⟨#[42]⟩
def jI:ByteArray:=⟨#[47]⟩
def kO:ByteArray:=⟨#[37]⟩
def eB:ByteArray:=⟨#[38]⟩
def iW:ByteArray:=⟨#[124]⟩
def eD:ByteArray:=⟨#[94]⟩
def fM:ByteArray:=⟨#[60,60]⟩
def fY:ByteArray:=⟨#[62,62]⟩
def kP:ByteArray:=⟨#[60]⟩
def lO:ByteArray:=⟨#[60,61]⟩
def lP:ByteArray:=⟨#[62]⟩
def mZ:ByteArray:=⟨#[62,61]⟩
def lQ:ByteArray:=⟨#[61,61]⟩
def lN:ByteArray:=⟨#[33,61]⟩
def I_(op:ByteArray)(a:Int):Option Int:=
 if op=ep then some (wU (-a))else if op=s5 then some (4294967295-a)else if op=uC then some (tr (decide (a=0)))else none
def IP(op:ByteArray)(a b:Int):Option Int:=
 if op=fh then some (wU (a+b))else if op=ep then some (wU (a-b))else if op=fN then some (wU (a*b))else
 if op=jI then some (if b=0 then 0 else a/b)else if op=kO then some (if b=0 then a else a%b)else
 if op=eB then some (bits .and .u32 a b)else if op=iW then some (bits .or .u32 a b)else if op=eD then some (bits .xor .u32 a b)else
 if op=fM then some (wU (a*2^(b%32).toNat))else if op=fY then some (a/2^(b%32).toNat)else
 if op=kP then some (tr (decide (a<b)))else if op=lO then some (tr (decide (a≤b)))else if op=lP then some (tr (decide (a>b)))else if op=mZ then some (tr (decide (a≥b)))else
 if op=lQ then some (tr (decide (a=b)))else if op=lN then some (tr (!decide (a=b)))else none
structure Ms where
 inp:List Int
 out:List Int
 mem:Nat→Int
 fuel:Int
inductive Re(α:Type) where
 | ok (a:α) (s:Ms)
 | err (e:Int)
abbrev Vs:=List (ByteArray×Int)
def oL(vs:Vs)(x:ByteArray):Int:=match vs.find? (fun p=>decide (p.1=x))with
 | some p=>p.2
 | none=>0
def fC(vs:Vs)(x:ByteArray)(n:Int):Vs:=(x,n)::vs.filter fun p=>decide (p.1≠x)
def gS(vs:Vs):List ByteArray→List Int→Vs
 | p::ps,a::al=>gS (fC vs p a) ps al
 | _,_=>vs
def cK(fs:List Tf)(x:ByteArray):Option Tf:=fs.find? fun f=>decide (f.name=x)
def B0(m:Nat→Int)(i:Nat)(v:Int):Nat→Int:=fun k=>if k=i then v else m k
mutual
def ju:Nat→List Tf→Nat→Vs→Tx→Ms→Option (Re Int)
 | 0,_,_,_,_,_=>none
 | g+1,fs,d,vs,t,s=>if s.fuel≤0 then some (.err 25)else
  match jM g fs d vs [] t.kids {s with fuel:=s.fuel-1}with
  | none=>none
  | some (.err e)=>some (.err e)
  | some (.ok ks s1)=>
   if t.kind=1 then some (.ok t.n s1)else if t.kind=2 then some (.ok (oL vs t.name) s1)else
   if t.kind=4 then some (.ok (s1.mem (ks.getD 0 0%256).toNat) s1)else
   if t.kind=5 then(match s1.inp with
    | []=>some (.ok 0 s1)
    | a::r=>some (.ok a {s1 with inp:=r}))else
   if t.kind=6 then some (.ok ((I_ t.name (ks.getD 0 0)).getD 0) s1)else if t.kind=7 then some (.ok ((IP t.name (ks.getD 0 0) (ks.getD 1 0)).getD 0) s1)else
   match cK fs t.name with
   | none=>none
   | some f=>qV g fs d f ks s1
def jM:Nat→List Tf→Nat→Vs→List Int→List Tx→Ms→Option (Re (List Int))
 | 0,_,_,_,_,_,_=>none
 | _+1,_,_,_,acc,[],s=>some (.ok acc s)
 | g+1,fs,d,vs,acc,t::r,s=>match ju g fs d vs t s with
  | none=>none
  | some (.err e)=>some (.err e)
  | some (.ok v s1)=>jM g fs d vs (acc++ [v]) r s1
def qV:Nat→List Tf→Nat→Tf→List Int→Ms→Option (Re Int)
 | 0,_,_,_,_,_=>none
 | g+1,fs,d,f,al,s=>if d=12 then some (.err 26)else
  match kQ g fs (d+1) (gS [] f.ps al) f.body s with
  | none=>none
  | some (.err e)=>some (.err e)
  | some (.ok (_,r) s1)=>some (.ok (r.getD 0) s1)
def kQ:Nat→List Tf→Nat→Vs→List Ty→Ms→Option (Re (Vs×Option Int))
 | 0,_,_,_,_,_=>none
 | _+1,_,_,vs,[],s=>some (.ok (vs,none) s)
 | g+1,fs,d,vs,t::r,s=>match nQ g fs d vs t s with
  | none=>none
  | some (.err e)=>some (.err e)
  | some (.ok (vs1,some x) s1)=>some (.ok (vs1,some x) s1)
  | some (.ok (vs1,none) s1)=>kQ g fs d vs1 r s1
def nQ:Nat→List Tf→Nat→Vs→Ty→Ms→Option (Re (Vs×Option Int))
 | 0,_,_,_,_,_=>none
 | g+1,fs,d,vs,t,s=>if s.fuel≤0 then some (.err 25)else
  match t.es with
  | []=>none
  | e::es=>match ju g fs d vs e {s with fuel:=s.fuel-1}with
   | none=>none
   | some (.err e)=>some (.err e)
   | some (.ok v s1)=>
    if t.kind=1∨t.kind=2 then some (.ok (fC vs t.name v,none) s1)else
    if t.kind=3 then(match es with
     | []=>none
     | e2::_=>match ju g fs d vs e2 s1 with
      | none=>none
      | some (.err e)=>some (.err e)
      | some (.ok w s2)=>some (.ok (vs,none) {s2 with mem:=B0 s2.mem (v%256).toNat w}))else
    if t.kind=4 then kQ g fs d vs (if v=0 then t.els else t.body) s1 else
    if t.kind=5 then qU g fs d vs e t.body v s1 else
    if t.kind=6 then some (.ok (vs,some v) s1)else if t.kind=7 then some (.ok (vs,none) {s1 with out:=s1.out++ [v]})else some (.ok (vs,none) s1)
def qU:Nat→List Tf→Nat→Vs→Tx→List Ty→Int→Ms→Option (Re (Vs×Option Int))
 | 0,_,_,_,_,_,_,_=>none
 | g+1,fs,d,vs,e,l,v,s=>if v=0 then some (.ok (vs,none) s)else
  match kQ g fs d vs l s with
  | none=>none
  | some (.err e)=>some (.err e)
  | some (.ok (vs1,some x) s1)=>some (.ok (vs1,some x) s1)
  | some (.ok (vs1,none) s1)=>match ju g fs d vs1 e s1 with
   | none=>none
   | some (.err e)=>some (.err e)
   | some (.ok w s2)=>qU g fs d vs1 e l w s2
end
end Go.Proofs.YtedmdgbmdplifaaGreat
namespace Go.Proofs.YtedmdgbmdplifaaGreat
open Go.RowKit Tryz
theorem t1:TI prog 1 (.func #[] #[] Bool.false) (.nilFunc) 1 8:=⟨underlying1,by kernel_rfl⟩
theorem t3:TI prog 3 (.int .i64) (I6 0) 1 8:=⟨underlying3,by kernel_rfl⟩
theorem t4:TI prog 4 Go.TypeDesc.bool (.bool false) 1 1:=⟨underlying4,by kernel_rfl⟩
theorem t5:TI prog 5 (.int .u8) (.int .u8 0) 1 1:=⟨underlying5,by kernel_rfl⟩
theorem t9:TI prog 9 Go.TypeDesc.string (Sg ⟨#[]⟩) 1 16:=⟨underlying9,by kernel_rfl⟩
theorem Bc:TI prog 22 (.slice 3) (.slice none 0 0) 1 24:=⟨underlying22,by kernel_rfl⟩
theorem Bb:TI prog 25 (.slice 66) (.slice none 0 0) 1 24:=⟨underlying25,by kernel_rfl⟩
theorem wm:TI prog 27 (.struct #[⟨ "Funcs",25,0,false,"","",0⟩]) (.agg #[.slice none 0 0]) 1 24:=⟨underlying27,by kernel_rfl⟩
theorem iB:FO prog 27 0 0:=⟨_,_,0,underlying27,rfl,rfl,by kernel_rfl⟩
theorem tY:TI prog 31 (.struct #[⟨ "Kind",3,0,false,"","",0⟩,⟨ "Code",9,1,false,"","",8⟩]) (.agg #[I6 0,Sg ⟨#[]⟩]) 2 24:=⟨underlying31,by kernel_rfl⟩
theorem CS:FO prog 31 0 0:=⟨_,_,0,underlying31,rfl,rfl,by kernel_rfl⟩
theorem ke:FO prog 31 1 1:=⟨_,_,0,underlying31,rfl,rfl,by kernel_rfl⟩
theorem Ev:PL prog 31 [(0,1),(1,1)]:=⟨_,underlying31,by kernel_rfl⟩
theorem zA:TI prog 32 (.int .i64) (I6 0) 1 8:=⟨underlying32,by kernel_rfl⟩
theorem dy:TI prog 41 (.int .u32) (I3 0) 1 4:=⟨underlying41,by kernel_rfl⟩
theorem oO:TI prog 46 (.slice 9) (.slice none 0 0) 1 24:=⟨underlying46,by kernel_rfl⟩
theorem DL:TI prog 48 (.slice 41) (.slice none 0 0) 1 24:=⟨underlying48,by kernel_rfl⟩
theorem yc:TI prog 53 (.struct #[⟨ "Kind",3,0,false,"","",0⟩,⟨ "Info",41,1,false,"","",8⟩]) (.agg #[I6 0,I3 0]) 2 16:=⟨underlying53,by kernel_rfl⟩
theorem qc:FO prog 53 0 0:=⟨_,_,0,underlying53,rfl,rfl,by kernel_rfl⟩
theorem xr:FO prog 53 1 1:=⟨_,_,0,underlying53,rfl,rfl,by kernel_rfl⟩
theorem JU:PL prog 53 [(0,1),(1,1)]:=⟨_,underlying53,by kernel_rfl⟩
theorem zz:TI prog 55 (.struct #[⟨ "Outputs",48,0,false,"","",0⟩,⟨ "Mem",48,1,false,"","",24⟩,⟨ "End",53,2,false,"","",48⟩]) (.agg #[.slice none 0 0,.slice none 0 0,I6 0,I3 0]) 4 64:=⟨underlying55,by kernel_rfl⟩
theorem qb:FO prog 55 0 0:=⟨_,_,0,underlying55,rfl,rfl,by kernel_rfl⟩
theorem qa:FO prog 55 1 1:=⟨_,_,0,underlying55,rfl,rfl,by kernel_rfl⟩
theorem xq:FO prog 55 2 2:=⟨_,_,1,underlying55,rfl,rfl,by kernel_rfl⟩
theorem MN:PL prog 55 [(0,1),(1,1),(2,2)]:=⟨_,underlying55,by kernel_rfl⟩
theorem n9:TI prog 59 (.slice 61) (.slice none 0 0) 1 24:=⟨underlying59,by kernel_rfl⟩
theorem dr:TI prog 61 (.struct #[⟨ "Kind",3,0,false,"","",0⟩,⟨ "N",41,1,false,"","",8⟩,⟨ "Name",9,2,false,"","",16⟩,⟨ "Kids",59,3,false,"","",32⟩]) (.agg #[I6 0,I3 0,Sg ⟨#[]⟩,.slice none 0 0]) 4 56:=⟨underlying61,by kernel_rfl⟩
theorem ng:FO prog 61 0 0:=⟨_,_,0,underlying61,rfl,rfl,by kernel_rfl⟩
theorem CQ:FO prog 61 1 1:=⟨_,_,0,underlying61,rfl,rfl,by kernel_rfl⟩
theorem fj:FO prog 61 2 2:=⟨_,_,0,underlying61,rfl,rfl,by kernel_rfl⟩
theorem eZ:FO prog 61 3 3:=⟨_,_,0,underlying61,rfl,rfl,by kernel_rfl⟩
theorem wI:PL prog 61 [(0,1),(1,1),(2,1),(3,1)]:=⟨_,underlying61,by kernel_rfl⟩
theorem n8:TI prog 62 (.slice 64) (.slice none 0 0) 1 24:=⟨underlying62,by kernel_rfl⟩
theorem fE:TI prog 64 (.struct #[⟨ "Kind",3,0,false,"","",0⟩,⟨ "Name",9,1,false,"","",8⟩,⟨ "Exprs",59,2,false,"","",24⟩,⟨ "Body",62,3,false,"","",48⟩,⟨ "Else",62,4,false,"","",72⟩]) (.agg #[I6 0,Sg ⟨#[]⟩,.slice none 0 0,.slice none 0 0,.slice none 0 0]) 5 96:=⟨underlying64,by kernel_rfl⟩
theorem iA:FO prog 64 0 0:=⟨_,_,0,underlying64,rfl,rfl,by kernel_rfl⟩
theorem lB:FO prog 64 1 1:=⟨_,_,0,underlying64,rfl,rfl,by kernel_rfl⟩
theorem nf:FO prog 64 2 2:=⟨_,_,0,underlying64,rfl,rfl,by kernel_rfl⟩
theorem jt:FO prog 64 3 3:=⟨_,_,0,underlying64,rfl,rfl,by kernel_rfl⟩
theorem jr:FO prog 64 4 4:=⟨_,_,0,underlying64,rfl,rfl,by kernel_rfl⟩
theorem wH:PL prog 64 [(0,1),(1,1),(2,1),(3,1),(4,1)]:=⟨_,underlying64,by kernel_rfl⟩
theorem mI:TI prog 66 (.struct #[⟨ "Name",9,0,false,"","",0⟩,⟨ "Params",46,1,false,"","",16⟩,⟨ "Body",62,2,false,"","",40⟩]) (.agg #[Sg ⟨#[]⟩,.slice none 0 0,.slice none 0 0]) 3 64:=⟨underlying66,by kernel_rfl⟩
theorem na:FO prog 66 0 0:=⟨_,_,0,underlying66,rfl,rfl,by kernel_rfl⟩
theorem fR:FO prog 66 1 1:=⟨_,_,0,underlying66,rfl,rfl,by kernel_rfl⟩
theorem m_:FO prog 66 2 2:=⟨_,_,0,underlying66,rfl,rfl,by kernel_rfl⟩
theorem MM:PL prog 66 [(0,1),(1,1),(2,1)]:=⟨_,underlying66,by kernel_rfl⟩
theorem Ea:TI prog 72 (.slice 148) (.slice none 0 0) 1 24:=⟨underlying72,by kernel_rfl⟩
theorem Jb:TI prog 74 (.struct #[⟨ "slots",72,0,false,"","babel/mem",0⟩,⟨ "coherent",4,1,false,"","babel/mem",24⟩]) (.agg #[.slice none 0 0,.bool false]) 2 32:=⟨underlying74,by kernel_rfl⟩
theorem jq:FO prog 74 0 0:=⟨_,_,0,underlying74,rfl,rfl,by kernel_rfl⟩
theorem Iq:FO prog 74 1 1:=⟨_,_,0,underlying74,rfl,rfl,by kernel_rfl⟩
theorem ML:PL prog 74 [(0,1),(1,1)]:=⟨_,underlying74,by kernel_rfl⟩
theorem lX:TI prog 78 (.struct #[⟨ "PC",41,0,false,"","",0⟩,⟨ "R",75,1,false,"","",4⟩,⟨ "F",41,17,false,"","",68⟩,⟨ "C",76,18,false,"","",72⟩,⟨ "Steps",3,22,false,"","",88⟩,⟨ "Due",3,23,false,"","",96⟩]) (.agg #[I3 0,I3 0,I3 0,I3 0,I3 0,I3 0,I3 0,I3 0,I3 0,I3 0,I3 0,I3 0,I3 0,I3 0,I3 0,I3 0,I3 0,I3 0,I3 0,I3 0,I3 0,I3 0,I6 0,I6 0]) 24 104:=⟨underlying78,by kernel_rfl⟩
theorem gQ:FO prog 78 0 0:=⟨_,_,0,underlying78,rfl,rfl,by kernel_rfl⟩
theorem fi:FO prog 78 1 1:=⟨_,_,15,underlying78,rfl,rfl,by kernel_rfl⟩
theorem CO:FO prog 78 2 17:=⟨_,_,0,underlying78,rfl,rfl,by kernel_rfl⟩
theorem Ip:FO prog 78 3 18:=⟨_,_,3,underlying78,rfl,rfl,by kernel_rfl⟩
theorem gd:FO prog 78 4 22:=⟨_,_,0,underlying78,rfl,rfl,by kernel_rfl⟩
theorem m9:FO prog 78 5 23:=⟨_,_,0,underlying78,rfl,rfl,by kernel_rfl⟩
theorem Hj:PL prog 78 [(0,1),(1,16),(17,1),(18,4),(22,1),(23,1)]:=⟨_,underlying78,by kernel_rfl⟩
theorem OE:TI prog 80 (.struct #[⟨ "Mem",74,0,true,"","",0⟩,⟨ "s",78,2,false,"","babel/qcpu",32⟩]) (.agg #[.slice none 0 0,.bool false,I3 0,I3 0,I3 0,I3 0,I3 0,I3 0,I3 0,I3 0,I3 0,I3 0,I3 0,I3 0,I3 0,I3 0,I3 0,I3 0,I3 0,I3 0,I3 0,I3 0,I3 0,I3 0,I6 0,I6 0]) 26 136:=⟨underlying80,by kernel_rfl⟩
theorem m8:FO prog 80 0 0:=⟨_,_,1,underlying80,rfl,rfl,by kernel_rfl⟩
theorem CN:FO prog 80 1 2:=⟨_,_,23,underlying80,rfl,rfl,by kernel_rfl⟩
theorem MK:PL prog 80 [(0,2),(2,24)]:=⟨_,underlying80,by kernel_rfl⟩
theorem wl:TI prog 84 (.slice 5) (.slice none 0 0) 1 24:=⟨underlying84,by kernel_rfl⟩
theorem nt:TI prog 91 (.pointer 157) (.pointer none) 1 8:=⟨underlying91,by kernel_rfl⟩
theorem OD:TI prog 93 (.struct #[⟨ "S",78,0,false,"","",0⟩,⟨ "M",91,24,false,"","",104⟩]) (.agg #[I3 0,I3 0,I3 0,I3 0,I3 0,I3 0,I3 0,I3 0,I3 0,I3 0,I3 0,I3 0,I3 0,I3 0,I3 0,I3 0,I3 0,I3 0,I3 0,I3 0,I3 0,I3 0,I6 0,I6 0,.pointer none]) 25 112:=⟨underlying93,by kernel_rfl⟩
theorem dx:FO prog 93 0 0:=⟨_,_,23,underlying93,rfl,rfl,by kernel_rfl⟩
theorem dw:FO prog 93 1 24:=⟨_,_,0,underlying93,rfl,rfl,by kernel_rfl⟩
theorem MJ:PL prog 93 [(0,24),(24,1)]:=⟨_,underlying93,by kernel_rfl⟩
theorem jW:TI prog 104 (.pointer 111) (.pointer none) 1 8:=⟨underlying104,by kernel_rfl⟩
theorem Bd:TI prog 105 (.map 9 3) (.map none) 1 8:=⟨underlying105,by kernel_rfl⟩
theorem zG:TI prog 106 (.slice 118) (.slice none 0 0) 1 24:=⟨underlying106,by kernel_rfl⟩
theorem Ec:TI prog 107 (.slice 171) (.slice none 0 0) 1 24:=⟨underlying107,by kernel_rfl⟩
theorem zE:TI prog 108 (.map 9 41) (.map none) 1 8:=⟨underlying108,by kernel_rfl⟩
theorem JG:TI prog 109 (.map 9 1) (.map none) 1 8:=⟨underlying109,by kernel_rfl⟩
theorem Mz:TI prog 111 (.struct #[⟨ "p",27,0,false,"","babel/qgen",0⟩,⟨ "code",106,1,false,"","babel/qgen",24⟩,⟨ "fixes",107,2,false,"","babel/qgen",48⟩,⟨ "labels",22,3,false,"","babel/qgen",72⟩,⟨ "starts",105,4,false,"","babel/qgen",96⟩,⟨ "offs",108,5,false,"","babel/qgen",104⟩,⟨ "ops",109,6,false,"","babel/qgen",112⟩,⟨ "end",3,7,false,"","babel/qgen",120⟩]) (.agg #[.slice none 0 0,.slice none 0 0,.slice none 0 0,.slice none 0 0,.map none,.map none,.map none,I6 0]) 8 128:=⟨underlying111,by kernel_rfl⟩
theorem kJ:FO prog 111 1 1:=⟨_,_,0,underlying111,rfl,rfl,by kernel_rfl⟩
theorem oA:FO prog 111 2 2:=⟨_,_,0,underlying111,rfl,rfl,by kernel_rfl⟩
theorem mz:FO prog 111 3 3:=⟨_,_,0,underlying111,rfl,rfl,by kernel_rfl⟩
theorem my:FO prog 111 4 4:=⟨_,_,0,underlying111,rfl,rfl,by kernel_rfl⟩
theorem kI:FO prog 111 5 5:=⟨_,_,0,underlying111,rfl,rfl,by kernel_rfl⟩
theorem zd:FO prog 111 6 6:=⟨_,_,0,underlying111,rfl,rfl,by kernel_rfl⟩
theorem tx:FO prog 111 7 7:=⟨_,_,0,underlying111,rfl,rfl,by kernel_rfl⟩
theorem J0:PL prog 111 [(0,1),(1,1),(2,1),(3,1),(4,1),(5,1),(6,1),(7,1)]:=⟨_,underlying111,by kernel_rfl⟩
theorem ey:TI prog 118 (.struct #[⟨ "Op",3,0,false,"","",0⟩,⟨ "D",3,1,false,"","",8⟩,⟨ "A",3,2,false,"","",16⟩,⟨ "B",3,3,false,"","",24⟩,⟨ "Imm",41,4,false,"","",32⟩]) (.agg #[I6 0,I6 0,I6 0,I6 0,I3 0]) 5 40:=⟨underlying118,by kernel_rfl⟩
theorem b_:FO prog 118 0 0:=⟨_,_,0,underlying118,rfl,rfl,by kernel_rfl⟩
theorem fJ:FO prog 118 1 1:=⟨_,_,0,underlying118,rfl,rfl,by kernel_rfl⟩
theorem kH:FO prog 118 2 2:=⟨_,_,0,underlying118,rfl,rfl,by kernel_rfl⟩
theorem kF:FO prog 118 3 3:=⟨_,_,0,underlying118,rfl,rfl,by kernel_rfl⟩
theorem dq:FO prog 118 4 4:=⟨_,_,0,underlying118,rfl,rfl,by kernel_rfl⟩
theorem k8:PL prog 118 [(0,1),(1,1),(2,1),(3,1),(4,1)]:=⟨_,underlying118,by kernel_rfl⟩
theorem My:TI prog 141 (.pointer 74) (.pointer none) 1 8:=⟨underlying141,by kernel_rfl⟩
theorem lh:TI prog 146 (.pointer 159) (.pointer none) 1 8:=⟨underlying146,by kernel_rfl⟩
theorem qK:TI prog 148 (.struct #[⟨ "data",146,0,false,"","babel/mem",0⟩,⟨ "code",146,1,false,"","babel/mem",8⟩,⟨ "ownData",4,2,false,"","babel/mem",16⟩,⟨ "ownCode",4,3,false,"","babel/mem",17⟩,⟨ "cleanData",146,4,false,"","babel/mem",24⟩,⟨ "cleaned",146,5,false,"","babel/mem",32⟩,⟨ "rights",3,6,false,"","babel/mem",40⟩]) (.agg #[.pointer none,.pointer none,.bool false,.bool false,.pointer none,.pointer none,I6 0]) 7 48:=⟨underlying148,by kernel_rfl⟩
theorem kD:FO prog 148 0 0:=⟨_,_,0,underlying148,rfl,rfl,by kernel_rfl⟩
theorem iP:FO prog 148 1 1:=⟨_,_,0,underlying148,rfl,rfl,by kernel_rfl⟩
theorem zc:FO prog 148 2 2:=⟨_,_,0,underlying148,rfl,rfl,by kernel_rfl⟩
theorem za:FO prog 148 3 3:=⟨_,_,0,underlying148,rfl,rfl,by kernel_rfl⟩
theorem Ft:FO prog 148 5 5:=⟨_,_,0,underlying148,rfl,rfl,by kernel_rfl⟩
theorem y_:FO prog 148 6 6:=⟨_,_,0,underlying148,rfl,rfl,by kernel_rfl⟩
theorem JZ:PL prog 148 [(0,1),(1,1),(2,1),(3,1),(4,1),(5,1),(6,1)]:=⟨_,underlying148,by kernel_rfl⟩
theorem zD:TI prog 157 (.struct #[⟨ "Data",84,0,false,"","",0⟩,⟨ "Image",84,1,false,"","",24⟩,⟨ "OldData",84,2,false,"","",48⟩,⟨ "OldImage",84,3,false,"","",72⟩,⟨ "Rights",22,4,false,"","",96⟩,⟨ "Coherent",4,5,false,"","",120⟩]) (.agg #[.slice none 0 0,.slice none 0 0,.slice none 0 0,.slice none 0 0,.slice none 0 0,.bool false]) 6 128:=⟨underlying157,by kernel_rfl⟩
theorem kC:FO prog 157 0 0:=⟨_,_,0,underlying157,rfl,rfl,by kernel_rfl⟩
theorem oz:FO prog 157 1 1:=⟨_,_,0,underlying157,rfl,rfl,by kernel_rfl⟩
theorem Fq:FO prog 157 3 3:=⟨_,_,0,underlying157,rfl,rfl,by kernel_rfl⟩
theorem kB:FO prog 157 4 4:=⟨_,_,0,underlying157,rfl,rfl,by kernel_rfl⟩
theorem tw:FO prog 157 5 5:=⟨_,_,0,underlying157,rfl,rfl,by kernel_rfl⟩
theorem rz:PL prog 157 [(0,1),(1,1),(2,1),(3,1),(4,1),(5,1)]:=⟨_,underlying157,by kernel_rfl⟩
theorem wq:TI prog 159 (.array 256 5) (.agg #[.int .u8 0,.int .u8 0,.int .u8 0,.int .u8 0,.int .u8 0,.int .u8 0,.int .u8 0,.int .u8 0,.int .u8 0,.int .u8 0,.int .u8 0,.int .u8 0,.int .u8 0,.int .u8 0,.int .u8 0,.int .u8 0,.int .u8 0,.int .u8 0,.int .u8 0,.int .u8 0,.int .u8 0,.int .u8 0,.int .u8 0,.int .u8 0,.int .u8 0,.int .u8 0,.int .u8 0,.int .u8 0,.int .u8 0,.int .u8 0,.int .u8 0,.int .u8 0,.int .u8 0,.int .u8 0,.int .u8 0,.int .u8 0,.int .u8 0,.int .u8 0,.int .u8 0,.int .u8 0,.int .u8 0,.int .u8 0,.int .u8 0,.int .u8 0,.int .u8 0,.int .u8 0,.int .u8 0,.int .u8 0,.int .u8 0,.int .u8 0,.int .u8 0,.int .u8 0,.int .u8 0,.int .u8 0,.int .u8 0,.int .u8 0,.int .u8 0,.int .u8 0,.int .u8 0,.int .u8 0,.int .u8 0,.int .u8 0,.int .u8 0,.int .u8 0,.int .u8 0,.int .u8 0,.int .u8 0,.int .u8 0,.int .u8 0,.int .u8 0,.int .u8 0,.int .u8 0,.int .u8 0,.int .u8 0,.int .u8 0,.int .u8 0,.int .u8 0,.int .u8 0,.int .u8 0,.int .u8 0,.int .u8 0,.int .u8 0,.int .u8 0,.int .u8 0,.int .u8 0,.int .u8 0,.int .u8 0,.int .u8 0,.int .u8 0,.int .u8 0,.int .u8 0,.int .u8 0,.int .u8 0,.int .u8 0,.int .u8 0,.int .u8 0,.int .u8 0,.int .u8 0,.int .u8 0,.int .u8 0,.int .u8 0,.int .u8 0,.int .u8 0,.int .u8 0,.int .u8 0,.int .u8 0,.int .u8 0,.int .u8 0,.int .u8 0,.int .u8 0,.int .u8 0,.int .u8 0,.int .u8 0,.int .u8 0,.int .u8 0,.int .u8 0,.int .u8 0,.int .u8 0,.int .u8 0,.int .u8 0,.int .u8 0,.int .u8 0,.int .u8 0,.int .u8 0,.int .u8 0,.int .u8 0,.int .u8 0,.int .u8 0,.int .u8 0,.int .u8 0,.int .u8 0,.int .u8 0,.int .u8 0,.int .u8 0,.int .u8 0,.int .u8 0,.int .u8 0,.int .u8 0,.int .u8 0,.int .u8 0,.int .u8 0,.int .u8 0,.int .u8 0,.int .u8 0,.int .u8 0,.int .u8 0,.int .u8 0,.int .u8 0,.int .u8 0,.int .u8 0,.int .u8 0,.int .u8 0,.int .u8 0,.int .u8 0,.int .u8 0,.int .u8 0,.int .u8 0,.int .u8 0,.int .u8 0,.int .u8 0,.int .u8 0,.int .u8 0,.int .u8 0,.int .u8 0,.int .u8 0,.int .u8 0,.int .u8 0,.int .u8 0,.int .u8 0,.int .u8 0,.int .u8 0,.int .u8 0,.int .u8 0,.int .u8 0,.int .u8 0,.int .u8 0,.int .u8 0,.int .u8 0,.int .u8 0,.int .u8 0,.int .u8 0,.int .u8 0,.int .u8 0,.int .u8 0,.int .u8 0,.int .u8 0,.int .u8 0,.int .u8 0,.int .u8 0,.int .u8 0,.int .u8 0,.int .u8 0,.int .u8 0,.int .u8 0,.int .u8 0,.int .u8 0,.int .u8 0,.int .u8 0,.int .u8 0,.int .u8 0,.int .u8 0,.int .u8 0,.int .u8 0,.int .u8 0,.int .u8 0,.int .u8 0,.int .u8 0,.int .u8 0,.int .u8 0,.int .u8 0,.int .u8 0,.int .u8 0,.int .u8 0,.int .u8 0,.int .u8 0,.int .u8 0,.int .u8 0,.int .u8 0,.int .u8 0,.int .u8 0,.int .u8 0,.int .u8 0,.int .u8 0,.int .u8 0,.int .u8 0,.int .u8 0,.int .u8 0,.int .u8 0,.int .u8 0,.int .u8 0,.int .u8 0,.int .u8 0,.int .u8 0,.int .u8 0,.int .u8 0,.int .u8 0,.int .u8 0,.int .u8 0,.int .u8 0,.int .u8 0,.int .u8 0,.int .u8 0,.int .u8 0,.int .u8 0,.int .u8 0,.int .u8 0,.int .u8 0,.int .u8 0,.int .u8 0,.int .u8 0,.int .u8 0,.int .u8 0,.int .u8 0,.int .u8 0,.int .u8 0,.int .u8 0]) 256 256:=⟨underlying159,by kernel_rfl⟩
theorem Mx:TI prog 165 (.struct #[⟨ "p",27,0,false,"","babel/syntax",0⟩,⟨ "names",46,1,false,"","babel/syntax",24⟩,⟨ "nodes",3,2,false,"","babel/syntax",48⟩,⟨ "vars",3,3,false,"","babel/syntax",56⟩,⟨ "deep",4,4,false,"","babel/syntax",64⟩,⟨ "err",32,5,false,"","babel/syntax",72⟩]) (.agg #[.slice none 0 0,.slice none 0 0,I6 0,I6 0,.bool false,I6 0]) 6 80:=⟨underlying165,by kernel_rfl⟩
theorem y9:FO prog 165 0 0:=⟨_,_,0,underlying165,rfl,rfl,by kernel_rfl⟩
theorem mx:FO prog 165 1 1:=⟨_,_,0,underlying165,rfl,rfl,by kernel_rfl⟩
theorem kA:FO prog 165 2 2:=⟨_,_,0,underlying165,rfl,rfl,by kernel_rfl⟩
theorem oy:FO prog 165 3 3:=⟨_,_,0,underlying165,rfl,rfl,by kernel_rfl⟩
theorem mu:FO prog 165 4 4:=⟨_,_,0,underlying165,rfl,rfl,by kernel_rfl⟩
theorem tv:FO prog 165 5 5:=⟨_,_,0,underlying165,rfl,rfl,by kernel_rfl⟩
theorem JY:PL prog 165 [(0,1),(1,1),(2,1),(3,1),(4,1),(5,1)]:=⟨_,underlying165,by kernel_rfl⟩
theorem wo:TI prog 171 (.struct #[⟨ "at",3,0,false,"","babel/qgen",0⟩,⟨ "label",3,1,false,"","babel/qgen",8⟩]) (.agg #[I6 0,I6 0]) 2 16:=⟨underlying171,by kernel_rfl⟩
theorem y8:FO prog 171 0 0:=⟨_,_,0,underlying171,rfl,rfl,by kernel_rfl⟩
theorem Fp:FO prog 171 1 1:=⟨_,_,0,underlying171,rfl,rfl,by kernel_rfl⟩
theorem JX:PL prog 171 [(0,1),(1,1)]:=⟨_,underlying171,by kernel_rfl⟩
theorem G3:TI prog 175 (.pointer 177) (.pointer none) 1 8:=⟨underlying175,by kernel_rfl⟩
theorem Eb:TI prog 177 (.struct #[⟨ "addr",175,0,false,"","strings",0⟩,⟨ "buf",84,1,false,"","strings",8⟩]) (.agg #[.pointer none,.slice none 0 0]) 2 32:=⟨underlying177,by kernel_rfl⟩
theorem tu:FO prog 177 0 0:=⟨_,_,0,underlying177,rfl,rfl,by kernel_rfl⟩
theorem ox:FO prog 177 1 1:=⟨_,_,0,underlying177,rfl,rfl,by kernel_rfl⟩
theorem mQ:TI prog 192 (.slice 197) (.slice none 0 0) 1 24:=⟨underlying192,by kernel_rfl⟩
theorem Mw:TI prog 195 (.struct #[⟨ "l",192,0,false,"","babel/babelref08",0⟩,⟨ "at",3,1,false,"","babel/babelref08",24⟩,⟨ "off",3,2,false,"","babel/babelref08",32⟩,⟨ "err",32,3,false,"","babel/babelref08",40⟩]) (.agg #[.slice none 0 0,I6 0,I6 0,I6 0]) 4 48:=⟨underlying195,by kernel_rfl⟩
theorem fA:FO prog 195 0 0:=⟨_,_,0,underlying195,rfl,rfl,by kernel_rfl⟩
theorem bN:FO prog 195 1 1:=⟨_,_,0,underlying195,rfl,rfl,by kernel_rfl⟩
theorem gt:FO prog 195 3 3:=⟨_,_,0,underlying195,rfl,rfl,by kernel_rfl⟩
theorem JW:PL prog 195 [(0,1),(1,1),(2,1),(3,1)]:=⟨_,underlying195,by kernel_rfl⟩
theorem ea:TI prog 197 (.struct #[⟨ "Kind",3,0,false,"","",0⟩,⟨ "Text",9,1,false,"","",8⟩,⟨ "N",41,2,false,"","",24⟩,⟨ "Big",4,3,false,"","",28⟩,⟨ "At",3,4,false,"","",32⟩]) (.agg #[I6 0,Sg ⟨#[]⟩,I3 0,.bool false,I6 0]) 5 40:=⟨underlying197,by kernel_rfl⟩
theorem dO:FO prog 197 0 0:=⟨_,_,0,underlying197,rfl,rfl,by kernel_rfl⟩
theorem dz:FO prog 197 1 1:=⟨_,_,0,underlying197,rfl,rfl,by kernel_rfl⟩
theorem y7:FO prog 197 2 2:=⟨_,_,0,underlying197,rfl,rfl,by kernel_rfl⟩
theorem y6:FO prog 197 3 3:=⟨_,_,0,underlying197,rfl,rfl,by kernel_rfl⟩
theorem FZ:PL prog 197 [(0,1),(1,1),(2,1),(3,1),(4,1)]:=⟨_,underlying197,by kernel_rfl⟩
theorem kM:TI prog 207 (.struct #[⟨ "S",78,0,false,"","",0⟩,⟨ "T",53,24,false,"","",104⟩]) (.agg #[I3 0,I3 0,I3 0,I3 0,I3 0,I3 0,I3 0,I3 0,I3 0,I3 0,I3 0,I3 0,I3 0,I3 0,I3 0,I3 0,I3 0,I3 0,I3 0,I3 0,I3 0,I3 0,I6 0,I6 0,I6 0,I3 0]) 26 120:=⟨underlying207,by kernel_rfl⟩
theorem y5:FO prog 207 0 0:=⟨_,_,23,underlying207,rfl,rfl,by kernel_rfl⟩
theorem ow:FO prog 207 1 24:=⟨_,_,1,underlying207,rfl,rfl,by kernel_rfl⟩
theorem FY:PL prog 207 [(0,24),(24,2)]:=⟨_,underlying207,by kernel_rfl⟩
theorem gO:TI prog 219 (.struct #[⟨ "known",4,0,false,"","babel/qcode",0⟩,⟨ "d",4,1,false,"","babel/qcode",1⟩,⟨ "a",4,2,false,"","babel/qcode",2⟩,⟨ "b",4,3,false,"","babel/qcode",3⟩,⟨ "kind",3,4,false,"","babel/qcode",8⟩,⟨ "bits",3,5,false,"","babel/qcode",16⟩,⟨ "most",41,6,false,"","babel/qcode",24⟩]) (.agg #[.bool false,.bool false,.bool false,.bool false,I6 0,I6 0,I3 0]) 7 32:=⟨underlying219,by kernel_rfl⟩
theorem y4:FO prog 219 0 0:=⟨_,_,0,underlying219,rfl,rfl,by kernel_rfl⟩
theorem Fm:FO prog 219 1 1:=⟨_,_,0,underlying219,rfl,rfl,by kernel_rfl⟩
theorem Fl:FO prog 219 2 2:=⟨_,_,0,underlying219,rfl,rfl,by kernel_rfl⟩
theorem Fk:FO prog 219 3 3:=⟨_,_,0,underlying219,rfl,rfl,by kernel_rfl⟩
theorem y0:FO prog 219 4 4:=⟨_,_,0,underlying219,rfl,rfl,by kernel_rfl⟩
theorem yZ:FO prog 219 5 5:=⟨_,_,0,underlying219,rfl,rfl,by kernel_rfl⟩
theorem Fc:FT prog 219 5 5 3:=⟨_,_,underlying219,rfl,rfl,rfl⟩
theorem yY:FO prog 219 6 6:=⟨_,_,0,underlying219,rfl,rfl,by kernel_rfl⟩
theorem jB:PL prog 219 [(0,1),(1,1),(2,1),(3,1),(4,1),(5,1),(6,1)]:=⟨_,underlying219,by kernel_rfl⟩
theorem zC:TI prog 236 (.struct #[⟨ "I",118,0,false,"","",0⟩,⟨ "T",53,5,false,"","",40⟩]) (.agg #[I6 0,I6 0,I6 0,I6 0,I3 0,I6 0,I3 0]) 7 56:=⟨underlying236,by kernel_rfl⟩
theorem Fj:FO prog 236 0 0:=⟨_,_,4,underlying236,rfl,rfl,by kernel_rfl⟩
theorem Fi:FO prog 236 1 5:=⟨_,_,1,underlying236,rfl,rfl,by kernel_rfl⟩
theorem JV:PL prog 236 [(0,5),(5,2)]:=⟨_,underlying236,by kernel_rfl⟩
theorem gy:TI prog 241 (.struct #[⟨ "V",41,0,false,"","",0⟩,⟨ "At",41,1,false,"","",4⟩,⟨ "Ok",4,2,false,"","",8⟩]) (.agg #[I3 0,I3 0,.bool false]) 3 12:=⟨underlying241,by kernel_rfl⟩
theorem ou:FO prog 241 0 0:=⟨_,_,0,underlying241,rfl,rfl,by kernel_rfl⟩
theorem mt:FO prog 241 2 2:=⟨_,_,0,underlying241,rfl,rfl,by kernel_rfl⟩
theorem FX:PL prog 241 [(0,1),(1,1),(2,1)]:=⟨_,underlying241,by kernel_rfl⟩
theorem eT:TI prog 275 (.struct #[⟨ "Is",4,0,false,"","",0⟩,⟨ "D",4,1,false,"","",1⟩,⟨ "A",4,2,false,"","",2⟩,⟨ "B",4,3,false,"","",3⟩,⟨ "Signed",4,4,false,"","",4⟩,⟨ "Bits",3,5,false,"","",8⟩,⟨ "Most",41,6,false,"","",16⟩]) (.agg #[.bool false,.bool false,.bool false,.bool false,.bool false,I6 0,I3 0]) 7 24:=⟨underlying275,by kernel_rfl⟩
theorem Fh:FO prog 275 0 0:=⟨_,_,0,underlying275,rfl,rfl,by kernel_rfl⟩
theorem yX:FO prog 275 1 1:=⟨_,_,0,underlying275,rfl,rfl,by kernel_rfl⟩
theorem yW:FO prog 275 2 2:=⟨_,_,0,underlying275,rfl,rfl,by kernel_rfl⟩
theorem yU:FO prog 275 3 3:=⟨_,_,0,underlying275,rfl,rfl,by kernel_rfl⟩
theorem yT:FO prog 275 4 4:=⟨_,_,0,underlying275,rfl,rfl,by kernel_rfl⟩
theorem kz:FO prog 275 5 5:=⟨_,_,0,underlying275,rfl,rfl,by kernel_rfl⟩
theorem Fb:FT prog 275 5 5 3:=⟨_,_,underlying275,rfl,rfl,rfl⟩
theorem yS:FO prog 275 6 6:=⟨_,_,0,underlying275,rfl,rfl,by kernel_rfl⟩
theorem j9:PL prog 275 [(0,1),(1,1),(2,1),(3,1),(4,1),(5,1),(6,1)]:=⟨_,underlying275,by kernel_rfl⟩
theorem zB:TI prog 281 (.array 2 118) (.agg #[I6 0,I6 0,I6 0,I6 0,I3 0,I6 0,I6 0,I6 0,I6 0,I3 0]) 10 80:=⟨underlying281,by kernel_rfl⟩
theorem NZ:Cb prog 12:=⟨_,func12,by decide,rfl⟩
theorem qIO:Cb prog 15:=⟨_,func15,by decide,rfl⟩
theorem IN:Cb prog 19:=⟨_,func19,by decide,rfl⟩
theorem NY:Cb prog 21:=⟨_,func21,by decide,rfl⟩
theorem IM:Cb prog 24:=⟨_,func24,by decide,rfl⟩
theorem IL:Cb prog 25:=⟨_,func25,by decide,rfl⟩
theorem NX:Cb prog 26:=⟨_,func26,by decide,rfl⟩
theorem K8:Cb prog 27:=⟨_,func27,by decide,rfl⟩
theorem FD:Cb prog 28:=⟨_,func28,by decide,rfl⟩
theorem K7:Cb prog 29:=⟨_,func29,by decide,rfl⟩
theorem NW:Cb prog 30:=⟨_,func30,by decide,rfl⟩
theorem NV:Cb prog 31:=⟨_,func31,by decide,rfl⟩
theorem NU:Cb prog 32:=⟨_,func32,by decide,rfl⟩
theorem NT:Cb prog 33:=⟨_,func33,by decide,rfl⟩
theorem K6:Cb prog 34:=⟨_,func34,by decide,rfl⟩
theorem IK:Cb prog 35:=⟨_,func35,by decide,rfl⟩
theorem K5:Cb prog 36:=⟨_,func36,by decide,rfl⟩
theorem K4:Cb prog 37:=⟨_,func37,by decide,rfl⟩
theorem K3:Cb prog 38:=⟨_,func38,by decide,rfl⟩
theorem K1:Cb prog 39:=⟨_,func39,by decide,rfl⟩
theorem NS:Cb prog 40:=⟨_,func40,by decide,rfl⟩
theorem Di:Cb prog 41:=⟨_,func41,by decide,rfl⟩
theorem NR:Cb prog 42:=⟨_,func42,by decide,rfl⟩
theorem K0:Cb prog 43:=⟨_,func43,by decide,rfl⟩
theorem KZ:Cb prog 44:=⟨_,func44,by decide,rfl⟩
theorem NQ:Cb prog 48:=⟨_,func48,by decide,rfl⟩
theorem NP:Cb prog 49:=⟨_,func49,by decide,rfl⟩
theorem tG:Cb prog 50:=⟨_,func50,by decide,rfl⟩
theorem iM:Cb prog 51:=⟨_,func51,by decide,rfl⟩
theorem q_:Cb prog 52:=⟨_,func52,by decide,rfl⟩
theorem vC:Cb prog 53:=⟨_,func53,by decide,rfl⟩
theorem NO:Cb prog 54:=⟨_,func54,by decide,rfl⟩
theorem NN:Cb prog 55:=⟨_,func55,by decide,rfl⟩
theorem KY:Cb prog 59:=⟨_,func59,by decide,rfl⟩
theorem NM:Cb prog 62:=⟨_,func62,by decide,rfl⟩
theorem NL:Cb prog 65:=⟨_,func65,by decide,rfl⟩
theorem NK:Cb prog 66:=⟨_,func66,by decide,rfl⟩
theorem NJ:Cb prog 67:=⟨_,func67,by decide,rfl⟩
theorem NI:Cb prog 68:=⟨_,func68,by decide,rfl⟩
theorem NH:Cb prog 69:=⟨_,func69,by decide,rfl⟩
theorem NG:Cb prog 70:=⟨_,func70,by decide,rfl⟩
theorem Dh:Cb prog 71:=⟨_,func71,by decide,rfl⟩
theorem NF:Cb prog 72:=⟨_,func72,by decide,rfl⟩
theorem IJ:Cb prog 73:=⟨_,func73,by decide,rfl⟩
theorem NE:Cb prog 74:=⟨_,func74,by decide,rfl⟩
theorem Dg:Cb prog 75:=⟨_,func75,by decide,rfl⟩
theorem ND:Cb prog 76:=⟨_,func76,by decide,rfl⟩
theorem NC:Cb prog 77:=⟨_,func77,by decide,rfl⟩
theorem NB:Cb prog 78:=⟨_,func78,by decide,rfl⟩
theorem NA:Cb prog 81:=⟨_,func81,by decide,rfl⟩
theorem II:Cb prog 82:=⟨_,func82,by decide,rfl⟩
theorem Nz:Cb prog 83:=⟨_,func83,by decide,rfl⟩
theorem qZ:Cb prog 84:=⟨_,func84,by decide,rfl⟩
theorem qY:Cb prog 85:=⟨_,func85,by decide,rfl⟩
theorem lK:Cb prog 86:=⟨_,func86,by decide,rfl⟩
theorem KX:Cb prog 87:=⟨_,func87,by decide,rfl⟩
theorem IH:Cb prog 88:=⟨_,func88,by decide,rfl⟩
theorem IG:Cb prog 89:=⟨_,func89,by decide,rfl⟩
theorem KW:Cb prog 90:=⟨_,func90,by decide,rfl⟩
theorem Ny:Cb prog 91:=⟨_,func91,by decide,rfl⟩
theorem qz:Cb prog 92:=⟨_,func92,by decide,rfl⟩
theorem Nw:Cb prog 93:=⟨_,func93,by decide,rfl⟩
theorem IF:Cb prog 94:=⟨_,func94,by decide,rfl⟩
theorem AG:Cb prog 95:=⟨_,func95,by decide,rfl⟩
theorem Df:Cb prog 96:=⟨_,func96,by decide,rfl⟩
theorem FC:Cb prog 97:=⟨_,func97,by decide,rfl⟩
theorem Nv:Cb prog 98:=⟨_,func98,by decide,rfl⟩
theorem Nu:Cb prog 99:=⟨_,func99,by decide,rfl⟩
theorem L5:Cb prog 100:=⟨_,func100,by decide,rfl⟩
theorem L0:Cb prog 101:=⟨_,func101,by decide,rfl⟩
theorem LZ:Cb prog 108:=⟨_,func108,by decide,rfl⟩
theorem iS:Cb prog 109:=⟨_,func109,by decide,rfl⟩
theorem Dq:Cb prog 110:=⟨_,func110,by decide,rfl⟩
theorem nL:Cb prog 111:=⟨_,func111,by decide,rfl⟩
theorem zm:Cb prog 112:=⟨_,func112,by decide,rfl⟩
theorem GH:Cb prog 115:=⟨_,func115,by decide,rfl⟩
theorem LY:Cb prog 116:=⟨_,func116,by decide,rfl⟩
theorem LX:Cb prog 118:=⟨_,func118,by decide,rfl⟩
theorem LW:Cb prog 119:=⟨_,func119,by decide,rfl⟩
theorem LV:Cb prog 120:=⟨_,func120,by decide,rfl⟩
theorem LU:Cb prog 121:=⟨_,func121,by decide,rfl⟩
theorem vE:Cb prog 122:=⟨_,func122,by decide,rfl⟩
theorem Dp:Cb prog 123:=⟨_,func123,by decide,rfl⟩
theorem GG:Cb prog 124:=⟨_,func124,by decide,rfl⟩
theorem LT:Cb prog 125:=⟨_,func125,by decide,rfl⟩
theorem Do:Cb prog 126:=⟨_,func126,by decide,rfl⟩
theorem vD:Cb prog 127:=⟨_,func127,by decide,rfl⟩
theorem GE:Cb prog 128:=⟨_,func128,by decide,rfl⟩
theorem Dn:Cb prog 129:=⟨_,func129,by decide,rfl⟩
theorem LS:Cb prog 130:=⟨_,func130,by decide,rfl⟩
theorem LR:Cb prog 131:=⟨_,func131,by decide,rfl⟩
theorem GD:Cb prog 132:=⟨_,func132,by decide,rfl⟩
theorem LQ:Cb prog 133:=⟨_,func133,by decide,rfl⟩
theorem LP:Cb prog 134:=⟨_,func134,by decide,rfl⟩
theorem GC:Cb prog 135:=⟨_,func135,by decide,rfl⟩
theorem Dm:Cb prog 136:=⟨_,func136,by decide,rfl⟩
theorem LO:Cb prog 138:=⟨_,func138,by decide,rfl⟩
theorem LN:Cb prog 139:=⟨_,func139,by decide,rfl⟩
theorem GB:Cb prog 141:=⟨_,func141,by decide,rfl⟩
theorem LM:Cb prog 142:=⟨_,func142,by decide,rfl⟩
theorem LL:Cb prog 147:=⟨_,func147,by decide,rfl⟩
theorem LK:Cb prog 148:=⟨_,func148,by decide,rfl⟩
theorem GA:Cb prog 149:=⟨_,func149,by decide,rfl⟩
theorem LJ:Cb prog 150:=⟨_,func150,by decide,rfl⟩
theorem LI:Cb prog 151:=⟨_,func151,by decide,rfl⟩
theorem LH:Cb prog 152:=⟨_,func152,by decide,rfl⟩
theorem Gz:Cb prog 153:=⟨_,func153,by decide,rfl⟩
theorem LG:Cb prog 154:=⟨_,func154,by decide,rfl⟩
theorem zl:Cb prog 155:=⟨_,func155,by decide,rfl⟩
theorem LF:Cb prog 156:=⟨_,func156,by decide,rfl⟩
theorem Gy:Cb prog 157:=⟨_,func157,by decide,rfl⟩
theorem LE:Cb prog 158:=⟨_,func158,by decide,rfl⟩
theorem LD:Cb prog 159:=⟨_,func159,by decide,rfl⟩
theorem LC:Cb prog 160:=⟨_,func160,by decide,rfl⟩
theorem LB:Cb prog 161:=⟨_,func161,by decide,rfl⟩
theorem LA:Cb prog 162:=⟨_,func162,by decide,rfl⟩
theorem Lz:Cb prog 163:=⟨_,func163,by decide,rfl⟩
theorem Gx:Cb prog 164:=⟨_,func164,by decide,rfl⟩
theorem Gw:Cb prog 165:=⟨_,func165,by decide,rfl⟩
theorem Gv:Cb prog 166:=⟨_,func166,by decide,rfl⟩
theorem qA:Cb prog 167:=⟨_,func167,by decide,rfl⟩
theorem Gu:Cb prog 168:=⟨_,func168,by decide,rfl⟩
theorem Dl:Cb prog 169:=⟨_,func169,by decide,rfl⟩
theorem Ly:Cb prog 170:=⟨_,func170,by decide,rfl⟩
theorem Lw:Cb prog 171:=⟨_,func171,by decide,rfl⟩
theorem Lv:Cb prog 174:=⟨_,func174,by decide,rfl⟩
theorem jF:Cb prog 175:=⟨_,func175,by decide,rfl⟩
theorem Gt:Cb prog 176:=⟨_,func176,by decide,rfl⟩
theorem Lu:Cb prog 179:=⟨_,func179,by decide,rfl⟩
theorem Lt:Cb prog 180:=⟨_,func180,by decide,rfl⟩
theorem Ls:Cb prog 182:=⟨_,func182,by decide,rfl⟩
theorem Gs:Cb prog 183:=⟨_,func183,by decide,rfl⟩
theorem Lr:Cb prog 184:=⟨_,func184,by decide,rfl⟩
theorem Ln:Cb prog 185:=⟨_,func185,by decide,rfl⟩
theorem Gr:Cb prog 186:=⟨_,func186,by decide,rfl⟩
theorem Lm:Cb prog 187:=⟨_,func187,by decide,rfl⟩
theorem Gq:Cb prog 188:=⟨_,func188,by decide,rfl⟩
theorem Ll:Cb prog 189:=⟨_,func189,by decide,rfl⟩
theorem Gp:Cb prog 190:=⟨_,func190,by decide,rfl⟩
theorem kg:Cb prog 191:=⟨_,func191,by decide,rfl⟩
theorem Gn:Cb prog 192:=⟨_,func192,by decide,rfl⟩
theorem Gm:Cb prog 196:=⟨_,func196,by decide,rfl⟩
theorem Dk:Cb prog 197:=⟨_,func197,by decide,rfl⟩
theorem Gl:Cb prog 198:=⟨_,func198,by decide,rfl⟩
theorem Lk:Cb prog 199:=⟨_,func199,by decide,rfl⟩
theorem Lj:Cb prog 200:=⟨_,func200,by decide,rfl⟩
theorem Li:Cb prog 201:=⟨_,func201,by decide,rfl⟩
theorem Lh:Cb prog 202:=⟨_,func202,by decide,rfl⟩
theorem Lg:Cb prog 203:=⟨_,func203,by decide,rfl⟩
theorem Lf:Cb prog 204:=⟨_,func204,by decide,rfl⟩
theorem Le:Cb prog 205:=⟨_,func205,by decide,rfl⟩
theorem Ld:Cb prog 209:=⟨_,func209,by decide,rfl⟩
theorem Lc:Cb prog 210:=⟨_,func210,by decide,rfl⟩
theorem Dj:Cb prog 212:=⟨_,func212,by decide,rfl⟩
theorem K_:Cb prog 213:=⟨_,func213,by decide,rfl⟩
theorem K9:Cb prog 232:=⟨_,func232,by decide,rfl⟩
end Go.Proofs.YtedmdgbmdplifaaGreat
namespace Go.Proofs.YtedmdgbmdplifaaGreat
open Go.RowKit Tryz
section
end
theorem eo:KeyLaw prog 9 fG:=EV underlying9
abbrev oW(n:Int):Prop:=0≤n∧n<4294967296
mutual
def VX(fs:List Tf):Tx→Prop
 | .mk k n nm _ kids=>oW n∧kids.length≤1000000∧(k=4→1≤kids.length)∧(k=6→1≤kids.length∧∀a,(I_ nm a).isSome=true)∧(k=7→2≤kids.length∧∀a b,(IP nm a b).isSome=true)∧
   (k≠1→k≠2→k≠4→k≠5→k≠6→k≠7→∃f,cK fs nm=some f∧kids.length≤f.ps.length)∧IZ fs kids
def IZ(fs:List Tf):List Tx→Prop
 | []=>True
 | t::r=>VX fs t∧IZ fs r
end
mutual
def VY(fs:List Tf):Ty→Prop
 | .mk k _ _ es _ body _ els=>(1≤es.length∧es.length≤1000000∧(k=3→2≤es.length)∧IZ fs es)∧(body.length≤1000000∧GM fs body)∧(els.length≤1000000∧GM fs els)
def GM(fs:List Tf):List Ty→Prop
 | []=>True
 | t::r=>VY fs t∧GM fs r
end
def VF(fs:List Tf):Prop:=∀f∈fs,f.ps.length≤1000000∧f.body.length≤1000000∧GM fs f.body
def okVs(vs:Vs):Prop:=∀p∈vs,oW p.2
structure okMs(s:Ms):Prop where
 inp:∀x∈s.inp,oW x
 mem:∀i,oW (s.mem i)
 fuel:s.fuel<9223372036854775808
 out:(s.out.length:Int)+max s.fuel 0≤1000000000000
theorem okVs.get{vs:Vs}(h:okVs vs)(x:Ba):oW (oL vs x):=by
 unfold oL;cases hf:vs.find? (fun p=>decide (p.1=x))with
 | none=>exact⟨Int.le_refl _,by show(0:Int)<4294967296;decide⟩
 | some p=>exact h p (List.mem_of_find?_eq_some hf)
theorem okVs.put{vs:Vs}(h:okVs vs)(x:Ba){n:Int}(hn:oW n):okVs (fC vs x n):=fun p hp=>by
 rcases List.mem_cons.1 hp with rfl|hp
 ·exact hn
 ·exact h p (List.mem_filter.1 hp).1
theorem okVs.bind:∀{vs:Vs}(ps:List Ba)(al:List Int),okVs vs→(∀a∈al,oW a)→okVs (gS vs ps al)
 | vs,p::ps,a::al,h,ha=>okVs.bind ps al (h.put p (ha a (by simp))) fun b hb=>ha b (by simp [hb])
 | vs,[],al,h,_=>by unfold gS;exact h
 | vs,p::ps,[],h,_=>by unfold gS;exact h
theorem pj:oW 0:=⟨Int.le_refl _,by show(0:Int)<4294967296;decide⟩
theorem pi(b:Bool):oW (tr b):=by
 cases b
 ·exact pj
 ·exact⟨by decide,by decide⟩
theorem ph(n:Int):oW (wU n):=jO n
theorem sZ(o:BinOp)(a b:Int)(h:∃z,bits o .u32 a b=IntKind.u32.wrap z):oW (bits o .u32 a b):=by
 obtain⟨z,hz⟩:=h;rw [hz];exact jO z
theorem Ki{op:Ba}{a:Int}(ha:oW a):oW ((I_ op a).getD 0):=by
 unfold I_;split
 ·exact ph _
 ·split
  ·show 0≤4294967295-a∧4294967295-a<4294967296;have h1:=ha.1;have h2:=ha.2;omega
  ·split
   ·exact pi _
   ·exact pj
theorem HH{a:Int}(ha:oW a)(n:Nat):oW (a/2^n):=by
 have h0:(0:Int)<2^n:=Int.pow_pos (by decide);refine⟨Int.ediv_nonneg ha.1 (Int.le_of_lt h0),Int.lt_of_le_of_lt (Int.ediv_le_self _ ha.1) ha.2⟩
theorem Kj{op:Ba}{a b:Int}(ha:oW a)(hb:oW b):oW ((IP op a b).getD 0):=by
 have hq:oW (if b=0 then 0 else a/b):=by
  split
  ·exact pj
  ·exact⟨Int.ediv_nonneg ha.1 hb.1,Int.lt_of_le_of_lt (Int.ediv_le_self _ ha.1) ha.2⟩
 have hr:oW (if b=0 then a else a%b):=by
  split
  ·exact ha
  ·rename_i h;have h1:=Int.emod_nonneg a h;have h2:=Int.emod_lt_of_pos a (b:=b) (by have:=hb.1;omega);have h3:=hb.2;exact⟨h1,by omega⟩
 unfold IP;by_cases h0:op=fh
 ·rw [ak h0];exact ph _
 rw [ac h0];by_cases h1:op=ep
 ·rw [ak h1];exact ph _
 rw [ac h1];by_cases h2:op=fN
 ·rw [ak h2];exact ph _
 rw [ac h2];by_cases h3:op=jI
 ·rw [ak h3];exact hq
 rw [ac h3];by_cases h4:op=kO
 ·rw [ak h4];exact hr
 rw [ac h4];by_cases h5:op=eB
 ·rw [ak h5];exact(show oW (bits .and .u32 a b)from sZ .and a b ⟨_,J⟩)
 rw [ac h5];by_cases h6:op=iW
 ·rw [ak h6];exact(show oW (bits .or .u32 a b)from sZ .or a b ⟨_,J⟩)
 rw [ac h6];by_cases h7:op=eD
 ·rw [ak h7];exact(show oW (bits .xor .u32 a b)from sZ .xor a b ⟨_,J⟩)
 rw [ac h7];by_cases h8:op=fM
 ·rw [ak h8];exact ph _
 rw [ac h8];by_cases h9:op=fY
 ·rw [ak h9];exact HH ha _
 rw [ac h9];by_cases h10:op=kP
 ·rw [ak h10];exact pi _
 rw [ac h10];by_cases h11:op=lO
 ·rw [ak h11];exact pi _
 rw [ac h11];by_cases h12:op=lP
 ·rw [ak h12];exact pi _
 rw [ac h12];by_cases h13:op=mZ
 ·rw [ak h13];exact pi _
 rw [ac h13];by_cases h14:op=lQ
 ·rw [ak h14];exact pi _
 rw [ac h14];by_cases h15:op=lN
 ·rw [ak h15];exact pi _
 rw [ac h15];exact pj
structure Kp(s s':Ms):Prop where
 ok:okMs s'
 sum:(s'.out.length:Int)+max s'.fuel 0≤(s.out.length:Int)+max s.fuel 0
 fl:s'.fuel≤s.fuel
 inp:∃k,s'.inp=s.inp.drop k
theorem Kp.refl{s:Ms}(h:okMs s):Kp s s:=⟨h,Int.le_refl _,Int.le_refl _,0,by simp⟩
theorem Kp.trans{a b c:Ms}(h:Kp a b)(h':Kp b c):Kp a c:=⟨h'.ok,Int.le_trans h'.sum h.sum,Int.le_trans h'.fl h.fl,by
 obtain⟨k,hk⟩:=h.inp;obtain⟨j,hj⟩:=h'.inp;exact⟨k+j,by rw [hj,hk,List.drop_drop]⟩⟩
theorem Kp.pay{s:Ms}(h:okMs s)(hf:¬s.fuel≤0):Kp s {s with fuel:=s.fuel-1}:=⟨⟨h.inp,h.mem,by have:=h.fuel;dsimp only;omega,by have:=h.out;dsimp only;omega⟩,by dsimp only;omega,by dsimp only;omega,0,by simp⟩
structure EvOk(fs:List Tf)(g:Nat):Prop where
 x:∀d vs t s v s',VX fs t→okVs vs→okMs s→ju g fs d vs t s=some (.ok v s')→oW v∧Kp s s'
 k:∀d vs acc l s ks s',IZ fs l→okVs vs→okMs s→(∀a∈acc,oW a)→jM g fs d vs acc l s=some (.ok ks s')→(∀a∈ks,oW a)∧ks.length=acc.length+l.length∧Kp s s'
 c:∀d f al s v s',f∈fs→(∀a∈al,oW a)→okMs s→qV g fs d f al s=some (.ok v s')→oW v∧Kp s s'
 b:∀d vs l s p s',GM fs l→okVs vs→okMs s→kQ g fs d vs l s=some (.ok p s')→okVs p.1∧(∀x,p.2=some x→oW x)∧Kp s s'
 s:∀d vs t s p s',VY fs t→okVs vs→okMs s→nQ g fs d vs t s=some (.ok p s')→okVs p.1∧(∀x,p.2=some x→oW x)∧Kp s s'
 w:∀d vs e l v s p s',VX fs e→GM fs l→okVs vs→okMs s→qU g fs d vs e l v s=some (.ok p s')→okVs p.1∧(∀x,p.2=some x→oW x)∧Kp s s'
theorem tl{ks:List Int}(h:∀a∈ks,oW a)(i:Nat):oW (ks.getD i 0):=by
 rw [List.getD_eq_getElem?_getD];cases hk:ks[i]? with
 | none=>exact pj
 | some a=>exact h a (cO hk)
theorem jc{fs:List Tf}{x:Ba}{f:Tf}(h:cK fs x=some f):f∈fs:=List.mem_of_find?_eq_some h
theorem jD{fs:List Tf}(hF:VF fs):∀g,EvOk fs g
 | 0=>⟨fun _ _ _ _ _ _ _ _ _ h=>by simp [ju]at h,fun _ _ _ _ _ _ _ _ _ _ _ h=>by simp [jM]at h,fun _ _ _ _ _ _ _ _ _ h=>by simp [qV]at h,fun _ _ _ _ _ _ _ _ _ h=>by simp [kQ]at h,fun _ _ _ _ _ _ _ _ _ h=>by simp [nQ]at h,fun _ _ _ _ _ _ _ _ _ _ _ _ h=>by simp [qU]at h⟩
 | g+1=>by
  have ih:=jD hF g;refine⟨fun d vs t s v s' ht hv hs h=> ?_,fun d vs acc l s ks s' hl hv hs ha h=> ?_,fun d f al s v s' hf ha hs h=> ?_,fun d vs l s p s' hl hv hs h=> ?_,fun d vs t s p s' ht hv hs h=> ?_,fun d vs e l v s p s' he hl hv hs h=> ?_⟩
  · -- an expression
   unfold ju at h;by_cases hfu:s.fuel≤0
   ·rw [ak hfu]at h;simp at h
   ·rw [ac hfu]at h;have hp:=Kp.pay hs hfu;cases hk:jM g fs d vs [] t.kids {s with fuel:=s.fuel-1}with
    | none=>rw [hk]at h;simp at h
    | some r=>
     cases r with
     | err e=>rw [hk]at h;simp at h
     | ok ks s1=>
      rw [hk]at h;dsimp only at h;have hkids:IZ fs t.kids:=by cases t;exact ht.2.2.2.2.2.2
      obtain⟨k1,k2,k3⟩:=ih.k d vs [] t.kids _ ks s1 hkids hv hp.ok (by simp) hk;have k4:=hp.trans k3;split at h
      ·simp only [Option.some.injEq,Re.ok.injEq]at h;obtain⟨rfl,rfl⟩:=h;exact⟨by cases t;exact ht.1,k4⟩
      ·split at h
       ·simp only [Option.some.injEq,Re.ok.injEq]at h;obtain⟨rfl,rfl⟩:=h;exact⟨hv.get _,k4⟩
       ·split at h
        ·simp only [Option.some.injEq,Re.ok.injEq]at h;obtain⟨rfl,rfl⟩:=h;exact⟨k4.ok.mem _,k4⟩
        ·split at h
         ·split at h
          ·simp only [Option.some.injEq,Re.ok.injEq]at h;obtain⟨rfl,rfl⟩:=h;exact⟨pj,k4⟩
          ·rename_i a r hi;simp only [Option.some.injEq,Re.ok.injEq]at h;obtain⟨rfl,rfl⟩:=h;refine⟨k4.ok.inp a (by rw [hi];simp),k4.trans ⟨⟨fun x hx=>k4.ok.inp x (by rw [hi];simp [hx]),k4.ok.mem,k4.ok.fuel,k4.ok.out⟩,Int.le_refl _,Int.le_refl _,1,by rw [hi];rfl⟩⟩
         ·split at h
          ·simp only [Option.some.injEq,Re.ok.injEq]at h;obtain⟨rfl,rfl⟩:=h;exact⟨Ki (tl k1 0),k4⟩
          ·split at h
           ·simp only [Option.some.injEq,Re.ok.injEq]at h;obtain⟨rfl,rfl⟩:=h;exact⟨Kj (tl k1 0) (tl k1 1),k4⟩
           ·split at h
            ·simp at h
            ·rename_i f hff;obtain⟨c1,c2⟩:=ih.c d f ks s1 v s' (jc hff) k1 k4.ok h;exact⟨c1,k4.trans c2⟩
  · -- parts
   cases l with
   | nil=>
    simp only [jM,Option.some.injEq,Re.ok.injEq]at h;obtain⟨rfl,rfl⟩:=h;exact⟨ha,by simp,Kp.refl hs⟩
   | cons t r=>
    unfold jM at h;cases hx:ju g fs d vs t s with
    | none=>rw [hx]at h;simp at h
    | some q=>
     cases q with
     | err e=>rw [hx]at h;simp at h
     | ok v s1=>
      rw [hx]at h;dsimp only at h;obtain⟨x1,x2⟩:=ih.x d vs t s v s1 hl.1 hv hs hx;obtain⟨k1,k2,k3⟩:=ih.k d vs (acc++ [v]) r s1 ks s' hl.2 hv x2.ok (fun a hm=>by
       rcases List.mem_append.1 hm with hm|hm
       ·exact ha a hm
       ·rw [List.mem_singleton.1 hm];exact x1) h
      exact⟨k1,by rw [k2];simp;omega,x2.trans k3⟩
  · -- a call
   unfold qV at h;split at h
   ·simp at h
   ·cases hb:kQ g fs (d+1) (gS [] f.ps al) f.body s with
    | none=>rw [hb]at h;simp at h
    | some q=>
     cases q with
     | err e=>rw [hb]at h;simp at h
     | ok p s1=>
      obtain⟨vs1,r⟩:=p;rw [hb]at h;simp only [Option.some.injEq,Re.ok.injEq]at h;obtain⟨rfl,rfl⟩:=h;obtain⟨b1,b2,b3⟩:=ih.b (d+1) _ f.body s _ s1 (hF f hf).2.2 (okVs.bind _ _ (fun p hp=>by simp at hp) ha) hs hb;refine⟨?_,b3⟩;cases r with
      | none=>exact pj
      | some x=>exact b2 x rfl
  · -- statements
   cases l with
   | nil=>
    simp only [kQ,Option.some.injEq,Re.ok.injEq]at h;obtain⟨rfl,rfl⟩:=h;exact⟨hv,fun x hx=>by simp at hx,Kp.refl hs⟩
   | cons t r=>
    unfold kQ at h;cases hx:nQ g fs d vs t s with
    | none=>rw [hx]at h;simp at h
    | some q=>
     cases q with
     | err e=>rw [hx]at h;simp at h
     | ok q s1=>
      obtain⟨vs1,ro⟩:=q;obtain⟨x1,x2,x3⟩:=ih.s d vs t s _ s1 hl.1 hv hs hx;rw [hx]at h;cases ro with
      | some x=>
       simp only [Option.some.injEq,Re.ok.injEq]at h;obtain⟨rfl,rfl⟩:=h;exact⟨x1,x2,x3⟩
      | none=>
       dsimp only at h;obtain⟨b1,b2,b3⟩:=ih.b d vs1 r s1 p s' hl.2 x1 x3.ok h;exact⟨b1,b2,x3.trans b3⟩
  · -- a statement
   unfold nQ at h;by_cases hfu:s.fuel≤0
   ·rw [ak hfu]at h;simp at h
   ·rw [ac hfu]at h;have hp:=Kp.pay hs hfu;obtain⟨kd,nm,ve,es,vb,body,vl,els⟩:=t;obtain⟨⟨e1,e2,e3,e4⟩,⟨b1,b2⟩,c1,c2⟩:=ht;cases es with
    | nil=>simp [Ty.es]at h
    | cons e r=>
     simp only [Ty.es]at h;cases hx:ju g fs d vs e {s with fuel:=s.fuel-1}with
     | none=>rw [hx]at h;simp at h
     | some q=>
      cases q with
      | err z=>rw [hx]at h;simp at h
      | ok v s1=>
       rw [hx]at h;dsimp only at h;obtain⟨x1,x2⟩:=ih.x d vs e _ v s1 e4.1 hv hp.ok hx;have x3:=hp.trans x2;split at h
       ·simp only [Option.some.injEq,Re.ok.injEq]at h;obtain⟨rfl,rfl⟩:=h;exact⟨hv.put _ x1,fun x hx=>by simp at hx,x3⟩
       ·split at h
        ·cases r with
         | nil=>simp at h
         | cons e5 r=>
          dsimp only at h;cases hx2:ju g fs d vs e5 s1 with
          | none=>rw [hx2]at h;simp at h
          | some q=>
           cases q with
           | err z=>rw [hx2]at h;simp at h
           | ok w s2=>
            rw [hx2]at h;simp only [Option.some.injEq,Re.ok.injEq]at h;obtain⟨rfl,rfl⟩:=h;obtain⟨y1,y2⟩:=ih.x d vs e5 s1 w s2 e4.2.1 hv x3.ok hx2;have y3:=x3.trans y2;refine⟨hv,fun x hx=>by simp at hx,y3.trans ⟨⟨y3.ok.inp,fun i=> ?_,y3.ok.fuel,y3.ok.out⟩,Int.le_refl _,Int.le_refl _,0,by simp⟩⟩;dsimp only [B0];split
            ·exact y1
            ·exact y3.ok.mem i
        ·split at h
         ·obtain⟨z1,z2,z3⟩:=ih.b d vs (if v=0 then els else body) s1 p s' (by split<;>assumption) hv x3.ok (by simpa only [Ty.els,Ty.body]using h);exact⟨z1,z2,x3.trans z3⟩
         ·split at h
          ·obtain⟨z1,z2,z3⟩:=ih.w d vs e body v s1 p s' e4.1 b2 hv x3.ok (by simpa only [Ty.body]using h);exact⟨z1,z2,x3.trans z3⟩
          ·split at h
           ·simp only [Option.some.injEq,Re.ok.injEq]at h;obtain⟨rfl,rfl⟩:=h;exact⟨hv,fun x hx=>by simp at hx;rw [←hx];exact x1,x3⟩
           ·split at h
            ·simp only [Option.some.injEq,Re.ok.injEq]at h;obtain⟨rfl,rfl⟩:=h;have x4:=x2.sum;have x5:=hs.out;dsimp only at x4;obtain⟨k,hk⟩:=x3.inp;exact⟨hv,fun x hx=>by simp at hx,⟨⟨x3.ok.inp,x3.ok.mem,x3.ok.fuel,by dsimp only;rw [bQ,dP];omega⟩,by dsimp only;rw [bQ,dP];omega,x3.fl,k,hk⟩⟩
            ·simp only [Option.some.injEq,Re.ok.injEq]at h;obtain⟨rfl,rfl⟩:=h;exact⟨hv,fun x hx=>by simp at hx,x3⟩
  · -- a loop
   unfold qU at h;split at h
   ·simp only [Option.some.injEq,Re.ok.injEq]at h;obtain⟨rfl,rfl⟩:=h;exact⟨hv,fun x hx=>by simp at hx,Kp.refl hs⟩
   ·cases hb:kQ g fs d vs l s with
    | none=>rw [hb]at h;simp at h
    | some q=>
     cases q with
     | err z=>rw [hb]at h;simp at h
     | ok q s1=>
      obtain⟨vs1,ro⟩:=q;obtain⟨x1,x2,x3⟩:=ih.b d vs l s _ s1 hl hv hs hb;rw [hb]at h;cases ro with
      | some x=>
       simp only [Option.some.injEq,Re.ok.injEq]at h;obtain⟨rfl,rfl⟩:=h;exact⟨x1,x2,x3⟩
      | none=>
       dsimp only at h;cases hx:ju g fs d vs1 e s1 with
       | none=>rw [hx]at h;simp at h
       | some q=>
        cases q with
        | err z=>rw [hx]at h;simp at h
        | ok w s2=>
         rw [hx]at h;dsimp only at h;obtain⟨y1,y2⟩:=ih.x d vs1 e s1 w s2 he x1 x3.ok hx;have y3:=x3.trans y2;obtain⟨z1,z2,z3⟩:=ih.w d vs1 e l w s2 p s' he hl x1 y3.ok h;exact⟨z1,z2,y3.trans z3⟩
end Go.Proofs.YtedmdgbmdplifaaGreat
namespace Go.Proofs.YtedmdgbmdplifaaGreat
open Go.ChangeShapes Go.WideShapes Go.ChangeAt Go.RowKit Tryz
abbrev Kd(n:Int):Prop:= -9223372036854775808≤n∧n<9223372036854775808
theorem ti{n:Int}(h:(Lit.int .i64 n).wf=true):Kd n:=by
 simp only [Lit.wf,Bool.and_eq_true,decide_eq_true_eq]at h;have h1:IntKind.i64.min= -9223372036854775808:=by decide
 have h2:IntKind.i64.max=9223372036854775807:=by decide
 rw [h1,h2]at h;exact⟨h.1,by omega⟩
section
end
end Go.Proofs.YtedmdgbmdplifaaGreat
namespace Go.Proofs.YtedmdgbmdplifaaGreat
open Go.RowKit Tryz
section
end
def Ja(f:Tf):Value:= .agg (oE f).toArray
def Fu(fs:List Tf):Asn:=⟨fun w F=>∀f∈fs,TfIn w F f,fun h hs f hf=>(h f hf).stable hs⟩
theorem KJ{fs:List Tf}{f:Tf}(hf:f∈fs):∀w G,(Fu fs).pred w G→(∀b,G b→b<w.heap.size)→∃G',(DK f).pred w G'∧∀b,G' b→G b:=fun w G h _=>⟨G,h f hf,fun _ hb=>hb⟩
section
end
def vW{α:Type}(p:α→Bool)(l:List α):Int:=match l.findIdx? p with
 | some i=>(i:Int)
 | none=> -1
theorem pI{α:Type}{p:α→Bool}{l:List α}{k:Nat}{x:α}(hk:l[k]?=some x)(hp:p x=true)(hb:∀i y,i<k→l[i]?=some y→p y=false):vW p l=(k:Int):=by
 have h:l.findIdx? p=some k:=by
  rw [List.findIdx?_eq_some_iff_getElem];obtain⟨h1,h2⟩:=cA.1 hk;refine⟨h1,by rw [h2];exact hp,fun j hj=> ?_⟩;have:=hb j l[j] hj (bO (by omega));simp [this]
 unfold vW;rw [h]
theorem pH{α:Type}{p:α→Bool}{l:List α}(hb:∀i y,i<l.length→l[i]?=some y→p y=false):vW p l= -1:=by
 have h:l.findIdx? p=none:=by
  rw [List.findIdx?_eq_none_iff];intro x hx;obtain⟨i,hi,rfl⟩:=List.mem_iff_getElem.1 hx;exact hb i _ hi (bO hi)
 unfold vW;rw [h]
theorem Cj(v:SV)(l:List Ba)(hl:l.length≤1000000)(n:Nat)(p:Ba→Bool)(hcb:Cb prog n)(hs:∀s∈l,Spec prog n [Sg s] [] [] (X:=Unit) (fun _=>True) (fun _=> .bool (p s)) (fun _=> []) (fun _=> [])):
  aN prog 154 [sv v,.func (.func n) #[] #[]] [] [sl 1 eS (sv v) l] (I6 (vW p l)) []:=by
 refine ay func154 J ntmps154 J fun w0 M H=>am (ao J (aa (aR (ab J (aJ (aZ underlying46 J (aP (k:=0) J)) (ab J (aa (aC ?_))))))))
 refine bC (X:=Nat) (fun k=>k≤l.length∧∀i y,i<k→l[i]?=some y→p y=false) (fun k=> [(0,sv v),(1,.func (.func n) #[] #[]),(7,I6 (l.length:Int)),(8,I6 (k:Int))]) (fun k=> []) (fun k=> [(0,sl 1 eS (sv v) l)]) (fun k=>l.length-k) 0 ⟨bE _,fun i y hi=>by omega⟩ J J J (fun k hk0=> ?_);obtain⟨n1,n2⟩:=hk0;refine am (ap J J cG (aa (aT (ai J (fun h1=> ?_) (fun h1=> ?_)))))
 ·(try simp only [aX]at h1);have hk:k<l.length:=by omega
  obtain⟨x,hx⟩:∃x,l[k]?=some x:=⟨_,bO hk⟩
  refine az (aT (aC (am (ab J (ao J (aw J (ab J (ab J (ab J (aJ (aQ (j:=k) underlying46 t9 J J (aP (k:=0) J) (by first|rfl|omega) (by first|omega|(simp;done)|(simp;omega))) (aJ (ag t9 J J (ci (aP (k:=0) J) (by intro _;rfl) hx (by rfl))) (ae (xs:= [.tmp 15]) (hs x (cO hx)) hcb [] [] [] (fun _ _=>aa (ai J (fun h2=> ?_) (fun h2=> ?_)))))))))))))))
  ·have hq:p x=true:=h2;refine am (ab J (ao J (aa (ar (aG () O J (bU (aD J)) (by rw [pI hx hq n2]) [] [] J J J)))))
  ·have hq:p x=false:=h2;refine az (aj (ap J J aY (ab J (aa ?_))));refine aI (k+1) ⟨⟨by omega,fun i y hi hy=>by rcases Nat.lt_succ_iff_lt_or_eq.1 hi with h|h;exact n2 i y h hy;rw [h,hx]at hy;rw [←dv hy];exact hq⟩,by omega⟩ J J J
 ·(try simp only [aX]at h1);have hk:k=l.length:=by omega
  subst hk;refine bF (am (ao J (aa (ar (aG () O J (bU (aD J)) (by rw [pH n2]) [] [] J J J)))))
theorem xe(v:SV)(l:List Ba)(hl:l.length≤1000000)(s:Ba):
  aN prog 184 [sv v,Sg s] [] [sl 1 eS (sv v) l] (I6 (vW (fun x=>decide (s=x)) l)) []:=by
 refine ay func184 J ntmps184 J fun w0 M H=>am (ao J (aa (aR (ab J (aJ (aZ underlying46 J (aP (k:=0) J)) (ab J (aa (aC ?_))))))))
 refine bC (X:=Nat) (fun k=>k≤l.length∧∀i y,i<k→l[i]?=some y→(fun x=>decide (s=x)) y=false) (fun k=> [(0,sv v),(1,Sg s),(7,I6 (l.length:Int)),(8,I6 (k:Int))]) (fun k=> []) (fun k=> [(0,sl 1 eS (sv v) l)]) (fun k=>l.length-k) 0 ⟨bE _,fun i y hi=>by omega⟩ J J J (fun k hk0=> ?_);obtain⟨n1,n2⟩:=hk0;refine am (ap J J cG (aa (aT (ai J (fun h1=> ?_) (fun h1=> ?_)))))
 ·(try simp only [aX]at h1);have hk:k<l.length:=by omega
  obtain⟨x,hx⟩:∃x,l[k]?=some x:=⟨_,bO hk⟩
  refine az (aT (aC (am (ab J (ao J (aw J (ab J (ab J (ab J (aJ (aQ (j:=k) underlying46 t9 J J (aP (k:=0) J) (by first|rfl|omega) (by first|omega|(simp;done)|(simp;omega))) (aJ (ag t9 J J (ci (aP (k:=0) J) (by intro _;rfl) hx (by rfl))) (ap J J eV (aa (ai J (fun h2=> ?_) (fun h2=> ?_)))))))))))))))
  ·have hq:decide (s=x)=true:=by rw [←gn];exact h2
   refine am (ab J (ao J (aa (ar (aG () O J (bU (aD J)) (by rw [pI hx hq n2]) [] [] J J J)))))
  ·have hq:decide (s=x)=false:=by rw [←gn];exact h2
   refine az (aj (ap J J aY (ab J (aa ?_))));refine aI (k+1) ⟨⟨by omega,fun i y hi hy=>by rcases Nat.lt_succ_iff_lt_or_eq.1 hi with h|h;exact n2 i y h hy;rw [h,hx]at hy;rw [←dv hy];exact hq⟩,by omega⟩ J J J
 ·(try simp only [aX]at h1);have hk:k=l.length:=by omega
  subst hk;refine bF (am (ao J (aa (ar (aG () O J (bU (aD J)) (by rw [pH n2]) [] [] J J J)))))
def cU(s:Ba)(l:List Ba):Bool:=l.any fun x=>decide (s=x)
theorem HV{l:List Ba}{s:Ba}:decide (vW (fun x=>decide (s=x)) l≥0)=cU s l:=by
 unfold vW cU;cases h:l.findIdx? (fun x=>decide (s=x))with
 | none=>
  rw [List.findIdx?_eq_none_iff]at h;have:(l.any fun x=>decide (s=x))=false:=List.any_eq_false.2 fun x hx=>by rw [h x hx];simp
  rw [this];rfl
 | some i=>
  rw [List.findIdx?_eq_some_iff_getElem]at h;obtain⟨h1,h2,_⟩:=h;have:(l.any fun x=>decide (s=x))=true:=List.any_eq_true.2 ⟨_,List.getElem_mem h1,h2⟩;rw [this];exact decide_eq_true (Int.natCast_nonneg i)
theorem gu(v:SV)(l:List Ba)(hl:l.length≤1000000)(s:Ba):
  aN prog 155 [sv v,Sg s] [] [sl 1 eS (sv v) l] (.bool (cU s l)) []:=by
 refine ay func155 J ntmps155 J fun w0 M H=>am (ao J (aw J (ab J (ab J (ae (xs:= [.tmp 5,.tmp 6]) (xe v l hl s) Lr [] [(false,0)] [] (fun _ _=>ap J J fp (ao J (aa (ar (aG () O J (bU (aD J)) (congrArg Value.bool HV) [] [] J J J))))))))))
def vV:List Ba:= [(⟨#[101,108,115,101]⟩:Ba),(⟨#[102,110]⟩:Ba),(⟨#[105,102]⟩:Ba),(⟨#[105,110]⟩:Ba),(⟨#[109,101,109]⟩:Ba),(⟨#[111,117,116]⟩:Ba),(⟨#[114,101,116,117,114,110]⟩:Ba),(⟨#[118,97,114]⟩:Ba),(⟨#[119,104,105,108,101]⟩:Ba)]
def qS(c:Int):Bool:=decide (c≥97)&&decide (c≤122)
def mC(c:Int):Bool:=decide (c≥48)&&decide (c≤57)
theorem qT:
  Spec prog 156 [] [] [] (X:=SV) (fun _=>True) (fun u=>sv u) (fun u=> [own 9 1 eS (sv u) vV]) (fun _=> []):=by
 refine ay func156 J ntmps156 J fun w0 M H=>am (ao J (aw J (dG eS vV (parts:= [(0,.const (Sg (ByteArray.mk #[101,108,115,101]))),(1,.const (Sg (ByteArray.mk #[102,110]))),(2,.const (Sg (ByteArray.mk #[105,102]))),(3,.const (Sg (ByteArray.mk #[105,110]))),(4,.const (Sg (ByteArray.mk #[109,101,109]))),(5,.const (Sg (ByteArray.mk #[111,117,116]))),(6,.const (Sg (ByteArray.mk #[114,101,116,117,114,110]))),(7,.const (Sg (ByteArray.mk #[118,97,114]))),(8,.const (Sg (ByteArray.mk #[119,104,105,108,101])))]) underlying46 t9 J (by decide) (by intro _;rfl) J (by decide) (by decide) J J J J fun v1=>ao J (aa (ar (aG v1 O J (bU (aD J)) J [1] [] J J J))))))
theorem nG(c:Int):
  aN prog 157 [.int .i32 c] [] [] (.bool (qS c)) []:=by
 refine ay func157 J ntmps157 J fun w0 M H=>am (ao J (aw J (ab J (ap J J fp (ab J (aF [] J J O (fun hg1=>aV J) J (aF [(6,_)] J J ⟨J,O⟩ (fun hg2=>aS J J ki) J (aJ (bD J J J) (ao J (aa (ar (aG () O J (bU (aD J)) J [] [] J J J))))))))))))
theorem xC(c:Int):
  aN prog 160 [.int .i32 c] [] [] (.bool (mC c)) []:=by
 refine ay func160 J ntmps160 J fun w0 M H=>am (ao J (aw J (ab J (ap J J fp (ab J (aF [] J J O (fun hg1=>aV J) J (aF [(6,_)] J J ⟨J,O⟩ (fun hg2=>aS J J ki) J (aJ (bD J J J) (ao J (aa (ar (aG () O J (bU (aD J)) J [] [] J J J))))))))))))
theorem uS(c:Int):
  aN prog 159 [.int .i32 c] [] [] (.bool (qS c || mC c)) []:=by
 refine ay func159 J ntmps159 J fun w0 M H=>am (ao J (aw J (ab J (ae (xs:= [.tmp 3]) (nG c) Gy [] [] [] (fun _ _=>ab J (eH (t:=5) J (fun h1=> ?_) (fun h1=> ?_)))))))
 ·(try simp only [aX]at h1);have hq:qS c=true:=h1;refine cN J J J J (cN J J J J (aJ (bD J J J) (ao J (aa (ar (aG () O J (bU (aD J)) (by first|(rw [hq];done)|(rw [hq];rfl)|(rw [hq];simp)) [] [] J J J))))))
 ·(try simp only [aX]at h1);have hq:qS c=false:=by simpa using h1
  refine bi J J (ab J (bi J J (ae (xs:= [.tmp 6]) (xC c) LC [] [] [] (fun _ _=>aJ (bD J J J) (ao J (aa (ar (aG () O J (bU (aD J)) (by first|(rw [hq];done)|(rw [hq];rfl)|(rw [hq];simp)) [] [] J J J))))))))
def zo(s:Ba):Int:=((s.data.toList.headD 0).toNat:Int)
def AM(p:Int→Bool)(s:Ba):Bool:=s.data.toList.all fun b=>p (b.toNat:Int)
def dD(s:Ba):Bool:=decide (s.size≠0)&&decide (s.size≤12)&& !cU s vV&&qS (zo s)&&AM (fun c=>qS c || mC c) s
def IV(s:Ba):Prop:=∀(i:Nat)(h:i<s.size),(s[i]'h).toNat<128
def F5(s:Ba):Prop:=IV s∧s.size≤1000000
def cC:Ba:=⟨#[]⟩
def d9:Ba:=⟨#[109,97,105,110]⟩
def AO:List Ba:= [ep,s5,uC]
def lvL:List (Ba×Int):= [(kO,7),(jI,7),(fN,7),(ep,6),(fh,6),(fY,5),(fM,5),(mZ,4),(lP,4),(lO,4),(kP,4),(lN,3),(lQ,3),(eB,2),(eD,1),(iW,0)]
def ja(s:Ba):Bool:=(lvL.find? fun p=>decide (p.1=s)).isSome
def rE(k:Int)(nm:Ba)(n:Nat):Bool:=
 if k=1∨k=5 then decide (nm=cC)&&decide (n=0)else if k=2 then dD nm&&decide (n=0)else if k=3 then dD nm else
 if k=4 then decide (nm=cC)&&decide (n=1)else if k=6 then cU nm AO&&decide (n=1)else if k=7 then ja nm&&decide (n=2)else false
mutual
def rX:Tx→Bool
 | .mk k n nm _ kids=>rE k nm kids.length&&(decide (k=1) || decide (n=0))&&oh kids
def oh:List Tx→Bool
 | []=>true
 | t::r=>rX t&&oh r
end
def F1(k:Int)(nm:Ba)(ne nb nl:Nat):Bool:=
 decide (k≥1)&&decide (k≤8)&&decide (ne=if k=3 then 2 else 1)&&(if k=1∨k=2 then dD nm else decide (nm=cC))&&(decide (k=4) || decide (k=5) || decide (nb=0))&&(decide (k=4) || decide (nl=0))
mutual
def rY:Ty→Bool
 | .mk k nm _ es _ body _ els=>F1 k nm es.length body.length els.length&&oh es&&kZ body&&kZ els
def kZ:List Ty→Bool
 | []=>true
 | t::r=>rY t&&kZ r
end
def rF(f:Tf):Bool:=f.ps.all dD&&dD f.name&&kZ f.body
def rP(fs:List Tf):Bool:=fs.all rF
mutual
def nX:Tx→Nat
 | .mk _ _ _ _ kids=>fO kids+1
def fO:List Tx→Nat
 | []=>0
 | t::r=>nX t+fO r
end
mutual
def dX:Tx→Nat
 | .mk _ _ _ _ kids=>gN kids+1
def gN:List Tx→Nat
 | []=>0
 | t::r=>max (dX t) (gN r)
end
mutual
def nY:Ty→Nat
 | .mk _ _ _ es _ body _ els=>1+fO es+ef body+ef els
def ef:List Ty→Nat
 | []=>0
 | t::r=>nY t+ef r
end
mutual
def vY:Ty→Nat
 | .mk k _ _ _ _ body _ els=>(if k=1 then 1 else 0)+dF body+dF els
def dF:List Ty→Nat
 | []=>0
 | t::r=>vY t+dF r
end
mutual
def DO:Nat→Ty→Bool
 | d,.mk _ _ _ es _ body _ els=>decide (d>8) || decide (gN es>8) || de (d+1) body || de (d+1) els
def de:Nat→List Ty→Bool
 | _,[]=>false
 | d,t::r=>DO d t || de d r
end
def fst(a b:Int):Int:=if a=0 then b else a
theorem fz(a b c:Int):fst (fst a b) c=fst a (fst b c):=by
 unfold fst;split
 ·rfl
 ·rfl
theorem dJ(a:Int):fst a 0=a:=by
 unfold fst;split
 ·rename_i h;exact h.symm
 ·rfl
theorem bc{a b:Int}:fst a b=0↔a=0∧b=0:=by
 unfold fst;split
 ·rename_i h;simp [h]
 ·rename_i h;simp [h]
def xu(fs:List Tf)(x:Ba):Int:=vW (fun f=>decide (f.name=x)) fs
mutual
def eX(fs:List Tf)(ns:List Ba):Tx→Int
 | .mk k _ nm _ kids=>fst (if k=2 then(if cU nm ns=true then 0 else 21)else if k=3 then(match cK fs nm with
   | none=>21
   | some f=>if f.ps.length=kids.length then 0 else 23)else 0) (jE fs ns kids)
def jE(fs:List Tf)(ns:List Ba):List Tx→Int
 | []=>0
 | t::r=>fst (eX fs ns t) (jE fs ns r)
end
mutual
def bY(fs:List Tf):List Ba→Ty→List Ba×Int
 | ns,.mk k nm _ es _ body _ els=>
  let n1:=if k=1 then ns++ [nm]else ns
  let p1:=dA fs n1 body
  let p2:=dA fs p1.1 els
  (p2.1,fst (if k=2 then(if cU nm ns=true then 0 else 21)else 0) (fst (jE fs ns es) (fst (if k=1 then(if cU nm ns=true then 22 else 0)else 0) (fst p1.2 p2.2))))
def dA(fs:List Tf):List Ba→List Ty→List Ba×Int
 | ns,[]=>(ns,0)
 | ns,t::r=>let p:=bY fs ns t;let q:=dA fs p.1 r;(q.1,fst p.2 q.2)
end
def tP:List Ba→List Ba→Int
 | _,[]=>0
 | ns,x::r=>fst (if cU x ns=true then 22 else 0) (tP (ns++ [x]) r)
def lF(fs:List Tf)(f:Tf):Int:=
 fst (if f.ps.length>4∨f.ps.length+dF f.body>12∨ef f.body>400∨de 1 f.body=true then 2 else 0) (fst (tP [] f.ps) (dA fs f.ps f.body).2)
def gl(fs:List Tf):List Tf→Int
 | []=>0
 | f::r=>fst (lF fs f) (gl fs r)
def once(fs:List Tf):Bool:=(List.range fs.length).all fun i=>decide (xu fs (fs.getD i ⟨cC,bT,[],bT,[]⟩).name=(i:Int))
def jx(fs:List Tf):Int:=
 if rP fs=false then 1 else if fs.length>16 then 2 else if once fs=false then 22 else match cK fs d9 with
  | none=>21
  | some f=>if f.ps.length>0 then 23 else gl fs fs
mutual
def GX:Tx→Prop
 | .mk k n nm _ kids=>oW n∧F5 nm∧kids.length≤1000000∧GXs kids
def GXs:List Tx→Prop
 | []=>True
 | t::r=>GX t∧GXs r
end
mutual
def GY:Ty→Prop
 | .mk k nm _ es _ body _ els=>F5 nm∧(es.length≤1000000∧GXs es)∧(body.length≤1000000∧GYs body)∧(els.length≤1000000∧GYs els)
def GYs:List Ty→Prop
 | []=>True
 | t::r=>GY t∧GYs r
end
def GF(f:Tf):Prop:=F5 f.name∧(∀s∈f.ps,F5 s)∧f.ps.length≤1000000∧f.body.length≤1000000∧GYs f.body∧f.ps.length+ef f.body≤1000000
def GP(fs:List Tf):Prop:=fs.length≤1000000∧∀f∈fs,GF f
theorem GXs.mem:∀{l:List Tx},GXs l→∀t∈l,GX t
 | [],_,_,h=>by simp at h
 | t::r,h,u,hu=>by
  rcases List.mem_cons.1 hu with rfl|hu
  ·exact h.1
  ·exact GXs.mem h.2 u hu
theorem GYs.mem:∀{l:List Ty},GYs l→∀t∈l,GY t
 | [],_,_,h=>by simp at h
 | t::r,h,u,hu=>by
  rcases List.mem_cons.1 hu with rfl|hu
  ·exact h.1
  ·exact GYs.mem h.2 u hu
theorem oG{t:Tx}(h:GX t):GXs t.kids:=by cases t;exact h.2.2.2
theorem tM{t:Tx}(h:GX t):t.kids.length≤1000000:=by cases t;exact h.2.2.1
theorem FH{t:Tx}(h:GX t):F5 t.name:=by cases t;exact h.2.1
theorem FG{t:Ty}(h:GY t):F5 t.name:=by cases t;exact h.1
theorem vP{t:Ty}(h:GY t):t.es.length≤1000000∧GXs t.es:=by cases t;exact h.2.1
theorem gw{t:Ty}(h:GY t):t.body.length≤1000000∧GYs t.body:=by cases t;exact h.2.2.1
theorem iV{t:Ty}(h:GY t):t.els.length≤1000000∧GYs t.els:=by cases t;exact h.2.2.2
theorem sM:∀l,oh l=l.all rX
 | []=>rfl
 | t::r=>by rw [oh,sM r];rfl
theorem og:∀l,kZ l=l.all rY
 | []=>rfl
 | t::r=>by rw [kZ,og r];rfl
theorem x8{t u:Tx}(h:u∈t.kids):SizeOf.sizeOf u<SizeOf.sizeOf t:=by
 cases t with
 | mk k n nm v kids=>
  have:=List.sizeOf_lt_of_mem h;simp only [Tx.kids]at this;simp only [Tx.mk.sizeOf_spec];omega
theorem qFS{t u:Ty}(h:u∈t.body∨u∈t.els):SizeOf.sizeOf u<SizeOf.sizeOf t:=by
 cases t with
 | mk k nm ve es vb body vl els=>
  simp only [Ty.mk.sizeOf_spec];rcases h with h|h
  ·have:=List.sizeOf_lt_of_mem h;simp only [Ty.body]at this;omega
  ·have:=List.sizeOf_lt_of_mem h;simp only [Ty.els]at this;omega
theorem ic{fs:List Tf}{x:Ba}:(xu fs x<0↔cK fs x=none)∧(∀f,cK fs x=some f→∃i:Nat,xu fs x=(i:Int)∧fs[i]?=some f):=by
 unfold xu vW cK;cases h:fs.findIdx? (fun f=>decide (f.name=x))with
 | none=>
  rw [List.findIdx?_eq_none_iff]at h;have h2:fs.find? (fun f=>decide (f.name=x))=none:=List.find?_eq_none.2 fun f hf=>by rw [h f hf];simp
  rw [h2];simp
 | some i=>
  rw [List.findIdx?_eq_some_iff_getElem]at h;obtain⟨h1,h2,h3⟩:=h;have h4:fs.find? (fun f=>decide (f.name=x))=some fs[i]:=by
   rw [List.find?_eq_some_iff_getElem];refine⟨h2,i,h1,J,fun j hj=> ?_⟩;have:=h3 j hj;simpa using this
  rw [h4];refine⟨⟨fun h=>by simp at h;omega,fun h=>by simp at h⟩,fun f hf=>⟨i,J,?_⟩⟩;rw [←dv hf];exact bO h1
theorem oo{α:Type}{p:α→Bool}{l:List α}:decide (vW p l≥0)=l.any p:=by
 unfold vW;cases h:l.findIdx? p with
 | none=>
  rw [List.findIdx?_eq_none_iff]at h;have:l.any p=false:=List.any_eq_false.2 fun x hx=>by rw [h x hx];simp
  rw [this];rfl
 | some i=>
  rw [List.findIdx?_eq_some_iff_getElem]at h;obtain⟨h1,h2,_⟩:=h;have:l.any p=true:=List.any_eq_true.2 ⟨_,List.getElem_mem h1,h2⟩;rw [this];exact decide_eq_true (Int.natCast_nonneg i)
theorem uP(v:SV)(l:List Tf)(hl:l.length≤1000000)(n:Nat)(cap:List Value)(C:Asn)(p:Tf→Bool)(hcb:Cb prog n)(hs:∀x∈l,Spec prog n (Ja x::cap) [] [C] (X:=Unit) (fun _=>True) (fun _=> .bool (p x)) (fun _=> []) (fun _=> [])):
  aN prog 124 [sv v,.func (.func n) #[] cap.toArray] [] [sl 3 oE (sv v) l,C] (I6 (vW p l)) []:=by
 refine ay func124 J ntmps124 J fun w0 M H=>am (ao J (aa (aR (ab J (aJ (aZ underlying25 J (aP (k:=0) J)) (ab J (aa (aC ?_))))))))
 refine bC (X:=Nat) (fun k=>k≤l.length∧∀i y,i<k→l[i]?=some y→p y=false) (fun k=> [(0,sv v),(1,.func (.func n) #[] cap.toArray),(7,I6 (l.length:Int)),(8,I6 (k:Int))]) (fun k=> []) (fun k=> [(0,sl 3 oE (sv v) l),(1,C)]) (fun k=>l.length-k) 0 ⟨bE _,fun i y hi=>by omega⟩ J J J (fun k hk0=> ?_);obtain⟨n1,n2⟩:=hk0;refine am (ap J J cG (aa (aT (ai J (fun h1=> ?_) (fun h1=> ?_)))))
 ·(try simp only [aX]at h1);have hk:k<l.length:=by omega
  obtain⟨x,hx⟩:∃x,l[k]?=some x:=⟨_,bO hk⟩
  refine az (aT (aC (am (ab J (ao J (aw J (ab J (ab J (ab J (aJ (aQ (j:=k) underlying25 mI J J (aP (k:=0) J) (by first|rfl|omega) (by first|omega|(simp;done)|(simp;omega))) (aJ (aM mI J J J (ci (aP (k:=0) J) (by intro _;rfl) hx (by rfl))) (ae (xs:= [.tmp 15]) (hs x (cO hx)) hcb [] [(false,1)] [] (fun _ _=>aa (ai J (fun h2=> ?_) (fun h2=> ?_)))))))))))))))
  ·have hq:p x=true:=h2;refine am (ab J (ao J (aa (ar (aG () O J (bU (aD J)) (by rw [pI hx hq n2]) [] [] J J J)))))
  ·have hq:p x=false:=h2;refine az (aj (ap J J aY (ab J (aa ?_))));refine aI (k+1) ⟨⟨by omega,fun i y hi hy=>by rcases Nat.lt_succ_iff_lt_or_eq.1 hi with h|h;exact n2 i y h hy;rw [h,hx]at hy;rw [←dv hy];exact hq⟩,by omega⟩ J J J
 ·(try simp only [aX]at h1);have hk:k=l.length:=by omega
  subst hk;refine bF (am (ao J (aa (ar (aG () O J (bU (aD J)) (by rw [pH n2]) [] [] J J J)))))
theorem AD(v:SV)(l:List Tf)(hl:l.length≤1000000)(n:Nat)(cap:List Value)(C:Asn)(p:Tf→Bool)(hcb:Cb prog n)(hs:∀x∈l,Spec prog n (Ja x::cap) [] [C] (X:=Unit) (fun _=>True) (fun _=> .bool (p x)) (fun _=> []) (fun _=> [])):
  aN prog 118 [sv v,.func (.func n) #[] cap.toArray] [] [sl 3 oE (sv v) l,C] (.bool (l.any p)) []:=by
 refine ay func118 J ntmps118 J fun w0 M H=>am (ao J (aw J (ab J (ab J (ae (xs:= [.tmp 5,.tmp 6]) (uP v l hl n cap C p hcb hs) GG [] [(false,0),(false,1)] [] (fun _ _=>ap J J fp (ao J (aa (ar (aG () O J (bU (aD J)) (congrArg Value.bool oo) [] [] J J J))))))))))
theorem Ch(v:SV)(l:List Ty)(hl:l.length≤1000000)(n:Nat)(cap:List Value)(C:Asn)(p:Ty→Bool)(hcb:Cb prog n)(hs:∀x∈l,Spec prog n (yV x::cap) [] [C] (X:=Unit) (fun _=>True) (fun _=> .bool (p x)) (fun _=> []) (fun _=> [])):
  aN prog 185 [sv v,.func (.func n) #[] cap.toArray] [] [sl 5 iR (sv v) l,C] (I6 (vW p l)) []:=by
 refine ay func185 J ntmps185 J fun w0 M H=>am (ao J (aa (aR (ab J (aJ (aZ underlying62 J (aP (k:=0) J)) (ab J (aa (aC ?_))))))))
 refine bC (X:=Nat) (fun k=>k≤l.length∧∀i y,i<k→l[i]?=some y→p y=false) (fun k=> [(0,sv v),(1,.func (.func n) #[] cap.toArray),(7,I6 (l.length:Int)),(8,I6 (k:Int))]) (fun k=> []) (fun k=> [(0,sl 5 iR (sv v) l),(1,C)]) (fun k=>l.length-k) 0 ⟨bE _,fun i y hi=>by omega⟩ J J J (fun k hk0=> ?_);obtain⟨n1,n2⟩:=hk0;refine am (ap J J cG (aa (aT (ai J (fun h1=> ?_) (fun h1=> ?_)))))
 ·(try simp only [aX]at h1);have hk:k<l.length:=by omega
  obtain⟨x,hx⟩:∃x,l[k]?=some x:=⟨_,bO hk⟩
  refine az (aT (aC (am (ab J (ao J (aw J (ab J (ab J (ab J (aJ (aQ (j:=k) underlying62 fE J J (aP (k:=0) J) (by first|rfl|omega) (by first|omega|(simp;done)|(simp;omega))) (aJ (aM fE J J J (ci (aP (k:=0) J) (by intro _;rfl) hx (by rfl))) (ae (xs:= [.tmp 15]) (hs x (cO hx)) hcb [] [(false,1)] [] (fun _ _=>aa (ai J (fun h2=> ?_) (fun h2=> ?_)))))))))))))))
  ·have hq:p x=true:=h2;refine am (ab J (ao J (aa (ar (aG () O J (bU (aD J)) (by rw [pI hx hq n2]) [] [] J J J)))))
  ·have hq:p x=false:=h2;refine az (aj (ap J J aY (ab J (aa ?_))));refine aI (k+1) ⟨⟨by omega,fun i y hi hy=>by rcases Nat.lt_succ_iff_lt_or_eq.1 hi with h|h;exact n2 i y h hy;rw [h,hx]at hy;rw [←dv hy];exact hq⟩,by omega⟩ J J J
 ·(try simp only [aX]at h1);have hk:k=l.length:=by omega
  subst hk;refine bF (am (ao J (aa (ar (aG () O J (bU (aD J)) (by rw [pH n2]) [] [] J J J)))))
theorem AB(v:SV)(l:List Ty)(hl:l.length≤1000000)(n:Nat)(cap:List Value)(C:Asn)(p:Ty→Bool)(hcb:Cb prog n)(hs:∀x∈l,Spec prog n (yV x::cap) [] [C] (X:=Unit) (fun _=>True) (fun _=> .bool (p x)) (fun _=> []) (fun _=> [])):
  aN prog 161 [sv v,.func (.func n) #[] cap.toArray] [] [sl 5 iR (sv v) l,C] (.bool (l.any p)) []:=by
 refine ay func161 J ntmps161 J fun w0 M H=>am (ao J (aw J (ab J (ab J (ae (xs:= [.tmp 5,.tmp 6]) (Ch v l hl n cap C p hcb hs) Ln [] [(false,0),(false,1)] [] (fun _ _=>ap J J fp (ao J (aa (ar (aG () O J (bU (aD J)) (congrArg Value.bool oo) [] [] J J J))))))))))
theorem Ci(v:SV)(l:List Tx)(hl:l.length≤1000000)(n:Nat)(cap:List Value)(C:Asn)(p:Tx→Bool)(hcb:Cb prog n)(hs:∀x∈l,Spec prog n (xV x::cap) [] [C] (X:=Unit) (fun _=>True) (fun _=> .bool (p x)) (fun _=> []) (fun _=> [])):
  aN prog 200 [sv v,.func (.func n) #[] cap.toArray] [] [sl 4 gk (sv v) l,C] (I6 (vW p l)) []:=by
 refine ay func200 J ntmps200 J fun w0 M H=>am (ao J (aa (aR (ab J (aJ (aZ underlying59 J (aP (k:=0) J)) (ab J (aa (aC ?_))))))))
 refine bC (X:=Nat) (fun k=>k≤l.length∧∀i y,i<k→l[i]?=some y→p y=false) (fun k=> [(0,sv v),(1,.func (.func n) #[] cap.toArray),(7,I6 (l.length:Int)),(8,I6 (k:Int))]) (fun k=> []) (fun k=> [(0,sl 4 gk (sv v) l),(1,C)]) (fun k=>l.length-k) 0 ⟨bE _,fun i y hi=>by omega⟩ J J J (fun k hk0=> ?_);obtain⟨n1,n2⟩:=hk0;refine am (ap J J cG (aa (aT (ai J (fun h1=> ?_) (fun h1=> ?_)))))
 ·(try simp only [aX]at h1);have hk:k<l.length:=by omega
  obtain⟨x,hx⟩:∃x,l[k]?=some x:=⟨_,bO hk⟩
  refine az (aT (aC (am (ab J (ao J (aw J (ab J (ab J (ab J (aJ (aQ (j:=k) underlying59 dr J J (aP (k:=0) J) (by first|rfl|omega) (by first|omega|(simp;done)|(simp;omega))) (aJ (aM dr J J J (ci (aP (k:=0) J) (by intro _;rfl) hx (by rfl))) (ae (xs:= [.tmp 15]) (hs x (cO hx)) hcb [] [(false,1)] [] (fun _ _=>aa (ai J (fun h2=> ?_) (fun h2=> ?_)))))))))))))))
  ·have hq:p x=true:=h2;refine am (ab J (ao J (aa (ar (aG () O J (bU (aD J)) (by rw [pI hx hq n2]) [] [] J J J)))))
  ·have hq:p x=false:=h2;refine az (aj (ap J J aY (ab J (aa ?_))));refine aI (k+1) ⟨⟨by omega,fun i y hi hy=>by rcases Nat.lt_succ_iff_lt_or_eq.1 hi with h|h;exact n2 i y h hy;rw [h,hx]at hy;rw [←dv hy];exact hq⟩,by omega⟩ J J J
 ·(try simp only [aX]at h1);have hk:k=l.length:=by omega
  subst hk;refine bF (am (ao J (aa (ar (aG () O J (bU (aD J)) (by rw [pH n2]) [] [] J J J)))))
theorem r6(v:SV)(l:List Tx)(hl:l.length≤1000000)(n:Nat)(cap:List Value)(C:Asn)(p:Tx→Bool)(hcb:Cb prog n)(hs:∀x∈l,Spec prog n (xV x::cap) [] [C] (X:=Unit) (fun _=>True) (fun _=> .bool (p x)) (fun _=> []) (fun _=> [])):
  aN prog 186 [sv v,.func (.func n) #[] cap.toArray] [] [sl 4 gk (sv v) l,C] (.bool (l.any p)) []:=by
 refine ay func186 J ntmps186 J fun w0 M H=>am (ao J (aw J (ab J (ab J (ae (xs:= [.tmp 5,.tmp 6]) (Ci v l hl n cap C p hcb hs) Lj [] [(false,0),(false,1)] [] (fun _ _=>ap J J fp (ao J (aa (ar (aG () O J (bU (aD J)) (congrArg Value.bool oo) [] [] J J J))))))))))
theorem AC(v:SV)(l:List Ba)(hl:l.length≤1000000)(n:Nat)(p:Ba→Bool)(hcb:Cb prog n)(hs:∀s∈l,Spec prog n [Sg s] [] [] (X:=Unit) (fun _=>True) (fun _=> .bool (p s)) (fun _=> []) (fun _=> [])):
  aN prog 120 [sv v,.func (.func n) #[] #[]] [] [sl 1 eS (sv v) l] (.bool (l.any p)) []:=by
 refine ay func120 J ntmps120 J fun w0 M H=>am (ao J (aw J (ab J (ab J (ae (xs:= [.tmp 5,.tmp 6]) (Cj v l hl n p hcb hs) LG [] [(false,0)] [] (fun _ _=>ap J J fp (ao J (aa (ar (aG () O J (bU (aD J)) (congrArg Value.bool oo) [] [] J J J))))))))))
theorem vN{p:Int→Bool}{s:Ba}:AM p s=true↔∀(i:Nat)(h:i<s.size),p (((s[i]'h).toNat:Nat):Int)=true:=by
 unfold AM;rw [List.all_eq_true];constructor
 ·intro h i hi;refine h (s[i]'hi) ?_;have:s[i]'hi=s.data.toList[i]'(by simpa using hi):=by simp [ByteArray.getElem_eq_getElem_data]
  rw [this];exact List.getElem_mem _
 ·intro h b hb;obtain⟨i,hi,rfl⟩:=List.mem_iff_getElem.1 hb;have hi':i<s.size:=by simpa using hi
  have:=h i hi';rw [show s[i]'hi'=s.data.toList[i]'hi by simp [ByteArray.getElem_eq_getElem_data]]at this;exact this
theorem DA{s:Ba}:s=cC↔s.size=0:=by
 constructor
 ·intro h;subst h;rfl
 ·intro h;obtain⟨⟨l⟩⟩:=s;cases l with
  | nil=>rfl
  | cons a r=>simp [ByteArray.size]at h
theorem qg{s:Ba}(h:0<s.size):IntKind.i32.wrap ((aH s).getD 0 0)=zo s:=by
 unfold zo aH;obtain⟨⟨l⟩⟩:=s;cases l with
 | nil=>simp [ByteArray.size]at h
 | cons a r=>
  have:=a.toNat_lt;simp only [List.map_cons,List.getD_cons_zero,List.headD_cons];exact A0 (by omega) (by omega)
theorem uR(s:Ba):dD s=(!(s==⟨#[]⟩)&& !decide ((s.size:Int)>12)&& !cU s vV&&qS (zo s)&&AM (fun c=>qS c || mC c) s):=by
 unfold dD
 congr 4
 ·rw [gn];have:=DA (s:=s);unfold cC at this;by_cases h:s.size=0
  ·rw [this.2 h];rfl
  ·have h2:¬s=⟨#[]⟩:=fun e=>h (this.1 e)
   simp [h,h2]
 ·by_cases h:s.size≤12
  ·have:¬(s.size:Int)>12:=by omega
   simp [h,this]
  ·have:(s.size:Int)>12:=by omega
   simp [h,this]
theorem pK{s:Ba}(h:((s==⟨#[]⟩)=true∨(s.size:Int)>12)∨cU s vV=true∨(0<s.size∧(false || !qS (IntKind.i32.wrap ((aH s).getD 0 0)))=true)):dD s=false:=by
 rw [uR];rcases h with(h|h)|h|⟨h0,h⟩
 ·rw [h];rfl
 ·rw [decide_eq_true h];simp
 ·rw [h];simp
 ·rw [qg h0,Bool.false_or,Bool.not_eq_true']at h;rw [h];simp
theorem An{s:Ba}{k:Nat}(h1:(s==⟨#[]⟩)=false∧¬(s.size:Int)>12)(h2:True∧cU s vV=false)(h0:0<s.size)(h3:(false || !qS (IntKind.i32.wrap ((aH s).getD 0 0)))=false)(hk:decide ((k:Int)=(s.size:Int))=AM (fun c=>qS c || mC c) s):decide ((k:Int)=(s.size:Int))=dD s:=by
 rw [uR,h1.1,decide_eq_false h1.2,h2.2,hk];rw [qg h0,Bool.false_or,Bool.not_eq_false']at h3;rw [h3];simp
theorem zK(s:Ba)(n:Nat)(p:Int→Bool)(has:IV s)(hcb:Cb prog n)(hz:s.size≤1000000)(hs:∀c:Int,Spec prog n [.int .i32 c] [] [] (X:=Unit) (fun _=>True) (fun _=> .bool (p c)) (fun _=> []) (fun _=> [])):
  Spec prog 158 [Sg s,.func (.func n) #[] #[]] [] [] (X:=Nat) (fun k=>decide ((k:Int)=(s.size:Int))=AM p s) (fun k=>I6 (k:Int)) (fun _=> []) (fun _=> []):=by
 refine ay func158 J ntmps158 J fun w0 M H=>am (ao J (aa (aR (ab J (Bz underlying9 J J fun i8=>aa (aC ?_))))))
 refine bC (X:=Nat) (fun x=>x≤s.size∧∀j(h:j<s.size),j<x→p (((s[j]'h).toNat:Nat):Int)=true) (fun x=> [(0,Sg s),(1,.func (.func n) #[] #[]),(8,Pt i8)]) (fun x=> [(8,JL i8 s x)]) (fun x=> []) (fun x=>s.size-x) 0 ⟨bE _,fun j h hj=>by omega⟩ J J J (fun x hx0=> ?_);obtain⟨n1,n2⟩:=hx0;refine am (Es (k:=8) J J (fun h=>has x h) J (fun hover=> ?_) (fun hmore=> ?_))
 ·have hx:x=s.size:=by omega
  subst hx;refine aJ (cv J J) (aa (aT (ai J (fun h1=> ?_) (fun h1=> ?_))))
  ·exact absurd h1 (by simp)
  ·(try simp only [aX]at h1);refine bF (am (ab J (aJ (ch underlying9 J) (ao J (aa (ar (aG s.size (by rw [decide_eq_true J];symm;exact vN.2 fun i h=>n2 i h h) J (bU (aD J)) J [] [] J J J)))))))
 ·have hxs:x<s.size:=hmore;refine aJ (cv J J) (aa (aT (ai J (fun h2=> ?_) (fun h2=> ?_))))
  ·(try simp only [aX]at h2);refine az (aC (am (aJ (cv J J) (aJ (cv J J) (ao J (ao J (aw J (ab J (ab J (ct (xs:= [.tmp 14]) (hs _) hcb [] [] [] J J J (fun _ _=>aJ (cZ J) (aa (ai J (fun h3=> ?_) (fun h3=> ?_))))))))))))))
   ·have hq:p (((s[x]'hxs).toNat:Nat):Int)=false:=by simpa using h3
    refine am (ab J (ao J (aa (ar ?_))));refine aG x (by rw [decide_eq_false (show ¬((x:Int)=(s.size:Int)) by omega)];symm;rw [Bool.eq_false_iff];intro h;have:=vN.1 h x hxs;rw [hq]at this;cases this) J (bU (aD J)) J [] [] J J J
   ·have hq:p (((s[x]'hxs).toNat:Nat):Int)=true:=by simpa using h3
    refine az ?_;refine aI (x+1) ⟨⟨by omega,fun j h hj=>by rcases Nat.lt_succ_iff_lt_or_eq.1 hj with h2|h2;exact n2 j h h2;subst h2;exact hq⟩,by omega⟩ J J J
  ·exact absurd h2 (by simp)
theorem iv(s:Ba)(has:IV s)(hz:s.size≤1000000):
  aN prog 122 [Sg s] [] [] (.bool (dD s)) []:=by
 refine ay func122 J ntmps122 J fun w0 M H=>am (ao J (aa (aR (ab J (ap J J eV (ab J (aF [] J J O (fun hg1=>aV J) J (aF [(6,_)] J J ⟨J,O⟩ (fun hg2=>ch underlying9 J) J (aF [(6,_),(7,_)] J J ⟨J,J,O⟩ (fun hg3=>aS J J ge) J (aJ (bD J J J) (ab J (eH (t:=10) J (fun h4=> ?_) (fun h4=> ?_)))))))))))))
 ·(try simp only [aX]at h4);have q7:=h4;refine cN J J J J (cN J J J J (cN J J J J (aJ (bD J J J) (ab J (eH (t:=15) J (fun h5=> ?_) (fun h5=> ?_))))))
  ·(try simp only [aX]at h5);have q12:=h5;refine cN J J J J (cN J J J J (cN J J J J (cN J J J J (cN J J J J (aJ (bD J J J) (aa (ai J (fun h6=> ?_) (fun h6=> ?_))))))))
   ·refine am (ao J (aa (ar (aG () O J (bU (aD J)) (congrArg Value.bool (pK (.inl q7)).symm) [] [] J J J))))
   ·exact absurd h6 (by simp)
  ·(try simp only [aX]at h5);have q12:=h5;exact absurd h5 (by simp)
 ·(try simp only [aX]at h4);have q7:=h4;have hs0:0<s.size:=Nat.pos_of_ne_zero fun e=>by have:=DA.2 e;subst this;exact absurd q7.1 (by decide)
  refine bi J J (ae (xs:= []) qT LF [] [] [11] (fun v11 _=>cq 11 21 J bI (bi J J (ab J (bi J J (ae (xs:= [.tmp 11,.tmp 12]) (gu v11 vV (by decide) s) zl [] [(false,21)] [] (fun _ _=>aJ (bD J J J) (ab J (eH (t:=15) J (fun h7=> ?_) (fun h7=> ?_))))))))))
  ·(try simp only [aX]at h7);have q12:=h7;refine cN J J J J (cN J J J J (cN J J J J (cN J J J J (cN J J J J (aJ (bD J J J) (aa (ai J (fun h8=> ?_) (fun h8=> ?_))))))))
   ·refine am (ao J (aa (ar (aG () O J (bU (aD J)) (congrArg Value.bool (pK (.inr (.inl (by rcases q12 with q|q;exact absurd q (by simp);exact q)))).symm) [] [] J J J))))
   ·exact absurd h8 (by simp)
  ·(try simp only [aX]at h7);have q12:=h7;refine bi J J (ab J (bi J J (aJ (ec (j:=0) underlying9 J J J hs0) (bi J J (aJ (bK underlying5 underlying21 J (by first|exact A0 (by omega) (by omega)|rfl)) (bi J J (ct (xs:= [.tmp 18]) (nG _) Gy [] [] [] J J J (fun _ _=>bi J J (aJ (cZ J) (aJ (bD J J J) (aa (ai J (fun h9=> ?_) (fun h9=> ?_)))))))))))))
   ·have q0:=h9;refine am (ao J (aa (ar (aG () O J (bU (aD J)) (congrArg Value.bool (pK (.inr (.inr ⟨hs0,q0⟩))).symm) [] [] J J J))))
   ·have q0:=h9;refine az (am (ab J (ae (xs:= [.tmp 22,.func 159]) (zK s 159 (fun c=>qS c || mC c) has LD hz (fun c=>uS c)) LE [] [] [] (fun k hk=>ab J (aJ (ch underlying9 J) (ap J J bj (ao J (aa (ar (aG () O J (bU (aD J)) (congrArg Value.bool (An q7 q12 hs0 q0 hk)) [] [] J J J))))))))))
def vI(p:Ba×Int):Value:=I6 p.2
theorem F2{k:Int}{nm:Ba}{n:Nat}(h:k=1∨k=5):rE k nm n=((nm==⟨#[]⟩)&&decide ((n:Int)=0)):=by
 unfold rE;rw [ak h,gn]
 congr 1
 exact decide_eq_decide.2 (by omega)
theorem Ka{k:Int}{nm:Ba}{n:Nat}(h:k=2):rE k nm n=(dD nm&&decide ((n:Int)=0)):=by
 subst h;show(dD nm&&decide (n=0))=_
 congr 1
 exact decide_eq_decide.2 (by omega)
theorem J_{k:Int}{nm:Ba}{n:Nat}(h:k=3):rE k nm n=dD nm:=by
 subst h;rfl
theorem J9{k:Int}{nm:Ba}{n:Nat}(h:k=4):rE k nm n=((nm==⟨#[]⟩)&&decide ((n:Int)=1)):=by
 subst h;show(decide (nm=cC)&&decide (n=1))=_;rw [gn]
 congr 1
 exact decide_eq_decide.2 (by omega)
theorem J8{k:Int}{nm:Ba}{n:Nat}(h:k=6):rE k nm n=(cU nm AO&&decide ((n:Int)=1)):=by
 subst h;show(cU nm AO&&decide (n=1))=_
 congr 1
 exact decide_eq_decide.2 (by omega)
theorem J7{k:Int}{nm:Ba}{n:Nat}(h:k=7):rE k nm n=(ja nm&&decide ((n:Int)=2)):=by
 subst h;show(ja nm&&decide (n=2))=_
 congr 1
 exact decide_eq_decide.2 (by omega)
theorem Kb{k:Int}{nm:Ba}{n:Nat}(h1:¬k=1)(h5:¬k=5)(h2:¬k=2)(h3:¬k=3)(h4:¬k=4)(h6:¬k=6)(h7:¬k=7):rE k nm n=false:=by
 unfold rE;rw [ac (fun h=>h.elim h1 h5),ac h2,ac h3,ac h4,ac h6,ac h7]
theorem fT{α:Type}(p:α→Bool):∀l:List α,(!(l.any fun x=> !p x))=l.all p
 | []=>rfl
 | a::r=>by rw [List.any_cons,List.all_cons,←fT p r];cases p a<;>simp
theorem JR(t:Tx):rX t=(rE t.kind t.name t.kids.length&&(decide (t.kind=1) || decide (t.n=0))&& !(t.kids.any fun u=> !rX u)):=by
 rw [fT];cases t;rw [rX,sM];rfl
theorem uM:
  Spec prog 201 [] [] [] (X:=Nat) (fun _=>True) (fun b=> .map (some b)) (fun b=> [mp fG Prod.fst vI (some b) lvL]) (fun _=> []):=by
 refine ay func201 J ntmps201 J fun w0 M H=>am (ao J (aw J (ko (Prod.fst:Ba×Int→Ba) fG vI J fun b1=>bW (k:=1) (α:=Ba×Int) (kf:=Prod.fst) (vf:=vI) (iW,0) [(iW,0)] underlying105 eo J J J J (List.Perm.of_eq J) (bW (k:=1) (α:=Ba×Int) (kf:=Prod.fst) (vf:=vI) (eD,1) [(eD,1),(iW,0)] underlying105 eo J J J J (List.Perm.of_eq J) (bW (k:=1) (α:=Ba×Int) (kf:=Prod.fst) (vf:=vI) (eB,2) [(eB,2),(eD,1),(iW,0)] underlying105 eo J J J J (List.Perm.of_eq J) (bW (k:=1) (α:=Ba×Int) (kf:=Prod.fst) (vf:=vI) (lQ,3) [(lQ,3),(eB,2),(eD,1),(iW,0)] underlying105 eo J J J J (List.Perm.of_eq J) (bW (k:=1) (α:=Ba×Int) (kf:=Prod.fst) (vf:=vI) (lN,3) [(lN,3),(lQ,3),(eB,2),(eD,1),(iW,0)] underlying105 eo J J J J (List.Perm.of_eq J) (bW (k:=1) (α:=Ba×Int) (kf:=Prod.fst) (vf:=vI) (kP,4) [(kP,4),(lN,3),(lQ,3),(eB,2),(eD,1),(iW,0)] underlying105 eo J J J J (List.Perm.of_eq J) (bW (k:=1) (α:=Ba×Int) (kf:=Prod.fst) (vf:=vI) (lO,4) [(lO,4),(kP,4),(lN,3),(lQ,3),(eB,2),(eD,1),(iW,0)] underlying105 eo J J J J (List.Perm.of_eq J) (bW (k:=1) (α:=Ba×Int) (kf:=Prod.fst) (vf:=vI) (lP,4) [(lP,4),(lO,4),(kP,4),(lN,3),(lQ,3),(eB,2),(eD,1),(iW,0)] underlying105 eo J J J J (List.Perm.of_eq J) (bW (k:=1) (α:=Ba×Int) (kf:=Prod.fst) (vf:=vI) (mZ,4) [(mZ,4),(lP,4),(lO,4),(kP,4),(lN,3),(lQ,3),(eB,2),(eD,1),(iW,0)] underlying105 eo J J J J (List.Perm.of_eq J) (bW (k:=1) (α:=Ba×Int) (kf:=Prod.fst) (vf:=vI) (fM,5) [(fM,5),(mZ,4),(lP,4),(lO,4),(kP,4),(lN,3),(lQ,3),(eB,2),(eD,1),(iW,0)] underlying105 eo J J J J (List.Perm.of_eq J) (bW (k:=1) (α:=Ba×Int) (kf:=Prod.fst) (vf:=vI) (fY,5) [(fY,5),(fM,5),(mZ,4),(lP,4),(lO,4),(kP,4),(lN,3),(lQ,3),(eB,2),(eD,1),(iW,0)] underlying105 eo J J J J (List.Perm.of_eq J) (bW (k:=1) (α:=Ba×Int) (kf:=Prod.fst) (vf:=vI) (fh,6) [(fh,6),(fY,5),(fM,5),(mZ,4),(lP,4),(lO,4),(kP,4),(lN,3),(lQ,3),(eB,2),(eD,1),(iW,0)] underlying105 eo J J J J (List.Perm.of_eq J) ?_))))))))))))))
 refine bW (k:=1) (α:=Ba×Int) (kf:=Prod.fst) (vf:=vI) (ep,6) [(ep,6),(fh,6),(fY,5),(fM,5),(mZ,4),(lP,4),(lO,4),(kP,4),(lN,3),(lQ,3),(eB,2),(eD,1),(iW,0)] underlying105 eo J J J J (List.Perm.of_eq J) (bW (k:=1) (α:=Ba×Int) (kf:=Prod.fst) (vf:=vI) (fN,7) [(fN,7),(ep,6),(fh,6),(fY,5),(fM,5),(mZ,4),(lP,4),(lO,4),(kP,4),(lN,3),(lQ,3),(eB,2),(eD,1),(iW,0)] underlying105 eo J J J J (List.Perm.of_eq J) (bW (k:=1) (α:=Ba×Int) (kf:=Prod.fst) (vf:=vI) (jI,7) [(jI,7),(fN,7),(ep,6),(fh,6),(fY,5),(fM,5),(mZ,4),(lP,4),(lO,4),(kP,4),(lN,3),(lQ,3),(eB,2),(eD,1),(iW,0)] underlying105 eo J J J J (List.Perm.of_eq J) (bW (k:=1) (α:=Ba×Int) (kf:=Prod.fst) (vf:=vI) (kO,7) [(kO,7),(jI,7),(fN,7),(ep,6),(fh,6),(fY,5),(fM,5),(mZ,4),(lP,4),(lO,4),(kP,4),(lN,3),(lQ,3),(eB,2),(eD,1),(iW,0)] underlying105 eo J J J J (List.Perm.of_eq J) (ab J (ao J (aa (ar (aG b1 O J (bU (aD J)) J [1] [] J J J))))))))
theorem Bv(v:SV)(l:List Tx)(ih:∀u∈l,Spec prog 188 [xV u] [] [cx u.v u.kids] (X:=Unit) (fun _=>True) (fun _=> .bool (rX u)) (fun _=> []) (fun _=> []))(u:Tx)(hu:u∈l):
  aN prog 202 [xV u] [] [cx v l] (.bool (!rX u)) []:=by
 refine ay func202 J ntmps202 J fun w0 M H=>bx 0 7 J (ft hu) (am (cB J J fun b1=>ao J (aw J (aJ (aM dr J J J (bh (k:=1) J)) (ae (xs:= [.tmp 3]) (ih u hu) Gq [] [(false,7)] [] (fun _ _=>aJ (cZ J) (ao J (aa (ar (aG () O J (bU (aD J)) J [] [] J J J))))))))))
theorem Bu(v:SV)(l:List Tx)(ih:∀u∈l,Spec prog 188 [xV u] [] [cx u.v u.kids] (X:=Unit) (fun _=>True) (fun _=> .bool (rX u)) (fun _=> []) (fun _=> []))(u:Tx)(hu:u∈l):
  aN prog 187 [xV u] [] [cx v l] (.bool (!rX u)) []:=by
 refine ay func187 J ntmps187 J fun w0 M H=>bx 0 7 J (ft hu) (am (cB J J fun b1=>ao J (aw J (aJ (aM dr J J J (bh (k:=1) J)) (ae (xs:= [.tmp 3]) (ih u hu) Gq [] [(false,7)] [] (fun _ _=>aJ (cZ J) (ao J (aa (ar (aG () O J (bU (aD J)) J [] [] J J J))))))))))
theorem Em(t:Tx)(ht:GX t)(ih:∀u∈t.kids,Spec prog 188 [xV u] [] [cx u.v u.kids] (X:=Unit) (fun _=>True) (fun _=> .bool (rX u)) (fun _=> []) (fun _=> [])):
  aN prog 188 [xV t] [] [cx t.v t.kids] (.bool (rX t)) []:=by
 refine ay func188 J ntmps188 J fun w0 M H=>bx 0 1 J jU ?_
 have hnm:=FH ht;have hkl:=tM ht;refine am (cB J J fun b1=>ao J (aw J (ao J (aa (aT (sK [0,1,2,3,4,5,6,7,8] [0,1,2,3,4,5,7,6,8] [7,8,9,10,6,11,12,4,5] _ J J J (bk (V:= [(1,8,_),(2,9,_)]) [1,2] 0 [0] [3,4,5,6,7,8] (fun bm=> [(3,10,_),(4,6,_),(5,11,_),(6,12,_),(7,4,_),(8,5,_)]) J J (ad J (ah fj J) (ad J (ag t9 J J (aB (k:=1) J J)) au)) J J J J J J J J J J J (fun _ _=>J) J (ia (xs:= []) uM Li [] [] [60] [] J J J J J J J J (fun _ _=>J) (fun _ _ _=>J)) (fun bm _=>br [3,4,5,6,7,8,1,2] J J (ad J (mc underlying105 eo t3 J J (Co (k:=60) J) J) (aK J J (ad J (cv J J) (ad J (cv J J) (ad J (d7 J) (ad J (d7 J) (ad J (ah fj J) (ad J (ag t9 J J (aB (k:=1) J J)) au)))))))) J J J (bv (X:=Unit) (fun _=>True) (fun _=> [(1,Pt b1),(3,.bool (rE t.kind t.name t.kids.length))]) (fun _=> [(1,aO b1 61 (gk t))]) (fun _=> [(0,cx t.v t.kids),(1,sl 4 gk (sv t.v) t.kids)]) ?_ (fun _ _=> ?_))))))))))
 ·refine am (aA ng J (aL 1 t3 J J J J (aa (aC (aR (ap J J bj (ao J (aa (ai J (fun h1=> ?_) (fun h1=> ?_))))))))))
  ·have q1:t.kind=1:=df h1;refine az (ai J (fun h2=> ?_) (fun h2=> ?_))
   ·(try simp only [aX]at h2);refine aj (aA fj J (aL 1 t9 J J J J (ap J J eV (ab J (aF [] J J O (fun hg3=>ah eZ J) J (aF [(22,_)] J J ⟨J,O⟩ (fun hg4=>ag n9 J J (aB (k:=1) J J)) J (aF [(22,_),(23,_)] J J ⟨J,J,O⟩ (fun hg5=>aZ underlying59 J (aP (k:=1) J)) J (aF [(22,_),(23,_),(24,_)] J J ⟨J,J,J,O⟩ (fun hg6=>aS J J bj) J (aJ (bD J J J) (ao J (aa (aI () O (by rw [F2 (.inl q1)];rfl) J J))))))))))))
   ·exact absurd (decide_eq_true q1) (by rw [h2];simp)
  ·have q1:¬t.kind=1:=e9 h1;refine aj (ap J J bj (ao J (aa (ai J (fun h7=> ?_) (fun h7=> ?_)))))
   ·have q5:t.kind=5:=df h7;refine aj (aA fj J (aL 1 t9 J J J J (ap J J eV (ab J (aF [] J J O (fun hg8=>ah eZ J) J (aF [(22,_)] J J ⟨J,O⟩ (fun hg9=>ag n9 J J (aB (k:=1) J J)) J (aF [(22,_),(23,_)] J J ⟨J,J,O⟩ (fun hg10=>aZ underlying59 J (aP (k:=1) J)) J (aF [(22,_),(23,_),(24,_)] J J ⟨J,J,J,O⟩ (fun hg11=>aS J J bj) J (aJ (bD J J J) (ao J (aa (aI () O (by rw [F2 (.inr q5)];rfl) J J))))))))))))
   ·have q5:¬t.kind=5:=e9 h7;refine am (ap J J bj (ao J (aa (ai J (fun h12=> ?_) (fun h12=> ?_)))))
    ·have q2:t.kind=2:=df h12;refine aj (aA fj J (aL 1 t9 J J J J (ae (xs:= [.tmp 30]) (iv t.name hnm.1 hnm.2) vE [] [] [] (fun _ _=>ab J (aF [] J J O (fun hg13=>ah eZ J) J (aF [(33,_)] J J ⟨J,O⟩ (fun hg14=>ag n9 J J (aB (k:=1) J J)) J (aF [(33,_),(34,_)] J J ⟨J,J,O⟩ (fun hg15=>aZ underlying59 J (aP (k:=1) J)) J (aF [(33,_),(34,_),(35,_)] J J ⟨J,J,J,O⟩ (fun hg16=>aS J J bj) J (aJ (bD J J J) (ao J (aa (aI () O (by rw [Ka q2];rfl) J J))))))))))))
    ·have q2:¬t.kind=2:=e9 h12;refine am (ap J J bj (ao J (aa (ai J (fun h17=> ?_) (fun h17=> ?_)))))
     ·have q3:t.kind=3:=df h17;refine aj (aA fj J (aL 1 t9 J J J J (ae (xs:= [.tmp 41]) (iv t.name hnm.1 hnm.2) vE [] [] [] (fun _ _=>ao J (aa (aI () O (by rw [J_ q3];rfl) J J))))))
     ·have q3:¬t.kind=3:=e9 h17;refine am (ap J J bj (ao J (aa (ai J (fun h18=> ?_) (fun h18=> ?_)))))
      ·have q4:t.kind=4:=df h18;refine aj (aA fj J (aL 1 t9 J J J J (ap J J eV (ab J (aF [] J J O (fun hg19=>ah eZ J) J (aF [(49,_)] J J ⟨J,O⟩ (fun hg20=>ag n9 J J (aB (k:=1) J J)) J (aF [(49,_),(50,_)] J J ⟨J,J,O⟩ (fun hg21=>aZ underlying59 J (aP (k:=1) J)) J (aF [(49,_),(50,_),(51,_)] J J ⟨J,J,J,O⟩ (fun hg22=>aS J J bj) J (aJ (bD J J J) (ao J (aa (aI () O (by rw [J9 q4];rfl) J J))))))))))))
      ·have q4:¬t.kind=4:=e9 h18;refine am (ap J J bj (ao J (aa (ai J (fun h23=> ?_) (fun h23=> ?_)))))
       ·have q6:t.kind=6:=df h23;refine aj (dG eS AO (parts:= [(0,.const (Sg (ByteArray.mk #[45]))),(1,.const (Sg (ByteArray.mk #[126]))),(2,.const (Sg (ByteArray.mk #[33])))]) underlying46 t9 J (by decide) (by intro _;rfl) J (by decide) (by decide) J J J J fun v56=>aA fj J (aL 1 t9 J J J J (cq 56 21 J bI (ae (xs:= [.tmp 56,.tmp 58]) (gu v56 AO (by decide) t.name) zl [] [(false,21)] [] (fun _ _=>ab J (aF [] J J O (fun hg24=>ah eZ J) J (aF [(61,_)] J J ⟨J,O⟩ (fun hg25=>ag n9 J J (aB (k:=1) J J)) J (aF [(61,_),(62,_)] J J ⟨J,J,O⟩ (fun hg26=>aZ underlying59 J (aP (k:=1) J)) J (aF [(61,_),(62,_),(63,_)] J J ⟨J,J,J,O⟩ (fun hg27=>aS J J bj) J (aJ (bD J J J) (ao J (aa (aI () O (by rw [J8 q6];rfl) J J)))))))))))))
       ·have q6:¬t.kind=6:=e9 h23;refine am (ap J J bj (ao J (aa (ai J (fun h28=> ?_) (fun h28=> ?_)))))
        ·have q7:t.kind=7:=df h28;refine aj (ab J (ab J (aF [] J J O (fun hg29=>ah eZ J) J (aF [(70,_)] J J ⟨J,O⟩ (fun hg30=>ag n9 J J (aB (k:=1) J J)) J (aF [(70,_),(71,_)] J J ⟨J,J,O⟩ (fun hg31=>aZ underlying59 J (aP (k:=1) J)) J (aF [(70,_),(71,_),(72,_)] J J ⟨J,J,J,O⟩ (fun hg32=>aS J J bj) J (aJ (bD J J J) (ao J (aa (aI () O (by rw [J7 q7];rfl) J J))))))))))
        ·have q7:¬t.kind=7:=e9 h28;refine az (aI () O (by rw [Kb q1 q5 q2 q3 q4 q6 q7];rfl) J J)
 ·refine am (ab J (ab J (aF [] J J O (fun hg33=>ah ng J) J (aF [(77,_)] J J ⟨J,O⟩ (fun hg34=>ag t3 J J (aB (k:=1) J J)) J (aF [(77,_),(78,_)] J J ⟨J,J,O⟩ (fun hg35=>aS J J bj) J (aF [(77,_),(78,_),(79,_)] J J ⟨J,J,J,O⟩ (fun hg36=>aV J) J (c_ [] [(77,_),(78,_),(79,_),(80,_)] J J O ⟨J,J,J,J,O⟩ (fun hg37 hg37'=>ah CQ J) J (c_ [(81,_)] [(77,_),(78,_),(79,_),(80,_)] J J ⟨J,O⟩ ⟨J,J,J,J,O⟩ (fun hg38 hg38'=>ag dy J J (aB (k:=1) J J)) J (c_ [(81,_),(82,_)] [(77,_),(78,_),(79,_),(80,_)] J J ⟨J,J,O⟩ ⟨J,J,J,J,O⟩ (fun hg39 hg39'=>aS J J bj) J (aF [(77,_),(78,_),(79,_),(80,_)] J J ⟨J,J,J,J,O⟩ (fun hg40=>em J J J (by first|exact dZ|exact eK|exact dm hg40|exact dY hg40|rfl)) J (aJ (bD J J J) (ab J (aF [] J J O (fun hg41=>ah eZ J) J (aF [(87,_)] J J ⟨J,O⟩ (fun hg42=>ag n9 J J (aB (k:=1) J J)) J (i7 [(87,_),(88,_)] J J ⟨J,J,O⟩ (fun hg43=>ia (xs:= [.tmp 88,.func 202]) (r6 t.v t.kids hkl 202 [] (cx t.v t.kids) (fun u=> !rX u) Lh (fun u hu=>Bv t.v t.kids ih u hu)) Gr [] [(false,1),(false,0)] [] [] J J J J J J J J (fun _ _=>J) (fun _ _ _=>J)) J (aF [(87,_),(88,_),(89,_)] J J ⟨J,J,J,O⟩ (fun hg44=>cZ J) J (aJ (bD J J J) (ao J ?_))))))))))))))))));refine aa (ar (aG () O J (bU (aD J)) (congrArg Value.bool (JR t).symm) [] [] J J J))
theorem Bt:∀(n:Nat)(t:Tx),SizeOf.sizeOf t<n→GX t→aN prog 188 [xV t] [] [cx t.v t.kids] (.bool (rX t)) []
 | 0,_,h,_=>absurd h (Nat.not_lt_zero _)
 | n+1,t,h,ht=>Em t ht fun u hu=>Bt n u (by have:=x8 hu;omega) ((oG ht).mem u hu)
theorem En(t:Tx)(ht:GX t):aN prog 188 [xV t] [] [cx t.v t.kids] (.bool (rX t)) []:=Bt _ t (Nat.lt_succ_self _) ht
theorem JQ(t:Ty):rY t=(decide (t.kind≥1)&&decide (t.kind≤8)&&decide ((t.es.length:Int)=if t.kind=3 then 2 else 1)&&((decide (t.kind=1) || decide (t.kind=2))&&dD t.name || !(decide (t.kind=1) || decide (t.kind=2))&&(t.name==⟨#[]⟩))&&
   (decide ((if t.kind=4 then 2 else if t.kind=5 then 1 else 0:Int)>0) || decide ((t.body.length:Int)=0))&&(decide ((if t.kind=4 then 2 else if t.kind=5 then 1 else 0:Int)>1) || decide ((t.els.length:Int)=0))&& !(t.es.any fun u=> !rX u)&&t.body.all rY&&t.els.all rY):=by
 rw [fT];have e1:decide ((t.es.length:Int)=if t.kind=3 then 2 else 1)=decide (t.es.length=if t.kind=3 then 2 else 1):=decide_eq_decide.2 (by split<;>omega);have e2:((decide (t.kind=1) || decide (t.kind=2))&&dD t.name || !(decide (t.kind=1) || decide (t.kind=2))&&(t.name==⟨#[]⟩))=(if t.kind=1∨t.kind=2 then dD t.name else decide (t.name=cC)):=by
  rw [gn];by_cases h:t.kind=1∨t.kind=2
  ·rw [ak h];have:(decide (t.kind=1) || decide (t.kind=2))=true:=by simpa using h
   rw [this];simp
  ·rw [ac h];have:(decide (t.kind=1) || decide (t.kind=2))=false:=by simpa using h
   rw [this];simp only [Bool.false_and,Bool.not_false,Bool.true_and,Bool.false_or];rfl
 have e3:(decide ((if t.kind=4 then 2 else if t.kind=5 then 1 else 0:Int)>0) || decide ((t.body.length:Int)=0))=(decide (t.kind=4) || decide (t.kind=5) || decide (t.body.length=0)):=by
  rw [show decide ((t.body.length:Int)=0)=decide (t.body.length=0)from decide_eq_decide.2 (by omega)]
  congr 1
  by_cases h4:t.kind=4
  ·simp [h4]
  ·by_cases h5:t.kind=5
   ·simp [h5]
   ·simp [h4,h5]
 have e4:(decide ((if t.kind=4 then 2 else if t.kind=5 then 1 else 0:Int)>1) || decide ((t.els.length:Int)=0))=(decide (t.kind=4) || decide (t.els.length=0)):=by
  rw [show decide ((t.els.length:Int)=0)=decide (t.els.length=0)from decide_eq_decide.2 (by omega)]
  congr 1
  by_cases h4:t.kind=4
  ·simp [h4]
  ·by_cases h5:t.kind=5
   ·simp [h5]
   ·simp [h4,h5]
 rw [e1,e2,e3,e4];cases t;rw [rY,sM,og,og];rfl
theorem JS(f:Tf):(f.ps.any (fun s=> !dD s) || !dD f.name || !(f.body.all rY))= !rF f:=by
 unfold rF;rw [og,←fT dD f.ps];cases f.ps.any (fun s=> !dD s)<;>cases dD f.name<;>cases f.body.all rY<;>rfl
theorem D_{v:SV}{l:List Tf}:∀w G,(fD v l).pred w G→(∀b,G b→b<w.heap.size)→∃G',(Fu l).pred w G'∧∀b,G' b→G b:=fun w G h _=>⟨G,h.2,fun _ hb=>hb⟩
theorem Bs(v:SV)(l:List Ty)(ih:∀u∈l,Spec prog 163 [yV u] [] [cx u.ve u.es,ck u.vb u.body,ck u.vl u.els] (X:=Unit) (fun _=>True) (fun _=> .bool (rY u)) (fun _=> []) (fun _=> []))(u:Ty)(hu:u∈l):
  aN prog 162 [yV u] [] [ck v l] (.bool (!rY u)) []:=by
 refine ay func162 J ntmps162 J fun w0 M H=>bx 0 7 J (sh hu) (bx 0 8 J (jT hu) (bx 0 9 J (lV hu) (am (cB J J fun b1=>ao J (aw J (aJ (aM fE J J J (bh (k:=1) J)) (ae (xs:= [.tmp 3]) (ih u hu) Lz [] [(false,7),(false,8),(false,9)] [] (fun _ _=>aJ (cZ J) (ao J (aa (ar (aG () O J (bU (aD J)) J [] [] J J J))))))))))))
theorem mT(v:SV)(l:List Ty)(hl:l.length≤1000000)(ih:∀u∈l,Spec prog 163 [yV u] [] [cx u.ve u.es,ck u.vb u.body,ck u.vl u.els] (X:=Unit) (fun _=>True) (fun _=> .bool (rY u)) (fun _=> []) (fun _=> [])):
  aN prog 123 [sv v] [] [ck v l] (.bool (l.all rY)) []:=by
 refine ay func123 J ntmps123 J fun w0 M H=>bx 0 1 J jS (am (ao J (aw J (ab J (ae (xs:= [.tmp 3,.func 162]) (AB v l hl 162 [] (ck v l) (fun u=> !rY u) LA (fun u hu=>Bs v l ih u hu)) LB [] [(false,1),(false,0)] [] (fun _ _=>aJ (cZ J) (ao J (aa (ar (aG () O J (bU (aD J)) (congrArg Value.bool (fT rY l)) [] [] J J J))))))))))
theorem Ek(t:Ty)(ht:GY t)(ihb:∀u∈t.body,Spec prog 163 [yV u] [] [cx u.ve u.es,ck u.vb u.body,ck u.vl u.els] (X:=Unit) (fun _=>True) (fun _=> .bool (rY u)) (fun _=> []) (fun _=> []))(ihl:∀u∈t.els,Spec prog 163 [yV u] [] [cx u.ve u.es,ck u.vb u.body,ck u.vl u.els] (X:=Unit) (fun _=>True) (fun _=> .bool (rY u)) (fun _=> []) (fun _=> [])):
  aN prog 163 [yV t] [] [cx t.ve t.es,ck t.vb t.body,ck t.vl t.els] (.bool (rY t)) []:=by
 refine ay func163 J ntmps163 J fun w0 M H=>bx 0 3 J jU (bx 1 4 J jS (bx 2 5 J jS ?_))
 have hnm:=FG ht;obtain⟨hel,heg⟩:=vP ht;obtain⟨hbl,hbg⟩:=gw ht;obtain⟨hll,hlg⟩:=iV ht;refine am (cB J J fun b1=>ao J (aw J (aA iA J (aL 1 t3 J J J J (ap J J bj (ab J (aF [] J J O (fun hg1=>ah iA J) J (aF [(10,_)] J J ⟨J,O⟩ (fun hg2=>ag t3 J J (aB (k:=1) J J)) J (aF [(10,_),(11,_)] J J ⟨J,J,O⟩ (fun hg3=>aS J J bj) J (aJ (bD J J J) (ao J (aw J (ao J ?_)))))))))))));refine aa (bv (X:=Unit) (fun _=>True) (fun _=> [(1,Pt b1),(3,.bool (decide (t.kind=1) || decide (t.kind=2))),(4,I6 (if t.kind=3 then 2 else 1))]) (fun _=> [(1,aO b1 64 (iR t))]) (fun _=> [(0,cx t.ve t.es),(1,ck t.vb t.body),(2,ck t.vl t.els),(3,sl 4 gk (sv t.ve) t.es),(4,sl 5 iR (sv t.vb) t.body),(5,sl 5 iR (sv t.vl) t.els)]) ?_ (fun _ _=> ?_))
 ·refine am (aA iA J (aL 1 t3 J J J J (ap J J bj (aa (ai J (fun h4=> ?_) (fun h4=> ?_))))))
  ·have q3:t.kind=3:=df h4;refine aj (ao J (aa (aI () O (by rw [ak q3];rfl) J J)))
  ·have q3:¬t.kind=3:=e9 h4;refine az (aI () O (by rw [ac q3];rfl) J J)
 ·refine am (ao J (aa (bv (X:=Unit) (fun _=>True) (fun _=> [(1,Pt b1),(3,.bool (decide (t.kind=1) || decide (t.kind=2))),(4,I6 (if t.kind=3 then 2 else 1)),(5,I6 (if t.kind=4 then 2 else if t.kind=5 then 1 else 0))]) (fun _=> [(1,aO b1 64 (iR t))]) (fun _=> [(0,cx t.ve t.es),(1,ck t.vb t.body),(2,ck t.vl t.els),(3,sl 4 gk (sv t.ve) t.es),(4,sl 5 iR (sv t.vb) t.body),(5,sl 5 iR (sv t.vl) t.els)]) ?_ (fun _ _=> ?_))))
  ·refine am (aA iA J (aL 1 t3 J J J J (aa (aC (am (ap J J bj (ao J (aa (ai J (fun h5=> ?_) (fun h5=> ?_))))))))))
   ·have q4:t.kind=4:=df h5;refine aj (ao J (aa (aI () O (by rw [ak q4];rfl) J J)))
   ·have q4:¬t.kind=4:=e9 h5;refine am (ap J J bj (ao J (aa (ai J (fun h6=> ?_) (fun h6=> ?_)))))
    ·have q5:t.kind=5:=df h6;refine aj (ao J (aa (aI () O (by rw [ac q4,ak q5];rfl) J J)))
    ·have q5:¬t.kind=5:=e9 h6;refine az (aI () O (by rw [ac q4,ac q5];rfl) J J)
  ·refine am (aA iA J (aL 1 t3 J J J J (ap J J fp (ab J (aF [] J J O (fun hg7=>ah iA J) J (aF [(27,_)] J J ⟨J,O⟩ (fun hg8=>ag t3 J J (aB (k:=1) J J)) J (aF [(27,_),(28,_)] J J ⟨J,J,O⟩ (fun hg9=>aS J J ki) J (aJ (bD J J J) (ab J (aF [] J J O (fun hg10=>ah nf J) J (aF [(32,_)] J J ⟨J,O⟩ (fun hg11=>ag n9 J J (aB (k:=1) J J)) J (aF [(32,_),(33,_)] J J ⟨J,J,O⟩ (fun hg12=>aZ underlying59 J (aP (k:=3) J)) J (aF [(32,_),(33,_),(34,_)] J J ⟨J,J,J,O⟩ (fun hg13=>aV J) J (aF [(32,_),(33,_),(34,_),(35,_)] J J ⟨J,J,J,J,O⟩ (fun hg14=>aS J J bj) J (aJ (bD J J J) (ab J (aF [] J J O (fun hg15=>aV J) J (aF [(39,_)] J J ⟨J,O⟩ (fun hg16=>aV J) J ?_))))))))))))))))))
   refine c_ [] [(39,_),(40,_)] J J O ⟨J,J,O⟩ (fun hg17 hg17'=>ah lB J) J (c_ [(41,_)] [(39,_),(40,_)] J J ⟨J,O⟩ ⟨J,J,O⟩ (fun hg18 hg18'=>ag t9 J J (aB (k:=1) J J)) J (BA [(41,_),(42,_)] [(39,_),(40,_)] J J ⟨J,J,O⟩ ⟨J,J,O⟩ (fun hg19 hg19'=>ia (xs:= [.tmp 42]) (iv t.name hnm.1 hnm.2) vE [] [] [] [] J J J J J J J J (fun _ _=>J) (fun _ _ _=>J)) J (aF [(39,_),(40,_)] J J ⟨J,J,O⟩ (fun hg20=>em J J J (by first|exact dZ|exact eK|exact dm hg20|exact dY hg20|rfl)) J (aF [(39,_),(40,_),(44,_)] J J ⟨J,J,J,O⟩ (fun hg21=>aV J) J (c_ [] [(39,_),(40,_),(44,_),(45,_)] J J O ⟨J,J,J,J,O⟩ (fun hg22 hg22'=>aV J) J (c_ [(46,_)] [(39,_),(40,_),(44,_),(45,_)] J J ⟨J,O⟩ ⟨J,J,J,J,O⟩ (fun hg23 hg23'=>cZ J) J (c_ [(46,_),(47,_)] [(39,_),(40,_),(44,_),(45,_)] J J ⟨J,J,O⟩ ⟨J,J,J,J,O⟩ (fun hg24 hg24'=>aV J) J (c_ [] [(46,_),(47,_),(48,_)] J J O ⟨J,J,J,O⟩ (fun hg25 hg25'=>ah lB J) J (c_ [(49,_)] [(46,_),(47,_),(48,_)] J J ⟨J,O⟩ ⟨J,J,J,O⟩ (fun hg26 hg26'=>ag t9 J J (aB (k:=1) J J)) J (c_ [(49,_),(50,_)] [(46,_),(47,_),(48,_)] J J ⟨J,J,O⟩ ⟨J,J,J,O⟩ (fun hg27 hg27'=>aS J J eV) J (c_ [(46,_),(47,_),(48,_)] [(39,_),(40,_),(44,_),(45,_)] J J ⟨J,J,J,O⟩ ⟨J,J,J,J,O⟩ (fun hg28 hg28'=>em J J J (by first|exact dZ|exact eK|exact dm hg28|exact dY hg28|exact dm (GJ hg28 hg28')|exact dY (GJ hg28 hg28')|rfl)) J (aF [(39,_),(40,_),(44,_),(45,_)] J J ⟨J,J,J,J,O⟩ (fun hg29=>em J J J (by first|exact dZ|exact eK|exact dm hg29|exact dY hg29|rfl)) J (aJ (bD J J J) (ab J (aF [] J J O (fun hg30=>aV J) J (aF [(56,_)] J J ⟨J,O⟩ (fun hg31=>aS J J ge) J (aF [(56,_),(57,_)] J J ⟨J,J,O⟩ (fun hg32=>aV J) J ?_)))))))))))))))))
   refine c_ [] [(56,_),(57,_),(58,_)] J J O ⟨J,J,J,O⟩ (fun hg33 hg33'=>ah jt J) J (c_ [(59,_)] [(56,_),(57,_),(58,_)] J J ⟨J,O⟩ ⟨J,J,J,O⟩ (fun hg34 hg34'=>ag n8 J J (aB (k:=1) J J)) J (c_ [(59,_),(60,_)] [(56,_),(57,_),(58,_)] J J ⟨J,J,O⟩ ⟨J,J,J,O⟩ (fun hg35 hg35'=>aZ underlying62 J (aP (k:=4) J)) J (c_ [(59,_),(60,_),(61,_)] [(56,_),(57,_),(58,_)] J J ⟨J,J,J,O⟩ ⟨J,J,J,O⟩ (fun hg36 hg36'=>aS J J bj) J (aF [(56,_),(57,_),(58,_)] J J ⟨J,J,J,O⟩ (fun hg37=>em J J J (by first|exact dZ|exact eK|exact dm hg37|exact dY hg37|rfl)) J (aJ (bD J J J) (ab J (aF [] J J O (fun hg38=>aV J) J (aF [(66,_)] J J ⟨J,O⟩ (fun hg39=>aS J J ge) J (aF [(66,_),(67,_)] J J ⟨J,J,O⟩ (fun hg40=>aV J) J (c_ [] [(66,_),(67,_),(68,_)] J J O ⟨J,J,J,O⟩ (fun hg41 hg41'=>ah jr J) J (c_ [(69,_)] [(66,_),(67,_),(68,_)] J J ⟨J,O⟩ ⟨J,J,J,O⟩ (fun hg42 hg42'=>ag n8 J J (aB (k:=1) J J)) J (c_ [(69,_),(70,_)] [(66,_),(67,_),(68,_)] J J ⟨J,J,O⟩ ⟨J,J,J,O⟩ (fun hg43 hg43'=>aZ underlying62 J (aP (k:=5) J)) J (c_ [(69,_),(70,_),(71,_)] [(66,_),(67,_),(68,_)] J J ⟨J,J,J,O⟩ ⟨J,J,J,O⟩ (fun hg44 hg44'=>aS J J bj) J (aF [(66,_),(67,_),(68,_)] J J ⟨J,J,J,O⟩ (fun hg45=>em J J J (by first|exact dZ|exact eK|exact dm hg45|exact dY hg45|rfl)) J (aJ (bD J J J) (ab J (aF [] J J O (fun hg46=>ah nf J) J (aF [(76,_)] J J ⟨J,O⟩ (fun hg47=>ag n9 J J (aB (k:=1) J J)) J (i7 [(76,_),(77,_)] J J ⟨J,J,O⟩ (fun hg48=>ia (xs:= [.tmp 77,.func 187]) (r6 t.ve t.es hel 187 [] (cx t.ve t.es) (fun u=> !rX u) Lm (fun u hu=>Bu t.ve t.es (fun u hu=>En u (heg.mem u hu)) u hu)) Gr [] [(false,3),(false,0)] [] [] J J J J J J J J (fun _ _=>J) (fun _ _ _=>J)) J ?_)))))))))))))))))))
   refine aF [(76,_),(77,_),(78,_)] J J ⟨J,J,J,O⟩ (fun hg49=>cZ J) J (aJ (bD J J J) (ab J (aF [] J J O (fun hg50=>ah jt J) J (aF [(82,_)] J J ⟨J,O⟩ (fun hg51=>ag n8 J J (aB (k:=1) J J)) J (i7 [(82,_),(83,_)] J J ⟨J,J,O⟩ (fun hg52=>ia (xs:= [.tmp 83]) (mT t.vb t.body hbl ihb) Dp [] [(false,1)] [] [] J J J J J J J J (fun _ _=>J) (fun _ _ _=>J)) J (aJ (bD J J J) (ab J (aF [] J J O (fun hg53=>ah jr J) J (aF [(87,_)] J J ⟨J,O⟩ (fun hg54=>ag n8 J J (aB (k:=1) J J)) J (i7 [(87,_),(88,_)] J J ⟨J,J,O⟩ (fun hg55=>ia (xs:= [.tmp 88]) (mT t.vl t.els hll ihl) Dp [] [(false,2)] [] [] J J J J J J J J (fun _ _=>J) (fun _ _ _=>J)) J (aJ (bD J J J) (ao J (aa (ar (aG () O J (bU (aD J)) (congrArg Value.bool (JQ t).symm) [] [] J J J)))))))))))))))
theorem ww:∀(n:Nat)(t:Ty),SizeOf.sizeOf t<n→GY t→aN prog 163 [yV t] [] [cx t.ve t.es,ck t.vb t.body,ck t.vl t.els] (.bool (rY t)) []
 | 0,_,h,_=>absurd h (Nat.not_lt_zero _)
 | n+1,t,h,ht=>Ek t ht (fun u hu=>ww n u (by have:=qFS (.inl hu);omega) ((gw ht).2.mem u hu)) (fun u hu=>ww n u (by have:=qFS (.inr hu);omega) ((iV ht).2.mem u hu))
theorem El(t:Ty)(ht:GY t):aN prog 163 [yV t] [] [cx t.ve t.es,ck t.vb t.body,ck t.vl t.els] (.bool (rY t)) []:=ww _ t (Nat.lt_succ_self _) ht
theorem sE(s:Ba)(hs:F5 s):
  aN prog 121 [Sg s] [] [] (.bool (!dD s)) []:=by
 refine ay func121 J ntmps121 J fun w0 M H=>am (ao J (aw J (ab J (ae (xs:= [.tmp 3]) (iv s hs.1 hs.2) vE [] [] [] (fun _ _=>aJ (cZ J) (ao J (aa (ar (aG () O J (bU (aD J)) J [] [] J J J)))))))))
theorem uj(f:Tf)(fs:List Tf)(hf:f∈fs)(hg:GF f):
  aN prog 119 [Ja f] [] [Fu fs] (.bool (!rF f)) []:=by
 refine ay func119 J ntmps119 J fun w0 M H=>bx 0 1 J (KJ hf) (bx 1 2 J tX (bx 1 3 J sk ?_))
 obtain⟨g1,g2,g3,g4,g5,g6⟩:=hg;refine am (cB J J fun b1=>ao J (aw J (aA fR J (aL 1 oO J J J J (ae (xs:= [.tmp 5,.func 121]) (AC f.vp f.ps g3 121 (fun s=> !dD s) LU (fun s hs=>sE s (g2 s hs))) LV [] [(false,2)] [] (fun _ _=>ao J (aw J (ab J (ab J (aF [] J J O (fun hg1=>ah na J) J (aF [(9,_)] J J ⟨J,O⟩ (fun hg2=>ag t9 J J (aB (k:=1) J J)) J (i7 [(9,_),(10,_)] J J ⟨J,J,O⟩ (fun hg3=>ia (xs:= [.tmp 10]) (iv f.name g1.1 g1.2) vE [] [] [] [] J J J J J J J J (fun _ _=>J) (fun _ _ _=>J)) J (aF [(9,_),(10,_),(11,_)] J J ⟨J,J,J,O⟩ (fun hg4=>cZ J) J ?_)))))))))))));refine aJ (bD J J J) (ab J (aF [] J J O (fun hg5=>ah m_ J) J (aF [(15,_)] J J ⟨J,O⟩ (fun hg6=>ag n8 J J (aB (k:=1) J J)) J (i7 [(15,_),(16,_)] J J ⟨J,J,O⟩ (fun hg7=>ia (xs:= [.tmp 16]) (mT f.vb f.body g4 (fun u hu=>El u (g5.mem u hu))) Dp [] [(false,3)] [] [] J J J J J J J J (fun _ _=>J) (fun _ _ _=>J)) J (aF [(15,_),(16,_),(17,_)] J J ⟨J,J,J,O⟩ (fun hg8=>cZ J) J (aJ (bD J J J) (ao J (aa (ar (aG () O J (bU (aD J)) (congrArg Value.bool (JS f)) [] [] J J J))))))))))
theorem wA(vp:SV)(fs:List Tf)(hg:GP fs):
  aN prog 81 [.agg #[sv vp]] [] [fD vp fs] (.bool (rP fs)) []:=by
 refine ay func81 J ntmps81 J fun w0 M H=>bx 0 1 J sj (bx 0 2 J D_ (am (cB J J fun b1=>ao J (aw J (aA iB J (aL 1 Bb J J J J (ae (xs:= [.tmp 4,.func 119]) (AD vp fs hg.1 119 [] (Fu fs) (fun f=> !rF f) LW (fun f hf=>uj f fs hf (hg.2 f hf))) LX [] [(false,1),(false,2)] [] (fun _ _=>aJ (cZ J) (ao J (aa (ar (aG () O J (bU (aD J)) (congrArg Value.bool (fT rF fs)) [] [] J J J))))))))))))
def cR(vp vn:SV)(nd va:Int)(dp:Bool)(er:Int):List Value:= [sv vp,sv vn,I6 nd,I6 va,.bool dp,I6 er]
theorem cm{α:Type}{l:List α}{i:Nat}{k:α}(h:l[i]?=some k):l.take (i+1)=l.take i++ [k]:=by
 obtain⟨hi,hk⟩:=cA.1 h;rw [List.take_add_one,bO hi,hk];rfl
theorem s8:∀(a b:List Tx),fO (a++b)=fO a+fO b
 | [],b=>by simp [fO]
 | t::r,b=>by simp [fO,s8 r b,Nat.add_assoc]
theorem zj:∀(a b:List Tx),gN (a++b)=max (gN a) (gN b)
 | [],b=>by simp [gN]
 | t::r,b=>by simp [gN,zj r b,Nat.max_assoc]
theorem s7:∀(a b:List Ty),ef (a++b)=ef a+ef b
 | [],b=>by simp [ef]
 | t::r,b=>by simp [ef,s7 r b,Nat.add_assoc]
theorem nU:∀(a b:List Ty),dF (a++b)=dF a+dF b
 | [],b=>by simp [dF]
 | t::r,b=>by simp [dF,nU r b,Nat.add_assoc]
theorem vk(d:Nat):∀(a b:List Ty),de d (a++b)=(de d a || de d b)
 | [],b=>by simp [de]
 | t::r,b=>by simp [de,vk d r b,Bool.or_assoc]
theorem EL(t:Tx):fO [t]=nX t:=by simp [fO]
theorem Fz(t:Tx):gN [t]=dX t:=by simp [gN]
theorem EK(t:Ty):ef [t]=nY t:=by simp [ef]
theorem DY(t:Ty):dF [t]=vY t:=by simp [dF]
theorem C0(d:Nat)(t:Ty):de d [t]=DO d t:=by simp [de]
theorem uD(t:Tx):nX t=fO t.kids+1:=by cases t;rfl
theorem KQ(t:Tx):dX t=gN t.kids+1:=by cases t;rfl
theorem F6(t:Ty):nY t=1+fO t.es+ef t.body+ef t.els:=by cases t;rfl
theorem A7(t:Ty):vY t=(if t.kind=1 then 1 else 0)+dF t.body+dF t.els:=by cases t;rfl
theorem Iy(d:Nat)(t:Ty):DO d t=(decide (d>8) || decide (gN t.es>8) || de (d+1) t.body || de (d+1) t.els):=by cases t;rfl
theorem kb{l:List Tx}{i:Nat}{k:Tx}(h:l[i]?=some k):fO (l.take (i+1))=fO (l.take i)+nX k:=by rw [cm h,s8,EL]
theorem qs{l:List Tx}{i:Nat}{k:Tx}(h:l[i]?=some k):gN (l.take (i+1))=max (gN (l.take i)) (dX k):=by rw [cm h,zj,Fz]
theorem wV:∀(l:List Tx)(i:Nat),fO (l.take i)≤fO l:=fun l i=>by
 have h:=s8 (l.take i) (l.drop i);rw [List.take_append_drop]at h;omega
theorem wT:∀(l:List Ty)(i:Nat),ef (l.take i)≤ef l:=fun l i=>by
 have h:=s7 (l.take i) (l.drop i);rw [List.take_append_drop]at h;omega
theorem pr{l:List Ty}{i:Nat}{k:Ty}(h:l[i]?=some k):ef (l.take (i+1))=ef (l.take i)+nY k:=by rw [cm h,s7,EK]
theorem lT{l:List Ty}{i:Nat}{k:Ty}(h:l[i]?=some k):dF (l.take (i+1))=dF (l.take i)+vY k:=by rw [cm h,nU,DY]
theorem Az{d:Nat}{l:List Ty}{i:Nat}{k:Ty}(h:l[i]?=some k):de d (l.take (i+1))=(de d (l.take i) || DO d k):=by rw [cm h,vk,C0]
mutual
theorem C9:∀t:Tx,dX t≤nX t
 | .mk _ _ _ _ kids=>by
  have:=C6 kids;rw [dX,nX];omega
theorem C6:∀l:List Tx,gN l≤fO l
 | []=>bM _
 | t::r=>by
  have h1:=C9 t;have h2:=C6 r;rw [gN,fO];omega
end
mutual
theorem FR:∀t:Ty,vY t≤nY t
 | .mk k _ _ _ _ body _ els=>by
  have h1:=jR body;have h2:=jR els;rw [vY,nY];split<;>omega
theorem jR:∀l:List Ty,dF l≤ef l
 | []=>bM _
 | t::r=>by
  have h1:=FR t;have h2:=jR r;rw [dF,ef];omega
end
theorem Dr(a b:Nat):((max a b:Nat):Int)=max (a:Int) (b:Int):=by omega
theorem zh{a b:Nat}:(decide (a>8) || decide (b>8))=decide (max a b>8):=by
 by_cases h:a>8
 ·have:max a b>8:=by omega
  simp [h,this]
 ·by_cases h2:b>8
  ·have:max a b>8:=by omega
   simp [h2,this]
  ·have:¬max a b>8:=by omega
   simp [h,h2,this]
theorem iD(c:Nat)(vp vn:SV)(nd va:Int)(dp:Bool)(er:Int)(e:Int):
  aN prog 127 [Pt c,I6 e] [aO c 165 (cR vp vn nd va dp er)] [] (.tuple #[]) [aO c 165 (cR vp vn nd va dp (fst er e))]:=by
 refine ay func127 J ntmps127 J fun w0 M H=>am (ab J (bq J (aA tv J (aL 0 zA J J J J (ap J J bj (aa (ai J (fun h1=> ?_) (fun h1=> ?_))))))))
 ·have h0:er=0:=df h1;have hfs:fst er e=e:=ak h0;refine aj (ab J (ab J (bq J (aA tv J (ax (k:=0) zA J J J J J J J J (aa ?_))))));rw [hfs];refine bP () O J fw J [0] [] J J J
 ·have h0:¬er=0:=e9 h1;have hfs:fst er e=er:=ac h0;refine az ?_;rw [hfs];refine bP () O J fw J [0] [] J J J
theorem In(er z:Int)(b:Bool)(h:b=true):fst er (if b=true then z else 0)=fst er z:=by rw [ak h]
theorem Fd(er z:Int)(b:Bool)(h:b=false):fst er (if b=true then z else 0)=er:=by rw [ac (by rw [h];simp),dJ]
theorem Fe(er z:Int)(b:Bool)(h:b=true):fst er (if b=true then 0 else z)=er:=by rw [ak h,dJ]
theorem CM(er z:Int)(b:Bool)(h:b=false):fst er (if b=true then 0 else z)=fst er z:=by rw [ac (by rw [h];simp)]
theorem rZ(c:Nat)(vp vn:SV)(nd va:Int)(dp:Bool)(er:Int)(ns:List Ba)(hn:ns.length≤1000000)(s:Ba):
  aN prog 165 [Pt c,Sg s] [aO c 165 (cR vp vn nd va dp er),own 9 1 eS (sv vn) ns] [] (.tuple #[]) [aO c 165 (cR vp vn nd va dp (fst er (if cU s ns=true then 0 else 21))),own 9 1 eS (sv vn) ns]:=by
 refine ay func165 J ntmps165 J fun w0 M H=>am (ab J (bq J (aA mx J (aL 0 oO J J J J (ab J (ae (xs:= [.tmp 7,.tmp 8]) (Spec.ro1 (gu vn ns (by omega) s) bI) zl [] [(true,1)] [] (fun _ _=>aJ (cZ J) (aa (ai J (fun h1=> ?_) (fun h1=> ?_))))))))))
 ·have h0:cU s ns=false:=by simpa using h1
  rw [CM _ _ _ h0];refine aj (ab J (ae (xs:= [.tmp 11,.const (I6 21)]) (iD c vp vn nd va dp er 21) vD [0] [] [0] (fun _ _=>aa (bP () O J fw J [0,1] [] J J J))))
 ·have h0:cU s ns=true:=by simpa using h1
  rw [Fe _ _ _ h0];refine az (bP () O J fw J [0,1] [] J J J)
theorem qy(c:Nat)(vp vn:SV)(nd va:Int)(dp:Bool)(er:Int)(ns:List Ba)(hn:ns.length≤1000000)(s:Ba):
  Spec prog 128 [Pt c,Sg s] [aO c 165 (cR vp vn nd va dp er),own 9 1 eS (sv vn) ns] [] (X:=SV) (fun _=>True) (fun _=> .tuple #[]) (fun v=> [aO c 165 (cR vp v nd va dp (fst er (if cU s ns=true then 22 else 0))),own 9 1 eS (sv v) (ns++ [s])]) (fun _=> []):=by
 refine ay func128 J ntmps128 J fun w0 M H=>bv (X:=Unit) (fun _=>True) (fun _=> [(0,Pt c),(1,Sg s)]) (fun _=> [(0,aO c 165 (cR vp vn nd va dp (fst er (if cU s ns=true then 22 else 0)))),(1,own 9 1 eS (sv vn) ns)]) (fun _=> []) ?_ (fun _ _=> ?_)
 ·refine am (ab J (bq J (aA mx J (aL 0 oO J J J J (ab J (ae (xs:= [.tmp 7,.tmp 8]) (Spec.ro1 (gu vn ns (by omega) s) bI) zl [] [(true,1)] [] (fun _ _=>aa (ai J (fun h1=> ?_) (fun h1=> ?_)))))))))
  ·have h0:cU s ns=true:=h1;rw [In _ _ _ h0];refine aj (ab J (ae (xs:= [.tmp 10,.const (I6 22)]) (iD c vp vn nd va dp er 22) vD [0] [] [0] (fun _ _=>aa (aI () O J J J))))
  ·have h0:cU s ns=false:=h1;rw [Fd _ _ _ h0];refine az (aI () O J J J)
 ·refine aj (ab J (ab J (bq J (aA mx J (aL 0 oO J J J J (ab J (bH eS _ underlying46 t9 J (by decide) (by decide) J J J J fun v18=>gB 1 underlying46 t9 J (by decide) (fun _=>J) (fun _=>J) J J J (bp (k:=18) J) (by first|omega|(simp;done)|(simp;omega)) (by unfold maxLen;first|omega|(simp;done)|(simp;omega)) J fun v19=>bq J (aA mx J (ax (k:=0) oO J J J J J J J J (aa (bP v19 O J fw J [0,1] [] J J J)))))))))))
theorem xx(f:Tf)(b:Nat)(s:Ba):
  aN prog 125 [Ja f,Pt b] [] [aO b 9 [Sg s]] (.bool (decide (f.name=s))) []:=by
 refine ay func125 J ntmps125 J fun w0 M H=>am (cB J J fun b2=>ao J (aw J (aA na J (aL 2 t9 J J J J (aJ (ag t9 J J (cM (k:=0) J J)) (ap J J eV (ao J (aa (ar (aG () O J (bU (aD J)) (congrArg Value.bool (gn _ _)) [] [] J J J))))))))))
theorem lI(c:Nat)(vp vn:SV)(nd va:Int)(dp:Bool)(er:Int)(s:Ba)(fs:List Tf)(hf:fs.length≤1000000):
  aN prog 82 [Pt c,Sg s] [aO c 165 (cR vp vn nd va dp er)] [sl 3 oE (sv vp) fs] (I6 (xu fs s)) [aO c 165 (cR vp vn nd va dp er)]:=by
 refine ay func82 J ntmps82 J fun w0 M H=>am (mU J J J fun b3=>ao J (aw J (ab J (bq J (aA y9 J (aA iB J (aL 0 Bb J J J J (aJ (d5 (first:= []) (cap:= [.tmp 3]) J J) (ct (xs:= [.tmp 9,.tmp 10]) (uP vp fs hf 125 [Pt b3] (aO b3 9 [Sg s]) (fun f=>decide (f.name=s)) LT (fun f _=>xx f b3 s)) GG [] [(false,0),(true,3)] [] J J J (fun _ _=>ao J (aa (ar (aG () O J (bU (aD J)) J [0] [] J J J)))))))))))))
theorem Af(c:Nat)(vp vn:SV)(va er:Int)(t:Tx)(ht:GX t)(ih:∀u∈t.kids,∀(nd:Int)(dp:Bool),0≤nd→nd+(nX u:Int)≤1000000000000→Spec prog 164 [Pt c,xV u] [aO c 165 (cR vp vn nd va dp er)] [cx u.v u.kids] (X:=Unit) (fun _=>True) (fun _=>I6 (dX u:Int)) (fun _=> [aO c 165 (cR vp vn (nd+(nX u:Int)) va (dp || decide (dX u>8)) er)]) (fun _=> []))(nd:Int)(dp:Bool)(h0:0≤nd)(hn:nd+(nX t:Int)≤1000000000000):
  aN prog 164 [Pt c,xV t] [aO c 165 (cR vp vn nd va dp er)] [cx t.v t.kids] (I6 (dX t:Int)) [aO c 165 (cR vp vn (nd+(nX t:Int)) va (dp || decide (dX t>8)) er)]:=by
 refine ay func164 J ntmps164 J fun w0 M H=> ?_
 have hkl:=tM ht;have hnx:=uD t;have hdx:=KQ t;have hdn:=C9 t;refine bx 0 1 J jU (am (cB J J fun b3=>ao J (aw J (ab J (bq J (aA kA J (aL 0 t3 J J J J (ap J J aY (bq J (aA kA J (ax (k:=0) t3 J J J J J J J J (aw J (ao J ?_)))))))))))));refine aa (aR (aA eZ J (aL 3 n9 J J J J (aJ (aZ underlying59 J (aP (k:=1) J)) (ab J (aa (aC ?_)))))));refine bC (X:=Nat) (fun i=>i≤t.kids.length) (fun i=> [(0,Pt c),(3,Pt b3),(5,I6 (gN (t.kids.take i):Int)),(16,sv t.v),(17,I6 (t.kids.length:Int)),(18,I6 (i:Int))]) (fun i=> [(0,aO c 165 (cR vp vn (nd+1+(fO (t.kids.take i):Int)) va (dp || decide (gN (t.kids.take i)>8)) er)),(3,aO b3 61 (gk t))]) (fun i=> [(0,cx t.v t.kids),(1,sl 4 gk (sv t.v) t.kids)]) (fun i=>t.kids.length-i) 0 (bE _) J (by rw [show(dp || decide (gN (t.kids.take 0)>8))=dp by simp [gN],show nd+1+(fO (t.kids.take 0):Int)=nd+1 by simp [fO]];rfl) J (fun i n1=> ?_);refine am (ap J J cG (aa (aT (ai J (fun h1=> ?_) (fun h1=> ?_)))))
 ·(try simp only [aX]at h1);have hi:i<t.kids.length:=by omega
  obtain⟨kid,hkid⟩:∃k,t.kids[i]?=some k:=⟨_,bO hi⟩
  have hkm:=cO hkid;have hle:=wV t.kids (i+1);rw [kb hkid]at hle;refine az (aT (aC (am (aJ (aQ (j:=i) underlying59 dr J J (aP (k:=1) J) (by first|rfl|omega) (by first|omega|(simp;done)|(simp;omega))) (aJ (aM dr J J J (ci (aP (k:=1) J) (by intro _;rfl) hkid (by rfl))) (aU dr J J fun b7=>aq (k:=7) dr J J J J J J (aa (aj (ab J (ab J (aJ (aM dr J J J (bh (k:=7) J)) (bx 0 8 J (ft hkm) (ae (xs:= [.tmp 23,.tmp 24]) (ih kid hkm (nd+1+(fO (t.kids.take i):Int)) (dp || decide (gN (t.kids.take i)>8)) (by omega) (by omega)) Gx [0] [(false,8)] [0] (fun _ _=>aJ (nC J J J) (ao J (aa (aj ?_)))))))))))))))));refine ap J J aY (ab J (aa ?_));refine aI (i+1) ⟨by omega,by omega⟩ (by rw [qs hkid,Dr];rfl) (by rw [qs hkid,kb hkid,←zh,←Bool.or_assoc,Int.natCast_add,←Int.add_assoc];rfl) J
 ·(try simp only [aX]at h1);have hi:i=t.kids.length:=by omega
  subst hi;rw [eA];refine bF (am (ab J (ab J (bq J (aA mu J (aL 0 t4 J J J J (ab J (aF [] J J O (fun hg2=>aV J) J (aF [(34,_)] J J ⟨J,O⟩ (fun hg3=>aS J J aY) J (aF [(34,_),(35,_)] J J ⟨J,J,O⟩ (fun hg4=>aS J J ge) J (aJ (bD J J J) (bq J (aA mu J (ax (k:=0) t4 J J J J J J J J (aw J (ab J ?_))))))))))))))));refine ap J J aY (ao J (aa (ar ?_)));have hfin:cR vp vn (nd+1+(fO t.kids:Int)) va (dp || decide (gN t.kids>8) || decide ((gN t.kids:Int)+1>8)) er=cR vp vn (nd+(nX t:Int)) va (dp || decide (dX t>8)) er:=by
   rw [hnx,hdx];have e1:nd+1+(fO t.kids:Int)=nd+((fO t.kids+1:Nat):Int):=by omega
   have e2:(dp || decide (gN t.kids>8) || decide ((gN t.kids:Int)+1>8))=(dp || decide (gN t.kids+1>8)):=by
    rw [Bool.or_assoc]
    congr 1
    by_cases h:gN t.kids+1>8
    ·have h2:(gN t.kids:Int)+1>8:=by omega
     simp [h,h2]
    ·have h2:¬(gN t.kids:Int)+1>8:=by omega
     have h3:¬gN t.kids>8:=by omega
     simp [h,h2,h3]
   rw [e1,e2]
  rw [←hfin];refine aG () O J (bU (aD J)) (by rw [hdx];rfl) [0] [] J J J
theorem uK(c:Nat)(vp vn:SV)(va er:Int):∀(n:Nat)(t:Tx),SizeOf.sizeOf t<n→GX t→∀(nd:Int)(dp:Bool),0≤nd→nd+(nX t:Int)≤1000000000000→aN prog 164 [Pt c,xV t] [aO c 165 (cR vp vn nd va dp er)] [cx t.v t.kids] (I6 (dX t:Int)) [aO c 165 (cR vp vn (nd+(nX t:Int)) va (dp || decide (dX t>8)) er)]
 | 0,_,h,_=>absurd h (Nat.not_lt_zero _)
 | n+1,t,h,ht=>fun nd dp h0 hn=>Af c vp vn va er t ht (fun u hu=>uK c vp vn va er n u (by have:=x8 hu;omega) ((oG ht).mem u hu)) nd dp h0 hn
theorem Ag(c:Nat)(vp vn:SV)(va er:Int)(t:Tx)(ht:GX t)(nd:Int)(dp:Bool)(h0:0≤nd)(hn:nd+(nX t:Int)≤1000000000000):aN prog 164 [Pt c,xV t] [aO c 165 (cR vp vn nd va dp er)] [cx t.v t.kids] (I6 (dX t:Int)) [aO c 165 (cR vp vn (nd+(nX t:Int)) va (dp || decide (dX t>8)) er)]:=uK c vp vn va er _ t (Nat.lt_succ_self _) ht nd dp h0 hn
def Mr(c:Nat)(vp vn:SV)(er:Int)(v:SV)(l:List Ty):Prop:=∀(d:Nat)(nd va:Int)(dp:Bool),d+ef l≤1000000000000→0≤nd→nd+(ef l:Int)≤1000000000000→0≤va→va+(dF l:Int)≤1000000000000→
 aN prog 126 [Pt c,sv v,I6 (d:Int)] [aO c 165 (cR vp vn nd va dp er)] [ck v l] (.tuple #[]) [aO c 165 (cR vp vn (nd+(ef l:Int)) (va+(dF l:Int)) (dp || de d l) er)]
theorem Hy(p q a b c d:Bool):(p || q || a || b || c || d)=(p || (q || (a || b || c || d))):=by cases p<;>cases q<;>rfl
theorem xF(c:Nat)(vp vn:SV)(er:Int)(v:SV)(l:List Ty)(hl:l.length≤1000000)(hg:GYs l)(ih:∀u∈l,Mr c vp vn er u.vb u.body∧Mr c vp vn er u.vl u.els)(d:Nat)(nd va:Int)(dp:Bool)(hd:d+ef l≤1000000000000)(h0:0≤nd)(hn:nd+(ef l:Int)≤1000000000000)(h1:0≤va)(hv:va+(dF l:Int)≤1000000000000):
  aN prog 126 [Pt c,sv v,I6 (d:Int)] [aO c 165 (cR vp vn nd va dp er)] [ck v l] (.tuple #[]) [aO c 165 (cR vp vn (nd+(ef l:Int)) (va+(dF l:Int)) (dp || de d l) er)]:=by
 refine ay func126 J ntmps126 J fun w0 M H=>bx 0 1 J jS (am (ab J (aJ (aZ underlying62 J (aP (k:=1) J)) (ab J (aa (aC ?_))))))
 refine bC (X:=Nat) (fun i=>i≤l.length) (fun i=> [(0,Pt c),(2,I6 (d:Int)),(10,sv v),(11,I6 (l.length:Int)),(12,I6 (i:Int))]) (fun i=> [(0,aO c 165 (cR vp vn (nd+(ef (l.take i):Int)) (va+(dF (l.take i):Int)) (dp || de d (l.take i)) er))]) (fun i=> [(0,ck v l),(1,sl 5 iR (sv v) l)]) (fun i=>l.length-i) 0 (bE _) J (by rw [show(dp || de d (l.take 0))=dp by simp [de],show nd+(ef (l.take 0):Int)=nd by simp [ef],show va+(dF (l.take 0):Int)=va by simp [dF]];rfl) J (fun i n1=> ?_);refine am (ap J J cG (aa (aT (ai J (fun h1=> ?_) (fun h1=> ?_)))))
 ·(try simp only [aX]at h1);have hi:i<l.length:=by omega
  obtain⟨st,hst⟩:∃k,l[i]?=some k:=⟨_,bO hi⟩
  have hsm:=cO hst;have hsy:=hg.mem st hsm;have hsg:=vP hsy;have hle:=wT l (i+1);rw [pr hst]at hle;have hny:=F6 st;have hvy:=FR st;have hvl:=jR l;have hva:=jR (l.take i);have hvb:=jR st.body;have hvs:=jR st.els;have hnl:=wT l i;have hvy2:(vY st:Int)=(if st.kind=1 then 1 else 0:Int)+(dF st.body:Int)+(dF st.els:Int):=by
   rw [A7];split<;>omega
  have hki:0≤(if st.kind=1 then 1 else 0:Int)∧(if st.kind=1 then 1 else 0:Int)≤1:=by split<;>omega
  have hvv:(dF (l.take i):Int)+(vY st:Int)≤(dF l:Int):=by
   have h:=nU (l.take (i+1)) (l.drop (i+1));rw [List.take_append_drop,lT hst]at h;omega
  refine bx 0 7 J (sh hsm) (bx 0 8 J (jT hsm) (bx 0 9 J (lV hsm) (bx 7 10 J jU (az (aT (aC (am (aJ (aQ (j:=i) underlying62 fE J J (aP (k:=1) J) (by first|rfl|omega) (by first|omega|(simp;done)|(simp;omega))) (aJ (aM fE J J J (ci (aP (k:=1) J) (by intro _;rfl) hst (by rfl))) (aU fE J J fun b7=>aq (k:=7) fE J J J J J J (aw J (ab J (bq J (aA kA J (aL 0 t3 J J J J ?_)))))))))))))));refine ap J J aY (bq J (aA kA J (ax (k:=0) t3 J J J J J J J J (aw J (ab J (ab J (bq J (aA mu J (aL 0 t4 J J J J (ab J (aF [] J J O (fun hg2=>aV J) J (aF [(29,_)] J J ⟨J,O⟩ (fun hg3=>aS J J ge) J (aJ (bD J J J) (bq J (aA mu J (ax (k:=0) t4 J J J J J J J J (aa ?_)))))))))))))))));refine bv (X:=Unit) (fun _=>True) (fun _=> [(0,Pt c),(2,I6 (d:Int)),(10,sv v),(11,I6 (l.length:Int)),(12,I6 (i:Int)),(7,Pt b7)]) (fun _=> [(0,aO c 165 (cR vp vn (nd+(ef (l.take i):Int)+1) (va+(dF (l.take i):Int)+(if st.kind=1 then 1 else 0:Int)) (dp || de d (l.take i) || decide (d>8)) er)),(7,aO b7 64 (iR st))]) (fun _=> [(0,ck v l),(1,sl 5 iR (sv v) l),(7,cx st.ve st.es),(8,ck st.vb st.body),(9,ck st.vl st.els),(10,sl 4 gk (sv st.ve) st.es)]) ?_ (fun _ _=> ?_)
  ·refine am (aA iA J (aL 7 t3 J J J J (ap J J bj (aa (ai J (fun h4=> ?_) (fun h4=> ?_))))))
   ·have q1:st.kind=1:=df h4;refine aj (ab J (bq J (aA oy J (aL 0 t3 J J J J (ap J J aY (bq J (aA oy J (ax (k:=0) t3 J J J J J J J J (aa (aI () O J (by rw [show decide (d>8)=decide ((d:Int)>8)from decide_eq_decide.2 (by omega),ak q1];rfl) J))))))))))
   ·have q1:¬st.kind=1:=e9 h4;refine az (aI () O J (by rw [show decide (d>8)=decide ((d:Int)>8)from decide_eq_decide.2 (by omega),ac q1,Int.add_zero];rfl) J)
  ·refine aR (aA nf J (aL 7 n9 J J J J (aJ (aZ underlying59 J (aP (k:=10) J)) (ab J (aa (aC ?_))))));refine bC (X:=Nat) (fun j=>j≤st.es.length) (fun j=> [(0,Pt c),(2,I6 (d:Int)),(10,sv v),(11,I6 (l.length:Int)),(12,I6 (i:Int)),(7,Pt b7),(45,sv st.ve),(46,I6 (st.es.length:Int)),(47,I6 (j:Int))]) (fun j=> [(0,aO c 165 (cR vp vn (nd+(ef (l.take i):Int)+1+(fO (st.es.take j):Int)) (va+(dF (l.take i):Int)+(if st.kind=1 then 1 else 0:Int)) (dp || de d (l.take i) || decide (d>8) || decide (gN (st.es.take j)>8)) er)),(7,aO b7 64 (iR st))]) (fun j=> [(0,ck v l),(1,sl 5 iR (sv v) l),(7,cx st.ve st.es),(8,ck st.vb st.body),(9,ck st.vl st.els),(10,sl 4 gk (sv st.ve) st.es)]) (fun j=>st.es.length-j) 0 (bE _) J (by rw [show(dp || de d (l.take i) || decide (d>8) || decide (gN (st.es.take 0)>8))=(dp || de d (l.take i) || decide (d>8)) by simp [gN],show nd+(ef (l.take i):Int)+1+(fO (st.es.take 0):Int)=nd+(ef (l.take i):Int)+1 by simp [fO]];rfl) J (fun j n2=> ?_);refine am (ap J J cG (aa (aT (ai J (fun h5=> ?_) (fun h5=> ?_)))))
   ·(try simp only [aX]at h5);have hj:j<st.es.length:=by omega
    obtain⟨kid,hkid⟩:∃k,st.es[j]?=some k:=⟨_,bO hj⟩
    have hkm:=cO hkid;have hlx:=wV st.es (j+1);rw [kb hkid]at hlx;have hdx:=C9 kid;refine az (aT (aC (am (aJ (aQ (j:=j) underlying59 dr J J (aP (k:=10) J) (by first|rfl|omega) (by first|omega|(simp;done)|(simp;omega))) (aJ (aM dr J J J (ci (aP (k:=10) J) (by intro _;rfl) hkid (by rfl))) (aU dr J J fun b9=>aq (k:=9) dr J J J J J J (aa (aj (ab J (aJ (aM dr J J J (bh (k:=9) J)) (bx 7 12 J (ft hkm) (ae (xs:= [.tmp 51,.tmp 52]) (Ag c vp vn (va+(dF (l.take i):Int)+(if st.kind=1 then 1 else 0:Int)) er kid (hsg.2.mem kid hkm) (nd+(ef (l.take i):Int)+1+(fO (st.es.take j):Int)) (dp || de d (l.take i) || decide (d>8) || decide (gN (st.es.take j)>8)) (by omega) (by omega)) Gx [0] [(false,12)] [0] (fun _ _=>aa (aj (ap J J aY (ab J (aa ?_)))))))))))))))));refine aI (j+1) ⟨by omega,by omega⟩ J (by rw [qs hkid,kb hkid,←zh,←Bool.or_assoc,Int.natCast_add,←Int.add_assoc];rfl) J
   ·(try simp only [aX]at h5);have hj:j=st.es.length:=by omega
    subst hj;rw [eA];refine bF (am (ab J (aA jt J (aL 7 n8 J J J J (ab J (ap J J aY (ae (xs:= [.tmp 55,.tmp 57,.tmp 59]) ((ih st hsm).1 (d+1) (nd+(ef (l.take i):Int)+1+(fO st.es:Int)) (va+(dF (l.take i):Int)+(if st.kind=1 then 1 else 0:Int)) (dp || de d (l.take i) || decide (d>8) || decide (gN st.es>8)) (by omega) (by omega) (by omega) (by omega) (by omega)) Do [0] [(false,8)] [0] (fun _ _=>aa (aj (ab J (aA jr J (aL 7 n8 J J J J (ab J (ap J J aY (ae (xs:= [.tmp 61,.tmp 63,.tmp 65]) ((ih st hsm).2 (d+1) (nd+(ef (l.take i):Int)+1+(fO st.es:Int)+(ef st.body:Int)) (va+(dF (l.take i):Int)+(if st.kind=1 then 1 else 0:Int)+(dF st.body:Int)) (dp || de d (l.take i) || decide (d>8) || decide (gN st.es>8) || de (d+1) st.body) (by omega) (by omega) (by omega) (by omega) (by omega)) Do [0] [(false,9)] [0] (fun _ _=>aa (aj (ap J J aY ?_))))))))))))))))));refine ab J (aa ?_);have hfin:cR vp vn (nd+(ef (l.take i):Int)+1+(fO st.es:Int)+(ef st.body:Int)+(ef st.els:Int)) (va+(dF (l.take i):Int)+(if st.kind=1 then 1 else 0:Int)+(dF st.body:Int)+(dF st.els:Int)) (dp || de d (l.take i) || decide (d>8) || decide (gN st.es>8) || de (d+1) st.body || de (d+1) st.els) er=cR vp vn (nd+(ef (l.take (i+1)):Int)) (va+(dF (l.take (i+1)):Int)) (dp || de d (l.take (i+1))) er:=by
     rw [pr hst,lT hst,Az hst,Iy,Hy]
     congr 1
     ·omega
     ·rw [Int.natCast_add,hvy2];omega
    refine aI (i+1) ⟨by omega,by omega⟩ J (by rw [←hfin];rfl) J
 ·(try simp only [aX]at h1);have hi:i=l.length:=by omega
  subst hi;rw [eA];refine bF (bP () O J fw J [0] [] J J J)
theorem nn(c:Nat)(vp vn:SV)(er:Int):∀(n:Nat)(v:SV)(l:List Ty),SizeOf.sizeOf l<n→l.length≤1000000→GYs l→Mr c vp vn er v l
 | 0,_,_,h,_,_=>absurd h (Nat.not_lt_zero _)
 | n+1,v,l,h,hl,hg=>xF c vp vn er v l hl hg fun u hu=>by
  have h1:=List.sizeOf_lt_of_mem hu;have h2:SizeOf.sizeOf u.body<SizeOf.sizeOf u∧SizeOf.sizeOf u.els<SizeOf.sizeOf u:=by
   cases u;simp only [Ty.mk.sizeOf_spec,Ty.body,Ty.els];omega
  have h3:=hg.mem u hu;exact⟨nn c vp vn er n u.vb u.body (by omega) (gw h3).1 (gw h3).2,nn c vp vn er n u.vl u.els (by omega) (iV h3).1 (iV h3).2⟩
theorem xG(c:Nat)(vp vn:SV)(er:Int)(v:SV)(l:List Ty)(hl:l.length≤1000000)(hg:GYs l):Mr c vp vn er v l:=nn c vp vn er _ v l (Nat.lt_succ_self _) hl hg
def nE(fs:List Tf)(ns:List Ba)(t:Tx):Int:=if t.kind=2 then(if cU t.name ns=true then 0 else 21)else if t.kind=3 then(match cK fs t.name with
   | none=>21
   | some f=>if f.ps.length=t.kids.length then 0 else 23)else 0
theorem Gj(fs:List Tf)(ns:List Ba)(t:Tx):eX fs ns t=fst (nE fs ns t) (jE fs ns t.kids):=by cases t;rfl
theorem zg(fs:List Tf)(ns:List Ba):∀a b:List Tx,jE fs ns (a++b)=fst (jE fs ns a) (jE fs ns b)
 | [],b=>rfl
 | t::r,b=>by rw [List.cons_append,jE,zg fs ns r b,jE,fz]
theorem vj{fs:List Tf}{ns:List Ba}{l:List Tx}{i:Nat}{k:Tx}(h:l[i]?=some k):jE fs ns (l.take (i+1))=fst (jE fs ns (l.take i)) (eX fs ns k):=by
 rw [cm h,zg];show fst _ (fst (eX fs ns k) 0)=_;rw [dJ]
theorem M1{fs:List Tf}{ns:List Ba}{t:Tx}(h:t.kind=2):nE fs ns t=if cU t.name ns=true then 0 else 21:=ak h
theorem yA{fs:List Tf}{ns:List Ba}{t:Tx}(h:t.kind=3)(hf:cK fs t.name=none):nE fs ns t=21:=by
 unfold nE;rw [ac (by omega),ak h,hf]
theorem s9{fs:List Tf}{ns:List Ba}{t:Tx}{f:Tf}(h:t.kind=3)(hf:cK fs t.name=some f):nE fs ns t=if f.ps.length=t.kids.length then 0 else 23:=by
 unfold nE;rw [ac (by omega),ak h,hf]
theorem M2{fs:List Tf}{ns:List Ba}{t:Tx}(h2:¬t.kind=2)(h3:¬t.kind=3):nE fs ns t=0:=by
 unfold nE;rw [ac h2,ac h3]
def aE(ns:List Ba)(t:Ty):Int:=if t.kind=2 then(if cU t.name ns=true then 0 else 21)else 0
def dE(ns:List Ba)(t:Ty):Int:=if t.kind=1 then(if cU t.name ns=true then 22 else 0)else 0
def dN(ns:List Ba)(t:Ty):List Ba:=if t.kind=1 then ns++ [t.name]else ns
theorem GK(fs:List Tf)(ns:List Ba)(t:Ty):bY fs ns t=((dA fs (dA fs (dN ns t) t.body).1 t.els).1,fst (aE ns t) (fst (jE fs ns t.es) (fst (dE ns t) (fst (dA fs (dN ns t) t.body).2 (dA fs (dA fs (dN ns t) t.body).1 t.els).2)))):=by cases t;rfl
theorem zq(fs:List Tf):∀(ns:List Ba)(a b:List Ty),dA fs ns (a++b)=((dA fs (dA fs ns a).1 b).1,fst (dA fs ns a).2 (dA fs (dA fs ns a).1 b).2)
 | ns,[],b=>rfl
 | ns,t::r,b=>by
  rw [List.cons_append,dA,zq fs _ r b,dA];simp only [fz]
theorem DD{fs:List Tf}{ns:List Ba}{l:List Ty}{i:Nat}{k:Ty}(h:l[i]?=some k):dA fs ns (l.take (i+1))=((bY fs (dA fs ns (l.take i)).1 k).1,fst (dA fs ns (l.take i)).2 (bY fs (dA fs ns (l.take i)).1 k).2):=by
 rw [cm h,zq];show((bY fs _ k).1,fst _ (fst (bY fs _ k).2 0))=_;rw [dJ]
mutual
theorem IU(fs:List Tf):∀(ns:List Ba)(t:Ty),(bY fs ns t).1.length=ns.length+vY t
 | ns,.mk k nm _ es _ body _ els=>by
  show(dA fs (dA fs (if k=1 then ns++ [nm]else ns) body).1 els).1.length=_;rw [mH fs _ els,mH fs _ body,vY];split<;>simp<;>omega
theorem mH(fs:List Tf):∀(ns:List Ba)(l:List Ty),(dA fs ns l).1.length=ns.length+dF l
 | ns,[]=>by simp [dA,dF]
 | ns,t::r=>by
  show(dA fs (bY fs ns t).1 r).1.length=_;rw [mH fs _ r,IU fs ns t,dF];omega
end
theorem nq{l:List Ty}{i:Nat}{k:Ty}(h:l[i]?=some k):dF (l.take i)+vY k≤dF l:=by
 have h2:=nU (l.take (i+1)) (l.drop (i+1));rw [List.take_append_drop,lT h]at h2;omega
theorem Da(ns:List Ba)(t:Ty):(dN ns t).length=ns.length+if t.kind=1 then 1 else 0:=by
 unfold dN;split
 ·simp
 ·rfl
theorem xN(c:Nat)(vp vn:SV)(nd va:Int)(dp:Bool)(fs:List Tf)(hfl:fs.length≤1000000)(ns:List Ba)(hns:ns.length≤1000000)(t:Tx)(ht:GX t)(ih:∀u∈t.kids,∀er:Int,Spec prog 166 [Pt c,xV u] [aO c 165 (cR vp vn nd va dp er),own 9 1 eS (sv vn) ns] [cx u.v u.kids,fD vp fs] (X:=Unit) (fun _=>True) (fun _=> .tuple #[]) (fun _=> [aO c 165 (cR vp vn nd va dp (fst er (eX fs ns u))),own 9 1 eS (sv vn) ns]) (fun _=> []))(er:Int):
  aN prog 166 [Pt c,xV t] [aO c 165 (cR vp vn nd va dp (er)),own 9 1 eS (sv vn) (ns)] [cx t.v t.kids,fD vp fs] (.tuple #[]) [aO c 165 (cR vp vn nd va dp (fst er (eX fs ns t))),own 9 1 eS (sv vn) (ns)]:=by
 refine ay func166 J ntmps166 J fun w0 M H=> ?_
 have hkl:=tM ht;refine bx 0 2 J jU (bx 1 3 J sj (am (cB J J fun b3=>aa (bv (X:=Unit) (fun _=>True) (fun _=> [(0,Pt c),(3,Pt b3)]) (fun _=> [(0,aO c 165 (cR vp vn nd va dp (fst er (nE fs ns t)))),(1,own 9 1 eS (sv vn) (ns)),(3,aO b3 61 (gk t))]) (fun _=> [(0,cx t.v t.kids),(1,fD vp fs),(2,sl 4 gk (sv t.v) t.kids),(3,sl 3 oE (sv vp) fs)]) ?_ (fun _ _=> ?_)))))
 ·refine am (aA ng J (aL 3 t3 J J J J (aa (aC (am (ap J J bj (ao J (aa (ai J (fun h1=> ?_) (fun h1=> ?_))))))))))
  ·have q2:t.kind=2:=df h1;refine aj (ab J (aA fj J (aL 3 t9 J J J J (ae (xs:= [.tmp 11,.tmp 13]) (rZ c vp vn nd va dp er ns hns t.name) Gw [0,1] [] [0,1] (fun _ _=>aa (aI () O J (by rw [M1 q2];rfl) J))))))
  ·have q2:¬t.kind=2:=e9 h1;refine am (ap J J bj (ao J (aa (ai J (fun h2=> ?_) (fun h2=> ?_)))))
   ·have q3:t.kind=3:=df h2;refine am (ab J (aA fj J (aL 3 t9 J J J J (ae (xs:= [.tmp 17,.tmp 19]) (lI c vp vn nd va dp er t.name fs hfl) II [0] [(false,3)] [0] (fun _ _=>ao J (aw J (ab J (ap J J cG (aa (ai J (fun h3=> ?_) (fun h3=> ?_)))))))))))
    ·have hff:cK fs t.name=none:=ic.1.1 (df h3);refine aj (ab J (ae (xs:= [.tmp 23,.const (I6 21)]) (iD c vp vn nd va dp er 21) vD [0] [] [0] (fun _ _=>aa (aI () O J (by rw [yA q3 hff];rfl) J))))
    ·obtain⟨f,hff⟩:∃f,cK fs t.name=some f:=by
      cases hf:cK fs t.name with
      | none=>exact absurd (ic.1.2 hf) (e9 h3)
      | some f=>exact⟨f,rfl⟩
     obtain⟨j,hj1,hj2⟩:=ic.2 f hff;have hjl:=(cA.1 hj2).1;rw [hj1];refine bx 1 7 J (x_ (jc hff)) (bx 7 9 J tX (aT (bV [25,26,27,28,29,30,31,32,33,34,35,36,37,38] _ J (br (V:= [(0,25,_),(1,26,_),(2,27,_),(3,28,_),(4,29,_),(5,30,_),(6,31,_),(7,32,_),(8,33,_),(9,34,_),(10,35,_),(11,36,_),(12,37,_),(13,38,_)]) [0,1,2,3,4,5,6,7,8,9,10,11,12,13] J J (aK J J (ad J (av J) (ad J (ah y9 J) (ad J (ah iB J) (ad J (ag Bb J J (aB (k:=0) J J)) (aK J J (ad J (aQ (j:=j) underlying25 mI J J (aP (k:=3) J) J hjl) (ad J (cy fR J) (ad J (ag oO J J (gh (aP (k:=3) J) (by intro _;rfl) hj2 J)) (ad J (aZ underlying46 J (aP (k:=9) J)) (ad J (ah eZ J) (ad J (ag n9 J J (aB (k:=3) J J)) (ad J (aZ underlying59 J (aP (k:=2) J)) (ad J (aS J J fW) au)))))))))))))) J J J (ai J (fun h4=> ?_) (fun h4=> ?_))))))
     ·have hne:¬f.ps.length=t.kids.length:=fun e=>by rw [e]at h4;simp at h4
      refine aj (ab J (ae (xs:= [.tmp 39,.const (I6 23)]) (iD c vp vn nd va dp er 23) vD [0] [] [0] (fun _ _=>aa (aI () O J (by rw [s9 q3 hff,ac hne];rfl) J))))
     ·have hne:f.ps.length=t.kids.length:=by
       have:=h4;simp only [Bool.not_eq_false',decide_eq_true_eq]at this;omega
      refine az (aI () O J (by rw [s9 q3 hff,ak hne,dJ];rfl) J)
   ·have q3:¬t.kind=3:=e9 h2;refine az (aI () O J (by rw [M2 q2 q3,dJ];rfl) J)
 ·refine am (aA eZ J (aL 3 n9 J J J J (aJ (aZ underlying59 J (aP (k:=2) J)) (ab J (aa (aC ?_))))));refine bC (X:=Nat) (fun i=>i≤t.kids.length) (fun i=> [(0,Pt c),(3,Pt b3),(42,sv t.v),(43,I6 (t.kids.length:Int)),(44,I6 (i:Int))]) (fun i=> [(0,aO c 165 (cR vp vn nd va dp (fst er (fst (nE fs ns t) (jE fs ns (t.kids.take i)))))),(1,own 9 1 eS (sv vn) (ns)),(3,aO b3 61 (gk t))]) (fun i=> [(0,cx t.v t.kids),(1,fD vp fs),(2,sl 4 gk (sv t.v) t.kids),(3,sl 3 oE (sv vp) fs)]) (fun i=>t.kids.length-i) 0 (bE _) J (by rw [show jE fs ns (t.kids.take 0)=0 by simp [jE],dJ];rfl) J (fun i n1=> ?_);refine am (ap J J cG (aa (aT (ai J (fun h5=> ?_) (fun h5=> ?_)))))
  ·(try simp only [aX]at h5);have hi:i<t.kids.length:=by omega
   obtain⟨kid,hkid⟩:∃k,t.kids[i]?=some k:=⟨_,bO hi⟩
   have hkm:=cO hkid;refine az (aT (aC (am (aJ (aQ (j:=i) underlying59 dr J J (aP (k:=2) J) (by first|rfl|omega) (by first|omega|(simp;done)|(simp;omega))) (aJ (aM dr J J J (ci (aP (k:=2) J) (by intro _;rfl) hkid (by rfl))) (aU dr J J fun b6=>aq (k:=6) dr J J J J J J (aa (aj (ab J (aJ (aM dr J J J (bh (k:=6) J)) (bx 0 8 J (ft hkm) (ae (xs:= [.tmp 48,.tmp 49]) (ih kid hkm (fst er (fst (nE fs ns t) (jE fs ns (t.kids.take i))))) Gv [0,1] [(false,8),(false,1)] [0,1] (fun _ _=>aa (aj (ap J J aY (ab J (aa ?_)))))))))))))))));refine aI (i+1) ⟨by omega,by omega⟩ J (by rw [vj hkid];simp only [fz];rfl) J
  ·(try simp only [aX]at h5);have hi:i=t.kids.length:=by omega
   subst hi;rw [eA,←Gj];refine bF (bP () O J fw J [0,1] [] J J J)
theorem r_(c:Nat)(vp vn:SV)(nd va:Int)(dp:Bool)(fs:List Tf)(hfl:fs.length≤1000000)(ns:List Ba)(hns:ns.length≤1000000):∀(n:Nat)(t:Tx),SizeOf.sizeOf t<n→GX t→∀er:Int,aN prog 166 [Pt c,xV t] [aO c 165 (cR vp vn nd va dp er),own 9 1 eS (sv vn) ns] [cx t.v t.kids,fD vp fs] (.tuple #[]) [aO c 165 (cR vp vn nd va dp (fst er (eX fs ns t))),own 9 1 eS (sv vn) ns]
 | 0,_,h,_=>absurd h (Nat.not_lt_zero _)
 | n+1,t,h,ht=>xN c vp vn nd va dp fs hfl ns hns t ht fun u hu=>r_ c vp vn nd va dp fs hfl ns hns n u (by have:=x8 hu;omega) ((oG ht).mem u hu)
theorem xO(c:Nat)(vp vn:SV)(nd va:Int)(dp:Bool)(fs:List Tf)(hfl:fs.length≤1000000)(ns:List Ba)(hns:ns.length≤1000000)(t:Tx)(ht:GX t)(er:Int):aN prog 166 [Pt c,xV t] [aO c 165 (cR vp vn nd va dp er),own 9 1 eS (sv vn) ns] [cx t.v t.kids,fD vp fs] (.tuple #[]) [aO c 165 (cR vp vn nd va dp (fst er (eX fs ns t))),own 9 1 eS (sv vn) ns]:=r_ c vp vn nd va dp fs hfl ns hns _ t (Nat.lt_succ_self _) ht er
theorem vA(c:Nat)(vp vn:SV)(nd va:Int)(dp:Bool)(fs:List Tf)(hfl:fs.length≤1000000)(v:SV)(l:List Ty)(hl:l.length≤1000000)(hg:GYs l)(ihb:∀u∈l,(∀(vn:SV)(ns:List Ba)(er:Int),ns.length+dF u.body≤1000000→Spec prog 129 [Pt c,sv u.vb] [aO c 165 (cR vp vn nd va dp er),own 9 1 eS (sv vn) ns] [ck u.vb u.body,fD vp fs] (X:=SV) (fun _=>True) (fun _=> .tuple #[]) (fun x=> [aO c 165 (cR vp x nd va dp (fst er (dA fs ns u.body).2)),own 9 1 eS (sv x) (dA fs ns u.body).1]) (fun _=> [])))(ihe:∀u∈l,(∀(vn:SV)(ns:List Ba)(er:Int),ns.length+dF u.els≤1000000→Spec prog 129 [Pt c,sv u.vl] [aO c 165 (cR vp vn nd va dp er),own 9 1 eS (sv vn) ns] [ck u.vl u.els,fD vp fs] (X:=SV) (fun _=>True) (fun _=> .tuple #[]) (fun x=> [aO c 165 (cR vp x nd va dp (fst er (dA fs ns u.els).2)),own 9 1 eS (sv x) (dA fs ns u.els).1]) (fun _=> [])))(ns:List Ba)(er:Int)(hnv:ns.length+dF l≤1000000):
  Spec prog 129 [Pt c,sv v] [aO c 165 (cR vp vn nd va dp (er)),own 9 1 eS (sv vn) (ns)] [ck v l,fD vp fs] (X:=SV) (fun _=>True) (fun _=> .tuple #[]) (fun x=> [aO c 165 (cR vp x nd va dp (fst er (dA fs ns l).2)),own 9 1 eS (sv x) ((dA fs ns l).1)]) (fun _=> []):=by
 refine ay func129 J ntmps129 J fun w0 M H=>bx 0 2 J jS (am (ab J (aJ (aZ underlying62 J (aP (k:=2) J)) (ab J (aa (aC (bC (X:=Nat×SV) (fun x=>x.1≤l.length) (fun x=> [(0,Pt c),(8,sv v),(9,I6 (l.length:Int)),(10,I6 (x.1:Int))]) (fun x=> [(0,aO c 165 (cR vp x.2 nd va dp (fst er (dA fs ns (l.take x.1)).2))),(1,own 9 1 eS (sv x.2) ((dA fs ns (l.take x.1)).1))]) (fun x=> [(0,ck v l),(1,fD vp fs),(2,sl 5 iR (sv v) l)]) (fun x=>l.length-x.1) (0,vn) (bE _) J (by rw [show fst er (dA fs ns (l.take (0,vn).1)).2=er from dJ er];rfl) J (fun x n1=> ?_))))))))
 obtain⟨i,vx⟩:=x;dsimp only at n1 ⊢;refine am (ap J J cG (aa (aT (ai J (fun h1=> ?_) (fun h1=> ?_)))))
 ·(try simp only [aX]at h1);have hi:i<l.length:=by omega
  obtain⟨st,hst⟩:∃k,l[i]?=some k:=⟨_,bO hi⟩
  have hsm:=cO hst;have hsy:=hg.mem st hsm;have hsg:=vP hsy;have hbl:=mH fs ns (l.take i);have hvt:=nq hst;have hve:=A7 st;have hni:(dA fs ns (l.take i)).1.length≤1000000:=by omega
  refine bx 0 7 J (sh hsm) (bx 0 8 J (jT hsm) (bx 0 9 J (lV hsm) (bx 7 10 J jU (az (aT (aC (am (aJ (aQ (j:=i) underlying62 fE J J (aP (k:=2) J) (by first|rfl|omega) (by first|omega|(simp;done)|(simp;omega))) (aJ (aM fE J J J (ci (aP (k:=2) J) (by intro _;rfl) hst (by rfl))) (aU fE J J fun b5=>aq (k:=5) fE J J J J J J (aa (bv (X:=Unit) (fun _=>True) (fun _=> [(0,Pt c),(8,sv v),(9,I6 (l.length:Int)),(10,I6 (i:Int)),(5,Pt b5)]) (fun _=> [(0,aO c 165 (cR vp vx nd va dp (fst (fst er (dA fs ns (l.take i)).2) (aE ((dA fs ns (l.take i)).1) st)))),(1,own 9 1 eS (sv vx) ((dA fs ns (l.take i)).1)),(5,aO b5 64 (iR st))]) (fun _=> [(0,ck v l),(1,fD vp fs),(2,sl 5 iR (sv v) l),(7,cx st.ve st.es),(8,ck st.vb st.body),(9,ck st.vl st.els),(10,sl 4 gk (sv st.ve) st.es)]) ?_ (fun _ _=> ?_)))))))))))))
  ·refine am (aA iA J (aL 5 t3 J J J J (ap J J bj (aa (ai J (fun h2=> ?_) (fun h2=> ?_))))))
   ·have q2:st.kind=2:=df h2;refine aj (ab J (aA lB J (aL 5 t9 J J J J (ae (xs:= [.tmp 17,.tmp 19]) (rZ c vp vx nd va dp (fst er (dA fs ns (l.take i)).2) ((dA fs ns (l.take i)).1) hni st.name) Gw [0,1] [] [0,1] (fun _ _=>aa (aI () O J (by unfold aE;rw [ak q2];rfl) J))))))
   ·have q2:¬st.kind=2:=e9 h2;refine az (aI () O J (by unfold aE;rw [ac q2,dJ];rfl) J)
  ·refine aR (aA nf J (aL 5 n9 J J J J (aJ (aZ underlying59 J (aP (k:=10) J)) (ab J (aa (aC ?_))))));refine bC (X:=Nat) (fun j=>j≤st.es.length) (fun j=> [(0,Pt c),(8,sv v),(9,I6 (l.length:Int)),(10,I6 (i:Int)),(5,Pt b5),(22,sv st.ve),(23,I6 (st.es.length:Int)),(24,I6 (j:Int))]) (fun j=> [(0,aO c 165 (cR vp vx nd va dp (fst (fst (fst er (dA fs ns (l.take i)).2) (aE ((dA fs ns (l.take i)).1) st)) (jE fs ((dA fs ns (l.take i)).1) (st.es.take j))))),(1,own 9 1 eS (sv vx) ((dA fs ns (l.take i)).1)),(5,aO b5 64 (iR st))]) (fun j=> [(0,ck v l),(1,fD vp fs),(2,sl 5 iR (sv v) l),(7,cx st.ve st.es),(8,ck st.vb st.body),(9,ck st.vl st.els),(10,sl 4 gk (sv st.ve) st.es)]) (fun j=>st.es.length-j) 0 (bE _) J (by rw [show jE fs ((dA fs ns (l.take i)).1) (st.es.take 0)=0 by simp [jE],dJ];rfl) J (fun j n2=> ?_);refine am (ap J J cG (aa (aT (ai J (fun h3=> ?_) (fun h3=> ?_)))))
   ·(try simp only [aX]at h3);have hj:j<st.es.length:=by omega
    obtain⟨kid,hkid⟩:∃k,st.es[j]?=some k:=⟨_,bO hj⟩
    have hkm:=cO hkid;refine az (aT (aC (am (aJ (aQ (j:=j) underlying59 dr J J (aP (k:=10) J) (by first|rfl|omega) (by first|omega|(simp;done)|(simp;omega))) (aJ (aM dr J J J (ci (aP (k:=10) J) (by intro _;rfl) hkid (by rfl))) (aU dr J J fun b7=>aq (k:=7) dr J J J J J J (aa (aj (ab J (aJ (aM dr J J J (bh (k:=7) J)) (bx 7 12 J (ft hkm) (ae (xs:= [.tmp 28,.tmp 29]) (xO c vp vx nd va dp fs hfl ((dA fs ns (l.take i)).1) hni kid (hsg.2.mem kid hkm) (fst (fst (fst er (dA fs ns (l.take i)).2) (aE ((dA fs ns (l.take i)).1) st)) (jE fs ((dA fs ns (l.take i)).1) (st.es.take j)))) Gv [0,1] [(false,12),(false,1)] [0,1] (fun _ _=>aa (aj (ap J J aY (ab J (aa ?_)))))))))))))))));refine aI (j+1) ⟨by omega,by omega⟩ J (by rw [vj hkid];simp only [fz];rfl) J
   ·(try simp only [aX]at h3);have hj:j=st.es.length:=by omega
    subst hj;rw [eA];refine bF (bv (X:=SV) (fun _=>True) (fun vd=> [(0,Pt c),(8,sv v),(9,I6 (l.length:Int)),(10,I6 (i:Int)),(5,Pt b5)]) (fun vd=> [(0,aO c 165 (cR vp vd nd va dp (fst (fst (fst (fst er (dA fs ns (l.take i)).2) (aE ((dA fs ns (l.take i)).1) st)) (jE fs ((dA fs ns (l.take i)).1) (st.es))) (dE ((dA fs ns (l.take i)).1) st)))),(1,own 9 1 eS (sv vd) (dN ((dA fs ns (l.take i)).1) st)),(5,aO b5 64 (iR st))]) (fun vd=> [(0,ck v l),(1,fD vp fs),(2,sl 5 iR (sv v) l),(7,cx st.ve st.es),(8,ck st.vb st.body),(9,ck st.vl st.els),(10,sl 4 gk (sv st.ve) st.es)]) ?_ (fun vd _=> ?_))
    ·refine am (aA iA J (aL 5 t3 J J J J (ap J J bj (aa (ai J (fun h4=> ?_) (fun h4=> ?_))))))
     ·have q1:st.kind=1:=df h4;refine aj (ab J (aA lB J (aL 5 t9 J J J J (ae (xs:= [.tmp 35,.tmp 37]) (qy c vp vx nd va dp (fst (fst (fst er (dA fs ns (l.take i)).2) (aE ((dA fs ns (l.take i)).1) st)) (jE fs ((dA fs ns (l.take i)).1) (st.es))) ((dA fs ns (l.take i)).1) hni st.name) GE [0,1] [] [0,1] (fun vd _=>aa (aI vd O J (by unfold dE dN;rw [ak q1,ak q1];rfl) J))))))
     ·have q1:¬st.kind=1:=e9 h4;refine az (aI vx O J (by unfold dE dN;rw [ac q1,ac q1,dJ];rfl) J)
    ·refine am (ab J (aA jt J (aL 5 n8 J J J J (ae (xs:= [.tmp 39,.tmp 41]) (ihb st hsm vd (dN ((dA fs ns (l.take i)).1) st) (fst (fst (fst (fst er (dA fs ns (l.take i)).2) (aE ((dA fs ns (l.take i)).1) st)) (jE fs ((dA fs ns (l.take i)).1) (st.es))) (dE ((dA fs ns (l.take i)).1) st)) (by rw [Da];omega)) Dn [0,1] [(false,8),(false,1)] [0,1] (fun v1 _=>aa (aj (ab J (aA jr J (aL 5 n8 J J J J (ae (xs:= [.tmp 43,.tmp 45]) (ihe st hsm v1 (dA fs (dN ((dA fs ns (l.take i)).1) st) st.body).1 (fst (fst (fst (fst (fst er (dA fs ns (l.take i)).2) (aE ((dA fs ns (l.take i)).1) st)) (jE fs ((dA fs ns (l.take i)).1) (st.es))) (dE ((dA fs ns (l.take i)).1) st)) (dA fs (dN ((dA fs ns (l.take i)).1) st) st.body).2) (by rw [mH,Da];omega)) Dn [0,1] [(false,9),(false,1)] [0,1] (fun v2 _=>aa (aj (ap J J aY (ab J (aa ?_)))))))))))))));refine aI (i+1,v2) ⟨by dsimp only;omega,by dsimp only;omega⟩ J (by dsimp only;rw [DD hst,GK];simp only [fz];rfl) J
 ·(try simp only [aX]at h1);have hi:i=l.length:=by omega
  subst hi;rw [eA];refine bF (bP vx O J fw J [0,1] [] J J J)
theorem lJ(c:Nat)(vp:SV)(nd va:Int)(dp:Bool)(fs:List Tf)(hfl:fs.length≤1000000):∀(n:Nat)(v:SV)(l:List Ty),SizeOf.sizeOf l<n→l.length≤1000000→GYs l→(∀(vn:SV)(ns:List Ba)(er:Int),ns.length+dF l≤1000000→Spec prog 129 [Pt c,sv v] [aO c 165 (cR vp vn nd va dp er),own 9 1 eS (sv vn) ns] [ck v l,fD vp fs] (X:=SV) (fun _=>True) (fun _=> .tuple #[]) (fun x=> [aO c 165 (cR vp x nd va dp (fst er (dA fs ns l).2)),own 9 1 eS (sv x) (dA fs ns l).1]) (fun _=> []))
 | 0,_,_,h,_,_=>absurd h (Nat.not_lt_zero _)
 | n+1,v,l,h,hl,hg=>fun vn ns er hnv=>by
  have key:∀u∈l,SizeOf.sizeOf u.body<n∧SizeOf.sizeOf u.els<n:=fun u hu=>by
   have h1:=List.sizeOf_lt_of_mem hu;have h2:SizeOf.sizeOf u.body<SizeOf.sizeOf u∧SizeOf.sizeOf u.els<SizeOf.sizeOf u:=by
    cases u;simp only [Ty.mk.sizeOf_spec,Ty.body,Ty.els];omega
   omega
  exact vA c vp vn nd va dp fs hfl v l hl hg (fun u hu=>lJ c vp nd va dp fs hfl n u.vb u.body (key u hu).1 (gw (hg.mem u hu)).1 (gw (hg.mem u hu)).2) (fun u hu=>lJ c vp nd va dp fs hfl n u.vl u.els (key u hu).2 (iV (hg.mem u hu)).1 (iV (hg.mem u hu)).2) ns er hnv
theorem vB(c:Nat)(vp:SV)(nd va:Int)(dp:Bool)(fs:List Tf)(hfl:fs.length≤1000000)(v:SV)(l:List Ty)(hl:l.length≤1000000)(hg:GYs l):(∀(vn:SV)(ns:List Ba)(er:Int),ns.length+dF l≤1000000→Spec prog 129 [Pt c,sv v] [aO c 165 (cR vp vn nd va dp er),own 9 1 eS (sv vn) ns] [ck v l,fD vp fs] (X:=SV) (fun _=>True) (fun _=> .tuple #[]) (fun x=> [aO c 165 (cR vp x nd va dp (fst er (dA fs ns l).2)),own 9 1 eS (sv x) (dA fs ns l).1]) (fun _=> [])):=lJ c vp nd va dp fs hfl _ v l (Nat.lt_succ_self _) hl hg
end Go.Proofs.YtedmdgbmdplifaaGreat
