/-
  A part of the proof. Conditions are with the theorems.
-/
import Derived.Test.YtedmdgbmdplifaaGreatProg
import Derived.ChangeMaps5
import Derived.Test.YtedmdgbmdplifaaGreatXBa
set_option maxHeartbeats 32000000
set_option maxRecDepth 100000
set_option linter.unusedSimpArgs false
set_option linter.unusedVariables false
namespace Go.Proofs.YtedmdgbmdplifaaGreat
def Da(is:List Nat)(V:de):de:=is.flatMap fun i=>V.filter fun p=>Nat.beq i p.1
theorem lD{is:List Nat}:∀{V:de}{p:Nat×Nat×Value},p∈ir is V→p∈V∧is.any (Nat.beq p.1)=true
 | [],p,h=>by simp [ir]at h
 | (i,d,v)::r,p,h=>by
  simp only [ir]at h;cases hb:is.any (Nat.beq i)with
  | true=>
   rw [hb]at h;rcases List.mem_cons.1 h with rfl|h
   ·exact⟨List.mem_cons_self ..,hb⟩
   ·exact⟨List.mem_cons_of_mem _ (lD h).1,(lD h).2⟩
  | false=>
   rw [hb]at h;exact⟨List.mem_cons_of_mem _ (lD h).1,(lD h).2⟩
section
variable{P:Program}{N:Nat}{w0:World}{M H:Nat→Prop}{E:fz}{Γ R:ey}{Q:Exit→Act→World→Prop}
theorem Ap{l:List Oper}{V:de}:∀{I:de},(∀i d v,(i,d,v)∈I→LN P N w0 M H E Γ R l V i d v)→PRs P N w0 M H E Γ R l V I
 | [],_=>trivial
 | (i,d,v)::r,h=>⟨h i d v (List.mem_cons_self ..),Ap fun i d v hm=>h i d v (List.mem_cons_of_mem _ hm)⟩
theorem qJ{l:List Oper}{V I:de}{is:List Nat}(h0:Da is V=I)(h:PRs P N w0 M H E Γ R l V I):PRs P N w0 M H E Γ R l V (ir is V):=Ap fun i d v hm=>by
 obtain⟨h1,h2⟩:=lD hm;refine h.get i d v ?_;rw [←h0];obtain⟨j,hj1,hj2⟩:=List.any_eq_true.1 h2;refine List.mem_flatMap.2 ⟨j,hj1,List.mem_filter.2 ⟨h1,?_⟩⟩;have:=cO hj2;dsimp only at this ⊢;rw [this];exact Nat.beq_refl _
theorem cq{l:List Oper}{V:de}(C:List Nat)(h:tf P N w0 M H E Γ R l Q V C):tf P N w0 M H E Γ R l Q V C:=h
theorem dH{l:List Oper}{V:de}{C:List Nat}(is:List Nat){I:de}(c:Nat)(C' Jx:List Nat){X:Type}{φ:X→Prop}{v:X→Value}{Γ' R':X→ey}{d:Nat}{o:Oper}(J':X→de)(hI0:Da is V=I)(hst:qs N E V=true)(hI:PRs P N w0 M H E Γ R l V I)(hcov:mY V is C=true)
  (hcls:qk l (dC V++C) (some c)=true) (ho:l[c]?=some o) (hdst:o.dst=some d) (hgd:o.guard=none) (hd:Nat.blt d N=true) (hdE:eF E d=none) (hdV:jR (gg V) d=false) (hcV:jR (dC V++C) c=false)
  (hcl:qw l C c [] C'=true) (hCC0:C.all (jR C')=true) (hJ:∀x,φ x→dC (J' x)=Jx) (hJx:Jx.all (fun j=> !(jR (dC V++C) j)&& !(Nat.beq j c))=true) (hms:MS P N w0 M H (vpre (ec o) V++E) Γ R o φ v Γ' R')
  (hJp:∀x,φ x→PRs P N w0 M H E (Γ' x) (R' x) l (J' x++(c,d,v x)::V) (J' x))
  (k:∀x,φ x→tf P N w0 M H E (Γ' x) (R' x) l Q (J' x++(c,d,v x)::V) C'):tf P N w0 M H E Γ R l Q V C:=
 aW is c C' Jx J' rfl hst (qJ hI0 hI) hcov hcls ho hdst hgd hd hdE hdV hcV hcl hCC0 hJ hJx hms k
theorem fI{l:List Oper}{V:de}{C:List Nat}(is:List Nat){I:de}(c:Nat)(C' Jx:List Nat){X:Type}{φ:X→Prop}{v:X→Value}{Γ' R':X→ey}{o:Oper}(J':X→de)(hI0:Da is V=I)(hst:qs N E V=true)(hI:PRs P N w0 M H E Γ R l V I)(hcov:mY V is C=true)
  (hcls:qk l (dC V++C) (some c)=true) (ho:l[c]?=some o) (hdst:o.dst=none) (hgd:o.guard=none) (hcC':jR C' c=true) (hcV:jR (dC V++C) c=false)
  (hcl:qw l C c [] C'=true) (hCC0:C.all (jR C')=true) (hJ:∀x,φ x→dC (J' x)=Jx) (hJx:Jx.all (fun j=> !(jR (dC V++C) j)&& !(Nat.beq j c))=true) (hms:MS P N w0 M H (vpre (ec o) V++E) Γ R o φ v Γ' R')
  (hJp:∀x,φ x→PRs P N w0 M H E (Γ' x) (R' x) l (J' x++V) (J' x))
  (k:∀x,φ x→tf P N w0 M H E (Γ' x) (R' x) l Q (J' x++V) C'):tf P N w0 M H E Γ R l Q V C:=
 bH is c C' Jx J' rfl hst (qJ hI0 hI) hcov hcls ho hdst hgd hcC' hcV hcl hCC0 hJ hJx hms k
theorem cJ{l:List Oper}{V:de}{C:List Nat}(c:Nat)(C' Jx:List Nat){X:Type}{φ:X→Prop}{v:X→Value}{Γ' R':X→ey}{d:Nat}{o:Oper}(J':X→de)
  (ho:l[c]?=some o) (hdst:o.dst=some d) (hgd:o.guard=none) (hd:Nat.blt d N=true) (hdE:eF E d=none) (hdV:jR (gg V) d=false) (hcV:jR (dC V++C) c=false)
  (hcl:qw l C c [] C'=true) (hCC0:C.all (jR C')=true) (hJ:∀x,φ x→dC (J' x)=Jx) (hJx:Jx.all (fun j=> !(jR (dC V++C) j)&& !(Nat.beq j c))=true) (hms:MS P N w0 M H (vpre (ec o) V++E) Γ R o φ v Γ' R')
  (hJp:∀x,φ x→PRs P N w0 M H E (Γ' x) (R' x) l (J' x++(c,d,v x)::V) (J' x))
  (k:∀x,φ x→tf P N w0 M H E (Γ' x) (R' x) l Q (J' x++(c,d,v x)::V) C'):Nx P N w0 M H E Γ R l Q V C c:=
 ea c C' Jx J' ho hdst hgd hd hdE hdV hcV hcl hCC0 hJ hJx hms k
theorem gO{l:List Oper}{V:de}{C:List Nat}(c:Nat)(C' Jx:List Nat){X:Type}{φ:X→Prop}{v:X→Value}{Γ' R':X→ey}{o:Oper}(J':X→de)
  (ho:l[c]?=some o) (hdst:o.dst=none) (hgd:o.guard=none) (hcC':jR C' c=true) (hcV:jR (dC V++C) c=false)
  (hcl:qw l C c [] C'=true) (hCC0:C.all (jR C')=true) (hJ:∀x,φ x→dC (J' x)=Jx) (hJx:Jx.all (fun j=> !(jR (dC V++C) j)&& !(Nat.beq j c))=true) (hms:MS P N w0 M H (vpre (ec o) V++E) Γ R o φ v Γ' R')
  (hJp:∀x,φ x→PRs P N w0 M H E (Γ' x) (R' x) l (J' x++V) (J' x))
  (k:∀x,φ x→tf P N w0 M H E (Γ' x) (R' x) l Q (J' x++V) C'):Nx P N w0 M H E Γ R l Q V C c:=
 Ha c C' Jx J' ho hdst hgd hcC' hcV hcl hCC0 hJ hJx hms k
theorem dg{l:List Oper}{V:de}{C:List Nat}(is:List Nat){I:de}(hI0:Da is V=I)(hst:qs N E V=true)(hI:PRs P N w0 M H E Γ R l V I)(hcov:mY V is C=true)(cs:List Nat)
  (hcls:Fl l (dC V++C) cs=true) (hne:(match cs with|c::_=>Nat.blt c l.length&& !(jR (dC V++C) c)|[]=>false)=true) (hmem:NxAll P N w0 M H E Γ R l Q V C cs):
  tf P N w0 M H E Γ R l Q V C:=
 fp is rfl hst (qJ hI0 hI) hcov cs hcls hne hmem
theorem ko{l:List Oper}{V:de}{C:List Nat}(is:List Nat){I:de}(hI0:Da is V=I)(hst:qs N E V=true)(hI:PRs P N w0 M H E Γ R l V I)(hcov:mY V is C=true)(hcls:qk l (dC V++C) none=true)
  (hall:(dC V).all (fun i=>Nat.blt i l.length)=true) (k:At N w0 M H (yd V++E) Γ R (Q .normal)):tf P N w0 M H E Γ R l Q V C:=
 bn is rfl hst (qJ hI0 hI) hcov hcls hall k
end
end Go.Proofs.YtedmdgbmdplifaaGreat
namespace Go.Proofs.YtedmdgbmdplifaaGreat
open Go.RowKit Tryz
section
variable{P:Program}{N:Nat}{w0:World}{M H:Nat→Prop}{E:fz}{Γ R:ey}{Q:Exit→Act→World→Prop}
theorem ws{l:List Oper}{V:de}{C:List Nat}(is:List Nat){I:de}(c:Nat)(C':List Nat){d:Nat}{v:Value}{op:Op}{T:TypeId}{ps:String}{af:Array Edge}(hI0:ir is V=I)(hst:qs N E V=true)(hI:PRs P N w0 M H E Γ R l V I)(hcov:mY V is C=true)
  (hcls:qk l (dC V++C) (some c)=true) (ho:l[c]?=some ⟨some d,op,T,ps,af,none⟩) (hd:Nat.blt d N=true) (hcV:jR (dC V++C) c=false)
  (hcl:qw l C c [] C'=true) (hall:(List.range l.length).all (fun i=>jR C' i)=true) (hlt:(dC V).all (fun i=>Nat.blt i l.length)=true) (hpr:PR P N w0 M H (vpre (ec ⟨some d,op,T,ps,af,none⟩) V++E) Γ R op v)
  (k:At N w0 M H ((d,v)::(yd V++E)) Γ R (Q .normal)):tf P N w0 M H E Γ R l Q V C:=by
 refine nO is hI0 hst hI hcov (some c) hcls (fun D a w hD hS=> ?_) fun k' hk' ord D a w o' hio hDk hprd hrest hS=> ?_
 ·have:=hS.done c (hD c (db.1 ho).1);rw [fw this]at hcV;cases hcV
 ·injection hk' with hk';subst hk';rw [ho]at hio;injection hio with hio;subst hio;have ho':l.toArray[c]?=some ⟨some d,op,T,ps,af,none⟩:=by simpa using ho
  have hclosed:∀(j:Nat)(o':Oper),l[j]?=some o'→(bif Nat.beq j c then true else D j)=true→∀k∈ec o',(bif Nat.beq k c then true else D k)=true:=by
   intro j o' hoj hj q hq;cases hb:Nat.beq j c with
   | true=>
    have:=cO hb;subst this;rw [ho]at hoj;injection hoj with hoj;subst hoj;simp [hprd q hq]
   | false=>rw [hb]at hj;simp [hS.closed j o' hoj hj q hq]
  have hdone:∀i,i<l.length→(bif Nat.beq i c then true else D i)=true:=fun i hi=>
   jt (D:=fun i=>bif Nat.beq i c then true else D i) (fun i hi=>by simp [hS.sure i hi]) (by simp) hclosed C' [] hcl (fun s hs=>by simp at hs) i (fF (List.all_eq_true.1 hall i (List.mem_range.2 hi)))
  cases hrest with
  | cons ho2 hD2 _ _=>
   dsimp only at hD2;rw [hdone _ (db.1 ho2).1]at hD2;cases hD2
  | nil h=>
   simp only [wpOps,ho'];rw [aw (by simp [Region.wanted])];left;have hEp:EOk N (vpre (ec ⟨some d,op,T,ps,af,none⟩) V++E) a:=hS.base.vpre fun j d v hj hjp=>hS.vals j d v hj (hprd j hjp)
   unfold Oper.wp;rw [hpr _ _ _ a w hEp hS.ok _ _];have hEv:EOk N (yd V++E) a:=hS.base.vals fun i e u hm=>hS.vals i e u hm (by
    have h1:i∈dC V:=fo.2 ⟨e,u,hm⟩;have h2:Nat.blt i l.length=true:=List.all_eq_true.1 hlt i h1;have h3:=hdone i (by simpa using h2);cases hb:Nat.beq i c with
    | true=>
     have:=cO hb;subst this;rw [fw (List.mem_append_left _ h1)]at hcV;cases hcV
    | false=>rw [hb]at h3;exact h3)
   exact k _ _ (hEv.put hd v) hS.ok
end
section
variable{P:Program}{N:Nat}{w0:World}{M H:Nat→Prop}{E:fz}{Γ R:ey}{Q:Exit→Act→World→Prop}
variable{ops:Array Oper}{rest:List Oper}{T:TypeId}{ps:String}{af:Array Edge}{d:Nat}{op:Op}
theorem ad{x:Operand}{v:Value}(hx:ev E x=some v)(k:At N w0 M H ((d,v)::E) Γ R (wpList P ops Q rest))(hd:Nat.blt d N=true:=by exact rfl):At N w0 M H E Γ R (wpList P ops Q (⟨some d,.move x,T,ps,af,none⟩::rest)):=te (aY hx) hd k
theorem aq{x:Operand}{v:Value}(hx:ev E x=some v)(k:At N w0 M H ((d,v)::E) Γ R (wpList P ops Q rest))(hd:Nat.blt d N=true:=by exact rfl):At N w0 M H E Γ R (wpList P ops Q (⟨some d,.assign x,T,ps,af,none⟩::rest)):=te (cT hx) hd k
theorem bS{x:Operand}{A:Addr}(hx:ev E x=some (.pointer (some A)))(k:At N w0 M H ((d,.pointer (some A))::E) Γ R (wpList P ops Q rest))(hd:Nat.blt d N=true:=by exact rfl):At N w0 M H E Γ R (wpList P ops Q (⟨some d,.nilCheck x,T,ps,af,none⟩::rest)):=te (aj hx) hd k
theorem aD{S:TypeId}{i off:Nat}{x:Operand}{b:Nat}(hf:FO P S i off)(hx:ev E x=some (.pointer (some ⟨b,0,none⟩)))(k:At N w0 M H ((d,.pointer (some ⟨b,off,none⟩))::E) Γ R (wpList P ops Q rest))(hd:Nat.blt d N=true:=by exact rfl):At N w0 M H E Γ R (wpList P ops Q (⟨some d,.fieldAddr S x i,T,ps,af,none⟩::rest)):=te (ah hf hx) hd k
theorem av{o:BinOp}{S S':TypeId}{x y:Operand}{u v z:Value}(hx:ev E x=some u)(hy:ev E y=some v)(hb:d8 P o S u v z)(k:At N w0 M H ((d,z)::E) Γ R (wpList P ops Q rest))(hd:Nat.blt d N=true:=by exact rfl):At N w0 M H E Γ R (wpList P ops Q (⟨some d,.binOp o S x y S',T,ps,af,none⟩::rest)):=te (aU hx hy hb) hd k
theorem aT(j:Nat){S S0:TypeId}{D:TypeDesc}{z:Value}{s bb:Nat}{x:Operand}{b o:Nat}{c:List Value}{u:Value}(ht:TI P S D z s bb)(hag:tK D=false)(hx:ev E x=some (.pointer (some ⟨b,o,none⟩)))(hk:cn Γ j=some (be b S0 c))(hu:c[o]?=some u)(k:At N w0 M H ((d,u)::E) Γ R (wpList P ops Q rest))(hd:Nat.blt d N=true:=by exact rfl):
  At N w0 M H E Γ R (wpList P ops Q (⟨some d,.load S x,T,ps,af,none⟩::rest)):=te (ae ht hag hx (ax (k:=j) hk hu)) hd k
theorem aS{v:Value}(h:PR P N w0 M H E Γ R op v)(k:At N w0 M H ((d,v)::E) Γ R (wpList P ops Q rest))(hd:Nat.blt d N=true:=by exact rfl):At N w0 M H E Γ R (wpList P ops Q (⟨some d,op,T,ps,af,none⟩::rest)):=te h hd k
theorem aF{id:Nat}{l:List Oper}{y:Code}{Q2:Exit→Act→World→Prop}(hq:Q .normal=(Code.seq (Code.region id l.toArray false) y).wp P Q2)(h:At N w0 M H E Γ R (wpList P l.toArray (XT (y.wp P Q2) Q2) l)):At N w0 M H E Γ R (wpList P ops Q []):=aa (by rw [hq];exact aZ (ap h))
theorem ar{id:Nat}{l:List Oper}{y:Code}(h:At N w0 M H E Γ R (wpList P l.toArray (XT (y.wp P Q) Q) l)):At N w0 M H E Γ R ((Code.seq (Code.region id l.toArray false) y).wp P Q):=aZ (ap h)
theorem aV{id:Nat}{l:List Oper}{y z:Code}(h:At N w0 M H E Γ R (wpList P l.toArray (XT (y.wp P (XT (z.wp P Q) Q)) (XT (z.wp P Q) Q)) l)):At N w0 M H E Γ R ((Code.seq (Code.seq (Code.region id l.toArray false) y) z).wp P Q):=aZ (ar h)
theorem ak{n:Nat}{f:Operand}{xs:List Operand}{cap us vs:List Value}{at_:Array TypeId}{L R0:List Asn}{X:Type}{φ:X→Prop}{v:X→Value}{L' R':X→List Asn}(hs:Spec P n vs L R0 φ v L' R')(hcb:Cb P n)
  (ks:List Nat) (rs:List (Bool×Nat)) (ns:List Nat) (k:∀x,φ x→At N w0 M H ((d,v x)::E) (f_ ns (L' x) (ga ks Γ)) R (wpList P ops Q rest))
  (hf:ev E f=some (.func (.func n) #[] cap.toArray):=by exact rfl) (hx:evs E xs=some us:=by exact rfl) (hu:us++cap=vs:=by exact rfl)
  (hnd:pZ ks=true:=by exact rfl) (hL:e_ Γ ks=du L:=by exact rfl) (hR:iV Γ R rs=du R0:=by exact rfl) (hl:ix ks rs=true:=by exact rfl) (hns:pZ ns=true:=by exact rfl) (hnl:∀x,φ x→ns.length=(L' x).length:=by exact fun _ _=>rfl) (hrl:∀x,φ x→eq rs=true→0=(R' x).length:=by exact fun _ _ _=>rfl)
  (hd:Nat.blt d N=true:=by exact rfl):
  At N w0 M H E Γ R (wpList P ops Q (⟨some d,.call {callee:= .value f,args:=xs.toArray,argTypes:=at_},T,ps,af,none⟩::rest)):=dG hs hcb ks rs ns hf hx hu hnd hL hR hl hns hnl hrl hd k
theorem dj{n:Nat}{f:Operand}{xs:List Operand}{cap us vs:List Value}{at_:Array TypeId}{L R0:List Asn}{X:Type}{φ:X→Prop}{v:X→Value}{L' R':X→List Asn}(hs:Spec P n vs L R0 φ v L' R')(hcb:Cb P n)
  (ks:List Nat) (rs:List (Bool×Nat)) (ns:List Nat) (hf:ev E f=some (.func (.func n) #[] cap.toArray)) (hx:evs E xs=some us) (hu:us++cap=vs) (k:∀x,φ x→At N w0 M H ((d,v x)::E) (f_ ns (L' x) (ga ks Γ)) R (wpList P ops Q rest))
  (hnd:pZ ks=true:=by exact rfl) (hL:e_ Γ ks=du L:=by exact rfl) (hR:iV Γ R rs=du R0:=by exact rfl) (hl:ix ks rs=true:=by exact rfl) (hns:pZ ns=true:=by exact rfl) (hnl:∀x,φ x→ns.length=(L' x).length:=by exact fun _ _=>rfl) (hrl:∀x,φ x→eq rs=true→0=(R' x).length:=by exact fun _ _ _=>rfl)
  (hd:Nat.blt d N=true:=by exact rfl):
  At N w0 M H E Γ R (wpList P ops Q (⟨some d,.call {callee:= .value f,args:=xs.toArray,argTypes:=at_},T,ps,af,none⟩::rest)):=dG hs hcb ks rs ns hf hx hu hnd hL hR hl hns hnl hrl hd k
theorem bw{dst:Option Nat}{n:Nat}{f:Operand}{xs:List Operand}{cap us vs:List Value}{at_:Array TypeId}{L R0:List Asn}{X:Type}{φ:X→Prop}{v:X→Value}{L' R':X→List Asn}(hs:Spec P n vs L R0 φ v L' R')(hcb:Cb P n)
  (ks:List Nat) (rs:List (Bool×Nat)) (ns:List Nat) (hf:ev E f=some (.func (.func n) #[] cap.toArray):=by exact rfl) (hx:evs E xs=some us:=by exact rfl) (hu:us++cap=vs:=by exact rfl)
  (hnd:pZ ks=true:=by exact rfl) (hL:e_ Γ ks=du L:=by exact rfl) (hR:iV Γ R rs=du R0:=by exact rfl) (hl:ix ks rs=true:=by exact rfl) (hns:pZ ns=true:=by exact rfl) (hnl:∀x,φ x→ns.length=(L' x).length:=by exact fun _ _=>rfl) (hrl:∀x,φ x→eq rs=true→0=(R' x).length:=by exact fun _ _ _=>rfl):
  MS P N w0 M H E Γ R ⟨dst,.call {callee:= .value f,args:=xs.toArray,argTypes:=at_},T,ps,af,none⟩ φ v (fun x=>f_ ns (L' x) (ga ks Γ)) (fun _=>R):=iU hs hcb ks rs ns hf hx hu hnd hL hR hl hns hnl hrl
theorem fv{dst:Option Nat}{n:Nat}{f:Operand}{xs:List Operand}{cap us vs:List Value}{at_:Array TypeId}{L R0:List Asn}{X:Type}{φ:X→Prop}{v:X→Value}{L' R':X→List Asn}(hs:Spec P n vs L R0 φ v L' R')(hcb:Cb P n)
  (ks:List Nat) (rs:List (Bool×Nat)) (ns:List Nat) (hf:ev E f=some (.func (.func n) #[] cap.toArray)) (hx:evs E xs=some us) (hu:us++cap=vs)
  (hnd:pZ ks=true:=by exact rfl) (hL:e_ Γ ks=du L:=by exact rfl) (hR:iV Γ R rs=du R0:=by exact rfl) (hl:ix ks rs=true:=by exact rfl) (hns:pZ ns=true:=by exact rfl) (hnl:∀x,φ x→ns.length=(L' x).length:=by exact fun _ _=>rfl) (hrl:∀x,φ x→eq rs=true→0=(R' x).length:=by exact fun _ _ _=>rfl):
  MS P N w0 M H E Γ R ⟨dst,.call {callee:= .value f,args:=xs.toArray,argTypes:=at_},T,ps,af,none⟩ φ v (fun x=>f_ ns (L' x) (ga ks Γ)) (fun _=>R):=iU hs hcb ks rs ns hf hx hu hnd hL hR hl hns hnl hrl
theorem ay{l:List Oper}{V I:de}{i d:Nat}{v:Value}{x:Operand}{T:TypeId}{ps:String}{af:Array Edge}(ho:l[i]?=some ⟨some d,.move x,T,ps,af,none⟩)(hx:ev (vpre (ec ⟨some d,.move x,T,ps,af,none⟩) V++E) x=some v)(t:PRs P N w0 M H E Γ R l V I):PRs P N w0 M H E Γ R l V ((i,d,v)::I):=bl (GU ho (aY hx)) t
theorem ac{l:List Oper}{V I:de}{i d:Nat}{v:Value}{op:Op}{T:TypeId}{ps:String}{af:Array Edge}(ho:l[i]?=some ⟨some d,op,T,ps,af,none⟩)(h:PR P N w0 M H (vpre (ec ⟨some d,op,T,ps,af,none⟩) V++E) Γ R op v)(t:PRs P N w0 M H E Γ R l V I):PRs P N w0 M H E Γ R l V ((i,d,v)::I):=bl (GU ho h) t
end
theorem bU{n:Int}(h: -9223372036854775808≤n∧n≤9223372036854775807):IntKind.i64.wrap n=n:=pG h.1 h.2
theorem cf{n:Int}(h:0≤n∧n<4294967296):IntKind.u32.wrap n=n:=lg h.1 h.2
theorem aO{P:Program}{S:TypeId}{a b c:Int}(h:IntKind.i64.wrap (a+b)=c:=by first|exact bU (by omega)|rfl):d8 P .add S (.int .i64 a) (.int .i64 b) (.int .i64 c):=cC h
theorem s7{P:Program}{S:TypeId}{a b c:Int}(h:IntKind.u32.wrap (a+b)=c:=by first|exact cf (by omega)|rfl):d8 P .add S (.int .u32 a) (.int .u32 b) (.int .u32 c):=cC h
theorem eL{P:Program}{S:TypeId}{a b c:Int}(h:IntKind.i64.wrap (a-b)=c:=by first|exact bU (by omega)|rfl):d8 P .sub S (.int .i64 a) (.int .i64 b) (.int .i64 c):=gZ h
theorem FR{P:Program}{S:TypeId}{a b c:Int}(h:IntKind.u32.wrap (a-b)=c:=by first|exact cf (by omega)|rfl):d8 P .sub S (.int .u32 a) (.int .u32 b) (.int .u32 c):=gZ h
theorem kB{P:Program}{S:TypeId}{a b c:Int}(h:IntKind.i64.wrap (a*b)=c:=by first|exact bU (by omega)|rfl):d8 P .mul S (.int .i64 a) (.int .i64 b) (.int .i64 c):=gd h
theorem oI{P:Program}{S:TypeId}{a b c:Int}(h:IntKind.u32.wrap (a*b)=c:=by first|exact cf (by omega)|rfl):d8 P .mul S (.int .u32 a) (.int .u32 b) (.int .u32 c):=gd h
abbrev Ba:=ByteArray
class Pk (b:Bool) (u v:Value) (z:outParam Value):Prop where
 h:(bif b then u else v)=z
instance Pk0{b:Bool}{u v:Value}:Pk b u v (bif b then u else v):=⟨rfl⟩
instance Pk1{b c:Bool}:Pk b (.bool true) (gv (gb false b) (.bool c)) (.bool (b || c)):=⟨ez⟩
instance Pk2{b c:Bool}:Pk b (gv (gb true b) (.bool c)) (.bool false) (.bool (b&&c)):=⟨dU⟩
instance Pk3{c:Bool}:Pk false (.bool true) (.bool c) (.bool (false || c)):=⟨rfl⟩
instance Pk4{c:Bool}:Pk true (.bool c) (.bool false) (.bool (true&&c)):=⟨rfl⟩
theorem bK{P:Program}{N:Nat}{w0:World}{M H:Nat→Prop}{E:fz}{Γ R:ey}{c x y:Operand}{b:Bool}{u v z:Value}(hc:ev E c=some (.bool b))(hx:ev E x=some u)(hy:ev E y=some v) [hz:Pk b u v z]:PR P N w0 M H E Γ R (.pick c x y) z:=e9 hc hx hy hz.h
abbrev Sg(s:ByteArray):Value:= .string s
abbrev Pt(b:Nat):Value:= .pointer (some ⟨b,0,none⟩)
abbrev I6(n:Int):Value:= .int .i64 n
abbrev I3(n:Int):Value:= .int .u32 n
abbrev bi(P:Program)(n:Nat)(vs:List Value)(L R:List Asn)(v:Value)(L1:List Asn):Prop:=Spec P n vs L R (X:=Unit) (fun _=>True) (fun _=>v) (fun _=>L1) (fun _=> [])
def eU(x:Int):List Value:= [.int .u32 x]
theorem gt(x y:ByteArray):(x==y)=decide (x=y):=by
 obtain⟨⟨x⟩⟩:=x;obtain⟨⟨y⟩⟩:=y;show((⟨x⟩:Array UInt8)==⟨y⟩)=_;simp;exact Bool.beq_eq_decide_eq x y
def gQ(s:ByteArray):Value:= .string s
theorem Hi{P:Program}{kt:TypeId}(h:P.underlying kt=some .string):KeyLaw P kt gQ where
 check:=fun b k w=>by
  show(Instr.checkKey b (9999+1) kt (.string k)).run P w=_;unfold Instr.checkKey;simp [Sem.run_bind,run_underlying h]
 find:=fun{α} kf vf k ms w=>by
  have hnow:∀(ms:List (α×Nat))(i:Nat),Instr.findNow .string (.string k) (ms.map (j9 gQ kf vf)) i=some (zk kf vf k ms i):=by
   intro ms
   induction ms with
   | nil=>intro i;rfl
   | cons m r ih=>
    intro i;simp only [List.map_cons,Instr.findNow,j9,gQ,Instr.sameNow,zk];by_cases e:kf m.1=k
    ·have:(k==kf m.1)=true:=by rw [gt];exact decide_eq_true e.symm
     rw [this,aw e]
    ·have:(k==kf m.1)=false:=by rw [gt];exact decide_eq_false fun h=>e h.symm
     rw [this,ai e];exact ih (i+1)
  unfold Instr.findKey;simp only [Sem.run_bind,run_underlying h,Result.andThen_ok];show(match Instr.findNow .string (gQ k) (ms.map (j9 gQ kf vf)) 0 with|some r=>pure r|none=>_:Sem (Option (Nat×Value))).run P w=_;rw [show Instr.findNow .string (gQ k) (ms.map (j9 gQ kf vf)) 0=some (zk kf vf k ms 0)from hnow ms 0];rfl
 stays:=fun k=>by
  show Instr.sameBits 10000 (.string k) (.string k)=true;simp [Instr.sameBits,gt]
section
variable{P:Program}{N:Nat}{w0:World}{M H:Nat→Prop}{E:fz}{Γ R:ey}{Q:Exit→Act→World→Prop}
variable{ops:Array Oper}{rest:List Oper}{T:TypeId}{ps:String}{af:Array Edge}{d:Nat}
variable{α κ:Type} [DecidableEq κ]{mk:κ→Value}{kf:α→κ}{vf:α→Value}
theorem Ch{S kt et:TypeId}{x y z:Operand}{b:Nat}{k:Nat}(e:α){L:List α}(L':List α)(hS:P.underlying S=some (.map kt et))(hK:KeyLaw P kt mk)(hx:ev E x=some (.map (some b)))(hy:ev E y=some (mk (kf e)))(hz:ev E z=some (vf e))(hk:cn Γ k=some (mp mk kf vf (some b) L))
  (hp:(e::L.filter fun a=>decide (kf a≠kf e)).Perm L'):
  MS P N w0 M H E Γ R ⟨none,.insert S x y z,T,ps,af,none⟩ (X:=Unit) (fun _=>True) (fun _=>undef) (fun _=>(k,mp mk kf vf (some b) L')::Γ) (fun _=>R):=
 fun a w hE hC next Q hn=>jk (T:=T) (ps:=ps) (af:=af) e L' hS hK hx hy hz hk hp a w hE hC next Q hn
theorem cv{S kt et:TypeId}{x y z:Operand}{b:Nat}{k:Nat}(e:α){L:List α}(L':List α)(hS:P.underlying S=some (.map kt et))(hK:KeyLaw P kt mk)(hx:ev E x=some (.map (some b)))(hy:ev E y=some (mk (kf e)))(hz:ev E z=some (vf e))(hk:cn Γ k=some (mp mk kf vf (some b) L))
  (hp:(e::L.filter fun a=>decide (kf a≠kf e)).Perm L') (kk:At N w0 M H E ((k,mp mk kf vf (some b) L')::Γ) R (wpList P ops Q rest)):At N w0 M H E Γ R (wpList P ops Q (⟨none,.insert S x y z,T,ps,af,none⟩::rest)):=
 Ix (Ch e L' hS hK hx hy hz hk hp) fun _ _=>kk
end
inductive Tx where
 | mk (kind n:Int) (name:ByteArray) (v:SV) (kids:List Tx)
def Tx.kind:Tx→Int | .mk k _ _ _ _=>k
def Tx.n:Tx→Int | .mk _ n _ _ _=>n
def Tx.name:Tx→ByteArray | .mk _ _ s _ _=>s
def Tx.v:Tx→SV | .mk _ _ _ v _=>v
def Tx.kids:Tx→List Tx | .mk _ _ _ _ l=>l
def dB(t:Tx):List Value:= [.int .i64 t.kind,.int .u32 t.n,.string t.name,sv t.v]
abbrev xV(t:Tx):Value:= .agg (dB t).toArray
inductive Ty where
 | mk (kind:Int) (name:ByteArray) (ve:SV) (es:List Tx) (vb:SV) (body:List Ty) (vl:SV) (els:List Ty)
def Ty.kind:Ty→Int | .mk k _ _ _ _ _ _ _=>k
def Ty.name:Ty→ByteArray | .mk _ s _ _ _ _ _ _=>s
def Ty.ve:Ty→SV | .mk _ _ v _ _ _ _ _=>v
def Ty.es:Ty→List Tx | .mk _ _ _ l _ _ _ _=>l
def Ty.vb:Ty→SV | .mk _ _ _ _ v _ _ _=>v
def Ty.body:Ty→List Ty | .mk _ _ _ _ _ l _ _=>l
def Ty.vl:Ty→SV | .mk _ _ _ _ _ _ v _=>v
def Ty.els:Ty→List Ty | .mk _ _ _ _ _ _ _ l=>l
def dM(t:Ty):List Value:= [.int .i64 t.kind,.string t.name,sv t.ve,sv t.vb,sv t.vl]
abbrev yV(t:Ty):Value:= .agg (dM t).toArray
def SlIn'{α:Type}(w:World)(F:Nat→Prop)(s:Nat)(enc:α→List Value)(v:Value)(l:List α):Prop:=∃G:Nat→Prop,s_ w G s enc v l∧∀b,G b→F b
theorem SlIn'.stable{α:Type}{w w':World}{F:Nat→Prop}{s:Nat}{enc:α→List Value}{v:Value}{l:List α}(h:SlIn' w F s enc v l)(hs:∀b,F b→w'.heap[b]?=w.heap[b]?):SlIn' w' F s enc v l:=by
 obtain⟨G,h1,h2⟩:=h;exact⟨G,(sl s enc v l).stable h1 fun b hb=>hs b (h2 b hb),h2⟩
theorem SlIn'.mono{α:Type}{w:World}{F F':Nat→Prop}{s:Nat}{enc:α→List Value}{v:Value}{l:List α}(h:SlIn' w F s enc v l)(hs:∀b,F b→F' b):SlIn' w F' s enc v l:=by
 obtain⟨G,h1,h2⟩:=h;exact⟨G,h1,fun b hb=>hs b (h2 b hb)⟩
mutual
def TxIn(w:World)(F:Nat→Prop):Tx→Prop
 | .mk _ _ _ v kids=>SlIn' w F 4 dB (sv v) kids∧TxsIn w F kids
def TxsIn(w:World)(F:Nat→Prop):List Tx→Prop
 | []=>True
 | t::r=>TxIn w F t∧TxsIn w F r
end
mutual
theorem TxIn.mono{w w':World}{F F':Nat→Prop}(hs:∀b,F b→F' b)(hw:∀b,F b→w'.heap[b]?=w.heap[b]?):∀t,TxIn w F t→TxIn w' F' t
 | .mk _ _ _ v kids,h=>⟨(h.1.stable hw).mono hs,TxsIn.mono hs hw kids h.2⟩
theorem TxsIn.mono{w w':World}{F F':Nat→Prop}(hs:∀b,F b→F' b)(hw:∀b,F b→w'.heap[b]?=w.heap[b]?):∀l,TxsIn w F l→TxsIn w' F' l
 | [],_=>trivial
 | t::r,h=>⟨TxIn.mono hs hw t h.1,TxsIn.mono hs hw r h.2⟩
end
theorem TxsIn.mem{w:World}{F:Nat→Prop}:∀{l:List Tx},TxsIn w F l→∀t∈l,TxIn w F t
 | [],_,_,h=>by simp at h
 | t::r,h,u,hu=>by
  rcases List.mem_cons.1 hu with rfl|hu
  ·exact h.1
  ·exact TxsIn.mem h.2 u hu
mutual
def TyIn(w:World)(F:Nat→Prop):Ty→Prop
 | .mk _ _ ve es vb body vl els=>(SlIn' w F 4 dB (sv ve) es∧TxsIn w F es)∧(SlIn' w F 5 dM (sv vb) body∧TysIn w F body)∧(SlIn' w F 5 dM (sv vl) els∧TysIn w F els)
def TysIn(w:World)(F:Nat→Prop):List Ty→Prop
 | []=>True
 | t::r=>TyIn w F t∧TysIn w F r
end
mutual
theorem TyIn.mono{w w':World}{F F':Nat→Prop}(hs:∀b,F b→F' b)(hw:∀b,F b→w'.heap[b]?=w.heap[b]?):∀t,TyIn w F t→TyIn w' F' t
 | .mk _ _ ve es vb body vl els,h=>⟨⟨(h.1.1.stable hw).mono hs,TxsIn.mono hs hw es h.1.2⟩,⟨(h.2.1.1.stable hw).mono hs,TysIn.mono hs hw body h.2.1.2⟩,⟨(h.2.2.1.stable hw).mono hs,TysIn.mono hs hw els h.2.2.2⟩⟩
theorem TysIn.mono{w w':World}{F F':Nat→Prop}(hs:∀b,F b→F' b)(hw:∀b,F b→w'.heap[b]?=w.heap[b]?):∀l,TysIn w F l→TysIn w' F' l
 | [],_=>trivial
 | t::r,h=>⟨TyIn.mono hs hw t h.1,TysIn.mono hs hw r h.2⟩
end
theorem TysIn.mem{w:World}{F:Nat→Prop}:∀{l:List Ty},TysIn w F l→∀t∈l,TyIn w F t
 | [],_,_,h=>by simp at h
 | t::r,h,u,hu=>by
  rcases List.mem_cons.1 hu with rfl|hu
  ·exact h.1
  ·exact TysIn.mem h.2 u hu
def cm(v:SV)(l:List Tx):Asn:=⟨fun w F=>SlIn' w F 4 dB (sv v) l∧TxsIn w F l,fun h hs=>⟨h.1.stable hs,TxsIn.mono (fun _ hb=>hb) hs _ h.2⟩⟩
def b_(v:SV)(l:List Ty):Asn:=⟨fun w F=>SlIn' w F 5 dM (sv v) l∧TysIn w F l,fun h hs=>⟨h.1.stable hs,TysIn.mono (fun _ hb=>hb) hs _ h.2⟩⟩
theorem gE{v:SV}{l:List Tx}:∀w G,(cm v l).pred w G→(∀b,G b→b<w.heap.size)→∃G',(sl 4 dB (sv v) l).pred w G'∧∀b,G' b→G b:=fun w G h _=>h.1
theorem hZ{v:SV}{l:List Ty}:∀w G,(b_ v l).pred w G→(∀b,G b→b<w.heap.size)→∃G',(sl 5 dM (sv v) l).pred w G'∧∀b,G' b→G b:=fun w G h _=>h.1
theorem eb{v:SV}{l:List Tx}{t:Tx}(ht:t∈l):∀w G,(cm v l).pred w G→(∀b,G b→b<w.heap.size)→∃G',(cm t.v t.kids).pred w G'∧∀b,G' b→G b:=fun w G h _=>by
 have:=h.2.mem t ht;cases t with
 | mk a b c d e=>exact⟨G,this,fun _ hb=>hb⟩
theorem lF{v:SV}{l:List Ty}{t:Ty}(ht:t∈l):∀w G,(b_ v l).pred w G→(∀b,G b→b<w.heap.size)→∃G',(cm t.ve t.es).pred w G'∧∀b,G' b→G b:=fun w G h _=>by
 have:=h.2.mem t ht;cases t with
 | mk a b c d e f g i=>exact⟨G,this.1,fun _ hb=>hb⟩
theorem iv{v:SV}{l:List Ty}{t:Ty}(ht:t∈l):∀w G,(b_ v l).pred w G→(∀b,G b→b<w.heap.size)→∃G',(b_ t.vb t.body).pred w G'∧∀b,G' b→G b:=fun w G h _=>by
 have:=h.2.mem t ht;cases t with
 | mk a b c d e f g i=>exact⟨G,this.2.1,fun _ hb=>hb⟩
theorem ji{v:SV}{l:List Ty}{t:Ty}(ht:t∈l):∀w G,(b_ v l).pred w G→(∀b,G b→b<w.heap.size)→∃G',(b_ t.vl t.els).pred w G'∧∀b,G' b→G b:=fun w G h _=>by
 have:=h.2.mem t ht;cases t with
 | mk a b c d e f g i=>exact⟨G,this.2.2,fun _ hb=>hb⟩
structure Tf where
 name:ByteArray
 vp:SV
 ps:List ByteArray
 vb:SV
 body:List Ty
def gu(f:Tf):List Value:= [.string f.name,sv f.vp,sv f.vb]
def TfIn(w:World)(F:Nat→Prop)(f:Tf):Prop:=SlIn' w F 1 eS (sv f.vp) f.ps∧(SlIn' w F 5 dM (sv f.vb) f.body∧TysIn w F f.body)
theorem TfIn.stable{w w':World}{F:Nat→Prop}{f:Tf}(h:TfIn w F f)(hs:∀b,F b→w'.heap[b]?=w.heap[b]?):TfIn w' F f:=⟨h.1.stable hs,h.2.1.stable hs,TysIn.mono (fun _ hb=>hb) hs _ h.2.2⟩
def cE(v:SV)(l:List Tf):Asn:=⟨fun w F=>SlIn' w F 3 gu (sv v) l∧∀f∈l,TfIn w F f,fun h hs=>⟨h.1.stable hs,fun f hf=>(h.2 f hf).stable hs⟩⟩
def CQ(f:Tf):Asn:=⟨fun w F=>TfIn w F f,fun h hs=>h.stable hs⟩
theorem jw{v:SV}{l:List Tf}:∀w G,(cE v l).pred w G→(∀b,G b→b<w.heap.size)→∃G',(sl 3 gu (sv v) l).pred w G'∧∀b,G' b→G b:=fun w G h _=>h.1
theorem lI{v:SV}{l:List Tf}{f:Tf}(hf:f∈l):∀w G,(cE v l).pred w G→(∀b,G b→b<w.heap.size)→∃G',(CQ f).pred w G'∧∀b,G' b→G b:=fun w G h _=>⟨G,h.2 f hf,fun _ hb=>hb⟩
theorem lJ{f:Tf}:∀w G,(CQ f).pred w G→(∀b,G b→b<w.heap.size)→∃G',(sl 1 eS (sv f.vp) f.ps).pred w G'∧∀b,G' b→G b:=fun w G h _=>h.1
theorem kF{f:Tf}:∀w G,(CQ f).pred w G→(∀b,G b→b<w.heap.size)→∃G',(b_ f.vb f.body).pred w G'∧∀b,G' b→G b:=fun w G h _=>⟨G,h.2,fun _ hb=>hb⟩
def wU(n:Int):Int:=IntKind.u32.wrap n
def tr(b:Bool):Int:=if b=true then 1 else 0
def eJ:ByteArray:=⟨#[45]⟩
def u_:ByteArray:=⟨#[126]⟩
def tx:ByteArray:=⟨#[33]⟩
def gm:ByteArray:=⟨#[43]⟩
def gM:ByteArray:=⟨#[42]⟩
def kM:ByteArray:=⟨#[47]⟩
def lS:ByteArray:=⟨#[37]⟩
def fD:ByteArray:=⟨#[38]⟩
def ke:ByteArray:=⟨#[124]⟩
def fJ:ByteArray:=⟨#[94]⟩
def gL:ByteArray:=⟨#[60,60]⟩
def iq:ByteArray:=⟨#[62,62]⟩
def mj:ByteArray:=⟨#[60]⟩
def nh:ByteArray:=⟨#[60,61]⟩
def nj:ByteArray:=⟨#[62]⟩
def oO:ByteArray:=⟨#[62,61]⟩
def nk:ByteArray:=⟨#[61,61]⟩
def ng:ByteArray:=⟨#[33,61]⟩
def LT(op:ByteArray)(a:Int):Option Int:=
 if op=eJ then some (wU (-a))else if op=u_ then some (4294967295-a)else if op=tx then some (tr (decide (a=0)))else none
def LB(op:ByteArray)(a b:Int):Option Int:=
 if op=gm then some (wU (a+b))else if op=eJ then some (wU (a-b))else if op=gM then some (wU (a*b))else
 if op=kM then some (if b=0 then 0 else a/b)else if op=lS then some (if b=0 then a else a%b)else
 if op=fD then some (bits .and .u32 a b)else if op=ke then some (bits .or .u32 a b)else if op=fJ then some (bits .xor .u32 a b)else
 if op=gL then some (wU (a*2^(b%32).toNat))else if op=iq then some (a/2^(b%32).toNat)else
 if op=mj then some (tr (decide (a<b)))else if op=nh then some (tr (decide (a≤b)))else if op=nj then some (tr (decide (a>b)))else if op=oO then some (tr (decide (a≥b)))else
 if op=nk then some (tr (decide (a=b)))else if op=ng then some (tr (!decide (a=b)))else none
structure Ms where
 inp:List Int
 out:List Int
 mem:Nat→Int
 fuel:Int
inductive Re(α:Type) where
 | ok (a:α) (s:Ms)
 | err (e:Int)
abbrev Vs:=List (ByteArray×Int)
def rl(vs:Vs)(x:ByteArray):Int:=match vs.find? (fun p=>decide (p.1=x))with
 | some p=>p.2
 | none=>0
def gH(vs:Vs)(x:ByteArray)(n:Int):Vs:=(x,n)::vs.filter fun p=>decide (p.1≠x)
def i_(vs:Vs):List ByteArray→List Int→Vs
 | p::ps,a::al=>i_ (gH vs p a) ps al
 | _,_=>vs
def dc(fs:List Tf)(x:ByteArray):Option Tf:=fs.find? fun f=>decide (f.name=x)
def Ek(m:Nat→Int)(i:Nat)(v:Int):Nat→Int:=fun k=>if k=i then v else m k
mutual
def kS:Nat→List Tf→Nat→Vs→Tx→Ms→Option (Re Int)
 | 0,_,_,_,_,_=>none
 | g+1,fs,d,vs,t,s=>if s.fuel≤0 then some (.err 25)else
  match ly g fs d vs [] t.kids {s with fuel:=s.fuel-1}with
  | none=>none
  | some (.err e)=>some (.err e)
  | some (.ok ks s1)=>
   if t.kind=1 then some (.ok t.n s1)else if t.kind=2 then some (.ok (rl vs t.name) s1)else
   if t.kind=4 then some (.ok (s1.mem (ks.getD 0 0%256).toNat) s1)else
   if t.kind=5 then(match s1.inp with
    | []=>some (.ok 0 s1)
    | a::r=>some (.ok a {s1 with inp:=r}))else
   if t.kind=6 then some (.ok ((LT t.name (ks.getD 0 0)).getD 0) s1)else if t.kind=7 then some (.ok ((LB t.name (ks.getD 0 0) (ks.getD 1 0)).getD 0) s1)else
   match dc fs t.name with
   | none=>none
   | some f=>tF g fs d f ks s1
def ly:Nat→List Tf→Nat→Vs→List Int→List Tx→Ms→Option (Re (List Int))
 | 0,_,_,_,_,_,_=>none
 | _+1,_,_,_,acc,[],s=>some (.ok acc s)
 | g+1,fs,d,vs,acc,t::r,s=>match kS g fs d vs t s with
  | none=>none
  | some (.err e)=>some (.err e)
  | some (.ok v s1)=>ly g fs d vs (acc++ [v]) r s1
def tF:Nat→List Tf→Nat→Tf→List Int→Ms→Option (Re Int)
 | 0,_,_,_,_,_=>none
 | g+1,fs,d,f,al,s=>if d=12 then some (.err 26)else
  match mL g fs (d+1) (i_ [] f.ps al) f.body s with
  | none=>none
  | some (.err e)=>some (.err e)
  | some (.ok (_,r) s1)=>some (.ok (r.getD 0) s1)
def mL:Nat→List Tf→Nat→Vs→List Ty→Ms→Option (Re (Vs×Option Int))
 | 0,_,_,_,_,_=>none
 | _+1,_,_,vs,[],s=>some (.ok (vs,none) s)
 | g+1,fs,d,vs,t::r,s=>match qv g fs d vs t s with
  | none=>none
  | some (.err e)=>some (.err e)
  | some (.ok (vs1,some x) s1)=>some (.ok (vs1,some x) s1)
  | some (.ok (vs1,none) s1)=>mL g fs d vs1 r s1
def qv:Nat→List Tf→Nat→Vs→Ty→Ms→Option (Re (Vs×Option Int))
 | 0,_,_,_,_,_=>none
 | g+1,fs,d,vs,t,s=>if s.fuel≤0 then some (.err 25)else
  match t.es with
  | []=>none
  | e::es=>match kS g fs d vs e {s with fuel:=s.fuel-1}with
   | none=>none
   | some (.err e)=>some (.err e)
   | some (.ok v s1)=>
    if t.kind=1∨t.kind=2 then some (.ok (gH vs t.name v,none) s1)else
    if t.kind=3 then(match es with
     | []=>none
     | e2::_=>match kS g fs d vs e2 s1 with
      | none=>none
      | some (.err e)=>some (.err e)
      | some (.ok w s2)=>some (.ok (vs,none) {s2 with mem:=Ek s2.mem (v%256).toNat w}))else
    if t.kind=4 then mL g fs d vs (if v=0 then t.els else t.body) s1 else
    if t.kind=5 then tE g fs d vs e t.body v s1 else
    if t.kind=6 then some (.ok (vs,some v) s1)else if t.kind=7 then some (.ok (vs,none) {s1 with out:=s1.out++ [v]})else some (.ok (vs,none) s1)
def tE:Nat→List Tf→Nat→Vs→Tx→List Ty→Int→Ms→Option (Re (Vs×Option Int))
 | 0,_,_,_,_,_,_,_=>none
 | g+1,fs,d,vs,e,l,v,s=>if v=0 then some (.ok (vs,none) s)else
  match mL g fs d vs l s with
  | none=>none
  | some (.err e)=>some (.err e)
  | some (.ok (vs1,some x) s1)=>some (.ok (vs1,some x) s1)
  | some (.ok (vs1,none) s1)=>match kS g fs d vs1 e s1 with
   | none=>none
   | some (.err e)=>some (.err e)
   | some (.ok w s2)=>tE g fs d vs1 e l w s2
end
end Go.Proofs.YtedmdgbmdplifaaGreat
namespace Go.Proofs.YtedmdgbmdplifaaGreat
open Go.RowKit Tryz
theorem t1:TI prog 1 (.func #[] #[] Bool.false) (.nilFunc) 1 8:=⟨underlying1,by kernel_rfl⟩
theorem t3:TI prog 3 (.int .i64) (I6 0) 1 8:=⟨underlying3,by kernel_rfl⟩
theorem t4:TI prog 4 Go.TypeDesc.bool (.bool false) 1 1:=⟨underlying4,by kernel_rfl⟩
theorem t5:TI prog 5 (.int .u8) (.int .u8 0) 1 1:=⟨underlying5,by kernel_rfl⟩
theorem t9:TI prog 9 Go.TypeDesc.string (Sg ⟨#[]⟩) 1 16:=⟨underlying9,by kernel_rfl⟩
theorem Dj:TI prog 22 (.slice 3) (.slice none 0 0) 1 24:=⟨underlying22,by kernel_rfl⟩
theorem Mq:TI prog 23 (.array 3 3) (.agg #[I6 0,I6 0,I6 0]) 3 24:=⟨underlying23,by kernel_rfl⟩
theorem ip:TI prog 25 (.slice 66) (.slice none 0 0) 1 24:=⟨underlying25,by kernel_rfl⟩
theorem iQ:TI prog 27 (.struct #[⟨ "Funcs",25,0,false,"","",0⟩]) (.agg #[.slice none 0 0]) 1 24:=⟨underlying27,by kernel_rfl⟩
theorem dx:FO prog 27 0 0:=⟨_,_,0,underlying27,rfl,rfl,by kernel_rfl⟩
theorem MJ:PL prog 27 [(0,1)]:=⟨_,underlying27,by kernel_rfl⟩
theorem tc:TI prog 31 (.struct #[⟨ "Kind",3,0,false,"","",0⟩,⟨ "Code",9,1,false,"","",8⟩]) (.agg #[I6 0,Sg ⟨#[]⟩]) 2 24:=⟨underlying31,by kernel_rfl⟩
theorem E4:FO prog 31 0 0:=⟨_,_,0,underlying31,rfl,rfl,by kernel_rfl⟩
theorem pl:FO prog 31 1 1:=⟨_,_,0,underlying31,rfl,rfl,by kernel_rfl⟩
theorem DW:PL prog 31 [(0,1),(1,1)]:=⟨_,underlying31,by kernel_rfl⟩
theorem BO:TI prog 32 (.int .i64) (I6 0) 1 8:=⟨underlying32,by kernel_rfl⟩
theorem eG:TI prog 41 (.int .u32) (I3 0) 1 4:=⟨underlying41,by kernel_rfl⟩
theorem h_:TI prog 46 (.slice 9) (.slice none 0 0) 1 24:=⟨underlying46,by kernel_rfl⟩
theorem F1:TI prog 48 (.slice 41) (.slice none 0 0) 1 24:=⟨underlying48,by kernel_rfl⟩
theorem Ab:TI prog 53 (.struct #[⟨ "Kind",3,0,false,"","",0⟩,⟨ "Info",41,1,false,"","",8⟩]) (.agg #[I6 0,I3 0]) 2 16:=⟨underlying53,by kernel_rfl⟩
theorem sk:FO prog 53 0 0:=⟨_,_,0,underlying53,rfl,rfl,by kernel_rfl⟩
theorem zj:FO prog 53 1 1:=⟨_,_,0,underlying53,rfl,rfl,by kernel_rfl⟩
theorem MI:PL prog 53 [(0,1),(1,1)]:=⟨_,underlying53,by kernel_rfl⟩
theorem BN:TI prog 55 (.struct #[⟨ "Outputs",48,0,false,"","",0⟩,⟨ "Mem",48,1,false,"","",24⟩,⟨ "End",53,2,false,"","",48⟩]) (.agg #[.slice none 0 0,.slice none 0 0,I6 0,I3 0]) 4 64:=⟨underlying55,by kernel_rfl⟩
theorem sj:FO prog 55 0 0:=⟨_,_,0,underlying55,rfl,rfl,by kernel_rfl⟩
theorem si:FO prog 55 1 1:=⟨_,_,0,underlying55,rfl,rfl,by kernel_rfl⟩
theorem zi:FO prog 55 2 2:=⟨_,_,1,underlying55,rfl,rfl,by kernel_rfl⟩
theorem Pq:PL prog 55 [(0,1),(1,1),(2,2)]:=⟨_,underlying55,by kernel_rfl⟩
theorem jM:TI prog 59 (.slice 61) (.slice none 0 0) 1 24:=⟨underlying59,by kernel_rfl⟩
theorem ca:TI prog 61 (.struct #[⟨ "Kind",3,0,false,"","",0⟩,⟨ "N",41,1,false,"","",8⟩,⟨ "Name",9,2,false,"","",16⟩,⟨ "Kids",59,3,false,"","",32⟩]) (.agg #[I6 0,I3 0,Sg ⟨#[]⟩,.slice none 0 0]) 4 56:=⟨underlying61,by kernel_rfl⟩
theorem ki:FO prog 61 0 0:=⟨_,_,0,underlying61,rfl,rfl,by kernel_rfl⟩
theorem zh:FO prog 61 1 1:=⟨_,_,0,underlying61,rfl,rfl,by kernel_rfl⟩
theorem el:FO prog 61 2 2:=⟨_,_,0,underlying61,rfl,rfl,by kernel_rfl⟩
theorem dT:FO prog 61 3 3:=⟨_,_,0,underlying61,rfl,rfl,by kernel_rfl⟩
theorem fP:PL prog 61 [(0,1),(1,1),(2,1),(3,1)]:=⟨_,underlying61,by kernel_rfl⟩
theorem eR:TI prog 62 (.slice 64) (.slice none 0 0) 1 24:=⟨underlying62,by kernel_rfl⟩
theorem cr:TI prog 64 (.struct #[⟨ "Kind",3,0,false,"","",0⟩,⟨ "Name",9,1,false,"","",8⟩,⟨ "Exprs",59,2,false,"","",24⟩,⟨ "Body",62,3,false,"","",48⟩,⟨ "Else",62,4,false,"","",72⟩]) (.agg #[I6 0,Sg ⟨#[]⟩,.slice none 0 0,.slice none 0 0,.slice none 0 0]) 5 96:=⟨underlying64,by kernel_rfl⟩
theorem fj:FO prog 64 0 0:=⟨_,_,0,underlying64,rfl,rfl,by kernel_rfl⟩
theorem jH:FO prog 64 1 1:=⟨_,_,0,underlying64,rfl,rfl,by kernel_rfl⟩
theorem ie:FO prog 64 2 2:=⟨_,_,0,underlying64,rfl,rfl,by kernel_rfl⟩
theorem fV:FO prog 64 3 3:=⟨_,_,0,underlying64,rfl,rfl,by kernel_rfl⟩
theorem fK:FO prog 64 4 4:=⟨_,_,0,underlying64,rfl,rfl,by kernel_rfl⟩
theorem fO:PL prog 64 [(0,1),(1,1),(2,1),(3,1),(4,1)]:=⟨_,underlying64,by kernel_rfl⟩
theorem fC:TI prog 66 (.struct #[⟨ "Name",9,0,false,"","",0⟩,⟨ "Params",46,1,false,"","",16⟩,⟨ "Body",62,2,false,"","",40⟩]) (.agg #[Sg ⟨#[]⟩,.slice none 0 0,.slice none 0 0]) 3 64:=⟨underlying66,by kernel_rfl⟩
theorem jG:FO prog 66 0 0:=⟨_,_,0,underlying66,rfl,rfl,by kernel_rfl⟩
theorem dW:FO prog 66 1 1:=⟨_,_,0,underlying66,rfl,rfl,by kernel_rfl⟩
theorem bX:FO prog 66 2 2:=⟨_,_,0,underlying66,rfl,rfl,by kernel_rfl⟩
theorem MH:PL prog 66 [(0,1),(1,1),(2,1)]:=⟨_,underlying66,by kernel_rfl⟩
theorem xP:TI prog 78 (.struct #[⟨ "PC",41,0,false,"","",0⟩,⟨ "R",75,1,false,"","",4⟩,⟨ "F",41,17,false,"","",68⟩,⟨ "C",76,18,false,"","",72⟩,⟨ "Steps",3,22,false,"","",88⟩,⟨ "Due",3,23,false,"","",96⟩]) (.agg #[I3 0,I3 0,I3 0,I3 0,I3 0,I3 0,I3 0,I3 0,I3 0,I3 0,I3 0,I3 0,I3 0,I3 0,I3 0,I3 0,I3 0,I3 0,I3 0,I3 0,I3 0,I3 0,I6 0,I6 0]) 24 104:=⟨underlying78,by kernel_rfl⟩
theorem i9:FO prog 78 0 0:=⟨_,_,0,underlying78,rfl,rfl,by kernel_rfl⟩
theorem ic:FO prog 78 1 1:=⟨_,_,15,underlying78,rfl,rfl,by kernel_rfl⟩
theorem K6:FO prog 78 2 17:=⟨_,_,0,underlying78,rfl,rfl,by kernel_rfl⟩
theorem i7:FO prog 78 4 22:=⟨_,_,0,underlying78,rfl,rfl,by kernel_rfl⟩
theorem vJ:FO prog 78 5 23:=⟨_,_,0,underlying78,rfl,rfl,by kernel_rfl⟩
theorem Pp:PL prog 78 [(0,1),(1,16),(17,1),(18,4),(22,1),(23,1)]:=⟨_,underlying78,by kernel_rfl⟩
theorem yh:TI prog 84 (.slice 5) (.slice none 0 0) 1 24:=⟨underlying84,by kernel_rfl⟩
theorem wo:TI prog 91 (.pointer 157) (.pointer none) 1 8:=⟨underlying91,by kernel_rfl⟩
theorem Rj:TI prog 93 (.struct #[⟨ "S",78,0,false,"","",0⟩,⟨ "M",91,24,false,"","",104⟩]) (.agg #[I3 0,I3 0,I3 0,I3 0,I3 0,I3 0,I3 0,I3 0,I3 0,I3 0,I3 0,I3 0,I3 0,I3 0,I3 0,I3 0,I3 0,I3 0,I3 0,I3 0,I3 0,I3 0,I6 0,I6 0,.pointer none]) 25 112:=⟨underlying93,by kernel_rfl⟩
theorem eN:FO prog 93 0 0:=⟨_,_,23,underlying93,rfl,rfl,by kernel_rfl⟩
theorem gq:FO prog 93 1 24:=⟨_,_,0,underlying93,rfl,rfl,by kernel_rfl⟩
theorem Po:PL prog 93 [(0,24),(24,1)]:=⟨_,underlying93,by kernel_rfl⟩
theorem O9:TI prog 102 (.struct #[⟨ "l",22,0,false,"","babel/babelref08",0⟩,⟨ "at",3,1,false,"","babel/babelref08",24⟩,⟨ "left",3,2,false,"","babel/babelref08",32⟩,⟨ "nodes",3,3,false,"","babel/babelref08",40⟩,⟨ "names",46,4,false,"","babel/babelref08",48⟩,⟨ "vars",3,5,false,"","babel/babelref08",72⟩,⟨ "me",3,6,false,"","babel/babelref08",80⟩,⟨ "funcs",25,7,false,"","babel/babelref08",88⟩]) (.agg #[.slice none 0 0,I6 0,I6 0,I6 0,.slice none 0 0,I6 0,I6 0,.slice none 0 0]) 8 112:=⟨underlying102,by kernel_rfl⟩
theorem Bh:FO prog 102 0 0:=⟨_,_,0,underlying102,rfl,rfl,by kernel_rfl⟩
theorem qY:FO prog 102 1 1:=⟨_,_,0,underlying102,rfl,rfl,by kernel_rfl⟩
theorem qX:FO prog 102 2 2:=⟨_,_,0,underlying102,rfl,rfl,by kernel_rfl⟩
theorem qW:FO prog 102 3 3:=⟨_,_,0,underlying102,rfl,rfl,by kernel_rfl⟩
theorem gl:FO prog 102 4 4:=⟨_,_,0,underlying102,rfl,rfl,by kernel_rfl⟩
theorem jp:FO prog 102 5 5:=⟨_,_,0,underlying102,rfl,rfl,by kernel_rfl⟩
theorem fe:FO prog 102 6 6:=⟨_,_,0,underlying102,rfl,rfl,by kernel_rfl⟩
theorem dy:FO prog 102 7 7:=⟨_,_,0,underlying102,rfl,rfl,by kernel_rfl⟩
theorem MR:PL prog 102 [(0,1),(1,1),(2,1),(3,1),(4,1),(5,1),(6,1),(7,1)]:=⟨_,underlying102,by kernel_rfl⟩
theorem lK:TI prog 104 (.pointer 111) (.pointer none) 1 8:=⟨underlying104,by kernel_rfl⟩
theorem Dk:TI prog 105 (.map 9 3) (.map none) 1 8:=⟨underlying105,by kernel_rfl⟩
theorem BT:TI prog 106 (.slice 118) (.slice none 0 0) 1 24:=⟨underlying106,by kernel_rfl⟩
theorem Gr:TI prog 107 (.slice 171) (.slice none 0 0) 1 24:=⟨underlying107,by kernel_rfl⟩
theorem BS:TI prog 108 (.map 9 41) (.map none) 1 8:=⟨underlying108,by kernel_rfl⟩
theorem Mr:TI prog 109 (.map 9 1) (.map none) 1 8:=⟨underlying109,by kernel_rfl⟩
theorem O8:TI prog 111 (.struct #[⟨ "p",27,0,false,"","babel/qgen",0⟩,⟨ "code",106,1,false,"","babel/qgen",24⟩,⟨ "fixes",107,2,false,"","babel/qgen",48⟩,⟨ "labels",22,3,false,"","babel/qgen",72⟩,⟨ "starts",105,4,false,"","babel/qgen",96⟩,⟨ "offs",108,5,false,"","babel/qgen",104⟩,⟨ "ops",109,6,false,"","babel/qgen",112⟩,⟨ "end",3,7,false,"","babel/qgen",120⟩]) (.agg #[.slice none 0 0,.slice none 0 0,.slice none 0 0,.slice none 0 0,.map none,.map none,.map none,I6 0]) 8 128:=⟨underlying111,by kernel_rfl⟩
theorem mD:FO prog 111 1 1:=⟨_,_,0,underlying111,rfl,rfl,by kernel_rfl⟩
theorem qV:FO prog 111 2 2:=⟨_,_,0,underlying111,rfl,rfl,by kernel_rfl⟩
theorem oA:FO prog 111 3 3:=⟨_,_,0,underlying111,rfl,rfl,by kernel_rfl⟩
theorem oz:FO prog 111 4 4:=⟨_,_,0,underlying111,rfl,rfl,by kernel_rfl⟩
theorem mC:FO prog 111 5 5:=⟨_,_,0,underlying111,rfl,rfl,by kernel_rfl⟩
theorem Bg:FO prog 111 6 6:=⟨_,_,0,underlying111,rfl,rfl,by kernel_rfl⟩
theorem vN:FO prog 111 7 7:=⟨_,_,0,underlying111,rfl,rfl,by kernel_rfl⟩
theorem MQ:PL prog 111 [(0,1),(1,1),(2,1),(3,1),(4,1),(5,1),(6,1),(7,1)]:=⟨_,underlying111,by kernel_rfl⟩
theorem fH:TI prog 118 (.struct #[⟨ "Op",3,0,false,"","",0⟩,⟨ "D",3,1,false,"","",8⟩,⟨ "A",3,2,false,"","",16⟩,⟨ "B",3,3,false,"","",24⟩,⟨ "Imm",41,4,false,"","",32⟩]) (.agg #[I6 0,I6 0,I6 0,I6 0,I3 0]) 5 40:=⟨underlying118,by kernel_rfl⟩
theorem cz:FO prog 118 0 0:=⟨_,_,0,underlying118,rfl,rfl,by kernel_rfl⟩
theorem g9:FO prog 118 1 1:=⟨_,_,0,underlying118,rfl,rfl,by kernel_rfl⟩
theorem mB:FO prog 118 2 2:=⟨_,_,0,underlying118,rfl,rfl,by kernel_rfl⟩
theorem mA:FO prog 118 3 3:=⟨_,_,0,underlying118,rfl,rfl,by kernel_rfl⟩
theorem eo:FO prog 118 4 4:=⟨_,_,0,underlying118,rfl,rfl,by kernel_rfl⟩
theorem mS:PL prog 118 [(0,1),(1,1),(2,1),(3,1),(4,1)]:=⟨_,underlying118,by kernel_rfl⟩
theorem gh:TI prog 124 (.struct #[⟨ "Nodes",3,0,false,"","",0⟩,⟨ "Vars",3,1,false,"","",8⟩,⟨ "Stmts",3,2,false,"","",16⟩,⟨ "Exprs",3,3,false,"","",24⟩]) (.agg #[I6 0,I6 0,I6 0,I6 0]) 4 32:=⟨underlying124,by kernel_rfl⟩
theorem kR:FO prog 124 0 0:=⟨_,_,0,underlying124,rfl,rfl,by kernel_rfl⟩
theorem oy:FO prog 124 1 1:=⟨_,_,0,underlying124,rfl,rfl,by kernel_rfl⟩
theorem ox:FO prog 124 2 2:=⟨_,_,0,underlying124,rfl,rfl,by kernel_rfl⟩
theorem ow:FO prog 124 3 3:=⟨_,_,0,underlying124,rfl,rfl,by kernel_rfl⟩
theorem DX:PL prog 124 [(0,1),(1,1),(2,1),(3,1)]:=⟨_,underlying124,by kernel_rfl⟩
theorem O7:TI prog 128 (.struct #[⟨ "p",27,0,false,"","babel/babelref08",0⟩,⟨ "names",46,1,false,"","babel/babelref08",24⟩]) (.agg #[.slice none 0 0,.slice none 0 0]) 2 48:=⟨underlying128,by kernel_rfl⟩
theorem Bf:FO prog 128 0 0:=⟨_,_,0,underlying128,rfl,rfl,by kernel_rfl⟩
theorem jo:FO prog 128 1 1:=⟨_,_,0,underlying128,rfl,rfl,by kernel_rfl⟩
theorem MP:PL prog 128 [(0,1),(1,1)]:=⟨_,underlying128,by kernel_rfl⟩
theorem BR:TI prog 157 (.struct #[⟨ "Data",84,0,false,"","",0⟩,⟨ "Image",84,1,false,"","",24⟩,⟨ "OldData",84,2,false,"","",48⟩,⟨ "OldImage",84,3,false,"","",72⟩,⟨ "Rights",22,4,false,"","",96⟩,⟨ "Coherent",4,5,false,"","",120⟩]) (.agg #[.slice none 0 0,.slice none 0 0,.slice none 0 0,.slice none 0 0,.slice none 0 0,.bool false]) 6 128:=⟨underlying157,by kernel_rfl⟩
theorem mz:FO prog 157 0 0:=⟨_,_,0,underlying157,rfl,rfl,by kernel_rfl⟩
theorem qU:FO prog 157 1 1:=⟨_,_,0,underlying157,rfl,rfl,by kernel_rfl⟩
theorem HV:FO prog 157 3 3:=⟨_,_,0,underlying157,rfl,rfl,by kernel_rfl⟩
theorem qT:FO prog 157 4 4:=⟨_,_,0,underlying157,rfl,rfl,by kernel_rfl⟩
theorem vM:FO prog 157 5 5:=⟨_,_,0,underlying157,rfl,rfl,by kernel_rfl⟩
theorem tU:PL prog 157 [(0,1),(1,1),(2,1),(3,1),(4,1),(5,1)]:=⟨_,underlying157,by kernel_rfl⟩
theorem O6:TI prog 165 (.struct #[⟨ "p",27,0,false,"","babel/syntax",0⟩,⟨ "names",46,1,false,"","babel/syntax",24⟩,⟨ "nodes",3,2,false,"","babel/syntax",48⟩,⟨ "vars",3,3,false,"","babel/syntax",56⟩,⟨ "deep",4,4,false,"","babel/syntax",64⟩,⟨ "err",32,5,false,"","babel/syntax",72⟩]) (.agg #[.slice none 0 0,.slice none 0 0,I6 0,I6 0,.bool false,I6 0]) 6 80:=⟨underlying165,by kernel_rfl⟩
theorem Be:FO prog 165 0 0:=⟨_,_,0,underlying165,rfl,rfl,by kernel_rfl⟩
theorem ou:FO prog 165 1 1:=⟨_,_,0,underlying165,rfl,rfl,by kernel_rfl⟩
theorem my:FO prog 165 2 2:=⟨_,_,0,underlying165,rfl,rfl,by kernel_rfl⟩
theorem qS:FO prog 165 3 3:=⟨_,_,0,underlying165,rfl,rfl,by kernel_rfl⟩
theorem ot:FO prog 165 4 4:=⟨_,_,0,underlying165,rfl,rfl,by kernel_rfl⟩
theorem vL:FO prog 165 5 5:=⟨_,_,0,underlying165,rfl,rfl,by kernel_rfl⟩
theorem MN:PL prog 165 [(0,1),(1,1),(2,1),(3,1),(4,1),(5,1)]:=⟨_,underlying165,by kernel_rfl⟩
theorem yj:TI prog 171 (.struct #[⟨ "at",3,0,false,"","babel/qgen",0⟩,⟨ "label",3,1,false,"","babel/qgen",8⟩]) (.agg #[I6 0,I6 0]) 2 16:=⟨underlying171,by kernel_rfl⟩
theorem Bd:FO prog 171 0 0:=⟨_,_,0,underlying171,rfl,rfl,by kernel_rfl⟩
theorem HU:FO prog 171 1 1:=⟨_,_,0,underlying171,rfl,rfl,by kernel_rfl⟩
theorem MM:PL prog 171 [(0,1),(1,1)]:=⟨_,underlying171,by kernel_rfl⟩
theorem JM:TI prog 175 (.pointer 177) (.pointer none) 1 8:=⟨underlying175,by kernel_rfl⟩
theorem Gq:TI prog 177 (.struct #[⟨ "addr",175,0,false,"","strings",0⟩,⟨ "buf",84,1,false,"","strings",8⟩]) (.agg #[.pointer none,.slice none 0 0]) 2 32:=⟨underlying177,by kernel_rfl⟩
theorem vK:FO prog 177 0 0:=⟨_,_,0,underlying177,rfl,rfl,by kernel_rfl⟩
theorem qR:FO prog 177 1 1:=⟨_,_,0,underlying177,rfl,rfl,by kernel_rfl⟩
theorem oV:TI prog 192 (.slice 197) (.slice none 0 0) 1 24:=⟨underlying192,by kernel_rfl⟩
theorem O5:TI prog 195 (.struct #[⟨ "l",192,0,false,"","babel/babelref08",0⟩,⟨ "at",3,1,false,"","babel/babelref08",24⟩,⟨ "off",3,2,false,"","babel/babelref08",32⟩,⟨ "err",32,3,false,"","babel/babelref08",40⟩]) (.agg #[.slice none 0 0,I6 0,I6 0,I6 0]) 4 48:=⟨underlying195,by kernel_rfl⟩
theorem gB:FO prog 195 0 0:=⟨_,_,0,underlying195,rfl,rfl,by kernel_rfl⟩
theorem co:FO prog 195 1 1:=⟨_,_,0,underlying195,rfl,rfl,by kernel_rfl⟩
theorem iM:FO prog 195 3 3:=⟨_,_,0,underlying195,rfl,rfl,by kernel_rfl⟩
theorem ML:PL prog 195 [(0,1),(1,1),(2,1),(3,1)]:=⟨_,underlying195,by kernel_rfl⟩
theorem fg:TI prog 197 (.struct #[⟨ "Kind",3,0,false,"","",0⟩,⟨ "Text",9,1,false,"","",8⟩,⟨ "N",41,2,false,"","",24⟩,⟨ "Big",4,3,false,"","",28⟩,⟨ "At",3,4,false,"","",32⟩]) (.agg #[I6 0,Sg ⟨#[]⟩,I3 0,.bool false,I6 0]) 5 40:=⟨underlying197,by kernel_rfl⟩
theorem eO:FO prog 197 0 0:=⟨_,_,0,underlying197,rfl,rfl,by kernel_rfl⟩
theorem eC:FO prog 197 1 1:=⟨_,_,0,underlying197,rfl,rfl,by kernel_rfl⟩
theorem Bc:FO prog 197 2 2:=⟨_,_,0,underlying197,rfl,rfl,by kernel_rfl⟩
theorem Bb:FO prog 197 3 3:=⟨_,_,0,underlying197,rfl,rfl,by kernel_rfl⟩
theorem IB:PL prog 197 [(0,1),(1,1),(2,1),(3,1),(4,1)]:=⟨_,underlying197,by kernel_rfl⟩
theorem mJ:TI prog 207 (.struct #[⟨ "S",78,0,false,"","",0⟩,⟨ "T",53,24,false,"","",104⟩]) (.agg #[I3 0,I3 0,I3 0,I3 0,I3 0,I3 0,I3 0,I3 0,I3 0,I3 0,I3 0,I3 0,I3 0,I3 0,I3 0,I3 0,I3 0,I3 0,I3 0,I3 0,I3 0,I3 0,I6 0,I6 0,I6 0,I3 0]) 26 120:=⟨underlying207,by kernel_rfl⟩
theorem A_:FO prog 207 0 0:=⟨_,_,23,underlying207,rfl,rfl,by kernel_rfl⟩
theorem qQ:FO prog 207 1 24:=⟨_,_,1,underlying207,rfl,rfl,by kernel_rfl⟩
theorem IA:PL prog 207 [(0,24),(24,2)]:=⟨_,underlying207,by kernel_rfl⟩
theorem i6:TI prog 219 (.struct #[⟨ "known",4,0,false,"","babel/qcode",0⟩,⟨ "d",4,1,false,"","babel/qcode",1⟩,⟨ "a",4,2,false,"","babel/qcode",2⟩,⟨ "b",4,3,false,"","babel/qcode",3⟩,⟨ "kind",3,4,false,"","babel/qcode",8⟩,⟨ "bits",3,5,false,"","babel/qcode",16⟩,⟨ "most",41,6,false,"","babel/qcode",24⟩]) (.agg #[.bool false,.bool false,.bool false,.bool false,I6 0,I6 0,I3 0]) 7 32:=⟨underlying219,by kernel_rfl⟩
theorem A9:FO prog 219 0 0:=⟨_,_,0,underlying219,rfl,rfl,by kernel_rfl⟩
theorem HT:FO prog 219 1 1:=⟨_,_,0,underlying219,rfl,rfl,by kernel_rfl⟩
theorem HR:FO prog 219 2 2:=⟨_,_,0,underlying219,rfl,rfl,by kernel_rfl⟩
theorem HQ:FO prog 219 3 3:=⟨_,_,0,underlying219,rfl,rfl,by kernel_rfl⟩
theorem A8:FO prog 219 4 4:=⟨_,_,0,underlying219,rfl,rfl,by kernel_rfl⟩
theorem A7:FO prog 219 5 5:=⟨_,_,0,underlying219,rfl,rfl,by kernel_rfl⟩
theorem HH:FT prog 219 5 5 3:=⟨_,_,underlying219,rfl,rfl,rfl⟩
theorem A6:FO prog 219 6 6:=⟨_,_,0,underlying219,rfl,rfl,by kernel_rfl⟩
theorem li:PL prog 219 [(0,1),(1,1),(2,1),(3,1),(4,1),(5,1),(6,1)]:=⟨_,underlying219,by kernel_rfl⟩
theorem BQ:TI prog 236 (.struct #[⟨ "I",118,0,false,"","",0⟩,⟨ "T",53,5,false,"","",40⟩]) (.agg #[I6 0,I6 0,I6 0,I6 0,I3 0,I6 0,I3 0]) 7 56:=⟨underlying236,by kernel_rfl⟩
theorem HP:FO prog 236 0 0:=⟨_,_,4,underlying236,rfl,rfl,by kernel_rfl⟩
theorem HO:FO prog 236 1 5:=⟨_,_,1,underlying236,rfl,rfl,by kernel_rfl⟩
theorem MK:PL prog 236 [(0,5),(5,2)]:=⟨_,underlying236,by kernel_rfl⟩
theorem iR:TI prog 241 (.struct #[⟨ "V",41,0,false,"","",0⟩,⟨ "At",41,1,false,"","",4⟩,⟨ "Ok",4,2,false,"","",8⟩]) (.agg #[I3 0,I3 0,.bool false]) 3 12:=⟨underlying241,by kernel_rfl⟩
theorem qP:FO prog 241 0 0:=⟨_,_,0,underlying241,rfl,rfl,by kernel_rfl⟩
theorem oq:FO prog 241 2 2:=⟨_,_,0,underlying241,rfl,rfl,by kernel_rfl⟩
theorem Iz:PL prog 241 [(0,1),(1,1),(2,1)]:=⟨_,underlying241,by kernel_rfl⟩
theorem fZ:TI prog 275 (.struct #[⟨ "Is",4,0,false,"","",0⟩,⟨ "D",4,1,false,"","",1⟩,⟨ "A",4,2,false,"","",2⟩,⟨ "B",4,3,false,"","",3⟩,⟨ "Signed",4,4,false,"","",4⟩,⟨ "Bits",3,5,false,"","",8⟩,⟨ "Most",41,6,false,"","",16⟩]) (.agg #[.bool false,.bool false,.bool false,.bool false,.bool false,I6 0,I3 0]) 7 24:=⟨underlying275,by kernel_rfl⟩
theorem HN:FO prog 275 0 0:=⟨_,_,0,underlying275,rfl,rfl,by kernel_rfl⟩
theorem A5:FO prog 275 1 1:=⟨_,_,0,underlying275,rfl,rfl,by kernel_rfl⟩
theorem A4:FO prog 275 2 2:=⟨_,_,0,underlying275,rfl,rfl,by kernel_rfl⟩
theorem A3:FO prog 275 3 3:=⟨_,_,0,underlying275,rfl,rfl,by kernel_rfl⟩
theorem A2:FO prog 275 4 4:=⟨_,_,0,underlying275,rfl,rfl,by kernel_rfl⟩
theorem mx:FO prog 275 5 5:=⟨_,_,0,underlying275,rfl,rfl,by kernel_rfl⟩
theorem HG:FT prog 275 5 5 3:=⟨_,_,underlying275,rfl,rfl,rfl⟩
theorem A1:FO prog 275 6 6:=⟨_,_,0,underlying275,rfl,rfl,by kernel_rfl⟩
theorem lQ:PL prog 275 [(0,1),(1,1),(2,1),(3,1),(4,1),(5,1),(6,1)]:=⟨_,underlying275,by kernel_rfl⟩
theorem BP:TI prog 281 (.array 2 118) (.agg #[I6 0,I6 0,I6 0,I6 0,I3 0,I6 0,I6 0,I6 0,I6 0,I3 0]) 10 80:=⟨underlying281,by kernel_rfl⟩
theorem QD:Cb prog 12:=⟨_,func12,by decide,rfl⟩
theorem Lz:Cb prog 13:=⟨_,func13,by decide,rfl⟩
theorem Oe:Cb prog 14:=⟨_,func14,by decide,rfl⟩
theorem Ig:Cb prog 15:=⟨_,func15,by decide,rfl⟩
theorem QC:Cb prog 16:=⟨_,func16,by decide,rfl⟩
theorem QB:Cb prog 17:=⟨_,func17,by decide,rfl⟩
theorem Ly:Cb prog 19:=⟨_,func19,by decide,rfl⟩
theorem NH:Cb prog 21:=⟨_,func21,by decide,rfl⟩
theorem lZ:Cb prog 24:=⟨_,func24,by decide,rfl⟩
theorem Lx:Cb prog 25:=⟨_,func25,by decide,rfl⟩
theorem QA:Cb prog 34:=⟨_,func34,by decide,rfl⟩
theorem NE:Cb prog 35:=⟨_,func35,by decide,rfl⟩
theorem Qz:Cb prog 37:=⟨_,func37,by decide,rfl⟩
theorem Qy:Cb prog 38:=⟨_,func38,by decide,rfl⟩
theorem Qx:Cb prog 39:=⟨_,func39,by decide,rfl⟩
theorem If:Cb prog 41:=⟨_,func41,by decide,rfl⟩
theorem Qw:Cb prog 43:=⟨_,func43,by decide,rfl⟩
theorem ND:Cb prog 44:=⟨_,func44,by decide,rfl⟩
theorem Qv:Cb prog 45:=⟨_,func45,by decide,rfl⟩
theorem kx:Cb prog 46:=⟨_,func46,by decide,rfl⟩
theorem Ie:Cb prog 47:=⟨_,func47,by decide,rfl⟩
theorem Qu:Cb prog 48:=⟨_,func48,by decide,rfl⟩
theorem Qt:Cb prog 49:=⟨_,func49,by decide,rfl⟩
theorem vX:Cb prog 50:=⟨_,func50,by decide,rfl⟩
theorem jT:Cb prog 51:=⟨_,func51,by decide,rfl⟩
theorem tJ:Cb prog 52:=⟨_,func52,by decide,rfl⟩
theorem xD:Cb prog 53:=⟨_,func53,by decide,rfl⟩
theorem Qr:Cb prog 54:=⟨_,func54,by decide,rfl⟩
theorem Qq:Cb prog 55:=⟨_,func55,by decide,rfl⟩
theorem Qp:Cb prog 56:=⟨_,func56,by decide,rfl⟩
theorem Lw:Cb prog 57:=⟨_,func57,by decide,rfl⟩
theorem CI:Cb prog 58:=⟨_,func58,by decide,rfl⟩
theorem zJ:Cb prog 59:=⟨_,func59,by decide,rfl⟩
theorem Lv:Cb prog 60:=⟨_,func60,by decide,rfl⟩
theorem Lu:Cb prog 61:=⟨_,func61,by decide,rfl⟩
theorem Qo:Cb prog 62:=⟨_,func62,by decide,rfl⟩
theorem Qn:Cb prog 65:=⟨_,func65,by decide,rfl⟩
theorem Qm:Cb prog 66:=⟨_,func66,by decide,rfl⟩
theorem Ql:Cb prog 74:=⟨_,func74,by decide,rfl⟩
theorem Fy:Cb prog 75:=⟨_,func75,by decide,rfl⟩
theorem Qk:Cb prog 76:=⟨_,func76,by decide,rfl⟩
theorem Qj:Cb prog 77:=⟨_,func77,by decide,rfl⟩
theorem nH:Cb prog 79:=⟨_,func79,by decide,rfl⟩
theorem NC:Cb prog 80:=⟨_,func80,by decide,rfl⟩
theorem Qh:Cb prog 81:=⟨_,func81,by decide,rfl⟩
theorem Lt:Cb prog 82:=⟨_,func82,by decide,rfl⟩
theorem Qf:Cb prog 83:=⟨_,func83,by decide,rfl⟩
theorem tI:Cb prog 84:=⟨_,func84,by decide,rfl⟩
theorem tH:Cb prog 85:=⟨_,func85,by decide,rfl⟩
theorem nG:Cb prog 86:=⟨_,func86,by decide,rfl⟩
theorem NB:Cb prog 87:=⟨_,func87,by decide,rfl⟩
theorem Ls:Cb prog 88:=⟨_,func88,by decide,rfl⟩
theorem Lr:Cb prog 89:=⟨_,func89,by decide,rfl⟩
theorem NA:Cb prog 90:=⟨_,func90,by decide,rfl⟩
theorem Qe:Cb prog 91:=⟨_,func91,by decide,rfl⟩
theorem sV:Cb prog 92:=⟨_,func92,by decide,rfl⟩
theorem Qd:Cb prog 93:=⟨_,func93,by decide,rfl⟩
theorem Ln:Cb prog 94:=⟨_,func94,by decide,rfl⟩
theorem CH:Cb prog 95:=⟨_,func95,by decide,rfl⟩
theorem Fw:Cb prog 96:=⟨_,func96,by decide,rfl⟩
theorem Id:Cb prog 97:=⟨_,func97,by decide,rfl⟩
theorem Qc:Cb prog 98:=⟨_,func98,by decide,rfl⟩
theorem Qb:Cb prog 99:=⟨_,func99,by decide,rfl⟩
theorem Oy:Cb prog 100:=⟨_,func100,by decide,rfl⟩
theorem Ox:Cb prog 101:=⟨_,func101,by decide,rfl⟩
theorem Bz:Cb prog 102:=⟨_,func102,by decide,rfl⟩
theorem FH:Cb prog 103:=⟨_,func103,by decide,rfl⟩
theorem sX:Cb prog 104:=⟨_,func104,by decide,rfl⟩
theorem Js:Cb prog 105:=⟨_,func105,by decide,rfl⟩
theorem FG:Cb prog 106:=⟨_,func106,by decide,rfl⟩
theorem Jr:Cb prog 107:=⟨_,func107,by decide,rfl⟩
theorem Ow:Cb prog 108:=⟨_,func108,by decide,rfl⟩
theorem j_:Cb prog 109:=⟨_,func109,by decide,rfl⟩
theorem FF:Cb prog 110:=⟨_,func110,by decide,rfl⟩
theorem ql:Cb prog 111:=⟨_,func111,by decide,rfl⟩
theorem By:Cb prog 112:=⟨_,func112,by decide,rfl⟩
theorem Jq:Cb prog 115:=⟨_,func115,by decide,rfl⟩
theorem Ov:Cb prog 117:=⟨_,func117,by decide,rfl⟩
theorem Ou:Cb prog 118:=⟨_,func118,by decide,rfl⟩
theorem Ot:Cb prog 119:=⟨_,func119,by decide,rfl⟩
theorem Oo:Cb prog 120:=⟨_,func120,by decide,rfl⟩
theorem On:Cb prog 121:=⟨_,func121,by decide,rfl⟩
theorem xF:Cb prog 122:=⟨_,func122,by decide,rfl⟩
theorem FE:Cb prog 123:=⟨_,func123,by decide,rfl⟩
theorem Jp:Cb prog 124:=⟨_,func124,by decide,rfl⟩
theorem Ol:Cb prog 125:=⟨_,func125,by decide,rfl⟩
theorem FD:Cb prog 126:=⟨_,func126,by decide,rfl⟩
theorem xE:Cb prog 127:=⟨_,func127,by decide,rfl⟩
theorem Jn:Cb prog 128:=⟨_,func128,by decide,rfl⟩
theorem FC:Cb prog 129:=⟨_,func129,by decide,rfl⟩
theorem Oj:Cb prog 130:=⟨_,func130,by decide,rfl⟩
theorem Oi:Cb prog 131:=⟨_,func131,by decide,rfl⟩
theorem Jm:Cb prog 132:=⟨_,func132,by decide,rfl⟩
theorem Oh:Cb prog 133:=⟨_,func133,by decide,rfl⟩
theorem Jl:Cb prog 134:=⟨_,func134,by decide,rfl⟩
theorem Bx:Cb prog 135:=⟨_,func135,by decide,rfl⟩
theorem Bw:Cb prog 136:=⟨_,func136,by decide,rfl⟩
theorem Jk:Cb prog 137:=⟨_,func137,by decide,rfl⟩
theorem Og:Cb prog 138:=⟨_,func138,by decide,rfl⟩
theorem Of:Cb prog 139:=⟨_,func139,by decide,rfl⟩
theorem Jj:Cb prog 141:=⟨_,func141,by decide,rfl⟩
theorem Od:Cb prog 142:=⟨_,func142,by decide,rfl⟩
theorem Oc:Cb prog 147:=⟨_,func147,by decide,rfl⟩
theorem Ob:Cb prog 148:=⟨_,func148,by decide,rfl⟩
theorem Ji:Cb prog 149:=⟨_,func149,by decide,rfl⟩
theorem Oa:Cb prog 150:=⟨_,func150,by decide,rfl⟩
theorem N_:Cb prog 151:=⟨_,func151,by decide,rfl⟩
theorem N9:Cb prog 152:=⟨_,func152,by decide,rfl⟩
theorem Jh:Cb prog 153:=⟨_,func153,by decide,rfl⟩
theorem N8:Cb prog 154:=⟨_,func154,by decide,rfl⟩
theorem Bv:Cb prog 155:=⟨_,func155,by decide,rfl⟩
theorem N7:Cb prog 156:=⟨_,func156,by decide,rfl⟩
theorem Jg:Cb prog 157:=⟨_,func157,by decide,rfl⟩
theorem N6:Cb prog 158:=⟨_,func158,by decide,rfl⟩
theorem N5:Cb prog 159:=⟨_,func159,by decide,rfl⟩
theorem N4:Cb prog 160:=⟨_,func160,by decide,rfl⟩
theorem N3:Cb prog 161:=⟨_,func161,by decide,rfl⟩
theorem N2:Cb prog 162:=⟨_,func162,by decide,rfl⟩
theorem N1:Cb prog 163:=⟨_,func163,by decide,rfl⟩
theorem Jf:Cb prog 164:=⟨_,func164,by decide,rfl⟩
theorem Je:Cb prog 165:=⟨_,func165,by decide,rfl⟩
theorem Jd:Cb prog 166:=⟨_,func166,by decide,rfl⟩
theorem sW:Cb prog 167:=⟨_,func167,by decide,rfl⟩
theorem Jc:Cb prog 168:=⟨_,func168,by decide,rfl⟩
theorem FB:Cb prog 169:=⟨_,func169,by decide,rfl⟩
theorem N0:Cb prog 170:=⟨_,func170,by decide,rfl⟩
theorem NZ:Cb prog 171:=⟨_,func171,by decide,rfl⟩
theorem NY:Cb prog 173:=⟨_,func173,by decide,rfl⟩
theorem NX:Cb prog 174:=⟨_,func174,by decide,rfl⟩
theorem lq:Cb prog 175:=⟨_,func175,by decide,rfl⟩
theorem Jb:Cb prog 176:=⟨_,func176,by decide,rfl⟩
theorem NW:Cb prog 179:=⟨_,func179,by decide,rfl⟩
theorem NV:Cb prog 180:=⟨_,func180,by decide,rfl⟩
theorem NU:Cb prog 182:=⟨_,func182,by decide,rfl⟩
theorem Ja:Cb prog 183:=⟨_,func183,by decide,rfl⟩
theorem NT:Cb prog 184:=⟨_,func184,by decide,rfl⟩
theorem NS:Cb prog 185:=⟨_,func185,by decide,rfl⟩
theorem I_:Cb prog 186:=⟨_,func186,by decide,rfl⟩
theorem NR:Cb prog 187:=⟨_,func187,by decide,rfl⟩
theorem I9:Cb prog 188:=⟨_,func188,by decide,rfl⟩
theorem NQ:Cb prog 189:=⟨_,func189,by decide,rfl⟩
theorem I8:Cb prog 190:=⟨_,func190,by decide,rfl⟩
theorem l6:Cb prog 191:=⟨_,func191,by decide,rfl⟩
theorem I7:Cb prog 192:=⟨_,func192,by decide,rfl⟩
theorem I5:Cb prog 196:=⟨_,func196,by decide,rfl⟩
theorem FA:Cb prog 197:=⟨_,func197,by decide,rfl⟩
theorem I4:Cb prog 198:=⟨_,func198,by decide,rfl⟩
theorem NP:Cb prog 199:=⟨_,func199,by decide,rfl⟩
theorem NO:Cb prog 200:=⟨_,func200,by decide,rfl⟩
theorem NN:Cb prog 201:=⟨_,func201,by decide,rfl⟩
theorem NM:Cb prog 202:=⟨_,func202,by decide,rfl⟩
theorem NL:Cb prog 203:=⟨_,func203,by decide,rfl⟩
theorem NK:Cb prog 204:=⟨_,func204,by decide,rfl⟩
theorem NJ:Cb prog 205:=⟨_,func205,by decide,rfl⟩
theorem NI:Cb prog 209:=⟨_,func209,by decide,rfl⟩
theorem NG:Cb prog 210:=⟨_,func210,by decide,rfl⟩
theorem Fz:Cb prog 212:=⟨_,func212,by decide,rfl⟩
theorem NF:Cb prog 213:=⟨_,func213,by decide,rfl⟩
end Go.Proofs.YtedmdgbmdplifaaGreat
namespace Go.Proofs.YtedmdgbmdplifaaGreat
open Go.RowKit Tryz
section
end
theorem fB:KeyLaw prog 9 gQ:=Hi underlying9
abbrev oW(n:Int):Prop:=0≤n∧n<4294967296
mutual
def VX(fs:List Tf):Tx→Prop
 | .mk k n nm _ kids=>oW n∧kids.length≤1000000∧(k=4→1≤kids.length)∧(k=6→1≤kids.length∧∀a,(LT nm a).isSome=true)∧(k=7→2≤kids.length∧∀a b,(LB nm a b).isSome=true)∧
   (k≠1→k≠2→k≠4→k≠5→k≠6→k≠7→∃f,dc fs nm=some f∧kids.length≤f.ps.length)∧LM fs kids
def LM(fs:List Tf):List Tx→Prop
 | []=>True
 | t::r=>VX fs t∧LM fs r
end
mutual
def VY(fs:List Tf):Ty→Prop
 | .mk k _ _ es _ body _ els=>(1≤es.length∧es.length≤1000000∧(k=3→2≤es.length)∧LM fs es)∧(body.length≤1000000∧Ju fs body)∧(els.length≤1000000∧Ju fs els)
def Ju(fs:List Tf):List Ty→Prop
 | []=>True
 | t::r=>VY fs t∧Ju fs r
end
def VF(fs:List Tf):Prop:=∀f∈fs,f.ps.length≤1000000∧f.body.length≤1000000∧Ju fs f.body
def okVs(vs:Vs):Prop:=∀p∈vs,oW p.2
structure okMs(s:Ms):Prop where
 inp:∀x∈s.inp,oW x
 mem:∀i,oW (s.mem i)
 fuel:s.fuel<9223372036854775808
 out:(s.out.length:Int)+max s.fuel 0≤1000000000000
theorem okVs.get{vs:Vs}(h:okVs vs)(x:Ba):oW (rl vs x):=by
 unfold rl;cases hf:vs.find? (fun p=>decide (p.1=x))with
 | none=>exact⟨Int.le_refl _,by show(0:Int)<4294967296;decide⟩
 | some p=>exact h p (List.mem_of_find?_eq_some hf)
theorem okVs.put{vs:Vs}(h:okVs vs)(x:Ba){n:Int}(hn:oW n):okVs (gH vs x n):=fun p hp=>by
 rcases List.mem_cons.1 hp with rfl|hp
 ·exact hn
 ·exact h p (List.mem_filter.1 hp).1
theorem okVs.bind:∀{vs:Vs}(ps:List Ba)(al:List Int),okVs vs→(∀a∈al,oW a)→okVs (i_ vs ps al)
 | vs,p::ps,a::al,h,ha=>okVs.bind ps al (h.put p (ha a (by simp))) fun b hb=>ha b (by simp [hb])
 | vs,[],al,h,_=>by unfold i_;exact h
 | vs,p::ps,[],h,_=>by unfold i_;exact h
theorem lm:oW 0:=⟨Int.le_refl _,by show(0:Int)<4294967296;decide⟩
theorem rT(b:Bool):oW (tr b):=by
 cases b
 ·exact lm
 ·exact⟨by decide,by decide⟩
theorem pY(n:Int):oW (wU n):=lB n
theorem u9(o:BinOp)(a b:Int)(h:∃z,bits o .u32 a b=IntKind.u32.wrap z):oW (bits o .u32 a b):=by
 obtain⟨z,hz⟩:=h;rw [hz];exact lB z
theorem M4{op:Ba}{a:Int}(ha:oW a):oW ((LT op a).getD 0):=by
 unfold LT;split
 ·exact pY _
 ·split
  ·show 0≤4294967295-a∧4294967295-a<4294967296;have h1:=ha.1;have h2:=ha.2;omega
  ·split
   ·exact rT _
   ·exact lm
theorem Ku{a:Int}(ha:oW a)(n:Nat):oW (a/2^n):=by
 have h0:(0:Int)<2^n:=Int.pow_pos (by decide);refine⟨Int.ediv_nonneg ha.1 (Int.le_of_lt h0),Int.lt_of_le_of_lt (Int.ediv_le_self _ ha.1) ha.2⟩
theorem M5{op:Ba}{a b:Int}(ha:oW a)(hb:oW b):oW ((LB op a b).getD 0):=by
 have hq:oW (if b=0 then 0 else a/b):=by
  split
  ·exact lm
  ·exact⟨Int.ediv_nonneg ha.1 hb.1,Int.lt_of_le_of_lt (Int.ediv_le_self _ ha.1) ha.2⟩
 have hr:oW (if b=0 then a else a%b):=by
  split
  ·exact ha
  ·rename_i h;have h1:=Int.emod_nonneg a h;have h2:=Int.emod_lt_of_pos a (b:=b) (by have:=hb.1;omega);have h3:=hb.2;exact⟨h1,by omega⟩
 unfold LB;by_cases h0:op=gm
 ·rw [aw h0];exact pY _
 rw [ai h0];by_cases h1:op=eJ
 ·rw [aw h1];exact pY _
 rw [ai h1];by_cases h2:op=gM
 ·rw [aw h2];exact pY _
 rw [ai h2];by_cases h3:op=kM
 ·rw [aw h3];exact hq
 rw [ai h3];by_cases h4:op=lS
 ·rw [aw h4];exact hr
 rw [ai h4];by_cases h5:op=fD
 ·rw [aw h5];exact(show oW (bits .and .u32 a b)from u9 .and a b ⟨_,J⟩)
 rw [ai h5];by_cases h6:op=ke
 ·rw [aw h6];exact(show oW (bits .or .u32 a b)from u9 .or a b ⟨_,J⟩)
 rw [ai h6];by_cases h7:op=fJ
 ·rw [aw h7];exact(show oW (bits .xor .u32 a b)from u9 .xor a b ⟨_,J⟩)
 rw [ai h7];by_cases h8:op=gL
 ·rw [aw h8];exact pY _
 rw [ai h8];by_cases h9:op=iq
 ·rw [aw h9];exact Ku ha _
 rw [ai h9];by_cases h10:op=mj
 ·rw [aw h10];exact rT _
 rw [ai h10];by_cases h11:op=nh
 ·rw [aw h11];exact rT _
 rw [ai h11];by_cases h12:op=nj
 ·rw [aw h12];exact rT _
 rw [ai h12];by_cases h13:op=oO
 ·rw [aw h13];exact rT _
 rw [ai h13];by_cases h14:op=nk
 ·rw [aw h14];exact rT _
 rw [ai h14];by_cases h15:op=ng
 ·rw [aw h15];exact rT _
 rw [ai h15];exact lm
structure Kp(s s':Ms):Prop where
 ok:okMs s'
 sum:(s'.out.length:Int)+max s'.fuel 0≤(s.out.length:Int)+max s.fuel 0
 fl:s'.fuel≤s.fuel
 inp:∃k,s'.inp=s.inp.drop k
theorem Kp.refl{s:Ms}(h:okMs s):Kp s s:=⟨h,Int.le_refl _,Int.le_refl _,0,by simp⟩
theorem Kp.trans{a b c:Ms}(h:Kp a b)(h':Kp b c):Kp a c:=⟨h'.ok,Int.le_trans h'.sum h.sum,Int.le_trans h'.fl h.fl,by
 obtain⟨k,hk⟩:=h.inp;obtain⟨j,hj⟩:=h'.inp;exact⟨k+j,by rw [hj,hk,List.drop_drop]⟩⟩
theorem Kp.pay{s:Ms}(h:okMs s)(hf:¬s.fuel≤0):Kp s {s with fuel:=s.fuel-1}:=⟨⟨h.inp,h.mem,by have:=h.fuel;dsimp only;omega,by have:=h.out;dsimp only;omega⟩,by dsimp only;omega,by dsimp only;omega,0,by simp⟩
structure EvOk(fs:List Tf)(g:Nat):Prop where
 x:∀d vs t s v s',VX fs t→okVs vs→okMs s→kS g fs d vs t s=some (.ok v s')→oW v∧Kp s s'
 k:∀d vs acc l s ks s',LM fs l→okVs vs→okMs s→(∀a∈acc,oW a)→ly g fs d vs acc l s=some (.ok ks s')→(∀a∈ks,oW a)∧ks.length=acc.length+l.length∧Kp s s'
 c:∀d f al s v s',f∈fs→(∀a∈al,oW a)→okMs s→tF g fs d f al s=some (.ok v s')→oW v∧Kp s s'
 b:∀d vs l s p s',Ju fs l→okVs vs→okMs s→mL g fs d vs l s=some (.ok p s')→okVs p.1∧(∀x,p.2=some x→oW x)∧Kp s s'
 s:∀d vs t s p s',VY fs t→okVs vs→okMs s→qv g fs d vs t s=some (.ok p s')→okVs p.1∧(∀x,p.2=some x→oW x)∧Kp s s'
 w:∀d vs e l v s p s',VX fs e→Ju fs l→okVs vs→okMs s→tE g fs d vs e l v s=some (.ok p s')→okVs p.1∧(∀x,p.2=some x→oW x)∧Kp s s'
theorem vC{ks:List Int}(h:∀a∈ks,oW a)(i:Nat):oW (ks.getD i 0):=by
 rw [List.getD_eq_getElem?_getD];cases hk:ks[i]? with
 | none=>exact lm
 | some a=>exact h a (cd hk)
theorem kw{fs:List Tf}{x:Ba}{f:Tf}(h:dc fs x=some f):f∈fs:=List.mem_of_find?_eq_some h
theorem lp{fs:List Tf}(hF:VF fs):∀g,EvOk fs g
 | 0=>⟨fun _ _ _ _ _ _ _ _ _ h=>by simp [kS]at h,fun _ _ _ _ _ _ _ _ _ _ _ h=>by simp [ly]at h,fun _ _ _ _ _ _ _ _ _ h=>by simp [tF]at h,fun _ _ _ _ _ _ _ _ _ h=>by simp [mL]at h,fun _ _ _ _ _ _ _ _ _ h=>by simp [qv]at h,fun _ _ _ _ _ _ _ _ _ _ _ _ h=>by simp [tE]at h⟩
 | g+1=>by
  have ih:=lp hF g;refine⟨fun d vs t s v s' ht hv hs h=> ?_,fun d vs acc l s ks s' hl hv hs ha h=> ?_,fun d f al s v s' hf ha hs h=> ?_,fun d vs l s p s' hl hv hs h=> ?_,fun d vs t s p s' ht hv hs h=> ?_,fun d vs e l v s p s' he hl hv hs h=> ?_⟩
  · -- an expression
   unfold kS at h;by_cases hfu:s.fuel≤0
   ·rw [aw hfu]at h;simp at h
   ·rw [ai hfu]at h;have hp:=Kp.pay hs hfu;cases hk:ly g fs d vs [] t.kids {s with fuel:=s.fuel-1}with
    | none=>rw [hk]at h;simp at h
    | some r=>
     cases r with
     | err e=>rw [hk]at h;simp at h
     | ok ks s1=>
      rw [hk]at h;dsimp only at h;have hkids:LM fs t.kids:=by cases t;exact ht.2.2.2.2.2.2
      obtain⟨k1,k2,k3⟩:=ih.k d vs [] t.kids _ ks s1 hkids hv hp.ok (by simp) hk;have k4:=hp.trans k3;split at h
      ·simp only [Option.some.injEq,Re.ok.injEq]at h;obtain⟨rfl,rfl⟩:=h;exact⟨by cases t;exact ht.1,k4⟩
      ·split at h
       ·simp only [Option.some.injEq,Re.ok.injEq]at h;obtain⟨rfl,rfl⟩:=h;exact⟨hv.get _,k4⟩
       ·split at h
        ·simp only [Option.some.injEq,Re.ok.injEq]at h;obtain⟨rfl,rfl⟩:=h;exact⟨k4.ok.mem _,k4⟩
        ·split at h
         ·split at h
          ·simp only [Option.some.injEq,Re.ok.injEq]at h;obtain⟨rfl,rfl⟩:=h;exact⟨lm,k4⟩
          ·rename_i a r hi;simp only [Option.some.injEq,Re.ok.injEq]at h;obtain⟨rfl,rfl⟩:=h;refine⟨k4.ok.inp a (by rw [hi];simp),k4.trans ⟨⟨fun x hx=>k4.ok.inp x (by rw [hi];simp [hx]),k4.ok.mem,k4.ok.fuel,k4.ok.out⟩,Int.le_refl _,Int.le_refl _,1,by rw [hi];rfl⟩⟩
         ·split at h
          ·simp only [Option.some.injEq,Re.ok.injEq]at h;obtain⟨rfl,rfl⟩:=h;exact⟨M4 (vC k1 0),k4⟩
          ·split at h
           ·simp only [Option.some.injEq,Re.ok.injEq]at h;obtain⟨rfl,rfl⟩:=h;exact⟨M5 (vC k1 0) (vC k1 1),k4⟩
           ·split at h
            ·simp at h
            ·rename_i f hff;obtain⟨c1,c2⟩:=ih.c d f ks s1 v s' (kw hff) k1 k4.ok h;exact⟨c1,k4.trans c2⟩
  · -- parts
   cases l with
   | nil=>
    simp only [ly,Option.some.injEq,Re.ok.injEq]at h;obtain⟨rfl,rfl⟩:=h;exact⟨ha,by simp,Kp.refl hs⟩
   | cons t r=>
    unfold ly at h;cases hx:kS g fs d vs t s with
    | none=>rw [hx]at h;simp at h
    | some q=>
     cases q with
     | err e=>rw [hx]at h;simp at h
     | ok v s1=>
      rw [hx]at h;dsimp only at h;obtain⟨x1,x2⟩:=ih.x d vs t s v s1 hl.1 hv hs hx;obtain⟨k1,k2,k3⟩:=ih.k d vs (acc++ [v]) r s1 ks s' hl.2 hv x2.ok (fun a hm=>by
       rcases List.mem_append.1 hm with hm|hm
       ·exact ha a hm
       ·rw [List.mem_singleton.1 hm];exact x1) h
      exact⟨k1,by rw [k2];simp;omega,x2.trans k3⟩
  · -- a call
   unfold tF at h;split at h
   ·simp at h
   ·cases hb:mL g fs (d+1) (i_ [] f.ps al) f.body s with
    | none=>rw [hb]at h;simp at h
    | some q=>
     cases q with
     | err e=>rw [hb]at h;simp at h
     | ok p s1=>
      obtain⟨vs1,r⟩:=p;rw [hb]at h;simp only [Option.some.injEq,Re.ok.injEq]at h;obtain⟨rfl,rfl⟩:=h;obtain⟨b1,b2,b3⟩:=ih.b (d+1) _ f.body s _ s1 (hF f hf).2.2 (okVs.bind _ _ (fun p hp=>by simp at hp) ha) hs hb;refine⟨?_,b3⟩;cases r with
      | none=>exact lm
      | some x=>exact b2 x rfl
  · -- statements
   cases l with
   | nil=>
    simp only [mL,Option.some.injEq,Re.ok.injEq]at h;obtain⟨rfl,rfl⟩:=h;exact⟨hv,fun x hx=>by simp at hx,Kp.refl hs⟩
   | cons t r=>
    unfold mL at h;cases hx:qv g fs d vs t s with
    | none=>rw [hx]at h;simp at h
    | some q=>
     cases q with
     | err e=>rw [hx]at h;simp at h
     | ok q s1=>
      obtain⟨vs1,ro⟩:=q;obtain⟨x1,x2,x3⟩:=ih.s d vs t s _ s1 hl.1 hv hs hx;rw [hx]at h;cases ro with
      | some x=>
       simp only [Option.some.injEq,Re.ok.injEq]at h;obtain⟨rfl,rfl⟩:=h;exact⟨x1,x2,x3⟩
      | none=>
       dsimp only at h;obtain⟨b1,b2,b3⟩:=ih.b d vs1 r s1 p s' hl.2 x1 x3.ok h;exact⟨b1,b2,x3.trans b3⟩
  · -- a statement
   unfold qv at h;by_cases hfu:s.fuel≤0
   ·rw [aw hfu]at h;simp at h
   ·rw [ai hfu]at h;have hp:=Kp.pay hs hfu;obtain⟨kd,nm,ve,es,vb,body,vl,els⟩:=t;obtain⟨⟨e1,e2,e3,e4⟩,⟨b1,b2⟩,c1,c2⟩:=ht;cases es with
    | nil=>simp [Ty.es]at h
    | cons e r=>
     simp only [Ty.es]at h;cases hx:kS g fs d vs e {s with fuel:=s.fuel-1}with
     | none=>rw [hx]at h;simp at h
     | some q=>
      cases q with
      | err z=>rw [hx]at h;simp at h
      | ok v s1=>
       rw [hx]at h;dsimp only at h;obtain⟨x1,x2⟩:=ih.x d vs e _ v s1 e4.1 hv hp.ok hx;have x3:=hp.trans x2;split at h
       ·simp only [Option.some.injEq,Re.ok.injEq]at h;obtain⟨rfl,rfl⟩:=h;exact⟨hv.put _ x1,fun x hx=>by simp at hx,x3⟩
       ·split at h
        ·cases r with
         | nil=>simp at h
         | cons e5 r=>
          dsimp only at h;cases hx2:kS g fs d vs e5 s1 with
          | none=>rw [hx2]at h;simp at h
          | some q=>
           cases q with
           | err z=>rw [hx2]at h;simp at h
           | ok w s2=>
            rw [hx2]at h;simp only [Option.some.injEq,Re.ok.injEq]at h;obtain⟨rfl,rfl⟩:=h;obtain⟨y1,y2⟩:=ih.x d vs e5 s1 w s2 e4.2.1 hv x3.ok hx2;have y3:=x3.trans y2;refine⟨hv,fun x hx=>by simp at hx,y3.trans ⟨⟨y3.ok.inp,fun i=> ?_,y3.ok.fuel,y3.ok.out⟩,Int.le_refl _,Int.le_refl _,0,by simp⟩⟩;dsimp only [Ek];split
            ·exact y1
            ·exact y3.ok.mem i
        ·split at h
         ·obtain⟨z1,z2,z3⟩:=ih.b d vs (if v=0 then els else body) s1 p s' (by split<;>assumption) hv x3.ok (by simpa only [Ty.els,Ty.body]using h);exact⟨z1,z2,x3.trans z3⟩
         ·split at h
          ·obtain⟨z1,z2,z3⟩:=ih.w d vs e body v s1 p s' e4.1 b2 hv x3.ok (by simpa only [Ty.body]using h);exact⟨z1,z2,x3.trans z3⟩
          ·split at h
           ·simp only [Option.some.injEq,Re.ok.injEq]at h;obtain⟨rfl,rfl⟩:=h;exact⟨hv,fun x hx=>by simp at hx;rw [←hx];exact x1,x3⟩
           ·split at h
            ·simp only [Option.some.injEq,Re.ok.injEq]at h;obtain⟨rfl,rfl⟩:=h;have x4:=x2.sum;have x5:=hs.out;dsimp only at x4;obtain⟨k,hk⟩:=x3.inp;exact⟨hv,fun x hx=>by simp at hx,⟨⟨x3.ok.inp,x3.ok.mem,x3.ok.fuel,by dsimp only;rw [bA,bV];omega⟩,by dsimp only;rw [bA,bV];omega,x3.fl,k,hk⟩⟩
            ·simp only [Option.some.injEq,Re.ok.injEq]at h;obtain⟨rfl,rfl⟩:=h;exact⟨hv,fun x hx=>by simp at hx,x3⟩
  · -- a loop
   unfold tE at h;split at h
   ·simp only [Option.some.injEq,Re.ok.injEq]at h;obtain⟨rfl,rfl⟩:=h;exact⟨hv,fun x hx=>by simp at hx,Kp.refl hs⟩
   ·cases hb:mL g fs d vs l s with
    | none=>rw [hb]at h;simp at h
    | some q=>
     cases q with
     | err z=>rw [hb]at h;simp at h
     | ok q s1=>
      obtain⟨vs1,ro⟩:=q;obtain⟨x1,x2,x3⟩:=ih.b d vs l s _ s1 hl hv hs hb;rw [hb]at h;cases ro with
      | some x=>
       simp only [Option.some.injEq,Re.ok.injEq]at h;obtain⟨rfl,rfl⟩:=h;exact⟨x1,x2,x3⟩
      | none=>
       dsimp only at h;cases hx:kS g fs d vs1 e s1 with
       | none=>rw [hx]at h;simp at h
       | some q=>
        cases q with
        | err z=>rw [hx]at h;simp at h
        | ok w s2=>
         rw [hx]at h;dsimp only at h;obtain⟨y1,y2⟩:=ih.x d vs1 e s1 w s2 he x1 x3.ok hx;have y3:=x3.trans y2;obtain⟨z1,z2,z3⟩:=ih.w d vs1 e l w s2 p s' he hl x1 y3.ok h;exact⟨z1,z2,y3.trans z3⟩
end Go.Proofs.YtedmdgbmdplifaaGreat
namespace Go.Proofs.YtedmdgbmdplifaaGreat
open Go.ChangeShapes Go.WideShapes Go.ChangeAt Go.RowKit Tryz
abbrev wP(n:Int):Prop:= -9223372036854775808≤n∧n<9223372036854775808
theorem nr{n:Int}(h:(Lit.int .i64 n).wf=true):wP n:=by
 simp only [Lit.wf,Bool.and_eq_true,decide_eq_true_eq]at h;have h1:IntKind.i64.min= -9223372036854775808:=by decide
 have h2:IntKind.i64.max=9223372036854775807:=by decide
 rw [h1,h2]at h;exact⟨h.1,by omega⟩
section
variable{H:Type}{enc:TypeId×Value→H}{P:Program}
theorem Cf{W:World}{r:Reach}{b0 base:Nat}{spare:Nat→Bool}{held:Bool}{t e:TypeId}{v:Value}{d:DataW H}{p:List MemPlace}(ht:P.underlying t=some (.slice e))(he:P.underlying e=some (.int .i64))
  (hce:P.cellsOf e=1) (hv:Value.okWide P W r b0 t v) (h:DataW.Trod enc P W base spare held t v d p):
  ∃(x:SV)(s:List Int),v=sv x∧(∀n∈s,wP n)∧∃G:Nat→Prop,s_ W G 1 eI (sv x) s∧∀b,G b→b<W.heap.size:=by
 have hv':Cell.ok P W r b0 t v:=by
  have:Cell.okWide P W r b0 t v:=by simpa [Value.okWide,ht]using hv
  simpa [Cell.okWide,ht]using this
 obtain⟨va,vn,vc,rfl⟩:∃a n c,v= .slice a n c:=by
  cases v with
  | slice a n c=>exact⟨a,n,c,rfl⟩
  | _=>simp [Cell.ok,ht]at hv'
 obtain⟨fuel,hf⟩:=h;rcases open_ints ht he hce hf with⟨hc,-⟩|⟨a,len,cap,zs,hc,-,h1,h2,h3,-,h5,h6⟩
 ·simp [Value.cells]at hc;obtain⟨rfl,rfl,rfl⟩:=hc;refine⟨⟨none,0,0⟩,[],J,by simp,fun _=>False,⟨0,by simp,by unfold maxLen;omega,.inl ⟨rfl,fun _ h=>h,rfl⟩⟩,fun _ h=>h.elim⟩
 ·simp [Value.cells]at hc;obtain⟨rfl,rfl,rfl⟩:=hc;have hh:W.has P r b0 a e vc:=by
   simp [Cell.ok,ht]at hv';exact hv'.2.2
  obtain⟨hs,hb⟩:=KJ hh;obtain⟨ab,ao,asp⟩:=a;dsimp only at hs hb;subst hs;have hzl:vn≤zs.length:=by split at h3<;>omega
  have htl:(zs.take vn).length=vn:=by rw [List.length_take];omega
  refine⟨⟨some ⟨ab,ao,none⟩,vn,vc⟩,zs.take vn,J,fun n hn=>nr (h6 n (List.mem_of_mem_take hn)),fun b=>b=ab,⟨vc,by omega,h2,.inr ⟨ab,ao,by rw [htl];rfl,rfl,?_⟩⟩,fun b hb'=>hb'▸hb⟩;intro j u hj;have hfm:(zs.take vn).flatMap eI=(zs.take vn).map (Value.int .i64):=by
   induction zs.take vn with
   | nil=>rfl
   | cons x xs ih=>simp [eI,ih]
  rw [hfm,List.getElem?_map]at hj;have hjl:j<vn:=by
   rcases Nat.lt_or_ge j vn with h|h
   ·exact h
   ·rw [List.getElem?_eq_none (by omega)]at hj;simp at hj
  have:=h5 j (by omega);rw [List.getElem?_take,aw hjl,bT (by omega)]at hj;rw [List.getD_eq_getElem?_getD,bT (by omega)]at this;simp at hj this;rw [←hj,←this];unfold Addr.add;split
  ·subst_vars;rfl
  ·rfl
end
end Go.Proofs.YtedmdgbmdplifaaGreat
namespace Go.Proofs.YtedmdgbmdplifaaGreat
open Go.RowKit Tryz
section
end
def Gp(f:Tf):Value:= .agg (gu f).toArray
def HY(fs:List Tf):Asn:=⟨fun w F=>∀f∈fs,TfIn w F f,fun h hs f hf=>(h f hf).stable hs⟩
theorem Nl{fs:List Tf}{f:Tf}(hf:f∈fs):∀w G,(HY fs).pred w G→(∀b,G b→b<w.heap.size)→∃G',(CQ f).pred w G'∧∀b,G' b→G b:=fun w G h _=>⟨G,h f hf,fun _ hb=>hb⟩
section
end
def xS{α:Type}(p:α→Bool)(l:List α):Int:=match l.findIdx? p with
 | some i=>(i:Int)
 | none=> -1
theorem ph{α:Type}{p:α→Bool}{l:List α}{k:Nat}{x:α}(hk:l[k]?=some x)(hp:p x=true)(hb:∀i y,i<k→l[i]?=some y→p y=false):xS p l=(k:Int):=by
 have h:l.findIdx? p=some k:=by
  rw [List.findIdx?_eq_some_iff_getElem];obtain⟨h1,h2⟩:=db.1 hk;refine⟨h1,by rw [h2];exact hp,fun j hj=> ?_⟩;have:=hb j l[j] hj (bT (by omega));simp [this]
 unfold xS;rw [h]
theorem pg{α:Type}{p:α→Bool}{l:List α}(hb:∀i y,i<l.length→l[i]?=some y→p y=false):xS p l= -1:=by
 have h:l.findIdx? p=none:=by
  rw [List.findIdx?_eq_none_iff];intro x hx;obtain⟨i,hi,rfl⟩:=List.mem_iff_getElem.1 hx;exact hb i _ hi (bT hi)
 unfold xS;rw [h]
theorem Ev(v:SV)(l:List Ba)(hl:l.length≤1000000)(n:Nat)(p:Ba→Bool)(hcb:Cb prog n)(hs:∀s∈l,Spec prog n [Sg s] [] [] (X:=Unit) (fun _=>True) (fun _=> .bool (p s)) (fun _=> []) (fun _=> [])):
  bi prog 154 [sv v,.func (.func n) #[] #[]] [] [sl 1 eS (sv v) l] (I6 (xS p l)) []:=by
 refine aM func154 J ntmps154 J fun w0 M H=>ar (aq J (aa (aV (ad J (aS (aL underlying46 J (aN (k:=0) J)) (ad J (aa (aC ?_))))))))
 refine bI (X:=Nat) (fun k=>k≤l.length∧∀i y,i<k→l[i]?=some y→p y=false) (fun k=> [(0,sv v),(1,.func (.func n) #[] #[]),(7,I6 (l.length:Int)),(8,I6 (k:Int))]) (fun k=> []) (fun k=> [(0,sl 1 eS (sv v) l)]) (fun k=>l.length-k) 0 ⟨bq _,fun i y hi=>by omega⟩ J J J (fun k hk0=> ?_);obtain⟨n1,n2⟩:=hk0;refine ar (av J J cy (aa (aZ (am J (fun h1=> ?_) (fun h1=> ?_)))))
 ·(try simp only [bk]at h1);have hk:k<l.length:=by omega
  obtain⟨x,hx⟩:∃x,l[k]?=some x:=⟨_,bT hk⟩
  refine aA (aZ (aC (ar (ad J (aq J (aF J (ad J (ad J (ad J (aS (aK (j:=k) underlying46 t9 J J (aN (k:=0) J) (by first|rfl|omega) (by first|omega|(simp;done)|(simp;omega))) (aS (ae t9 J J (bJ (aN (k:=0) J) (by intro _;rfl) hx (by rfl))) (ak (xs:= [.tmp 15]) (hs x (cd hx)) hcb [] [] [] (fun _ _=>aa (am J (fun h2=> ?_) (fun h2=> ?_)))))))))))))))
  ·have hq:p x=true:=h2;refine ar (ad J (aq J (aa (az (aQ () O J (cc (aP J)) (by rw [ph hx hq n2]) [] [] J J J)))))
  ·have hq:p x=false:=h2;refine aA (ap (av J J aO (ad J (aa ?_))));refine aG (k+1) ⟨⟨by omega,fun i y hi hy=>by rcases Nat.lt_succ_iff_lt_or_eq.1 hi with h|h;exact n2 i y h hy;rw [h,hx]at hy;rw [←d5 hy];exact hq⟩,by omega⟩ J J J
 ·(try simp only [bk]at h1);have hk:k=l.length:=by omega
  subst hk;refine bM (ar (aq J (aa (az (aQ () O J (cc (aP J)) (by rw [pg n2]) [] [] J J J)))))
theorem y4(v:SV)(l:List Ba)(hl:l.length≤1000000)(s:Ba):
  bi prog 184 [sv v,Sg s] [] [sl 1 eS (sv v) l] (I6 (xS (fun x=>decide (s=x)) l)) []:=by
 refine aM func184 J ntmps184 J fun w0 M H=>ar (aq J (aa (aV (ad J (aS (aL underlying46 J (aN (k:=0) J)) (ad J (aa (aC ?_))))))))
 refine bI (X:=Nat) (fun k=>k≤l.length∧∀i y,i<k→l[i]?=some y→(fun x=>decide (s=x)) y=false) (fun k=> [(0,sv v),(1,Sg s),(7,I6 (l.length:Int)),(8,I6 (k:Int))]) (fun k=> []) (fun k=> [(0,sl 1 eS (sv v) l)]) (fun k=>l.length-k) 0 ⟨bq _,fun i y hi=>by omega⟩ J J J (fun k hk0=> ?_);obtain⟨n1,n2⟩:=hk0;refine ar (av J J cy (aa (aZ (am J (fun h1=> ?_) (fun h1=> ?_)))))
 ·(try simp only [bk]at h1);have hk:k<l.length:=by omega
  obtain⟨x,hx⟩:∃x,l[k]?=some x:=⟨_,bT hk⟩
  refine aA (aZ (aC (ar (ad J (aq J (aF J (ad J (ad J (ad J (aS (aK (j:=k) underlying46 t9 J J (aN (k:=0) J) (by first|rfl|omega) (by first|omega|(simp;done)|(simp;omega))) (aS (ae t9 J J (bJ (aN (k:=0) J) (by intro _;rfl) hx (by rfl))) (av J J eT (aa (am J (fun h2=> ?_) (fun h2=> ?_)))))))))))))))
  ·have hq:decide (s=x)=true:=by rw [←gt];exact h2
   refine ar (ad J (aq J (aa (az (aQ () O J (cc (aP J)) (by rw [ph hx hq n2]) [] [] J J J)))))
  ·have hq:decide (s=x)=false:=by rw [←gt];exact h2
   refine aA (ap (av J J aO (ad J (aa ?_))));refine aG (k+1) ⟨⟨by omega,fun i y hi hy=>by rcases Nat.lt_succ_iff_lt_or_eq.1 hi with h|h;exact n2 i y h hy;rw [h,hx]at hy;rw [←d5 hy];exact hq⟩,by omega⟩ J J J
 ·(try simp only [bk]at h1);have hk:k=l.length:=by omega
  subst hk;refine bM (ar (aq J (aa (az (aQ () O J (cc (aP J)) (by rw [pg n2]) [] [] J J J)))))
def cD(s:Ba)(l:List Ba):Bool:=l.any fun x=>decide (s=x)
theorem KE{l:List Ba}{s:Ba}:decide (xS (fun x=>decide (s=x)) l≥0)=cD s l:=by
 unfold xS cD;cases h:l.findIdx? (fun x=>decide (s=x))with
 | none=>
  rw [List.findIdx?_eq_none_iff]at h;have:(l.any fun x=>decide (s=x))=false:=List.any_eq_false.2 fun x hx=>by rw [h x hx];simp
  rw [this];rfl
 | some i=>
  rw [List.findIdx?_eq_some_iff_getElem]at h;obtain⟨h1,h2,_⟩:=h;have:(l.any fun x=>decide (s=x))=true:=List.any_eq_true.2 ⟨_,List.getElem_mem h1,h2⟩;rw [this];exact decide_eq_true (Int.natCast_nonneg i)
theorem iN(v:SV)(l:List Ba)(hl:l.length≤1000000)(s:Ba):
  bi prog 155 [sv v,Sg s] [] [sl 1 eS (sv v) l] (.bool (cD s l)) []:=by
 refine aM func155 J ntmps155 J fun w0 M H=>ar (aq J (aF J (ad J (ad J (ak (xs:= [.tmp 5,.tmp 6]) (y4 v l hl s) NT [] [(false,0)] [] (fun _ _=>av J J ig (aq J (aa (az (aQ () O J (cc (aP J)) (congrArg Value.bool KE) [] [] J J J))))))))))
def vz:List Ba:= [(⟨#[101,108,115,101]⟩:Ba),(⟨#[102,110]⟩:Ba),(⟨#[105,102]⟩:Ba),(⟨#[105,110]⟩:Ba),(⟨#[109,101,109]⟩:Ba),(⟨#[111,117,116]⟩:Ba),(⟨#[114,101,116,117,114,110]⟩:Ba),(⟨#[118,97,114]⟩:Ba),(⟨#[119,104,105,108,101]⟩:Ba)]
def pe(c:Int):Bool:=decide (c≥97)&&decide (c≤122)
def mM(c:Int):Bool:=decide (c≥48)&&decide (c≤57)
theorem tB:
  Spec prog 156 [] [] [] (X:=SV) (fun _=>True) (fun u=>sv u) (fun u=> [own 9 1 eS (sv u) vz]) (fun _=> []):=by
 refine aM func156 J ntmps156 J fun w0 M H=>ar (aq J (aF J (dz eS vz (parts:= [(0,.const (Sg (ByteArray.mk #[101,108,115,101]))),(1,.const (Sg (ByteArray.mk #[102,110]))),(2,.const (Sg (ByteArray.mk #[105,102]))),(3,.const (Sg (ByteArray.mk #[105,110]))),(4,.const (Sg (ByteArray.mk #[109,101,109]))),(5,.const (Sg (ByteArray.mk #[111,117,116]))),(6,.const (Sg (ByteArray.mk #[114,101,116,117,114,110]))),(7,.const (Sg (ByteArray.mk #[118,97,114]))),(8,.const (Sg (ByteArray.mk #[119,104,105,108,101])))]) underlying46 t9 J (by decide) (by intro _;rfl) J (by decide) (by decide) J J J J fun v1=>aq J (aa (az (aQ v1 O J (cc (aP J)) J [1] [] J J J))))))
theorem qb(c:Int):
  bi prog 157 [.int .i32 c] [] [] (.bool (pe c)) []:=by
 refine aM func157 J ntmps157 J fun w0 M H=>ar (aq J (aF J (ad J (av J J ig (ad J (aI [] J J O (fun hg1=>aY J) J (aI [(6,_)] J J ⟨J,O⟩ (fun hg2=>aU J J l7) J (aS (bK J J J) (aq J (aa (az (aQ () O J (cc (aP J)) J [] [] J J J))))))))))))
theorem zx(c:Int):
  bi prog 160 [.int .i32 c] [] [] (.bool (mM c)) []:=by
 refine aM func160 J ntmps160 J fun w0 M H=>ar (aq J (aF J (ad J (av J J ig (ad J (aI [] J J O (fun hg1=>aY J) J (aI [(6,_)] J J ⟨J,O⟩ (fun hg2=>aU J J l7) J (aS (bK J J J) (aq J (aa (az (aQ () O J (cc (aP J)) J [] [] J J J))))))))))))
theorem w7(c:Int):
  bi prog 159 [.int .i32 c] [] [] (.bool (pe c || mM c)) []:=by
 refine aM func159 J ntmps159 J fun w0 M H=>ar (aq J (aF J (ad J (ak (xs:= [.tmp 3]) (qb c) Jg [] [] [] (fun _ _=>ad J (fq (t:=5) J (fun h1=> ?_) (fun h1=> ?_)))))))
 ·(try simp only [bk]at h1);have hq:pe c=true:=h1;refine dJ J J J J (dJ J J J J (aS (bK J J J) (aq J (aa (az (aQ () O J (cc (aP J)) (by first|(rw [hq];done)|(rw [hq];rfl)|(rw [hq];simp)) [] [] J J J))))))
 ·(try simp only [bk]at h1);have hq:pe c=false:=by simpa using h1
  refine bP J J (ad J (bP J J (ak (xs:= [.tmp 6]) (zx c) N4 [] [] [] (fun _ _=>aS (bK J J J) (aq J (aa (az (aQ () O J (cc (aP J)) (by first|(rw [hq];done)|(rw [hq];rfl)|(rw [hq];simp)) [] [] J J J))))))))
def uw(s:Ba):Int:=((s.data.toList.headD 0).toNat:Int)
def zM(p:Int→Bool)(s:Ba):Bool:=s.data.toList.all fun b=>p (b.toNat:Int)
def cu(s:Ba):Bool:=decide (s.size≠0)&&decide (s.size≤12)&& !cD s vz&&pe (uw s)&&zM (fun c=>pe c || mM c) s
def LH(s:Ba):Prop:=∀(i:Nat)(h:i<s.size),(s[i]'h).toNat<128
def oP(s:Ba):Prop:=LH s∧s.size≤1000000
def bD:Ba:=⟨#[]⟩
def ed:Ba:=⟨#[109,97,105,110]⟩
def ti:List Ba:= [eJ,u_,tx]
def lvL:List (Ba×Int):= [(lS,7),(kM,7),(gM,7),(eJ,6),(gm,6),(iq,5),(gL,5),(oO,4),(nj,4),(nh,4),(mj,4),(ng,3),(nk,3),(fD,2),(fJ,1),(ke,0)]
def iW(s:Ba):Bool:=(lvL.find? fun p=>decide (p.1=s)).isSome
def qK(k:Int)(nm:Ba)(n:Nat):Bool:=
 if k=1∨k=5 then decide (nm=bD)&&decide (n=0)else if k=2 then cu nm&&decide (n=0)else if k=3 then cu nm else
 if k=4 then decide (nm=bD)&&decide (n=1)else if k=6 then cD nm ti&&decide (n=1)else if k=7 then iW nm&&decide (n=2)else false
mutual
def rX:Tx→Bool
 | .mk k n nm _ kids=>qK k nm kids.length&&(decide (k=1) || decide (n=0))&&qH kids
def qH:List Tx→Bool
 | []=>true
 | t::r=>rX t&&qH r
end
def Ay(k:Int)(nm:Ba)(ne nb nl:Nat):Bool:=
 decide (k≥1)&&decide (k≤8)&&decide (ne=if k=3 then 2 else 1)&&(if k=1∨k=2 then cu nm else decide (nm=bD))&&(decide (k=4) || decide (k=5) || decide (nb=0))&&(decide (k=4) || decide (nl=0))
mutual
def rY:Ty→Bool
 | .mk k nm _ es _ body _ els=>Ay k nm es.length body.length els.length&&qH es&&mQ body&&mQ els
def mQ:List Ty→Bool
 | []=>true
 | t::r=>rY t&&mQ r
end
def rF(f:Tf):Bool:=f.ps.all cu&&cu f.name&&mQ f.body
def rP(fs:List Tf):Bool:=fs.all rF
mutual
def nX:Tx→Nat
 | .mk _ _ _ _ kids=>eH kids+1
def eH:List Tx→Nat
 | []=>0
 | t::r=>nX t+eH r
end
mutual
def dX:Tx→Nat
 | .mk _ _ _ _ kids=>gC kids+1
def gC:List Tx→Nat
 | []=>0
 | t::r=>max (dX t) (gC r)
end
mutual
def nY:Ty→Nat
 | .mk _ _ _ es _ body _ els=>1+eH es+cM body+cM els
def cM:List Ty→Nat
 | []=>0
 | t::r=>nY t+cM r
end
mutual
def vY:Ty→Nat
 | .mk k _ _ _ _ body _ els=>(if k=1 then 1 else 0)+dD body+dD els
def dD:List Ty→Nat
 | []=>0
 | t::r=>vY t+dD r
end
mutual
def CT:Nat→Ty→Bool
 | d,.mk _ _ _ es _ body _ els=>decide (d>8) || decide (gC es>8) || dY (d+1) body || dY (d+1) els
def dY:Nat→List Ty→Bool
 | _,[]=>false
 | d,t::r=>CT d t || dY d r
end
def fst(a b:Int):Int:=if a=0 then b else a
theorem gz(a b c:Int):fst (fst a b) c=fst a (fst b c):=by
 unfold fst;split
 ·rfl
 ·rfl
theorem ew(a:Int):fst a 0=a:=by
 unfold fst;split
 ·rename_i h;exact h.symm
 ·rfl
theorem ju(a:Int):fst 0 a=a:=rfl
theorem bF{a b:Int}:fst a b=0↔a=0∧b=0:=by
 unfold fst;split
 ·rename_i h;simp [h]
 ·rename_i h;simp [h]
def ss(fs:List Tf)(x:Ba):Int:=xS (fun f=>decide (f.name=x)) fs
mutual
def eX(fs:List Tf)(ns:List Ba):Tx→Int
 | .mk k _ nm _ kids=>fst (if k=2 then(if cD nm ns=true then 0 else 21)else if k=3 then(match dc fs nm with
   | none=>21
   | some f=>if f.ps.length=kids.length then 0 else 23)else 0) (jJ fs ns kids)
def jJ(fs:List Tf)(ns:List Ba):List Tx→Int
 | []=>0
 | t::r=>fst (eX fs ns t) (jJ fs ns r)
end
mutual
def bY(fs:List Tf):List Ba→Ty→List Ba×Int
 | ns,.mk k nm _ es _ body _ els=>
  let n1:=if k=1 then ns++ [nm]else ns
  let p1:=dm fs n1 body
  let p2:=dm fs p1.1 els
  (p2.1,fst (if k=2 then(if cD nm ns=true then 0 else 21)else 0) (fst (jJ fs ns es) (fst (if k=1 then(if cD nm ns=true then 22 else 0)else 0) (fst p1.2 p2.2))))
def dm(fs:List Tf):List Ba→List Ty→List Ba×Int
 | ns,[]=>(ns,0)
 | ns,t::r=>let p:=bY fs ns t;let q:=dm fs p.1 r;(q.1,fst p.2 q.2)
end
def sM:List Ba→List Ba→Int
 | _,[]=>0
 | ns,x::r=>fst (if cD x ns=true then 22 else 0) (sM (ns++ [x]) r)
def kW(fs:List Tf)(f:Tf):Int:=
 fst (if f.ps.length>4∨f.ps.length+dD f.body>12∨cM f.body>400∨dY 1 f.body=true then 2 else 0) (fst (sM [] f.ps) (dm fs f.ps f.body).2)
def gU(fs:List Tf):List Tf→Int
 | []=>0
 | f::r=>fst (kW fs f) (gU fs r)
def once(fs:List Tf):Bool:=(List.range fs.length).all fun i=>decide (ss fs (fs.getD i ⟨bD,bv,[],bv,[]⟩).name=(i:Int))
def jK(fs:List Tf):Int:=
 if rP fs=false then 1 else if fs.length>16 then 2 else if once fs=false then 22 else match dc fs ed with
  | none=>21
  | some f=>if f.ps.length>0 then 23 else gU fs fs
mutual
def GX:Tx→Prop
 | .mk k n nm _ kids=>oW n∧oP nm∧kids.length≤1000000∧GXs kids
def GXs:List Tx→Prop
 | []=>True
 | t::r=>GX t∧GXs r
end
mutual
def GY:Ty→Prop
 | .mk k nm _ es _ body _ els=>oP nm∧(es.length≤1000000∧GXs es)∧(body.length≤1000000∧GYs body)∧(els.length≤1000000∧GYs els)
def GYs:List Ty→Prop
 | []=>True
 | t::r=>GY t∧GYs r
end
def GF(f:Tf):Prop:=oP f.name∧(∀s∈f.ps,oP s)∧f.ps.length≤1000000∧f.body.length≤1000000∧GYs f.body∧f.ps.length+cM f.body≤1000000
def GP(fs:List Tf):Prop:=fs.length≤1000000∧∀f∈fs,GF f
theorem GXs.mem:∀{l:List Tx},GXs l→∀t∈l,GX t
 | [],_,_,h=>by simp at h
 | t::r,h,u,hu=>by
  rcases List.mem_cons.1 hu with rfl|hu
  ·exact h.1
  ·exact GXs.mem h.2 u hu
theorem GYs.mem:∀{l:List Ty},GYs l→∀t∈l,GY t
 | [],_,_,h=>by simp at h
 | t::r,h,u,hu=>by
  rcases List.mem_cons.1 hu with rfl|hu
  ·exact h.1
  ·exact GYs.mem h.2 u hu
theorem ka{t:Tx}(h:GX t):GXs t.kids:=by cases t;exact h.2.2.2
theorem l8{t:Tx}(h:GX t):t.kids.length≤1000000:=by cases t;exact h.2.2.1
theorem Il{t:Tx}(h:GX t):oP t.name:=by cases t;exact h.2.1
theorem Ik{t:Ty}(h:GY t):oP t.name:=by cases t;exact h.1
theorem oM{t:Ty}(h:GY t):t.es.length≤1000000∧GXs t.es:=by cases t;exact h.2.1
theorem ff{t:Ty}(h:GY t):t.body.length≤1000000∧GYs t.body:=by cases t;exact h.2.2.1
theorem gk{t:Ty}(h:GY t):t.els.length≤1000000∧GYs t.els:=by cases t;exact h.2.2.2
theorem qG:∀l,qH l=l.all rX
 | []=>rfl
 | t::r=>by rw [qH,qG r];rfl
theorem kK:∀l,mQ l=l.all rY
 | []=>rfl
 | t::r=>by rw [mQ,kK r];rfl
theorem pJ{t u:Tx}(h:u∈t.kids):SizeOf.sizeOf u<SizeOf.sizeOf t:=by
 cases t with
 | mk k n nm v kids=>
  have:=List.sizeOf_lt_of_mem h;simp only [Tx.kids]at this;simp only [Tx.mk.sizeOf_spec];omega
theorem It{t u:Ty}(h:u∈t.body∨u∈t.els):SizeOf.sizeOf u<SizeOf.sizeOf t:=by
 cases t with
 | mk k nm ve es vb body vl els=>
  simp only [Ty.mk.sizeOf_spec];rcases h with h|h
  ·have:=List.sizeOf_lt_of_mem h;simp only [Ty.body]at this;omega
  ·have:=List.sizeOf_lt_of_mem h;simp only [Ty.els]at this;omega
theorem fk{fs:List Tf}{x:Ba}:(ss fs x<0↔dc fs x=none)∧(∀f,dc fs x=some f→∃i:Nat,ss fs x=(i:Int)∧fs[i]?=some f):=by
 unfold ss xS dc;cases h:fs.findIdx? (fun f=>decide (f.name=x))with
 | none=>
  rw [List.findIdx?_eq_none_iff]at h;have h2:fs.find? (fun f=>decide (f.name=x))=none:=List.find?_eq_none.2 fun f hf=>by rw [h f hf];simp
  rw [h2];simp
 | some i=>
  rw [List.findIdx?_eq_some_iff_getElem]at h;obtain⟨h1,h2,h3⟩:=h;have h4:fs.find? (fun f=>decide (f.name=x))=some fs[i]:=by
   rw [List.find?_eq_some_iff_getElem];refine⟨h2,i,h1,J,fun j hj=> ?_⟩;have:=h3 j hj;simpa using this
  rw [h4];refine⟨⟨fun h=>by simp at h;omega,fun h=>by simp at h⟩,fun f hf=>⟨i,J,?_⟩⟩;rw [←d5 hf];exact bT h1
theorem qM{α:Type}{p:α→Bool}{l:List α}:decide (xS p l≥0)=l.any p:=by
 unfold xS;cases h:l.findIdx? p with
 | none=>
  rw [List.findIdx?_eq_none_iff]at h;have:l.any p=false:=List.any_eq_false.2 fun x hx=>by rw [h x hx];simp
  rw [this];rfl
 | some i=>
  rw [List.findIdx?_eq_some_iff_getElem]at h;obtain⟨h1,h2,_⟩:=h;have:l.any p=true:=List.any_eq_true.2 ⟨_,List.getElem_mem h1,h2⟩;rw [this];exact decide_eq_true (Int.natCast_nonneg i)
theorem w4(v:SV)(l:List Tf)(hl:l.length≤1000000)(n:Nat)(cap:List Value)(C:Asn)(p:Tf→Bool)(hcb:Cb prog n)(hs:∀x∈l,Spec prog n (Gp x::cap) [] [C] (X:=Unit) (fun _=>True) (fun _=> .bool (p x)) (fun _=> []) (fun _=> [])):
  bi prog 124 [sv v,.func (.func n) #[] cap.toArray] [] [sl 3 gu (sv v) l,C] (I6 (xS p l)) []:=by
 refine aM func124 J ntmps124 J fun w0 M H=>ar (aq J (aa (aV (ad J (aS (aL underlying25 J (aN (k:=0) J)) (ad J (aa (aC ?_))))))))
 refine bI (X:=Nat) (fun k=>k≤l.length∧∀i y,i<k→l[i]?=some y→p y=false) (fun k=> [(0,sv v),(1,.func (.func n) #[] cap.toArray),(7,I6 (l.length:Int)),(8,I6 (k:Int))]) (fun k=> []) (fun k=> [(0,sl 3 gu (sv v) l),(1,C)]) (fun k=>l.length-k) 0 ⟨bq _,fun i y hi=>by omega⟩ J J J (fun k hk0=> ?_);obtain⟨n1,n2⟩:=hk0;refine ar (av J J cy (aa (aZ (am J (fun h1=> ?_) (fun h1=> ?_)))))
 ·(try simp only [bk]at h1);have hk:k<l.length:=by omega
  obtain⟨x,hx⟩:∃x,l[k]?=some x:=⟨_,bT hk⟩
  refine aA (aZ (aC (ar (ad J (aq J (aF J (ad J (ad J (ad J (aS (aK (j:=k) underlying25 fC J J (aN (k:=0) J) (by first|rfl|omega) (by first|omega|(simp;done)|(simp;omega))) (aS (aJ fC J J J (bJ (aN (k:=0) J) (by intro _;rfl) hx (by rfl))) (ak (xs:= [.tmp 15]) (hs x (cd hx)) hcb [] [(false,1)] [] (fun _ _=>aa (am J (fun h2=> ?_) (fun h2=> ?_)))))))))))))))
  ·have hq:p x=true:=h2;refine ar (ad J (aq J (aa (az (aQ () O J (cc (aP J)) (by rw [ph hx hq n2]) [] [] J J J)))))
  ·have hq:p x=false:=h2;refine aA (ap (av J J aO (ad J (aa ?_))));refine aG (k+1) ⟨⟨by omega,fun i y hi hy=>by rcases Nat.lt_succ_iff_lt_or_eq.1 hi with h|h;exact n2 i y h hy;rw [h,hx]at hy;rw [←d5 hy];exact hq⟩,by omega⟩ J J J
 ·(try simp only [bk]at h1);have hk:k=l.length:=by omega
  subst hk;refine bM (ar (aq J (aa (az (aQ () O J (cc (aP J)) (by rw [pg n2]) [] [] J J J)))))
theorem CD(v:SV)(l:List Tf)(hl:l.length≤1000000)(n:Nat)(cap:List Value)(C:Asn)(p:Tf→Bool)(hcb:Cb prog n)(hs:∀x∈l,Spec prog n (Gp x::cap) [] [C] (X:=Unit) (fun _=>True) (fun _=> .bool (p x)) (fun _=> []) (fun _=> [])):
  bi prog 118 [sv v,.func (.func n) #[] cap.toArray] [] [sl 3 gu (sv v) l,C] (.bool (l.any p)) []:=by
 refine aM func118 J ntmps118 J fun w0 M H=>ar (aq J (aF J (ad J (ad J (ak (xs:= [.tmp 5,.tmp 6]) (w4 v l hl n cap C p hcb hs) Jp [] [(false,0),(false,1)] [] (fun _ _=>av J J ig (aq J (aa (az (aQ () O J (cc (aP J)) (congrArg Value.bool qM) [] [] J J J))))))))))
theorem Et(v:SV)(l:List Ty)(hl:l.length≤1000000)(n:Nat)(cap:List Value)(C:Asn)(p:Ty→Bool)(hcb:Cb prog n)(hs:∀x∈l,Spec prog n (yV x::cap) [] [C] (X:=Unit) (fun _=>True) (fun _=> .bool (p x)) (fun _=> []) (fun _=> [])):
  bi prog 185 [sv v,.func (.func n) #[] cap.toArray] [] [sl 5 dM (sv v) l,C] (I6 (xS p l)) []:=by
 refine aM func185 J ntmps185 J fun w0 M H=>ar (aq J (aa (aV (ad J (aS (aL underlying62 J (aN (k:=0) J)) (ad J (aa (aC ?_))))))))
 refine bI (X:=Nat) (fun k=>k≤l.length∧∀i y,i<k→l[i]?=some y→p y=false) (fun k=> [(0,sv v),(1,.func (.func n) #[] cap.toArray),(7,I6 (l.length:Int)),(8,I6 (k:Int))]) (fun k=> []) (fun k=> [(0,sl 5 dM (sv v) l),(1,C)]) (fun k=>l.length-k) 0 ⟨bq _,fun i y hi=>by omega⟩ J J J (fun k hk0=> ?_);obtain⟨n1,n2⟩:=hk0;refine ar (av J J cy (aa (aZ (am J (fun h1=> ?_) (fun h1=> ?_)))))
 ·(try simp only [bk]at h1);have hk:k<l.length:=by omega
  obtain⟨x,hx⟩:∃x,l[k]?=some x:=⟨_,bT hk⟩
  refine aA (aZ (aC (ar (ad J (aq J (aF J (ad J (ad J (ad J (aS (aK (j:=k) underlying62 cr J J (aN (k:=0) J) (by first|rfl|omega) (by first|omega|(simp;done)|(simp;omega))) (aS (aJ cr J J J (bJ (aN (k:=0) J) (by intro _;rfl) hx (by rfl))) (ak (xs:= [.tmp 15]) (hs x (cd hx)) hcb [] [(false,1)] [] (fun _ _=>aa (am J (fun h2=> ?_) (fun h2=> ?_)))))))))))))))
  ·have hq:p x=true:=h2;refine ar (ad J (aq J (aa (az (aQ () O J (cc (aP J)) (by rw [ph hx hq n2]) [] [] J J J)))))
  ·have hq:p x=false:=h2;refine aA (ap (av J J aO (ad J (aa ?_))));refine aG (k+1) ⟨⟨by omega,fun i y hi hy=>by rcases Nat.lt_succ_iff_lt_or_eq.1 hi with h|h;exact n2 i y h hy;rw [h,hx]at hy;rw [←d5 hy];exact hq⟩,by omega⟩ J J J
 ·(try simp only [bk]at h1);have hk:k=l.length:=by omega
  subst hk;refine bM (ar (aq J (aa (az (aQ () O J (cc (aP J)) (by rw [pg n2]) [] [] J J J)))))
theorem CB(v:SV)(l:List Ty)(hl:l.length≤1000000)(n:Nat)(cap:List Value)(C:Asn)(p:Ty→Bool)(hcb:Cb prog n)(hs:∀x∈l,Spec prog n (yV x::cap) [] [C] (X:=Unit) (fun _=>True) (fun _=> .bool (p x)) (fun _=> []) (fun _=> [])):
  bi prog 161 [sv v,.func (.func n) #[] cap.toArray] [] [sl 5 dM (sv v) l,C] (.bool (l.any p)) []:=by
 refine aM func161 J ntmps161 J fun w0 M H=>ar (aq J (aF J (ad J (ad J (ak (xs:= [.tmp 5,.tmp 6]) (Et v l hl n cap C p hcb hs) NS [] [(false,0),(false,1)] [] (fun _ _=>av J J ig (aq J (aa (az (aQ () O J (cc (aP J)) (congrArg Value.bool qM) [] [] J J J))))))))))
theorem Eu(v:SV)(l:List Tx)(hl:l.length≤1000000)(n:Nat)(cap:List Value)(C:Asn)(p:Tx→Bool)(hcb:Cb prog n)(hs:∀x∈l,Spec prog n (xV x::cap) [] [C] (X:=Unit) (fun _=>True) (fun _=> .bool (p x)) (fun _=> []) (fun _=> [])):
  bi prog 200 [sv v,.func (.func n) #[] cap.toArray] [] [sl 4 dB (sv v) l,C] (I6 (xS p l)) []:=by
 refine aM func200 J ntmps200 J fun w0 M H=>ar (aq J (aa (aV (ad J (aS (aL underlying59 J (aN (k:=0) J)) (ad J (aa (aC ?_))))))))
 refine bI (X:=Nat) (fun k=>k≤l.length∧∀i y,i<k→l[i]?=some y→p y=false) (fun k=> [(0,sv v),(1,.func (.func n) #[] cap.toArray),(7,I6 (l.length:Int)),(8,I6 (k:Int))]) (fun k=> []) (fun k=> [(0,sl 4 dB (sv v) l),(1,C)]) (fun k=>l.length-k) 0 ⟨bq _,fun i y hi=>by omega⟩ J J J (fun k hk0=> ?_);obtain⟨n1,n2⟩:=hk0;refine ar (av J J cy (aa (aZ (am J (fun h1=> ?_) (fun h1=> ?_)))))
 ·(try simp only [bk]at h1);have hk:k<l.length:=by omega
  obtain⟨x,hx⟩:∃x,l[k]?=some x:=⟨_,bT hk⟩
  refine aA (aZ (aC (ar (ad J (aq J (aF J (ad J (ad J (ad J (aS (aK (j:=k) underlying59 ca J J (aN (k:=0) J) (by first|rfl|omega) (by first|omega|(simp;done)|(simp;omega))) (aS (aJ ca J J J (bJ (aN (k:=0) J) (by intro _;rfl) hx (by rfl))) (ak (xs:= [.tmp 15]) (hs x (cd hx)) hcb [] [(false,1)] [] (fun _ _=>aa (am J (fun h2=> ?_) (fun h2=> ?_)))))))))))))))
  ·have hq:p x=true:=h2;refine ar (ad J (aq J (aa (az (aQ () O J (cc (aP J)) (by rw [ph hx hq n2]) [] [] J J J)))))
  ·have hq:p x=false:=h2;refine aA (ap (av J J aO (ad J (aa ?_))));refine aG (k+1) ⟨⟨by omega,fun i y hi hy=>by rcases Nat.lt_succ_iff_lt_or_eq.1 hi with h|h;exact n2 i y h hy;rw [h,hx]at hy;rw [←d5 hy];exact hq⟩,by omega⟩ J J J
 ·(try simp only [bk]at h1);have hk:k=l.length:=by omega
  subst hk;refine bM (ar (aq J (aa (az (aQ () O J (cc (aP J)) (by rw [pg n2]) [] [] J J J)))))
theorem uq(v:SV)(l:List Tx)(hl:l.length≤1000000)(n:Nat)(cap:List Value)(C:Asn)(p:Tx→Bool)(hcb:Cb prog n)(hs:∀x∈l,Spec prog n (xV x::cap) [] [C] (X:=Unit) (fun _=>True) (fun _=> .bool (p x)) (fun _=> []) (fun _=> [])):
  bi prog 186 [sv v,.func (.func n) #[] cap.toArray] [] [sl 4 dB (sv v) l,C] (.bool (l.any p)) []:=by
 refine aM func186 J ntmps186 J fun w0 M H=>ar (aq J (aF J (ad J (ad J (ak (xs:= [.tmp 5,.tmp 6]) (Eu v l hl n cap C p hcb hs) NO [] [(false,0),(false,1)] [] (fun _ _=>av J J ig (aq J (aa (az (aQ () O J (cc (aP J)) (congrArg Value.bool qM) [] [] J J J))))))))))
theorem CC(v:SV)(l:List Ba)(hl:l.length≤1000000)(n:Nat)(p:Ba→Bool)(hcb:Cb prog n)(hs:∀s∈l,Spec prog n [Sg s] [] [] (X:=Unit) (fun _=>True) (fun _=> .bool (p s)) (fun _=> []) (fun _=> [])):
  bi prog 120 [sv v,.func (.func n) #[] #[]] [] [sl 1 eS (sv v) l] (.bool (l.any p)) []:=by
 refine aM func120 J ntmps120 J fun w0 M H=>ar (aq J (aF J (ad J (ad J (ak (xs:= [.tmp 5,.tmp 6]) (Ev v l hl n p hcb hs) N8 [] [(false,0)] [] (fun _ _=>av J J ig (aq J (aa (az (aQ () O J (cc (aP J)) (congrArg Value.bool qM) [] [] J J J))))))))))
theorem oL{p:Int→Bool}{s:Ba}:zM p s=true↔∀(i:Nat)(h:i<s.size),p (((s[i]'h).toNat:Nat):Int)=true:=by
 unfold zM;rw [List.all_eq_true];constructor
 ·intro h i hi;refine h (s[i]'hi) ?_;have:s[i]'hi=s.data.toList[i]'(by simpa using hi):=by simp [ByteArray.getElem_eq_getElem_data]
  rw [this];exact List.getElem_mem _
 ·intro h b hb;obtain⟨i,hi,rfl⟩:=List.mem_iff_getElem.1 hb;have hi':i<s.size:=by simpa using hi
  have:=h i hi';rw [show s[i]'hi'=s.data.toList[i]'hi by simp [ByteArray.getElem_eq_getElem_data]]at this;exact this
theorem FQ{s:Ba}:s=bD↔s.size=0:=by
 constructor
 ·intro h;subst h;rfl
 ·intro h;obtain⟨⟨l⟩⟩:=s;cases l with
  | nil=>rfl
  | cons a r=>simp [ByteArray.size]at h
theorem sw{s:Ba}(h:0<s.size):IntKind.i32.wrap ((bx s).getD 0 0)=uw s:=by
 unfold uw bx;obtain⟨⟨l⟩⟩:=s;cases l with
 | nil=>simp [ByteArray.size]at h
 | cons a r=>
  have:=a.toNat_lt;simp only [List.map_cons,List.getD_cons_zero,List.headD_cons];exact C4 (by omega) (by omega)
theorem w6(s:Ba):cu s=(!(s==⟨#[]⟩)&& !decide ((s.size:Int)>12)&& !cD s vz&&pe (uw s)&&zM (fun c=>pe c || mM c) s):=by
 unfold cu
 congr 4
 ·rw [gt];have:=FQ (s:=s);unfold bD at this;by_cases h:s.size=0
  ·rw [this.2 h];rfl
  ·have h2:¬s=⟨#[]⟩:=fun e=>h (this.1 e)
   simp [h,h2]
 ·by_cases h:s.size≤12
  ·have:¬(s.size:Int)>12:=by omega
   simp [h,this]
  ·have:(s.size:Int)>12:=by omega
   simp [h,this]
theorem r4{s:Ba}(h:((s==⟨#[]⟩)=true∨(s.size:Int)>12)∨cD s vz=true∨(0<s.size∧(false || !pe (IntKind.i32.wrap ((bx s).getD 0 0)))=true)):cu s=false:=by
 rw [w6];rcases h with(h|h)|h|⟨h0,h⟩
 ·rw [h];rfl
 ·rw [decide_eq_true h];simp
 ·rw [h];simp
 ·rw [sw h0,Bool.false_or,Bool.not_eq_true']at h;rw [h];simp
theorem Cr{s:Ba}{k:Nat}(h1:(s==⟨#[]⟩)=false∧¬(s.size:Int)>12)(h2:True∧cD s vz=false)(h0:0<s.size)(h3:(false || !pe (IntKind.i32.wrap ((bx s).getD 0 0)))=false)(hk:decide ((k:Int)=(s.size:Int))=zM (fun c=>pe c || mM c) s):decide ((k:Int)=(s.size:Int))=cu s:=by
 rw [w6,h1.1,decide_eq_false h1.2,h2.2,hk];rw [sw h0,Bool.false_or,Bool.not_eq_false']at h3;rw [h3];simp
theorem BX(s:Ba)(n:Nat)(p:Int→Bool)(has:LH s)(hcb:Cb prog n)(hz:s.size≤1000000)(hs:∀c:Int,Spec prog n [.int .i32 c] [] [] (X:=Unit) (fun _=>True) (fun _=> .bool (p c)) (fun _=> []) (fun _=> [])):
  Spec prog 158 [Sg s,.func (.func n) #[] #[]] [] [] (X:=Nat) (fun k=>decide ((k:Int)=(s.size:Int))=zM p s) (fun k=>I6 (k:Int)) (fun _=> []) (fun _=> []):=by
 refine aM func158 J ntmps158 J fun w0 M H=>ar (aq J (aa (aV (ad J (DP underlying9 J J fun i8=>aa (aC ?_))))))
 refine bI (X:=Nat) (fun x=>x≤s.size∧∀j(h:j<s.size),j<x→p (((s[j]'h).toNat:Nat):Int)=true) (fun x=> [(0,Sg s),(1,.func (.func n) #[] #[]),(8,Pt i8)]) (fun x=> [(8,Mw i8 s x)]) (fun x=> []) (fun x=>s.size-x) 0 ⟨bq _,fun j h hj=>by omega⟩ J J J (fun x hx0=> ?_);obtain⟨n1,n2⟩:=hx0;refine ar (GR (k:=8) J J (fun h=>has x h) J (fun hover=> ?_) (fun hmore=> ?_))
 ·have hx:x=s.size:=by omega
  subst hx;refine aS (cS J J) (aa (aZ (am J (fun h1=> ?_) (fun h1=> ?_))))
  ·exact absurd h1 (by simp)
  ·(try simp only [bk]at h1);refine bM (ar (ad J (aS (c9 underlying9 J) (aq J (aa (az (aQ s.size (by rw [decide_eq_true J];symm;exact oL.2 fun i h=>n2 i h h) J (cc (aP J)) J [] [] J J J)))))))
 ·have hxs:x<s.size:=hmore;refine aS (cS J J) (aa (aZ (am J (fun h2=> ?_) (fun h2=> ?_))))
  ·(try simp only [bk]at h2);refine aA (aC (ar (aS (cS J J) (aS (cS J J) (aq J (aq J (aF J (ad J (ad J (dj (xs:= [.tmp 14]) (hs _) hcb [] [] [] J J J (fun _ _=>aS (cZ J) (aa (am J (fun h3=> ?_) (fun h3=> ?_))))))))))))))
   ·have hq:p (((s[x]'hxs).toNat:Nat):Int)=false:=by simpa using h3
    refine ar (ad J (aq J (aa (az ?_))));refine aQ x (by rw [decide_eq_false (show ¬((x:Int)=(s.size:Int)) by omega)];symm;rw [Bool.eq_false_iff];intro h;have:=oL.1 h x hxs;rw [hq]at this;cases this) J (cc (aP J)) J [] [] J J J
   ·have hq:p (((s[x]'hxs).toNat:Nat):Int)=true:=by simpa using h3
    refine aA ?_;refine aG (x+1) ⟨⟨by omega,fun j h hj=>by rcases Nat.lt_succ_iff_lt_or_eq.1 hj with h2|h2;exact n2 j h h2;subst h2;exact hq⟩,by omega⟩ J J J
  ·exact absurd h2 (by simp)
theorem jC(s:Ba)(has:LH s)(hz:s.size≤1000000):
  bi prog 122 [Sg s] [] [] (.bool (cu s)) []:=by
 refine aM func122 J ntmps122 J fun w0 M H=>ar (aq J (aa (aV (ad J (av J J eT (ad J (aI [] J J O (fun hg1=>aY J) J (aI [(6,_)] J J ⟨J,O⟩ (fun hg2=>c9 underlying9 J) J (aI [(6,_),(7,_)] J J ⟨J,J,O⟩ (fun hg3=>aU J J fh) J (aS (bK J J J) (ad J (fq (t:=10) J (fun h4=> ?_) (fun h4=> ?_)))))))))))))
 ·(try simp only [bk]at h4);have q7:=h4;refine dJ J J J J (dJ J J J J (dJ J J J J (aS (bK J J J) (ad J (fq (t:=15) J (fun h5=> ?_) (fun h5=> ?_))))))
  ·(try simp only [bk]at h5);have q12:=h5;refine dJ J J J J (dJ J J J J (dJ J J J J (dJ J J J J (dJ J J J J (aS (bK J J J) (aa (am J (fun h6=> ?_) (fun h6=> ?_))))))))
   ·refine ar (aq J (aa (az (aQ () O J (cc (aP J)) (congrArg Value.bool (r4 (.inl q7)).symm) [] [] J J J))))
   ·exact absurd h6 (by simp)
  ·(try simp only [bk]at h5);have q12:=h5;exact absurd h5 (by simp)
 ·(try simp only [bk]at h4);have q7:=h4;have hs0:0<s.size:=Nat.pos_of_ne_zero fun e=>by have:=FQ.2 e;subst this;exact absurd q7.1 (by decide)
  refine bP J J (ak (xs:= []) tB N7 [] [] [11] (fun v11 _=>cW 11 21 J ch (bP J J (ad J (bP J J (ak (xs:= [.tmp 11,.tmp 12]) (iN v11 vz (by decide) s) Bv [] [(false,21)] [] (fun _ _=>aS (bK J J J) (ad J (fq (t:=15) J (fun h7=> ?_) (fun h7=> ?_))))))))))
  ·(try simp only [bk]at h7);have q12:=h7;refine dJ J J J J (dJ J J J J (dJ J J J J (dJ J J J J (dJ J J J J (aS (bK J J J) (aa (am J (fun h8=> ?_) (fun h8=> ?_))))))))
   ·refine ar (aq J (aa (az (aQ () O J (cc (aP J)) (congrArg Value.bool (r4 (.inr (.inl (by rcases q12 with q|q;exact absurd q (by simp);exact q)))).symm) [] [] J J J))))
   ·exact absurd h8 (by simp)
  ·(try simp only [bk]at h7);have q12:=h7;refine bP J J (ad J (bP J J (aS (eA (j:=0) underlying9 J J J hs0) (bP J J (aS (cB underlying5 underlying21 J (by first|exact C4 (by omega) (by omega)|rfl)) (bP J J (dj (xs:= [.tmp 18]) (qb _) Jg [] [] [] J J J (fun _ _=>bP J J (aS (cZ J) (aS (bK J J J) (aa (am J (fun h9=> ?_) (fun h9=> ?_)))))))))))))
   ·have q0:=h9;refine ar (aq J (aa (az (aQ () O J (cc (aP J)) (congrArg Value.bool (r4 (.inr (.inr ⟨hs0,q0⟩))).symm) [] [] J J J))))
   ·have q0:=h9;refine aA (ar (ad J (ak (xs:= [.tmp 22,.func 159]) (BX s 159 (fun c=>pe c || mM c) has N5 hz (fun c=>w7 c)) N6 [] [] [] (fun k hk=>ad J (aS (c9 underlying9 J) (av J J br (aq J (aa (az (aQ () O J (cc (aP J)) (congrArg Value.bool (Cr q7 q12 hs0 q0 hk)) [] [] J J J))))))))))
def vI(p:Ba×Int):Value:=I6 p.2
theorem Az{k:Int}{nm:Ba}{n:Nat}(h:k=1∨k=5):qK k nm n=((nm==⟨#[]⟩)&&decide ((n:Int)=0)):=by
 unfold qK;rw [aw h,gt]
 congr 1
 exact decide_eq_decide.2 (by omega)
theorem IH{k:Int}{nm:Ba}{n:Nat}(h:k=2):qK k nm n=(cu nm&&decide ((n:Int)=0)):=by
 subst h;show(cu nm&&decide (n=0))=_
 congr 1
 exact decide_eq_decide.2 (by omega)
theorem IG{k:Int}{nm:Ba}{n:Nat}(h:k=3):qK k nm n=cu nm:=by
 subst h;rfl
theorem IF{k:Int}{nm:Ba}{n:Nat}(h:k=4):qK k nm n=((nm==⟨#[]⟩)&&decide ((n:Int)=1)):=by
 subst h;show(decide (nm=bD)&&decide (n=1))=_;rw [gt]
 congr 1
 exact decide_eq_decide.2 (by omega)
theorem IE{k:Int}{nm:Ba}{n:Nat}(h:k=6):qK k nm n=(cD nm ti&&decide ((n:Int)=1)):=by
 subst h;show(cD nm ti&&decide (n=1))=_
 congr 1
 exact decide_eq_decide.2 (by omega)
theorem ID{k:Int}{nm:Ba}{n:Nat}(h:k=7):qK k nm n=(iW nm&&decide ((n:Int)=2)):=by
 subst h;show(iW nm&&decide (n=2))=_
 congr 1
 exact decide_eq_decide.2 (by omega)
theorem II{k:Int}{nm:Ba}{n:Nat}(h1:¬k=1)(h5:¬k=5)(h2:¬k=2)(h3:¬k=3)(h4:¬k=4)(h6:¬k=6)(h7:¬k=7):qK k nm n=false:=by
 unfold qK;rw [ai (fun h=>h.elim h1 h5),ai h2,ai h3,ai h4,ai h6,ai h7]
theorem ik{α:Type}(p:α→Bool):∀l:List α,(!(l.any fun x=> !p x))=l.all p
 | []=>rfl
 | a::r=>by rw [List.any_cons,List.all_cons,←ik p r];cases p a<;>simp
theorem Am(t:Tx):rX t=(qK t.kind t.name t.kids.length&&(decide (t.kind=1) || decide (t.n=0))&& !(t.kids.any fun u=> !rX u)):=by
 rw [ik];cases t;rw [rX,qG];rfl
theorem wT:
  Spec prog 201 [] [] [] (X:=Nat) (fun _=>True) (fun b=> .map (some b)) (fun b=> [mp gQ Prod.fst vI (some b) lvL]) (fun _=> []):=by
 refine aM func201 J ntmps201 J fun w0 M H=>ar (aq J (aF J (md (Prod.fst:Ba×Int→Ba) gQ vI J fun b1=>cv (k:=1) (α:=Ba×Int) (kf:=Prod.fst) (vf:=vI) (ke,0) [(ke,0)] underlying105 fB J J J J (List.Perm.of_eq J) (cv (k:=1) (α:=Ba×Int) (kf:=Prod.fst) (vf:=vI) (fJ,1) [(fJ,1),(ke,0)] underlying105 fB J J J J (List.Perm.of_eq J) (cv (k:=1) (α:=Ba×Int) (kf:=Prod.fst) (vf:=vI) (fD,2) [(fD,2),(fJ,1),(ke,0)] underlying105 fB J J J J (List.Perm.of_eq J) (cv (k:=1) (α:=Ba×Int) (kf:=Prod.fst) (vf:=vI) (nk,3) [(nk,3),(fD,2),(fJ,1),(ke,0)] underlying105 fB J J J J (List.Perm.of_eq J) (cv (k:=1) (α:=Ba×Int) (kf:=Prod.fst) (vf:=vI) (ng,3) [(ng,3),(nk,3),(fD,2),(fJ,1),(ke,0)] underlying105 fB J J J J (List.Perm.of_eq J) (cv (k:=1) (α:=Ba×Int) (kf:=Prod.fst) (vf:=vI) (mj,4) [(mj,4),(ng,3),(nk,3),(fD,2),(fJ,1),(ke,0)] underlying105 fB J J J J (List.Perm.of_eq J) (cv (k:=1) (α:=Ba×Int) (kf:=Prod.fst) (vf:=vI) (nh,4) [(nh,4),(mj,4),(ng,3),(nk,3),(fD,2),(fJ,1),(ke,0)] underlying105 fB J J J J (List.Perm.of_eq J) (cv (k:=1) (α:=Ba×Int) (kf:=Prod.fst) (vf:=vI) (nj,4) [(nj,4),(nh,4),(mj,4),(ng,3),(nk,3),(fD,2),(fJ,1),(ke,0)] underlying105 fB J J J J (List.Perm.of_eq J) (cv (k:=1) (α:=Ba×Int) (kf:=Prod.fst) (vf:=vI) (oO,4) [(oO,4),(nj,4),(nh,4),(mj,4),(ng,3),(nk,3),(fD,2),(fJ,1),(ke,0)] underlying105 fB J J J J (List.Perm.of_eq J) (cv (k:=1) (α:=Ba×Int) (kf:=Prod.fst) (vf:=vI) (gL,5) [(gL,5),(oO,4),(nj,4),(nh,4),(mj,4),(ng,3),(nk,3),(fD,2),(fJ,1),(ke,0)] underlying105 fB J J J J (List.Perm.of_eq J) (cv (k:=1) (α:=Ba×Int) (kf:=Prod.fst) (vf:=vI) (iq,5) [(iq,5),(gL,5),(oO,4),(nj,4),(nh,4),(mj,4),(ng,3),(nk,3),(fD,2),(fJ,1),(ke,0)] underlying105 fB J J J J (List.Perm.of_eq J) (cv (k:=1) (α:=Ba×Int) (kf:=Prod.fst) (vf:=vI) (gm,6) [(gm,6),(iq,5),(gL,5),(oO,4),(nj,4),(nh,4),(mj,4),(ng,3),(nk,3),(fD,2),(fJ,1),(ke,0)] underlying105 fB J J J J (List.Perm.of_eq J) ?_))))))))))))))
 refine cv (k:=1) (α:=Ba×Int) (kf:=Prod.fst) (vf:=vI) (eJ,6) [(eJ,6),(gm,6),(iq,5),(gL,5),(oO,4),(nj,4),(nh,4),(mj,4),(ng,3),(nk,3),(fD,2),(fJ,1),(ke,0)] underlying105 fB J J J J (List.Perm.of_eq J) (cv (k:=1) (α:=Ba×Int) (kf:=Prod.fst) (vf:=vI) (gM,7) [(gM,7),(eJ,6),(gm,6),(iq,5),(gL,5),(oO,4),(nj,4),(nh,4),(mj,4),(ng,3),(nk,3),(fD,2),(fJ,1),(ke,0)] underlying105 fB J J J J (List.Perm.of_eq J) (cv (k:=1) (α:=Ba×Int) (kf:=Prod.fst) (vf:=vI) (kM,7) [(kM,7),(gM,7),(eJ,6),(gm,6),(iq,5),(gL,5),(oO,4),(nj,4),(nh,4),(mj,4),(ng,3),(nk,3),(fD,2),(fJ,1),(ke,0)] underlying105 fB J J J J (List.Perm.of_eq J) (cv (k:=1) (α:=Ba×Int) (kf:=Prod.fst) (vf:=vI) (lS,7) [(lS,7),(kM,7),(gM,7),(eJ,6),(gm,6),(iq,5),(gL,5),(oO,4),(nj,4),(nh,4),(mj,4),(ng,3),(nk,3),(fD,2),(fJ,1),(ke,0)] underlying105 fB J J J J (List.Perm.of_eq J) (ad J (aq J (aa (az (aQ b1 O J (cc (aP J)) J [1] [] J J J))))))))
theorem DK(v:SV)(l:List Tx)(ih:∀u∈l,Spec prog 188 [xV u] [] [cm u.v u.kids] (X:=Unit) (fun _=>True) (fun _=> .bool (rX u)) (fun _=> []) (fun _=> []))(u:Tx)(hu:u∈l):
  bi prog 202 [xV u] [] [cm v l] (.bool (!rX u)) []:=by
 refine aM func202 J ntmps202 J fun w0 M H=>bc 0 7 J (eb hu) (ar (cA J J fun b1=>aq J (aF J (aS (aJ ca J J J (a_ (k:=1) J)) (ak (xs:= [.tmp 3]) (ih u hu) I9 [] [(false,7)] [] (fun _ _=>aS (cZ J) (aq J (aa (az (aQ () O J (cc (aP J)) J [] [] J J J))))))))))
theorem DJ(v:SV)(l:List Tx)(ih:∀u∈l,Spec prog 188 [xV u] [] [cm u.v u.kids] (X:=Unit) (fun _=>True) (fun _=> .bool (rX u)) (fun _=> []) (fun _=> []))(u:Tx)(hu:u∈l):
  bi prog 187 [xV u] [] [cm v l] (.bool (!rX u)) []:=by
 refine aM func187 J ntmps187 J fun w0 M H=>bc 0 7 J (eb hu) (ar (cA J J fun b1=>aq J (aF J (aS (aJ ca J J J (a_ (k:=1) J)) (ak (xs:= [.tmp 3]) (ih u hu) I9 [] [(false,7)] [] (fun _ _=>aS (cZ J) (aq J (aa (az (aQ () O J (cc (aP J)) J [] [] J J J))))))))))
theorem GK(t:Tx)(ht:GX t)(ih:∀u∈t.kids,Spec prog 188 [xV u] [] [cm u.v u.kids] (X:=Unit) (fun _=>True) (fun _=> .bool (rX u)) (fun _=> []) (fun _=> [])):
  bi prog 188 [xV t] [] [cm t.v t.kids] (.bool (rX t)) []:=by
 refine aM func188 J ntmps188 J fun w0 M H=>bc 0 1 J gE ?_
 have hnm:=Il ht;have hkl:=l8 ht;refine ar (cA J J fun b1=>aq J (aF J (aq J (aa (aZ (kJ [0,1,2,3,4,5,6,7,8] [0,1,2,3,4,5,7,6,8] [7,8,9,10,6,11,12,4,5] _ J J J (aW (V:= [(1,8,_),(2,9,_)]) [1,2] 0 [0] [3,4,5,6,7,8] (fun bm=> [(3,10,_),(4,6,_),(5,11,_),(6,12,_),(7,4,_),(8,5,_)]) J J (ac J (ah el J) (ac J (ae t9 J J (ax (k:=1) J J)) ag)) J J J J J J J J J J J (fun _ _=>J) J (jl (xs:= []) wT NN [] [] [60] [] J J J J J J J J (fun _ _=>J) (fun _ _ _=>J)) (fun bm _=>bn [3,4,5,6,7,8,1,2] J J (ac J (nZ underlying105 fB t3 J J (EB (k:=60) J) J) (ay J J (ac J (cS J J) (ac J (cS J J) (ac J (cT J) (ac J (cT J) (ac J (ah el J) (ac J (ae t9 J J (ax (k:=1) J J)) ag)))))))) J J J (bz (X:=Unit) (fun _=>True) (fun _=> [(1,Pt b1),(3,.bool (qK t.kind t.name t.kids.length))]) (fun _=> [(1,be b1 61 (dB t))]) (fun _=> [(0,cm t.v t.kids),(1,sl 4 dB (sv t.v) t.kids)]) ?_ (fun _ _=> ?_))))))))))
 ·refine ar (aD ki J (aT 1 t3 J J J J (aa (aC (aV (av J J br (aq J (aa (am J (fun h1=> ?_) (fun h1=> ?_))))))))))
  ·have q1:t.kind=1:=cH h1;refine aA (am J (fun h2=> ?_) (fun h2=> ?_))
   ·(try simp only [bk]at h2);refine ap (aD el J (aT 1 t9 J J J J (av J J eT (ad J (aI [] J J O (fun hg3=>ah dT J) J (aI [(22,_)] J J ⟨J,O⟩ (fun hg4=>ae jM J J (ax (k:=1) J J)) J (aI [(22,_),(23,_)] J J ⟨J,J,O⟩ (fun hg5=>aL underlying59 J (aN (k:=1) J)) J (aI [(22,_),(23,_),(24,_)] J J ⟨J,J,J,O⟩ (fun hg6=>aU J J br) J (aS (bK J J J) (aq J (aa (aG () O (by rw [Az (.inl q1)];rfl) J J))))))))))))
   ·exact absurd (decide_eq_true q1) (by rw [h2];simp)
  ·have q1:¬t.kind=1:=dk h1;refine ap (av J J br (aq J (aa (am J (fun h7=> ?_) (fun h7=> ?_)))))
   ·have q5:t.kind=5:=cH h7;refine ap (aD el J (aT 1 t9 J J J J (av J J eT (ad J (aI [] J J O (fun hg8=>ah dT J) J (aI [(22,_)] J J ⟨J,O⟩ (fun hg9=>ae jM J J (ax (k:=1) J J)) J (aI [(22,_),(23,_)] J J ⟨J,J,O⟩ (fun hg10=>aL underlying59 J (aN (k:=1) J)) J (aI [(22,_),(23,_),(24,_)] J J ⟨J,J,J,O⟩ (fun hg11=>aU J J br) J (aS (bK J J J) (aq J (aa (aG () O (by rw [Az (.inr q5)];rfl) J J))))))))))))
   ·have q5:¬t.kind=5:=dk h7;refine ar (av J J br (aq J (aa (am J (fun h12=> ?_) (fun h12=> ?_)))))
    ·have q2:t.kind=2:=cH h12;refine ap (aD el J (aT 1 t9 J J J J (ak (xs:= [.tmp 30]) (jC t.name hnm.1 hnm.2) xF [] [] [] (fun _ _=>ad J (aI [] J J O (fun hg13=>ah dT J) J (aI [(33,_)] J J ⟨J,O⟩ (fun hg14=>ae jM J J (ax (k:=1) J J)) J (aI [(33,_),(34,_)] J J ⟨J,J,O⟩ (fun hg15=>aL underlying59 J (aN (k:=1) J)) J (aI [(33,_),(34,_),(35,_)] J J ⟨J,J,J,O⟩ (fun hg16=>aU J J br) J (aS (bK J J J) (aq J (aa (aG () O (by rw [IH q2];rfl) J J))))))))))))
    ·have q2:¬t.kind=2:=dk h12;refine ar (av J J br (aq J (aa (am J (fun h17=> ?_) (fun h17=> ?_)))))
     ·have q3:t.kind=3:=cH h17;refine ap (aD el J (aT 1 t9 J J J J (ak (xs:= [.tmp 41]) (jC t.name hnm.1 hnm.2) xF [] [] [] (fun _ _=>aq J (aa (aG () O (by rw [IG q3];rfl) J J))))))
     ·have q3:¬t.kind=3:=dk h17;refine ar (av J J br (aq J (aa (am J (fun h18=> ?_) (fun h18=> ?_)))))
      ·have q4:t.kind=4:=cH h18;refine ap (aD el J (aT 1 t9 J J J J (av J J eT (ad J (aI [] J J O (fun hg19=>ah dT J) J (aI [(49,_)] J J ⟨J,O⟩ (fun hg20=>ae jM J J (ax (k:=1) J J)) J (aI [(49,_),(50,_)] J J ⟨J,J,O⟩ (fun hg21=>aL underlying59 J (aN (k:=1) J)) J (aI [(49,_),(50,_),(51,_)] J J ⟨J,J,J,O⟩ (fun hg22=>aU J J br) J (aS (bK J J J) (aq J (aa (aG () O (by rw [IF q4];rfl) J J))))))))))))
      ·have q4:¬t.kind=4:=dk h18;refine ar (av J J br (aq J (aa (am J (fun h23=> ?_) (fun h23=> ?_)))))
       ·have q6:t.kind=6:=cH h23;refine ap (dz eS ti (parts:= [(0,.const (Sg (ByteArray.mk #[45]))),(1,.const (Sg (ByteArray.mk #[126]))),(2,.const (Sg (ByteArray.mk #[33])))]) underlying46 t9 J (by decide) (by intro _;rfl) J (by decide) (by decide) J J J J fun v56=>aD el J (aT 1 t9 J J J J (cW 56 21 J ch (ak (xs:= [.tmp 56,.tmp 58]) (iN v56 ti (by decide) t.name) Bv [] [(false,21)] [] (fun _ _=>ad J (aI [] J J O (fun hg24=>ah dT J) J (aI [(61,_)] J J ⟨J,O⟩ (fun hg25=>ae jM J J (ax (k:=1) J J)) J (aI [(61,_),(62,_)] J J ⟨J,J,O⟩ (fun hg26=>aL underlying59 J (aN (k:=1) J)) J (aI [(61,_),(62,_),(63,_)] J J ⟨J,J,J,O⟩ (fun hg27=>aU J J br) J (aS (bK J J J) (aq J (aa (aG () O (by rw [IE q6];rfl) J J)))))))))))))
       ·have q6:¬t.kind=6:=dk h23;refine ar (av J J br (aq J (aa (am J (fun h28=> ?_) (fun h28=> ?_)))))
        ·have q7:t.kind=7:=cH h28;refine ap (ad J (ad J (aI [] J J O (fun hg29=>ah dT J) J (aI [(70,_)] J J ⟨J,O⟩ (fun hg30=>ae jM J J (ax (k:=1) J J)) J (aI [(70,_),(71,_)] J J ⟨J,J,O⟩ (fun hg31=>aL underlying59 J (aN (k:=1) J)) J (aI [(70,_),(71,_),(72,_)] J J ⟨J,J,J,O⟩ (fun hg32=>aU J J br) J (aS (bK J J J) (aq J (aa (aG () O (by rw [ID q7];rfl) J J))))))))))
        ·have q7:¬t.kind=7:=dk h28;refine aA (aG () O (by rw [II q1 q5 q2 q3 q4 q6 q7];rfl) J J)
 ·refine ar (ad J (ad J (aI [] J J O (fun hg33=>ah ki J) J (aI [(77,_)] J J ⟨J,O⟩ (fun hg34=>ae t3 J J (ax (k:=1) J J)) J (aI [(77,_),(78,_)] J J ⟨J,J,O⟩ (fun hg35=>aU J J br) J (aI [(77,_),(78,_),(79,_)] J J ⟨J,J,J,O⟩ (fun hg36=>aY J) J (cG [] [(77,_),(78,_),(79,_),(80,_)] J J O ⟨J,J,J,J,O⟩ (fun hg37 hg37'=>ah zh J) J (cG [(81,_)] [(77,_),(78,_),(79,_),(80,_)] J J ⟨J,O⟩ ⟨J,J,J,J,O⟩ (fun hg38 hg38'=>ae eG J J (ax (k:=1) J J)) J (cG [(81,_),(82,_)] [(77,_),(78,_),(79,_),(80,_)] J J ⟨J,J,O⟩ ⟨J,J,J,J,O⟩ (fun hg39 hg39'=>aU J J br) J (aI [(77,_),(78,_),(79,_),(80,_)] J J ⟨J,J,J,J,O⟩ (fun hg40=>e9 J J J (by first|exact dU|exact ez|exact dh hg40|exact dK hg40|rfl)) J (aS (bK J J J) (ad J (aI [] J J O (fun hg41=>ah dT J) J (aI [(87,_)] J J ⟨J,O⟩ (fun hg42=>ae jM J J (ax (k:=1) J J)) J (jV [(87,_),(88,_)] J J ⟨J,J,O⟩ (fun hg43=>jl (xs:= [.tmp 88,.func 202]) (uq t.v t.kids hkl 202 [] (cm t.v t.kids) (fun u=> !rX u) NM (fun u hu=>DK t.v t.kids ih u hu)) I_ [] [(false,1),(false,0)] [] [] J J J J J J J J (fun _ _=>J) (fun _ _ _=>J)) J (aI [(87,_),(88,_),(89,_)] J J ⟨J,J,J,O⟩ (fun hg44=>cZ J) J (aS (bK J J J) (aq J ?_))))))))))))))))));refine aa (az (aQ () O J (cc (aP J)) (congrArg Value.bool (Am t).symm) [] [] J J J))
theorem DG:∀(n:Nat)(t:Tx),SizeOf.sizeOf t<n→GX t→bi prog 188 [xV t] [] [cm t.v t.kids] (.bool (rX t)) []
 | 0,_,h,_=>absurd h (Nat.not_lt_zero _)
 | n+1,t,h,ht=>GK t ht fun u hu=>DG n u (by have:=pJ hu;omega) ((ka ht).mem u hu)
theorem GL(t:Tx)(ht:GX t):bi prog 188 [xV t] [] [cm t.v t.kids] (.bool (rX t)) []:=DG _ t (Nat.lt_succ_self _) ht
theorem MC(t:Ty):rY t=(decide (t.kind≥1)&&decide (t.kind≤8)&&decide ((t.es.length:Int)=if t.kind=3 then 2 else 1)&&((decide (t.kind=1) || decide (t.kind=2))&&cu t.name || !(decide (t.kind=1) || decide (t.kind=2))&&(t.name==⟨#[]⟩))&&
   (decide ((if t.kind=4 then 2 else if t.kind=5 then 1 else 0:Int)>0) || decide ((t.body.length:Int)=0))&&(decide ((if t.kind=4 then 2 else if t.kind=5 then 1 else 0:Int)>1) || decide ((t.els.length:Int)=0))&& !(t.es.any fun u=> !rX u)&&t.body.all rY&&t.els.all rY):=by
 rw [ik];have e1:decide ((t.es.length:Int)=if t.kind=3 then 2 else 1)=decide (t.es.length=if t.kind=3 then 2 else 1):=decide_eq_decide.2 (by split<;>omega);have e2:((decide (t.kind=1) || decide (t.kind=2))&&cu t.name || !(decide (t.kind=1) || decide (t.kind=2))&&(t.name==⟨#[]⟩))=(if t.kind=1∨t.kind=2 then cu t.name else decide (t.name=bD)):=by
  rw [gt];by_cases h:t.kind=1∨t.kind=2
  ·rw [aw h];have:(decide (t.kind=1) || decide (t.kind=2))=true:=by simpa using h
   rw [this];simp
  ·rw [ai h];have:(decide (t.kind=1) || decide (t.kind=2))=false:=by simpa using h
   rw [this];simp only [Bool.false_and,Bool.not_false,Bool.true_and,Bool.false_or];rfl
 have e3:(decide ((if t.kind=4 then 2 else if t.kind=5 then 1 else 0:Int)>0) || decide ((t.body.length:Int)=0))=(decide (t.kind=4) || decide (t.kind=5) || decide (t.body.length=0)):=by
  rw [show decide ((t.body.length:Int)=0)=decide (t.body.length=0)from decide_eq_decide.2 (by omega)]
  congr 1
  by_cases h4:t.kind=4
  ·simp [h4]
  ·by_cases h5:t.kind=5
   ·simp [h5]
   ·simp [h4,h5]
 have e4:(decide ((if t.kind=4 then 2 else if t.kind=5 then 1 else 0:Int)>1) || decide ((t.els.length:Int)=0))=(decide (t.kind=4) || decide (t.els.length=0)):=by
  rw [show decide ((t.els.length:Int)=0)=decide (t.els.length=0)from decide_eq_decide.2 (by omega)]
  congr 1
  by_cases h4:t.kind=4
  ·simp [h4]
  ·by_cases h5:t.kind=5
   ·simp [h5]
   ·simp [h4,h5]
 rw [e1,e2,e3,e4];cases t;rw [rY,qG,kK,kK];rfl
theorem MF(f:Tf):(f.ps.any (fun s=> !cu s) || !cu f.name || !(f.body.all rY))= !rF f:=by
 unfold rF;rw [kK,←ik cu f.ps];cases f.ps.any (fun s=> !cu s)<;>cases cu f.name<;>cases f.body.all rY<;>rfl
theorem Gn{v:SV}{l:List Tf}:∀w G,(cE v l).pred w G→(∀b,G b→b<w.heap.size)→∃G',(HY l).pred w G'∧∀b,G' b→G b:=fun w G h _=>⟨G,h.2,fun _ hb=>hb⟩
theorem DF(v:SV)(l:List Ty)(ih:∀u∈l,Spec prog 163 [yV u] [] [cm u.ve u.es,b_ u.vb u.body,b_ u.vl u.els] (X:=Unit) (fun _=>True) (fun _=> .bool (rY u)) (fun _=> []) (fun _=> []))(u:Ty)(hu:u∈l):
  bi prog 162 [yV u] [] [b_ v l] (.bool (!rY u)) []:=by
 refine aM func162 J ntmps162 J fun w0 M H=>bc 0 7 J (lF hu) (bc 0 8 J (iv hu) (bc 0 9 J (ji hu) (ar (cA J J fun b1=>aq J (aF J (aS (aJ cr J J J (a_ (k:=1) J)) (ak (xs:= [.tmp 3]) (ih u hu) N1 [] [(false,7),(false,8),(false,9)] [] (fun _ _=>aS (cZ J) (aq J (aa (az (aQ () O J (cc (aP J)) J [] [] J J J))))))))))))
theorem oZ(v:SV)(l:List Ty)(hl:l.length≤1000000)(ih:∀u∈l,Spec prog 163 [yV u] [] [cm u.ve u.es,b_ u.vb u.body,b_ u.vl u.els] (X:=Unit) (fun _=>True) (fun _=> .bool (rY u)) (fun _=> []) (fun _=> [])):
  bi prog 123 [sv v] [] [b_ v l] (.bool (l.all rY)) []:=by
 refine aM func123 J ntmps123 J fun w0 M H=>bc 0 1 J hZ (ar (aq J (aF J (ad J (ak (xs:= [.tmp 3,.func 162]) (CB v l hl 162 [] (b_ v l) (fun u=> !rY u) N2 (fun u hu=>DF v l ih u hu)) N3 [] [(false,1),(false,0)] [] (fun _ _=>aS (cZ J) (aq J (aa (az (aQ () O J (cc (aP J)) (congrArg Value.bool (ik rY l)) [] [] J J J))))))))))
theorem GH(t:Ty)(ht:GY t)(ihb:∀u∈t.body,Spec prog 163 [yV u] [] [cm u.ve u.es,b_ u.vb u.body,b_ u.vl u.els] (X:=Unit) (fun _=>True) (fun _=> .bool (rY u)) (fun _=> []) (fun _=> []))(ihl:∀u∈t.els,Spec prog 163 [yV u] [] [cm u.ve u.es,b_ u.vb u.body,b_ u.vl u.els] (X:=Unit) (fun _=>True) (fun _=> .bool (rY u)) (fun _=> []) (fun _=> [])):
  bi prog 163 [yV t] [] [cm t.ve t.es,b_ t.vb t.body,b_ t.vl t.els] (.bool (rY t)) []:=by
 refine aM func163 J ntmps163 J fun w0 M H=>bc 0 3 J gE (bc 1 4 J hZ (bc 2 5 J hZ ?_))
 have hnm:=Ik ht;obtain⟨hel,heg⟩:=oM ht;obtain⟨hbl,hbg⟩:=ff ht;obtain⟨hll,hlg⟩:=gk ht;refine ar (cA J J fun b1=>aq J (aF J (aD fj J (aT 1 t3 J J J J (av J J br (ad J (aI [] J J O (fun hg1=>ah fj J) J (aI [(10,_)] J J ⟨J,O⟩ (fun hg2=>ae t3 J J (ax (k:=1) J J)) J (aI [(10,_),(11,_)] J J ⟨J,J,O⟩ (fun hg3=>aU J J br) J (aS (bK J J J) (aq J (aF J (aq J ?_)))))))))))));refine aa (bz (X:=Unit) (fun _=>True) (fun _=> [(1,Pt b1),(3,.bool (decide (t.kind=1) || decide (t.kind=2))),(4,I6 (if t.kind=3 then 2 else 1))]) (fun _=> [(1,be b1 64 (dM t))]) (fun _=> [(0,cm t.ve t.es),(1,b_ t.vb t.body),(2,b_ t.vl t.els),(3,sl 4 dB (sv t.ve) t.es),(4,sl 5 dM (sv t.vb) t.body),(5,sl 5 dM (sv t.vl) t.els)]) ?_ (fun _ _=> ?_))
 ·refine ar (aD fj J (aT 1 t3 J J J J (av J J br (aa (am J (fun h4=> ?_) (fun h4=> ?_))))))
  ·have q3:t.kind=3:=cH h4;refine ap (aq J (aa (aG () O (by rw [aw q3];rfl) J J)))
  ·have q3:¬t.kind=3:=dk h4;refine aA (aG () O (by rw [ai q3];rfl) J J)
 ·refine ar (aq J (aa (bz (X:=Unit) (fun _=>True) (fun _=> [(1,Pt b1),(3,.bool (decide (t.kind=1) || decide (t.kind=2))),(4,I6 (if t.kind=3 then 2 else 1)),(5,I6 (if t.kind=4 then 2 else if t.kind=5 then 1 else 0))]) (fun _=> [(1,be b1 64 (dM t))]) (fun _=> [(0,cm t.ve t.es),(1,b_ t.vb t.body),(2,b_ t.vl t.els),(3,sl 4 dB (sv t.ve) t.es),(4,sl 5 dM (sv t.vb) t.body),(5,sl 5 dM (sv t.vl) t.els)]) ?_ (fun _ _=> ?_))))
  ·refine ar (aD fj J (aT 1 t3 J J J J (aa (aC (ar (av J J br (aq J (aa (am J (fun h5=> ?_) (fun h5=> ?_))))))))))
   ·have q4:t.kind=4:=cH h5;refine ap (aq J (aa (aG () O (by rw [aw q4];rfl) J J)))
   ·have q4:¬t.kind=4:=dk h5;refine ar (av J J br (aq J (aa (am J (fun h6=> ?_) (fun h6=> ?_)))))
    ·have q5:t.kind=5:=cH h6;refine ap (aq J (aa (aG () O (by rw [ai q4,aw q5];rfl) J J)))
    ·have q5:¬t.kind=5:=dk h6;refine aA (aG () O (by rw [ai q4,ai q5];rfl) J J)
  ·refine ar (aD fj J (aT 1 t3 J J J J (av J J ig (ad J (aI [] J J O (fun hg7=>ah fj J) J (aI [(27,_)] J J ⟨J,O⟩ (fun hg8=>ae t3 J J (ax (k:=1) J J)) J (aI [(27,_),(28,_)] J J ⟨J,J,O⟩ (fun hg9=>aU J J l7) J (aS (bK J J J) (ad J (aI [] J J O (fun hg10=>ah ie J) J (aI [(32,_)] J J ⟨J,O⟩ (fun hg11=>ae jM J J (ax (k:=1) J J)) J (aI [(32,_),(33,_)] J J ⟨J,J,O⟩ (fun hg12=>aL underlying59 J (aN (k:=3) J)) J (aI [(32,_),(33,_),(34,_)] J J ⟨J,J,J,O⟩ (fun hg13=>aY J) J (aI [(32,_),(33,_),(34,_),(35,_)] J J ⟨J,J,J,J,O⟩ (fun hg14=>aU J J br) J (aS (bK J J J) (ad J (aI [] J J O (fun hg15=>aY J) J (aI [(39,_)] J J ⟨J,O⟩ (fun hg16=>aY J) J ?_))))))))))))))))))
   refine cG [] [(39,_),(40,_)] J J O ⟨J,J,O⟩ (fun hg17 hg17'=>ah jH J) J (cG [(41,_)] [(39,_),(40,_)] J J ⟨J,O⟩ ⟨J,J,O⟩ (fun hg18 hg18'=>ae t9 J J (ax (k:=1) J J)) J (DQ [(41,_),(42,_)] [(39,_),(40,_)] J J ⟨J,J,O⟩ ⟨J,J,O⟩ (fun hg19 hg19'=>jl (xs:= [.tmp 42]) (jC t.name hnm.1 hnm.2) xF [] [] [] [] J J J J J J J J (fun _ _=>J) (fun _ _ _=>J)) J (aI [(39,_),(40,_)] J J ⟨J,J,O⟩ (fun hg20=>e9 J J J (by first|exact dU|exact ez|exact dh hg20|exact dK hg20|rfl)) J (aI [(39,_),(40,_),(44,_)] J J ⟨J,J,J,O⟩ (fun hg21=>aY J) J (cG [] [(39,_),(40,_),(44,_),(45,_)] J J O ⟨J,J,J,J,O⟩ (fun hg22 hg22'=>aY J) J (cG [(46,_)] [(39,_),(40,_),(44,_),(45,_)] J J ⟨J,O⟩ ⟨J,J,J,J,O⟩ (fun hg23 hg23'=>cZ J) J (cG [(46,_),(47,_)] [(39,_),(40,_),(44,_),(45,_)] J J ⟨J,J,O⟩ ⟨J,J,J,J,O⟩ (fun hg24 hg24'=>aY J) J (cG [] [(46,_),(47,_),(48,_)] J J O ⟨J,J,J,O⟩ (fun hg25 hg25'=>ah jH J) J (cG [(49,_)] [(46,_),(47,_),(48,_)] J J ⟨J,O⟩ ⟨J,J,J,O⟩ (fun hg26 hg26'=>ae t9 J J (ax (k:=1) J J)) J (cG [(49,_),(50,_)] [(46,_),(47,_),(48,_)] J J ⟨J,J,O⟩ ⟨J,J,J,O⟩ (fun hg27 hg27'=>aU J J eT) J (cG [(46,_),(47,_),(48,_)] [(39,_),(40,_),(44,_),(45,_)] J J ⟨J,J,J,O⟩ ⟨J,J,J,J,O⟩ (fun hg28 hg28'=>e9 J J J (by first|exact dU|exact ez|exact dh hg28|exact dK hg28|exact dh (BC hg28 hg28')|exact dK (BC hg28 hg28')|rfl)) J (aI [(39,_),(40,_),(44,_),(45,_)] J J ⟨J,J,J,J,O⟩ (fun hg29=>e9 J J J (by first|exact dU|exact ez|exact dh hg29|exact dK hg29|rfl)) J (aS (bK J J J) (ad J (aI [] J J O (fun hg30=>aY J) J (aI [(56,_)] J J ⟨J,O⟩ (fun hg31=>aU J J fh) J (aI [(56,_),(57,_)] J J ⟨J,J,O⟩ (fun hg32=>aY J) J ?_)))))))))))))))))
   refine cG [] [(56,_),(57,_),(58,_)] J J O ⟨J,J,J,O⟩ (fun hg33 hg33'=>ah fV J) J (cG [(59,_)] [(56,_),(57,_),(58,_)] J J ⟨J,O⟩ ⟨J,J,J,O⟩ (fun hg34 hg34'=>ae eR J J (ax (k:=1) J J)) J (cG [(59,_),(60,_)] [(56,_),(57,_),(58,_)] J J ⟨J,J,O⟩ ⟨J,J,J,O⟩ (fun hg35 hg35'=>aL underlying62 J (aN (k:=4) J)) J (cG [(59,_),(60,_),(61,_)] [(56,_),(57,_),(58,_)] J J ⟨J,J,J,O⟩ ⟨J,J,J,O⟩ (fun hg36 hg36'=>aU J J br) J (aI [(56,_),(57,_),(58,_)] J J ⟨J,J,J,O⟩ (fun hg37=>e9 J J J (by first|exact dU|exact ez|exact dh hg37|exact dK hg37|rfl)) J (aS (bK J J J) (ad J (aI [] J J O (fun hg38=>aY J) J (aI [(66,_)] J J ⟨J,O⟩ (fun hg39=>aU J J fh) J (aI [(66,_),(67,_)] J J ⟨J,J,O⟩ (fun hg40=>aY J) J (cG [] [(66,_),(67,_),(68,_)] J J O ⟨J,J,J,O⟩ (fun hg41 hg41'=>ah fK J) J (cG [(69,_)] [(66,_),(67,_),(68,_)] J J ⟨J,O⟩ ⟨J,J,J,O⟩ (fun hg42 hg42'=>ae eR J J (ax (k:=1) J J)) J (cG [(69,_),(70,_)] [(66,_),(67,_),(68,_)] J J ⟨J,J,O⟩ ⟨J,J,J,O⟩ (fun hg43 hg43'=>aL underlying62 J (aN (k:=5) J)) J (cG [(69,_),(70,_),(71,_)] [(66,_),(67,_),(68,_)] J J ⟨J,J,J,O⟩ ⟨J,J,J,O⟩ (fun hg44 hg44'=>aU J J br) J (aI [(66,_),(67,_),(68,_)] J J ⟨J,J,J,O⟩ (fun hg45=>e9 J J J (by first|exact dU|exact ez|exact dh hg45|exact dK hg45|rfl)) J (aS (bK J J J) (ad J (aI [] J J O (fun hg46=>ah ie J) J (aI [(76,_)] J J ⟨J,O⟩ (fun hg47=>ae jM J J (ax (k:=1) J J)) J (jV [(76,_),(77,_)] J J ⟨J,J,O⟩ (fun hg48=>jl (xs:= [.tmp 77,.func 187]) (uq t.ve t.es hel 187 [] (cm t.ve t.es) (fun u=> !rX u) NR (fun u hu=>DJ t.ve t.es (fun u hu=>GL u (heg.mem u hu)) u hu)) I_ [] [(false,3),(false,0)] [] [] J J J J J J J J (fun _ _=>J) (fun _ _ _=>J)) J ?_)))))))))))))))))))
   refine aI [(76,_),(77,_),(78,_)] J J ⟨J,J,J,O⟩ (fun hg49=>cZ J) J (aS (bK J J J) (ad J (aI [] J J O (fun hg50=>ah fV J) J (aI [(82,_)] J J ⟨J,O⟩ (fun hg51=>ae eR J J (ax (k:=1) J J)) J (jV [(82,_),(83,_)] J J ⟨J,J,O⟩ (fun hg52=>jl (xs:= [.tmp 83]) (oZ t.vb t.body hbl ihb) FE [] [(false,1)] [] [] J J J J J J J J (fun _ _=>J) (fun _ _ _=>J)) J (aS (bK J J J) (ad J (aI [] J J O (fun hg53=>ah fK J) J (aI [(87,_)] J J ⟨J,O⟩ (fun hg54=>ae eR J J (ax (k:=1) J J)) J (jV [(87,_),(88,_)] J J ⟨J,J,O⟩ (fun hg55=>jl (xs:= [.tmp 88]) (oZ t.vl t.els hll ihl) FE [] [(false,2)] [] [] J J J J J J J J (fun _ _=>J) (fun _ _ _=>J)) J (aS (bK J J J) (aq J (aa (az (aQ () O J (cc (aP J)) (congrArg Value.bool (MC t).symm) [] [] J J J)))))))))))))))
theorem yt:∀(n:Nat)(t:Ty),SizeOf.sizeOf t<n→GY t→bi prog 163 [yV t] [] [cm t.ve t.es,b_ t.vb t.body,b_ t.vl t.els] (.bool (rY t)) []
 | 0,_,h,_=>absurd h (Nat.not_lt_zero _)
 | n+1,t,h,ht=>GH t ht (fun u hu=>yt n u (by have:=It (.inl hu);omega) ((ff ht).2.mem u hu)) (fun u hu=>yt n u (by have:=It (.inr hu);omega) ((gk ht).2.mem u hu))
theorem GJ(t:Ty)(ht:GY t):bi prog 163 [yV t] [] [cm t.ve t.es,b_ t.vb t.body,b_ t.vl t.els] (.bool (rY t)) []:=yt _ t (Nat.lt_succ_self _) ht
theorem uP(s:Ba)(hs:oP s):
  bi prog 121 [Sg s] [] [] (.bool (!cu s)) []:=by
 refine aM func121 J ntmps121 J fun w0 M H=>ar (aq J (aF J (ad J (ak (xs:= [.tmp 3]) (jC s hs.1 hs.2) xF [] [] [] (fun _ _=>aS (cZ J) (aq J (aa (az (aQ () O J (cc (aP J)) J [] [] J J J)))))))))
theorem wD(f:Tf)(fs:List Tf)(hf:f∈fs)(hg:GF f):
  bi prog 119 [Gp f] [] [HY fs] (.bool (!rF f)) []:=by
 refine aM func119 J ntmps119 J fun w0 M H=>bc 0 1 J (Nl hf) (bc 1 2 J lJ (bc 1 3 J kF ?_))
 obtain⟨g1,g2,g3,g4,g5,g6⟩:=hg;refine ar (cA J J fun b1=>aq J (aF J (aD dW J (aT 1 h_ J J J J (ak (xs:= [.tmp 5,.func 121]) (CC f.vp f.ps g3 121 (fun s=> !cu s) On (fun s hs=>uP s (g2 s hs))) Oo [] [(false,2)] [] (fun _ _=>aq J (aF J (ad J (ad J (aI [] J J O (fun hg1=>ah jG J) J (aI [(9,_)] J J ⟨J,O⟩ (fun hg2=>ae t9 J J (ax (k:=1) J J)) J (jV [(9,_),(10,_)] J J ⟨J,J,O⟩ (fun hg3=>jl (xs:= [.tmp 10]) (jC f.name g1.1 g1.2) xF [] [] [] [] J J J J J J J J (fun _ _=>J) (fun _ _ _=>J)) J (aI [(9,_),(10,_),(11,_)] J J ⟨J,J,J,O⟩ (fun hg4=>cZ J) J ?_)))))))))))));refine aS (bK J J J) (ad J (aI [] J J O (fun hg5=>ah bX J) J (aI [(15,_)] J J ⟨J,O⟩ (fun hg6=>ae eR J J (ax (k:=1) J J)) J (jV [(15,_),(16,_)] J J ⟨J,J,O⟩ (fun hg7=>jl (xs:= [.tmp 16]) (oZ f.vb f.body g4 (fun u hu=>GJ u (g5.mem u hu))) FE [] [(false,3)] [] [] J J J J J J J J (fun _ _=>J) (fun _ _ _=>J)) J (aI [(15,_),(16,_),(17,_)] J J ⟨J,J,J,O⟩ (fun hg8=>cZ J) J (aS (bK J J J) (aq J (aa (az (aQ () O J (cc (aP J)) (congrArg Value.bool (MF f)) [] [] J J J))))))))))
theorem yy(vp:SV)(fs:List Tf)(hg:GP fs):
  bi prog 81 [.agg #[sv vp]] [] [cE vp fs] (.bool (rP fs)) []:=by
 refine aM func81 J ntmps81 J fun w0 M H=>bc 0 1 J jw (bc 0 2 J Gn (ar (cA J J fun b1=>aq J (aF J (aD dx J (aT 1 ip J J J J (ak (xs:= [.tmp 4,.func 119]) (CD vp fs hg.1 119 [] (HY fs) (fun f=> !rF f) Ot (fun f hf=>wD f fs hf (hg.2 f hf))) Ou [] [(false,1),(false,2)] [] (fun _ _=>aS (cZ J) (aq J (aa (az (aQ () O J (cc (aP J)) (congrArg Value.bool (ik rF fs)) [] [] J J J))))))))))))
def cR(vp vn:SV)(nd va:Int)(dp:Bool)(er:Int):List Value:= [sv vp,sv vn,I6 nd,I6 va,.bool dp,I6 er]
theorem cw{α:Type}{l:List α}{i:Nat}{k:α}(h:l[i]?=some k):l.take (i+1)=l.take i++ [k]:=by
 obtain⟨hi,hk⟩:=db.1 h;rw [List.take_add_one,bT hi,hk];rfl
theorem vh:∀(a b:List Tx),eH (a++b)=eH a+eH b
 | [],b=>by simp [eH]
 | t::r,b=>by simp [eH,vh r b,Nat.add_assoc]
theorem Bq:∀(a b:List Tx),gC (a++b)=max (gC a) (gC b)
 | [],b=>by simp [gC]
 | t::r,b=>by simp [gC,Bq r b,Nat.max_assoc]
theorem ml:∀(a b:List Ty),cM (a++b)=cM a+cM b
 | [],b=>by simp [cM]
 | t::r,b=>by simp [cM,ml r b,Nat.add_assoc]
theorem l_:∀(a b:List Ty),dD (a++b)=dD a+dD b
 | [],b=>by simp [dD]
 | t::r,b=>by simp [dD,l_ r b,Nat.add_assoc]
theorem xq(d:Nat):∀(a b:List Ty),dY d (a++b)=(dY d a || dY d b)
 | [],b=>by simp [dY]
 | t::r,b=>by simp [dY,xq d r b,Bool.or_assoc]
theorem He(t:Tx):eH [t]=nX t:=by simp [eH]
theorem Ic(t:Tx):gC [t]=dX t:=by simp [gC]
theorem Hd(t:Ty):cM [t]=nY t:=by simp [cM]
theorem Gb(t:Ty):dD [t]=vY t:=by simp [dD]
theorem Fc(d:Nat)(t:Ty):dY d [t]=CT d t:=by simp [dY]
theorem t7(t:Tx):nX t=eH t.kids+1:=by cases t;rfl
theorem Nu(t:Tx):dX t=gC t.kids+1:=by cases t;rfl
theorem Ed(t:Ty):nY t=1+eH t.es+cM t.body+cM t.els:=by cases t;rfl
theorem Dc(t:Ty):vY t=(if t.kind=1 then 1 else 0)+dD t.body+dD t.els:=by cases t;rfl
theorem Lg(d:Nat)(t:Ty):CT d t=(decide (d>8) || decide (gC t.es>8) || dY (d+1) t.body || dY (d+1) t.els):=by cases t;rfl
theorem ft{l:List Tx}{i:Nat}{k:Tx}(h:l[i]?=some k):eH (l.take (i+1))=eH (l.take i)+nX k:=by rw [cw h,vh,He]
theorem lY{l:List Tx}{i:Nat}{k:Tx}(h:l[i]?=some k):gC (l.take (i+1))=max (gC (l.take i)) (dX k):=by rw [cw h,Bq,Ic]
theorem lT:∀(l:List Tx)(i:Nat),eH (l.take i)≤eH l:=fun l i=>by
 have h:=vh (l.take i) (l.drop i);rw [List.take_append_drop]at h;omega
theorem no:∀(l:List Ty)(i:Nat),cM (l.take i)≤cM l:=fun l i=>by
 have h:=ml (l.take i) (l.drop i);rw [List.take_append_drop]at h;omega
theorem iT{l:List Ty}{i:Nat}{k:Ty}(h:l[i]?=some k):cM (l.take (i+1))=cM (l.take i)+nY k:=by rw [cw h,ml,Hd]
theorem km{l:List Ty}{i:Nat}{k:Ty}(h:l[i]?=some k):dD (l.take (i+1))=dD (l.take i)+vY k:=by rw [cw h,l_,Gb]
theorem Cz{d:Nat}{l:List Ty}{i:Nat}{k:Ty}(h:l[i]?=some k):dY d (l.take (i+1))=(dY d (l.take i) || CT d k):=by rw [cw h,xq,Fc]
mutual
theorem xr:∀t:Tx,dX t≤nX t
 | .mk _ _ _ _ kids=>by
  have:=sN kids;rw [dX,nX];omega
theorem sN:∀l:List Tx,gC l≤eH l
 | []=>cj _
 | t::r=>by
  have h1:=xr t;have h2:=sN r;rw [gC,eH];omega
end
mutual
theorem Db:∀t:Ty,vY t≤nY t
 | .mk k _ _ _ _ body _ els=>by
  have h1:=iZ body;have h2:=iZ els;rw [vY,nY];split<;>omega
theorem iZ:∀l:List Ty,dD l≤cM l
 | []=>cj _
 | t::r=>by
  have h1:=Db t;have h2:=iZ r;rw [dD,cM];omega
end
theorem FI(a b:Nat):((max a b:Nat):Int)=max (a:Int) (b:Int):=by omega
theorem Bp{a b:Nat}:(decide (a>8) || decide (b>8))=decide (max a b>8):=by
 by_cases h:a>8
 ·have:max a b>8:=by omega
  simp [h,this]
 ·by_cases h2:b>8
  ·have:max a b>8:=by omega
   simp [h2,this]
  ·have:¬max a b>8:=by omega
   simp [h,h2,this]
theorem jL(c:Nat)(vp vn:SV)(nd va:Int)(dp:Bool)(er:Int)(e:Int):
  bi prog 127 [Pt c,I6 e] [be c 165 (cR vp vn nd va dp er)] [] (.tuple #[]) [be c 165 (cR vp vn nd va dp (fst er e))]:=by
 refine aM func127 J ntmps127 J fun w0 M H=>ar (ad J (bS J (aD vL J (aT 0 BO J J J J (av J J br (aa (am J (fun h1=> ?_) (fun h1=> ?_))))))))
 ·have h0:er=0:=cH h1;have hfs:fst er e=e:=aw h0;refine ap (ad J (ad J (bS J (aD vL J (aB (k:=0) BO J J J J J J J J (aa ?_))))));rw [hfs];refine cQ () O J iz J [0] [] J J J
 ·have h0:¬er=0:=dk h1;have hfs:fst er e=er:=ai h0;refine aA ?_;rw [hfs];refine cQ () O J iz J [0] [] J J J
theorem K1(er z:Int)(b:Bool)(h:b=true):fst er (if b=true then z else 0)=fst er z:=by rw [aw h]
theorem HI(er z:Int)(b:Bool)(h:b=false):fst er (if b=true then z else 0)=er:=by rw [ai (by rw [h];simp),ew]
theorem HJ(er z:Int)(b:Bool)(h:b=true):fst er (if b=true then 0 else z)=er:=by rw [aw h,ew]
theorem E3(er z:Int)(b:Bool)(h:b=false):fst er (if b=true then 0 else z)=fst er z:=by rw [ai (by rw [h];simp)]
theorem uo(c:Nat)(vp vn:SV)(nd va:Int)(dp:Bool)(er:Int)(ns:List Ba)(hn:ns.length≤1000000)(s:Ba):
  bi prog 165 [Pt c,Sg s] [be c 165 (cR vp vn nd va dp er),own 9 1 eS (sv vn) ns] [] (.tuple #[]) [be c 165 (cR vp vn nd va dp (fst er (if cD s ns=true then 0 else 21))),own 9 1 eS (sv vn) ns]:=by
 refine aM func165 J ntmps165 J fun w0 M H=>ar (ad J (bS J (aD ou J (aT 0 h_ J J J J (ad J (ak (xs:= [.tmp 7,.tmp 8]) (Spec.ro1 (iN vn ns (by omega) s) ch) Bv [] [(true,1)] [] (fun _ _=>aS (cZ J) (aa (am J (fun h1=> ?_) (fun h1=> ?_))))))))))
 ·have h0:cD s ns=false:=by simpa using h1
  rw [E3 _ _ _ h0];refine ap (ad J (ak (xs:= [.tmp 11,.const (I6 21)]) (jL c vp vn nd va dp er 21) xE [0] [] [0] (fun _ _=>aa (cQ () O J iz J [0,1] [] J J J))))
 ·have h0:cD s ns=true:=by simpa using h1
  rw [HJ _ _ _ h0];refine aA (cQ () O J iz J [0,1] [] J J J)
theorem sU(c:Nat)(vp vn:SV)(nd va:Int)(dp:Bool)(er:Int)(ns:List Ba)(hn:ns.length≤1000000)(s:Ba):
  Spec prog 128 [Pt c,Sg s] [be c 165 (cR vp vn nd va dp er),own 9 1 eS (sv vn) ns] [] (X:=SV) (fun _=>True) (fun _=> .tuple #[]) (fun v=> [be c 165 (cR vp v nd va dp (fst er (if cD s ns=true then 22 else 0))),own 9 1 eS (sv v) (ns++ [s])]) (fun _=> []):=by
 refine aM func128 J ntmps128 J fun w0 M H=>bz (X:=Unit) (fun _=>True) (fun _=> [(0,Pt c),(1,Sg s)]) (fun _=> [(0,be c 165 (cR vp vn nd va dp (fst er (if cD s ns=true then 22 else 0)))),(1,own 9 1 eS (sv vn) ns)]) (fun _=> []) ?_ (fun _ _=> ?_)
 ·refine ar (ad J (bS J (aD ou J (aT 0 h_ J J J J (ad J (ak (xs:= [.tmp 7,.tmp 8]) (Spec.ro1 (iN vn ns (by omega) s) ch) Bv [] [(true,1)] [] (fun _ _=>aa (am J (fun h1=> ?_) (fun h1=> ?_)))))))))
  ·have h0:cD s ns=true:=h1;rw [K1 _ _ _ h0];refine ap (ad J (ak (xs:= [.tmp 10,.const (I6 22)]) (jL c vp vn nd va dp er 22) xE [0] [] [0] (fun _ _=>aa (aG () O J J J))))
  ·have h0:cD s ns=false:=h1;rw [HI _ _ _ h0];refine aA (aG () O J J J)
 ·refine ap (ad J (ad J (bS J (aD ou J (aT 0 h_ J J J J (ad J (bj eS _ underlying46 t9 J (by decide) (by decide) J J J J fun v18=>cN 1 underlying46 t9 J (by decide) (fun _=>J) (fun _=>J) J J J (aH (k:=18) J) (by first|omega|(simp;done)|(simp;omega)) (by unfold maxLen;first|omega|(simp;done)|(simp;omega)) J fun v19=>bS J (aD ou J (aB (k:=0) h_ J J J J J J J J (aa (cQ v19 O J iz J [0,1] [] J J J)))))))))))
theorem zm(f:Tf)(b:Nat)(s:Ba):
  bi prog 125 [Gp f,Pt b] [] [be b 9 [Sg s]] (.bool (decide (f.name=s))) []:=by
 refine aM func125 J ntmps125 J fun w0 M H=>ar (cA J J fun b2=>aq J (aF J (aD jG J (aT 2 t9 J J J J (aS (ae t9 J J (d7 (k:=0) J J)) (av J J eT (aq J (aa (az (aQ () O J (cc (aP J)) (congrArg Value.bool (gt _ _)) [] [] J J J))))))))))
theorem nD(c:Nat)(vp vn:SV)(nd va:Int)(dp:Bool)(er:Int)(s:Ba)(fs:List Tf)(hf:fs.length≤1000000):
  bi prog 82 [Pt c,Sg s] [be c 165 (cR vp vn nd va dp er)] [sl 3 gu (sv vp) fs] (I6 (ss fs s)) [be c 165 (cR vp vn nd va dp er)]:=by
 refine aM func82 J ntmps82 J fun w0 M H=>ar (uV J J J fun b3=>aq J (aF J (ad J (bS J (aD Be J (aD dx J (aT 0 ip J J J J (aS (fA (first:= []) (cap:= [.tmp 3]) J J) (dj (xs:= [.tmp 9,.tmp 10]) (w4 vp fs hf 125 [Pt b3] (be b3 9 [Sg s]) (fun f=>decide (f.name=s)) Ol (fun f _=>zm f b3 s)) Jp [] [(false,0),(true,3)] [] J J J (fun _ _=>aq J (aa (az (aQ () O J (cc (aP J)) J [0] [] J J J)))))))))))))
theorem Ck(c:Nat)(vp vn:SV)(va er:Int)(t:Tx)(ht:GX t)(ih:∀u∈t.kids,∀(nd:Int)(dp:Bool),0≤nd→nd+(nX u:Int)≤1000000000000→Spec prog 164 [Pt c,xV u] [be c 165 (cR vp vn nd va dp er)] [cm u.v u.kids] (X:=Unit) (fun _=>True) (fun _=>I6 (dX u:Int)) (fun _=> [be c 165 (cR vp vn (nd+(nX u:Int)) va (dp || decide (dX u>8)) er)]) (fun _=> []))(nd:Int)(dp:Bool)(h0:0≤nd)(hn:nd+(nX t:Int)≤1000000000000):
  bi prog 164 [Pt c,xV t] [be c 165 (cR vp vn nd va dp er)] [cm t.v t.kids] (I6 (dX t:Int)) [be c 165 (cR vp vn (nd+(nX t:Int)) va (dp || decide (dX t>8)) er)]:=by
 refine aM func164 J ntmps164 J fun w0 M H=> ?_
 have hkl:=l8 ht;have hnx:=t7 t;have hdx:=Nu t;have hdn:=xr t;refine bc 0 1 J gE (ar (cA J J fun b3=>aq J (aF J (ad J (bS J (aD my J (aT 0 t3 J J J J (av J J aO (bS J (aD my J (aB (k:=0) t3 J J J J J J J J (aF J (aq J ?_)))))))))))));refine aa (aV (aD dT J (aT 3 jM J J J J (aS (aL underlying59 J (aN (k:=1) J)) (ad J (aa (aC ?_)))))));refine bI (X:=Nat) (fun i=>i≤t.kids.length) (fun i=> [(0,Pt c),(3,Pt b3),(5,I6 (gC (t.kids.take i):Int)),(16,sv t.v),(17,I6 (t.kids.length:Int)),(18,I6 (i:Int))]) (fun i=> [(0,be c 165 (cR vp vn (nd+1+(eH (t.kids.take i):Int)) va (dp || decide (gC (t.kids.take i)>8)) er)),(3,be b3 61 (dB t))]) (fun i=> [(0,cm t.v t.kids),(1,sl 4 dB (sv t.v) t.kids)]) (fun i=>t.kids.length-i) 0 (bq _) J (by rw [show(dp || decide (gC (t.kids.take 0)>8))=dp by simp [gC],show nd+1+(eH (t.kids.take 0):Int)=nd+1 by simp [eH]];rfl) J (fun i n1=> ?_);refine ar (av J J cy (aa (aZ (am J (fun h1=> ?_) (fun h1=> ?_)))))
 ·(try simp only [bk]at h1);have hi:i<t.kids.length:=by omega
  obtain⟨kid,hkid⟩:∃k,t.kids[i]?=some k:=⟨_,bT hi⟩
  have hkm:=cd hkid;have hle:=lT t.kids (i+1);rw [ft hkid]at hle;refine aA (aZ (aC (ar (aS (aK (j:=i) underlying59 ca J J (aN (k:=1) J) (by first|rfl|omega) (by first|omega|(simp;done)|(simp;omega))) (aS (aJ ca J J J (bJ (aN (k:=1) J) (by intro _;rfl) hkid (by rfl))) (aX ca J J fun b7=>au (k:=7) ca J J J J J J (aa (ap (ad J (ad J (aS (aJ ca J J J (a_ (k:=7) J)) (bc 0 8 J (eb hkm) (ak (xs:= [.tmp 23,.tmp 24]) (ih kid hkm (nd+1+(eH (t.kids.take i):Int)) (dp || decide (gC (t.kids.take i)>8)) (by omega) (by omega)) Jf [0] [(false,8)] [0] (fun _ _=>aS (rO J J J) (aq J (aa (ap ?_)))))))))))))))));refine av J J aO (ad J (aa ?_));refine aG (i+1) ⟨by omega,by omega⟩ (by rw [lY hkid,FI];rfl) (by rw [lY hkid,ft hkid,←Bp,←Bool.or_assoc,Int.natCast_add,←Int.add_assoc];rfl) J
 ·(try simp only [bk]at h1);have hi:i=t.kids.length:=by omega
  subst hi;rw [cV];refine bM (ar (ad J (ad J (bS J (aD ot J (aT 0 t4 J J J J (ad J (aI [] J J O (fun hg2=>aY J) J (aI [(34,_)] J J ⟨J,O⟩ (fun hg3=>aU J J aO) J (aI [(34,_),(35,_)] J J ⟨J,J,O⟩ (fun hg4=>aU J J fh) J (aS (bK J J J) (bS J (aD ot J (aB (k:=0) t4 J J J J J J J J (aF J (ad J ?_))))))))))))))));refine av J J aO (aq J (aa (az ?_)));have hfin:cR vp vn (nd+1+(eH t.kids:Int)) va (dp || decide (gC t.kids>8) || decide ((gC t.kids:Int)+1>8)) er=cR vp vn (nd+(nX t:Int)) va (dp || decide (dX t>8)) er:=by
   rw [hnx,hdx];have e1:nd+1+(eH t.kids:Int)=nd+((eH t.kids+1:Nat):Int):=by omega
   have e2:(dp || decide (gC t.kids>8) || decide ((gC t.kids:Int)+1>8))=(dp || decide (gC t.kids+1>8)):=by
    rw [Bool.or_assoc]
    congr 1
    by_cases h:gC t.kids+1>8
    ·have h2:(gC t.kids:Int)+1>8:=by omega
     simp [h,h2]
    ·have h2:¬(gC t.kids:Int)+1>8:=by omega
     have h3:¬gC t.kids>8:=by omega
     simp [h,h2,h3]
   rw [e1,e2]
  rw [←hfin];refine aQ () O J (cc (aP J)) (by rw [hdx];rfl) [0] [] J J J
theorem wR(c:Nat)(vp vn:SV)(va er:Int):∀(n:Nat)(t:Tx),SizeOf.sizeOf t<n→GX t→∀(nd:Int)(dp:Bool),0≤nd→nd+(nX t:Int)≤1000000000000→bi prog 164 [Pt c,xV t] [be c 165 (cR vp vn nd va dp er)] [cm t.v t.kids] (I6 (dX t:Int)) [be c 165 (cR vp vn (nd+(nX t:Int)) va (dp || decide (dX t>8)) er)]
 | 0,_,h,_=>absurd h (Nat.not_lt_zero _)
 | n+1,t,h,ht=>fun nd dp h0 hn=>Ck c vp vn va er t ht (fun u hu=>wR c vp vn va er n u (by have:=pJ hu;omega) ((ka ht).mem u hu)) nd dp h0 hn
theorem Cl(c:Nat)(vp vn:SV)(va er:Int)(t:Tx)(ht:GX t)(nd:Int)(dp:Bool)(h0:0≤nd)(hn:nd+(nX t:Int)≤1000000000000):bi prog 164 [Pt c,xV t] [be c 165 (cR vp vn nd va dp er)] [cm t.v t.kids] (I6 (dX t:Int)) [be c 165 (cR vp vn (nd+(nX t:Int)) va (dp || decide (dX t>8)) er)]:=wR c vp vn va er _ t (Nat.lt_succ_self _) ht nd dp h0 hn
def O0(c:Nat)(vp vn:SV)(er:Int)(v:SV)(l:List Ty):Prop:=∀(d:Nat)(nd va:Int)(dp:Bool),d+cM l≤1000000000000→0≤nd→nd+(cM l:Int)≤1000000000000→0≤va→va+(dD l:Int)≤1000000000000→
 bi prog 126 [Pt c,sv v,I6 (d:Int)] [be c 165 (cR vp vn nd va dp er)] [b_ v l] (.tuple #[]) [be c 165 (cR vp vn (nd+(cM l:Int)) (va+(dD l:Int)) (dp || dY d l) er)]
theorem Kl(p q a b c d:Bool):(p || q || a || b || c || d)=(p || (q || (a || b || c || d))):=by cases p<;>cases q<;>rfl
theorem zy(c:Nat)(vp vn:SV)(er:Int)(v:SV)(l:List Ty)(hl:l.length≤1000000)(hg:GYs l)(ih:∀u∈l,O0 c vp vn er u.vb u.body∧O0 c vp vn er u.vl u.els)(d:Nat)(nd va:Int)(dp:Bool)(hd:d+cM l≤1000000000000)(h0:0≤nd)(hn:nd+(cM l:Int)≤1000000000000)(h1:0≤va)(hv:va+(dD l:Int)≤1000000000000):
  bi prog 126 [Pt c,sv v,I6 (d:Int)] [be c 165 (cR vp vn nd va dp er)] [b_ v l] (.tuple #[]) [be c 165 (cR vp vn (nd+(cM l:Int)) (va+(dD l:Int)) (dp || dY d l) er)]:=by
 refine aM func126 J ntmps126 J fun w0 M H=>bc 0 1 J hZ (ar (ad J (aS (aL underlying62 J (aN (k:=1) J)) (ad J (aa (aC ?_))))))
 refine bI (X:=Nat) (fun i=>i≤l.length) (fun i=> [(0,Pt c),(2,I6 (d:Int)),(10,sv v),(11,I6 (l.length:Int)),(12,I6 (i:Int))]) (fun i=> [(0,be c 165 (cR vp vn (nd+(cM (l.take i):Int)) (va+(dD (l.take i):Int)) (dp || dY d (l.take i)) er))]) (fun i=> [(0,b_ v l),(1,sl 5 dM (sv v) l)]) (fun i=>l.length-i) 0 (bq _) J (by rw [show(dp || dY d (l.take 0))=dp by simp [dY],show nd+(cM (l.take 0):Int)=nd by simp [cM],show va+(dD (l.take 0):Int)=va by simp [dD]];rfl) J (fun i n1=> ?_);refine ar (av J J cy (aa (aZ (am J (fun h1=> ?_) (fun h1=> ?_)))))
 ·(try simp only [bk]at h1);have hi:i<l.length:=by omega
  obtain⟨st,hst⟩:∃k,l[i]?=some k:=⟨_,bT hi⟩
  have hsm:=cd hst;have hsy:=hg.mem st hsm;have hsg:=oM hsy;have hle:=no l (i+1);rw [iT hst]at hle;have hny:=Ed st;have hvy:=Db st;have hvl:=iZ l;have hva:=iZ (l.take i);have hvb:=iZ st.body;have hvs:=iZ st.els;have hnl:=no l i;have hvy2:(vY st:Int)=(if st.kind=1 then 1 else 0:Int)+(dD st.body:Int)+(dD st.els:Int):=by
   rw [Dc];split<;>omega
  have hki:0≤(if st.kind=1 then 1 else 0:Int)∧(if st.kind=1 then 1 else 0:Int)≤1:=by split<;>omega
  have hvv:(dD (l.take i):Int)+(vY st:Int)≤(dD l:Int):=by
   have h:=l_ (l.take (i+1)) (l.drop (i+1));rw [List.take_append_drop,km hst]at h;omega
  refine bc 0 7 J (lF hsm) (bc 0 8 J (iv hsm) (bc 0 9 J (ji hsm) (bc 7 10 J gE (aA (aZ (aC (ar (aS (aK (j:=i) underlying62 cr J J (aN (k:=1) J) (by first|rfl|omega) (by first|omega|(simp;done)|(simp;omega))) (aS (aJ cr J J J (bJ (aN (k:=1) J) (by intro _;rfl) hst (by rfl))) (aX cr J J fun b7=>au (k:=7) cr J J J J J J (aF J (ad J (bS J (aD my J (aT 0 t3 J J J J ?_)))))))))))))));refine av J J aO (bS J (aD my J (aB (k:=0) t3 J J J J J J J J (aF J (ad J (ad J (bS J (aD ot J (aT 0 t4 J J J J (ad J (aI [] J J O (fun hg2=>aY J) J (aI [(29,_)] J J ⟨J,O⟩ (fun hg3=>aU J J fh) J (aS (bK J J J) (bS J (aD ot J (aB (k:=0) t4 J J J J J J J J (aa ?_)))))))))))))))));refine bz (X:=Unit) (fun _=>True) (fun _=> [(0,Pt c),(2,I6 (d:Int)),(10,sv v),(11,I6 (l.length:Int)),(12,I6 (i:Int)),(7,Pt b7)]) (fun _=> [(0,be c 165 (cR vp vn (nd+(cM (l.take i):Int)+1) (va+(dD (l.take i):Int)+(if st.kind=1 then 1 else 0:Int)) (dp || dY d (l.take i) || decide (d>8)) er)),(7,be b7 64 (dM st))]) (fun _=> [(0,b_ v l),(1,sl 5 dM (sv v) l),(7,cm st.ve st.es),(8,b_ st.vb st.body),(9,b_ st.vl st.els),(10,sl 4 dB (sv st.ve) st.es)]) ?_ (fun _ _=> ?_)
  ·refine ar (aD fj J (aT 7 t3 J J J J (av J J br (aa (am J (fun h4=> ?_) (fun h4=> ?_))))))
   ·have q1:st.kind=1:=cH h4;refine ap (ad J (bS J (aD qS J (aT 0 t3 J J J J (av J J aO (bS J (aD qS J (aB (k:=0) t3 J J J J J J J J (aa (aG () O J (by rw [show decide (d>8)=decide ((d:Int)>8)from decide_eq_decide.2 (by omega),aw q1];rfl) J))))))))))
   ·have q1:¬st.kind=1:=dk h4;refine aA (aG () O J (by rw [show decide (d>8)=decide ((d:Int)>8)from decide_eq_decide.2 (by omega),ai q1,Int.add_zero];rfl) J)
  ·refine aV (aD ie J (aT 7 jM J J J J (aS (aL underlying59 J (aN (k:=10) J)) (ad J (aa (aC ?_))))));refine bI (X:=Nat) (fun j=>j≤st.es.length) (fun j=> [(0,Pt c),(2,I6 (d:Int)),(10,sv v),(11,I6 (l.length:Int)),(12,I6 (i:Int)),(7,Pt b7),(45,sv st.ve),(46,I6 (st.es.length:Int)),(47,I6 (j:Int))]) (fun j=> [(0,be c 165 (cR vp vn (nd+(cM (l.take i):Int)+1+(eH (st.es.take j):Int)) (va+(dD (l.take i):Int)+(if st.kind=1 then 1 else 0:Int)) (dp || dY d (l.take i) || decide (d>8) || decide (gC (st.es.take j)>8)) er)),(7,be b7 64 (dM st))]) (fun j=> [(0,b_ v l),(1,sl 5 dM (sv v) l),(7,cm st.ve st.es),(8,b_ st.vb st.body),(9,b_ st.vl st.els),(10,sl 4 dB (sv st.ve) st.es)]) (fun j=>st.es.length-j) 0 (bq _) J (by rw [show(dp || dY d (l.take i) || decide (d>8) || decide (gC (st.es.take 0)>8))=(dp || dY d (l.take i) || decide (d>8)) by simp [gC],show nd+(cM (l.take i):Int)+1+(eH (st.es.take 0):Int)=nd+(cM (l.take i):Int)+1 by simp [eH]];rfl) J (fun j n2=> ?_);refine ar (av J J cy (aa (aZ (am J (fun h5=> ?_) (fun h5=> ?_)))))
   ·(try simp only [bk]at h5);have hj:j<st.es.length:=by omega
    obtain⟨kid,hkid⟩:∃k,st.es[j]?=some k:=⟨_,bT hj⟩
    have hkm:=cd hkid;have hlx:=lT st.es (j+1);rw [ft hkid]at hlx;have hdx:=xr kid;refine aA (aZ (aC (ar (aS (aK (j:=j) underlying59 ca J J (aN (k:=10) J) (by first|rfl|omega) (by first|omega|(simp;done)|(simp;omega))) (aS (aJ ca J J J (bJ (aN (k:=10) J) (by intro _;rfl) hkid (by rfl))) (aX ca J J fun b9=>au (k:=9) ca J J J J J J (aa (ap (ad J (aS (aJ ca J J J (a_ (k:=9) J)) (bc 7 12 J (eb hkm) (ak (xs:= [.tmp 51,.tmp 52]) (Cl c vp vn (va+(dD (l.take i):Int)+(if st.kind=1 then 1 else 0:Int)) er kid (hsg.2.mem kid hkm) (nd+(cM (l.take i):Int)+1+(eH (st.es.take j):Int)) (dp || dY d (l.take i) || decide (d>8) || decide (gC (st.es.take j)>8)) (by omega) (by omega)) Jf [0] [(false,12)] [0] (fun _ _=>aa (ap (av J J aO (ad J (aa ?_)))))))))))))))));refine aG (j+1) ⟨by omega,by omega⟩ J (by rw [lY hkid,ft hkid,←Bp,←Bool.or_assoc,Int.natCast_add,←Int.add_assoc];rfl) J
   ·(try simp only [bk]at h5);have hj:j=st.es.length:=by omega
    subst hj;rw [cV];refine bM (ar (ad J (aD fV J (aT 7 eR J J J J (ad J (av J J aO (ak (xs:= [.tmp 55,.tmp 57,.tmp 59]) ((ih st hsm).1 (d+1) (nd+(cM (l.take i):Int)+1+(eH st.es:Int)) (va+(dD (l.take i):Int)+(if st.kind=1 then 1 else 0:Int)) (dp || dY d (l.take i) || decide (d>8) || decide (gC st.es>8)) (by omega) (by omega) (by omega) (by omega) (by omega)) FD [0] [(false,8)] [0] (fun _ _=>aa (ap (ad J (aD fK J (aT 7 eR J J J J (ad J (av J J aO (ak (xs:= [.tmp 61,.tmp 63,.tmp 65]) ((ih st hsm).2 (d+1) (nd+(cM (l.take i):Int)+1+(eH st.es:Int)+(cM st.body:Int)) (va+(dD (l.take i):Int)+(if st.kind=1 then 1 else 0:Int)+(dD st.body:Int)) (dp || dY d (l.take i) || decide (d>8) || decide (gC st.es>8) || dY (d+1) st.body) (by omega) (by omega) (by omega) (by omega) (by omega)) FD [0] [(false,9)] [0] (fun _ _=>aa (ap (av J J aO ?_))))))))))))))))));refine ad J (aa ?_);have hfin:cR vp vn (nd+(cM (l.take i):Int)+1+(eH st.es:Int)+(cM st.body:Int)+(cM st.els:Int)) (va+(dD (l.take i):Int)+(if st.kind=1 then 1 else 0:Int)+(dD st.body:Int)+(dD st.els:Int)) (dp || dY d (l.take i) || decide (d>8) || decide (gC st.es>8) || dY (d+1) st.body || dY (d+1) st.els) er=cR vp vn (nd+(cM (l.take (i+1)):Int)) (va+(dD (l.take (i+1)):Int)) (dp || dY d (l.take (i+1))) er:=by
     rw [iT hst,km hst,Cz hst,Lg,Kl]
     congr 1
     ·omega
     ·rw [Int.natCast_add,hvy2];omega
    refine aG (i+1) ⟨by omega,by omega⟩ J (by rw [←hfin];rfl) J
 ·(try simp only [bk]at h1);have hi:i=l.length:=by omega
  subst hi;rw [cV];refine bM (cQ () O J iz J [0] [] J J J)
theorem pz(c:Nat)(vp vn:SV)(er:Int):∀(n:Nat)(v:SV)(l:List Ty),SizeOf.sizeOf l<n→l.length≤1000000→GYs l→O0 c vp vn er v l
 | 0,_,_,h,_,_=>absurd h (Nat.not_lt_zero _)
 | n+1,v,l,h,hl,hg=>zy c vp vn er v l hl hg fun u hu=>by
  have h1:=List.sizeOf_lt_of_mem hu;have h2:SizeOf.sizeOf u.body<SizeOf.sizeOf u∧SizeOf.sizeOf u.els<SizeOf.sizeOf u:=by
   cases u;simp only [Ty.mk.sizeOf_spec,Ty.body,Ty.els];omega
  have h3:=hg.mem u hu;exact⟨pz c vp vn er n u.vb u.body (by omega) (ff h3).1 (ff h3).2,pz c vp vn er n u.vl u.els (by omega) (gk h3).1 (gk h3).2⟩
theorem zz(c:Nat)(vp vn:SV)(er:Int)(v:SV)(l:List Ty)(hl:l.length≤1000000)(hg:GYs l):O0 c vp vn er v l:=pz c vp vn er _ v l (Nat.lt_succ_self _) hl hg
def nE(fs:List Tf)(ns:List Ba)(t:Tx):Int:=if t.kind=2 then(if cD t.name ns=true then 0 else 21)else if t.kind=3 then(match dc fs t.name with
   | none=>21
   | some f=>if f.ps.length=t.kids.length then 0 else 23)else 0
theorem Bn(fs:List Tf)(ns:List Ba)(t:Tx):eX fs ns t=fst (nE fs ns t) (jJ fs ns t.kids):=by cases t;rfl
theorem vR(fs:List Tf)(ns:List Ba):∀a b:List Tx,jJ fs ns (a++b)=fst (jJ fs ns a) (jJ fs ns b)
 | [],b=>rfl
 | t::r,b=>by rw [List.cons_append,jJ,vR fs ns r b,jJ,gz]
theorem lX{fs:List Tf}{ns:List Ba}{l:List Tx}{i:Nat}{k:Tx}(h:l[i]?=some k):jJ fs ns (l.take (i+1))=fst (jJ fs ns (l.take i)) (eX fs ns k):=by
 rw [cw h,vR];show fst _ (fst (eX fs ns k) 0)=_;rw [ew]
theorem Kx{fs:List Tf}{ns:List Ba}{t:Tx}(h:t.kind=2):nE fs ns t=if cD t.name ns=true then 0 else 21:=aw h
theorem vj{fs:List Tf}{ns:List Ba}{t:Tx}(h:t.kind=3)(hf:dc fs t.name=none):nE fs ns t=21:=by
 unfold nE;rw [ai (by omega),aw h,hf]
theorem oa{fs:List Tf}{ns:List Ba}{t:Tx}{f:Tf}(h:t.kind=3)(hf:dc fs t.name=some f):nE fs ns t=if f.ps.length=t.kids.length then 0 else 23:=by
 unfold nE;rw [ai (by omega),aw h,hf]
theorem M8{fs:List Tf}{ns:List Ba}{t:Tx}(h2:¬t.kind=2)(h3:¬t.kind=3):nE fs ns t=0:=by
 unfold nE;rw [ai h2,ai h3]
def aE(ns:List Ba)(t:Ty):Int:=if t.kind=2 then(if cD t.name ns=true then 0 else 21)else 0
def dE(ns:List Ba)(t:Ty):Int:=if t.kind=1 then(if cD t.name ns=true then 22 else 0)else 0
def dN(ns:List Ba)(t:Ty):List Ba:=if t.kind=1 then ns++ [t.name]else ns
theorem ux(fs:List Tf)(ns:List Ba)(t:Ty):bY fs ns t=((dm fs (dm fs (dN ns t) t.body).1 t.els).1,fst (aE ns t) (fst (jJ fs ns t.es) (fst (dE ns t) (fst (dm fs (dN ns t) t.body).2 (dm fs (dm fs (dN ns t) t.body).1 t.els).2)))):=by cases t;rfl
theorem v_(fs:List Tf):∀(ns:List Ba)(a b:List Ty),dm fs ns (a++b)=((dm fs (dm fs ns a).1 b).1,fst (dm fs ns a).2 (dm fs (dm fs ns a).1 b).2)
 | ns,[],b=>rfl
 | ns,t::r,b=>by
  rw [List.cons_append,dm,v_ fs _ r b,dm];simp only [gz]
theorem s8{fs:List Tf}{ns:List Ba}{l:List Ty}{i:Nat}{k:Ty}(h:l[i]?=some k):dm fs ns (l.take (i+1))=((bY fs (dm fs ns (l.take i)).1 k).1,fst (dm fs ns (l.take i)).2 (bY fs (dm fs ns (l.take i)).1 k).2):=by
 rw [cw h,v_];show((bY fs _ k).1,fst _ (fst (bY fs _ k).2 0))=_;rw [ew]
mutual
theorem LF(fs:List Tf):∀(ns:List Ba)(t:Ty),(bY fs ns t).1.length=ns.length+vY t
 | ns,.mk k nm _ es _ body _ els=>by
  show(dm fs (dm fs (if k=1 then ns++ [nm]else ns) body).1 els).1.length=_;rw [kZ fs _ els,kZ fs _ body,vY];split<;>simp<;>omega
theorem kZ(fs:List Tf):∀(ns:List Ba)(l:List Ty),(dm fs ns l).1.length=ns.length+dD l
 | ns,[]=>by simp [dm,dD]
 | ns,t::r=>by
  show(dm fs (bY fs ns t).1 r).1.length=_;rw [kZ fs _ r,LF fs ns t,dD];omega
end
theorem pI{l:List Ty}{i:Nat}{k:Ty}(h:l[i]?=some k):dD (l.take i)+vY k≤dD l:=by
 have h2:=l_ (l.take (i+1)) (l.drop (i+1));rw [List.take_append_drop,km h]at h2;omega
theorem vV(ns:List Ba)(t:Ty):(dN ns t).length=ns.length+if t.kind=1 then 1 else 0:=by
 unfold dN;split
 ·simp
 ·rfl
theorem zH(c:Nat)(vp vn:SV)(nd va:Int)(dp:Bool)(fs:List Tf)(hfl:fs.length≤1000000)(ns:List Ba)(hns:ns.length≤1000000)(t:Tx)(ht:GX t)(ih:∀u∈t.kids,∀er:Int,Spec prog 166 [Pt c,xV u] [be c 165 (cR vp vn nd va dp er),own 9 1 eS (sv vn) ns] [cm u.v u.kids,cE vp fs] (X:=Unit) (fun _=>True) (fun _=> .tuple #[]) (fun _=> [be c 165 (cR vp vn nd va dp (fst er (eX fs ns u))),own 9 1 eS (sv vn) ns]) (fun _=> []))(er:Int):
  bi prog 166 [Pt c,xV t] [be c 165 (cR vp vn nd va dp (er)),own 9 1 eS (sv vn) (ns)] [cm t.v t.kids,cE vp fs] (.tuple #[]) [be c 165 (cR vp vn nd va dp (fst er (eX fs ns t))),own 9 1 eS (sv vn) (ns)]:=by
 refine aM func166 J ntmps166 J fun w0 M H=> ?_
 have hkl:=l8 ht;refine bc 0 2 J gE (bc 1 3 J jw (ar (cA J J fun b3=>aa (bz (X:=Unit) (fun _=>True) (fun _=> [(0,Pt c),(3,Pt b3)]) (fun _=> [(0,be c 165 (cR vp vn nd va dp (fst er (nE fs ns t)))),(1,own 9 1 eS (sv vn) (ns)),(3,be b3 61 (dB t))]) (fun _=> [(0,cm t.v t.kids),(1,cE vp fs),(2,sl 4 dB (sv t.v) t.kids),(3,sl 3 gu (sv vp) fs)]) ?_ (fun _ _=> ?_)))))
 ·refine ar (aD ki J (aT 3 t3 J J J J (aa (aC (ar (av J J br (aq J (aa (am J (fun h1=> ?_) (fun h1=> ?_))))))))))
  ·have q2:t.kind=2:=cH h1;refine ap (ad J (aD el J (aT 3 t9 J J J J (ak (xs:= [.tmp 11,.tmp 13]) (uo c vp vn nd va dp er ns hns t.name) Je [0,1] [] [0,1] (fun _ _=>aa (aG () O J (by rw [Kx q2];rfl) J))))))
  ·have q2:¬t.kind=2:=dk h1;refine ar (av J J br (aq J (aa (am J (fun h2=> ?_) (fun h2=> ?_)))))
   ·have q3:t.kind=3:=cH h2;refine ar (ad J (aD el J (aT 3 t9 J J J J (ak (xs:= [.tmp 17,.tmp 19]) (nD c vp vn nd va dp er t.name fs hfl) Lt [0] [(false,3)] [0] (fun _ _=>aq J (aF J (ad J (av J J cy (aa (am J (fun h3=> ?_) (fun h3=> ?_)))))))))))
    ·have hff:dc fs t.name=none:=fk.1.1 (cH h3);refine ap (ad J (ak (xs:= [.tmp 23,.const (I6 21)]) (jL c vp vn nd va dp er 21) xE [0] [] [0] (fun _ _=>aa (aG () O J (by rw [vj q3 hff];rfl) J))))
    ·obtain⟨f,hff⟩:∃f,dc fs t.name=some f:=by
      cases hf:dc fs t.name with
      | none=>exact absurd (fk.1.2 hf) (dk h3)
      | some f=>exact⟨f,rfl⟩
     obtain⟨j,hj1,hj2⟩:=fk.2 f hff;have hjl:=(db.1 hj2).1;rw [hj1];refine bc 1 7 J (lI (kw hff)) (bc 7 9 J lJ (aZ (bQ [25,26,27,28,29,30,31,32,33,34,35,36,37,38] _ J (bn (V:= [(0,25,_),(1,26,_),(2,27,_),(3,28,_),(4,29,_),(5,30,_),(6,31,_),(7,32,_),(8,33,_),(9,34,_),(10,35,_),(11,36,_),(12,37,_),(13,38,_)]) [0,1,2,3,4,5,6,7,8,9,10,11,12,13] J J (ay J J (ac J (aj J) (ac J (ah Be J) (ac J (ah dx J) (ac J (ae ip J J (ax (k:=0) J J)) (ay J J (ac J (aK (j:=j) underlying25 fC J J (aN (k:=3) J) J hjl) (ac J (bB dW J) (ac J (ae h_ J J (dl (aN (k:=3) J) (by intro _;rfl) hj2 J)) (ac J (aL underlying46 J (aN (k:=9) J)) (ac J (ah dT J) (ac J (ae jM J J (ax (k:=3) J J)) (ac J (aL underlying59 J (aN (k:=2) J)) (ac J (aU J J gj) ag)))))))))))))) J J J (am J (fun h4=> ?_) (fun h4=> ?_))))))
     ·have hne:¬f.ps.length=t.kids.length:=fun e=>by rw [e]at h4;simp at h4
      refine ap (ad J (ak (xs:= [.tmp 39,.const (I6 23)]) (jL c vp vn nd va dp er 23) xE [0] [] [0] (fun _ _=>aa (aG () O J (by rw [oa q3 hff,ai hne];rfl) J))))
     ·have hne:f.ps.length=t.kids.length:=by
       have:=h4;simp only [Bool.not_eq_false',decide_eq_true_eq]at this;omega
      refine aA (aG () O J (by rw [oa q3 hff,aw hne,ew];rfl) J)
   ·have q3:¬t.kind=3:=dk h2;refine aA (aG () O J (by rw [M8 q2 q3,ew];rfl) J)
 ·refine ar (aD dT J (aT 3 jM J J J J (aS (aL underlying59 J (aN (k:=2) J)) (ad J (aa (aC ?_))))));refine bI (X:=Nat) (fun i=>i≤t.kids.length) (fun i=> [(0,Pt c),(3,Pt b3),(42,sv t.v),(43,I6 (t.kids.length:Int)),(44,I6 (i:Int))]) (fun i=> [(0,be c 165 (cR vp vn nd va dp (fst er (fst (nE fs ns t) (jJ fs ns (t.kids.take i)))))),(1,own 9 1 eS (sv vn) (ns)),(3,be b3 61 (dB t))]) (fun i=> [(0,cm t.v t.kids),(1,cE vp fs),(2,sl 4 dB (sv t.v) t.kids),(3,sl 3 gu (sv vp) fs)]) (fun i=>t.kids.length-i) 0 (bq _) J (by rw [show jJ fs ns (t.kids.take 0)=0 by simp [jJ],ew];rfl) J (fun i n1=> ?_);refine ar (av J J cy (aa (aZ (am J (fun h5=> ?_) (fun h5=> ?_)))))
  ·(try simp only [bk]at h5);have hi:i<t.kids.length:=by omega
   obtain⟨kid,hkid⟩:∃k,t.kids[i]?=some k:=⟨_,bT hi⟩
   have hkm:=cd hkid;refine aA (aZ (aC (ar (aS (aK (j:=i) underlying59 ca J J (aN (k:=2) J) (by first|rfl|omega) (by first|omega|(simp;done)|(simp;omega))) (aS (aJ ca J J J (bJ (aN (k:=2) J) (by intro _;rfl) hkid (by rfl))) (aX ca J J fun b6=>au (k:=6) ca J J J J J J (aa (ap (ad J (aS (aJ ca J J J (a_ (k:=6) J)) (bc 0 8 J (eb hkm) (ak (xs:= [.tmp 48,.tmp 49]) (ih kid hkm (fst er (fst (nE fs ns t) (jJ fs ns (t.kids.take i))))) Jd [0,1] [(false,8),(false,1)] [0,1] (fun _ _=>aa (ap (av J J aO (ad J (aa ?_)))))))))))))))));refine aG (i+1) ⟨by omega,by omega⟩ J (by rw [lX hkid];simp only [gz];rfl) J
  ·(try simp only [bk]at h5);have hi:i=t.kids.length:=by omega
   subst hi;rw [cV,←Bn];refine bM (cQ () O J iz J [0,1] [] J J J)
theorem ut(c:Nat)(vp vn:SV)(nd va:Int)(dp:Bool)(fs:List Tf)(hfl:fs.length≤1000000)(ns:List Ba)(hns:ns.length≤1000000):∀(n:Nat)(t:Tx),SizeOf.sizeOf t<n→GX t→∀er:Int,bi prog 166 [Pt c,xV t] [be c 165 (cR vp vn nd va dp er),own 9 1 eS (sv vn) ns] [cm t.v t.kids,cE vp fs] (.tuple #[]) [be c 165 (cR vp vn nd va dp (fst er (eX fs ns t))),own 9 1 eS (sv vn) ns]
 | 0,_,h,_=>absurd h (Nat.not_lt_zero _)
 | n+1,t,h,ht=>zH c vp vn nd va dp fs hfl ns hns t ht fun u hu=>ut c vp vn nd va dp fs hfl ns hns n u (by have:=pJ hu;omega) ((ka ht).mem u hu)
theorem zI(c:Nat)(vp vn:SV)(nd va:Int)(dp:Bool)(fs:List Tf)(hfl:fs.length≤1000000)(ns:List Ba)(hns:ns.length≤1000000)(t:Tx)(ht:GX t)(er:Int):bi prog 166 [Pt c,xV t] [be c 165 (cR vp vn nd va dp er),own 9 1 eS (sv vn) ns] [cm t.v t.kids,cE vp fs] (.tuple #[]) [be c 165 (cR vp vn nd va dp (fst er (eX fs ns t))),own 9 1 eS (sv vn) ns]:=ut c vp vn nd va dp fs hfl ns hns _ t (Nat.lt_succ_self _) ht er
theorem xB(c:Nat)(vp vn:SV)(nd va:Int)(dp:Bool)(fs:List Tf)(hfl:fs.length≤1000000)(v:SV)(l:List Ty)(hl:l.length≤1000000)(hg:GYs l)(ihb:∀u∈l,(∀(vn:SV)(ns:List Ba)(er:Int),ns.length+dD u.body≤1000000→Spec prog 129 [Pt c,sv u.vb] [be c 165 (cR vp vn nd va dp er),own 9 1 eS (sv vn) ns] [b_ u.vb u.body,cE vp fs] (X:=SV) (fun _=>True) (fun _=> .tuple #[]) (fun x=> [be c 165 (cR vp x nd va dp (fst er (dm fs ns u.body).2)),own 9 1 eS (sv x) (dm fs ns u.body).1]) (fun _=> [])))(ihe:∀u∈l,(∀(vn:SV)(ns:List Ba)(er:Int),ns.length+dD u.els≤1000000→Spec prog 129 [Pt c,sv u.vl] [be c 165 (cR vp vn nd va dp er),own 9 1 eS (sv vn) ns] [b_ u.vl u.els,cE vp fs] (X:=SV) (fun _=>True) (fun _=> .tuple #[]) (fun x=> [be c 165 (cR vp x nd va dp (fst er (dm fs ns u.els).2)),own 9 1 eS (sv x) (dm fs ns u.els).1]) (fun _=> [])))(ns:List Ba)(er:Int)(hnv:ns.length+dD l≤1000000):
  Spec prog 129 [Pt c,sv v] [be c 165 (cR vp vn nd va dp (er)),own 9 1 eS (sv vn) (ns)] [b_ v l,cE vp fs] (X:=SV) (fun _=>True) (fun _=> .tuple #[]) (fun x=> [be c 165 (cR vp x nd va dp (fst er (dm fs ns l).2)),own 9 1 eS (sv x) ((dm fs ns l).1)]) (fun _=> []):=by
 refine aM func129 J ntmps129 J fun w0 M H=>bc 0 2 J hZ (ar (ad J (aS (aL underlying62 J (aN (k:=2) J)) (ad J (aa (aC (bI (X:=Nat×SV) (fun x=>x.1≤l.length) (fun x=> [(0,Pt c),(8,sv v),(9,I6 (l.length:Int)),(10,I6 (x.1:Int))]) (fun x=> [(0,be c 165 (cR vp x.2 nd va dp (fst er (dm fs ns (l.take x.1)).2))),(1,own 9 1 eS (sv x.2) ((dm fs ns (l.take x.1)).1))]) (fun x=> [(0,b_ v l),(1,cE vp fs),(2,sl 5 dM (sv v) l)]) (fun x=>l.length-x.1) (0,vn) (bq _) J (by rw [show fst er (dm fs ns (l.take (0,vn).1)).2=er from ew er];rfl) J (fun x n1=> ?_))))))))
 obtain⟨i,vx⟩:=x;dsimp only at n1 ⊢;refine ar (av J J cy (aa (aZ (am J (fun h1=> ?_) (fun h1=> ?_)))))
 ·(try simp only [bk]at h1);have hi:i<l.length:=by omega
  obtain⟨st,hst⟩:∃k,l[i]?=some k:=⟨_,bT hi⟩
  have hsm:=cd hst;have hsy:=hg.mem st hsm;have hsg:=oM hsy;have hbl:=kZ fs ns (l.take i);have hvt:=pI hst;have hve:=Dc st;have hni:(dm fs ns (l.take i)).1.length≤1000000:=by omega
  refine bc 0 7 J (lF hsm) (bc 0 8 J (iv hsm) (bc 0 9 J (ji hsm) (bc 7 10 J gE (aA (aZ (aC (ar (aS (aK (j:=i) underlying62 cr J J (aN (k:=2) J) (by first|rfl|omega) (by first|omega|(simp;done)|(simp;omega))) (aS (aJ cr J J J (bJ (aN (k:=2) J) (by intro _;rfl) hst (by rfl))) (aX cr J J fun b5=>au (k:=5) cr J J J J J J (aa (bz (X:=Unit) (fun _=>True) (fun _=> [(0,Pt c),(8,sv v),(9,I6 (l.length:Int)),(10,I6 (i:Int)),(5,Pt b5)]) (fun _=> [(0,be c 165 (cR vp vx nd va dp (fst (fst er (dm fs ns (l.take i)).2) (aE ((dm fs ns (l.take i)).1) st)))),(1,own 9 1 eS (sv vx) ((dm fs ns (l.take i)).1)),(5,be b5 64 (dM st))]) (fun _=> [(0,b_ v l),(1,cE vp fs),(2,sl 5 dM (sv v) l),(7,cm st.ve st.es),(8,b_ st.vb st.body),(9,b_ st.vl st.els),(10,sl 4 dB (sv st.ve) st.es)]) ?_ (fun _ _=> ?_)))))))))))))
  ·refine ar (aD fj J (aT 5 t3 J J J J (av J J br (aa (am J (fun h2=> ?_) (fun h2=> ?_))))))
   ·have q2:st.kind=2:=cH h2;refine ap (ad J (aD jH J (aT 5 t9 J J J J (ak (xs:= [.tmp 17,.tmp 19]) (uo c vp vx nd va dp (fst er (dm fs ns (l.take i)).2) ((dm fs ns (l.take i)).1) hni st.name) Je [0,1] [] [0,1] (fun _ _=>aa (aG () O J (by unfold aE;rw [aw q2];rfl) J))))))
   ·have q2:¬st.kind=2:=dk h2;refine aA (aG () O J (by unfold aE;rw [ai q2,ew];rfl) J)
  ·refine aV (aD ie J (aT 5 jM J J J J (aS (aL underlying59 J (aN (k:=10) J)) (ad J (aa (aC ?_))))));refine bI (X:=Nat) (fun j=>j≤st.es.length) (fun j=> [(0,Pt c),(8,sv v),(9,I6 (l.length:Int)),(10,I6 (i:Int)),(5,Pt b5),(22,sv st.ve),(23,I6 (st.es.length:Int)),(24,I6 (j:Int))]) (fun j=> [(0,be c 165 (cR vp vx nd va dp (fst (fst (fst er (dm fs ns (l.take i)).2) (aE ((dm fs ns (l.take i)).1) st)) (jJ fs ((dm fs ns (l.take i)).1) (st.es.take j))))),(1,own 9 1 eS (sv vx) ((dm fs ns (l.take i)).1)),(5,be b5 64 (dM st))]) (fun j=> [(0,b_ v l),(1,cE vp fs),(2,sl 5 dM (sv v) l),(7,cm st.ve st.es),(8,b_ st.vb st.body),(9,b_ st.vl st.els),(10,sl 4 dB (sv st.ve) st.es)]) (fun j=>st.es.length-j) 0 (bq _) J (by rw [show jJ fs ((dm fs ns (l.take i)).1) (st.es.take 0)=0 by simp [jJ],ew];rfl) J (fun j n2=> ?_);refine ar (av J J cy (aa (aZ (am J (fun h3=> ?_) (fun h3=> ?_)))))
   ·(try simp only [bk]at h3);have hj:j<st.es.length:=by omega
    obtain⟨kid,hkid⟩:∃k,st.es[j]?=some k:=⟨_,bT hj⟩
    have hkm:=cd hkid;refine aA (aZ (aC (ar (aS (aK (j:=j) underlying59 ca J J (aN (k:=10) J) (by first|rfl|omega) (by first|omega|(simp;done)|(simp;omega))) (aS (aJ ca J J J (bJ (aN (k:=10) J) (by intro _;rfl) hkid (by rfl))) (aX ca J J fun b7=>au (k:=7) ca J J J J J J (aa (ap (ad J (aS (aJ ca J J J (a_ (k:=7) J)) (bc 7 12 J (eb hkm) (ak (xs:= [.tmp 28,.tmp 29]) (zI c vp vx nd va dp fs hfl ((dm fs ns (l.take i)).1) hni kid (hsg.2.mem kid hkm) (fst (fst (fst er (dm fs ns (l.take i)).2) (aE ((dm fs ns (l.take i)).1) st)) (jJ fs ((dm fs ns (l.take i)).1) (st.es.take j)))) Jd [0,1] [(false,12),(false,1)] [0,1] (fun _ _=>aa (ap (av J J aO (ad J (aa ?_)))))))))))))))));refine aG (j+1) ⟨by omega,by omega⟩ J (by rw [lX hkid];simp only [gz];rfl) J
   ·(try simp only [bk]at h3);have hj:j=st.es.length:=by omega
    subst hj;rw [cV];refine bM (bz (X:=SV) (fun _=>True) (fun vd=> [(0,Pt c),(8,sv v),(9,I6 (l.length:Int)),(10,I6 (i:Int)),(5,Pt b5)]) (fun vd=> [(0,be c 165 (cR vp vd nd va dp (fst (fst (fst (fst er (dm fs ns (l.take i)).2) (aE ((dm fs ns (l.take i)).1) st)) (jJ fs ((dm fs ns (l.take i)).1) (st.es))) (dE ((dm fs ns (l.take i)).1) st)))),(1,own 9 1 eS (sv vd) (dN ((dm fs ns (l.take i)).1) st)),(5,be b5 64 (dM st))]) (fun vd=> [(0,b_ v l),(1,cE vp fs),(2,sl 5 dM (sv v) l),(7,cm st.ve st.es),(8,b_ st.vb st.body),(9,b_ st.vl st.els),(10,sl 4 dB (sv st.ve) st.es)]) ?_ (fun vd _=> ?_))
    ·refine ar (aD fj J (aT 5 t3 J J J J (av J J br (aa (am J (fun h4=> ?_) (fun h4=> ?_))))))
     ·have q1:st.kind=1:=cH h4;refine ap (ad J (aD jH J (aT 5 t9 J J J J (ak (xs:= [.tmp 35,.tmp 37]) (sU c vp vx nd va dp (fst (fst (fst er (dm fs ns (l.take i)).2) (aE ((dm fs ns (l.take i)).1) st)) (jJ fs ((dm fs ns (l.take i)).1) (st.es))) ((dm fs ns (l.take i)).1) hni st.name) Jn [0,1] [] [0,1] (fun vd _=>aa (aG vd O J (by unfold dE dN;rw [aw q1,aw q1];rfl) J))))))
     ·have q1:¬st.kind=1:=dk h4;refine aA (aG vx O J (by unfold dE dN;rw [ai q1,ai q1,ew];rfl) J)
    ·refine ar (ad J (aD fV J (aT 5 eR J J J J (ak (xs:= [.tmp 39,.tmp 41]) (ihb st hsm vd (dN ((dm fs ns (l.take i)).1) st) (fst (fst (fst (fst er (dm fs ns (l.take i)).2) (aE ((dm fs ns (l.take i)).1) st)) (jJ fs ((dm fs ns (l.take i)).1) (st.es))) (dE ((dm fs ns (l.take i)).1) st)) (by rw [vV];omega)) FC [0,1] [(false,8),(false,1)] [0,1] (fun v1 _=>aa (ap (ad J (aD fK J (aT 5 eR J J J J (ak (xs:= [.tmp 43,.tmp 45]) (ihe st hsm v1 (dm fs (dN ((dm fs ns (l.take i)).1) st) st.body).1 (fst (fst (fst (fst (fst er (dm fs ns (l.take i)).2) (aE ((dm fs ns (l.take i)).1) st)) (jJ fs ((dm fs ns (l.take i)).1) (st.es))) (dE ((dm fs ns (l.take i)).1) st)) (dm fs (dN ((dm fs ns (l.take i)).1) st) st.body).2) (by rw [kZ,vV];omega)) FC [0,1] [(false,9),(false,1)] [0,1] (fun v2 _=>aa (ap (av J J aO (ad J (aa ?_)))))))))))))));refine aG (i+1,v2) ⟨by dsimp only;omega,by dsimp only;omega⟩ J (by dsimp only;rw [s8 hst,ux];simp only [gz];rfl) J
 ·(try simp only [bk]at h1);have hi:i=l.length:=by omega
  subst hi;rw [cV];refine bM (cQ vx O J iz J [0,1] [] J J J)
theorem nF(c:Nat)(vp:SV)(nd va:Int)(dp:Bool)(fs:List Tf)(hfl:fs.length≤1000000):∀(n:Nat)(v:SV)(l:List Ty),SizeOf.sizeOf l<n→l.length≤1000000→GYs l→(∀(vn:SV)(ns:List Ba)(er:Int),ns.length+dD l≤1000000→Spec prog 129 [Pt c,sv v] [be c 165 (cR vp vn nd va dp er),own 9 1 eS (sv vn) ns] [b_ v l,cE vp fs] (X:=SV) (fun _=>True) (fun _=> .tuple #[]) (fun x=> [be c 165 (cR vp x nd va dp (fst er (dm fs ns l).2)),own 9 1 eS (sv x) (dm fs ns l).1]) (fun _=> []))
 | 0,_,_,h,_,_=>absurd h (Nat.not_lt_zero _)
 | n+1,v,l,h,hl,hg=>fun vn ns er hnv=>by
  have key:∀u∈l,SizeOf.sizeOf u.body<n∧SizeOf.sizeOf u.els<n:=fun u hu=>by
   have h1:=List.sizeOf_lt_of_mem hu;have h2:SizeOf.sizeOf u.body<SizeOf.sizeOf u∧SizeOf.sizeOf u.els<SizeOf.sizeOf u:=by
    cases u;simp only [Ty.mk.sizeOf_spec,Ty.body,Ty.els];omega
   omega
  exact xB c vp vn nd va dp fs hfl v l hl hg (fun u hu=>nF c vp nd va dp fs hfl n u.vb u.body (key u hu).1 (ff (hg.mem u hu)).1 (ff (hg.mem u hu)).2) (fun u hu=>nF c vp nd va dp fs hfl n u.vl u.els (key u hu).2 (gk (hg.mem u hu)).1 (gk (hg.mem u hu)).2) ns er hnv
theorem xC(c:Nat)(vp:SV)(nd va:Int)(dp:Bool)(fs:List Tf)(hfl:fs.length≤1000000)(v:SV)(l:List Ty)(hl:l.length≤1000000)(hg:GYs l):(∀(vn:SV)(ns:List Ba)(er:Int),ns.length+dD l≤1000000→Spec prog 129 [Pt c,sv v] [be c 165 (cR vp vn nd va dp er),own 9 1 eS (sv vn) ns] [b_ v l,cE vp fs] (X:=SV) (fun _=>True) (fun _=> .tuple #[]) (fun x=> [be c 165 (cR vp x nd va dp (fst er (dm fs ns l).2)),own 9 1 eS (sv x) (dm fs ns l).1]) (fun _=> [])):=nF c vp nd va dp fs hfl _ v l (Nat.lt_succ_self _) hl hg
end Go.Proofs.YtedmdgbmdplifaaGreat
