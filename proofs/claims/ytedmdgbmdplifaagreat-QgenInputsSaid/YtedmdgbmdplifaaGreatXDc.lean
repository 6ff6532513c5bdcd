/-
  A part of the proof. Conditions are with the theorems.
-/
import Derived.Laws.BitsAllLaws
import Derived.Test.YtedmdgbmdplifaaGreatXDa
import Derived.Test.YtedmdgbmdplifaaGreatXDb
set_option maxHeartbeats 32000000
set_option maxRecDepth 100000
set_option linter.unusedSimpArgs false
set_option linter.unusedVariables false
namespace Go.Proofs.YtedmdgbmdplifaaGreat
open Go.RowKit Tryz
def nE(fs:List Tf)(ns:List Ba)(t:Tx):Int:=if t.kind=2 then(if cn t.name ns=true then 0 else 21)else if t.kind=3 then(match cy fs t.name with
   | none=>21
   | some f=>if f.ps.length=t.kids.length then 0 else 23)else 0
theorem CB(fs:List Tf)(ns:List Ba)(t:Tx):eX fs ns t=fst (nE fs ns t) (ir fs ns t.kids):=by cases t;rfl
theorem w6(fs:List Tf)(ns:List Ba):∀a b:List Tx,ir fs ns (a++b)=fst (ir fs ns a) (ir fs ns b)
 | [],b=>rfl
 | t::r,b=>by rw [List.cons_append,ir,w6 fs ns r b,ir,gE]
theorem mz{fs:List Tf}{ns:List Ba}{l:List Tx}{i:Nat}{k:Tx}(h:l[i]?=some k):ir fs ns (l.take (i+1))=fst (ir fs ns (l.take i)) (eX fs ns k):=by
 rw [cj h,w6];show fst _ (fst (eX fs ns k) 0)=_;rw [cN]
theorem MZ{fs:List Tf}{ns:List Ba}{t:Tx}(h:t.kind=2):nE fs ns t=if cn t.name ns=true then 0 else 21:=ar h
theorem ww{fs:List Tf}{ns:List Ba}{t:Tx}(h:t.kind=3)(hf:cy fs t.name=none):nE fs ns t=21:=by
 unfold nE;rw [ae (by omega),ar h,hf]
theorem oD{fs:List Tf}{ns:List Ba}{t:Tx}{f:Tf}(h:t.kind=3)(hf:cy fs t.name=some f):nE fs ns t=if f.ps.length=t.kids.length then 0 else 23:=by
 unfold nE;rw [ae (by omega),ar h,hf]
theorem PH{fs:List Tf}{ns:List Ba}{t:Tx}(h2:¬t.kind=2)(h3:¬t.kind=3):nE fs ns t=0:=by
 unfold nE;rw [ae h2,ae h3]
def aE(ns:List Ba)(t:Ty):Int:=if t.kind=2 then(if cn t.name ns=true then 0 else 21)else 0
def dE(ns:List Ba)(t:Ty):Int:=if t.kind=1 then(if cn t.name ns=true then 22 else 0)else 0
def dN(ns:List Ba)(t:Ty):List Ba:=if t.kind=1 then ns++ [t.name]else ns
theorem vB(fs:List Tf)(ns:List Ba)(t:Ty):bY fs ns t=((cV fs (cV fs (dN ns t) t.body).1 t.els).1,fst (aE ns t) (fst (ir fs ns t.es) (fst (dE ns t) (fst (cV fs (dN ns t) t.body).2 (cV fs (cV fs (dN ns t) t.body).1 t.els).2)))):=by cases t;rfl
theorem pi(fs:List Tf):∀(ns:List Ba)(a b:List Ty),cV fs ns (a++b)=((cV fs (cV fs ns a).1 b).1,fst (cV fs ns a).2 (cV fs (cV fs ns a).1 b).2)
 | ns,[],b=>rfl
 | ns,t::r,b=>by
  rw [List.cons_append,cV,pi fs _ r b,cV];simp only [gE]
theorem tM{fs:List Tf}{ns:List Ba}{l:List Ty}{i:Nat}{k:Ty}(h:l[i]?=some k):cV fs ns (l.take (i+1))=((bY fs (cV fs ns (l.take i)).1 k).1,fst (cV fs ns (l.take i)).2 (bY fs (cV fs ns (l.take i)).1 k).2):=by
 rw [cj h,pi];show((bY fs _ k).1,fst _ (fst (bY fs _ k).2 0))=_;rw [cN]
mutual
theorem N0(fs:List Tf):∀(ns:List Ba)(t:Ty),(bY fs ns t).1.length=ns.length+vY t
 | ns,.mk k nm _ es _ body _ els=>by
  show(cV fs (cV fs (if k=1 then ns++ [nm]else ns) body).1 els).1.length=_;rw [lC fs _ els,lC fs _ body,vY];split<;>simp<;>omega
theorem lC(fs:List Tf):∀(ns:List Ba)(l:List Ty),(cV fs ns l).1.length=ns.length+dg l
 | ns,[]=>by simp [cV,dg]
 | ns,t::r=>by
  show(cV fs (bY fs ns t).1 r).1.length=_;rw [lC fs _ r,N0 fs ns t,dg];omega
end
theorem qx{l:List Ty}{i:Nat}{k:Ty}(h:l[i]?=some k):dg (l.take i)+vY k≤dg l:=by
 have h2:=kc (l.take (i+1)) (l.drop (i+1));rw [List.take_append_drop,kI h]at h2;omega
theorem w_(ns:List Ba)(t:Ty):(dN ns t).length=ns.length+if t.kind=1 then 1 else 0:=by
 unfold dN;split
 ·simp
 ·rfl
theorem A0(c:Nat)(vp vn:SV)(nd va:Int)(dp:Bool)(fs:List Tf)(hfl:fs.length≤1000000)(ns:List Ba)(hns:ns.length≤1000000)(t:Tx)(ht:GX t)(ih:∀u∈t.kids,∀er:Int,Spec prog 166 [Pt c,xV u] [bh c 165 (cR vp vn nd va dp er),own 9 1 eS (sv vn) ns] [ce u.v u.kids,cx vp fs] (X:=Unit) (fun _=>True) (fun _=> .tuple #[]) (fun _=> [bh c 165 (cR vp vn nd va dp (fst er (eX fs ns u))),own 9 1 eS (sv vn) ns]) (fun _=> []))(er:Int):
  bi prog 166 [Pt c,xV t] [bh c 165 (cR vp vn nd va dp (er)),own 9 1 eS (sv vn) (ns)] [ce t.v t.kids,cx vp fs] (.tuple #[]) [bh c 165 (cR vp vn nd va dp (fst er (eX fs ns t))),own 9 1 eS (sv vn) (ns)]:=by
 refine aI func166 J ntmps166 J fun w0 M H=> ?_
 have hkl:=mC ht;refine aZ 0 2 J gd (aZ 1 3 J jG (ap (ck J J fun b3=>aa (bx (X:=Unit) (fun _=>True) (fun _=> [(0,Pt c),(3,Pt b3)]) (fun _=> [(0,bh c 165 (cR vp vn nd va dp (fst er (nE fs ns t)))),(1,own 9 1 eS (sv vn) (ns)),(3,bh b3 61 (dT t))]) (fun _=> [(0,ce t.v t.kids),(1,cx vp fs),(2,sl 4 dT (sv t.v) t.kids),(3,sl 3 ip (sv vp) fs)]) ?_ (fun _ _=> ?_)))))
 ·refine ap (aC jQ J (aQ 3 t3 J J J J (aa (aB (ap (aw J J bn (ak J (aa (ai J (fun h1=> ?_) (fun h1=> ?_))))))))))
  ·have q2:t.kind=2:=bW h1;refine am (ad J (aC dI J (aQ 3 t9 J J J J (aj (xs:= [.tmp 11,.tmp 13]) (vh c vp vn nd va dp er ns hns t.name) Lt [0,1] [] [0,1] (fun _ _=>aa (aJ () O J (by rw [MZ q2];rfl) J))))))
  ·have q2:¬t.kind=2:=cg h1;refine ap (aw J J bn (ak J (aa (ai J (fun h2=> ?_) (fun h2=> ?_)))))
   ·have q3:t.kind=3:=bW h2;refine ap (ad J (aC dI J (aQ 3 t9 J J J J (aj (xs:= [.tmp 17,.tmp 19]) (nS c vp vn nd va dp er t.name fs hfl) NR [0] [(false,3)] [0] (fun _ _=>ak J (aF J (ad J (aw J J cr (aa (ai J (fun h3=> ?_) (fun h3=> ?_)))))))))))
    ·have hff:cy fs t.name=none:=em.1.1 (bW h3);refine am (ad J (aj (xs:= [.tmp 23,.const (I6 21)]) (jV c vp vn nd va dp er 21) yT [0] [] [0] (fun _ _=>aa (aJ () O J (by rw [ww q3 hff];rfl) J))))
    ·obtain⟨f,hff⟩:∃f,cy fs t.name=some f:=by
      cases hf:cy fs t.name with
      | none=>exact absurd (em.1.2 hf) (cg h3)
      | some f=>exact⟨f,rfl⟩
     obtain⟨j,hj1,hj2⟩:=em.2 f hff;have hjl:=(cJ.1 hj2).1;rw [hj1];refine aZ 1 7 J (l_ (io hff)) (aZ 7 9 J ma (a_ (bJ [25,26,27,28,29,30,31,32,33,34,35,36,37,38] _ J (bl (V:= [(0,25,_),(1,26,_),(2,27,_),(3,28,_),(4,29,_),(5,30,_),(6,31,_),(7,32,_),(8,33,_),(9,34,_),(10,35,_),(11,36,_),(12,37,_),(13,38,_)]) [0,1,2,3,4,5,6,7,8,9,10,11,12,13] J J (aD J J (ac J (au J) (ac J (ag Cs J) (ac J (ag dJ J) (ac J (ah iB J J (ay (k:=0) J J)) (aD J J (ac J (aN (j:=j) underlying25 fj J J (aK (k:=3) J) J hjl) (ac J (ek d6 J) (ac J (ah gO J J (ko (aK (k:=3) J) (by intro _;rfl) hj2 J)) (ac J (aS underlying46 J (aK (k:=9) J)) (ac J (ag dx J) (ac J (ah jh J J (ay (k:=3) J J)) (ac J (aS underlying59 J (aK (k:=2) J)) (ac J (aR J J eD) av)))))))))))))) J J J (ai J (fun h4=> ?_) (fun h4=> ?_))))))
     ·have hne:¬f.ps.length=t.kids.length:=fun e=>by rw [e]at h4;simp at h4
      refine am (ad J (aj (xs:= [.tmp 39,.const (I6 23)]) (jV c vp vn nd va dp er 23) yT [0] [] [0] (fun _ _=>aa (aJ () O J (by rw [oD q3 hff,ae hne];rfl) J))))
     ·have hne:f.ps.length=t.kids.length:=by
       have:=h4;simp only [Bool.not_eq_false',decide_eq_true_eq]at this;omega
      refine az (aJ () O J (by rw [oD q3 hff,ar hne,cN];rfl) J)
   ·have q3:¬t.kind=3:=cg h2;refine az (aJ () O J (by rw [PH q2 q3,cN];rfl) J)
 ·refine ap (aC dx J (aQ 3 jh J J J J (aP (aS underlying59 J (aK (k:=2) J)) (ad J (aa (aB ?_))))));refine bC (X:=Nat) (fun i=>i≤t.kids.length) (fun i=> [(0,Pt c),(3,Pt b3),(42,sv t.v),(43,I6 (t.kids.length:Int)),(44,I6 (i:Int))]) (fun i=> [(0,bh c 165 (cR vp vn nd va dp (fst er (fst (nE fs ns t) (ir fs ns (t.kids.take i)))))),(1,own 9 1 eS (sv vn) (ns)),(3,bh b3 61 (dT t))]) (fun i=> [(0,ce t.v t.kids),(1,cx vp fs),(2,sl 4 dT (sv t.v) t.kids),(3,sl 3 ip (sv vp) fs)]) (fun i=>t.kids.length-i) 0 (br _) J (by rw [show ir fs ns (t.kids.take 0)=0 by simp [ir],cN];rfl) J (fun i n1=> ?_);refine ap (aw J J cr (aa (a_ (ai J (fun h5=> ?_) (fun h5=> ?_)))))
  ·(try simp only [bj]at h5);have hi:i<t.kids.length:=by omega
   obtain⟨kid,hkid⟩:∃k,t.kids[i]?=some k:=⟨_,bN hi⟩
   have hkm:=bT hkid;refine az (a_ (aB (ap (aP (aN (j:=i) underlying59 cl J J (aK (k:=2) J) (by first|rfl|omega) (by first|omega|(simp;done)|(simp;omega))) (aP (aM cl J J J (bA (aK (k:=2) J) (by intro _;rfl) hkid (by rfl))) (aY cl J J fun b6=>aq (k:=6) cl J J J J J J (aa (am (ad J (aP (aM cl J J J (aX (k:=6) J)) (aZ 0 8 J (dD hkm) (aj (xs:= [.tmp 48,.tmp 49]) (ih kid hkm (fst er (fst (nE fs ns t) (ir fs ns (t.kids.take i))))) Ls [0,1] [(false,8),(false,1)] [0,1] (fun _ _=>aa (am (aw J J aO (ad J (aa ?_)))))))))))))))));refine aJ (i+1) ⟨by omega,by omega⟩ J (by rw [mz hkid];simp only [gE];rfl) J
  ·(try simp only [bj]at h5);have hi:i=t.kids.length:=by omega
   subst hi;rw [cS,←CB];refine bF (cm () O J gn J [0,1] [] J J J)
theorem vv(c:Nat)(vp vn:SV)(nd va:Int)(dp:Bool)(fs:List Tf)(hfl:fs.length≤1000000)(ns:List Ba)(hns:ns.length≤1000000):∀(n:Nat)(t:Tx),SizeOf.sizeOf t<n→GX t→∀er:Int,bi prog 166 [Pt c,xV t] [bh c 165 (cR vp vn nd va dp er),own 9 1 eS (sv vn) ns] [ce t.v t.kids,cx vp fs] (.tuple #[]) [bh c 165 (cR vp vn nd va dp (fst er (eX fs ns t))),own 9 1 eS (sv vn) ns]
 | 0,_,h,_=>absurd h (Nat.not_lt_zero _)
 | n+1,t,h,ht=>A0 c vp vn nd va dp fs hfl ns hns t ht fun u hu=>vv c vp vn nd va dp fs hfl ns hns n u (by have:=qy hu;omega) ((kx ht).mem u hu)
theorem A1(c:Nat)(vp vn:SV)(nd va:Int)(dp:Bool)(fs:List Tf)(hfl:fs.length≤1000000)(ns:List Ba)(hns:ns.length≤1000000)(t:Tx)(ht:GX t)(er:Int):bi prog 166 [Pt c,xV t] [bh c 165 (cR vp vn nd va dp er),own 9 1 eS (sv vn) ns] [ce t.v t.kids,cx vp fs] (.tuple #[]) [bh c 165 (cR vp vn nd va dp (fst er (eX fs ns t))),own 9 1 eS (sv vn) ns]:=vv c vp vn nd va dp fs hfl ns hns _ t (Nat.lt_succ_self _) ht er
theorem yP(c:Nat)(vp vn:SV)(nd va:Int)(dp:Bool)(fs:List Tf)(hfl:fs.length≤1000000)(v:SV)(l:List Ty)(hl:l.length≤1000000)(hg:GYs l)(ihb:∀u∈l,(∀(vn:SV)(ns:List Ba)(er:Int),ns.length+dg u.body≤1000000→Spec prog 129 [Pt c,sv u.vb] [bh c 165 (cR vp vn nd va dp er),own 9 1 eS (sv vn) ns] [bV u.vb u.body,cx vp fs] (X:=SV) (fun _=>True) (fun _=> .tuple #[]) (fun x=> [bh c 165 (cR vp x nd va dp (fst er (cV fs ns u.body).2)),own 9 1 eS (sv x) (cV fs ns u.body).1]) (fun _=> [])))(ihe:∀u∈l,(∀(vn:SV)(ns:List Ba)(er:Int),ns.length+dg u.els≤1000000→Spec prog 129 [Pt c,sv u.vl] [bh c 165 (cR vp vn nd va dp er),own 9 1 eS (sv vn) ns] [bV u.vl u.els,cx vp fs] (X:=SV) (fun _=>True) (fun _=> .tuple #[]) (fun x=> [bh c 165 (cR vp x nd va dp (fst er (cV fs ns u.els).2)),own 9 1 eS (sv x) (cV fs ns u.els).1]) (fun _=> [])))(ns:List Ba)(er:Int)(hnv:ns.length+dg l≤1000000):
  Spec prog 129 [Pt c,sv v] [bh c 165 (cR vp vn nd va dp (er)),own 9 1 eS (sv vn) (ns)] [bV v l,cx vp fs] (X:=SV) (fun _=>True) (fun _=> .tuple #[]) (fun x=> [bh c 165 (cR vp x nd va dp (fst er (cV fs ns l).2)),own 9 1 eS (sv x) ((cV fs ns l).1)]) (fun _=> []):=by
 refine aI func129 J ntmps129 J fun w0 M H=>aZ 0 2 J ic (ap (ad J (aP (aS underlying62 J (aK (k:=2) J)) (ad J (aa (aB (bC (X:=Nat×SV) (fun x=>x.1≤l.length) (fun x=> [(0,Pt c),(8,sv v),(9,I6 (l.length:Int)),(10,I6 (x.1:Int))]) (fun x=> [(0,bh c 165 (cR vp x.2 nd va dp (fst er (cV fs ns (l.take x.1)).2))),(1,own 9 1 eS (sv x.2) ((cV fs ns (l.take x.1)).1))]) (fun x=> [(0,bV v l),(1,cx vp fs),(2,sl 5 eE (sv v) l)]) (fun x=>l.length-x.1) (0,vn) (br _) J (by rw [show fst er (cV fs ns (l.take (0,vn).1)).2=er from cN er];rfl) J (fun x n1=> ?_))))))))
 obtain⟨i,vx⟩:=x;dsimp only at n1 ⊢;refine ap (aw J J cr (aa (a_ (ai J (fun h1=> ?_) (fun h1=> ?_)))))
 ·(try simp only [bj]at h1);have hi:i<l.length:=by omega
  obtain⟨st,hst⟩:∃k,l[i]?=some k:=⟨_,bN hi⟩
  have hsm:=bT hst;have hsy:=hg.mem st hsm;have hsg:=pn hsy;have hbl:=lC fs ns (l.take i);have hvt:=qx hst;have hve:=EE st;have hni:(cV fs ns (l.take i)).1.length≤1000000:=by omega
  refine aZ 0 7 J (kZ hsm) (aZ 0 8 J (gS hsm) (aZ 0 9 J (iO hsm) (aZ 7 10 J gd (az (a_ (aB (ap (aP (aN (j:=i) underlying62 dK J J (aK (k:=2) J) (by first|rfl|omega) (by first|omega|(simp;done)|(simp;omega))) (aP (aM dK J J J (bA (aK (k:=2) J) (by intro _;rfl) hst (by rfl))) (aY dK J J fun b5=>aq (k:=5) dK J J J J J J (aa (bx (X:=Unit) (fun _=>True) (fun _=> [(0,Pt c),(8,sv v),(9,I6 (l.length:Int)),(10,I6 (i:Int)),(5,Pt b5)]) (fun _=> [(0,bh c 165 (cR vp vx nd va dp (fst (fst er (cV fs ns (l.take i)).2) (aE ((cV fs ns (l.take i)).1) st)))),(1,own 9 1 eS (sv vx) ((cV fs ns (l.take i)).1)),(5,bh b5 64 (eE st))]) (fun _=> [(0,bV v l),(1,cx vp fs),(2,sl 5 eE (sv v) l),(7,ce st.ve st.es),(8,bV st.vb st.body),(9,bV st.vl st.els),(10,sl 4 dT (sv st.ve) st.es)]) ?_ (fun _ _=> ?_)))))))))))))
  ·refine ap (aC eM J (aQ 5 t3 J J J J (aw J J bn (aa (ai J (fun h2=> ?_) (fun h2=> ?_))))))
   ·have q2:st.kind=2:=bW h2;refine am (ad J (aC iK J (aQ 5 t9 J J J J (aj (xs:= [.tmp 17,.tmp 19]) (vh c vp vx nd va dp (fst er (cV fs ns (l.take i)).2) ((cV fs ns (l.take i)).1) hni st.name) Lt [0,1] [] [0,1] (fun _ _=>aa (aJ () O J (by unfold aE;rw [ar q2];rfl) J))))))
   ·have q2:¬st.kind=2:=cg h2;refine az (aJ () O J (by unfold aE;rw [ae q2,cN];rfl) J)
  ·refine aT (aC gj J (aQ 5 jh J J J J (aP (aS underlying59 J (aK (k:=10) J)) (ad J (aa (aB ?_))))));refine bC (X:=Nat) (fun j=>j≤st.es.length) (fun j=> [(0,Pt c),(8,sv v),(9,I6 (l.length:Int)),(10,I6 (i:Int)),(5,Pt b5),(22,sv st.ve),(23,I6 (st.es.length:Int)),(24,I6 (j:Int))]) (fun j=> [(0,bh c 165 (cR vp vx nd va dp (fst (fst (fst er (cV fs ns (l.take i)).2) (aE ((cV fs ns (l.take i)).1) st)) (ir fs ((cV fs ns (l.take i)).1) (st.es.take j))))),(1,own 9 1 eS (sv vx) ((cV fs ns (l.take i)).1)),(5,bh b5 64 (eE st))]) (fun j=> [(0,bV v l),(1,cx vp fs),(2,sl 5 eE (sv v) l),(7,ce st.ve st.es),(8,bV st.vb st.body),(9,bV st.vl st.els),(10,sl 4 dT (sv st.ve) st.es)]) (fun j=>st.es.length-j) 0 (br _) J (by rw [show ir fs ((cV fs ns (l.take i)).1) (st.es.take 0)=0 by simp [ir],cN];rfl) J (fun j n2=> ?_);refine ap (aw J J cr (aa (a_ (ai J (fun h3=> ?_) (fun h3=> ?_)))))
   ·(try simp only [bj]at h3);have hj:j<st.es.length:=by omega
    obtain⟨kid,hkid⟩:∃k,st.es[j]?=some k:=⟨_,bN hj⟩
    have hkm:=bT hkid;refine az (a_ (aB (ap (aP (aN (j:=j) underlying59 cl J J (aK (k:=10) J) (by first|rfl|omega) (by first|omega|(simp;done)|(simp;omega))) (aP (aM cl J J J (bA (aK (k:=10) J) (by intro _;rfl) hkid (by rfl))) (aY cl J J fun b7=>aq (k:=7) cl J J J J J J (aa (am (ad J (aP (aM cl J J J (aX (k:=7) J)) (aZ 7 12 J (dD hkm) (aj (xs:= [.tmp 28,.tmp 29]) (A1 c vp vx nd va dp fs hfl ((cV fs ns (l.take i)).1) hni kid (hsg.2.mem kid hkm) (fst (fst (fst er (cV fs ns (l.take i)).2) (aE ((cV fs ns (l.take i)).1) st)) (ir fs ((cV fs ns (l.take i)).1) (st.es.take j)))) Ls [0,1] [(false,12),(false,1)] [0,1] (fun _ _=>aa (am (aw J J aO (ad J (aa ?_)))))))))))))))));refine aJ (j+1) ⟨by omega,by omega⟩ J (by rw [mz hkid];simp only [gE];rfl) J
   ·(try simp only [bj]at h3);have hj:j=st.es.length:=by omega
    subst hj;rw [cS];refine bF (bx (X:=SV) (fun _=>True) (fun vd=> [(0,Pt c),(8,sv v),(9,I6 (l.length:Int)),(10,I6 (i:Int)),(5,Pt b5)]) (fun vd=> [(0,bh c 165 (cR vp vd nd va dp (fst (fst (fst (fst er (cV fs ns (l.take i)).2) (aE ((cV fs ns (l.take i)).1) st)) (ir fs ((cV fs ns (l.take i)).1) (st.es))) (dE ((cV fs ns (l.take i)).1) st)))),(1,own 9 1 eS (sv vd) (dN ((cV fs ns (l.take i)).1) st)),(5,bh b5 64 (eE st))]) (fun vd=> [(0,bV v l),(1,cx vp fs),(2,sl 5 eE (sv v) l),(7,ce st.ve st.es),(8,bV st.vb st.body),(9,bV st.vl st.els),(10,sl 4 dT (sv st.ve) st.es)]) ?_ (fun vd _=> ?_))
    ·refine ap (aC eM J (aQ 5 t3 J J J J (aw J J bn (aa (ai J (fun h4=> ?_) (fun h4=> ?_))))))
     ·have q1:st.kind=1:=bW h4;refine am (ad J (aC iK J (aQ 5 t9 J J J J (aj (xs:= [.tmp 35,.tmp 37]) (tD c vp vx nd va dp (fst (fst (fst er (cV fs ns (l.take i)).2) (aE ((cV fs ns (l.take i)).1) st)) (ir fs ((cV fs ns (l.take i)).1) (st.es))) ((cV fs ns (l.take i)).1) hni st.name) LE [0,1] [] [0,1] (fun vd _=>aa (aJ vd O J (by unfold dE dN;rw [ar q1,ar q1];rfl) J))))))
     ·have q1:¬st.kind=1:=cg h4;refine az (aJ vx O J (by unfold dE dN;rw [ae q1,ae q1,cN];rfl) J)
    ·refine ap (ad J (aC ft J (aQ 5 iP J J J J (aj (xs:= [.tmp 39,.tmp 41]) (ihb st hsm vd (dN ((cV fs ns (l.take i)).1) st) (fst (fst (fst (fst er (cV fs ns (l.take i)).2) (aE ((cV fs ns (l.take i)).1) st)) (ir fs ((cV fs ns (l.take i)).1) (st.es))) (dE ((cV fs ns (l.take i)).1) st)) (by rw [w_];omega)) Hm [0,1] [(false,8),(false,1)] [0,1] (fun v1 _=>aa (am (ad J (aC fq J (aQ 5 iP J J J J (aj (xs:= [.tmp 43,.tmp 45]) (ihe st hsm v1 (cV fs (dN ((cV fs ns (l.take i)).1) st) st.body).1 (fst (fst (fst (fst (fst er (cV fs ns (l.take i)).2) (aE ((cV fs ns (l.take i)).1) st)) (ir fs ((cV fs ns (l.take i)).1) (st.es))) (dE ((cV fs ns (l.take i)).1) st)) (cV fs (dN ((cV fs ns (l.take i)).1) st) st.body).2) (by rw [lC,w_];omega)) Hm [0,1] [(false,9),(false,1)] [0,1] (fun v2 _=>aa (am (aw J J aO (ad J (aa ?_)))))))))))))));refine aJ (i+1,v2) ⟨by dsimp only;omega,by dsimp only;omega⟩ J (by dsimp only;rw [tM hst,vB];simp only [gE];rfl) J
 ·(try simp only [bj]at h1);have hi:i=l.length:=by omega
  subst hi;rw [cS];refine bF (cm vx O J gn J [0,1] [] J J J)
theorem nT(c:Nat)(vp:SV)(nd va:Int)(dp:Bool)(fs:List Tf)(hfl:fs.length≤1000000):∀(n:Nat)(v:SV)(l:List Ty),SizeOf.sizeOf l<n→l.length≤1000000→GYs l→(∀(vn:SV)(ns:List Ba)(er:Int),ns.length+dg l≤1000000→Spec prog 129 [Pt c,sv v] [bh c 165 (cR vp vn nd va dp er),own 9 1 eS (sv vn) ns] [bV v l,cx vp fs] (X:=SV) (fun _=>True) (fun _=> .tuple #[]) (fun x=> [bh c 165 (cR vp x nd va dp (fst er (cV fs ns l).2)),own 9 1 eS (sv x) (cV fs ns l).1]) (fun _=> []))
 | 0,_,_,h,_,_=>absurd h (Nat.not_lt_zero _)
 | n+1,v,l,h,hl,hg=>fun vn ns er hnv=>by
  have key:∀u∈l,SizeOf.sizeOf u.body<n∧SizeOf.sizeOf u.els<n:=fun u hu=>by
   have h1:=List.sizeOf_lt_of_mem hu;have h2:SizeOf.sizeOf u.body<SizeOf.sizeOf u∧SizeOf.sizeOf u.els<SizeOf.sizeOf u:=by
    cases u;simp only [Ty.mk.sizeOf_spec,Ty.body,Ty.els];omega
   omega
  exact yP c vp vn nd va dp fs hfl v l hl hg (fun u hu=>nT c vp nd va dp fs hfl n u.vb u.body (key u hu).1 (eW (hg.mem u hu)).1 (eW (hg.mem u hu)).2) (fun u hu=>nT c vp nd va dp fs hfl n u.vl u.els (key u hu).2 (gk (hg.mem u hu)).1 (gk (hg.mem u hu)).2) ns er hnv
theorem yQ(c:Nat)(vp:SV)(nd va:Int)(dp:Bool)(fs:List Tf)(hfl:fs.length≤1000000)(v:SV)(l:List Ty)(hl:l.length≤1000000)(hg:GYs l):(∀(vn:SV)(ns:List Ba)(er:Int),ns.length+dg l≤1000000→Spec prog 129 [Pt c,sv v] [bh c 165 (cR vp vn nd va dp er),own 9 1 eS (sv vn) ns] [bV v l,cx vp fs] (X:=SV) (fun _=>True) (fun _=> .tuple #[]) (fun x=> [bh c 165 (cR vp x nd va dp (fst er (cV fs ns l).2)),own 9 1 eS (sv x) (cV fs ns l).1]) (fun _=> [])):=nT c vp nd va dp fs hfl _ v l (Nat.lt_succ_self _) hl hg
theorem w9:∀(ns a b:List Ba),qU ns (a++b)=fst (qU ns a) (qU (ns++a) b)
 | ns,[],b=>by simp [qU,fst]
 | ns,x::r,b=>by
  rw [List.cons_append,qU,w9 (ns++ [x]) r b,qU,gE,List.append_assoc];rfl
theorem tx{l:List Ba}{i:Nat}{x:Ba}(h:l[i]?=some x):qU [] (l.take (i+1))=fst (qU [] (l.take i)) (if cn x (l.take i)=true then 22 else 0):=by
 rw [cj h,w9];show fst _ (fst (if cn x ([]++l.take i)=true then 22 else 0) 0)=_;rw [cN,List.nil_append]
def rW(f:Tf):Prop:=f.ps.length>4∨f.ps.length+dg f.body>12∨cB f.body>400∨dC 1 f.body=true
instance(f:Tf):Decidable (rW f):=by unfold rW;exact inferInstance
theorem m4(fs:List Tf)(f:Tf):kD fs f=fst (if rW f then 2 else 0) (fst (qU [] f.ps) (cV fs f.ps f.body).2):=rfl
theorem Rj{f:Tf}{er:Int}{dp:Bool}(hdp:dp=true→er≠0)(h:(decide ((f.ps.length:Int)>4) || decide ((f.ps.length:Int)+(dg f.body:Int)>12) || decide (0+(cB f.body:Int)>400) || (dp || dC 1 f.body))=true):fst er 2=fst er (if rW f then 2 else 0):=by
 by_cases hb:rW f
 ·rw [ar hb]
 ·rw [ae hb,cN];unfold rW at hb;have hd:dp=true:=by
   cases hd:dp with
   | true=>rfl
   | false=>
    exfalso;apply hb;rw [hd,Bool.false_or]at h;simp only [Bool.or_eq_true,decide_eq_true_eq]at h;rcases h with((h|h)|h)|h
    ·exact .inl (by omega)
    ·exact .inr (.inl (by omega))
    ·exact .inr (.inr (.inl (by omega)))
    ·exact .inr (.inr (.inr h))
  exact ae (hdp hd)
theorem Rm{f:Tf}{er:Int}{dp:Bool}(h:(decide ((f.ps.length:Int)>4) || decide ((f.ps.length:Int)+(dg f.body:Int)>12) || decide (0+(cB f.body:Int)>400) || (dp || dC 1 f.body))=false):er=fst er (if rW f then 2 else 0):=by
 simp only [Bool.or_eq_false_iff,decide_eq_false_iff_not]at h;have hb:¬rW f:=by
  unfold rW;rintro (h1|h1|h1|h1)
  ·omega
  ·omega
  ·omega
  ·rw [h.2.2]at h1;cases h1
 rw [ae hb,cN]
theorem G4{fs:List Tf}{f:Tf}{er:Int}{dp:Bool}(hdp:dp=true→er≠0)(h:(dp || dC 1 f.body)=true):fst er (kD fs f)≠0:=by
 intro h2;obtain⟨h3,h4⟩:=bw.1 h2;rw [m4]at h4;have h5:=(bw.1 h4).1;have hb:¬rW f:=fun hb=>by rw [ar hb]at h5;cases h5
 cases hd:dp with
 | true=>exact hdp hd h3
 | false=>
  rw [hd,Bool.false_or]at h;exact hb (.inr (.inr (.inr h)))
theorem qt(fs:List Tf):∀a b:List Tf,gt fs (a++b)=fst (gt fs a) (gt fs b)
 | [],b=>rfl
 | t::r,b=>by rw [List.cons_append,gt,qt fs r b,gt,gE]
theorem lz{fs l:List Tf}{i:Nat}{f:Tf}(h:l[i]?=some f):gt fs (l.take (i+1))=fst (gt fs (l.take i)) (kD fs f):=by
 rw [cj h,qt];show fst _ (fst (kD fs f) 0)=_;rw [cN]
theorem oz{fs:List Tf}:once fs=true↔∀(i:Nat)(f:Tf),fs[i]?=some f→ti fs f.name=(i:Int):=by
 unfold once;rw [List.all_eq_true];constructor
 ·intro h i f hf;obtain⟨hi,hf2⟩:=cJ.1 hf;have:=h i (List.mem_range.2 hi);rw [List.getD_eq_getElem?_getD,hf]at this;simpa using this
 ·intro h i hi;have hi:=List.mem_range.1 hi;have h2:=bN hi;have:=h i _ h2;rw [List.getD_eq_getElem?_getD,h2];simpa using this
theorem BI{fs:List Tf}{i:Nat}{f:Tf}(hf:fs[i]?=some f)(h:¬ti fs f.name=(i:Int)):once fs=false:=by
 rw [Bool.eq_false_iff];exact fun h2=>h (oz.1 h2 i f hf)
theorem Qa{fs:List Tf}(h:rP fs=false):iA fs=1:=ar h
theorem P_{fs:List Tf}(h:rP fs=true)(h2:fs.length>16):iA fs=2:=by
 unfold iA;rw [ae (by rw [h];simp),ar h2]
theorem Ha{fs:List Tf}(h:rP fs=true)(h2:¬fs.length>16)(h3:once fs=false):iA fs=22:=by
 unfold iA;rw [ae (by rw [h];simp),ae h2,ar h3]
theorem Hb{fs:List Tf}(h:rP fs=true)(h2:¬fs.length>16)(h3:once fs=true)(h4:cy fs dM=none):iA fs=21:=by
 unfold iA;rw [ae (by rw [h];simp),ae h2,ae (by rw [h3];simp),h4]
theorem G_{fs:List Tf}{f:Tf}(h:rP fs=true)(h2:¬fs.length>16)(h3:once fs=true)(h4:cy fs dM=some f)(h5:f.ps.length>0):iA fs=23:=by
 unfold iA;rw [ae (by rw [h];simp),ae h2,ae (by rw [h3];simp),h4];exact ar h5
theorem yL{fs:List Tf}{f:Tf}(h:rP fs=true)(h2:¬fs.length>16)(h3:once fs=true)(h4:cy fs dM=some f)(h5:¬f.ps.length>0):iA fs=gt fs fs:=by
 unfold iA;rw [ae (by rw [h];simp),ae h2,ae (by rw [h3];simp),h4];exact ae h5
theorem AZ(c:Nat)(vp vn:SV)(nd va:Int)(dp:Bool)(er:Int)(ns:List Ba)(fs:List Tf)(hfl:fs.length≤1000000)(f:Tf)(hg:GF f)(hdp:dp=true→er≠0):
  Spec prog 83 [Pt c,Iq f] [bh c 165 (cR vp (vn) (nd) (va) (dp) (er)),own 9 1 eS (sv vn) (ns)] [Bn f,cx vp fs] (X:=SV) (fun _=>True) (fun _=> .tuple #[]) (fun x=> [bh c 165 (cR vp (x) (0+(cB f.body:Int)) ((f.ps.length:Int)+(dg f.body:Int)) (dp || dC 1 f.body) (fst er (kD fs f))),own 9 1 eS (sv x) ((cV fs f.ps f.body).1)]) (fun _=> []):=by
 refine aI func83 J ntmps83 J fun w0 M H=> ?_
 obtain⟨g1,g2,g3,g4,g5,g6⟩:=hg;have hvl:=jd f.body;refine aZ 0 2 J ma (aZ 0 3 J k8 (ap (ck J J fun b3=>aa (a_ ?_))));refine Bx [0,1,2,3,4,5,6,7,8,9,10,11,12,13,14] [0,7,11,1,2,3,4,5,6,8,9,10,12,13,14] [6,7,8,9,10,11,12,13,14,15,16,17] _ J J J (bE (V:= [(0,6,_),(1,7,_),(2,8,_),(3,9,_),(4,10,_),(5,11,_),(6,12,_),(7,13,_)]) [0,1,2,3,4,5,6,7] 8 [8,7,6,0] [9,10] (fun _=> [(9,14,_),(10,15,_)]) J J (aD J J (aD J J (aD J J (ac J (ag d6 J) (ac J (ah gO J J (ay (k:=3) J J)) (ac J (aS underlying46 J (aK (k:=2) J)) (ac J (au J) (ac J (ag oU J) av)))))))) J J J J J J J J J (fun _ _=>J) J (c9 (k:=0) gO J J J J J J J J) (fun _ _=>bE [9,10,1,2,3,4,5] 11 [11,10,9,8,7,6,1,0] [12,13] (fun _=> [(12,16,_),(13,17,_)]) J J (ac J (au J) (ac J (ag mT J) (aD J J (aD J J (ac J (ag d6 J) (ac J (ah gO J J (ay (k:=3) J J)) (ac J (aS underlying46 J (aK (k:=2) J)) av))))))) J J J J J J J J J (fun _ _=>J) J (c9 (k:=0) t3 J J J J J J J J) (fun _ _=>bE [12,13,2,3,4,5] 14 [14,13,12,11,10,9,8,7,6,5,4,3,2,1,0] [] (fun _=> []) J J (ac J (au J) (ac J (ag rK J) (aD J J (ac J (ag d6 J) (ac J (ah gO J J (ay (k:=3) J J)) (ac J (aS underlying46 J (aK (k:=2) J)) av)))))) J J J J J J J J J (fun _ _=>J) J (c9 (k:=0) t3 J J J J J J J J) (fun _ _=>bl [] J J av J J J ?_))));refine cZ 1 (α:=Ba) (S:=9) (s:=1) (enc:=eS) (ap (ad J (aC jl J (aQ 3 iP J J J J (aj (xs:= [.tmp 18,.tmp 20,.const (I6 1)]) (AT c vp bk er f.vb f.body g4 g5 1 0 (f.ps.length:Int) dp (by omega) (by omega) (by omega) (by omega) (by omega)) Hn [0] [(false,3)] [0] (fun _ _=>aa (bx (X:=Unit) (fun _=>True) (fun _=> [(0,Pt c),(3,Pt b3)]) (fun _=> [(0,bh c 165 (cR vp (bk) (0+(cB f.body:Int)) ((f.ps.length:Int)+(dg f.body:Int)) (dp || dC 1 f.body) (fst er (if rW f then 2 else 0)))),(1,own 9 1 eS (sv bk) ([])),(3,bh b3 66 (ip f))]) (fun _=> [(0,Bn f),(1,cx vp fs),(2,sl 1 eS (sv f.vp) f.ps),(3,bV f.vb f.body)]) ?_ (fun _ _=> ?_))))))))
 ·refine ap (aC d6 J (aQ 3 gO J J J J (aP (aS underlying46 J (aK (k:=2) J)) (aw J J ec (ad J (aG [] J J O (fun hg1=>bc J) J (aG [(27,_)] J J ⟨J,O⟩ (fun hg2=>au J) J (aG [(27,_),(28,_)] J J ⟨J,J,O⟩ (fun hg3=>ag rK J) J (aG [(27,_),(28,_),(29,_)] J J ⟨J,J,J,O⟩ (fun hg4=>ah t3 J J (ay (k:=0) J J)) J (aG [(27,_),(28,_),(29,_),(30,_)] J J ⟨J,J,J,J,O⟩ (fun hg5=>aR J J ec) J (aP (bH J J J) (ad J (aG [] J J O (fun hg6=>bc J) J (aG [(34,_)] J J ⟨J,O⟩ (fun hg7=>au J) J (aG [(34,_),(35,_)] J J ⟨J,J,O⟩ (fun hg8=>ag mT J) J (aG [(34,_),(35,_),(36,_)] J J ⟨J,J,J,O⟩ (fun hg9=>ah t3 J J (ay (k:=0) J J)) J (aG [(34,_),(35,_),(36,_),(37,_)] J J ⟨J,J,J,J,O⟩ (fun hg10=>aR J J ec) J (aP (bH J J J) ?_))))))))))))))))));refine ad J (aG [] J J O (fun hg11=>bc J) J (aG [(41,_)] J J ⟨J,O⟩ (fun hg12=>au J) J (aG [(41,_),(42,_)] J J ⟨J,J,O⟩ (fun hg13=>ag oT J) J (aG [(41,_),(42,_),(43,_)] J J ⟨J,J,J,O⟩ (fun hg14=>ah t4 J J (ay (k:=0) J J)) J (aP (bH J J J) (aa (ai J (fun h15=> ?_) (fun h15=> ?_))))))))
  ·have hq:=h15;refine am (ad J (aj (xs:= [.tmp 46,.const (I6 2)]) (jV c vp bk (0+(cB f.body:Int)) ((f.ps.length:Int)+(dg f.body:Int)) (dp || dC 1 f.body) er 2) yT [0] [] [0] (fun _ _=>aa (aJ () O J (by rw [←Rj hdp hq];rfl) J))))
  ·have hq:=h15;refine az (aJ () O J (by rw [←Rm hq];rfl) J)
 ·refine aT (aC d6 J (aQ 3 gO J J J J (aP (aS underlying46 J (aK (k:=2) J)) (ad J (aa (aB (bC (X:=Nat×SV) (fun x=>x.1≤f.ps.length) (fun x=> [(0,Pt c),(3,Pt b3),(49,sv f.vp),(50,I6 (f.ps.length:Int)),(51,I6 (x.1:Int))]) (fun x=> [(0,bh c 165 (cR vp (x.2) (0+(cB f.body:Int)) ((f.ps.length:Int)+(dg f.body:Int)) (dp || dC 1 f.body) (fst (fst er (if rW f then 2 else 0)) (qU [] (f.ps.take x.1))))),(1,own 9 1 eS (sv x.2) (f.ps.take x.1)),(3,bh b3 66 (ip f))]) (fun x=> [(0,Bn f),(1,cx vp fs),(2,sl 1 eS (sv f.vp) f.ps),(3,bV f.vb f.body)]) (fun x=>f.ps.length-x.1) (0,bk) (br _) J (by rw [show fst (fst er (if rW f then 2 else 0)) (qU [] (f.ps.take (0,bk).1))=fst er (if rW f then 2 else 0)from cN _];rfl) J (fun x n1=> ?_))))))));obtain⟨i,v⟩:=x;dsimp only at n1 ⊢;refine ap (aw J J cr (aa (a_ (ai J (fun h16=> ?_) (fun h16=> ?_)))))
  ·(try simp only [bj]at h16);have hi:i<f.ps.length:=by omega
   obtain⟨x,hx⟩:∃k,f.ps[i]?=some k:=⟨_,bN hi⟩
   refine az (a_ (aB (ap (aP (aN (j:=i) underlying46 t9 J J (aK (k:=2) J) (by first|rfl|omega) (by first|omega|(simp;done)|(simp;omega))) (aP (ah t9 J J (bA (aK (k:=2) J) (by intro _;rfl) hx (by rfl))) (ak J (aa (am (ad J (ad J (aj (xs:= [.tmp 55,.tmp 56]) (tD c vp v (0+(cB f.body:Int)) ((f.ps.length:Int)+(dg f.body:Int)) (dp || dC 1 f.body) (fst (fst er (if rW f then 2 else 0)) (qU [] (f.ps.take i))) (f.ps.take i) (by rw [List.length_take];omega) x) LE [0,1] [] [0,1] (fun v2 _=>aa (am (aw J J aO (ad J (aa ?_))))))))))))))));refine aJ (i+1,v2) ⟨by dsimp only;omega,by dsimp only;omega⟩ J (by dsimp only;rw [tx hx,cj hx];simp only [gE];rfl) J
  ·(try simp only [bj]at h16);have hi:i=f.ps.length:=by omega
   subst hi;rw [cS];refine bF (am (ad J (aC jl J (aQ 3 iP J J J J (aj (xs:= [.tmp 59,.tmp 61]) (yQ c vp (0+(cB f.body:Int)) ((f.ps.length:Int)+(dg f.body:Int)) (dp || dC 1 f.body) fs hfl f.vb f.body g4 g5 v f.ps (fst (fst er (if rW f then 2 else 0)) (qU [] f.ps)) (by omega)) Hm [0,1] [(false,3),(false,1)] [0,1] (fun v3 _=>aa ?_))))));rw [show fst er (kD fs f)=fst (fst (fst er (if rW f then 2 else 0)) (qU [] f.ps)) (cV fs f.ps f.body).2 by rw [m4];simp only [gE]];refine cm v3 O J gn J [0,1] [] J J J
theorem AY(vp:SV)(fs:List Tf)(hg:GP fs):
  bi prog 48 [.agg #[sv vp]] [] [cx vp fs] (I6 (iA fs)) []:=by
 refine aI func48 J ntmps48 J fun w0 M H=>aZ 0 1 J jG ?_
 have hfl:=hg.1;refine ap (ck J J fun b1=>ak J (aa (aT (aP (aM jB J J J (aX (k:=1) J)) (aj (xs:= [.tmp 9]) (zN vp fs hg) Tg [] [(false,0)] [] (fun _ _=>aP (cz J) (aa (ai J (fun h1=> ?_) (fun h1=> ?_)))))))))
 ·have hr:rP fs=false:=by simpa using h1
  refine ap (ak J (aa (ax (aH () O J (bQ (aL J)) (by rw [Qa hr]) [] [] J J J))))
 ·have hr:rP fs=true:=by simpa using h1
  refine az (aT (aC dJ J (aQ 1 iB J J J J (aP (aS underlying25 J (aK (k:=1) J)) (aw J J ec (aa (ai J (fun h2=> ?_) (fun h2=> ?_))))))))
  ·(try simp only [bj]at h2);refine ap (ak J (aa (ax (aH () O J (bQ (aL J)) (by rw [P_ hr (by omega)]) [] [] J J J))))
  ·(try simp only [bj]at h2);refine az (ap (aP (aM jB J J J (aX (k:=1) J)) (aP (aU (parts:= [(0,.tmp 16)]) RZ Ph J J) (ck J J fun b18=>ak J (aa (aT (aC dJ J (aQ 1 iB J J J J (aP (aS underlying25 J (aK (k:=1) J)) (ad J (aa (aB ?_))))))))))));refine bC (X:=Nat) (fun i=>i≤fs.length∧∀j f,j<i→fs[j]?=some f→ti fs f.name=(j:Int)) (fun i=> [(1,Pt b1),(2,I6 0),(3,Pt b18),(20,sv vp),(21,I6 (fs.length:Int)),(22,I6 (i:Int))]) (fun i=> [(1,bh b1 27 [sv vp]),(18,bh b18 165 (cR vp bk 0 0 false 0))]) (fun i=> [(0,cx vp fs),(1,sl 3 ip (sv vp) fs)]) (fun i=>fs.length-i) 0 ⟨br _,fun j f hj=>by omega⟩ J J J (fun i hx0=> ?_);obtain⟨n1,n2⟩:=hx0;refine ap (aw J J cr (aa (a_ (ai J (fun h3=> ?_) (fun h3=> ?_)))))
   ·(try simp only [bj]at h3);have hi:i<fs.length:=by omega
    obtain⟨f,hst⟩:∃k,fs[i]?=some k:=⟨_,bN hi⟩
    refine az (a_ (aB (ap (ad J (aP (aN (j:=i) underlying25 fj J J (aK (k:=1) J) (by first|rfl|omega) (by first|omega|(simp;done)|(simp;omega))) (aP (aM fj J J J (bA (aK (k:=1) J) (by intro _;rfl) hst (by rfl))) (aY fj J J fun b5=>ak J (aq (k:=5) fj J J J J J J (aF J (ad J (aC kC J (aQ 5 t9 J J J J (aj (xs:= [.tmp 27,.tmp 29]) (nS b18 vp bk 0 0 false 0 f.name fs hfl) NR [18] [(false,1)] [18] (fun _ _=>ad J (aw J J eD ?_)))))))))))))));refine aa (ai J (fun h4=> ?_) (fun h4=> ?_))
    ·have hne:¬ti fs f.name=(i:Int):=by simpa using h4
     refine ap (ak J (aa (ax (aH () O J (bQ (aL J)) (by rw [Ha hr (by omega) (BI hst hne)]) [] [] J J J))))
    ·have hne:ti fs f.name=(i:Int):=by simpa using h4
     refine az (am (aw J J aO (ad J (aa ?_))));refine aJ (i+1) ⟨⟨by omega,fun j f2 hj hf2=>by rcases Nat.lt_succ_iff_lt_or_eq.1 hj with h|h;exact n2 j f2 h hf2;subst h;rw [hst]at hf2;cases hf2;exact hne⟩,by omega⟩ J J J
   ·(try simp only [bj]at h3);have hi:i=fs.length:=by omega
    subst hi;have ho:once fs=true:=oz.2 fun j f hf=>n2 j f (cJ.1 hf).1 hf
    refine bF (ap (ad J (aj (xs:= [.tmp 34,.const (Sg (ByteArray.mk #[109,97,105,110]))]) (nS b18 vp bk 0 0 false 0 dM fs hfl) NR [18] [(false,1)] [18] (fun _ _=>ak J (aa (aT (ad J (aw J J cr (aa (ai J (fun h5=> ?_) (fun h5=> ?_)))))))))))
    ·(try simp only [bj]at h5);have hm:cy fs dM=none:=em.1.1 h5;refine ap (ak J (aa (ax (aH () O J (bQ (aL J)) (by rw [Hb hr (by omega) ho hm]) [] [] J J J))))
    ·(try simp only [bj]at h5);obtain⟨f,hm⟩:∃f,cy fs dM=some f:=by
      cases hf:cy fs dM with
      | none=>exact absurd (em.1.2 hf) (by omega)
      | some f=>exact⟨f,rfl⟩
     obtain⟨j,hj1,hj2⟩:=em.2 f hm;have hjl:=(cJ.1 hj2).1;rw [hj1];refine aZ 0 7 J (l_ (io hm)) (aZ 7 9 J ma (az (aT (aC dJ J (aQ 1 iB J J J J (ad J (aP (aN (j:=j) underlying25 fj J J (aK (k:=1) J) J hjl) (aP (ek d6 J) (aP (ah gO J J (ko (aK (k:=1) J) (by intro _;rfl) hj2 J)) (aP (aS underlying46 J (aK (k:=9) J)) (aw J J ec (aa (ai J (fun h6=> ?_) (fun h6=> ?_))))))))))))))
     ·(try simp only [bj]at h6);refine ap (ak J (aa (ax (aH () O J (bQ (aL J)) (by rw [G_ hr (by omega) ho hm (by omega)]) [] [] J J J))))
     ·(try simp only [bj]at h6);refine az (aT (aC dJ J (aQ 1 iB J J J J (aP (aS underlying25 J (aK (k:=1) J)) (ad J (aa (aB (cZ 19 (α:=Ba) (S:=9) (s:=1) (enc:=eS) ?_))))))));refine bC (X:=Nat×SV×List Ba×Int×Int×Bool) (fun x=>x.1≤fs.length∧(x.2.2.2.2.2=true→gt fs (fs.take x.1)≠0)) (fun x=> [(1,Pt b1),(2,I6 0),(3,Pt b18),(47,sv vp),(48,I6 (fs.length:Int)),(49,I6 (x.1:Int))]) (fun x=> [(18,bh b18 165 (cR vp x.2.1 x.2.2.2.1 x.2.2.2.2.1 x.2.2.2.2.2 (gt fs (fs.take x.1)))),(19,own 9 1 eS (sv x.2.1) x.2.2.1)]) (fun x=> [(0,cx vp fs),(1,sl 3 ip (sv vp) fs)]) (fun x=>fs.length-x.1) (0,bk,[],0,0,false) ⟨br _,fun h=>by cases h⟩ J J J (fun x hx0=> ?_);obtain⟨i,v,ns,nd,va,dp⟩:=x;obtain⟨n1,n2⟩:=hx0;dsimp only at n1 n2 ⊢;refine ap (aw J J cr (aa (a_ (ai J (fun h7=> ?_) (fun h7=> ?_)))))
      ·(try simp only [bj]at h7);have hi:i<fs.length:=by omega
       obtain⟨f,hst⟩:∃k,fs[i]?=some k:=⟨_,bN hi⟩
       refine az (a_ (aB (ap (aP (aN (j:=i) underlying25 fj J J (aK (k:=1) J) (by first|rfl|omega) (by first|omega|(simp;done)|(simp;omega))) (aP (aM fj J J J (bA (aK (k:=1) J) (by intro _;rfl) hst (by rfl))) (aY fj J J fun b8=>aq (k:=8) fj J J J J J J (aa (am (ad J (aP (aM fj J J J (aX (k:=8) J)) (aZ 0 11 J (l_ (bT hst)) (aj (xs:= [.tmp 53,.tmp 54]) (AZ b18 vp v nd va dp (gt fs (fs.take i)) ns fs hfl f (hg.2 f (bT hst)) n2) Te [18,19] [(false,11),(false,0)] [18,19] (fun v2 _=>aa (am (aw J J aO (ad J (aa ?_)))))))))))))))));refine aJ (i+1,v2,(cV fs f.ps f.body).1,0+(cB f.body:Int),(f.ps.length:Int)+(dg f.body:Int),dp || dC 1 f.body) ⟨⟨by dsimp only;omega,fun h=>by dsimp only;rw [lz hst];exact G4 n2 h⟩,by dsimp only;omega⟩ J (by dsimp only;rw [lz hst];rfl) J
      ·(try simp only [bj]at h7);have hi:i=fs.length:=by omega
       subst hi;rw [cS];refine bF (ap (ad J (bI J (aC wT J (aQ 18 pr J J J J (ak J (aa (ax (aH () O J (bQ (aL J)) (by rw [yL hr (by omega) ho hm (by omega)]) [] [] J J J)))))))))
theorem DF{s x:Ba}{l:List Ba}{i:Nat}(h:l[i]?=some x):cn s (l.take (i+1))=(cn s (l.take i) || (x==s)):=by
 unfold cn;rw [cj h,List.any_append,cq];simp only [List.any_cons,List.any_nil,Bool.or_false]
 congr 1
 exact decide_eq_decide.2 ⟨fun h=>h.symm,fun h=>h.symm⟩
theorem FX{s x:Ba}{l:List Ba}(hm:x∈l)(h:(x==s)=true):cn s l=true:=by
 rw [cq]at h;exact List.any_eq_true.2 ⟨x,hm,by simpa using(bW h).symm⟩
theorem PE{a b:Bool}(h:(!a&& !b)=false):(a || b)=true:=by cases a<;>cases b<;>simp_all
theorem PF{a b:Bool}(h:(!a&& !b)=true):(a || b)=false:=by cases a<;>cases b<;>simp_all
theorem DI{s:Ba}(h:(s.size:Int)<1∨(s.size:Int)>12):bS s=false:=by
 unfold bS;rcases h with h|h
 ·rw [decide_eq_false (show ¬s.size≠0 by omega)];rfl
 ·rw [decide_eq_false (show ¬s.size≤12 by omega)];simp
theorem CS{s:Ba}:(bv s).getD 0 0=vA s:=by
 unfold vA bv;cases s.data.toList<;>rfl
theorem DJ{s:Ba}(h:oH ((bv s).getD 0 0)=false):bS s=false:=by
 unfold bS;rw [←CS,h];simp
theorem Jl{s:Ba}(h:cn s ul=true):bS s=false:=by
 unfold bS;rw [h];simp
theorem yY{s:Ba}{i:Nat}(h:i<s.size):(bv s).getD i 0=(((s[i]'h).toNat:Nat):Int):=by
 have hi:i<s.data.toList.length:=by simpa using h
 unfold bv;rw [List.getD_eq_getElem?_getD,List.getElem?_map,bN hi];rfl
theorem M9{s:Ba}{i:Nat}(h:i<s.size)(hb:(oH ((bv s).getD i 0) || jT ((bv s).getD i 0))=false):bS s=false:=by
 unfold bS;have h2:A6 (fun c=>oH c || jT c) s=false:=by
  rw [Bool.eq_false_iff];intro h3;have h4:=pl.1 h3 i h;rw [yY h]at hb;rw [hb]at h4;cases h4
 rw [h2];simp
theorem Jk{s:Ba}(h1:¬(s.size:Int)<1)(h2:¬(s.size:Int)>12)(h3:oH ((bv s).getD 0 0)=true)(h4:cn s ul=false)(h5:∀j,j<s.size→(oH ((bv s).getD j 0) || jT ((bv s).getD j 0))=true):bS s=true:=by
 unfold bS;rw [←CS,h3,h4,decide_eq_true (show s.size≠0 by omega),decide_eq_true (show s.size≤12 by omega)];simp only [Bool.not_false,Bool.and_true,Bool.true_and];exact pl.2 fun i h=>by rw [←yY h];exact h5 i h
def rlv:List (List Ba):= [[j9],[fo],[ff],[nh,na],[lU,nf,ng,n8],[gw,gU],[fU,dR],[gB,kA,lg]]
theorem IP(s:Ba):(rlv.any fun l=>cn s l)=il s:=by
 have h:∀o:Ba,decide (s=o)=decide (o=s):=fun o=>decide_eq_decide.2 ⟨fun h=>h.symm,fun h=>h.symm⟩
 unfold il;rw [List.isSome_find?];simp only [rlv,lvL,cn,List.any_cons,List.any_nil,Bool.or_false,h]
 ac_rfl
theorem mN(c:Int):
  bi prog 135 [.int .u8 c] [] [] (.bool (oH c)) []:=by
 refine aI func135 J ntmps135 J fun w0 M H=>ap (ak J (aF J (ad J (aw J J gI (ad J (aG [] J J O (fun hg1=>bc J) J (aG [(6,_)] J J ⟨J,O⟩ (fun hg2=>aR J J lR) J (aP (bH J J J) (ak J (aa (ax (aH () O J (bQ (aL J)) J [] [] J J J))))))))))))
theorem mZ(c:Int):
  bi prog 136 [.int .u8 c] [] [] (.bool (jT c)) []:=by
 refine aI func136 J ntmps136 J fun w0 M H=>ap (ak J (aF J (ad J (aw J J gI (ad J (aG [] J J O (fun hg1=>bc J) J (aG [(6,_)] J J ⟨J,O⟩ (fun hg2=>aR J J lR) J (aP (bH J J J) (ak J (aa (ax (aH () O J (bQ (aL J)) J [] [] J J J))))))))))))
theorem yh:
  Spec prog 134 [] [] [] (X:=SV) (fun _=>True) (fun u=>sv u) (fun u=> [own 9 1 eS (sv u) ul]) (fun _=> []):=by
 refine aI func134 J ntmps134 J fun w0 M H=>ap (ak J (aF J (dv eS ul (parts:= [(0,.const (Sg (ByteArray.mk #[101,108,115,101]))),(1,.const (Sg (ByteArray.mk #[102,110]))),(2,.const (Sg (ByteArray.mk #[105,102]))),(3,.const (Sg (ByteArray.mk #[105,110]))),(4,.const (Sg (ByteArray.mk #[109,101,109]))),(5,.const (Sg (ByteArray.mk #[111,117,116]))),(6,.const (Sg (ByteArray.mk #[114,101,116,117,114,110]))),(7,.const (Sg (ByteArray.mk #[118,97,114]))),(8,.const (Sg (ByteArray.mk #[119,104,105,108,101])))]) underlying46 t9 J (by decide) (by intro _;rfl) J (by decide) (by decide) J J J J fun v1=>ak J (aa (ax (aH v1 O J (bQ (aL J)) J [1] [] J J J))))))
theorem lE(s:Ba)(v:SV)(l:List Ba)(hl:l.length≤1000000):
  bi prog 59 [Sg s,sv v] [] [sl 1 eS (sv v) l] (.bool (cn s l)) []:=by
 refine aI func59 J ntmps59 J fun w0 M H=>ap (ak J (aa (aT (ak J (aa (aB (bC (X:=Nat) (fun i=>i≤l.length∧cn s (l.take i)=false) (fun i=> [(0,Sg s),(1,sv v),(5,I6 (i:Int))]) (fun i=> []) (fun i=> [(0,sl 1 eS (sv v) l)]) (fun i=>l.length-i) 0 ⟨br _,J⟩ J J J (fun i hx0=> ?_))))))))
 obtain⟨n1,n2⟩:=hx0;refine aT (ad J (ad J (aP (aS underlying46 J (aK (k:=0) J)) (aw J J cr (aa (ai J (fun h1=> ?_) (fun h1=> ?_)))))))
 ·(try simp only [bj]at h1);have hi:i<l.length:=by omega
  obtain⟨x,hx⟩:∃k,l[i]?=some k:=⟨_,bN hi⟩
  refine az (a_ (aB (ap (ad J (ad J (aP (aN (j:=i) underlying46 t9 J J (aK (k:=0) J) (by first|rfl|omega) (by first|omega|(simp;done)|(simp;omega))) (aP (ah t9 J J (bA (aK (k:=0) J) (by intro _;rfl) hx (by rfl))) (ad J (aw J J cW (aa (ai J (fun h2=> ?_) (fun h2=> ?_))))))))))))
  ·have hct:(x==s)=true:=h2;refine ap (ak J (aa (ax (aH () O J (bQ (aL J)) (congrArg Value.bool (FX (bT hx) hct).symm) [] [] J J J))))
  ·have hcf:(x==s)=false:=h2;refine az (am (ad J (aw J J aO (ak J (aa ?_)))));refine aJ (i+1) ⟨⟨by omega,by rw [DF hx,n2,hcf];rfl⟩,by omega⟩ J J J
 ·(try simp only [bj]at h1);have hi:i=l.length:=by omega
  subst hi;rw [cS]at n2;refine bF (ap (ak J (aa (ax (aH () O J (bQ (aL J)) (congrArg Value.bool n2.symm) [] [] J J J)))))
theorem m7(s:Ba)(v:SV)(l:List Ba)(hl:l.length≤1000000):bi prog 59 [Sg s,sv v] [] [own 9 1 eS (sv v) l] (.bool (cn s l)) []:=(lE s v l hl).ro1 bO
theorem ki(s:Ba):
  bi prog 102 [Sg s] [] [] (.bool (bS s)) []:=by
 refine aI func102 J ntmps102 J fun w0 M H=>ap (ak J (aF J (ad J (aj (xs:= []) yh LC [] [] [6] (fun v6 _=>aj (xs:= [.tmp 5,.tmp 6]) (m7 s v6 ul (by decide)) A2 [] [(true,6)] [] (fun _ _=>ak J (aa (aT (ad J (aP (cT underlying9 J) (aw J J cr (ad J (aG [] J J O (fun hg1=>bc J) J ?_)))))))))))))
 refine aG [(12,_)] J J ⟨J,O⟩ (fun hg2=>cT underlying9 J) J (aG [(12,_),(13,_)] J J ⟨J,J,O⟩ (fun hg3=>aR J J ec) J (aP (bH J J J) (ad J (iQ (t:=16) J (fun h4=> ?_) (fun h4=> ?_)))))
 ·(try simp only [bj]at h4);have q8:=h4;refine ed J J J J (ed J J J J (ed J J J J (ed J J J J (aP (bH J J J) (ad J (aG [] J J O (fun hg5=>bc J) J (aP (bH J J J) (aa (ai J (fun h6=> ?_) (fun h6=> ?_))))))))))
  ·(try simp only [bj]at h6);refine ap (ak J (aa (ax (aH () O J (bQ (aL J)) (congrArg Value.bool (DI q8).symm) [] [] J J J))))
  ·exact absurd h6 (by simp)
 ·(try simp only [bj]at h4);have q8:=h4;have hs0:0<s.size:=by omega
  refine cI J J (ad J (cI J J (aP (eg (j:=0) underlying9 J J J hs0) (cI J J (db (xs:= [.tmp 18]) (mN _) CN [] [] [] J J J (fun _ _=>cI J J (aP (cz J) (aP (bH J J J) (ad J (aG [] J J O (fun hg7=>bc J) J (aP (bH J J J) (aa (ai J (fun h8=> ?_) (fun h8=> ?_))))))))))))))
  ·(try simp only [bj]at h8);have qc:=h8;refine ap (ak J (aa (ax ?_)));have hno:bS s=false:=by
    rcases qc with(q|q)|q
    ·cases q
    ·exact DJ q
    ·exact Jl q
   refine aH () O J (bQ (aL J)) (congrArg Value.bool hno.symm) [] [] J J J
  ·(try simp only [bj]at h8);have qc:=h8;refine az (aT (ak J (aa (aB (bC (X:=Nat) (fun i=>i≤s.size∧∀j,j<i→(oH ((bv s).getD j 0) || jT ((bv s).getD j 0))=true) (fun i=> [(0,Sg s),(4,I6 (i:Int))]) (fun i=> []) (fun i=> []) (fun i=>s.size-i) 0 ⟨br _,fun j h=>absurd h (Nat.not_lt_zero _)⟩ J J J (fun i hx0=> ?_))))));obtain⟨n1,n2⟩:=hx0;refine aT (ad J (ad J (aP (cT underlying9 J) (aw J J cr (aa (ai J (fun h9=> ?_) (fun h9=> ?_)))))))
   ·(try simp only [bj]at h9);have hi:i<s.size:=by omega
    refine az (a_ (aB (ap (ad J (ad J (aP (eg (j:=i) underlying9 J J J hi) (db (xs:= [.tmp 33]) (mN _) CN [] [] [] J J J (fun _ _=>aP (cz J) (ad J (aG [] J J O (fun hg10=>bc J) J (aG [(37,_)] J J ⟨J,O⟩ (fun hg11=>bc J) J (aG [(37,_),(38,_)] J J ⟨J,J,O⟩ (fun hg12=>eg (j:=i) underlying9 J J J hi) J (jm [(37,_),(38,_),(39,_)] J J ⟨J,J,J,O⟩ (fun hg13=>fh (xs:= [.tmp 39]) (mZ _) CM [] [] [] J J J) J (aG [(37,_),(38,_),(39,_),(40,_)] J J ⟨J,J,J,J,O⟩ (fun hg14=>cz J) J (aP (bH J J J) (aa (ai J (fun h15=> ?_) (fun h15=> ?_))))))))))))))))))
    ·have hct:=h15;refine ap (ak J (aa (ax (aH () O J (bQ (aL J)) (congrArg Value.bool (M9 hi (PF hct)).symm) [] [] J J J))))
    ·have hcf:=h15;refine az (am (ad J (aw J J aO (ak J (aa ?_)))));refine aJ (i+1) ⟨⟨by omega,fun j hj=>by
      by_cases h:j=i
      ·subst h;exact PE hcf
      ·exact n2 j (by omega)⟩,by omega⟩ rfl rfl rfl
   ·(try simp only [bj]at h9);have hi:i=s.size:=by omega
    subst hi;refine bF (ap (ak J (aa (ax (aH () O J (bQ (aL J)) (congrArg Value.bool (Jk q8.1 q8.2 qc.1.2 qc.2 n2).symm) [] [] J J J)))))
structure Qi where
 op:Int
 d:Int
 a:Int
 b:Int
 imm:Int
deriving DecidableEq
def ja(i:Qi):List Value:= [I6 i.op,I6 i.d,I6 i.a,I6 i.b,I3 i.imm]
def q3(op d a b:Int):Qi:=⟨op,d,a,b,0⟩
def qi(op d a n:Int):Qi:=⟨op,d,a,0,n⟩
structure Qg where
 code:List Qi
 fixes:List (Int×Int)
 labs:List Int
def xj(p:Int×Int):List Value:= [I6 p.1,I6 p.2]
def Qg.emit(s:Qg)(l:List Qi):Qg:={s with code:=s.code++l}
def Qg.lab(s:Qg):Qg:={s with labs:=s.labs++ [0]}
def Qg.place(s:Qg)(l:Int):Qg:={s with labs:=s.labs.set l.toNat s.code.length}
def Qg.jump(s:Qg)(op d a l:Int):Qg:={s with fixes:=s.fixes++ [((s.code.length:Int),l)],code:=s.code++ [qi op d a 0]}
def Qg.push(s:Qg)(r:Int):Qg:=(s.emit [qi 16 14 14 4294967292]).emit [qi 25 r 14 0]
def Qg.pop(s:Qg)(r:Int):Qg:=(s.emit [qi 23 r 14 0]).emit [qi 16 14 14 4]
def Qg.elem(s:Qg)(r:Int):Qg:=(s.emit [qi 17 r r 255]).emit [qi 20 r r 2]
def qT(o:Ba)(s:Qg):Qg:=
 if o=fU then s.emit [q3 1 1 2 1]else if o=dR then s.emit [q3 2 1 2 1]else if o=gB then s.emit [q3 9 1 2 1]else
 if o=ff then s.emit [q3 3 1 2 1]else if o=j9 then s.emit [q3 4 1 2 1]else if o=fo then s.emit [q3 5 1 2 1]else
 if o=gw then s.emit [q3 6 1 2 1]else if o=gU then s.emit [q3 7 1 2 1]else if o=lU then s.emit [q3 11 1 2 1]else
 if o=ng then s.emit [q3 11 1 1 2]else if o=nf then(s.emit [q3 11 1 1 2]).emit [qi 19 1 1 1]else if o=n8 then(s.emit [q3 11 1 2 1]).emit [qi 19 1 1 1]else
 if o=na then(s.emit [q3 5 1 2 1]).emit [q3 11 1 0 1]else if o=nh then((s.emit [q3 5 1 2 1]).emit [q3 11 1 0 1]).emit [qi 19 1 1 1]else
 if o=kA then((s.lab.jump 32 1 0 s.labs.length).emit [q3 10 1 2 1]).place s.labs.length else
 if o=lg then((((((s.lab.emit [q3 1 3 1 0]).jump 32 1 0 s.labs.length).emit [q3 10 3 2 1]).emit [q3 9 3 3 1]).place s.labs.length)).emit [q3 2 1 2 3]else s
def Gz(o:Ba)(s:Qg):Qg:=
 if o=dR then s.emit [q3 2 1 0 1]else if o=sK then(s.emit [qi 16 2 0 4294967295]).emit [q3 5 1 1 2]else
 if o=ug then(s.emit [qi 16 2 0 1]).emit [q3 11 1 1 2]else s
def jr(n:Int):Bool:=decide (n<131072) || decide (4294967296-131072≤n)
def s6(n:Int)(s:Qg):Qg:=if jr n=true then s.emit [qi 16 1 0 n]else s.emit [qi 41 1 0 (n/1024),qi 18 1 1 (n%1024)]
abbrev Om:=List (Ba×Int)
def bM(o:Om)(x:Ba):Int:=match o.find? (fun p=>decide (p.1=x))with
 | some p=>p.2
 | none=>0
mutual
def gX(o st:Om):Tx→Qg→Qg
 | .mk k n nm _ kids,s=>
  if k=1 then s6 n s else if k=2 then s.emit [qi 23 1 13 (bM o nm)]else
  if k=5 then s.emit [⟨48,0,0,0,2⟩]else
  if k=4 then((mP o st kids s).elem 1).emit [qi 23 1 1 8192]else
  if k=6 then Gz nm (mP o st kids s)else
  if k=7 then qT nm ((On o st kids ((mP o st kids s).push 1)).pop 2)else
  if k=3 then(let s1:=(uU o st kids s).jump 40 15 0 (bM st nm)
   if kids.length>0 then s1.emit [qi 16 14 14 (4*kids.length)]else s1)else s
def mP(o st:Om):List Tx→Qg→Qg
 | [],s=>s
 | t::_,s=>gX o st t s
def On(o st:Om):List Tx→Qg→Qg
 | [],s=>s
 | _::r,s=>mP o st r s
def uU(o st:Om):List Tx→Qg→Qg
 | [],s=>s
 | t::r,s=>uU o st r ((gX o st t s).push 1)
end
mutual
def gY(o st:Om)(en:Int):Ty→Qg→Qg
 | .mk k nm _ es _ body _ els,s=>
  let s0:=s.lab.place s.labs.length
  let s1:=mP o st es s0
  if k=1∨k=2 then s1.emit [qi 25 1 13 (bM o nm)]else
  if k=3 then(((On o st es (s1.push 1)).pop 2).elem 2).emit [qi 25 1 2 8192]else
  if k=7 then s1.emit [⟨48,0,0,0,1⟩]else
  if k=6 then s1.jump 40 0 0 en else
  if k=4 then(let lb:Int:=s1.labs.length
   let s2:=iE o st en body ((s1.lab.lab).jump 32 1 0 lb)
   let s3:=if els.length>0 then s2.jump 40 0 0 (lb+1)else s2
   (iE o st en els (s3.place lb)).place (lb+1))else
  if k=5 then(let lb:Int:=s1.labs.length
   ((iE o st en body (s1.lab.jump 32 1 0 lb)).jump 40 0 0 s.labs.length).place lb)else s1
def iE(o st:Om)(en:Int):List Ty→Qg→Qg
 | [],s=>s
 | t::r,s=>iE o st en r (gY o st en t s)
end
mutual
def gD:Ty→Om×Int→Om×Int
 | .mk k nm _ _ _ body _ els,p=>gDs els (gDs body (if k=1 then(fc p.1 nm (wU (-(4*(p.2+1)))),p.2+1)else p))
def gDs:List Ty→Om×Int→Om×Int
 | [],p=>p
 | t::r,p=>gDs r (gD t p)
end
def gP(n:Int):Int→List Ba→Om→Om
 | _,[],o=>o
 | k,p::r,o=>gP n (k+1) r (fc o p (8+4*(n-1-k)))
def dF(f:Tf):Om×Int:=gDs f.body (gP f.ps.length 0 f.ps [],0)
def d5:Nat→Qg→Qg
 | 0,s=>s
 | n+1,s=>d5 n (s.push 0)
def gF(st:Om)(f:Tf)(s:Qg):Qg:=
 let lb:Int:=s.labs.length
 let ov:=dF f
 let s1:=((((((s.lab.lab).place (bM st f.name)).emit [qi 16 12 12 1]).emit [qi 16 2 0 12]).jump 35 2 12 lb).emit [⟨49,0,0,0,0⟩]).place lb
 let s2:=d5 ov.2.toNat (((s1.push 15).push 13).emit [q3 1 13 14 0])
 let s3:=((iE ov.1 st (lb+1) f.body s2).emit [q3 1 1 0 0]).place (lb+1)
 ((((s3.emit [q3 1 14 13 0]).pop 13).pop 15).emit [qi 16 12 12 4294967295]).emit [qi 27 0 15 0]
def s_(st:Om):List Tf→Qg→Qg
 | [],s=>s
 | f::r,s=>s_ st r (gF st f s)
def pz:List Tf→Om×Qg→Om×Qg
 | [],p=>p
 | f::r,p=>pz r (fc p.1 f.name p.2.labs.length,p.2.lab)
def AD(fs:List Tf):Qg:=
 let p:=pz fs ([],⟨[],[],[]⟩)
 s_ p.1 fs (((p.2.emit [qi 16 14 0 16384]).jump 40 15 0 (bM p.1 dM)).emit [⟨48,0,0,0,0⟩])
def iG:List Qi→Nat→Int→List Qi
 | [],_,_=> []
 | i::l,0,n=>{i with imm:=n}::l
 | i::l,k+1,n=>i::iG l k n
def oQ(labs:List Int):List (Int×Int)→List Qi→List Qi
 | [],l=>l
 | p::r,l=>oQ labs r (iG l p.1.toNat (wU (labs.getD p.2.toNat 0-p.1)))
def gJ(fs:List Tf):List Qi:=oQ (AD fs).labs (AD fs).fixes (AD fs).code
def tN(L:Int→Int)(p:Nat):List (Int×Int)→List Qi→List Qi
 | [],l=>l
 | f::r,l=>tN L p r (iG l (f.1.toNat-p) (wU (L f.2-f.1)))
def PK(p n:Nat)(fs:List (Int×Int)):Prop:=∀f∈fs,(p:Int)≤f.1∧f.1<p+n
theorem jH:∀(l:List Qi)(k:Nat)(n:Int),(iG l k n).length=l.length
 | [],_,_=>rfl
 | _::_,0,_=>rfl
 | _::l,k+1,n=>congrArg (· +1) (jH l k n)
theorem xf(L:Int→Int)(p:Nat):∀(fs:List (Int×Int))(l:List Qi),(tN L p fs l).length=l.length
 | [],l=>rfl
 | f::r,l=>by unfold tN;rw [xf L p r,jH]
theorem qz:∀(a b:List Qi)(k:Nat)(n:Int),k<a.length→iG (a++b) k n=iG a k n++b
 | [],_,_,_,h=>absurd h (Nat.not_lt_zero _)
 | _::_,_,0,_,_=>rfl
 | x::a,b,k+1,n,h=>congrArg (x:: ·) (qz a b k n (Nat.lt_of_succ_lt_succ h))
theorem oi:∀(a b:List Qi)(k:Nat)(n:Int),a.length≤k→iG (a++b) k n=a++iG b (k-a.length) n
 | [],_,_,_,_=>rfl
 | _::_,_,0,_,h=>absurd h (Nat.not_succ_le_zero _)
 | x::a,b,k+1,n,h=>by
  rw [bP,Nat.add_sub_add_right];exact congrArg (x:: ·) (oi a b k n (Nat.le_of_succ_le_succ h))
theorem y0(L:Int→Int)(p:Nat):∀(fs:List (Int×Int))(a b:List Qi),PK p a.length fs→tN L p fs (a++b)=tN L p fs a++b
 | [],a,b,_=>rfl
 | f::r,a,b,h=>by
  have hf:=h f (by simp);unfold tN;rw [qz a b _ _ (by omega),y0 L p r _ b (fun g hg=>by rw [jH];exact h g (by simp [hg]))]
theorem vC(L:Int→Int)(p:Nat):∀(fs:List (Int×Int))(a b:List Qi),PK (p+a.length) b.length fs→tN L p fs (a++b)=a++tN L (p+a.length) fs b
 | [],a,b,_=>rfl
 | f::r,a,b,h=>by
  have hf:=h f (by simp);unfold tN;rw [oi a b _ _ (by omega),vC L p r a _ (fun g hg=>by rw [jH];exact h g (by simp [hg]))]
  congr 3
  omega
theorem CW(L:Int→Int)(p:Nat):∀(f1 f2:List (Int×Int))(l:List Qi),tN L p (f1++f2) l=tN L p f2 (tN L p f1 l)
 | [],f2,l=>rfl
 | f::r,f2,l=>by
  show tN L p (r++f2) _=tN L p f2 (tN L p r _);exact CW L p r f2 _
theorem Km(L:Int→Int)(p:Nat)(f1 f2:List (Int×Int))(a b:List Qi)(h1:PK p a.length f1)(h2:PK (p+a.length) b.length f2):
  tN L p (f1++f2) (a++b)=tN L p f1 a++tN L (p+a.length) f2 b:=by
 rw [CW,y0 L p f1 a b h1,vC L p f2 _ b (by rw [xf];exact h2),xf]
structure Res(K:(Int→Int)→Prop)(s s':Qg)(r:List Qi):Prop where
 ex:∃raw fs ls,s'.code=s.code++raw∧raw.length=r.length∧s'.fixes=s.fixes++fs∧s'.labs=s.labs++ls∧PK s.code.length raw.length fs∧
  ∀L:Int→Int,K L→(∀(i:Nat)(n:Int),ls[i]?=some n→L ((s.labs.length+i:Nat):Int)=n)→tN L s.code.length fs raw=r
theorem Res.nil{K:(Int→Int)→Prop}(s:Qg):Res K s s []:=⟨⟨[],[],[],by simp,rfl,by simp,by simp,fun _ h=>by simp at h,fun _ _ _=>rfl⟩⟩
theorem Res.seq{K:(Int→Int)→Prop}{s s1 s2:Qg}{r1 r2:List Qi}(h1:Res K s s1 r1)(h2:Res K s1 s2 r2):Res K s s2 (r1++r2):=by
 obtain⟨raw1,fs1,ls1,a1,a2,a3,a4,a5,a6⟩:=h1.ex;obtain⟨raw2,fs2,ls2,b1,b2,b3,b4,b5,b6⟩:=h2.ex;have hl:s1.code.length=s.code.length+raw1.length:=by rw [a1,bG]
 have hm:s1.labs.length=s.labs.length+ls1.length:=by rw [a4,bG]
 refine⟨⟨raw1++raw2,fs1++fs2,ls1++ls2,by rw [b1,a1,List.append_assoc],by simp [a2,b2],by rw [b3,a3,List.append_assoc],by rw [b4,a4,List.append_assoc],fun f hf=> ?_,fun L hK hL=> ?_⟩⟩
 ·rw [bG];rcases List.mem_append.1 hf with hf|hf
  ·have:=a5 f hf;omega
  ·have:=b5 f hf;omega
 ·rw [Km L _ _ _ _ _ a5 (by rw [←hl];exact b5),←hl,a6 L hK fun i n h=>hL i n (by
   rw [List.getElem?_append_left (by obtain⟨h,-⟩:=cJ.1 h;exact h)];exact h),b6 L hK fun i n h=> ?_]
  rw [hm];have:=hL (ls1.length+i) n (by rw [List.getElem?_append_right (by omega),show ls1.length+i-ls1.length=i by omega];exact h);rw [show s.labs.length+ls1.length+i=s.labs.length+(ls1.length+i) by omega];exact this
theorem Res.emit{K:(Int→Int)→Prop}(s:Qg)(l:List Qi):Res K s (s.emit l) l:=
 ⟨⟨l,[],[],rfl,rfl,by simp [Qg.emit],by simp [Qg.emit],fun _ h=>by simp at h,fun _ _ _=>rfl⟩⟩
theorem Res.jump{K:(Int→Int)→Prop}(s:Qg)(op d a l:Int)(n:Int)(h:∀L,K L→wU (L l-s.code.length)=n):Res K s (s.jump op d a l) [qi op d a n]:=
 ⟨⟨[qi op d a 0],[((s.code.length:Int),l)],[],rfl,rfl,rfl,by simp [Qg.jump],fun f hf=>by
  have:=List.mem_singleton.1 hf;subst this;simp only [cE];omega,fun L hK _=>by
  have:=h L hK;simp only [tN,iG,Int.toNat_natCast,Nat.sub_self,this];rfl⟩⟩
theorem Res.push{K:(Int→Int)→Prop}(s:Qg)(r:Int):Res K s (s.push r) [qi 16 14 14 4294967292,qi 25 r 14 0]:=(Res.emit s _).seq (Res.emit _ _)
theorem Res.pop{K:(Int→Int)→Prop}(s:Qg)(r:Int):Res K s (s.pop r) [qi 23 r 14 0,qi 16 14 14 4]:=(Res.emit s _).seq (Res.emit _ _)
theorem Res.elem{K:(Int→Int)→Prop}(s:Qg)(r:Int):Res K s (s.elem r) [qi 17 r r 255,qi 20 r r 2]:=(Res.emit s _).seq (Res.emit _ _)
theorem Res.weaken{K K':(Int→Int)→Prop}{s s':Qg}{r:List Qi}(h:Res K s s' r)(hk:∀L,K' L→K L):Res K' s s' r:=by
 obtain⟨raw,fs,ls,a1,a2,a3,a4,a5,a6⟩:=h.ex;exact⟨⟨raw,fs,ls,a1,a2,a3,a4,a5,fun L hK=>a6 L (hk L hK)⟩⟩
theorem Res.labels{K:(Int→Int)→Prop}{s s' s'':Qg}{r:List Qi}(ns ms:List Int)(hl:ns.length=ms.length)
  (h:Res (fun L=>K L∧∀(i:Nat)(n:Int),ms[i]?=some n→L ((s.labs.length+i:Nat):Int)=n) {s with labs:=s.labs++ns} s' r)
  (hc:s''.code=s'.code) (hf:s''.fixes=s'.fixes) (hs:∀ls,s'.labs=(s.labs++ns)++ls→s''.labs=(s.labs++ms)++ls):Res K s s'' r:=by
 obtain⟨raw,fs,ls,a1,a2,a3,a4,a5,a6⟩:=h.ex;refine⟨⟨raw,fs,ms++ls,hc.trans a1,a2,hf.trans a3,by rw [hs ls a4,List.append_assoc],a5,fun L hK hL=>a6 L ⟨hK,fun i n hi=>hL i n ?_⟩ fun i n hi=> ?_⟩⟩
 ·rw [List.getElem?_append_left (by obtain⟨h,-⟩:=cJ.1 hi;exact h)];exact hi
 ·have:=hL (ms.length+i) n (by rw [List.getElem?_append_right (by omega),show ms.length+i-ms.length=i by omega];exact hi);show L (((s.labs++ns).length+i:Nat):Int)=n;rw [bG,hl,show s.labs.length+ms.length+i=s.labs.length+(ms.length+i) by omega];exact this
def fQ(r:Int):List Qi:= [qi 16 14 14 4294967292,qi 25 r 14 0]
def lX(r:Int):List Qi:= [qi 23 r 14 0,qi 16 14 14 4]
def uy(r:Int):List Qi:= [qi 17 r r 255,qi 20 r r 2]
def C0(o:Ba):List Qi:=
 if o=fU then [q3 1 1 2 1]else if o=dR then [q3 2 1 2 1]else if o=gB then [q3 9 1 2 1]else
 if o=ff then [q3 3 1 2 1]else if o=j9 then [q3 4 1 2 1]else if o=fo then [q3 5 1 2 1]else
 if o=gw then [q3 6 1 2 1]else if o=gU then [q3 7 1 2 1]else if o=lU then [q3 11 1 2 1]else
 if o=ng then [q3 11 1 1 2]else if o=nf then [q3 11 1 1 2,qi 19 1 1 1]else if o=n8 then [q3 11 1 2 1,qi 19 1 1 1]else
 if o=na then [q3 5 1 2 1,q3 11 1 0 1]else if o=nh then [q3 5 1 2 1,q3 11 1 0 1,qi 19 1 1 1]else
 if o=kA then [qi 32 1 0 2,q3 10 1 2 1]else
 if o=lg then [q3 1 3 1 0,qi 32 1 0 3,q3 10 3 2 1,q3 9 3 3 1,q3 2 1 2 3]else []
def Eb(o:Ba):List Qi:=
 if o=dR then [q3 2 1 0 1]else if o=sK then [qi 16 2 0 4294967295,q3 5 1 1 2]else
 if o=ug then [qi 16 2 0 1,q3 11 1 1 2]else []
def qP(n:Int):List Qi:=if jr n=true then [qi 16 1 0 n]else [qi 41 1 0 (n/1024),qi 18 1 1 (n%1024)]
mutual
def zX(o:Om)(S:Ba→Int):Tx→Nat→List Qi
 | .mk k n nm _ kids,p=>
  if k=1 then qP n else if k=2 then [qi 23 1 13 (bM o nm)]else
  if k=5 then [⟨48,0,0,0,2⟩]else
  if k=4 then y9 o S kids p++(uy 1++ [qi 23 1 1 8192])else
  if k=6 then y9 o S kids p++Eb nm else
  if k=7 then y9 o S kids p++(fQ 1++(Oy o S kids (p+(y9 o S kids p).length+2)++(lX 2++C0 nm)))else
  if k=3 then zg o S kids p++([qi 40 15 0 (wU (S nm-((p+(zg o S kids p).length:Nat):Int)))]++if kids.length>0 then [qi 16 14 14 (4*kids.length)]else [])else []
def y9(o:Om)(S:Ba→Int):List Tx→Nat→List Qi
 | [],p=> []
 | t::_,p=>zX o S t p
def Oy(o:Om)(S:Ba→Int):List Tx→Nat→List Qi
 | [],p=> []
 | _::r,p=>y9 o S r p
def zg(o:Om)(S:Ba→Int):List Tx→Nat→List Qi
 | [],p=> []
 | t::r,p=>zX o S t p++(fQ 1++zg o S r (p+(zX o S t p).length+2))
end
mutual
def wX:Tx→Nat
 | .mk k n nm _ kids=>
  if k=1 then(qP n).length else if k=2 then 1 else if k=5 then 1 else
  if k=4 then jZ kids+3 else if k=6 then jZ kids+(Eb nm).length else
  if k=7 then jZ kids+(OH kids+(4+(C0 nm).length))else
  if k=3 then tP kids+(1+if kids.length>0 then 1 else 0)else 0
def jZ:List Tx→Nat
 | []=>0
 | t::_=>wX t
def OH:List Tx→Nat
 | []=>0
 | _::r=>jZ r
def tP:List Tx→Nat
 | []=>0
 | t::r=>wX t+(2+tP r)
end
mutual
theorem ia(o:Om)(S:Ba→Int):∀(t:Tx)(p:Nat),(zX o S t p).length=wX t
 | .mk k n nm _ kids,p=>by
  have h0:=oa o S kids;have h1:=A9 o S kids;have hs:=qV o S kids;unfold zX wX;split
  ·rfl
  split
  ·rfl
  split
  ·rfl
  split
  ·rw [bG,h0];rfl
  split
  ·rw [bG,h0]
  split
  ·simp only [bG,h0,h1];simp only [fQ,lX,bP,bK];omega
  split
  ·simp only [bG,hs,bP,bK];split<;>rfl
  ·rfl
theorem oa(o:Om)(S:Ba→Int):∀(l:List Tx)(p:Nat),(y9 o S l p).length=jZ l
 | [],p=>rfl
 | t::_,p=>ia o S t p
theorem A9(o:Om)(S:Ba→Int):∀(l:List Tx)(p:Nat),(Oy o S l p).length=OH l
 | [],p=>rfl
 | _::r,p=>oa o S r p
theorem qV(o:Om)(S:Ba→Int):∀(l:List Tx)(p:Nat),(zg o S l p).length=tP l
 | [],p=>rfl
 | t::r,p=>by
  unfold zg tP;rw [bG,bG,ia o S t,qV o S r];rfl
end
mutual
def zY(o:Om)(S:Ba→Int)(E:Int):Ty→Nat→List Qi
 | .mk k nm _ es _ body _ els,p=>
  if k=1∨k=2 then y9 o S es p++ [qi 25 1 13 (bM o nm)]else
  if k=3 then y9 o S es p++(fQ 1++(Oy o S es (p+jZ es+2)++(lX 2++(uy 2++ [qi 25 1 2 8192]))))else
  if k=7 then y9 o S es p++ [⟨48,0,0,0,1⟩]else
  if k=6 then y9 o S es p++ [qi 40 0 0 (wU (E-((p+jZ es:Nat):Int)))]else
  if k=4 then y9 o S es p++([qi 32 1 0 (wU (((lS o S E body (p+jZ es+1)).length+(if els.length>0 then 1 else 0)+1:Nat):Int))]++(lS o S E body (p+jZ es+1)++
   ((if els.length>0 then [qi 40 0 0 (wU (((lS o S E els (p+jZ es+1+(lS o S E body (p+jZ es+1)).length+(if els.length>0 then 1 else 0))).length+1:Nat):Int))]else [])++
    lS o S E els (p+jZ es+1+(lS o S E body (p+jZ es+1)).length+(if els.length>0 then 1 else 0)))))else
  if k=5 then y9 o S es p++([qi 32 1 0 (wU (((lS o S E body (p+jZ es+1)).length+2:Nat):Int))]++(lS o S E body (p+jZ es+1)++
   [qi 40 0 0 (wU (-(((lS o S E body (p+jZ es+1)).length+jZ es+1:Nat):Int)))]))else y9 o S es p
def lS(o:Om)(S:Ba→Int)(E:Int):List Ty→Nat→List Qi
 | [],p=> []
 | t::r,p=>zY o S E t p++lS o S E r (p+(zY o S E t p).length)
end
mutual
def wY:Ty→Nat
 | .mk k _ _ es _ body _ els=>
  if k=1∨k=2 then jZ es+1 else if k=3 then jZ es+(OH es+7)else if k=7 then jZ es+1 else if k=6 then jZ es+1 else
  if k=4 then jZ es+(fR body+(fR els+(if els.length>0 then 2 else 1)))else
  if k=5 then jZ es+(fR body+2)else jZ es
def fR:List Ty→Nat
 | []=>0
 | t::r=>wY t+fR r
end
mutual
theorem zf(o:Om)(S:Ba→Int)(E:Int):∀(t:Ty)(p:Nat),(zY o S E t p).length=wY t
 | .mk k nm _ es _ body _ els,p=>by
  have h0:=oa o S es;have h1:=A9 o S es;have hb:=fJ o S E body;have he:=fJ o S E els;unfold zY wY;split
  ·simp only [bG,h0];rfl
  split
  ·simp only [bG,h0,h1,fQ,lX,uy,bP,bK];omega
  split
  ·simp only [bG,h0];rfl
  split
  ·simp only [bG,h0];rfl
  split
  ·simp only [bG,h0,hb,he,bP,bK];split
   ·simp only [bP,bK];omega
   ·simp only [bP,bK];omega
  split
  ·simp only [bG,h0,hb,bP,bK];omega
  ·exact h0 p
theorem fJ(o:Om)(S:Ba→Int)(E:Int):∀(l:List Ty)(p:Nat),(lS o S E l p).length=fR l
 | [],p=>rfl
 | t::r,p=>by
  unfold lS fR;rw [bG,zf o S E t,fJ o S E r]
end
def jE:Nat→List Qi
 | 0=> []
 | n+1=>fQ 0++jE n
theorem kX:∀n,(jE n).length=2*n
 | 0=>rfl
 | n+1=>by
  unfold jE;rw [bG,kX n];show 2+2*n=_;omega
def zF(S:Ba→Int)(f:Tf)(p:Nat):List Qi:=
 let ov:=dF f
 [qi 16 12 12 1,qi 16 2 0 12,qi 35 2 12 2,⟨49,0,0,0,0⟩]++(fQ 15++(fQ 13++([q3 1 13 14 0]++(jE ov.2.toNat++
  (lS ov.1 S ((p+10+2*ov.2.toNat+fR f.body:Nat):Int) f.body (p+9+2*ov.2.toNat)++
  ([q3 1 1 0 0,q3 1 14 13 0]++(lX 13++(lX 15++ [qi 16 12 12 4294967295,qi 27 0 15 0]))))))))
def wF(f:Tf):Nat:=17+2*(dF f).2.toNat+fR f.body
theorem zj(S:Ba→Int)(f:Tf)(p:Nat):(zF S f p).length=wF f:=by
 unfold zF wF;simp only [bG,kX,fJ,fQ,lX,bP,bK];omega
def Eq(S:Ba→Int):List Tf→Nat→List Qi
 | [],p=> []
 | f::r,p=>zF S f p++Eq S r (p+wF f)
def zo:List Tf→Nat
 | []=>0
 | f::r=>wF f+zo r
theorem qW(S:Ba→Int):∀(l:List Tf)(p:Nat),(Eq S l p).length=zo l
 | [],p=>rfl
 | f::r,p=>by
  unfold Eq zo;rw [bG,zj,qW S r]
def iU:List Tf→Nat→Ba→Int
 | [],_,_=>3
 | f::r,p,x=>if f.name=x then(p:Int)else iU r (p+wF f) x
def jY(fs:List Tf):List Qi:= [qi 16 14 0 16384,qi 40 15 0 (wU (iU fs 3 dM-1)),⟨48,0,0,0,0⟩]++Eq (iU fs 3) fs 3
def gR(vp vc vf vl:SV)(ms:Nat)(mo:Option Nat)(mp:Nat)(en:Int):List Value:= [sv vp,sv vc,sv vf,sv vl,.map (some ms),.map mo,.map (some mp),I6 en]
structure Ga where
 g:Nat
 vp:SV
 ms:Nat
 mo:Option Nat
 mp:Nat
 en:Int
def gA(e:Ga)(s:Qg):Asn:=GN (α:=SV×SV×SV) fun x=> [bh e.g 111 (gR e.vp x.1 x.2.1 x.2.2 e.ms e.mo e.mp e.en),own 118 5 ja (sv x.1) s.code,own 171 2 xj (sv x.2.1) s.fixes,own 3 1 eI (sv x.2.2) s.labs]
theorem PN{α:Type}{l:List α}{i:Nat}(h:i<l.length):l[i]?=some (l[i]'h):=bN h
def Qg.sz(s:Qg):Nat:=s.code.length+s.fixes.length+s.labs.length
theorem B0{n:Nat}{vs:List Value}{R0:List Asn}{L L1:List Asn}{X:Type}{φ:X→Prop}{v:X→Value}{e e':Ga}{s s':Qg}(c:SV×SV×SV→X→SV×SV×SV)
  (h:∀vc vf vl,Spec prog n vs ([bh e.g 111 (gR e.vp vc vf vl e.ms e.mo e.mp e.en),own 118 5 ja (sv vc) s.code,own 171 2 xj (sv vf) s.fixes,own 3 1 eI (sv vl) s.labs]++L) R0 φ v
   (fun x=> [bh e'.g 111 (gR e'.vp (c (vc,vf,vl) x).1 (c (vc,vf,vl) x).2.1 (c (vc,vf,vl) x).2.2 e'.ms e'.mo e'.mp e'.en),own 118 5 ja (sv (c (vc,vf,vl) x).1) s'.code,own 171 2 xj (sv (c (vc,vf,vl) x).2.1) s'.fixes,own 3 1 eI (sv (c (vc,vf,vl) x).2.2) s'.labs]++L1) (fun _=> [])):
  Spec prog n vs (gA e s::L) R0 φ v (fun _=>gA e' s'::L1) (fun _=> []):=
 Spec.pack (fun _(x:SV×SV×SV)=> [bh e'.g 111 (gR e'.vp x.1 x.2.1 x.2.2 e'.ms e'.mo e'.mp e'.en),own 118 5 ja (sv x.1) s'.code,own 171 2 xj (sv x.2.1) s'.fixes,own 3 1 eI (sv x.2.2) s'.labs]) c (fun x=>h x.1 x.2.1 x.2.2)
theorem tq(g:Nat)(vp vc vf vl:SV)(ms:Nat)(mo:Option Nat)(mp:Nat)(en:Int)(s:Qg)(hz:s.sz≤950000)(w:SV)(l:List Qi)(hl:l.length≤1000):
  Spec prog 53 [Pt g,sv w] [bh g 111 (gR vp vc vf vl ms mo mp en),own 118 5 ja (sv vc) s.code,own 171 2 xj (sv vf) s.fixes,own 3 1 eI (sv vl) s.labs] [sl 5 ja (sv w) l] (X:=SV) (fun _=>True) (fun _=> .tuple #[]) (fun v=> [bh g 111 (gR vp v vf vl ms mo mp en),own 118 5 ja (sv v) (s.emit l).code,own 171 2 xj (sv vf) (s.emit l).fixes,own 3 1 eI (sv vl) (s.emit l).labs]) (fun _=> []):=by
 refine aI func53 J ntmps53 J fun w0 M H=> ?_
 unfold Qg.sz at hz;refine am (ad J (ad J (bI J (aC mY J (aQ 0 Db J J J J (ad J (cM 1 underlying106 fA J (by decide) (fun _=>J) (fun _=>J) J J J (aK (k:=0) J) (by first|omega|(simp;done)|(simp;omega)) (by unfold maxLen;first|omega|(simp;done)|(simp;omega)) J fun v10=>bI J (aC mY J (aA (k:=0) Db J J J J J J J J (aa (cm v10 O J gn J [0,1,2,3] [] J J J)))))))))))
theorem iM(e:Ga)(s:Qg)(hz:s.sz≤940000)(w:SV)(l:List Qi)(hl:l.length≤1000):
  bi prog 53 [Pt e.g,sv w] [gA e s] [sl 5 ja (sv w) l] (.tuple #[]) [gA e (s.emit l)]:=by
 exact Spec.map (fun _=>()) (fun _ _=>O) (fun _=>J) (fun _=>J) (fun _=>J) (B0 (L:= []) (L1:= []) (fun a(x:SV)=>(x,a.2.1,a.2.2)) fun vc vf vl=>tq e.g e.vp vc vf vl e.ms e.mo e.mp e.en s (by omega) w l hl)
theorem yg(g:Nat)(vp vc vf vl:SV)(ms:Nat)(mo:Option Nat)(mp:Nat)(en:Int)(s:Qg)(hz:s.sz≤950000):
  Spec prog 50 [Pt g] [bh g 111 (gR vp vc vf vl ms mo mp en),own 118 5 ja (sv vc) s.code,own 171 2 xj (sv vf) s.fixes,own 3 1 eI (sv vl) s.labs] [] (X:=SV) (fun _=>True) (fun _=>I6 (s.labs.length:Int)) (fun v=> [bh g 111 (gR vp vc vf v ms mo mp en),own 118 5 ja (sv vc) (s.lab).code,own 171 2 xj (sv vf) (s.lab).fixes,own 3 1 eI (sv v) (s.lab).labs]) (fun _=> []):=by
 refine aI func50 J ntmps50 J fun w0 M H=> ?_
 unfold Qg.sz at hz;refine ap (ak J (aF J (ad J (ad J (bI J (aC o8 J (aQ 0 EL J J J J (bq eI 0 underlying22 t3 J (by decide) (by decide) J J J J fun v8=>cM 3 underlying22 t3 J (by decide) (fun _=>J) (fun _=>J) J J J (be (k:=8) J) (by first|omega|(simp;done)|(simp;omega)) (by unfold maxLen;first|omega|(simp;done)|(simp;omega)) J fun v9=>bI J (aC o8 J (aA (k:=0) EL J J J J J J J J (aF J (ad J ?_))))))))))));refine bI J (aC o8 J (aQ 0 EL J J J J (aP (aS underlying22 J (be (k:=3) J)) (aw J J ew (ak J (aa (ax (aH v9 O J (bQ (aL J)) (congrArg (Value.int .i64) (by rw [bG,cE,bU (by omega)];omega)) [0,1,2,3] [] J J J))))))))
theorem fO(e:Ga)(s:Qg)(hz:s.sz≤940000):
  bi prog 50 [Pt e.g] [gA e s] [] (I6 (s.labs.length:Int)) [gA e s.lab]:=by
 exact Spec.map (fun _=>()) (fun _ _=>O) (fun _=>J) (fun _=>J) (fun _=>J) (B0 (L:= []) (L1:= []) (fun a(x:SV)=>(a.1,a.2.1,x)) fun vc vf vl=>yg e.g e.vp vc vf vl e.ms e.mo e.mp e.en s (by omega))
theorem xY(g:Nat)(vp vc vf vl:SV)(ms:Nat)(mo:Option Nat)(mp:Nat)(en:Int)(s:Qg)(hz:s.sz≤950000)(l:Int)(hl:0≤l∧l<s.labs.length):
  bi prog 92 [Pt g,I6 l] [bh g 111 (gR vp vc vf vl ms mo mp en),own 118 5 ja (sv vc) s.code,own 171 2 xj (sv vf) s.fixes,own 3 1 eI (sv vl) s.labs] [] (.tuple #[]) [bh g 111 (gR vp vc vf vl ms mo mp en),own 118 5 ja (sv vc) (s.place l).code,own 171 2 xj (sv vf) (s.place l).fixes,own 3 1 eI (sv vl) (s.place l).labs]:=by
 refine aI func92 J ntmps92 J fun w0 M H=> ?_
 unfold Qg.sz at hz;refine bJ [4,5,6,7,8,9,10,11,12,13,14] _ J (bE (V:= [(0,4,_),(1,5,_),(2,6,_),(3,7,_),(4,8,_),(5,9,_),(6,10,_),(7,11,_),(8,12,_),(9,13,_),(10,14,_)]) [0,1,2,3,4,5,6,7,8,9,10] 11 [11,10,9,8,7,6,5,4,3,2,1,0] [] (fun _=> []) J J (aD J J (ac J (au J) (ac J (ag o8 J) (ac J (ah EL J J (ay (k:=0) J J)) (aD J J (aD J J (ac J (au J) (ac J (ag mY J) (ac J (ah Db J J (ay (k:=0) J J)) (ac J (aS underlying106 J (be (k:=1) J)) (ac J (aN (j:=l.toNat) underlying22 t3 J J (be (k:=3) J) (by first|rfl|omega) (by first|omega|(simp;done)|(simp;omega))) av))))))))))) J J J J J J J J J (fun _ _=>J) J (iX (k:=3) t3 J J J (by intro _;rfl) (PN (by omega)) J J) (fun _ _=>bl [] J J av J J J (cm () O J gn J [0,1,2,3] [] J J J)))
theorem eK(e:Ga)(s:Qg)(hz:s.sz≤940000)(l:Int)(hl:0≤l∧l<s.labs.length):
  bi prog 92 [Pt e.g,I6 l] [gA e s] [] (.tuple #[]) [gA e (s.place l)]:=by
 exact Spec.map (fun _=>()) (fun _ _=>O) (fun _=>J) (fun _=>J) (fun _=>J) (B0 (L:= []) (L1:= []) (fun a(_:Unit)=>a) fun vc vf vl=>xY e.g e.vp vc vf vl e.ms e.mo e.mp e.en s (by omega) l hl)
theorem Am(g:Nat)(vp vc vf vl:SV)(ms:Nat)(mo:Option Nat)(mp:Nat)(en:Int)(s:Qg)(hz:s.sz≤940000)(op d a l:Int):
  Spec prog 52 [Pt g,I6 op,I6 d,I6 a,I6 l] [bh g 111 (gR vp vc vf vl ms mo mp en),own 118 5 ja (sv vc) s.code,own 171 2 xj (sv vf) s.fixes,own 3 1 eI (sv vl) s.labs] [] (X:=SV×SV) (fun _=>True) (fun _=> .tuple #[]) (fun v=> [bh g 111 (gR vp v.1 v.2 vl ms mo mp en),own 118 5 ja (sv v.1) (s.jump op d a l).code,own 171 2 xj (sv v.2) (s.jump op d a l).fixes,own 3 1 eI (sv vl) (s.jump op d a l).labs]) (fun _=> []):=by
 refine aI func52 J ntmps52 J fun w0 M H=> ?_
 unfold Qg.sz at hz;refine a_ ?_;refine bJ [10,11,12,13,14,15,16,17,18,19,20,21,22,23,24,25] _ J (aW (V:= [(0,10,_),(1,11,_),(2,12,_),(3,13,_),(4,14,_),(5,15,_),(6,16,_),(7,17,_),(8,18,_),(9,19,_),(10,20,_),(11,21,_)]) [0,1,2,3,4,5,6,7,8,9,10,11] 12 [12,11,10,9,8,7,6,5] [] (fun v22=> []) J J (aD J J (aD J J (ac J (au J) (ac J (ag rN J) (ac J (ah It J J (ay (k:=0) J J)) (aD J J (ac J (au J) (ac J (ag mY J) (ac J (ah Db J J (ay (k:=0) J J)) (ac J (aS underlying106 J (be (k:=1) J)) (aD J J (ac J (aU (parts:= [(0,.tmp 19),(1,.tmp 20)]) zy Pg J J) av)))))))))))) J J J J J J J J J J J (fun _ _=>J) J (dH xj (((s.code.length:Nat):Int),l) underlying107 zy J (by decide) (by decide) J J J) (fun v22 _=>aW [0,1,2,3,4] 13 [13,12,11,10,9,8,7,6,5,4,3,2,1] [14,15] (fun v23=> [(14,24,_),(15,25,_)]) J J (aD J J (aD J J (ac J (au J) (ac J (ag rN J) (ac J (ah It J J (ay (k:=0) J J)) av))))) J J J J J J J J J J J (fun _ _=>J) J (gC 2 underlying107 zy J (by decide) (fun _=>J) (fun _=>J) J J J (be (k:=22) J) (by first|omega|(simp;done)|(simp;omega)) (by unfold maxLen;first|omega|(simp;done)|(simp;omega))) (fun v23 _=>bE [14,15,0] 16 [16,15,14,13,12,11,10,9,8,7,6,5,4,3,2,1,0] [] (fun _=> []) J J (ac J (au J) (ac J (ag rN J) (aD J J av))) J J J J J J J J J (fun _ _=>J) J (c9 (k:=0) It J J J J J J J J) (fun _ _=>bl [] J J av J J J ?_))));refine am (ad J (ad J (ad J (ad J (aP (aU (parts:= [(0,.tmp 27),(1,.tmp 28),(2,.tmp 29)]) fA nr J J) (bq ja (qi op d a 0) underlying106 fA J (by decide) (by decide) J J J J fun v31=>cQ 31 7 J bO (aj (xs:= [.tmp 26,.tmp 31]) (tq g vp vc v23 vl ms mo mp en {s with fixes:=s.fixes++ [((s.code.length:Int),l)]} (by unfold Qg.sz;simp;omega) v31 [qi op d a 0] (by simp)) yR [0,1,2,3] [(false,7)] [0,1,2,3] (fun vd _=>aa (cm (vd,v23) O J gn J [0,1,2,3] [] J J J)))))))))
theorem fZ(e:Ga)(s:Qg)(hz:s.sz≤940000)(op d a l:Int):
  bi prog 52 [Pt e.g,I6 op,I6 d,I6 a,I6 l] [gA e s] [] (.tuple #[]) [gA e (s.jump op d a l)]:=by
 exact Spec.map (fun _=>()) (fun _ _=>O) (fun _=>J) (fun _=>J) (fun _=>J) (B0 (L:= []) (L1:= []) (fun a(x:SV×SV)=>(x.1,x.2,a.2.2)) fun vc vf vl=>Am e.g e.vp vc vf vl e.ms e.mo e.mp e.en s (by omega) op d a l)
theorem dw(e:Ga)(s:Qg)(hz:s.sz≤940000)(op d a n:Int):
  bi prog 51 [Pt e.g,I6 op,I6 d,I6 a,I3 n] [gA e s] [] (.tuple #[]) [gA e (s.emit [qi op d a n])]:=by
 refine aI func51 J ntmps51 J fun w0 M H=>am (ad J (ad J (ad J (ad J (ad J (aP (aU (parts:= [(0,.tmp 11),(1,.tmp 12),(2,.tmp 13),(4,.tmp 14)]) fA nr J J) (bq ja (qi op d a n) underlying106 fA J (by decide) (by decide) J J J J fun v16=>cQ 16 7 J bO (aj (xs:= [.tmp 10,.tmp 16]) (iM e (s) (hz) v16 [qi op d a n] (by simp)) yR [0] [(false,7)] [0] (fun _ _=>aa (cm () O J gn J [0] [] J J J))))))))))
theorem dG(e:Ga)(s:Qg)(hz:s.sz≤940000)(op d a b:Int):
  bi prog 86 [Pt e.g,I6 op,I6 d,I6 a,I6 b] [gA e s] [] (.tuple #[]) [gA e (s.emit [q3 op d a b])]:=by
 refine aI func86 J ntmps86 J fun w0 M H=>am (ad J (ad J (ad J (ad J (ad J (aP (aU (parts:= [(0,.tmp 11),(1,.tmp 12),(2,.tmp 13),(3,.tmp 14)]) fA nr J J) (bq ja (q3 op d a b) underlying106 fA J (by decide) (by decide) J J J J fun v16=>cQ 16 7 J bO (aj (xs:= [.tmp 10,.tmp 16]) (iM e (s) (hz) v16 [q3 op d a b] (by simp)) yR [0] [(false,7)] [0] (fun _ _=>aa (cm () O J gn J [0] [] J J J))))))))))
theorem bL(s:Qg)(l:List Qi):(s.emit l).sz=s.sz+l.length:=by
 unfold Qg.sz Qg.emit;simp only [bG];omega
theorem da(s:Qg)(r:Int):(s.push r).sz=s.sz+2:=by
 unfold Qg.push;rw [bL,bL];rfl
theorem dY(s:Qg)(r:Int):(s.pop r).sz=s.sz+2:=by
 unfold Qg.pop;rw [bL,bL];rfl
theorem dO(s:Qg)(r:Int):(s.elem r).sz=s.sz+2:=by
 unfold Qg.elem;rw [bL,bL];rfl
theorem cu(s:Qg):s.lab.sz=s.sz+1:=by
 unfold Qg.sz Qg.lab;simp only [bG,cE];omega
theorem b_(s:Qg)(l:Int):(s.place l).sz=s.sz:=by
 unfold Qg.sz Qg.place;rw [List.length_set]
theorem ca(s:Qg)(op d a l:Int):(s.jump op d a l).sz=s.sz+2:=by
 unfold Qg.sz Qg.jump;simp only [bG,cE];omega
theorem jC(e:Ga)(s:Qg)(hz:s.sz≤800000)(r:Int):
  bi prog 95 [Pt e.g,I6 r] [gA e s] [] (.tuple #[]) [gA e (s.push r)]:=by
 refine aI func95 J ntmps95 J fun w0 M H=>ap (ad J (aj (xs:= [.tmp 4,.const (I6 16),.const (I6 14),.const (I6 14),.const (I3 4294967292)]) (dw e (s) (by omega) 16 14 14 4294967292) kb [0] [] [0] (fun _ _=>aa (am (ad J (ad J (aj (xs:= [.tmp 6,.const (I6 25),.tmp 7,.const (I6 14),.const (I3 0)]) (dw e (s.emit [qi 16 14 14 4294967292]) (by rw [bL];simp;omega) 25 r 14 0) kb [0] [] [0] (fun _ _=>aa (cm () O J gn J [0] [] J J J)))))))))
theorem ot(e:Ga)(s:Qg)(hz:s.sz≤800000)(r:Int):
  bi prog 97 [Pt e.g,I6 r] [gA e s] [] (.tuple #[]) [gA e (s.pop r)]:=by
 refine aI func97 J ntmps97 J fun w0 M H=>ap (ad J (ad J (aj (xs:= [.tmp 4,.const (I6 23),.tmp 5,.const (I6 14),.const (I3 0)]) (dw e (s) (by omega) 23 r 14 0) kb [0] [] [0] (fun _ _=>aa (am (ad J (aj (xs:= [.tmp 7,.const (I6 16),.const (I6 14),.const (I6 14),.const (I3 4)]) (dw e (s.emit [qi 23 r 14 0]) (by rw [bL];simp;omega) 16 14 14 4) kb [0] [] [0] (fun _ _=>aa (cm () O J gn J [0] [] J J J)))))))))
theorem u7(e:Ga)(s:Qg)(hz:s.sz≤800000)(r:Int):
  bi prog 168 [Pt e.g,I6 r] [gA e s] [] (.tuple #[]) [gA e (s.elem r)]:=by
 refine aI func168 J ntmps168 J fun w0 M H=>ap (ad J (ad J (ad J (aj (xs:= [.tmp 4,.const (I6 17),.tmp 5,.tmp 6,.const (I3 255)]) (dw e (s) (by omega) 17 r r 255) kb [0] [] [0] (fun _ _=>aa (am (ad J (ad J (ad J (aj (xs:= [.tmp 8,.const (I6 20),.tmp 9,.tmp 10,.const (I3 2)]) (dw e (s.emit [qi 17 r r 255]) (by rw [bL];simp;omega) 20 r r 2) kb [0] [] [0] (fun _ _=>aa (cm () O J gn J [0] [] J J J))))))))))))
abbrev cK(n:Nat)(l:List Nat):Value:= .func (.func n) #[] (l.map fun b=>Value.pointer (some ⟨b,0,none⟩)).toArray
theorem g9(e:Ga)(s:Qg)(hz:s.sz≤900000)(bg:Nat)(bo:Nat)(op:Int):
  bi prog 85 [Pt bg,Pt bo] [gA e s] [bh bg 104 [Pt e.g],bh bo 3 [I6 op]] (.tuple #[]) [gA e (s.emit [q3 op 1 2 1])]:=by
 refine aI func85 J ntmps85 J fun w0 M H=>am (aP (ah md J J (dt (k:=0) J J)) (aP (ah t3 J J (dt (k:=1) J J)) (aj (xs:= [.tmp 2,.tmp 3,.const (I6 1),.const (I6 2),.const (I6 1)]) (dG e (s) (by omega) op 1 2 1) nU [0] [] [0] (fun _ _=>aa (cm () O J gn J [0] [] J J J)))))
theorem yX(e:Ga)(s:Qg)(hz:s.sz≤900000)(bg:Nat):
  bi prog 87 [Pt bg] [gA e s] [bh bg 104 [Pt e.g]] (.tuple #[]) [gA e (s.emit [q3 11 1 1 2])]:=by
 refine aI func87 J ntmps87 J fun w0 M H=>am (aP (ah md J J (dt (k:=0) J J)) (aj (xs:= [.tmp 1,.const (I6 11),.const (I6 1),.const (I6 1),.const (I6 2)]) (dG e (s) (by omega) 11 1 1 2) nU [0] [] [0] (fun _ _=>aa (cm () O J gn J [0] [] J J J))))
theorem yW(e:Ga)(s:Qg)(hz:s.sz≤900000)(bg:Nat):
  bi prog 90 [Pt bg] [gA e s] [bh bg 104 [Pt e.g]] (.tuple #[]) [gA e ((s.emit [q3 5 1 2 1]).emit [q3 11 1 0 1])]:=by
 refine aI func90 J ntmps90 J fun w0 M H=>ap (aP (ah md J J (dt (k:=0) J J)) (aj (xs:= [.tmp 1,.const (I6 5),.const (I6 1),.const (I6 2),.const (I6 1)]) (dG e (s) (by omega) 5 1 2 1) nU [0] [] [0] (fun _ _=>aa (am (aP (ah md J J (dt (k:=0) J J)) (aj (xs:= [.tmp 3,.const (I6 11),.const (I6 1),.const (I6 0),.const (I6 1)]) (dG e (s.emit [q3 5 1 2 1]) (by rw [bL];simp;omega) 11 1 0 1) nU [0] [] [0] (fun _ _=>aa (cm () O J gn J [0] [] J J J))))))))
theorem Hu(e:Ga)(s:Qg)(hz:s.sz≤900000)(bg:Nat):
  bi prog 91 [Pt bg] [gA e s] [bh bg 104 [Pt e.g]] (.tuple #[]) [gA e (((s.lab.jump 32 1 0 s.labs.length).emit [q3 10 1 2 1]).place s.labs.length)]:=by
 refine aI func91 J ntmps91 J fun w0 M H=>ap (aP (ah md J J (dt (k:=0) J J)) (aj (xs:= [.tmp 2]) (fO e s (by omega)) xd [0] [] [0] (fun _ _=>ak J (aF J (aP (ah md J J (dt (k:=0) J J)) (ad J (aj (xs:= [.tmp 4,.const (I6 32),.const (I6 1),.const (I6 0),.tmp 5]) (fZ e (s.lab) (by simp only [bL,cu,ca,b_,cE];omega) 32 1 0 (s.labs.length:Int)) uv [0] [] [0] (fun _ _=>aF J (aP (ah md J J (dt (k:=0) J J)) (aj (xs:= [.tmp 7,.const (I6 10),.const (I6 1),.const (I6 2),.const (I6 1)]) (dG e (s.lab.jump 32 1 0 s.labs.length) (by simp only [bL,cu,ca,b_,cE];omega) 10 1 2 1) nU [0] [] [0] (fun _ _=>aa (am (aP (ah md J J (dt (k:=0) J J)) ?_)))))))))))))
 refine ad J (aj (xs:= [.tmp 9,.tmp 10]) (eK e ((s.lab.jump 32 1 0 s.labs.length).emit [q3 10 1 2 1]) (by simp only [bL,cu,ca,b_,cE];omega) (s.labs.length:Int) (by simp [Qg.lab,Qg.jump,Qg.emit];omega)) tE [0] [] [0] (fun _ _=>aa (cm () O J gn J [0] [] J J J)))
theorem Ht(e:Ga)(s:Qg)(hz:s.sz≤900000)(bg:Nat):
  bi prog 93 [Pt bg] [gA e s] [bh bg 104 [Pt e.g]] (.tuple #[]) [gA e ((((((s.lab.emit [q3 1 3 1 0]).jump 32 1 0 s.labs.length).emit [q3 10 3 2 1]).emit [q3 9 3 3 1]).place s.labs.length).emit [q3 2 1 2 3])]:=by
 refine aI func93 J ntmps93 J fun w0 M H=>ap (aP (ah md J J (dt (k:=0) J J)) (aj (xs:= [.tmp 2]) (fO e s (by omega)) xd [0] [] [0] (fun _ _=>ak J (aF J (aP (ah md J J (dt (k:=0) J J)) (aj (xs:= [.tmp 4,.const (I6 1),.const (I6 3),.const (I6 1),.const (I6 0)]) (dG e (s.lab) (by simp only [bL,cu,ca,b_,cE];omega) 1 3 1 0) nU [0] [] [0] (fun _ _=>aF J (aP (ah md J J (dt (k:=0) J J)) (ad J (aj (xs:= [.tmp 6,.const (I6 32),.const (I6 1),.const (I6 0),.tmp 7]) (fZ e (s.lab.emit [q3 1 3 1 0]) (by simp only [bL,cu,ca,b_,cE];omega) 32 1 0 (s.labs.length:Int)) uv [0] [] [0] (fun _ _=>aF J ?_)))))))))))
 refine aP (ah md J J (dt (k:=0) J J)) (aj (xs:= [.tmp 9,.const (I6 10),.const (I6 3),.const (I6 2),.const (I6 1)]) (dG e ((s.lab.emit [q3 1 3 1 0]).jump 32 1 0 s.labs.length) (by simp only [bL,cu,ca,b_,cE];omega) 10 3 2 1) nU [0] [] [0] (fun _ _=>aF J (aP (ah md J J (dt (k:=0) J J)) (aj (xs:= [.tmp 11,.const (I6 9),.const (I6 3),.const (I6 3),.const (I6 1)]) (dG e (((s.lab.emit [q3 1 3 1 0]).jump 32 1 0 s.labs.length).emit [q3 10 3 2 1]) (by simp only [bL,cu,ca,b_,cE];omega) 9 3 3 1) nU [0] [] [0] (fun _ _=>aF J (aP (ah md J J (dt (k:=0) J J)) (ad J (aj (xs:= [.tmp 13,.tmp 14]) (eK e ((((s.lab.emit [q3 1 3 1 0]).jump 32 1 0 s.labs.length).emit [q3 10 3 2 1]).emit [q3 9 3 3 1]) (by simp only [bL,cu,ca,b_,cE];omega) (s.labs.length:Int) (by simp [Qg.lab,Qg.jump,Qg.emit];omega)) tE [0] [] [0] (fun _ _=>aa (am (aP (ah md J J (dt (k:=0) J J)) (aj (xs:= [.tmp 16,.const (I6 2),.const (I6 1),.const (I6 2),.const (I6 3)]) (dG e (((((s.lab.emit [q3 1 3 1 0]).jump 32 1 0 s.labs.length).emit [q3 10 3 2 1]).emit [q3 9 3 3 1]).place s.labs.length) (by simp only [bL,cu,ca,b_,cE];omega) 2 1 2 3) nU [0] [] [0] (fun _ _=>aa (cm () O J gn J [0] [] J J J))))))))))))))
theorem vz(e:Ga)(s:Qg)(hz:s.sz≤900000)(bg:Nat)(bf n:Nat)(s1:Qg)(hz1:s1.sz≤910000)(hcb:Cb prog n)(hs:Spec prog n ([bg].map fun b=>Value.pointer (some ⟨b,0,none⟩)) [gA e s] [bh bg 104 [Pt e.g]] (X:=Unit) (fun _=>True) (fun _=> .tuple #[]) (fun _=> [gA e s1]) (fun _=> [])):
  bi prog 89 [Pt bf,Pt bg] [gA e s] [bh bf 1 [cK n [bg]],bh bg 104 [Pt e.g]] (.tuple #[]) [gA e (s1.emit [qi 19 1 1 1])]:=by
 refine aI func89 J ntmps89 J fun w0 M H=>ap (aP (ah t1 J J (dt (k:=0) J J)) (aj (xs:= []) hs hcb [0] [(false,1)] [0] (fun _ _=>aa (am (aP (ah md J J (dt (k:=1) J J)) (aj (xs:= [.tmp 4,.const (I6 19),.const (I6 1),.const (I6 1),.const (I3 1)]) (dw e s1 (by omega) 19 1 1 1) kb [0] [] [0] (fun _ _=>aa (cm () O J gn J [0] [] J J J))))))))
theorem D9(e:Ga)(s:Qg)(hz:s.sz≤900000)(bg:Nat)(bo:Nat)(bf n:Nat)(s1:Qg)(hz1:s1.sz≤910000)(hcb:Cb prog n)(hs:Spec prog n ([bg,bo].map fun b=>Value.pointer (some ⟨b,0,none⟩)) [gA e s] [bh bg 104 [Pt e.g],bh bo 3 [I6 11]] (X:=Unit) (fun _=>True) (fun _=> .tuple #[]) (fun _=> [gA e s1]) (fun _=> [])):
  bi prog 89 [Pt bf,Pt bg] [gA e s] [bh bf 1 [cK n [bg,bo]],bh bg 104 [Pt e.g],bh bo 3 [I6 11]] (.tuple #[]) [gA e (s1.emit [qi 19 1 1 1])]:=by
 refine aI func89 J ntmps89 J fun w0 M H=>ap (aP (ah t1 J J (dt (k:=0) J J)) (aj (xs:= []) hs hcb [0] [(false,1),(false,2)] [0] (fun _ _=>aa (am (aP (ah md J J (dt (k:=1) J J)) (aj (xs:= [.tmp 4,.const (I6 19),.const (I6 1),.const (I6 1),.const (I3 1)]) (dw e s1 (by omega) 19 1 1 1) kb [0] [] [0] (fun _ _=>aa (cm () O J gn J [0] [] J J J))))))))
structure Oq where
 m:Nat
 bg:Nat
 b0:Nat
 b1:Nat
 b2:Nat
 b3:Nat
 b4:Nat
 b5:Nat
 b6:Nat
 b7:Nat
 b8:Nat
 b9:Nat
 f0:Nat
 f1:Nat
 f2:Nat
def TV(c:Oq):List (Ba×Value):= [(lg,cK 93 [c.bg]),(kA,cK 91 [c.bg]),(nh,cK 89 [c.f2,c.bg]),(na,cK 90 [c.bg]),(n8,cK 89 [c.f1,c.bg]),(nf,cK 89 [c.f0,c.bg]),(ng,cK 87 [c.bg]),(lU,cK 85 [c.bg,c.b8]),(gU,cK 85 [c.bg,c.b7]),(gw,cK 85 [c.bg,c.b6]),(fo,cK 85 [c.bg,c.b5]),(j9,cK 85 [c.bg,c.b4]),(ff,cK 85 [c.bg,c.b3]),(gB,cK 85 [c.bg,c.b2]),(dR,cK 85 [c.bg,c.b1]),(fU,cK 85 [c.bg,c.b0])]
def Ps(g:Nat)(c:Oq):List Asn:= [mp gV Prod.fst Prod.snd (some c.m) (TV c),bh c.bg 104 [Pt g],bh c.b0 3 [I6 1],bh c.b1 3 [I6 2],bh c.b2 3 [I6 9],bh c.b3 3 [I6 3],bh c.b4 3 [I6 4],bh c.b5 3 [I6 5],bh c.b6 3 [I6 6],bh c.b7 3 [I6 7],bh c.b8 3 [I6 11],bh c.b9 3 [I6 11],bh c.f0 1 [cK 87 [c.bg]],bh c.f1 1 [cK 85 [c.bg,c.b9]],bh c.f2 1 [cK 90 [c.bg]]]
theorem AllIn.stable{w w':World}{F:Nat→Prop}(hs:∀b,F b→w'.heap[b]?=w.heap[b]?):∀{L:List Asn},AllIn w F L→AllIn w' F L
 | [],_=>trivial
 | A::r,h=>⟨h.1.elim fun G hG=>⟨G,A.stable hG.1 fun b hb=>hs b (hG.2 b hb),hG.2⟩,AllIn.stable hs h.2⟩
theorem AllIn.get{w:World}{F:Nat→Prop}:∀{L:List Asn}{i:Nat}{A:Asn},AllIn w F L→L[i]?=some A→∃G:Nat→Prop,A.pred w G∧∀b,G b→F b
 | [],i,A,_,h=>by simp at h
 | B::r,0,A,h,hi=>by cases hi;exact h.1
 | B::r,i+1,A,h,hi=>AllIn.get h.2 hi
def jv(g:Nat)(c:Oq):Asn:=⟨fun w F=>AllIn w F (Ps g c),fun h hs=>h.stable hs⟩
theorem FD{g:Nat}{c:Oq}{A:Asn}(i:Nat)(h:(Ps g c)[i]?=some A):∀w G,(jv g c).pred w G→(∀b,G b→b<w.heap.size)→∃G',A.pred w G'∧∀b,G' b→G b:=fun w G h2 _=>h2.get h
theorem MN{g:Nat}{c:Oq}:∀w F,AllIn w F (Ps g c)→(jv g c).pred w F:=fun _ _ h=>h
theorem g_(bg:Nat)(op:Int):
  Spec prog 84 [I6 op,Pt bg] [] [] (X:=Nat) (fun _=>True) (fun b=>cK 85 [bg,b]) (fun b=> [bh b 3 [I6 op]]) (fun _=> []):=by
 refine aI func84 J ntmps84 J fun w0 M H=>ap (wi J J J fun b2=>ak J (aF J (aP (fk (first:= []) (cap:= [.tmp 1,.tmp 2]) J J) (ak J (aa (ax (aH b2 O J (bQ (aL J)) J [2] [] J J J)))))))
theorem tJ(bg:Nat)(n:Nat)(l:List Nat):
  Spec prog 88 [cK n l,Pt bg] [] [] (X:=Nat) (fun _=>True) (fun b=>cK 89 [b,bg]) (fun b=> [bh b 1 [cK n l]]) (fun _=> []):=by
 refine aI func88 J ntmps88 J fun w0 M H=>ap (wi J J J fun b2=>ak J (aF J (aP (fk (first:= []) (cap:= [.tmp 2,.tmp 1]) J J) (ak J (aa (ax (aH b2 O J (bQ (aL J)) J [2] [] J J J)))))))
theorem FC(g:Nat):
  Spec prog 49 [Pt g] [] [] (X:=Oq) (fun _=>True) (fun c=> .map (some c.m)) (fun c=> [jv g c]) (fun _=> []):=by
 refine aI func49 J ntmps49 J fun w0 M H=>ap (wi J J J fun b1=>ak J (aF J (aP (fk (first:= []) (cap:= [.tmp 1]) J J) (ak J (aF J (aP (fk (first:= []) (cap:= [.tmp 1]) J J) (ak J (aF J (aP (fk (first:= []) (cap:= [.tmp 1]) J J) (ak J ?_))))))))))
 refine aF J (aP (fk (first:= []) (cap:= [.tmp 1]) J J) (ak J (aF J (mH (Prod.fst:Ba×Value→Ba) gV Prod.snd J fun b11=>ad J (aj (xs:= [.const (I6 1)]) (g_ b1 1) uu [] [] [60] (fun p0 _=>ct (k:=11) (α:=Ba×Value) (kf:=Prod.fst) (vf:=Prod.snd) (fU,cK 85 [b1,p0]) [(fU,cK 85 [b1,p0])] underlying109 fp J J J J (List.Perm.of_eq J) (ad J (aj (xs:= [.const (I6 2)]) (g_ b1 2) uu [] [] [61] (fun p1 _=>ct (k:=11) (α:=Ba×Value) (kf:=Prod.fst) (vf:=Prod.snd) (dR,cK 85 [b1,p1]) [(dR,cK 85 [b1,p1]),(fU,cK 85 [b1,p0])] underlying109 fp J J J J (List.Perm.of_eq J) (ad J (aj (xs:= [.const (I6 9)]) (g_ b1 9) uu [] [] [62] (fun p2 _=>ct (k:=11) (α:=Ba×Value) (kf:=Prod.fst) (vf:=Prod.snd) (gB,cK 85 [b1,p2]) [(gB,cK 85 [b1,p2]),(dR,cK 85 [b1,p1]),(fU,cK 85 [b1,p0])] underlying109 fp J J J J (List.Perm.of_eq J) (ad J (aj (xs:= [.const (I6 3)]) (g_ b1 3) uu [] [] [63] (fun p3 _=> ?_)))))))))))))))
 refine ct (k:=11) (α:=Ba×Value) (kf:=Prod.fst) (vf:=Prod.snd) (ff,cK 85 [b1,p3]) [(ff,cK 85 [b1,p3]),(gB,cK 85 [b1,p2]),(dR,cK 85 [b1,p1]),(fU,cK 85 [b1,p0])] underlying109 fp J J J J (List.Perm.of_eq J) (ad J (aj (xs:= [.const (I6 4)]) (g_ b1 4) uu [] [] [64] (fun p4 _=>ct (k:=11) (α:=Ba×Value) (kf:=Prod.fst) (vf:=Prod.snd) (j9,cK 85 [b1,p4]) [(j9,cK 85 [b1,p4]),(ff,cK 85 [b1,p3]),(gB,cK 85 [b1,p2]),(dR,cK 85 [b1,p1]),(fU,cK 85 [b1,p0])] underlying109 fp J J J J (List.Perm.of_eq J) (ad J (aj (xs:= [.const (I6 5)]) (g_ b1 5) uu [] [] [65] (fun p5 _=>ct (k:=11) (α:=Ba×Value) (kf:=Prod.fst) (vf:=Prod.snd) (fo,cK 85 [b1,p5]) [(fo,cK 85 [b1,p5]),(j9,cK 85 [b1,p4]),(ff,cK 85 [b1,p3]),(gB,cK 85 [b1,p2]),(dR,cK 85 [b1,p1]),(fU,cK 85 [b1,p0])] underlying109 fp J J J J (List.Perm.of_eq J) (ad J (aj (xs:= [.const (I6 6)]) (g_ b1 6) uu [] [] [66] (fun p6 _=>ct (k:=11) (α:=Ba×Value) (kf:=Prod.fst) (vf:=Prod.snd) (gw,cK 85 [b1,p6]) [(gw,cK 85 [b1,p6]),(fo,cK 85 [b1,p5]),(j9,cK 85 [b1,p4]),(ff,cK 85 [b1,p3]),(gB,cK 85 [b1,p2]),(dR,cK 85 [b1,p1]),(fU,cK 85 [b1,p0])] underlying109 fp J J J J (List.Perm.of_eq J) (ad J (aj (xs:= [.const (I6 7)]) (g_ b1 7) uu [] [] [67] (fun p7 _=>ct (k:=11) (α:=Ba×Value) (kf:=Prod.fst) (vf:=Prod.snd) (gU,cK 85 [b1,p7]) [(gU,cK 85 [b1,p7]),(gw,cK 85 [b1,p6]),(fo,cK 85 [b1,p5]),(j9,cK 85 [b1,p4]),(ff,cK 85 [b1,p3]),(gB,cK 85 [b1,p2]),(dR,cK 85 [b1,p1]),(fU,cK 85 [b1,p0])] underlying109 fp J J J J (List.Perm.of_eq J) (ad J (aj (xs:= [.const (I6 11)]) (g_ b1 11) uu [] [] [68] (fun p8 _=>ct (k:=11) (α:=Ba×Value) (kf:=Prod.fst) (vf:=Prod.snd) (lU,cK 85 [b1,p8]) [(lU,cK 85 [b1,p8]),(gU,cK 85 [b1,p7]),(gw,cK 85 [b1,p6]),(fo,cK 85 [b1,p5]),(j9,cK 85 [b1,p4]),(ff,cK 85 [b1,p3]),(gB,cK 85 [b1,p2]),(dR,cK 85 [b1,p1]),(fU,cK 85 [b1,p0])] underlying109 fp J J J J (List.Perm.of_eq J) ?_)))))))))))))))
 refine ad J (ct (k:=11) (α:=Ba×Value) (kf:=Prod.fst) (vf:=Prod.snd) (ng,cK 87 [b1]) [(ng,cK 87 [b1]),(lU,cK 85 [b1,p8]),(gU,cK 85 [b1,p7]),(gw,cK 85 [b1,p6]),(fo,cK 85 [b1,p5]),(j9,cK 85 [b1,p4]),(ff,cK 85 [b1,p3]),(gB,cK 85 [b1,p2]),(dR,cK 85 [b1,p1]),(fU,cK 85 [b1,p0])] underlying109 fp J J J J (List.Perm.of_eq J) (ad J (ad J (aj (xs:= [.tmp 32]) (tJ b1 87 [b1]) NQ [] [] [70] (fun q0 _=>ct (k:=11) (α:=Ba×Value) (kf:=Prod.fst) (vf:=Prod.snd) (nf,cK 89 [q0,b1]) [(nf,cK 89 [q0,b1]),(ng,cK 87 [b1]),(lU,cK 85 [b1,p8]),(gU,cK 85 [b1,p7]),(gw,cK 85 [b1,p6]),(fo,cK 85 [b1,p5]),(j9,cK 85 [b1,p4]),(ff,cK 85 [b1,p3]),(gB,cK 85 [b1,p2]),(dR,cK 85 [b1,p1]),(fU,cK 85 [b1,p0])] underlying109 fp J J J J (List.Perm.of_eq J) (ad J (ad J (aj (xs:= [.const (I6 11)]) (g_ b1 11) uu [] [] [69] (fun p9 _=>aj (xs:= [.tmp 36]) (tJ b1 85 [b1,p9]) NQ [] [] [71] (fun q1 _=>ct (k:=11) (α:=Ba×Value) (kf:=Prod.fst) (vf:=Prod.snd) (n8,cK 89 [q1,b1]) [(n8,cK 89 [q1,b1]),(nf,cK 89 [q0,b1]),(ng,cK 87 [b1]),(lU,cK 85 [b1,p8]),(gU,cK 85 [b1,p7]),(gw,cK 85 [b1,p6]),(fo,cK 85 [b1,p5]),(j9,cK 85 [b1,p4]),(ff,cK 85 [b1,p3]),(gB,cK 85 [b1,p2]),(dR,cK 85 [b1,p1]),(fU,cK 85 [b1,p0])] underlying109 fp J J J J (List.Perm.of_eq J) (ad J (ct (k:=11) (α:=Ba×Value) (kf:=Prod.fst) (vf:=Prod.snd) (na,cK 90 [b1]) [(na,cK 90 [b1]),(n8,cK 89 [q1,b1]),(nf,cK 89 [q0,b1]),(ng,cK 87 [b1]),(lU,cK 85 [b1,p8]),(gU,cK 85 [b1,p7]),(gw,cK 85 [b1,p6]),(fo,cK 85 [b1,p5]),(j9,cK 85 [b1,p4]),(ff,cK 85 [b1,p3]),(gB,cK 85 [b1,p2]),(dR,cK 85 [b1,p1]),(fU,cK 85 [b1,p0])] underlying109 fp J J J J (List.Perm.of_eq J) (ad J (ad J (aj (xs:= [.tmp 40]) (tJ b1 90 [b1]) NQ [] [] [72] (fun q2 _=> ?_))))))))))))))))
 refine ct (k:=11) (α:=Ba×Value) (kf:=Prod.fst) (vf:=Prod.snd) (nh,cK 89 [q2,b1]) [(nh,cK 89 [q2,b1]),(na,cK 90 [b1]),(n8,cK 89 [q1,b1]),(nf,cK 89 [q0,b1]),(ng,cK 87 [b1]),(lU,cK 85 [b1,p8]),(gU,cK 85 [b1,p7]),(gw,cK 85 [b1,p6]),(fo,cK 85 [b1,p5]),(j9,cK 85 [b1,p4]),(ff,cK 85 [b1,p3]),(gB,cK 85 [b1,p2]),(dR,cK 85 [b1,p1]),(fU,cK 85 [b1,p0])] underlying109 fp J J J J (List.Perm.of_eq J) (aP (fk (first:= []) (cap:= [.tmp 1]) J J) (ct (k:=11) (α:=Ba×Value) (kf:=Prod.fst) (vf:=Prod.snd) (kA,cK 91 [b1]) [(kA,cK 91 [b1]),(nh,cK 89 [q2,b1]),(na,cK 90 [b1]),(n8,cK 89 [q1,b1]),(nf,cK 89 [q0,b1]),(ng,cK 87 [b1]),(lU,cK 85 [b1,p8]),(gU,cK 85 [b1,p7]),(gw,cK 85 [b1,p6]),(fo,cK 85 [b1,p5]),(j9,cK 85 [b1,p4]),(ff,cK 85 [b1,p3]),(gB,cK 85 [b1,p2]),(dR,cK 85 [b1,p1]),(fU,cK 85 [b1,p0])] underlying109 fp J J J J (List.Perm.of_eq J) (aP (fk (first:= []) (cap:= [.tmp 1]) J J) (ct (k:=11) (α:=Ba×Value) (kf:=Prod.fst) (vf:=Prod.snd) (lg,cK 93 [b1]) [(lg,cK 93 [b1]),(kA,cK 91 [b1]),(nh,cK 89 [q2,b1]),(na,cK 90 [b1]),(n8,cK 89 [q1,b1]),(nf,cK 89 [q0,b1]),(ng,cK 87 [b1]),(lU,cK 85 [b1,p8]),(gU,cK 85 [b1,p7]),(gw,cK 85 [b1,p6]),(fo,cK 85 [b1,p5]),(j9,cK 85 [b1,p4]),(ff,cK 85 [b1,p3]),(gB,cK 85 [b1,p2]),(dR,cK 85 [b1,p1]),(fU,cK 85 [b1,p0])] underlying109 fp J J J J (List.Perm.of_eq J) (ad J (ak J (aa (ax (bz 90 [11,1,60,61,62,63,64,65,66,67,68,69,70,71,72] (L:=Ps g ⟨b11,b1,p0,p1,p2,p3,p4,p5,p6,p7,p8,p9,q0,q1,q2⟩) (C:=jv g ⟨b11,b1,p0,p1,p2,p3,p4,p5,p6,p7,p8,p9,q0,q1,q2⟩) J MN (aH ⟨b11,b1,p0,p1,p2,p3,p4,p5,p6,p7,p8,p9,q0,q1,q2⟩ O J (bQ (aL J)) J [90] [] J J J))))))))))
def zb(z n:Int):Int:=IntKind.u32.wrap (IntKind.i32.wrap (wU (n*2^(32-z).toNat))/2^(32-z).toNat)
theorem E0{n:Int}(h:0≤n∧n<4294967296):decide (zb 18 n=n)=jr n:=by
 unfold zb jr wU;rw [show((32:Int)-18).toNat=14 from J,←Bool.decide_or];simp only [IntKind.wrap_u32,IntKind.wrap_i32];refine decide_eq_decide.2 ?_;omega
theorem Mk{α:Type}{b o n:Nat}{S:TypeId}{c:List Value}{enc:α→List Value}{s:Nat}{l:List α}(hl:l.length=n)(hn:n≤maxLen)(hc:(c.drop o).take (l.flatMap enc).length=l.flatMap enc):∀w G,(bh b S c).pred w G→(sl s enc (sv ⟨some ⟨b,o,none⟩,n,n⟩) l).pred w G:=fun w G h=>by
 refine⟨n,by omega,hn,.inr ⟨b,o,by rw [hl];rfl,(h.1 b).2 rfl,fun j u hj=> ?_⟩⟩;simp only [World.cell?,h.2];rw [←hc,List.getElem?_take]at hj;split at hj
 ·rw [List.getElem?_drop]at hj;simpa using hj
 ·simp at hj
theorem Rw{b:Int}(hb:0≤b∧b<4294967296):bits .and .u32 b 1023=b%1024:=by
 have h1:bits .and .u32 b 1023=IntKind.u32.wrap (((BitVec.ofInt 32 b&&&BitVec.ofInt 32 1023).toNat:Nat):Int):=J;have h2:(BitVec.ofInt 32 b).toNat=b.toNat:=by
  rw [BitVec.toNat_ofInt,Int.emod_eq_of_lt hb.1 (by omega)]
 have h3:(BitVec.ofInt 32 1023).toNat=2^10-1:=by decide
 rw [h1,BitVec.toNat_and,h2,h3,Nat.and_two_pow_sub_one_eq_mod,cd (by omega)];omega
theorem Rv{b:Int}(hb:0≤b∧b<4294967296):bits .and .u32 b 262143=b%262144:=by
 have h1:bits .and .u32 b 262143=IntKind.u32.wrap (((BitVec.ofInt 32 b&&&BitVec.ofInt 32 262143).toNat:Nat):Int):=J;have h2:(BitVec.ofInt 32 b).toNat=b.toNat:=by
  rw [BitVec.toNat_ofInt,Int.emod_eq_of_lt hb.1 (by omega)]
 have h3:(BitVec.ofInt 32 262143).toNat=2^18-1:=by decide
 rw [h1,BitVec.toNat_and,h2,h3,Nat.and_two_pow_sub_one_eq_mod,cd (by omega)];omega
theorem Rt{b:Int}(hb:0≤b∧b<4294967296):bits .and .u32 b 4194303=b%4194304:=by
 have h1:bits .and .u32 b 4194303=IntKind.u32.wrap (((BitVec.ofInt 32 b&&&BitVec.ofInt 32 4194303).toNat:Nat):Int):=J;have h2:(BitVec.ofInt 32 b).toNat=b.toNat:=by
  rw [BitVec.toNat_ofInt,Int.emod_eq_of_lt hb.1 (by omega)]
 have h3:(BitVec.ofInt 32 4194303).toNat=2^22-1:=by decide
 rw [h1,BitVec.toNat_and,h2,h3,Nat.and_two_pow_sub_one_eq_mod,cd (by omega)];omega
theorem Dg(n z:Int)(hn:0≤n∧n<4294967296)(hz:z=18∨z=22):
  bi prog 204 [I3 n,I6 z] [] [] (I3 (zb z n)) []:=by
 refine aI func204 J ntmps204 J fun w0 M H=>ap (ak J (aa (a_ (aB (ap (ad J (aw J J cr (ak J (aa (ai J (fun h1=> ?_) (fun h1=> ?_)))))))))))
 ·exact absurd h1 (by simp;omega)
 ·(try simp only [bj]at h1);refine ap (ad J (aw J J gI (ak J (aa (ai J (fun h2=> ?_) (fun h2=> ?_))))))
  ·exact absurd h2 (by simp;omega)
  ·(try simp only [bj]at h2);refine az (ap (ad J (ad J (aw J J ew (aw J J (jb (by omega) (by first|decide|(simp [IntKind.bits];omega)) J) (aP (cC underlying41 underlying21 J (by first|exact Ev (by omega) (by omega)|rfl)) (ad J (aw J J ew (aw J J (qO (by omega) (by first|decide|(simp [IntKind.bits];omega)) J) (aP (cC underlying21 underlying41 J (by first|exact cd (by omega)|rfl)) (ak J (aa (ax (aH () O J (bQ (aL J)) J [] [] J J J))))))))))))))
theorem u4(n z:Int)(hn:0≤n∧n<4294967296)(hz:z=18∨z=22):
  bi prog 190 [I3 n,I6 z] [] [] (.bool (decide (zb z n=n))) []:=by
 refine aI func190 J ntmps190 J fun w0 M H=>ap (ak J (aF J (ad J (ad J (aj (xs:= [.tmp 5,.tmp 6]) (Dg n z hn hz) Qr [] [] [] (fun _ _=>ad J (aw J J bn (ak J (aa (ax (aH () O J (bQ (aL J)) J [] [] J J J)))))))))))
theorem AU(d n:Int)(hn:0≤n∧n<4294967296):
  bi prog 203 [I6 d,I3 n] [] [] (.agg (ja (qi 41 d 0 (n/1024))++ja (qi 18 d d (n%1024))).toArray) []:=by
 refine aI func203 J ntmps203 J fun w0 M H=>ap (aY C8 J J fun b4=>aF J (ad J (ad J (aw J J (qO (by decide) (by decide) (show n/2^(10:Int).toNat=n/1024 from J)) (aP (aU (parts:= [(0,.const (I6 41)),(1,.tmp 5),(4,.tmp 7)]) fA nr J J) (ad J (ad J (ad J (aw J J (tK (Rw hn)) (aP (aU (parts:= [(0,.const (I6 18)),(1,.tmp 9),(2,.tmp 10),(4,.tmp 12)]) fA nr J J) (aP (Fz (D:= .bool) (vs:= [(0,.agg (ja (qi 41 d 0 (n/1024))).toArray),(1,.agg (ja (qi 18 d d (n%1024))).toArray)]) (cs:=(ja (qi 41 d 0 (n/1024))++ja (qi 18 d d (n%1024))).toArray) (parts:= [(0,.tmp 8),(1,.tmp 13)]) C8 fA J (by kernel_rfl)) (aq (k:=4) C8 J J J J J J (aa (ax ?_))))))))))))))
 refine aH () O J (bQ (aV C8 J J J (aX (k:=4) J))) J [] [] J J J
theorem FG(e:Ga)(s:Qg)(hz:s.sz≤900000)(n:Int)(hn:0≤n∧n<4294967296):
  bi prog 189 [Pt e.g,I3 n] [gA e s] [] (.tuple #[]) [gA e (s6 n s)]:=by
 refine aI func189 J ntmps189 J fun w0 M H=>aT (ad J (aj (xs:= [.tmp 5,.const (I6 18)]) (u4 n 18 hn (.inl J)) Lj [] [] [] (fun _ _=>aa (ai J (fun h1=> ?_) (fun h1=> ?_)))))
 ·have hf:jr n=true:=by rw [←E0 hn];exact h1
  rw [show s6 n s=s.emit [qi 16 1 0 n]from ar hf];refine ap (ad J (ad J (aj (xs:= [.tmp 7,.const (I6 16),.const (I6 1),.const (I6 0),.tmp 8]) (dw e s (by omega) 16 1 0 n) kb [0] [] [0] (fun _ _=>aa (ax (aH () O J gn J [0] [] J J J))))))
 ·have hf:jr n=false:=by rw [←E0 hn];exact h1
  rw [show s6 n s=s.emit [qi 41 1 0 (n/1024),qi 18 1 1 (n%1024)]from ae (by rw [hf];simp)];refine az (ap (ad J (aj (xs:= [.const (I6 1),.tmp 10]) (AU 1 n hn) Qt [] [] [] (fun _ _=>aY C8 J J fun b4=>aq (k:=4) C8 J J J J J J (aa (am (ad J (aP (qC underlying281 fA J (by decide)) (cQ 4 7 J (Mk (o:=0) (n:=2) (s:=5) (enc:=ja) (l:= [qi 41 1 0 (n/1024),qi 18 1 1 (n%1024)]) J (by decide) J) (aj (xs:= [.tmp 12,.tmp 13]) (iM e s (by omega) ⟨some ⟨b4,0,none⟩,2,2⟩ [qi 41 1 0 (n/1024),qi 18 1 1 (n%1024)] (by simp)) yR [0] [(false,7)] [0] (fun _ _=>aa (cm () O J gn J [0] [] J J J))))))))))))
structure Sh where
 k:Bool
 d:Bool
 a:Bool
 b:Bool
 kd:Int
 bt:Int
 mo:Int
deriving DecidableEq
def pu:Sh:=⟨false,false,false,false,0,0,0⟩
def ql(s:Sh):List Value:= [.bool s.k,.bool s.d,.bool s.a,.bool s.b,I6 s.kd,I6 s.bt,I3 s.mo]
def nW(l:List Sh):List Value:=l.flatMap ql
theorem vU:∀l:List Sh,(nW l).length=l.length*7
 | []=>rfl
 | a::r=>by
  show(ql a++nW r).length=_;rw [bG,vU r,bP,show(ql a).length=7 from J];omega
theorem Bq:∀(l:List Sh)(j:Nat)(x:Sh),l[j]?=some x→((nW l).drop (j*7)).take 7=ql x
 | [],j,x,h=>by simp at h
 | a::r,0,x,h=>by cases h;rfl
 | a::r,j+1,x,h=>by
  show((ql a++nW r).drop ((j+1)*7)).take 7=_;rw [show(j+1)*7=(ql a).length+j*7 by rw [show(ql a).length=7 from J];omega,List.drop_append,List.drop_eq_nil_of_le (by omega),List.nil_append,Nat.add_sub_cancel_left];exact Bq r j x h
theorem Bp:∀(l:List Sh)(j:Nat)(x:Sh),j<l.length→(nW l).take (j*7)++ql x++(nW l).drop (j*7+7)=nW (l.set j x)
 | [],j,x,h=>absurd h (Nat.not_lt_zero _)
 | a::r,0,x,h=>by
  show(nW (a::r)).take 0++ql x++(ql a++nW r).drop 7=ql x++nW r;rfl
 | a::r,j+1,x,h=>by
  have ih:=Bp r j x (Nat.lt_of_succ_lt_succ h);show(ql a++nW r).take ((j+1)*7)++ql x++(ql a++nW r).drop ((j+1)*7+7)=ql a++nW (r.set j x);have e7:(ql a).length=7:=J;rw [show(j+1)*7=(ql a).length+j*7 by omega,List.take_append,List.take_of_length_le (by omega),Nat.add_sub_cancel_left,show(ql a).length+j*7+7=(ql a).length+(j*7+7) by omega,List.drop_append,List.drop_eq_nil_of_le (by omega),List.nil_append,Nat.add_sub_cancel_left,←ih];simp only [List.append_assoc]
def cc(s:Sh):List Sh→List Int→List Sh
 | l,[]=>l
 | l,o::r=>cc s (l.set o.toNat {s with k:=true}) r
theorem dZ(s:Sh):∀(l:List Sh)(r:List Int),(cc s l r).length=l.length
 | l,[]=>rfl
 | l,o::r=>by unfold cc;rw [dZ s _ r,List.length_set]
theorem mG(s:Sh):∀(l:List Sh)(a b:List Int),cc s l (a++b)=cc s (cc s l a) b
 | l,[],b=>rfl
 | l,o::a,b=>mG s _ a b
def oK(lo n:Nat):List Int:=(List.range n).map fun i=>((lo+i:Nat):Int)
theorem ym(lo n:Nat):oK lo (n+1)=oK lo n++ [((lo+n:Nat):Int)]:=by
 unfold oK;rw [List.range_succ,List.map_append];rfl
def zE:Sh:=⟨false,true,true,true,0,0,0⟩
def tR:Sh:=⟨false,true,true,false,1,18,0⟩
def HP:Sh:=⟨false,true,true,false,2,18,0⟩
def shL:List Sh:=
 cc ⟨false,false,true,false,2,18,4⟩ (cc ⟨false,true,false,false,2,18,3⟩ (cc ⟨false,false,true,false,0,0,0⟩ (cc pu (cc ⟨false,false,false,false,2,18,0⟩ (cc ⟨false,true,false,false,2,22,0⟩ (cc ⟨false,true,false,false,1,22,0⟩
  (cc tR (cc HP (cc tR (cc zE (List.replicate 64 pu) (oK 1 12)) (oK 16 12)) [17,18,19]) [32,33,34,35,36,37]) [40]) [41]) [48]) [49,50,51]) [52]) [53]) [54]
def dl(op:Int):Sh:=if 0≤op∧op<64 then shL.getD op.toNat pu else pu
theorem zx:TI prog 253 (.array 64 219) (.agg (nW (List.replicate 64 pu)).toArray) 448 2048:=⟨underlying253,by kernel_rfl⟩
def gr(n:Int)(u:Bool):Bool:=decide (n=0) || (u&&decide (n>0)&&decide (n<16))
def lm(s:Sh)(n:Int):Bool:=if s.kd=0 then decide (n=0)else if s.kd=1 then decide (zb s.bt n=n)else if s.mo>0 then decide (n≤s.mo)else decide (n/2^s.bt.toNat=0)
def qQ(i:Qi):Bool:=(dl i.op).k&&gr i.d (dl i.op).d&&gr i.a (dl i.op).a&&gr i.b (dl i.op).b&&lm (dl i.op) i.imm
theorem eJ(ba:Nat)(s:Sh)(v:SV)(ops:List Int)(l:List Sh)(hb:∀o∈ops,0≤o∧o<64)(hl:l.length=64)(hol:ops.length≤100):
  bi prog 191 [.agg (ql s).toArray,sv v,Pt ba] [bh ba 253 (nW l)] [sl 1 eI (sv v) ops] (.tuple #[]) [bh ba 253 (nW (cc s l ops))]:=by
 refine aI func191 J ntmps191 J fun w0 M H=>ap (ck J J fun b3=>aF J (aC Cm J (aA (k:=3) t4 J J J J J J J J (aF J (ad J (aP (aS underlying22 J (aK (k:=0) J)) (ad J (aa (aB (bC (X:=Nat) (fun i=>i≤ops.length) (fun i=> [(2,Pt ba),(3,Pt b3),(8,sv v),(9,I6 (ops.length:Int)),(10,I6 (i:Int))]) (fun i=> [(0,bh ba 253 (nW (cc s l (ops.take i)))),(3,bh b3 219 (ql {s with k:=true}))]) (fun i=> [(0,sl 1 eI (sv v) ops)]) (fun i=>ops.length-i) 0 (br _) J J J (fun i n1=>ap ?_)))))))))))
 refine aw J J cr (aa (a_ (ai J (fun h1=> ?_) (fun h1=> ?_))))
 ·(try simp only [bj]at h1);have hi:i<ops.length:=by omega
  obtain⟨o,hx⟩:∃o,ops[i]?=some o:=⟨_,bN hi⟩
  have ho:=hb o (bT hx);refine az (a_ (aB (ap (aP (aN (j:=i) underlying22 t3 J J (aK (k:=0) J) (by first|rfl|omega) (by first|omega|(simp;done)|(simp;omega))) (aP (ah t3 J J (bA (aK (k:=0) J) (by intro _;rfl) hx (by rfl))) (ak J (aa (am (ad J (aP (aM ji J J J (aX (k:=3) J)) (aP (dz (j:=o.toNat) underlying253 ji J J (by omega) (by omega)) ?_)))))))))));refine aA (k:=0) (us:=ql {s with k:=true}) (c':=nW ((cc s l (ops.take i)).set o.toNat {s with k:=true})) ji J J J J J J (by rw [vU,dZ,hl,show(ql {s with k:=true}).length=7 from J,Nat.ble_eq];omega) (by rw [show(0:Nat)+o.toNat*7=o.toNat*7 by omega];exact Bp _ _ {s with k:=true} (by rw [dZ,hl];omega)) ?_;refine aa (am (aw J J aO (ad J (aa ?_))));refine aJ (i+1) ⟨by omega,by omega⟩ J (by rw [cj hx,mG];rfl) J
 ·(try simp only [bj]at h1);have hi:i=ops.length:=by omega
  subst hi;refine bF (cm () O J gn J [0] [] J (by rw [cS];rfl) J)
theorem xF:
  bi prog 171 [] [] [] (.agg (nW shL).toArray) []:=by
 refine aI func171 J ntmps171 J fun w0 M H=>ap (aY zx (c:=nW (List.replicate 64 pu)) (by kernel_rfl) J fun b0=>aF J (aY zx (c:=nW (List.replicate 64 pu)) (by kernel_rfl) J fun b1=>aF J (aP (fk (first:= []) (cap:= [.tmp 1]) J J) (ak J (aa (aT (ak J (aa (aB ?_)))))))))
 refine bC (X:=Nat) (fun i=>i≤12) (fun i=> [(0,Pt b0),(1,Pt b1),(2,.func (.func 191) #[] #[Pt b1]),(3,I6 ((1+i:Nat):Int))]) (fun i=> [(0,bh b0 253 (nW (List.replicate 64 pu))),(1,bh b1 253 (nW (cc zE (List.replicate 64 pu) (oK 1 i))))]) (fun i=> []) (fun i=>12-i) 0 (br _) J J J (fun i n1=>aT (ad J (aw J J lR (aa (ai J (fun h1=> ?_) (fun h1=> ?_))))))
 ·(try simp only [bj]at h1);have hi:i<12:=by omega
  refine az (a_ (aB (am (ad J (aP (aU (parts:= [(1,.const (.bool Bool.true)),(2,.const (.bool Bool.true)),(3,.const (.bool Bool.true))]) ji lL J J) (ad J (bq eI ((1+i:Nat):Int) underlying22 t3 J (by decide) (by decide) J J J J fun v13=>cQ 13 9 J bO (aj (xs:= [.tmp 11,.tmp 13]) (eJ b1 zE v13 [((1+i:Nat):Int)] (cc zE (List.replicate 64 pu) (oK 1 i)) (by intro o ho;rw [List.mem_singleton.1 ho];omega) (by simp only [dZ,List.length_replicate]) (by simp)) mB [1] [(false,9)] [1] (fun _ _=>aa (am (ad J (aw J J (cw (c:=((1+(i+1):Nat):Int)) (by rw [bU (by omega)];omega)) (ak J (aa ?_))))))))))))));refine aJ (i+1) ⟨by omega,by omega⟩ J (by rw [ym 1 i,mG];rfl) J
 ·(try simp only [bj]at h1);have hi:i=12:=by omega
  subst hi;refine bF (aT (ak J (aa (aB (bC (X:=Nat) (fun i=>i≤12) (fun i=> [(0,Pt b0),(1,Pt b1),(2,.func (.func 191) #[] #[Pt b1]),(4,I6 ((16+i:Nat):Int))]) (fun i=> [(0,bh b0 253 (nW (List.replicate 64 pu))),(1,bh b1 253 (nW (cc tR (cc zE (List.replicate 64 pu) (oK 1 12)) (oK 16 i))))]) (fun i=> []) (fun i=>12-i) 0 (br _) J J J (fun i n1=>aT (ad J (aw J J lR (aa (ai J (fun h2=> ?_) (fun h2=> ?_)))))))))))
  ·(try simp only [bj]at h2);have hi:i<12:=by omega
   refine az (a_ (aB (am (ad J (aP (aU (parts:= [(1,.const (.bool Bool.true)),(2,.const (.bool Bool.true)),(4,.const (I6 1)),(5,.const (I6 18))]) ji lL J J) (ad J (bq eI ((16+i:Nat):Int) underlying22 t3 J (by decide) (by decide) J J J J fun v22=>cQ 22 9 J bO (aj (xs:= [.tmp 20,.tmp 22]) (eJ b1 tR v22 [((16+i:Nat):Int)] (cc tR (cc zE (List.replicate 64 pu) (oK 1 12)) (oK 16 i)) (by intro o ho;rw [List.mem_singleton.1 ho];omega) (by simp only [dZ,List.length_replicate]) (by simp)) mB [1] [(false,9)] [1] (fun _ _=>aa (am (ad J (aw J J (cw (c:=((16+(i+1):Nat):Int)) (by rw [bU (by omega)];omega)) (ak J (aa ?_))))))))))))));refine aJ (i+1) ⟨by omega,by omega⟩ J (by rw [ym 16 i,mG];rfl) J
  ·(try simp only [bj]at h2);have hi:i=12:=by omega
   subst hi;refine bF (ap (ad J (aP (aU (parts:= [(1,.const (.bool Bool.true)),(2,.const (.bool Bool.true)),(4,.const (I6 2)),(5,.const (I6 18))]) ji lL J J) (dv eI [17,18,19] (parts:= [(0,.const (I6 17)),(1,.const (I6 18)),(2,.const (I6 19))]) underlying22 t3 J (by decide) (by intro _;rfl) J (by decide) (by decide) J J J J fun v26=>cQ 26 9 J bO (aj (xs:= [.tmp 25,.tmp 26]) (eJ b1 HP v26 [17,18,19] (cc tR (cc zE (List.replicate 64 pu) (oK 1 12)) (oK 16 12)) (by decide) (by simp only [dZ,List.length_replicate]) (by decide)) mB [1] [(false,9)] [1] (fun _ _=>aF J (ad J (aP (aU (parts:= [(1,.const (.bool Bool.true)),(2,.const (.bool Bool.true)),(4,.const (I6 1)),(5,.const (I6 18))]) ji lL J J) (dv eI [32,33,34,35,36,37] (parts:= [(0,.const (I6 32)),(1,.const (I6 33)),(2,.const (I6 34)),(3,.const (I6 35)),(4,.const (I6 36)),(5,.const (I6 37))]) underlying22 t3 J (by decide) (by intro _;rfl) J (by decide) (by decide) J J J J fun v30=>cQ 30 9 J bO (aj (xs:= [.tmp 29,.tmp 30]) (eJ b1 tR v30 [32,33,34,35,36,37] (cc HP (cc tR (cc zE (List.replicate 64 pu) (oK 1 12)) (oK 16 12)) [17,18,19]) (by decide) (by simp only [dZ,List.length_replicate]) (by decide)) mB [1] [(false,9)] [1] (fun _ _=>aF J (ad J ?_))))))))))))
   refine aP (aU (parts:= [(1,.const (.bool Bool.true)),(4,.const (I6 1)),(5,.const (I6 22))]) ji lL J J) (bq eI 40 underlying22 t3 J (by decide) (by decide) J J J J fun v34=>cQ 34 9 J bO (aj (xs:= [.tmp 33,.tmp 34]) (eJ b1 ⟨false,true,false,false,1,22,0⟩ v34 [40] (cc tR (cc HP (cc tR (cc zE (List.replicate 64 pu) (oK 1 12)) (oK 16 12)) [17,18,19]) [32,33,34,35,36,37]) (by decide) (by simp only [dZ,List.length_replicate]) (by decide)) mB [1] [(false,9)] [1] (fun _ _=>aF J (ad J (aP (aU (parts:= [(1,.const (.bool Bool.true)),(4,.const (I6 2)),(5,.const (I6 22))]) ji lL J J) (bq eI 41 underlying22 t3 J (by decide) (by decide) J J J J fun v38=>cQ 38 9 J bO (aj (xs:= [.tmp 37,.tmp 38]) (eJ b1 ⟨false,true,false,false,2,22,0⟩ v38 [41] (cc ⟨false,true,false,false,1,22,0⟩ (cc tR (cc HP (cc tR (cc zE (List.replicate 64 pu) (oK 1 12)) (oK 16 12)) [17,18,19]) [32,33,34,35,36,37]) [40]) (by decide) (by simp only [dZ,List.length_replicate]) (by decide)) mB [1] [(false,9)] [1] (fun _ _=>aF J (ad J (aP (aU (parts:= [(4,.const (I6 2)),(5,.const (I6 18))]) ji lL J J) (bq eI 48 underlying22 t3 J (by decide) (by decide) J J J J fun v42=>cQ 42 9 J bO (aj (xs:= [.tmp 41,.tmp 42]) (eJ b1 ⟨false,false,false,false,2,18,0⟩ v42 [48] (cc ⟨false,true,false,false,2,22,0⟩ (cc ⟨false,true,false,false,1,22,0⟩ (cc tR (cc HP (cc tR (cc zE (List.replicate 64 pu) (oK 1 12)) (oK 16 12)) [17,18,19]) [32,33,34,35,36,37]) [40]) [41]) (by decide) (by simp only [dZ,List.length_replicate]) (by decide)) mB [1] [(false,9)] [1] (fun _ _=> ?_)))))))))))))
   refine aF J (ad J (aP (aU (parts:= []) ji lL J J) (dv eI [49,50,51] (parts:= [(0,.const (I6 49)),(1,.const (I6 50)),(2,.const (I6 51))]) underlying22 t3 J (by decide) (by intro _;rfl) J (by decide) (by decide) J J J J fun v46=>cQ 46 9 J bO (aj (xs:= [.tmp 45,.tmp 46]) (eJ b1 pu v46 [49,50,51] (cc ⟨false,false,false,false,2,18,0⟩ (cc ⟨false,true,false,false,2,22,0⟩ (cc ⟨false,true,false,false,1,22,0⟩ (cc tR (cc HP (cc tR (cc zE (List.replicate 64 pu) (oK 1 12)) (oK 16 12)) [17,18,19]) [32,33,34,35,36,37]) [40]) [41]) [48]) (by decide) (by simp only [dZ,List.length_replicate]) (by decide)) mB [1] [(false,9)] [1] (fun _ _=>aF J (ad J (aP (aU (parts:= [(2,.const (.bool Bool.true))]) ji lL J J) (bq eI 52 underlying22 t3 J (by decide) (by decide) J J J J fun v50=>cQ 50 9 J bO (aj (xs:= [.tmp 49,.tmp 50]) (eJ b1 ⟨false,false,true,false,0,0,0⟩ v50 [52] (cc pu (cc ⟨false,false,false,false,2,18,0⟩ (cc ⟨false,true,false,false,2,22,0⟩ (cc ⟨false,true,false,false,1,22,0⟩ (cc tR (cc HP (cc tR (cc zE (List.replicate 64 pu) (oK 1 12)) (oK 16 12)) [17,18,19]) [32,33,34,35,36,37]) [40]) [41]) [48]) [49,50,51]) (by decide) (by simp only [dZ,List.length_replicate]) (by decide)) mB [1] [(false,9)] [1] (fun _ _=>aF J (ad J ?_)))))))))))
   refine aP (aU (parts:= [(1,.const (.bool Bool.true)),(4,.const (I6 2)),(5,.const (I6 18)),(6,.const (I3 3))]) ji lL J J) (bq eI 53 underlying22 t3 J (by decide) (by decide) J J J J fun v54=>cQ 54 9 J bO (aj (xs:= [.tmp 53,.tmp 54]) (eJ b1 ⟨false,true,false,false,2,18,3⟩ v54 [53] (cc ⟨false,false,true,false,0,0,0⟩ (cc pu (cc ⟨false,false,false,false,2,18,0⟩ (cc ⟨false,true,false,false,2,22,0⟩ (cc ⟨false,true,false,false,1,22,0⟩ (cc tR (cc HP (cc tR (cc zE (List.replicate 64 pu) (oK 1 12)) (oK 16 12)) [17,18,19]) [32,33,34,35,36,37]) [40]) [41]) [48]) [49,50,51]) [52]) (by decide) (by simp only [dZ,List.length_replicate]) (by decide)) mB [1] [(false,9)] [1] (fun _ _=>aF J (ad J (aP (aU (parts:= [(2,.const (.bool Bool.true)),(4,.const (I6 2)),(5,.const (I6 18)),(6,.const (I3 4))]) ji lL J J) (bq eI 54 underlying22 t3 J (by decide) (by decide) J J J J fun v58=>cQ 58 9 J bO (aj (xs:= [.tmp 57,.tmp 58]) (eJ b1 ⟨false,false,true,false,2,18,4⟩ v58 [54] (cc ⟨false,true,false,false,2,18,3⟩ (cc ⟨false,false,true,false,0,0,0⟩ (cc pu (cc ⟨false,false,false,false,2,18,0⟩ (cc ⟨false,true,false,false,2,22,0⟩ (cc ⟨false,true,false,false,1,22,0⟩ (cc tR (cc HP (cc tR (cc zE (List.replicate 64 pu) (oK 1 12)) (oK 16 12)) [17,18,19]) [32,33,34,35,36,37]) [40]) [41]) [48]) [49,50,51]) [52]) [53]) (by decide) (by simp only [dZ,List.length_replicate]) (by decide)) mB [1] [(false,9)] [1] (fun _ _=>aF J (aP (aM zx J J (by rw [vU];simp only [dZ,List.length_replicate]) (aX (k:=1) J)) (aA (k:=0) (us:=nW shL) (c':=nW shL) zx J J (by kernel_rfl) (by kernel_rfl) (by kernel_rfl) J (by kernel_rfl) (by kernel_rfl) (aa (ax (aH () O J (bQ (aV zx J J (by kernel_rfl) (aX (k:=0) J))) J [] [] J J J)))))))))))))
theorem uE(op:Int):
  bi prog 132 [I6 op] [] [] (.agg (ql (dl op)).toArray) []:=by
 refine aI func132 J ntmps132 J fun w0 M H=>ap (aY ji J J fun b2=>aF J (aj (xs:= []) xF QI [] [] [] (fun _ _=>aY zx (c:=nW (List.replicate 64 pu)) (by kernel_rfl) J fun b3=>aA (k:=3) (us:=nW shL) (c':=nW shL) zx J J (by kernel_rfl) (by kernel_rfl) (by kernel_rfl) J (by kernel_rfl) (by kernel_rfl) (aa (aT (ad J (aw J J cr (ad J (aG [] J J O (fun hg1=>bc J) J (aG [(8,_)] J J ⟨J,O⟩ (fun hg2=>aR J J gI) J (aP (bH J J J) ?_)))))))))))
 refine aa (ai J (fun h3=> ?_) (fun h3=> ?_))
 ·(try simp only [bj]at h3);have hg:dl op=pu:=ae (by omega);rw [hg];refine ap (aP (aU (parts:= []) ji lL J J) (aq (k:=2) ji J J J J J J (aa (ax (aH () O J (bQ (aV ji J J J (aX (k:=2) J))) J [] [] J J J)))))
 ·(try simp only [bj]at h3);have hn:0≤op∧op<64:=by omega
  have hg:shL[op.toNat]?=some (dl op):=by
   have hl:shL.length=64:=by decide
   unfold dl;rw [ar hn,List.getD_eq_getElem?_getD,bN (by omega)];rfl
  refine az (ap (ad J (aP (dz (j:=op.toNat) underlying253 ji J J (by omega) (by omega)) ?_)));refine sE (aM ji J J J (kQ (us:=ql (dl op)) (k:=3) J (by rw [show(0:Nat)+op.toNat*7=op.toNat*7 by omega,show(ql (dl op)).length=7 from rfl];exact Bq shL _ _ hg))) J ?_;refine aq (k:=2) ji J J J J J J (aa (ax (aH () O J (bQ (aV ji J J J (aX (k:=2) J))) J [] [] J J J)))
theorem qh(n:Int)(u:Bool):
  bi prog 169 [I6 n,.bool u] [] [] (.bool (gr n u)) []:=by
 refine aI func169 J ntmps169 J fun w0 M H=>ap (ak J (aF J (ad J (aw J J bn (ad J (aG [] J J O (fun hg1=>bc J) J (aG [(8,_)] J J ⟨J,O⟩ (fun hg2=>bc J) J (cD [] [(8,_),(9,_)] J J O ⟨J,J,O⟩ (fun hg3 hg3'=>bc J) J (cD [(10,_)] [(8,_),(9,_)] J J ⟨J,O⟩ ⟨J,J,O⟩ (fun hg4 hg4'=>aR J J ec) J (aG [(8,_),(9,_)] J J ⟨J,J,O⟩ (fun hg5=>eL J J J (by first|exact dL|exact ef|exact dc hg5|exact dA hg5|rfl)) J (aG [(8,_),(9,_),(12,_)] J J ⟨J,J,J,O⟩ (fun hg6=>bc J) J (cD [] [(8,_),(9,_),(12,_),(13,_)] J J O ⟨J,J,J,J,O⟩ (fun hg7 hg7'=>bc J) J (cD [(14,_)] [(8,_),(9,_),(12,_),(13,_)] J J ⟨J,O⟩ ⟨J,J,J,J,O⟩ (fun hg8 hg8'=>aR J J cr) J (aG [(8,_),(9,_),(12,_),(13,_)] J J ⟨J,J,J,J,O⟩ (fun hg9=>eL J J J (by first|exact dL|exact ef|exact dc hg9|exact dA hg9|rfl)) J (aP (bH J J J) ?_)))))))))))))))
 refine ak J (aa (ax (aH () O J (bQ (aL J)) J [] [] J J J)))
theorem DL(s:Sh)(n:Int)(hn:0≤n∧n<4294967296)(hs:s.kd=1→s.bt=18∨s.bt=22)(hb:0≤s.bt∧s.bt<32):
  bi prog 170 [.agg (ql s).toArray,I3 n] [] [] (.bool (lm s n)) []:=by
 refine aI func170 J ntmps170 J fun w0 M H=>ap (ck J J fun b2=>ak J (aa (a_ (aB (ap (aC Cl J (aQ 2 t3 J J J J (aw J J bn (ak J (aa (ai J (fun h1=> ?_) (fun h1=> ?_))))))))))))
 ·(try simp only [bj]at h1);have k0:s.kd=0:=h1;refine ap (ad J (aw J J bn (ak J (aa (ax (aH () O J (bQ (aL J)) (by unfold lm;rw [ar k0]) [] [] J J J))))))
 ·(try simp only [bj]at h1);have k0:¬s.kd=0:=h1;refine ap (aC Cl J (aQ 2 t3 J J J J (aw J J bn (ak J (aa (ai J (fun h2=> ?_) (fun h2=> ?_)))))))
  ·(try simp only [bj]at h2);have k1:s.kd=1:=h2;refine ap (ad J (aC Ck J (aQ 2 t3 J J J J (aj (xs:= [.tmp 15,.tmp 17]) (u4 n s.bt hn (hs k1)) Lj [] [] [] (fun _ _=>ak J (aa (ax (aH () O J (bQ (aL J)) (by unfold lm;rw [ae k0,ar k1]) [] [] J J J))))))))
  ·(try simp only [bj]at h2);have k1:¬s.kd=1:=h2;refine ap (aC Cj J (aQ 2 dm J J J J (aw J J ec (ak J (aa (ai J (fun h3=> ?_) (fun h3=> ?_)))))))
   ·(try simp only [bj]at h3);have k2:s.mo>0:=h3;refine ap (ad J (aC Cj J (aQ 2 dm J J J J (aw J J lR (ak J (aa (ax (aH () O J (bQ (aL J)) (by unfold lm;rw [ae k0,ae k1,ar k2]) [] [] J J J))))))))
   ·(try simp only [bj]at h3);have k2:¬s.mo>0:=by omega
    refine az (ap (ad J (aC Ck J (aQ 2 t3 J J J J (aw J J (qO (by omega) (by first|decide|(simp [IntKind.bits];omega)) J) (aw J J bn (ak J (aa (ax (aH () O J (bQ (aL J)) (by unfold lm;rw [ae k0,ae k1,ae k2]) [] [] J J J))))))))))
theorem Mh:∀s∈shL,(s.kd=1→s.bt=18∨s.bt=22)∧0≤s.bt∧s.bt<32∧(s.bt=0∨s.bt=18∨s.bt=22)∧(s.bt=18→s.b=false)∧(s.bt=22→s.a=false∧s.b=false):=by decide
theorem jL(op:Int):((dl op).kd=1→(dl op).bt=18∨(dl op).bt=22)∧0≤(dl op).bt∧(dl op).bt<32∧((dl op).bt=0∨(dl op).bt=18∨(dl op).bt=22)∧((dl op).bt=18→(dl op).b=false)∧((dl op).bt=22→(dl op).a=false∧(dl op).b=false):=by
 unfold dl;split
 ·rename_i h;have hl:shL.length=64:=by decide
  rw [List.getD_eq_getElem?_getD,bN (by omega)];exact Mh _ (List.getElem_mem _)
 ·decide
theorem Pw{op:Int}(h:(dl op).k=true):0≤op∧op<64:=by
 unfold dl at h;by_cases hc:0≤op∧op<64
 ·exact hc
 ·rw [ae hc]at h;cases h
theorem wZ{n:Int}{u:Bool}(h:gr n u=true):0≤n∧n<16:=by
 unfold gr at h;simp only [Bool.or_eq_true,Bool.and_eq_true,decide_eq_true_eq]at h;omega
theorem vM{i:Qi}(h:qQ i=true):(0≤i.op∧i.op<64)∧(0≤i.d∧i.d<16)∧(0≤i.a∧i.a<16)∧(0≤i.b∧i.b<16):=by
 unfold qQ at h;simp only [Bool.and_eq_true]at h;obtain⟨⟨⟨⟨h1,h2⟩,h3⟩,h4⟩,h5⟩:=h;exact⟨Pw h1,wZ h2,wZ h3,wZ h4⟩
def nw(i:Qi):Int:=i.op*67108864+i.d*4194304+i.a*262144+i.b*16384+i.imm%2^(dl i.op).bt.toNat
def ur(i:Qi):Int:=if qQ i=true then nw i else 0
theorem Od{x y:Int}(k:Nat)(hx:0≤x∧x<4294967296)(hx2:x%((2^k:Nat):Int)=0)(hy:0≤y∧y<((2^k:Nat):Int))(hy2:y<4294967296):bits .or .u32 x y=x+y:=by
 obtain⟨a,rfl⟩:=Int.eq_ofNat_of_zero_le hx.1;obtain⟨b,rfl⟩:=Int.eq_ofNat_of_zero_le hy.1;rw [u32_or _ _ hx.1 hx.2 hy.1 hy2];simp only [Int.toNat_natCast];rw [nat_join k a b (by exact_mod_cast hx2) (by exact_mod_cast hy.2)];omega
theorem fP{n:Int}(h:gr n false=true):n=0:=by
 unfold gr at h;simp only [Bool.or_eq_true,Bool.and_eq_true,decide_eq_true_eq,Bool.false_and]at h;simpa using h
theorem P2{i:Qi}(h:qQ i=true)(hi:0≤i.imm∧i.imm<4294967296):
  bits .or .u32 (bits .or .u32 (bits .or .u32 (bits .or .u32 (IntKind.u32.wrap (i.op*2^(26:Int).toNat)) (IntKind.u32.wrap (i.d*2^(22:Int).toNat))) (IntKind.u32.wrap (i.a*2^(18:Int).toNat))) (IntKind.u32.wrap (i.b*2^(14:Int).toNat))) (bits .and .u32 i.imm (IntKind.u32.wrap (IntKind.u32.wrap (1*2^(dl i.op).bt.toNat)-1)))=nw i:=by
 obtain⟨b1,b2,b3,b4⟩:=vM h;unfold qQ at h;simp only [Bool.and_eq_true]at h;obtain⟨⟨⟨⟨h1,h2⟩,h3⟩,h4⟩,h5⟩:=h;obtain⟨_,_,_,k1,k2,k3⟩:=jL i.op;rw [show((2:Int)^(26:Int).toNat)=67108864 from J,show((2:Int)^(22:Int).toNat)=4194304 from J,show((2:Int)^(18:Int).toNat)=262144 from J,show((2:Int)^(14:Int).toNat)=16384 from J];rw [kH (n:=i.op*67108864) (by omega) (by omega),kH (n:=i.d*4194304) (by omega) (by omega),kH (n:=i.a*262144) (by omega) (by omega),kH (n:=i.b*16384) (by omega) (by omega)];rw [Od (x:=i.op*67108864) (y:=i.d*4194304) 26 ⟨by omega,by omega⟩ (by omega) ⟨by omega,by omega⟩ (by omega),Od (x:=i.op*67108864+i.d*4194304) (y:=i.a*262144) 22 ⟨by omega,by omega⟩ (by omega) ⟨by omega,by omega⟩ (by omega),Od (x:=i.op*67108864+i.d*4194304+i.a*262144) (y:=i.b*16384) 18 ⟨by omega,by omega⟩ (by omega) ⟨by omega,by omega⟩ (by omega)];unfold nw;rcases k1 with k|k|k
 ·rw [k,show IntKind.u32.wrap (IntKind.u32.wrap (1*2^(0:Int).toNat)-1)=0 from J,show((2:Int)^(0:Int).toNat)=1 from J];have h0:bits .and .u32 i.imm 0=0:=by
   rw [u32_and _ _ hi.1 hi.2 (by omega) (by omega)];simp
  rw [h0,Od 0 ⟨by omega,by omega⟩ (by omega) ⟨by omega,by omega⟩ (by omega)];omega
 ·have hb:i.b=0:=fP (by rw [←k2 k];exact h4);rw [k,show IntKind.u32.wrap (IntKind.u32.wrap (1*2^(18:Int).toNat)-1)=262143 from J,show((2:Int)^(18:Int).toNat)=262144 from J,Rv hi,hb];rw [Od 18 ⟨by omega,by omega⟩ (by omega) ⟨by omega,by omega⟩ (by omega)]
 ·have hb:i.b=0:=fP (by rw [←(k3 k).2];exact h4);have ha:i.a=0:=fP (by rw [←(k3 k).1];exact h3);rw [k,show IntKind.u32.wrap (IntKind.u32.wrap (1*2^(22:Int).toNat)-1)=4194303 from J,show((2:Int)^(22:Int).toNat)=4194304 from J,Rt hi,hb,ha];rw [Od 22 ⟨by omega,by omega⟩ (by omega) ⟨by omega,by omega⟩ (by omega)]
theorem AM{i:Qi}(h:qQ i=true):0≤nw i∧nw i<4294967296:=by
 obtain⟨b1,b2,b3,b4⟩:=vM h;unfold qQ at h;simp only [Bool.and_eq_true]at h;obtain⟨⟨⟨⟨h1,h2⟩,h3⟩,h4⟩,h5⟩:=h;obtain⟨_,_,_,k1,k2,k3⟩:=jL i.op;unfold nw;rcases k1 with k|k|k
 ·rw [k,show((2:Int)^(0:Int).toNat)=1 from J];omega
 ·have hb:i.b=0:=fP (by rw [←k2 k];exact h4);rw [k,show((2:Int)^(18:Int).toNat)=262144 from J];omega
 ·have hb:i.b=0:=fP (by rw [←(k3 k).2];exact h4);have ha:i.a=0:=fP (by rw [←(k3 k).1];exact h3);rw [k,show((2:Int)^(22:Int).toNat)=4194304 from J];omega
theorem NE(i:Qi):0≤ur i∧ur i<4294967296:=by
 unfold ur;split
 ·rename_i h;exact AM h
 ·omega
def fK(n:Int):List Int:= [n%256,n/256%256,n/65536%256,n/16777216%256]
def NB(i:Qi):Int:=if qQ i=true then 0 else 12
theorem zq(i:Qi)(hi:0≤i.imm∧i.imm<4294967296):
  bi prog 131 [.agg (ja i).toArray] [] [] (.bool (qQ i)) []:=by
 refine aI func131 J ntmps131 J fun w0 M H=>ap (ck J J fun b1=>ak J (aF J (aC cv J (aQ 1 t3 J J J J (aj (xs:= [.tmp 5]) (uE i.op) LD [] [] [] (fun _ _=>aY ji J J fun b3=>aq (k:=3) ji J J J J J J (aF J (aC Cm J (aQ 3 t4 J J J J (ad J (aG [] J J O (fun hg1=>ag h_ J) J ?_)))))))))))
 refine aG [(10,_)] J J ⟨J,O⟩ (fun hg2=>ah t3 J J (ay (k:=1) J J)) J (aG [(10,_),(11,_)] J J ⟨J,J,O⟩ (fun hg3=>ag JW J) J (aG [(10,_),(11,_),(12,_)] J J ⟨J,J,J,O⟩ (fun hg4=>ah t4 J J (ay (k:=3) J J)) J (jm [(10,_),(11,_),(12,_),(13,_)] J J ⟨J,J,J,J,O⟩ (fun hg5=>bB (xs:= [.tmp 11,.tmp 13]) (qh i.d (dl i.op).d) Hj [] [] []) J (aP (bH J J J) (ad J (aG [] J J O (fun hg6=>ag mW J) J (aG [(17,_)] J J ⟨J,O⟩ (fun hg7=>ah t3 J J (ay (k:=1) J J)) J (aG [(17,_),(18,_)] J J ⟨J,J,O⟩ (fun hg8=>ag JV J) J (aG [(17,_),(18,_),(19,_)] J J ⟨J,J,J,O⟩ (fun hg9=>ah t4 J J (ay (k:=3) J J)) J (jm [(17,_),(18,_),(19,_),(20,_)] J J ⟨J,J,J,J,O⟩ (fun hg10=>bB (xs:= [.tmp 18,.tmp 20]) (qh i.a (dl i.op).a) Hj [] [] []) J (aP (bH J J J) (ad J (aG [] J J O (fun hg11=>ag mV J) J (aG [(24,_)] J J ⟨J,O⟩ (fun hg12=>ah t3 J J (ay (k:=1) J J)) J (aG [(24,_),(25,_)] J J ⟨J,J,O⟩ (fun hg13=>ag JU J) J (aG [(24,_),(25,_),(26,_)] J J ⟨J,J,J,O⟩ (fun hg14=>ah t4 J J (ay (k:=3) J J)) J (jm [(24,_),(25,_),(26,_),(27,_)] J J ⟨J,J,J,J,O⟩ (fun hg15=>bB (xs:= [.tmp 25,.tmp 27]) (qh i.b (dl i.op).b) Hj [] [] []) J (aP (bH J J J) (ad J ?_)))))))))))))))))));refine aG [] J J O (fun hg16=>aM ji J J J (aX (k:=3) J)) J (aG [(31,_)] J J ⟨J,O⟩ (fun hg17=>ag d9 J) J (aG [(31,_),(32,_)] J J ⟨J,J,O⟩ (fun hg18=>ah dm J J (ay (k:=1) J J)) J (jm [(31,_),(32,_),(33,_)] J J ⟨J,J,J,O⟩ (fun hg19=>bB (xs:= [.tmp 31,.tmp 33]) (DL (dl i.op) i.imm hi (jL i.op).1 ⟨(jL i.op).2.1,(jL i.op).2.2.1⟩) QJ [] [] []) J (aP (bH J J J) (ak J (aa (ax (aH () O J (bQ (aL J)) J [] [] J J J))))))))
theorem yG(i:Qi)(hi:0≤i.imm∧i.imm<4294967296):
  bi prog 98 [.agg (ja i).toArray] [] [] (.tuple #[I3 (ur i),I6 (NB i)]) []:=by
 refine aI func98 J ntmps98 J fun w0 M H=>ap (ck J J fun b1=>ak J (ak J (aa (aT (aP (aM fA J J J (aX (k:=1) J)) (aj (xs:= [.tmp 5]) (zq i hi) Q5 [] [] [] (fun _ _=>aP (cz J) (aa (ai J (fun h1=> ?_) (fun h1=> ?_))))))))))
 ·have hv:qQ i=false:=by simpa using h1
  rw [show ur i=0 from ae (by rw [hv];simp),show NB i=12 from ae (by rw [hv];simp)];refine ap (ak J (ak J (aa (ax (aH () O J (IM (aL J) (aL J)) J [] [] J J J)))))
 ·have hv:qQ i=true:=by simpa using h1
  rw [show ur i=nw i from ar hv,show NB i=0 from ar hv];obtain⟨b1,b2,b3,b4⟩:=vM hv;obtain⟨_,c1,c2,_⟩:=jL i.op;refine az (ap (aC cv J (aQ 1 t3 J J J J (aP (cC underlying3 underlying41 J (by first|exact cd (by omega)|rfl)) (aw J J (jb (by omega) (by first|decide|(simp [IntKind.bits];omega)) J) (aC h_ J (aQ 1 t3 J J J J (aP (cC underlying3 underlying41 J (by first|exact cd (by omega)|rfl)) (aw J J (jb (by omega) (by first|decide|(simp [IntKind.bits];omega)) J) (aw J J (Ea J) (aC mW J (aQ 1 t3 J J J J (aP (cC underlying3 underlying41 J (by first|exact cd (by omega)|rfl)) (aw J J (jb (by omega) (by first|decide|(simp [IntKind.bits];omega)) J) (aw J J (Ea J) (aC mV J (aQ 1 t3 J J J J (aP (cC underlying3 underlying41 J (by first|exact cd (by omega)|rfl)) ?_))))))))))))))))));refine aw J J (jb (by omega) (by first|decide|(simp [IntKind.bits];omega)) J) (aw J J (Ea J) (ak J (aa (a_ ?_))));refine bJ [27,28,29,30,31,32,33,34,35,36,37,2,3] _ J (aW (V:= [(0,27,_),(1,28,_),(2,29,_),(3,30,_),(4,31,_)]) [0,1,2,3,4] 5 [5,4,3] [6,7,8,9,10,11,12] (fun _=> [(6,33,_),(7,34,_),(8,35,_),(9,36,_),(10,37,_),(11,2,_),(12,3,_)]) J J (aD J J (ac J (ag d9 J) (ac J (ah dm J J (ay (k:=1) J J)) (ac J (ag cv J) (ac J (ah t3 J J (ay (k:=1) J J)) av))))) J J J J J J J J J J J (fun _ _=>J) J (bB (xs:= [.tmp 31]) (uE i.op) LD [] [] []) (fun _ _=>bl [6,7,8,9,10,11,12,0,1,2] J J (ac J (ou JJ t3 J J) (ac J (aR J J (jb (by omega) (by first|decide|(simp [IntKind.bits];omega)) J)) (ac J (aR J J yZ) (ac J (aR J J (tK J)) (ac J (aR J J (Ea J)) (ac J (cA J) (ac J (cA J) (aD J J (ac J (ag d9 J) (ac J (ah dm J J (ay (k:=1) J J)) av)))))))))) J J J ?_));refine ax (aH () O J (IM (aL J) (aL J)) (congrArg (fun z=>Value.tuple #[Value.int .u32 z,Value.int .i64 0]) (P2 hv hi)) [] [] J J J)
theorem Fm(n:Int)(hn:0≤n∧n<4294967296):
  bi prog 100 [I3 n,I6 4] [] [] (Sg (lT (fK n))) []:=by
 refine aI func100 J ntmps100 J fun w0 M H=>ap (ak J (aF J (ad J (aP (cC underlying41 underlying5 J (by first|exact Eu (by omega) (by omega)|rfl)) (ad J (aw J J (qO (by omega) (by first|decide|(simp [IntKind.bits];omega)) J) (aP (cC underlying41 underlying5 J (by first|exact Eu (by omega) (by omega)|rfl)) (ad J (aw J J (qO (by omega) (by first|decide|(simp [IntKind.bits];omega)) J) (aP (cC underlying41 underlying5 J (by first|exact Eu (by omega) (by omega)|rfl)) (ad J (aw J J (qO (by omega) (by first|decide|(simp [IntKind.bits];omega)) J) (aP (cC underlying41 underlying5 J (by first|exact Eu (by omega) (by omega)|rfl)) (dv co (fK n) (parts:= [(0,.tmp 7),(1,.tmp 10),(2,.tmp 13),(3,.tmp 16)]) underlying84 t5 J (by decide) (by intro _;rfl) J (by decide) (by decide) J J J J fun v17=>ak J ?_))))))))))))))
 refine aF J (ad J (ad J (aP (Fv J J J) (aP (sG J J J) (aP (jK (j:=4) underlying84 t5 J J (be (k:=17) J) J (bX 4)) (cQ 17 17 J bO (Mo 17 18 4 J (bX 4) (aP (FA underlying84 underlying5 underlying9 J (aK (k:=18) J) (by simp [fK])) (ak J (aa (ax (aH () O J (bQ (aL J)) J [] [] J J J))))))))))))
theorem yO(b:Nat)(p:Option Addr)(hp:p=none∨p=some ⟨b,0,none⟩)(v:SV):
  bi prog 133 [Pt b] [bh b 177 [.pointer p,sv v]] [] (.tuple #[]) [bh b 177 [Pt b,sv v]]:=by
 refine aI func133 J ntmps133 J fun w0 M H=>ap (ad J (bI J (aC wS J (aQ 0 Ma J J J J (aw J J (NW underlying175) (aa (ai J (fun h1=> ?_) (fun h1=> ?_))))))))
 ·obtain rfl:p=none:=by cases p with|none=>rfl|some _=>cases h1
  refine am (ad J (ad J (aP (Po (k:=0) underlying175 underlying255 Ir (by decide) J J (by simp)) (aP (IY func172 (by kernel_rfl) (by kernel_rfl) (by kernel_rfl) (by kernel_rfl) J) (aP (I0 (k:=0) underlying255 underlying175 Ir J J (by kernel_rfl)) (bI J (aC wS J (aA (k:=0) Ma J J J J J J J J (aa (cm () O J gn J [0] [] J J J))))))))))
 ·obtain rfl:p=some ⟨b,0,none⟩:=hp.resolve_left (fun e=>by subst e;cases h1);refine ap (ad J (bI J (aC wS J (aQ 0 Ma J J J J (ad J (aP (IZ underlying175 Ir J J) (aa (ai J (fun h2=> ?_) (fun h2=> ?_)))))))))
  ·cases h2
  ·refine az (cm () O J gn J [0] [] J J J)
theorem C3(b:Nat)(p:Option Addr)(hp:p=none∨p=some ⟨b,0,none⟩)(v:SV)(l:List Int)(s:Ba)(hl:l.length+s.size≤1000000):
  Spec prog 99 [Pt b,Sg s] [bh b 177 [.pointer p,sv v],own 5 1 co (sv v) l] [] (X:=SV) (fun _=>True) (fun _=> .tuple #[I6 (s.size:Int),.nilIface]) (fun v=> [bh b 177 [Pt b,sv v],own 5 1 co (sv v) (l++bv s)]) (fun _=> []):=by
 refine aI func99 J ntmps99 J fun w0 M H=>ap (ak J (ak J (aF J (ad J (aj (xs:= [.tmp 6]) (yO b p hp v) Q4 [0] [] [0] (fun _ _=>aF J (ad J (ad J (bI J (aC rJ J (aQ 0 zv J J J J (ad J (Dw 1 underlying84 underlying9 t5 J J J J (by omega) J fun v14=> ?_)))))))))))))
 refine bI J (aC rJ J (aA (k:=0) zv J J J J J J J J (aF J (ad J (aP (cT underlying9 J) (ak J (ak J (aa (ax (aH v14 O J (IM (aL J) (aL J)) J [0,1] [] J J J))))))))))
theorem D_(b:Nat)(p:Option Addr)(v:SV)(l:List Int)(hl:l≠ [])(hb:∀n∈l,0≤n∧n<256):
  bi prog 101 [Pt b] [bh b 177 [.pointer p,sv v],own 5 1 co (sv v) l] [] (Sg (lT l)) [bh b 177 [.pointer p,sv v]]:=by
 refine aI func101 J ntmps101 J fun w0 M H=>ap (ak J (aa (a_ (bJ [3,4,5,6,7,8,9,10,11,12,13,2] _ J (aW (V:= [(0,3,_),(1,4,_),(2,5,_),(3,6,_),(4,7,_),(5,8,_),(6,9,_),(7,10,_),(8,11,_),(9,12,_)]) [0,1,2,3,4,5,6,7,8,9] 10 [10,9,8,7,6,5,4,3,2,1,0] [11] (fun _=> [(11,2,_)]) J J (aD J J (ac J (au J) (ac J (ag rJ J) (ac J (ah zv J J (ay (k:=0) J J)) (ac J (Pn (k:=1) J J hl) (aD J J (ac J (au J) (ac J (ag rJ J) (ac J (ah zv J J (ay (k:=0) J J)) (ac J (aS underlying84 J (be (k:=1) J)) av)))))))))) J J J J J J J J J J J (fun _ _=>J) J (Jd (k:=1) underlying221 (by kernel_rfl) J J J hl hb) (fun _ _=>bl [11] J J (ac J (cA J) av) J J J (ax (aH () O J (bQ (aL J)) J [0] [] J J J))))))))
structure Fo where
 is:Bool
 d:Bool
 a:Bool
 b:Bool
 sg:Bool
 bt:Int
 mo:Int
deriving DecidableEq
def Ot(f:Fo):List Value:= [.bool f.is,.bool f.d,.bool f.a,.bool f.b,.bool f.sg,I6 f.bt,I3 f.mo]
def AE(op:Int):Fo:=⟨(dl op).k,(dl op).d,(dl op).a,(dl op).b,decide ((dl op).kd=1),(dl op).bt,(dl op).mo⟩
def BN(op:Int):Fo:=
 if 1≤op∧op≤12 then⟨true,true,true,true,false,0,0⟩else if op=17∨op=18∨op=19 then⟨true,true,true,false,false,18,0⟩else if(16≤op∧op≤27)∨(32≤op∧op≤37)then⟨true,true,true,false,true,18,0⟩else if op=40 then⟨true,true,false,false,true,22,0⟩else if op=41 then⟨true,true,false,false,false,22,0⟩else if op=48 then⟨true,false,false,false,false,18,0⟩else if op=49∨op=50∨op=51 then⟨true,false,false,false,false,0,0⟩else if op=52 then⟨true,false,true,false,false,0,0⟩else if op=53 then⟨true,true,false,false,false,18,3⟩else if op=54 then⟨true,false,true,false,false,18,4⟩else⟨false,false,false,false,false,0,0⟩
theorem I_:∀n,n<64→BN ((n:Nat):Int)=AE ((n:Nat):Int):=by decide
theorem z9{op:Int}(h:0≤op∧op<64):BN op=AE op:=by
 have:=I_ op.toNat (by omega)
 rw [show((op.toNat:Nat):Int)=op by omega]at this;exact this
theorem ws(op:Int):
  bi prog 197 [I6 op] [] [] (.agg (Ot (BN op)).toArray) []:=by
 refine aI func197 J ntmps197 J fun w0 M H=>ap (aY fT J J fun b2=>aa (a_ (aB (ap (ad J (aw J J gI (ad J (aG [] J J O (fun hg1=>bc J) J (aG [(7,_)] J J ⟨J,O⟩ (fun hg2=>aR J J lR) J (aP (bH J J J) (ak J (aa (ai J (fun h3=> ?_) (fun h3=> ?_))))))))))))))
 ·(try simp only [bj]at h3);have q1:1≤op∧op≤12:=by omega
  refine ap (aP (aU (parts:= [(0,.const (.bool Bool.true)),(1,.const (.bool Bool.true)),(2,.const (.bool Bool.true)),(3,.const (.bool Bool.true))]) fT mm J J) (aq (k:=2) fT J J J J J J (aa (ax (aH () O J (bQ (aV fT J J J (aX (k:=2) J))) (by unfold BN;rw [ar q1];rfl) [] [] J J J)))))
 ·(try simp only [bj]at h3);have q1:¬(1≤op∧op≤12):=by omega
  refine ap (ad J (aw J J bn (ad J (aG [] J J O (fun hg4=>bc J) J (aG [(15,_)] J J ⟨J,O⟩ (fun hg5=>aR J J bn) J (aP (bH J J J) (ad J (aG [] J J O (fun hg6=>bc J) J (aG [(19,_)] J J ⟨J,O⟩ (fun hg7=>aR J J bn) J (aP (bH J J J) (ak J (aa (ai J (fun h8=> ?_) (fun h8=> ?_))))))))))))))
  ·(try simp only [bj]at h8);have q2:op=17∨op=18∨op=19:=by omega
   refine ap (aP (aU (parts:= [(0,.const (.bool Bool.true)),(1,.const (.bool Bool.true)),(2,.const (.bool Bool.true)),(5,.const (I6 18))]) fT mm J J) (aq (k:=2) fT J J J J J J (aa (ax (aH () O J (bQ (aV fT J J J (aX (k:=2) J))) (by unfold BN;rw [ae q1,ar q2];rfl) [] [] J J J)))))
  ·(try simp only [bj]at h8);have q2:¬(op=17∨op=18∨op=19):=by omega
   refine ap (ad J (aw J J gI (ad J (aG [] J J O (fun hg9=>bc J) J (aG [(27,_)] J J ⟨J,O⟩ (fun hg10=>aR J J lR) J (aP (bH J J J) (ad J (aG [] J J O (fun hg11=>bc J) J (aG [(31,_)] J J ⟨J,O⟩ (fun hg12=>aR J J gI) J (aG [(31,_),(32,_)] J J ⟨J,J,O⟩ (fun hg13=>bc J) J (cD [] [(31,_),(32,_),(33,_)] J J O ⟨J,J,J,O⟩ (fun hg14 hg14'=>bc J) J (cD [(34,_)] [(31,_),(32,_),(33,_)] J J ⟨J,O⟩ ⟨J,J,J,O⟩ (fun hg15 hg15'=>aR J J lR) J (aG [(31,_),(32,_),(33,_)] J J ⟨J,J,J,O⟩ (fun hg16=>eL J J J (by first|exact dL|exact ef|exact dc hg16|exact dA hg16|rfl)) J (aP (bH J J J) (ak J (aa (ai J (fun h17=> ?_) (fun h17=> ?_))))))))))))))))))
   ·(try simp only [bj]at h17);have q3:(16≤op∧op≤27)∨(32≤op∧op≤37):=by omega
    refine ap (aP (aU (parts:= [(0,.const (.bool Bool.true)),(1,.const (.bool Bool.true)),(2,.const (.bool Bool.true)),(4,.const (.bool Bool.true)),(5,.const (I6 18))]) fT mm J J) (aq (k:=2) fT J J J J J J (aa (ax (aH () O J (bQ (aV fT J J J (aX (k:=2) J))) (by unfold BN;rw [ae q1,ae q2,ar q3];rfl) [] [] J J J)))))
   ·(try simp only [bj]at h17);have q3:¬((16≤op∧op≤27)∨(32≤op∧op≤37)):=by omega
    refine ap (ad J (aw J J bn (ak J (aa (ai J (fun h18=> ?_) (fun h18=> ?_))))))
    ·(try simp only [bj]at h18);have q4:op=40:=by omega
     refine ap (aP (aU (parts:= [(0,.const (.bool Bool.true)),(1,.const (.bool Bool.true)),(4,.const (.bool Bool.true)),(5,.const (I6 22))]) fT mm J J) (aq (k:=2) fT J J J J J J (aa (ax (aH () O J (bQ (aV fT J J J (aX (k:=2) J))) (by unfold BN;rw [ae q1,ae q2,ae q3,ar q4];rfl) [] [] J J J)))))
    ·(try simp only [bj]at h18);have q4:¬(op=40):=by omega
     refine ap (ad J (aw J J bn (ak J (aa (ai J (fun h19=> ?_) (fun h19=> ?_))))))
     ·(try simp only [bj]at h19);have q5:op=41:=by omega
      refine ap (aP (aU (parts:= [(0,.const (.bool Bool.true)),(1,.const (.bool Bool.true)),(5,.const (I6 22))]) fT mm J J) (aq (k:=2) fT J J J J J J (aa (ax (aH () O J (bQ (aV fT J J J (aX (k:=2) J))) (by unfold BN;rw [ae q1,ae q2,ae q3,ae q4,ar q5];rfl) [] [] J J J)))))
     ·(try simp only [bj]at h19);have q5:¬(op=41):=by omega
      refine ap (ad J (aw J J bn (ak J (aa (ai J (fun h20=> ?_) (fun h20=> ?_))))))
      ·(try simp only [bj]at h20);have q6:op=48:=by omega
       refine ap (aP (aU (parts:= [(0,.const (.bool Bool.true)),(5,.const (I6 18))]) fT mm J J) (aq (k:=2) fT J J J J J J (aa (ax (aH () O J (bQ (aV fT J J J (aX (k:=2) J))) (by unfold BN;rw [ae q1,ae q2,ae q3,ae q4,ae q5,ar q6];rfl) [] [] J J J)))))
      ·(try simp only [bj]at h20);have q6:¬(op=48):=by omega
       refine ap (ad J (aw J J bn (ad J (aG [] J J O (fun hg21=>bc J) J (aG [(55,_)] J J ⟨J,O⟩ (fun hg22=>aR J J bn) J (aP (bH J J J) (ad J (aG [] J J O (fun hg23=>bc J) J (aG [(59,_)] J J ⟨J,O⟩ (fun hg24=>aR J J bn) J (aP (bH J J J) (ak J (aa (ai J (fun h25=> ?_) (fun h25=> ?_))))))))))))))
       ·(try simp only [bj]at h25);have q7:op=49∨op=50∨op=51:=by omega
        refine ap (aP (aU (parts:= [(0,.const (.bool Bool.true))]) fT mm J J) (aq (k:=2) fT J J J J J J (aa (ax (aH () O J (bQ (aV fT J J J (aX (k:=2) J))) (by unfold BN;rw [ae q1,ae q2,ae q3,ae q4,ae q5,ae q6,ar q7];rfl) [] [] J J J)))))
       ·(try simp only [bj]at h25);have q7:¬(op=49∨op=50∨op=51):=by omega
        refine ap (ad J (aw J J bn (ak J (aa (ai J (fun h26=> ?_) (fun h26=> ?_))))))
        ·(try simp only [bj]at h26);have q8:op=52:=by omega
         refine ap (aP (aU (parts:= [(0,.const (.bool Bool.true)),(2,.const (.bool Bool.true))]) fT mm J J) (aq (k:=2) fT J J J J J J (aa (ax (aH () O J (bQ (aV fT J J J (aX (k:=2) J))) (by unfold BN;rw [ae q1,ae q2,ae q3,ae q4,ae q5,ae q6,ae q7,ar q8];rfl) [] [] J J J)))))
        ·(try simp only [bj]at h26);have q8:¬(op=52):=by omega
         refine ap (ad J (aw J J bn (ak J (aa (ai J (fun h27=> ?_) (fun h27=> ?_))))))
         ·(try simp only [bj]at h27);have q9:op=53:=by omega
          refine ap (aP (aU (parts:= [(0,.const (.bool Bool.true)),(1,.const (.bool Bool.true)),(5,.const (I6 18)),(6,.const (I3 3))]) fT mm J J) (aq (k:=2) fT J J J J J J (aa (ax (aH () O J (bQ (aV fT J J J (aX (k:=2) J))) (by unfold BN;rw [ae q1,ae q2,ae q3,ae q4,ae q5,ae q6,ae q7,ae q8,ar q9];rfl) [] [] J J J)))))
         ·(try simp only [bj]at h27);have q9:¬(op=53):=by omega
          refine ap (ad J (aw J J bn (ak J (aa (ai J (fun h28=> ?_) (fun h28=> ?_))))))
          ·(try simp only [bj]at h28);have q10:op=54:=by omega
           refine ap (aP (aU (parts:= [(0,.const (.bool Bool.true)),(2,.const (.bool Bool.true)),(5,.const (I6 18)),(6,.const (I3 4))]) fT mm J J) (aq (k:=2) fT J J J J J J (aa (ax (aH () O J (bQ (aV fT J J J (aX (k:=2) J))) (by unfold BN;rw [ae q1,ae q2,ae q3,ae q4,ae q5,ae q6,ae q7,ae q8,ae q9,ar q10];rfl) [] [] J J J)))))
          ·(try simp only [bj]at h28);have q10:¬(op=54):=by omega
           refine az (ap (aP (aU (parts:= []) fT mm J J) (aq (k:=2) fT J J J J J J (aa (ax (aH () O J (bQ (aV fT J J J (aX (k:=2) J))) (by unfold BN;rw [ae q1,ae q2,ae q3,ae q4,ae q5,ae q6,ae q7,ae q8,ae q9,ae q10];rfl) [] [] J J J))))))
theorem ss(n:Int)(u:Bool):
  bi prog 212 [I6 n,.bool u] [] [] (.bool (gr n u)) []:=by
 refine aI func212 J ntmps212 J fun w0 M H=>ap (ak J (aF J (ad J (aw J J bn (ad J (aG [] J J O (fun hg1=>bc J) J (aG [(8,_)] J J ⟨J,O⟩ (fun hg2=>bc J) J (cD [] [(8,_),(9,_)] J J O ⟨J,J,O⟩ (fun hg3 hg3'=>bc J) J (cD [(10,_)] [(8,_),(9,_)] J J ⟨J,O⟩ ⟨J,J,O⟩ (fun hg4 hg4'=>aR J J ec) J (aG [(8,_),(9,_)] J J ⟨J,J,O⟩ (fun hg5=>eL J J J (by first|exact dL|exact ef|exact dc hg5|exact dA hg5|rfl)) J (aG [(8,_),(9,_),(12,_)] J J ⟨J,J,J,O⟩ (fun hg6=>bc J) J (cD [] [(8,_),(9,_),(12,_),(13,_)] J J O ⟨J,J,J,J,O⟩ (fun hg7 hg7'=>bc J) J (cD [(14,_)] [(8,_),(9,_),(12,_),(13,_)] J J ⟨J,O⟩ ⟨J,J,J,J,O⟩ (fun hg8 hg8'=>aR J J cr) J (aG [(8,_),(9,_),(12,_),(13,_)] J J ⟨J,J,J,J,O⟩ (fun hg9=>eL J J J (by first|exact dL|exact ef|exact dc hg9|exact dA hg9|rfl)) J (aP (bH J J J) ?_)))))))))))))))
 refine ak J (aa (ax (aH () O J (bQ (aL J)) J [] [] J J J)))
theorem Mi{n:Int}{z:Int}(hn:0≤n∧n<4294967296)(hz:z=18∨z=22):zb z n=if n%2^z.toNat≥2^(z-1).toNat then IntKind.u32.wrap (n%2^z.toNat-2^z.toNat)else n%2^z.toNat:=by
 have e32:∀x:Int,IntKind.u32.wrap x=x%4294967296:=fun x=>IntKind.wrap_u32 x
 unfold zb wU;rcases hz with rfl|rfl
 ·rw [show((32:Int)-18).toNat=14 from J,show(18:Int).toNat=18 from J,show((18:Int)-1).toNat=17 from J,show(2:Int)^14=16384 from J,show(2:Int)^18=262144 from J,show(2:Int)^17=131072 from J];simp only [e32,IntKind.wrap_i32];split<;>omega
 ·rw [show((32:Int)-22).toNat=10 from J,show(22:Int).toNat=22 from J,show((22:Int)-1).toNat=21 from J,show(2:Int)^10=1024 from J,show(2:Int)^22=4194304 from J,show(2:Int)^21=2097152 from J];simp only [e32,IntKind.wrap_i32];split<;>omega
theorem RF{z:Int}(hz:z=18∨z=22):IntKind.u32.wrap (1*2^z.toNat)=2^z.toNat∧IntKind.u32.wrap (1*2^(z-1).toNat)=2^(z-1).toNat∧¬(2:Int)^z.toNat=0:=by
 rcases hz with rfl|rfl<;>exact⟨J,J,by decide⟩
theorem sq(n z:Int)(hn:0≤n∧n<4294967296)(hz:z=18∨z=22):
  bi prog 198 [I3 n,I6 z] [] [] (I3 (zb z n)) []:=by
 refine aI func198 J ntmps198 J fun w0 M H=> ?_
 rw [Mi hn hz];refine ap (ak J (aa (aT (ad J (aw J J cr (aa (ai J (fun h1=> ?_) (fun h1=> ?_))))))))
 ·exact absurd h1 (by simp;omega)
 ·(try simp only [bj]at h1);refine az (aT (ad J (aw J J gI (aa (ai J (fun h2=> ?_) (fun h2=> ?_))))))
  ·exact absurd h2 (by simp;omega)
  ·(try simp only [bj]at h2);refine az (ap (ad J (ad J (aw J J (jb (by omega) (by simp [IntKind.bits];omega) (RF hz).1) (aw J J (jt (RF hz).2.2 (Int.tmod_eq_emod_of_nonneg hn.1)) (ak J (aa (aT (ad J (ad J (aw J J (gu (bU (by omega))) (aw J J (jb (by omega) (by simp [IntKind.bits];omega) (RF hz).2.1) (aw J J gI (aa (ai J (fun h3=> ?_) (fun h3=> ?_))))))))))))))))
   ·rw [ar (bW h3)];refine ap (ad J (ad J (aw J J (jb (by omega) (by simp [IntKind.bits];omega) (RF hz).1) (aw J J (gu J) (ak J (aa (ax (aH () O J (bQ (aL J)) J [] [] J J J))))))))
   ·rw [ae (cg h3)];refine az (ap (ad J (ak J (aa (ax (aH () O J (bQ (aL J)) J [] [] J J J))))))
theorem zP(n z:Int)(hn:0≤n∧n<4294967296)(hz:z=18∨z=22):
  bi prog 213 [I3 n,I6 z] [] [] (.bool (decide (zb z n=n))) []:=by
 refine aI func213 J ntmps213 J fun w0 M H=>ap (ak J (aF J (ad J (ad J (aj (xs:= [.tmp 5,.tmp 6]) (sq n z hn hz) Lg [] [] [] (fun _ _=>ad J (aw J J bn (ak J (aa (ax (aH () O J (bQ (aL J)) J [] [] J J J)))))))))))
theorem Iz:∀s∈shL,(s.kd=0↔s.bt=0)∧(s.kd=0∨s.kd=1∨s.kd=2)∧0≤s.mo∧s.mo<262144:=by decide
theorem rl(op:Int):((dl op).kd=0↔(dl op).bt=0)∧((dl op).kd=0∨(dl op).kd=1∨(dl op).kd=2)∧0≤(dl op).mo∧(dl op).mo<262144:=by
 unfold dl;split
 ·rename_i h;have hl:shL.length=64:=by decide
  rw [List.getD_eq_getElem?_getD,bN (by omega)];exact Iz _ (List.getElem_mem _)
 ·decide
structure VQ(i:Qi):Prop where
 op:0≤i.op∧i.op<64
 d:0≤i.d∧i.d<16
 a:0≤i.a∧i.a<16
 b:0≤i.b∧i.b<16
 k:(dl i.op).k=true
 fd:gr i.d (dl i.op).d=true
 fa:gr i.a (dl i.op).a=true
 fb:gr i.b (dl i.op).b=true
 im:lm (dl i.op) i.imm=true
theorem VQ.of{i:Qi}(h:qQ i=true):VQ i:=by
 obtain⟨b1,b2,b3,b4⟩:=vM h;unfold qQ at h;simp only [Bool.and_eq_true]at h;obtain⟨⟨⟨⟨h1,h2⟩,h3⟩,h4⟩,h5⟩:=h;exact⟨b1,b2,b3,b4,h1,h2,h3,h4,h5⟩
theorem qB{a b:Int}(ha:0≤a∧a<4294967296)(hb:0<b):IntKind.u32.wrap (a.tdiv b)=a/b:=by
 rw [Int.tdiv_eq_ediv_of_nonneg ha.1];exact kH (Int.ediv_nonneg ha.1 (by omega)) (Int.lt_of_le_of_lt (Int.ediv_le_self _ ha.1) ha.2)
theorem K9{s:Sh}{n:Int}(h:lm s n=true)(hk:s.kd=0):n=0:=by
 unfold lm at h;rw [ar hk]at h;exact bW h
theorem K8{s:Sh}{n:Int}(h:lm s n=true)(hk:s.kd=1):zb s.bt n=n:=by
 unfold lm at h;rw [ae (by omega),ar hk]at h;exact bW h
theorem K7{s:Sh}{n:Int}(h:lm s n=true)(hk:s.kd=2)(hm:s.mo>0):n≤s.mo:=by
 unfold lm at h;rw [ae (by omega),ae (by omega),ar hm]at h;exact bW h
theorem K6{s:Sh}{n:Int}(h:lm s n=true)(hk:s.kd=2)(hm:¬s.mo>0):n/2^s.bt.toNat=0:=by
 unfold lm at h;rw [ae (by omega),ae (by omega),ae hm]at h;exact bW h
theorem Mv{z:Int}(hz:z=18∨z=22):IntKind.u32.wrap (1*2^z.toNat)=2^z.toNat∧0<(2:Int)^z.toNat∧(2:Int)^z.toNat≤4194304:=by
 rcases hz with rfl|rfl<;>exact⟨J,by decide,by decide⟩
theorem uQ{n m:Int}(hn:0≤n)(hm:0<m)(h:n/m=0):n<m:=by
 have:=Int.emod_lt_of_pos n hm;have h2:=Int.ediv_mul_add_emod n m;rw [h]at h2;omega
theorem xK(i:Qi)(hi:0≤i.imm∧i.imm<4294967296)(hv:VQ i):
  bi prog 209 [.agg (ja i).toArray] [] [] (.bool true) []:=by
 refine aI func209 J ntmps209 J fun w0 M H=> ?_
 have hof:=z9 hv.op;have k1:=jL i.op;have k2:=rl i.op;refine ap (ck J J fun b1=>ak J (aF J (aC cv J (aQ 1 t3 J J J J (aj (xs:= [.tmp 8]) (ws i.op) Hi [] [] [] (fun _ _=> ?_))))));rw [hof];refine aY fT J J fun b3=>aq (k:=3) fT J J J J J J (aa (aT (aC JQ J (aQ 3 t4 J J J J (aP (cz J) (aa (ai J (fun h1=> ?_) (fun h1=> ?_))))))))
 ·exact absurd h1 (by show ¬(!(dl i.op).k)=true;rw [hv.k];decide)
 ·refine az (ap (aC h_ J (aQ 1 t3 J J J J (aC Ch J (aQ 3 t4 J J J J (aj (xs:= [.tmp 14,.tmp 16]) (ss i.d (AE i.op).d) Hh [] [] [] (fun _ _=>ak J (aF J (aC mW J (aQ 1 t3 J J J J (aC Cg J (aQ 3 t4 J J J J (aj (xs:= [.tmp 19,.tmp 21]) (ss i.a (AE i.op).a) Hh [] [] [] (fun _ _=>ak J (aa (a_ ?_))))))))))))))));refine am (aC mV J (aQ 1 t3 J J J J (aC Cf J (aQ 3 t4 J J J J (aj (xs:= [.tmp 24,.tmp 26]) (ss i.b (AE i.op).b) Hh [] [] [] (fun _ _=>ak J (aa (aT (ad J (aP (cz J) (ad J (aG [] J J O (fun hg2=>bc J) J (aG [(31,_)] J J ⟨J,O⟩ (fun hg3=>cz J) J (aP (bH J J J) (ad J (aG [] J J O (fun hg4=>bc J) J (aG [(35,_)] J J ⟨J,O⟩ (fun hg5=>cz J) J ?_)))))))))))))))));refine aP (bH J J J) (aa (ai J (fun h6=> ?_) (fun h6=> ?_)))
  ·exact absurd h6 (by show ¬((!gr i.d (dl i.op).d) || (!gr i.a (dl i.op).a) || (!gr i.b (dl i.op).b))=true;rw [hv.fd,hv.fa,hv.fb];decide)
  ·refine az (aT (aC mQ J (aQ 3 t3 J J J J (aw J J bn (aa (ai J (fun h7=> ?_) (fun h7=> ?_)))))))
   ·(try simp only [bj]at h7);have q3:(dl i.op).bt=0:=h7;refine ap (aC d9 J (aQ 1 dm J J J J (aw J J bn (ak J (aa (ax (aH () O J (bQ (aL J)) (congrArg Value.bool (by rw [K9 hv.im (k2.1.2 q3)];rfl)) [] [] J J J)))))))
   ·(try simp only [bj]at h7);have q3:¬(dl i.op).bt=0:=h7;have hb:(dl i.op).bt=18∨(dl i.op).bt=22:=by have:=k1.2.2.2.1;omega
    refine az (aT (aC Ce J (aQ 3 t4 J J J J (aa (ai J (fun h8=> ?_) (fun h8=> ?_))))))
    ·have q4:(dl i.op).kd=1:=bW h8;refine ap (aC d9 J (aQ 1 dm J J J J (aC mQ J (aQ 3 t3 J J J J (aj (xs:= [.tmp 47,.tmp 49]) (zP i.imm (dl i.op).bt hi (by have:=k1.2.2.2.1;omega)) Qj [] [] [] (fun _ _=>ak J (aa (ax (aH () O J (bQ (aL J)) (congrArg Value.bool (decide_eq_true (K8 hv.im q4))) [] [] J J J)))))))))
    ·have q4:¬(dl i.op).kd=1:=cg h8;have q5:(dl i.op).kd=2:=by have:=k2.2.1;have:=k2.1;omega
     refine az (aT (aC Cd J (aQ 3 dm J J J J (aw J J ec (aa (ai J (fun h9=> ?_) (fun h9=> ?_)))))))
     ·(try simp only [bj]at h9);have q6:(dl i.op).mo>0:=h9;refine ap (aC d9 J (aQ 1 dm J J J J (aC Cd J (aQ 3 dm J J J J (aw J J lR (ak J (aa (ax (aH () O J (bQ (aL J)) (congrArg Value.bool (decide_eq_true (K7 hv.im q5 q6))) [] [] J J J)))))))))
     ·(try simp only [bj]at h9);have q6:¬(AE i.op).mo>0:=by omega
      refine az (ap (aC d9 J (aQ 1 dm J J J J (aC mQ J (aQ 3 t3 J J J J (aP (cC underlying3 underlying138 J (c:=(dl i.op).bt) (by rcases hb with hb|hb<;>rw [show(AE i.op).bt=(dl i.op).bt from J,hb]<;>rfl)) (aw J J (jb (by omega) (by simp [IntKind.bits];omega) (Mv hb).1) (aw J J cr (ak J (aa (ax (aH () O J (bQ (aL J)) (congrArg Value.bool (decide_eq_true (uQ hi.1 (Mv hb).2.1 (K6 hv.im q5 q6)))) [] [] J J J))))))))))))
theorem ND{i:Qi}(hv:VQ i)(hb:(dl i.op).bt=18∨(dl i.op).bt=22):IntKind.u32.wrap (i.op*67108864+i.d*4194304+i.a*262144+i.b*16384+i.imm%2^(dl i.op).bt.toNat)=nw i:=by
 have b1:=hv.op;have b2:=hv.d;have b3:=hv.a;have b4:=hv.b;have k:=jL i.op;unfold nw;rcases hb with h|h
 ·have hb0:i.b=0:=fP (by rw [←k.2.2.2.2.1 h];exact hv.fb);rw [h,show((2:Int)^(18:Int).toNat)=262144 from J];exact cd (by omega)
 ·have hb0:i.b=0:=fP (by rw [←(k.2.2.2.2.2 h).2];exact hv.fb);have ha0:i.a=0:=fP (by rw [←(k.2.2.2.2.2 h).1];exact hv.fa);rw [h,show((2:Int)^(22:Int).toNat)=4194304 from J];exact cd (by omega)
theorem wa(i:Qi)(hi:0≤i.imm∧i.imm<4294967296)(hv:VQ i):
  bi prog 199 [.agg (ja i).toArray] [] [] (.tuple #[I3 (nw i),I6 0]) []:=by
 refine aI func199 J ntmps199 J fun w0 M H=> ?_
 have hof:=z9 hv.op;have k1:=jL i.op;have k2:=rl i.op;obtain⟨o1,o2⟩:=hv.op;obtain⟨d1,d2⟩:=hv.d;obtain⟨a1,a2⟩:=hv.a;obtain⟨e1,e2⟩:=hv.b;have hfb:=hv.fb;have hfa:=hv.fa;refine ap (ck J J fun b1=>ak J (ak J (aF J (aP (aM fA J J J (aX (k:=1) J)) (aj (xs:= [.tmp 7]) (xK i hi hv) Qm [] [] [] (fun _ _=>ak J (aa (aT (ad J (aP (cz J) (aa (ai J (fun h1=> ?_) (fun h1=> ?_)))))))))))))
 ·cases h1
 ·(try simp only [bj]at h1);refine az (ap (aC cv J (aQ 1 t3 J J J J (aP (cC underlying3 underlying41 J (by first|exact cd (by omega)|rfl)) (aw J J ph (aC h_ J (aQ 1 t3 J J J J (aP (cC underlying3 underlying41 J (by first|exact cd (by omega)|rfl)) (aw J J ph (aw J J tL (aC mW J (aQ 1 t3 J J J J (aP (cC underlying3 underlying41 J (by first|exact cd (by omega)|rfl)) (aw J J ph (aw J J tL (aC mV J (aQ 1 t3 J J J J (aP (cC underlying3 underlying41 J (by first|exact cd (by omega)|rfl)) ?_))))))))))))))))));refine aw J J ph (aw J J tL (ak J (aF J (aC cv J (aQ 1 t3 J J J J (aj (xs:= [.tmp 31]) (ws i.op) Hi [] [] [] (fun _ _=> ?_)))))));rw [hof];refine aP (ou JI t3 J J) (ak J (aa (aT (ad J (aw J J bn (aa (ai J (fun h2=> ?_) (fun h2=> ?_))))))))
  ·(try simp only [bj]at h2);have q3:(dl i.op).bt=0:=h2;refine ap (ad J (ak J (ak J (aa (ax (aH () O J (IM (aL J) (aL J)) (congrArg (fun z=>Value.tuple #[Value.int .u32 z,Value.int .i64 0]) (by unfold nw;rw [q3,show((2:Int)^(0:Int).toNat)=1 from J];omega)) [] [] J J J))))))
  ·(try simp only [bj]at h2);have q3:¬(dl i.op).bt=0:=h2;have hb:(dl i.op).bt=18∨(dl i.op).bt=22:=by have:=k1.2.2.2.1;omega
   have hp:=Mv hb;have hrm:=Int.emod_lt_of_pos i.imm hp.2.1;have hrn:=Int.emod_nonneg i.imm (show(2:Int)^(dl i.op).bt.toNat≠0 by omega);refine az (ap (ad J (aC d9 J (aQ 1 dm J J J J (ad J (aP (cC underlying3 underlying138 J (c:=(dl i.op).bt) (by rcases hb with hb|hb<;>rw [show(AE i.op).bt=(dl i.op).bt from J,hb]<;>rfl)) (aw J J (jb (by omega) (by simp [IntKind.bits];omega) hp.1) (aw J J (jt (by omega) (Int.tmod_eq_emod_of_nonneg hi.1)) (aw J J (cw (c:=nw i) (ND hv hb)) (ak J (ak J (aa (ax (aH () O J (IM (aL J) (aL J)) J [] [] J J J))))))))))))))
theorem P1{i:Qi}(hv:VQ i):nw i/67108864=i.op∧nw i/4194304%16=i.d∧((dl i.op).a=true→nw i/262144%16=i.a)∧((dl i.op).b=true→nw i/16384%16=i.b)∧((dl i.op).bt=18∨(dl i.op).bt=22→nw i%2^(dl i.op).bt.toNat=i.imm%2^(dl i.op).bt.toNat):=by
 have b1:=hv.op;have b2:=hv.d;have b3:=hv.a;have b4:=hv.b;have k:=jL i.op;unfold nw;rcases k.2.2.2.1 with h|h|h
 ·rw [h,show((2:Int)^(0:Int).toNat)=1 from J];refine⟨by omega,by omega,fun _=>by omega,fun _=>by omega,fun h=>by omega⟩
 ·have hb0:i.b=0:=fP (by rw [←k.2.2.2.2.1 h];exact hv.fb);rw [h,show((2:Int)^(18:Int).toNat)=262144 from J];refine⟨by omega,by omega,fun _=>by omega,fun hb=> ?_,fun h=>by omega⟩;rw [k.2.2.2.2.1 h]at hb;cases hb
 ·have hb0:i.b=0:=fP (by rw [←(k.2.2.2.2.2 h).2];exact hv.fb);have ha0:i.a=0:=fP (by rw [←(k.2.2.2.2.2 h).1];exact hv.fa);rw [h,show((2:Int)^(22:Int).toNat)=4194304 from J];refine⟨by omega,by omega,fun ha=> ?_,fun hb=> ?_,fun h=>by omega⟩
  ·rw [(k.2.2.2.2.2 h).1]at ha;cases ha
  ·rw [(k.2.2.2.2.2 h).2]at hb;cases hb
theorem IA{n z:Int}(hn:0≤n∧n<4294967296)(hz:z=18∨z=22):zb z (n%2^z.toNat)=zb z n:=by
 have hp:=Mv hz;have h1:=Int.emod_nonneg n (show(2:Int)^z.toNat≠0 by omega);have h2:=Int.emod_lt_of_pos n hp.2.1;rw [Mi hn hz,Mi ⟨h1,by omega⟩ hz,Int.emod_emod_of_dvd _ (Int.dvd_refl _)]
theorem M_{i:Qi}(hi:0≤i.imm∧i.imm<4294967296)(hv:VQ i)(hk:(dl i.op).kd=2)(hb:(dl i.op).bt=18∨(dl i.op).bt=22):i.imm<2^(dl i.op).bt.toNat:=by
 have hp:=Mv hb;by_cases hm:(dl i.op).mo>0
 ·have h1:=K7 hv.im hk hm;have h2:=rl i.op;have h3:(262144:Int)≤2^(dl i.op).bt.toNat:=by rcases hb with h|h<;>rw [h]<;>decide
  omega
 ·exact uQ hi.1 hp.2.1 (K6 hv.im hk hm)
theorem wb(i:Qi)(hi:0≤i.imm∧i.imm<4294967296)(hv:VQ i):
  bi prog 180 [I3 (nw i)] [] [] (.tuple #[.agg (ja i).toArray,I6 0]) []:=by
 refine aI func180 J ntmps180 J fun w0 M H=> ?_
 have hof:=z9 hv.op;have k1:=jL i.op;have k2:=rl i.op;have hwb:=AM (i:=i) (by unfold qQ;simp only [Bool.and_eq_true];exact⟨⟨⟨⟨hv.k,hv.fd⟩,hv.fa⟩,hv.fb⟩,hv.im⟩);obtain⟨f0,f1,f2,f3,f4⟩:=P1 hv;refine ap (aY fA J J fun b2=>ak J (aF J (ad J (aw J J (lO (by decide) (qB hwb (by decide))) (aP (cC underlying41 underlying3 J (c:=i.op) (by rw [f0];exact qu (by have:=hv.op;omega) (by have:=hv.op;omega))) (aP (aU (parts:= [(0,.tmp 10)]) fA nr J J) (aY fA J J fun b4=>aq (k:=4) fA J J J J J J (aF J (aC cv J (aQ 4 t3 J J J J (aj (xs:= [.tmp 13]) (ws i.op) Hi [] [] [] (fun _ _=> ?_))))))))))));rw [hof];refine aY fT J J fun b5=>aq (k:=5) fT J J J J J J (aa (bx (X:=Unit) (fun _=>True) (fun _=> [(0,I3 (nw i)),(2,Pt b2),(3,I6 0),(4,Pt b4),(5,Pt b5)]) (fun _=> [(2,bh b2 118 (ja ⟨0,0,0,0,0⟩)),(4,bh b4 118 (ja ⟨i.op,i.d,0,0,0⟩)),(5,bh b5 275 (Ot (AE i.op)))]) (fun _=> []) ?_ (fun _ _=> ?_)))
 ·refine ap (aC Ch J (aQ 5 t4 J J J J (aa (ai J (fun h1=> ?_) (fun h1=> ?_)))))
  ·have q1:(dl i.op).d=true:=h1;refine am (ad J (aw J J (lO (by decide) (qB hwb (by decide))) (aw J J (jt (by decide) (Int.tmod_eq_emod_of_nonneg (Int.ediv_nonneg hwb.1 (by decide)))) (aP (cC underlying41 underlying3 J (c:=i.d) (by rw [f1];exact qu (by have:=hv.d;omega) (by have:=hv.d;omega))) (aC h_ J (aA (k:=4) t3 J J J J J J J J (aa (aJ () O J (by rfl) J))))))))
  ·have q1:(dl i.op).d=false:=by
    have:=h1;exact this
   have hd0:(0:Int)=i.d:=(fP (by rw [←q1];exact hv.fd)).symm;refine az (aJ () O J (by rw [hd0];rfl) J)
 ·refine bx (X:=Unit) (fun _=>True) (fun _=> [(0,I3 (nw i)),(2,Pt b2),(3,I6 0),(4,Pt b4),(5,Pt b5)]) (fun _=> [(2,bh b2 118 (ja ⟨0,0,0,0,0⟩)),(4,bh b4 118 (ja ⟨i.op,i.d,i.a,0,0⟩)),(5,bh b5 275 (Ot (AE i.op)))]) (fun _=> []) ?_ (fun _ _=> ?_)
  ·refine ap (aC Cg J (aQ 5 t4 J J J J (aa (ai J (fun h2=> ?_) (fun h2=> ?_)))))
   ·have q2:(dl i.op).a=true:=h2;refine am (ad J (aw J J (lO (by decide) (qB hwb (by decide))) (aw J J (jt (by decide) (Int.tmod_eq_emod_of_nonneg (Int.ediv_nonneg hwb.1 (by decide)))) (aP (cC underlying41 underlying3 J (c:=i.a) (by rw [f2 q2];exact qu (by have:=hv.a;omega) (by have:=hv.a;omega))) (aC mW J (aA (k:=4) t3 J J J J J J J J (aa (aJ () O J (by rfl) J))))))))
   ·have q2:(dl i.op).a=false:=by
     have:=h2;exact this
    have ha0:(0:Int)=i.a:=(fP (by rw [←q2];exact hv.fa)).symm;refine az (aJ () O J (by rw [ha0];rfl) J)
  ·refine bx (X:=Unit) (fun _=>True) (fun _=> [(0,I3 (nw i)),(2,Pt b2),(3,I6 0),(4,Pt b4),(5,Pt b5)]) (fun _=> [(2,bh b2 118 (ja ⟨0,0,0,0,0⟩)),(4,bh b4 118 (ja ⟨i.op,i.d,i.a,i.b,0⟩)),(5,bh b5 275 (Ot (AE i.op)))]) (fun _=> []) ?_ (fun _ _=> ?_)
   ·refine ap (aC Cf J (aQ 5 t4 J J J J (aa (ai J (fun h3=> ?_) (fun h3=> ?_)))))
    ·have q3:(dl i.op).b=true:=h3;refine am (ad J (aw J J (lO (by decide) (qB hwb (by decide))) (aw J J (jt (by decide) (Int.tmod_eq_emod_of_nonneg (Int.ediv_nonneg hwb.1 (by decide)))) (aP (cC underlying41 underlying3 J (c:=i.b) (by rw [f3 q3];exact qu (by have:=hv.b;omega) (by have:=hv.b;omega))) (aC mV J (aA (k:=4) t3 J J J J J J J J (aa (aJ () O J (by rfl) J))))))))
    ·have q3:(dl i.op).b=false:=by
      have:=h3;exact this
     have hb0:(0:Int)=i.b:=(fP (by rw [←q3];exact hv.fb)).symm;refine az (aJ () O J (by rw [hb0];rfl) J)
   ·refine bx (X:=Unit) (fun _=>True) (fun _=> [(0,I3 (nw i)),(2,Pt b2),(3,I6 0),(4,Pt b4),(5,Pt b5)]) (fun _=> [(2,bh b2 118 (ja ⟨0,0,0,0,0⟩)),(4,bh b4 118 (ja ⟨i.op,i.d,i.a,i.b,i.imm%2^(dl i.op).bt.toNat⟩)),(5,bh b5 275 (Ot (AE i.op)))]) (fun _=> []) ?_ (fun _ _=> ?_)
    ·refine ap (aC mQ J (aQ 5 t3 J J J J (aw J J ec (aa (ai J (fun h4=> ?_) (fun h4=> ?_))))))
     ·(try simp only [bj]at h4);have q4:(dl i.op).bt>0:=h4;have hb:(dl i.op).bt=18∨(dl i.op).bt=22:=by have:=k1.2.2.2.1;omega
      have hp:=Mv hb;refine am (ad J (aC mQ J (aQ 5 t3 J J J J (aP (cC underlying3 underlying138 J (c:=(dl i.op).bt) (by rcases hb with hb|hb<;>rw [show(AE i.op).bt=(dl i.op).bt from J,hb]<;>rfl)) (aw J J (jb (by omega) (by simp [IntKind.bits];omega) hp.1) (aw J J (jt (by omega) ((Int.tmod_eq_emod_of_nonneg hwb.1).trans (f4 hb))) (aC d9 J (aA (k:=4) dm J J J J J J J J (aa (aJ () O J (by rfl) J))))))))))
     ·(try simp only [bj]at h4);have h4:¬(AE i.op).bt>0:=by omega
      have h4:¬(dl i.op).bt>0:=h4;have q4:(dl i.op).bt=0:=by have:=k1.2.1;omega
      have hm0:(0:Int)=i.imm%2^(dl i.op).bt.toNat:=by
       rw [q4,show((2:Int)^(0:Int).toNat)=1 from J];omega
      refine az (aJ () O J (by rw [hm0];rfl) J)
    ·refine bx (X:=Unit) (fun _=>True) (fun _=> [(0,I3 (nw i)),(2,Pt b2),(3,I6 0),(4,Pt b4),(5,Pt b5)]) (fun _=> [(2,bh b2 118 (ja ⟨0,0,0,0,0⟩)),(4,bh b4 118 (ja i)),(5,bh b5 275 (Ot (AE i.op)))]) (fun _=> []) ?_ (fun _ _=> ?_)
     ·refine ap (aC Ce J (aQ 5 t4 J J J J (aa (ai J (fun h5=> ?_) (fun h5=> ?_)))))
      ·have q5:(dl i.op).kd=1:=bW h5;have hb:=k1.1 q5;have hp:=Mv hb;have h1:=Int.emod_nonneg i.imm (show(2:Int)^(dl i.op).bt.toNat≠0 by omega);have h2:=Int.emod_lt_of_pos i.imm hp.2.1;refine am (aC d9 J (aQ 4 dm J J J J (aC mQ J (aQ 5 t3 J J J J ?_))));refine dh (xs:= [.tmp 49,.tmp 51]) (sq (i.imm%2^(dl i.op).bt.toNat) (dl i.op).bt ⟨h1,by omega⟩ hb) Lg [] [] [] J J J J J J J J (fun _ _=>J) (fun _ _ _=>J) J (fun _ _=> ?_);rw [IA hi hb,K8 hv.im q5];refine aC d9 J (aA (k:=4) dm J J J J J J J J (aa (aJ () O J (by rfl) J)))
      ·have q5:¬(dl i.op).kd=1:=cg h5;have hm1:(⟨i.op,i.d,i.a,i.b,i.imm%2^(dl i.op).bt.toNat⟩:Qi)=i:=by
        have:i.imm%2^(dl i.op).bt.toNat=i.imm:=by
         by_cases h0:(dl i.op).kd=0
         ·rw [K9 hv.im h0];simp
         ·have h2:(dl i.op).kd=2:=by have:=k2.2.1;omega
          exact Int.emod_eq_of_lt hi.1 (M_ hi hv h2 (by have:=k1.2.2.2.1;have:=k2.1;omega))
        rw [this]
       refine az (aJ () O J (by rw [hm1];rfl) J)
     ·refine ap (aP (aM fA J J J (aX (k:=4) J)) (aj (xs:= [.tmp 55]) (wa i hi hv) Qx [] [] [] (fun _ _=>ad J (aP (cG J J) (aP (cG J J) (ak J (ak J (aa (aT (ad J (aw J J eD (ad J (aG [] J J O (fun hg6=>bc J) J (aG [(62,_)] J J ⟨J,O⟩ (fun hg7=>bc J) J (aG [(62,_),(63,_)] J J ⟨J,J,O⟩ (fun hg8=>aR J J eD) J (aP (bH J J J) ?_))))))))))))))));refine aa (ai J (fun h9=> ?_) (fun h9=> ?_))
      ·exfalso;simp at h9
      ·(try simp only [bj]at h9);refine az (ap (aP (aM fA J J J (aX (k:=4) J)) (aq (k:=2) fA J J J J J J (ak J (aa (ax (aH () O J (IM (aV fA J J J (aX (k:=2) J)) (aL J)) J [] [] J J J)))))))
end Go.Proofs.YtedmdgbmdplifaaGreat
