/-
  A part of the proof. Conditions are with the theorems.
-/
import Derived.Test.YtedmdgbmdplifaaGreatXFa
import Derived.Test.YtedmdgbmdplifaaGreatXFb
import Derived.Test.YtedmdgbmdplifaaGreatXFc
import Derived.Test.YtedmdgbmdplifaaGreatXFd
import Derived.Test.YtedmdgbmdplifaaGreatXFe
import Derived.Test.YtedmdgbmdplifaaGreatXFf
import Derived.Test.YtedmdgbmdplifaaGreatXFg
set_option maxHeartbeats 32000000
set_option maxRecDepth 100000
set_option linter.unusedSimpArgs false
set_option linter.unusedVariables false
namespace Go.Proofs.YtedmdgbmdplifaaGreat
open Go.RowKit Tryz
def D8(ts:List Tk):Nat→List Ba→Nat→Option (List Ba×Nat)
 | 0,_,_=>none
 | g+1,acc,i=>match ts[i]? with
  | none=>none
  | some t=>if t.k=2 then(match ts[i+1]? with
   | none=>none
   | some u=>if dh u gS=true then some (acc++ [t.s],i+2)else if dh u rq=true then D8 ts g (acc++ [t.s]) (i+2)else none)else none
def M7(ts:List Tk)(i:Nat):Option (List Ba×Nat):=match ts[i]? with
 | none=>none
 | some t=>if dh t gS=true then some ([],i+1)else D8 ts 100 [] i
def OL(ts:List Tk)(i:Nat):Option (Pf×Nat):=
 if ol ts i Pa=true then(match ts[i+1]? with
  | none=>none
  | some n=>if n.k=2 then(if ol ts (i+2) mh=true then(match M7 ts (i+3)with
   | none=>none
   | some (ps,j)=>match pB ts 1000 j with
    | none=>none
    | some (b,j2)=>some (⟨n.s,ps,b⟩,j2))else none)else none)else none
def pP(ts:List Tk):Nat→List Pf→Nat→Option (List Pf)
 | 0,_,_=>none
 | g+1,acc,i=>match ts[i]? with
  | none=>none
  | some t=>if t.k=0 then some acc else match OL ts i with
   | none=>none
   | some (f,j)=>pP ts g (acc++ [f]) j
theorem Jz{ts:List Tk}{g i j:Nat}{acc ps:List Ba}(h:D8 ts g acc i=some (ps,j)):∃g2 t u,g=g2+1∧ts[i]?=some t∧t.k=2∧ts[i+1]?=some u∧(dh u gS=true→ps=acc++ [t.s]∧j=i+2)∧(dh u gS=false→dh u rq=true∧D8 ts g2 (acc++ [t.s]) (i+2)=some (ps,j)):=by
 cases g with
 | zero=>unfold D8 at h;cases h
 | succ g=>
  unfold D8 at h;split at h
  ·cases h
  ·rename_i t ht;split at h
   ·rename_i hk;split at h
    ·cases h
    ·rename_i u hu;refine⟨g,t,u,J,ht,hk,hu,fun hp=> ?_,fun hp=> ?_⟩
     ·rw [aj hp]at h;injection h with h;injection h with h1 h2;exact⟨h1.symm,h2.symm⟩
     ·rw [ac (by rw [hp];decide)]at h;split at h
      ·rename_i hc;exact⟨hc,h⟩
      ·cases h
   ·cases h
theorem Jy{ts:List Tk}{i j:Nat}{ps:List Ba}(h:M7 ts i=some (ps,j)):∃t,ts[i]?=some t∧(dh t gS=true→ps= []∧j=i+1)∧(dh t gS=false→D8 ts 100 [] i=some (ps,j)):=by
 unfold M7 at h;split at h
 ·cases h
 ·rename_i t ht;refine⟨t,ht,fun hp=> ?_,fun hp=> ?_⟩
  ·rw [aj hp]at h;injection h with h;injection h with h1 h2;exact⟨h1.symm,h2.symm⟩
  ·rw [ac (by rw [hp];decide)]at h;exact h
theorem JA{ts:List Tk}{i j:Nat}{f:Pf}(h:OL ts i=some (f,j)):∃a n c ps j0 b,ts[i]?=some a∧dh a Pa=true∧ts[i+1]?=some n∧n.k=2∧ts[i+2]?=some c∧dh c mh=true∧M7 ts (i+3)=some (ps,j0)∧pB ts 1000 j0=some (b,j)∧f=⟨n.s,ps,b⟩:=by
 unfold OL at h;split at h
 ·rename_i ha;obtain⟨a,ha1,ha2⟩:=l6 ha;split at h
  ·cases h
  ·rename_i n hn;split at h
   ·rename_i hk;split at h
    ·rename_i hc;obtain⟨c,hc1,hc2⟩:=l6 hc;split at h
     ·cases h
     ·rename_i ps j0 hps;split at h
      ·cases h
      ·rename_i b j2 hb;injection h with h;injection h with h1 h2;subst h2;exact⟨a,n,c,ps,j0,b,ha1,ha2,hn,hk,hc1,hc2,hps,hb,h1.symm⟩
    ·cases h
   ·cases h
 ·cases h
theorem M8{ts:List Tk}{g i:Nat}{acc fs:List Pf}(h:pP ts g acc i=some fs):∃g2 t,g=g2+1∧ts[i]?=some t∧(t.k=0→fs=acc)∧(¬t.k=0→∃f j,OL ts i=some (f,j)∧pP ts g2 (acc++ [f]) j=some fs):=by
 cases g with
 | zero=>unfold pP at h;cases h
 | succ g=>
  unfold pP at h;split at h
  ·cases h
  ·rename_i t ht;refine⟨g,t,J,ht,fun hk=> ?_,fun hk=> ?_⟩
   ·rw [aj hk]at h;injection h with h;exact h.symm
   ·rw [ac hk]at h;split at h
    ·cases h
    ·rename_i f j hf;exact⟨f,j,hf,h⟩
structure Lp where
 v:SV
 l:List Tf
 i:Nat
 g:Nat
structure Lq where
 d:Bool
 v:SV
 l:List Ba
 i:Nat
 g:Nat
def OS(l:List Tf):Asn:=⟨fun w F=>∀f∈l,TfIn w F f,fun h hs f hf=>(h f hf).stable hs⟩
theorem NV(w:World)(F:Nat→Prop)(_:AllIn w F []):(OS []).pred w F:=fun f hf=>by cases hf
theorem Kk{l:List Tf}{n:Ba}{vp vb:SV}{ps:List Ba}{b:List Ty}(w:World)(F:Nat→Prop)(h:AllIn w F [OS l,own 9 1 eS (sv vp) ps,cm vb b]):(OS (l++ [⟨n,vp,ps,vb,b⟩])).pred w F:=by
 obtain⟨⟨_,a0,b0⟩,⟨_,a1,b1⟩,⟨_,a2,b2⟩,_⟩:=h;intro f hf;rcases List.mem_append.1 hf with hf|hf
 ·exact TfIn.up (a0 f hf) b0
 ·rw [List.mem_singleton.1 hf];exact⟨dm a1 b1,r4 a2 b2⟩
theorem Kj{v:SV}{l:List Tf}(w:World)(F:Nat→Prop)(h:AllIn w F [own 66 3 jI (sv v) l,OS l]):(dO v l).pred w F:=by
 obtain⟨⟨_,a0,b0⟩,⟨_,a1,b1⟩,_⟩:=h;exact⟨dm a0 b0,fun f hf=>TfIn.up (a1 f hf) b1⟩
theorem AC(s:Ba)(hs:s.size≤16384)(g0:Nat)(ts:List Tk)(hr:ot s g0 0 []=some ts)(hts:ts.length≤20000)(fs:List Pf)(hp:pP ts 1000 [] 0=some fs):
  Spec prog 62 [Sg s] [] [] (X:=SV×List Tf) (fun x=>x.2.map oh=fs) (fun x=> .tuple #[.agg #[sv x.1],I6 0,I6 0]) (fun x=> [dO x.1 x.2]) (fun _=> []):=by
 refine aI func62 J ntmps62 J fun w0 M H=>aq (aZ mu J J fun b2=>am J (am J (aa (aU (ad J (aP (cH underlying9 J) (ar J J fA (aa (ap J (fun h1=> ?_) (fun h1=> ?_))))))))))
 ·(exfalso;have q:=h1;simp at q;omega)
 ·(try simp only [bl]at h1);refine aC (aq (ad J (ai (xs:= [.tmp 13]) (yd s hs g0 ts hr) RL [] [] [14] (fun vt _=>cK 14 0 (A':=sl 5 lY (sv vt) ts) J cf (aP (aX (cs:=(rR vt 0).toArray) (parts:= [(0,.tmp 14)]) SF PN J (by kernel_rfl)) (cM J J fun b16=>am J (az J (aZ mu J J fun b6=>aa (be (aA (eo 50 (α:=Tf) (S:=66) (s:=3) (enc:=jI) (bz 51 [] (L:= []) J NV (bJ (X:=Lp) (fun x=>pP ts x.g (x.l.map oh) x.i=some fs∧x.l.length+x.g≤1000) (fun x=> [(2,Pt b2),(3,I6 0),(4,I6 0),(5,Pt b16),(6,Pt b6)]) (fun x=> [(16,bj b16 195 (rR vt (x.i))),(2,bj b2 27 [sv bc]),(6,bj b6 27 [sv x.v]),(50,own 66 3 jI (sv x.v) x.l),(51,OS x.l)]) (fun x=> [(0,sl 5 lY (sv vt) ts)]) (fun x=>x.g) ⟨bc,[],0,1000⟩ ⟨hp,bU _⟩ J J J (fun x hx1=> ?_))))))))))))));obtain⟨g2,t,hg2,hx,hO1,hO2⟩:=M8 hx1.1;have hxl:=hx1.2;have hil:=gn hx;refine be (be ?_)
  refine bX [17,18,19,20,21,22,23,24,25,26,27,28,29,30,31,32,33,34,35] _ J (bA (V:= [(0,17,_),(1,18,_),(2,19,_),(3,20,_),(4,21,_),(5,22,_),(6,23,_),(7,24,_),(8,25,_),(9,26,_),(10,27,_),(11,28,_),(12,29,_),(13,30,_),(14,31,_),(15,32,_),(16,33,_),(17,34,_),(18,35,_)]) [0,1,2,3,4,5,6,7,8,9,10,11,12,13,14,15,16,17,18] J J (aF J J (ae J (au J) (ae J (ah jk J) (ae J (ag DE J J (ax (k:=16) J J)) (ae J (aQ J J bv) (aF J J (bk (bT [] J J J O (fun hg2=>aV J)) (bk (bT [(23,_)] J J J ⟨J,O⟩ (fun hg3=>au J)) (bk (bT [(24,_)] J J J ⟨J,O⟩ (fun hg4=>ah gV J)) (bk (bT [(25,_)] J J J ⟨J,O⟩ (fun hg5=>ag qF J J (ax (k:=16) J J))) (bk (bT [] J J J O (fun hg6=>aV J)) (bk (bT [(27,_)] J J J ⟨J,O⟩ (fun hg7=>au J)) (bk (bT [(28,_)] J J J ⟨J,O⟩ (fun hg8=>ah cg J)) (bk (bT [(29,_)] J J J ⟨J,O⟩ (fun hg9=>ag t3 J J (ax (k:=16) J J))) (bk (bT [(26,_),(30,_)] J J J ⟨J,J,O⟩ (fun hg10=>aO (j:=x.i) underlying192 fh J J (aJ (k:=0) J) (by first|rfl|omega) (by first|omega|(simp;done)|(simp;omega)))) (bk (bT [(31,_)] J J J ⟨J,O⟩ (fun hg11=>fR eL J)) (bk (bT [(32,_)] J J J ⟨J,O⟩ (fun hg12=>ag t3 J J (oe (aJ (k:=0) J) (by intro _;rfl) hx J))) (bk (bT [(33,_)] J J J ⟨J,O⟩ (fun hg13=>aQ J J iT)) (ae J (bH J J J) aw))))))))))))))))))) J J J ?_);refine ap J (fun h14=> ?_) (fun h14=> ?_)
  ·have hk0:¬t.k=0:=by have q:=h14;revert q;simp
   obtain⟨pf,j,hpf,hpp⟩:=hO2 hk0;obtain⟨a,n,c,ps,j0,bb,ha1,ha2,hn,hnk,hc1,hc2,hps,hpb,hfe⟩:=JA hpf;obtain⟨t3,ht3,hT3,hF3⟩:=Jy hps;refine aC (aA (aq (ad J (ai (xs:= [.tmp 36,.const (Sg (ByteArray.mk #[102,110]))]) (dS b16 vt ts hts x.i a ha1 Pa ha2) kZ [16] [(false,0)] [16] (fun _ _=>az J (ad J (ai (xs:= [.tmp 38]) (oA b16 vt ts hts (x.i+1) n hn hnk) Ia [16] [(false,0)] [16] (fun _ _=>aP (aX (cs:=(jI ⟨n.s,bc,[],bc,[]⟩).toArray) (parts:= [(0,.tmp 39)]) gC PJ J (by kernel_rfl)) (aZ gC J J fun b7=>av (k:=7) gC J J J J J J (az J (ad J (ai (xs:= [.tmp 41,.const (Sg (ByteArray.mk #[40]))]) (dS b16 vt ts hts (x.i+2) c hc1 mh hc2) kZ [16] [(false,0)] [16] (fun _ _=>aa ?_)))))))))))));refine aq (ad J (ai (xs:= [.tmp 43,.const (Sg (ByteArray.mk #[41]))]) (gI b16 vt ts hts (x.i+3) t3 ht3 gS) rJ [16] [(false,0)] [16] (fun _ _=>am J (aa (be (aA (eo 52 (α:=Ba) (S:=9) (s:=1) (enc:=eS) ?_)))))));refine bJ (X:=Lq) (fun q=>(q.d=true→q.l=ps∧q.i=j0)∧(q.d=false→D8 ts q.g q.l q.i=some (ps,j0))∧q.l.length+q.g≤100) (fun q=> [(2,Pt b2),(3,I6 0),(4,I6 0),(5,Pt b16),(6,Pt b6),(7,Pt b7),(8,.bool q.d)]) (fun q=> [(16,bj b16 195 (rR vt (q.i))),(2,bj b2 27 [sv bc]),(6,bj b6 27 [sv x.v]),(50,own 66 3 jI (sv x.v) x.l),(51,OS x.l),(7,bj b7 66 (jI ⟨n.s,q.v,q.l,bc,[]⟩)),(52,own 9 1 eS (sv q.v) q.l)]) (fun q=> [(0,sl 5 lY (sv vt) ts)]) (fun q=>if q.d=true then 0 else q.g+1) ⟨dh t3 gS,bc,[],if dh t3 gS=true then x.i+3+1 else x.i+3,100⟩ ⟨fun hd=>⟨(hT3 hd).1.symm,by show(if dh t3 gS=true then x.i+3+1 else x.i+3)=j0;rw [aj hd];exact(hT3 hd).2.symm⟩,fun hd=>by show D8 ts 100 [] (if dh t3 gS=true then x.i+3+1 else x.i+3)=_;rw [ac (by rw [show dh t3 gS=false from hd];decide)];exact hF3 hd,bU _⟩ J J J (fun q hq1=> ?_)
   refine aU (ad J (aP (cZ J) (ad J (aH [] J J O (fun hg15=>aV J) J (aH [(48,_)] J J ⟨J,O⟩ (fun hg16=>au J) J (aH [(48,_),(49,_)] J J ⟨J,J,O⟩ (fun hg17=>ah jk J) J (aH [(48,_),(49,_),(50,_)] J J ⟨J,J,J,O⟩ (fun hg18=>ag DE J J (ax (k:=16) J J)) J (aH [(48,_),(49,_),(50,_),(51,_)] J J ⟨J,J,J,J,O⟩ (fun hg19=>aQ J J bv) J (aP (bH J J J) (aa (ap J (fun h20=> ?_) (fun h20=> ?_))))))))))))
   ·have hd:q.d=false:=by have z:=h20;revert z;cases q.d<;>simp
    obtain⟨g3,w,u,hg3,hw,hwk,hu,hu1,hu2⟩:=Jz (hq1.2.1 hd);have hql:=hq1.2.2;refine aC (aA (be ?_));refine bX [54,55,56,57,58,59,60] _ J (bi (V:= [(0,54,_),(1,55,_),(2,56,_)]) [0,1,2] 3 [3,2] [] (fun _=> []) J J (ae J (ah fj J) (ae J (ag jT J J (ax (k:=7) J J)) (aF J J aw))) J J J J J J J J J J J (fun _ _=>J) J (b_ (xs:= [.tmp 56]) (oA b16 vt ts hts q.i w hw hwk) Ia [16] [(false,0)] [16]) (fun _ _=>bi [0,1] 4 [4,3,2] [] (fun v58=> []) J J (ae J (ah fj J) (ae J (ag jT J J (ax (k:=7) J J)) aw)) J J J J J J J J J J J (fun _ _=>J) J (d9 eS w.s underlying46 t9 J (by decide) (by decide) J J J) (fun v58 _=>bi [0,1] 5 [5,4,3,2,1,0] [6] (fun v59=> [(6,60,_)]) J J (ae J (ah fj J) (ae J (ag jT J J (ax (k:=7) J J)) aw)) J J J J J J J J J J J (fun _ _=>J) J (ja 52 underlying46 t9 J (by decide) (fun _=>J) (fun _=>J) J J J (bh (k:=58) J) (by first|omega|(simp;done)|(simp;omega)) (by unfold maxLen;first|omega|(simp;done)|(simp;omega))) (fun v59 _=>bP [6] 7 [7,6,5,4,3,2,1,0] [] (fun _=> []) J J (ae J (ah fj J) aw) J J J J J J J J J (fun _ _=>J) J (dw (k:=7) jT J J J J J J J J) (fun _ _=>bA [] J J aw J J J ?_)))));refine aq (ad J (ai (xs:= [.tmp 61,.const (Sg (ByteArray.mk #[41]))]) (gI b16 vt ts hts (q.i+1) u hu gS) rJ [16] [(false,0)] [16] (fun _ _=>am J (az J (ad J (aP (cZ J) (aa (ap J (fun h21=> ?_) (fun h21=> ?_)))))))))
    ·have hrp:dh u gS=false:=by have z:=h21;revert z;cases dh u gS<;>simp
     rw [ac (by rw [hrp];decide)];obtain⟨hcm,hpe⟩:=hu2 hrp;refine ak (ad J (ai (xs:= [.tmp 65,.const (Sg (ByteArray.mk #[44]))]) (dS b16 vt ts hts (q.i+1) u hu rq hcm) kZ [16] [(false,0)] [16] (fun _ _=>aa ?_)));refine aG ⟨false,v59,q.l++ [w.s],q.i+2,g3⟩ ⟨⟨fun h=>(by cases h),fun _=>hpe,by show(q.l++ [w.s]).length+g3≤100;rw [bD];show _+1+_≤_;omega⟩,by show(if false=true then 0 else g3+1)<_;rw [ac (by decide),ac (by rw [hd];decide)];omega⟩ (by rw [hrp];rfl) J J
    ·have hrp:dh u gS=true:=by have z:=h21;revert z;cases dh u gS<;>simp
     rw [aj hrp];have hpe:=hu1 hrp;refine aC ?_;refine aG ⟨true,v59,q.l++ [w.s],q.i+2,g3⟩ ⟨⟨fun _=>⟨hpe.1.symm,hpe.2.symm⟩,fun h=>(by cases h),by show(q.l++ [w.s]).length+g3≤100;rw [bD];show _+1+_≤_;omega⟩,by show(if true=true then 0 else g3+1)<_;rw [aj J,ac (by rw [hd];decide)];omega⟩ (by rw [hrp];rfl) J J
   ·have hd:q.d=true:=by have z:=h20;revert z;cases q.d<;>simp
    obtain⟨he1,he2⟩:=hq1.1 hd;rw [he2];refine bL (aq (ad J (c_ (xs:= [.tmp 67]) (yI b16 vt ts hts (by decide) _ _ _ hpb) Dm [16] [(false,0)] [16,68] J J J (fun yb hyb=>aD li J (aB (k:=7) kO J J J J J J J J (aa (ak (aD fW J (aR 6 kJ J J J J (aP (aM gC J J J (bp (k:=7) J)) (bq jI (⟨n.s,q.v,q.l,yb.1,yb.2⟩:Tf) underlying25 gC J (by decide) (by decide) J J J J fun v73=>dy 50 underlying25 gC J (by decide) (fun _=>J) (fun _=>J) J J J (bh (k:=73) J) (by first|omega|(simp;done)|(simp;omega)) (by unfold maxLen;first|omega|(simp;done)|(simp;omega)) J fun v74=>aD fW J (aB (k:=6) kJ J J J J J J J J (aa (bz 51 [51,52,68] J (Kk (n:=n.s)) ?_))))))))))))));refine aG ⟨v74,x.l++ [⟨n.s,q.v,q.l,yb.1,yb.2⟩],j,g2⟩ ⟨⟨by show pP ts g2 ((x.l++ [(⟨n.s,q.v,q.l,yb.1,yb.2⟩:Tf)]).map oh) j=_;rw [List.map_append,show List.map oh [(⟨n.s,q.v,q.l,yb.1,yb.2⟩:Tf)]= [⟨n.s,q.l,dV yb.2⟩]from J,hyb,he1,←hfe];exact hpp,by show(x.l++ [_]).length+g2≤1000;rw [bD];show _+1+_≤_;omega⟩,by show g2<x.g;omega⟩ J J J
  ·have hk0:t.k=0:=by have q:=h14;revert q;simp
   have he:=hO1 hk0;refine bL (aU (ad J (bS J (aD jk J (aR 16 DE J J J J (ar J J iT (aa (ap J (fun h22=> ?_) (fun h22=> ?_)))))))))
   ·exact absurd h22 (by decide)
   ·(try simp only [bl]at h22);refine aC (aq (aP (aM mu J J J (bp (k:=6) J)) (av (k:=2) mu J J J J J J (am J (am J (aa (ay (bz 60 [50,51] J Kj (aN (x.v,x.l) he.symm J (Vh (bw mu J J J (bp (k:=2) J)) (aL J) (aL J)) J [60] [] J J J)))))))))
theorem kR(s:Ba)(hs:s.size≤16384)(g0:Nat)(ts:List Tk)(hr:ot s g0 0 []=some ts)(hts:ts.length≤20000)(fs:List Pf)(hp:pP ts 1000 [] 0=some fs):
  Spec prog 19 [Sg s] [] [] (X:=SV×List Tf) (fun x=>x.2.map oh=fs) (fun x=> .agg #[sv x.1]) (fun x=> [dO x.1 x.2]) (fun _=> []):=by
 refine aI func19 J ntmps19 J fun w0 M H=>aq (aZ mu J J fun b2=>az J (ad J (ai (xs:= [.tmp 7]) (AC s hs g0 ts hr hts fs hp) Uj [] [] [60] (fun x hx=>ad J (aP (cC J J) (aP (cC J J) (aP (cC J J) (aZ mu J J fun b3=>av (k:=3) mu J J J J J J (am J (am J (az J ?_)))))))))))
 refine aP (aM mu J J J (bp (k:=3) J)) (av (k:=2) mu J J J J J J (aa (ay (aN x hx J (ce (bw mu J J J (bp (k:=2) J))) J [60] [] J J J))))
theorem Im(a b:Ba):br (a++b)=br a++br b:=by
 unfold br;rw [ByteArray.data_append,Array.toList_append,List.map_append]
theorem mm(a b:Ba)(j:Nat):dZ (a++b) (a.size+j)=dZ b j:=by
 unfold dZ;rw [Im,List.getD_eq_getElem?_getD,List.getD_eq_getElem?_getD,List.getElem?_append_right (by rw [fY];omega),fY,Nat.add_sub_cancel_left]
theorem oj{a b:Ba}{j:Nat}(h:j<a.size):dZ (a++b) j=dZ a j:=by
 unfold dZ;rw [Im,List.getD_eq_getElem?_getD,List.getD_eq_getElem?_getD,List.getElem?_append_left (by rw [fY];exact h)]
theorem bB(a b:Ba):(a++b).size=a.size+b.size:=ByteArray.size_append
theorem cl(a b c:Ba):(a++b)++c=a++(b++c):=ByteArray.append_assoc
theorem sM(a x t:Ba):(a++(x++t)).extract a.size (a.size+x.size)=x:=by
 apply ByteArray.ext;apply Array.ext';have ha:a.size=a.data.toList.length:=by simp
 have hx:x.size=x.data.toList.length:=by simp
 rw [ByteArray.data_extract,Array.toList_extract,List.extract_eq_take_drop,ByteArray.data_append,ByteArray.data_append,Array.toList_append,Array.toList_append,Nat.add_sub_cancel_left,ha,List.drop_left,hx,List.take_left]
theorem Kz(a t:Ba):(a++t).extract a.size (a++t).size=t:=by
 have:=sM a t ⟨#[]⟩;rw [show t++(⟨#[]⟩:Ba)=t from ByteArray.append_empty]at this;rw [bB];exact this
theorem BX{p:Int→Bool}{a x t:Ba}(hx:∀j,j<x.size→p (dZ x j)=true)(ht:p (dZ t 0)=false):nh p (a++(x++t)) ((a++(x++t)).size-a.size) a.size=a.size+x.size:=by
 have hs:(a++(x++t)).size=a.size+(x.size+t.size):=by rw [bB,bB]
 apply qI (by omega) (by omega) (by omega)
 ·intro m h1 h2;obtain⟨j,rfl⟩:∃j,m=a.size+j:=⟨m-a.size,by omega⟩
  rw [mm,oj (by omega)];exact hx j (by omega)
 ·intro h;have h:=h.2;rw [mm,show x.size=x.size+0 from J,mm,ht]at h;cases h
theorem yp{p:Int→Bool}{s:Ba}:∀{m g i:Nat},(∀j,j<m→p (dZ s (i+j))=true)→nh p s (m+g) i=nh p s g (i+m)
 | 0,g,i,_=>by rw [Nat.zero_add];rfl
 | m+1,g,i,h=>by
  rw [show m+1+g=(m+g)+1 by omega];show(if p (dZ s i)=true then nh p s (m+g) (i+1)else i)=_;rw [aj (by have:=h 0 (Nat.zero_lt_succ _);exact this),yp (fun j hj=>by rw [show i+1+j=i+(j+1) by omega];exact h (j+1) (by omega)),show i+1+m=i+(m+1) by omega]
theorem I7{p:Int→Bool}{a x t:Ba}(hx:∀j,j<x.size→p (dZ x j)=true):nh p (a++(x++t)) ((a++(x++t)).size-a.size) a.size=nh p ((a++x)++t) (((a++x)++t).size-(a++x).size) (a++x).size:=by
 rw [cl];have hs:(a++(x++t)).size=a.size+(x.size+t.size):=by rw [bB,bB]
 rw [bB a x,show(a++(x++t)).size-a.size=x.size+((a++(x++t)).size-(a.size+x.size)) by omega];exact yp fun j hj=>by rw [mm,oj hj];exact hx j hj
theorem Pu{p:Int→Bool}{a t:Ba}(ht:p (dZ t 0)=false):nh p (a++t) ((a++t).size-a.size) a.size=a.size:=by
 have hs:(a++t).size=a.size+t.size:=bB _ _;apply qI (by omega) (by omega) (by omega)
 ·intro m h1 h2;omega
 ·intro h;have h:=h.2;rw [show a.size=a.size+0 from J,mm,ht]at h;cases h
theorem AF(a x t:Ba):∀m,m≤x.size→mO (a++(x++t)) a.size m=mO x 0 m
 | 0,_=>rfl
 | m+1,h=>by
  unfold mO;rw [AF a x t m (by omega),mm,oj (by omega),Nat.zero_add]
def US(x y:Ba):Bool:=(decide (0<y.size)&&decide (0<x.size)&& !decide (dZ y 0=dZ x 0)) || (decide (1<y.size)&&decide (1<x.size)&& !decide (dZ y 1=dZ x 1)) || (decide (1<y.size)&&decide (x.size=1)&&(decide (dZ y 1=60) || decide (dZ y 1=61) || decide (dZ y 1=62)))
def P8(x:Ba):List Ba→Bool
 | []=>false
 | y::r=>decide (y=x) || (US x y&&P8 x r)
theorem BV{x t:Ba}(h:dZ t 0≠60∧dZ t 0≠61∧dZ t 0≠62):∀l,P8 x l=true→lq (x++t) l=x
 | [],hl=>by cases hl
 | y::r,hl=>by
  unfold P8 at hl;by_cases e:y=x
  ·subst e;unfold lq;rw [aj];rw [Bool.and_eq_true,decide_eq_true_eq,bB,eT,decide_eq_true_eq];refine⟨by omega,?_⟩;have:=sM ⟨#[]⟩ y t;rw [show(⟨#[]⟩:Ba)++(y++t)=y++t from ByteArray.empty_append,show(⟨#[]⟩:Ba).size=0 from J,Nat.zero_add]at this;exact this
  ·rw [decide_eq_false e,Bool.false_or,Bool.and_eq_true]at hl;obtain⟨hm,hl⟩:=hl;rw [lq,ac]
   ·exact BV h r hl
   ·intro hy;rw [Bool.and_eq_true,decide_eq_true_eq,bB,eT,decide_eq_true_eq]at hy;obtain⟨h1,h2⟩:=hy;have key:∀j,j<y.size→dZ y j=dZ (x++t) j:=fun j hj=>by
     unfold dZ br;have e:y.data.toList=((x++t).data.toList.drop 0).take y.size:=by
      have:=congrArg (fun z=>z.data.toList) h2;simp only [ByteArray.data_extract,Array.toList_extract,List.extract_eq_take_drop]at this;rw [Nat.sub_zero]at this;exact this.symm
     rw [e,List.drop_zero,List.getD_eq_getElem?_getD,List.getD_eq_getElem?_getD,List.getElem?_map,List.getElem?_map,List.getElem?_take,aj hj]
    unfold US at hm;simp only [Bool.or_eq_true,Bool.and_eq_true,decide_eq_true_eq,Bool.not_eq_true',decide_eq_false_iff_not]at hm;rcases hm with(⟨⟨a,b⟩,c⟩|⟨⟨a,b⟩,c⟩)|⟨⟨a,b⟩,c⟩
    ·exact c (by rw [key 0 a,oj b])
    ·exact c (by rw [key 1 a,oj b])
    ·have q:=key 1 a;rw [show(1:Nat)=x.size+0 by omega,mm,show x.size+0=1 by omega]at q;omega
structure Pe where
 x:Ba
 k:Int
 n:Int
inductive Pkc(c:Int):Pe→Prop
 | blank (x n):(∀j,j<x.size→rU (dZ x j)=true)→Pkc c ⟨x,0,n⟩
 | num (x n):0<x.size→(∀j,j<x.size→kB (dZ x j)=true)→kB c=false→mO x 0 x.size=(n,false)→0≤n∧n<4294967296→Pkc c ⟨x,1,n⟩
 | word (x k):0<x.size→x.size≤12→(∀j,j<x.size→mT (dZ x j)=true)→mQ (dZ x 0)=true→mT c=false→k=(if cx x uV=true then 3 else 2)→Pkc c ⟨x,k,0⟩
 | sign (x):P8 x sgL=true→0<x.size→kB (dZ x 0)=false→mQ (dZ x 0)=false→rU (dZ x 0)=false→c≠60∧c≠61∧c≠62→Pkc c ⟨x,3,0⟩
theorem N_{c:Int}(h:kB c=true):rU c=false:=by
 unfold kB at h;unfold rU;simp only [Bool.and_eq_true,decide_eq_true_eq]at h;simp only [Bool.or_eq_false_iff,decide_eq_false_iff_not];omega
theorem Nu{c:Int}(h:mQ c=true):rU c=false∧kB c=false:=by
 unfold mQ at h;unfold rU kB;simp only [Bool.and_eq_true,decide_eq_true_eq]at h;simp only [Bool.or_eq_false_iff,decide_eq_false_iff_not,Bool.and_eq_false_iff];omega
theorem Pkc.tok{a t:Ba}{p:Pe}(h:Pkc (dZ t 0) p)(hk:p.k≠0):0<p.x.size∧rU (dZ p.x 0)=false∧p.k≠4∧gH (a++(p.x++t)) a.size=⟨p.k,p.n,false,a.size+p.x.size⟩:=by
 have b0:0<p.x.size→dZ (a++(p.x++t)) a.size=dZ p.x 0:=fun q=>by
  have:=mm a (p.x++t) 0;rw [Nat.add_zero]at this;rw [this,oj q]
 cases h with
 | blank x n h=>exact absurd rfl hk
 | num x n h0 hd hc hn hb=>
  have d0:=hd 0 h0;refine⟨h0,N_ d0,by show(1:Int)≠4;decide,?_⟩;have hj:=BX (a:=a) hd hc;unfold gH;rw [b0 h0,aj d0,hj,Nat.add_sub_cancel_left,AF a x t _ (bU _),hn,gZ hb]
 | word x k h0 h12 hi hl hc hk2=>
  obtain⟨e1,e2⟩:=Nu hl;refine⟨h0,e1,by show k≠4;rw [hk2];split<;>decide,?_⟩;have hj:=BX (a:=a) hi hc;unfold gH;rw [b0 h0,ac (by rw [e2];decide),aj hl,hj,ac (by omega),sM,hk2]
 | sign x hx h0 e1 e2 e3 hc=>
  refine⟨h0,e3,by show(3:Int)≠4;decide,?_⟩;unfold gH;rw [b0 h0,ac (by rw [e1];decide),ac (by rw [e2];decide),Kz,BV hc sgL hx,ac (by omega)]
def du:List Pe→Ba
 | []=>oNil
 | p::r=>p.x++du r
def hd:List Pe→Int→Int
 | [],c=>c
 | p::r,c=>if p.x.size=0 then hd r c else dZ p.x 0
def xO:List Pe→Int→Prop
 | [],_=>True
 | p::r,c=>Pkc (hd r c) p∧xO r c
theorem dz(t:Ba):oNil++t=t:=ByteArray.empty_append
theorem dr(t:Ba):t++oNil=t:=ByteArray.append_empty
theorem eO:∀l m:List Pe,du (l++m)=du l++du m
 | [],m=>(dz _).symm
 | p::r,m=>by
  show p.x++du (r++m)=(p.x++du r)++du m;rw [eO r m,cl]
theorem lg:∀(l m:List Pe)(c:Int),hd (l++m) c=hd l (hd m c)
 | [],m,c=>rfl
 | p::r,m,c=>by
  show(if p.x.size=0 then hd (r++m) c else dZ p.x 0)=(if p.x.size=0 then hd r (hd m c)else dZ p.x 0);rw [lg r m c]
theorem ff:∀{l m:List Pe}{c:Int},xO (l++m) c↔xO l (hd m c)∧xO m c
 | [],m,c=>⟨fun h=>⟨trivial,h⟩,fun h=>h.2⟩
 | p::r,m,c=>by
  show(Pkc (hd (r++m) c) p∧xO (r++m) c)↔((Pkc (hd r (hd m c)) p∧xO r (hd m c))∧xO m c);rw [lg,ff,and_assoc]
theorem GQ:∀(l:List Pe)(t:Ba),dZ (du l++t) 0=hd l (dZ t 0)
 | [],t=>by show dZ (oNil++t) 0=_;rw [dz];rfl
 | p::r,t=>by
  show dZ ((p.x++du r)++t) 0=(if p.x.size=0 then hd r (dZ t 0)else dZ p.x 0);rw [cl];by_cases h:p.x.size=0
  ·rw [aj h,show(0:Nat)=p.x.size+0 by omega,mm,show p.x.size+0=0 by omega];exact GQ r t
  ·rw [ac h,oj (by omega)]
def uG:List Pe→Nat→List Tk
 | [],i=> [⟨0,oNil,0,false,(i:Int)⟩]
 | p::r,i=>if p.k=0 then uG r (i+p.x.size)else⟨p.k,p.x,p.n,false,(i:Int)⟩::uG r (i+p.x.size)
theorem z9{p:Pe}{r:List Pe}{i:Nat}(h:¬p.k=0):uG (p::r) i=⟨p.k,p.x,p.n,false,(i:Int)⟩::uG r (i+p.x.size):=ac h
theorem z_{p:Pe}{r:List Pe}{i:Nat}(h:p.k=0):uG (p::r) i=uG r (i+p.x.size):=aj h
theorem E9{a:Ba}{g:Nat}{acc:List Tk}:ot a (g+1) a.size acc=some (acc++ [⟨0,oNil,0,false,(a.size:Int)⟩]):=by
 rw [ot,aj (show nh rU a (a.size-a.size) a.size=a.size by rw [Nat.sub_self];rfl)]
theorem IQ{a x t:Ba}{k n:Int}{g:Nat}{acc:List Tk}(h:Pkc (dZ t 0) ⟨x,k,n⟩)(hk:k≠0):ot (a++(x++t)) (g+1) a.size acc=ot (a++(x++t)) g (a.size+x.size) (acc++ [⟨k,x,n,false,(a.size:Int)⟩]):=by
 obtain⟨h0,h1,h2,h3⟩:=h.tok (a:=a) hk;replace h0:0<x.size:=h0;replace h1:rU (dZ x 0)=false:=h1;replace h2:k≠4:=h2;replace h3:gH (a++(x++t)) a.size=⟨k,n,false,a.size+x.size⟩:=h3;have e:nh rU (a++(x++t)) ((a++(x++t)).size-a.size) a.size=a.size:=Pu (by rw [oj h0];exact h1);have es:(a++(x++t)).size=a.size+(x.size+t.size):=by rw [bB,bB]
 rw [ot,e,ac (by omega),h3,ac h2];unfold Aa;rw [h3,sM]
theorem IT{a x t:Ba}{g:Nat}{acc:List Tk}(h:∀j,j<x.size→rU (dZ x j)=true):ot (a++(x++t)) (g+1) a.size acc=ot ((a++x)++t) (g+1) (a++x).size acc:=by
 have e:=I7 (a:=a) (t:=t) h;rw [ot,ot,e,cl]
theorem IR(l:List Pe):∀(a:Ba)(g:Nat)(acc:List Tk),xO l 0→l.length<g→ot (a++du l) g a.size acc=some (acc++uG l a.size):=by
 induction l with
 | nil=>
  intro a g acc _ hg;obtain⟨g,rfl⟩:∃q,g=q+1:=⟨g-1,by have:0<g:=hg;omega⟩
  rw [show a++du []=a from dr a];exact E9
 | cons p r ih=>
  intro a g acc h hg;obtain⟨hp,hr⟩:=h;have hg2:r.length+1<g:=hg;obtain⟨g,rfl⟩:∃q,g=q+1:=⟨g-1,by omega⟩
  have hc:Pkc (dZ (du r) 0) p:=by
   have:=GQ r oNil;rw [dr]at this;rw [this];exact hp
  show ot (a++(p.x++du r)) (g+1) a.size acc=_;by_cases hk:p.k=0
  ·have ih:=ih (a++p.x) (g+1) acc hr (by omega);rw [z_ hk,IT]
   ·rw [ih,bB]
   ·cases hc with
    | blank x n h=>exact h
    | num x n=>exact absurd hk (show(1:Int)≠0 by decide)
    | word x k h0 h12 hi hl hc hk2=>
     have hk:k=0:=hk;exfalso;rw [hk2]at hk;split at hk<;>cases hk
    | sign x=>exact absurd hk (show(3:Int)≠0 by decide)
  ·have ih:=ih (a++p.x) g (acc++ [⟨p.k,p.x,p.n,false,(a.size:Int)⟩]) hr (by omega);rw [bB a p.x,cl,List.append_assoc]at ih;rw [z9 hk,IQ (k:=p.k) (n:=p.n) hc hk];exact ih
def Pz(s:Ba):List (List Ba)→Int→Int
 | [],_=> -1
 | l::r,i=>if cx s l=true then i else Pz s r (i+1)
def lO(s:Ba):Int:=Pz s rlv 0
def d1(n:Nat):Ba:=mM [48+((n%10:Nat):Int)]
def mz(n:Nat):Ba:=if h:n<10 then d1 n else mz (n/10)++d1 n
termination_by n
decreasing_by omega
abbrev sp:Pe:=⟨⟨#[32]⟩,0,0⟩
abbrev dP(x:Ba):Pe:=⟨x,3,0⟩
abbrev uz(x:Ba):Pe:=⟨x,2,0⟩
structure Qx where
 k:Int
 nm:Ba
 l:List Pe
def pD:Qx:=⟨0,oNil,[]⟩
def cu(m:Int)(q:Qx):List Pe:=if q.k=7∧lO q.nm<m then dP mh::(q.l++ [dP gS])else q.l
def kD:List Qx→List Pe
 | []=> []
 | q::r=>cu 0 q++(if r.length=0 then []else dP rq::sp::kD r)
def vA(k n:Int)(nm:Ba)(q:List Qx):List Pe:=
 if k=1 then [⟨mz n.toNat,1,n⟩]else if k=2 then [uz nm]else if k=3 then uz nm::dP mh::(kD q++ [dP gS])else
 if k=4 then dP ka::dP Iy::(cu 0 (q.getD 0 pD)++ [dP EL])else if k=5 then [dP E0]else if k=6 then dP nm::cu 8 (q.getD 0 pD)else
 cu (lO nm) (q.getD 0 pD)++(sp::dP nm::sp::cu (lO nm+1) (q.getD 1 pD))
mutual
def jB:Tx→List Pe
 | .mk k n nm _ kids=>vA k n nm (yG kids)
def yG:List Tx→List Qx
 | []=> []
 | t::r=>⟨t.kind,t.name,jB t⟩::yG r
end
abbrev bR(t:Tx):Qx:=⟨t.kind,t.name,jB t⟩
theorem tk:∀l,yG l=l.map bR
 | []=>rfl
 | t::r=>by
  show bR t::yG r=bR t::r.map bR;rw [tk r]
theorem mg(t:Tx):jB t=vA t.kind t.n t.name (t.kids.map bR):=by
 cases t;show vA _ _ _ (yG _)=_;rw [tk];rfl
def Iv(c:Int):Prop:=mT c=false∧c≠60∧c≠61∧c≠62
def uH(c:Int):Prop:=c≠60∧c≠61∧c≠62
theorem NC{c:Int}(h:mT c=false):kB c=false:=by
 unfold mT at h;rw [Bool.or_eq_false_iff]at h;exact h.2
theorem QM(n:Nat):br (d1 n)= [48+((n%10:Nat):Int)]:=kI _ fun x hx=>by
 rw [List.mem_singleton.1 hx];omega
theorem vX(n:Nat):(d1 n).size=1:=iO _
theorem Dc(n:Nat):dZ (d1 n) 0=48+((n%10:Nat):Int):=by
 unfold dZ;rw [QM];rfl
theorem N9{c:Int}(h1:48≤c)(h2:c≤57):kB c=true:=by
 unfold kB;rw [Bool.and_eq_true,decide_eq_true_eq,decide_eq_true_eq];exact⟨h1,h2⟩
theorem Hx:∀(g n:Nat),n<g→n<4294967296→0<(mz n).size∧(∀j,j<(mz n).size→kB (dZ (mz n) j)=true)∧mO (mz n) 0 (mz n).size=((n:Int),false)
 | g+1,n,hg,hn=>by
  have h10:kB (48+((n%10:Nat):Int))=true:=N9 (by omega) (by omega);rw [mz];by_cases h:n<10
  ·rw [dif_pos h,vX];refine⟨Nat.one_pos,fun j hj=> ?_,?_⟩
   ·obtain rfl:j=0:=by omega
    rw [Dc];exact h10
   ·rw [mO,mO,Nat.zero_add,Dc,ac (by omega)];exact Prod.ext (by show 10*0+_=_;omega) J
  ·rw [dif_neg h];obtain⟨a1,a2,a3⟩:=Hx g (n/10) (by omega) (by omega);rw [bB,vX];refine⟨by omega,fun j hj=> ?_,?_⟩
   ·by_cases q:j<(mz (n/10)).size
    ·rw [oj q];exact a2 j q
    ·obtain rfl:j=(mz (n/10)).size+0:=by omega
     rw [mm,Dc];exact h10
   ·have e:=AF ⟨#[]⟩ (mz (n/10)) (d1 n) (mz (n/10)).size (bU _);rw [show(⟨#[]⟩:Ba)++(mz (n/10)++d1 n)=mz (n/10)++d1 n from ByteArray.empty_append,show(⟨#[]⟩:Ba).size=0 from J]at e;have e2:dZ (mz (n/10)++d1 n) (0+(mz (n/10)).size)=48+((n%10:Nat):Int):=by
     have:=mm (mz (n/10)) (d1 n) 0;rw [Dc,Nat.add_zero]at this;rw [Nat.zero_add];exact this
    rw [mO,e,a3,e2,ac (by show ¬(10*((n/10:Nat):Int)+_≥_);omega)];exact Prod.ext (by show 10*((n/10:Nat):Int)+_=_;omega) J
theorem kQ{nm:Ba}{c:Int}(h:bE nm=true)(hc:mT c=false):Pkc c (uz nm):=by
 unfold bE at h;simp only [Bool.and_eq_true,decide_eq_true_eq,Bool.not_eq_true']at h;obtain⟨⟨⟨⟨h1,h2⟩,h3⟩,h4⟩,h5⟩:=h;have h0:0<nm.size:=by omega
 have key:∀j,(hj:j<nm.size)→dZ nm j=(((nm.data.toList[j]'(by simpa using hj)).toNat:Nat):Int):=fun j hj=>by
  unfold dZ br;rw [List.getD_eq_getElem?_getD,List.getElem?_map,bQ (by simpa using hj)];rfl
 refine Pkc.word nm 2 h0 h2 (fun j hj=> ?_) ?_ hc (by rw [ac (by rw [h3];decide)])
 ·unfold zI at h5;rw [List.all_eq_true]at h5;rw [key j hj];exact h5 _ (List.getElem_mem _)
 ·rw [key 0 h0];unfold uo at h4;rw [List.headD_eq_head?_getD,List.head?_eq_getElem?,bQ (by simpa using h0)]at h4;exact h4
theorem JH{nm:Ba}(h:bE nm=true):nm.size≠0∧mQ (dZ nm 0)=true:=by
 have hp:=kQ h (c:=0) (by decide);generalize hq:uz nm=q at hp;cases hp with
 | blank x n=>cases hq
 | num x n=>cases hq
 | sign x=>cases hq
 | word x k h0 h12 hi hl hc hk2=>
  injection hq with h1 h2 h3;subst h1;exact⟨by omega,hl⟩
theorem n8{x:Ba}{c:Int}(h:(decide (0<x.size)&&decide (x.size≤12)&&cx x uV&&(List.range x.size).all (fun j=>mT (dZ x j))&&mQ (dZ x 0))=true)(hc:mT c=false):Pkc c (dP x):=by
 simp only [Bool.and_eq_true,decide_eq_true_eq,List.all_eq_true,List.mem_range]at h;obtain⟨⟨⟨⟨h1,h2⟩,h3⟩,h4⟩,h5⟩:=h;exact Pkc.word x 3 h1 h2 h4 h5 hc (by rw [aj h3])
def R_(x:Ba):Bool:=P8 x sgL&&decide (0<x.size)&& !kB (dZ x 0)&& !mQ (dZ x 0)&& !rU (dZ x 0)
theorem fG{x:Ba}{c:Int}(h:R_ x=true)(hc:uH c):Pkc c (dP x):=by
 unfold R_ at h;simp only [Bool.and_eq_true,decide_eq_true_eq,Bool.not_eq_true']at h;obtain⟨⟨⟨⟨h1,h2⟩,h3⟩,h4⟩,h5⟩:=h;exact Pkc.sign x h1 h2 h3 h4 h5 hc
theorem ia{c:Int}:Pkc c sp:=Pkc.blank _ _ fun j hj=>by
 obtain rfl:j=0:=by have:j<1:=hj;omega
 decide
theorem wx{c:Int}(h:Iv c):uH c:=h.2
theorem Fp:Iv 32:=by unfold Iv;decide
theorem np{x:Ba}{l:List Ba}(h:cx x l=true):x∈l:=by
 unfold cx at h;rw [List.any_eq_true]at h;obtain⟨y,hy,e⟩:=h;rw [decide_eq_true_eq]at e;rw [e];exact hy
def F9:List Ba:= [kK,fw,fo,nR,nO,mx,nP,nQ,oU,gQ,ib,gg,dU,gT,la,lR]
theorem sN{nm:Ba}(h:gJ nm=true):nm∈F9:=by
 unfold gJ at h;rw [List.find?_isSome]at h;obtain⟨p,hp,he⟩:=h;rw [decide_eq_true_eq]at he;subst he;have key:∀x∈lvL.map Prod.fst,cx x F9=true:=by decide+kernel
 exact np (key p.1 (List.mem_map_of_mem hp))
theorem P0:∀x∈F9,R_ x=true:=by decide+kernel
theorem Ph:∀x∈rf,R_ x=true∧uH (dZ x 0)∧x.size≠0:=by unfold uH;decide+kernel
def qx(l:List Pe):Prop:=∀c,Iv c→xO l c∧uH (hd l c)
theorem mY{m:Int}{q:Qx}(h:qx q.l):qx (cu m q):=by
 intro c hc;unfold cu;split
 ·have h1:=h 41 (by unfold Iv;decide);refine⟨⟨fG (by decide+kernel) ?_,ff.2 ⟨h1.1,fG (by decide+kernel) (wx hc),O⟩⟩,by unfold uH;exact(by decide:dZ mh 0≠60∧dZ mh 0≠61∧dZ mh 0≠62)⟩;rw [lg];exact h1.2
 ·exact h c hc
theorem De:∀{l:List Qx},(∀q∈l,qx q.l)→xO (kD l) 41∧uH (hd (kD l) 41)
 | [],_=>⟨trivial,by unfold uH;decide⟩
 | q::r,h=>by
  have h1:qx (cu 0 q):=mY (h q (List.mem_cons_self ..));obtain⟨i1,i2⟩:=De (l:=r) fun x hx=>h x (List.mem_cons_of_mem _ hx)
  unfold kD;split
  ·rw [List.append_nil];exact h1 41 (by unfold Iv;decide)
  ·have a:=h1 44 (by unfold Iv;decide);refine⟨ff.2 ⟨a.1,fG (by decide+kernel) (by unfold uH;exact(by decide:(32:Int)≠60∧(32:Int)≠61∧(32:Int)≠62)),ia,i1⟩,?_⟩;rw [lg];exact a.2
theorem fp{t:Tx}{l:List Tx}{i:Nat}(h:l[i]?=some t):(l.map bR).getD i pD=bR t:=by
 rw [List.getD_eq_getElem?_getD,List.getElem?_map,h];rfl
theorem xk{p:Pe}{r:List Pe}{c:Int}(h:p.x.size≠0):hd (p::r) c=dZ p.x 0:=ac h
theorem tw{nm:Ba}{r:List Pe}{c:Int}(hi:bE nm=true):uH (hd (uz nm::r) c):=by
 obtain⟨e1,e2⟩:=JH hi;rw [xk e1];unfold mQ at e2;rw [Bool.and_eq_true,decide_eq_true_eq,decide_eq_true_eq]at e2;unfold uH;show dZ nm 0≠60∧dZ nm 0≠61∧dZ nm 0≠62;omega
theorem Jr{k n:Int}{nm:Ba}{q:List Qx}{m:Nat}(hm:q.length=m)(h:jC k nm m=true)(hn:oW n)(hq:∀x∈q,qx x.l):qx (vA k n nm q):=by
 have hg:∀i,i<q.length→qx (q.getD i pD).l:=fun i hi=>by
  rw [List.getD_eq_getElem?_getD,bQ hi];exact hq _ (List.getElem_mem _)
 intro c hc;unfold jC at h;unfold vA;by_cases h1:k=1
 ·rw [aj h1];obtain⟨a1,a2,a3⟩:=Hx (n.toNat+1) n.toNat (Nat.lt_succ_self _) (by have:=hn.2;omega)
  have hd0:=a2 0 a1;unfold kB at hd0;rw [Bool.and_eq_true,decide_eq_true_eq,decide_eq_true_eq]at hd0;refine⟨⟨Pkc.num _ _ a1 a2 (NC hc.1) ?_ hn,O⟩,?_⟩
  ·rw [a3,Int.toNat_of_nonneg hn.1]
  ·rw [xk (by show(mz n.toNat).size≠0;omega)];unfold uH;show dZ (mz n.toNat) 0≠60∧dZ (mz n.toNat) 0≠61∧dZ (mz n.toNat) 0≠62;omega
 ·rw [ac h1];by_cases h2:k=2
  ·rw [aj h2];rw [ac (by omega),aj h2,Bool.and_eq_true]at h;exact⟨⟨kQ h.1 hc.1,O⟩,tw h.1⟩
  ·rw [ac h2];by_cases h3:k=3
   ·rw [aj h3];rw [ac (by omega),ac h2,aj h3]at h;obtain⟨f1,f2⟩:=De hq;refine⟨⟨kQ h ?_,fG (by decide+kernel) ?_,ff.2 ⟨f1,fG (by decide+kernel) (wx hc),O⟩⟩,tw h⟩
    ·exact(by decide:mT 40=false)
    ·rw [lg];exact f2
   ·rw [ac h3];by_cases h4:k=4
    ·rw [aj h4];rw [ac (by omega),ac h2,ac h3,aj h4,Bool.and_eq_true,decide_eq_true_eq,decide_eq_true_eq]at h;obtain⟨f1,f2⟩:=mY (m:=0) (hg 0 (by omega)) 93 (by unfold Iv;decide);refine⟨⟨n8 (by decide+kernel) (by decide:mT 91=false),fG (by decide+kernel) ?_,ff.2 ⟨f1,fG (by decide+kernel) (wx hc),O⟩⟩,?_⟩
     ·rw [lg];exact f2
     ·unfold uH;exact(by decide:(109:Int)≠60∧(109:Int)≠61∧(109:Int)≠62)
    ·rw [ac h4];by_cases h5:k=5
     ·rw [aj h5];refine⟨⟨n8 (by decide+kernel) hc.1,O⟩,?_⟩;unfold uH;exact(by decide:(105:Int)≠60∧(105:Int)≠61∧(105:Int)≠62)
     ·rw [ac h5];by_cases h6:k=6
      ·rw [aj h6];rw [ac (by omega),ac h2,ac h3,ac h4,aj h6,Bool.and_eq_true,decide_eq_true_eq]at h;obtain⟨u1,u2,u3⟩:=Ph nm (np h.1);obtain⟨f1,f2⟩:=mY (m:=8) (hg 0 (by omega)) c hc;refine⟨⟨fG u1 f2,f1⟩,?_⟩;rw [xk u3];exact u2
      ·rw [ac h6];by_cases h7:k=7
       ·rw [ac (by omega),ac h2,ac h3,ac h4,ac h6,aj h7,Bool.and_eq_true,decide_eq_true_eq]at h;obtain⟨f1,f2⟩:=mY (m:=lO nm) (hg 0 (by omega)) 32 Fp;obtain⟨g1,g2⟩:=mY (m:=lO nm+1) (hg 1 (by omega)) c hc;refine⟨ff.2 ⟨f1,ia,fG (P0 nm (sN h.1)) (by unfold uH;exact(by decide:(32:Int)≠60∧(32:Int)≠61∧(32:Int)≠62)),ia,g1⟩,?_⟩;rw [lg];exact f2
       ·rw [ac (by omega),ac h2,ac h3,ac h4,ac h6,ac h7]at h;cases h
mutual
theorem Jp:∀t:Tx,rX t=true→GX t→qx (jB t)
 | .mk k n nm v kids,hr,hg=>by
  have hr:(jC k nm kids.length&&(decide (k=1) || decide (n=0))&&ji kids)=true:=hr;rw [Bool.and_eq_true,Bool.and_eq_true]at hr;have hg:oW n∧qz nm∧kids.length≤1000000∧GXs kids:=hg;obtain⟨e1,e2⟩:=tl kids hr.2 hg.2.2.2;exact Jr e1 hr.1.1 hg.1 e2
theorem tl:∀l:List Tx,ji l=true→GXs l→(yG l).length=l.length∧∀q∈yG l,qx q.l
 | [],_,_=>⟨rfl,fun q hq=>by cases hq⟩
 | t::r,hr,hg=>by
  have hr:(rX t&&ji r)=true:=hr;rw [Bool.and_eq_true]at hr;have hg:GX t∧GXs r:=hg;have h1:=Jp t hr.1 hg.1;obtain⟨h2,h3⟩:=tl r hr.2 hg.2;refine⟨by show(yG r).length+1=r.length+1;rw [h2],fun q hq=> ?_⟩;rcases List.mem_cons.1 hq with rfl|hq
  ·exact h1
  ·exact h3 q hq
end
def iH(ts:List Tk)(i:Nat)(p:Pe):Prop:=∃t,ts[i]?=some t∧t.k=p.k∧t.s=p.x∧t.n=p.n∧t.bad=false
def cS:List Pe→Nat
 | []=>0
 | p::r=>if p.k=0 then cS r else cS r+1
def gG(ts:List Tk):Nat→List Pe→Prop
 | _,[]=>True
 | i,p::r=>if p.k=0 then gG ts i r else iH ts i p∧gG ts (i+1) r
theorem dg{ts:List Tk}:∀{l m:List Pe}{i:Nat},gG ts i (l++m)↔gG ts i l∧gG ts (i+cS l) m
 | [],m,i=>⟨fun h=>⟨trivial,h⟩,fun h=>h.2⟩
 | p::r,m,i=>by
  show(if p.k=0 then gG ts i (r++m)else iH ts i p∧gG ts (i+1) (r++m))↔(if p.k=0 then gG ts i r else iH ts i p∧gG ts (i+1) r)∧gG ts (i+(if p.k=0 then cS r else cS r+1)) m;by_cases h:p.k=0
  ·rw [aj h,aj h,aj h];exact dg
  ·rw [ac h,ac h,ac h,dg,and_assoc,show i+1+cS r=i+(cS r+1) by omega]
theorem ey:∀l m:List Pe,cS (l++m)=cS l+cS m
 | [],m=>by rw [show cS []=0 from rfl,Nat.zero_add];rfl
 | p::r,m=>by
  show(if p.k=0 then cS (r++m)else cS (r++m)+1)=(if p.k=0 then cS r else cS r+1)+cS m;rw [ey r m];split<;>omega
theorem uw:∀(l:List Pe)(A:List Tk)(o:Nat),gG (A++uG l o) A.length l∧∃t,(A++uG l o)[A.length+cS l]?=some t∧t.k=0
 | [],A,o=>⟨trivial,⟨0,oNil,0,false,(o:Int)⟩,by rw [show cS []=0 from rfl,Nat.add_zero,List.getElem?_append_right (bU _),Nat.sub_self];rfl,rfl⟩
 | p::r,A,o=>by
  by_cases h:p.k=0
  ·rw [z_ h];show(if p.k=0 then _ else _)∧∃t,_[A.length+if p.k=0 then cS r else _]?=some t∧_;rw [aj h,aj h];exact uw r A (o+p.x.size)
  ·rw [z9 h];show(if p.k=0 then _ else _)∧∃t,_[A.length+if p.k=0 then _ else cS r+1]?=some t∧_;rw [ac h,ac h];have ih:=uw r (A++ [⟨p.k,p.x,p.n,false,(o:Int)⟩]) (o+p.x.size);rw [List.append_assoc,bD]at ih;obtain⟨h1,t,h2,h3⟩:=ih;refine⟨⟨⟨(⟨p.k,p.x,p.n,false,(o:Int)⟩:Tk),?_,J,J,J,J⟩,h1⟩,t,?_,h3⟩
   ·rw [List.getElem?_append_right (bU _),Nat.sub_self];rfl
   ·rw [show A.length+(cS r+1)=A.length+ [(⟨p.k,p.x,p.n,false,(o:Int)⟩:Tk)].length+cS r by show _=A.length+1+cS r;omega];exact h2
def Nop(ts:List Tk)(n k:Nat):Prop:=∃t,ts[n]?=some t∧dh t mh=false∧∀j,k≤j→j<8→oB t j=false
theorem Nop.up{ts:List Tk}{n k k2:Nat}(h:Nop ts n k)(hk:k≤k2):Nop ts n k2:=by
 obtain⟨t,h1,h2,h3⟩:=h;exact⟨t,h1,h2,fun j hj hj8=>h3 j (by omega) hj8⟩
theorem ek{ts:List Tk}{i:Nat}{x:Ba}(h:iH ts i (dP x)):∃t,ts[i]?=some t∧dh t x=true∧t.k=3∧t.s=x∧t.bad=false:=by
 obtain⟨t,h1,h2,h3,h4,h5⟩:=h;refine⟨t,h1,?_,h2,h3,h5⟩;unfold dh;rw [eT,Bool.and_eq_true,decide_eq_true_eq,decide_eq_true_eq];exact⟨h2,h3⟩
theorem i6{t:Tk}{x y:Ba}(h:t.s=x)(hn:x≠y):dh t y=false:=by
 unfold dh;rw [eT,Bool.and_eq_false_iff,decide_eq_false_iff_not,decide_eq_false_iff_not,h];exact .inr hn
theorem s6{t:Tk}{y:Ba}(h:t.k≠3):dh t y=false:=by
 unfold dh;rw [Bool.and_eq_false_iff,decide_eq_false_iff_not];exact .inl h
theorem jJ{ts:List Tk}{i:Nat}{x:Ba}(h:iH ts i (dP x)):ol ts i x=true:=by
 obtain⟨t,h1,h2,-⟩:=ek h;unfold ol;rw [h1];exact h2
theorem l_{ts:List Tk}{i k:Nat}{x:Ba}(h:iH ts i (dP x))(hx:(!decide (x=mh)&&(List.range 8).all (fun j=> !cx x (lvT.getD j [])))=true):Nop ts i k:=by
 obtain⟨t,h1,h2,h3,h4,-⟩:=ek h;rw [Bool.and_eq_true,List.all_eq_true,Bool.not_eq_true',decide_eq_false_iff_not]at hx;refine⟨t,h1,i6 h4 hx.1,fun j _ hj=> ?_⟩;have:=hx.2 j (List.mem_range.2 hj);rw [Bool.not_eq_true']at this;unfold oB;rw [h4,this,Bool.and_false]
theorem MK:∀x∈F9,(decide (0≤lO x)&&decide (lO x<8)&& !decide (x=mh)&&(List.range 8).all (fun j=>decide (cx x (lvT.getD j [])=decide ((j:Int)=lO x))))=true:=by decide+kernel
theorem K5{x:Ba}(h:gJ x=true):∃r:Nat,lO x=(r:Int)∧r<8∧x≠mh∧∀j,j<8→cx x (lvT.getD j [])=decide (j=r):=by
 have:=MK x (sN h);rw [Bool.and_eq_true,Bool.and_eq_true,Bool.and_eq_true,List.all_eq_true,Bool.not_eq_true',decide_eq_false_iff_not,decide_eq_true_eq,decide_eq_true_eq]at this;obtain⟨⟨⟨h1,h2⟩,h3⟩,h4⟩:=this;refine⟨(lO x).toNat,by omega,by omega,h3,fun j hj=> ?_⟩;have:=h4 j (List.mem_range.2 hj);rw [decide_eq_true_eq]at this;rw [this];by_cases e:(j:Int)=lO x
 ·rw [decide_eq_true e,decide_eq_true (show j=(lO x).toNat by omega)]
 ·rw [decide_eq_false e,decide_eq_false (show ¬j=(lO x).toNat by omega)]
theorem Nh{ts:List Tk}{i r:Nat}{x:Ba}(h:iH ts i (dP x))(hl:x≠mh)(hr:∀j,j<8→cx x (lvT.getD j [])=decide (j=r)):∃t,ts[i]?=some t∧t.s=x∧dh t mh=false∧∀j,j<8→oB t j=decide (j=r):=by
 obtain⟨t,h1,h2,h3,h4,-⟩:=ek h;refine⟨t,h1,h4,i6 h4 hl,fun j hj=> ?_⟩;unfold oB;rw [h4,hr j hj,decide_eq_true h3,Bool.true_and]
theorem Cd{ts:List Tk}{g k i:Nat}(hk:k≠8){p:Px}{j:Nat}(h:pL ts g (k+1) i=some (p,j)):pL ts (g+1) k i=pO ts g k p j:=by
 rw [pL,ac hk,h]
theorem F5{ts:List Tk}{g k n:Nat}{p:Px}(hk:k<8)(hg:1≤g)(h:Nop ts n k):pO ts g k p n=some (p,n):=by
 obtain⟨g,rfl⟩:∃q,g=q+1:=⟨g-1,by omega⟩
 obtain⟨t,h1,h2,h3⟩:=h;rw [pO,h1];show(if oB t k=true then _ else some (p,n))=_;rw [ac (by rw [h3 k (bU _) hk];decide)]
theorem wP{ts:List Tk}{i n:Nat}{p:Px}{G:Nat}(hG:1≤G):∀(d k:Nat),k+d≤8→(∀g,G≤g→pL ts g (k+d) i=some (p,n))→Nop ts n k→∀g,G+d≤g→pL ts g k i=some (p,n)
 | 0,k,_,h,_,g,hg=>h g hg
 | d+1,k,hk,h,hn,g,hg=>by
  obtain⟨g,rfl⟩:∃q,g=q+1:=⟨g-1,by omega⟩
  rw [Cd (by omega) (wP hG d (k+1) (by omega) (fun g hg=>by rw [show k+1+d=k+(d+1) by omega];exact h g hg) (hn.up (by omega)) g (by omega))];exact F5 (by omega) (by omega) hn
theorem S_{ts:List Tk}{g i:Nat}:pL ts (g+1) 8 i=pU ts g i:=by rw [pL,aj rfl]
def sq(t:Tx):Nat:=60*dX t+nX t
def R5(t:Tx):Prop:=∀(ts:List Tk)(i k:Nat),k≤8→gG ts i (cu (k:Int) (bR t))→Nop ts (i+cS (cu (k:Int) (bR t))) k→∀g,sq t≤g→pL ts g k i=some (iD t,i+cS (cu (k:Int) (bR t)))
def R4(t:Tx):Prop:=∀(ts:List Tk)(i:Nat),gG ts i (cu 8 (bR t))→Nop ts (i+cS (cu 8 (bR t))) 8→∀g,sq t≤g+15→pU ts g i=some (iD t,i+cS (cu 8 (bR t)))
def Vy(t:Tx):Prop:=∀(ts:List Tk)(i r:Nat),r<8→gG ts i (cu (r:Int) (bR t))→Nop ts (i+cS (cu (r:Int) (bR t))) (r+1)→∀g,sq t+1≤g→∃g',g≤g'+2*dX t+2∧pL ts g r i=pO ts g' r (iD t) (i+cS (cu (r:Int) (bR t)))
def OH(u:Tk):Prop:=u.k=1∨u.k=2∨(u.k=3∧(u.s=mh∨u.s=ka∨u.s=E0∨u.s=dU∨u.s=rQ∨u.s=tt))
theorem zU{m:Int}{q:Qx}(h:¬(q.k=7∧lO q.nm<m)):cu m q=q.l:=ac h
theorem BK{m:Int}{q:Qx}(h:q.k=7∧lO q.nm<m):cu m q=dP mh::(q.l++ [dP gS]):=aj h
theorem eZ(x:Ba)(r:List Pe):cS (dP x::r)=cS r+1:=rfl
theorem ko(x:Ba)(r:List Pe):cS (uz x::r)=cS r+1:=rfl
theorem iP(r:List Pe):cS (sp::r)=cS r:=rfl
theorem lu:cS []=0:=rfl
theorem E4{t:Tk}(h:t.k≠3):uB t=false:=by
 unfold uB;rw [Bool.and_eq_false_iff,decide_eq_false_iff_not];exact .inl h
theorem Mp{t:Tk}(h:¬(t.s=dU∨t.s=rQ∨t.s=tt)):uB t=false:=by
 simp only [not_or]at h;unfold uB;rw [eT,eT,eT,decide_eq_false h.1,decide_eq_false h.2.1,decide_eq_false h.2.2,Bool.or_false,Bool.or_false,Bool.and_false]
theorem Sx{t:Tk}(h3:t.k=3)(h:t.s=dU∨t.s=rQ∨t.s=tt):uB t=true:=by
 unfold uB;rw [eT,eT,eT,Bool.and_eq_true,Bool.or_eq_true,Bool.or_eq_true,decide_eq_true_eq,decide_eq_true_eq,decide_eq_true_eq,decide_eq_true_eq];exact⟨h3,or_assoc.2 h⟩
theorem D7{ts:List Tk}{g i:Nat}{t:Tk}(h:ts[i]?=some t)(hu:uB t=false):pU ts (g+1) i=pR ts g i:=by
 rw [pU,h];show(if uB t=true then _ else pR ts g i)=_;rw [ac (by rw [hu];decide)]
theorem yR{t:Tk}(h:t.k≠1):¬nB t=true:=by
 unfold nB;rw [decide_eq_false h,Bool.false_and];decide
theorem Nq(u:Tx):1≤nX u:=by
 cases u;show 1≤dD _+1;omega
theorem M1{ts:List Tk}{g i j:Nat}{p:Px}(h1:iH ts i (dP mh))(h2:pL ts g 0 (i+1)=some (p,j))(h3:iH ts j (dP gS)):pU ts (g+2) i=some (p,j+1):=by
 obtain⟨t,a1,a2,a3,a4,a5⟩:=ek h1;rw [D7 a1 (Mp (by rw [a4];decide)),pR,a1];show(if nB t=true then _ else if t.k=2 then _ else if dh t ka=true then _ else if dh t E0=true then _ else if dh t mh=true then _ else none)=_;rw [ac (yR (by omega)),ac (by omega),ac (by rw [i6 a4 (by decide)];decide),ac (by rw [i6 a4 (by decide)];decide),aj a2,h2];show(if ol ts j gS=true then _ else _)=_;rw [aj (jJ h3)]
def OF(u:Tx):Prop:=R5 u∧R4 u∧Vy u∧∀(ts:List Tk)(i:Nat)(m:Int),gG ts i (cu m (bR u))→∃x,ts[i]?=some x∧OH x
theorem Kg{x:Tk}(h:OH x):dh x gS=false:=by
 rcases h with h|h|⟨-,h⟩
 ·exact s6 (by omega)
 ·exact s6 (by omega)
 ·rcases h with h|h|h|h|h|h<;>exact i6 h (by decide)
theorem Lg{ts:List Tk}:∀(l:List Tx)(acc:List Px)(i g:Nat),l≠ []→(∀u∈l,OF u)→gG ts i (kD (l.map bR))→iH ts (i+cS (kD (l.map bR))) (dP gS)→(60*f_ l+dD l)+1≤g→pE ts g acc i=some (acc++gE l,i+cS (kD (l.map bR))+1)
 | [],_,_,_,h,_,_,_,_=>absurd rfl h
 | u::r,acc,i,g,_,hu,hm,he,hg=>by
  obtain⟨g,rfl⟩:∃q,g=q+1:=⟨g-1,by omega⟩
  have hd:f_ (u::r)=max (dX u) (f_ r):=J;have hn:dD (u::r)=nX u+dD r:=J;obtain⟨hP,-,-,-⟩:=hu u (List.mem_cons_self ..);have hgu:sq u≤g:=by unfold sq;omega
  rw [show(u::r).map bR=bR u::r.map bR from J]at hm he ⊢;by_cases hr:r= []
  ·subst hr;rw [show kD (bR u:: [].map bR)=cu 0 (bR u)from List.append_nil _]at hm he ⊢;rw [pE,hP ts i 0 (by omega) hm (l_ he (by decide+kernel)) g hgu];obtain⟨t,a1,a2,-⟩:=ek he;show(match ts[i+cS (cu 0 (bR u))]? with|none=>_|some t=>if dh t gS=true then some (acc++ [iD u],i+cS (cu 0 (bR u))+1)else _)=_;rw [a1];show(if dh t gS=true then _ else _)=_;rw [aj a2];rfl
  ·have hl:(r.map bR).length≠0:=by rw [List.length_map];exact fun h=>hr (List.length_eq_zero_iff.1 h)
   have ec:kD (bR u::r.map bR)=cu 0 (bR u)++(dP rq::sp::kD (r.map bR)):=by
    show cu 0 (bR u)++(if _ then _ else _)=_;rw [ac hl]
   rw [ec]at hm he ⊢;obtain⟨m1,m2⟩:=dg.1 hm;obtain⟨m3,m4⟩:=(show iH ts _ (dP rq)∧gG ts _ (kD (r.map bR))from m2)
   rw [ey,eZ,iP]at he ⊢;rw [pE,hP ts i 0 (by omega) m1 (l_ m3 (by decide+kernel)) g hgu];obtain⟨t,a1,a2,a3,a4,a5⟩:=ek m3;show(match ts[i+cS (cu 0 (bR u))]? with|none=>_|some t=>if dh t gS=true then _ else if dh t rq=true then pE ts g (acc++ [iD u]) (i+cS (cu 0 (bR u))+1)else _)=_;rw [a1];show(if dh t gS=true then _ else if dh t rq=true then _ else _)=_;rw [ac (by rw [i6 a4 (by decide)];decide),aj a2,Lg r (acc++ [iD u]) _ g hr (fun x hx=>hu x (List.mem_cons_of_mem _ hx)) m4 (by rw [show i+cS (cu 0 (bR u))+1+cS (kD (r.map bR))=i+(cS (cu 0 (bR u))+(cS (kD (r.map bR))+1)) by omega];exact he) (by have:=Nq u;omega),List.append_assoc,show i+cS (cu 0 (bR u))+1+cS (kD (r.map bR))+1=i+(cS (cu 0 (bR u))+(cS (kD (r.map bR))+1))+1 by omega];rfl
theorem AP{α:Type}{l:List α}(h:l.length=0):l= []:=List.length_eq_zero_iff.1 h
theorem w6{α:Type}{l:List α}(h:l.length=1):∃a,l= [a]:=List.length_eq_one_iff.1 h
theorem Eh{α:Type}:∀{l:List α},l.length=2→∃a b,l= [a,b]
 | [a,b],_=>⟨a,b,rfl⟩
theorem FQ{t:Tx}{m:Int}(h:t.kind≠7):cu m (bR t)=jB t:=zU fun q=>h q.1
theorem SZ{k n:Int}{nm:Ba}{v:SV}{kids:List Tx}(hk:k≠7)(ho:jC k nm kids.length=true)(hn:k=1∨n=0)(hu:∀u∈kids,OF u):R4 (.mk k n nm v kids):=by
 intro ts i hm hp g hg;have hdx:dX (.mk k n nm v kids)=f_ kids+1:=J;have hnx:nX (.mk k n nm v kids)=dD kids+1:=J;have hgs:60*(f_ kids+1)+(dD kids+1)≤g+15:=hg;obtain⟨g,rfl⟩:∃q,g=q+5:=⟨g-5,by omega⟩
 rw [FQ (show(Tx.mk k n nm v kids).kind≠7 from hk),mg]at hm hp ⊢;replace hm:gG ts i (vA k n nm (kids.map bR)):=hm;replace hp:Nop ts (i+cS (vA k n nm (kids.map bR))) 8:=hp;show pU ts (g+5) i=some (.mk k n nm (gE kids),i+cS (vA k n nm (kids.map bR)));unfold jC at ho;unfold vA at hm hp ⊢;by_cases h1:k=1
 ·rw [aj h1]at hm hp ⊢;rw [aj (.inl h1),Bool.and_eq_true,decide_eq_true_eq,decide_eq_true_eq]at ho;obtain⟨⟨t,a1,a2,a3,a4,a5⟩,-⟩:=(show iH ts i ⟨mz n.toNat,1,n⟩∧True from hm)
  replace a2:t.k=1:=a2;replace a4:t.n=n:=a4;rw [D7 a1 (E4 (by omega)),pR,a1];show(if nB t=true then _ else _)=_;rw [aj (by unfold nB;rw [decide_eq_true a2,a5];rfl),a4,ho.1,AP ho.2,h1];rfl
 ·rw [ac h1]at hm hp ⊢;have hn0:n=0:=hn.resolve_left h1;subst hn0;by_cases h2:k=2
  ·rw [aj h2]at hm hp ⊢;rw [ac (by omega),aj h2,Bool.and_eq_true,decide_eq_true_eq]at ho;obtain⟨⟨t,a1,a2,a3,a4,a5⟩,-⟩:=(show iH ts i (uz nm)∧True from hm)
   replace a2:t.k=2:=a2;replace a3:t.s=nm:=a3;obtain⟨u,b1,b2,-⟩:=(show Nop ts (i+1) 8 from hp)
   rw [D7 a1 (E4 (by omega)),pR,a1];show(if nB t=true then _ else if t.k=2 then _ else _)=_;rw [ac (yR (by omega)),aj a2,b1];show(if dh u mh=true then _ else _)=_;rw [ac (by rw [b2];decide),a3,AP ho.2,h2];rfl
  ·rw [ac h2]at hm hp ⊢;by_cases h3:k=3
   ·rw [aj h3]at hm hp ⊢;obtain⟨⟨t,a1,a2,a3,a4,a5⟩,m1,m2⟩:=(show iH ts i (uz nm)∧iH ts (i+1) (dP mh)∧gG ts (i+1+1) (kD (kids.map bR)++ [dP gS])from hm)
    replace a2:t.k=2:=a2;replace a3:t.s=nm:=a3;obtain⟨m3,m4,-⟩:=(show gG ts (i+1+1) (kD (kids.map bR))∧iH ts (i+1+1+cS (kD (kids.map bR))) (dP gS)∧True from dg.1 m2)
    obtain⟨u,b1,b2,-⟩:=ek m1;rw [ko,eZ,ey];rw [D7 a1 (E4 (by omega)),pR,a1];show(if nB t=true then _ else if t.k=2 then _ else _)=_;rw [ac (yR (by omega)),aj a2,b1];show(if dh u mh=true then(match pA ts (g+3) (i+2)with|none=>none|some (ps,j)=>some (Px.mk 3 0 t.s ps,j))else _)=_;rw [aj b2,a3];have key:pA ts (g+3) (i+2)=some (gE kids,i+2+cS (kD (kids.map bR))+1):=by
     by_cases hk0:kids= []
     ·subst hk0;obtain⟨w,c1,c2,-⟩:=ek (show iH ts (i+2) (dP gS)from m4);rw [pA,c1];show(if dh w gS=true then _ else _)=_;rw [aj c2];rfl
     ·obtain⟨a,r,rfl⟩:=List.exists_cons_of_ne_nil hk0;have hq:∃w,ts[i+2]?=some w∧OH w:=by
       refine(hu a (List.mem_cons_self ..)).2.2.2 ts (i+2) 0 ?_;have:gG ts (i+2) (cu 0 (bR a)++(if(r.map bR).length=0 then []else dP rq::sp::kD (r.map bR))):=m3;exact(dg.1 this).1
      obtain⟨w,c1,c2⟩:=hq;rw [pA,c1];show(if dh w gS=true then _ else pE ts (g+2) [] (i+2))=_;rw [ac (by rw [Kg c2];decide),Lg (a::r) [] (i+2) (g+2) hk0 hu m3 m4 (by omega),List.nil_append]
    rw [key,h3,eZ,lu,show i+(cS (kD (kids.map bR))+(0+1)+1+1)=i+2+cS (kD (kids.map bR))+1 by omega]
   ·rw [ac h3]at hm hp ⊢;by_cases h4:k=4
    ·rw [aj h4]at hm hp ⊢;rw [ac (by omega),ac h2,ac h3,aj h4,Bool.and_eq_true,decide_eq_true_eq,decide_eq_true_eq]at ho;obtain⟨a,rfl⟩:=w6 ho.2;rw [show([a].map bR).getD 0 pD=bR a from J]at hm hp ⊢;obtain⟨m0,m1,m2⟩:=(show iH ts i (dP ka)∧iH ts (i+1) (dP Iy)∧gG ts (i+1+1) (cu 0 (bR a)++ [dP EL])from hm)
     obtain⟨m3,m4,-⟩:=(show gG ts (i+1+1) (cu 0 (bR a))∧iH ts (i+1+1+cS (cu 0 (bR a))) (dP EL)∧True from dg.1 m2)
     obtain⟨t,a1,a2,a3,a4,a5⟩:=ek m0;rw [eZ,eZ,ey];have hda:f_ [a]=max (dX a) 0:=J;have hna:dD [a]=nX a+0:=J;have key:=(hu a (List.mem_singleton.2 J)).1 ts (i+2) 0 (by omega) m3 (l_ m4 (by decide+kernel)) (g+3) (by unfold sq;omega);rw [D7 a1 (Mp (by rw [a4];decide)),pR,a1];show(if nB t=true then _ else if t.k=2 then _ else if dh t ka=true then(if ol ts (i+1) Iy=true then(match pL ts (g+3) 0 (i+2)with|none=>none|some (p,j)=>if ol ts j EL=true then some (Px.mk 4 0 oNil [p],j+1)else none)else none)else _)=_;rw [ac (yR (by omega)),ac (by omega),aj a2,aj (jJ m1),key];show(if ol ts (i+2+cS (cu 0 (bR a))) EL=true then _ else _)=_;rw [aj (jJ m4),ho.1,h4];show some (_,i+2+cS (cu 0 (bR a))+1)=some (_,i+(cS (cu 0 (bR a))+(0+1)+1+1));rw [show i+2+cS (cu 0 (bR a))+1=i+(cS (cu 0 (bR a))+(0+1)+1+1) by omega];rfl
    ·rw [ac h4]at hm hp ⊢;by_cases h5:k=5
     ·rw [aj h5]at hm hp ⊢;rw [aj (.inr h5),Bool.and_eq_true,decide_eq_true_eq,decide_eq_true_eq]at ho;obtain⟨m0,-⟩:=(show iH ts i (dP E0)∧True from hm)
      obtain⟨t,a1,a2,a3,a4,a5⟩:=ek m0;rw [D7 a1 (Mp (by rw [a4];decide)),pR,a1];show(if nB t=true then _ else if t.k=2 then _ else if dh t ka=true then _ else if dh t E0=true then _ else _)=_;rw [ac (yR (by omega)),ac (by omega),ac (by rw [i6 a4 (by decide)];decide),aj a2,ho.1,AP ho.2,h5];rfl
     ·rw [ac h5]at hm hp ⊢;by_cases h6:k=6
      ·rw [aj h6]at hm hp ⊢;rw [ac (by omega),ac h2,ac h3,ac h4,aj h6,Bool.and_eq_true,decide_eq_true_eq]at ho;obtain⟨a,rfl⟩:=w6 ho.2;rw [show([a].map bR).getD 0 pD=bR a from J]at hm hp ⊢;obtain⟨m0,m1⟩:=(show iH ts i (dP nm)∧gG ts (i+1) (cu 8 (bR a))from hm)
       obtain⟨t,a1,a2,a3,a4,a5⟩:=ek m0;rw [eZ]at hp ⊢;have hda:f_ [a]=max (dX a) 0:=J;have hna:dD [a]=nX a+0:=J;have hun:=np ho.1;simp only [rf,List.mem_cons,List.not_mem_nil,or_false]at hun;have key:=(hu a (List.mem_singleton.2 J)).2.1 ts (i+1) m1 (by rw [show i+1+cS (cu 8 (bR a))=i+(cS (cu 8 (bR a))+1) by omega];exact hp) (g+4) (by unfold sq;omega);rw [pU,a1];show(if uB t=true then(match pU ts (g+4) (i+1)with|none=>none|some (p,j)=>some (Px.mk 6 0 t.s [p],j))else _)=_;rw [aj (Sx a3 (by rw [a4];exact hun)),key,a4,h6,show i+1+cS (cu 8 (bR a))=i+(cS (cu 8 (bR a))+1) by omega];rfl
      ·rw [ac (by omega),ac h2,ac h3,ac h4,ac h6,ac hk]at ho;cases ho
theorem QB{k n:Int}{nm:Ba}{v:SV}{kids:List Tx}(ho:jC k nm kids.length=true)(hu:∀u∈kids,OF u)(ts:List Tk)(i:Nat)(m:Int)(hm:gG ts i (cu m (bR (.mk k n nm v kids)))):∃x,ts[i]?=some x∧OH x:=by
 unfold cu at hm;split at hm
 ·obtain⟨t,a1,a2,a3,a4,-⟩:=ek (show iH ts i (dP mh)∧gG ts (i+1) _ from hm).1;exact⟨t,a1,.inr (.inr ⟨a3,.inl a4⟩)⟩
 ·have hm:gG ts i (jB (.mk k n nm v kids)):=hm;rw [mg]at hm;replace hm:gG ts i (vA k n nm (kids.map bR)):=hm;unfold jC at ho;unfold vA at hm;by_cases h1:k=1
  ·rw [aj h1]at hm;obtain⟨⟨t,a1,a2,-⟩,-⟩:=(show iH ts i ⟨mz n.toNat,1,n⟩∧True from hm)
   exact⟨t,a1,.inl a2⟩
  ·rw [ac h1]at hm;by_cases h2:k=2
   ·rw [aj h2]at hm;obtain⟨⟨t,a1,a2,-⟩,-⟩:=(show iH ts i (uz nm)∧True from hm)
    exact⟨t,a1,.inr (.inl a2)⟩
   ·rw [ac h2]at hm;by_cases h3:k=3
    ·rw [aj h3]at hm;obtain⟨⟨t,a1,a2,-⟩,-⟩:=(show iH ts i (uz nm)∧gG ts (i+1) (dP mh::(kD (kids.map bR)++ [dP gS]))from hm)
     exact⟨t,a1,.inr (.inl a2)⟩
    ·rw [ac h3]at hm;by_cases h4:k=4
     ·rw [aj h4]at hm;obtain⟨t,a1,a2,a3,a4,-⟩:=ek (show iH ts i (dP ka)∧gG ts (i+1) _ from hm).1;exact⟨t,a1,.inr (.inr ⟨a3,.inr (.inl a4)⟩)⟩
     ·rw [ac h4]at hm;by_cases h5:k=5
      ·rw [aj h5]at hm;obtain⟨t,a1,a2,a3,a4,-⟩:=ek (show iH ts i (dP E0)∧True from hm).1;exact⟨t,a1,.inr (.inr ⟨a3,.inr (.inr (.inl a4))⟩)⟩
      ·rw [ac h5]at hm;by_cases h6:k=6
       ·rw [aj h6]at hm;rw [ac (by omega),ac h2,ac h3,ac h4,aj h6,Bool.and_eq_true]at ho;have hun:=np ho.1;simp only [rf,List.mem_cons,List.not_mem_nil,or_false]at hun;obtain⟨t,a1,a2,a3,a4,-⟩:=ek (show iH ts i (dP nm)∧gG ts (i+1) _ from hm).1;rw [←a4]at hun;exact⟨t,a1,.inr (.inr ⟨a3,.inr (.inr (.inr hun))⟩)⟩
       ·rw [ac h6]at hm;by_cases h7:k=7
        ·rw [ac (by omega),ac h2,ac h3,ac h4,ac h6,aj h7,Bool.and_eq_true,decide_eq_true_eq]at ho;obtain⟨a,b,rfl⟩:=Eh ho.2;exact(hu a (List.mem_cons_self ..)).2.2.2 ts i _ (dg.1 hm).1
        ·rw [ac (by omega),ac h2,ac h3,ac h4,ac h6,ac h7]at ho;cases ho
theorem T5(a b:Tx)(k n:Int)(nm:Ba)(v:SV):dX (.mk k n nm v [a,b])=max (dX a) (max (dX b) 0)+1:=rfl
theorem Vp(a b:Tx)(k n:Int)(nm:Ba)(v:SV):nX (.mk k n nm v [a,b])=nX a+(nX b+0)+1:=rfl
theorem L9{nm:Ba}{v:SV}{a b:Tx}{r:Nat}(hk:lO nm=(r:Int))(hr:r<8)(hl:nm≠mh)(hj:∀j,j<8→cx nm (lvT.getD j [])=decide (j=r))(ha:OF a)(hb:OF b)(hd:dX (.mk 7 0 nm v [a,b])≤9){ts:List Tk}{i:Nat}(hm:gG ts i (jB (.mk 7 0 nm v [a,b])))(hn:Nop ts (i+cS (jB (.mk 7 0 nm v [a,b]))) (r+1)){g:Nat}(hg:sq (.mk 7 0 nm v [a,b])≤g+30):∃g',g≤g'+2*dX (.mk 7 0 nm v [a,b])+1∧pL ts g r i=pO ts g' r (iD (.mk 7 0 nm v [a,b])) (i+cS (jB (.mk 7 0 nm v [a,b]))):=by
 have hp:jB (.mk 7 0 nm v [a,b])=cu ((r:Nat):Int) (bR a)++(sp::dP nm::sp::cu ((r+1:Nat):Int) (bR b)):=by
  rw [mg];show cu (lO nm) (bR a)++(sp::dP nm::sp::cu (lO nm+1) (bR b))=_;rw [hk,show(r:Int)+1=((r+1:Nat):Int) by omega]
 rw [hp]at hm hn ⊢;obtain⟨m1,m2⟩:=dg.1 hm;obtain⟨m3,m4⟩:=(show iH ts (i+cS (cu ((r:Nat):Int) (bR a))) (dP nm)∧gG ts (i+cS (cu ((r:Nat):Int) (bR a))+1) (cu ((r+1:Nat):Int) (bR b))from m2)
 rw [ey,iP,eZ,iP]at hn ⊢;obtain⟨t,c1,c2,c3,c4⟩:=Nh m3 hl hj;unfold sq at hg;rw [T5]at hg hd ⊢;rw [Vp]at hg;obtain⟨g1,e1,e2⟩:=ha.2.2.1 ts i r hr m1 ⟨t,c1,c3,fun j h1 h2=>by rw [c4 j h2];exact decide_eq_false (by omega)⟩ g (by unfold sq;omega);obtain⟨g2,rfl⟩:∃q,g1=q+1:=⟨g1-1,by omega⟩
 refine⟨g2,by omega,?_⟩;have e3:=hb.1 ts (i+cS (cu ((r:Nat):Int) (bR a))+1) (r+1) (by omega) m4 (by rw [show i+cS (cu ((r:Nat):Int) (bR a))+1+cS (cu ((r+1:Nat):Int) (bR b))=i+(cS (cu ((r:Nat):Int) (bR a))+(cS (cu ((r+1:Nat):Int) (bR b))+1)) by omega];exact hn) g2 (by unfold sq;omega);rw [e2,pO,c1];show(if oB t r=true then(match pL ts g2 (r+1) (i+cS (cu ((r:Nat):Int) (bR a))+1)with|none=>none|some (q,j)=>pO ts g2 r (Px.mk 7 0 t.s [iD a,q]) j)else _)=_;rw [aj (by rw [c4 r hr];exact decide_eq_true J),e3,c2,show i+cS (cu ((r:Nat):Int) (bR a))+1+cS (cu ((r+1:Nat):Int) (bR b))=i+(cS (cu ((r:Nat):Int) (bR a))+(cS (cu ((r+1:Nat):Int) (bR b))+1)) by omega];rfl
theorem S1{t:Tx}(hu:R4 t){k:Nat}(hk:k≤8)(he:cu ((k:Nat):Int) (bR t)=cu 8 (bR t)):∀(ts:List Tk)(i:Nat),gG ts i (cu (k:Int) (bR t))→Nop ts (i+cS (cu (k:Int) (bR t))) k→∀g,sq t≤g+5→pL ts g k i=some (iD t,i+cS (cu (k:Int) (bR t))):=by
 intro ts i hm hn g hg;rw [he]at hm hn ⊢;have hpos:60≤sq t:=by
  have:1≤dX t:=by cases t;show 1≤f_ _+1;omega
  unfold sq;omega
 refine wP (G:=sq t-14) (by omega) (8-k) k (by omega) (fun g hg=> ?_) hn g (by omega);rw [show k+(8-k)=8 by omega];obtain⟨g,rfl⟩:∃q,g=q+1:=⟨g-1,by omega⟩
 rw [S_];exact hu ts i hm (hn.up hk) g (by omega)
theorem wS:∀(n:Nat)(t:Tx),nX t<n→rX t=true→dX t≤9→OF t
 | n+1,.mk k z nm v kids,hn,hr,hd=>by
  have hr0:(jC k nm kids.length&&(decide (k=1) || decide (z=0))&&ji kids)=true:=hr;rw [Bool.and_eq_true,Bool.and_eq_true,Bool.or_eq_true,decide_eq_true_eq,decide_eq_true_eq]at hr0;obtain⟨⟨ho,hz⟩,hrs⟩:=hr0;have hdd:dX (.mk k z nm v kids)=f_ kids+1:=J;have hnn:nX (.mk k z nm v kids)=dD kids+1:=J;have hu:∀u∈kids,OF u:=fun u hm=>by
   have h3:∀l:List Tx,u∈l→ji l=true→nX u≤dD l∧dX u≤f_ l∧rX u=true:=by
    intro l
    induction l with
    | nil=>intro h;cases h
    | cons x r ih=>
     intro h hr;have hr:(rX x&&ji r)=true:=hr;rw [Bool.and_eq_true]at hr;have e1:dD (x::r)=nX x+dD r:=J;have e2:f_ (x::r)=max (dX x) (f_ r):=J;rcases List.mem_cons.1 h with rfl|h
     ·exact⟨by omega,by omega,hr.1⟩
     ·obtain⟨a1,a2,a3⟩:=ih h hr.2;exact⟨by omega,by omega,a3⟩
   obtain⟨a1,a2,a3⟩:=h3 kids hm hrs;exact wS n u (by omega) a3 (by omega)
  have hF:∀(ts:List Tk)(i:Nat)(m:Int),gG ts i (cu m (bR (.mk k z nm v kids)))→∃x,ts[i]?=some x∧OH x:=QB ho hu;have fin:R4 (.mk k z nm v kids)→(∀r:Nat,r<8→cu (r:Int) (bR (.mk k z nm v kids))≠cu 8 (bR (.mk k z nm v kids))→∀(ts:List Tk)(i:Nat),gG ts i (cu (r:Int) (bR (.mk k z nm v kids)))→Nop ts (i+cS (cu (r:Int) (bR (.mk k z nm v kids)))) r→∀g,sq (.mk k z nm v kids)≤g+22→pL ts g r i=some (iD (.mk k z nm v kids),i+cS (cu (r:Int) (bR (.mk k z nm v kids)))))→R5 (.mk k z nm v kids):=by
   intro h8 hlow ts i j hj hm hn g hg;by_cases e:cu (j:Int) (bR (.mk k z nm v kids))=cu 8 (bR (.mk k z nm v kids))
   ·exact S1 h8 hj e ts i hm hn g (by omega)
   ·refine hlow j ?_ e ts i hm hn g (by omega);rcases Nat.lt_or_ge j 8 with h|h
    ·exact h
    ·obtain rfl:j=8:=by omega
     exact absurd J e
  have fin2:R5 (.mk k z nm v kids)→∀(ts:List Tk)(i r:Nat),r<8→cu (r:Int) (bR (.mk k z nm v kids))=cu ((r+1:Nat):Int) (bR (.mk k z nm v kids))→gG ts i (cu (r:Int) (bR (.mk k z nm v kids)))→Nop ts (i+cS (cu (r:Int) (bR (.mk k z nm v kids)))) (r+1)→∀g,sq (.mk k z nm v kids)+1≤g→∃g',g≤g'+2*dX (.mk k z nm v kids)+2∧pL ts g r i=pO ts g' r (iD (.mk k z nm v kids)) (i+cS (cu (r:Int) (bR (.mk k z nm v kids)))):=by
   intro hP ts i r hr8 e hm hn g hg;obtain⟨g,rfl⟩:∃q,g=q+1:=⟨g-1,by omega⟩
   rw [e]at hm hn ⊢;exact⟨g,by omega,Cd (by omega) (hP ts i (r+1) (by omega) hm hn g (by omega))⟩
  by_cases h7:k=7
  ·subst h7;obtain rfl:z=0:=hz.resolve_left (by decide);have ho7:=ho;unfold jC at ho7;rw [ac (by decide),ac (by decide),ac (by decide),ac (by decide),ac (by decide),aj J,Bool.and_eq_true,decide_eq_true_eq]at ho7;obtain⟨a,b,rfl⟩:=Eh ho7.2;obtain⟨r,k1,k2,k3,k4⟩:=K5 ho7.1;have ha:=hu a (List.mem_cons_self ..);have hb:=hu b (List.mem_cons_of_mem _ (List.mem_cons_self ..));have elo:∀j:Nat,j≤r→cu (j:Int) (bR (.mk 7 0 nm v [a,b]))=jB (.mk 7 0 nm v [a,b]):=fun j hj=>zU fun q=>by
    have:lO nm<(j:Int):=q.2;omega
   have ehi:∀j:Nat,r<j→cu (j:Int) (bR (.mk 7 0 nm v [a,b]))=dP mh::(jB (.mk 7 0 nm v [a,b])++ [dP gS]):=fun j hj=>BK ⟨J,by show lO nm<(j:Int);omega⟩
   have hlow:∀j:Nat,j≤r→∀(ts:List Tk)(i:Nat),gG ts i (jB (.mk 7 0 nm v [a,b]))→Nop ts (i+cS (jB (.mk 7 0 nm v [a,b]))) j→∀g,sq (.mk 7 0 nm v [a,b])≤g+22→pL ts g j i=some (iD (.mk 7 0 nm v [a,b]),i+cS (jB (.mk 7 0 nm v [a,b]))):=by
    intro j hj ts i hm hn g hg;have hpos:60≤sq (.mk 7 0 nm v [a,b]):=by unfold sq;rw [T5];omega
    refine wP (G:=sq (.mk 7 0 nm v [a,b])-30) (by omega) (r-j) j (by omega) (fun g hg=> ?_) hn g (by omega);rw [show j+(r-j)=r by omega];obtain⟨g',e1,e2⟩:=L9 k1 k2 k3 k4 ha hb hd hm (hn.up (by omega)) (g:=g) (by omega);rw [e2];exact F5 k2 (by omega) (hn.up hj)
   have hU:R4 (.mk 7 0 nm v [a,b]):=by
    intro ts i hm hn g hg;have e8:cu 8 (bR (.mk 7 0 nm v [a,b]))=_:=ehi 8 k2;rw [e8]at hm hn ⊢;obtain⟨m1,m2⟩:=(show iH ts i (dP mh)∧gG ts (i+1) (jB (.mk 7 0 nm v [a,b])++ [dP gS])from hm)
    obtain⟨m3,m4,-⟩:=(show gG ts (i+1) (jB (.mk 7 0 nm v [a,b]))∧iH ts (i+1+cS (jB (.mk 7 0 nm v [a,b]))) (dP gS)∧True from dg.1 m2)
    have hpos:60≤sq (.mk 7 0 nm v [a,b]):=by unfold sq;rw [T5];omega
    obtain⟨g,rfl⟩:∃q,g=q+2:=⟨g-2,by omega⟩
    rw [M1 m1 (hlow 0 (by omega) ts (i+1) m3 (l_ m4 (by decide+kernel)) g (by omega)) m4,eZ,ey,eZ,lu];rw [show i+1+cS (jB (.mk 7 0 nm v [a,b]))+1=i+(cS (jB (.mk 7 0 nm v [a,b]))+(0+1)+1) by omega]
   have hP:R5 (.mk 7 0 nm v [a,b]):=fin hU fun j hj8 hne ts i hm hn g hg=>by
    rcases Nat.lt_or_ge r j with h|h
    ·exact absurd ((ehi j h).trans (ehi 8 k2).symm) hne
    ·rw [elo j h]at hm hn ⊢;exact hlow j h ts i hm hn g hg
   refine⟨hP,hU,?_,hF⟩;intro ts i j hj hm hn g hg;by_cases e:j=r
   ·subst e;rw [elo j (bU _)]at hm hn ⊢;obtain⟨g',e1,e2⟩:=L9 k1 k2 k3 k4 ha hb hd hm hn (g:=g) (by omega);exact⟨g',by omega,e2⟩
   ·refine fin2 hP ts i j hj ?_ hm hn g hg;rcases Nat.lt_or_ge r j with h|h
    ·rw [ehi j h,ehi (j+1) (by omega)]
    ·rw [elo j h,elo (j+1) (by omega)]
  ·have hq:∀m:Int,cu m (bR (.mk k z nm v kids))=jB (.mk k z nm v kids):=fun m=>FQ h7
   have hU:=SZ (v:=v) h7 ho hz hu;have hP:R5 (.mk k z nm v kids):=fin hU fun j _ hne=>absurd ((hq j).trans (hq 8).symm) hne
   exact⟨hP,hU,fun ts i r hr8=>fin2 hP ts i r hr8 ((hq r).trans (hq _).symm),hF⟩
def iw:Nat→Ba
 | 0=>oNil
 | n+1=>iw n++⟨#[32,32]⟩
abbrev Lz(d:Nat):Pe:=⟨iw d,0,0⟩
abbrev xS:Pe:=⟨⟨#[10]⟩,0,0⟩
def uO(d:Nat)(k:Int)(nm:Ba)(q:List Qx)(b:List Pe)(ne:Nat)(e:List Pe):List Pe:=
 Lz d::(if k=1 then dP xP::sp::uz nm::sp::dP oF::sp::(cu 0 (q.getD 0 pD)++ [dP mr,xS])else
 if k=2 then uz nm::sp::dP oF::sp::(cu 0 (q.getD 0 pD)++ [dP mr,xS])else
 if k=3 then dP ka::dP Iy::(cu 0 (q.getD 0 pD)++(dP EL::sp::dP oF::sp::(cu 0 (q.getD 1 pD)++ [dP mr,xS])))else
 if k=4 then dP zK::sp::(cu 0 (q.getD 0 pD)++(sp::dP EM::xS::(b++(Lz d::dP sf::((if ne=0 then []else sp::dP iJ::sp::dP EM::xS::(e++ [Lz d,dP sf]))++ [xS])))))else
 if k=5 then dP iI::sp::(cu 0 (q.getD 0 pD)++(sp::dP EM::xS::(b++ [Lz d,dP sf,xS])))else
 if k=6 then dP qC::sp::(cu 0 (q.getD 0 pD)++ [dP mr,xS])else
 if k=7 then dP rL::sp::(cu 0 (q.getD 0 pD)++ [dP mr,xS])else
 cu 0 (q.getD 0 pD)++ [dP mr,xS])
mutual
def xR:Nat→Ty→List Pe
 | d,.mk k nm _ es _ body _ els=>uO d k nm (es.map bR) (db (d+1) body) els.length (db (d+1) els)
def db:Nat→List Ty→List Pe
 | _,[]=> []
 | d,y::r=>xR d y++db d r
end
theorem FX(d:Nat)(t:Ty):xR d t=uO d t.kind t.name (t.es.map bR) (db (d+1) t.body) t.els.length (db (d+1) t.els):=by
 cases t;rfl
def gr:List Ba→List Pe
 | []=> []
 | x::r=>uz x::(if r.length=0 then []else dP rq::sp::gr r)
def AB(f:Tf):List Pe:=dP Pa::sp::uz f.name::dP mh::(gr f.ps++(dP gS::sp::dP EM::xS::(db 1 f.body++ [dP sf,xS])))
def oT:List Tf→List Pe
 | []=> []
 | f::r=>AB f++oT r
theorem MZ{x:Ba}{c:Int}(h:(List.range x.size).all (fun j=>rU (dZ x j))=true):Pkc c ⟨x,0,0⟩:=Pkc.blank _ _ fun j hj=>by
 rw [List.all_eq_true]at h;exact h j (List.mem_range.2 hj)
theorem pj{c:Int}:Pkc c xS:=MZ (by decide+kernel)
theorem si:∀d,(iw d).size=2*d
 | 0=>rfl
 | d+1=>by
  unfold iw;rw [bB,si d];show 2*d+2=_;omega
theorem y5:∀d j,j<(iw d).size→rU (dZ (iw d) j)=true
 | d+1,j,hj=>by
  unfold iw at hj ⊢;rw [bB]at hj;by_cases h:j<(iw d).size
  ·rw [oj h];exact y5 d j h
  ·obtain⟨i,rfl⟩:∃i,j=(iw d).size+i:=⟨j-(iw d).size,by omega⟩
   have hj:(iw d).size+i<(iw d).size+2:=hj;rw [mm];have:i=0∨i=1:=by omega
   rcases this with rfl|rfl<;>decide
theorem B8{c:Int}{d:Nat}:Pkc c (Lz d):=Pkc.blank _ _ (y5 d)
theorem Ag{c:Int}(h:(!decide (c=60)&& !decide (c=61)&& !decide (c=62))=true):uH c:=by
 unfold uH;simp only [Bool.and_eq_true,Bool.not_eq_true',decide_eq_false_iff_not]at h;exact⟨h.1.1,h.1.2,h.2⟩
theorem Fq{c:Int}(h:(!mT c&& !decide (c=60)&& !decide (c=61)&& !decide (c=62))=true):Iv c:=by
 unfold Iv;simp only [Bool.and_eq_true,Bool.not_eq_true',decide_eq_false_iff_not]at h;exact⟨h.1.1.1,h.1.1.2,h.1.2,h.2⟩
theorem nK:uH 32:=Ag (by decide)
theorem nL:uH 10:=Ag (by decide)
theorem Hm{l:List Pe}(h:qx l)(c:Int):xO (l++ [dP mr,xS]) c∧uH (hd (l++ [dP mr,xS]) c):=by
 obtain⟨a,b⟩:=h 59 (Fq (by decide));refine⟨ff.2 ⟨a,fG (by decide+kernel) (by first|exact nK|exact nL),pj,O⟩,?_⟩;rw [lg];exact b
theorem Jq{d:Nat}{k:Int}{nm:Ba}{q:List Qx}{b e:List Pe}{ne:Nat}(hb:∀c,xO b c)(he:∀c,xO e c)(hq:∀x∈q,qx x.l)(hn:k=1∨k=2→bE nm=true)(hl:q.length=if k=3 then 2 else 1)(c:Int):xO (uO d k nm q b ne e) c:=by
 have hg:∀i,i<q.length→qx (cu 0 (q.getD i pD)):=fun i hi=>by
  rw [List.getD_eq_getElem?_getD,bQ hi];exact mY (hq _ (List.getElem_mem _))
 have h0:qx (cu 0 (q.getD 0 pD)):=hg 0 (by rw [hl];split<;>decide);obtain⟨s1,s2⟩:=Hm h0 c;obtain⟨w1,w2⟩:=h0 32 Fp;refine⟨B8,?_⟩;by_cases h1:k=1
 ·rw [aj h1];exact⟨n8 (by decide+kernel) (by decide:mT 32=false),ia,kQ (hn (.inl h1)) (by decide:mT 32=false),ia,fG (by decide+kernel) (by first|exact nK|exact nL),ia,s1⟩
 ·rw [ac h1];by_cases h2:k=2
  ·rw [aj h2];exact⟨kQ (hn (.inr h2)) (by decide:mT 32=false),ia,fG (by decide+kernel) (by first|exact nK|exact nL),ia,s1⟩
  ·rw [ac h2];by_cases h3:k=3
   ·rw [aj h3];rw [aj h3]at hl;obtain⟨t1,t2⟩:=h0 93 (Fq (by decide));obtain⟨u1,u2⟩:=Hm (hg 1 (by omega)) c;refine⟨n8 (by decide+kernel) (by decide:mT 91=false),fG (by decide+kernel) ?_,ff.2 ⟨t1,fG (by decide+kernel) (by first|exact nK|exact nL),ia,fG (by decide+kernel) (by first|exact nK|exact nL),ia,u1⟩⟩;rw [lg];exact t2
   ·rw [ac h3];by_cases h4:k=4
    ·rw [aj h4];refine⟨n8 (by decide+kernel) (by decide:mT 32=false),ia,ff.2 ⟨w1,ia,fG (by decide+kernel) (by first|exact nK|exact nL),pj,ff.2 ⟨hb _,B8,?_⟩⟩⟩;by_cases hne:ne=0
     ·rw [aj hne];exact⟨fG (by decide+kernel) (by first|exact nK|exact nL),pj,O⟩
     ·rw [ac hne];exact⟨fG (by decide+kernel) (by first|exact nK|exact nL),ia,n8 (by decide+kernel) (by decide:mT 32=false),ia,fG (by decide+kernel) (by first|exact nK|exact nL),pj,ff.2 ⟨ff.2 ⟨he _,B8,fG (by decide+kernel) (by first|exact nK|exact nL),O⟩,pj,O⟩⟩
    ·rw [ac h4];by_cases h5:k=5
     ·rw [aj h5];exact⟨n8 (by decide+kernel) (by decide:mT 32=false),ia,ff.2 ⟨w1,ia,fG (by decide+kernel) (by first|exact nK|exact nL),pj,ff.2 ⟨hb _,B8,fG (by decide+kernel) (by first|exact nK|exact nL),pj,O⟩⟩⟩
     ·rw [ac h5];by_cases h6:k=6
      ·rw [aj h6];exact⟨n8 (by decide+kernel) (by decide:mT 32=false),ia,s1⟩
      ·rw [ac h6];by_cases h7:k=7
       ·rw [aj h7];exact⟨n8 (by decide+kernel) (by decide:mT 32=false),ia,s1⟩
       ·rw [ac h7];exact s1
theorem N2{es:List Tx}(hr:ji es=true)(hg:GXs es):∀x∈es.map bR,qx x.l:=by
 rw [←tk];exact(tl es hr hg).2
mutual
theorem Jn:∀(t:Ty)(d:Nat),rY t=true→GY t→∀c,xO (xR d t) c
 | .mk k nm ve es vb body vl els,d,hr,hg=>by
  have hr:(n_ k nm es.length body.length els.length&&ji es&&h_ body&&h_ els)=true:=hr;rw [Bool.and_eq_true,Bool.and_eq_true,Bool.and_eq_true]at hr;obtain⟨⟨⟨ho,h1⟩,h2⟩,h3⟩:=hr;have hg:qz nm∧(es.length≤1000000∧GXs es)∧(body.length≤1000000∧GYs body)∧(els.length≤1000000∧GYs els):=hg;unfold n_ at ho;simp only [Bool.and_eq_true,decide_eq_true_eq]at ho;obtain⟨⟨⟨⟨⟨o1,o2⟩,o3⟩,o4⟩,o5⟩,o6⟩:=ho;refine Jq (pl body (d+1) h2 hg.2.2.1.2) (pl els (d+1) h3 hg.2.2.2.2) (N2 h1 hg.2.1.2) (fun hk=> ?_) (by rw [List.length_map];exact o3);rw [aj hk]at o4;exact o4
theorem pl:∀(l:List Ty)(d:Nat),h_ l=true→GYs l→∀c,xO (db d l) c
 | [],_,_,_,_=>trivial
 | y::r,d,hr,hg,c=>by
  have hr:(rY y&&h_ r)=true:=hr;rw [Bool.and_eq_true]at hr;have hg:GY y∧GYs r:=hg;exact ff.2 ⟨Jn y d hr.1 hg.1 _,pl r d hr.2 hg.2 c⟩
end
theorem yL:∀{l:List Ba},(∀x∈l,bE x=true)→xO (gr l) 41∧uH (hd (gr l) 41)
 | [],_=>⟨trivial,Ag (by decide)⟩
 | x::r,h=>by
  have hx:=h x (List.mem_cons_self ..);obtain⟨i1,i2⟩:=yL (l:=r) fun x hx=>h x (List.mem_cons_of_mem _ hx)
  refine⟨?_,tw hx⟩;unfold gr;by_cases e:r.length=0
  ·rw [aj e];exact⟨kQ hx (by decide:mT 41=false),O⟩
  ·rw [ac e];exact⟨kQ hx (by decide:mT 44=false),fG (by decide+kernel) (by first|exact nK|exact nL),ia,i1⟩
theorem Js{f:Tf}(hr:rF f=true)(hg:GYs f.body)(c:Int):xO (AB f) c:=by
 unfold rF at hr;rw [Bool.and_eq_true,Bool.and_eq_true,List.all_eq_true]at hr;obtain⟨⟨h1,h2⟩,h3⟩:=hr;obtain⟨p1,p2⟩:=yL h1;refine⟨n8 (by decide+kernel) (by decide:mT 32=false),ia,kQ h2 (by decide:mT 40=false),fG (by decide+kernel) ?_,ff.2 ⟨p1,fG (by decide+kernel) (by first|exact nK|exact nL),ia,fG (by decide+kernel) (by first|exact nK|exact nL),pj,ff.2 ⟨pl _ _ h3 hg _,fG (by decide+kernel) (by first|exact nK|exact nL),pj,O⟩⟩⟩;rw [lg];exact p2
theorem B9:∀{fs:List Tf},(∀f∈fs,rF f=true∧GYs f.body)→xO (oT fs) 0
 | [],_=>trivial
 | f::r,h=>by
  have hf:=h f (List.mem_cons_self ..);exact ff.2 ⟨Js hf.1 hf.2 _,B9 fun x hx=>h x (List.mem_cons_of_mem _ hx)⟩
theorem pr{ts:List Tk}{i:Nat}{t:Tx}(hr:rX t=true)(hd:dX t≤9)(hn:nX t≤400)(hm:gG ts i (cu 0 (bR t)))(hp:Nop ts (i+cS (cu 0 (bR t))) 0):pX ts i=some (iD t,i+cS (cu 0 (bR t))):=
 (wS (nX t+1) t (Nat.lt_succ_self _) hr hd).1 ts i 0 (by omega) hm hp 1000 (by unfold sq;omega)
theorem F3{ts:List Tk}{i:Nat}{t:Tx}(hr:rX t=true)(hd:dX t≤9)(hm:gG ts i (cu 0 (bR t))):∃x,ts[i]?=some x∧OH x:=
 (wS (nX t+1) t (Nat.lt_succ_self _) hr hd).2.2.2 ts i 0 hm
structure Oke(t:Tx):Prop where
 r:rX t=true
 d:dX t≤8
 n:nX t≤399
theorem tu{ts:List Tk}{i:Nat}(h:iH ts i (dP mr)):Nop ts i 0:=l_ h (by decide+kernel)
theorem qO{ts:List Tk}{i:Nat}{x:Ba}(h:iH ts i (dP x)):∃t,ts[i]?=some t∧fD t=x∧t.k=3∧t.s=x:=by
 obtain⟨t,h1,h2,h3,-⟩:=h;exact⟨t,h1,by unfold fD;rw [aj h2,h3],h2,h3⟩
theorem JP{t:Tk}(h:OH t):fD t≠xP∧fD t≠zK∧fD t≠iI∧fD t≠qC∧fD t≠rL:=by
 unfold fD;rcases h with h|h|⟨h,h2⟩
 ·rw [ac (by omega)];decide
 ·rw [ac (by omega)];decide
 ·rw [aj h];rcases h2 with h2|h2|h2|h2|h2|h2<;>rw [h2]<;>decide
theorem kq(t:Tk)(x:Ba):(fD t==x)=decide (fD t=x):=eT _ _
theorem gj{t:Tk}{x:Ba}(h:fD t≠x):¬(fD t==x)=true:=by
 rw [kq,decide_eq_true_eq];exact h
theorem qP{t:Tk}{x:Ba}(h:fD t=x):(fD t==x)=true:=by
 rw [kq,decide_eq_true_eq];exact h
theorem S7{ts:List Tk}{i:Nat}{e:Tx}{t:Tk}(he:Oke e)(hm:gG ts i (cu 0 (bR e)))(hs:iH ts (i+cS (cu 0 (bR e))) (dP mr)):pV ts t i=some (.mk 8 oNil [iD e] [] [],i+cS (cu 0 (bR e))+1):=by
 obtain⟨u,a1,a2,a3,a4,-⟩:=ek hs;have e0:dh u oF=false:=i6 a4 (by decide);unfold pV;rw [pr he.r (by have:=he.d;omega) (by have:=he.n;omega) hm (tu hs)];show(match ts[i+cS (cu 0 (bR e))]? with|none=>none|some u=>_)=_;rw [a1];show(if(dh u oF&&_&&_)=true then _ else if(dh u oF&&_&&_)=true then _ else if ol ts (i+cS (cu 0 (bR e))) mr=true then some (Py.mk 8 oNil [iD e] [] [],i+cS (cu 0 (bR e))+1)else none)=_;rw [e0,Bool.false_and,Bool.false_and,Bool.false_and,Bool.false_and,ac (by decide),ac (by decide),aj (jJ hs)]
theorem S9{ts:List Tk}{i:Nat}{e:Tx}{t:Tk}{nm:Ba}(hi:bE nm=true)(ht:ts[i]?=some t)(hk:t.k=2)(h0:iH ts i (uz nm))(h1:iH ts (i+1) (dP oF))(he:Oke e)(hm:gG ts (i+2) (cu 0 (bR e)))(hs:iH ts (i+2+cS (cu 0 (bR e))) (dP mr)):pV ts t i=some (.mk 2 nm [iD e] [] [],i+2+cS (cu 0 (bR e))+1):=by
 obtain⟨u,a1,a2,a3,a4,-⟩:=ek h1;have hx:=pr (ts:=ts) (i:=i) (t:= .mk 2 0 nm bc []) (by show(jC 2 nm 0&&_&&_)=true;unfold jC;rw [ac (by decide),aj J,hi];rfl) (by show 0+1≤9;decide) (by show 0+1≤400;decide) ⟨h0,O⟩ (l_ (x:=oF) h1 (by decide+kernel));have hx2:pX ts i=some (.mk 2 0 nm [],i+1):=hx;have hy:=pr he.r (by have:=he.d;omega) (by have:=he.n;omega) hm (tu hs);unfold pV;rw [hx2];show(match ts[i+1]? with|none=>none|some u=>_)=_;rw [a1];show(if(dh u oF&&decide ((2:Int)=2)&&decide (t.k=2))=true then(match pX ts (i+1+1)with|none=>none|some (q,j2)=>if ol ts j2 mr=true then some (Py.mk 2 nm [q] [] [],j2+1)else none)else _)=_;rw [a2,decide_eq_true hk,aj (by decide),show i+1+1=i+2 by omega,hy];show(if ol ts (i+2+cS (cu 0 (bR e))) mr=true then _ else _)=_;rw [aj (jJ hs)]
theorem S8{ts:List Tk}{i:Nat}{a e:Tx}{t:Tk}(ht:ts[i]?=some t)(hk:fD t=ka)(hk3:t.k=3)(h0:iH ts i (dP ka))(h1:iH ts (i+1) (dP Iy))(ha:Oke a)(m1:gG ts (i+2) (cu 0 (bR a)))(h2:iH ts (i+2+cS (cu 0 (bR a))) (dP EL))(h3:iH ts (i+2+cS (cu 0 (bR a))+1) (dP oF))(he:Oke e)(hm:gG ts (i+2+cS (cu 0 (bR a))+2) (cu 0 (bR e)))(hs:iH ts (i+2+cS (cu 0 (bR a))+2+cS (cu 0 (bR e))) (dP mr)):pV ts t i=some (.mk 3 oNil [iD a,iD e] [] [],i+2+cS (cu 0 (bR a))+2+cS (cu 0 (bR e))+1):=by
 obtain⟨u,a1,a2,a3,a4,-⟩:=ek h3;have hr:rX (.mk 4 0 oNil bc [a])=true:=by
  rw [show rX (.mk 4 0 oNil bc [a])=(jC 4 oNil 1&&(decide ((4:Int)=1) || decide ((0:Int)=0))&&ji [a])from J,show ji [a]=(rX a&&true)from J,ha.r];rfl
 have hw:cu 0 (bR (.mk 4 0 oNil bc [a]))=dP ka::dP Iy::(cu 0 (bR a)++ [dP EL]):=by
  rw [FQ (by show(4:Int)≠7;decide),mg];rfl
 have hx:=pr (ts:=ts) (i:=i) (t:= .mk 4 0 oNil bc [a]) hr (by show max (dX a) 0+1≤9;have:=ha.d;omega) (by show nX a+0+1≤400;have:=ha.n;omega);rw [hw]at hx;rw [eZ,eZ,ey,eZ,lu,show i+(cS (cu 0 (bR a))+(0+1)+1+1)=i+2+cS (cu 0 (bR a))+1 by omega]at hx;have hx2:pX ts i=some (.mk 4 0 oNil [iD a],i+2+cS (cu 0 (bR a))+1):=hx ⟨h0,h1,dg.2 ⟨m1,h2,O⟩⟩ (l_ (x:=oF) h3 (by decide+kernel));have hy:=pr he.r (by have:=he.d;omega) (by have:=he.n;omega) hm (tu hs);unfold pV;rw [hx2];show(match ts[i+2+cS (cu 0 (bR a))+1]? with|none=>none|some u=>_)=_;rw [a1];show(if(dh u oF&&decide ((4:Int)=2)&&decide (t.k=2))=true then _ else if(dh u oF&&decide ((4:Int)=4)&&(fD t==ka))=true then(match pX ts (i+2+cS (cu 0 (bR a))+1+1)with|none=>none|some (q,j2)=>if ol ts j2 mr=true then some (Py.mk 3 oNil [iD a,q] [] [],j2+1)else none)else _)=_;rw [a2,qP hk,ac (by rw [decide_eq_false (show ¬t.k=2 by omega),Bool.and_false];decide),aj (by decide),show i+2+cS (cu 0 (bR a))+1+1=i+2+cS (cu 0 (bR a))+2 by omega,hy];show(if ol ts (i+2+cS (cu 0 (bR a))+2+cS (cu 0 (bR e))) mr=true then _ else _)=_;rw [aj (jJ hs)]
theorem Le{ts:List Tk}{i:Nat}{e:Tx}{k:Int}(he:Oke e)(hm:gG ts (i+1) (cu 0 (bR e)))(hs:iH ts (i+1+cS (cu 0 (bR e))) (dP mr)):pQ ts k i=some (.mk k oNil [iD e] [] [],i+1+cS (cu 0 (bR e))+1):=by
 unfold pQ;rw [pr he.r (by have:=he.d;omega) (by have:=he.n;omega) hm (tu hs)];show(if ol ts (i+1+cS (cu 0 (bR e))) mr=true then _ else _)=_;rw [aj (jJ hs)]
def UD(ts:List Tk)(n:Nat):Prop:=∃t,ts[n]?=some t∧dh t iJ=false
def U0(y:Ty):Prop:=∀(ts:List Tk)(d i g:Nat),3*nY y≤g→gG ts i (xR d y)→UD ts (i+cS (xR d y))→pS ts g i=some (C5 y,i+cS (xR d y))
def Sf(l:List Ty):Prop:=∀(ts:List Tk)(d i:Nat)(acc:List Py)(g:Nat),3*cv l+1≤g→gG ts i (db d l)→iH ts (i+cS (db d l)) (dP sf)→pC ts g acc i=some (acc++dV l,i+cS (db d l)+1)
def U6(y:Ty):Prop:=∀(ts:List Tk)(d i:Nat),gG ts i (xR d y)→∃t,ts[i]?=some t∧dh t sf=false∧dh t iJ=false
theorem ntk_nl(r:List Pe):cS (xS::r)=cS r:=rfl
theorem mN(d:Nat)(r:List Pe):cS (Lz d::r)=cS r:=rfl
theorem ux{ts:List Tk}{i d:Nat}{r:List Pe}:gG ts i (Lz d::r)↔gG ts i r:=Iff.rfl
theorem xM{ts:List Tk}{i:Nat}{r:List Pe}:gG ts i (xS::r)↔gG ts i r:=Iff.rfl
theorem gw{ts:List Tk}{i:Nat}{r:List Pe}:gG ts i (sp::r)↔gG ts i r:=Iff.rfl
theorem de{ts:List Tk}{i:Nat}{x:Ba}{r:List Pe}:gG ts i (dP x::r)↔iH ts i (dP x)∧gG ts (i+1) r:=Iff.rfl
theorem uv{ts:List Tk}{i:Nat}{x:Ba}{r:List Pe}:gG ts i (uz x::r)↔iH ts i (uz x)∧gG ts (i+1) r:=Iff.rfl
theorem oo{ts:List Tk}{i:Nat}{x:Ba}(h:iH ts i (uz x)):∃t,ts[i]?=some t∧t.k=2∧t.s=x∧fD t=oNil:=by
 obtain⟨t,a1,a2,a3,-⟩:=h;replace a2:t.k=2:=a2;exact⟨t,a1,a2,a3,by unfold fD;rw [ac (by omega)]⟩
theorem Cf{ts:List Tk}{d i g:Nat}{l:List Ty}(hl:Sf l)(hg:3*cv l+2≤g)(h1:iH ts i (dP EM))(h2:gG ts (i+1) (db d l))(h3:iH ts (i+1+cS (db d l)) (dP sf)):pB ts g i=some (dV l,i+1+cS (db d l)+1):=by
 obtain⟨g,rfl⟩:∃q,g=q+1:=⟨g-1,by omega⟩
 rw [pB,aj (jJ h1),hl ts d (i+1) [] g (by omega) h2 h3,List.nil_append]
theorem jh{α:Type}{x:α}{a b:Nat}(h:a=b):some (x,a)=some (x,b):=by rw [h]
theorem Jw{k:Int}{nm:Ba}{ve vb vl:SV}{es:List Tx}{body els:List Ty}(ho:n_ k nm es.length body.length els.length=true)(he:∀e∈es,Oke e)(hb:Sf body)(hl:Sf els):U0 (.mk k nm ve es vb body vl els):=by
 intro ts d i g hg hm hn;have hnY:nY (.mk k nm ve es vb body vl els)=1+dD es+cv body+cv els:=J;rw [hnY]at hg;obtain⟨g,rfl⟩:∃q,g=q+1:=⟨g-1,by omega⟩
 unfold n_ at ho;simp only [Bool.and_eq_true,decide_eq_true_eq]at ho;obtain⟨⟨⟨⟨⟨o1,o2⟩,o3⟩,o4⟩,o5⟩,o6⟩:=ho;show pS ts (g+1) i=some (.mk k nm (gE es) (dV body) (dV els),_);rw [FX]at hm hn ⊢;replace hm:gG ts i (uO d k nm (es.map bR) (db (d+1) body) els.length (db (d+1) els)):=hm;replace hn:UD ts (i+cS (uO d k nm (es.map bR) (db (d+1) body) els.length (db (d+1) els))):=hn;show _=some (_,i+cS (uO d k nm (es.map bR) (db (d+1) body) els.length (db (d+1) els)));unfold uO at hm hn ⊢;rw [ux]at hm;rw [mN]at hn ⊢;have hbody:¬(k=4∨k=5)→body= []:=fun q=>by
  rw [decide_eq_false (fun e=>q (.inl e)),decide_eq_false (fun e=>q (.inr e))]at o5;simp at o5;exact o5
 have hels:k≠4→els= []:=fun q=>by
  rw [decide_eq_false q]at o6;simp at o6;exact o6
 have hnm:¬(k=1∨k=2)→nm=oNil:=fun q=>by
  rw [ac q]at o4;exact cB o4
 by_cases h3:k=3
 ·subst h3;rw [aj J]at o3;obtain⟨a,b,rfl⟩:=Eh o3;rw [ac (by decide),ac (by decide),aj J]at hm ⊢;rw [show([a,b].map bR).getD 0 pD=bR a from J,show([a,b].map bR).getD 1 pD=bR b from J]at hm ⊢;rw [de,de,dg,de,gw,de,gw,dg,de]at hm;obtain⟨m1,m2,m3,m4,m5,m6,m7,-⟩:=hm;obtain⟨t,a1,a2,a3,a4⟩:=qO m1;have key:=S8 (t:=t) (e:=b) a1 a2 a3 m1 m2 (he a (List.mem_cons_self ..)) m3 m4 m5 (he b (List.mem_cons_of_mem _ (List.mem_cons_self ..))) m6 m7;rw [pS,a1];show(if(fD t==xP)=true then _ else if(fD t==zK)=true then _ else if(fD t==iI)=true then _ else if(fD t==qC)=true then _ else if(fD t==rL)=true then _ else _)=_;rw [ac (gj (by rw [a2];decide)),ac (gj (by rw [a2];decide)),ac (gj (by rw [a2];decide)),ac (gj (by rw [a2];decide)),ac (gj (by rw [a2];decide)),key,hbody (by decide),hels (by decide),hnm (by decide)];simp only [eZ,iP,ntk_nl,ey,lu];exact jh (by omega)
 ·rw [ac h3]at o3;obtain⟨a,rfl⟩:=w6 o3;have ha:Oke a:=he a (List.mem_singleton.2 J);rw [show([a].map bR).getD 0 pD=bR a from J]at hm hn ⊢;by_cases h1:k=1
  ·subst h1;rw [aj J]at hm ⊢;rw [de,gw,uv,gw,de,gw,dg,de]at hm;obtain⟨m1,m2,m3,m4,m5,-⟩:=hm;obtain⟨t,a1,a2,a3,a4⟩:=qO m1;obtain⟨u,b1,b2,b3,b4⟩:=oo m2;have hx:=pr (ts:=ts) (i:=i+3) ha.r (by have:=ha.d;omega) (by have:=ha.n;omega) m4 (tu m5);rw [pS,a1];show(if(fD t==xP)=true then(match ts[i+1]? with|none=>none|some u=>if u.k=2 then(if ol ts (i+2) oF=true then(match pX ts (i+3)with|none=>none|some (p,j)=>if ol ts j mr=true then some (Py.mk 1 u.s [p] [] [],j+1)else none)else none)else none)else _)=_;rw [aj (qP a2),b1];show(if u.k=2 then _ else _)=_;rw [aj b2,aj (jJ m3),hx,b3];show(if ol ts (i+3+cS (cu 0 (bR a))) mr=true then _ else _)=_;rw [aj (jJ m5),hbody (by decide),hels (by decide)];simp only [eZ,ko,iP,ntk_nl,ey,lu];exact jh (by omega)
  ·rw [ac h1]at hm hn ⊢;by_cases h2:k=2
   ·subst h2;rw [aj J]at hm ⊢;rw [aj (.inr J)]at o4;rw [uv,gw,de,gw,dg,de]at hm;obtain⟨m1,m2,m3,m4,-⟩:=hm;obtain⟨t,a1,a2,a3,a4⟩:=oo m1;have key:=S9 (t:=t) o4 a1 a2 m1 m2 ha m3 m4;rw [pS,a1];show(if(fD t==xP)=true then _ else if(fD t==zK)=true then _ else if(fD t==iI)=true then _ else if(fD t==qC)=true then _ else if(fD t==rL)=true then _ else _)=_;rw [ac (gj (by rw [a4];decide)),ac (gj (by rw [a4];decide)),ac (gj (by rw [a4];decide)),ac (gj (by rw [a4];decide)),ac (gj (by rw [a4];decide)),key,hbody (by decide),hels (by decide)];simp only [eZ,ko,iP,ntk_nl,ey,lu];exact jh (by omega)
   ·rw [ac h2,ac h3]at hm hn ⊢;have hnm0:=hnm (fun q=>q.elim h1 h2);subst hnm0;by_cases h4:k=4
    ·subst h4;rw [aj J]at hm hn ⊢;rw [de,gw,dg,gw,de,xM,dg,ux,de,dg]at hm;obtain⟨m1,m2,m3,m4,m5,m6,-⟩:=hm;obtain⟨t,a1,a2,a3,a4⟩:=qO m1;have hx:=pr ha.r (by have:=ha.d;omega) (by have:=ha.n;omega) m2 (l_ m3 (by decide+kernel));have hB:=Cf (g:=g) hb (by omega) m3 m4 m5;rw [pS,a1];show(if(fD t==xP)=true then _ else if(fD t==zK)=true then(match pX ts (i+1)with|none=>none|some (p,j)=>match pB ts g j with|none=>none|some (b,j2)=>match ts[j2]? with|none=>none|some u=>if dh u iJ=true then(match pB ts g (j2+1)with|none=>none|some (e,j3)=>some (Py.mk 4 oNil [p] b e,j3))else some (Py.mk 4 oNil [p] b [],j2))else _)=_;rw [ac (gj (by rw [a2];decide)),aj (qP a2),hx];show(match pB ts g (i+1+cS (cu 0 (bR a)))with|none=>none|some (b,j2)=>match ts[j2]? with|none=>none|some u=>if dh u iJ=true then(match pB ts g (j2+1)with|none=>none|some (e,j3)=>some (Py.mk 4 oNil [iD a] b e,j3))else some (Py.mk 4 oNil [iD a] b [],j2))=_;rw [hB];by_cases hne:els.length=0
     ·rw [aj hne]at m6 hn ⊢;simp only [eZ,ko,iP,ntk_nl,mN,ey,lu]at hn ⊢;obtain⟨u,c1,c2⟩:=hn;show(match ts[i+1+cS (cu 0 (bR a))+1+cS (db (d+1) body)+1]? with|none=>none|some u=>if dh u iJ=true then _ else some (Py.mk 4 oNil [iD a] (dV body) [],i+1+cS (cu 0 (bR a))+1+cS (db (d+1) body)+1))=_;rw [show i+1+cS (cu 0 (bR a))+1+cS (db (d+1) body)+1=i+(cS (cu 0 (bR a))+(cS (db (d+1) body)+(0+0+1)+1)+1) by omega,c1];show(if dh u iJ=true then _ else _)=_;rw [ac (by rw [c2];decide),AP hne];rfl
     ·rw [ac hne]at m6 hn ⊢;rw [gw,de,gw,de,xM,dg,ux,de]at m6;obtain⟨q1,q2,q3,q4,-⟩:=m6;obtain⟨u,c1,c2,-⟩:=ek q1;have hE:=Cf (g:=g) hl (by omega) q2 q3 q4;show(match ts[i+1+cS (cu 0 (bR a))+1+cS (db (d+1) body)+1]? with|none=>none|some u=>if dh u iJ=true then(match pB ts g (i+1+cS (cu 0 (bR a))+1+cS (db (d+1) body)+1+1)with|none=>none|some (e,j3)=>some (Py.mk 4 oNil [iD a] (dV body) e,j3))else _)=_;rw [c1];show(if dh u iJ=true then _ else _)=_;rw [aj c2,hE];simp only [eZ,ko,iP,ntk_nl,mN,ey,lu];exact jh (by omega)
    ·rw [ac h4]at hm ⊢;by_cases h5:k=5
     ·subst h5;rw [aj J]at hm ⊢;rw [de,gw,dg,gw,de,xM,dg,ux,de]at hm;obtain⟨m1,m2,m3,m4,m5,-⟩:=hm;obtain⟨t,a1,a2,a3,a4⟩:=qO m1;have hx:=pr ha.r (by have:=ha.d;omega) (by have:=ha.n;omega) m2 (l_ m3 (by decide+kernel));have hB:=Cf (g:=g) hb (by omega) m3 m4 m5;rw [pS,a1];show(if(fD t==xP)=true then _ else if(fD t==zK)=true then _ else if(fD t==iI)=true then(match pX ts (i+1)with|none=>none|some (p,j)=>match pB ts g j with|none=>none|some (b,j2)=>some (Py.mk 5 oNil [p] b [],j2))else _)=_;rw [ac (gj (by rw [a2];decide)),ac (gj (by rw [a2];decide)),aj (qP a2),hx];show(match pB ts g (i+1+cS (cu 0 (bR a)))with|none=>none|some (b,j2)=>some (Py.mk 5 oNil [iD a] b [],j2))=_;rw [hB,hels (by decide)];simp only [eZ,ko,iP,ntk_nl,mN,ey,lu];exact jh (by omega)
     ·rw [ac h5]at hm ⊢;rw [hbody (fun q=>q.elim h4 h5),hels h4];by_cases h6:k=6
      ·subst h6;rw [aj J]at hm ⊢;rw [de,gw,dg,de]at hm;obtain⟨m1,m2,m3,-⟩:=hm;obtain⟨t,a1,a2,a3,a4⟩:=qO m1;rw [pS,a1];show(if(fD t==xP)=true then _ else if(fD t==zK)=true then _ else if(fD t==iI)=true then _ else if(fD t==qC)=true then pQ ts 6 i else _)=_;rw [ac (gj (by rw [a2];decide)),ac (gj (by rw [a2];decide)),ac (gj (by rw [a2];decide)),aj (qP a2),Le ha m2 m3];simp only [eZ,ko,iP,ntk_nl,mN,ey,lu];exact jh (by omega)
      ·rw [ac h6]at hm ⊢;by_cases h7:k=7
       ·subst h7;rw [aj J]at hm ⊢;rw [de,gw,dg,de]at hm;obtain⟨m1,m2,m3,-⟩:=hm;obtain⟨t,a1,a2,a3,a4⟩:=qO m1;rw [pS,a1];show(if(fD t==xP)=true then _ else if(fD t==zK)=true then _ else if(fD t==iI)=true then _ else if(fD t==qC)=true then _ else if(fD t==rL)=true then pQ ts 7 i else _)=_;rw [ac (gj (by rw [a2];decide)),ac (gj (by rw [a2];decide)),ac (gj (by rw [a2];decide)),ac (gj (by rw [a2];decide)),aj (qP a2),Le ha m2 m3];simp only [eZ,ko,iP,ntk_nl,mN,ey,lu];exact jh (by omega)
       ·rw [ac h7]at hm ⊢;obtain rfl:k=8:=by omega
        rw [dg,de]at hm;obtain⟨m1,m2,-⟩:=hm;obtain⟨t,a1,a2⟩:=F3 ha.r (by have:=ha.d;omega) m1;obtain⟨k1,k2,k3,k4,k5⟩:=JP a2;rw [pS,a1];show(if(fD t==xP)=true then _ else if(fD t==zK)=true then _ else if(fD t==iI)=true then _ else if(fD t==qC)=true then _ else if(fD t==rL)=true then _ else pV ts t i)=_;rw [ac (gj k1),ac (gj k2),ac (gj k3),ac (gj k4),ac (gj k5),S7 ha m1 m2];simp only [eZ,ko,iP,ntk_nl,mN,ey,lu];exact jh (by omega)
theorem lr{ts:List Tk}{i:Nat}{x:Ba}(h:iH ts i (dP x))(h1:x≠sf)(h2:x≠iJ):∃t,ts[i]?=some t∧dh t sf=false∧dh t iJ=false:=by
 obtain⟨t,a1,a2,a3,a4,-⟩:=ek h;exact⟨t,a1,i6 a4 h1,i6 a4 h2⟩
theorem Vx{k:Int}{nm:Ba}{ve vb vl:SV}{es:List Tx}{body els:List Ty}(ho:n_ k nm es.length body.length els.length=true)(he:∀e∈es,Oke e):U6 (.mk k nm ve es vb body vl els):=by
 intro ts d i hm;rw [FX]at hm;replace hm:gG ts i (uO d k nm (es.map bR) (db (d+1) body) els.length (db (d+1) els)):=hm;unfold uO at hm;rw [ux]at hm;by_cases h1:k=1
 ·rw [aj h1]at hm;exact lr (de.1 hm).1 (by decide) (by decide)
 ·rw [ac h1]at hm;by_cases h2:k=2
  ·rw [aj h2]at hm;obtain⟨t,a1,a2,a3,a4⟩:=oo (uv.1 hm).1;exact⟨t,a1,s6 (by omega),s6 (by omega)⟩
  ·rw [ac h2]at hm;by_cases h3:k=3
   ·rw [aj h3]at hm;exact lr (de.1 hm).1 (by decide) (by decide)
   ·rw [ac h3]at hm;by_cases h4:k=4
    ·rw [aj h4]at hm;exact lr (de.1 hm).1 (by decide) (by decide)
    ·rw [ac h4]at hm;by_cases h5:k=5
     ·rw [aj h5]at hm;exact lr (de.1 hm).1 (by decide) (by decide)
     ·rw [ac h5]at hm;by_cases h6:k=6
      ·rw [aj h6]at hm;exact lr (de.1 hm).1 (by decide) (by decide)
      ·rw [ac h6]at hm;by_cases h7:k=7
       ·rw [aj h7]at hm;exact lr (de.1 hm).1 (by decide) (by decide)
       ·rw [ac h7]at hm;unfold n_ at ho;simp only [Bool.and_eq_true,decide_eq_true_eq]at ho;obtain⟨⟨⟨⟨⟨o1,o2⟩,o3⟩,o4⟩,o5⟩,o6⟩:=ho;rw [ac h3]at o3;obtain⟨a,rfl⟩:=w6 o3;have ha:Oke a:=he a (List.mem_singleton.2 J);obtain⟨t,a1,a2⟩:=F3 ha.r (by have:=ha.d;omega) (dg.1 hm).1;refine⟨t,a1,?_,?_⟩;all_goals
         rcases a2 with h|h|⟨-,h⟩
         ·exact s6 (by omega)
         ·exact s6 (by omega)
         ·rcases h with h|h|h|h|h|h<;>exact i6 h (by decide)
theorem wm{u:Tx}:∀{l:List Tx},u∈l→nX u≤dD l∧dX u≤f_ l∧(ji l=true→rX u=true)
 | [],h=>by cases h
 | x::r,h=>by
  have e1:dD (x::r)=nX x+dD r:=J;have e2:f_ (x::r)=max (dX x) (f_ r):=J;rcases List.mem_cons.1 h with rfl|h
  ·exact⟨by omega,by omega,fun hr=>by
    have hr:(rX u&&ji r)=true:=hr;rw [Bool.and_eq_true]at hr;exact hr.1⟩
  ·obtain⟨a1,a2,a3⟩:=wm h;exact⟨by omega,by omega,fun hr=>by
    have hr:(rX x&&ji r)=true:=hr;rw [Bool.and_eq_true]at hr;exact a3 hr.2⟩
mutual
theorem Ld:∀(y:Ty)(e:Nat),rY y=true→xG e y=false→nY y≤399→U0 y∧U6 y
 | .mk k nm ve es vb body vl els,e,hr,hd,hn=>by
  have hr:(n_ k nm es.length body.length els.length&&ji es&&h_ body&&h_ els)=true:=hr;rw [Bool.and_eq_true,Bool.and_eq_true,Bool.and_eq_true]at hr;obtain⟨⟨⟨ho,h1⟩,h2⟩,h3⟩:=hr;have hd:(decide (e>8) || decide (f_ es>8) || cG (e+1) body || cG (e+1) els)=false:=hd;rw [Bool.or_eq_false_iff,Bool.or_eq_false_iff,Bool.or_eq_false_iff,decide_eq_false_iff_not,decide_eq_false_iff_not]at hd;obtain⟨⟨⟨-,d1⟩,d2⟩,d3⟩:=hd;have hn:1+dD es+cv body+cv els≤399:=hn;have he:∀u∈es,Oke u:=fun u hu=>by
   obtain⟨a1,a2,a3⟩:=wm hu;exact⟨a3 h1,by omega,by omega⟩
  exact⟨Jw ho he (Ce body (e+1) h2 d2 (by omega)) (Ce els (e+1) h3 d3 (by omega)),Vx ho he⟩
theorem Ce:∀(l:List Ty)(e:Nat),h_ l=true→cG e l=false→cv l≤399→Sf l
 | [],_,_,_,_=>by
  intro ts d i acc g hg hm hs;obtain⟨g,rfl⟩:∃q,g=q+1:=⟨g-1,by omega⟩
  obtain⟨t,a1,a2,-⟩:=ek (show iH ts i (dP sf)from hs);rw [pC,a1];show(if dh t sf=true then some (acc,i+1)else _)=some (acc++ [],i+0+1);rw [aj a2,List.append_nil]
 | y::r,e,hr,hd,hn=>by
  have hr:(rY y&&h_ r)=true:=hr;rw [Bool.and_eq_true]at hr;have hd:(xG e y || cG e r)=false:=hd;rw [Bool.or_eq_false_iff]at hd;have hn:nY y+cv r≤399:=hn;obtain⟨h1,h2⟩:=Ld y e hr.1 hd.1 (by omega);have h3:=Ce r e hr.2 hd.2 (by omega);have h4:∀(ts:List Tk)(d i:Nat),gG ts i (db d r)→iH ts (i+cS (db d r)) (dP sf)→UD ts i:=by
   intro ts d i hm hs;cases r with
   | nil=>
    obtain⟨t,a1,a2,a3,a4,-⟩:=ek (show iH ts i (dP sf)from hs);exact⟨t,a1,i6 a4 (by decide)⟩
   | cons z q=>
    have hd2:(xG e z || cG e q)=false:=hd.2;rw [Bool.or_eq_false_iff]at hd2;have hr2:(rY z&&h_ q)=true:=hr.2;rw [Bool.and_eq_true]at hr2;have hn2:nY z+cv q≤399:=by
     have:cv (z::q)=nY z+cv q:=J;omega
    obtain⟨t,a1,-,a2⟩:=(Ld z e hr2.1 hd2.1 (by omega)).2 ts d i (dg.1 (show gG ts i (xR d z++db d q)from hm)).1;exact⟨t,a1,a2⟩
  intro ts d i acc g hg hm hs;have hny:cv (y::r)=nY y+cv r:=J;have hny1:1≤nY y:=by
   cases y;show 1≤1+dD _+cv _+cv _;omega
  obtain⟨g,rfl⟩:∃q,g=q+1:=⟨g-1,by omega⟩
  obtain⟨m1,m2⟩:=dg.1 (show gG ts i (xR d y++db d r)from hm);have hs:iH ts (i+cS (xR d y++db d r)) (dP sf):=hs;rw [ey,←Nat.add_assoc]at hs;obtain⟨t,a1,a2,-⟩:=h2 ts d i m1;rw [pC,a1];show(if dh t sf=true then _ else _)=some (acc++dV (y::r),i+cS (xR d y++db d r)+1);rw [ac (by rw [a2];decide),h1 ts d i g (by omega) m1 (h4 ts d _ m2 hs)];show pC ts g (acc++ [C5 y]) (i+cS (xR d y))=_;rw [h3 ts d (i+cS (xR d y)) (acc++ [C5 y]) g (by omega) m2 hs,ey,List.append_assoc,Nat.add_assoc i];rfl
end
theorem F4{ts:List Tk}:∀(l:List Ba)(acc:List Ba)(i g:Nat),l≠ []→l.length≤g→gG ts i (gr l)→iH ts (i+cS (gr l)) (dP gS)→D8 ts g acc i=some (acc++l,i+cS (gr l)+1)
 | [],_,_,_,h,_,_,_=>absurd rfl h
 | x::r,acc,i,g,_,hg,hm,hs=>by
  have hg:r.length+1≤g:=hg;obtain⟨g,rfl⟩:∃q,g=q+1:=⟨g-1,by omega⟩
  by_cases hr:r.length=0
  ·rw [AP hr]at hm hs ⊢;obtain⟨m1,-⟩:=(show iH ts i (uz x)∧True from hm)
   obtain⟨t,a1,a2,a3,-⟩:=oo m1;obtain⟨u,b1,b2,-⟩:=ek (show iH ts (i+1) (dP gS)from hs);rw [D8,a1];show(if t.k=2 then(match ts[i+1]? with|none=>none|some u=>if dh u gS=true then some (acc++ [t.s],i+2)else _)else none)=some (acc++ [x],i+1+1);rw [aj a2,b1];show(if dh u gS=true then _ else _)=_;rw [aj b2,a3]
  ·have ec:gr (x::r)=uz x::dP rq::sp::gr r:=by
    show uz x::(if _ then _ else _)=_;rw [ac hr]
   rw [ec]at hm hs ⊢;rw [uv,de,gw]at hm;obtain⟨m1,m2,m3⟩:=hm;rw [ko,eZ,iP]at hs ⊢;obtain⟨t,a1,a2,a3,-⟩:=oo m1;obtain⟨u,b1,b2,b3,b4,-⟩:=ek m2;rw [D8,a1];show(if t.k=2 then(match ts[i+1]? with|none=>none|some u=>if dh u gS=true then _ else if dh u rq=true then D8 ts g (acc++ [t.s]) (i+2)else none)else none)=_;rw [aj a2,b1];show(if dh u gS=true then _ else if dh u rq=true then _ else _)=_;rw [ac (by rw [i6 b4 (by decide)];decide),aj b2,F4 r (acc++ [t.s]) (i+2) g (fun e=>hr (by rw [e];rfl)) (by omega) m3 (by rw [show i+2+cS (gr r)=i+(cS (gr r)+1+1) by omega];exact hs),a3,List.append_assoc];exact jh (by omega)
theorem M6{ts:List Tk}{l:List Ba}{i:Nat}(hl:l.length≤100)(hm:gG ts i (gr l))(hs:iH ts (i+cS (gr l)) (dP gS)):M7 ts i=some (l,i+cS (gr l)+1):=by
 unfold M7;by_cases h:l= []
 ·subst h;obtain⟨u,b1,b2,-⟩:=ek (show iH ts i (dP gS)from hs);rw [b1];show(if dh u gS=true then _ else _)=_;rw [aj b2];rfl
 ·obtain⟨x,r,rfl⟩:=List.exists_cons_of_ne_nil h;obtain⟨t,a1,a2,-⟩:=oo (show iH ts i (uz x)∧gG ts (i+1) (if r.length=0 then []else dP rq::sp::gr r)from hm).1;rw [a1];show(if dh t gS=true then _ else _)=_;rw [ac (by rw [s6 (by omega)];decide),F4 _ [] i 100 h hl hm hs,List.nil_append]
structure Okf(f:Tf):Prop where
 r:rF f=true
 ps:f.ps.length≤100
 d:cG 1 f.body=false
 n:cv f.body≤300
theorem Na{ts:List Tk}{f:Tf}{i:Nat}(hf:Okf f)(hm:gG ts i (AB f)):OL ts i=some (oh f,i+cS (AB f)):=by
 have hr:=hf.r;unfold rF at hr;rw [Bool.and_eq_true,Bool.and_eq_true]at hr;unfold AB at hm ⊢;rw [de,gw,uv,de,dg,de,gw,de,xM,dg,de]at hm;obtain⟨m1,m2,m3,m4,m5,m6,m7,m8,-⟩:=hm;obtain⟨n,b1,b2,b3,-⟩:=oo m2;have hP:=M6 hf.ps m4 m5;have hB:=Cf (g:=1000) (Ce f.body 1 hr.2 hf.d (by have:=hf.n;omega)) (by have:=hf.n;omega) m6 m7 m8;unfold OL;rw [aj (jJ m1),b1];show(if n.k=2 then(if ol ts (i+2) mh=true then(match M7 ts (i+3)with|none=>none|some (ps,j)=>match pB ts 1000 j with|none=>none|some (b,j2)=>some ((⟨n.s,ps,b⟩:Pf),j2))else none)else none)=_;rw [aj b2,aj (jJ m3),show i+3=i+1+1+1 by omega,hP];show(match pB ts 1000 (i+1+1+1+cS (gr f.ps)+1)with|none=>none|some (b,j2)=>some ((⟨n.s,f.ps,b⟩:Pf),j2))=_;rw [hB,b3];simp only [eZ,ko,iP,ntk_nl,mN,ey,lu];exact jh (by omega)
theorem Lf{ts:List Tk}:∀(fs:List Tf)(acc:List Pf)(i g:Nat),(∀f∈fs,Okf f)→fs.length+1≤g→gG ts i (oT fs)→(∃t,ts[i+cS (oT fs)]?=some t∧t.k=0)→pP ts g acc i=some (acc++fs.map oh)
 | [],acc,i,g,_,hg,_,he=>by
  obtain⟨g,rfl⟩:∃q,g=q+1:=⟨g-1,by omega⟩
  obtain⟨t,a1,a2⟩:=he;rw [pP,show ts[i]?=some t from a1];show(if t.k=0 then some acc else _)=_;rw [aj a2,List.map_nil,List.append_nil]
 | f::r,acc,i,g,hf,hg,hm,he=>by
  have hg:r.length+1+1≤g:=hg;obtain⟨g,rfl⟩:∃q,g=q+1:=⟨g-1,by omega⟩
  obtain⟨m1,m2⟩:=dg.1 (show gG ts i (AB f++oT r)from hm);have he:∃t,ts[i+cS (AB f++oT r)]?=some t∧t.k=0:=he;rw [ey,←Nat.add_assoc]at he;obtain⟨t,a1,a2,a3,a4,-⟩:=ek (de.1 m1).1;rw [pP,a1];show(if t.k=0 then _ else _)=_;rw [ac (by omega),Na (hf f (List.mem_cons_self ..)) m1];show pP ts g (acc++ [oh f]) (i+cS (AB f))=_;rw [Lf r (acc++ [oh f]) _ g (fun x hx=>hf x (List.mem_cons_of_mem _ hx)) (by omega) m2 he,List.append_assoc];rfl
theorem Az{fs:List Tf}(hf:∀f∈fs,Okf f∧GYs f.body)(hl:fs.length≤900):∃ts g,ot (du (oT fs)) g 0 []=some ts∧ts.length≤(oT fs).length+1∧pP ts 1000 [] 0=some (fs.map oh):=by
 have h1:=IR (oT fs) oNil ((oT fs).length+1) [] (B9 fun f h=>⟨(hf f h).1.r,(hf f h).2⟩) (Nat.lt_succ_self _);rw [dz,List.nil_append]at h1;obtain⟨h2,h3⟩:=uw (oT fs) [] 0;rw [List.nil_append]at h2 h3;have h4:∀(l:List Pe)(o:Nat),(uG l o).length≤l.length+1:=by
  intro l
  induction l with
  | nil=>intro o;exact bU _
  | cons p r ih=>
   intro o;have:=ih (o+p.x.size);by_cases h:p.k=0
   ·rw [z_ h,aY];omega
   ·rw [z9 h,aY,aY];omega
 have h5:=Lf fs [] 0 1000 (fun f h=>(hf f h).1) (by omega) h2 (by rw [show([]:List Tk).length=0 from J]at h3;exact h3);exact⟨_,_,h1,h4 _ _,by rw [List.nil_append]at h5;exact h5⟩
def wt:List Pe→Nat
 | []=>0
 | p::r=>p.x.size+1+wt r
theorem gq:∀l m:List Pe,wt (l++m)=wt l+wt m
 | [],m=>by rw [show wt []=0 from rfl,Nat.zero_add];rfl
 | p::r,m=>by
  show p.x.size+1+wt (r++m)=p.x.size+1+wt r+wt m;rw [gq r m];omega
theorem lJ:∀l:List Pe,(du l).size≤wt l∧l.length≤wt l
 | []=>⟨bU _,bU _⟩
 | p::r=>by
  obtain⟨h1,h2⟩:=lJ r;refine⟨?_,?_⟩
  ·show(p.x++du r).size≤p.x.size+1+wt r;rw [bB];omega
  ·show r.length+1≤p.x.size+1+wt r;omega
theorem iG(p:Pe)(r:List Pe):wt (p::r)=p.x.size+1+wt r:=rfl
theorem nI:wt []=0:=rfl
theorem Bo:∀(k n:Nat),n<10^(k+1)→(mz n).size≤k+1
 | 0,n,h=>by
  rw [mz,dif_pos (by omega),vX];exact bU _
 | k+1,n,h=>by
  rw [mz];by_cases q:n<10
  ·rw [dif_pos q,vX];omega
  ·rw [dif_neg q,bB,vX];have:=Bo k (n/10) (by rw [Nat.pow_succ]at h;omega);omega
theorem nT(m:Int)(q:Qx):wt (cu m q)≤wt q.l+4:=by
 unfold cu;split
 ·rw [iG,gq,iG,nI];show 1+1+(wt q.l+(1+1+0))≤_;omega
 ·omega
theorem EV:∀(l:List Tx),(∀t∈l,wt (jB t)+8≤30*nX t)→wt (kD (l.map bR))≤30*dD l
 | [],_=>bn _
 | t::r,h=>by
  have h1:=h t (List.mem_cons_self ..);have h2:=EV r fun u hu=>h u (List.mem_cons_of_mem _ hu)
  have h3:=nT 0 (bR t);show wt (cu 0 (bR t)++(if(r.map bR).length=0 then []else dP rq::sp::kD (r.map bR)))≤30*(nX t+dD r);rw [gq];have h4:wt (if(r.map bR).length=0 then []else dP rq::sp::kD (r.map bR))≤4+wt (kD (r.map bR)):=by
   split
   ·exact bn _
   ·rw [iG,iG];show 1+1+(1+1+_)≤_;omega
  replace h3:wt (cu 0 (bR t))≤wt (jB t)+4:=h3;omega
theorem oc{nm:Ba}(h:bE nm=true):nm.size≤12:=by
 unfold bE at h;simp only [Bool.and_eq_true,decide_eq_true_eq]at h;exact h.1.1.1.2
theorem Lh:∀x∈F9,x.size≤2:=by decide+kernel
theorem KZ:∀x∈rf,x.size≤2:=by decide+kernel
mutual
theorem Mj:∀t:Tx,rX t=true→GX t→wt (jB t)+8≤30*nX t
 | .mk k n nm v kids,hr,hg=>by
  have hr:(jC k nm kids.length&&(decide (k=1) || decide (n=0))&&ji kids)=true:=hr;rw [Bool.and_eq_true,Bool.and_eq_true]at hr;obtain⟨⟨ho,-⟩,hrs⟩:=hr;have hg:oW n∧qz nm∧kids.length≤1000000∧GXs kids:=hg;have ih:=BJ kids hrs hg.2.2.2;have hn:nX (.mk k n nm v kids)=dD kids+1:=J;rw [mg,hn];show wt (vA k n nm (kids.map bR))+8≤30*(dD kids+1);unfold jC at ho;unfold vA;by_cases h1:k=1
  ·rw [aj h1,iG,nI];have:=Bo 9 n.toNat (by have:=hg.1.2;omega)
   show(mz n.toNat).size+1+0+8≤_;omega
  ·rw [ac h1];by_cases h2:k=2
   ·rw [aj h2,iG,nI];rw [ac (by omega),aj h2,Bool.and_eq_true]at ho;have:=oc ho.1;show nm.size+1+0+8≤_;omega
   ·rw [ac h2];by_cases h3:k=3
    ·rw [aj h3,iG,iG,gq,iG,nI];rw [ac (by omega),ac h2,aj h3]at ho;have:=oc ho;have:=EV kids ih;show nm.size+1+(1+1+(_+(1+1+0)))+8≤_;omega
    ·rw [ac h3];by_cases h4:k=4
     ·rw [aj h4,iG,iG,gq,iG,nI];rw [ac (by omega),ac h2,ac h3,aj h4,Bool.and_eq_true,decide_eq_true_eq,decide_eq_true_eq]at ho;obtain⟨a,rfl⟩:=w6 ho.2;have h1:=ih a (List.mem_singleton.2 J);have h2:=nT 0 (bR a);have h3:dD [a]=nX a+0:=J;rw [show([a].map bR).getD 0 pD=bR a from J];replace h2:wt (cu 0 (bR a))≤wt (jB a)+4:=h2;show 3+1+(1+1+(_+(1+1+0)))+8≤_;omega
     ·rw [ac h4];by_cases h5:k=5
      ·rw [aj h5,iG,nI];show 2+1+0+8≤_;omega
      ·rw [ac h5];by_cases h6:k=6
       ·rw [aj h6,iG];rw [ac (by omega),ac h2,ac h3,ac h4,aj h6,Bool.and_eq_true,decide_eq_true_eq]at ho;obtain⟨a,rfl⟩:=w6 ho.2;have h1:=ih a (List.mem_singleton.2 J);have h2:=nT 8 (bR a);have h3:dD [a]=nX a+0:=J;have h4:=KZ nm (np ho.1);rw [show([a].map bR).getD 0 pD=bR a from J];replace h2:wt (cu 8 (bR a))≤wt (jB a)+4:=h2;show nm.size+1+_+8≤_;omega
       ·rw [ac h6];by_cases h7:k=7
        ·rw [ac (by omega),ac h2,ac h3,ac h4,ac h6,aj h7,Bool.and_eq_true,decide_eq_true_eq]at ho;obtain⟨a,b,rfl⟩:=Eh ho.2;have h1:=ih a (List.mem_cons_self ..);have h2:=ih b (List.mem_cons_of_mem _ (List.mem_cons_self ..));have h3:dD [a,b]=nX a+(nX b+0):=J;have h4:=Lh nm (sN ho.1);have h5:=nT (lO nm) (bR a);have h6:=nT (lO nm+1) (bR b);rw [show([a,b].map bR).getD 0 pD=bR a from J,show([a,b].map bR).getD 1 pD=bR b from J,gq,iG,iG,iG];replace h5:wt (cu (lO nm) (bR a))≤wt (jB a)+4:=h5;replace h6:wt (cu (lO nm+1) (bR b))≤wt (jB b)+4:=h6;show _+(1+1+(nm.size+1+(1+1+_)))+8≤_;omega
        ·rw [ac (by omega),ac h2,ac h3,ac h4,ac h6,ac h7]at ho;cases ho
theorem BJ:∀l:List Tx,ji l=true→GXs l→∀t∈l,wt (jB t)+8≤30*nX t
 | [],_,_,_,h=>by cases h
 | x::r,hr,hg,u,hu=>by
  have hr:(rX x&&ji r)=true:=hr;rw [Bool.and_eq_true]at hr;have hg:GX x∧GXs r:=hg;rcases List.mem_cons.1 hu with e|hu
  ·rw [e];exact Mj x hr.1 hg.1
  ·exact BJ r hr.2 hg.2 u hu
end
theorem Sp{d:Nat}(hd:d≤8){k:Int}{nm:Ba}{es:List Tx}{b e:List Pe}{ne nb nl n1 n2:Nat}(ho:n_ k nm es.length nb nl=true)(he:∀t∈es,wt (jB t)+8≤30*nX t)(hb:wt b≤75*n1)(hl:wt e≤75*n2):wt (uO d k nm (es.map bR) b ne e)≤75*(1+dD es+n1+n2):=by
 unfold n_ at ho;simp only [Bool.and_eq_true,decide_eq_true_eq]at ho;obtain⟨⟨⟨⟨⟨o1,o2⟩,o3⟩,o4⟩,o5⟩,o6⟩:=ho;have hi:=si d;unfold uO;rw [iG];show(iw d).size+1+_≤_;by_cases h3:k=3
 ·subst h3;rw [aj J]at o3;obtain⟨a,c,rfl⟩:=Eh o3;have h1:=he a (List.mem_cons_self ..);have h2:=he c (List.mem_cons_of_mem _ (List.mem_cons_self ..));have h3:dD [a,c]=nX a+(nX c+0):=J;have h5:=nT 0 (bR a);have h6:=nT 0 (bR c);replace h5:wt (cu 0 (bR a))≤wt (jB a)+4:=h5;replace h6:wt (cu 0 (bR c))≤wt (jB c)+4:=h6;rw [ac (by decide),ac (by decide),aj J,show([a,c].map bR).getD 0 pD=bR a from J,show([a,c].map bR).getD 1 pD=bR c from J];simp only [iG,gq,nI];show _+(3+1+(1+1+(_+(1+1+(1+1+(1+1+(1+1+(_+(1+1+(1+1+0))))))))))≤_;omega
 ·rw [ac h3]at o3;obtain⟨a,rfl⟩:=w6 o3;have h1:=he a (List.mem_singleton.2 J);have h6:dD [a]=nX a+0:=J;have h5:=nT 0 (bR a);replace h5:wt (cu 0 (bR a))≤wt (jB a)+4:=h5;rw [show([a].map bR).getD 0 pD=bR a from J];by_cases h1:k=1
  ·subst h1;have hn:bE nm=true:=o4;have:=oc hn;rw [aj J];simp only [iG,gq,nI];show _+(3+1+(1+1+(nm.size+1+(1+1+(1+1+(1+1+(_+(1+1+(1+1+0)))))))))≤_;omega
  ·rw [ac h1];by_cases h2:k=2
   ·subst h2;have hn:bE nm=true:=o4;have:=oc hn;rw [aj J];simp only [iG,gq,nI];show _+(nm.size+1+(1+1+(1+1+(1+1+(_+(1+1+(1+1+0)))))))≤_;omega
   ·rw [ac h2,ac h3];by_cases h4:k=4
    ·rw [aj h4];have hq:wt (if ne=0 then []else sp::dP iJ::sp::dP EM::xS::(e++ [Lz d,dP sf]))≤34+wt e:=by
      split
      ·exact bn _
      ·simp only [iG,gq,nI];show 1+1+(4+1+(1+1+(1+1+(1+1+(_+((iw d).size+1+(1+1+0)))))))≤_;omega
     simp only [iG,gq,nI];show _+(2+1+(1+1+(_+(1+1+(1+1+(1+1+(_+((iw d).size+1+(1+1+(_+(1+1+0)))))))))))≤_;omega
    ·rw [ac h4];by_cases h5:k=5
     ·rw [aj h5];simp only [iG,gq,nI];show _+(5+1+(1+1+(_+(1+1+(1+1+(1+1+(_+((iw d).size+1+(1+1+(1+1+0))))))))))≤_;omega
     ·rw [ac h5];by_cases h6:k=6
      ·rw [aj h6];simp only [iG,gq,nI];show _+(6+1+(1+1+(_+(1+1+(1+1+0)))))≤_;omega
      ·rw [ac h6];by_cases h7:k=7
       ·rw [aj h7];simp only [iG,gq,nI];show _+(3+1+(1+1+(_+(1+1+(1+1+0)))))≤_;omega
       ·rw [ac h7];simp only [iG,gq,nI];show _+(_+(1+1+(1+1+0)))≤_;omega
mutual
theorem So:∀(y:Ty)(d:Nat),rY y=true→GY y→xG d y=false→wt (xR d y)≤75*nY y
 | .mk k nm ve es vb body vl els,d,hr,hg,hd=>by
  have hr:(n_ k nm es.length body.length els.length&&ji es&&h_ body&&h_ els)=true:=hr;rw [Bool.and_eq_true,Bool.and_eq_true,Bool.and_eq_true]at hr;obtain⟨⟨⟨ho,h1⟩,h2⟩,h3⟩:=hr;have hd:(decide (d>8) || decide (f_ es>8) || cG (d+1) body || cG (d+1) els)=false:=hd;rw [Bool.or_eq_false_iff,Bool.or_eq_false_iff,Bool.or_eq_false_iff,decide_eq_false_iff_not,decide_eq_false_iff_not]at hd;obtain⟨⟨⟨d0,d1⟩,d2⟩,d3⟩:=hd;have hg:qz nm∧(es.length≤1000000∧GXs es)∧(body.length≤1000000∧GYs body)∧(els.length≤1000000∧GYs els):=hg;exact Sp (by omega) ho (BJ es h1 hg.2.1.2) (xY body (d+1) h2 hg.2.2.1.2 d2) (xY els (d+1) h3 hg.2.2.2.2 d3)
theorem xY:∀(l:List Ty)(d:Nat),h_ l=true→GYs l→cG d l=false→wt (db d l)≤75*cv l
 | [],_,_,_,_=>bn _
 | y::r,d,hr,hg,hd=>by
  have hr:(rY y&&h_ r)=true:=hr;rw [Bool.and_eq_true]at hr;have hg:GY y∧GYs r:=hg;have hd:(xG d y || cG d r)=false:=hd;rw [Bool.or_eq_false_iff]at hd;have h1:=So y d hr.1 hg.1 hd.1;have h2:=xY r d hr.2 hg.2 hd.2;show wt (xR d y++db d r)≤75*(nY y+cv r);rw [gq];omega
end
theorem zT:∀{l:List Ba},(∀x∈l,bE x=true)→wt (gr l)≤17*l.length
 | [],_=>bn _
 | x::r,h=>by
  have h1:=oc (h x (List.mem_cons_self ..));have h2:=zT (l:=r) fun y hy=>h y (List.mem_cons_of_mem _ hy)
  have h4:wt (if r.length=0 then []else dP rq::sp::gr r)≤4+wt (gr r):=by
   split
   ·exact bn _
   ·rw [iG,iG];show 1+1+(1+1+_)≤_;omega
  show x.size+1+wt (if r.length=0 then []else dP rq::sp::gr r)≤17*(r.length+1);omega
theorem Sq{f:Tf}(hf:Okf f)(hg:GYs f.body)(hp:f.ps.length≤4):wt (AB f)≤105+75*cv f.body:=by
 have hr:=hf.r;unfold rF at hr;rw [Bool.and_eq_true,Bool.and_eq_true,List.all_eq_true]at hr;obtain⟨⟨h1,h2⟩,h3⟩:=hr;have a1:=zT h1;have a2:=oc h2;have a3:=xY f.body 1 h3 hg hf.d;unfold AB;simp only [iG,gq,nI];show 2+1+(1+1+(f.name.size+1+(1+1+(_+(1+1+(1+1+(1+1+(1+1+(_+(1+1+(1+1+0)))))))))))≤_;omega
theorem lz(l:Array UInt8):(⟨l⟩:Ba).size=l.size:=rfl
theorem FJ{s:Ba}{l:List (List Ba)}{i:Nat}{x:List Ba}(h:l[i]?=some x)(k:Int):Pz s (l.drop i) k=if cx s x=true then k else Pz s (l.drop (i+1)) (k+1):=by
 obtain⟨hi,rfl⟩:=cU.1 h;rw [List.drop_eq_getElem_cons hi];rfl
theorem F1{P:Program}{N:Nat}{w0:World}{M H:Nat→Prop}{E:ft}{Γ R:eD}{S U:TypeId}{x:Operand}{v:SV}(hS:P.underlying S=some (.slice U))(hx:ev E x=some (sv v)):PR P N w0 M H E Γ R (.call {callee:= .builtin .len,args:= #[x],argTypes:= #[S]}) (I6 (v.n:Int)):=
 fun _ _ _ a w hE hC _ _=>by simp [execOp,resolve,invoke,builtin,hE.ev hx,sv,Builtin.len_,run_underlying hS,goInt]
theorem PZ{α:Type}{T:TypeId}{s:Nat}{enc:α→List Value}{v:SV}{l:List α}(w:World)(G:Nat→Prop)(h:(own T s enc (sv v) l).pred w G):v.n=l.length:=by
 obtain⟨c,h1,h2,h3⟩:=wQ h;rcases h3 with⟨rfl,_,h⟩|⟨b,o,h,_⟩
 ·unfold sv at h;injection h with h1 h2 h3
 ·unfold sv at h;injection h with h1 h2 h3
theorem Oa{n:Nat}(h:10≤n):mz n=mz (n/10)++d1 n:=by rw [mz,dif_neg (by omega)]
theorem Hv(n:Nat)(hn:n<4294967296)(ih:10≤n→Spec prog 193 [I3 ((n/10:Nat):Int)] [] [] (X:=Unit) (fun _=>True) (fun _=>Sg (mz (n/10))) (fun _=> []) (fun _=> [])):
  aW prog 193 [I3 (n:Int)] [] [] (Sg (mz n)) []:=by
 refine aI func193 J ntmps193 J fun w0 M H=> ?_
 have hs1:=vX n;have hs2:=Bo 9 (n/10) (by omega);refine aq (am J (az J (ad J (ar J J (k8 (c:=((n%10:Nat):Int)) (by decide) (by rw [Int.tmod_eq_emod_of_nonneg (by omega)];omega)) (ar J J (co (by exact cc (by omega))) (aP (cw underlying41 underlying5 J (by first|exact Dz (by omega) (by omega)|rfl)) (bq cn (48+((n%10:Nat):Int)) underlying84 t5 J (by decide) (by decide) J J J J fun v8=>aP (Cc underlying84 underlying5 underlying9 J (bh (k:=8) J) (by simp)) (am J (aa (aU (ad J (ar J J cy (aa ?_)))))))))))));refine ap J (fun h1=> ?_) (fun h1=> ?_)
 ·(try simp only [bl]at h1);have hn10:n<10:=by omega
  refine aq (ad J (am J (aa (ay (aN () O J (ce (aL J)) (by rw [mz,dif_pos hn10];rfl) [] [] J J J)))))
 ·(try simp only [bl]at h1);have hn10:10≤n:=by omega
  refine aC (aq (ad J (ar J J (ml (c:=((n/10:Nat):Int)) (by decide) (by rw [Int.tdiv_eq_ediv_of_nonneg (by omega),cc (by omega)];omega)) (ai (xs:= [.tmp 14]) (ih hn10) LL [] [] [] (fun _ _=>ad J (ar J J (bO (b:=d1 n) (by omega)) (am J (aa (ay (aN () O J (ce (aL J)) (congrArg Value.string (Oa hn10).symm) [] [] J J J))))))))))
theorem C_:∀(g n:Nat),n<g→n<4294967296→aW prog 193 [I3 (n:Int)] [] [] (Sg (mz n)) []
 | g+1,n,hg,hn=>Hv n hn fun h=>C_ g (n/10) (by omega) (by omega)
theorem Hw(n:Int)(hn:oW n):aW prog 193 [I3 n] [] [] (Sg (mz n.toNat)) []:=by
 have:=C_ (n.toNat+1) n.toNat (Nat.lt_succ_self _) (by have:=hn.2;omega)
 rw [Int.toNat_of_nonneg hn.1]at this;exact this
theorem kU(n:Nat)(hn:n≤1000):
  aW prog 143 [I6 (n:Int)] [] [] (Sg (iw n)) []:=by
 refine aI func143 J ntmps143 J fun w0 M H=>aq (am J (az J (am J (aa (aU (am J (aa (aA (bJ (X:=Nat) (fun i=>i≤n) (fun i=> [(0,I6 (n:Int)),(3,Sg (iw i)),(4,I6 (i:Int))]) (fun i=> []) (fun i=> []) (fun i=>n-i) 0 (bn _) J J J (fun i hi0=>aU (ad J ?_)))))))))))
 refine ad J (ar J J cy (aa (ap J (fun h1=> ?_) (fun h1=> ?_))))
 ·(try simp only [bl]at h1);have hi:i<n:=by omega
  refine aC (be (aA (ak (ad J (ar J J (bO (by rw [si,lz,List.size_toArray];simp only [aY,aS];omega)) (am J (aa (ak (ad J (ar J J aK (am J (aa ?_))))))))))));refine aG (i+1) ⟨by omega,by omega⟩ J J J
 ·(try simp only [bl]at h1);have hi:i=n:=by omega
  subst hi;refine bL (aq (ad J (am J (aa (ay (aN () O J (ce (aL J)) J [] [] J J J))))))
theorem uT:
  Spec prog 21 [] [] [] (X:=SV×List (SV×List Ba)) (fun x=>x.1.n=8) (fun x=>sv x.1) (fun x=> [Gz x.1 x.2]) (fun _=> []):=by
 refine aI func21 J ntmps21 J fun w0 M H=>aq (am J (az J (bq eS kK underlying46 t9 J (by decide) (by decide) J J J J fun v1=>bq eS fw underlying46 t9 J (by decide) (by decide) J J J J fun v2=>bq eS fo underlying46 t9 J (by decide) (by decide) J J J J fun v3=>cI eS [nR,nO] (parts:= [(0,.const (Sg (ByteArray.mk #[61,61]))),(1,.const (Sg (ByteArray.mk #[33,61])))]) underlying46 t9 J (by decide) (by intro _;rfl) J (by decide) (by decide) J J J J fun v4=>cI eS [mx,nP,nQ,oU] (parts:= [(0,.const (Sg (ByteArray.mk #[60]))),(1,.const (Sg (ByteArray.mk #[60,61]))),(2,.const (Sg (ByteArray.mk #[62]))),(3,.const (Sg (ByteArray.mk #[62,61])))]) underlying46 t9 J (by decide) (by intro _;rfl) J (by decide) (by decide) J J J J fun v5=>cI eS [gQ,ib] (parts:= [(0,.const (Sg (ByteArray.mk #[60,60]))),(1,.const (Sg (ByteArray.mk #[62,62])))]) underlying46 t9 J (by decide) (by intro _;rfl) J (by decide) (by decide) J J J J fun v6=>cI eS [gg,dU] (parts:= [(0,.const (Sg (ByteArray.mk #[43]))),(1,.const (Sg (ByteArray.mk #[45])))]) underlying46 t9 J (by decide) (by intro _;rfl) J (by decide) (by decide) J J J J fun v7=>cI eS [gT,la,lR] (parts:= [(0,.const (Sg (ByteArray.mk #[42]))),(1,.const (Sg (ByteArray.mk #[47]))),(2,.const (Sg (ByteArray.mk #[37])))]) underlying46 t9 J (by decide) (by intro _;rfl) J (by decide) (by decide) J J J J fun v8=>cI eQ (JN v1 v2 v3 v4 v5 v6 v7 v8) (parts:= [(0,.tmp 1),(1,.tmp 2),(2,.tmp 3),(3,.tmp 4),(4,.tmp 5),(5,.tmp 6),(6,.tmp 7),(7,.tmp 8)]) underlying44 jT J (by decide) (by intro _;rfl) J (by decide) (by decide) J J J J fun v9=>am J (aa (ay (Jh (k:=9) J PZ fun h8=> ?_))))))
 refine bz 60 [1,2,3,4,5,6,7,8,9] (C:=Gz v9 (JN v1 v2 v3 v4 v5 v6 v7 v8)) J Gy (aN (v9,JN v1 v2 v3 v4 v5 v6 v7 v8) h8 J (ce (aL J)) J [60] [] J J J)
theorem oE(s:Ba):
  aW prog 173 [Sg s] [] [] (I6 (lO s)) []:=by
 refine aI func173 J ntmps173 J fun w0 M H=>aq (am J (az J (ai (xs:= []) lS KH [] [] [60] (fun⟨v6,ls⟩ hls=> ?_))))
 dsimp only at hls ⊢;have hll:ls.length=8:=by have h:=congrArg List.length hls;rw [List.length_map]at h;exact h
 refine cK 60 20 J (fun _ _ h=>h) (a_ 20 21 J Gw (am J (aa (aU (am J (aa (aA (bJ (X:=Nat) (fun i=>i≤ls.length∧lO s=Pz s (rlv.drop i) (i:Int)) (fun i=> [(0,Sg s),(3,sv v6),(4,I6 (i:Int))]) (fun i=> []) (fun i=> [(20,Gz v6 ls),(21,sl 1 eQ (sv v6) ls)]) (fun i=>ls.length-i) 0 ⟨bn _,J⟩ J J J (fun i hx0=> ?_)))))))));obtain⟨n1,n2⟩:=hx0;refine aU (ad J (ad J (aP (aT underlying44 J (aJ (k:=21) J)) (ar J J cy (aa (ap J (fun h1=> ?_) (fun h1=> ?_)))))))
 ·(try simp only [bl]at h1);have hi:i<ls.length:=by omega
  obtain⟨p,hx⟩:∃k,ls[i]?=some k:=⟨_,bQ hi⟩
  have hpm:=bV hx;have hpr:rlv[i]?=some p.2:=by rw [←hls,List.getElem?_map,hx];rfl
  have hrd:=FJ (s:=s) hpr (i:Int);have hpl:p.2.length≤1000000:=by
   have h:p.2∈rlv:=by rw [←hls];exact List.mem_map_of_mem hpm
   simp only [rlv,List.mem_cons,List.not_mem_nil,or_false]at h;rcases h with h|h|h|h|h|h|h|h<;>rw [h]<;>decide
  refine aC (be (aA (aq (ad J (ad J (ad J (aP (aO (j:=i) underlying44 jT J J (aJ (k:=21) J) (by first|rfl|omega) (by first|omega|(simp;done)|(simp;omega))) (aP (ag jT J J (bF (aJ (k:=21) J) (by intro _;rfl) hx (by rfl))) (a_ 20 22 J (Gx hpm) (ai (xs:= [.tmp 13,.tmp 17]) (l7 s p.1 p.2 hpl) HP [] [(false,22)] [] (fun _ _=>am J (az J (ad J (aa (ap J (fun h2=> ?_) (fun h2=> ?_))))))))))))))))
  ·have hct:cx s p.2=true:=h2;refine aq (ad J (am J (aa (ay (aN () O J (ce (aL J)) (by rw [n2,hrd,aj hct]) [] [] J J J)))))
  ·have hcf:cx s p.2=false:=h2;refine aC (ak (ad J (ar J J aK (am J (aa ?_)))));refine aG (i+1) ⟨⟨by omega,by rw [n2,hrd,ac (by rw [hcf];decide)];rfl⟩,by omega⟩ J J J
 ·(try simp only [bl]at h1);have hi:i=ls.length:=by omega
  have hi8:i=8:=by omega
  subst hi8;refine bL (aq (am J (aa (ay (aN () O J (ce (aL J)) (by rw [n2];rfl) [] [] J J J)))))
mutual
def uX:Px→Tx
 | .mk k n nm kids=> .mk k n nm bc (K0 kids)
def K0:List Px→List Tx
 | []=> []
 | t::r=>uX t::K0 r
end
mutual
def uY:Py→Ty
 | .mk k nm es body els=> .mk k nm bc (K0 es) bc (lK body) bc (lK els)
def lK:List Py→List Ty
 | []=> []
 | t::r=>uY t::lK r
end
def uF(f:Pf):Tf:=⟨f.name,bc,f.ps,bc,lK f.body⟩
abbrev cX(t:Tx):Tx:=uX (iD t)
abbrev lD(l:List Tx):List Tx:=K0 (gE l)
abbrev cY(t:Ty):Ty:=uY (C5 t)
abbrev iV(l:List Ty):List Ty:=lK (dV l)
abbrev cF(f:Tf):Tf:=uF (oh f)
theorem jY:∀l:List Tx,(lD l).length=l.length
 | []=>rfl
 | t::r=>congrArg (· +1) (jY r)
theorem jm:∀l:List Ty,(iV l).length=l.length
 | []=>rfl
 | t::r=>congrArg (· +1) (jm r)
mutual
theorem SU:∀t:Tx,rX (cX t)=rX t
 | .mk k n nm v kids=>by
  show(jC k nm (lD kids).length&&(decide (k=1) || decide (n=0))&&ji (lD kids))=_;rw [jY,FP kids];rfl
theorem FP:∀l:List Tx,ji (lD l)=ji l
 | []=>rfl
 | t::r=>by show(rX (cX t)&&ji (lD r))=(rX t&&ji r);rw [SU t,FP r]
end
mutual
theorem SQ:∀t:Ty,rY (cY t)=rY t
 | .mk k nm ve es vb body vl els=>by
  show(n_ k nm (lD es).length (iV body).length (iV els).length&&ji (lD es)&&h_ (iV body)&&h_ (iV els))=_;rw [jY,jm,jm,FP es,B4 body,B4 els];rfl
theorem B4:∀l:List Ty,h_ (iV l)=h_ l
 | []=>rfl
 | t::r=>by show(rY (cY t)&&h_ (iV r))=(rY t&&h_ r);rw [SQ t,B4 r]
end
mutual
theorem Ti:∀t:Tx,nX (cX t)=nX t
 | .mk k n nm v kids=>by show dD (lD kids)+1=_;rw [Gm kids];rfl
theorem Gm:∀l:List Tx,dD (lD l)=dD l
 | []=>rfl
 | t::r=>by show nX (cX t)+dD (lD r)=nX t+dD r;rw [Ti t,Gm r]
end
mutual
theorem T4:∀t:Tx,dX (cX t)=dX t
 | .mk k n nm v kids=>by show f_ (lD kids)+1=_;rw [HG kids];rfl
theorem HG:∀l:List Tx,f_ (lD l)=f_ l
 | []=>rfl
 | t::r=>by show max (dX (cX t)) (f_ (lD r))=max (dX t) (f_ r);rw [T4 t,HG r]
end
mutual
theorem Th:∀t:Ty,nY (cY t)=nY t
 | .mk k nm ve es vb body vl els=>by show 1+dD (lD es)+cv (iV body)+cv (iV els)=_;rw [Gm,tx body,tx els];rfl
theorem tx:∀l:List Ty,cv (iV l)=cv l
 | []=>rfl
 | t::r=>by show nY (cY t)+cv (iV r)=nY t+cv r;rw [Th t,tx r]
end
mutual
theorem Sw:∀t:Ty,vY (cY t)=vY t
 | .mk k nm ve es vb body vl els=>by show(if k=1 then 1 else 0)+dW (iV body)+dW (iV els)=_;rw [BN body,BN els];rfl
theorem BN:∀l:List Ty,dW (iV l)=dW l
 | []=>rfl
 | t::r=>by show vY (cY t)+dW (iV r)=vY t+dW r;rw [Sw t,BN r]
end
mutual
theorem QJ:∀(d:Nat)(t:Ty),xG d (cY t)=xG d t
 | d,.mk k nm ve es vb body vl els=>by show(decide (d>8) || decide (f_ (lD es)>8) || cG (d+1) (iV body) || cG (d+1) (iV els))=_;rw [HG,xF _ body,xF _ els];rfl
theorem xF:∀(d:Nat)(l:List Ty),cG d (iV l)=cG d l
 | d,[]=>rfl
 | d,t::r=>by show(xG d (cY t) || cG d (iV r))=(xG d t || cG d r);rw [QJ d t,xF d r]
end
theorem sL(fs:List Tf)(x:Ba):cV (fs.map cF) x=(cV fs x).map cF:=by
 unfold cV;rw [List.find?_map];rfl
theorem QE(fs:List Tf)(x:Ba):Bd (fs.map cF) x=Bd fs x:=by
 unfold Bd zO;rw [List.findIdx?_map];rfl
mutual
theorem T3(fs:List Tf)(ns:List Ba):∀t:Tx,eX (fs.map cF) ns (cX t)=eX fs ns t
 | .mk k n nm v kids=>by
  rw [show cX (.mk k n nm v kids)= .mk k n nm bc (lD kids)from J,eX,eX,Hq fs ns kids,sL,jY];cases cV fs nm<;>rfl
theorem Hq(fs:List Tf)(ns:List Ba):∀l:List Tx,jH (fs.map cF) ns (lD l)=jH fs ns l
 | []=>by show jH _ ns []=_;rw [jH,jH]
 | t::r=>by
  rw [show lD (t::r)=cX t::lD r from J,jH,jH,T3 fs ns t,Hq fs ns r]
end
mutual
theorem Uz(fs:List Tf):∀(t:Ty)(ns:List Ba),bY (fs.map cF) ns (cY t)=bY fs ns t
 | .mk k nm ve es vb body vl els,ns=>by
  rw [show cY (.mk k nm ve es vb body vl els)= .mk k nm bc (lD es) bc (iV body) bc (iV els)from J,bY,bY];simp only [Dr fs body,Dr fs els,Hq]
theorem Dr(fs:List Tf):∀(l:List Ty)(ns:List Ba),dK (fs.map cF) ns (iV l)=dK fs ns l
 | [],ns=>by show dK _ ns []=_;rw [dK,dK]
 | t::r,ns=>by
  rw [show iV (t::r)=cY t::iV r from J,dK,dK];simp only [Uz fs t,Dr fs r]
end
theorem Of(fs:List Tf)(f:Tf):mW (fs.map cF) (cF f)=mW fs f:=by
 unfold mW;show fst (if f.ps.length>4∨f.ps.length+dW (iV f.body)>12∨cv (iV f.body)>400∨cG 1 (iV f.body)=true then 2 else 0) (fst (vW [] f.ps) (dK (fs.map cF) f.ps (iV f.body)).2)=_;rw [BN,tx,xF,Dr]
theorem Df(fs:List Tf):∀l:List Tf,iE (fs.map cF) (l.map cF)=iE fs l
 | []=>rfl
 | f::r=>by
  rw [List.map_cons,iE,iE,Of,Df fs r]
theorem SW(fs:List Tf):rP (fs.map cF)=rP fs:=by
 unfold rP;rw [List.all_map]
 congr 1
 funext f;show(f.ps.all bE&&bE f.name&&h_ (iV f.body))=_;rw [B4];rfl
theorem Nj(fs:List Tf):once (fs.map cF)=once fs:=by
 unfold once;rw [List.length_map]
 congr 1
 funext i;have:((fs.map cF).getD i ⟨oNil,bc,[],bc,[]⟩).name=(fs.getD i ⟨oNil,bc,[],bc,[]⟩).name:=by
  rw [List.getD_eq_getElem?_getD,List.getD_eq_getElem?_getD,List.getElem?_map];cases fs[i]?<;>rfl
 rw [this,QE]
theorem wb(fs:List Tf):jP (fs.map cF)=jP fs:=by
 unfold jP;rw [SW,Nj,List.length_map,sL,Df];cases cV fs eq<;>rfl
theorem yQ:∀fs:List Tf,jx (fs.map cF)=jx fs
 | []=>rfl
 | f::r=>by
  show cv (iV f.body)+jx (r.map cF)=_;rw [tx,yQ r];rfl
mutual
theorem UN:∀t:Tx,GX (cX t)→GX t
 | .mk k n nm v kids,h=>⟨h.1,h.2.1,by have:=h.2.2.1;rwa [jY]at this,It kids h.2.2.2⟩
theorem It:∀l:List Tx,GXs (lD l)→GXs l
 | [],_=>trivial
 | t::r,h=>⟨UN t h.1,It r h.2⟩
end
mutual
theorem UK:∀t:Ty,GY (cY t)→GY t
 | .mk k nm ve es vb body vl els,h=>⟨h.1,⟨by have:=h.2.1.1;rwa [jY]at this,It es h.2.1.2⟩,⟨by have:=h.2.2.1.1;rwa [jm]at this,Dw body h.2.2.1.2⟩,⟨by have:=h.2.2.2.1;rwa [jm]at this,Dw els h.2.2.2.2⟩⟩
theorem Dw:∀l:List Ty,GYs (iV l)→GYs l
 | [],_=>trivial
 | t::r,h=>⟨UK t h.1,Dw r h.2⟩
end
theorem R9{fs:List Tf}(h:GP (fs.map cF)):GP fs:=by
 refine⟨by have:=h.1;rwa [List.length_map]at this,fun f hf=> ?_⟩;obtain⟨h1,h2,h3,h4,h5,h6⟩:=h.2 (cF f) (List.mem_map_of_mem hf);refine⟨h1,h2,h3,?_,Dw f.body h5,?_⟩
 ·have:(iV f.body).length≤1000000:=h4
  rwa [jm]at this
 ·have:f.ps.length+cv (iV f.body)≤1000000:=h6
  rwa [tx]at this
theorem vE{fs:List Tf}{ps:List Pf}(h:fs.map oh=ps):fs.map cF=ps.map uF:=by
 rw [←h,List.map_map];rfl
def Vz(fs:List Tf)(g:Nat):Prop:=
 (∀d vs t s,lX g (fs.map cF) d vs (cX t) s=lX g fs d vs t s)∧(∀d vs acc l s,my g (fs.map cF) d vs acc (lD l) s=my g fs d vs acc l s)∧
 (∀d f al s,u0 g (fs.map cF) d (cF f) al s=u0 g fs d f al s)∧(∀d vs l s,nS g (fs.map cF) d vs (iV l) s=nS g fs d vs l s)∧
 (∀d vs t s,rT g (fs.map cF) d vs (cY t) s=rT g fs d vs t s)∧(∀d vs t l v s,uZ g (fs.map cF) d vs (cX t) (iV l) v s=uZ g fs d vs t l v s)
theorem QF(fs:List Tf):∀g,Vz fs g
 | 0=>⟨fun _ _ _ _=>by rw [lX,lX],fun _ _ _ _ _=>by rw [my,my],fun _ _ _ _=>by rw [u0,u0],fun _ _ _ _=>by rw [nS,nS],fun _ _ _ _=>by rw [rT,rT],fun _ _ _ _ _ _=>by rw [uZ,uZ]⟩
 | g+1=>by
  obtain⟨hX,hK,hC,hB,hS,hW⟩:=QF fs g;refine⟨fun d vs t s=> ?_,fun d vs acc l s=> ?_,fun d f al s=> ?_,fun d vs l s=> ?_,fun d vs t s=> ?_,fun d vs t l v s=> ?_⟩
  ·cases t with
   | mk k n nm v kids=>
    rw [show cX (.mk k n nm v kids)= .mk k n nm bc (lD kids)from J,lX,lX];dsimp only [Tx.kids,Tx.kind,Tx.name,Tx.n];rw [hK,sL];split
    ·rfl
    ·cases my g fs d vs [] kids {s with fuel:=s.fuel-1}with
     | none=>rfl
     | some q=>
      cases q with
      | err e=>rfl
      | ok ks s1=>
       dsimp only
       iterate 6 refine ite_congr rfl (fun _=>rfl) (fun _=> ?_)
       cases cV fs nm with
       | none=>rfl
       | some f=>exact hC _ _ _ _
  ·cases l with
   | nil=>show my (g+1) _ d vs acc [] s=_;rw [my,my]
   | cons t r=>
    rw [show lD (t::r)=cX t::lD r from J,my,my,hX];cases lX g fs d vs t s with
    | none=>rfl
    | some r=>
     cases r with
     | err e=>rfl
     | ok v s1=>exact hK _ _ _ _ _
  ·rw [u0,u0];show(if d=12 then some (Re.err 26)else match nS g (fs.map cF) (d+1) (jK [] f.ps al) (iV f.body) s with|none=>none|some (.err e)=>some (.err e)|some (.ok (_,r) s1)=>some (.ok (r.getD 0) s1))=_;rw [hB];rfl
  ·cases l with
   | nil=>show nS (g+1) _ d vs [] s=_;rw [nS,nS]
   | cons t r=>
    rw [show iV (t::r)=cY t::iV r from J,nS,nS,hS];cases rT g fs d vs t s with
    | none=>rfl
    | some q=>
     cases q with
     | err e=>rfl
     | ok v s1=>
      obtain⟨vs1,o⟩:=v;cases o with
      | none=>exact hB _ _ _ _
      | some x=>rfl
  ·cases t with
   | mk k nm ve es vb body vl els=>
    rw [show cY (.mk k nm ve es vb body vl els)= .mk k nm bc (lD es) bc (iV body) bc (iV els)from J,rT,rT];dsimp only [Ty.es,Ty.kind,Ty.name,Ty.body,Ty.els];split
    ·rfl
    ·cases es with
     | nil=>rfl
     | cons e es=>
      rw [show lD (e::es)=cX e::lD es from J];dsimp only;rw [hX];cases lX g fs d vs e {s with fuel:=s.fuel-1}with
      | none=>rfl
      | some q=>
       cases q with
       | err e=>rfl
       | ok v s1=>
        dsimp only;refine ite_congr J (fun _=>J) (fun _=>ite_congr J (fun _=> ?_) (fun _=>ite_congr J (fun _=> ?_) (fun _=>ite_congr J (fun _=> ?_) (fun _=>J))))
        ·cases es with
         | nil=>rfl
         | cons e2 es2=>
          rw [show lD (e2::es2)=cX e2::lD es2 from J];dsimp only;rw [hX]
        ·by_cases hv:v=0
         ·rw [aj hv,aj hv];exact hB _ _ _ _
         ·rw [ac hv,ac hv];exact hB _ _ _ _
        ·exact hW _ _ _ _ _ _
  ·rw [uZ,uZ];split
   ·rfl
   ·rw [hB];cases nS g fs d vs l s with
    | none=>rfl
    | some q=>
     cases q with
     | err e=>rfl
     | ok v s1=>
      obtain⟨vs1,o⟩:=v;cases o with
      | some x=>rfl
      | none=>
       show(match lX g (fs.map cF) d vs1 (cX t) s1 with|none=>none|some (Re.err e)=>some (Re.err e)|some (Re.ok w s2)=>uZ g (fs.map cF) d vs1 (cX t) (iV l) w s2)=(match lX g fs d vs1 t s1 with|none=>none|some (Re.err e)=>some (Re.err e)|some (Re.ok w s2)=>uZ g fs d vs1 t l w s2);rw [hX];cases lX g fs d vs1 t s1 with
       | none=>rfl
       | some q=>
        cases q with
        | err e=>rfl
        | ok w s2=>exact hW _ _ _ _ _ _
theorem Pv{fs:List Tf}{ins:List Int}{fuel:Int}{ru:Ru}(h:RunIs (fs.map cF) ins fuel ru):RunIs fs ins fuel ru:=by
 cases h with
 | bad h=>
  rw [wb]at h ⊢;exact .bad h
 | run f g r h hf he=>
  rw [wb]at h;rw [sL]at hf;cases hq:cV fs eq with
  | none=>rw [hq]at hf;cases hf
  | some f0=>
   rw [hq]at hf;have hf:cF f0=f:=dY hf;subst hf;rw [(QF fs g).2.2.1]at he;exact .run f0 g r h hq he
def ME:Ba:=(⟨#[102,110,32,109,97,105,110,40,41,32,123,32,111,117,116,32,105,110,32,45,32,105,110,32,42,32,50,59,32,111,117,116,32,49,32,60,32,50,59,32,125]⟩:Ba)
def ts0:List Tk:=(ot ME 200 0 []).getD []
def pg0:List Pf:=(pP ts0 1000 [] 0).getD []
theorem Ve:ot ME 200 0 []=some ts0:=by kernel_rfl
theorem U9:pP ts0 1000 [] 0=some pg0:=by kernel_rfl
theorem Vb:ts0.length≤20000:=Nat.le_of_ble_eq_true (by kernel_rfl)
def MD:Ba:=(⟨#[102,110,32,109,97,105,110,40,41,32,123,32,109,101,109,91,50,53,55,93,32,61,32,57,59,32,111,117,116,32,109,101,109,91,49,93,32,47,32,48,59,32,125]⟩:Ba)
def ts1:List Tk:=(ot MD 200 0 []).getD []
def pg1:List Pf:=(pP ts1 1000 [] 0).getD []
theorem Vd:ot MD 200 0 []=some ts1:=by kernel_rfl
theorem U8:pP ts1 1000 [] 0=some pg1:=by kernel_rfl
theorem Va:ts1.length≤20000:=Nat.le_of_ble_eq_true (by kernel_rfl)
def MC:Ba:=(⟨#[102,110,32,109,97,105,110,40,41,32,123,32,111,117,116,32,102,40,51,41,59,32,125,32,102,110,32,102,40,110,41,32,123,32,114,101,116,117,114,110,32,102,40,110,41,59,32,125]⟩:Ba)
def ts2:List Tk:=(ot MC 200 0 []).getD []
def pg2:List Pf:=(pP ts2 1000 [] 0).getD []
theorem Vc:ot MC 200 0 []=some ts2:=by kernel_rfl
theorem U7:pP ts2 1000 [] 0=some pg2:=by kernel_rfl
theorem U_:ts2.length≤20000:=Nat.le_of_ble_eq_true (by kernel_rfl)
def ON(s:Ba):Bool:=s.data.toList.all (fun b=>decide (b.toNat<128))&&decide (s.size≤1000000)
theorem wW{s:Ba}(h:ON s=true):qz s:=by
 unfold ON at h;rw [Bool.and_eq_true,decide_eq_true_eq,List.all_eq_true]at h;refine⟨fun i hi=> ?_,h.2⟩;have:=h.1 (s[i]'hi) (by
  have:s[i]'hi=s.data[i]:=J;rw [this];exact Array.getElem_mem_toList ..)
 exact cB this
mutual
def TE:Tx→Bool
 | .mk k n nm _ kids=>(decide (0≤n)&&decide (n<4294967296))&&(ON nm&&(decide (kids.length≤1000000)&&GT kids))
def GT:List Tx→Bool
 | []=>true
 | t::r=>TE t&&GT r
end
mutual
def TC:Ty→Bool
 | .mk k nm _ es _ body _ els=>ON nm&&((decide (es.length≤1000000)&&GT es)&&((decide (body.length≤1000000)&&Eq body)&&(decide (els.length≤1000000)&&Eq els)))
def Eq:List Ty→Bool
 | []=>true
 | t::r=>TC t&&Eq r
end
def UV(f:Tf):Bool:=ON f.name&&(f.ps.all ON&&(decide (f.ps.length≤1000000)&&(decide (f.body.length≤1000000)&&(Eq f.body&&decide (f.ps.length+cv f.body≤1000000)))))
def UU(fs:List Tf):Bool:=decide (fs.length≤1000000)&&fs.all UV
mutual
theorem NI:∀t:Tx,TE t=true→GX t
 | .mk k n nm v kids,h=>by
  unfold TE at h;simp only [Bool.and_eq_true,decide_eq_true_eq]at h;exact⟨h.1,wW h.2.1,h.2.2.1,xl kids h.2.2.2⟩
theorem xl:∀l:List Tx,GT l=true→GXs l
 | [],_=>trivial
 | t::r,h=>by
  unfold GT at h;rw [Bool.and_eq_true]at h;exact⟨NI t h.1,xl r h.2⟩
end
mutual
theorem NH:∀t:Ty,TC t=true→GY t
 | .mk k nm ve es vb body vl els,h=>by
  unfold TC at h;simp only [Bool.and_eq_true,decide_eq_true_eq]at h;exact⟨wW h.1,⟨h.2.1.1,xl es h.2.1.2⟩,⟨h.2.2.1.1,sn body h.2.2.1.2⟩,h.2.2.2.1,sn els h.2.2.2.2⟩
theorem sn:∀l:List Ty,Eq l=true→GYs l
 | [],_=>trivial
 | t::r,h=>by
  unfold Eq at h;rw [Bool.and_eq_true]at h;exact⟨NH t h.1,sn r h.2⟩
end
theorem AY{fs:List Tf}(h:UU fs=true):GP fs:=by
 unfold UU at h;rw [Bool.and_eq_true,decide_eq_true_eq,List.all_eq_true]at h;refine⟨h.1,fun f hf=> ?_⟩;have:=h.2 f hf;unfold UV at this;simp only [Bool.and_eq_true,decide_eq_true_eq,List.all_eq_true]at this;exact⟨wW this.1,fun s hs=>wW (this.2.1 s hs),this.2.2.1,this.2.2.2.1,sn _ this.2.2.2.2.1,this.2.2.2.2.2⟩
def An(fs:List Tf)(ins:List Int)(fuel:Int):Option (Re Int):=match cV fs eq with
 | none=>none
 | some f=>u0 400 fs 0 f [] (Lu ins fuel)
theorem Jc{fs:List Tf}{ins:List Int}{fuel:Int}{r:Re Int}(hc:jP fs=0)(h:An fs ins fuel=some r):RunIs fs ins fuel (MI r):=by
 unfold An at h;split at h
 ·cases h
 ·rename_i f hf;exact .run f 400 r hc hf h
def Ck(o:List Int):Option (Re Int)→Bool
 | some (.ok _ s)=>decide (s.out=o)
 | _=>false
def P9(k:Nat)(v:Int):Option (Re Int)→Bool
 | some (.ok _ s)=>decide (s.mem k=v)
 | _=>false
def GK(e:Int):Option (Re Int)→Bool
 | some (.err z)=>decide (z=e)
 | _=>false
abbrev Sd:List Tf:=pg0.map uF
theorem Vw:GP Sd:=AY (by kernel_rfl)
theorem UZ:jP Sd=0:=by kernel_rfl
theorem Vo:jx Sd≤120:=Nat.le_of_ble_eq_true (by kernel_rfl)
abbrev PT:List Tf:=pg1.map uF
theorem Vv:GP PT:=AY (by kernel_rfl)
theorem UY:jP PT=0:=by kernel_rfl
theorem Vn:jx PT≤120:=Nat.le_of_ble_eq_true (by kernel_rfl)
abbrev Sc:List Tf:=pg2.map uF
theorem Vu:GP Sc:=AY (by kernel_rfl)
theorem UX:jP Sc=0:=by kernel_rfl
theorem Vm:jx Sc≤120:=Nat.le_of_ble_eq_true (by kernel_rfl)
theorem Vi:Ck [4294967293,1] (An Sd [7,5] 60)=true:=by kernel_rfl
theorem ro1:Ck [0] (An PT [7,5] 60)=true:=by kernel_rfl
theorem Vj:P9 1 9 (An PT [7,5] 60)=true:=by kernel_rfl
theorem Vk:GK 26 (An Sc [7,5] 60)=true:=by kernel_rfl
theorem lp{fs:List Tf}(hg:GP fs)(hc:jP fs=0)(hn:jx fs≤120):(ig fs).length≤1984:=by
 by_cases h:(ig fs).length≤1984
 ·exact h
 ·have:=GA hg hc h;omega
theorem mJ{fs:List Tf}(hg:GP fs)(hc:jP fs=0)(hn:jx fs≤120):HL fs=(2,mM (eR (ig fs)),0):=by
 have:=lp hg hc hn;unfold HL;rw [ac (by omega),ac (by omega)]
theorem o_{fs:List Tf}(hg:GP fs)(hc:jP fs=0)(hn:jx fs≤120):(mM (eR (ig fs))).size≤7936:=by
 have:=lp hg hc hn;rw [iO,gW];omega
structure Kf(fs:List Tf)(ps:List Pf):Prop where
 e:fs.map oh=ps
 g:GP fs
 c:jP fs=0
 n:jx fs≤120
theorem Kf.of{fs:List Tf}{ps:List Pf}(h:fs.map oh=ps)(hg:GP (ps.map uF))(hc:jP (ps.map uF)=0)(hn:jx (ps.map uF)≤120):Kf fs ps:=by
 rw [←vE h]at hg hc hn;rw [wb]at hc;rw [yQ]at hn;exact⟨h,R9 hg,hc,hn⟩
theorem Kf.run{fs:List Tf}{ps:List Pf}(h:Kf fs ps){ins:List Int}{fuel:Int}{r:Re Int}(hc:jP (ps.map uF)=0)(hr:An (ps.map uF) ins fuel=some r):RunIs fs ins fuel (MI r):=by
 have:=Jc hc hr;rw [←vE h.e]at this;exact Pv this
theorem vC{o:List Int}{x:Option (Re Int)}(h:Ck o x=true):∃v s,x=some (.ok v s)∧s.out=o:=by
 unfold Ck at h;split at h
 ·rename_i v s;exact⟨v,s,J,cB h⟩
 ·cases h
theorem El{e:Int}{x:Option (Re Int)}(h:GK e x=true):x=some (.err e):=by
 unfold GK at h;split at h
 ·rename_i z;rw [cB h]
 ·cases h
theorem BY(va vb:SV)(a b:List Int)(ha:a.length≤1000000000):Spec prog 44 [sv va,sv vb] [] [sl 1 eU (sv va) a,own 41 1 eU (sv vb) b] (X:=Unit) (fun _=>True) (fun _=> .bool (decide (a=b))) (fun _=> []) (fun _=> []):=
 Spec.roAll (DR va vb a b ha) fun i A hA=>by
  match i,hA with
  | 0,hA=>exact⟨_,rfl,by cases hA;exact fun _ _ h=>h⟩
  | 1,hA=>exact⟨_,rfl,by cases hA;exact cf⟩
theorem TB:∀x∈([7,5]:List Int),oW x:=fun x hx=>by
 simp only [List.mem_cons,List.not_mem_nil,or_false]at hx;rcases hx with rfl|rfl<;>exact⟨by decide,by decide⟩
theorem Vt{fs:List Tf}(h:fs.map oh=pg0):Kf fs pg0:=Kf.of h Vw UZ Vo
theorem Vr{fs:List Tf}(h:fs.map oh=pg1):Kf fs pg1:=Kf.of h Vv UY Vn
theorem Vq{fs:List Tf}(h:fs.map oh=pg2):Kf fs pg2:=Kf.of h Vu UX Vm
theorem yq:
  aW prog 12 [] [] [] (.bool true) []:=by
 refine aI func12 J ntmps12 J fun w0 M H=> ?_
 obtain⟨v0,s0,hr0,ho0⟩:=vC Vi;obtain⟨v1,s1,hr1,ho1⟩:=vC ro1;have hr2:=El Vk;have hm1:s1.mem 1=9:=by
  have:=Vj;rw [hr1]at this;exact cB this
 refine aq (am J (az J (ai (xs:= [.const (Sg (ByteArray.mk #[102,110,32,109,97,105,110,40,41,32,123,32,111,117,116,32,105,110,32,45,32,105,110,32,42,32,50,59,32,111,117,116,32,49,32,60,32,50,59,32,125]))]) (kR ME (Nat.le_of_ble_eq_true (by kernel_rfl)) 200 ts0 Ve Vb pg0 U9) KI [] [] [80] (fun x0 hx0=> ?_))));have kk0:=Vt hx0;have hz0:=o_ kk0.g kk0.c kk0.n;refine ai (xs:= [.tmp 12]) (kC x0.1 x0.2 kk0.g (mJ kk0.g kk0.c kk0.n)) HV [] [(true,80)] [] (fun _ _=>ad J (aP (cC J J) (aP (cC J J) (aZ uC J J fun b1=>av (k:=1) uC J J J J J J (am J (az J (ai (xs:= [.const (Sg (ByteArray.mk #[102,110,32,109,97,105,110,40,41,32,123,32,109,101,109,91,50,53,55,93,32,61,32,57,59,32,111,117,116,32,109,101,109,91,49,93,32,47,32,48,59,32,125]))]) (kR MD (Nat.le_of_ble_eq_true (by kernel_rfl)) 200 ts1 Vd Va pg1 U8) KI [] [] [81] (fun x1 hx1=> ?_))))))));have kk1:=Vr hx1;have hz1:=o_ kk1.g kk1.c kk1.n;refine ai (xs:= [.tmp 17]) (kC x1.1 x1.2 kk1.g (mJ kk1.g kk1.c kk1.n)) HV [] [(true,81)] [] (fun _ _=>ad J (aP (cC J J) (aP (cC J J) (aZ uC J J fun b3=>av (k:=3) uC J J J J J J (am J (az J (ai (xs:= [.const (Sg (ByteArray.mk #[102,110,32,109,97,105,110,40,41,32,123,32,111,117,116,32,102,40,51,41,59,32,125,32,102,110,32,102,40,110,41,32,123,32,114,101,116,117,114,110,32,102,40,110,41,59,32,125]))]) (kR MC (Nat.le_of_ble_eq_true (by kernel_rfl)) 200 ts2 Vc U_ pg2 U7) KI [] [] [82] (fun x2 hx2=> ?_))))))));have kk2:=Vq hx2;have hz2:=o_ kk2.g kk2.c kk2.n;refine ai (xs:= [.tmp 22]) (kC x2.1 x2.2 kk2.g (mJ kk2.g kk2.c kk2.n)) HV [] [(true,82)] [] (fun _ _=>ad J (aP (cC J J) (aP (cC J J) (aZ uC J J fun b5=>av (k:=5) uC J J J J J J (am J (aa (aU (ad J (ar J J iT (ad J (aH [] J J O (fun hg1=>aV J) J (aH [(29,_)] J J ⟨J,O⟩ (fun hg2=>aQ J J iT) J (aP (bH J J J) (ad J (aH [] J J O (fun hg3=>aV J) J (aH [(33,_)] J J ⟨J,O⟩ (fun hg4=>aQ J J iT) J ?_))))))))))))))))
 refine aP (bH J J J) (ad J (aH [] J J O (fun hg5=>ah mV J) J (aH [(37,_)] J J ⟨J,O⟩ (fun hg6=>ag t9 J J (ax (k:=1) J J)) J (aH [(37,_),(38,_)] J J ⟨J,J,O⟩ (fun hg7=>cH underlying9 J) J (aH [(37,_),(38,_),(39,_)] J J ⟨J,J,J,O⟩ (fun hg8=>aQ J J fA) J (aP (bH J J J) (ad J (aH [] J J O (fun hg9=>ah mV J) J (aH [(43,_)] J J ⟨J,O⟩ (fun hg10=>ag t9 J J (ax (k:=3) J J)) J (aH [(43,_),(44,_)] J J ⟨J,J,O⟩ (fun hg11=>cH underlying9 J) J (aH [(43,_),(44,_),(45,_)] J J ⟨J,J,J,O⟩ (fun hg12=>aQ J J fA) J (aP (bH J J J) (ad J (aH [] J J O (fun hg13=>ah mV J) J (aH [(49,_)] J J ⟨J,O⟩ (fun hg14=>ag t9 J J (ax (k:=5) J J)) J (aH [(49,_),(50,_)] J J ⟨J,J,O⟩ (fun hg15=>cH underlying9 J) J (aH [(49,_),(50,_),(51,_)] J J ⟨J,J,J,O⟩ (fun hg16=>aQ J J fA) J (aP (bH J J J) (aa ?_)))))))))))))))))));refine ap J (fun h17=> ?_) (fun h17=> ?_)
 ·(exfalso;have q:=h17;simp at q;omega)
 ·(try simp only [bl]at h17);refine aC (aq (cI eU [7,5] (parts:= [(0,.const (I3 7)),(1,.const (I3 5))]) underlying48 eA J (by decide) (by intro _;rfl) J (by decide) (by decide) J J J J fun v54=>cK 54 0 (A':=sl 1 eU (sv v54) [7,5]) J cf (am J (az J (aD mV J (aR 1 t9 J J J J (ad J ?_)))))));obtain⟨t0,o0,m0,hs0,⟨hol0,hml0⟩,ha0,hb0⟩:=ww kk0.g kk0.c (lp kk0.g kk0.c kk0.n) v54 TB (fuel:=60) (by decide) (kk0.run UZ hr0) (most:=10000) (by decide) (by show(0:Int)≠25;decide);obtain⟨e0a,e0b,e0c⟩:=ha0 J;have e0b:o0=s0.out:=e0b;have e0c:m0=(List.range 256).map s0.mem:=e0c;rw [ho0]at e0b;subst e0a;refine ai (xs:= [.tmp 56,.tmp 57,.const (I6 10000)]) hs0 On [] [(false,0)] [90,91] (fun z0 _=>r_ (k:=90) (A':=sl 1 eU (sv z0.1) o0) J cf (aZ DD J J fun b8=>av (k:=8) DD J J J J J J (az J (aD mV J (aR 3 t9 J J J J (ad J ?_))))));obtain⟨t1,o1,m1,hs1,⟨hol1,hml1⟩,ha1,hb1⟩:=ww kk1.g kk1.c (lp kk1.g kk1.c kk1.n) v54 TB (fuel:=60) (by decide) (kk1.run UY hr1) (most:=10000) (by decide) (by show(0:Int)≠25;decide);obtain⟨e1a,e1b,e1c⟩:=ha1 J;have e1b:o1=s1.out:=e1b;have e1c:m1=(List.range 256).map s1.mem:=e1c;rw [ho1]at e1b;subst e1a;refine ai (xs:= [.tmp 60,.tmp 61,.const (I6 10000)]) hs1 On [] [(false,0)] [92,93] (fun z1 _=>r_ (k:=92) (A':=sl 1 eU (sv z1.1) o1) J cf (aZ DD J J fun b9=>av (k:=9) DD J J J J J J (az J (aD mV J (aR 5 t9 J J J J (ad J ?_))))));obtain⟨t2,o2,m2,hs2,⟨hol2,hml2⟩,ha2,hb2⟩:=ww kk2.g kk2.c (lp kk2.g kk2.c kk2.n) v54 TB (fuel:=60) (by decide) (kk2.run UX hr2) (most:=10000) (by decide) (by show(26:Int)≠25;decide);have e2a:=hb2 J;subst e2a;refine ai (xs:= [.tmp 64,.tmp 65,.const (I6 10000)]) hs2 On [] [(false,0)] [94,95] (fun z2 _=>r_ (k:=94) (A':=sl 1 eU (sv z2.1) o2) J cf (aZ DD J J fun b10=>av (k:=10) DD J J J J J J (az J (aD NZ J (aR 1 t3 J J J J (ar J J bv (ad J (fB (t:=70) J (fun h18=> ?_) (fun h18=>False.elim (by cases h18))))))))))
  refine bK J J (aD tT J (bK J J (aR 8 Iu J J J J (bK J J (cI eU [4294967293,1] (parts:= [(0,.const (I3 4294967293)),(1,.const (I3 1))]) underlying48 eA J (by decide) (by intro _;rfl) J (by decide) (by decide) J J J J fun v73=>bK J J (ai (xs:= [.tmp 72,.tmp 73]) (BY z0.1 v73 o0 [4294967293,1] hol0) QU [] [(true,90),(true,73)] [] (fun _ _=>aP (bH J J J) (ad J (fB (t:=76) J (fun h19=> ?_) (fun h19=>False.elim (by revert h19;rw [e0b];simp)))))))))));refine bK J J (aD A_ J (bK J J (aP (aM (us:= [I6 4,I3 0]) BR J J J (od (k:=8) J J)) (bK J J (aP (aX (parts:= [(0,.const (I6 4))]) BR PK J J) (bK J J (ar J J Ow (aP (bH J J J) (ad J (fB (t:=82) J (fun h20=> ?_) (fun h20=>False.elim (by revert h20;simp))))))))))));refine bK J J (aD tT J (bK J J (aR 9 Iu J J J J (bK J J (bq eU 0 underlying48 eA J (by decide) (by decide) J J J J fun v85=>bK J J (ai (xs:= [.tmp 84,.tmp 85]) (BY z1.1 v85 o1 [0] hol1) QU [] [(true,92),(true,85)] [] (fun _ _=>aP (bH J J J) (ad J (aH [] J J O (fun hg21=>ah tS J) J (aH [(89,_)] J J ⟨J,O⟩ (fun hg22=>ag Iu J J (ax (k:=9) J J)) J (aH [(89,_),(90,_)] J J ⟨J,J,O⟩ (fun hg23=>aO (j:=1) underlying48 eA J J (bh (k:=93) J) J (by rw [e1c,List.length_map,List.length_range];decide)) J ?_)))))))))));refine aH [(89,_),(90,_),(91,_)] J J ⟨J,J,J,O⟩ (fun hg24=>ag eA J J (bF (bh (k:=93) J) (by intro _;rfl) (show m1[1]?=some 9 by rw [e1c];show some (s1.mem 1)=_;rw [hm1]) (by rfl))) J ?_;refine aH [(89,_),(90,_),(91,_),(92,_)] J J ⟨J,J,J,J,O⟩ (fun hg25=>aQ J J bv) J (aP (bH J J J) (ad J (aH [] J J O (fun hg26=>ah A_ J) J (aH [(96,_)] J J ⟨J,O⟩ (fun hg27=>fR tU J) J (aH [(96,_),(97,_)] J J ⟨J,J,O⟩ (fun hg28=>ag t3 J J (ax (k:=10) J J)) J (aH [(96,_),(97,_),(98,_)] J J ⟨J,J,J,O⟩ (fun hg29=>aQ J J bv) J (aP (bH J J J) (am J (aa (ay (aN () O J (ce (aL J)) (by rw [e1b];simp) [] [] J J J)))))))))))
section
variable{P:Program}{N:Nat}{w0:World}{M H:Nat→Prop}{E:ft}{Γ R:eD}{Q:Exit→Act→World→Prop}
variable{ops:Array Oper}{rest:List Oper}{T:TypeId}{ps:String}{af:Array Edge}{d:Nat}{op:Op}
theorem FM{l:List Oper}{i t:Nat}{c:Bool}(hi:kV l i=some t)(ht:eM E t=some undef)(hd:Nat.blt d N=true)(h:At N w0 M H ((d,undef)::E) Γ R (wpList P l.toArray Q rest)):
  At N w0 M H E Γ R (wpList P l.toArray Q (⟨some d,op,T,ps,af,some (i,c)⟩::rest)):=by
 intro a w hE hC;have hyd:=hE.yield_u hi ht;unfold wpList;rw [ac (by simp [Region.wanted,hyd])];exact h _ _ (hE.put hd undef) hC
end
theorem eF(p:Pe)(r:List Pe):du (p::r)=p.x++du r:=rfl
theorem iY:du []=oNil:=rfl
theorem ob:(⟨#[109,101,109,91]⟩:Ba)=ka++Iy:=by decide+kernel
theorem Qn:(⟨#[44,32]⟩:Ba)=rq++(⟨#[32]⟩:Ba):=by decide+kernel
theorem Ci{t:Tx}(h:rX t=true):jC t.kind t.name t.kids.length=true:=by
 cases t;rename_i k n nm v kids;have h:(jC k nm kids.length&&(decide (k=1) || decide (n=0))&&ji kids)=true:=h;rw [Bool.and_eq_true,Bool.and_eq_true]at h;exact h.1.1
theorem P6{t:Tx}(hr:rX t=true)(h:t.kind=3):t.name.size≤12:=by
 have ho:=Ci hr;unfold jC at ho;rw [ac (by omega),ac (by omega),aj h]at ho;exact oc ho
theorem P5{t:Tx}(hr:rX t=true)(h:t.kind=4):∃a,t.kids= [a]:=by
 have ho:=Ci hr;unfold jC at ho;rw [ac (by omega),ac (by omega),ac (by omega),aj h,Bool.and_eq_true,decide_eq_true_eq,decide_eq_true_eq]at ho;exact w6 ho.2
theorem P4{t:Tx}(hr:rX t=true)(h:t.kind=6):(∃a,t.kids= [a])∧t.name.size≤2:=by
 have ho:=Ci hr;unfold jC at ho;rw [ac (by omega),ac (by omega),ac (by omega),ac (by omega),aj h,Bool.and_eq_true,decide_eq_true_eq]at ho;exact⟨w6 ho.2,KZ _ (np ho.1)⟩
theorem P3{t:Tx}(hr:rX t=true)(h1:¬t.kind=1)(h2:¬t.kind=2)(h3:¬t.kind=3)(h4:¬t.kind=4)(h5:¬t.kind=5)(h6:¬t.kind=6):(∃a b,t.kids= [a,b])∧t.name.size≤2∧0≤lO t.name∧lO t.name<8:=by
 have ho:=Ci hr;unfold jC at ho;rw [ac (by omega),ac h2,ac h3,ac h4,ac h6]at ho;by_cases h7:t.kind=7
 ·rw [aj h7,Bool.and_eq_true,decide_eq_true_eq]at ho;obtain⟨r,e,hr8,-⟩:=K5 ho.1;exact⟨Eh ho.2,Lh _ (sN ho.1),by omega,by omega⟩
 ·rw [ac h7]at ho;cases ho
theorem SE{t:Tx}(h:t.kind=1):du (jB t)=mz t.n.toNat:=by
 rw [mg];unfold vA;rw [aj h,eF,iY,dr]
theorem SD{t:Tx}(h:t.kind=2):du (jB t)=t.name:=by
 rw [mg];unfold vA;rw [ac (by omega),aj h,eF,iY,dr]
theorem SC{t:Tx}(h:t.kind=3):du (jB t)=t.name++⟨#[40]⟩++du (kD (t.kids.map bR))++⟨#[41]⟩:=by
 rw [mg];unfold vA;rw [ac (by omega),ac (by omega),aj h,eF,eF,eO,eF,iY,dr,cl,cl];rfl
theorem SB{t a:Tx}(h:t.kind=4)(ha:t.kids[0]?=some a):du (jB t)=(⟨#[109,101,109,91]⟩:Ba)++du (cu 0 (bR a))++⟨#[93]⟩:=by
 rw [mg];unfold vA;rw [ac (by omega),ac (by omega),ac (by omega),aj h,fp ha,eF,eF,eO,eF,iY,dr,ob,cl,cl];rfl
theorem SA{t:Tx}(h:t.kind=5):du (jB t)=⟨#[105,110]⟩:=by
 rw [mg];unfold vA;rw [ac (by omega),ac (by omega),ac (by omega),ac (by omega),aj h,eF,iY,dr];rfl
theorem Sz{t a:Tx}(h:t.kind=6)(ha:t.kids[0]?=some a):du (jB t)=t.name++du (cu 8 (bR a)):=by
 rw [mg];unfold vA;rw [ac (by omega),ac (by omega),ac (by omega),ac (by omega),ac (by omega),aj h,fp ha,eF]
theorem Sy{t a b:Tx}(h1:¬t.kind=1)(h2:¬t.kind=2)(h3:¬t.kind=3)(h4:¬t.kind=4)(h5:¬t.kind=5)(h6:¬t.kind=6)(ha:t.kids[0]?=some a)(hb:t.kids[1]?=some b):du (jB t)=du (cu (lO t.name) (bR a))++⟨#[32]⟩++t.name++⟨#[32]⟩++du (cu (lO t.name+1) (bR b)):=by
 rw [mg];unfold vA;rw [ac h1,ac h2,ac h3,ac h4,ac h5,ac h6,fp ha,fp hb,eO,eF,eF,eF,cl,cl,cl]
theorem zn:∀(l:List Qx)(q:Qx),du (kD (l++ [q]))=du (kD l)++((if l.length=0 then oNil else⟨#[44,32]⟩)++du (cu 0 q))
 | [],q=>by
  rw [List.nil_append,show du (kD [])=oNil from J,dz,show([]:List Qx).length=0 from J,aj J,dz];show du (cu 0 q++ [])=_;rw [List.append_nil]
 | p::r,q=>by
  have ih:=zn r q;show du (cu 0 p++(if(r++ [q]).length=0 then []else dP rq::sp::kD (r++ [q])))=du (cu 0 p++(if r.length=0 then []else dP rq::sp::kD r))++((if r.length+1=0 then oNil else⟨#[44,32]⟩)++du (cu 0 q));rw [ac (by rw [bD];show ¬r.length+1=0;omega),ac (by omega:¬r.length+1=0),eO,eO,eF,eF,ih];by_cases h:r.length=0
  ·rw [aj h,aj h,AP h,show du (kD [])=oNil from J,iY,dz,dz,dr,Qn,cl]
  ·rw [ac h,ac h,eF,eF,cl,cl,cl]
theorem Dd{l:List Tx}{u:Tx}{i:Nat}(h:l[i]?=some u):du (kD ((l.take (i+1)).map bR))=du (kD ((l.take i).map bR))++((if i=0 then oNil else⟨#[44,32]⟩)++du (cu 0 (bR u))):=by
 obtain⟨hi,-⟩:=cU.1 h;rw [cj h,List.map_append];show du (kD (_++ [bR u]))=_;rw [zn,List.length_map,List.length_take,show min i l.length=i by omega]
theorem T6{l:List Tx}{u:Tx}{i:Nat}(h:l[i]?=some u)(hi:¬i=0):du (kD ((l.take (i+1)).map bR))=du (kD ((l.take i).map bR))++⟨#[44,32]⟩++du (cu 0 (bR u)):=by rw [Dd h,ac hi,cl]
theorem T7{l:List Tx}{u:Tx}{i:Nat}(h:l[i]?=some u)(hi:i=0):du (kD ((l.take (i+1)).map bR))=du (kD ((l.take i).map bR))++du (cu 0 (bR u)):=by rw [Dd h,aj hi,dz]
theorem JJ(l:List Tx)(i:Nat):dD (l.take i)≤dD l:=by
 induction l generalizing i with
 | nil=>rw [List.take_nil];exact bU _
 | cons x r ih=>
  cases i with
  | zero=>exact bn _
  | succ i=>
   have:=ih i;show nX x+dD (r.take i)≤nX x+dD r;omega
theorem Sr{t:Tx}{m:Int}(h:t.kind=7)(hm:lO t.name<m):du (cu m (bR t))=(⟨#[40]⟩:Ba)++du (jB t)++⟨#[41]⟩:=by
 rw [BK ⟨h,hm⟩,eF,eO,eF,iY,dr,cl];rfl
theorem O5{t:Tx}{m:Int}(h:¬(t.kind=7∧lO t.name<m)):du (cu m (bR t))=du (jB t):=by rw [zU h]
def OW(t:Tx):Prop:=aW prog 177 [xV t,.bool false] [] [ck t.v t.kids] (Sg (du (jB t))) []
def UH(t:Tx):Prop:=∀m:Int,aW prog 144 [xV t,I6 m,.bool false] [] [ck t.v t.kids] (Sg (du (cu m (bR t)))) []
theorem Sv(t:Tx)(hz:(du (jB t)).size≤100000)(h:OW t)(m:Int)(hk7:t.kind=7)(hm:lO t.name<m):
  aW prog 144 [xV t,I6 m,.bool false] [] [ck t.v t.kids] (Sg (du (cu m (bR t)))) []:=by
 refine aI func144 J ntmps144 J fun w0 M H=>aq (cM J J fun b3=>am J (az J (aP (aM ci J J J (bp (k:=3) J)) (ad J (ai (xs:= [.tmp 8,.tmp 9]) h HT [] [(false,0)] [] (fun _ _=>am J (aa (aU (aD jG J (aR 3 t3 J J J J (ar J J bv (ad J ?_))))))))))))
 refine fB (t:=14) J (fun h1=> ?_) (fun h1=>False.elim (by revert h1;show decide (t.kind=7)=false→False;rw [decide_eq_true hk7];simp));refine bK J J (aD di J (bK J J (aR 3 t9 J J J J (bK J J (ai (xs:= [.tmp 16]) (oE t.name) Dg [] [] [] (fun _ _=>bK J J (ad J (bK J J (ar J J cy (aP (bH J J J) (ad J (fB (t:=21) J (fun h2=> ?_) (fun h2=>False.elim (by revert h2;simp [hk7,hm,Tx.kind]))))))))))))));refine dj J J J J (dj J J J J (FM J J J (FM J J J (FM J J J (dj J J J J (aP (bH J J J) (aa (ap J (fun h3=> ?_) (fun h3=> ?_)))))))))
 ·refine aq (ad J (ar J J (bO (by(try simp only [bB,lz,List.size_toArray,aY,aS]);omega)) (ar J J (bO (by(try simp only [bB,lz,List.size_toArray,aY,aS]);omega)) (am J (aa (ay (aN () O J (ce (aL J)) (congrArg Value.string (Sr hk7 hm).symm) [] [] J J J)))))))
 ·revert h3;simp [hk7,hm]
theorem Su(t:Tx)(hz:(du (jB t)).size≤100000)(h:OW t)(m:Int)(hk7:t.kind=7)(hm:¬lO t.name<m):
  aW prog 144 [xV t,I6 m,.bool false] [] [ck t.v t.kids] (Sg (du (cu m (bR t)))) []:=by
 refine aI func144 J ntmps144 J fun w0 M H=>aq (cM J J fun b3=>am J (az J (aP (aM ci J J J (bp (k:=3) J)) (ad J (ai (xs:= [.tmp 8,.tmp 9]) h HT [] [(false,0)] [] (fun _ _=>am J (aa (aU (aD jG J (aR 3 t3 J J J J (ar J J bv (ad J ?_))))))))))))
 refine fB (t:=14) J (fun h1=> ?_) (fun h1=>False.elim (by revert h1;show decide (t.kind=7)=false→False;rw [decide_eq_true hk7];simp));refine bK J J (aD di J (bK J J (aR 3 t9 J J J J (bK J J (ai (xs:= [.tmp 16]) (oE t.name) Dg [] [] [] (fun _ _=>bK J J (ad J (bK J J (ar J J cy (aP (bH J J J) (ad J (fB (t:=21) J (fun h2=>False.elim (by revert h2;simp [hk7,hm])) (fun h2=>bK J J (ad J (bK J J (ad J (dj J J J J (dj J J J J (dj J J J J ?_)))))))))))))))))));refine bK J J (aP (d7 J J J (FW J)) (aP (bH J J J) (aa (ap J (fun h3=> ?_) (fun h3=> ?_)))))
 ·revert h3;simp [hk7,hm]
 ·refine aC (aq (ad J (am J (aa (ay (aN () O J (ce (aL J)) (congrArg Value.string (O5 (fun q=>hm q.2)).symm) [] [] J J J))))))
theorem Ss(t:Tx)(hz:(du (jB t)).size≤100000)(h:OW t)(m:Int)(hk7:¬t.kind=7):
  aW prog 144 [xV t,I6 m,.bool false] [] [ck t.v t.kids] (Sg (du (cu m (bR t)))) []:=by
 refine aI func144 J ntmps144 J fun w0 M H=>aq (cM J J fun b3=>am J (az J (aP (aM ci J J J (bp (k:=3) J)) (ad J (ai (xs:= [.tmp 8,.tmp 9]) h HT [] [(false,0)] [] (fun _ _=>am J (aa (aU (aD jG J (aR 3 t3 J J J J (ar J J bv (ad J ?_))))))))))))
 refine fB (t:=14) J (fun h1=>False.elim (by revert h1;show decide (t.kind=7)=true→False;rw [decide_eq_false hk7];simp)) (fun h1=>dj J J J J (dj J J J J (dj J J J J (dj J J J J (dj J J J J (aP (bH J J J) (ad J (fB (t:=21) J (fun h2=>False.elim (by revert h2;simp [hk7])) (fun h2=>bK J J (ad J (bK J J (ad J (dj J J J J (dj J J J J (dj J J J J (bK J J (aP (d7 J J J (FW J)) (aP (bH J J J) (aa ?_)))))))))))))))))));refine ap J (fun h3=> ?_) (fun h3=> ?_)
 ·revert h3;simp [hk7]
 ·refine aC (aq (ad J (am J (aa (ay (aN () O J (ce (aL J)) (congrArg Value.string (O5 (fun q=>hk7 q.1)).symm) [] [] J J J))))))
theorem IF{t:Tx}(hz:(du (jB t)).size≤100000)(h:OW t):UH t:=fun m=>by
 by_cases hk7:t.kind=7
 ·by_cases hm:lO t.name<m
  ·exact Sv t hz h m hk7 hm
  ·exact Su t hz h m hk7 hm
 ·exact Ss t hz h m hk7
theorem IN(t:Tx)(hr:rX t=true)(hg:GX t)(hn:nX t≤400)(hnx:nX t=dD t.kids+1)(hgk:oW t.n∧t.kids.length≤1000000)(ih:∀u∈t.kids,UH u)(hsw:∀u∈t.kids,∀m:Int,(du (cu m (bR u))).size≤12100)(hsc:∀i,(du (kD ((t.kids.take i).map bR))).size≤12000):
  aW prog 177 [xV t,.bool false] [] [ck t.v t.kids] (Sg (du (jB t))) []:=by
 refine aI func177 J ntmps177 J fun w0 M H=>a_ 0 1 J iM (aq (cM J J fun b2=>am J (aa (aU (aD jG J (aR 2 t3 J J J J (aa (aA (aq (ar J J bv (am J (aa (ap J (fun h1=> ?_) (fun h1=> ?_))))))))))))))
 ·have q1:t.kind=1:=cB h1;refine aq (aD xy J (aR 2 eA J J J J (ai (xs:= [.tmp 13]) (Hw t.n hgk.1) LL [] [] [] (fun _ _=>am J (aa (ay (aN () O J (ce (aL J)) (congrArg Value.string (SE q1).symm) [] [] J J J)))))))
 ·have q1:¬t.kind=1:=dl h1;refine aq (ar J J bv (am J (aa (ap J (fun h2=> ?_) (fun h2=> ?_)))))
  ·have q2:t.kind=2:=cB h2;refine aq (aD di J (aR 2 t9 J J J J (am J (aa (ay (aN () O J (ce (aL J)) (congrArg Value.string (SD q2).symm) [] [] J J J))))))
  ·have q2:¬t.kind=2:=dl h2;refine aq (ar J J bv (am J (aa (ap J (fun h3=> ?_) (fun h3=> ?_)))))
   ·have q3:t.kind=3:=cB h3;have hnz:=P6 hr q3;refine aq (am J (aa (aU (am J (aa (aA (bJ (X:=Nat) (fun i=>i≤t.kids.length) (fun i=> [(1,.bool false),(2,Pt b2),(5,Sg (du (kD ((t.kids.take i).map bR)))),(6,I6 (i:Int))]) (fun i=> [(2,bj b2 61 (eH t))]) (fun i=> [(0,ck t.v t.kids),(1,sl 4 eH (sv t.v) t.kids)]) (fun i=>t.kids.length-i) 0 (bn _) J J J (fun i hi9=>aU (ad J (aD dq J (aR 2 kc J J J J (aP (aT underlying59 J (aJ (k:=1) J)) (ar J J cy (aa ?_))))))))))))));refine ap J (fun h4=> ?_) (fun h4=> ?_)
    ·(try simp only [bl]at h4);have hi:i<t.kids.length:=by omega
     obtain⟨u,hu⟩:∃u,t.kids[i]?=some u:=⟨_,bQ hi⟩
     have hum:=bV hu;refine aC (be (aA (aU (ad J (ar J J fA (aa (ap J (fun h5=> ?_) (fun h5=> ?_))))))))
     ·(try simp only [bl]at h5);have hi0:¬i=0:=by omega
      refine ak (ad J (ar J J (bO (a:=du (kD ((t.kids.take i).map bR))) (by have:=hsc i;(try simp only [bB,lz,List.size_toArray,aY,aS]);omega)) (am J (aa (ak (ad J (aD dq J (aR 2 kc J J J J (ad J (aP (aO (j:=i) underlying59 ci J J (aJ (k:=1) J) (by first|rfl|omega) (by first|omega|(simp;done)|(simp;omega))) (aP (aM ci J J J (bF (aJ (k:=1) J) (by intro _;rfl) hu (by rfl))) (ad J (a_ 0 7 J (dH hum) (ai (xs:= [.tmp 37,.const (I6 0),.tmp 38]) (ih u hum 0) rI [] [(false,7)] [] (fun _ _=>ar J J (bO (by have:=hsc i;have:=hsw u hum 0;(try simp only [bB,lz,List.size_toArray,aY,aS]);omega)) (am J (aa (ak (ad J ?_)))))))))))))))))));refine ar J J aK (am J (aa ?_));refine aG (i+1) ⟨by omega,by omega⟩ (by rw [T6 hu hi0];rfl) J J
     ·(try simp only [bl]at h5);have hi0:i=0:=by omega
      refine aC (ak (ad J (aD dq J (aR 2 kc J J J J (ad J (aP (aO (j:=i) underlying59 ci J J (aJ (k:=1) J) (by first|rfl|omega) (by first|omega|(simp;done)|(simp;omega))) (aP (aM ci J J J (bF (aJ (k:=1) J) (by intro _;rfl) hu (by rfl))) (ad J (a_ 0 7 J (dH hum) (ai (xs:= [.tmp 37,.const (I6 0),.tmp 38]) (ih u hum 0) rI [] [(false,7)] [] (fun _ _=>ar J J (bO (by have:=hsc i;have:=hsw u hum 0;(try simp only [bB,lz,List.size_toArray,aY,aS]);omega)) (am J (aa (ak (ad J (ar J J aK (am J (aa ?_))))))))))))))))));refine aG (i+1) ⟨by omega,by omega⟩ (by rw [T7 hu hi0];rfl) J J
    ·(try simp only [bl]at h4);have hi:i=t.kids.length:=by omega
     subst hi;rw [cQ];refine bL (aq (aD di J (aR 2 t9 J J J J (ar J J (bO (by(try simp only [bB,lz,List.size_toArray,aY,aS]);omega)) (ad J (ar J J (bO (by have:=hsc t.kids.length;rw [cQ]at this;(try simp only [bB,lz,List.size_toArray,aY,aS]);omega)) (ar J J (bO (by have:=hsc t.kids.length;rw [cQ]at this;(try simp only [bB,lz,List.size_toArray,aY,aS]);omega)) (am J (aa (ay (aN () O J (ce (aL J)) (congrArg Value.string (SC q3).symm) [] [] J J J)))))))))))
   ·have q3:¬t.kind=3:=dl h3;refine aq (ar J J bv (am J (aa (ap J (fun h6=> ?_) (fun h6=> ?_)))))
    ·have q4:t.kind=4:=cB h6;obtain⟨a,hk1⟩:=P5 hr q4;have hx0:t.kids[0]?=some a:=by rw [hk1];rfl
     have hl0:t.kids.length=1:=by rw [hk1];rfl
     have hum0:a∈t.kids:=by rw [hk1];exact List.mem_cons_self ..
     have hs0:=hsw a hum0;have hs00:=hs0 0;refine a_ 0 7 J (dH hum0) (aq (aD dq J (aR 2 kc J J J J (aP (aO (j:=0) underlying59 ci J J (aJ (k:=1) J) (by rfl) (by omega)) (aP (aM ci J J J (bF (aJ (k:=1) J) (by intro _;rfl) hx0 (by rfl))) (ad J (ai (xs:= [.tmp 52,.const (I6 0),.tmp 53]) (ih a hum0 0) rI [] [(false,7)] [] (fun _ _=>ar J J (bO (by(try simp only [bB,lz,List.size_toArray,aY,aS]);omega)) (ar J J (bO (by(try simp only [bB,lz,List.size_toArray,aY,aS]);omega)) (am J (aa (ay (aN () O J (ce (aL J)) (congrArg Value.string (SB q4 hx0).symm) [] [] J J J)))))))))))))
    ·have q4:¬t.kind=4:=dl h6;refine aq (ar J J bv (am J (aa (ap J (fun h7=> ?_) (fun h7=> ?_)))))
     ·have q5:t.kind=5:=cB h7;refine aq (am J (aa (ay (aN () O J (ce (aL J)) (congrArg Value.string (SA q5).symm) [] [] J J J))))
     ·have q5:¬t.kind=5:=dl h7;refine aq (ar J J bv (am J (aa (ap J (fun h8=> ?_) (fun h8=> ?_)))))
      ·have q6:t.kind=6:=cB h8;obtain⟨hk61,hnz⟩:=P4 hr q6;obtain⟨a,hk1⟩:=hk61;have hx0:t.kids[0]?=some a:=by rw [hk1];rfl
       have hl0:t.kids.length=1:=by rw [hk1];rfl
       have hum0:a∈t.kids:=by rw [hk1];exact List.mem_cons_self ..
       have hs0:=hsw a hum0;have hs00:=hs0 0;refine a_ 0 7 J (dH hum0) (be ?_);refine bX [61,62,63,64,65,66,67,68,69,70,71,4] _ J (bi (V:= [(0,61,_),(1,62,_),(2,63,_),(3,64,_),(4,65,_),(5,66,_),(8,69,_)]) [0,1,2,3,4,5,8] 6 [6] [7] (fun x60=> [(7,68,_)]) J J (ae J (ah di J) (ae J (ag t9 J J (ax (k:=2) J J)) (ae J (ah dq J) (ae J (ag kc J J (ax (k:=2) J J)) (ae J (aO (j:=0) underlying59 ci J J (aJ (k:=1) J) (by rfl) (by omega)) (ae J (aM ci J J J (bF (aJ (k:=1) J) (by intro _;rfl) hx0 (by rfl))) (aF J J aw))))))) J J J J J J J J J J J (fun _ _=>J) J (b_ (xs:= []) uT KH [] [] [60]) (fun x60 hx60=>bi [7,0,1,2,3,4,5,8] 9 [9,8,7,6,5,4,3,2] [10,11] (fun _=> [(10,71,_),(11,4,_)]) J J (ae J (F1 underlying44 J) (ae J (ah di J) (ae J (ag t9 J J (ax (k:=2) J J)) (ae J (ah dq J) (ae J (ag kc J J (ax (k:=2) J J)) (ae J (aO (j:=0) underlying59 ci J J (aJ (k:=1) J) (by rfl) (by omega)) (ae J (aM ci J J J (bF (aJ (k:=1) J) (by intro _;rfl) hx0 (by rfl))) (aF J J aw)))))))) J J J J J J J J J J J (fun _ _=>J) J (b_ (xs:= [.tmp 66,.tmp 68,.tmp 69]) (ih a hum0 (x60.1.n:Int)) rI [] [(false,7)] []) (fun _ _=>bA [10,11,0,1] J J (ae J (aQ J J (bO (by have:=hs0 (x60.1.n:Int);omega))) (ae J (df J) (ae J (ah di J) (ae J (ag t9 J J (ax (k:=2) J J)) aw)))) J J J ?_)));refine ay ?_;refine aN () O J (ce (aL J)) (by rw [Sz q6 hx0,show(8:Int)=((x60.1.n:Nat):Int) by rw [hx60];rfl]) [] [] J J J
      ·have q6:¬t.kind=6:=dl h8;obtain⟨⟨a,b,hk1⟩,hnz,hr0,hr8⟩:=P3 hr q1 q2 q3 q4 q5 q6;have hx0:t.kids[0]?=some a:=by rw [hk1];rfl
       have hx1:t.kids[1]?=some b:=by rw [hk1];rfl
       have hl0:t.kids.length=2:=by rw [hk1];rfl
       have hum0:a∈t.kids:=by rw [hk1];exact List.mem_cons_self ..
       have hum1:b∈t.kids:=by rw [hk1];exact List.mem_cons_of_mem _ (List.mem_cons_self ..)
       have hs0:=hsw a hum0 (lO t.name);have hs1:=hsw b hum1 (lO t.name+1);refine a_ 0 7 J (dH hum0) (a_ 0 8 J (dH hum1) (aC (aq (aD di J (aR 2 t9 J J J J (ai (xs:= [.tmp 73]) (oE t.name) Dg [] [] [] (fun _ _=>am J (aa (be ?_)))))))))
       refine bX [75,76,77,78,79,80,81,82,83,84,85,86,87,88,89,90,91,92,93,94,95,4] _ J (bi (V:= [(0,75,_),(1,76,_),(2,77,_),(3,78,_),(4,79,_),(5,80,_),(8,83,_),(9,84,_),(12,87,_),(13,88,_),(14,89,_),(15,90,_),(16,91,_),(17,92,_),(18,93,_)]) [0,1,2,3,4,5,8,9,12,13,14,15,16,17,18] 6 [6,5,4,3,2,1,0] [7,10,11] (fun _=> [(7,82,_),(10,85,_),(11,86,_)]) J J (ae J (ah dq J) (ae J (ag kc J J (ax (k:=2) J J)) (ae J (aO (j:=0) underlying59 ci J J (aJ (k:=1) J) (by rfl) (by omega)) (ae J (aM ci J J J (bF (aJ (k:=1) J) (by intro _;rfl) hx0 (by rfl))) (aF J J (aF J J (ae J (ah di J) (ae J (ag t9 J J (ax (k:=2) J J)) (ae J (ah dq J) (ae J (ag kc J J (ax (k:=2) J J)) (ae J (aO (j:=1) underlying59 ci J J (aJ (k:=1) J) (by rfl) (by omega)) (ae J (aM ci J J J (bF (aJ (k:=1) J) (by intro _;rfl) hx1 (by rfl))) (aF J J (ae J (aQ J J aK) (aF J J aw))))))))))))))) J J J J J J J J J J J (fun _ _=>J) J (b_ (xs:= [.tmp 78,.tmp 79,.tmp 80]) (ih a hum0 (lO t.name)) rI [] [(false,7)] []) (fun _ _=>bi [7,10,11,8,9,12,13,14,15,16,17,18] 19 [19,18,17,16,15,14,13,12,6,5,4,3,2,1,0] [20,21] (fun _=> [(20,95,_),(21,4,_)]) J J (ae J (aQ J J (bO (by(try simp only [bB,lz,List.size_toArray,aY,aS]);omega))) (ae J (aQ J J (bO (by(try simp only [bB,lz,List.size_toArray,aY,aS]);omega))) (ae J (aQ J J (bO (by(try simp only [bB,lz,List.size_toArray,aY,aS]);omega))) (ae J (ah di J) (ae J (ag t9 J J (ax (k:=2) J J)) (ae J (ah dq J) (ae J (ag kc J J (ax (k:=2) J J)) (ae J (aO (j:=1) underlying59 ci J J (aJ (k:=1) J) (by rfl) (by omega)) (ae J (aM ci J J J (bF (aJ (k:=1) J) (by intro _;rfl) hx1 (by rfl))) (aF J J (ae J (aQ J J aK) (aF J J aw)))))))))))) J J J J J J J J J J J (fun _ _=>J) J (b_ (xs:= [.tmp 90,.tmp 92,.tmp 93]) (ih b hum1 (lO t.name+1)) rI [] [(false,8)] []) (fun _ _=>bA [20,21,7,10,11,8,9] J J (ae J (aQ J J (bO (by(try simp only [bB,lz,List.size_toArray,aY,aS]);omega))) (ae J (df J) (ae J (aQ J J (bO (by(try simp only [bB,lz,List.size_toArray,aY,aS]);omega))) (ae J (aQ J J (bO (by(try simp only [bB,lz,List.size_toArray,aY,aS]);omega))) (ae J (aQ J J (bO (by(try simp only [bB,lz,List.size_toArray,aY,aS]);omega))) (ae J (ah di J) (ae J (ag t9 J J (ax (k:=2) J J)) aw))))))) J J J ?_)))
       refine ay (aN () O J (ce (aL J)) (congrArg Value.string (Sy q1 q2 q3 q4 q5 q6 hx0 hx1).symm) [] [] J J J)
theorem E5:∀(n:Nat)(t:Tx),nX t<n→rX t=true→GX t→nX t≤400→OW t∧UH t
 | n+1,t,hn,hr,hg,h4=>by
  have hnx:nX t=dD t.kids+1:=by cases t;rfl
  have hrs:ji t.kids=true:=by
   cases t;rename_i k z nm v kids;have h:(jC k nm kids.length&&(decide (k=1) || decide (z=0))&&ji kids)=true:=hr;rw [Bool.and_eq_true]at h;exact h.2
  have hgs:oW t.n∧t.kids.length≤1000000∧GXs t.kids:=by
   cases t;rename_i k z nm v kids;have h:oW z∧qz nm∧kids.length≤1000000∧GXs kids:=hg;exact⟨h.1,h.2.2.1,h.2.2.2⟩
  have hw:=BJ t.kids hrs hgs.2.2;have hk:∀u∈t.kids,nX u≤dD t.kids∧rX u=true∧GX u:=fun u hu=>by
   obtain⟨a1,-,a3⟩:=wm hu;exact⟨a1,a3 hrs,GXs.mem hgs.2.2 u hu⟩
  have hsw:∀u∈t.kids,∀m:Int,(du (cu m (bR u))).size≤12100:=fun u hu m=>by
   have h1:=hw u hu;have h2:=nT m (bR u);have h3:=(lJ (cu m (bR u))).1;have h4:=(hk u hu).1;replace h2:wt (cu m (bR u))≤wt (jB u)+4:=h2;omega
  have hsc:∀i,(du (kD ((t.kids.take i).map bR))).size≤12000:=fun i=>by
   have h1:=EV (t.kids.take i) fun u hu=>hw u (List.mem_of_mem_take hu)
   have h2:=JJ t.kids i;have h3:=(lJ (kD ((t.kids.take i).map bR))).1;omega
  have h1:OW t:=IN t hr hg h4 hnx ⟨hgs.1,hgs.2.1⟩ (fun u hu=>(E5 n u (by have:=(hk u hu).1;omega) (hk u hu).2.1 (hk u hu).2.2 (by have:=(hk u hu).1;omega)).2) hsw hsc;refine⟨h1,IF ?_ h1⟩;have h2:=Mj t hr hg;have h3:=(lJ (jB t)).1;omega
theorem qZ{t:Tx}(hr:rX t=true)(hg:GX t)(hn:nX t≤400)(m:Int):aW prog 144 [xV t,I6 m,.bool false] [] [ck t.v t.kids] (Sg (du (cu m (bR t)))) []:=(E5 (nX t+1) t (Nat.lt_succ_self _) hr hg hn).2 m
theorem pJ:(⟨#[118,97,114,32]⟩:Ba)=xP++(⟨#[32]⟩:Ba):=by decide+kernel
theorem xh:(⟨#[32,61,32]⟩:Ba)=(⟨#[32]⟩:Ba)++(oF++(⟨#[32]⟩:Ba)):=by decide+kernel
theorem w_:(⟨#[59,10]⟩:Ba)=mr++(⟨#[10]⟩:Ba):=by decide+kernel
theorem xd:(⟨#[93,32,61,32]⟩:Ba)=EL++((⟨#[32]⟩:Ba)++(oF++(⟨#[32]⟩:Ba))):=by decide+kernel
theorem xf:(⟨#[105,102,32]⟩:Ba)=zK++(⟨#[32]⟩:Ba):=by decide+kernel
theorem xe:(⟨#[32,123,10]⟩:Ba)=(⟨#[32]⟩:Ba)++(EM++(⟨#[10]⟩:Ba)):=by decide+kernel
theorem xa:(⟨#[125]⟩:Ba)=sf:=by decide+kernel
theorem xg:(⟨#[32,101,108,115,101,32,123,10]⟩:Ba)=(⟨#[32]⟩:Ba)++(iJ++((⟨#[32]⟩:Ba)++(EM++(⟨#[10]⟩:Ba)))):=by decide+kernel
theorem w9:(⟨#[119,104,105,108,101,32]⟩:Ba)=iI++(⟨#[32]⟩:Ba):=by decide+kernel
theorem oa:(⟨#[125,10]⟩:Ba)=sf++(⟨#[10]⟩:Ba):=by decide+kernel
theorem pK:(⟨#[114,101,116,117,114,110,32]⟩:Ba)=qC++(⟨#[32]⟩:Ba):=by decide+kernel
theorem pM:(⟨#[111,117,116,32]⟩:Ba)=rL++(⟨#[32]⟩:Ba):=by decide+kernel
theorem yF(d:Nat):∀l m:List Ty,db d (l++m)=db d l++db d m
 | [],m=>rfl
 | y::r,m=>by
  show xR d y++db d (r++m)=(xR d y++db d r)++db d m;rw [yF d r m,List.append_assoc]
theorem jR{d:Nat}{l:List Ty}{y:Ty}{i:Nat}(h:l[i]?=some y):du (db d (l.take (i+1)))=du (db d (l.take i))++du (uO d y.kind y.name (y.es.map bR) (db (d+1) y.body) y.els.length (db (d+1) y.els)):=by
 rw [cj h,yF,eO,←FX];show _++du (xR d y++ [])=_;rw [List.append_nil]
theorem Tt{d:Nat}{l:List Ty}{y:Ty}{a:Tx}{i:Nat}(h:l[i]?=some y)(hk:y.kind=1)(ha:y.es[0]?=some a):du (db d (l.take (i+1)))=du (db d (l.take i))++iw d++(⟨#[118,97,114,32]⟩:Ba)++y.name++(⟨#[32,61,32]⟩:Ba)++du (cu 0 (bR a))++(⟨#[59,10]⟩:Ba):=by
 rw [jR h];unfold uO;rw [aj hk,fp ha];simp only [eF,eO,iY,dr,dz,List.nil_append,pJ,xh,w_,ob,xd,xf,xe,xa,xg,w9,oa,pK,pM,cl]
theorem Ts{d:Nat}{l:List Ty}{y:Ty}{a:Tx}{i:Nat}(h:l[i]?=some y)(hk:y.kind=2)(ha:y.es[0]?=some a):du (db d (l.take (i+1)))=du (db d (l.take i))++iw d++y.name++(⟨#[32,61,32]⟩:Ba)++du (cu 0 (bR a))++(⟨#[59,10]⟩:Ba):=by
 rw [jR h];unfold uO;rw [ac (show ¬y.kind=1 by omega),aj hk,fp ha];simp only [eF,eO,iY,dr,dz,List.nil_append,pJ,xh,w_,ob,xd,xf,xe,xa,xg,w9,oa,pK,pM,cl]
theorem Tr{d:Nat}{l:List Ty}{y:Ty}{a b:Tx}{i:Nat}(h:l[i]?=some y)(hk:y.kind=3)(ha:y.es[0]?=some a)(hb:y.es[1]?=some b):du (db d (l.take (i+1)))=du (db d (l.take i))++iw d++(⟨#[109,101,109,91]⟩:Ba)++du (cu 0 (bR a))++(⟨#[93,32,61,32]⟩:Ba)++du (cu 0 (bR b))++(⟨#[59,10]⟩:Ba):=by
 rw [jR h];unfold uO;rw [ac (show ¬y.kind=1 by omega),ac (show ¬y.kind=2 by omega),aj hk,fp ha,fp hb];simp only [eF,eO,iY,dr,dz,List.nil_append,pJ,xh,w_,ob,xd,xf,xe,xa,xg,w9,oa,pK,pM,cl]
theorem Qk{d:Nat}{l:List Ty}{y:Ty}{a:Tx}{i:Nat}(h:l[i]?=some y)(hk:y.kind=4)(ha:y.es[0]?=some a)(he:y.els.length=0):du (db d (l.take (i+1)))=du (db d (l.take i))++iw d++(⟨#[105,102,32]⟩:Ba)++du (cu 0 (bR a))++(⟨#[32,123,10]⟩:Ba)++du (db (d+1) y.body)++iw d++(⟨#[125]⟩:Ba)++(⟨#[10]⟩:Ba):=by
 rw [jR h];unfold uO;rw [ac (show ¬y.kind=1 by omega),ac (show ¬y.kind=2 by omega),ac (show ¬y.kind=3 by omega),aj hk,aj he,fp ha];simp only [eF,eO,iY,dr,dz,List.nil_append,pJ,xh,w_,ob,xd,xf,xe,xa,xg,w9,oa,pK,pM,cl]
theorem Qj{d:Nat}{l:List Ty}{y:Ty}{a:Tx}{i:Nat}(h:l[i]?=some y)(hk:y.kind=4)(ha:y.es[0]?=some a)(he:¬y.els.length=0):du (db d (l.take (i+1)))=du (db d (l.take i))++iw d++(⟨#[105,102,32]⟩:Ba)++du (cu 0 (bR a))++(⟨#[32,123,10]⟩:Ba)++du (db (d+1) y.body)++iw d++(⟨#[125]⟩:Ba)++(⟨#[32,101,108,115,101,32,123,10]⟩:Ba)++du (db (d+1) y.els)++iw d++(⟨#[125]⟩:Ba)++(⟨#[10]⟩:Ba):=by
 rw [jR h];unfold uO;rw [ac (show ¬y.kind=1 by omega),ac (show ¬y.kind=2 by omega),ac (show ¬y.kind=3 by omega),aj hk,ac he,fp ha];simp only [eF,eO,iY,dr,dz,List.nil_append,pJ,xh,w_,ob,xd,xf,xe,xa,xg,w9,oa,pK,pM,cl]
theorem Tp{d:Nat}{l:List Ty}{y:Ty}{a:Tx}{i:Nat}(h:l[i]?=some y)(hk:y.kind=5)(ha:y.es[0]?=some a):du (db d (l.take (i+1)))=du (db d (l.take i))++iw d++(⟨#[119,104,105,108,101,32]⟩:Ba)++du (cu 0 (bR a))++(⟨#[32,123,10]⟩:Ba)++du (db (d+1) y.body)++iw d++(⟨#[125,10]⟩:Ba):=by
 rw [jR h];unfold uO;rw [ac (show ¬y.kind=1 by omega),ac (show ¬y.kind=2 by omega),ac (show ¬y.kind=3 by omega),ac (show ¬y.kind=4 by omega),aj hk,fp ha];simp only [eF,eO,iY,dr,dz,List.nil_append,pJ,xh,w_,ob,xd,xf,xe,xa,xg,w9,oa,pK,pM,cl]
theorem To{d:Nat}{l:List Ty}{y:Ty}{a:Tx}{i:Nat}(h:l[i]?=some y)(hk:y.kind=6)(ha:y.es[0]?=some a):du (db d (l.take (i+1)))=du (db d (l.take i))++iw d++(⟨#[114,101,116,117,114,110,32]⟩:Ba)++du (cu 0 (bR a))++(⟨#[59,10]⟩:Ba):=by
 rw [jR h];unfold uO;rw [ac (show ¬y.kind=1 by omega),ac (show ¬y.kind=2 by omega),ac (show ¬y.kind=3 by omega),ac (show ¬y.kind=4 by omega),ac (show ¬y.kind=5 by omega),aj hk,fp ha];simp only [eF,eO,iY,dr,dz,List.nil_append,pJ,xh,w_,ob,xd,xf,xe,xa,xg,w9,oa,pK,pM,cl]
theorem Tn{d:Nat}{l:List Ty}{y:Ty}{a:Tx}{i:Nat}(h:l[i]?=some y)(hk:y.kind=7)(ha:y.es[0]?=some a):du (db d (l.take (i+1)))=du (db d (l.take i))++iw d++(⟨#[111,117,116,32]⟩:Ba)++du (cu 0 (bR a))++(⟨#[59,10]⟩:Ba):=by
 rw [jR h];unfold uO;rw [ac (show ¬y.kind=1 by omega),ac (show ¬y.kind=2 by omega),ac (show ¬y.kind=3 by omega),ac (show ¬y.kind=4 by omega),ac (show ¬y.kind=5 by omega),ac (show ¬y.kind=6 by omega),aj hk,fp ha];simp only [eF,eO,iY,dr,dz,List.nil_append,pJ,xh,w_,ob,xd,xf,xe,xa,xg,w9,oa,pK,pM,cl]
theorem Tm{d:Nat}{l:List Ty}{y:Ty}{a:Tx}{i:Nat}(h:l[i]?=some y)(hk:y.kind=8)(ha:y.es[0]?=some a):du (db d (l.take (i+1)))=du (db d (l.take i))++iw d++du (cu 0 (bR a))++(⟨#[59,10]⟩:Ba):=by
 rw [jR h];unfold uO;rw [ac (show ¬y.kind=1 by omega),ac (show ¬y.kind=2 by omega),ac (show ¬y.kind=3 by omega),ac (show ¬y.kind=4 by omega),ac (show ¬y.kind=5 by omega),ac (show ¬y.kind=6 by omega),ac (show ¬y.kind=7 by omega),fp ha];simp only [eF,eO,iY,dr,dz,List.nil_append,pJ,xh,w_,ob,xd,xf,xe,xa,xg,w9,oa,pK,pM,cl]
structure Ykn(d:Nat)(l:List Ty)(y:Ty):Prop where
 r:rY y=true
 g:GY y
 d:xG d y=false
 n:nY y≤cv l
theorem zS{d:Nat}{y:Ty}:∀{l:List Ty},y∈l→h_ l=true→GYs l→cG d l=false→Ykn d l y
 | [],h,_,_,_=>by cases h
 | x::r,h,hr,hg,hd=>by
  have hr:(rY x&&h_ r)=true:=hr;rw [Bool.and_eq_true]at hr;have hg:GY x∧GYs r:=hg;have hd:(xG d x || cG d r)=false:=hd;rw [Bool.or_eq_false_iff]at hd;have hn:cv (x::r)=nY x+cv r:=J;rcases List.mem_cons.1 h with rfl|h
  ·exact⟨hr.1,hg.1,hd.1,by omega⟩
  ·have:=zS h hr.2 hg.2 hd.2;exact⟨this.r,this.g,this.d,by have:=this.n;omega⟩
theorem sT{d:Nat}:∀{l:List Ty}(i:Nat),h_ l=true→GYs l→cG d l=false→h_ (l.take i)=true∧GYs (l.take i)∧cG d (l.take i)=false∧cv (l.take i)≤cv l
 | [],i,hr,hg,hd=>by rw [List.take_nil];exact⟨hr,hg,hd,bU _⟩
 | x::r,0,hr,hg,hd=>⟨rfl,trivial,rfl,bn _⟩
 | x::r,i+1,hr,hg,hd=>by
  have hr:(rY x&&h_ r)=true:=hr;rw [Bool.and_eq_true]at hr;have hg:GY x∧GYs r:=hg;have hd:(xG d x || cG d r)=false:=hd;rw [Bool.or_eq_false_iff]at hd;obtain⟨a1,a2,a3,a4⟩:=sT i hr.2 hg.2 hd.2;refine⟨?_,⟨hg.1,a2⟩,?_,?_⟩
  ·show(rY x&&h_ (r.take i))=true;rw [hr.1,a1];rfl
  ·show(xG d x || cG d (r.take i))=false;rw [hd.1,a3];rfl
  ·show nY x+cv (r.take i)≤nY x+cv r;omega
structure Ypn(d:Nat)(y:Ty):Prop where
 k:1≤y.kind∧y.kind≤8
 nm:y.kind=1∨y.kind=2→y.name.size≤12
 e:∀u∈y.es,rX u=true∧GX u∧nX u≤nY y
 el:y.es.length=if y.kind=3 then 2 else 1
 b:h_ y.body=true∧GYs y.body∧cG (d+1) y.body=false∧cv y.body+1≤nY y
 l:h_ y.els=true∧GYs y.els∧cG (d+1) y.els=false∧cv y.els+1≤nY y
 d8:d≤8
theorem Ykn.parts{d:Nat}{l:List Ty}{y:Ty}(h:Ykn d l y):Ypn d y:=by
 obtain⟨hr,hg,hd,hn⟩:=h;cases y;rename_i k nm ve es vb body vl els;have hr:(n_ k nm es.length body.length els.length&&ji es&&h_ body&&h_ els)=true:=hr;rw [Bool.and_eq_true,Bool.and_eq_true,Bool.and_eq_true]at hr;obtain⟨⟨⟨ho,h1⟩,h2⟩,h3⟩:=hr;have hd:(decide (d>8) || decide (f_ es>8) || cG (d+1) body || cG (d+1) els)=false:=hd;rw [Bool.or_eq_false_iff,Bool.or_eq_false_iff,Bool.or_eq_false_iff,decide_eq_false_iff_not,decide_eq_false_iff_not]at hd;obtain⟨⟨⟨d0,d1⟩,d2⟩,d3⟩:=hd;have hg:qz nm∧(es.length≤1000000∧GXs es)∧(body.length≤1000000∧GYs body)∧(els.length≤1000000∧GYs els):=hg;have hnY:nY (.mk k nm ve es vb body vl els)=1+dD es+cv body+cv els:=J;unfold n_ at ho;simp only [Bool.and_eq_true,decide_eq_true_eq]at ho;obtain⟨⟨⟨⟨⟨o1,o2⟩,o3⟩,o4⟩,o5⟩,o6⟩:=ho;refine⟨⟨o1,o2⟩,fun hk=> ?_,fun u hu=> ?_,o3,⟨h2,hg.2.2.1.2,d2,by show cv body+1≤_;omega⟩,⟨h3,hg.2.2.2.2,d3,by show cv els+1≤_;omega⟩,by omega⟩
 ·rw [aj (show k=1∨k=2 from hk)]at o4;exact oc o4
 ·obtain⟨a1,a2,a3⟩:=wm (show u∈es from hu);exact⟨a3 h1,GXs.mem hg.2.1.2 u hu,by omega⟩
def Sj(d:Nat)(v:SV)(l:List Ty):Prop:=aW prog 113 [sv v,I6 (d:Int),.bool false] [] [cm v l] (Sg (du (db d l))) []
theorem JO(d:Nat)(v:SV)(l:List Ty)(hll:l.length≤1000000)(hr:h_ l=true)(hg:GYs l)(hd:cG d l=false)(hn:cv l≤400)(ih:∀y∈l,Sj (d+1) y.vb y.body∧Sj (d+1) y.vl y.els)(ws:∀{u:Tx},rX u=true→GX u→(du (cu 0 (bR u))).size≤30*nX u)(wys:∀{e:Nat}{m:List Ty},h_ m=true→GYs m→cG e m=false→(du (db e m)).size≤75*cv m):
  aW prog 113 [sv v,I6 (d:Int),.bool false] [] [cm v l] (Sg (du (db d l))) []:=by
 refine aI func113 J ntmps113 J fun w0 M H=>a_ 0 1 J iK (aq (am J (az J (am J (aa (aU (am J (aa (aA (bJ (X:=Nat) (fun i=>i≤l.length) (fun i=> [(0,sv v),(1,I6 (d:Int)),(2,.bool false),(7,Sg (du (db d (l.take i)))),(8,I6 (i:Int))]) (fun i=> []) (fun i=> [(0,cm v l),(1,sl 5 fK (sv v) l)]) (fun i=>l.length-i) 0 (bn _) J J J (fun i hi9=>aU ?_)))))))))))
 refine ad J (ad J (aP (aT underlying62 J (aJ (k:=1) J)) (ar J J cy (aa (ap J (fun h1=> ?_) (fun h1=> ?_))))))
 ·(try simp only [bl]at h1);have hi:i<l.length:=by omega
  obtain⟨y,hy⟩:∃y,l[i]?=some y:=⟨_,bQ hi⟩
  have hym:=bV hy;have hyk:=zS hym hr hg hd;have hyp:=hyk.parts;have hyn:=hyk.n;have hkk:=hyp.k;have hd8:=hyp.d8;have hind:=si d;have hst:(du (db d (l.take i))).size≤30000:=by
   obtain⟨a1,a2,a3,a4⟩:=sT i hr hg hd;have:=wys a1 a2 a3;omega
  have hel1:1≤y.es.length:=by have:=hyp.el;split at this<;>omega
  obtain⟨a,hx0⟩:∃a,y.es[0]?=some a:=⟨_,bQ (by omega)⟩
  have ham:=bV hx0;obtain⟨har,hag,han⟩:=hyp.e a ham;have has:=ws har hag;refine a_ 0 2 J (oq hym) (a_ 2 3 J iM (a_ 2 4 J (dH ham) (aC (be (aA (aq (ad J (ad J (aP (aO (j:=i) underlying62 dR J J (aJ (k:=1) J) (by first|rfl|omega) (by first|omega|(simp;done)|(simp;omega))) (aP (aM dR J J J (bF (aJ (k:=1) J) (by intro _;rfl) hy (by rfl))) (aZ dR J J fun b9=>av (k:=9) dR J J J J J J (az J (ad J (ad J (ai (xs:= [.tmp 22]) (kU d (by omega)) Di [] [] [] (fun _ _=> ?_))))))))))))))));refine ar J J (bO (by(try simp only [bB,lz,List.size_toArray,aY,aS]);omega)) (am J (az J (aD jF J (aR 9 kc J J J J (aP (aO (j:=0) underlying59 ci J J (aJ (k:=3) J) (by rfl) (by omega)) (aP (aM ci J J J (bF (aJ (k:=3) J) (by intro _;rfl) hx0 (by rfl))) (ad J (ai (xs:= [.tmp 28,.const (I6 0),.tmp 29]) (qZ har hag (by omega) 0) rI [] [(false,4)] [] (fun _ _=>am J (az J (aD fV J (aR 9 t3 J J J J (aa (aA (be ?_)))))))))))))));refine ak (ar J J bv (am J (aa (ap J (fun h2=> ?_) (fun h2=> ?_)))))
  ·have q1:y.kind=1:=cB h2;have hnm:=hyp.nm (by omega);refine ak (ad J (ar J J (bO (by(try simp only [bB,lz,List.size_toArray,aY,aS]);omega)) (aD kz J (aR 9 t9 J J J J (ar J J (bO (by(try simp only [bB,lz,List.size_toArray,aY,aS]);omega)) (ar J J (bO (by(try simp only [bB,lz,List.size_toArray,aY,aS]);omega)) (ad J (ar J J (bO (by(try simp only [bB,lz,List.size_toArray,aY,aS]);omega)) (ar J J (bO (by(try simp only [bB,lz,List.size_toArray,aY,aS]);omega)) (am J (aa (ak (ad J (ar J J aK (am J (aa ?_))))))))))))))));refine aG (i+1) ⟨by omega,by omega⟩ (by rw [Tt hy q1 hx0];rfl) J J
  ·have q1:¬y.kind=1:=dl h2;refine aq (ar J J bv (am J (aa (ap J (fun h3=> ?_) (fun h3=> ?_)))))
   ·have q2:y.kind=2:=cB h3;have hnm:=hyp.nm (by omega);refine ak (ad J (aD kz J (aR 9 t9 J J J J (ar J J (bO (by(try simp only [bB,lz,List.size_toArray,aY,aS]);omega)) (ar J J (bO (by(try simp only [bB,lz,List.size_toArray,aY,aS]);omega)) (ad J (ar J J (bO (by(try simp only [bB,lz,List.size_toArray,aY,aS]);omega)) (ar J J (bO (by(try simp only [bB,lz,List.size_toArray,aY,aS]);omega)) (am J (aa (ak (ad J (ar J J aK (am J (aa ?_)))))))))))))));refine aG (i+1) ⟨by omega,by omega⟩ (by rw [Ts hy q2 hx0];rfl) J J
   ·have q2:¬y.kind=2:=dl h3;refine aq (ar J J bv (am J (aa (ap J (fun h4=> ?_) (fun h4=> ?_)))))
    ·have q3:y.kind=3:=cB h4;have hel:y.es.length=2:=by have:=hyp.el;rw [aj q3]at this;exact this
     obtain⟨b,hx1⟩:∃b,y.es[1]?=some b:=⟨_,bQ (by omega)⟩
     have hbm:=bV hx1;obtain⟨hbr,hbg,hbn⟩:=hyp.e b hbm;have hbs:=ws hbr hbg;refine a_ 2 5 J (dH hbm) (ak (ad J (ar J J (bO (by(try simp only [bB,lz,List.size_toArray,aY,aS]);omega)) (ad J (ar J J (bO (by(try simp only [bB,lz,List.size_toArray,aY,aS]);omega)) (ar J J (bO (by(try simp only [bB,lz,List.size_toArray,aY,aS]);omega)) (aD jF J (aR 9 kc J J J J (aP (aO (j:=1) underlying59 ci J J (aJ (k:=3) J) (by rfl) (by omega)) (aP (aM ci J J J (bF (aJ (k:=3) J) (by intro _;rfl) hx1 (by rfl))) (ad J (ai (xs:= [.tmp 64,.const (I6 0),.tmp 65]) (qZ hbr hbg (by omega) 0) rI [] [(false,5)] [] (fun _ _=>ar J J (bO (by(try simp only [bB,lz,List.size_toArray,aY,aS]);omega)) (ar J J (bO (by(try simp only [bB,lz,List.size_toArray,aY,aS]);omega)) (am J (aa (ak (ad J (ar J J aK ?_)))))))))))))))))));refine am J (aa ?_);refine aG (i+1) ⟨by omega,by omega⟩ (by rw [Tr hy q3 hx0 hx1];rfl) J J
    ·have q3:¬y.kind=3:=dl h4;refine aq (ar J J bv (am J (aa (ap J (fun h5=> ?_) (fun h5=> ?_)))))
     ·have q4:y.kind=4:=cB h5;obtain⟨b1,b2,b3,b4⟩:=hyp.b;have hbo:=wys b1 b2 b3;refine a_ 0 6 J (iL hym) ?_;obtain⟨l1,l2,l3,l4⟩:=hyp.l;have hlo:=wys l1 l2 l3;refine a_ 0 7 J (kN hym) (a_ 7 8 J iK (aq (ad J (ar J J (bO (by(try simp only [bB,lz,List.size_toArray,aY,aS]);omega)) (ad J (ar J J (bO (by(try simp only [bB,lz,List.size_toArray,aY,aS]);omega)) (ar J J (bO (by(try simp only [bB,lz,List.size_toArray,aY,aS]);omega)) (aD gu J (aR 9 kO J J J J (ad J (ar J J (co (c:=((d+1:Nat):Int)) (by rw [bM (by omega)];omega)) (ad J (ai (xs:= [.tmp 77,.tmp 79,.tmp 80]) (ih y hym).1 Dl [] [(false,6)] [] (fun _ _=>ar J J (bO (by(try simp only [bB,lz,List.size_toArray,aY,aS]);omega)) (ad J (ai (xs:= [.tmp 83]) (kU d (by omega)) Di [] [] [] (fun _ _=>ar J J (bO (by(try simp only [bB,lz,List.size_toArray,aY,aS]);omega)) (ar J J (bO (by(try simp only [bB,lz,List.size_toArray,aY,aS]);omega)) ?_))))))))))))))))));refine am J (aa (aU (aD g9 J (aR 9 kO J J J J (aP (aT underlying62 J (aJ (k:=8) J)) (ar J J fA (aa (ap J (fun h6=> ?_) (fun h6=> ?_)))))))))
      ·(try simp only [bl]at h6);have hle:¬y.els.length=0:=by omega
       refine ak (ad J (ar J J (bO (by(try simp only [bB,lz,List.size_toArray,aY,aS]);omega)) (aD g9 J (aR 9 kO J J J J (ad J (ar J J (co (c:=((d+1:Nat):Int)) (by rw [bM (by omega)];omega)) (ad J (ai (xs:= [.tmp 94,.tmp 96,.tmp 97]) (ih y hym).2 Dl [] [(false,7)] [] (fun _ _=>ar J J (bO (by(try simp only [bB,lz,List.size_toArray,aY,aS]);omega)) (ad J (ai (xs:= [.tmp 100]) (kU d (by omega)) Di [] [] [] (fun _ _=>ar J J (bO (by(try simp only [bB,lz,List.size_toArray,aY,aS]);omega)) (ar J J (bO (by(try simp only [bB,lz,List.size_toArray,aY,aS]);omega)) (am J (aa (ak (ad J (ar J J (bO (by(try simp only [bB,lz,List.size_toArray,aY,aS]);omega)) (am J ?_)))))))))))))))))));refine aa (ak (ad J (ar J J aK (am J (aa ?_)))));refine aG (i+1) ⟨by omega,by omega⟩ (by rw [Qj hy q4 hx0 hle];rfl) J J
      ·(try simp only [bl]at h6);have hle:y.els.length=0:=by omega
       refine aC (ak (ad J (ar J J (bO (by(try simp only [bB,lz,List.size_toArray,aY,aS]);omega)) (am J (aa (ak (ad J (ar J J aK (am J (aa ?_))))))))));refine aG (i+1) ⟨by omega,by omega⟩ (by rw [Qk hy q4 hx0 hle];rfl) J J
     ·have q4:¬y.kind=4:=dl h5;refine aq (ar J J bv (am J (aa (ap J (fun h7=> ?_) (fun h7=> ?_)))))
      ·have q5:y.kind=5:=cB h7;obtain⟨b1,b2,b3,b4⟩:=hyp.b;have hbo:=wys b1 b2 b3;refine a_ 0 6 J (iL hym) (ak (ad J (ar J J (bO (by(try simp only [bB,lz,List.size_toArray,aY,aS]);omega)) (ad J (ar J J (bO (by(try simp only [bB,lz,List.size_toArray,aY,aS]);omega)) (ar J J (bO (by(try simp only [bB,lz,List.size_toArray,aY,aS]);omega)) (aD gu J (aR 9 kO J J J J (ad J (ar J J (co (c:=((d+1:Nat):Int)) (by rw [bM (by omega)];omega)) (ad J (ai (xs:= [.tmp 114,.tmp 116,.tmp 117]) (ih y hym).1 Dl [] [(false,6)] [] (fun _ _=>ar J J (bO (by(try simp only [bB,lz,List.size_toArray,aY,aS]);omega)) (ad J (ai (xs:= [.tmp 120]) (kU d (by omega)) Di [] [] [] (fun _ _=>ar J J (bO (by(try simp only [bB,lz,List.size_toArray,aY,aS]);omega)) (ar J J (bO (by(try simp only [bB,lz,List.size_toArray,aY,aS]);omega)) (am J (aa ?_)))))))))))))))))));refine ak (ad J (ar J J aK (am J (aa ?_))));refine aG (i+1) ⟨by omega,by omega⟩ (by rw [Tp hy q5 hx0];rfl) J J
      ·have q5:¬y.kind=5:=dl h7;refine aq (ar J J bv (am J (aa (ap J (fun h8=> ?_) (fun h8=> ?_)))))
       ·have q6:y.kind=6:=cB h8;refine ak (ad J (ar J J (bO (by(try simp only [bB,lz,List.size_toArray,aY,aS]);omega)) (ad J (ar J J (bO (by(try simp only [bB,lz,List.size_toArray,aY,aS]);omega)) (ar J J (bO (by(try simp only [bB,lz,List.size_toArray,aY,aS]);omega)) (am J (aa (ak (ad J (ar J J aK (am J (aa ?_))))))))))));refine aG (i+1) ⟨by omega,by omega⟩ (by rw [To hy q6 hx0];rfl) J J
       ·have q6:¬y.kind=6:=dl h8;refine aq (ar J J bv (am J (aa (ap J (fun h9=> ?_) (fun h9=> ?_)))))
        ·have q7:y.kind=7:=cB h9;refine ak (ad J (ar J J (bO (by(try simp only [bB,lz,List.size_toArray,aY,aS]);omega)) (ad J (ar J J (bO (by(try simp only [bB,lz,List.size_toArray,aY,aS]);omega)) (ar J J (bO (by(try simp only [bB,lz,List.size_toArray,aY,aS]);omega)) (am J (aa (ak (ad J (ar J J aK (am J (aa ?_))))))))))));refine aG (i+1) ⟨by omega,by omega⟩ (by rw [Tn hy q7 hx0];rfl) J J
        ·have q7:¬y.kind=7:=dl h9;refine aq (ar J J bv (am J (aa (ap J (fun h10=> ?_) (fun h10=> ?_)))))
         ·have q8:y.kind=8:=cB h10;refine ak (ad J (ad J (ar J J (bO (by(try simp only [bB,lz,List.size_toArray,aY,aS]);omega)) (ar J J (bO (by(try simp only [bB,lz,List.size_toArray,aY,aS]);omega)) (am J (aa (ak (ad J (ar J J aK (am J (aa ?_)))))))))));refine aG (i+1) ⟨by omega,by omega⟩ (by rw [Tm hy q8 hx0];rfl) J J
         ·exact absurd (dl h10) (by omega)
 ·(try simp only [bl]at h1);have hi:i=l.length:=by omega
  subst hi;rw [cQ];refine bL (aq (ad J (am J (aa (ay (aN () O J (ce (aL J)) J [] [] J J J))))))
theorem O4{u:Tx}(h1:rX u=true)(h2:GX u):(du (cu 0 (bR u))).size≤30*nX u:=by
 have a1:=Mj u h1 h2;have a2:=nT 0 (bR u);have a3:=(lJ (cu 0 (bR u))).1;replace a2:wt (cu 0 (bR u))≤wt (jB u)+4:=a2;omega
theorem EU{e:Nat}{m:List Ty}(h1:h_ m=true)(h2:GYs m)(h3:cG e m=false):(du (db e m)).size≤75*cv m:=Nat.le_trans (lJ _).1 (xY m e h1 h2 h3)
theorem AN:∀(n d:Nat)(v:SV)(l:List Ty),cv l<n→l.length≤1000000→h_ l=true→GYs l→cG d l=false→cv l≤400→Sj d v l
 | n+1,d,v,l,hlt,hll,hr,hg,hd,hn=>JO d v l hll hr hg hd hn (fun y hy=>by
   have hk:=zS hy hr hg hd;have hp:=hk.parts;have h1:=hk.n;obtain⟨b1,b2,b3,b4⟩:=hp.b;obtain⟨l1,l2,l3,l4⟩:=hp.l;exact⟨AN n (d+1) y.vb y.body (by omega) (fZ hk.g).1 b1 b2 b3 (by omega),AN n (d+1) y.vl y.els (by omega) (iA hk.g).1 l1 l2 l3 (by omega)⟩) O4 EU
theorem Tv:(⟨#[102,110,32]⟩:Ba)=Pa++(⟨#[32]⟩:Ba):=by decide+kernel
theorem Tu:(⟨#[40]⟩:Ba)=mh:=by decide+kernel
theorem Tw:(⟨#[41,32,123,10]⟩:Ba)=gS++((⟨#[32]⟩:Ba)++(EM++(⟨#[10]⟩:Ba))):=by decide+kernel
theorem B_:∀l m:List Tf,oT (l++m)=oT l++oT m
 | [],m=>rfl
 | f::r,m=>by
  show AB f++oT (r++m)=(AB f++oT r)++oT m;rw [B_ r m,List.append_assoc]
theorem Jl{fs:List Tf}{f:Tf}{i:Nat}(h:fs[i]?=some f):du (oT (fs.take (i+1)))=du (oT (fs.take i))++⟨#[102,110,32]⟩++f.name++⟨#[40]⟩++du (gr f.ps)++⟨#[41,32,123,10]⟩++du (db 1 f.body)++⟨#[125,10]⟩:=by
 rw [cj h,B_,eO];show _++du (AB f++ [])=_;rw [List.append_nil];unfold AB;simp only [eF,eO,iY,dr,dz,Tv,Tu,Tw,oa,cl]
theorem yK:∀(l:List Ba)(x:Ba),du (gr (l++ [x]))=du (gr l)++((if l.length=0 then oNil else⟨#[44,32]⟩)++x)
 | [],x=>by
  show x++oNil=oNil++(oNil++x);rw [dr,dz,dz]
 | p::r,x=>by
  have ih:=yK r x;show p++du (if(r++ [x]).length=0 then []else dP rq::sp::gr (r++ [x]))=(p++du (if r.length=0 then []else dP rq::sp::gr r))++((if r.length+1=0 then oNil else⟨#[44,32]⟩)++x);rw [ac (by rw [bD];show ¬r.length+1=0;omega),ac (by omega:¬r.length+1=0),eF,eF,ih];by_cases h:r.length=0
  ·rw [aj h,aj h,AP h,show du (gr [])=oNil from J,iY,dz,dz,dr,Qn,cl]
  ·rw [ac h,ac h,eF,eF,cl,cl,cl]
theorem yJ{S:Ba}{l:List Ba}{x:Ba}{i:Nat}(h:l[i]?=some x):S++du (gr (l.take (i+1)))=S++du (gr (l.take i))++(if i=0 then oNil else⟨#[44,32]⟩)++x:=by
 obtain⟨hi,-⟩:=cU.1 h;rw [cj h,yK,List.length_take,show min i l.length=i by omega,cl,cl]
theorem PU{S:Ba}{l:List Ba}{x:Ba}{i:Nat}(h:l[i]?=some x)(hi:¬i=0):S++du (gr (l.take (i+1)))=S++du (gr (l.take i))++⟨#[44,32]⟩++x:=by rw [yJ h,ac hi]
theorem PV{S:Ba}{l:List Ba}{x:Ba}{i:Nat}(h:l[i]?=some x)(hi:i=0):S++du (gr (l.take (i+1)))=S++du (gr (l.take i))++x:=by rw [yJ h,aj hi,dr]
structure Okp(fs:List Tf):Prop where
 f:∀f∈fs,Okf f∧GYs f.body∧f.ps.length≤4∧f.body.length≤1000000
 l:fs.length≤16
 z:∀i,(du (oT (fs.take i))).size≤30000
structure Okg(f:Tf):Prop where
 nm:f.name.size≤12
 ps:∀i,(du (gr (f.ps.take i))).size≤100
 pz:∀x∈f.ps,x.size≤12
 b:(du (db 1 f.body)).size≤23000
 ln:Sj 1 f.vb f.body
theorem Okp.g{fs:List Tf}(h:Okp fs){f:Tf}(hf:f∈fs):Okg f:=by
 obtain⟨h1,h2,h3,h4⟩:=h.f f hf;have hr:=h1.r;unfold rF at hr;rw [Bool.and_eq_true,Bool.and_eq_true,List.all_eq_true]at hr;obtain⟨⟨a1,a2⟩,a3⟩:=hr;have hb:=EU a3 h2 h1.d;have hn:=h1.n;refine⟨oc a2,fun i=> ?_,fun x hx=>oc (a1 x hx),by omega,AN (cv f.body+1) 1 f.vb f.body (Nat.lt_succ_self _) h4 a3 h2 h1.d (by omega)⟩;have b1:=(lJ (gr (f.ps.take i))).1;have b2:=zT (l:=f.ps.take i) fun x hx=>a1 x (List.mem_of_mem_take hx)
 have b3:(f.ps.take i).length≤4:=by rw [List.length_take];omega
 omega
theorem yl(vp:SV)(fs:List Tf)(hf:Okp fs):
  aW prog 63 [.agg #[sv vp],.bool false] [] [dO vp fs] (Sg (du (oT fs))) []:=by
 refine aI func63 J ntmps63 J fun w0 M H=>a_ 0 1 J lL ?_
 have hfl:=hf.l;refine aq (cM J J fun b2=>am J (az J (am J (aa (aU (am J (aa (aA (bJ (X:=Nat) (fun i=>i≤fs.length) (fun i=> [(1,.bool false),(2,Pt b2),(5,Sg (du (oT (fs.take i)))),(6,I6 (i:Int))]) (fun i=> [(2,bj b2 27 [sv vp])]) (fun i=> [(0,dO vp fs),(1,sl 3 jI (sv vp) fs)]) (fun i=>fs.length-i) 0 (bn _) J J J (fun i hi9=>aU (ad J ?_)))))))))));refine aD fW J (aR 2 kJ J J J J (aP (aT underlying25 J (aJ (k:=1) J)) (ar J J cy (aa (ap J (fun h1=> ?_) (fun h1=> ?_))))))
 ·(try simp only [bl]at h1);have hi:i<fs.length:=by omega
  obtain⟨f,hy⟩:∃f,fs[i]?=some f:=⟨_,bQ hi⟩
  have hfm:=bV hy;have hgf:=hf.g hfm;have hpl:=(hf.f f hfm).2.2.1;have hnm:=hgf.nm;have hbz:=hgf.b;have hz:=hf.z i;refine a_ 0 2 J (rh hfm) (a_ 2 3 J ri (a_ 2 4 J m_ (aC (be (aA (aq (aD fW J (aR 2 kJ J J J J (ad J (aP (aO (j:=i) underlying25 gC J J (aJ (k:=1) J) (by first|rfl|omega) (by first|omega|(simp;done)|(simp;omega))) (aP (aM gC J J J (bF (aJ (k:=1) J) (by intro _;rfl) hy (by rfl))) (aZ gC J J fun b7=>av (k:=7) gC J J J J J J (az J (ad J (ar J J (bO (by(try simp only [bB,lz,List.size_toArray,aY,aS]);omega)) ?_)))))))))))))));refine aD lW J (aR 7 t9 J J J J (ar J J (bO (by(try simp only [bB,lz,List.size_toArray,aY,aS]);omega)) (ar J J (bO (by(try simp only [bB,lz,List.size_toArray,aY,aS]);omega)) (am J (aa (aU (am J (aa (aA (bJ (X:=Nat) (fun k=>k≤f.ps.length) (fun k=> [(1,.bool false),(2,Pt b2),(5,Sg (du (oT (fs.take i))++⟨#[102,110,32]⟩++f.name++⟨#[40]⟩++du (gr (f.ps.take k)))),(6,I6 (i:Int)),(7,Pt b7),(8,I6 (k:Int))]) (fun k=> [(2,bj b2 27 [sv vp]),(7,bj b7 66 (jI f))]) (fun k=> [(0,dO vp fs),(1,sl 3 jI (sv vp) fs),(2,EK f),(3,sl 1 eS (sv f.vp) f.ps),(4,cm f.vb f.body)]) (fun k=>f.ps.length-k) 0 (bn _) (by rw [show du (gr (f.ps.take 0))=oNil from J,dr];rfl) J J (fun k hk9=>aU (ad J (aD fj J (aR 7 jT J J J J (aP (aT underlying46 J (aJ (k:=3) J)) ?_)))))))))))))));refine ar J J cy (aa (ap J (fun h2=> ?_) (fun h2=> ?_)))
  ·(try simp only [bl]at h2);have hk:k<f.ps.length:=by omega
   obtain⟨x,hx⟩:∃x,f.ps[k]?=some x:=⟨_,bQ hk⟩
   have hxm:=bV hx;refine aC (be (aA (aU (ad J (ar J J fA (aa (ap J (fun h3=> ?_) (fun h3=> ?_))))))))
   ·(try simp only [bl]at h3);have hk0:¬k=0:=by omega
    refine ak (ad J (ar J J (bO (by have:=hgf.ps k;(try simp only [bB,lz,List.size_toArray,aY,aS]);omega)) (am J (aa (ak (ad J (aD fj J (aR 7 jT J J J J (ad J (aP (aO (j:=k) underlying46 t9 J J (aJ (k:=3) J) (by first|rfl|omega) (by first|omega|(simp;done)|(simp;omega))) (aP (ag t9 J J (bF (aJ (k:=3) J) (by intro _;rfl) hx (by rfl))) (ar J J (bO (by have:=hgf.ps k;have:=hgf.pz x hxm;(try simp only [bB,lz,List.size_toArray,aY,aS]);omega)) (am J (aa (ak (ad J (ar J J aK (am J (aa ?_)))))))))))))))))));refine aG (k+1) ⟨by omega,by omega⟩ (by rw [PU hx hk0];rfl) J J
   ·(try simp only [bl]at h3);have hk0:k=0:=by omega
    refine aC (ak (ad J (aD fj J (aR 7 jT J J J J (ad J (aP (aO (j:=k) underlying46 t9 J J (aJ (k:=3) J) (by first|rfl|omega) (by first|omega|(simp;done)|(simp;omega))) (aP (ag t9 J J (bF (aJ (k:=3) J) (by intro _;rfl) hx (by rfl))) (ar J J (bO (by have:=hgf.ps k;have:=hgf.pz x hxm;(try simp only [bB,lz,List.size_toArray,aY,aS]);omega)) (am J (aa (ak (ad J (ar J J aK (am J (aa ?_)))))))))))))));refine aG (k+1) ⟨by omega,by omega⟩ (by rw [PV hx hk0];rfl) J J
  ·(try simp only [bl]at h2);have hk:k=f.ps.length:=by omega
   subst hk;rw [cQ];refine bL (ak (ad J (ar J J (bO (by have:=hgf.ps f.ps.length;rw [cQ]at this;(try simp only [bB,lz,List.size_toArray,aY,aS]);omega)) (aD li J (aR 7 kO J J J J (ad J (ai (xs:= [.tmp 48,.const (I6 1),.tmp 49]) hgf.ln Dl [] [(false,4)] [] (fun _ _=>ar J J (bO (by have:=hgf.ps f.ps.length;rw [cQ]at this;(try simp only [bB,lz,List.size_toArray,aY,aS]);omega)) (ar J J (bO (by have:=hgf.ps f.ps.length;rw [cQ]at this;(try simp only [bB,lz,List.size_toArray,aY,aS]);omega)) (am J (aa (ak (ad J (ar J J aK (am J (aa ?_))))))))))))))));refine aG (i+1) ⟨by omega,by omega⟩ (by rw [Jl hy];rfl) J J
 ·(try simp only [bl]at h1);have hi:i=fs.length:=by omega
  subst hi;rw [cQ];refine bL (aq (ad J (am J (aa (ay (aN () O J (ce (aL J)) J [] [] J J J))))))
theorem Ay(vp:SV)(fs:List Tf)(hg:GP fs)(hr:rP fs=true)(hf:Okp fs):
  aW prog 20 [.agg #[sv vp]] [] [dO vp fs] (Sg (du (oT fs))) []:=by
 refine aI func20 J ntmps20 J fun w0 M H=>aq (cM J J fun b1=>am J (az J (aP (aM mu J J J (bp (k:=1) J)) (ai (xs:= [.tmp 4]) (yx vp fs hg) Uk [] [(false,0)] [] (fun _ _=> ?_)))))
 rw [hr];refine am J (aa (aU (ad J (aP (cZ J) (aa (ap J (fun h1=> ?_) (fun h1=> ?_)))))))
 ·cases h1
 ·refine aC (aq (aP (aM mu J J J (bp (k:=1) J)) (ai (xs:= [.tmp 8,.const (.bool Bool.false)]) (yl vp fs hf) Ui [] [(false,0)] [] (fun _ _=>am J (aa (ay (aN () O J (ce (aL J)) J [] [] J J J)))))))
end Go.Proofs.YtedmdgbmdplifaaGreat
