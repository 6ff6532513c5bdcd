/-
  A part of the proof. Conditions are with the theorems.
-/
import Derived.DeepKeys
import Derived.Test.YtedmdgbmdplifaaGreatXLa
import Derived.Test.YtedmdgbmdplifaaGreatXLb
import Derived.Test.YtedmdgbmdplifaaGreatXLc
import Derived.Test.YtedmdgbmdplifaaGreatXLd
import Derived.Test.YtedmdgbmdplifaaGreatXLe
import Derived.Test.YtedmdgbmdplifaaGreatXLf
set_option maxHeartbeats 32000000
set_option maxRecDepth 100000
set_option linter.unusedSimpArgs false
set_option linter.unusedVariables false
namespace Go.Proofs.YtedmdgbmdplifaaGreat
open Go.RowKit Tryz
def EE(ts:List Tk):Nat→List Ba→Nat→Option (List Ba×Nat)
 | 0,_,_=>none
 | g+1,acc,i=>match ts[i]? with
  | none=>none
  | some t=>if t.k=2 then(match ts[i+1]? with
   | none=>none
   | some u=>if dU u jH=true then some (acc++ [t.s],i+2)else if dU u Je=true then EE ts g (acc++ [t.s]) (i+2)else none)else none
def Mo(ts:List Tk)(i:Nat):Option (List Ba×Nat):=match ts[i]? with
 | none=>none
 | some t=>if dU t jH=true then some ([],i+1)else EE ts 100 [] i
def Mp(ts:List Tk)(i:Nat):Option (Pf×Nat):=
 if vX ts i Mu=true then(match ts[i+1]? with
  | none=>none
  | some n=>if n.k=2 then(if vX ts (i+2) AP=true then(match Mo ts (i+3)with
   | none=>none
   | some (ps,j)=>match pB ts 1000 j with
    | none=>none
    | some (b,j2)=>some (⟨n.s,ps,b⟩,j2))else none)else none)else none
def pP(ts:List Tk):Nat→List Pf→Nat→Option (List Pf)
 | 0,_,_=>none
 | g+1,acc,i=>match ts[i]? with
  | none=>none
  | some t=>if t.k=0 then some acc else match Mp ts i with
   | none=>none
   | some (f,j)=>pP ts g (acc++ [f]) j
theorem ED{ts:List Tk}{g i j:Nat}{acc ps:List Ba}(h:EE ts g acc i=some (ps,j)):∃g2 t u,g=g2+1∧ts[i]?=some t∧t.k=2∧ts[i+1]?=some u∧(dU u jH=true→ps=acc++ [t.s]∧j=i+2)∧(dU u jH=false→dU u Je=true∧EE ts g2 (acc++ [t.s]) (i+2)=some (ps,j)):=by
 cases g with
 | zero=>unfold EE at h;cases h
 | succ g=>
  unfold EE at h;split at h
  ·cases h
  ·rename_i t ht;split at h
   ·rename_i hk;split at h
    ·cases h
    ·rename_i u hu;refine⟨g,t,u,J,ht,hk,hu,fun hp=> ?_,fun hp=> ?_⟩
     ·rw [ak hp]at h;injection h with h;injection h with h1 h2;exact⟨h1.symm,h2.symm⟩
     ·rw [ac (by rw [hp];decide)]at h;split at h
      ·rename_i hc;exact⟨hc,h⟩
      ·cases h
   ·cases h
theorem EC{ts:List Tk}{i j:Nat}{ps:List Ba}(h:Mo ts i=some (ps,j)):∃t,ts[i]?=some t∧(dU t jH=true→ps= []∧j=i+1)∧(dU t jH=false→EE ts 100 [] i=some (ps,j)):=by
 unfold Mo at h;split at h
 ·cases h
 ·rename_i t ht;refine⟨t,ht,fun hp=> ?_,fun hp=> ?_⟩
  ·rw [ak hp]at h;injection h with h;injection h with h1 h2;exact⟨h1.symm,h2.symm⟩
  ·rw [ac (by rw [hp];decide)]at h;exact h
theorem EF{ts:List Tk}{i j:Nat}{f:Pf}(h:Mp ts i=some (f,j)):∃a n c ps j0 b,ts[i]?=some a∧dU a Mu=true∧ts[i+1]?=some n∧n.k=2∧ts[i+2]?=some c∧dU c AP=true∧Mo ts (i+3)=some (ps,j0)∧pB ts 1000 j0=some (b,j)∧f=⟨n.s,ps,b⟩:=by
 unfold Mp at h;split at h
 ·rename_i ha;obtain⟨a,ha1,ha2⟩:=jz ha;split at h
  ·cases h
  ·rename_i n hn;split at h
   ·rename_i hk;split at h
    ·rename_i hc;obtain⟨c,hc1,hc2⟩:=jz hc;split at h
     ·cases h
     ·rename_i ps j0 hps;split at h
      ·cases h
      ·rename_i b j2 hb;injection h with h;injection h with h1 h2;subst h2;exact⟨a,n,c,ps,j0,b,ha1,ha2,hn,hk,hc1,hc2,hps,hb,h1.symm⟩
    ·cases h
   ·cases h
 ·cases h
theorem Hr{ts:List Tk}{g i:Nat}{acc fs:List Pf}(h:pP ts g acc i=some fs):∃g2 t,g=g2+1∧ts[i]?=some t∧(t.k=0→fs=acc)∧(¬t.k=0→∃f j,Mp ts i=some (f,j)∧pP ts g2 (acc++ [f]) j=some fs):=by
 cases g with
 | zero=>unfold pP at h;cases h
 | succ g=>
  unfold pP at h;split at h
  ·cases h
  ·rename_i t ht;refine⟨g,t,J,ht,fun hk=> ?_,fun hk=> ?_⟩
   ·rw [ak hk]at h;injection h with h;exact h.symm
   ·rw [ac hk]at h;split at h
    ·cases h
    ·rename_i f j hf;exact⟨f,j,hf,h⟩
structure Lp where
 v:SV
 l:List Tf
 i:Nat
 g:Nat
structure Lq where
 d:Bool
 v:SV
 l:List Ba
 i:Nat
 g:Nat
def Jl(l:List Tf):Asn:=⟨fun w F=>∀f∈l,TfIn w F f,fun h hs f hf=>(h f hf).stable hs⟩
theorem Io(w:World)(F:Nat→Prop)(_:AllIn w F []):(Jl []).pred w F:=fun f hf=>by cases hf
theorem Fg{l:List Tf}{n:Ba}{vp vb:SV}{ps:List Ba}{b:List Ty}(w:World)(F:Nat→Prop)(h:AllIn w F [Jl l,own 9 1 eS (sv vp) ps,ck vb b]):(Jl (l++ [⟨n,vp,ps,vb,b⟩])).pred w F:=by
 obtain⟨⟨_,a0,b0⟩,⟨_,a1,b1⟩,⟨_,a2,b2⟩,_⟩:=h;intro f hf;rcases List.mem_append.1 hf with hf|hf
 ·exact TfIn.up (a0 f hf) b0
 ·rw [List.mem_singleton.1 hf];exact⟨eL a1 b1,nV a2 b2⟩
theorem Ff{v:SV}{l:List Tf}(w:World)(F:Nat→Prop)(h:AllIn w F [own 66 3 oE (sv v) l,Jl l]):(fD v l).pred w F:=by
 obtain⟨⟨_,a0,b0⟩,⟨_,a1,b1⟩,_⟩:=h;exact⟨eL a0 b0,fun f hf=>TfIn.up (a1 f hf) b1⟩
theorem wL(s:Ba)(hs:s.size≤16384)(g0:Nat)(ts:List Tk)(hr:tN s g0 0 []=some ts)(hts:ts.length≤20000)(fs:List Pf)(hp:pP ts 1000 [] 0=some fs):
  Spec prog 62 [Sg s] [] [] (X:=SV×List Tf) (fun x=>x.2.map AQ=fs) (fun x=> .tuple #[.agg #[sv x.1],I6 0,I6 0]) (fun x=> [fD x.1 x.2]) (fun _=> []):=by
 refine ay func62 J ntmps62 J fun w0 M H=>am (aU wm J J fun b2=>ao J (ao J (aa (aR (ab J (aJ (ch underlying9 J) (ap J J ge (aa (ai J (fun h1=> ?_) (fun h1=> ?_))))))))))
 ·(exfalso;have q:=h1;simp at q;omega)
 ·(try simp only [aX]at h1);refine az (am (ab J (ae (xs:= [.tmp 13]) (tW s hs g0 ts hr) LZ [] [] [14] (fun vt _=>cq 14 0 (A':=sl 5 jv (sv vt) ts) J bI (aJ (aW (cs:=(rR vt 0).toArray) (parts:= [(0,.tmp 14)]) Mw JW J (by kernel_rfl)) (cB J J fun b16=>ao J (aw J (aU wm J J fun b6=>aa (aT (aC (ez 50 (α:=Tf) (S:=66) (s:=3) (enc:=oE) (bL 51 [] (L:= []) J Io (bC (X:=Lp) (fun x=>pP ts x.g (x.l.map AQ) x.i=some fs∧x.l.length+x.g≤1000) (fun x=> [(2,Pt b2),(3,I6 0),(4,I6 0),(5,Pt b16),(6,Pt b6)]) (fun x=> [(16,aO b16 195 (rR vt (x.i))),(2,aO b2 27 [sv bT]),(6,aO b6 27 [sv x.v]),(50,own 66 3 oE (sv x.v) x.l),(51,Jl x.l)]) (fun x=> [(0,sl 5 jv (sv vt) ts)]) (fun x=>x.g) ⟨bT,[],0,1000⟩ ⟨hp,bM _⟩ J J J (fun x hx1=> ?_))))))))))))));obtain⟨g2,t,hg2,hx,hO1,hO2⟩:=Hr hx1.1;have hxl:=hx1.2;have hil:=eW hx;refine aT (aT ?_)
  refine bV [17,18,19,20,21,22,23,24,25,26,27,28,29,30,31,32,33,34,35] _ J (br (V:= [(0,17,_),(1,18,_),(2,19,_),(3,20,_),(4,21,_),(5,22,_),(6,23,_),(7,24,_),(8,25,_),(9,26,_),(10,27,_),(11,28,_),(12,29,_),(13,30,_),(14,31,_),(15,32,_),(16,33,_),(17,34,_),(18,35,_)]) [0,1,2,3,4,5,6,7,8,9,10,11,12,13,14,15,16,17,18] J J (aK J J (ad J (av J) (ad J (ah gt J) (ad J (ag zA J J (aB (k:=16) J J)) (ad J (aS J J bj) (aK J J (a_ (cT [] J J J O (fun hg2=>aV J)) (a_ (cT [(23,_)] J J J ⟨J,O⟩ (fun hg3=>av J)) (a_ (cT [(24,_)] J J J ⟨J,O⟩ (fun hg4=>ah fA J)) (a_ (cT [(25,_)] J J J ⟨J,O⟩ (fun hg5=>ag mQ J J (aB (k:=16) J J))) (a_ (cT [] J J J O (fun hg6=>aV J)) (a_ (cT [(27,_)] J J J ⟨J,O⟩ (fun hg7=>av J)) (a_ (cT [(28,_)] J J J ⟨J,O⟩ (fun hg8=>ah bN J)) (a_ (cT [(29,_)] J J J ⟨J,O⟩ (fun hg9=>ag t3 J J (aB (k:=16) J J))) (a_ (cT [(26,_),(30,_)] J J J ⟨J,J,O⟩ (fun hg10=>aQ (j:=x.i) underlying192 ea J J (aP (k:=0) J) (by first|rfl|omega) (by first|omega|(simp;done)|(simp;omega)))) (a_ (cT [(31,_)] J J J ⟨J,O⟩ (fun hg11=>cy dO J)) (a_ (cT [(32,_)] J J J ⟨J,O⟩ (fun hg12=>ag t3 J J (gh (aP (k:=0) J) (by intro _;rfl) hx J))) (a_ (cT [(33,_)] J J J ⟨J,O⟩ (fun hg13=>aS J J fW)) (ad J (bD J J J) au))))))))))))))))))) J J J ?_);refine ai J (fun h14=> ?_) (fun h14=> ?_)
  ·have hk0:¬t.k=0:=by have q:=h14;revert q;simp
   obtain⟨pf,j,hpf,hpp⟩:=hO2 hk0;obtain⟨a,n,c,ps,j0,bb,ha1,ha2,hn,hnk,hc1,hc2,hps,hpb,hfe⟩:=EF hpf;obtain⟨t3,ht3,hT3,hF3⟩:=EC hps;refine az (aC (am (ab J (ae (xs:= [.tmp 36,.const (Sg (ByteArray.mk #[102,110]))]) (c9 b16 vt ts hts x.i a ha1 Mu ha2) iS [16] [(false,0)] [16] (fun _ _=>aw J (ab J (ae (xs:= [.tmp 38]) (lu b16 vt ts hts (x.i+1) n hn hnk) Dq [16] [(false,0)] [16] (fun _ _=>aJ (aW (cs:=(oE ⟨n.s,bT,[],bT,[]⟩).toArray) (parts:= [(0,.tmp 39)]) mI MM J (by kernel_rfl)) (aU mI J J fun b7=>aq (k:=7) mI J J J J J J (aw J (ab J (ae (xs:= [.tmp 41,.const (Sg (ByteArray.mk #[40]))]) (c9 b16 vt ts hts (x.i+2) c hc1 AP hc2) iS [16] [(false,0)] [16] (fun _ _=>aa ?_)))))))))))));refine am (ab J (ae (xs:= [.tmp 43,.const (Sg (ByteArray.mk #[41]))]) (fg b16 vt ts hts (x.i+3) t3 ht3 jH) nL [16] [(false,0)] [16] (fun _ _=>ao J (aa (aT (aC (ez 52 (α:=Ba) (S:=9) (s:=1) (enc:=eS) ?_)))))));refine bC (X:=Lq) (fun q=>(q.d=true→q.l=ps∧q.i=j0)∧(q.d=false→EE ts q.g q.l q.i=some (ps,j0))∧q.l.length+q.g≤100) (fun q=> [(2,Pt b2),(3,I6 0),(4,I6 0),(5,Pt b16),(6,Pt b6),(7,Pt b7),(8,.bool q.d)]) (fun q=> [(16,aO b16 195 (rR vt (q.i))),(2,aO b2 27 [sv bT]),(6,aO b6 27 [sv x.v]),(50,own 66 3 oE (sv x.v) x.l),(51,Jl x.l),(7,aO b7 66 (oE ⟨n.s,q.v,q.l,bT,[]⟩)),(52,own 9 1 eS (sv q.v) q.l)]) (fun q=> [(0,sl 5 jv (sv vt) ts)]) (fun q=>if q.d=true then 0 else q.g+1) ⟨dU t3 jH,bT,[],if dU t3 jH=true then x.i+3+1 else x.i+3,100⟩ ⟨fun hd=>⟨(hT3 hd).1.symm,by show(if dU t3 jH=true then x.i+3+1 else x.i+3)=j0;rw [ak hd];exact(hT3 hd).2.symm⟩,fun hd=>by show EE ts 100 [] (if dU t3 jH=true then x.i+3+1 else x.i+3)=_;rw [ac (by rw [show dU t3 jH=false from hd];decide)];exact hF3 hd,bM _⟩ J J J (fun q hq1=> ?_)
   refine aR (ab J (aJ (cZ J) (ab J (aF [] J J O (fun hg15=>aV J) J (aF [(48,_)] J J ⟨J,O⟩ (fun hg16=>av J) J (aF [(48,_),(49,_)] J J ⟨J,J,O⟩ (fun hg17=>ah gt J) J (aF [(48,_),(49,_),(50,_)] J J ⟨J,J,J,O⟩ (fun hg18=>ag zA J J (aB (k:=16) J J)) J (aF [(48,_),(49,_),(50,_),(51,_)] J J ⟨J,J,J,J,O⟩ (fun hg19=>aS J J bj) J (aJ (bD J J J) (aa (ai J (fun h20=> ?_) (fun h20=> ?_))))))))))))
   ·have hd:q.d=false:=by have z:=h20;revert z;cases q.d<;>simp
    obtain⟨g3,w,u,hg3,hw,hwk,hu,hu1,hu2⟩:=ED (hq1.2.1 hd);have hql:=hq1.2.2;refine az (aC (aT ?_));refine bV [54,55,56,57,58,59,60] _ J (bk (V:= [(0,54,_),(1,55,_),(2,56,_)]) [0,1,2] 3 [3,2] [] (fun _=> []) J J (ad J (ah fR J) (ad J (ag oO J J (aB (k:=7) J J)) (aK J J au))) J J J J J J J J J J J (fun _ _=>J) J (bS (xs:= [.tmp 56]) (lu b16 vt ts hts q.i w hw hwk) Dq [16] [(false,0)] [16]) (fun _ _=>bk [0,1] 4 [4,3,2] [] (fun v58=> []) J J (ad J (ah fR J) (ad J (ag oO J J (aB (k:=7) J J)) au)) J J J J J J J J J J J (fun _ _=>J) J (gq eS w.s underlying46 t9 J (by decide) (by decide) J J J) (fun v58 _=>bk [0,1] 5 [5,4,3,2,1,0] [6] (fun v59=> [(6,60,_)]) J J (ad J (ah fR J) (ad J (ag oO J J (aB (k:=7) J J)) au)) J J J J J J J J J J J (fun _ _=>J) J (kv 52 underlying46 t9 J (by decide) (fun _=>J) (fun _=>J) J J J (bp (k:=58) J) (by first|omega|(simp;done)|(simp;omega)) (by unfold maxLen;first|omega|(simp;done)|(simp;omega))) (fun v59 _=>bR [6] 7 [7,6,5,4,3,2,1,0] [] (fun _=> []) J J (ad J (ah fR J) au) J J J J J J J J J (fun _ _=>J) J (db (k:=7) oO J J J J J J J J) (fun _ _=>br [] J J au J J J ?_)))));refine am (ab J (ae (xs:= [.tmp 61,.const (Sg (ByteArray.mk #[41]))]) (fg b16 vt ts hts (q.i+1) u hu jH) nL [16] [(false,0)] [16] (fun _ _=>ao J (aw J (ab J (aJ (cZ J) (aa (ai J (fun h21=> ?_) (fun h21=> ?_)))))))))
    ·have hrp:dU u jH=false:=by have z:=h21;revert z;cases dU u jH<;>simp
     rw [ac (by rw [hrp];decide)];obtain⟨hcm,hpe⟩:=hu2 hrp;refine aj (ab J (ae (xs:= [.tmp 65,.const (Sg (ByteArray.mk #[44]))]) (c9 b16 vt ts hts (q.i+1) u hu Je hcm) iS [16] [(false,0)] [16] (fun _ _=>aa ?_)));refine aI ⟨false,v59,q.l++ [w.s],q.i+2,g3⟩ ⟨⟨fun h=>(by cases h),fun _=>hpe,by show(q.l++ [w.s]).length+g3≤100;rw [bQ];show _+1+_≤_;omega⟩,by show(if false=true then 0 else g3+1)<_;rw [ac (by decide),ac (by rw [hd];decide)];omega⟩ (by rw [hrp];rfl) J J
    ·have hrp:dU u jH=true:=by have z:=h21;revert z;cases dU u jH<;>simp
     rw [ak hrp];have hpe:=hu1 hrp;refine az ?_;refine aI ⟨true,v59,q.l++ [w.s],q.i+2,g3⟩ ⟨⟨fun _=>⟨hpe.1.symm,hpe.2.symm⟩,fun h=>(by cases h),by show(q.l++ [w.s]).length+g3≤100;rw [bQ];show _+1+_≤_;omega⟩,by show(if true=true then 0 else g3+1)<_;rw [ak J,ac (by rw [hd];decide)];omega⟩ (by rw [hrp];rfl) J J
   ·have hd:q.d=true:=by have z:=h20;revert z;cases q.d<;>simp
    obtain⟨he1,he2⟩:=hq1.1 hd;rw [he2];refine bF (am (ab J (ct (xs:= [.tmp 67]) (uw b16 vt ts hts (by decide) _ _ _ hpb) zm [16] [(false,0)] [16,68] J J J (fun yb hyb=>aA m_ J (ax (k:=7) n8 J J J J J J J J (aa (aj (aA iB J (aL 6 Bb J J J J (aJ (aM mI J J J (bh (k:=7) J)) (bH oE (⟨n.s,q.v,q.l,yb.1,yb.2⟩:Tf) underlying25 mI J (by decide) (by decide) J J J J fun v73=>gB 50 underlying25 mI J (by decide) (fun _=>J) (fun _=>J) J J J (bp (k:=73) J) (by first|omega|(simp;done)|(simp;omega)) (by unfold maxLen;first|omega|(simp;done)|(simp;omega)) J fun v74=>aA iB J (ax (k:=6) Bb J J J J J J J J (aa (bL 51 [51,52,68] J (Fg (n:=n.s)) ?_))))))))))))));refine aI ⟨v74,x.l++ [⟨n.s,q.v,q.l,yb.1,yb.2⟩],j,g2⟩ ⟨⟨by show pP ts g2 ((x.l++ [(⟨n.s,q.v,q.l,yb.1,yb.2⟩:Tf)]).map AQ) j=_;rw [List.map_append,show List.map AQ [(⟨n.s,q.v,q.l,yb.1,yb.2⟩:Tf)]= [⟨n.s,q.l,kR yb.2⟩]from J,hyb,he1,←hfe];exact hpp,by show(x.l++ [_]).length+g2≤1000;rw [bQ];show _+1+_≤_;omega⟩,by show g2<x.g;omega⟩ J J J
  ·have hk0:t.k=0:=by have q:=h14;revert q;simp
   have he:=hO1 hk0;refine bF (aR (ab J (bq J (aA gt J (aL 16 zA J J J J (ap J J fW (aa (ai J (fun h22=> ?_) (fun h22=> ?_)))))))))
   ·exact absurd h22 (by decide)
   ·(try simp only [aX]at h22);refine az (am (aJ (aM wm J J J (bh (k:=6) J)) (aq (k:=2) wm J J J J J J (ao J (ao J (aa (ar (bL 60 [50,51] J Ff (aG (x.v,x.l) he.symm J (OF (be wm J J J (bh (k:=2) J)) (aD J) (aD J)) J [60] [] J J J)))))))))
theorem j_(s:Ba)(hs:s.size≤16384)(g0:Nat)(ts:List Tk)(hr:tN s g0 0 []=some ts)(hts:ts.length≤20000)(fs:List Pf)(hp:pP ts 1000 [] 0=some fs):
  Spec prog 19 [Sg s] [] [] (X:=SV×List Tf) (fun x=>x.2.map AQ=fs) (fun x=> .agg #[sv x.1]) (fun x=> [fD x.1 x.2]) (fun _=> []):=by
 refine ay func19 J ntmps19 J fun w0 M H=>am (aU wm J J fun b2=>aw J (ab J (ae (xs:= [.tmp 7]) (wL s hs g0 ts hr hts fs hp) NM [] [] [60] (fun x hx=>ab J (aJ (cv J J) (aJ (cv J J) (aJ (cv J J) (aU wm J J fun b3=>aq (k:=3) wm J J J J J J (ao J (ao J (aw J ?_)))))))))))
 refine aJ (aM wm J J J (bh (k:=3) J)) (aq (k:=2) wm J J J J J J (aa (ar (aG x hx J (bU (be wm J J J (bh (k:=2) J))) J [60] [] J J J))))
mutual
def uX:Px→Tx
 | .mk k n nm kids=> .mk k n nm bT (Mi kids)
def Mi:List Px→List Tx
 | []=> []
 | t::r=>uX t::Mi r
end
mutual
def uY:Py→Ty
 | .mk k nm es body els=> .mk k nm bT (Mi es) bT (JE body) bT (JE els)
def JE:List Py→List Ty
 | []=> []
 | t::r=>uY t::JE r
end
def uF(f:Pf):Tf:=⟨f.name,bT,f.ps,bT,JE f.body⟩
abbrev cX(t:Tx):Tx:=uX (qW t)
abbrev lR(l:List Tx):List Tx:=Mi (jJ l)
abbrev cY(t:Ty):Ty:=uY (Jm t)
abbrev jg(l:List Ty):List Ty:=JE (kR l)
abbrev cF(f:Tf):Tf:=uF (AQ f)
theorem kL:∀l:List Tx,(lR l).length=l.length
 | []=>rfl
 | t::r=>congrArg (· +1) (kL r)
theorem kK:∀l:List Ty,(jg l).length=l.length
 | []=>rfl
 | t::r=>congrArg (· +1) (kK r)
mutual
theorem ME:∀t:Tx,rX (cX t)=rX t
 | .mk k n nm v kids=>by
  show(rE k nm (lR kids).length&&(decide (k=1) || decide (n=0))&&oh (lR kids))=_;rw [kL,BC kids];rfl
theorem BC:∀l:List Tx,oh (lR l)=oh l
 | []=>rfl
 | t::r=>by show(rX (cX t)&&oh (lR r))=(rX t&&oh r);rw [ME t,BC r]
end
mutual
theorem MD:∀t:Ty,rY (cY t)=rY t
 | .mk k nm ve es vb body vl els=>by
  show(F1 k nm (lR es).length (jg body).length (jg els).length&&oh (lR es)&&kZ (jg body)&&kZ (jg els))=_;rw [kL,kK,kK,BC es,yn body,yn els];rfl
theorem yn:∀l:List Ty,kZ (jg l)=kZ l
 | []=>rfl
 | t::r=>by show(rY (cY t)&&kZ (jg r))=(rY t&&kZ r);rw [MD t,yn r]
end
mutual
theorem M0:∀t:Tx,nX (cX t)=nX t
 | .mk k n nm v kids=>by show fO (lR kids)+1=_;rw [BY kids];rfl
theorem BY:∀l:List Tx,fO (lR l)=fO l
 | []=>rfl
 | t::r=>by show nX (cX t)+fO (lR r)=nX t+fO r;rw [M0 t,BY r]
end
mutual
theorem Nt:∀t:Tx,dX (cX t)=dX t
 | .mk k n nm v kids=>by show gN (lR kids)+1=_;rw [C8 kids];rfl
theorem C8:∀l:List Tx,gN (lR l)=gN l
 | []=>rfl
 | t::r=>by show max (dX (cX t)) (gN (lR r))=max (dX t) (gN r);rw [Nt t,C8 r]
end
mutual
theorem MZ:∀t:Ty,nY (cY t)=nY t
 | .mk k nm ve es vb body vl els=>by show 1+fO (lR es)+ef (jg body)+ef (jg els)=_;rw [BY,rH body,rH els];rfl
theorem rH:∀l:List Ty,ef (jg l)=ef l
 | []=>rfl
 | t::r=>by show nY (cY t)+ef (jg r)=nY t+ef r;rw [MZ t,rH r]
end
mutual
theorem Mv:∀t:Ty,vY (cY t)=vY t
 | .mk k nm ve es vb body vl els=>by show(if k=1 then 1 else 0)+dF (jg body)+dF (jg els)=_;rw [x6 body,x6 els];rfl
theorem x6:∀l:List Ty,dF (jg l)=dF l
 | []=>rfl
 | t::r=>by show vY (cY t)+dF (jg r)=vY t+dF r;rw [Mv t,x6 r]
end
mutual
theorem KP:∀(d:Nat)(t:Ty),DO d (cY t)=DO d t
 | d,.mk k nm ve es vb body vl els=>by show(decide (d>8) || decide (gN (lR es)>8) || de (d+1) (jg body) || de (d+1) (jg els))=_;rw [C8,tC _ body,tC _ els];rfl
theorem tC:∀(d:Nat)(l:List Ty),de d (jg l)=de d l
 | d,[]=>rfl
 | d,t::r=>by show(DO d (cY t) || de d (jg r))=(DO d t || de d r);rw [KP d t,tC d r]
end
theorem oD(fs:List Tf)(x:Ba):cK (fs.map cF) x=(cK fs x).map cF:=by
 unfold cK;rw [List.find?_map];rfl
theorem KK(fs:List Tf)(x:Ba):xu (fs.map cF) x=xu fs x:=by
 unfold xu vW;rw [List.findIdx?_map];rfl
mutual
theorem Ns(fs:List Tf)(ns:List Ba):∀t:Tx,eX (fs.map cF) ns (cX t)=eX fs ns t
 | .mk k n nm v kids=>by
  rw [show cX (.mk k n nm v kids)= .mk k n nm bT (lR kids)from J,eX,eX,CY fs ns kids,oD,kL];cases cK fs nm<;>rfl
theorem CY(fs:List Tf)(ns:List Ba):∀l:List Tx,jE (fs.map cF) ns (lR l)=jE fs ns l
 | []=>by show jE _ ns []=_;rw [jE,jE]
 | t::r=>by
  rw [show lR (t::r)=cX t::lR r from J,jE,jE,Ns fs ns t,CY fs ns r]
end
mutual
theorem N0(fs:List Tf):∀(t:Ty)(ns:List Ba),bY (fs.map cF) ns (cY t)=bY fs ns t
 | .mk k nm ve es vb body vl els,ns=>by
  rw [show cY (.mk k nm ve es vb body vl els)= .mk k nm bT (lR es) bT (jg body) bT (jg els)from J,bY,bY];simp only [zp fs body,zp fs els,CY]
theorem zp(fs:List Tf):∀(l:List Ty)(ns:List Ba),dA (fs.map cF) ns (jg l)=dA fs ns l
 | [],ns=>by show dA _ ns []=_;rw [dA,dA]
 | t::r,ns=>by
  rw [show jg (t::r)=cY t::jg r from J,dA,dA];simp only [N0 fs t,zp fs r]
end
theorem IE(fs:List Tf)(f:Tf):lF (fs.map cF) (cF f)=lF fs f:=by
 unfold lF;show fst (if f.ps.length>4∨f.ps.length+dF (jg f.body)>12∨ef (jg f.body)>400∨de 1 (jg f.body)=true then 2 else 0) (fst (tP [] f.ps) (dA (fs.map cF) f.ps (jg f.body)).2)=_;rw [x6,rH,tC,zp]
theorem zk(fs:List Tf):∀l:List Tf,gl (fs.map cF) (l.map cF)=gl fs l
 | []=>rfl
 | f::r=>by
  rw [List.map_cons,gl,gl,IE,zk fs r]
theorem MG(fs:List Tf):rP (fs.map cF)=rP fs:=by
 unfold rP;rw [List.all_map]
 congr 1
 funext f;show(f.ps.all dD&&dD f.name&&kZ (jg f.body))=_;rw [yn];rfl
theorem HF(fs:List Tf):once (fs.map cF)=once fs:=by
 unfold once;rw [List.length_map]
 congr 1
 funext i;have:((fs.map cF).getD i ⟨cC,bT,[],bT,[]⟩).name=(fs.getD i ⟨cC,bT,[],bT,[]⟩).name:=by
  rw [List.getD_eq_getElem?_getD,List.getD_eq_getElem?_getD,List.getElem?_map];cases fs[i]?<;>rfl
 rw [this,KK]
theorem Dd(fs:List Tf):jx (fs.map cF)=jx fs:=by
 unfold jx;rw [MG,HF,List.length_map,oD,zk];cases cK fs d9<;>rfl
theorem F7:∀fs:List Tf,uE (fs.map cF)=uE fs
 | []=>rfl
 | f::r=>by
  show ef (jg f.body)+uE (r.map cF)=_;rw [rH,F7 r];rfl
mutual
theorem N9:∀t:Tx,GX (cX t)→GX t
 | .mk k n nm v kids,h=>⟨h.1,h.2.1,by have:=h.2.2.1;rwa [kL]at this,DJ kids h.2.2.2⟩
theorem DJ:∀l:List Tx,GXs (lR l)→GXs l
 | [],_=>trivial
 | t::r,h=>⟨N9 t h.1,DJ r h.2⟩
end
mutual
theorem N7:∀t:Ty,GY (cY t)→GY t
 | .mk k nm ve es vb body vl els,h=>⟨h.1,⟨by have:=h.2.1.1;rwa [kL]at this,DJ es h.2.1.2⟩,⟨by have:=h.2.2.1.1;rwa [kK]at this,zt body h.2.2.1.2⟩,⟨by have:=h.2.2.2.1;rwa [kK]at this,zt els h.2.2.2.2⟩⟩
theorem zt:∀l:List Ty,GYs (jg l)→GYs l
 | [],_=>trivial
 | t::r,h=>⟨N7 t h.1,zt r h.2⟩
end
theorem N_{fs:List Tf}(h:GP (fs.map cF)):GP fs:=by
 refine⟨by have:=h.1;rwa [List.length_map]at this,fun f hf=> ?_⟩;obtain⟨h1,h2,h3,h4,h5,h6⟩:=h.2 (cF f) (List.mem_map_of_mem hf);refine⟨h1,h2,h3,?_,zt f.body h5,?_⟩
 ·have:(jg f.body).length≤1000000:=h4
  rwa [kK]at this
 ·have:f.ps.length+ef (jg f.body)≤1000000:=h6
  rwa [rH]at this
theorem F9{fs:List Tf}{ps:List Pf}(h:fs.map AQ=ps):fs.map cF=ps.map uF:=by
 rw [←h,List.map_map];rfl
def OT(fs:List Tf)(g:Nat):Prop:=
 (∀d vs t s,ju g (fs.map cF) d vs (cX t) s=ju g fs d vs t s)∧(∀d vs acc l s,jM g (fs.map cF) d vs acc (lR l) s=jM g fs d vs acc l s)∧
 (∀d f al s,qV g (fs.map cF) d (cF f) al s=qV g fs d f al s)∧(∀d vs l s,kQ g (fs.map cF) d vs (jg l) s=kQ g fs d vs l s)∧
 (∀d vs t s,nQ g (fs.map cF) d vs (cY t) s=nQ g fs d vs t s)∧(∀d vs t l v s,qU g (fs.map cF) d vs (cX t) (jg l) v s=qU g fs d vs t l v s)
theorem KL(fs:List Tf):∀g,OT fs g
 | 0=>⟨fun _ _ _ _=>by rw [ju,ju],fun _ _ _ _ _=>by rw [jM,jM],fun _ _ _ _=>by rw [qV,qV],fun _ _ _ _=>by rw [kQ,kQ],fun _ _ _ _=>by rw [nQ,nQ],fun _ _ _ _ _ _=>by rw [qU,qU]⟩
 | g+1=>by
  obtain⟨hX,hK,hC,hB,hS,hW⟩:=KL fs g;refine⟨fun d vs t s=> ?_,fun d vs acc l s=> ?_,fun d f al s=> ?_,fun d vs l s=> ?_,fun d vs t s=> ?_,fun d vs t l v s=> ?_⟩
  ·cases t with
   | mk k n nm v kids=>
    rw [show cX (.mk k n nm v kids)= .mk k n nm bT (lR kids)from J,ju,ju];dsimp only [Tx.kids,Tx.kind,Tx.name,Tx.n];rw [hK,oD];split
    ·rfl
    ·cases jM g fs d vs [] kids {s with fuel:=s.fuel-1}with
     | none=>rfl
     | some q=>
      cases q with
      | err e=>rfl
      | ok ks s1=>
       dsimp only
       iterate 6 refine ite_congr rfl (fun _=>rfl) (fun _=> ?_)
       cases cK fs nm with
       | none=>rfl
       | some f=>exact hC _ _ _ _
  ·cases l with
   | nil=>show jM (g+1) _ d vs acc [] s=_;rw [jM,jM]
   | cons t r=>
    rw [show lR (t::r)=cX t::lR r from J,jM,jM,hX];cases ju g fs d vs t s with
    | none=>rfl
    | some r=>
     cases r with
     | err e=>rfl
     | ok v s1=>exact hK _ _ _ _ _
  ·rw [qV,qV];show(if d=12 then some (Re.err 26)else match kQ g (fs.map cF) (d+1) (gS [] f.ps al) (jg f.body) s with|none=>none|some (.err e)=>some (.err e)|some (.ok (_,r) s1)=>some (.ok (r.getD 0) s1))=_;rw [hB];rfl
  ·cases l with
   | nil=>show kQ (g+1) _ d vs [] s=_;rw [kQ,kQ]
   | cons t r=>
    rw [show jg (t::r)=cY t::jg r from J,kQ,kQ,hS];cases nQ g fs d vs t s with
    | none=>rfl
    | some q=>
     cases q with
     | err e=>rfl
     | ok v s1=>
      obtain⟨vs1,o⟩:=v;cases o with
      | none=>exact hB _ _ _ _
      | some x=>rfl
  ·cases t with
   | mk k nm ve es vb body vl els=>
    rw [show cY (.mk k nm ve es vb body vl els)= .mk k nm bT (lR es) bT (jg body) bT (jg els)from J,nQ,nQ];dsimp only [Ty.es,Ty.kind,Ty.name,Ty.body,Ty.els];split
    ·rfl
    ·cases es with
     | nil=>rfl
     | cons e es=>
      rw [show lR (e::es)=cX e::lR es from J];dsimp only;rw [hX];cases ju g fs d vs e {s with fuel:=s.fuel-1}with
      | none=>rfl
      | some q=>
       cases q with
       | err e=>rfl
       | ok v s1=>
        dsimp only;refine ite_congr J (fun _=>J) (fun _=>ite_congr J (fun _=> ?_) (fun _=>ite_congr J (fun _=> ?_) (fun _=>ite_congr J (fun _=> ?_) (fun _=>J))))
        ·cases es with
         | nil=>rfl
         | cons e2 es2=>
          rw [show lR (e2::es2)=cX e2::lR es2 from J];dsimp only;rw [hX]
        ·by_cases hv:v=0
         ·rw [ak hv,ak hv];exact hB _ _ _ _
         ·rw [ac hv,ac hv];exact hB _ _ _ _
        ·exact hW _ _ _ _ _ _
  ·rw [qU,qU];split
   ·rfl
   ·rw [hB];cases kQ g fs d vs l s with
    | none=>rfl
    | some q=>
     cases q with
     | err e=>rfl
     | ok v s1=>
      obtain⟨vs1,o⟩:=v;cases o with
      | some x=>rfl
      | none=>
       show(match ju g (fs.map cF) d vs1 (cX t) s1 with|none=>none|some (Re.err e)=>some (Re.err e)|some (Re.ok w s2)=>qU g (fs.map cF) d vs1 (cX t) (jg l) w s2)=(match ju g fs d vs1 t s1 with|none=>none|some (Re.err e)=>some (Re.err e)|some (Re.ok w s2)=>qU g fs d vs1 t l w s2);rw [hX];cases ju g fs d vs1 t s1 with
       | none=>rfl
       | some q=>
        cases q with
        | err e=>rfl
        | ok w s2=>exact hW _ _ _ _ _ _
theorem JN{fs:List Tf}{ins:List Int}{fuel:Int}{ru:Ru}(h:RunIs (fs.map cF) ins fuel ru):RunIs fs ins fuel ru:=by
 cases h with
 | bad h=>
  rw [Dd]at h ⊢;exact .bad h
 | run f g r h hf he=>
  rw [Dd]at h;rw [oD]at hf;cases hq:cK fs d9 with
  | none=>rw [hq]at hf;cases hf
  | some f0=>
   rw [hq]at hf;have hf:cF f0=f:=dv hf;subst hf;rw [(KL fs g).2.2.1]at he;exact .run f0 g r h hq he
def G8:Ba:=(⟨#[102,110,32,109,97,105,110,40,41,32,123,32,111,117,116,32,105,110,32,45,32,105,110,32,42,32,50,59,32,111,117,116,32,49,32,60,32,50,59,32,125]⟩:Ba)
def ts0:List Tk:=(tN G8 200 0 []).getD []
def pg0:List Pf:=(pP ts0 1000 [] 0).getD []
theorem OC:tN G8 200 0 []=some ts0:=by kernel_rfl
theorem Ow:pP ts0 1000 [] 0=some pg0:=by kernel_rfl
theorem Oz:ts0.length≤20000:=Nat.le_of_ble_eq_true (by kernel_rfl)
def G7:Ba:=(⟨#[102,110,32,109,97,105,110,40,41,32,123,32,109,101,109,91,50,53,55,93,32,61,32,57,59,32,111,117,116,32,109,101,109,91,49,93,32,47,32,48,59,32,125]⟩:Ba)
def ts1:List Tk:=(tN G7 200 0 []).getD []
def pg1:List Pf:=(pP ts1 1000 [] 0).getD []
theorem OB:tN G7 200 0 []=some ts1:=by kernel_rfl
theorem Ov:pP ts1 1000 [] 0=some pg1:=by kernel_rfl
theorem Oy:ts1.length≤20000:=Nat.le_of_ble_eq_true (by kernel_rfl)
def G6:Ba:=(⟨#[102,110,32,109,97,105,110,40,41,32,123,32,111,117,116,32,102,40,51,41,59,32,125,32,102,110,32,102,40,110,41,32,123,32,114,101,116,117,114,110,32,102,40,110,41,59,32,125]⟩:Ba)
def ts2:List Tk:=(tN G6 200 0 []).getD []
def pg2:List Pf:=(pP ts2 1000 [] 0).getD []
theorem OA:tN G6 200 0 []=some ts2:=by kernel_rfl
theorem Ou:pP ts2 1000 [] 0=some pg2:=by kernel_rfl
theorem Ox:ts2.length≤20000:=Nat.le_of_ble_eq_true (by kernel_rfl)
def Jf(s:Ba):Bool:=s.data.toList.all (fun b=>decide (b.toNat<128))&&decide (s.size≤1000000)
theorem s6{s:Ba}(h:Jf s=true):F5 s:=by
 unfold Jf at h;rw [Bool.and_eq_true,decide_eq_true_eq,List.all_eq_true]at h;refine⟨fun i hi=> ?_,h.2⟩;have:=h.1 (s[i]'hi) (by
  have:s[i]'hi=s.data[i]:=J;rw [this];exact Array.getElem_mem_toList ..)
 exact df this
mutual
def M6:Tx→Bool
 | .mk k n nm _ kids=>(decide (0≤n)&&decide (n<4294967296))&&(Jf nm&&(decide (kids.length≤1000000)&&Cp kids))
def Cp:List Tx→Bool
 | []=>true
 | t::r=>M6 t&&Cp r
end
mutual
def M5:Ty→Bool
 | .mk k nm _ es _ body _ els=>Jf nm&&((decide (es.length≤1000000)&&Cp es)&&((decide (body.length≤1000000)&&Ao body)&&(decide (els.length≤1000000)&&Ao els)))
def Ao:List Ty→Bool
 | []=>true
 | t::r=>M5 t&&Ao r
end
def Og(f:Tf):Bool:=Jf f.name&&(f.ps.all Jf&&(decide (f.ps.length≤1000000)&&(decide (f.body.length≤1000000)&&(Ao f.body&&decide (f.ps.length+ef f.body≤1000000)))))
def Of(fs:List Tf):Bool:=decide (fs.length≤1000000)&&fs.all Og
mutual
theorem Ib:∀t:Tx,M6 t=true→GX t
 | .mk k n nm v kids,h=>by
  unfold M6 at h;simp only [Bool.and_eq_true,decide_eq_true_eq]at h;exact⟨h.1,s6 h.2.1,h.2.2.1,tj kids h.2.2.2⟩
theorem tj:∀l:List Tx,Cp l=true→GXs l
 | [],_=>trivial
 | t::r,h=>by
  unfold Cp at h;rw [Bool.and_eq_true]at h;exact⟨Ib t h.1,tj r h.2⟩
end
mutual
theorem Ia:∀t:Ty,M5 t=true→GY t
 | .mk k nm ve es vb body vl els,h=>by
  unfold M5 at h;simp only [Bool.and_eq_true,decide_eq_true_eq]at h;exact⟨s6 h.1,⟨h.2.1.1,tj es h.2.1.2⟩,⟨h.2.2.1.1,oq body h.2.2.1.2⟩,h.2.2.2.1,oq els h.2.2.2.2⟩
theorem oq:∀l:List Ty,Ao l=true→GYs l
 | [],_=>trivial
 | t::r,h=>by
  unfold Ao at h;rw [Bool.and_eq_true]at h;exact⟨Ia t h.1,oq r h.2⟩
end
theorem xg{fs:List Tf}(h:Of fs=true):GP fs:=by
 unfold Of at h;rw [Bool.and_eq_true,decide_eq_true_eq,List.all_eq_true]at h;refine⟨h.1,fun f hf=> ?_⟩;have:=h.2 f hf;unfold Og at this;simp only [Bool.and_eq_true,decide_eq_true_eq,List.all_eq_true]at this;exact⟨s6 this.1,fun s hs=>s6 (this.2.1 s hs),this.2.2.1,this.2.2.2.1,oq _ this.2.2.2.2.1,this.2.2.2.2.2⟩
def wx(fs:List Tf)(ins:List Int)(fuel:Int):Option (Re Int):=match cK fs d9 with
 | none=>none
 | some f=>qV 400 fs 0 f [] (F8 ins fuel)
theorem Eo{fs:List Tf}{ins:List Int}{fuel:Int}{r:Re Int}(hc:jx fs=0)(h:wx fs ins fuel=some r):RunIs fs ins fuel (Ha r):=by
 unfold wx at h;split at h
 ·cases h
 ·rename_i f hf;exact .run f 400 r hc hf h
def yw(o:List Int):Option (Re Int)→Bool
 | some (.ok _ s)=>decide (s.out=o)
 | _=>false
def Kc(k:Nat)(v:Int):Option (Re Int)→Bool
 | some (.ok _ s)=>decide (s.mem k=v)
 | _=>false
def Ck(e:Int):Option (Re Int)→Bool
 | some (.err z)=>decide (z=e)
 | _=>false
abbrev Mn:List Tf:=pg0.map uF
theorem OS:GP Mn:=xg (by kernel_rfl)
theorem Ol:jx Mn=0:=by kernel_rfl
theorem OM:uE Mn≤120:=Nat.le_of_ble_eq_true (by kernel_rfl)
abbrev J1:List Tf:=pg1.map uF
theorem OR:GP J1:=xg (by kernel_rfl)
theorem Oj:jx J1=0:=by kernel_rfl
theorem OL:uE J1≤120:=Nat.le_of_ble_eq_true (by kernel_rfl)
abbrev Ml:List Tf:=pg2.map uF
theorem OQ:GP Ml:=xg (by kernel_rfl)
theorem Oi:jx Ml=0:=by kernel_rfl
theorem OK:uE Ml≤120:=Nat.le_of_ble_eq_true (by kernel_rfl)
theorem OG:yw [4294967293,1] (wx Mn [7,5] 60)=true:=by kernel_rfl
theorem ro1:yw [0] (wx J1 [7,5] 60)=true:=by kernel_rfl
theorem OH:Kc 1 9 (wx J1 [7,5] 60)=true:=by kernel_rfl
theorem OI:Ck 26 (wx Ml [7,5] 60)=true:=by kernel_rfl
theorem iY{fs:List Tf}(hg:GP fs)(hc:jx fs=0)(hn:uE fs≤120):(iz fs).length≤1984:=by
 by_cases h:(iz fs).length≤1984
 ·exact h
 ·have:=B7 hg hc h;omega
theorem oS{fs:List Tf}(hg:GP fs)(hc:jx fs=0)(hn:uE fs≤120):FB fs=(2,jm (eb (iz fs)),0):=by
 have:=iY hg hc hn;unfold FB;rw [ac (by omega),ac (by omega)]
theorem oR{fs:List Tf}(hg:GP fs)(hc:jx fs=0)(hn:uE fs≤120):(jm (eb (iz fs))).size≤7936:=by
 have:=iY hg hc hn;rw [gC,fU];omega
structure Kf(fs:List Tf)(ps:List Pf):Prop where
 e:fs.map AQ=ps
 g:GP fs
 c:jx fs=0
 n:uE fs≤120
theorem Kf.of{fs:List Tf}{ps:List Pf}(h:fs.map AQ=ps)(hg:GP (ps.map uF))(hc:jx (ps.map uF)=0)(hn:uE (ps.map uF)≤120):Kf fs ps:=by
 rw [←F9 h]at hg hc hn;rw [Dd]at hc;rw [F7]at hn;exact⟨h,N_ hg,hc,hn⟩
theorem Kf.run{fs:List Tf}{ps:List Pf}(h:Kf fs ps){ins:List Int}{fuel:Int}{r:Re Int}(hc:jx (ps.map uF)=0)(hr:wx (ps.map uF) ins fuel=some r):RunIs fs ins fuel (Ha r):=by
 have:=Eo hc hr;rw [←F9 h.e]at this;exact JN this
theorem rG{o:List Int}{x:Option (Re Int)}(h:yw o x=true):∃v s,x=some (.ok v s)∧s.out=o:=by
 unfold yw at h;split at h
 ·rename_i v s;exact⟨v,s,J,df h⟩
 ·cases h
theorem Ak{e:Int}{x:Option (Re Int)}(h:Ck e x=true):x=some (.err e):=by
 unfold Ck at h;split at h
 ·rename_i z;rw [df h]
 ·cases h
theorem yi(va vb:SV)(a b:List Int)(ha:a.length≤1000000000):Spec prog 44 [sv va,sv vb] [] [sl 1 eU (sv va) a,own 41 1 eU (sv vb) b] (X:=Unit) (fun _=>True) (fun _=> .bool (decide (a=b))) (fun _=> []) (fun _=> []):=
 Spec.roAll (zP va vb a b ha) fun i A hA=>by
  match i,hA with
  | 0,hA=>exact⟨_,rfl,by cases hA;exact fun _ _ h=>h⟩
  | 1,hA=>exact⟨_,rfl,by cases hA;exact bI⟩
theorem M4:∀x∈([7,5]:List Int),oW x:=fun x hx=>by
 simp only [List.mem_cons,List.not_mem_nil,or_false]at hx;rcases hx with rfl|rfl<;>exact⟨by decide,by decide⟩
theorem OP{fs:List Tf}(h:fs.map AQ=pg0):Kf fs pg0:=Kf.of h OS Ol OM
theorem OO{fs:List Tf}(h:fs.map AQ=pg1):Kf fs pg1:=Kf.of h OR Oj OL
theorem ON{fs:List Tf}(h:fs.map AQ=pg2):Kf fs pg2:=Kf.of h OQ Oi OK
theorem ub:
  aN prog 12 [] [] [] (.bool true) []:=by
 refine ay func12 J ntmps12 J fun w0 M H=> ?_
 obtain⟨v0,s0,hr0,ho0⟩:=rG OG;obtain⟨v1,s1,hr1,ho1⟩:=rG ro1;have hr2:=Ak OI;have hm1:s1.mem 1=9:=by
  have:=OH;rw [hr1]at this;exact df this
 refine am (ao J (aw J (ae (xs:= [.const (Sg (ByteArray.mk #[102,110,32,109,97,105,110,40,41,32,123,32,111,117,116,32,105,110,32,45,32,105,110,32,42,32,50,59,32,111,117,116,32,49,32,60,32,50,59,32,125]))]) (j_ G8 (Nat.le_of_ble_eq_true (by kernel_rfl)) 200 ts0 OC Oz pg0 Ow) IN [] [] [80] (fun x0 hx0=> ?_))));have kk0:=OP hx0;have hz0:=oR kk0.g kk0.c kk0.n;refine ae (xs:= [.tmp 12]) (lE x0.1 x0.2 kk0.g (oS kk0.g kk0.c kk0.n)) qIO [] [(true,80)] [] (fun _ _=>ab J (aJ (cv J J) (aJ (cv J J) (aU tY J J fun b1=>aq (k:=1) tY J J J J J J (ao J (aw J (ae (xs:= [.const (Sg (ByteArray.mk #[102,110,32,109,97,105,110,40,41,32,123,32,109,101,109,91,50,53,55,93,32,61,32,57,59,32,111,117,116,32,109,101,109,91,49,93,32,47,32,48,59,32,125]))]) (j_ G7 (Nat.le_of_ble_eq_true (by kernel_rfl)) 200 ts1 OB Oy pg1 Ov) IN [] [] [81] (fun x1 hx1=> ?_))))))));have kk1:=OO hx1;have hz1:=oR kk1.g kk1.c kk1.n;refine ae (xs:= [.tmp 17]) (lE x1.1 x1.2 kk1.g (oS kk1.g kk1.c kk1.n)) qIO [] [(true,81)] [] (fun _ _=>ab J (aJ (cv J J) (aJ (cv J J) (aU tY J J fun b3=>aq (k:=3) tY J J J J J J (ao J (aw J (ae (xs:= [.const (Sg (ByteArray.mk #[102,110,32,109,97,105,110,40,41,32,123,32,111,117,116,32,102,40,51,41,59,32,125,32,102,110,32,102,40,110,41,32,123,32,114,101,116,117,114,110,32,102,40,110,41,59,32,125]))]) (j_ G6 (Nat.le_of_ble_eq_true (by kernel_rfl)) 200 ts2 OA Ox pg2 Ou) IN [] [] [82] (fun x2 hx2=> ?_))))))));have kk2:=ON hx2;have hz2:=oR kk2.g kk2.c kk2.n;refine ae (xs:= [.tmp 22]) (lE x2.1 x2.2 kk2.g (oS kk2.g kk2.c kk2.n)) qIO [] [(true,82)] [] (fun _ _=>ab J (aJ (cv J J) (aJ (cv J J) (aU tY J J fun b5=>aq (k:=5) tY J J J J J J (ao J (aa (aR (ab J (ap J J fW (ab J (aF [] J J O (fun hg1=>aV J) J (aF [(29,_)] J J ⟨J,O⟩ (fun hg2=>aS J J fW) J (aJ (bD J J J) (ab J (aF [] J J O (fun hg3=>aV J) J (aF [(33,_)] J J ⟨J,O⟩ (fun hg4=>aS J J fW) J ?_))))))))))))))))
 refine aJ (bD J J J) (ab J (aF [] J J O (fun hg5=>ah ke J) J (aF [(37,_)] J J ⟨J,O⟩ (fun hg6=>ag t9 J J (aB (k:=1) J J)) J (aF [(37,_),(38,_)] J J ⟨J,J,O⟩ (fun hg7=>ch underlying9 J) J (aF [(37,_),(38,_),(39,_)] J J ⟨J,J,J,O⟩ (fun hg8=>aS J J ge) J (aJ (bD J J J) (ab J (aF [] J J O (fun hg9=>ah ke J) J (aF [(43,_)] J J ⟨J,O⟩ (fun hg10=>ag t9 J J (aB (k:=3) J J)) J (aF [(43,_),(44,_)] J J ⟨J,J,O⟩ (fun hg11=>ch underlying9 J) J (aF [(43,_),(44,_),(45,_)] J J ⟨J,J,J,O⟩ (fun hg12=>aS J J ge) J (aJ (bD J J J) (ab J (aF [] J J O (fun hg13=>ah ke J) J (aF [(49,_)] J J ⟨J,O⟩ (fun hg14=>ag t9 J J (aB (k:=5) J J)) J (aF [(49,_),(50,_)] J J ⟨J,J,O⟩ (fun hg15=>ch underlying9 J) J (aF [(49,_),(50,_),(51,_)] J J ⟨J,J,J,O⟩ (fun hg16=>aS J J ge) J (aJ (bD J J J) (aa ?_)))))))))))))))))));refine ai J (fun h17=> ?_) (fun h17=> ?_)
 ·(exfalso;have q:=h17;simp at q;omega)
 ·(try simp only [aX]at h17);refine az (am (dG eU [7,5] (parts:= [(0,.const (I3 7)),(1,.const (I3 5))]) underlying48 dy J (by decide) (by intro _;rfl) J (by decide) (by decide) J J J J fun v54=>cq 54 0 (A':=sl 1 eU (sv v54) [7,5]) J bI (ao J (aw J (aA ke J (aL 1 t9 J J J J (ab J ?_)))))));obtain⟨t0,o0,m0,hs0,⟨hol0,hml0⟩,ha0,hb0⟩:=sn kk0.g kk0.c (iY kk0.g kk0.c kk0.n) v54 M4 (fuel:=60) (by decide) (kk0.run Ol hr0) (most:=10000) (by decide) (by show(0:Int)≠25;decide);obtain⟨e0a,e0b,e0c⟩:=ha0 J;have e0b:o0=s0.out:=e0b;have e0c:m0=(List.range 256).map s0.mem:=e0c;rw [ho0]at e0b;subst e0a;refine ae (xs:= [.tmp 56,.tmp 57,.const (I6 10000)]) hs0 IL [] [(false,0)] [90,91] (fun z0 _=>e8 (k:=90) (A':=sl 1 eU (sv z0.1) o0) J bI (aU zz J J fun b8=>aq (k:=8) zz J J J J J J (aw J (aA ke J (aL 3 t9 J J J J (ab J ?_))))));obtain⟨t1,o1,m1,hs1,⟨hol1,hml1⟩,ha1,hb1⟩:=sn kk1.g kk1.c (iY kk1.g kk1.c kk1.n) v54 M4 (fuel:=60) (by decide) (kk1.run Oj hr1) (most:=10000) (by decide) (by show(0:Int)≠25;decide);obtain⟨e1a,e1b,e1c⟩:=ha1 J;have e1b:o1=s1.out:=e1b;have e1c:m1=(List.range 256).map s1.mem:=e1c;rw [ho1]at e1b;subst e1a;refine ae (xs:= [.tmp 60,.tmp 61,.const (I6 10000)]) hs1 IL [] [(false,0)] [92,93] (fun z1 _=>e8 (k:=92) (A':=sl 1 eU (sv z1.1) o1) J bI (aU zz J J fun b9=>aq (k:=9) zz J J J J J J (aw J (aA ke J (aL 5 t9 J J J J (ab J ?_))))));obtain⟨t2,o2,m2,hs2,⟨hol2,hml2⟩,ha2,hb2⟩:=sn kk2.g kk2.c (iY kk2.g kk2.c kk2.n) v54 M4 (fuel:=60) (by decide) (kk2.run Oi hr2) (most:=10000) (by decide) (by show(26:Int)≠25;decide);have e2a:=hb2 J;subst e2a;refine ae (xs:= [.tmp 64,.tmp 65,.const (I6 10000)]) hs2 IL [] [(false,0)] [94,95] (fun z2 _=>e8 (k:=94) (A':=sl 1 eU (sv z2.1) o2) J bI (aU zz J J fun b10=>aq (k:=10) zz J J J J J J (aw J (aA CS J (aL 1 t3 J J J J (ap J J bj (ab J (eH (t:=70) J (fun h18=> ?_) (fun h18=>False.elim (by cases h18))))))))))
  refine bi J J (aA qb J (bi J J (aL 8 DL J J J J (bi J J (dG eU [4294967293,1] (parts:= [(0,.const (I3 4294967293)),(1,.const (I3 1))]) underlying48 dy J (by decide) (by intro _;rfl) J (by decide) (by decide) J J J J fun v73=>bi J J (ae (xs:= [.tmp 72,.tmp 73]) (yi z0.1 v73 o0 [4294967293,1] hol0) KZ [] [(true,90),(true,73)] [] (fun _ _=>aJ (bD J J J) (ab J (eH (t:=76) J (fun h19=> ?_) (fun h19=>False.elim (by revert h19;rw [e0b];simp)))))))))));refine bi J J (aA xq J (bi J J (aJ (aM (us:= [I6 4,I3 0]) yc J J J (jC (k:=8) J J)) (bi J J (aJ (aW (parts:= [(0,.const (I6 4))]) yc JU J J) (bi J J (ap J J IT (aJ (bD J J J) (ab J (eH (t:=82) J (fun h20=> ?_) (fun h20=>False.elim (by revert h20;simp))))))))))));refine bi J J (aA qb J (bi J J (aL 9 DL J J J J (bi J J (bH eU 0 underlying48 dy J (by decide) (by decide) J J J J fun v85=>bi J J (ae (xs:= [.tmp 84,.tmp 85]) (yi z1.1 v85 o1 [0] hol1) KZ [] [(true,92),(true,85)] [] (fun _ _=>aJ (bD J J J) (ab J (aF [] J J O (fun hg21=>ah qa J) J (aF [(89,_)] J J ⟨J,O⟩ (fun hg22=>ag DL J J (aB (k:=9) J J)) J (aF [(89,_),(90,_)] J J ⟨J,J,O⟩ (fun hg23=>aQ (j:=1) underlying48 dy J J (bp (k:=93) J) J (by rw [e1c,List.length_map,List.length_range];decide)) J ?_)))))))))));refine aF [(89,_),(90,_),(91,_)] J J ⟨J,J,J,O⟩ (fun hg24=>ag dy J J (ci (bp (k:=93) J) (by intro _;rfl) (show m1[1]?=some 9 by rw [e1c];show some (s1.mem 1)=_;rw [hm1]) (by rfl))) J ?_;refine aF [(89,_),(90,_),(91,_),(92,_)] J J ⟨J,J,J,J,O⟩ (fun hg25=>aS J J bj) J (aJ (bD J J J) (ab J (aF [] J J O (fun hg26=>ah xq J) J (aF [(96,_)] J J ⟨J,O⟩ (fun hg27=>cy qc J) J (aF [(96,_),(97,_)] J J ⟨J,J,O⟩ (fun hg28=>ag t3 J J (aB (k:=10) J J)) J (aF [(96,_),(97,_),(98,_)] J J ⟨J,J,J,O⟩ (fun hg29=>aS J J bj) J (aJ (bD J J J) (ao J (aa (ar (aG () O J (bU (aD J)) (by rw [e1b];simp) [] [] J J J)))))))))))
section
variable{P:Program}{N:Nat}{w0:World}{M H:Nat→Prop}{E:el}{Γ R:dL}{Q:Exit→Act→World→Prop}
end
structure Sl0 where
 d:Nat
 c:Nat
 od:Bool
 oc:Bool
 cd:Nat
 cc:Nat
 r:Int
def jd(s:Sl0):List Value:= [Pt s.d,Pt s.c,.bool s.od,.bool s.oc,Pt s.cd,Pt s.cc,I6 s.r]
def fP(l:List Int):List Value:=l.map (Value.int .u8)
def gI(L:List Sl0)(D C:List (List Int))(h:Nat→Prop):Asn:=
 ⟨fun w F=>∀(i:Nat)(s:Sl0),L[i]?=some s→(¬h s.d→F s.d∧w.heap[s.d]?=some (.cells (fP (D.getD i [])).toArray 159 (0,0)))∧(¬h s.c→F s.c∧w.heap[s.c]?=some (.cells (fP (C.getD i [])).toArray 159 (0,0))),
  fun hh hs i s hi=>⟨fun hn=>⟨((hh i s hi).1 hn).1,(hs _ ((hh i s hi).1 hn).1).trans ((hh i s hi).1 hn).2⟩,fun hn=>⟨((hh i s hi).2 hn).1,(hs _ ((hh i s hi).2 hn).1).trans ((hh i s hi).2 hn).2⟩⟩⟩
abbrev g_:Nat→Prop:=fun _=>False
structure WfL(L:List Sl0):Prop where
 d:∀(i:Nat)(s:Sl0),L[i]?=some s→s.od=true→∀(j:Nat)(t:Sl0),L[j]?=some t→(t.d=s.d→j=i)∧t.c≠s.d
 c:∀(i:Nat)(s:Sl0),L[i]?=some s→s.oc=true→∀(j:Nat)(t:Sl0),L[j]?=some t→(t.c=s.c→j=i)∧t.d≠s.c
theorem wJ{L:List Sl0}{D C:List (List Int)}{i:Nat}{s:Sl0}(hs:L[i]?=some s):∀w G,(gI L D C g_).pred w G→(Ax (fun _:Unit=> [aO s.d 159 (fP (D.getD i [])),gI L D C (fun b=>b=s.d)])).pred w G:=fun w G h=>by
 obtain⟨h1,h2⟩:=(h i s hs).1 (fun h=>h);refine⟨(),fun k b=>(k=0∧b=s.d)∨(k=1∧G b∧b≠s.d),fun k A hk=> ?_,fun k b hb=> ?_,fun k m b hb hc=> ?_⟩
 ·match k,hk with
  | 0,hk=>
   cases hk;exact⟨fun x=>⟨fun q=>by rcases q with q|q;exact q.2;exact absurd q.1 (by decide),fun q=> .inl ⟨J,q⟩⟩,h2⟩
  | 1,hk=>
   cases hk;intro j t ht;exact⟨fun hn=>⟨.inr ⟨J,((h j t ht).1 (fun h=>h)).1,hn⟩,((h j t ht).1 (fun h=>h)).2⟩,fun hn=>⟨.inr ⟨J,((h j t ht).2 (fun h=>h)).1,hn⟩,((h j t ht).2 (fun h=>h)).2⟩⟩
  | k+2,hk=>simp at hk
 ·rcases hb with⟨_,rfl⟩|⟨_,hb,_⟩
  ·exact h1
  ·exact hb
 ·rcases hb with⟨rfl,hb⟩|⟨rfl,_,hb⟩<;>rcases hc with⟨rfl,hc⟩|⟨rfl,_,hc⟩
  ·rfl
  ·exact absurd hb hc
  ·exact absurd hc hb
  ·rfl
theorem pd{L:List Sl0}{D C:List (List Int)}{i:Nat}{s:Sl0}(hs:L[i]?=some s):∀w G,(gI L D C g_).pred w G→(Ax (fun _:Unit=> [aO s.c 159 (fP (C.getD i [])),gI L D C (fun b=>b=s.c)])).pred w G:=fun w G h=>by
 obtain⟨h1,h2⟩:=(h i s hs).2 (fun h=>h);refine⟨(),fun k b=>(k=0∧b=s.c)∨(k=1∧G b∧b≠s.c),fun k A hk=> ?_,fun k b hb=> ?_,fun k m b hb hc=> ?_⟩
 ·match k,hk with
  | 0,hk=>
   cases hk;exact⟨fun x=>⟨fun q=>by rcases q with q|q;exact q.2;exact absurd q.1 (by decide),fun q=> .inl ⟨J,q⟩⟩,h2⟩
  | 1,hk=>
   cases hk;intro j t ht;exact⟨fun hn=>⟨.inr ⟨J,((h j t ht).1 (fun h=>h)).1,hn⟩,((h j t ht).1 (fun h=>h)).2⟩,fun hn=>⟨.inr ⟨J,((h j t ht).2 (fun h=>h)).1,hn⟩,((h j t ht).2 (fun h=>h)).2⟩⟩
  | k+2,hk=>simp at hk
 ·rcases hb with⟨_,rfl⟩|⟨_,hb,_⟩
  ·exact h1
  ·exact hb
 ·rcases hb with⟨rfl,hb⟩|⟨rfl,_,hb⟩<;>rcases hc with⟨rfl,hc⟩|⟨rfl,_,hc⟩
  ·rfl
  ·exact absurd hb hc
  ·exact absurd hc hb
  ·rfl
theorem gK{D:List (List Int)}{i:Nat}{l:List Int}(hi:i<D.length):(D.set i l).getD i []=l:=by
 rw [List.getD_eq_getElem?_getD,List.getElem?_set_self hi];rfl
theorem gJ{D:List (List Int)}{i j:Nat}{l:List Int}(h:i≠j):(D.set i l).getD j []=D.getD j []:=by
 rw [List.getD_eq_getElem?_getD,List.getElem?_set_ne h,List.getD_eq_getElem?_getD]
theorem z7{L:List Sl0}{D C:List (List Int)}{i:Nat}{s:Sl0}{l:List Int}(hw:WfL L)(hs:L[i]?=some s)(ho:s.od=true)(hi:i<D.length)(w:World)(F:Nat→Prop)(h:AllIn w F [aO s.d 159 (fP l),gI L D C (fun b=>b=s.d)]):(gI L (D.set i l) C g_).pred w F:=by
 obtain⟨⟨G0,a0,b0⟩,⟨G1,a1,b1⟩,_⟩:=h;intro j t ht;obtain⟨e1,e2⟩:=hw.d i s hs ho j t ht;refine⟨fun _=> ?_,fun _=> ?_⟩
 ·by_cases hj:t.d=s.d
  ·obtain rfl:=e1 hj;rw [hj,gK hi];exact⟨b0 _ ((a0.1 _).2 J),a0.2⟩
  ·rw [gJ (fun hij=>hj (by subst hij;rw [hs]at ht;cases ht;rfl))];obtain⟨q1,q2⟩:=(a1 j t ht).1 hj;exact⟨b1 _ q1,q2⟩
 ·obtain⟨q1,q2⟩:=(a1 j t ht).2 e2;exact⟨b1 _ q1,q2⟩
theorem rA{L:List Sl0}{D C:List (List Int)}{i:Nat}{s:Sl0}{l:List Int}(hw:WfL L)(hs:L[i]?=some s)(ho:s.oc=true)(hi:i<C.length)(w:World)(F:Nat→Prop)(h:AllIn w F [aO s.c 159 (fP l),gI L D C (fun b=>b=s.c)]):(gI L D (C.set i l) g_).pred w F:=by
 obtain⟨⟨G0,a0,b0⟩,⟨G1,a1,b1⟩,_⟩:=h;intro j t ht;obtain⟨e1,e2⟩:=hw.c i s hs ho j t ht;refine⟨fun _=> ?_,fun _=> ?_⟩
 ·obtain⟨q1,q2⟩:=(a1 j t ht).1 e2;exact⟨b1 _ q1,q2⟩
 ·by_cases hj:t.c=s.c
  ·obtain rfl:=e1 hj;rw [hj,gK hi];exact⟨b0 _ ((a0.1 _).2 J),a0.2⟩
  ·rw [gJ (fun hij=>hj (by subst hij;rw [hs]at ht;cases ht;rfl))];obtain⟨q1,q2⟩:=(a1 j t ht).2 hj;exact⟨b1 _ q1,q2⟩
theorem cg{L:List Sl0}{i j:Nat}{x t:Sl0}(h:(L.set i x)[j]?=some t):(j=i∧t=x)∨(j≠i∧L[j]?=some t):=by
 by_cases hj:i=j
 ·subst hj;rw [List.getElem?_set]at h;simp at h;exact .inl ⟨J,h.2.symm⟩
 ·rw [List.getElem?_set_ne hj]at h;exact .inr ⟨fun e=>hj e.symm,h⟩
theorem BI{L:List Sl0}{D C:List (List Int)}{i nb:Nat}{s:Sl0}{l:List Int}(hs:L[i]?=some s)(hi:i<D.length)(w:World)(F:Nat→Prop)(h:AllIn w F [gI L D C g_,aO nb 159 (fP l)]):(gI (L.set i {s with d:=nb,od:=true}) (D.set i l) C g_).pred w F:=by
 obtain⟨⟨G0,a0,b0⟩,⟨G1,a1,b1⟩,_⟩:=h;intro j t ht;rcases cg ht with⟨rfl,rfl⟩|⟨hj,ht⟩
 ·refine⟨fun _=> ?_,fun _=> ?_⟩
  ·rw [gK hi];exact⟨b1 _ ((a1.1 _).2 J),a1.2⟩
  ·obtain⟨q1,q2⟩:=(a0 j s hs).2 (fun h=>h);exact⟨b0 _ q1,q2⟩
 ·refine⟨fun _=> ?_,fun _=> ?_⟩
  ·rw [gJ (fun e=>hj e.symm)];obtain⟨q1,q2⟩:=(a0 j t ht).1 (fun h=>h);exact⟨b0 _ q1,q2⟩
  ·obtain⟨q1,q2⟩:=(a0 j t ht).2 (fun h=>h);exact⟨b0 _ q1,q2⟩
theorem BJ{L:List Sl0}{D C:List (List Int)}{i nb:Nat}{s:Sl0}{l:List Int}(hs:L[i]?=some s)(hi:i<C.length)(w:World)(F:Nat→Prop)(h:AllIn w F [gI L D C g_,aO nb 159 (fP l)]):(gI (L.set i {s with c:=nb,oc:=true}) D (C.set i l) g_).pred w F:=by
 obtain⟨⟨G0,a0,b0⟩,⟨G1,a1,b1⟩,_⟩:=h;intro j t ht;rcases cg ht with⟨rfl,rfl⟩|⟨hj,ht⟩
 ·refine⟨fun _=> ?_,fun _=> ?_⟩
  ·obtain⟨q1,q2⟩:=(a0 j s hs).1 (fun h=>h);exact⟨b0 _ q1,q2⟩
  ·rw [gK hi];exact⟨b1 _ ((a1.1 _).2 J),a1.2⟩
 ·refine⟨fun _=> ?_,fun _=> ?_⟩
  ·obtain⟨q1,q2⟩:=(a0 j t ht).1 (fun h=>h);exact⟨b0 _ q1,q2⟩
  ·rw [gJ (fun e=>hj e.symm)];obtain⟨q1,q2⟩:=(a0 j t ht).2 (fun h=>h);exact⟨b0 _ q1,q2⟩
def Oa(L:List Sl0)(nb:Nat):Prop:=∀(j:Nat)(t:Sl0),L[j]?=some t→t.d≠nb∧t.c≠nb
theorem WfL.new_d{L:List Sl0}{i nb:Nat}{s:Sl0}(hw:WfL L)(hs:L[i]?=some s)(hf:Oa L nb):WfL (L.set i {s with d:=nb,od:=true}):=by
 refine⟨fun a x hx ho j t ht=> ?_,fun a x hx ho j t ht=> ?_⟩
 ·rcases cg hx with⟨e1,e2⟩|⟨ha,hx2⟩<;>rcases cg ht with⟨e3,e4⟩|⟨hj,ht2⟩
  ·rw [e2]at ho ⊢;rw [e4,e1,e3];exact⟨fun _=>J,(hf _ _ hs).2⟩
  ·rw [e2]at ho ⊢;rw [e1];exact⟨fun e=>absurd e (hf _ _ ht2).1,(hf _ _ ht2).2⟩
  ·rw [e4,e3];exact⟨fun e=>absurd e.symm (hf _ _ hx2).1,(hw.d a x hx2 ho _ _ hs).2⟩
  ·skip;exact hw.d a x hx2 ho j t ht2
 ·rcases cg hx with⟨e1,e2⟩|⟨ha,hx2⟩<;>rcases cg ht with⟨e3,e4⟩|⟨hj,ht2⟩
  ·rw [e2]at ho ⊢;rw [e4,e1,e3];exact⟨fun _=>J,fun e=>(hf _ _ hs).2 e.symm⟩
  ·rw [e2]at ho ⊢;rw [e1];exact hw.c _ s hs ho j t ht2
  ·rw [e4,e3];exact⟨(hw.c a x hx2 ho _ _ hs).1,fun e=>(hf _ _ hx2).2 e.symm⟩
  ·skip;exact hw.c a x hx2 ho j t ht2
theorem WfL.new_c{L:List Sl0}{i nb:Nat}{s:Sl0}(hw:WfL L)(hs:L[i]?=some s)(hf:Oa L nb):WfL (L.set i {s with c:=nb,oc:=true}):=by
 refine⟨fun a x hx ho j t ht=> ?_,fun a x hx ho j t ht=> ?_⟩
 ·rcases cg hx with⟨e1,e2⟩|⟨ha,hx2⟩<;>rcases cg ht with⟨e3,e4⟩|⟨hj,ht2⟩
  ·rw [e2]at ho ⊢;rw [e4,e1,e3];exact⟨fun _=>J,fun e=>(hf _ _ hs).1 e.symm⟩
  ·rw [e2]at ho ⊢;rw [e1];exact hw.d _ s hs ho j t ht2
  ·rw [e4,e3];exact⟨(hw.d a x hx2 ho _ _ hs).1,fun e=>(hf _ _ hx2).1 e.symm⟩
  ·skip;exact hw.d a x hx2 ho j t ht2
 ·rcases cg hx with⟨e1,e2⟩|⟨ha,hx2⟩<;>rcases cg ht with⟨e3,e4⟩|⟨hj,ht2⟩
  ·rw [e2]at ho ⊢;rw [e4,e1,e3];exact⟨fun _=>J,(hf _ _ hs).1⟩
  ·rw [e2]at ho ⊢;rw [e1];exact⟨fun e=>absurd e (hf _ _ ht2).2,(hf _ _ ht2).1⟩
  ·rw [e4,e3];exact⟨fun e=>absurd e.symm (hf _ _ hx2).2,(hw.c a x hx2 ho _ _ hs).2⟩
  ·skip;exact hw.c a x hx2 ho j t ht2
theorem WfL.rights{L:List Sl0}{i:Nat}{s:Sl0}{z:Int}(hw:WfL L)(hs:L[i]?=some s):WfL (L.set i {s with r:=z}):=by
 refine⟨fun a x hx ho j t ht=> ?_,fun a x hx ho j t ht=> ?_⟩
 ·rcases cg hx with⟨e1,e2⟩|⟨ha,hx2⟩<;>rcases cg ht with⟨e3,e4⟩|⟨hj,ht2⟩
  ·rw [e2]at ho ⊢;rw [e4,e1,e3];exact hw.d _ s hs ho _ s hs
  ·rw [e2]at ho ⊢;rw [e1];exact hw.d _ s hs ho j t ht2
  ·rw [e4,e3];exact hw.d a x hx2 ho _ s hs
  ·skip;exact hw.d a x hx2 ho j t ht2
 ·rcases cg hx with⟨e1,e2⟩|⟨ha,hx2⟩<;>rcases cg ht with⟨e3,e4⟩|⟨hj,ht2⟩
  ·rw [e2]at ho ⊢;rw [e4,e1,e3];exact hw.c _ s hs ho _ s hs
  ·rw [e2]at ho ⊢;rw [e1];exact hw.c _ s hs ho j t ht2
  ·rw [e4,e3];exact hw.c a x hx2 ho _ s hs
  ·skip;exact hw.c a x hx2 ho j t ht2
section
variable{N:Nat}{w0:World}{M H:Nat→Prop}{E:el}{Γ R:dL}
theorem BB{Rel:Act→World→Prop}{φ:Prop}(h:∀w,COk w0 M H Γ R w→φ)(k:φ→At N w0 M H E Γ R Rel):At N w0 M H E Γ R Rel:=fun a w h1 h2=>k (h w h2) a w h1 h2
theorem uu{k1 k2 nb:Nat}{S:TypeId}{c:List Value}{L:List Sl0}{D C:List (List Int)}(h1:bG Γ k1=some (aO nb S c))(h2:bG Γ k2=some (gI L D C g_))(hk:k1≠k2):∀w,COk w0 M H Γ R w→Oa L nb:=fun w ⟨F,hF⟩ j t ht=>by
 have a:=hF.has k1 _ h1;have b:=hF.has k2 _ h2 j t ht;have an:=(a.1 nb).2 J;refine⟨fun e=>hk (hF.apart k1 k2 nb an ?_),fun e=>hk (hF.apart k1 k2 nb an ?_)⟩
 ·rw [←e];exact(b.1 (fun h=>h)).1
 ·rw [←e];exact(b.2 (fun h=>h)).1
theorem M8{k i o:Nat}{L:List Sl0}{D C:List (List Int)}{s:Sl0}{v:Value}(hk:bG Γ k=some (gI L D C g_))(hs:L[i]?=some s)(hu:(fP (D.getD i []))[o]?=some v):Gives w0 M H Γ R s.d o [v]:=by
 intro w hC j u hj;obtain⟨G,h,_⟩:=hC.reads (.inl hk);rw [cell_of_row w s.d (o+j) _ 159 (0,0) ((h i s hs).1 (fun h=>h)).2];cases j with
 | zero=>
  cases hj;simpa using hu
 | succ j=>simp at hj
theorem Kz{k i:Nat}{L:List Sl0}{D C:List (List Int)}{s:Sl0}(hk:bG Γ k=some (gI L D C g_))(hs:L[i]?=some s):Gives w0 M H Γ R s.d 0 (fP (D.getD i [])):=by
 intro w hC j u hj;obtain⟨G,h,_⟩:=hC.reads (.inl hk);rw [cell_of_row w s.d (0+j) _ 159 (0,0) ((h i s hs).1 (fun h=>h)).2,Nat.zero_add];simpa using hj
theorem KB{k i:Nat}{L:List Sl0}{D C:List (List Int)}{s:Sl0}(hk:bG Γ k=some (gI L D C g_))(hs:L[i]?=some s):Gives w0 M H Γ R s.c 0 (fP (C.getD i [])):=by
 intro w hC j u hj;obtain⟨G,h,_⟩:=hC.reads (.inl hk);rw [cell_of_row w s.c (0+j) _ 159 (0,0) ((h i s hs).2 (fun h=>h)).2,Nat.zero_add];simpa using hj
end
def Pg8(D:List (List Int)):Prop:=∀l∈D,l.length=256∧∀x∈l,0≤x∧x<256
structure PgOk(L:List Sl0)(D C:List (List Int)):Prop where
 wf:WfL L
 dl:D.length=L.length
 cl:C.length=L.length
 d8:Pg8 D
 c8:Pg8 C
theorem Pg8.at{D:List (List Int)}(h:Pg8 D){i:Nat}(hi:i<D.length):(D.getD i []).length=256∧∀x∈D.getD i [],0≤x∧x<256:=by
 rw [List.getD_eq_getElem?_getD,bO hi];exact h _ (List.getElem_mem hi)
theorem Pg8.set{D:List (List Int)}(h:Pg8 D){i:Nat}{l:List Int}(h1:l.length=256)(h2:∀x∈l,0≤x∧x<256):Pg8 (D.set i l):=fun m hm=>by
 rcases List.mem_or_eq_of_mem_set hm with hm|rfl
 ·exact h m hm
 ·exact⟨h1,h2⟩
theorem sU{l:List Int}{o:Nat}(h:o<l.length):(fP l)[o]?=some (.int .u8 (l.getD o 0)):=by
 unfold fP;rw [List.getElem?_map,List.getD_eq_getElem?_getD,bO h];rfl
section
variable{N:Nat}{w0:World}{M H:Nat→Prop}{E:el}{Γ R:dL}
theorem Ky{k i o:Nat}{L:List Sl0}{D C:List (List Int)}{s:Sl0}{v:Value}(hk:bG R k=some (gI L D C g_))(hs:L[i]?=some s)(hu:(fP (D.getD i []))[o]?=some v):Gives w0 M H Γ R s.d o [v]:=by
 intro w hC j u hj;obtain⟨G,h,_⟩:=hC.reads (.inr hk);rw [cell_of_row w s.d (o+j) _ 159 (0,0) ((h i s hs).1 (fun h=>h)).2];cases j with
 | zero=>
  cases hj;simpa using hu
 | succ j=>simp at hj
theorem KA{k i o:Nat}{L:List Sl0}{D C:List (List Int)}{s:Sl0}{v:Value}(hk:bG R k=some (gI L D C g_))(hs:L[i]?=some s)(hu:(fP (C.getD i []))[o]?=some v):Gives w0 M H Γ R s.c o [v]:=by
 intro w hC j u hj;obtain⟨G,h,_⟩:=hC.reads (.inr hk);rw [cell_of_row w s.c (o+j) _ 159 (0,0) ((h i s hs).2 (fun h=>h)).2];cases j with
 | zero=>
  cases hj;simpa using hu
 | succ j=>simp at hj
end
def Km(vs:SV)(L:List Sl0)(i:Nat):Value:= .pointer (if i<L.length then some ⟨gf (sv vs),gZ (sv vs)+i*7,none⟩else none)
theorem tc{vs:SV}{L:List Sl0}{i:Nat}(h:i<L.length):Km vs L i= .pointer (some ⟨gf (sv vs),gZ (sv vs)+i*7,none⟩):=by unfold Km;rw [ak h]
theorem ol{vs:SV}{L:List Sl0}{i:Nat}(h:¬i<L.length):Km vs L i= .pointer none:=by unfold Km;rw [ac h]
def w3(D:List (List Int))(a:Int):Int:=if(a/256).toNat<D.length then(D.getD (a/256).toNat []).getD (a%256).toNat 0 else 0
theorem io(c:Nat)(vs:SV)(stv:List Value)(L:List Sl0):
  aN prog 71 [Pt c] [] [aO c 80 (sv vs:: .bool false::stv),sl 7 jd (sv vs) L] (I6 (L.length:Int)) []:=by
 refine ay func71 J ntmps71 J fun w0 M H=>am (ao J (aa (aR (ab J (ap J J (iI underlying141) (aa (ai J (fun h1=> ?_) (fun h1=> ?_))))))))
 ·cases h1
 ·(try simp only [aX]at h1);refine az (am (ab J (bq J (aA jq J (aJ (ag Ea J J (cM (k:=0) J J)) (aJ (aZ underlying72 J (aP (k:=1) J)) (ao J (aa (ar (aG () O J (bU (aD J)) J [] [] J J J))))))))))
theorem tJ(c:Nat)(vs:SV)(stv:List Value)(L:List Sl0)(hL:L.length≤65536)(a:Int)(ha:0≤a∧a<4294967296):
  aN prog 73 [Pt c,I3 a] [] [aO c 80 (sv vs:: .bool false::stv),sl 7 jd (sv vs) L] (Km vs L (a/256).toNat) []:=by
 refine ay func73 J ntmps73 J fun w0 M H=> ?_
 have hq:a.tdiv 256=a/256:=Int.tdiv_eq_ediv_of_nonneg ha.1;obtain⟨i,hi⟩:∃i:Nat,a/256=(i:Int):=⟨_,(Int.toNat_of_nonneg (by omega)).symm⟩
 have hti:(a/256).toNat=i:=by omega
 rw [hti];refine am (ao J (aw J (ab J (ap J J (iG (c:=(i:Int)) (by decide) (by rw [hq,bw (by omega),hi])) (aJ (bK underlying41 underlying3 J (by first|exact bs (by omega)|rfl)) (ao J (aa (aR (ab J (ab J (ae (xs:= [.tmp 10]) (io c vs stv L) Dh [] [(false,0),(false,1)] [] (fun _ _=>ap J J fp (aa (ai J (fun h1=> ?_) (fun h1=> ?_)))))))))))))))
 ·(try simp only [aX]at h1);rw [ol (by omega)];refine am (ao J (aa (ar (aG () O J (bU (aD J)) J [] [] J J J))))
 ·(try simp only [aX]at h1);rw [tc (by omega)];refine az (am (ab J (bq J (aA jq J (aJ (ag Ea J J (cM (k:=0) J J)) (ab J (aJ (aQ (j:=i) underlying72 qK J J (aP (k:=1) J) J (by omega)) (ao J (aa (ar (aG () O J (bU (aD J)) J [] [] J J J)))))))))))
theorem z8(c:Nat)(vs:SV)(stv:List Value)(L:List Sl0)(D C:List (List Int))(hP:PgOk L D C)(hL:L.length≤65536)(a:Int)(ha:0≤a∧a<4294967296):
  aN prog 33 [Pt c,I3 a] [] [aO c 80 (sv vs:: .bool false::stv),sl 7 jd (sv vs) L,gI L D C g_] (.int .u8 (w3 D a)) []:=by
 refine ay func33 J ntmps33 J fun w0 M H=>am (ao J (aw J (ab J (ab J (ae (xs:= [.tmp 6,.tmp 7]) (tJ c vs stv L hL a ha) IJ [] [(false,0),(false,1)] [] (fun _ _=>ao J (aa (aT (aT ?_)))))))))
 by_cases hi:(a/256).toNat<L.length
 ·rw [tc hi];obtain⟨s,hs⟩:∃s,L[(a/256).toNat]?=some s:=⟨_,bO hi⟩
  have hDi:=hP.d8.at (show(a/256).toNat<_ by rw [hP.dl];exact hi)
  have hm:a.tmod 256=a%256:=iX ha.1;refine aj (ab J (ap J J (iI underlying152) (aa (ai J (fun h1=> ?_) (fun h1=> ?_)))))
  ·cases h1
  ·(try simp only [aX]at h1);refine az (am (ab J (bq J (aJ (cy kD J) (aJ (ag lh J J (gh (aP (k:=1) J) (by intro _;rfl) hs J)) (ab J (ap J J (gW (c:=a%256) (by decide) (by exact hm)) (bq J (aJ (d6 (j:=(a%256).toNat) underlying159 t5 J J (by omega) (by omega)) (aJ (ag t5 J J (Ky (k:=2) J hs (sU (by rw [hDi.1];omega)))) (ao J (aa (ar (aG () O J (bU (aD J)) (by unfold w3;rw [ak (by rw [hP.dl];exact hi)]) [] [] J J J))))))))))))))
 ·rw [ol hi];refine aj (ab J (ap J J (iI underlying152) (aa (ai J (fun h2=> ?_) (fun h2=> ?_)))))
  ·(try simp only [aX]at h2);refine am (ao J (aa (ar (aG () O J (bU (aD J)) (by unfold w3;rw [ac (by rw [hP.dl];exact hi)]) [] [] J J J))))
  ·cases h2
theorem xf(vs:SV)(L:List Sl0)(i:Nat)(s:Sl0)(hs:L[i]?=some s):
  aN prog 78 [.pointer (some ⟨gf (sv vs),gZ (sv vs)+i*7,none⟩)] [] [sl 7 jd (sv vs) L] (Pt s.c) []:=by
 refine ay func78 J ntmps78 J fun w0 M H=>am (ao J (aa (aR (ab J (bq J (aJ (cy iP J) (aJ (ag lh J J (gh (aP (k:=0) J) (by intro _;rfl) hs J)) (ap J J (iI underlying146) (aa (ai J (fun h1=> ?_) (fun h1=> ?_)))))))))))
 ·cases h1
 ·(try simp only [aX]at h1);refine az (am (ab J (bq J (aJ (cy iP J) (aJ (ag lh J J (gh (aP (k:=0) J) (by intro _;rfl) hs J)) (ao J (aa (ar (aG () O J (bU (aD J)) J [] [] J J J)))))))))
theorem w6(c:Nat)(vs:SV)(stv:List Value)(L:List Sl0)(D C:List (List Int))(hP:PgOk L D C)(hL:L.length≤65536)(a:Int)(ha:0≤a∧a<4294967296):
  aN prog 42 [Pt c,I3 a] [] [aO c 80 (sv vs:: .bool false::stv),sl 7 jd (sv vs) L,gI L D C g_] (.int .u8 (w3 C a)) []:=by
 refine ay func42 J ntmps42 J fun w0 M H=>am (ao J (aw J (ab J (ab J (ae (xs:= [.tmp 6,.tmp 7]) (tJ c vs stv L hL a ha) IJ [] [(false,0),(false,1)] [] (fun _ _=>ao J (aa (aT (aT ?_)))))))))
 by_cases hi:(a/256).toNat<L.length
 ·rw [tc hi];obtain⟨s,hs⟩:∃s,L[(a/256).toNat]?=some s:=⟨_,bO hi⟩
  have hDi:=hP.c8.at (show(a/256).toNat<_ by rw [hP.cl];exact hi)
  have hm:a.tmod 256=a%256:=iX ha.1;refine aj (ab J (ap J J (iI underlying152) (aa (ai J (fun h1=> ?_) (fun h1=> ?_)))))
  ·cases h1
  ·(try simp only [aX]at h1);refine az (am (ab J (ae (xs:= [.tmp 11]) (xf vs L (a/256).toNat s hs) NB [] [(false,1)] [] (fun _ _=>ab J (ap J J (gW (c:=a%256) (by decide) (by exact hm)) (bq J (aJ (d6 (j:=(a%256).toNat) underlying159 t5 J J (by omega) (by omega)) (aJ (ag t5 J J (KA (k:=2) J hs (sU (by rw [hDi.1];omega)))) (ao J (aa (ar (aG () O J (bU (aD J)) (by unfold w3;rw [ak (by rw [hP.cl];exact hi)]) [] [] J J J))))))))))))
 ·rw [ol hi];refine aj (ab J (ap J J (iI underlying152) (aa (ai J (fun h2=> ?_) (fun h2=> ?_)))))
  ·(try simp only [aX]at h2);refine am (ao J (aa (ar (aG () O J (bU (aD J)) (by unfold w3;rw [ac (by rw [hP.cl];exact hi)]) [] [] J J J))))
  ·cases h2
def Kl(L:List Sl0)(p:Nat):Int:=match L[p]? with
 | some s=>s.r
 | none=>0
theorem ui(c:Nat)(vs:SV)(stv:List Value)(L:List Sl0)(hL:L.length≤65536)(p:Nat)(hp:p≤65536):
  aN prog 32 [Pt c,I6 (p:Int)] [] [aO c 80 (sv vs:: .bool false::stv),sl 7 jd (sv vs) L] (I6 (Kl L p)) []:=by
 refine ay func32 J ntmps32 J fun w0 M H=>am (ao J (aa (aR (ab J (ap J J cG (ab J (eH (t:=7) J (fun h1=>False.elim (by revert h1;simp)) (fun h1=>bi J J (ab J (bi J J (ab J (bi J J (ae (xs:= [.tmp 9]) (io c vs stv L) Dh [] [(false,0),(false,1)] [] (fun _ _=>bi J J (ap J J fp ?_)))))))))))))))
 refine aJ (bD J J J) (aa (ai J (fun h2=> ?_) (fun h2=> ?_)))
 ·(try simp only [aX]at h2);have hi:¬p<L.length:=by simp at h2;omega
  refine am (ao J (aa (ar (aG () O J (bU (aD J)) (by unfold Kl;rw [List.getElem?_eq_none (by omega)]) [] [] J J J))))
 ·(try simp only [aX]at h2);have hi:p<L.length:=by simp at h2;omega
  obtain⟨s,hs⟩:∃s,L[p]?=some s:=⟨_,bO hi⟩
  refine az (am (ab J (bq J (aA jq J (aJ (ag Ea J J (cM (k:=0) J J)) (ab J (aJ (aQ (j:=p) underlying72 qK J J (aP (k:=1) J) J (by omega)) (aJ (cy y_ J) (aJ (ag t3 J J (gh (aP (k:=1) J) (by intro _;rfl) hs J)) (ao J (aa (ar (aG () O J (bU (aD J)) (by unfold Kl;rw [hs]) [] [] J J J)))))))))))))
theorem j8{A:Asn}{vs:SV}{L:List Sl0}:∀(i:Nat)(X:Asn),([A,sl 7 jd (sv vs) L]:List Asn)[i]?=some X→∃Y,([A,own 148 7 jd (sv vs) L]:List Asn)[i]?=some Y∧∀w G,Y.pred w G→X.pred w G
 | 0,X,hX=>⟨A,rfl,by cases hX;exact fun _ _ h=>h⟩
 | 1,X,hX=>⟨_,rfl,by cases hX;exact bI⟩
 | i+2,X,hX=>by simp at hX
def uo(L:List Sl0)(p:Nat)(z:Int):List Sl0:=match L[p]? with
 | some s=>L.set p {s with r:=z}
 | none=>L
theorem Ac{L:List Sl0}{D C:List (List Int)}{p:Nat}{s:Sl0}{z:Int}(hs:L[p]?=some s):∀w G,(gI L D C g_).pred w G→(gI (L.set p {s with r:=z}) D C g_).pred w G:=fun w G h j t ht=>by
 rcases cg ht with⟨rfl,rfl⟩|⟨hj,ht⟩
 ·exact h _ s hs
 ·exact h j t ht
theorem PgOk.rights{L:List Sl0}{D C:List (List Int)}(h:PgOk L D C)(p:Nat)(z:Int):PgOk (uo L p z) D C:=by
 unfold uo;split
 ·rename_i s hs;exact⟨h.wf.rights hs,by rw [List.length_set];exact h.dl,by rw [List.length_set];exact h.cl,h.d8,h.c8⟩
 ·exact h
theorem g8(c:Nat)(vs:SV)(stv:List Value)(L:List Sl0)(D C:List (List Int))(hL:L.length≤65536)(p:Nat)(hp:p≤65536)(z:Int):
  aN prog 28 [Pt c,I6 (p:Int),I6 z] [aO c 80 (sv vs:: .bool false::stv),own 148 7 jd (sv vs) L,gI L D C g_] [] (.tuple #[]) [aO c 80 (sv vs:: .bool false::stv),own 148 7 jd (sv vs) (uo L p (bits .and .i64 z 7)),gI (uo L p (bits .and .i64 z 7)) D C g_]:=by
 refine ay func28 J ntmps28 J fun w0 M H=>am (ab J (ap J J fp (ab J (eH (t:=8) J (fun h1=> ?_) (fun h1=>False.elim (by revert h1;simp))))))
 refine bi J J (ab J (bi J J (ab J (bi J J (ct (xs:= [.tmp 10]) (Spec.roAll (io c vs stv L) (j8 (A:=aO c 80 _))) Dh [] [(true,0),(true,1)] [] J J J (fun _ _=>bi J J (ap J J cG (aJ (bD J J J) (aa (ai J (fun h2=> ?_) (fun h2=> ?_)))))))))))
 ·(try simp only [aX]at h2);have hi:p<L.length:=by simp at h2;omega
  obtain⟨s,hs⟩:∃s,L[p]?=some s:=⟨_,bO hi⟩
  have hpr:uo L p (bits .and .i64 z 7)=L.set p {s with r:=bits .and .i64 z 7}:=by unfold uo;rw [hs]
  rw [hpr];refine aj (ab J (bq J (aA jq J (aL 0 Ea J J J J (ab J (ab J (ap J J (vJ J) (aJ (aQ (j:=p) underlying72 qK J J (bp (k:=1) J) J (by omega)) (aJ (cy y_ J) (gz (k:=1) (o:=6) (e':={s with r:=bits .and .i64 z 7}) t3 J J J J J J (by intro _;rfl) hs (by show _+1≤_;decide) J (aa (e8 (k:=2) (A':=gI (L.set p {s with r:=bits .and .i64 z 7}) D C g_) J (Ac hs) (bP () O J fw J [0,1,2] [] J J J)))))))))))))
 ·(try simp only [aX]at h2);have hi:¬p<L.length:=by simp at h2;omega
  have hpr:uo L p (bits .and .i64 z 7)=L:=by unfold uo;rw [List.getElem?_eq_none (by omega)]
  rw [hpr];refine az (bP () O J fw J [0,1,2] [] J J J)
theorem iZ{α:Type}{L:List α}{i:Nat}{s:α}(hs:L[i]?=some s):L.set i s=L:=by
 apply List.ext_getElem?;intro j;by_cases h:i=j
 ·subst h;obtain⟨hi,_⟩:=cA.1 hs;rw [List.getElem?_set_self hi,hs]
 ·rw [List.getElem?_set_ne h]
theorem xR{D:List (List Int)}{i:Nat}(hi:i<D.length):D.set i (D.getD i [])=D:=iZ (by rw [List.getD_eq_getElem?_getD,bO hi];rfl)
structure OwD(L:List Sl0)(i:Nat)(s x:Sl0):Prop where
 od:x.od=true
 wf:WfL (L.set i x)
 c:x.c=s.c
 oc:x.oc=s.oc
 r:x.r=s.r
theorem mh{l:List Int}(h:l.length=256):(fP l).length=256:=by
 unfold fP;rw [List.length_map];exact h
theorem ta(l:List Int):(fP l).all (fun x=>x.oneCell')=true:=by
 rw [List.all_eq_true];intro v hv;obtain⟨x,-,rfl⟩:=List.mem_map.1 hv;rfl
theorem qI(vs:SV)(L:List Sl0)(D C:List (List Int))(hP:PgOk L D C)(i:Nat)(s:Sl0)(hs:L[i]?=some s):
  Spec prog 116 [.pointer (some ⟨gf (sv vs),gZ (sv vs)+i*7,none⟩)] [own 148 7 jd (sv vs) L,gI L D C g_] [] (X:=Sl0) (fun x=>OwD L i s x) (fun x=>Pt x.d) (fun x=> [own 148 7 jd (sv vs) (L.set i x),gI (L.set i x) D C g_]) (fun _=> []):=by
 refine ay func116 J ntmps116 J fun w0 M H=> ?_
 obtain⟨hi,-⟩:=cA.1 hs;have hDi:=hP.d8.at (show i<D.length by rw [hP.dl];exact hi)
 refine am (ao J (aa (aR (ab J (bq J (aJ (cy zc J) (aJ (ag t4 J J (gh (bp (k:=0) J) (by intro _;rfl) hs J)) (aJ (cZ J) (aa (ai J (fun h1=> ?_) (fun h1=> ?_)))))))))))
 ·(try simp only [aX]at h1);have hod:s.od=false:=by simpa using h1
  refine am (ab J (bq J (aJ (cy kD J) (aJ (ag lh J J (gh (bp (k:=0) J) (by intro _;rfl) hs J)) (bq J (aJ (aM (us:=fP (D.getD i [])) wq J J (mh hDi.1) (Kz (k:=1) J hs)) (aU wq J J fun b3=>aq (k:=3) wq J J (mh hDi.1) (ta _) J J (BB (uu (k1:=3) (k2:=1) J J (by decide)) fun hfr=>aa (aj (ab J (ab J (bq J (aJ (cy kD J) (gz (k:=0) (o:=0) (e':={s with d:=b3}) lh J J J J J J (by intro _;rfl) hs (by show _+1≤_;decide) J ?_))))))))))))));have hs2:(L.set i {s with d:=b3})[i]?=some {s with d:=b3}:=List.getElem?_set_self hi;refine bq J (aJ (cy zc J) (gz (k:=0) (o:=2) (e':={s with d:=b3,od:=true}) t4 J J J J J J (by intro _;rfl) hs2 (by show _+1≤_;decide) J ?_));have hs3:((L.set i {s with d:=b3}).set i {s with d:=b3,od:=true})[i]?=some {s with d:=b3,od:=true}:=List.getElem?_set_self (by rw [List.length_set];exact hi);refine bL 1 [1,3] (C:=gI (L.set i {s with d:=b3,od:=true}) D C g_) J (fun w F h=>by have q:=BI (C:=C) (l:=D.getD i []) (i:=i) (nb:=b3) hs (by rw [hP.dl];exact hi) w F h;rw [xR (by rw [hP.dl];exact hi)]at q;exact q) ?_;refine aw J (ab J (bq J (aJ (cy kD J) (aJ (ag lh J J (gh (bp (k:=0) J) (by intro _;rfl) hs3 J)) (ao J (aa (ar ?_)))))));refine e8 (k:=0) (A':=own 148 7 jd (sv vs) (L.set i {s with d:=b3,od:=true})) J (fun w G h=>by rw [List.set_set]at h;exact h) ?_;refine aG ({s with d:=b3,od:=true}:Sl0) ⟨J,hP.wf.new_d hs hfr,J,J,J⟩ J (bU (aD J)) J [0,1] [] J J J
 ·(try simp only [aX]at h1);have hod:s.od=true:=by simpa using h1
  refine az (am (ab J (bq J (aJ (cy kD J) (aJ (ag lh J J (gh (bp (k:=0) J) (by intro _;rfl) hs J)) (ao J (aa (ar ?_))))))));refine e8 (k:=0) (A':=own 148 7 jd (sv vs) (L.set i s)) J (fun w G h=>by rw [iZ hs];exact h) ?_;refine e8 (k:=1) (A':=gI (L.set i s) D C g_) J (fun w G h=>by rw [iZ hs];exact h) ?_;refine aG s ⟨hod,by rw [iZ hs];exact hP.wf,J,J,J⟩ J (bU (aD J)) J [0,1] [] J J J
section
variable{P:Program}
theorem l8(w:World)(dT sT ty elem:TypeId)(g o dLen dCap:Nat)(s:Ba)(cur:Array Value)(t:TypeId)(hu:P.underlying dT=some (.slice elem))(hs:(P.info? elem).map (·.size)=some 1)
  (hg:w.heap[g]?=some (.cells cur t (0,0))) (hfit:o+(fP ((aH s).take (Nat.min s.size dLen))).length≤cur.size):
  (Builtin.copy_ #[dT,sT] ty #[.slice (some ⟨g,o,none⟩) dLen dCap,Sg s]).run P w=
   .ok (goInt (Nat.min s.size dLen)) (w.setRow g (cur.toList.take o++fP ((aH s).take (Nat.min s.size dLen))++cur.toList.drop (o+(fP ((aH s).take (Nat.min s.size dLen))).length)).toArray):=by
 have hst:=run_storeCells_at P g o t (fP ((aH s).take (Nat.min s.size dLen))) 0 cur w hg (by simpa using hfit) (fun v hv=>List.all_eq_true.1 (ta _) v hv);simp only [Nat.add_zero]at hst;cases hq:P.info? elem with
 | none=>simp [hq]at hs
 | some i=>
  have hi:i.size=1:=by simpa [hq]using hs
  simp [Builtin.copy_,run_underlying hu,Builtin.lenOf,Builtin.firstCells,sizeOf,typeInfo,hq,hi,List.map_take];have e:List.take (s.size.min dLen) (List.map (fun b:UInt8=>Value.int .u8 (b.toNat:Int)) s.data.toList)=fP ((aH s).take (s.size.min dLen)):=by
   unfold fP aH;rw [List.map_take,List.map_map];rfl
  rw [e,hst];simp [Result.andThen]
end
section
variable{P:Program}{N:Nat}{w0:World}{M H:Nat→Prop}{E:el}{Γ R:dL}{Q:Exit→Act→World→Prop}
variable{ops:Array Oper}{rest:List Oper}{T:TypeId}{ps:String}{af:Array Edge}{d:Nat}{op:Op}
def xE(s:Ba)(l:List Int):List Int:=(aH s).take l.length++l.drop (min s.size l.length)
theorem jw(s:Ba)(l:List Int):(xE s l).length=l.length:=by
 unfold xE;have:=dc s;simp;omega
theorem mf{S T2 U:TypeId}{DU:TypeDesc}{z:Value}{bb n:Nat}{x y:Operand}{b c:Nat}{s:Ba}{k:Nat}{S':TypeId}{l:List Int}(hS:P.underlying S=some (.slice U))(hU:TI P U DU z 1 bb)
  (hx:ev E x=some (sv ⟨some ⟨b,0,none⟩,n,c⟩)) (hn:n=l.length) (hy:ev E y=some (Sg s)) (hk:bG Γ k=some (aO b S' (fP l))) {dst:Option Nat}:
  MS P N w0 M H E Γ R ⟨dst,.call {callee:= .builtin .copy,args:= #[x,y],argTypes:= #[S,T2]},T,ps,af,none⟩ (X:=Unit) (fun _=>True) (fun _=>goInt ((Nat.min s.size l.length:Nat):Int)) (fun _=>(k,aO b S' (fP (xE s l)))::Γ) (fun _=>R):=by
 subst hn;refine f_ fun a w hE hC=> ?_
 obtain⟨G0,hp,hlt⟩:=hC.reads (.inl hk);obtain⟨i,i1,i2,i3,i4⟩:=hU.info;have hbl:=dc s;have hml:∀m:List Int,(fP m).length=m.length:=fun m=>by unfold fP;rw [List.length_map]
 have hr:=l8 (P:=P) w S T2 T U b 0 l.length c s (fP l).toArray S' hS (by rw [i1];simpa using i3) hp.2 (by rw [hml,List.size_toArray,hml,List.length_take];have:=Nat.min_le_right s.size l.length;have e:Nat.min s.size l.length=min s.size l.length:=J;omega);have hnew:(fP l).take 0++fP ((aH s).take (Nat.min s.size l.length))++(fP l).drop (0+(fP ((aH s).take (Nat.min s.size l.length))).length)=fP (xE s l):=by
  rw [hml,List.length_take,hbl];unfold xE fP;rw [List.take_zero,List.nil_append,Nat.zero_add,List.map_append,List.map_drop];have e:Nat.min s.size l.length=min s.size l.length:=J;rw [e,show min (min s.size l.length) s.size=min s.size l.length by omega]
  congr 2
  by_cases h:s.size≤l.length
  ·rw [List.take_of_length_le (by omega),List.take_of_length_le (by omega)]
  ·rw [show min s.size l.length=l.length by omega]
 refine⟨(),w.setRow b (fP (xE s l)).toArray,O,?_,?_⟩
 rotate_left
 ·refine hC.upd hk fun G hG hGlt=> ?_
  exact⟨G,⟨hG.1,setRow_heap w b _ _ S' (0,0) hG.2⟩,fun x hx=>⟨by simpa using hGlt x hx,fun _=>hx⟩,⟨J,J,J,by simp,fun i _ hi=>setRow_other w b i _ (fun e=>hi (e▸(hG.1 b).2 rfl))⟩⟩
 ·rw [show(fP l).toArray.toList=fP l from J,hnew]at hr;simp only [execOp,resolve,invoke,builtin,sv,hE.ev hy]at hx ⊢;have hx':=hE.ev hx;simp [hx',hE.ev hy,hr]
theorem s_{S T2 U:TypeId}{DU:TypeDesc}{z:Value}{bb:Nat}{x y:Operand}{s:Ba}{k:Nat}{v:SV}{l:List Int}(hS:P.underlying S=some (.slice U))(hU:TI P U DU z 1 bb)
  (hx:ev E x=some (sv v)) (hy:ev E y=some (Sg s)) (hk:bG Γ k=some (own U 1 bJ (sv v) l)) (hl:0<l.length) {dst:Option Nat}:
  MS P N w0 M H E Γ R ⟨dst,.call {callee:= .builtin .copy,args:= #[x,y],argTypes:= #[S,T2]},T,ps,af,none⟩ (X:=Unit) (fun _=>True) (fun _=>goInt ((Nat.min s.size l.length:Nat):Int)) (fun _=>(k,own U 1 bJ (sv v) (xE s l))::Γ) (fun _=>R):=by
 refine f_ fun a w hE hC=> ?_
 obtain⟨G0,hp,hlt⟩:=hC.reads (.inl hk);obtain⟨i,i1,i2,i3,i4⟩:=hU.info;have hbl:=dc s;have hml:∀m:List Int,(fP m).length=m.length:=fun m=>by unfold fP;rw [List.length_map]
 have hfl:∀m:List Int,m.flatMap bJ=fP m:=fun m=>by
  induction m with
  | nil=>rfl
  | cons q m ih=>show bJ q++m.flatMap bJ=_;rw [ih];rfl
 have hme:Nat.min s.size l.length=min s.size l.length:=J;obtain⟨hp1,hp2⟩:=hp;obtain⟨g,cap,cur,hv,hbg,hg,hnc,hcm,hcs,htake⟩:∃g cap cur,sv v= .slice (some ⟨g,0,none⟩) l.length cap∧0≤g∧w.heap[g]?=some (.cells cur U (0,0))∧l.length≤cap∧cap≤maxLen∧cur.size=cap*1∧cur.toList.take (l.length*1)=l.flatMap bJ:=by
  rcases hp2.2 with⟨_,h0⟩|h
  ·omega
  ·exact h
 have hr:=l8 (P:=P) w S T2 T U g 0 l.length cap s cur U hS (by rw [i1];simpa using i3) hg (by rw [hml,List.length_take];omega);have hnew:∀cu:Array Value,cap*1=cu.size→cu.toList.take (l.length*1)=l.flatMap bJ→((cu.toList.take 0++fP ((aH s).take (Nat.min s.size l.length))++cu.toList.drop (0+(fP ((aH s).take (Nat.min s.size l.length))).length)).take (l.length*1)=(xE s l).flatMap bJ)∧(cu.toList.take 0++fP ((aH s).take (Nat.min s.size l.length))++cu.toList.drop (0+(fP ((aH s).take (Nat.min s.size l.length))).length)).length=cap*1:=fun cu h1 h2=>by
  rw [hml,List.length_take,hbl,List.take_zero,List.nil_append,Nat.zero_add,hme,show min (min s.size l.length) s.size=min s.size l.length by omega];have hq:(fP ((aH s).take (min s.size l.length))).length=min s.size l.length:=by rw [hml,List.length_take];omega
  refine⟨?_,?_⟩
  ·rw [hfl]at h2 ⊢;rw [List.take_append,hq,Nat.mul_one,List.take_of_length_le (by rw [hq];omega)];unfold xE;have ed:(cu.toList.drop (min s.size l.length)).take (l.length-min s.size l.length)=(fP l).drop (min s.size l.length):=by
    rw [←h2,List.drop_take,Nat.mul_one]
   rw [ed];unfold fP;rw [List.map_append,List.map_drop]
   congr 2
   by_cases h:s.size≤l.length
   ·rw [List.take_of_length_le (by omega),List.take_of_length_le (by omega)]
   ·rw [show min s.size l.length=l.length by omega]
  ·rw [bQ,hq,List.length_drop];have e:cu.toList.length=cu.size:=by simp
   omega
 refine⟨(),w.setRow g (cur.toList.take 0++fP ((aH s).take (Nat.min s.size l.length))++cur.toList.drop (0+(fP ((aH s).take (Nat.min s.size l.length))).length)).toArray,O,?_,?_⟩
 rotate_left
 ·refine hC.upd hk fun G hG hGlt=> ?_
  exact⟨G,⟨hG.1,by rw [hfl,hml,Nat.mul_one],.inr ⟨g,cap,_,by rw [jw];exact hv,hbg,setRow_heap w g _ (cur.toList.take 0++fP ((aH s).take (Nat.min s.size l.length))++cur.toList.drop (0+(fP ((aH s).take (Nat.min s.size l.length))).length)).toArray U (0,0) hg,by rw [jw];exact hnc,hcm,by rw [List.size_toArray];exact(hnew cur hcs.symm htake).2,by rw [jw];exact(hnew cur hcs.symm htake).1⟩⟩,fun x hx=>⟨by simpa using hGlt x hx,fun _=>hx⟩,⟨J,J,J,by simp,fun i _ hi=>setRow_other w g i _ (fun e=>hi (e▸(hG.1 g).2 (by rw [hv];rfl)))⟩⟩
 ·simp only [execOp,resolve,invoke,builtin,hE.ev hy]at hx ⊢;have hx':=hE.ev hx;rw [hv]at hx';simp [hx',hE.ev hy,hr]
/-! ### Lists of zeros of larger things -/
theorem z4(zs:List Value):(List.range zs.length).map (fun i=>zs.toArray[i]!)=zs:=by
 apply List.ext_getElem?;intro i;rw [List.getElem?_map];by_cases h:i<zs.length
 ·rw [List.getElem?_range h];simp [h]
 ·rw [List.getElem?_eq_none (by simp;omega),List.getElem?_eq_none (by omega)];rfl
theorem la(zs:List Value):∀n,(madeCells zs.toArray (n*zs.length)).toList=(List.replicate n zs).flatten
 | 0=>by simp [madeCells]
 | n+1=>by
  have ih:=la zs n;unfold madeCells at ih ⊢;rw [Array.toList_map,Array.toList_range]at ih ⊢;rw [Nat.succ_mul,List.range_add,List.map_append,ih,List.replicate_succ',List.flatten_append,List.map_map]
  congr 1
  rw [show [zs].flatten=zs by simp]
  conv=>rhs;rw [←z4 zs]
  refine List.map_congr_left fun i hi=> ?_
  have hi':=List.mem_range.1 hi;show(zs.toArray[(n*zs.length+i)%zs.toArray.size]!)=_;rw [List.size_toArray,Nat.add_comm,Nat.add_mul_mod_self_right,Nat.mod_eq_of_lt hi']
theorem As{α:Type}(enc:α→List Value)(x0:α)(zs:List Value)(he:enc x0=zs)(n:Nat):(List.replicate n x0).flatMap enc=(List.replicate n zs).flatten:=by
 subst he;rw [List.flatMap_def,List.map_replicate]
theorem BZ{α:Type}{S U:TypeId}{D:TypeDesc}{z:Value}{s bb c:Nat}(enc:α→List Value)(x0:α){zs:List Value}{x y:Operand}{k k':IntKind}{i j:Int}(hS:P.underlying S=some (.slice U))(hU:TI P U D z s bb)(h1:z.cells=zs.toArray)(h2:zs.length=s)(he:enc x0=zs)(hx:ev E x=some (.int k i))(hy:ev E y=some (.int k' j))(hi:i=(c:Int))(hj:j=(c:Int))(hc:bb*c≤281474976710656)(hc2:c≤maxLen):
  MS P N w0 M H E Γ R ⟨some d,.makeSlice S x y,T,ps,af,none⟩ (X:=SV) (fun _=>True) (fun v'=>sv v') (fun v'=>(d,own U s enc (sv v') (List.replicate c x0))::Γ) (fun _=>R):=by
 subst hi;subst hj;refine f_ fun a w hE hC=> ?_
 obtain⟨i,i1,i2,i3,i4⟩:=hU.info;have h63':(c:Int)≤9223372036854775807:=by
  have h:=hc2;simp [maxLen]at h;omega
 have hb':(i.bytes:Int)*(c:Int)≤281474976710656:=by
  have h:((i.bytes*c:Nat):Int)≤281474976710656:=by rw [i4];omega
  rwa [Int.natCast_mul]at h
 have hr:=run_make (P:=P) w S U i z hS i1 i2 k k' c c (by omega) (Int.le_refl _) hb' h63';simp only [Int.toNat_natCast,i3,h1]at hr;have hmc:(madeCells zs.toArray (c*s)).toList=(List.replicate c x0).flatMap enc:=by rw [←h2,la,As enc x0 zs he]
 have ho:(w.alloc (.cells (madeCells zs.toArray (c*s)) U)).ownsRow 0 U s (.slice (some ⟨w.heap.size,0,none⟩) c c) (List.replicate c x0).length ((List.replicate c x0).flatMap enc):=by
  refine⟨by rw [←hmc,List.length_replicate,Array.length_toList,size_madeCells],.inr ⟨w.heap.size,c,madeCells zs.toArray (c*s),by rw [List.length_replicate],bE _,heap_alloc_new w _,by rw [List.length_replicate];exact bM _,hc2,by rw [size_madeCells],?_⟩⟩;rw [hmc,List.take_of_length_le];rw [←hmc,Array.length_toList,size_madeCells,List.length_replicate];exact bM _
 have hg:=World.grownBy_alloc w (.cells (madeCells zs.toArray (c*s)) U) none;refine⟨⟨some ⟨w.heap.size,0,none⟩,c,c⟩,w.alloc (.cells (madeCells zs.toArray (c*s)) U),O,by simp [execOp,hE.ev hx,hE.ev hy,hr,sv],?_⟩;refine hC.new ⟨hg.os,hg.tape,hg.output,hg.size,fun k hk _=>hg.block k hk (by simp)⟩ ⟨fun b=>b=w.heap.size,⟨fun x=>by simp [sv,Value.ownBlock,eq_comm],ho⟩,fun b hb=> ?_⟩;subst hb;exact⟨(ho.lt _ J).2,bM _⟩
/-! ### Methods that an interface reaches -/
def MF(P:Program)(t:TypeId)(v:Value)(name:String)(n:Nat)(v':Value):Prop:=∀(d:Nat)(w:World),(method (d+1) t v name).run P w= .ok (n,v') w
theorem gG{dst:Option Nat}{n t:Nat}{nm:String}{f:Operand}{fv v1:Value}{xs:List Operand}{us vs:List Value}{at_:Array TypeId}{L R0:List Asn}{X:Type}{φ:X→Prop}{v:X→Value}{L' R':X→List Asn}(hm:MF P t fv nm n v1)(hs:Spec P n vs L R0 φ v L' R')(hcb:Cb P n)
  (ks:List Nat) (rs:List (Bool×Nat)) (ns:List Nat) (hf:ev E f=some (.iface t fv)) (hx:evs E xs=some us) (hu:v1::us=vs)
  (hnd:mK ks=true) (hL:dQ Γ ks=cz L) (hR:gg Γ R rs=cz R0) (hl:fQ ks rs=true) (hns:mK ns=true) (hnl:∀x,φ x→ns.length=(L' x).length) (hrl:∀x,φ x→dg rs=true→0=(R' x).length):
  MS P N w0 M H E Γ R ⟨dst,.call {callee:= .invoke f nm,args:=xs.toArray,argTypes:=at_},T,ps,af,none⟩ φ v (fun x=>eE ns (L' x) (eF ks Γ)) (fun _=>R):=by
 intro a w hE hC next Q hnext
 unfold Oper.wp;have hev:=hE.evs hx;have hrun:(execOp a.eval ⟨dst,.call {callee:= .invoke f nm,args:=xs.toArray,argTypes:=at_},T,ps,af,none⟩).run P w= .ok (.enter n vs.toArray) w:=by
  subst hu;have hm':=hm (P.types.size+Made.depth-1) w;have:P.types.size+Made.depth-1+1=P.types.size+Made.depth:=by unfold Made.depth;omega
  rw [this]at hm';simp [execOp,resolve,hE.ev hf,invoke,callMethod,hev,hm',jl hcb]
 rw [hrun];refine(no hs hC ks hnd hL rs hR hl ns hns hnl [] hrl).mono ?_;rintro e w' ⟨x,h1,rfl,h2⟩;rw [wS]at h2;exact hnext x w' h1 h2
end
theorem B3{P:Program}{t:TypeId}{v:Value}{nm:String}{n sg:Nat}{S:TypeId}(hS:P.underlying t=some (.pointer S))(h:((P.info? t).bind fun i=>i.methods.find? (·.name==nm))=some ⟨nm,sg,#[],some (n,true)⟩):MF P t v nm n v:=fun d w=>by
 cases hi:P.info? t with
 | none=>simp [hi]at h
 | some i=>
  rw [hi]at h;have h':i.methods.find? (·.name==nm)=some ⟨nm,sg,#[],some (n,true)⟩:=h;unfold method;simp [typeInfo,hi,h',follow,receiverAt,run_underlying hS,Place.get]
theorem te{P:Program}{t:TypeId}{c:Nat}{nm:String}{n sg S F:Nat}{fs:Array Field}{f:Field}{D:TypeDesc}{z:Value}{s bb:Nat}(hS:P.underlying S=some (.struct fs))(hf:fs[0]?=some f)(h0:f.offset=0)(hF:f.type=F)(hT:TI P F D z s bb)(hs:0<s)(hD:∀e,D≠ .pointer e)
  (h:((P.info? t).bind fun i=>i.methods.find? (·.name==nm))=some ⟨nm,sg,#[⟨S,0,true⟩],some (n,true)⟩):MF P t (Pt c) nm n (Pt c):=fun d w=>by
 cases hi:P.info? t with
 | none=>simp [hi]at h
 | some i=>
  rw [hi]at h;have h':i.methods.find? (·.name==nm)=some ⟨nm,sg,#[⟨S,0,true⟩],some (n,true)⟩:=h;unfold method;have hne:s≠0:=by omega
  simp [typeInfo,hi,h',follow,run_underlying hS,hf,Place.get,asAddr,fieldPlace,hF,hT.sizeOf,hne,h0];unfold receiverAt;simp [run_underlying hT.und];rfl
theorem ER(c:Nat):MF prog 69 (Pt c) "Kind" 232 (Pt c):=B3 underlying69 (sg:=113) (by kernel_rfl)
theorem uJ(c:Nat):MF prog 69 (Pt c) "SetState" 29 (Pt c):=B3 underlying69 (sg:=82) (by kernel_rfl)
theorem B4(c:Nat):MF prog 69 (Pt c) "Pages" 71 (Pt c):=te underlying80 rfl rfl rfl Jb (by decide) (fun _ h=>by cases h) (sg:=113) (by kernel_rfl)
theorem EQ(c:Nat):MF prog 69 (Pt c) "Poke" 27 (Pt c):=te underlying80 rfl rfl rfl Jb (by decide) (fun _ h=>by cases h) (sg:=71) (by kernel_rfl)
theorem lz(c:Nat):MF prog 69 (Pt c) "Protect" 28 (Pt c):=te underlying80 rfl rfl rfl Jb (by decide) (fun _ h=>by cases h) (sg:=81) (by kernel_rfl)
theorem w5(c:Nat):MF prog 69 (Pt c) "SetCode" 36 (Pt c):=te underlying80 rfl rfl rfl Jb (by decide) (fun _ h=>by cases h) (sg:=94) (by kernel_rfl)
def KpR(L L':List Sl0):Prop:=L'.map (·.r)=L.map (·.r)
theorem KpR.len{L L':List Sl0}(h:KpR L L'):L'.length=L.length:=by simpa using congrArg List.length h
theorem KpR.set{L:List Sl0}{i:Nat}{s x:Sl0}(hs:L[i]?=some s)(h:x.r=s.r):KpR L (L.set i x):=by
 unfold KpR;rw [List.map_set];exact iZ (by rw [List.getElem?_map,hs,h];rfl)
def iC(D:List (List Int))(a x:Int):List (List Int):=D.set (a/256).toNat ((D.getD (a/256).toNat []).set (a%256).toNat x)
theorem mD{D:List (List Int)}{a x:Int}(h:¬(a/256).toNat<D.length):iC D a x=D:=List.set_eq_of_length_le (by omega)
theorem AA{D:List (List Int)}{a x:Int}(hi:(a/256).toNat<D.length)(ho:(a%256).toNat<(D.getD (a/256).toNat []).length)(h:(D.getD (a/256).toNat []).getD (a%256).toNat 0=x):iC D a x=D:=by
 unfold iC;rw [iZ (L:=D.getD (a/256).toNat [])]
 ·exact xR hi
 ·generalize D.getD (a/256).toNat []=q at ho h ⊢;rw [←h,List.getD_eq_getElem?_getD,bO ho];rfl
theorem FA{L L':List Sl0}{D C:List (List Int)}{a x:Int}(h:PgOk L D C)(hw:WfL L')(hn:L'.length=L.length)(hx:0≤x∧x<256):PgOk L' (iC D a x) C:=by
 refine⟨hw,by unfold iC;rw [List.length_set,hn];exact h.dl,by rw [hn];exact h.cl,?_,h.c8⟩;by_cases hi:(a/256).toNat<D.length
 ·unfold iC;have hd:=h.d8.at hi;refine h.d8.set (by rw [List.length_set];exact hd.1) fun y hy=> ?_
  rcases List.mem_or_eq_of_mem_set hy with hy|rfl
  ·exact hd.2 y hy
  ·exact hx
 ·rw [mD hi];exact h.d8
theorem EO{l:List Int}{o:Nat}{x:Int}(h:o<l.length):(fP l).take o++ [.int .u8 x]++(fP l).drop (o+1)=fP (l.set o x):=by
 unfold fP;rw [List.map_set,List.set_eq_take_append_cons_drop,ak (by rw [List.length_map];exact h)];simp
theorem Bp(c:Nat)(vs:SV)(stv:List Value)(L:List Sl0)(D C:List (List Int))(hP:PgOk L D C)(hL:L.length≤65536)(a:Int)(ha:0≤a∧a<4294967296)(x:Int)(hx:0≤x∧x<256):
  Spec prog 70 [Pt c,I3 a,.int .u8 x] [aO c 80 (sv vs:: .bool false::stv),own 148 7 jd (sv vs) L,gI L D C g_] [] (X:=List Sl0) (fun L'=>KpR L L'∧PgOk L' (iC D a x) C) (fun _=> .tuple #[]) (fun L'=> [aO c 80 (sv vs:: .bool false::stv),own 148 7 jd (sv vs) L',gI L' (iC D a x) C g_]) (fun _=> []):=by
 refine ay func70 J ntmps70 J fun w0 M H=>am (ab J (ab J (ct (xs:= [.tmp 7,.tmp 8]) (Spec.roAll (tJ c vs stv L hL a ha) (j8 (A:=aO c 80 _))) IJ [] [(true,0),(true,1)] [] J J J (fun _ _=>ao J (aa (aT (aT ?_)))))))
 by_cases hi:(a/256).toNat<L.length
 ·rw [tc hi];obtain⟨s,hs⟩:∃s,L[(a/256).toNat]?=some s:=⟨_,bO hi⟩
  have hDi:=hP.d8.at (show(a/256).toNat<D.length by rw [hP.dl];exact hi)
  have hm:a.tmod 256=a%256:=iX ha.1;refine aj (ab J (ap J J (iI underlying152) (ab J (bi J J (ab J (bi J J (bq J (bi J J (aJ (cy kD J) (bi J J (aJ (ag lh J J (gh (bp (k:=1) J) (by intro _;rfl) hs J)) (bi J J (ab J (bi J J (ap J J (gW (c:=a%256) (by decide) (by exact hm)) (bi J J (bq J (bi J J (aJ (d6 (j:=(a%256).toNat) underlying159 t5 J J (by omega) (by omega)) ?_)))))))))))))))))));refine bi J J (aJ (ag t5 J J (M8 (k:=2) J hs (sU (by rw [hDi.1];omega)))) (bi J J (ab J (bi J J (ap J J bj (aJ (em J J J (pb J)) (aa (ai J (fun h1=> ?_) (fun h1=> ?_)))))))))
  ·(try simp only [aX]at h1);refine ar ?_;have hbx:(D.getD (a/256).toNat []).getD (a%256).toNat 0=x:=by simpa using h1
   rw [AA (by rw [hP.dl];exact hi) (by rw [hDi.1];omega) hbx];refine bP L ⟨J,hP⟩ J fw J [0,1,2] [] J J J
  ·(try simp only [aX]at h1);refine az (aj (ab J (ae (xs:= [.tmp 25]) (qI vs L D C hP (a/256).toNat s hs) LY [1,2] [] [1,2] (fun x0 hx0=>ab J (ap J J (gW (c:=a%256) (by decide) (by exact hm)) (ab J (bq J (aJ (d6 (j:=(a%256).toNat) underlying159 t5 J J (by omega) (by omega)) ?_))))))));have hs2:(L.set (a/256).toNat x0)[(a/256).toNat]?=some x0:=List.getElem?_set_self hi;refine e8 (k:=2) J (wJ hs2) (l9 2 [2,32] J (by decide) (fun _=>J) fun _=>ax (k:=2) (o:=(a%256).toNat) t5 J J J J J J (by rw [Nat.ble_eq,mh hDi.1];show(a%256).toNat+1≤256;omega) (EO (by rw [hDi.1];omega)) (bL 2 [2,32] J (z7 hx0.wf hs2 hx0.od (by rw [hP.dl];exact hi)) (aa (bP (L.set (a/256).toNat x0) ⟨KpR.set hs hx0.r,FA hP hx0.wf (by rw [List.length_set]) hx⟩ J fw J [0,1,2] [] J J J))))
 ·rw [ol hi];refine aj (ab J (ap J J (iI underlying152) (ab J (cN J J J J (cN J J J J (cN J J J J (cN J J J J (cN J J J J (cN J J J J (cN J J J J (cN J J J J (cN J J J J (cN J J J J (cN J J J J (aJ (em J J J (Hl J)) (aa (ai J (fun h2=> ?_) (fun h2=> ?_))))))))))))))))))
  ·(try simp only [aX]at h2);refine ar ?_;rw [mD (by rw [hP.dl];exact hi)];refine bP L ⟨J,hP⟩ J fw J [0,1,2] [] J J J
  ·cases h2
def oF:List (List Int)→Int→List Int→List (List Int)
 | D,_,[]=>D
 | D,a,x::l=>oF (iC D a x) (a+1) l
theorem vq:∀(l:List Int)(D:List (List Int))(a x:Int),oF D a (l++ [x])=iC (oF D a l) (a+l.length) x
 | [],D,a,x=>by simp [oF]
 | y::l,D,a,x=>by
  show oF (iC D a y) (a+1) (l++ [x])=iC (oF (iC D a y) (a+1) l) (a+((l.length+1:Nat):Int)) x;rw [vq l,show a+1+(l.length:Int)=a+((l.length+1:Nat):Int) by omega]
theorem zN(c:Nat)(vs:SV)(stv:List Value)(L:List Sl0)(D C:List (List Int))(hP:PgOk L D C)(hL:L.length≤65536)(b3 b4:Nat)(a:Int)(i:Nat)(ha:0≤a∧a+i<4294967296)(x:Int)(hx:0≤x∧x<256):
  Spec prog 69 [I6 (i:Int),.int .u8 x,Pt b3,Pt b4] [aO c 80 (sv vs:: .bool false::stv),own 148 7 jd (sv vs) L,gI L D C g_] [aO b3 141 [Pt c],aO b4 41 [I3 a]] (X:=List Sl0) (fun L'=>KpR L L'∧PgOk L' (iC D (a+i) x) C) (fun _=> .tuple #[]) (fun L'=> [aO c 80 (sv vs:: .bool false::stv),own 148 7 jd (sv vs) L',gI L' (iC D (a+i) x) C g_]) (fun _=> []):=by
 refine ay func69 J ntmps69 J fun w0 M H=>aj (aJ (ag My J J (cM (k:=0) J J)) (aJ (ag dy J J (cM (k:=1) J J)) (ab J (aJ (bK underlying3 underlying41 J (by first|exact bw (by omega)|rfl)) (ap J J (bX (c:=a+i) (bw (by omega))) (ab J (ae (xs:= [.tmp 6,.tmp 10,.tmp 11]) (Bp c vs stv L D C hP hL (a+i) (by omega) x hx) NG [0,1,2] [] [0,1,2] (fun L' hL'=>aa (bP L' hL' J fw J [0,1,2] [] J J J)))))))))
theorem PgOk.kd{L:List Sl0}{D D' C:List (List Int)}(h:PgOk L D C)(e:D=D'):PgOk L D' C:=e▸h
theorem KpR.trans{L L' L2:List Sl0}(h:KpR L L')(h2:KpR L' L2):KpR L L2:=Eq.trans h2 h
theorem L_{t:Ba}{i:Nat}:0≤(aH t).getD i 0∧(aH t).getD i 0<256:=ie t i
theorem Ay(c:Nat)(vs:SV)(stv:List Value)(L:List Sl0)(D C:List (List Int))(hP:PgOk L D C)(hL:L.length≤65536)(b3 b4:Nat)(a:Int)(t:Ba)(ha:0≤a∧a+t.size<4294967296):
  Spec prog 68 [Sg t,.func (.func 69) #[] #[Pt b3,Pt b4]] [aO c 80 (sv vs:: .bool false::stv),own 148 7 jd (sv vs) L,gI L D C g_] [aO b3 141 [Pt c],aO b4 41 [I3 a]] (X:=List Sl0) (fun L'=>KpR L L'∧PgOk L' (oF D a (aH t)) C) (fun _=> .tuple #[]) (fun L'=> [aO c 80 (sv vs:: .bool false::stv),own 148 7 jd (sv vs) L',gI L' (oF D a (aH t)) C g_]) (fun _=> []):=by
 refine ay func68 J ntmps68 J fun w0 M H=> ?_
 have hbl:=dc t;refine am (ab J (aJ (ch underlying9 J) (ab J (aa (aC (bC (X:=List Sl0×Nat) (fun x=>x.2≤t.size∧KpR L x.1∧PgOk x.1 (oF D a ((aH t).take x.2)) C) (fun x=> [(0,Sg t),(1,.func (.func 69) #[] #[Pt b3,Pt b4]),(6,I6 (t.size:Int)),(7,I6 (x.2:Int))]) (fun x=> [(0,aO c 80 (sv vs:: .bool false::stv)),(1,own 148 7 jd (sv vs) x.1),(2,gI x.1 (oF D a ((aH t).take x.2)) C g_)]) (fun x=> [(0,aO b3 141 [Pt c]),(1,aO b4 41 [I3 a])]) (fun x=>t.size-x.2) (L,0) ⟨bE _,J,hP⟩ J J J (fun x hI=> ?_)))))));obtain⟨L',i⟩:=x;obtain⟨hiI,hK,hP'⟩:=hI;refine am (ap J J cG (aa (aT (ai J (fun h1=> ?_) (fun h1=> ?_)))))
 ·(try simp only [aX]at h1);have hi:i<t.size:=by omega
  have hxx:=DF hi;refine az (aT (aC (am (ab J (ao J (aa (aj (ab J (ab J (ab J (ab J (aJ (ec (j:=i) underlying9 J J J (by omega)) (ae (xs:= [.tmp 11,.tmp 14]) (zN c vs stv L' (oF D a ((aH t).take i)) C hP' (by rw [hK.len];exact hL) b3 b4 a i (by omega) ((aH t).getD i 0) L_) NH [0,1,2] [(false,0),(false,1)] [0,1,2] (fun L2 hL2=> ?_))))))))))))));have he:iC (oF D a ((aH t).take i)) (a+i) ((aH t).getD i 0)=oF D a ((aH t).take (i+1)):=by rw [cm hxx,vq,List.length_take,Nat.min_eq_left (by omega)]
  rw [he]at hL2 ⊢;refine aa (aj (ap J J aY (ab J (aa ?_))));refine aI (L2,i+1) ⟨⟨by show i+1≤_;omega,hK.trans hL2.1,hL2.2⟩,by show t.size-(i+1)<t.size-i;omega⟩ J J J
 ·(try simp only [aX]at h1);have hi:i=t.size:=by omega
  subst hi;have hT:(aH t).take t.size=aH t:=List.take_of_length_le (Nat.le_of_eq hbl);refine bF (bP L' ⟨hK,hP'.kd (by show oF D a ((aH t).take t.size)=_;rw [hT])⟩ J fw J [0,1,2] [] J (by(conv=>rhs;rw [←hT]);rfl) J)
theorem rr(c:Nat)(vs:SV)(stv:List Value)(L:List Sl0)(D C:List (List Int))(hP:PgOk L D C)(hL:L.length≤65536)(a:Int)(t:Ba)(ha:0≤a∧a+t.size<4294967296):
  Spec prog 27 [Pt c,I3 a,Sg t] [aO c 80 (sv vs:: .bool false::stv),own 148 7 jd (sv vs) L,gI L D C g_] [] (X:=List Sl0) (fun L'=>KpR L L'∧PgOk L' (oF D a (aH t)) C) (fun _=> .tuple #[]) (fun L'=> [aO c 80 (sv vs:: .bool false::stv),own 148 7 jd (sv vs) L',gI L' (oF D a (aH t)) C g_]) (fun _=> []):=by
 refine ay func27 J ntmps27 J fun w0 M H=>am (mU J J J fun b3=>mU J J J fun b4=>aa (aj (ab J (aJ (d5 (first:= []) (cap:= [.tmp 3,.tmp 4]) J J) (ae (xs:= [.tmp 6,.tmp 7]) (Ay c vs stv L D C hP hL b3 b4 a t ha) NI [0,1,2] [(true,3),(true,4)] [0,1,2] (fun L' hL'=>aa (bP L' hL' J fw J [0,1,2] [] J J J)))))))
def kS(C:List (List Int))(p:Nat)(t:Ba):List (List Int):=C.set p (xE t (C.getD p []))
theorem xD{t:Ba}{l:List Int}(h:∀x∈l,0≤x∧x<256):∀x∈xE t l,0≤x∧x<256:=fun x hx=>by
 unfold xE at hx;rcases List.mem_append.1 hx with hx|hx
 ·obtain⟨b,-,rfl⟩:=List.mem_map.1 (List.mem_of_mem_take hx);exact⟨by omega,by have:=b.toNat_lt;omega⟩
 ·exact h x (List.mem_of_mem_drop hx)
theorem Ds{C:List (List Int)}{p:Nat}{t:Ba}(h:¬p<C.length):kS C p t=C:=List.set_eq_of_length_le (by omega)
theorem zn{L L':List Sl0}{D C:List (List Int)}{p:Nat}{t:Ba}(h:PgOk L D C)(hw:WfL L')(hn:L'.length=L.length)(hp:p<L.length):PgOk L' D (kS C p t):=by
 have hd:=h.c8.at (show p<C.length by rw [h.cl];exact hp)
 refine⟨hw,by rw [hn];exact h.dl,by unfold kS;rw [List.length_set,hn];exact h.cl,h.d8,?_⟩;unfold kS;exact h.c8.set (by rw [jw];exact hd.1) (xD hd.2)
theorem lZ(c:Nat)(vs:SV)(stv:List Value)(L:List Sl0)(D C:List (List Int))(hP:PgOk L D C)(hL:L.length≤65536)(p:Nat)(hp:p≤65536)(t:Ba):
  Spec prog 36 [Pt c,I6 (p:Int),Sg t] [aO c 80 (sv vs:: .bool false::stv),own 148 7 jd (sv vs) L,gI L D C g_] [] (X:=List Sl0) (fun L'=>KpR L L'∧PgOk L' D (kS C p t)) (fun _=> .tuple #[]) (fun L'=> [aO c 80 (sv vs:: .bool false::stv),own 148 7 jd (sv vs) L',gI L' D (kS C p t) g_]) (fun _=> []):=by
 refine ay func36 J ntmps36 J fun w0 M H=>aR (ab J (ap J J cG (ab J (eH (t:=10) J (fun h1=>False.elim (by revert h1;simp)) (fun h1=>bi J J (ab J (bi J J (ab J (bi J J (ct (xs:= [.tmp 12]) (Spec.roAll (io c vs stv L) (j8 (A:=aO c 80 _))) Dh [] [(true,0),(true,1)] [] J J J (fun _ _=>bi J J (ap J J fp (aJ (bD J J J) (ab J (eH (t:=16) J (fun h2=> ?_) (fun h2=> ?_))))))))))))))))
 ·(try simp only [aX]at h2);have hi:¬p<L.length:=by simp at h2;omega
  refine cN J J J J (cN J J J J (cN J J J J (cN J J J J (aJ (bD J J J) (aa (ai J (fun h3=> ?_) (fun h3=> ?_)))))))
  ·refine ar ?_;rw [Ds (by rw [hP.cl];exact hi)];refine bP L ⟨J,hP⟩ J fw J [0,1,2] [] J J J
  ·revert h3;simp
 ·(try simp only [aX]at h2);have hi:p<L.length:=by simp at h2;omega
  obtain⟨s,hs⟩:∃s,L[p]?=some s:=⟨_,bO hi⟩
  have hDi:=hP.c8.at (show p<C.length by rw [hP.cl];exact hi)
  refine bi J J (ab J (bi J J (bq J (bi J J (aA Iq J (bi J J (aL 0 t4 J J J J (aJ (bD J J J) (aa (ai J (fun h4=> ?_) (fun h4=> ?_)))))))))))
  ·revert h4;simp
  ·refine az (am (ab J (bq J (aA jq J (aL 0 Ea J J J J (ab J (aJ (aQ (j:=p) underlying72 qK J J (bp (k:=1) J) J (by omega)) (ao J (aa (aR (ab J (bq J (aJ (cy iP J) (aJ (ag lh J J (gh (bp (k:=1) J) (by intro _;rfl) hs J)) (ap J J (iI underlying146) (aa ?_))))))))))))))));refine ai J (fun h5=> ?_) (fun h5=> ?_)
   ·cases h5
   ·(try simp only [aX]at h5);refine az (aR (ab J (bq J (aJ (cy za J) (aJ (ag t4 J J (gh (bp (k:=1) J) (by intro _;rfl) hs J)) (aJ (cZ J) (aa (ai J (fun h6=> ?_) (fun h6=> ?_)))))))))
    ·(try simp only [aX]at h6);have hod:s.oc=false:=by simpa using h6
     refine am (ab J (bq J (aJ (cy iP J) (aJ (ag lh J J (gh (bp (k:=1) J) (by intro _;rfl) hs J)) (bq J (aJ (aM (us:=fP (C.getD p [])) wq J J (mh hDi.1) (KB (k:=2) J hs)) (aU wq J J fun b7=>aq (k:=7) wq J J (mh hDi.1) (ta _) J J (BB (uu (k1:=7) (k2:=2) J J (by decide)) fun hfr=>aa (aj (ab J (ab J (bq J (aJ (cy iP J) (gz (k:=1) (o:=1) (e':={s with c:=b7}) lh J J J J J J (by intro _;rfl) hs (by show _+1≤_;decide) J ?_))))))))))))));have hs2:(L.set p {s with c:=b7})[p]?=some {s with c:=b7}:=List.getElem?_set_self hi;refine bq J (aJ (cy za J) (gz (k:=1) (o:=3) (e':={s with c:=b7,oc:=true}) t4 J J J J J J (by intro _;rfl) hs2 (by show _+1≤_;decide) J ?_));have hs3:(L.set p {s with c:=b7,oc:=true})[p]?=some {s with c:=b7,oc:=true}:=List.getElem?_set_self hi;refine bL 2 [2,7] (C:=gI (L.set p {s with c:=b7,oc:=true}) D C g_) J (fun w F h=>by have q:=BJ (D:=D) (l:=C.getD p []) (i:=p) (nb:=b7) hs (by rw [hP.cl];exact hi) w F h;rw [xR (by rw [hP.cl];exact hi)]at q;exact q) ?_;refine e8 (k:=1) (A':=own 148 7 jd (sv vs) (L.set p {s with c:=b7,oc:=true})) J (fun w G h=>by rw [List.set_set]at h;exact h) ?_;refine aa (aj (ab J (bq J (aJ (cy iP J) (aJ (ag lh J J (gh (bp (k:=1) J) (by intro _;rfl) hs3 J)) (bq J (aJ (ka underlying159 t5 J (by decide)) (ab J (e8 (k:=2) J (pd hs3) (l9 2 [2,58] J (by decide) (fun _=>J) fun _=>jG (mf (k:=2) underlying84 t5 J hDi.1.symm J J) J fun _ _=>bL 2 [2,58] J (rA (hP.wf.new_c hs hfr) hs3 J (by rw [hP.cl];exact hi)) (aa (bP (L.set p {s with c:=b7,oc:=true}) ⟨KpR.set hs J,zn hP (hP.wf.new_c hs hfr) (by rw [List.length_set]) hi⟩ J fw J [0,1,2] [] J J J))))))))))))
    ·(try simp only [aX]at h6);have hoc:s.oc=true:=by simpa using h6
     refine az (aj (ab J (bq J (aJ (cy iP J) (aJ (ag lh J J (gh (bp (k:=1) J) (by intro _;rfl) hs J)) (bq J (aJ (ka underlying159 t5 J (by decide)) (ab J (e8 (k:=2) J (pd hs) (l9 2 [2,58] J (by decide) (fun _=>J) fun _=>jG (mf (k:=2) underlying84 t5 J hDi.1.symm J J) J fun _ _=>bL 2 [2,58] J (rA hP.wf hs hoc (by rw [hP.cl];exact hi)) (aa (bP L ⟨J,zn hP hP.wf J hi⟩ J fw J [0,1,2] [] J J J))))))))))))
def sV(code:Ba)(p:Nat):List Int:=if 1≤p∧(p-1)*256<code.size then xE (code.extract ((p-1)*256) code.size) zer else zer
theorem vZ:∀x∈zer,0≤x∧x<256:=fun x hx=>by rw [ji]at hx;rw [List.eq_of_mem_replicate hx];decide
theorem oi(code:Ba)(p:Nat):(sV code p).length=256:=by
 unfold sV;split
 ·rw [jw,fq]
 ·exact fq
theorem BL(code:Ba)(p:Nat):∀x∈sV code p,0≤x∧x<256:=by
 unfold sV;split
 ·exact xD vZ
 ·exact vZ
theorem BW{l:List Int}(h:l.length=256):l≠ []:=fun e=>by rw [e]at h;cases h
theorem tD(code:Ba)(hc:code.size≤7936)(p:Nat)(hp:p≤4096):
  aN prog 72 [Sg code,I6 (p:Int)] [] [] (Sg (jm (sV code p))) []:=by
 refine ay func72 J ntmps72 J fun w0 M H=>am (ao J (aw J (oe bJ 0 underlying84 t5 J J J J (c:=256) J J (by omega) (by simp only [maxLen];omega) J fun v7=> ?_)))
 rw [←ji];refine ao J (aa (aR (ab J (ap J J (ek (c:=(p:Int)*256) (bs (by omega))) (ap J J (lg (c:=(p:Int)*256-256) (bs (by omega))) (ao J (aw J (ab J (ap J J fp (ab J (aF [] J J O (fun hg1=>aV J) J (aF [(14,_)] J J ⟨J,O⟩ (fun hg2=>aV J) J (aF [(14,_),(15,_)] J J ⟨J,J,O⟩ (fun hg3=>ch underlying9 J) J (aF [(14,_),(15,_),(16,_)] J J ⟨J,J,J,O⟩ (fun hg4=>aS J J cG) J (aJ (bD J J J) ?_)))))))))))))));refine aa (ai J (fun h5=> ?_) (fun h5=> ?_))
 ·(try simp only [aX]at h5);have hi:1≤p∧(p-1)*256<code.size:=by simp at h5;omega
  refine aj (ab J (ab J (ab J (aJ (k_ underlying9 J J (by omega) (by omega)) (jG (s_ (k:=7) underlying84 t5 J J J (by rw [fq];decide)) J fun _ _=>aw J (ab J (aJ (uz underlying84 underlying5 underlying9 J (bp (k:=7) J) (BW (by rw [jw,fq]))) (ao J (aa (ar ?_))))))))));refine aG () O J (bU (aD J)) (by unfold sV;rw [ak hi,show((p:Int)*256-256).toNat=(p-1)*256 by omega]) [] [] J J J
 ·(try simp only [aX]at h5);have hi:¬(1≤p∧(p-1)*256<code.size):=by simp at h5;omega
  refine az (am (ab J (aJ (uz underlying84 underlying5 underlying9 J (bp (k:=7) J) (BW fq)) (ao J (aa (ar (aG () O J (bU (aD J)) (by unfold sV;rw [ac hi]) [] [] J J J)))))))
def sS(pc r4 c1 st du:Int):List Value:= [I3 pc,I3 0,I3 0,I3 0,I3 0,I3 r4,I3 0,I3 0,I3 0,I3 0,I3 0,I3 0,I3 0,I3 0,I3 0,I3 0,I3 0,I3 0,I3 0,I3 c1,I3 0,I3 0,I6 st,I6 du]
theorem kU(c:Nat)(vs:SV)(p0 r0 c0 t0 d0 pc r4 c1 st du:Int)(hst:0≤st)(hdu:0≤du):
  aN prog 29 [Pt c,.agg (sS pc r4 c1 st du).toArray] [aO c 80 (sv vs:: .bool false::sS p0 r0 c0 t0 d0)] [] (.tuple #[]) [aO c 80 (sv vs:: .bool false::sS pc r4 c1 st du)]:=by
 refine ay func29 J ntmps29 J fun w0 M H=> ?_
 have m1:max st 0=st:=Int.max_eq_left hst;have m2:max du 0=du:=Int.max_eq_left hdu;refine am (cB J J fun b3=>aw J (aA fi J (aJ (cH (j:=0) underlying75 dy J J (by rfl) (by decide)) (ax (k:=3) dy J J J J J J J J (aA CO J (ax (k:=3) dy J J J J J J J J (aw J (aA gd J (aL 3 t3 J J J J (aJ (nC (c:=st) J J m1) (aA m9 J (aL 3 t3 J J J J (aJ (nC (c:=du) J J m2) ?_)))))))))))));refine aA gd J (ax (k:=3) t3 J J J J J J J J (aA m9 J (ax (k:=3) t3 J J J J J J J J (aa (aj (ab J (aJ (aM lX J J J (bh (k:=3) J)) (bq J (aA CN J (ax (k:=0) lX J J J J J J J J (aa (bP () O J fw J [0] [] J J J))))))))))))
theorem wr(c:Nat)(vs:SV)(pc r4 c1 st du:Int):
  aN prog 31 [Pt c] [] [aO c 80 (sv vs:: .bool false::sS pc r4 c1 st du)] (.agg (sS pc r4 c1 st du).toArray) []:=by
 refine ay func31 J ntmps31 J fun w0 M H=>am (aU lX J J fun b2=>aw J (ab J (bq J (aA CN J (aJ (aM (us:=sS pc r4 c1 st du) lX J J J (Ih (k:=0) J J)) (aq (k:=2) lX J J J J J J (aa (ar (aG () O J (bU (be lX J J J (bh (k:=2) J))) J [] [] J J J)))))))))
theorem Aj(c:Nat):
  aN prog 232 [Pt c] [] [] (I6 2) []:=by
 refine ay func232 J ntmps232 J fun w0 M H=>am (ao J (aw J (ao J (aa (ar (aG () O J (bU (aD J)) J [] [] J J J))))))
def pz(z:Nat)(a:Bool):Value:= .pointer (if a then some ⟨z,0,none⟩else none)
def Mq(z:Nat)(q:Bool×Bool×Bool):List Value:= [pz z q.1,pz z q.2.1,.bool false,.bool false,pz z q.1,pz z q.2.2,I6 0]
def nS(_:Unit):List Value:= [.pointer none,.pointer none,.bool false,.bool false,.pointer none,.pointer none,I6 0]
def FL(n i:Nat):List (Bool×Bool×Bool):=List.replicate i (true,true,true)++List.replicate (n-i) (false,false,false)
theorem lL{n i:Nat}(h:i≤n):(FL n i).length=n:=by unfold FL;simp;omega
theorem I2{n i:Nat}(h:i<n):(FL n i).set i (true,true,true)=FL n (i+1):=by
 unfold FL;rw [List.set_append_right _ _ (by simp),List.length_replicate,Nat.sub_self,show n-i=(n-(i+1))+1 by omega,List.replicate_succ,List.set_cons_zero,List.replicate_succ',List.append_assoc];rfl
theorem FI(n:Nat):FL n n=List.replicate n (true,true,true):=by unfold FL;rw [Nat.sub_self];simp
theorem Cr{α:Type}{l:List α}{i:Nat}{x:α}(h:i<l.length):(l.set i x)[i]?=some x:=List.getElem?_set_self h
def s0(z:Nat):Sl0:=⟨z,z,false,false,z,z,0⟩
theorem Au{α β:Type}{f:α→List Value}{g:β→List Value}{x:α}{y:β}(h:f x=g y)(n:Nat):(List.replicate n x).flatMap f=(List.replicate n y).flatMap g:=by
 rw [List.flatMap_def,List.map_replicate,h,←List.map_replicate,←List.flatMap_def]
theorem yr{α β:Type}{T:TypeId}{s:Nat}{f:α→List Value}{g:β→List Value}{x:α}{y:β}{v:Value}{n:Nat}(h:f x=g y):∀w G,(own T s f v (List.replicate n x)).pred w G→(own T s g v (List.replicate n y)).pred w G:=fun w G h1=>by
 refine⟨h1.1,?_⟩;have h2:=h1.2;rw [List.length_replicate]at h2 ⊢;rw [←Au h];exact h2
theorem EP(n z:Nat):∀w F,AllIn w F [aO z 159 (fP zer)]→(gI (List.replicate n (s0 z)) (List.replicate n zer) (List.replicate n zer) g_).pred w F:=fun w F h i s hs=>by
 obtain⟨⟨G,a,b⟩,_⟩:=h;have hi:i<n:=by
  have:=(cA.1 hs).1;simpa using this
 have e:(List.replicate n zer).getD i []=zer:=by
  rw [List.getD_eq_getElem?_getD,List.getElem?_replicate,ak hi];rfl
 rw [List.getElem?_replicate,ak hi]at hs;cases hs;rw [e];exact⟨fun _=>⟨b _ ((a.1 _).2 J),a.2⟩,fun _=>⟨b _ ((a.1 _).2 J),a.2⟩⟩
theorem BV(n z:Nat):PgOk (List.replicate n (s0 z)) (List.replicate n zer) (List.replicate n zer):=by
 have h8:Pg8 (List.replicate n zer):=fun l hl=>by rw [List.eq_of_mem_replicate hl];exact⟨fq,vZ⟩
 refine⟨⟨fun i s hs ho=> ?_,fun i s hs ho=> ?_⟩,by simp,by simp,h8,h8⟩
 ·rw [List.eq_of_mem_replicate (cO hs)]at ho;cases ho
 ·rw [List.eq_of_mem_replicate (cO hs)]at ho;cases ho
theorem EN:(fP zer).toArray=Array.replicate 256 (Value.int .u8 0):=by
 rw [ji];unfold fP;rw [List.map_replicate];exact List.toArray_replicate ..
theorem z6(n:Nat)(hn:n≤4096):
  Spec prog 67 [I6 (n:Int),.bool false] [] [] (X:=Nat×SV×Nat) (fun _=>True) (fun x=>Pt x.1) (fun x=> [aO x.1 74 [sv x.2.1,.bool false],own 148 7 jd (sv x.2.1) (List.replicate n (s0 x.2.2)),gI (List.replicate n (s0 x.2.2)) (List.replicate n zer) (List.replicate n zer) g_]) (fun _=> []):=by
 refine ay func67 J ntmps67 J fun w0 M H=> ?_
 have m1:max (n:Int) 0=n:=by omega
 have m2:min (n:Int) 4096=n:=by omega
 refine am (ao J (aw J (ab J (aJ (nC (c:=(n:Int)) J J m1) (aJ (BM (c:=(n:Int)) J J m2) (jG (BZ (c:=n) nS () underlying72 qK J J J J J J J (by omega) (by simp only [maxLen];omega)) J fun v11 _=>ab J (aJ (aW (cs:= #[sv v11,.bool false]) (parts:= [(0,.tmp 11),(1,.tmp 12)]) Jb ML J (by kernel_rfl)) (cB J J fun b14=>ao J (aw J (aJ (uy (D:= .bool) (cs:=(fP zer).toArray) (parts:= []) wq t5 J (by rw [EN];kernel_rfl)) (cB J J fun b16=>ao J ?_)))))))))));refine e8 (k:=11) (A':=own 148 7 (Mq b16) (sv v11) (FL n 0)) J (yr J) (aa (aR (ab J (bq J (aA jq J (aL 14 Ea J J J J (aJ (aZ underlying72 J (bp (k:=11) J)) ?_)))))));rw [lL (bE n)];refine ab J (aa (aC (bC (X:=Nat) (fun i=>i≤n) (fun i=> [(5,Pt b14),(1,.bool false),(6,Pt b16),(21,I6 (n:Int)),(22,I6 (i:Int))]) (fun i=> [(14,aO b14 74 [sv v11,.bool false]),(11,own 148 7 (Mq b16) (sv v11) (FL n i)),(16,aO b16 159 (fP zer))]) (fun i=> []) (fun i=>n-i) 0 (bE _) J J J (fun i n1=>am (ap J J cG (aa (aT (ai J (fun h1=> ?_) (fun h1=> ?_)))))))))
 ·(try simp only [aX]at h1);have hi:i<n:=by omega
  obtain⟨q,hs⟩:∃q,(FL n i)[i]?=some q:=⟨_,bO (by rw [lL (by omega)];omega)⟩
  refine az (aT (aC (am (ab J (ao J (aw J (ab J (bq J (aA jq J (aL 14 Ea J J J J (ab J (ab J (ab J (aJ (aW (cs:=(Mq b16 (true,false,false)).toArray) (parts:= [(0,.tmp 30),(4,.tmp 31)]) qK JZ J (by kernel_rfl)) (aJ (aQ (j:=i) underlying72 qK J J (bp (k:=11) J) J (by rw [lL (by omega)];omega)) (lx (k:=11) (e':=(true,false,false)) qK J J J (by intro _;rfl) hs J J ?_))))))))))))))));refine aw J (ab J (aJ (cZ J) (aa (ai J (fun h2=> ?_) (fun h2=> ?_)))))
  ·refine sK [0,1,2,3,4,5,6,7,8,9,10,11,12,13,14,15,16,17] [0,1,2,3,4,5,6,7,8,13,9,14,10,11,12,15,16,17] [36,37,38,39,40,41,42,43,44,45,46,47,48,49,50,51] _ J J J (bR (V:= [(0,36,_),(1,37,_),(2,38,_),(3,39,_),(4,40,_),(5,41,_),(6,42,_),(7,43,_),(8,44,_),(9,45,_),(10,46,_),(11,47,_),(12,48,_),(13,49,_)]) [0,1,2,3,4,5,6,7,8,9,10,11,12,13] 14 [14,13,12,10,8,7,6,5,4,3,2,1,0] [15,16] (fun _=> [(15,50,_),(16,51,_)]) J J (aK J J (ad J (av J) (ad J (ah jq J) (ad J (ag Ea J J (aB (k:=14) J J)) (aK J J (aK J J (ad J (av J) (ad J (ah jq J) (ad J (ag Ea J J (aB (k:=14) J J)) (aK J J (aK J J (aK J J (ad J (aQ (j:=i) underlying72 qK J J (bp (k:=11) J) J (by simp [lL (show i≤n by omega)];omega)) (ad J (cy iP J) au)))))))))))))) J J J J J J J J J (fun _ _=>J) J (hQ (k:=11) (o:=1) (e':=(true,true,false)) lh J J J J J J (by intro _;rfl) (Cr (by simp [lL (show i≤n by omega)];omega)) (by show _+1≤_;decide) J) (fun _ _=>bR [15,16,9,11] 17 [17,16,15,14,13,12,11,10,9,8,7,6,5,4,3,2,1,0] [] (fun _=> []) J J (ad J (aQ (j:=i) underlying72 qK J J (bp (k:=11) J) J (by simp [lL (show i≤n by omega)];omega)) (ad J (cy Ft J) (aK J J (aK J J au)))) J J J J J J J J J (fun _ _=>J) J (hQ (k:=11) (o:=5) (e':=(true,true,true)) lh J J J J J J (by intro _;rfl) (Cr (by simp [lL (show i≤n by omega)];omega)) (by show _+1≤_;decide) J) (fun _ _=>br [] J J au J J J ?_)));refine aj (ap J J aY (ab J (aa ?_)));refine aI (i+1) ⟨by omega,by omega⟩ J (by rw [List.set_set,List.set_set,I2 hi];rfl) J
  ·exact absurd h2 (by simp)
 ·(try simp only [aX]at h1);have hi:i=n:=by omega
  subst hi;refine bF (am (ab J (ao J (aa (ar (bL 16 [16] (C:=gI (List.replicate i (s0 b16)) (List.replicate i zer) (List.replicate i zer) g_) J (EP _ _) (e8 (k:=11) (A':=own 148 7 jd (sv v11) (List.replicate i (s0 b16))) J (fun w G h=>yr (f:=Mq b16) (g:=jd) (x:=(true,true,true)) (y:=s0 b16) J w G (by rw [FI]at h;exact h)) (aG (b14,v11,b16) O J (bU (aD J)) J [14,11,16] [] J J J))))))))
theorem AE(n:Nat)(hn:n≤4096):
  Spec prog 26 [I6 (n:Int)] [] [] (X:=Nat×SV×Nat) (fun _=>True) (fun x=>Pt x.1) (fun x=> [aO x.1 80 (sv x.2.1:: .bool false::sS 0 0 0 0 0),own 148 7 jd (sv x.2.1) (List.replicate n (s0 x.2.2)),gI (List.replicate n (s0 x.2.2)) (List.replicate n zer) (List.replicate n zer) g_]) (fun _=> []):=by
 refine ay func26 J ntmps26 J fun w0 M H=>am (ao J (aw J (ab J (ae (xs:= [.tmp 3,.const (.bool Bool.false)]) (z6 n hn) NJ [] [] [10,11,12] (fun e _=>bq J (aJ (aM Jb J J J (bh (k:=10) J)) (aJ (aW (cs:=(sv e.2.1:: .bool false::sS 0 0 0 0 0).toArray) (parts:= [(0,.tmp 6)]) OE MK J (by kernel_rfl)) (cB J J fun b8=>ao J (aa (ar (aG (b8,e.2) O J (bU (aD J)) J [8,11,12] [] J J J)))))))))))
section
variable{P:Program}{N:Nat}{w0:World}{M H:Nat→Prop}{E:el}{Γ R:dL}
theorem IS{S t:TypeId}{v:Value}{ms:Array (String×TypeId)}(hS:P.underlying S=some (.interface ms)):cW P .eql S (.iface t v) .nilIface (.bool false):=fun x y w=>by
 have:(Op.equalIn (9999+1) S (.iface t v) .nilIface).run P w= .ok false w:=by
  unfold Op.equalIn;simp [run_underlying hS]
 have h2:(Op.equal S (.iface t v) .nilIface).run P w= .ok false w:=this;simp [Sem.run_bind,eqGuard,binOp,h2]
end
def ldD(D:List (List Int))(code:Ba):Nat→List (List Int)
 | 0=>D
 | p+1=>oF (ldD D code p) ((256*p:Nat):Int) (sV code p)
def ldC(C:List (List Int))(code:Ba):Nat→List (List Int)
 | 0=>C
 | p+1=>kS (ldC C code p) p (jm (sV code p))
def Ji(r:List Int):Nat→List Int
 | 0=>r
 | p+1=>(Ji r p).set p (o8 p)
theorem BG(L:List Sl0)(p:Nat)(z:Int):(uo L p z).map (·.r)=(L.map (·.r)).set p z:=by
 unfold uo;cases h:L[p]? with
 | some s=>rw [List.map_set]
 | none=>
  have:=List.getElem?_eq_none_iff.1 h;rw [List.set_eq_of_length_le (by rw [List.length_map];exact this)]
theorem Eu(L:List Sl0)(p:Nat)(z:Int):(uo L p z).length=L.length:=by simpa using congrArg List.length (BG L p z)
theorem GL(code:Ba)(p:Nat):aH (jm (sV code p))=sV code p:=iE _ (BL code p)
theorem Ew(code:Ba)(p:Nat):(jm (sV code p)).size=256:=by rw [gC,oi]
theorem yD(r:List Int):∀p,(Ji r p).length=r.length
 | 0=>rfl
 | p+1=>by unfold Ji;rw [List.length_set,yD r p]
structure LdI(L:List Sl0)(D C:List (List Int))(code:Ba)(p:Nat)(L':List Sl0):Prop where
 r:L'.map (·.r)=Ji (L.map (·.r)) p
 ok:PgOk L' (ldD D code p) (ldC C code p)
theorem LdI.len{L L':List Sl0}{D C:List (List Int)}{code:Ba}{p:Nat}(h:LdI L D C code p L'):L'.length=L.length:=by
 have:=congrArg List.length h.r;rw [yD]at this;simpa using this
theorem LdI.next{L L1 L2 L3:List Sl0}{D C:List (List Int)}{code:Ba}{p:Nat}{z:Int}(h:LdI L D C code p L1)(k1:KpR L1 L2)(k2:KpR L2 L3)(ok:PgOk L3 (ldD D code (p+1)) (ldC C code (p+1)))(hz:bits .and .i64 z 7=o8 p):LdI L D C code (p+1) (uo L3 p (bits .and .i64 z 7)):=by
 refine⟨?_,ok.rights p _⟩;rw [BG,k2,k1,h.r,hz];rfl
theorem Ai(c:Nat)(vs:SV)(p0 r0 c0 t0 d0:Int)(L:List Sl0)(D C:List (List Int))(hP:PgOk L D C)(hL:L.length≤4096)(h64:64≤L.length)(code:Ba)(hz:code.size≤7936):
  Spec prog 30 [.iface 69 (Pt c),.agg #[I6 2,Sg code]] [aO c 80 (sv vs:: .bool false::sS p0 r0 c0 t0 d0),own 148 7 jd (sv vs) L,gI L D C g_] [] (X:=List Sl0) (fun L'=>LdI L D C code 64 L') (fun _=>I6 0) (fun L'=> [aO c 80 (sv vs:: .bool false::sS 256 0 0 0 0),own 148 7 jd (sv vs) L',gI L' (ldD D code 64) (ldC C code 64) g_]) (fun _=> []):=by
 refine ay func30 J ntmps30 J fun w0 M H=>am (cB J J fun b3=>ao J (aa (aR (ab J (ap J J (IS underlying150) (ab J (bi J J (ab J (bi J J (jG (gG (xs:= []) (ER c) (Aj c) K9 [] [] [] J J J J J J J J (fun _ _=>J) (fun _ _ _=>J)) J fun _ _=>bi J J (ap J J fW (aJ (em J J J (pb J)) (ab J ?_)))))))))))))
 refine bi J J (ab J (bi J J (jG (gG (xs:= []) (B4 c) (Spec.roAll (io c vs (sS p0 r0 c0 t0 d0) L) (j8 (A:=aO c 80 _))) Dh [] [(true,0),(true,1)] [] J J J J J J J J (fun _ _=>J) (fun _ _ _=>J)) J fun _ _=>bi J J (ap J J cG (aJ (em J J J (pb J)) (ab J (eH (t:=19) J (fun h1=>False.elim (by revert h1;simp;omega)) (fun h1=>bi J J (aA CS J (bi J J (aL 3 t3 J J J J (bi J J (ap J J fW (aJ (bD J J J) (ab J (eH (t:=24) J (fun h2=>False.elim (by revert h2;simp)) (fun h2=>bi J J (aA ke J ?_))))))))))))))))));refine bi J J (aL 3 t9 J J J J (bi J J (aJ (ch underlying9 J) (bi J J (ap J J ge (aJ (bD J J J) (aa (ai J (fun h3=> ?_) (fun h3=> ?_)))))))))
 ·revert h3;simp;omega
 ·refine az (aR (ab J (aa (aC (bC (X:=List Sl0×Nat) (fun x=>x.2≤64∧LdI L D C code x.2 x.1) (fun x=> [(0,.iface 69 (Pt c)),(3,Pt b3),(30,I6 (x.2:Int))]) (fun x=> [(0,aO c 80 (sv vs:: .bool false::sS p0 r0 c0 t0 d0)),(1,own 148 7 jd (sv vs) x.1),(2,gI x.1 (ldD D code x.2) (ldC C code x.2) g_),(3,aO b3 31 [I6 2,Sg code])]) (fun x=> []) (fun x=>64-x.2) (L,0) ⟨bE _,J,hP⟩ J J J (fun x hI0=> ?_))))));obtain⟨L',p⟩:=x;obtain⟨hpI,hI⟩:=hI0;have hpI':p≤64:=hpI;replace hI:LdI L D C code p L':=hI;refine am (ap J J cG (aa (aT (ai J (fun h4=> ?_) (fun h4=> ?_)))))
  ·(try simp only [aX]at h4);have hi:p<64:=by omega
   refine az (aT (aC (am (ab J (ao J (aw J (aA ke J (aL 3 t9 J J J J (ab J (ae (xs:= [.tmp 34,.tmp 35]) (tD code (by omega) p (by omega)) NF [] [] [] (fun _ _=>ao J (aw J (ab J (ab J ?_))))))))))))));refine ap J J (ek (c:=((256*p:Nat):Int)) (by rw [bs (by omega)];omega)) (aJ (bK underlying3 underlying41 J (c:=((256*p:Nat):Int)) (bw (by omega))) (ab J (jG (gG (xs:= [.tmp 40,.tmp 41]) (EQ c) (rr c vs (sS p0 r0 c0 t0 d0) L' (ldD D code p) (ldC C code p) hI.ok (by rw [hI.len];omega) ((256*p:Nat):Int) (jm (sV code p)) (by rw [Ew];omega)) K8 [0,1,2] [] [0,1,2] J J J J J J J J (fun _ _=>J) (fun _ _ _=>J)) J fun L1 hL1=> ?_)));rw [GL]at hL1 ⊢;refine aw J (ab J (ab J (ab J (jG (gG (xs:= [.tmp 44,.tmp 45]) (w5 c) (lZ c vs (sS p0 r0 c0 t0 d0) L1 (ldD D code (p+1)) (ldC C code p) hL1.2 (by rw [hL1.1.len,hI.len];omega) p (by omega) (jm (sV code p))) K5 [0,1,2] [] [0,1,2] J J J J J J J J (fun _ _=>J) (fun _ _ _=>J)) J fun L2 hL2=>aa (aC (am (ab J (ap J J bj (ao J (aa (ai J (fun h5=> ?_) (fun h5=> ?_))))))))))))
   ·(try simp only [aX]at h5);have hq:p=0:=by first|omega|(simp at h5;omega)
    refine aj (ab J (ab J (jG (gG (xs:= [.tmp 54,.const (I6 0)]) (lz c) (g8 c vs (sS p0 r0 c0 t0 d0) L2 (ldD D code (p+1)) (ldC C code (p+1)) (by rw [hL2.1.len,hL1.1.len,hI.len];omega) p (by omega) 0) FD [0,1,2] [] [0,1,2] J J J J J J J J (fun _ _=>J) (fun _ _ _=>J)) J fun _ _=>aa (aj (ap J J aY (ab J (aa ?_)))))));refine aI (uo L2 p (bits .and .i64 0 7),p+1) ⟨⟨by show p+1≤64;omega,hI.next hL1.1 hL2.1 hL2.2 (by show(0:Int)=_;unfold o8;rw [ac (by omega),ac (by omega)])⟩,by show 64-(p+1)<64-p;omega⟩ J J J
   ·(try simp only [aX]at h5);have hq:¬p=0:=by first|omega|(simp at h5;omega)
    refine am (ab J (ap J J cG (ao J (aa (ai J (fun h6=> ?_) (fun h6=> ?_))))))
    ·(try simp only [aX]at h6);have hq2:p<32:=by first|omega|(simp at h6;omega)
     refine aj (ab J (ab J (jG (gG (xs:= [.tmp 60,.const (I6 5)]) (lz c) (g8 c vs (sS p0 r0 c0 t0 d0) L2 (ldD D code (p+1)) (ldC C code (p+1)) (by rw [hL2.1.len,hL1.1.len,hI.len];omega) p (by omega) 5) FD [0,1,2] [] [0,1,2] J J J J J J J J (fun _ _=>J) (fun _ _ _=>J)) J fun _ _=>aa (aj (ap J J aY (ab J (aa ?_)))))));refine aI (uo L2 p (bits .and .i64 5 7),p+1) ⟨⟨by show p+1≤64;omega,hI.next hL1.1 hL2.1 hL2.2 (by show(5:Int)=_;unfold o8;rw [ac (by omega),ak (by omega)])⟩,by show 64-(p+1)<64-p;omega⟩ J J J
    ·(try simp only [aX]at h6);have hq2:¬p<32:=by first|omega|(simp at h6;omega)
     refine aj (ab J (ab J (jG (gG (xs:= [.tmp 48,.const (I6 3)]) (lz c) (g8 c vs (sS p0 r0 c0 t0 d0) L2 (ldD D code (p+1)) (ldC C code (p+1)) (by rw [hL2.1.len,hL1.1.len,hI.len];omega) p (by omega) 3) FD [0,1,2] [] [0,1,2] J J J J J J J J (fun _ _=>J) (fun _ _ _=>J)) J fun _ _=>aa (aj (ap J J aY (ab J (aa ?_)))))));refine aI (uo L2 p (bits .and .i64 3 7),p+1) ⟨⟨by show p+1≤64;omega,hI.next hL1.1 hL2.1 hL2.2 (by show(3:Int)=_;unfold o8;rw [ak (by omega)])⟩,by show 64-(p+1)<64-p;omega⟩ J J J
  ·(try simp only [aX]at h4);have hi:p=64:=by omega
   subst hi;refine bF (am (ab J (aJ (aW (cs:=(sS 256 0 0 0 0).toArray) (parts:= [(0,.const (I3 256))]) lX Hj J (by kernel_rfl)) (jG (gG (xs:= [.tmp 64]) (uJ c) (kU c vs p0 r0 c0 t0 d0 256 0 0 0 0 (by decide) (by decide)) K7 [0] [] [0] J J J J J J J J (fun _ _=>J) (fun _ _ _=>J)) J fun _ _=>aw J (ao J (aa (ar (aG L' hI J (bU (aD J)) J [0,1,2] [] J J J))))))))
theorem Kk(L:List Sl0)(p:Nat):Kl L p=(L.map (·.r)).getD p 0:=by
 unfold Kl;rw [List.getD_eq_getElem?_getD,List.getElem?_map];cases L[p]?<;>rfl
theorem m6{l:List Int}{o j:Nat}{x:Int}:(l.set o x).getD j 0=if o=j∧o<l.length then x else l.getD j 0:=by
 rw [List.getD_eq_getElem?_getD,List.getD_eq_getElem?_getD,List.getElem?_set];by_cases h:o=j
 ·subst h;by_cases h2:o<l.length
  ·rw [ak J,ak h2,ak ⟨J,h2⟩];rfl
  ·rw [ak J,ac h2,ac (fun e=>h2 e.2),List.getElem?_eq_none (by omega)]
 ·rw [ac h,ac (fun e=>h e.1)]
theorem yB{D:List (List Int)}{i:Nat}{l:List Int}{b:Int}(hi:i<D.length):w3 (D.set i l) b=if(b/256).toNat=i then l.getD (b%256).toNat 0 else w3 D b:=by
 unfold w3;rw [List.length_set];by_cases h:(b/256).toNat=i
 ·rw [ak h,h,ak hi,gK hi]
 ·rw [ac h,gJ (fun e=>h e.symm)]
theorem B1{D:List (List Int)}(h8:Pg8 D){a x b:Int}(ha:0≤a)(hb:0≤b):w3 (iC D a x) b=if a=b∧(a/256).toNat<D.length then x else w3 D b:=by
 by_cases hi:(a/256).toNat<D.length
 ·have hd:=(h8.at hi).1;unfold iC;rw [yB hi,m6,hd];by_cases e:a=b
  ·subst e;rw [ak J,ak ⟨J,by omega⟩,ak ⟨J,hi⟩]
  ·rw [ac (show ¬(a=b∧(a/256).toNat<D.length)from fun q=>e q.1)];by_cases h:(b/256).toNat=(a/256).toNat
   ·rw [ak h,ac (fun q=>e (by have:=q.1;omega))];unfold w3;rw [h,ak hi]
   ·rw [ac h]
 ·rw [mD hi,ac (fun q=>hi q.2)]
theorem C_(D:List (List Int))(a x:Int):(iC D a x).length=D.length:=by unfold iC;rw [List.length_set]
theorem Iz{D:List (List Int)}(h8:Pg8 D){a x:Int}(hx:0≤x∧x<256):Pg8 (iC D a x):=by
 by_cases hi:(a/256).toNat<D.length
 ·have hd:=h8.at hi;unfold iC;refine h8.set (by rw [List.length_set];exact hd.1) fun y hy=> ?_
  rcases List.mem_or_eq_of_mem_set hy with hy|rfl
  ·exact hd.2 y hy
  ·exact hx
 ·rw [mD hi];exact h8
structure Flt(D:List (List Int))(d:List Int):Prop where
 l:d.length=D.length*256
 g:Pg8 D
 b:∀b:Int,0≤b→w3 D b=d.getD b.toNat 0
theorem Flt.set{D:List (List Int)}{d:List Int}(h:Flt D d){a:Nat}{x:Int}(hx:0≤x∧x<256):Flt (iC D (a:Int) x) (d.set a x):=by
 refine⟨by rw [List.length_set,C_];exact h.l,Iz h.g hx,fun b hb=> ?_⟩;have hl:=h.l;rw [B1 h.g (by omega) hb,m6];by_cases e:(a:Int)=b∧((a:Int)/256).toNat<D.length
 ·rw [ak e,ak ⟨by omega,by omega⟩]
 ·rw [ac e,ac (fun q=>e ⟨by omega,by omega⟩)];exact h.b b hb
theorem Flt.poke:∀{l:List Int}{D:List (List Int)}{d:List Int}{a:Nat},Flt D d→(∀x∈l,0≤x∧x<256)→Flt (oF D (a:Int) l) (pk d a l)
 | [],D,d,a,h,_=>h
 | x::l,D,d,a,h,hl=>by
  unfold oF Go.Proofs.YtedmdgbmdplifaaGreat.pk;exact Flt.poke (a:=a+1) (h.set (hl x (List.mem_cons_self ..))) fun y hy=>hl y (List.mem_cons_of_mem _ hy)
theorem nA:∀(l d:List Int)(a j:Nat),a+l.length≤d.length→(pk d a l).getD j 0=if a≤j∧j<a+l.length then l.getD (j-a) 0 else d.getD j 0
 | [],d,a,j,_=>by
  rw [ac (fun q=>by have:=q.2;simp at this;omega)];rfl
 | x::l,d,a,j,h=>by
  unfold pk;have hl:(x::l).length=l.length+1:=J;rw [nA l (d.set a x) (a+1) j (by rw [List.length_set];omega),m6];by_cases e:a=j
  ·subst e;rw [ac (fun q=>by omega),ak ⟨J,by omega⟩,ak ⟨bM _,by omega⟩,Nat.sub_self];rfl
  ·rw [ac (show ¬(a=j∧a<d.length)from fun q=>e q.1)];by_cases q:a+1≤j∧j<a+1+l.length
   ·rw [ak q,ak ⟨by omega,by omega⟩,show j-a=(j-(a+1))+1 by omega];rfl
   ·rw [ac q,ac (fun q2=>q ⟨by omega,by omega⟩)]
theorem Dc{t:Ba}{l:List Int}{o:Nat}(ho:o<l.length):(xE t l).getD o 0=if o<t.size then(aH t).getD o 0 else l.getD o 0:=by
 have hb:=dc t;unfold xE;rw [List.getD_eq_getElem?_getD,List.getElem?_append,List.length_take,hb];by_cases h:o<t.size
 ·rw [ak (by omega),ak h,List.getElem?_take,ak ho,List.getD_eq_getElem?_getD]
 ·rw [ac (by omega),ac h,List.getElem?_drop,List.getD_eq_getElem?_getD]
  congr 2
  omega
theorem Flt.code{C:List (List Int)}{i:List Int}(h:Flt C i){p:Nat}(hp:p<C.length)(t:Ba):Flt (kS C p t) (pk i (256*p) ((aH t).take 256)):=by
 have hb:=dc t;have hl:=h.l;have hd:=h.g.at hp;have hk:((aH t).take 256).length=min 256 t.size:=by rw [List.length_take,hb]
 refine⟨by unfold kS;rw [da,List.length_set];exact hl,by unfold kS;exact h.g.set (by rw [jw];exact hd.1) (xD hd.2),fun b hb0=> ?_⟩;rw [nA _ _ _ _ (by rw [hk];omega),hk];unfold kS;rw [yB hp];by_cases e:(b/256).toNat=p
 ·rw [ak e,Dc (by rw [hd.1];omega)];have hbd:=h.b b hb0;unfold w3 at hbd;rw [e,ak hp]at hbd;by_cases q:(b%256).toNat<t.size
  ·rw [ak q,ak ⟨by omega,by omega⟩,List.getD_eq_getElem?_getD,List.getD_eq_getElem?_getD,List.getElem?_take,ak (by omega)]
   congr 2
   omega
  ·rw [ac q,ac (fun q2=>q (by omega))];exact hbd
 ·rw [ac e,ac (fun q2=>e (by omega))];exact h.b b hb0
theorem sw(e:Me)(s:Mm)(n:Nat)(hs:MO s n)(p:Nat)(hp:p≤65536):
  aN prog 40 [Pt e.m,I6 (p:Int)] [aO e.m 157 (mR e),own 5 1 bJ (sv e.vd) s.d,own 5 1 bJ (sv e.vi) s.i,own 3 1 eI (sv e.vr) s.r] [] (I6 (s.r.getD p 0)) [aO e.m 157 (mR e),own 5 1 bJ (sv e.vd) s.d,own 5 1 bJ (sv e.vi) s.i,own 3 1 eI (sv e.vr) s.r]:=by
 refine ay func40 J ntmps40 J fun w0 M H=> ?_
 have hrl:=hs.r;have hnn:=hs.n;refine am (ao J (aa (aR (ab J (ap J J cG (ab J (eH (t:=7) J (fun h1=>False.elim (by revert h1;simp)) (fun h1=>bi J J (ab J (bi J J (ab J (bi J J (bq J (bi J J (aA kB J (bi J J ?_))))))))))))))));refine aL 0 Bc J J J J (bi J J (aJ (aZ underlying22 J (bp (k:=3) J)) (bi J J (ap J J fp (aJ (bD J J J) (aa (ai J (fun h2=> ?_) (fun h2=> ?_))))))))
 ·(try simp only [aX]at h2);have hq:¬p<s.r.length:=by first|omega|(simp at h2;omega)
  have hg:s.r.getD p 0=0:=by rw [List.getD_eq_getElem?_getD,List.getElem?_eq_none (by omega)];rfl
  refine am (ao J (aa (ar ?_)));rw [hg];refine aG () O J (bU (aD J)) J [0,1,2,3] [] J J J
 ·(try simp only [aX]at h2);have hq:p<s.r.length:=by first|omega|(simp at h2;omega)
  obtain⟨y,hy⟩:∃y,s.r[p]?=some y:=⟨_,bO hq⟩
  have hg:s.r.getD p 0=y:=by rw [List.getD_eq_getElem?_getD,hy];rfl
  refine az (am (ab J (bq J (aA kB J (aL 0 Bc J J J J (ab J (aJ (aQ (j:=p) underlying22 t3 J J (bp (k:=3) J) J (by omega)) (aJ (ag t3 J J (ci (bp (k:=3) J) (by intro _;rfl) hy (by rfl))) (ao J (aa (ar ?_)))))))))));rw [hg];refine aG () O J (bU (aD J)) J [0,1,2,3] [] J J J
theorem CV{l m:List Int}(hl:l.length=m.length)(h:∀j,l.getD j 0=m.getD j 0):l=m:=by
 apply List.ext_getElem hl;intro j h1 h2;have:=h j;rw [List.getD_eq_getElem?_getD,List.getD_eq_getElem?_getD,bO h1,bO h2]at this;exact this
def fL(l:List Int)(code:Ba):Nat→List Int
 | 0=>l
 | p+1=>pk (fL l code p) (256*p) (sV code p)
theorem tA(l:List Int)(code:Ba):∀p,(fL l code p).length=l.length
 | 0=>rfl
 | p+1=>by unfold fL;rw [da,tA l code p]
theorem CU{l:List Int}{code:Ba}(h:16384≤l.length)(j:Nat):∀p,p≤64→(fL l code p).getD j 0=if j<256*p then(sV code (j/256)).getD (j%256) 0 else l.getD j 0
 | 0,_=>by rw [ac (by omega)];rfl
 | p+1,hp=>by
  unfold fL;rw [nA _ _ _ _ (by rw [oi,tA];omega),oi,CU h j p (by omega)];by_cases q:j<256*p
  ·rw [ac (by omega),ak q,ak (by omega)]
  ·by_cases q2:j<256*(p+1)
   ·rw [ak (by omega),ak q2,show j/256=p by omega,show j%256=j-256*p by omega]
   ·rw [ac (by omega),ac q,ac q2]
theorem oH(o:Nat):zer.getD o 0=0:=by
 rw [ji,List.getD_eq_getElem?_getD,List.getElem?_replicate];split<;>rfl
theorem BK{code:Ba}{p o:Nat}(ho:o<256):(sV code p).getD o 0=if 1≤p∧(p-1)*256+o<code.size then(aH code).getD ((p-1)*256+o) 0 else 0:=by
 unfold sV;by_cases h:1≤p∧(p-1)*256<code.size
 ·rw [ak h,Dc (by rw [fq];exact ho),oH];have hsz:(code.extract ((p-1)*256) code.size).size=code.size-(p-1)*256:=by simp
  rw [hsz];by_cases q:o<code.size-(p-1)*256
  ·rw [ak q,ak ⟨h.1,by omega⟩];unfold aH;rw [List.getD_eq_getElem?_getD,List.getD_eq_getElem?_getD,List.getElem?_map,List.getElem?_map]
   congr 2
   rw [show(code.extract ((p-1)*256) code.size).data.toList=(code.data.toList.drop ((p-1)*256)).take (code.size-(p-1)*256)from by simp [ByteArray.data_extract],List.getElem?_take,ak (by omega),List.getElem?_drop]
  ·rw [ac q,ac (fun e=>q (by omega))]
 ·rw [ac h,oH,ac (fun e=>h ⟨e.1,by omega⟩)]
theorem B_(s:Mm):∀p,(fc s p).r=Ji s.r p
 | 0=>rfl
 | p+1=>by unfold fc Ji;rw [B_ s p]
theorem w9{s:Mm}(h:16384≤s.d.length)(h2:16384≤s.i.length)(j:Nat):∀p,p≤64→((fc s p).d.length=s.d.length∧(fc s p).i.length=s.i.length)∧((fc s p).d.getD j 0=if j<256*p then 0 else s.d.getD j 0)∧((fc s p).i.getD j 0=if j<256*p then 0 else s.i.getD j 0)
 | 0,_=>by rw [ac (by omega),ac (by omega)];exact⟨⟨rfl,rfl⟩,rfl,rfl⟩
 | p+1,hp=>by
  obtain⟨⟨e1,e2⟩,e3,e4⟩:=w9 h h2 j p (by omega);unfold fc;refine⟨⟨by rw [da,e1],by rw [da,e2]⟩,?_,?_⟩
  ·rw [nA _ _ _ _ (by rw [fq,e1];omega),fq,oH,e3];by_cases q:j<256*p
   ·rw [ac (by omega),ak q,ak (by omega)]
   ·by_cases q2:j<256*(p+1)
    ·rw [ak (by omega),ak q2]
    ·rw [ac (by omega),ac q,ac q2]
  ·rw [nA _ _ _ _ (by rw [fq,e2];omega),fq,oH,e4];by_cases q:j<256*p
   ·rw [ac (by omega),ak q,ak (by omega)]
   ·by_cases q2:j<256*(p+1)
    ·rw [ak (by omega),ak q2]
    ·rw [ac (by omega),ac q,ac q2]
theorem Cc{s:Mm}(h:16384≤s.d.length)(h2:s.i.length=s.d.length)(j:Nat):∀p,p≤31→(mL s p).i.length=s.i.length∧(mL s p).i.getD j 0=if 256≤j∧j<256*(p+1)then s.d.getD j 0 else s.i.getD j 0
 | 0,_=>by rw [ac (by omega)];exact⟨rfl,rfl⟩
 | p+1,hp=>by
  obtain⟨e1,e2⟩:=Cc h h2 j p (by omega);unfold mL;have hk:(((mL s p).d.drop ((p+1)*256)).take 256).length=256:=by rw [pG,List.length_take,List.length_drop];omega
  refine⟨by rw [da,e1],?_⟩;rw [nA _ _ _ _ (by rw [hk,e1];omega),hk,e2,pG];by_cases q:256≤j∧j<256*(p+1)
  ·rw [ac (by omega),ak q,ak (by omega)]
  ·by_cases q2:256≤j∧j<256*(p+1+1)
   ·rw [ak (by omega),ak q2,List.getD_eq_getElem?_getD,List.getD_eq_getElem?_getD,List.getElem?_take,ak (by omega),List.getElem?_drop]
    congr 2
    omega
   ·rw [ac (by omega),ac q,ac q2]
theorem Np{s:Mm}{n:Nat}(hs:MO s n)(hn:64≤n){code:Ba}(hc:code.size≤7936):fL s.d code 64=(w_ s (aH code)).d:=by
 have hb:=dc code;have hd:=hs.d;have hi:=hs.i;unfold w_;rw [pG];have hZ:=fun j=>w9 (s:=s) (by omega) (by omega) j 64 (bM _)
 refine CV (by rw [tA,da,(hZ 0).1.1]) fun j=> ?_
 rw [CU (by omega) j 64 (bM _),nA _ _ _ _ (by rw [(hZ 0).1.1];omega),(hZ j).2.1,hb];by_cases q:j<256*64
 ·rw [ak q,ak q,BK (by omega)];by_cases q2:256≤j∧j<256+code.size
  ·rw [ak q2,ak ⟨by omega,by omega⟩,show(j/256-1)*256+j%256=j-256 by omega]
  ·rw [ac q2,ac (fun e=>q2 ⟨by omega,by omega⟩)]
 ·rw [ac q,ac q,ac (by omega)]
theorem No{s:Mm}{n:Nat}(hs:MO s n)(hn:64≤n){code:Ba}(hc:code.size≤7936):fL s.i code 64=(w_ s (aH code)).i:=by
 have hb:=dc code;have hd:=hs.d;have hi:=hs.i;have hZ:=fun j=>w9 (s:=s) (by omega) (by omega) j 64 (bM _)
 have hdl:(pk (fc s 64).d 256 (aH code)).length=s.d.length:=by rw [da,(hZ 0).1.1]
 have hY:=fun j=>Cc (s:={fc s 64 with d:=pk (fc s 64).d 256 (aH code)}) (by show 16384≤(pk (fc s 64).d 256 (aH code)).length;omega) (by show(fc s 64).i.length=(pk (fc s 64).d 256 (aH code)).length;rw [(hZ 0).1.2];omega) j 31 (bM _)
 refine CV (by rw [tA];show _=(mL _ 31).i.length;rw [(hY 0).1];exact(hZ 0).1.2.symm) fun j=> ?_
 rw [CU (by omega) j 64 (bM _)];show _=(mL _ 31).i.getD j 0;rw [(hY j).2];show _=if 256≤j∧j<256*(31+1)then(pk (fc s 64).d 256 (aH code)).getD j 0 else(fc s 64).i.getD j 0
 rw [nA _ _ _ _ (by rw [(hZ 0).1.1];omega),(hZ j).2.1,(hZ j).2.2,hb];by_cases q:j<256*64
 ·rw [ak q,ak q,ak q,BK (by omega)];by_cases q2:256≤j∧j<256+code.size
  ·rw [ak q2,ak ⟨by omega,by omega⟩,ak ⟨by omega,by omega⟩,show(j/256-1)*256+j%256=j-256 by omega]
  ·rw [ac q2,ac (fun e=>q2 ⟨by omega,by omega⟩)];split<;>rfl
 ·rw [ac q,ac q,ac q,ac (by omega)]
theorem Flt.ldD{D:List (List Int)}{d:List Int}{code:Ba}(h:Flt D d):∀p,Flt (ldD D code p) (fL d code p)
 | 0=>h
 | p+1=>(Flt.ldD h p).poke (BL code p)
theorem yE(C:List (List Int))(code:Ba):∀p,(ldC C code p).length=C.length
 | 0=>rfl
 | p+1=>by unfold ldC kS;rw [List.length_set,yE C code p]
theorem Flt.ldC{C:List (List Int)}{i:List Int}{code:Ba}(h:Flt C i)(h64:64≤C.length):∀p,p≤64→Flt (ldC C code p) (fL i code p)
 | 0,_=>h
 | p+1,hp=>by
  have:=(Flt.ldC h h64 p (by omega)).code (p:=p) (by rw [yE C code p];omega) (jm (sV code p));rw [GL,List.take_of_length_le (Nat.le_of_eq (oi code p))]at this;exact this
theorem Nq(w:World):(Op.equalIn 10000 78 (.agg (sS 256 0 0 0 0).toArray) (.agg (sS 256 0 0 0 0).toArray)).run prog w= .ok true w:=by
 have hs:(prog.keyLits 5 78 (sS 256 0 0 0 0)).isSome=true:=by kernel_rfl
 obtain⟨L,hL⟩:=Option.isSome_iff_exists.1 hs;obtain⟨r,h1,h2⟩:=run_equalIn_deep (P:=prog) 9997 3 78 (by kernel_rfl) w 5 5 (.agg (sS 256 0 0 0 0).toArray) (.agg (sS 256 0 0 0 0).toArray) L L (by kernel_rfl) (by kernel_rfl) hL hL;rw [h2.2 J]at h1;exact h1
theorem IR:cW prog .neq 78 (.agg (sS 256 0 0 0 0).toArray) (.agg (sS 256 0 0 0 0).toArray) (.bool false):=fun x y w=>by
 have hg:prog.eqGuardType prog.depth 78=false:=by kernel_rfl
 have h:=Nq w;have h2:(binOp .neq 78 (.agg (sS 256 0 0 0 0).toArray) (.agg (sS 256 0 0 0 0).toArray)).run prog w= .ok (.bool false) w:=by
  rw [run_neq_struct,h];rfl
 simp [Sem.run_bind,eqGuard,hg,h2]
structure Tie(L:List Sl0)(D C:List (List Int))(s:Mm)(n:Nat):Prop where
 ok:PgOk L D C
 len:L.length=n
 d:Flt D s.d
 i:Flt C s.i
 r:L.map (·.r)=s.r
 m:MO s n
theorem Tie.new(n z:Nat)(hn:n≤4096):Tie (List.replicate n (s0 z)) (List.replicate n zer) (List.replicate n zer) ⟨List.replicate (256*n) 0,List.replicate (256*n) 0,List.replicate n 0⟩ n:=by
 have h8:Pg8 (List.replicate n zer):=(BV n z).d8;have hf:Flt (List.replicate n zer) (List.replicate (256*n) 0):=by
  refine⟨by rw [List.length_replicate,List.length_replicate];omega,h8,fun b hb=> ?_⟩;have e1:(List.replicate (256*n) (0:Int)).getD b.toNat 0=0:=by
   rw [List.getD_eq_getElem?_getD,List.getElem?_replicate];split<;>rfl
  rw [e1];unfold w3;rw [List.length_replicate];split
  ·rename_i h;have e:(List.replicate n zer).getD (b/256).toNat []=zer:=by
    rw [List.getD_eq_getElem?_getD,List.getElem?_replicate,ak h];rfl
   rw [e];exact oH _
  ·rfl
 refine⟨BV n z,by simp,hf,hf,by rw [List.map_replicate];rfl,⟨by simp;omega,by simp;omega,by simp,by omega,fun x hx=> ?_⟩⟩;rw [List.eq_of_mem_replicate hx];decide
theorem Tie.poke{L L':List Sl0}{D C:List (List Int)}{s:Mm}{n a:Nat}{t:Ba}(h:Tie L D C s n)(hk:KpR L L')(hp:PgOk L' (oF D (a:Int) (aH t)) C):Tie L' (oF D (a:Int) (aH t)) C {s with d:=pk s.d a (aH t)} n:=
 ⟨hp,hk.len.trans h.len,h.d.poke (fun x hx=>by obtain⟨b,-,rfl⟩:=List.mem_map.1 hx;exact⟨by omega,by have:=b.toNat_lt;omega⟩),h.i,Eq.trans hk h.r,h.m.dd (da _ _ _)⟩
theorem Tie.code{L L':List Sl0}{D C:List (List Int)}{s:Mm}{n p:Nat}{t:Ba}(h:Tie L D C s n)(hn:p<n)(hk:KpR L L')(hp:PgOk L' D (kS C p t)):Tie L' D (kS C p t) {s with i:=pk s.i (256*p) ((aH t).take 256)} n:=
 ⟨hp,hk.len.trans h.len,h.d,h.i.code (by rw [h.ok.cl,h.len];exact hn) t,Eq.trans hk h.r,h.m.ii (da _ _ _)⟩
theorem Tie.prot{L:List Sl0}{D C:List (List Int)}{s:Mm}{n p:Nat}{z q:Int}(h:Tie L D C s n)(hz:bits .and .i64 z 7=q)(hq:0≤q∧q<8):Tie (uo L p (bits .and .i64 z 7)) D C {s with r:=s.r.set p q} n:=
 ⟨h.ok.rights _ _,by rw [Eu];exact h.len,h.d,h.i,by rw [BG,h.r,hz],⟨h.m.d,h.m.i,by show(s.r.set p q).length=n;rw [List.length_set];exact h.m.r,h.m.n,Bq h.m.rb hq⟩⟩
theorem Ca(s:Mm):∀p,(mL s p).r=s.r
 | 0=>rfl
 | p+1=>Ca s p
theorem HQ(s:Mm)(code:List Int):(w_ s code).r=(fc s 64).r:=by
 unfold w_;rw [Ca]
theorem Tie.load{L L':List Sl0}{D C:List (List Int)}{s:Mm}{n:Nat}{code:Ba}(h:Tie L D C s n)(hn:64≤n)(hc:code.size≤7936)(hl:LdI L D C code 64 L')(hm:MO (w_ s (aH code)) n):Tie L' (ldD D code 64) (ldC C code 64) (w_ s (aH code)) n:=by
 refine⟨hl.ok,hl.len.trans h.len,?_,?_,?_,hm⟩
 ·rw [←Np h.m hn hc];exact h.d.ldD 64
 ·rw [←No h.m hn hc];exact h.i.ldC (by rw [h.ok.cl,h.len];exact hn) 64 (bM _)
 ·rw [hl.r,h.r,HQ,B_]
theorem uf{A B:Asn}{vs:SV}{L:List Sl0}:∀(i:Nat)(X:Asn),([A,sl 7 jd (sv vs) L,B]:List Asn)[i]?=some X→∃Y,([A,own 148 7 jd (sv vs) L,B]:List Asn)[i]?=some Y∧∀w G,Y.pred w G→X.pred w G
 | 0,X,hX=>⟨A,rfl,by cases hX;exact fun _ _ h=>h⟩
 | 1,X,hX=>⟨_,rfl,by cases hX;exact bI⟩
 | 2,X,hX=>⟨B,rfl,by cases hX;exact fun _ _ h=>h⟩
 | i+3,X,hX=>by simp at hX
theorem pJ(x:Int){m:Int}(hm:0<m):∃n:Nat,Al x m=(n:Int)∧(n:Int)<m:=by
 obtain⟨h1,h2⟩:=EW (x:=x) hm;exact⟨(Al x m).toNat,by omega,by omega⟩
end Go.Proofs.YtedmdgbmdplifaaGreat
