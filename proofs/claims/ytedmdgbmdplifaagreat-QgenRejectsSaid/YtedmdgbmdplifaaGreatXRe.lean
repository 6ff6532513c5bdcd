/-
  A part of the proof. Conditions are with the theorems.
-/
import Derived.Test.YtedmdgbmdplifaaGreatXRa
import Derived.Test.YtedmdgbmdplifaaGreatXRb
import Derived.Test.YtedmdgbmdplifaaGreatXRc
import Derived.Test.YtedmdgbmdplifaaGreatXRd
set_option maxHeartbeats 32000000
set_option maxRecDepth 100000
set_option linter.unusedSimpArgs false
set_option linter.unusedVariables false
namespace Go.Proofs.YtedmdgbmdplifaaGreat
open Go.RowKit Tryz
def eQ(p:SV×List Ba):List Value:= [sv p.1]
def Hs(v:SV)(l:List (SV×List Ba)):Asn:=⟨fun w F=>SlIn' w F 1 eQ (sv v) l∧∀p∈l,SlIn' w F 1 eS (sv p.1) p.2,fun h hs=>⟨h.1.stable hs,fun p hp=>(h.2 p hp).stable hs⟩⟩
theorem JX{v:SV}{l:List (SV×List Ba)}:∀w G,(Hs v l).pred w G→(∀b,G b→b<w.heap.size)→∃G',(sl 1 eQ (sv v) l).pred w G'∧∀b,G' b→G b:=fun w G h _=>h.1
theorem JY{v:SV}{l:List (SV×List Ba)}{p:SV×List Ba}(hp:p∈l):∀w G,(Hs v l).pred w G→(∀b,G b→b<w.heap.size)→∃G',(sl 1 eS (sv p.1) p.2).pred w G'∧∀b,G' b→G b:=fun w G h _=>h.2 p hp
abbrev IQ(a b c d e f g h:SV):List (SV×List Ba):= [(a,[iQ]),(b,[ey]),(c,[eq]),(d,[lO,lL]),(e,[kN,lM,lN,mU]),(f,[fK,fW]),(g,[e_,ef]),(h,[fL,jx,kM])]
theorem Hr{v a b c d e f g h:SV}(w:World)(F:Nat→Prop)(hh:AllIn w F [own 9 1 eS (sv a) [iQ],own 9 1 eS (sv b) [ey],own 9 1 eS (sv c) [eq],own 9 1 eS (sv d) [lO,lL],own 9 1 eS (sv e) [kN,lM,lN,mU],own 9 1 eS (sv f) [fK,fW],own 9 1 eS (sv g) [e_,ef],own 9 1 eS (sv h) [fL,jx,kM],own 46 1 eQ (sv v) (IQ a b c d e f g h)]):(Hs v (IQ a b c d e f g h)).pred w F:=by
 obtain⟨⟨_,a1,b1⟩,⟨_,a2,b2⟩,⟨_,a3,b3⟩,⟨_,a4,b4⟩,⟨_,a5,b5⟩,⟨_,a6,b6⟩,⟨_,a7,b7⟩,⟨_,a8,b8⟩,⟨_,a9,b9⟩,_⟩:=hh;refine⟨eF a9 b9,fun p hp=> ?_⟩;simp only [IQ,List.mem_cons,List.not_mem_nil,or_false]at hp;rcases hp with rfl|rfl|rfl|rfl|rfl|rfl|rfl|rfl
 ·exact eF a1 b1
 ·exact eF a2 b2
 ·exact eF a3 b3
 ·exact eF a4 b4
 ·exact eF a5 b5
 ·exact eF a6 b6
 ·exact eF a7 b7
 ·exact eF a8 b8
theorem s6:
  Spec prog 21 [] [] [] (X:=SV×List (SV×List Ba)) (fun x=>x.2.map (fun p=>p.2)=rlv) (fun x=>sv x.1) (fun x=> [Hs x.1 x.2]) (fun _=> []):=by
 refine au func21 J ntmps21 J fun w0 M H=>ak (am J (av J (bD eS iQ underlying46 t9 J (by decide) (by decide) J J J J fun v1=>bD eS ey underlying46 t9 J (by decide) (by decide) J J J J fun v2=>bD eS eq underlying46 t9 J (by decide) (by decide) J J J J fun v3=>dB eS [lO,lL] (parts:= [(0,.const (Sg (ByteArray.mk #[61,61]))),(1,.const (Sg (ByteArray.mk #[33,61])))]) underlying46 t9 J (by decide) (by intro _;rfl) J (by decide) (by decide) J J J J fun v4=>dB eS [kN,lM,lN,mU] (parts:= [(0,.const (Sg (ByteArray.mk #[60]))),(1,.const (Sg (ByteArray.mk #[60,61]))),(2,.const (Sg (ByteArray.mk #[62]))),(3,.const (Sg (ByteArray.mk #[62,61])))]) underlying46 t9 J (by decide) (by intro _;rfl) J (by decide) (by decide) J J J J fun v5=>dB eS [fK,fW] (parts:= [(0,.const (Sg (ByteArray.mk #[60,60]))),(1,.const (Sg (ByteArray.mk #[62,62])))]) underlying46 t9 J (by decide) (by intro _;rfl) J (by decide) (by decide) J J J J fun v6=>dB eS [e_,ef] (parts:= [(0,.const (Sg (ByteArray.mk #[43]))),(1,.const (Sg (ByteArray.mk #[45])))]) underlying46 t9 J (by decide) (by intro _;rfl) J (by decide) (by decide) J J J J fun v7=>dB eS [fL,jx,kM] (parts:= [(0,.const (Sg (ByteArray.mk #[42]))),(1,.const (Sg (ByteArray.mk #[47]))),(2,.const (Sg (ByteArray.mk #[37])))]) underlying46 t9 J (by decide) (by intro _;rfl) J (by decide) (by decide) J J J J fun v8=>dB eQ (IQ v1 v2 v3 v4 v5 v6 v7 v8) (parts:= [(0,.tmp 1),(1,.tmp 2),(2,.tmp 3),(3,.tmp 4),(4,.tmp 5),(5,.tmp 6),(6,.tmp 7),(7,.tmp 8)]) underlying44 oD J (by decide) (by intro _;rfl) J (by decide) (by decide) J J J J fun v9=>am J (aa (ar (bH 60 [1,2,3,4,5,6,7,8,9] (C:=Hs v9 (IQ v1 v2 v3 v4 v5 v6 v7 v8)) J Hr ?_))))))
 refine aG (v9,IQ v1 v2 v3 v4 v5 v6 v7 v8) J J (bR (aD J)) J [60] [] J J J
section
end
theorem Da{nm:Ba}(h:iZ nm=true)(a b:Int):(Ir nm a b).isSome=true:=by
 unfold iZ at h;obtain⟨p,hp⟩:=Option.isSome_iff_exists.1 h;have h1:=List.mem_of_find?_eq_some hp;have h2:=List.find?_some hp;have h2:p.1=nm:=by simpa using h2
 subst h2;simp only [lvL,List.mem_cons,List.not_mem_nil,or_false]at h1;rcases h1 with rfl|rfl|rfl|rfl|rfl|rfl|rfl|rfl|rfl|rfl|rfl|rfl|rfl|rfl|rfl|rfl<;>rfl
theorem DF{nm:Ba}(h:cU nm AB=true)(a:Int):(IH nm a).isSome=true:=by
 unfold cU at h;obtain⟨p,h1,h2⟩:=List.any_eq_true.1 h;have h2:nm=p:=by simpa using h2
 subst h2;simp only [AB,List.mem_cons,List.not_mem_nil,or_false]at h1;rcases h1 with rfl|rfl|rfl<;>rfl
theorem rm{k:Int}{nm:Ba}{n:Nat}(h:rq k nm n=true):(k=1∧n=0)∨(k=5∧n=0)∨(k=2∧n=0)∨k=3∨(k=4∧n=1)∨(k=6∧cU nm AB=true∧n=1)∨(k=7∧iZ nm=true∧n=2):=by
 unfold rq at h;split at h
 ·rename_i hk;simp only [Bool.and_eq_true,decide_eq_true_eq]at h;rcases hk with hk|hk
  ·exact .inl ⟨hk,h.2⟩
  ·exact .inr (.inl ⟨hk,h.2⟩)
 ·split at h
  ·rename_i hk;simp only [Bool.and_eq_true,decide_eq_true_eq]at h;exact .inr (.inr (.inl ⟨hk,h.2⟩))
  ·split at h
   ·rename_i hk;exact .inr (.inr (.inr (.inl hk)))
   ·split at h
    ·rename_i hk;simp only [Bool.and_eq_true,decide_eq_true_eq]at h;exact .inr (.inr (.inr (.inr (.inl ⟨hk,h.2⟩))))
    ·split at h
     ·rename_i hk;simp only [Bool.and_eq_true,decide_eq_true_eq]at h;exact .inr (.inr (.inr (.inr (.inr (.inl ⟨hk,h.1,h.2⟩)))))
     ·split at h
      ·rename_i hk;simp only [Bool.and_eq_true,decide_eq_true_eq]at h;exact .inr (.inr (.inr (.inr (.inr (.inr ⟨hk,h.1,h.2⟩)))))
      ·cases h
theorem Av{fs:List Tf}{ns:List Ba}{t:Tx}(h:nE fs ns t=0)(hk:t.kind=3):∃f,cK fs t.name=some f∧f.ps.length=t.kids.length:=by
 cases hf:cK fs t.name with
 | none=>rw [yi hk hf]at h;cases h
 | some f=>
  rw [sV hk hf]at h;refine⟨f,J,?_⟩;split at h
  ·assumption
  ·cases h
mutual
theorem Ft{fs:List Tf}{ns:List Ba}:∀t:Tx,GX t→rX t=true→eX fs ns t=0→VX fs t
 | .mk k n nm v kids,hg,hr,he=>by
  have hr2:(rq k nm kids.length&&(decide (k=1) || decide (n=0))&&nW kids)=true:=hr;simp only [Bool.and_eq_true]at hr2;obtain⟨⟨h1,_⟩,h3⟩:=hr2;have he2:=FZ fs ns (.mk k n nm v kids);rw [he]at he2;obtain⟨e1,e2⟩:=be.1 he2.symm;have hc:=rm h1;refine⟨hg.1,hg.2.2.1,fun hk=>by omega,fun hk=> ?_,fun hk=> ?_,fun k1 k2 k4 k5 k6 k7=> ?_,vN kids hg.2.2.2 h3 e2⟩
  ·have:cU nm AB=true∧kids.length=1:=by
    rcases hc with hc|hc|hc|hc|hc|⟨_,hc,hn⟩|hc
    ·omega
    ·omega
    ·omega
    ·omega
    ·omega
    ·exact⟨hc,hn⟩
    ·omega
   exact⟨by omega,DF this.1⟩
  ·have:iZ nm=true∧kids.length=2:=by
    rcases hc with hc|hc|hc|hc|hc|hc|⟨_,hc,hn⟩
    ·omega
    ·omega
    ·omega
    ·omega
    ·omega
    ·omega
    ·exact⟨hc,hn⟩
   exact⟨by omega,Da this.1⟩
  ·have hk:k=3:=by omega
   obtain⟨f,hf1,hf2⟩:=Av e1 hk;exact⟨f,hf1,by rw [hf2];exact bU _⟩
theorem vN{fs:List Tf}{ns:List Ba}:∀l:List Tx,GXs l→nW l=true→ju fs ns l=0→Iz fs l
 | [],_,_,_=>trivial
 | t::r,hg,hr,he=>by
  have hr2:(rX t&&nW r)=true:=hr;rw [Bool.and_eq_true]at hr2;obtain⟨e1,e2⟩:=be.1 he;exact⟨Ft t hg.1 hr2.1 e1,vN r hg.2 hr2.2 e2⟩
end
theorem wv{k:Int}{nm:Ba}{ne nb nl:Nat}(h:FE k nm ne nb nl=true):1≤k∧k≤8∧ne=(if k=3 then 2 else 1)∧(k=4∨k=5∨nb=0)∧(k=4∨nl=0):=by
 unfold FE at h;simp only [Bool.and_eq_true,Bool.or_eq_true,decide_eq_true_eq]at h;obtain⟨⟨⟨⟨⟨h1,h2⟩,h3⟩,h4⟩,h5⟩,h6⟩:=h;exact⟨h1,h2,h3,by rcases h5 with(h|h)|h;exact .inl h;exact .inr (.inl h);exact .inr (.inr h),h6⟩
mutual
theorem I_{fs:List Tf}:∀(ns:List Ba)(t:Ty),GY t→rY t=true→(bY fs ns t).2=0→VY fs t
 | ns,.mk k nm ve es vb body vl els,hg,hr,he=>by
  have hr2:(FE k nm es.length body.length els.length&&nW es&&kU body&&kU els)=true:=hr;simp only [Bool.and_eq_true]at hr2;obtain⟨⟨⟨h1,h2⟩,h3⟩,h4⟩:=hr2;have hk:=wv h1;rw [Gq]at he;obtain⟨e1,he⟩:=be.1 he;obtain⟨e2,he⟩:=be.1 he;obtain⟨e3,he⟩:=be.1 he;obtain⟨e4,e5⟩:=be.1 he;have hes:es.length=if k=3 then 2 else 1:=hk.2.2.1
  exact⟨⟨by rw [hes];split<;>omega,hg.2.1.1,fun h3=>by rw [hes,ao h3];exact bU _,vN es hg.2.1.2 h2 e2⟩,⟨hg.2.2.1.1,r9 _ body hg.2.2.1.2 h3 e4⟩,hg.2.2.2.1,r9 _ els hg.2.2.2.2 h4 e5⟩
theorem r9{fs:List Tf}:∀(ns:List Ba)(l:List Ty),GYs l→kU l=true→(dx fs ns l).2=0→Gr fs l
 | _,[],_,_,_=>trivial
 | ns,t::r,hg,hr,he=>by
  have hr2:(rY t&&kU r)=true:=hr;rw [Bool.and_eq_true]at hr2;obtain⟨e1,e2⟩:=be.1 he;exact⟨I_ ns t hg.1 hr2.1 e1,r9 _ r hg.2 hr2.2 e2⟩
end
theorem rU{fs:List Tf}:∀{l:List Tf},gh fs l=0→∀f∈l,lD fs f=0
 | [],_,f,hf=>by simp at hf
 | g::r,h,f,hf=>by
  obtain⟨h1,h2⟩:=be.1 h;rcases List.mem_cons.1 hf with rfl|hf
  ·exact h1
  ·exact rU h2 f hf
structure Fine(fs:List Tf)(f:Tf):Prop where
 vf:VF fs
 main:cK fs dV=some f
 noP:f.ps= []
 len:fs.length≤16
 once:∀(i:Nat)(f:Tf),fs[i]?=some f→xc fs f.name=(i:Int)
 each:∀f∈fs,lD fs f=0
theorem qc{fs:List Tf}(hg:GP fs)(h:jn fs=0):∃f,Fine fs f:=by
 unfold jn at h;split at h
 ·cases h
 ·rename_i h1;split at h
  ·cases h
  ·rename_i h2;split at h
   ·cases h
   ·rename_i h3;split at h
    ·cases h
    ·rename_i f hf;split at h
     ·cases h
     ·rename_i h4;have h1:rP fs=true:=by simpa using h1
      have h3:once fs=true:=by simpa using h3
      have hr:=List.all_eq_true.1 h1;have he:=rU h;refine⟨f,fun g hgm=> ?_,hf,List.eq_nil_of_length_eq_zero (by omega),by omega,oT.1 h3,he⟩;obtain⟨g1,g2,g3,g4,g5,g6⟩:=hg.2 g hgm;have hrg:=hr g hgm;unfold rF at hrg;simp only [Bool.and_eq_true]at hrg;have heg:=he g hgm;rw [tq]at heg;have h6:=(be.1 (be.1 heg).2).2;exact⟨g3,g4,r9 _ g.body g5 hrg.2 h6⟩
def FM(ins:List Int)(fuel:Int):Ms:=⟨ins,[],fun _=>0,fuel⟩
theorem Hp{ins:List Int}{fuel:Int}(hi:∀x∈ins,oW x)(hf:fuel≤1000000000000):okMs (FM ins fuel):=⟨hi,fun _=>oY,by show fuel<_;omega,by show((0:Nat):Int)+max fuel 0≤_;omega⟩
structure Ru where
 err:Int
 out:List Int
 mem:List Int
def GM:Re Int→Ru
 | .ok _ s=>⟨0,s.out,(List.range 256).map s.mem⟩
 | .err z=>⟨z,[],[]⟩
inductive RunIs(fs:List Tf)(ins:List Int)(fuel:Int):Ru→Prop where
 | bad (h:jn fs≠0):RunIs fs ins fuel ⟨jn fs,[],[]⟩
 | run (f:Tf) (g:Nat) (r:Re Int) (h:jn fs=0) (hf:cK fs dV=some f) (he:qM g fs 0 f [] (FM ins fuel)=some r):RunIs fs ins fuel (GM r)
section
end
inductive Px where
 | mk (kind n:Int) (name:Ba) (kids:List Px)
inductive Py where
 | mk (kind:Int) (name:Ba) (es:List Px) (body els:List Py)
structure Pf where
 name:Ba
 ps:List Ba
 body:List Py
mutual
def qN:Tx→Px
 | .mk k n nm _ kids=> .mk k n nm (jy kids)
def jy:List Tx→List Px
 | []=> []
 | t::r=>qN t::jy r
end
mutual
def IV:Ty→Py
 | .mk k nm _ es _ body _ els=> .mk k nm (jy es) (kP body) (kP els)
def kP:List Ty→List Py
 | []=> []
 | t::r=>IV t::kP r
end
def AD(f:Tf):Pf:=⟨f.name,f.ps,kP f.body⟩
theorem pN:∀a b:List Tx,jy (a++b)=jy a++jy b
 | [],b=>by simp [jy]
 | t::r,b=>by simp [jy,pN r b]
theorem uM:∀a b:List Ty,kP (a++b)=kP a++kP b
 | [],b=>by simp [kP]
 | t::r,b=>by simp [kP,uM r b]
def mi(n m:Int):Int:=((n.tmod m)+m).tmod m
theorem yq{x n:Int}(hn:0<n):0≤mi x n∧mi x n<n:=by
 unfold mi;have h1:=Int.tmod_lt_of_pos x hn;have h2:=Int.tmod_lt_of_pos (-x) hn;rw [Int.neg_tmod]at h2;have h3:0≤x.tmod n+n:=by omega
 rw [Int.tmod_eq_emod_of_nonneg h3];exact⟨Int.emod_nonneg _ (by omega),Int.emod_lt_of_pos _ hn⟩
theorem Je(x:Int){m:Int}(hm:0<m): -m<x.tmod m∧x.tmod m<m:=by
 have h1:=Int.tmod_lt_of_pos x hm;have h2:=Int.tmod_lt_of_pos (-x) hm;rw [Int.neg_tmod]at h2;omega
theorem jY(n m:Int)(hm:0<m∧m≤1000000):
  aO prog 24 [I6 n,I6 m] [] [] (I6 (mi n m)) []:=by
 refine au func24 J ntmps24 J fun w0 M H=>ak (am J (av J (ab J (ab J (ap J J (iA (by omega) J) (ab J (ap J J (bZ (by have:=Je n hm.1;exact bC (by omega))) (ab J (ap J J (iA (by omega) J) (am J (aa (ar (aG () O J (bR (aD J)) J [] [] J J J)))))))))))))
theorem ni{w:World}{F G:Nat→Prop}{t:Tx}(h:(cx t.v t.kids).pred w G)(hs:∀b,G b→F b):TxIn w F t:=by
 have h2:TxIn w G t:=by
  cases t;exact h
 exact TxIn.mono hs (fun _ _=>J) t h2
def ID(l:List Tx):Asn:=⟨fun w F=>TxsIn w F l,fun h hs=>TxsIn.mono (fun _ hb=>hb) hs _ h⟩
theorem xE{w:World}{F:Nat→Prop}:∀{l:List Tx}{t:Tx},TxsIn w F l→TxIn w F t→TxsIn w F (l++ [t])
 | [],t,_,ht=>⟨ht,trivial⟩
 | a::r,t,h,ht=>⟨h.1,xE h.2 ht⟩
theorem Fm{w:World}{F G:Nat→Prop}{l:List Tx}(h:(ID l).pred w G)(hs:∀b,G b→F b):TxsIn w F l:=TxsIn.mono hs (fun _ _=>rfl) l h
theorem pd(w:World)(F:Nat→Prop)(_:AllIn w F []):(cx bQ []).pred w F:=⟨mW,trivial⟩
theorem x_{v:SV}{t:Tx}(w:World)(F:Nat→Prop)(h:AllIn w F [own 61 4 gg (sv v) [t],cx t.v t.kids]):(cx v [t]).pred w F:=by
 obtain⟨⟨_,a0,b0⟩,⟨_,a1,b1⟩,_⟩:=h;exact⟨eF a0 b0,ni a1 b1,O⟩
theorem DJ{v:SV}{t u:Tx}(w:World)(F:Nat→Prop)(h:AllIn w F [own 61 4 gg (sv v) [t,u],cx t.v t.kids,cx u.v u.kids]):(cx v [t,u]).pred w F:=by
 obtain⟨⟨_,a0,b0⟩,⟨_,a1,b1⟩,⟨_,a2,b2⟩,_⟩:=h;exact⟨eF a0 b0,ni a1 b1,ni a2 b2,O⟩
theorem Ez{l:List Tx}{t:Tx}(w:World)(F:Nat→Prop)(h:AllIn w F [ID l,cx t.v t.kids]):(ID (l++ [t])).pred w F:=by
 obtain⟨⟨_,a0,b0⟩,⟨_,a1,b1⟩,_⟩:=h;exact xE (Fm a0 b0) (ni a1 b1)
theorem BV{v:SV}{l:List Tx}(w:World)(F:Nat→Prop)(h:AllIn w F [own 61 4 gg (sv v) l,ID l]):(cx v l).pred w F:=by
 obtain⟨⟨_,a0,b0⟩,⟨_,a1,b1⟩,_⟩:=h;exact⟨eF a0 b0,Fm a1 b1⟩
def IC(l:List Ty):Asn:=⟨fun w F=>TysIn w F l,fun h hs=>TysIn.mono (fun _ hb=>hb) hs _ h⟩
theorem xD{w:World}{F:Nat→Prop}:∀{l:List Ty}{t:Ty},TysIn w F l→TyIn w F t→TysIn w F (l++ [t])
 | [],t,_,ht=>⟨ht,trivial⟩
 | a::r,t,h,ht=>⟨h.1,xD h.2 ht⟩
theorem Fl{w:World}{F G:Nat→Prop}{l:List Ty}(h:(IC l).pred w G)(hs:∀b,G b→F b):TysIn w F l:=TysIn.mono hs (fun _ _=>rfl) l h
theorem Spec.roAll{P:Program}{n:Nat}{vs:List Value}{L R0 R1:List Asn}{X:Type}{φ:X→Prop}{v:X→Value}{L' R':X→List Asn}(h:Spec P n vs L R0 φ v L' R')(hAB:∀(i:Nat)(A:Asn),R0[i]?=some A→∃B:Asn,R1[i]?=some B∧∀w G,B.pred w G→A.pred w G):Spec P n vs L R1 φ v L' R':=fun w M H ⟨F,hF⟩=>
 h w M H ⟨F,hF.touch,hF.has,hF.lt,hF.mine,hF.apart,fun k C hk=>by
  obtain⟨B,h1,h2⟩:=hAB k C hk;obtain⟨G,g1,g2⟩:=hF.ro k B h1;exact⟨G,h2 _ _ g1,g2⟩⟩
section
end
theorem TfIn.up{w:World}{F G:Nat→Prop}{f:Tf}(h:TfIn w G f)(hs:∀b,G b→F b):TfIn w F f:=by
 obtain⟨⟨A,a1,a2⟩,⟨⟨B,b1,b2⟩,b3⟩⟩:=h;exact⟨⟨A,a1,fun b hb=>hs b (a2 b hb)⟩,⟨⟨B,b1,fun b hb=>hs b (b2 b hb)⟩,TysIn.mono hs (fun _ _=>J) _ b3⟩⟩
theorem COk.mv{w0:World}{M H:Nat→Prop}{Γ R:dF}{w:World}{k k':Nat}{A:Asn}(h:COk w0 M H Γ R w)(hk:bF Γ k=some A)(hne:Nat.beq k' k=false):COk w0 M H ((k',A)::(k,E8)::Γ) R w:=by
 obtain⟨F,hF⟩:=h;have hne':k'≠k:=fun e=>by subst e;simp at hne
 have hsub:∀j b,(if j=k' then F k else if j=k then fun _=>False else F j) b→(j=k'∧F k b)∨(j≠k'∧j≠k∧F j b):=by
  intro j b hb;split at hb
  ·exact .inl ⟨by assumption,hb⟩
  ·split at hb
   ·exact hb.elim
   ·exact .inr ⟨by assumption,by assumption,hb⟩
 refine⟨fun j=>if j=k' then F k else if j=k then fun _=>False else F j,hF.touch,?_,?_,?_,?_,?_⟩
 ·intro j B hj;simp only [bF]at hj;cases h1:Nat.beq k' j with
  | true=>
   rw [h1]at hj;simp at hj;subst hj;have:=cA h1;subst this;simp only [if_true];exact hF.has k A hk
  | false=>
   rw [h1]at hj;have hj1:j≠k':=fun e=>by subst e;simp at h1
   cases h2:Nat.beq k j with
   | true=>
    rw [h2]at hj;simp at hj;subst hj;have:=cA h2;subst this;simp only [hj1,if_false,if_true];exact fun b hb=>hb
   | false=>
    rw [h2]at hj;have hj2:j≠k:=fun e=>by subst e;simp at h2
    simp only [hj1,hj2,if_false];exact hF.has j B hj
 ·intro j b hb;rcases hsub j b hb with⟨_,hb⟩|⟨_,_,hb⟩<;>exact hF.lt _ b hb
 ·intro j b hb hlt;rcases hsub j b hb with⟨_,hb⟩|⟨_,_,hb⟩<;>exact hF.mine _ b hb hlt
 ·intro i j b hi hj;rcases hsub i b hi with⟨e1,h1⟩|⟨e1,e2,h1⟩<;>rcases hsub j b hj with⟨f1,h2⟩|⟨f1,f2,h2⟩
  ·rw [e1,f1]
  ·exact absurd (hF.apart k j b h1 h2).symm f2
  ·exact absurd (hF.apart i k b h1 h2) e2
  ·exact hF.apart i j b h1 h2
 ·intro j B hj;obtain⟨G,g1,g2⟩:=hF.ro j B hj;refine⟨G,g1,fun b hb=>⟨(g2 b hb).1,fun i hi=> ?_,(g2 b hb).2.2⟩⟩;rcases hsub i b hi with⟨_,hb'⟩|⟨_,_,hb'⟩<;>exact(g2 b hb).2.1 _ hb'
theorem sx{N:Nat}{w0:World}{M H:Nat→Prop}{E:d_}{Γ R:dF}(k k':Nat){A:Asn}{Rel:Act→World→Prop}(hk:bF Γ k=some A)(hne:Nat.beq k' k=false)(h:At N w0 M H E ((k',A)::(k,E8)::Γ) R Rel):At N w0 M H E Γ R Rel:=
 h.weak (fun _ h=>h) fun w hC=>hC.mv hk hne
def rs(r:Int→Int)(d v:Int):Int→Int:=fun k=>if k=d then v else r k
theorem wa{pc:Int}{r:Int→Int}{st x:Int}(hx:0≤x∧x<16):(sR pc r st)[1+x.toNat*1]?=some (I3 (r x)):=by
 obtain⟨k,rfl⟩:=Int.eq_ofNat_of_zero_le hx.1;have hk:k<16:=by omega
 show(sR pc r st)[1+k*1]?=_
 match k,hk with
 | 0,_=>rfl
 | 1,_=>rfl
 | 2,_=>rfl
 | 3,_=>rfl
 | 4,_=>rfl
 | 5,_=>rfl
 | 6,_=>rfl
 | 7,_=>rfl
 | 8,_=>rfl
 | 9,_=>rfl
 | 10,_=>rfl
 | 11,_=>rfl
 | 12,_=>rfl
 | 13,_=>rfl
 | 14,_=>rfl
 | 15,_=>rfl
theorem lg{pc:Int}{r:Int→Int}{st x v:Int}(hx:0≤x∧x<16):(sR pc r st).take (1+x.toNat*1)++ [Value.int .u32 v]++(sR pc r st).drop (1+x.toNat*1+1)=sR pc (rs r x v) st:=by
 obtain⟨k,rfl⟩:=Int.eq_ofNat_of_zero_le hx.1;have hk:k<16:=by omega
 show(sR pc r st).take (1+k*1)++ [Value.int .u32 v]++(sR pc r st).drop (1+k*1+1)=_
 match k,hk with
 | 0,_=>rfl
 | 1,_=>rfl
 | 2,_=>rfl
 | 3,_=>rfl
 | 4,_=>rfl
 | 5,_=>rfl
 | 6,_=>rfl
 | 7,_=>rfl
 | 8,_=>rfl
 | 9,_=>rfl
 | 10,_=>rfl
 | 11,_=>rfl
 | 12,_=>rfl
 | 13,_=>rfl
 | 14,_=>rfl
 | 15,_=>rfl
theorem L5{r:Int→Int}(h0:r 0=0):rs r 0 0=r:=by
 funext k;unfold rs;split
 ·rename_i h;rw [h,h0]
 ·rfl
theorem Jn{r:Int→Int}{d v:Int}(h0:r 0=0):rs (rs r d v) 0 0=rp r d v:=by
 funext k;unfold rs rp;by_cases h:k=0
 ·rw [ao h];by_cases h2:k=d∧d≠0
  ·exact absurd (h2.1.symm.trans h) h2.2
  ·rw [ac h2,h,h0]
 ·rw [ac h];by_cases h2:k=d
  ·rw [ao h2,ao ⟨h2,fun h3=>h (h2.trans h3)⟩]
  ·rw [ac h2,ac (fun h3=>h2 h3.1)]
theorem oL{pc:Int}{r:Int→Int}{st x:Int}{u:Value}(hx:0≤x∧x<16):(1+x.toNat*1+ [u].length).ble (sR pc r st).length=true:=by
 rw [Nat.ble_eq];show 1+x.toNat*1+1≤24;omega
theorem DY{pc:Int}{r:Int→Int}{st:Int}(h0:r 0=0):(sR pc r st).take 1++ [Value.int .u32 0]++(sR pc r st).drop 2=sR pc r st:=(lg (x:=0) (by decide)).trans (by rw [L5 h0])
theorem tR{pc:Int}{r:Int→Int}{st d v:Int}(h0:r 0=0):(sR pc (rs r d v) st).take 1++ [Value.int .u32 0]++(sR pc (rs r d v) st).drop 2=sR pc (rp r d v) st:=(lg (x:=0) (by decide)).trans (by rw [Jn h0])
theorem jG(n:Int):0≤wU n∧wU n<4294967296:=by
 show 0≤n%4294967296∧n%4294967296<4294967296;omega
theorem vL(a b:Int):wU (a+wU b)=wU (a+b):=by
 show(a+b%4294967296)%4294967296=(a+b)%4294967296;omega
theorem I8(n:Int):IntKind.u32.wrap (IntKind.u32.wrap n/4*4)=IntKind.u32.wrap n/4*4:=by
 have:=jG n;have e:IntKind.u32.wrap n=wU n:=J;exact bx (by omega)
structure Stx(s:Mm)(i:Qi)(pc:Int)(r:Int→Int)(st:Int):Prop where
 f:Fx s i pc
 p:pc<1000000
 h0:r 0=0
 hr:∀k,0≤r k∧r k<4294967296
 hst:0≤st∧st<1000000000000000
def oC(pc:Int)(r:Int→Int)(st k x:Int):List Value:=sR pc r st++ [I6 k,I3 x]
theorem lV(pc:Int)(r:Int→Int)(st k x:Int):
  aO prog 149 [.agg (sR pc r st).toArray,I6 k,I3 x] [] [] (.agg (oC pc r st k x).toArray) []:=by
 refine au func149 J ntmps149 J fun w0 M H=>ak (cz J J fun b3=>aV kK J J fun b6=>av J (aH (aM nO J J J (bi (k:=3) J)) (ab J (ab J (aH (aT (parts:= [(0,.tmp 8),(1,.tmp 9)]) xM Jv J J) (aH (aT (cs:=(oC pc r st k x).toArray) (parts:= [(0,.tmp 7),(1,.tmp 10)]) kK FC J (by kernel_rfl)) (aq (k:=6) kK J J J J J J (aa (ar (aG () O J (bR (bh kK J J J (bi (k:=6) J))) J [] [] J J J))))))))))
abbrev kE(e:Me)(i:Qi)(pc:Int)(r:Int→Int)(b2 b4 b6 b7:Nat):d_:= [(1,Pt e.m),(2,Pt b2),(4,Pt b4),(6,Pt b6),(7,Pt b7),(8,I3 (r i.d)),(9,I3 (r i.a)),(10,I3 (if i.op<16 then r i.b else i.imm)),(11,I3 (pc+4)),(12,I6 (iE i.op))]
abbrev kG(e:Me)(s:Mm)(i:Qi)(pc:Int)(r:Int→Int)(st:Int)(b2 b4 b6 b7:Nat):dF:= [(20,aP e.m 157 (mR e)),(21,own 5 1 bL (sv e.vd) s.d),(22,own 5 1 bL (sv e.vi) s.i),(23,own 3 1 eI (sv e.vr) s.r),(2,aP b2 78 (sR pc r st)),(4,aP b4 207 (oC 0 nZ 0 0 0)),(6,aP b6 118 (gI i)),(7,aP b7 78 (sR pc r st))]
def qy:Nat→Code→Code
 | 0,c=>c
 | n+1,.seq _ b=>qy n b
 | _+1,c=>c
def eu(f:Func):Code:=match f.body with
 | some c=>c
 | none=> .skip
theorem fC(e:Me)(s:Mm)(n:Nat)(hs:MO s n)(i:Qi)(pc:Int)(r:Int→Int)(st:Int)(hx:Stx s i pc r st){X:Type}{φ:X→Prop}{v:X→Value}{L1 R1:X→List Asn}
  (k:∀(w0:World)(M H:Nat→Prop)(b2 b4 b6 b7:Nat),At 301 w0 M H (kE e i pc r b2 b4 b6 b7) (kG e s i pc r st b2 b4 b6 b7) [] ((qy 12 (eu f115)).wp prog (bodyPost prog f115 (IX w0 M H φ v L1 R1)))):
  Spec prog 115 [.agg (sR pc r st).toArray,Pt e.m] [aP e.m 157 (mR e),own 5 1 bL (sv e.vd) (s).d,own 5 1 bL (sv e.vi) (s).i,own 3 1 eI (sv e.vr) (s).r] [] φ v L1 R1:=by
 refine au func115 J ntmps115 J fun w0 M H=>sx 0 20 J J (sx 1 21 J J (sx 2 22 J J (sx 3 23 J J ?_)))
 have hdd:=hx.f.hv.d;have haa:=hx.f.hv.a;have hbb:=hx.f.hv.b;have him:=hx.f.imm;have hpp:=hx.f.p;have hp2:=hx.p;have hst:=hx.hst;refine ak (cz J J fun b2=>aV kK J J fun b4=>av J (ax gL J (aL 2 dt J J J J (ab J (ae (xs:= [.tmp 20,.tmp 21]) (tX e s n hs i pc hx.f) Lc [20,21,22,23] [] [20,21,22,23] (fun _ _=>aV zn J J fun b5=>aq (k:=5) zn J J J J J J (aa (aS (ax EW J (aH (cH pG J) (aL 5 t3 J J J J ?_)))))))))));refine ap J J ga (aa (ah J (fun h1=> ?_) (fun h1=> ?_)))
 ·cases h1
 ·(try simp only [aY]at h1);refine az (ak (ax EX J (aH (aM (us:=gI i) el J J J (k8 (k:=5) J J)) (aV el J J fun b6=>aq (k:=6) el J J J J J J (av J (aH (aM nO J J J (bi (k:=2) J)) (aV nO J J fun b7=>aq (k:=7) nO J J J J J J (av J (ax fw J (aH (cV (j:=0) underlying75 dt J J (by rfl) (by decide)) (aw (k:=7) (us:= [I3 0]) (c':=sR pc r st) dt J J J J J J J (DY hx.h0) (aa ?_))))))))))));refine ak (ax fH J (aL 6 t3 J J J J (ax fw J (aH (cV (j:=i.d.toNat) underlying75 dt J J (by omega) (by omega)) (aL 7 dt J J J (wa hx.f.hv.d) (am J (av J (ax kB J (aL 6 t3 J J J J (ax fw J (aH (cV (j:=i.a.toNat) underlying75 dt J J (by omega) (by omega)) (aL 7 dt J J J (wa hx.f.hv.a) (am J (av J ?_))))))))))))));refine ax kA J (aL 6 t3 J J J J (ax fw J (aH (cV (j:=i.b.toNat) underlying75 dt J J (by omega) (by omega)) (aL 7 dt J J J (wa hx.f.hv.b) (am J (av J (ax gL J (aL 7 dt J J J J (ap J J (bZ (c:=pc+4) (bx (by omega))) (am J (av J (ax bW J (aL 6 t3 J J J J (ae (xs:= [.tmp 55]) (we i.op) K_ [] [] [] (fun _ _=>am J ?_)))))))))))))));refine aa (bq (X:=Nat×Nat×Nat×Nat) (fun _=>True) (fun z=> [(1,Pt e.m),(2,Pt z.1),(4,Pt z.2.1),(6,Pt z.2.2.1),(7,Pt z.2.2.2),(8,I3 (r i.d)),(9,I3 (r i.a)),(10,I3 (if i.op<16 then r i.b else i.imm)),(11,I3 (pc+4)),(12,I6 (iE i.op))]) (fun z=> [(20,aP e.m 157 (mR e)),(21,own 5 1 bL (sv e.vd) s.d),(22,own 5 1 bL (sv e.vi) s.i),(23,own 3 1 eI (sv e.vr) s.r),(2,aP z.1 78 (sR pc r st)),(4,aP z.2.1 207 (oC 0 nZ 0 0 0)),(6,aP z.2.2.1 118 (gI i)),(7,aP z.2.2.2 78 (sR pc r st))]) (fun z=> []) ?_ (fun⟨b2,b4,b6,b7⟩ _=> ?_))
  ·refine ak (ax bW J (aL 6 t3 J J J J (ap J J eY (aa (ah J (fun h2=> ?_) (fun h2=> ?_))))))
   ·(try simp only [aY]at h2);refine aj (ax dm J (aL 6 dt J J J J (am J (aa ?_))));refine aI (b2,b4,b6,b7) O (by rw [ac (show ¬i.op<16 by omega)];rfl) J J
   ·(try simp only [aY]at h2);refine az ?_;refine aI (b2,b4,b6,b7) O (by rw [ao (show i.op<16 by omega)];rfl) J J
  ·exact k w0 M H b2 b4 b6 b7
theorem l6{N:Nat}{w0:World}{M H:Nat→Prop}{E E2:d_}{Γ R:dF}{Rel:Act→World→Prop}(he:rO E E2=rM E2)(h:At N w0 M H E2 Γ R Rel):At N w0 M H E Γ R Rel:=fun a w h1 h2=>h a w (h1.sub he) h2
def gj:Code→Code
 | .seq (.block _ c) _=>c
 | c=>c
def els:Nat→Code→Code
 | 0,c=>c
 | n+1,.seq _ (.cond _ _ f)=>els n f
 | _+1,c=>c
theorem mz{e:Me}{s:Mm}{i:Qi}{pc:Int}{r:Int→Int}{st:Int}(h:i.op≠10){w0:World}{M H:Nat→Prop}{Q:Exit→Act→World→Prop}{b2 b4 b6 b7:Nat}(k:At 301 w0 M H (kE e i pc r b2 b4 b6 b7) (kG e s i pc r st b2 b4 b6 b7) [] ((els 1 (gj (qy 12 (eu f115)))).wp prog Q)):
  At 301 w0 M H (kE e i pc r b2 b4 b6 b7) (kG e s i pc r st b2 b4 b6 b7) [] ((els 0 (gj (qy 12 (eu f115)))).wp prog Q):=by
 skip;refine ak (ax bW J (aL 6 t3 J J J J (ap J J bc (ab J (aF [] J J O (fun hg1=>aX J) J (aF [(67,_)] J J ⟨J,O⟩ (fun hg2=>aU J J bc) J (aH (bw J J J) (am J (aa (ah J (fun h3=> ?_) (fun h3=> ?_)))))))))))
 ·(exfalso;have h0:=h3;revert h0;simp;first|exact h|omega|(intro h1;exact absurd h1 h))
 ·(try simp only [aY]at h3);exact l6 J k
theorem my{e:Me}{s:Mm}{i:Qi}{pc:Int}{r:Int→Int}{st:Int}(h:iE i.op=0){w0:World}{M H:Nat→Prop}{Q:Exit→Act→World→Prop}{b2 b4 b6 b7:Nat}(k:At 301 w0 M H (kE e i pc r b2 b4 b6 b7) (kG e s i pc r st b2 b4 b6 b7) [] ((els 2 (gj (qy 12 (eu f115)))).wp prog Q)):
  At 301 w0 M H (kE e i pc r b2 b4 b6 b7) (kG e s i pc r st b2 b4 b6 b7) [] ((els 1 (gj (qy 12 (eu f115)))).wp prog Q):=by
 skip;refine ak (ab J (ap J J ga (am J (aa (ah J (fun h1=> ?_) (fun h1=> ?_))))))
 ·(exfalso;have h0:=h1;revert h0;simp;first|exact h|omega|(intro h1;exact absurd h1 h))
 ·(try simp only [aY]at h1);exact l6 J k
theorem ny{e:Me}{s:Mm}{i:Qi}{pc:Int}{r:Int→Int}{st:Int}(h:i.op≠23∧i.op≠24){w0:World}{M H:Nat→Prop}{Q:Exit→Act→World→Prop}{b2 b4 b6 b7:Nat}(k:At 301 w0 M H (kE e i pc r b2 b4 b6 b7) (kG e s i pc r st b2 b4 b6 b7) [] ((els 3 (gj (qy 12 (eu f115)))).wp prog Q)):
  At 301 w0 M H (kE e i pc r b2 b4 b6 b7) (kG e s i pc r st b2 b4 b6 b7) [] ((els 2 (gj (qy 12 (eu f115)))).wp prog Q):=by
 skip;refine ak (ax bW J (aL 6 t3 J J J J (ap J J bc (ab J (aF [] J J O (fun hg1=>ai bW J) J (aF [(88,_)] J J ⟨J,O⟩ (fun hg2=>ag t3 J J (aB (k:=6) J J)) J (aF [(88,_),(89,_)] J J ⟨J,J,O⟩ (fun hg3=>aU J J bc) J (aH (bw J J J) (am J (aa (ah J (fun h4=> ?_) (fun h4=> ?_))))))))))))
 ·(exfalso;have h0:=h4;revert h0;simp;first|exact h|omega|(intro h1;exact absurd h1 h))
 ·(try simp only [aY]at h4);exact l6 J k
theorem pZ{e:Me}{s:Mm}{i:Qi}{pc:Int}{r:Int→Int}{st:Int}(h:i.op≠25∧i.op≠26){w0:World}{M H:Nat→Prop}{Q:Exit→Act→World→Prop}{b2 b4 b6 b7:Nat}(k:At 301 w0 M H (kE e i pc r b2 b4 b6 b7) (kG e s i pc r st b2 b4 b6 b7) [] ((els 4 (gj (qy 12 (eu f115)))).wp prog Q)):
  At 301 w0 M H (kE e i pc r b2 b4 b6 b7) (kG e s i pc r st b2 b4 b6 b7) [] ((els 3 (gj (qy 12 (eu f115)))).wp prog Q):=by
 skip;refine ak (ax bW J (aL 6 t3 J J J J (ap J J bc (ab J (aF [] J J O (fun hg1=>ai bW J) J (aF [(120,_)] J J ⟨J,O⟩ (fun hg2=>ag t3 J J (aB (k:=6) J J)) J (aF [(120,_),(121,_)] J J ⟨J,J,O⟩ (fun hg3=>aU J J bc) J (aH (bw J J J) (am J (aa (ah J (fun h4=> ?_) (fun h4=> ?_))))))))))))
 ·(exfalso;have h0:=h4;revert h0;simp;first|exact h|omega|(intro h1;exact absurd h1 h))
 ·(try simp only [aY]at h4);exact l6 J k
theorem m9{e:Me}{s:Mm}{i:Qi}{pc:Int}{r:Int→Int}{st:Int}(h:i.op≠27){w0:World}{M H:Nat→Prop}{Q:Exit→Act→World→Prop}{b2 b4 b6 b7:Nat}(k:At 301 w0 M H (kE e i pc r b2 b4 b6 b7) (kG e s i pc r st b2 b4 b6 b7) [] ((els 5 (gj (qy 12 (eu f115)))).wp prog Q)):
  At 301 w0 M H (kE e i pc r b2 b4 b6 b7) (kG e s i pc r st b2 b4 b6 b7) [] ((els 4 (gj (qy 12 (eu f115)))).wp prog Q):=by
 skip;refine ak (ax bW J (aL 6 t3 J J J J (ap J J bc (am J (aa (ah J (fun h1=> ?_) (fun h1=> ?_)))))))
 ·(exfalso;have h0:=h1;revert h0;simp;first|exact h|omega|(intro h1;exact absurd h1 h))
 ·(try simp only [aY]at h1);exact l6 J k
theorem tl{e:Me}{s:Mm}{i:Qi}{pc:Int}{r:Int→Int}{st:Int}(h:¬(32≤i.op∧i.op≤37)){w0:World}{M H:Nat→Prop}{Q:Exit→Act→World→Prop}{b2 b4 b6 b7:Nat}(k:At 301 w0 M H (kE e i pc r b2 b4 b6 b7) (kG e s i pc r st b2 b4 b6 b7) [] ((els 6 (gj (qy 12 (eu f115)))).wp prog Q)):
  At 301 w0 M H (kE e i pc r b2 b4 b6 b7) (kG e s i pc r st b2 b4 b6 b7) [] ((els 5 (gj (qy 12 (eu f115)))).wp prog Q):=by
 skip;refine ak (ax bW J (aL 6 t3 J J J J (ap J J eY (ab J (aF [] J J O (fun hg1=>ai bW J) J (aF [(162,_)] J J ⟨J,O⟩ (fun hg2=>ag t3 J J (aB (k:=6) J J)) J (aF [(162,_),(163,_)] J J ⟨J,J,O⟩ (fun hg3=>aU J J jz) J (aH (bw J J J) (am J (aa (ah J (fun h4=> ?_) (fun h4=> ?_))))))))))))
 ·(exfalso;have h0:=h4;revert h0;simp;first|exact h|omega|(intro h1;exact absurd h1 h))
 ·(try simp only [aY]at h4);exact l6 J k
theorem xj{e:Me}{s:Mm}{i:Qi}{pc:Int}{r:Int→Int}{st:Int}(h:i.op≠40){w0:World}{M H:Nat→Prop}{Q:Exit→Act→World→Prop}{b2 b4 b6 b7:Nat}(k:At 301 w0 M H (kE e i pc r b2 b4 b6 b7) (kG e s i pc r st b2 b4 b6 b7) [] ((els 7 (gj (qy 12 (eu f115)))).wp prog Q)):
  At 301 w0 M H (kE e i pc r b2 b4 b6 b7) (kG e s i pc r st b2 b4 b6 b7) [] ((els 6 (gj (qy 12 (eu f115)))).wp prog Q):=by
 skip;refine ak (ax bW J (aL 6 t3 J J J J (ap J J bc (am J (aa (ah J (fun h1=> ?_) (fun h1=> ?_)))))))
 ·(exfalso;have h0:=h1;revert h0;simp;first|exact h|omega|(intro h1;exact absurd h1 h))
 ·(try simp only [aY]at h1);exact l6 J k
theorem Cz{e:Me}{s:Mm}{i:Qi}{pc:Int}{r:Int→Int}{st:Int}(h:i.op≠41){w0:World}{M H:Nat→Prop}{Q:Exit→Act→World→Prop}{b2 b4 b6 b7:Nat}(k:At 301 w0 M H (kE e i pc r b2 b4 b6 b7) (kG e s i pc r st b2 b4 b6 b7) [] ((els 8 (gj (qy 12 (eu f115)))).wp prog Q)):
  At 301 w0 M H (kE e i pc r b2 b4 b6 b7) (kG e s i pc r st b2 b4 b6 b7) [] ((els 7 (gj (qy 12 (eu f115)))).wp prog Q):=by
 skip;refine ak (ax bW J (aL 6 t3 J J J J (ap J J bc (am J (aa (ah J (fun h1=> ?_) (fun h1=> ?_)))))))
 ·(exfalso;have h0:=h1;revert h0;simp;first|exact h|omega|(intro h1;exact absurd h1 h))
 ·(try simp only [aY]at h1);exact l6 J k
theorem Ic{e:Me}{s:Mm}{i:Qi}{pc:Int}{r:Int→Int}{st:Int}(h:i.op≠48){w0:World}{M H:Nat→Prop}{Q:Exit→Act→World→Prop}{b2 b4 b6 b7:Nat}(k:At 301 w0 M H (kE e i pc r b2 b4 b6 b7) (kG e s i pc r st b2 b4 b6 b7) [] ((els 9 (gj (qy 12 (eu f115)))).wp prog Q)):
  At 301 w0 M H (kE e i pc r b2 b4 b6 b7) (kG e s i pc r st b2 b4 b6 b7) [] ((els 8 (gj (qy 12 (eu f115)))).wp prog Q):=by
 skip;refine ak (ax bW J (aL 6 t3 J J J J (ap J J bc (am J (aa (ah J (fun h1=> ?_) (fun h1=> ?_)))))))
 ·(exfalso;have h0:=h1;revert h0;simp;first|exact h|omega|(intro h1;exact absurd h1 h))
 ·(try simp only [aY]at h1);exact l6 J k
theorem fP(e:Me)(s:Mm)(pc:Int)(r1 r2:Int→Int)(st npc:Int)(hst:0≤st∧st<1000000000000000)(hz:(sR pc r1 st).take 1++ [Value.int .u32 0]++(sR pc r1 st).drop 2=sR pc r2 st){w0:World}{M H:Nat→Prop}{b4 b7:Nat}:
  At 301 w0 M H [(4,Pt b4),(7,Pt b7),(11,I3 npc)] [(20,aP e.m 157 (mR e)),(21,own 5 1 bL (sv e.vd) (s).d),(22,own 5 1 bL (sv e.vi) (s).i),(23,own 3 1 eI (sv e.vr) (s).r),(4,aP b4 207 (oC 0 nZ 0 0 0)),(7,aP b7 78 (sR pc r1 st))] [] ((qy 13 (eu f115)).wp prog (bodyPost prog f115 (IX w0 M H (X:=Unit) (fun _=>True) (fun _=> .agg (oC npc r2 (st+1) 0 0).toArray) (fun _=> [aP e.m 157 (mR e),own 5 1 bL (sv e.vd) (s).d,own 5 1 bL (sv e.vi) (s).i,own 3 1 eI (sv e.vr) (s).r]) (fun _=> [])))):=by
 skip;refine ak (ax fw J (aH (cV (j:=0) underlying75 dt J J (by rfl) (by decide)) (aw (k:=7) (us:= [I3 0]) (c':=sR pc r2 st) dt J J J J J J J hz (av J (ab J (ax gL J (aw (k:=7) (us:= [I3 npc]) (c':=sR npc r2 st) dt J J J J J J J J (av J (ax f_ J (aL 7 t3 J J J J (ap J J (bZ (c:=st+1) (bC (by omega))) (ax f_ J (aw (k:=7) (us:= [I6 (st+1)]) (c':=sR npc r2 (st+1)) t3 J J J J J J J J (aa ?_))))))))))))));refine ak (aH (aM nO J J J (bi (k:=7) J)) (aH (aT (cs:=(oC npc r2 (st+1) 0 0).toArray) (parts:= [(0,.tmp 299)]) kK FC J (by kernel_rfl)) (aq (k:=4) kK J J J J J J (aa (ar (aG () O J (bR (bh kK J J J (bi (k:=4) J))) J [20,21,22,23] [] J J J))))))
theorem A7(e:Me)(s:Mm)(n:Nat)(hs:MO s n)(i:Qi)(pc:Int)(r:Int→Int)(st:Int)(hx:Stx s i pc r st)(v:Int)(hu:vh i.op (r i.a) (if i.op<16 then r i.b else i.imm)=some v):
  aO prog 115 [.agg (sR pc r st).toArray,Pt e.m] [aP e.m 157 (mR e),own 5 1 bL (sv e.vd) (s).d,own 5 1 bL (sv e.vi) (s).i,own 3 1 eI (sv e.vr) (s).r] [] (.agg (oC (pc+4) (rp r i.d v) (st+1) 0 0).toArray) [aP e.m 157 (mR e),own 5 1 bL (sv e.vd) (s).d,own 5 1 bL (sv e.vi) (s).i,own 3 1 eI (sv e.vr) (s).r]:=by
 have hdd:=hx.f.hv.d;have haa:=hx.f.hv.a;have hbb:=hx.f.hv.b;have him:=hx.f.imm;have hpp:=hx.f.p;have hp2:=hx.p;have hst:=hx.hst;obtain⟨ho,hz,hk⟩:=Ix hu;refine fC e s n hs i pc r st hx fun w0 M H b2 b4 b6 b7=> ?_
 refine bq (X:=Unit) (fun _=>True) (fun _=> [(4,Pt b4),(7,Pt b7),(11,I3 (pc+4))]) (fun _=> [(20,aP e.m 157 (mR e)),(21,own 5 1 bL (sv e.vd) (s).d),(22,own 5 1 bL (sv e.vi) (s).i),(23,own 3 1 eI (sv e.vr) (s).r),(4,aP b4 207 (oC 0 nZ 0 0 0)),(7,aP b7 78 (sR pc (rs r i.d v) st))]) (fun _=> []) ?_ (fun _ _=> ?_)
 ·refine aC (ak (ax bW J (aL 6 t3 J J J J (ap J J bc (ab J (aF [] J J O (fun hg1=>aX J) J (aF [(67,_)] J J ⟨J,O⟩ (fun hg2=>aU J J bc) J (aH (bw J J J) (am J (aa (ah J (fun h3=> ?_) (fun h3=> ?_))))))))))))
  ·(exfalso;have h0:=h3;revert h0;simp;try omega)
  ·(try simp only [aY]at h3);refine ak (ab J (ap J J ga (am J (aa (ah J (fun h4=> ?_) (fun h4=> ?_))))))
   ·(try simp only [aY]at h4);refine ce [75,76,77,78,79,80,81,82] _ J (bn (V:= [(0,75,_),(1,76,_),(2,77,_),(3,78,_),(4,79,_),(6,81,_)]) [0,1,2,3,4,6] 5 [5,4,3,2] [7] (fun _=> [(7,82,_)]) J J (ad J (ai fH J) (ad J (ag t3 J J (aB (k:=6) J J)) (aJ J J (aJ J J (aJ J J (ad J (ai fw J) ay)))))) J J J J J J J J J J J (fun _ _=>J) J (fZ (xs:= [.tmp 77,.tmp 78,.tmp 79]) (Bh (iE i.op) (r i.a) (if i.op<16 then r i.b else i.imm) v (hx.hr _) (by split;exact hx.hr _;exact him) (Iy hu)) K9 [] [] [] J J J) (fun _ _=>bP [7,0,1,6] 8 [8,7,6,5,4,3,2,1,0] [] (fun _=> []) J J (ad J (cV (j:=i.d.toNat) underlying75 dt J J (by omega) (by omega)) (ad J (ai fH J) (ad J (ag t3 J J (aB (k:=6) J J)) (ad J (ai fw J) ay)))) J J J J J J J J J (fun _ _=>J) J (da (k:=7) (us:= [I3 v]) (c':=sR pc (rs r i.d v) st) dt J J J J J J (oL hx.f.hv.d) (lg hx.f.hv.d)) (fun _ _=>br [] J J ay J J J ?_)));refine aI () O J J J
   ·(exfalso;have h0:=h4;revert h0;simp;exact hk)
 ·exact fP e s pc (rs r i.d v) (rp r i.d v) st (pc+4) hst (tR hx.h0)
theorem A3(e:Me)(s:Mm)(n:Nat)(hs:MO s n)(i:Qi)(pc:Int)(r:Int→Int)(st:Int)(hx:Stx s i pc r st)(hb:byL s.d)(ho:i.op=23)(hq4:(wU (r i.a+i.imm))+4≤s.d.length)(hok:∀k:Int,0≤k→k<4→vz s (IntKind.u32.wrap ((wU (r i.a+i.imm))+k)) 1=true):
  aO prog 115 [.agg (sR pc r st).toArray,Pt e.m] [aP e.m 157 (mR e),own 5 1 bL (sv e.vd) (s).d,own 5 1 bL (sv e.vi) (s).i,own 3 1 eI (sv e.vr) (s).r] [] (.agg (oC (pc+4) (rp r i.d (yo s.d (wU (r i.a+i.imm)).toNat)) (st+1) 0 0).toArray) [aP e.m 157 (mR e),own 5 1 bL (sv e.vd) (s).d,own 5 1 bL (sv e.vi) (s).i,own 3 1 eI (sv e.vr) (s).r]:=by
 have hdd:=hx.f.hv.d;have haa:=hx.f.hv.a;have hbb:=hx.f.hv.b;have him:=hx.f.imm;have hpp:=hx.f.p;have hp2:=hx.p;have hst:=hx.hst;have hk:iE i.op=0:=by rw [ho];rfl
 refine fC e s n hs i pc r st hx fun w0 M H b2 b4 b6 b7=> ?_
 refine bq (X:=Unit) (fun _=>True) (fun _=> [(4,Pt b4),(7,Pt b7),(11,I3 (pc+4))]) (fun _=> [(20,aP e.m 157 (mR e)),(21,own 5 1 bL (sv e.vd) (s).d),(22,own 5 1 bL (sv e.vi) (s).i),(23,own 3 1 eI (sv e.vr) (s).r),(4,aP b4 207 (oC 0 nZ 0 0 0)),(7,aP b7 78 (sR pc (rs r i.d (yo s.d (wU (r i.a+i.imm)).toNat)) st))]) (fun _=> []) ?_ (fun _ _=> ?_)
 ·refine aC ?_;refine mz (by omega) (my hk ?_);refine ak (ax bW J (aL 6 t3 J J J J (ap J J bc (ab J (aF [] J J O (fun hg1=>ai bW J) J (aF [(88,_)] J J ⟨J,O⟩ (fun hg2=>ag t3 J J (aB (k:=6) J J)) J (aF [(88,_),(89,_)] J J ⟨J,J,O⟩ (fun hg3=>aU J J bc) J (aH (bw J J J) (am J (aa (ah J (fun h4=> ?_) (fun h4=> ?_))))))))))))
  ·(try simp only [aY]at h4);refine ak (am J (aa (aS (ax bW J (aL 6 t3 J J J J (ap J J bc (aa (ah J (fun h5=> ?_) (fun h5=> ?_)))))))))
   ·(exfalso;have h0:=h5;revert h0;simp;try omega)
   ·(try simp only [aY]at h5);refine az (ak (ab J (ab J (ax dm J (aL 6 dt J J J J (ap J J (bZ J) (ab J (ch (xs:= [.tmp 95,.tmp 99,.tmp 100]) (BQ e s n hs (wU (r i.a+i.imm)) (jG _) hb hq4 hok) K8 [20,21,22,23] [] [20,21,22,23] J J J (fun _ _=>aV gx J J fun b14=>aq (k:=14) gx J J J J J J (aa (aS (ax mn J (aL 14 t4 J J J J (aH (cZ J) (aa ?_)))))))))))))));refine ah J (fun h6=> ?_) (fun h6=> ?_)
    ·cases h6
    ·(try simp only [aY]at h6);refine az (aj (ax fH J (aL 6 t3 J J J J (ax ob J (aL 14 dt J J J J (ax fw J (aH (cV (j:=i.d.toNat) underlying75 dt J J (by omega) (by omega)) (aw (k:=7) (us:= [I3 (yo s.d (wU (r i.a+i.imm)).toNat)]) (c':=sR pc (rs r i.d (yo s.d (wU (r i.a+i.imm)).toNat)) st) dt J J J J J J (oL hx.f.hv.d) (lg hx.f.hv.d) (aa (aI () O J J J))))))))))
  ·(exfalso;have h0:=h4;revert h0;simp;try omega)
 ·exact fP e s pc (rs r i.d (yo s.d (wU (r i.a+i.imm)).toNat)) (rp r i.d (yo s.d (wU (r i.a+i.imm)).toNat)) st (pc+4) hst (tR hx.h0)
theorem A1(e:Me)(s:Mm)(n:Nat)(hs:MO s n)(i:Qi)(pc:Int)(r:Int→Int)(st:Int)(hx:Stx s i pc r st)(ho:i.op=25)(hq4:(wU (r i.a+i.imm))+4≤s.d.length)(hok:∀k:Int,0≤k→k<4→vz s (IntKind.u32.wrap ((wU (r i.a+i.imm))+k)) 2=true):
  aO prog 115 [.agg (sR pc r st).toArray,Pt e.m] [aP e.m 157 (mR e),own 5 1 bL (sv e.vd) (s).d,own 5 1 bL (sv e.vi) (s).i,own 3 1 eI (sv e.vr) (s).r] [] (.agg (oC (pc+4) r (st+1) 0 0).toArray) [aP e.m 157 (mR e),own 5 1 bL (sv e.vd) ({s with d:=pk s.d (wU (r i.a+i.imm)).toNat (eC (r i.d))}).d,own 5 1 bL (sv e.vi) ({s with d:=pk s.d (wU (r i.a+i.imm)).toNat (eC (r i.d))}).i,own 3 1 eI (sv e.vr) ({s with d:=pk s.d (wU (r i.a+i.imm)).toNat (eC (r i.d))}).r]:=by
 have hdd:=hx.f.hv.d;have haa:=hx.f.hv.a;have hbb:=hx.f.hv.b;have him:=hx.f.imm;have hpp:=hx.f.p;have hp2:=hx.p;have hst:=hx.hst;have hk:iE i.op=0:=by rw [ho];rfl
 refine fC e s n hs i pc r st hx fun w0 M H b2 b4 b6 b7=> ?_
 refine bq (X:=Unit) (fun _=>True) (fun _=> [(4,Pt b4),(7,Pt b7),(11,I3 (pc+4))]) (fun _=> [(20,aP e.m 157 (mR e)),(21,own 5 1 bL (sv e.vd) ({s with d:=pk s.d (wU (r i.a+i.imm)).toNat (eC (r i.d))}).d),(22,own 5 1 bL (sv e.vi) ({s with d:=pk s.d (wU (r i.a+i.imm)).toNat (eC (r i.d))}).i),(23,own 3 1 eI (sv e.vr) ({s with d:=pk s.d (wU (r i.a+i.imm)).toNat (eC (r i.d))}).r),(4,aP b4 207 (oC 0 nZ 0 0 0)),(7,aP b7 78 (sR pc r st))]) (fun _=> []) ?_ (fun _ _=> ?_)
 ·refine aC ?_;refine mz (by omega) (my hk (ny (by omega) ?_));refine ak (ax bW J (aL 6 t3 J J J J (ap J J bc (ab J (aF [] J J O (fun hg1=>ai bW J) J (aF [(120,_)] J J ⟨J,O⟩ (fun hg2=>ag t3 J J (aB (k:=6) J J)) J (aF [(120,_),(121,_)] J J ⟨J,J,O⟩ (fun hg3=>aU J J bc) J (aH (bw J J J) (am J (aa (ah J (fun h4=> ?_) (fun h4=> ?_))))))))))))
  ·(try simp only [aY]at h4);refine ak (am J (aa (aS (ax bW J (aL 6 t3 J J J J (ap J J bc (aa (ah J (fun h5=> ?_) (fun h5=> ?_)))))))))
   ·(exfalso;have h0:=h5;revert h0;simp;try omega)
   ·(try simp only [aY]at h5);refine az (ak (ab J (ab J (ax dm J (aL 6 dt J J J J (ap J J (bZ J) (ab J (ab J (ch (xs:= [.tmp 127,.tmp 131,.tmp 132,.tmp 133]) (zr e s n hs (wU (r i.a+i.imm)) (jG _) (r i.d) (hx.hr _) hq4 hok) K7 [20,21,22,23] [] [20,21,22,23] J J J (fun _ _=>aV gx J J fun b16=>aq (k:=16) gx J J J J J J (av J (ax mn J (aL 16 t4 J J J J (aH (cZ J) (aa ?_)))))))))))))));refine ah J (fun h6=> ?_) (fun h6=> ?_)
    ·cases h6
    ·(try simp only [aY]at h6);refine az (aI () O J J J)
  ·(exfalso;have h0:=h4;revert h0;simp;try omega)
 ·exact fP e {s with d:=pk s.d (wU (r i.a+i.imm)).toNat (eC (r i.d))} pc r r st (pc+4) hst (DY hx.h0)
theorem zt(e:Me)(s:Mm)(n:Nat)(hs:MO s n)(i:Qi)(pc:Int)(r:Int→Int)(st:Int)(hx:Stx s i pc r st)(ho:i.op=27):
  aO prog 115 [.agg (sR pc r st).toArray,Pt e.m] [aP e.m 157 (mR e),own 5 1 bL (sv e.vd) (s).d,own 5 1 bL (sv e.vi) (s).i,own 3 1 eI (sv e.vr) (s).r] [] (.agg (oC ((wU (r i.a+i.imm))/4*4) (rp r i.d (pc+4)) (st+1) 0 0).toArray) [aP e.m 157 (mR e),own 5 1 bL (sv e.vd) (s).d,own 5 1 bL (sv e.vi) (s).i,own 3 1 eI (sv e.vr) (s).r]:=by
 have hdd:=hx.f.hv.d;have haa:=hx.f.hv.a;have hbb:=hx.f.hv.b;have him:=hx.f.imm;have hpp:=hx.f.p;have hp2:=hx.p;have hst:=hx.hst;have hk:iE i.op=0:=by rw [ho];rfl
 refine fC e s n hs i pc r st hx fun w0 M H b2 b4 b6 b7=> ?_
 refine bq (X:=Unit) (fun _=>True) (fun _=> [(4,Pt b4),(7,Pt b7),(11,I3 ((wU (r i.a+i.imm))/4*4))]) (fun _=> [(20,aP e.m 157 (mR e)),(21,own 5 1 bL (sv e.vd) (s).d),(22,own 5 1 bL (sv e.vi) (s).i),(23,own 3 1 eI (sv e.vr) (s).r),(4,aP b4 207 (oC 0 nZ 0 0 0)),(7,aP b7 78 (sR pc (rs r i.d (pc+4)) st))]) (fun _=> []) ?_ (fun _ _=> ?_)
 ·refine aC ?_;refine mz (by omega) (my hk (ny (by omega) (pZ (by omega) ?_)));refine ak (ax bW J (aL 6 t3 J J J J (ap J J bc (am J (aa (ah J (fun h1=> ?_) (fun h1=> ?_)))))))
  ·(try simp only [aY]at h1);refine ak (ax fH J (aL 6 t3 J J J J (ab J (ax fw J (aH (cV (j:=i.d.toNat) underlying75 dt J J (by omega) (by omega)) (aw (k:=7) (us:= [I3 (pc+4)]) (c':=sR pc (rs r i.d (pc+4)) st) dt J J J J J J (oL hx.f.hv.d) (lg hx.f.hv.d) (aa (aj (ab J (ax dm J (aL 6 dt J J J J (ap J J (bZ J) (ap J J (j_ (by decide) (np (jG _) (by decide))) (ap J J (ew (I8 _)) (am J (aa (aI () O J J J)))))))))))))))))
  ·(exfalso;have h0:=h1;revert h0;simp;try omega)
 ·exact fP e s pc (rs r i.d (pc+4)) (rp r i.d (pc+4)) st ((wU (r i.a+i.imm))/4*4) hst (tR hx.h0)
theorem A6(e:Me)(s:Mm)(n:Nat)(hs:MO s n)(i:Qi)(pc:Int)(r:Int→Int)(st:Int)(hx:Stx s i pc r st)(ho:i.op=32):
  aO prog 115 [.agg (sR pc r st).toArray,Pt e.m] [aP e.m 157 (mR e),own 5 1 bL (sv e.vd) (s).d,own 5 1 bL (sv e.vi) (s).i,own 3 1 eI (sv e.vr) (s).r] [] (.agg (oC (if r i.d=r i.a then wU (pc+4*i.imm)else pc+4) r (st+1) 0 0).toArray) [aP e.m 157 (mR e),own 5 1 bL (sv e.vd) (s).d,own 5 1 bL (sv e.vi) (s).i,own 3 1 eI (sv e.vr) (s).r]:=by
 have hdd:=hx.f.hv.d;have haa:=hx.f.hv.a;have hbb:=hx.f.hv.b;have him:=hx.f.imm;have hpp:=hx.f.p;have hp2:=hx.p;have hst:=hx.hst;have hk:iE i.op=0:=by rw [ho];rfl
 refine fC e s n hs i pc r st hx fun w0 M H b2 b4 b6 b7=> ?_
 refine bq (X:=Unit) (fun _=>True) (fun _=> [(4,Pt b4),(7,Pt b7),(11,I3 (if r i.d=r i.a then wU (pc+4*i.imm)else pc+4))]) (fun _=> [(20,aP e.m 157 (mR e)),(21,own 5 1 bL (sv e.vd) (s).d),(22,own 5 1 bL (sv e.vi) (s).i),(23,own 3 1 eI (sv e.vr) (s).r),(4,aP b4 207 (oC 0 nZ 0 0 0)),(7,aP b7 78 (sR pc r st))]) (fun _=> []) ?_ (fun _ _=> ?_)
 ·refine aC ?_;refine mz (by omega) (my hk (ny (by omega) (pZ (by omega) (m9 (by omega) ?_))));refine ak (ax bW J (aL 6 t3 J J J J (ap J J eY (ab J (aF [] J J O (fun hg1=>ai bW J) J (aF [(162,_)] J J ⟨J,O⟩ (fun hg2=>ag t3 J J (aB (k:=6) J J)) J (aF [(162,_),(163,_)] J J ⟨J,J,O⟩ (fun hg3=>aU J J jz) J (aH (bw J J J) (am J (aa (ah J (fun h4=> ?_) (fun h4=> ?_))))))))))))
  ·(try simp only [aY]at h4);refine ak (ax bW J (aL 6 t3 J J J J (ab J (ab J ?_))));rw [ho];refine ae (xs:= [.tmp 167,.tmp 168,.tmp 169]) (qA (r i.d) (r i.a)) Gg [] [] [] (fun _ _=>am J (av J (ab J (aa (ah J (fun h5=> ?_) (fun h5=> ?_))))))
   ·(try simp only [aY]at h5);rw [ao h5];refine aj (ax gL J (aL 7 dt J J J J (ax dm J (aL 6 dt J J J J (ap J J (ew J) (ap J J (bZ (c:=wU (pc+4*i.imm)) (vL _ _)) (am J (aa (aI () O J J J)))))))))
   ·(try simp only [aY]at h5);rw [ac h5];refine az (aI () O J J J)
  ·(exfalso;have h0:=h4;revert h0;simp;try omega)
 ·exact fP e s pc r r st (if r i.d=r i.a then wU (pc+4*i.imm)else pc+4) hst (DY hx.h0)
theorem zv(e:Me)(s:Mm)(n:Nat)(hs:MO s n)(i:Qi)(pc:Int)(r:Int→Int)(st:Int)(hx:Stx s i pc r st)(ho:i.op=35):
  aO prog 115 [.agg (sR pc r st).toArray,Pt e.m] [aP e.m 157 (mR e),own 5 1 bL (sv e.vd) (s).d,own 5 1 bL (sv e.vi) (s).i,own 3 1 eI (sv e.vr) (s).r] [] (.agg (oC (if r i.d≥r i.a then wU (pc+4*i.imm)else pc+4) r (st+1) 0 0).toArray) [aP e.m 157 (mR e),own 5 1 bL (sv e.vd) (s).d,own 5 1 bL (sv e.vi) (s).i,own 3 1 eI (sv e.vr) (s).r]:=by
 have hdd:=hx.f.hv.d;have haa:=hx.f.hv.a;have hbb:=hx.f.hv.b;have him:=hx.f.imm;have hpp:=hx.f.p;have hp2:=hx.p;have hst:=hx.hst;have hk:iE i.op=0:=by rw [ho];rfl
 refine fC e s n hs i pc r st hx fun w0 M H b2 b4 b6 b7=> ?_
 refine bq (X:=Unit) (fun _=>True) (fun _=> [(4,Pt b4),(7,Pt b7),(11,I3 (if r i.d≥r i.a then wU (pc+4*i.imm)else pc+4))]) (fun _=> [(20,aP e.m 157 (mR e)),(21,own 5 1 bL (sv e.vd) (s).d),(22,own 5 1 bL (sv e.vi) (s).i),(23,own 3 1 eI (sv e.vr) (s).r),(4,aP b4 207 (oC 0 nZ 0 0 0)),(7,aP b7 78 (sR pc r st))]) (fun _=> []) ?_ (fun _ _=> ?_)
 ·refine aC ?_;refine mz (by omega) (my hk (ny (by omega) (pZ (by omega) (m9 (by omega) ?_))));refine ak (ax bW J (aL 6 t3 J J J J (ap J J eY (ab J (aF [] J J O (fun hg1=>ai bW J) J (aF [(162,_)] J J ⟨J,O⟩ (fun hg2=>ag t3 J J (aB (k:=6) J J)) J (aF [(162,_),(163,_)] J J ⟨J,J,O⟩ (fun hg3=>aU J J jz) J (aH (bw J J J) (am J (aa (ah J (fun h4=> ?_) (fun h4=> ?_))))))))))))
  ·(try simp only [aY]at h4);refine ak (ax bW J (aL 6 t3 J J J J (ab J (ab J ?_))));rw [ho];refine ae (xs:= [.tmp 167,.tmp 168,.tmp 169]) (qz (r i.d) (r i.a)) Gg [] [] [] (fun _ _=>am J (av J (ab J (aa (ah J (fun h5=> ?_) (fun h5=> ?_))))))
   ·(try simp only [aY]at h5);rw [ao h5];refine aj (ax gL J (aL 7 dt J J J J (ax dm J (aL 6 dt J J J J (ap J J (ew J) (ap J J (bZ (c:=wU (pc+4*i.imm)) (vL _ _)) (am J (aa (aI () O J J J)))))))))
   ·(try simp only [aY]at h5);rw [ac h5];refine az (aI () O J J J)
  ·(exfalso;have h0:=h4;revert h0;simp;try omega)
 ·exact fP e s pc r r st (if r i.d≥r i.a then wU (pc+4*i.imm)else pc+4) hst (DY hx.h0)
theorem A4(e:Me)(s:Mm)(n:Nat)(hs:MO s n)(i:Qi)(pc:Int)(r:Int→Int)(st:Int)(hx:Stx s i pc r st)(ho:i.op=40):
  aO prog 115 [.agg (sR pc r st).toArray,Pt e.m] [aP e.m 157 (mR e),own 5 1 bL (sv e.vd) (s).d,own 5 1 bL (sv e.vi) (s).i,own 3 1 eI (sv e.vr) (s).r] [] (.agg (oC (wU (pc+4*i.imm)) (rp r i.d (pc+4)) (st+1) 0 0).toArray) [aP e.m 157 (mR e),own 5 1 bL (sv e.vd) (s).d,own 5 1 bL (sv e.vi) (s).i,own 3 1 eI (sv e.vr) (s).r]:=by
 have hdd:=hx.f.hv.d;have haa:=hx.f.hv.a;have hbb:=hx.f.hv.b;have him:=hx.f.imm;have hpp:=hx.f.p;have hp2:=hx.p;have hst:=hx.hst;have hk:iE i.op=0:=by rw [ho];rfl
 refine fC e s n hs i pc r st hx fun w0 M H b2 b4 b6 b7=> ?_
 refine bq (X:=Unit) (fun _=>True) (fun _=> [(4,Pt b4),(7,Pt b7),(11,I3 (wU (pc+4*i.imm)))]) (fun _=> [(20,aP e.m 157 (mR e)),(21,own 5 1 bL (sv e.vd) (s).d),(22,own 5 1 bL (sv e.vi) (s).i),(23,own 3 1 eI (sv e.vr) (s).r),(4,aP b4 207 (oC 0 nZ 0 0 0)),(7,aP b7 78 (sR pc (rs r i.d (pc+4)) st))]) (fun _=> []) ?_ (fun _ _=> ?_)
 ·refine aC ?_;refine mz (by omega) (my hk (ny (by omega) (pZ (by omega) (m9 (by omega) (tl (by omega) ?_)))));refine ak (ax bW J (aL 6 t3 J J J J (ap J J bc (am J (aa (ah J (fun h1=> ?_) (fun h1=> ?_)))))))
  ·(try simp only [aY]at h1);refine ak (ax fH J (aL 6 t3 J J J J (ab J (ax fw J (aH (cV (j:=i.d.toNat) underlying75 dt J J (by omega) (by omega)) (aw (k:=7) (us:= [I3 (pc+4)]) (c':=sR pc (rs r i.d (pc+4)) st) dt J J J J J J (oL hx.f.hv.d) (lg hx.f.hv.d) (aa (aj (ax gL J (aL 7 dt J J J J (ax dm J (aL 6 dt J J J J (ap J J (ew J) (ap J J (bZ (c:=wU (pc+4*i.imm)) (vL _ _)) (am J (aa (aI () O J J J)))))))))))))))))
  ·(exfalso;have h0:=h1;revert h0;simp;try omega)
 ·exact fP e s pc (rs r i.d (pc+4)) (rp r i.d (pc+4)) st (wU (pc+4*i.imm)) hst (tR hx.h0)
theorem A2(e:Me)(s:Mm)(n:Nat)(hs:MO s n)(i:Qi)(pc:Int)(r:Int→Int)(st:Int)(hx:Stx s i pc r st)(ho:i.op=41):
  aO prog 115 [.agg (sR pc r st).toArray,Pt e.m] [aP e.m 157 (mR e),own 5 1 bL (sv e.vd) (s).d,own 5 1 bL (sv e.vi) (s).i,own 3 1 eI (sv e.vr) (s).r] [] (.agg (oC (pc+4) (rp r i.d (wU (i.imm*1024))) (st+1) 0 0).toArray) [aP e.m 157 (mR e),own 5 1 bL (sv e.vd) (s).d,own 5 1 bL (sv e.vi) (s).i,own 3 1 eI (sv e.vr) (s).r]:=by
 have hdd:=hx.f.hv.d;have haa:=hx.f.hv.a;have hbb:=hx.f.hv.b;have him:=hx.f.imm;have hpp:=hx.f.p;have hp2:=hx.p;have hst:=hx.hst;have hk:iE i.op=0:=by rw [ho];rfl
 refine fC e s n hs i pc r st hx fun w0 M H b2 b4 b6 b7=> ?_
 refine bq (X:=Unit) (fun _=>True) (fun _=> [(4,Pt b4),(7,Pt b7),(11,I3 (pc+4))]) (fun _=> [(20,aP e.m 157 (mR e)),(21,own 5 1 bL (sv e.vd) (s).d),(22,own 5 1 bL (sv e.vi) (s).i),(23,own 3 1 eI (sv e.vr) (s).r),(4,aP b4 207 (oC 0 nZ 0 0 0)),(7,aP b7 78 (sR pc (rs r i.d (wU (i.imm*1024))) st))]) (fun _=> []) ?_ (fun _ _=> ?_)
 ·refine aC ?_;refine mz (by omega) (my hk (ny (by omega) (pZ (by omega) (m9 (by omega) (tl (by omega) (xj (by omega) ?_))))));refine ak (ax bW J (aL 6 t3 J J J J (ap J J bc (am J (aa (ah J (fun h1=> ?_) (fun h1=> ?_)))))))
  ·(try simp only [aY]at h1);refine aj (ax fH J (aL 6 t3 J J J J (ax dm J (aL 6 dt J J J J (ap J J (gT (by decide) (by decide) J) (ax fw J (aH (cV (j:=i.d.toNat) underlying75 dt J J (by omega) (by omega)) (aw (k:=7) (us:= [I3 (wU (i.imm*1024))]) (c':=sR pc (rs r i.d (wU (i.imm*1024))) st) dt J J J J J J (oL hx.f.hv.d) (lg hx.f.hv.d) (aa (aI () O J J J))))))))))
  ·(exfalso;have h0:=h1;revert h0;simp;try omega)
 ·exact fP e s pc (rs r i.d (wU (i.imm*1024))) (rp r i.d (wU (i.imm*1024))) st (pc+4) hst (tR hx.h0)
theorem A0(e:Me)(s:Mm)(n:Nat)(hs:MO s n)(i:Qi)(pc:Int)(r:Int→Int)(st:Int)(hx:Stx s i pc r st)(ho:i.op=48):
  aO prog 115 [.agg (sR pc r st).toArray,Pt e.m] [aP e.m 157 (mR e),own 5 1 bL (sv e.vd) (s).d,own 5 1 bL (sv e.vi) (s).i,own 3 1 eI (sv e.vr) (s).r] [] (.agg (oC pc r st 4 i.imm).toArray) [aP e.m 157 (mR e),own 5 1 bL (sv e.vd) (s).d,own 5 1 bL (sv e.vi) (s).i,own 3 1 eI (sv e.vr) (s).r]:=by
 have hdd:=hx.f.hv.d;have haa:=hx.f.hv.a;have hbb:=hx.f.hv.b;have him:=hx.f.imm;have hpp:=hx.f.p;have hp2:=hx.p;have hst:=hx.hst;have hk:iE i.op=0:=by rw [ho];rfl
 refine fC e s n hs i pc r st hx fun w0 M H b2 b4 b6 b7=> ?_
 refine bq (X:=Unit) (fun _=>False) (fun _=> []) (fun _=> []) (fun _=> []) ?_ (fun _ hF=> ?_)
 ·refine aC ?_;refine mz (by omega) (my hk (ny (by omega) (pZ (by omega) (m9 (by omega) (tl (by omega) (xj (by omega) (Cz (by omega) ?_)))))));refine ak (ax bW J (aL 6 t3 J J J J (ap J J bc (am J (aa (ah J (fun h1=> ?_) (fun h1=> ?_)))))))
  ·(try simp only [aY]at h1);refine ak (aH (aM nO J J J (bi (k:=2) J)) (ax dm J (aL 6 dt J J J J (ae (xs:= [.tmp 208,.const (I6 4),.tmp 210]) (lV pc r st 4 i.imm) Gh [] [] [] (fun _ _=>aq (k:=4) kK J J J J J J (aa (ar (aG () O J (bR (bh kK J J J (bi (k:=4) J))) J [20,21,22,23] [] J J J))))))))
  ·(exfalso;have h0:=h1;revert h0;simp;try omega)
 ·exact hF.elim
theorem A5(e:Me)(s:Mm)(n:Nat)(hs:MO s n)(i:Qi)(pc:Int)(r:Int→Int)(st:Int)(hx:Stx s i pc r st)(ho:i.op=49):
  aO prog 115 [.agg (sR pc r st).toArray,Pt e.m] [aP e.m 157 (mR e),own 5 1 bL (sv e.vd) (s).d,own 5 1 bL (sv e.vi) (s).i,own 3 1 eI (sv e.vr) (s).r] [] (.agg (oC pc r st 3 0).toArray) [aP e.m 157 (mR e),own 5 1 bL (sv e.vd) (s).d,own 5 1 bL (sv e.vi) (s).i,own 3 1 eI (sv e.vr) (s).r]:=by
 have hdd:=hx.f.hv.d;have haa:=hx.f.hv.a;have hbb:=hx.f.hv.b;have him:=hx.f.imm;have hpp:=hx.f.p;have hp2:=hx.p;have hst:=hx.hst;have hk:iE i.op=0:=by rw [ho];rfl
 refine fC e s n hs i pc r st hx fun w0 M H b2 b4 b6 b7=> ?_
 refine bq (X:=Unit) (fun _=>False) (fun _=> []) (fun _=> []) (fun _=> []) ?_ (fun _ hF=> ?_)
 ·refine aC ?_;refine mz (by omega) (my hk (ny (by omega) (pZ (by omega) (m9 (by omega) (tl (by omega) (xj (by omega) (Cz (by omega) (Ic (by omega) ?_))))))));refine ak (ax bW J (aL 6 t3 J J J J (ap J J bc (am J (aa (ah J (fun h1=> ?_) (fun h1=> ?_)))))))
  ·(try simp only [aY]at h1);refine ak (aH (aM nO J J J (bi (k:=2) J)) (ae (xs:= [.tmp 216,.const (I6 3),.const (I3 0)]) (lV pc r st 3 0) Gh [] [] [] (fun _ _=>aq (k:=4) kK J J J J J J (aa (ar (aG () O J (bR (bh kK J J J (bi (k:=4) J))) J [20,21,22,23] [] J J J))))))
  ·(exfalso;have h0:=h1;revert h0;simp;try omega)
 ·exact hF.elim
theorem ng(n:Int):wU n=n%4294967296:=by
 unfold wU;simp [IntKind.wrap,IntKind.signed,IntKind.bits]
theorem LU{a b:Int}(ha:oW a)(hb:oW b):bits .xor .u32 a b=((a.toNat^^^b.toNat:Nat):Int):=by
 have h1:bits .xor .u32 a b=IntKind.u32.wrap (((BitVec.ofInt 32 a^^^BitVec.ofInt 32 b).toNat:Nat):Int):=J;have h2:∀x:Int,oW x→(BitVec.ofInt 32 x).toNat=x.toNat:=fun x hx=>by
  rw [BitVec.toNat_ofInt,Int.emod_eq_of_lt hx.1 (by have:=hx.2;omega)]
 have h3:=(BitVec.ofInt 32 a^^^BitVec.ofInt 32 b).isLt;rw [h1,bx (by omega),BitVec.toNat_xor,h2 a ha,h2 b hb]
theorem Dz{a b:Int}(ha:oW a)(hb:oW b):0<bits .xor .u32 a b↔¬a=b:=by
 rw [LU ha hb];have h:a.toNat^^^b.toNat=0→a.toNat=b.toNat:=fun h=>by
  have h2:(a.toNat^^^b.toNat)^^^b.toNat=a.toNat:=by rw [Nat.xor_assoc,Nat.xor_self,Nat.xor_zero]
  rw [h,Nat.zero_xor]at h2;exact h2.symm
 have h1:=ha.1;have h2:=hb.1;constructor
 ·intro hx e;subst e;rw [Nat.xor_self]at hx;omega
 ·intro hn;have:¬(a.toNat^^^b.toNat=0):=fun e=>hn (by have:=h e;omega)
  omega
theorem DA{a:Int}(ha:oW a):bits .xor .u32 a 4294967295=4294967295-a:=by
 have h1:bits .xor .u32 a 4294967295=IntKind.u32.wrap (((BitVec.ofInt 32 a^^^BitVec.ofInt 32 4294967295).toNat:Nat):Int):=J;have h2:BitVec.ofInt 32 4294967295=BitVec.allOnes 32:=by decide
 rw [h1,h2,BitVec.xor_allOnes,BitVec.toNat_not,BitVec.toNat_ofInt];have h4:=ha.1;have h5:=ha.2;have h3:(a%((2^32:Nat):Int)).toNat=a.toNat:=by
  rw [Int.emod_eq_of_lt ha.1 (by omega)]
 rw [h3,bx (by omega)];omega
theorem Mh{x y:Int}(hx:oW x)(hx2:x%1024=0)(hy:0≤y∧y<1024):bits .or .u32 x y=x+y:=by
 have h1:bits .or .u32 x y=IntKind.u32.wrap (((BitVec.ofInt 32 x ||| BitVec.ofInt 32 y).toNat:Nat):Int):=J;have h2:∀x:Int,oW x→(BitVec.ofInt 32 x).toNat=x.toNat:=fun x hx=>by
  rw [BitVec.toNat_ofInt,Int.emod_eq_of_lt hx.1 (by have:=hx.2;omega)]
 have h3:=(BitVec.ofInt 32 x ||| BitVec.ofInt 32 y).isLt;have h4:=hx.1;have h5:=hx.2;rw [h1,bx (by omega),BitVec.toNat_or,h2 x hx,h2 y ⟨hy.1,by omega⟩];have e:x.toNat=2^10*(x.toNat/2^10):=by omega
 rw [e,←Nat.two_pow_add_eq_or_of_lt (show y.toNat<2^10 by omega)];omega
theorem I2(b:Bool):bits .xor .u32 (tr b) 1=tr (!b):=by cases b<;>rfl
structure Kr(ks:List Int)(c c':Qs):Prop where
 m:c'.m=c.m
 i:c'.inp=c.inp
 o:c'.out=c.out
 r:∀k,k∉ks→c'.r k=c.r k
theorem dq{r:Int→Int}{d v:Int}(h:d≠0):rp r d v d=v:=ao ⟨rfl,h⟩
theorem ca{r:Int→Int}{d v k:Int}(h:k≠d):rp r d v k=r k:=ac fun e=>h e.1
theorem dG{r:Int→Int}{d v:Int}{ks:List Int}(h:d∈ks):∀k,k∉ks→rp r d v k=r k:=fun k hk=>ca fun e=>hk (e▸h)
section
variable{code:List Qi}
theorem io{n:Int}{c:Qs}{P:Qs→Prop}{op d a b:Int}{p:Nat}{v:Int}(hpc:c.pc=p)(h:code[p]?=some (q3 op d a b))(h2:vh op (c.r a) (c.r b)=some v)
  (h3:∀c',c'.pc=p+1→c'.r=rp c.r d v→c'.m=c.m→c'.inp=c.inp→c'.out=c.out→Go code (n-1) c' P) (ho:op<16:=by decide):Go code n c P:=
 B8 (i:=q3 op d a b) (hpc▸h) (by rw [ao (show(q3 op d a b).op<16 from ho)];exact h2) (h3 _ (by rw [←hpc]) rfl rfl rfl rfl)
theorem iH{n:Int}{c:Qs}{P:Qs→Prop}{op d a x:Int}{p:Nat}{v:Int}(hpc:c.pc=p)(h:code[p]?=some (qi op d a x))(h2:vh op (c.r a) x=some v)
  (h3:∀c',c'.pc=p+1→c'.r=rp c.r d v→c'.m=c.m→c'.inp=c.inp→c'.out=c.out→Go code (n-1) c' P) (ho:¬op<16:=by decide):Go code n c P:=
 B8 (i:=qi op d a x) (hpc▸h) (by rw [ac (show ¬(qi op d a x).op<16 from ho)];exact h2) (h3 _ (by rw [←hpc]) rfl rfl rfl rfl)
theorem JH{p:Nat}{c:Qs}{o:Ba}{a b:Int}(hb:iZ o=true)(hc:cAt code p (zg o))(hl:p<9000)(hpc:c.pc=p)(h0:c.r 0=0)(h2:c.r 2=a)(h1:c.r 1=b)(ha:oW a)(hw:oW b):
  Go code 5 c fun c'=>c'.pc=p+(zg o).length∧c'.r 1=(Ir o a b).getD 0∧Kr [1,3] c c':=by
 have one:∀{op x y:Int}{v:Int},cAt code p [q3 op 1 x y]→op<16→vh op (c.r x) (c.r y)=some v→Go code 5 c fun c'=>c'.pc=p+1∧c'.r 1=v∧Kr [1,3] c c':=fun{op x y v} hc ho hv=>
  io hpc hc.head.1 (v:=v) hv (fun c' e1 e2 e3 e4 e5=>Go.done (by decide) ⟨e1,by rw [e2];exact dq (by decide),e3,e4,e5,by rw [e2];exact dG (by decide)⟩) ho
 have two:∀{op x y:Int}{v:Bool},cAt code p [q3 op 1 x y,qi 19 1 1 1]→op<16→vh op (c.r x) (c.r y)=some (tr v)→Go code 5 c fun c'=>c'.pc=p+2∧c'.r 1=tr (!v)∧Kr [1,3] c c':=fun{op x y v} hc ho hv=>
  io hpc hc.head.1 (v:=tr v) hv (fun c' e1 e2 e3 e4 e5=>
   iH e1 hc.head.2.head.1 (v:=tr (!v)) (by rw [←I2 v,e2];rfl) fun c2 f1 f2 f3 f4 f5=>Go.done (by decide) ⟨by rw [f1],by rw [f2];exact dq (by decide),f3.trans e3,f4.trans e4,f5.trans e5,fun k hk=>by rw [f2,dG (by decide) k hk,e2];exact dG (by decide) k hk⟩) ho
 have ne:∀{l:List Qi},cAt code p (q3 5 1 2 1::q3 11 1 0 1::l)→∀{P:Qs→Prop},(∀c',c'.pc=p+2→c'.r 1=tr (!decide (a=b))→Kr [1,3] c c'→Go code 3 c' P)→Go code 5 c P:=fun{l} hc{P} hP=>
  io hpc hc.head.1 (v:=bits .xor .u32 a b) (by rw [←h2,←h1];rfl) fun c' e1 e2 e3 e4 e5=>
   io e1 hc.head.2.head.1 (v:=tr (!decide (a=b))) (by
    show some (tr (decide (c'.r 0<c'.r 1)))=_;rw [e2,ca (by decide),h0,dq (by decide)];have:=Dz ha hw;by_cases h:a=b
    ·rw [decide_eq_false (fun x=>this.1 x h),decide_eq_true h];rfl
    ·rw [decide_eq_true (this.2 h),decide_eq_false h];rfl) fun c2 f1 f2 f3 f4 f5=>
   hP c2 f1 (by rw [f2];exact dq (by decide)) ⟨f3.trans e3,f4.trans e4,f5.trans e5,fun k hk=>by rw [f2,dG (by decide) k hk,e2];exact dG (by decide) k hk⟩
 unfold iZ at hb;obtain⟨q,hq⟩:=Option.isSome_iff_exists.1 hb;have hm:=List.mem_of_find?_eq_some hq;have he:=List.find?_some hq;have he:q.1=o:=by simpa using he
 subst he;simp only [lvL,List.mem_cons,List.not_mem_nil,or_false]at hm;rcases hm with rfl|rfl|rfl|rfl|rfl|rfl|rfl|rfl|rfl|rfl|rfl|rfl|rfl|rfl|rfl|rfl
 · -- remainder
  have hc':cAt code p [q3 1 3 1 0,qi 32 1 0 3,q3 10 3 2 1,q3 9 3 3 1,q3 2 1 2 3]:=hc;show Go code 5 c fun c'=>c'.pc=p+5∧c'.r 1=(if b=0 then a else a%b)∧Kr [1,3] c c'
  refine io hpc hc'.head.1 (v:=b) (by
   show some (wU (c.r 1+c.r 0))=_;rw [h1,h0,Int.add_zero,fy hw]) fun c1 e1 e2 e3 e4 e5=> ?_
  refine s9 (d:=1) (a:=0) (x:=3) (by rw [e1];exact hc'.head.2.head.1) ?_;rw [e2,ca (by decide),ca (by decide),h1,h0,e1];by_cases hz:b=0
  ·rw [ao hz,ao hz,kW (q:=p+4) (by rw [show((p+4:Nat):Int)-((p+1:Nat):Int)=3 by omega];rfl) (by omega) (by omega)];refine io (p:=p+4) J hc'.head.2.head.2.head.2.head.2.head.1 (v:=a) (by
    show some (wU (rp c.r 3 b 2-rp c.r 3 b 3))=_;rw [ca (by decide),dq (by decide),h2,hz,Int.sub_zero,fy ha]) fun c2 f1 f2 f3 f4 f5=> ?_
   refine Go.done (by decide) ⟨f1,by rw [f2];exact dq (by decide),f3.trans e3,f4.trans e4,f5.trans e5,fun k hk=> ?_⟩;rw [f2,dG (by decide) k hk];exact dG (by decide) k hk
  ·rw [ac hz,ac hz];have hq1:a/b*b+a%b=a:=Int.ediv_mul_add_emod a b;have hq2:=Int.emod_nonneg a hz;have hq3:=Int.emod_lt_of_pos a (b:=b) (by have:=hw.1;omega);have hq4:0≤a/b:=Int.ediv_nonneg ha.1 hw.1;have hq5:0≤a/b*b:=Int.mul_nonneg hq4 hw.1;have ha2:=ha.2;have hw2:=hw.2;refine io (p:=p+2) J hc'.head.2.head.2.head.1 (v:=a/b) (by
    show(if rp c.r 3 b 1=0 then none else some (rp c.r 3 b 2/rp c.r 3 b 1))=_;rw [ca (by decide),ca (by decide),h1,h2,ac hz]) fun c2 f1 f2 f3 f4 f5=> ?_
   refine io f1 hc'.head.2.head.2.head.2.head.1 (v:=a/b*b) (by
    show some (wU (c2.r 3*c2.r 1))=_;rw [f2];show some (wU (rp (rp c.r 3 b) 3 (a/b) 3*rp (rp c.r 3 b) 3 (a/b) 1))=_;rw [dq (by decide),ca (by decide),ca (by decide),h1,fy ⟨hq5,by omega⟩]) fun c3 g1 g2 g3 g4 g5=> ?_
   refine io g1 hc'.head.2.head.2.head.2.head.2.head.1 (v:=a%b) (by
    show some (wU (c3.r 2-c3.r 3))=_;rw [g2,f2];show some (wU (rp (rp (rp c.r 3 b) 3 (a/b)) 3 (a/b*b) 2-rp (rp (rp c.r 3 b) 3 (a/b)) 3 (a/b*b) 3))=_;rw [dq (by decide),ca (by decide),ca (by decide),ca (by decide),h2,fy (by omega)];exact congrArg some (by omega)) fun c4 k1 k2 k3 k4 k5=> ?_
   refine Go.done (by decide) ⟨k1,by rw [k2];exact dq (by decide),((k3.trans g3).trans f3).trans e3,((k4.trans g4).trans f4).trans e4,((k5.trans g5).trans f5).trans e5,fun k hk=> ?_⟩;rw [k2,dG (by decide) k hk,g2,dG (by decide) k hk,f2,dG (by decide) k hk];exact dG (by decide) k hk
 · -- quotient
  have hc':cAt code p [qi 32 1 0 2,q3 10 1 2 1]:=hc;show Go code 5 c fun c'=>c'.pc=p+2∧c'.r 1=(if b=0 then 0 else a/b)∧Kr [1,3] c c'
  refine s9 (d:=1) (a:=0) (x:=2) (by rw [hpc];exact hc'.head.1) ?_;rw [h1,h0,hpc];by_cases hz:b=0
  ·rw [ao hz,ao hz,kW (q:=p+2) (by rw [show((p+2:Nat):Int)-(p:Int)=2 by omega];rfl) (by omega) (by omega)];exact Go.done (by decide) ⟨J,h1.trans hz,J,J,J,fun _ _=>J⟩
  ·rw [ac hz,ac hz];refine io (p:=p+1) J hc'.head.2.head.1 (v:=a/b) (by
    show(if c.r 1=0 then none else some (c.r 2/c.r 1))=_;rw [h1,h2,ac hz]) fun c2 f1 f2 f3 f4 f5=> ?_
   exact Go.done (by decide) ⟨f1,by rw [f2];exact dq (by decide),f3,f4,f5,by rw [f2];exact dG (by decide)⟩
 ·exact one (op:=9) hc (by decide) (by rw [h2,h1];rfl)
 ·exact one (op:=2) hc (by decide) (by rw [h2,h1];rfl)
 ·exact one (op:=1) hc (by decide) (by rw [h2,h1];rfl)
 ·exact one (op:=7) hc (by decide) (by rw [h2,h1];rfl)
 ·exact one (op:=6) hc (by decide) (by rw [h2,h1];rfl)
 · -- at least
  have:=two (op:=11) (x:=2) (y:=1) (v:=decide (a<b)) hc (by decide) (by rw [h2,h1];rfl);show Go code 5 c fun c'=>c'.pc=p+2∧c'.r 1=tr (decide (a≥b))∧Kr [1,3] c c'
  rw [show decide (a≥b)= !decide (a<b) by rw [←decide_not];exact decide_eq_decide.2 (by omega)];exact this
 ·exact one (op:=11) (v:=tr (decide (b<a))) hc (by decide) (by rw [h2,h1];rfl)
 · -- at most
  have:=two (op:=11) (x:=1) (y:=2) (v:=decide (b<a)) hc (by decide) (by rw [h2,h1];rfl);show Go code 5 c fun c'=>c'.pc=p+2∧c'.r 1=tr (decide (a≤b))∧Kr [1,3] c c'
  rw [show decide (a≤b)= !decide (b<a) by rw [←decide_not];exact decide_eq_decide.2 (by omega)];exact this
 ·exact one (op:=11) hc (by decide) (by rw [h2,h1];rfl)
 ·exact ne (l:= []) hc fun c' e1 e2 e3=>Go.done (by decide) ⟨e1,e2,e3⟩
 · -- equal
  have hc':cAt code p [q3 5 1 2 1,q3 11 1 0 1,qi 19 1 1 1]:=hc;refine ne hc' fun c' e1 e2 e3=>iH e1 hc'.head.2.head.2.head.1 (v:=tr (decide (a=b))) (by
   show some (bits .xor .u32 (c'.r 1) 1)=_;rw [e2,I2,Bool.not_not]) fun c2 f1 f2 f3 f4 f5=> ?_
  exact Go.done (by decide) ⟨f1,by rw [f2];exact dq (by decide),f3.trans e3.m,f4.trans e3.i,f5.trans e3.o,fun k hk=>by rw [f2,dG (by decide) k hk];exact e3.r k hk⟩
 ·exact one (op:=3) hc (by decide) (by rw [h2,h1];rfl)
 ·exact one (op:=5) hc (by decide) (by rw [h2,h1];rfl)
 ·exact one (op:=4) hc (by decide) (by rw [h2,h1];rfl)
theorem Jc{p:Nat}{c:Qs}{o:Ba}{a:Int}(hb:cU o AB=true)(hc:cAt code p (AA o))(hpc:c.pc=p)(h0:c.r 0=0)(h1:c.r 1=a)(ha:oW a):
  Go code 2 c fun c'=>c'.pc=p+(AA o).length∧c'.r 1=(IH o a).getD 0∧Kr [1,2] c c':=by
 have two:∀{op x v:Int},cAt code p [qi 16 2 0 x,q3 op 1 1 2]→oW x→op<16→vh op a x=some v→Go code 2 c fun c'=>c'.pc=p+2∧c'.r 1=v∧Kr [1,2] c c':=fun{op x v} hc hx ho hv=>
  iH hpc hc.head.1 (v:=x) (by
   show some (wU (c.r 0+x))=_;rw [h0,Int.zero_add,fy hx]) fun c' e1 e2 e3 e4 e5=>
   io e1 hc.head.2.head.1 (v:=v) (by
    rw [e2];show vh op (rp c.r 2 x 1) (rp c.r 2 x 2)=_;rw [ca (by decide),dq (by decide),h1];exact hv) (fun c2 f1 f2 f3 f4 f5=>Go.done (by decide) ⟨f1,by rw [f2];exact dq (by decide),f3.trans e3,f4.trans e4,f5.trans e5,fun k hk=>by rw [f2,dG (by decide) k hk,e2];exact dG (by decide) k hk⟩) ho
 unfold cU at hb;obtain⟨q,hm,he⟩:=List.any_eq_true.1 hb;have he:o=q:=by simpa using he
 subst he;simp only [AB,List.mem_cons,List.not_mem_nil,or_false]at hm;rcases hm with rfl|rfl|rfl
 ·have hc':cAt code p [q3 2 1 0 1]:=hc;refine io hpc hc'.head.1 (v:=wU (-a)) (by
   show some (wU (c.r 0-c.r 1))=_;rw [h0,h1,Int.zero_sub]) fun c' e1 e2 e3 e4 e5=>Go.done (by decide) ⟨e1,by rw [e2];exact dq (by decide),e3,e4,e5,by rw [e2];exact dG (by decide)⟩
 ·exact two (op:=5) hc (by decide) (by decide) (show some (bits .xor .u32 a 4294967295)=some (4294967295-a) by rw [DA ha])
 ·refine two (op:=11) hc (by decide) (by decide) ?_;show some (tr (decide (a<1)))=some (tr (decide (a=0)));have:=ha.1;rw [show decide (a<1)=decide (a=0)from decide_eq_decide.2 (by omega)]
theorem Hn{p:Nat}{c:Qs}{n:Int}(hc:cAt code p (nC n))(hpc:c.pc=p)(h0:c.r 0=0)(ha:oW n):
  Go code 2 c fun c'=>c'.pc=p+(nC n).length∧c'.r 1=n∧Kr [1] c c':=by
 unfold nC at hc ⊢;by_cases h:gS n=true
 ·rw [ao h]at hc ⊢;exact iH hpc hc.head.1 (v:=n) (by
   show some (wU (c.r 0+n))=_;rw [h0,Int.zero_add,fy ha]) fun c' e1 e2 e3 e4 e5=>Go.done (by decide) ⟨e1,by rw [e2];exact dq (by decide),e3,e4,e5,by rw [e2];exact dG (by decide)⟩
 ·rw [ac h]at hc ⊢;have h1:=ha.1;have h2:=ha.2;refine HH (d:=1) (a:=0) (x:=n/1024) (by rw [hpc];exact hc.head.1) ?_;rw [fy (by omega)];refine iH (p:=p+1) (by rw [←hpc]) hc.head.2.head.1 (v:=n) (by
   show some (bits .or .u32 (rp c.r 1 (n/1024*1024) 1) (n%1024))=_;rw [dq (by decide),Mh ⟨by omega,by omega⟩ (by omega) (by omega)];exact congrArg some (by omega)) fun c' e1 e2 e3 e4 e5=>Go.done (by decide) ⟨e1,by rw [e2];exact dq (by decide),e3,e4,e5,fun k hk=>by
    rw [e2,dG (by decide) k hk];exact dG (by decide) k hk⟩
end
theorem Iw{b:Int}(hb:oW b):bits .and .u32 b 255=b%256:=by
 have h1:bits .and .u32 b 255=IntKind.u32.wrap (((BitVec.ofInt 32 b&&&BitVec.ofInt 32 255).toNat:Nat):Int):=J;have h4:=hb.1;have h5:=hb.2;have h2:(BitVec.ofInt 32 b).toNat=b.toNat:=by
  rw [BitVec.toNat_ofInt,Int.emod_eq_of_lt hb.1 (by omega)]
 have h3:(BitVec.ofInt 32 255).toNat=2^8-1:=by decide
 rw [h1,BitVec.toNat_and,h2,h3,Nat.and_two_pow_sub_one_eq_mod,bx (by omega)];omega
structure St(d F sp:Int)(c:Qs):Prop where
 z:c.r 0=0
 d:c.r 12=d
 f:c.r 13=F
 s:c.r 14=sp
theorem St.of{d F sp:Int}{c c':Qs}(h:St d F sp c)(hk:∀k:Int,k=0∨k=12∨k=13∨k=14→c'.r k=c.r k):St d F sp c':=
 ⟨(hk 0 (by simp)).trans h.z,(hk 12 (by simp)).trans h.d,(hk 13 (by simp)).trans h.f,(hk 14 (by simp)).trans h.s⟩
theorem St.kr{d F sp:Int}{c c':Qs}{ks:List Int}(h:St d F sp c)(hk:Kr ks c c')(hn:∀k∈ks,¬(k=0∨k=12∨k=13∨k=14)):St d F sp c':=
 h.of fun k hk'=>hk.r k fun hm=>hn k hm hk'
structure pSm(c:Qs)(s:Ms):Prop where
 m:∀i:Nat,i<256→c.m (8192+4*(i:Int))=s.mem i
 i:c.inp=s.inp
 o:c.out=s.out
theorem pSm.kr{c c':Qs}{s:Ms}{ks:List Int}(h:pSm c s)(hk:Kr ks c c'):pSm c' s:=⟨fun i hi=>by rw [hk.m];exact h.m i hi,hk.i.trans h.i,hk.o.trans h.o⟩
def va(o:Om)(F:Int)(x:Ba):Int:=wU (F+bk o x)
structure Fs(o:Om)(N:List Ba)(F sp:Int):Prop where
 ok:∀x∈N,yf (va o F x)∧sp≤va o F x
 inj:∀x∈N,∀y∈N,va o F x=va o F y→x=y
def Fr(o:Om)(N:List Ba)(vs:Vs)(F:Int)(m:Int→Int):Prop:=∀x∈N,m (va o F x)=oy vs x
def lo(d:Nat):Int:=16384-256*d
structure Pr(o:Om)(N:List Ba)(vs:Vs)(d:Nat)(F sp:Int)(s:Ms)(c:Qs):Prop where
 st:St d F sp c
 fs:Fs o N F sp
 fr:Fr o N vs F c.m
 sm:pSm c s
 ok:okMs s
 vs:okVs vs
 al:sp%4=0∧sp≤16384
 fu:0≤s.fuel
 d1:1≤d∧d≤12
structure XO(fs:List Tf)(N:List Ba)(t:Tx):Prop where
 g:GX t
 r:rX t=true
 e:eX fs N t=0
theorem XO.kids{fs:List Tf}{N:List Ba}{k n:Int}{nm:Ba}{v:SV}{kids:List Tx}(h:XO fs N (.mk k n nm v kids)):∀u∈kids,XO fs N u:=by
 have hr:=h.r;have he:=h.e;have hg:=h.g;have hr2:(rq k nm kids.length&&(decide (k=1) || decide (n=0))&&nW kids)=true:=hr;simp only [Bool.and_eq_true]at hr2;have he2:ju fs N kids=0:=(be.1 he).2;have hg2:GXs kids:=hg.2.2.2;clear he hr hg h;have:∀l:List Tx,GXs l→nW l=true→ju fs N l=0→∀u∈l,XO fs N u:=by
  intro l
  induction l with
  | nil=>intro _ _ _ u hu;simp at hu
  | cons t l ih=>
   intro h1 h2 h3 u hu;have h2':(rX t&&nW l)=true:=h2;rw [Bool.and_eq_true]at h2';obtain⟨h4,h5⟩:=be.1 h3;rcases List.mem_cons.1 hu with rfl|hu
   ·exact⟨h1.1,h2'.1,h4⟩
   ·exact ih h1.2 h2'.2 h5 u hu
 exact this kids hg2 hr2.2 he2
theorem Pr.of{o:Om}{N:List Ba}{vs:Vs}{d:Nat}{F sp sp':Int}{s s':Ms}{c c':Qs}(h:Pr o N vs d F sp s c)(hst:St d F sp' c')(hsm:pSm c' s')(hok:okMs s')(hfu:0≤s'.fuel)(hm:∀a,sp≤a→c'.m a=c.m a)(hs:sp'≤sp)(ha:sp'%4=0):
  Pr o N vs d F sp' s' c':=
 ⟨hst,⟨fun x hx=>⟨(h.fs.ok x hx).1,Int.le_trans hs (h.fs.ok x hx).2⟩,h.fs.inj⟩,fun x hx=>(hm _ (h.fs.ok x hx).2).trans (h.fr x hx),hsm,hok,h.vs,⟨ha,by have:=h.al;omega⟩,hfu,h.d1⟩
theorem Pr.pay{o:Om}{N:List Ba}{vs:Vs}{d:Nat}{F sp:Int}{s:Ms}{c:Qs}(h:Pr o N vs d F sp s c)(hf:¬s.fuel≤0):Pr o N vs d F sp {s with fuel:=s.fuel-1} c:=
 ⟨h.st,h.fs,h.fr,⟨h.sm.m,h.sm.i,h.sm.o⟩,(Kp.pay h.ok hf).ok,h.vs,h.al,by dsimp only;omega,h.d1⟩
def Bk(code:List Qi)(c:Qs):Prop:=code[c.pc]?=some ⟨49,0,0,0,0⟩
def XR(code:List Qi)(p':Nat)(d:Nat)(F sp:Int)(c:Qs)(s:Ms):Re Int→Prop
 | .ok v s1=>0≤s1.fuel∧Go code (100*(s.fuel-s1.fuel)-40) c fun c'=>c'.pc=p'∧c'.r 1=v∧St d F sp c'∧pSm c' s1∧∀a,sp≤a→c'.m a=c.m a
 | .err e=>e=26→Go code (100*s.fuel+50) c (Bk code)
def KR(code:List Qi)(p':Nat)(d:Nat)(F sp:Int)(c:Qs)(s:Ms)(acc:List Int)(n:Nat):Re (List Int)→Prop
 | .ok ks s1=>0≤s1.fuel∧∃new,ks=acc++new∧new.length=n∧Go code (100*(s.fuel-s1.fuel)) c fun c'=>c'.pc=p'∧St d F (sp-4*(n:Int)) c'∧pSm c' s1∧(∀a,sp≤a→c'.m a=c.m a)∧∀(i:Nat) x,new[i]?=some x→c'.m (sp-4*((i:Int)+1))=x
 | .err e=>e=26→Go code (100*s.fuel+50) c (Bk code)
def CR(code:List Qi)(q:Nat)(d:Nat)(F sp:Int)(n:Nat)(c:Qs)(s:Ms):Re Int→Prop
 | .ok v s1=>0≤s1.fuel∧Go code (100*(s.fuel-s1.fuel)+45) c fun c'=>c'.pc=q∧c'.r 1=v∧St d F sp c'∧pSm c' s1∧∀a,sp+4*(n:Int)≤a→c'.m a=c.m a
 | .err e=>e=26→Go code (100*s.fuel+100) c (Bk code)
section
variable(code:List Qi)(fs:List Tf)(S:Ba→Int)
def HX(g:Nat):Prop:=∀(d:Nat) vs t s r,jl g fs d vs t s=some r→∀o N p F sp c,XO fs N t→cAt code p (zX o S t p)→p+wX t≤1984→c.pc=p→Pr o N vs d F sp s c→lo d+16*dX t≤sp→XR code (p+wX t) d F sp c s r
def HK(g:Nat):Prop:=∀(d:Nat) vs acc l s r,jC g fs d vs acc l s=some r→∀o N p F sp c,(∀u∈l,XO fs N u)→cAt code p (vF o S l p)→p+qs l≤1984→c.pc=p→Pr o N vs d F sp s c→lo d+16*gJ l+4*l.length≤sp→KR code (p+qs l) d F sp c s acc l.length r
def HC(g:Nat):Prop:=∀(d:Nat) f al s r,qM g fs d f al s=some r→∀F sp c q,cK fs f.name=some f→al.length=f.ps.length→(∀a∈al,oW a)→c.pc=(S f.name).toNat→c.r 15=gO q→q<3000→St d F sp c→pSm c s→okMs s→0≤s.fuel→
 sp%4=0→sp+4*al.length≤16384→lo d≤sp→d≤12→(∀(i:Nat) x,al[i]?=some x→c.m (sp+4*((al.length:Int)-1-i))=x)→CR code q d F sp al.length c s r
end
theorem ut{g:Nat}{fs:List Tf}{d:Nat}{vs:Vs}{acc:List Int}{t:Tx}{l:List Tx}{s:Ms}{r:Re (List Int)}(h:jC g fs d vs acc (t::l) s=some r):
  ∃g' rx,g'<g∧jl g' fs d vs t s=some rx∧((∃v s1,rx= .ok v s1∧jC g' fs d vs (acc++ [v]) l s1=some r)∨∃e,rx= .err e∧r= .err e):=by
 cases g with
 | zero=>simp [jC]at h
 | succ g=>
  rw [jC]at h;cases hx:jl g fs d vs t s with
  | none=>rw [hx]at h;simp at h
  | some q=>
   rw [hx]at h;refine⟨g,q,Nat.lt_succ_self g,hx,?_⟩;cases q with
   | err e=>exact .inr ⟨e,rfl,(dr h).symm⟩
   | ok v s1=>exact .inl ⟨v,s1,rfl,h⟩
theorem wM{g:Nat}{fs:List Tf}{d:Nat}{vs:Vs}{acc:List Int}{s:Ms}{r:Re (List Int)}(h:jC g fs d vs acc [] s=some r):r= .ok acc s:=by
 cases g with
 | zero=>simp [jC]at h
 | succ g=>rw [jC]at h;exact(dr h).symm
section
variable{code:List Qi}{c:Qs}{p:Nat}{d F sp:Int}
theorem kj{r:Int}(hc:cAt code p (eJ r))(hpc:c.pc=p)(h:St d F sp c)(hr:r≠14)(hs:8196≤sp∧sp≤16384∧sp%4=0):
  Go code 2 c fun c'=>c'.pc=p+2∧St d F (sp-4) c'∧c'.m=mw c.m (sp-4) (c.r r)∧c'.inp=c.inp∧c'.out=c.out∧∀k,k≠14→c'.r k=c.r k:=by
 refine iH hpc hc.head.1 (v:=sp-4) (by
  show some (wU (c.r 14+4294967292))=_;rw [h.s,ng];exact congrArg some (by omega)) fun c1 e1 e2 e3 e4 e5=> ?_
 have h14:c1.r 14=sp-4:=by rw [e2];exact dq (by decide)
 have hw:wU (c1.r 14+0)=sp-4:=by rw [h14,Int.add_zero,fy (by omega)]
 have hk:∀k,k≠14→c1.r k=c.r k:=fun k hk=>by rw [e2];exact ca hk
 refine wR (d:=r) (a:=14) (x:=0) (by rw [e1];exact hc.head.2.head.1) (by rw [hw];exact⟨by omega,by omega,by omega⟩) (Go.done (by decide) ⟨by show c1.pc+1=_;rw [e1],⟨(hk 0 (by decide)).trans h.z,(hk 12 (by decide)).trans h.d,(hk 13 (by decide)).trans h.f,h14⟩,?_,e4,e5,hk⟩);show mw c1.m (wU (c1.r 14+0)) (c1.r r)=_;rw [hw,e3,hk r hr]
theorem sI{r:Int}(hc:cAt code p (jE r))(hpc:c.pc=p)(h:c.r 14=sp)(hr:r≠14∧r≠0)(hs:yf sp):
  Go code 2 c fun c'=>c'.pc=p+2∧c'.r r=c.m sp∧c'.r 14=sp+4∧Kr [r,14] c c':=by
 have hw:wU (c.r 14+0)=sp:=by rw [h,Int.add_zero,fy ⟨by have:=hs.1;omega,by have:=hs.2.1;omega⟩]
 refine wS (d:=r) (a:=14) (x:=0) (by rw [hpc];exact hc.head.1) (by rw [hw];exact hs) ?_;rw [hw];refine iH (p:=p+1) (by rw [←hpc]) hc.head.2.head.1 (v:=sp+4) (by
  show some (wU (rp c.r r (c.m sp) 14+4))=_;rw [ca (fun e=>hr.1 e.symm),h,fy ⟨by have:=hs.1;omega,by have:=hs.2.1;omega⟩]) fun c1 e1 e2 e3 e4 e5=> ?_
 refine Go.done (by decide) ⟨e1,by rw [e2,ca hr.1];exact dq hr.2,by rw [e2];exact dq (by decide),e3,e4,e5,fun k hk=> ?_⟩;simp only [List.mem_cons,List.not_mem_nil,or_false,not_or]at hk;rw [e2,ca hk.2];exact ca hk.1
theorem yX{r x:Int}(hc:cAt code p (qV r))(hpc:c.pc=p)(hr:r≠0)(h:c.r r=x)(hx:oW x):
  Go code 2 c fun c'=>c'.pc=p+2∧c'.r r=4*(x%256)∧Kr [r] c c':=by
 refine iH hpc hc.head.1 (v:=x%256) (by
  show some (bits .and .u32 (c.r r) 255)=_;rw [h,Iw hx]) fun c1 e1 e2 e3 e4 e5=> ?_
 refine iH e1 hc.head.2.head.1 (v:=4*(x%256)) (by
  show some (wU (c1.r r*2^((2:Int)%32).toNat))=_;rw [e2,dq hr,show((2:Int)^((2:Int)%32).toNat)=4 from J,fy (by omega)];exact congrArg some (by omega)) fun c2 f1 f2 f3 f4 f5=> ?_
 refine Go.done (by decide) ⟨f1,by rw [f2];exact dq hr,f3.trans e3,f4.trans e4,f5.trans e5,fun k hk=> ?_⟩;simp only [List.mem_cons,List.not_mem_nil,or_false]at hk;rw [f2,ca hk,e2];exact ca hk
end
theorem Bf{r:Int→Int}{v k:Int}:rp r 0 v k=r k:=ac fun h=>h.2 rfl
theorem rB{d:Nat}(h:d≤12):13312≤lo d:=by unfold lo;omega
theorem iY{m:Int→Int}{a v k:Int}(h:k≠a):mw m a v k=m k:=ac h
theorem nq{m:Int→Int}{a v:Int}:mw m a v a=v:=ao rfl
theorem pSm.push{c c':Qs}{s:Ms}{a v:Int}(h:pSm c s)(hm:c'.m=mw c.m a v)(hi:c'.inp=c.inp)(ho:c'.out=c.out)(ha:9216≤a):pSm c' s:=
 ⟨fun i hi=>by rw [hm,iY (by omega)];exact h.m i hi,hi.trans h.i,ho.trans h.o⟩
section
variable{code:List Qi}{fs:List Tf}{S:Ba→Int}{c:Qs}{p:Nat}{d:Nat}{F sp:Int}{o:Om}{N:List Ba}{vs:Vs}{s:Ms}
theorem Fp{g1 g2:Nat}{a b:Tx}{nm:Ba}{r1:Re Int}{w:Nat}(hF:VF fs)(h1:HX code fs S g1)(h2:HX code fs S g2)(hb:iZ nm=true)(ha:jl g1 fs d vs a s=some r1)(hva:VX fs a)(hvb:VX fs b)
  (hxa:XO fs N a) (hxb:XO fs N b) (hc:cAt code p (zX o S a p++(eJ 1++(zX o S b (p+(zX o S a p).length+2)++(jE 2++zg nm))))) (hw:w=wX a+(wX b+(4+(zg nm).length))) (hl:p+w≤1984) (hpc:c.pc=p) (hp:Pr o N vs d F sp s c) (hs1:lo d+16*dX a≤sp) (hs2:lo d+16*dX b+4≤sp)
  {r:Re Int} (hr:(∃v s1,r1= .ok v s1∧∃r2,jl g2 fs d vs b s1=some r2∧((∃x s2,r2= .ok x s2∧r= .ok ((Ir nm v x).getD 0) s2)∨∃e,r2= .err e∧r= .err e))∨∃e,r1= .err e∧r= .err e):
  XR code (p+w) d F sp c s r:=by
 have hd:=rB hp.d1.2;obtain⟨hca,hc⟩:=hc.app;obtain⟨hcp,hc⟩:=hc.app;obtain⟨hcb,hc⟩:=hc.app;obtain⟨hcq,hco⟩:=hc.app;rw [fI]at hcp hcb hcq hco;rw [fI]at hcq hco;have hX:=h1 d vs a s r1 ha o N p F sp c hxa hca (by omega) hpc hp hs1;rcases hr with⟨v,s1,rfl,r2,hb2,hr⟩|⟨e,rfl,rfl⟩
 ·obtain⟨hv,hk1⟩:=(jt hF g1).x d vs a s v s1 hva hp.vs hp.ok ha;obtain⟨hf1,hX⟩:=hX;have mid:∀c',(c'.pc=p+wX a∧c'.r 1=v∧St d F sp c'∧pSm c' s1∧∀x,sp≤x→c'.m x=c.m x)→Go code 2 c' fun c2=>c2.pc=p+wX a+2∧Pr o N vs d F (sp-4) s1 c2∧c2.m (sp-4)=v∧∀x,sp≤x→c2.m x=c.m x:=fun c' ⟨e1,e2,e3,e4,e5⟩=>
   (kj hcp e1 e3 (by decide) ⟨by omega,hp.al.2,hp.al.1⟩).weak (fun c2 ⟨f1,f2,f3,f4,f5,f6⟩=>by
    have hm:∀x,sp≤x→c2.m x=c.m x:=fun x hx=>by rw [f3,iY (by omega)];exact e5 x hx
    exact⟨f1,hp.of f2 (e4.push f3 f4 f5 (by omega)) hk1.ok hf1 hm (by omega) (by have:=hp.al;omega),by rw [f3,nq,e2],hm⟩) (Int.le_refl _)
  have hX2:=hX.seq mid (k:=100*(s.fuel-s1.fuel)-38) (by omega);rcases hr with⟨x,s2,rfl,rfl⟩|⟨e,rfl,rfl⟩
  ·obtain⟨hx,hk2⟩:=(jt hF g2).x d vs b s1 x s2 hvb hp.vs hk1.ok hb2;obtain⟨hf2,-⟩:0≤s2.fuel∧True:=by
    obtain⟨_,c2,_,_,e1,e2,e3,e4⟩:=hX2;have:=h2 d vs b s1 _ hb2 o N (p+wX a+2) F (sp-4) c2 hxb hcb (by omega) e1 e2 (by omega);exact⟨this.1,O⟩
   refine⟨hf2,hX2.seq (m:=100*(s1.fuel-s2.fuel)-33) (fun c2 ⟨e1,e2,e3,e4⟩=> ?_) (by omega)⟩;have hX3:=(h2 d vs b s1 _ hb2 o N (p+wX a+2) F (sp-4) c2 hxb hcb (by omega) e1 e2 (by omega)).2;refine hX3.seq (m:=7) (fun c3 ⟨f1,f2,f3,f4,f5⟩=> ?_) (by omega);refine(sI (p:=p+wX a+2+wX b) (r:=2) hcq f1 f3.s (by decide) ⟨by omega,by have:=hp.al;omega,by have:=hp.al;omega⟩).seq (m:=5) (fun c4 ⟨g1,g2,g3,g4⟩=> ?_) (by omega);have h0:c4.r 0=0:=(g4.r 0 (by decide)).trans f3.z;have h2':c4.r 2=v:=by rw [g2,f5 _ (Int.le_refl _),e3]
   have h1':c4.r 1=x:=(g4.r 1 (by decide)).trans f2;refine(JH (p:=p+wX a+2+wX b+2) hb hco (by omega) g1 h0 h2' h1' hv hx).weak (fun c5 ⟨k1,k2,k3⟩=>⟨by rw [k1];omega,k2,?_,(f4.kr g4).kr k3,fun a ha=> ?_⟩) (Int.le_refl _)
   ·exact⟨(k3.r 0 (by decide)).trans h0,((k3.r 12 (by decide)).trans (g4.r 12 (by decide))).trans f3.d,((k3.r 13 (by decide)).trans (g4.r 13 (by decide))).trans f3.f,((k3.r 14 (by decide)).trans g3).trans (by omega)⟩
   ·rw [k3.m,g4.m,f5 a (by omega),e4 a ha]
  ·intro he;refine hX2.seq (m:=100*s1.fuel+50) (fun c2 ⟨e1,e2,e3,e4⟩=> ?_) (by omega);exact h2 d vs b s1 _ hb2 o N (p+wX a+2) F (sp-4) c2 hxb hcb (by omega) e1 e2 (by omega) he
 ·exact hX
end
section
variable{code:List Qi}{fs:List Tf}{S:Ba→Int}
structure HA(code:List Qi)(fs:List Tf)(S:Ba→Int)(g:Nat):Prop where
 x:∀g'<g,HX code fs S g'
 k:∀g'<g,HK code fs S g'
 c:∀g'<g,HC code fs S g'
theorem XO.vx{N:List Ba}{t:Tx}(h:XO fs N t):VX fs t:=Ft t h.g h.r h.e
theorem XO.vxs{N:List Ba}:∀{l:List Tx},(∀u∈l,XO fs N u)→Iz fs l
 | [],_=>trivial
 | t::r,h=>⟨(h t (by simp)).vx,XO.vxs fun u hu=>h u (by simp [hu])⟩
theorem EE{g:Nat}(hF:VF fs)(ih:HA code fs S g):HK code fs S g:=by
 intro d vs acc l s r h o N p F sp c hx hc hl hpc hp hsp;have hd:=rB hp.d1.2;cases l with
 | nil=>
  rw [wM h];refine⟨hp.fu,[],by simp,rfl,Go.done (by omega) ⟨by rw [hpc];rfl,?_,hp.sm,fun _ _=>rfl,fun i x hi=>by simp at hi⟩⟩;rw [show sp-4*(([]:List Tx).length:Int)=sp by simp];exact hp.st
 | cons t l=>
  obtain⟨g',rx,hg,hx1,hr⟩:=ut h;have hdx:gJ (t::l)=max (dX t) (gJ l):=J;have hw:qs (t::l)=wX t+(2+qs l):=J;have hc':cAt code p (zX o S t p++(eJ 1++vF o S l (p+(zX o S t p).length+2))):=hc;obtain⟨hca,hc2⟩:=hc'.app;obtain⟨hcp,hcl⟩:=hc2.app;rw [fI]at hcp hcl;rw [b_]at hsp;have hX:=ih.x g' hg d vs t s rx hx1 o N p F sp c (hx t (by simp)) hca (by omega) hpc hp (by omega);rcases hr with⟨v,s1,rfl,h2⟩|⟨e,rfl,rfl⟩
  ·obtain⟨hv,hk1⟩:=(jt hF g').x d vs t s v s1 (hx t (by simp)).vx hp.vs hp.ok hx1;obtain⟨hf1,hX⟩:=hX;have mid:∀c',(c'.pc=p+wX t∧c'.r 1=v∧St d F sp c'∧pSm c' s1∧∀x,sp≤x→c'.m x=c.m x)→Go code 2 c' fun c2=>c2.pc=p+wX t+2∧Pr o N vs d F (sp-4) s1 c2∧c2.m (sp-4)=v∧∀x,sp≤x→c2.m x=c.m x:=fun c' ⟨e1,e2,e3,e4,e5⟩=>
    (kj hcp e1 e3 (by decide) ⟨by omega,hp.al.2,hp.al.1⟩).weak (fun c2 ⟨f1,f2,f3,f4,f5,f6⟩=>by
     have hm:∀x,sp≤x→c2.m x=c.m x:=fun x hx=>by rw [f3,iY (by omega)];exact e5 x hx
     exact⟨f1,hp.of f2 (e4.push f3 f4 f5 (by omega)) hk1.ok hf1 hm (by omega) (by have:=hp.al;omega),by rw [f3,nq,e2],hm⟩) (Int.le_refl _)
   have hX2:=hX.seq mid (k:=100*(s.fuel-s1.fuel)-38) (by omega);have next:∀c2,(c2.pc=p+wX t+2∧Pr o N vs d F (sp-4) s1 c2∧c2.m (sp-4)=v∧∀x,sp≤x→c2.m x=c.m x)→KR code (p+wX t+2+qs l) d F (sp-4) c2 s1 (acc++ [v]) l.length r:=fun c2 ⟨e1,e2,e3,e4⟩=>
    ih.k g' hg d vs (acc++ [v]) l s1 r h2 o N (p+wX t+2) F (sp-4) c2 (fun u hu=>hx u (by simp [hu])) hcl (by omega) e1 e2 (by omega)
   cases r with
   | err e=>
    intro he;exact hX2.seq (fun c2 hc2=>next c2 hc2 he) (by omega)
   | ok ks s2=>
    obtain⟨_,c2,_,hrn,hP⟩:=id hX2;obtain⟨hf2,new,hn1,hn2,-⟩:=next c2 hP
    refine⟨hf2,v::new,by rw [hn1,List.append_assoc];rfl,by rw [b_,hn2,b_],hX2.seq (m:=100*(s1.fuel-s2.fuel)) (fun c2 hP=> ?_) (by omega)⟩;obtain⟨-,new',hm1,hm2,hG⟩:=next c2 hP
    have:new'=new:=List.append_cancel_left (hm1.symm.trans hn1);subst this;obtain⟨e1,e2,e3,e4⟩:=hP;refine hG.weak (fun c3 ⟨f1,f2,f3,f4,f5⟩=>⟨by rw [f1,hw];omega,?_,f3,fun a ha=>by rw [f4 a (by omega),e4 a ha],fun i x hi=> ?_⟩) (Int.le_refl _)
    ·rw [show sp-4*((t::l).length:Int)=sp-4-4*(l.length:Int) by rw [b_];omega];exact f2
    ·cases i with
     | zero=>
      cases hi;rw [show sp-4*(((0:Nat):Int)+1)=sp-4 by omega,f4 _ (Int.le_refl _),e3]
     | succ i=>
      have:=f5 i x hi;rw [show sp-4*(((i+1:Nat):Int)+1)=sp-4-4*((i:Int)+1) by omega];exact this
  ·exact hX
theorem Hl{N:List Ba}{k n:Int}{nm:Ba}{v:SV}{kids:List Tx}(h:XO fs N (.mk k n nm v kids)):rq k nm kids.length=true:=by
 have hr2:(rq k nm kids.length&&(decide (k=1) || decide (n=0))&&nW kids)=true:=h.r;simp only [Bool.and_eq_true]at hr2;exact hr2.1.1
theorem Em{N:List Ba}{n:Int}{nm:Ba}{v:SV}{kids:List Tx}(h:XO fs N (.mk 2 n nm v kids)):nm∈N:=by
 have he:=h.e;have he2:(if cU nm N=true then(0:Int)else 21)=0:=(be.1 he).1;by_cases hm:cU nm N=true
 ·unfold cU at hm;obtain⟨q,h1,h2⟩:=List.any_eq_true.1 hm;have h2:nm=q:=by simpa using h2
  exact h2▸h1
 ·rw [ac hm]at he2;exact absurd he2 (by decide)
theorem Au{N:List Ba}{n:Int}{nm:Ba}{v:SV}{kids:List Tx}(h:XO fs N (.mk 3 n nm v kids)):∃f,cK fs nm=some f∧f.ps.length=kids.length:=by
 have he:=h.e;have he2:(match cK fs nm with|none=>(21:Int)|some f=>if f.ps.length=kids.length then 0 else 23)=0:=(be.1 he).1;cases hf:cK fs nm with
 | none=>
  rw [hf]at he2;have he3:(21:Int)=0:=he2;exact absurd he3 (by decide)
 | some f=>
  rw [hf]at he2;refine⟨f,J,?_⟩;by_cases hq:f.ps.length=kids.length
  ·exact hq
  ·dsimp only at he2;rw [ac hq]at he2;exact absurd he2 (by decide)
theorem pM{fs:List Tf}{x:Ba}{f:Tf}(h:cK fs x=some f):f.name=x:=by
 have:=List.find?_some h;simpa using this
structure CP(code:List Qi)(fs:List Tf)(S:Ba→Int):Prop where
 pos:∀x f,cK fs x=some f→∃p:Nat,S x=(p:Int)∧p<3000
 ps:∀x f,cK fs x=some f→f.ps.length≤4
theorem EB{g:Nat}(hF:VF fs)(hC:CP code fs S)(ih:HA code fs S g):HX code fs S g:=by
 intro d vs t s r h o N p F sp c hx hc hl hpc hp hsp;have hd:=rB hp.d1.2;cases g with
 | zero=>simp [jl]at h
 | succ g=>
  rw [jl]at h;by_cases hf:s.fuel≤0
  ·rw [ao hf]at h;cases h;intro e;exact absurd e (by decide)
  rw [ac hf]at h;have hp':=hp.pay hf;obtain⟨k,n,nm,v,kids⟩:=t;have hok:=Hl hx;have hdx:dX (.mk k n nm v kids)=gJ kids+1:=J;rw [hdx]at hsp;obtain⟨s',hs'⟩:∃s',s'={s with fuel:=s.fuel-1}:=⟨_,J⟩
  have hsf:s'.fuel=s.fuel-1:=by rw [hs']
  rw [←hs']at h hp';dsimp only [Tx.kids,Tx.kind,Tx.n,Tx.name]at h;have back:∀{r:Re Int}{p':Nat},XR code p' d F sp c s' r→XR code p' d F sp c s r:=fun{r p'} h=>by
   cases r with
   | ok v s1=>exact⟨h.1,h.2.weak (fun _ h=>h) (by omega)⟩
   | err e=>exact fun he=>(h he).weak (fun _ h=>h) (by omega)
  rcases rm hok with⟨rfl,hn⟩|⟨rfl,hn⟩|⟨rfl,hn⟩|rfl|⟨rfl,hn⟩|⟨rfl,hu,hn⟩|⟨rfl,hb,hn⟩
  · -- a number
   have:kids= []:=List.length_eq_zero_iff.1 hn;subst this;cases hk:jC g fs d vs [] [] s' with
   | none=>rw [hk]at h;simp at h
   | some q=>
    rw [hk]at h;have:=wM hk;subst this;cases h;have hc':cAt code p (nC n):=hc;refine⟨hp'.fu,(Hn hc' hpc hp.st.z hx.g.1).weak (fun c' ⟨e1,e2,e3⟩=>⟨e1,e2,hp.st.kr e3 (by decide),hp'.sm.kr e3,fun a _=>by rw [e3.m]⟩) (by omega)⟩
  · -- an input
   have:kids= []:=List.length_eq_zero_iff.1 hn;subst this;cases hk:jC g fs d vs [] [] s' with
   | none=>rw [hk]at h;simp at h
   | some q=>
    rw [hk]at h;have:=wM hk;subst this;have hc':cAt code p [⟨48,0,0,0,2⟩]:=hc;have hgo:∀{v1:Int}{s1:Ms},s1.fuel=s'.fuel→s1.out=s'.out→s1.mem=s'.mem→c.inp.headD 0=v1→c.inp.tail=s1.inp→XR code (p+1) d F sp c s (.ok v1 s1):=fun{v1 s1} e1 e2 e3 e4 e5=>by
     refine⟨by rw [e1];exact hp'.fu,J2 (by rw [hpc];exact hc'.head.1) (Go.done (by omega) ⟨by rw [hpc],by show rp c.r 1 (c.inp.headD 0) 1=v1;rw [dq (by decide),e4],hp.st.of fun k hk=>ca (by omega),⟨fun i hi=>by rw [e3];exact hp'.sm.m i hi,e5,by rw [e2];exact hp'.sm.o⟩,fun _ _=>rfl⟩)⟩
    have hin:=hp'.sm.i;cases hi:s'.inp with
    | nil=>
     rw [hi]at hin;simp only [hi]at h;cases h;exact hgo J J J (by rw [hin];rfl) (by rw [hin,hi];rfl)
    | cons a r1=>
     rw [hi]at hin;simp only [hi]at h;cases h;exact hgo J J J (by rw [hin];rfl) (by rw [hin];rfl)
  · -- a name
   have:kids= []:=List.length_eq_zero_iff.1 hn;subst this;cases hk:jC g fs d vs [] [] s' with
   | none=>rw [hk]at h;simp at h
   | some q=>
    rw [hk]at h;have:=wM hk;subst this;cases h;have hc':cAt code p [qi 23 1 13 (bk o nm)]:=hc;have hN:=Em hx;have hva:wU (c.r 13+bk o nm)=va o F nm:=by rw [hp.st.f];rfl
    refine⟨hp'.fu,wS (d:=1) (a:=13) (x:=bk o nm) (by rw [hpc];exact hc'.head.1) (by rw [hva];exact(hp.fs.ok nm hN).1) (Go.done (by omega) ⟨by rw [hpc];rfl,?_,hp.st.of fun k hk=>ca (by omega),⟨hp'.sm.m,hp'.sm.i,hp'.sm.o⟩,fun _ _=>rfl⟩)⟩;rw [hva];show rp c.r 1 (c.m (va o F nm)) 1=_;rw [dq (by decide)];exact hp.fr nm hN
  · -- a call
   obtain⟨f,hff,hfl⟩:=Au hx;have hc':cAt code p (vF o S kids p++([qi 40 15 0 (wU (S nm-((p+(vF o S kids p).length:Nat):Int)))]++if kids.length>0 then [qi 16 14 14 (4*kids.length)]else [])):=hc;have hw:wX (.mk 3 n nm v kids)=qs kids+(1+if kids.length>0 then 1 else 0):=J;rw [hw]at hl ⊢;obtain⟨hck,hc2⟩:=hc'.app;obtain⟨hcj,hca⟩:=hc2.app;rw [nI]at hcj hca;have h4:=hC.ps nm f hff;cases hk:jC g fs d vs [] kids s' with
   | none=>rw [hk]at h;simp at h
   | some q=>
    rw [hk]at h;have hK:=ih.k g (Nat.lt_succ_self g) d vs [] kids s' q hk o N p F sp c hx.kids hck (by omega) hpc hp' (by omega);cases q with
    | err e=>
     cases h;exact fun he=>(hK he).weak (fun _ h=>h) (by omega)
    | ok ks s1=>
     obtain⟨hk1,hk2,hk3⟩:=(jt hF g).k d vs [] kids s' ks s1 (XO.vxs hx.kids) hp'.vs hp'.ok (by simp) hk;obtain⟨hf1,new,hn1,hn2,hK⟩:=hK;rw [List.nil_append]at hn1;subst hn1;dsimp only at h;have h:(match cK fs nm with|none=>none|some f=>qM g fs d f ks s1)=some r:=h;rw [hff]at h;have h:qM g fs d f ks s1=some r:=h;obtain⟨pf,hpf,hpf2⟩:=hC.pos nm f hff;have hfn:=pM hff;obtain⟨q,hq⟩:∃q,q=p+qs kids+1:=⟨_,J⟩
     have mid:∀c',(c'.pc=p+qs kids∧St d F (sp-4*(kids.length:Int)) c'∧pSm c' s1∧(∀a,sp≤a→c'.m a=c.m a)∧∀(i:Nat) x,ks[i]?=some x→c'.m (sp-4*((i:Int)+1))=x)→
       Go code 1 c' fun c2=>CR code q d F (sp-4*(kids.length:Int)) kids.length c2 s1 r∧∀a,sp≤a→c2.m a=c.m a:=fun c' ⟨e1,e2,e3,e4,e5⟩=>by
      refine pi (d:=15) (a:=0) (x:=wU (S nm-((p+qs kids:Nat):Int))) (by rw [e1];exact hcj.head.1) (Go.done (by decide) ⟨?_,e4⟩);rw [e1,kW (q:=pf) (by rw [hpf]) (by omega) (by omega)];have hR:=ih.c g (Nat.lt_succ_self g) d f ks s1 r h F (sp-4*(kids.length:Int)) ⟨pf,rp c'.r 15 (gO (p+qs kids+1)),c'.m,c'.inp,c'.out⟩ q (by rw [hfn];exact hff) (by rw [hn2,hfl]) hk1 ?_ ?_ (by omega) ?_ ⟨e3.m,e3.i,e3.o⟩ hk3.ok hf1 (by have:=hp.al;omega) (by have:=hp.al;omega) (by omega) hp.d1.2 (fun i x hi=> ?_)
      ·rw [hn2]at hR;exact hR
      ·show pf=_;rw [hfn,hpf];rfl
      ·show rp c'.r 15 (gO (p+qs kids+1)) 15=_;rw [dq (by decide),hq]
      ·exact e2.of fun k hk=>by
        show rp c'.r 15 _ k=_;exact ca (by omega)
      ·have:=e5 i x hi;show c'.m _=x;rw [←this]
       congr 1
       omega
     have hM:=hK.seq mid (k:=100*(s'.fuel-s1.fuel)+1) (by omega);have pops:∀{v1:Int}{s2:Ms}(c3:Qs),c3.pc=q→c3.r 1=v1→St d F (sp-4*(kids.length:Int)) c3→pSm c3 s2→Go code 1 c3 fun c4=>c4.pc=p+(qs kids+(1+if kids.length>0 then 1 else 0))∧c4.r 1=v1∧St d F sp c4∧pSm c4 s2∧c4.m=c3.m:=fun{v1 s2} c3 f1 f2 f3 f4=>by
      by_cases hz:kids.length>0
      ·rw [ao hz]at hca ⊢;refine iH (f1.trans hq) hca.head.1 (v:=sp) (by
        show some (wU (c3.r 14+4*(kids.length:Int)))=_;rw [f3.s,fy ⟨by omega,by have:=hp.al;omega⟩];exact congrArg some (by omega)) fun c4 e1 e2 e3 e4 e5=>Go.done (by decide) ⟨by rw [e1];omega,by rw [e2,ca (by decide)];exact f2,⟨?_,?_,?_,by rw [e2];exact dq (by decide)⟩,⟨fun i hi=>by rw [e3];exact f4.m i hi,e4.trans f4.i,e5.trans f4.o⟩,e3⟩
       ·rw [e2,ca (by decide)];exact f3.z
       ·rw [e2,ca (by decide)];exact f3.d
       ·rw [e2,ca (by decide)];exact f3.f
      ·rw [ac hz];have:(kids.length:Int)=0:=by omega
       rw [this,show sp-4*0=sp by omega]at f3;exact Go.done (by decide) ⟨by rw [f1,hq];omega,f2,f3,f4,rfl⟩
     cases r with
     | err e=>exact fun he=>hM.seq (fun c2 ⟨hR,_⟩=>hR he) (by omega)
     | ok v2 s2=>
      have hf2:0≤s2.fuel:=by
       obtain⟨_,c2,_,_,hR,_⟩:=hM;exact hR.1
      refine⟨hf2,hM.seq (m:=100*(s1.fuel-s2.fuel)+46) (fun c2 ⟨hR,hm⟩=>hR.2.seq (m:=1) (fun c3 ⟨f1,f2,f3,f4,f5⟩=>(pops c3 f1 f2 f3 f4).weak (fun c4 ⟨k1,k2,k3,k4,k5⟩=>⟨k1,k2,k3,k4,fun a ha=> ?_⟩) (Int.le_refl _)) (by omega)) (by omega)⟩;rw [k5,f5 a (by omega),hm a ha]
  · -- an element of mem
   obtain⟨a,rfl⟩:=List.length_eq_one_iff.1 hn;cases hk:jC g fs d vs [] [a] s' with
   | none=>rw [hk]at h;simp at h
   | some q=>
    rw [hk]at h;obtain⟨g',rx,hg,hx1,hr⟩:=ut hk;have hxa:=hx.kids a (by simp);have hc':cAt code p (zX o S a p++(qV 1++ [qi 23 1 1 8192])):=hc;have hw:wX (.mk 4 n nm v [a])=wX a+3:=J;rw [hw]at hl ⊢;obtain⟨hca,hc2⟩:=hc'.app;obtain⟨hce,hcl⟩:=hc2.app;rw [fI]at hce hcl;have hda:gJ [a]=max (dX a) 0:=J;have hX:=ih.x g' (by omega) d vs a s' rx hx1 o N p F sp c hxa hca (by omega) hpc hp' (by omega);rcases hr with⟨x,s1,rfl,h2⟩|⟨e,rfl,rfl⟩
    ·have:=wM h2;subst this;obtain⟨hv,hk1⟩:=(jt hF g').x d vs a s' x s1 hxa.vx hp'.vs hp'.ok hx1;cases h;refine⟨hX.1,hX.2.seq (m:=3) (fun c1 ⟨e1,e2,e3,e4,e5⟩=> ?_) (by omega)⟩;refine(yX (r:=1) hce e1 (by decide) e2 hv).seq (m:=1) (fun c2 ⟨f1,f2,f3⟩=> ?_) (by decide);have hw:wU (c2.r 1+8192)=8192+4*(((x%256).toNat:Nat):Int):=by rw [f2,fy (by omega)];omega
     refine wS (d:=1) (a:=1) (x:=8192) (by rw [f1];exact hcl.head.1) (by rw [hw];exact⟨by omega,by omega,by omega⟩) (Go.done (by decide) ⟨by show c2.pc+1=_;rw [f1];omega,?_,(e3.kr f3 (by decide)).of fun k hk=>ca (by omega),?_,fun a ha=>by rw [f3.m];exact e5 a ha⟩)
     ·rw [hw];show rp c2.r 1 (c2.m (8192+4*(((x%256).toNat:Nat):Int))) 1=_;rw [dq (by decide),f3.m,e4.m _ (by omega)];rfl
     ·have:=e4.kr f3;exact⟨this.m,this.i,this.o⟩
    ·cases h;exact back hX
  · -- a unary operator
   obtain⟨a,rfl⟩:=List.length_eq_one_iff.1 hn;cases hk:jC g fs d vs [] [a] s' with
   | none=>rw [hk]at h;simp at h
   | some q=>
    rw [hk]at h;obtain⟨g',rx,hg,hx1,hr⟩:=ut hk;have hxa:=hx.kids a (by simp);have hc':cAt code p (zX o S a p++AA nm):=hc;have hw:wX (.mk 6 n nm v [a])=wX a+(AA nm).length:=J;rw [hw]at hl ⊢;obtain⟨hca,hcu⟩:=hc'.app;rw [fI]at hcu;have hda:gJ [a]=max (dX a) 0:=J;have hX:=ih.x g' (by omega) d vs a s' rx hx1 o N p F sp c hxa hca (by omega) hpc hp' (by omega);rcases hr with⟨x,s1,rfl,h2⟩|⟨e,rfl,rfl⟩
    ·have:=wM h2;subst this;obtain⟨hv,hk1⟩:=(jt hF g').x d vs a s' x s1 hxa.vx hp'.vs hp'.ok hx1;cases h;refine⟨hX.1,hX.2.seq (m:=2) (fun c1 ⟨e1,e2,e3,e4,e5⟩=> ?_) (by omega)⟩;exact(Jc hu hcu e1 e3.z e2 hv).weak (fun c2 ⟨f1,f2,f3⟩=>⟨by rw [f1];omega,f2,e3.kr f3 (by decide),e4.kr f3,fun a ha=>by rw [f3.m];exact e5 a ha⟩) (Int.le_refl _)
    ·cases h;exact back hX
  · -- a binary operator
   obtain⟨a,b,rfl⟩:∃a b,kids= [a,b]:=⟨_,_,List.eq_getElem_of_length_eq_two kids hn⟩
   cases hk:jC g fs d vs [] [a,b] s' with
   | none=>rw [hk]at h;simp at h
   | some q=>
    rw [hk]at h;obtain⟨g',rx,hg,hx1,hr⟩:=ut hk;have hxa:=hx.kids a (by simp);have hxb:=hx.kids b (by simp);have hda:gJ [a,b]=max (dX a) (max (dX b) 0):=J;have hw:wX (.mk 7 n nm v [a,b])=wX a+(wX b+(4+(zg nm).length)):=J;rcases hr with⟨x,s1,rfl,h2⟩|⟨e,rfl,rfl⟩
    ·obtain⟨g'',ry,hg2,hx2,hr2⟩:=ut h2;refine back (Fp (r:=r) hF (ih.x g' (by omega)) (ih.x g'' (by omega)) hb hx1 hxa.vx hxb.vx hxa hxb hc hw hl hpc hp' (by omega) (by omega) (.inl ⟨x,s1,J,ry,hx2,?_⟩));rcases hr2 with⟨y,s2,rfl,h3⟩|⟨e,rfl,rfl⟩
     ·have:=wM h3;subst this;cases h;exact .inl ⟨y,s2,J,J⟩
     ·cases h;exact .inr ⟨e,J,J⟩
    ·cases h;exact back (Fp (r:= .err e) hF (ih.x g' (by omega)) (ih.x g' (by omega)) hb hx1 hxa.vx hxb.vx hxa hxb hc hw hl hpc hp' (by omega) (by omega) (.inr ⟨e,J,J⟩))
end
mutual
def SO(fs:List Tf)(N:List Ba):Ty→Prop
 | .mk k nm _ es _ body _ els=>FE k nm es.length body.length els.length=true∧(∀u∈es,XO fs N u∧dX u≤8)∧(k=1∨k=2→nm∈N)∧(body.length≤1000000∧SOs fs N body)∧(els.length≤1000000∧SOs fs N els)
def SOs(fs:List Tf)(N:List Ba):List Ty→Prop
 | []=>True
 | t::r=>SO fs N t∧SOs fs N r
end
mutual
theorem SO.vy{fs:List Tf}{N:List Ba}:∀{t:Ty},SO fs N t→VY fs t
 | .mk k nm ve es vb body vl els,h=>by
  obtain⟨h1,h2,h3,⟨h4,h5⟩,h6,h7⟩:=h;have hk:=wv h1;have hes:es.length=if k=3 then 2 else 1:=hk.2.2.1
  exact⟨⟨by rw [hes];split<;>omega,by rw [hes];split<;>omega,fun h3=>by rw [hes,ao h3];exact bU _,XO.vxs fun u hu=>(h2 u hu).1⟩,⟨h4,SOs.vys h5⟩,h6,SOs.vys h7⟩
theorem SOs.vys{fs:List Tf}{N:List Ba}:∀{l:List Ty},SOs fs N l→Gr fs l
 | [],_=>trivial
 | t::r,h=>⟨h.1.vy,SOs.vys h.2⟩
end
def Kv(o:Om)(N:List Ba)(F sp:Int)(m m':Int→Int):Prop:=∀a,sp≤a→(∀x∈N,a≠va o F x)→m' a=m a
theorem Kv.trans{o:Om}{N:List Ba}{F sp:Int}{a b c:Int→Int}(h:Kv o N F sp a b)(h2:Kv o N F sp b c):Kv o N F sp a c:=fun x h3 h4=>(h2 x h3 h4).trans (h x h3 h4)
theorem Kv.of{o:Om}{N:List Ba}{F sp:Int}{a b:Int→Int}(h:∀x,sp≤x→b x=a x):Kv o N F sp a b:=fun x h3 _=>h x h3
def Ex(p' E:Nat)(q:Option Int)(c':Qs):Prop:=(q=none→c'.pc=p')∧∀v,q=some v→c'.pc=E∧c'.r 1=v
def SR(code:List Qi)(p' E:Nat)(b k:Int)(o:Om)(N:List Ba)(d:Nat)(F sp:Int)(c:Qs)(s:Ms):Re (Vs×Option Int)→Prop
 | .ok q s1=>0≤s1.fuel∧Go code (100*(s.fuel-s1.fuel)+k) c fun c'=>St d F sp c'∧pSm c' s1∧Fr o N q.1 F c'.m∧Kv o N F sp c.m c'.m∧Ex p' E q.2 c'
 | .err e=>e=26→Go code (100*s.fuel+b) c (Bk code)
def zW(o:Om)(S:Ba→Int)(E:Int)(e:Tx)(l:List Ty)(p:Nat):List Qi:=
 zX o S e p++([qi 32 1 0 (wU (((jA o S E l (p+wX e+1)).length+2:Nat):Int))]++(jA o S E l (p+wX e+1)++ [qi 40 0 0 (wU (-(((jA o S E l (p+wX e+1)).length+wX e+1:Nat):Int)))]))
section
variable(code:List Qi)(fs:List Tf)(S:Ba→Int)
def HB(g:Nat):Prop:=∀(d:Nat) vs l s r,kO g fs d vs l s=some r→∀o N p(E:Nat) F sp c,SOs fs N l→cAt code p (jA o S (E:Int) l p)→p+eK l≤1984→E≤1984→c.pc=p→Pr o N vs d F sp s c→lo d+132≤sp→SR code (p+eK l) E 50 0 o N d F sp c s r
def HS(g:Nat):Prop:=∀(d:Nat) vs t s r,nH g fs d vs t s=some r→∀o N p(E:Nat) F sp c,SO fs N t→cAt code p (zY o S (E:Int) t p)→p+wY t≤1984→E≤1984→c.pc=p→Pr o N vs d F sp s c→lo d+132≤sp→SR code (p+wY t) E 50 0 o N d F sp c s r
def HW(g:Nat):Prop:=∀(d:Nat) vs e l v s r,qL g fs d vs e l v s=some r→∀o N p(E:Nat) F sp c,XO fs N e→dX e≤8→l.length≤1000000→SOs fs N l→cAt code p (zW o S (E:Int) e l p)→p+wX e+eK l+2≤1984→E≤1984→c.pc=p+wX e→c.r 1=v→Pr o N vs d F sp s c→lo d+132≤sp→
 SR code (p+wX e+eK l+2) E 60 2 o N d F sp c s r
structure HD(g:Nat):Prop extends HA code fs S g where
 b:∀g'<g,HB code fs S g'
 s:∀g'<g,HS code fs S g'
 w:∀g'<g,HW code fs S g'
end
section
variable{code:List Qi}{fs:List Tf}{S:Ba→Int}
theorem Pr.next{o:Om}{N:List Ba}{vs vs':Vs}{d:Nat}{F sp:Int}{s s':Ms}{c c':Qs}(h:Pr o N vs d F sp s c)(hst:St d F sp c')(hsm:pSm c' s')(hfr:Fr o N vs' F c'.m)(hok:okMs s')(hvs:okVs vs')(hfu:0≤s'.fuel):Pr o N vs' d F sp s' c':=
 ⟨hst,h.fs,hfr,hsm,hok,hvs,h.al,hfu,h.d1⟩
theorem Ex.none{p' E:Nat}{c':Qs}(h:c'.pc=p'):Ex p' E none c':=⟨fun _=>h,fun v hv=>by cases hv⟩
theorem SR.up{p' E:Nat}{b b' k k':Int}{o:Om}{N:List Ba}{d:Nat}{F sp:Int}{c0:Qs}{s s0:Ms}{r:Re (Vs×Option Int)}{n:Int}{P:Qs→Prop}(hg:Go code n c0 P)(h:∀c,P c→SR code p' E b k o N d F sp c s r)(hkv:∀c,P c→Kv o N F sp c0.m c.m)
  (h1:n+100*s.fuel+b≤100*s0.fuel+b') (h2:n+100*s.fuel+k≤100*s0.fuel+k'):SR code p' E b' k' o N d F sp c0 s0 r:=by
 cases r with
 | err e=>exact fun he=>hg.seq (fun c hc=>h c hc he) (by omega)
 | ok q s1=>
  have hf:0≤s1.fuel:=by
   obtain⟨_,c2,_,_,hP⟩:=hg;exact(h c2 hP).1
  exact⟨hf,hg.seq (fun c hc=>(h c hc).2.weak (fun c' ⟨e1,e2,e3,e4,e5⟩=>⟨e1,e2,e3,(hkv c hc).trans e4,e5⟩) (Int.le_refl _)) (by omega)⟩
theorem EG{g:Nat}(hF:VF fs)(ih:HD code fs S g):HB code fs S g:=by
 intro d vs l s r h o N p E F sp c hx hc hl hE hpc hp hsp;cases g with
 | zero=>simp [kO]at h
 | succ g=>
  cases l with
  | nil=>
   rw [kO]at h;cases h;exact⟨hp.fu,Go.done (by omega) ⟨hp.st,hp.sm,hp.fr,Kv.of fun _ _=>J,Ex.none hpc⟩⟩
  | cons t l=>
   rw [kO]at h;have hc':cAt code p (zY o S E t p++jA o S E l (p+(zY o S E t p).length)):=hc;have hw:eK (t::l)=wY t+eK l:=J;obtain⟨hct,hcl⟩:=hc'.app;rw [vE]at hcl;cases hs:nH g fs d vs t s with
   | none=>rw [hs]at h;simp at h
   | some q=>
    rw [hs]at h;have hS:=ih.s g (Nat.lt_succ_self g) d vs t s q hs o N p E F sp c hx.1 hct (by omega) hE hpc hp hsp;cases q with
    | err e=>cases h;exact hS
    | ok q s1=>
     obtain⟨vs1,q⟩:=q;obtain⟨k1,k2,k3⟩:=(jt hF g).s d vs t s _ s1 hx.1.vy hp.vs hp.ok hs;cases q with
     | some v=>
      cases h;exact⟨hS.1,hS.2.weak (fun c' ⟨e1,e2,e3,e4,e5⟩=>⟨e1,e2,e3,e4,fun hq=>(by cases hq),e5.2⟩) (Int.le_refl _)⟩
     | none=>
      have h:kO g fs d vs1 l s1=some r:=h;rw [hw,←Nat.add_assoc];refine SR.up (s:=s1) (b:=50) (k:=0) hS.2 (fun c' ⟨e1,e2,e3,e4,e5⟩=> ?_) (fun c' ⟨e1,e2,e3,e4,e5⟩=>e4) (by omega) (by omega);exact ih.b g (Nat.lt_succ_self g) d vs1 l s1 r h o N (p+wY t) E F sp c' hx.2 hcl (by omega) hE (e5.1 J) (hp.next e1 e2 e3 k3.ok k1 hS.1) hsp
theorem ox(vs:Vs)(x y:Ba)(n:Int):oy (fz vs x n) y=if x=y then n else oy vs y:=fV vs x y n
theorem EC{g:Nat}(hF:VF fs)(ih:HD code fs S g):HW code fs S g:=by
 intro d vs e l v s r h o N p E F sp c hxe hde hll hxl hc hl hE hpc hv hp hsp;cases g with
 | zero=>simp [qL]at h
 | succ g=>
  rw [qL]at h;unfold zW at hc;obtain⟨hce,hc2⟩:=id hc.app;obtain⟨hcb,hc3⟩:=hc2.app;obtain⟨hcl,hcj⟩:=hc3.app;rw [fI]at hcb hcl hcj;rw [eB]at hcb hcj;have hbeq:=hcb.head.1;have hz0:∀{P:Qs→Prop}{n:Int},Go code (n-1) {c with pc:=if v=0 then p+wX e+eK l+2 else p+wX e+1} P→Go code n c P:=fun{P n} hG=>by
   refine s9 (d:=1) (a:=0) (x:=wU (((eK l+2:Nat):Int))) (by rw [hpc];exact hbeq) ?_;rw [hv,hp.st.z,hpc];by_cases hz:v=0
   ·rw [ao hz]at hG ⊢;rw [kW (q:=p+wX e+eK l+2) (by rw [show((p+wX e+eK l+2:Nat):Int)-((p+wX e:Nat):Int)=((eK l+2:Nat):Int) by omega]) (by omega) (by omega)];exact hG
   ·rw [ac hz]at hG ⊢;exact hG
  by_cases hz:v=0
  ·rw [ao hz]at h hz0;cases h;exact⟨hp.fu,hz0 (Go.done (by omega) ⟨hp.st.of fun _ _=>J,⟨hp.sm.m,hp.sm.i,hp.sm.o⟩,hp.fr,Kv.of fun _ _=>J,Ex.none J⟩)⟩
  ·rw [ac hz]at h hz0;obtain⟨c1,hc1⟩:∃c1:Qs,c1={c with pc:=p+wX e+1}:=⟨_,J⟩
   rw [←hc1]at hz0;have hp1:Pr o N vs d F sp s c1:=by rw [hc1];exact⟨hp.st.of fun _ _=>J,hp.fs,hp.fr,⟨hp.sm.m,hp.sm.i,hp.sm.o⟩,hp.ok,hp.vs,hp.al,hp.fu,hp.d1⟩
   have hm1:c1.m=c.m:=by rw [hc1]
   have hg1:Go code 1 c fun x=>x=c1:=hz0 (Go.done (by decide) J)
   cases hb:kO g fs d vs l s with
   | none=>rw [hb]at h;simp at h
   | some q=>
    rw [hb]at h;have hB:=ih.b g (Nat.lt_succ_self g) d vs l s q hb o N (p+wX e+1) E F sp c1 hxl hcl (by omega) hE (by rw [hc1]) hp1 hsp;cases q with
    | err z=>cases h;exact fun he=>hg1.seq (m:=100*s.fuel+50) (fun x hx=>by subst hx;exact hB he) (by omega)
    | ok q s1=>
     obtain⟨vs1,q⟩:=q;obtain⟨k1,k2,k3⟩:=(jt hF g).b d vs l s _ s1 hxl.vys hp.vs hp.ok hb;cases q with
     | some x=>
      cases h;exact⟨hB.1,hg1.seq (m:=100*(s.fuel-s1.fuel)) (fun x hx=>by subst hx;exact hB.2.weak (fun c' ⟨e1,e2,e3,e4,e5⟩=>⟨e1,e2,e3,by rw [←hm1];exact e4,fun hq=>(by cases hq),e5.2⟩) (by omega)) (by omega)⟩
     | none=>
      dsimp only at h;have hB2:Go code (100*(s.fuel-s1.fuel)+2) c fun c'=>St d F sp c'∧pSm c' s1∧Fr o N vs1 F c'.m∧Kv o N F sp c.m c'.m∧c'.pc=p:=hg1.seq (m:=100*(s.fuel-s1.fuel)+1) (fun x hx=>by
       subst hx;refine hB.2.seq (m:=1) (fun c' ⟨e1,e2,e3,e4,e5⟩=> ?_) (by omega);have e5:=e5.1 J;obtain⟨x,hxx⟩:∃x,x=wU (-(((eK l+wX e+1:Nat):Int))):=⟨_,J⟩
       have hj:=hcj.head.1;rw [←hxx]at hj;refine pi (d:=0) (a:=0) (x:=x) (by rw [e5];exact hj) (Go.done (by decide) ⟨e1.of fun k hk=>Bf,⟨e2.m,e2.i,e2.o⟩,e3,by rw [←hm1];exact e4,?_⟩);show ri (wU (gO c'.pc+4*x))=p;rw [e5,hxx];exact kW (by rw [show(p:Int)-((p+wX e+1+eK l:Nat):Int)= -((eK l+wX e+1:Nat):Int) by omega]) (by omega) (by omega)) (by omega)
      cases hx2:jl g fs d vs1 e s1 with
      | none=>rw [hx2]at h;simp at h
      | some q=>
       rw [hx2]at h;have hX:∀c',(St d F sp c'∧pSm c' s1∧Fr o N vs1 F c'.m∧Kv o N F sp c.m c'.m∧c'.pc=p)→XR code (p+wX e) d F sp c' s1 q:=fun c' ⟨e1,e2,e3,e4,e5⟩=>
        ih.x g (Nat.lt_succ_self g) d vs1 e s1 q hx2 o N p F sp c' hxe hce (by omega) e5 (hp.next e1 e2 e3 k3.ok k1 hB.1) (by omega)
       cases q with
       | err z=>cases h;exact fun he=>hB2.seq (m:=100*s1.fuel+50) (fun c' hc'=>hX c' hc' he) (by omega)
       | ok w s2=>
        obtain⟨w1,w2⟩:=(jt hF g).x d vs1 e s1 w s2 hxe.vx k1 k3.ok hx2;have h:qL g fs d vs1 e l w s2=some r:=h;have hf2:0≤s2.fuel:=by
         obtain⟨_,c2,_,_,hP⟩:=hB2;exact(hX c2 hP).1
        have hX2:Go code (100*(s.fuel-s2.fuel)-38) c fun c'=>(St d F sp c'∧pSm c' s2∧Fr o N vs1 F c'.m∧Kv o N F sp c.m c'.m)∧c'.pc=p+wX e∧c'.r 1=w:=hB2.seq (m:=100*(s1.fuel-s2.fuel)-40) (fun c' hc'=>(hX c' hc').2.weak (fun c2 ⟨f1,f2,f3,f4,f5⟩=>by
         obtain⟨e1,e2,e3,e4,e5⟩:=hc';exact⟨⟨f3,f4,fun x hx=>(f5 _ (hp.fs.ok x hx).2).trans (e3 x hx),e4.trans (Kv.of f5)⟩,f1,f2⟩) (Int.le_refl _)) (by omega)
        refine SR.up (s:=s2) hX2 (fun c' ⟨⟨e1,e2,e3,e4⟩,e5,e6⟩=> ?_) (fun c' h=>h.1.2.2.2) (b:=60) (k:=2) (by omega) (by omega);exact ih.w g (Nat.lt_succ_self g) d vs1 e l w s2 r h o N p E F sp c' hxe hde hll hxl (by unfold zW;exact hc) hl hE e5 e6 (hp.next e1 e2 e3 w2.ok k1 hf2) hsp
theorem Kv.mw{o:Om}{N:List Ba}{F sp:Int}{m:Int→Int}{x:Ba}{v:Int}(hx:x∈N):Kv o N F sp m (mw m (va o F x) v):=fun a _ h=>iY (h x hx)
theorem Fr.put{o:Om}{N:List Ba}{vs:Vs}{F sp:Int}{m:Int→Int}{x:Ba}{v:Int}(h:Fr o N vs F m)(hf:Fs o N F sp)(hx:x∈N):Fr o N (fz vs x v) F (mw m (va o F x) v):=fun y hy=>by
 rw [ox];by_cases e:x=y
 ·subst e;rw [ao J,nq]
 ·rw [ac e,iY fun q=>e (hf.inj x hx y hy q.symm)];exact h y hy
theorem HY{g:Nat}{d:Nat}{vs:Vs}{k:Int}{nm:Ba}{ve vb vl:SV}{e:Tx}{es:List Tx}{body els:List Ty}{s s1:Ms}{v:Int}(hf:¬s.fuel≤0)(hx:jl g fs d vs e {s with fuel:=s.fuel-1}=some (.ok v s1)):
  nH (g+1) fs d vs (.mk k nm ve (e::es) vb body vl els) s=
    if k=1∨k=2 then some (.ok (fz vs nm v,none) s1)else
    if k=3 then(match es with
     | []=>none
     | e2::_=>match jl g fs d vs e2 s1 with
      | none=>none
      | some (.err e)=>some (.err e)
      | some (.ok w s2)=>some (.ok (vs,none) {s2 with mem:=BJ s2.mem (v%256).toNat w}))else
    if k=4 then kO g fs d vs (if v=0 then els else body) s1 else
    if k=5 then qL g fs d vs e body v s1 else
    if k=6 then some (.ok (vs,some v) s1)else if k=7 then some (.ok (vs,none) {s1 with out:=s1.out++ [v]})else some (.ok (vs,none) s1):=by
 rw [nH,ac hf];dsimp only [Ty.es];rw [hx];rfl
theorem Cw{g:Nat}{d:Nat}{vs:Vs}{k:Int}{nm:Ba}{ve vb vl:SV}{e:Tx}{es:List Tx}{body els:List Ty}{s:Ms}(hf:¬s.fuel≤0)(hx:jl g fs d vs e {s with fuel:=s.fuel-1}=none):
  nH (g+1) fs d vs (.mk k nm ve (e::es) vb body vl els) s=none:=by
 rw [nH,ac hf];dsimp only [Ty.es];rw [hx]
theorem E6{g:Nat}{d:Nat}{vs:Vs}{k:Int}{nm:Ba}{ve vb vl:SV}{e:Tx}{es:List Tx}{body els:List Ty}{s:Ms}{z:Int}(hf:¬s.fuel≤0)(hx:jl g fs d vs e {s with fuel:=s.fuel-1}=some (.err z)):
  nH (g+1) fs d vs (.mk k nm ve (e::es) vb body vl els) s=some (.err z):=by
 rw [nH,ac hf];dsimp only [Ty.es];rw [hx]
theorem ED{g:Nat}(hF:VF fs)(ih:HD code fs S g):HS code fs S g:=by
 intro d vs t s r h o N p E F sp c hx hc hl hE hpc hp hsp;have hd:=rB hp.d1.2;cases g with
 | zero=>simp [nH]at h
 | succ g=>
  by_cases hf:s.fuel≤0
  ·rw [nH,ao hf]at h;cases h;intro e;exact absurd e (by decide)
  have hp':=hp.pay hf;obtain⟨k,nm,ve,es,vb,body,vl,els⟩:=t;obtain⟨hok,hes,hnm,⟨hbl,hbo⟩,hel,heo⟩:=hx;have hk:=wv hok;obtain⟨s',hs'⟩:∃s',s'={s with fuel:=s.fuel-1}:=⟨_,J⟩
  have hsf:s'.fuel=s.fuel-1:=by rw [hs']
  rw [←hs']at hp';cases es with
  | nil=>
   have:=hk.2.2.1;split at this<;>simp at this
  | cons e es=>
   have hxe:=(hes e (by simp)).1;have hde:=(hes e (by simp)).2;have hca:cAt code p (zX o S e p):=by
    have hc':=hc;unfold zY at hc';by_cases q1:k=1∨k=2
    ·rw [ao q1]at hc';exact hc'.app.1
    rw [ac q1]at hc';by_cases q3:k=3
    ·rw [ao q3]at hc';exact hc'.app.1
    rw [ac q3]at hc';by_cases q7:k=7
    ·rw [ao q7]at hc';exact hc'.app.1
    rw [ac q7]at hc';by_cases q6:k=6
    ·rw [ao q6]at hc';exact hc'.app.1
    rw [ac q6]at hc';by_cases q4:k=4
    ·rw [ao q4]at hc';exact hc'.app.1
    rw [ac q4]at hc';by_cases q5:k=5
    ·rw [ao q5]at hc';exact hc'.app.1
    rw [ac q5]at hc';exact hc'
   have hwe:wX e≤wY (.mk k nm ve (e::es) vb body vl els):=by
    unfold wY;show iD (e::es)≤_
    repeat' split
    all_goals omega
   cases hx1:jl g fs d vs e s' with
   | none=>
    rw [Cw hf (by rw [←hs'];exact hx1)]at h;cases h
   | some q=>
    have hX:=ih.x g (Nat.lt_succ_self g) d vs e s' q hx1 o N p F sp c hxe hca (by omega) hpc hp' (by omega);cases q with
    | err z=>
     rw [E6 hf (by rw [←hs'];exact hx1)]at h;cases h;exact fun he=>(hX he).weak (fun _ h=>h) (by omega)
    | ok v s1=>
     obtain⟨hv,hk1⟩:=(jt hF g).x d vs e s' v s1 hxe.vx hp'.vs hp'.ok hx1;rw [HY hf (by rw [←hs'];exact hx1)]at h;obtain⟨hf1,hX⟩:=hX;have hX1:Go code (100*(s.fuel-s1.fuel)-140) c fun c'=>c'.pc=p+wX e∧c'.r 1=v∧(∀a,sp≤a→c'.m a=c.m a)∧Pr o N vs d F sp s1 c':=hX.weak (fun c' ⟨e1,e2,e3,e4,e5⟩=>⟨e1,e2,e5,hp.of e3 e4 hk1.ok hf1 e5 (Int.le_refl _) hp.al.1⟩) (by omega)
     by_cases q1:k=1∨k=2
     · -- a variable
      rw [ao q1]at h;cases h;have hc':cAt code p (zX o S e p++ [qi 25 1 13 (bk o nm)]):=by
       have hc':=hc;unfold zY at hc';rw [ao q1]at hc';exact hc'
      have hw:wY (.mk k nm ve (e::es) vb body vl els)=wX e+1:=by unfold wY;rw [ao q1];rfl
      rw [hw];have hcs:=hc'.app.2;rw [fI]at hcs;have hN:=hnm q1;refine⟨hf1,hX1.seq (m:=1) (fun c1 ⟨e1,e2,e3,e4⟩=> ?_) (by omega)⟩;have hva:wU (c1.r 13+bk o nm)=va o F nm:=by rw [e4.st.f];rfl
      refine wR (d:=1) (a:=13) (x:=bk o nm) (by rw [e1];exact hcs.head.1) (by rw [hva];exact(hp.fs.ok nm hN).1) (Go.done (by decide) ?_);rw [hva,e2];refine⟨e4.st.of fun _ _=>J,e4.sm.push J J J (by have:=(hp.fs.ok nm hN).2;omega),e4.fr.put e4.fs hN,(Kv.of e3).trans (Kv.mw hN),Ex.none (by show c1.pc+1=_;rw [e1];rfl)⟩
     rw [ac q1]at h;by_cases q3:k=3
     · -- an element of mem
      rw [ao q3]at h;subst q3;have hn:(e::es).length=2:=by have:=hk.2.2.1;rw [ao J]at this;exact this
      obtain⟨e2,rfl⟩:∃e2,es= [e2]:=List.length_eq_one_iff.1 (by rw [b_]at hn;omega);have hc':cAt code p (zX o S e p++(eJ 1++(zX o S e2 (p+wX e+2)++(jE 2++(qV 2++ [qi 25 1 2 8192]))))):=hc;have hw:wY (.mk 3 nm ve [e,e2] vb body vl els)=wX e+(wX e2+7):=J;rw [hw]at hl ⊢;have hxe2:=(hes e2 (by simp)).1;have hde2:=(hes e2 (by simp)).2;obtain⟨-,hc2⟩:=hc'.app;obtain⟨hcp,hc3⟩:=hc2.app;obtain⟨hcx,hc4⟩:=hc3.app;obtain⟨hcq,hc5⟩:=hc4.app;obtain⟨hce,hcs⟩:=hc5.app;rw [fI]at hcp hcx hcq hce hcs;rw [fI]at hcq hce hcs;have hX2:Go code (100*(s.fuel-s1.fuel)-138) c fun c'=>c'.pc=p+wX e+2∧Pr o N vs d F (sp-4) s1 c'∧c'.m (sp-4)=v∧∀a,sp≤a→c'.m a=c.m a:=hX1.seq (m:=2) (fun c1 ⟨e1,e2,e3,e4⟩=>(kj hcp e1 e4.st (by decide) ⟨by omega,hp.al.2,hp.al.1⟩).weak (fun c2 ⟨f1,f2,f3,f4,f5,f6⟩=>by
       have hm:∀x,sp≤x→c2.m x=c1.m x:=fun x hx=>by rw [f3,iY (by omega)]
       exact⟨f1,e4.of f2 (e4.sm.push f3 f4 f5 (by omega)) hk1.ok hf1 hm (by omega) (by have:=hp.al;omega),by rw [f3,nq,e2],fun a ha=>(hm a ha).trans (e3 a ha)⟩) (Int.le_refl _)) (by omega)
      dsimp only at h;cases hx2:jl g fs d vs e2 s1 with
      | none=>rw [hx2]at h;simp at h
      | some q=>
       rw [hx2]at h;have hY:∀c',(c'.pc=p+wX e+2∧Pr o N vs d F (sp-4) s1 c'∧c'.m (sp-4)=v∧∀a,sp≤a→c'.m a=c.m a)→XR code (p+wX e+2+wX e2) d F (sp-4) c' s1 q:=fun c' ⟨f1,f2,f3,f4⟩=>
        ih.x g (Nat.lt_succ_self g) d vs e2 s1 q hx2 o N (p+wX e+2) F (sp-4) c' hxe2 hcx (by omega) f1 f2 (by omega)
       cases q with
       | err z=>cases h;exact fun he=>hX2.seq (fun c' hc'=>hY c' hc' he) (by omega)
       | ok w s2=>
        cases h;obtain⟨hw1,hw2⟩:=(jt hF g).x d vs e2 s1 w s2 hxe2.vx hp.vs hk1.ok hx2;have hf2:0≤s2.fuel:=by
         obtain⟨_,c2,_,_,hP⟩:=hX2;exact(hY c2 hP).1
        refine⟨hf2,hX2.seq (m:=100*(s1.fuel-s2.fuel)-35) (fun c2 hc2=>(hY c2 hc2).2.seq (m:=5) (fun c3 ⟨g1,g2,g3,g4,g5⟩=> ?_) (by omega)) (by dsimp only;omega)⟩;obtain⟨f1,f2,f3,f4⟩:=hc2;refine(sI (r:=2) hcq g1 g3.s (by decide) ⟨by omega,by have:=hp.al;omega,by have:=hp.al;omega⟩).seq (m:=3) (fun c4 ⟨i1,i2,i3,i4⟩=> ?_) (by decide);have h2:c4.r 2=v:=by rw [i2,g5 _ (Int.le_refl _),f3]
        refine(yX (r:=2) hce i1 (by decide) h2 hv).seq (m:=1) (fun c5 ⟨j1,j2,j3⟩=> ?_) (by decide);have hwa:wU (c5.r 2+8192)=8192+4*(((v%256).toNat:Nat):Int):=by rw [j2,fy (by omega)];omega
        have hst:St d F sp c5:=⟨((j3.r 0 (by decide)).trans (i4.r 0 (by decide))).trans g3.z,((j3.r 12 (by decide)).trans (i4.r 12 (by decide))).trans g3.d,((j3.r 13 (by decide)).trans (i4.r 13 (by decide))).trans g3.f,((j3.r 14 (by decide)).trans i3).trans (by omega)⟩
        have hm5:c5.m=c3.m:=j3.m.trans i4.m;have hr1:c5.r 1=w:=((j3.r 1 (by decide)).trans (i4.r 1 (by decide))).trans g2;have hsm:=(g4.kr i4).kr j3;have hkv:∀a,sp≤a→c5.m a=c.m a:=fun a ha=>by rw [hm5,g5 a (by omega),f4 a ha]
        refine wR (d:=1) (a:=2) (x:=8192) (by rw [j1];exact hcs.head.1) (by rw [hwa];exact⟨by omega,by omega,by omega⟩) (Go.done (by decide) ?_);rw [hwa,hr1];refine⟨hst.of fun _ _=>J,⟨fun i hi=> ?_,hsm.i,hsm.o⟩,fun x hx=> ?_,fun a ha _=> ?_,Ex.none (by show c5.pc+1=_;rw [j1];simp only [eJ,jE,b_,cj];omega)⟩
        ·show mw c5.m _ w _=BJ s2.mem _ w i;unfold BJ;by_cases hi2:i=(v%256).toNat
         ·rw [ao hi2,hi2,nq]
         ·rw [ac hi2,iY (by omega)];exact hsm.m i hi
        ·have:=(hp.fs.ok x hx).2;show mw c5.m _ w _=_;rw [iY (by omega),hkv _ this];exact hp.fr x hx
        ·show mw c5.m _ w _=_;rw [iY (by omega),hkv a ha]
     rw [ac q3]at h;by_cases q4:k=4
     · -- if
      rw [ao q4]at h;subst q4;obtain⟨je,hje⟩:∃je:Nat,je=if els.length>0 then 1 else 0:=⟨_,J⟩
      have hc':cAt code p (zX o S e p++([qi 32 1 0 (wU (((jA o S E body (p+wX e+1)).length+(if els.length>0 then 1 else 0)+1:Nat):Int))]++(jA o S E body (p+wX e+1)++
       ((if els.length>0 then [qi 40 0 0 (wU (((jA o S E els (p+wX e+1+(jA o S E body (p+wX e+1)).length+(if els.length>0 then 1 else 0))).length+1:Nat):Int))]else [])++
        jA o S E els (p+wX e+1+(jA o S E body (p+wX e+1)).length+(if els.length>0 then 1 else 0)))))):=hc
      rw [←hje]at hc';have hw:wY (.mk 4 nm ve (e::es) vb body vl els)=wX e+(eK body+(eK els+(1+je))):=by
       show iD (e::es)+(eK body+(eK els+if els.length>0 then 2 else 1))=_;rw [hje];show wX e+_=_;split<;>omega
      rw [hw]at hl ⊢;obtain⟨-,hc2⟩:=hc'.app;obtain⟨hcb,hc3⟩:=hc2.app;obtain⟨hcl,hc4⟩:=hc3.app;obtain⟨hcj,hcel⟩:=hc4.app;simp only [fI,eB]at hcb hcl hcj hcel;have hjl:(if els.length>0 then [qi 40 0 0 (wU ((eK els+1:Nat):Int))]else []).length=je:=by rw [hje];split<;>rfl
      rw [hjl]at hcel;have hbeq:=hcb.head.1;have hX3:Go code (100*(s.fuel-s1.fuel)-139) c fun c'=>c'.pc=(if v=0 then p+wX e+1+eK body+je else p+wX e+1)∧(∀a,sp≤a→c'.m a=c.m a)∧Pr o N vs d F sp s1 c':=hX1.seq (m:=1) (fun c1 ⟨e1,e2,e3,e4⟩=>by
       refine s9 (d:=1) (a:=0) (x:=wU (((eK body+je+1:Nat):Int))) (by rw [e1];exact hbeq) (Go.done (by decide) ⟨?_,e3,⟨e4.st.of fun _ _=>J,e4.fs,e4.fr,⟨e4.sm.m,e4.sm.i,e4.sm.o⟩,e4.ok,e4.vs,e4.al,e4.fu,e4.d1⟩⟩);show(if c1.r 1=c1.r 0 then _ else c1.pc+1)=_;rw [e2,e4.st.z,e1];by_cases hz:v=0
       ·rw [ao hz,ao hz];exact kW (by rw [show((p+wX e+1+eK body+je:Nat):Int)-((p+wX e:Nat):Int)=((eK body+je+1:Nat):Int) by omega]) (by omega) (by omega)
       ·rw [ac hz,ac hz]) (by omega)
      by_cases hz:v=0
      ·rw [ao hz]at h hX3;refine SR.up (s:=s1) hX3 (fun c' ⟨e1,e2,e3⟩=> ?_) (fun c' ⟨e1,e2,e3⟩=>Kv.of e2) (b:=50) (k:=0) (by omega) (by omega);have:=ih.b g (Nat.lt_succ_self g) d vs els s1 r h o N (p+wX e+1+eK body+je) E F sp c' heo hcel (by omega) hE e1 e3 hsp;rw [show p+(wX e+(eK body+(eK els+(1+je))))=p+wX e+1+eK body+je+eK els by omega];exact this
      ·rw [ac hz]at h hX3;have hB:∀c',(c'.pc=p+wX e+1∧(∀a,sp≤a→c'.m a=c.m a)∧Pr o N vs d F sp s1 c')→SR code (p+wX e+1+eK body) E 50 0 o N d F sp c' s1 r:=fun c' ⟨e1,e2,e3⟩=>
        ih.b g (Nat.lt_succ_self g) d vs body s1 r h o N (p+wX e+1) E F sp c' hbo hcl (by omega) hE e1 e3 hsp
       cases r with
       | err z=>exact fun he=>hX3.seq (fun c' hc'=>hB c' hc' he) (by omega)
       | ok q s2=>
        have hf2:0≤s2.fuel:=by
         obtain⟨_,c2,_,_,hP⟩:=hX3;exact(hB c2 hP).1
        refine⟨hf2,hX3.seq (m:=100*(s1.fuel-s2.fuel)+1) (fun c2 hc2=>(hB c2 hc2).2.seq (m:=1) (fun c3 ⟨f1,f2,f3,f4,f5⟩=> ?_) (by omega)) (by omega)⟩;obtain⟨g1,g2,g3⟩:=hc2;have hkv:=(Kv.of (o:=o) (N:=N) (F:=F) g2).trans f4;obtain⟨vs2,q⟩:=q;cases q with
        | some x=>exact Go.done (by decide) ⟨f1,f2,f3,hkv,fun hq=>(by cases hq),f5.2⟩
        | none=>
         have f6:=f5.1 J;by_cases hz2:els.length>0
         ·rw [ao hz2]at hcj hje;refine pi (d:=0) (a:=0) (x:=wU ((eK els+1:Nat):Int)) (by rw [f6];exact hcj.head.1) (Go.done (by decide) ⟨f1.of fun k hk=>Bf,⟨f2.m,f2.i,f2.o⟩,f3,hkv,Ex.none ?_⟩);show ri _=_;rw [f6];exact kW (by rw [show((p+(wX e+(eK body+(eK els+(1+je)))):Nat):Int)-((p+wX e+1+eK body:Nat):Int)=((eK els+1:Nat):Int) by omega]) (by omega) (by omega)
         ·rw [ac hz2]at hje;have:els= []:=List.length_eq_zero_iff.1 (by omega);subst this;have hw0:eK []=0:=J;exact Go.done (by decide) ⟨f1,f2,f3,hkv,Ex.none (by rw [f6];omega)⟩
     rw [ac q4]at h;by_cases q5:k=5
     · -- while
      rw [ao q5]at h;subst q5;have hc':cAt code p (zW o S E e body p):=hc;have hw:wY (.mk 5 nm ve (e::es) vb body vl els)=wX e+(eK body+2):=J;rw [hw]at hl ⊢;refine SR.up (s:=s1) hX1 (fun c' ⟨e1,e2,e3,e4⟩=> ?_) (fun c' ⟨e1,e2,e3,e4⟩=>Kv.of e3) (b:=60) (k:=2) (by omega) (by omega);have:=ih.w g (Nat.lt_succ_self g) d vs e body v s1 r h o N p E F sp c' hxe hde hbl hbo hc' (by omega) hE e1 e2 e4 hsp;rw [show p+(wX e+(eK body+2))=p+wX e+eK body+2 by omega];exact this
     rw [ac q5]at h;by_cases q6:k=6
     · -- return
      rw [ao q6]at h;subst q6;cases h;have hc':cAt code p (zX o S e p++ [qi 40 0 0 (wU ((E:Int)-((p+wX e:Nat):Int)))]):=hc;have hw:wY (.mk 6 nm ve (e::es) vb body vl els)=wX e+1:=J;rw [hw]at hl ⊢;have hcs:=hc'.app.2;rw [fI]at hcs;refine⟨hf1,hX1.seq (m:=1) (fun c1 ⟨e1,e2,e3,e4⟩=> ?_) (by omega)⟩;refine pi (d:=0) (a:=0) (x:=wU ((E:Int)-((p+wX e:Nat):Int))) (by rw [e1];exact hcs.head.1) (Go.done (by decide) ⟨e4.st.of fun k hk=>Bf,⟨e4.sm.m,e4.sm.i,e4.sm.o⟩,e4.fr,Kv.of e3,fun hq=>(by cases hq),fun y hy=> ?_⟩);cases hy;refine⟨?_,by show rp c1.r 0 (gO (c1.pc+1)) 1=_;rw [Bf];exact e2⟩;show ri _=_;rw [e1];exact kW J (by omega) (by omega)
     rw [ac q6]at h;by_cases q7:k=7
     · -- out
      rw [ao q7]at h;subst q7;cases h;have hc':cAt code p (zX o S e p++ [⟨48,0,0,0,1⟩]):=hc;have hw:wY (.mk 7 nm ve (e::es) vb body vl els)=wX e+1:=J;rw [hw]at hl ⊢;have hcs:=hc'.app.2;rw [fI]at hcs;refine⟨hf1,hX1.seq (m:=1) (fun c1 ⟨e1,e2,e3,e4⟩=> ?_) (by dsimp only;omega)⟩;refine HG (by rw [e1];exact hcs.head.1) (Go.done (by decide) ⟨e4.st.of fun _ _=>J,⟨e4.sm.m,e4.sm.i,?_⟩,e4.fr,Kv.of e3,Ex.none (by show c1.pc+1=_;rw [e1];rfl)⟩);show c1.out++ [c1.r 1]=s1.out++ [v];rw [e2,e4.sm.o]
     rw [ac q7]at h
     -- an expression alone
     have q8:k=8:=by omega
     subst q8;cases h;have hw:wY (.mk 8 nm ve (e::es) vb body vl els)=wX e:=J;rw [hw];exact⟨hf1,hX1.weak (fun c1 ⟨e1,e2,e3,e4⟩=>⟨e4.st,e4.sm,e4.fr,Kv.of e3,Ex.none e1⟩) (by omega)⟩
end
structure pFO(fs:List Tf)(f:Tf)(N:List Ba):Prop where
 so:SOs fs N f.body
 ps4:f.ps.length≤4
 nv:(cQ f).2.toNat≤12
 nd:f.ps.Nodup
 off:∀x∈N,(∃i:Nat,f.ps[i]?=some x∧bk (cQ f).1 x=8+4*((f.ps.length:Int)-1-i))∨(x∉f.ps∧∃j:Nat,1≤j∧j≤(cQ f).2.toNat∧bk (cQ f).1 x=wU (-(4*(j:Int))))
 inj:∀x∈N,∀y∈N,bk (cQ f).1 x=bk (cQ f).1 y→x=y
structure CF(code:List Qi)(fs:List Tf)(S:Ba→Int):Prop where
 fn:∀x f,cK fs x=some f→∃p:Nat,S x=(p:Int)∧cAt code p (zF S f p)∧p+wF f≤1984
 ok:∀x f,cK fs x=some f→∃N,pFO fs f N
theorem CF.cp{code:List Qi}{fs:List Tf}{S:Ba→Int}(h:CF code fs S):CP code fs S:=
 ⟨fun x f hf=>by obtain⟨p,h1,h2,h3⟩:=h.fn x f hf;exact⟨p,h1,by omega⟩,fun x f hf=>by obtain⟨N,hN⟩:=h.ok x f hf;exact hN.ps4⟩
theorem mK:∀(ps:List Ba)(al:List Int)(vs:Vs)(x:Ba),x∉ps→oy (gN vs ps al) x=oy vs x
 | [],al,vs,x,h=>by unfold gN;rfl
 | p::ps,[],vs,x,h=>by unfold gN;rfl
 | p::ps,a::al,vs,x,h=>by
  rw [List.mem_cons,not_or]at h;show oy (gN (fz vs p a) ps al) x=_;rw [mK ps al _ x h.2,ox,ac fun e=>h.1 e.symm]
theorem tF:∀(ps:List Ba)(al:List Int)(vs:Vs)(i:Nat)(x:Ba)(a:Int),ps.Nodup→ps[i]?=some x→al[i]?=some a→oy (gN vs ps al) x=a
 | [],al,vs,i,x,a,_,h,_=>by simp at h
 | p::ps,[],vs,i,x,a,_,_,h=>by simp at h
 | p::ps,b::al,vs,i,x,a,hn,h1,h2=>by
  rw [List.nodup_cons]at hn;show oy (gN (fz vs p b) ps al) x=_;cases i with
  | zero=>
   cases h1;cases h2;rw [mK ps al _ p hn.1,ox,ao J]
  | succ i=>exact tF ps al _ i x a hn.2 h1 h2
section
variable{code:List Qi}{fs:List Tf}{S:Ba→Int}
theorem t6{d F:Int}:∀(n:Nat){p:Nat}{sp:Int}{c:Qs}{s:Ms},cAt code p (h_ n)→c.pc=p→St d F sp c→9216+4*(n:Int)≤sp→sp≤16384→sp%4=0→pSm c s→
  Go code (2*(n:Int)) c fun c'=>c'.pc=p+2*n∧St d F (sp-4*(n:Int)) c'∧pSm c' s∧(∀a,sp≤a→c'.m a=c.m a)∧∀j:Nat,1≤j→j≤n→c'.m (sp-4*(j:Int))=0
 | 0,p,sp,c,s,_,hpc,h,_,_,_,hs=>Go.done (by omega) ⟨hpc,by rw [show sp-4*((0:Nat):Int)=sp by omega];exact h,hs,fun _ _=>rfl,fun j h1 h2=>by omega⟩
 | n+1,p,sp,c,s,hc,hpc,h,h1,h2,h3,hs=>by
  have hc':cAt code p (eJ 0++h_ n):=hc;obtain⟨hc1,hc2⟩:=hc'.app;refine(kj hc1 hpc h (by decide) ⟨by omega,h2,h3⟩).seq (m:=2*(n:Int)) (fun c1 ⟨e1,e2,e3,e4,e5,e6⟩=> ?_) (by omega);refine(t6 n (p:=p+2) (sp:=sp-4) hc2 e1 e2 (by omega) (by omega) (by omega) (hs.push e3 e4 e5 (by omega))).weak (fun c2 ⟨f1,f2,f3,f4,f5⟩=>⟨by rw [f1];omega,?_,f3,fun a ha=> ?_,fun j hj1 hj2=> ?_⟩) (Int.le_refl _)
  ·rw [show sp-4*((n+1:Nat):Int)=sp-4-4*(n:Int) by omega];exact f2
  ·rw [f4 a (by omega),e3,iY (by omega)]
  ·by_cases hj:j=1
   ·subst hj;rw [show sp-4*((1:Nat):Int)=sp-4 by omega,f4 _ (Int.le_refl _),e3,nq,h.z]
   ·have:=f5 (j-1) (by omega) (by omega);rw [show sp-4*(j:Int)=sp-4-4*((j-1:Nat):Int) by omega];exact this
theorem EF{g:Nat}(hF:VF fs)(hC:CF code fs S)(ih:HD code fs S g):HC code fs S g:=by
 intro d f al s r h F sp c q hff hal hao hpc h15 hq hst hsm hok hfu ha hsp hlo hd hargs;have hlo':=rB hd;cases g with
 | zero=>simp [qM]at h
 | succ g=>
  rw [qM]at h;obtain⟨pf,hpf,hcf,hpl⟩:=hC.fn _ _ hff;obtain⟨N,hN⟩:=hC.ok _ _ hff;obtain⟨nv,hnv⟩:∃nv,nv=(cQ f).2.toNat:=⟨_,J⟩
  obtain⟨o,ho⟩:∃o,o=(cQ f).1:=⟨_,J⟩
  have hv12:=hN.nv;have h4:=hN.ps4;have hoff:=hN.off;have hinj:=hN.inj;rw [←ho,←hnv]at hoff;rw [←ho]at hinj;rw [←hnv]at hv12;have hwf:wF f=17+2*nv+eK f.body:=by rw [hnv];rfl
  have hcf':cAt code pf ([qi 16 12 12 1,qi 16 2 0 12,qi 35 2 12 2,⟨49,0,0,0,0⟩]++(eJ 15++(eJ 13++([q3 1 13 14 0]++(h_ nv++
   (jA o S ((pf+10+2*nv+eK f.body:Nat):Int) f.body (pf+9+2*nv)++([q3 1 1 0 0,q3 1 14 13 0]++(jE 13++(jE 15++ [qi 16 12 12 4294967295,qi 27 0 15 0]))))))))):=by
   rw [hnv,ho];exact hcf
  obtain⟨hA,hcf'⟩:=hcf'.app;obtain⟨hP15,hcf'⟩:=hcf'.app;obtain⟨hP13,hcf'⟩:=hcf'.app;obtain⟨hAdd,hcf'⟩:=hcf'.app;obtain⟨hP0,hcf'⟩:=hcf'.app;obtain⟨hBody,hcf'⟩:=hcf'.app;obtain⟨hR,hcf'⟩:=hcf'.app;obtain⟨hQ13,hcf'⟩:=hcf'.app;obtain⟨hQ15,hEnd⟩:=hcf'.app;simp only [ja,eB,eJ,jE,b_,cj,Nat.zero_add,Nat.reduceAdd]at hP15 hP13 hAdd hP0 hBody hR hQ13 hQ15 hEnd;have hpc0:c.pc=pf:=by rw [hpc,hpf];rfl
  have hdc:(d:Int)≤12:=by omega
  have hstart:Go code 3 c fun c3=>c3.pc=(if d=12 then pf+3 else pf+4)∧St ((d:Int)+1) F sp c3∧c3.r 15=gO q∧pSm c3 s∧c3.m=c.m:=by
   refine iH hpc0 hA.head.1 (v:=(d:Int)+1) (by
    show some (wU (c.r 12+1))=_;rw [hst.d,fy (by omega)]) fun c1 e1 e2 e3 e4 e5=> ?_
   refine iH e1 hA.head.2.head.1 (v:=12) (by
    show some (wU (c1.r 0+12))=_;rw [e2,ca (by decide),hst.z];rfl) fun c2 f1 f2 f3 f4 f5=> ?_
   refine EI (d:=2) (a:=12) (x:=2) (by rw [f1];exact hA.head.2.head.2.head.1) (Go.done (by decide) ⟨?_,⟨?_,?_,?_,?_⟩,?_,⟨fun i hi=> ?_,(f4.trans e4).trans hsm.i,(f5.trans e5).trans hsm.o⟩,f3.trans e3⟩)
   ·show(if c2.r 2≥c2.r 12 then _ else c2.pc+1)=_;rw [f2,dq (by decide),ca (by decide),e2,dq (by decide),f1];by_cases h12:d=12
    ·rw [ac (by omega),ao h12]
    ·rw [ao (by omega),ac h12];exact kW (by rw [show((pf+4:Nat):Int)-((pf+1+1:Nat):Int)=2 by omega];rfl) (by omega) (by omega)
   ·show c2.r 0=0;rw [f2,ca (by decide),e2,ca (by decide)];exact hst.z
   ·show c2.r 12=_;rw [f2,ca (by decide),e2,dq (by decide)]
   ·show c2.r 13=_;rw [f2,ca (by decide),e2,ca (by decide)];exact hst.f
   ·show c2.r 14=_;rw [f2,ca (by decide),e2,ca (by decide)];exact hst.s
   ·show c2.r 15=_;rw [f2,ca (by decide),e2,ca (by decide)];exact h15
   ·show c2.m _=_;rw [f3,e3];exact hsm.m i hi
  by_cases h12:d=12
  ·rw [ao h12]at h hstart;cases h;exact fun _=>hstart.weak (fun c3 ⟨e1,_⟩=>by unfold Bk;rw [e1];exact hA.head.2.head.2.head.2.head.1) (by omega)
  rw [ac h12]at h hstart;have hlo1:lo d=lo (d+1)+256:=by unfold lo;omega
  have hlo2:=rB (d:=d+1) (by omega)
  -- the frame
  have hframe:Go code (8+2*(nv:Int)) c fun c'=>c'.pc=pf+9+2*nv∧Pr o N (gN [] f.ps al) (d+1) (sp-8) (sp-8-4*(nv:Int)) s c'∧c'.m (sp-8)=F∧c'.m (sp-4)=gO q∧∀a,sp≤a→c'.m a=c.m a:=by
   refine hstart.seq (m:=5+2*(nv:Int)) (fun c3 ⟨e1,e2,e3,e4,e5⟩=> ?_) (by omega);refine(kj hP15 e1 e2 (by decide) ⟨by omega,by omega,ha⟩).seq (m:=3+2*(nv:Int)) (fun c4 ⟨f1,f2,f3,f4,f5,f6⟩=> ?_) (by omega);refine(kj hP13 f1 f2 (by decide) ⟨by omega,by omega,by omega⟩).seq (m:=1+2*(nv:Int)) (fun c5 ⟨g1,g2,g3,g4,g5,g6⟩=> ?_) (by omega);refine io g1 hAdd.head.1 (v:=sp-8) (by
    show some (wU (c5.r 14+c5.r 0))=_;rw [g2.s,g2.z,fy (by omega)];exact congrArg some (by omega)) fun c6 i1 i2 i3 i4 i5=> ?_
   have hst6:St ((d:Int)+1) (sp-8) (sp-8) c6:=⟨by rw [i2,ca (by decide)];exact g2.z,by rw [i2,ca (by decide)];exact g2.d,by rw [i2];exact dq (by decide),by rw [i2,ca (by decide),g2.s];omega⟩
   have hsm6:pSm c6 s:=by
    have h5:=(e4.push f3 f4 f5 (by omega)).push g3 g4 g5 (by omega);exact⟨fun i hi=>by rw [i3];exact h5.m i hi,i4.trans h5.i,i5.trans h5.o⟩
   have hm8:c6.m (sp-8)=F:=by
    rw [i3,g3,show sp-8=sp-4-4 by omega,nq,f6 13 (by decide)];exact e2.f
   have hm4:c6.m (sp-4)=gO q:=by
    rw [i3,g3,iY (by omega),f3,nq];exact e3
   have hmh:∀a,sp≤a→c6.m a=c.m a:=fun a ha=>by rw [i3,g3,iY (by omega),f3,iY (by omega),e5]
   refine(t6 nv (p:=pf+9) (s:=s) hP0 i1 hst6 (by omega) (by omega) (by omega) hsm6).weak (fun c7 ⟨j1,j2,j3,j4,j5⟩=>⟨j1,⟨by rw [show(((d+1:Nat):Int))=(d:Int)+1 by omega];exact j2,⟨fun x hx=> ?_,fun x hx y hy e=> ?_⟩,fun x hx=> ?_,j3,hok,?_,⟨by omega,by omega⟩,hfu,⟨by omega,by omega⟩⟩,by rw [j4 _ (Int.le_refl _)];exact hm8,by rw [j4 _ (by omega)];exact hm4,fun a ha=>by rw [j4 a (by omega)];exact hmh a ha⟩) (by omega)
   ·rcases hoff x hx with⟨i,hi,he⟩|⟨_,j,hj1,hj2,he⟩
    ·obtain⟨hil,-⟩:=cC.1 hi;have:va o (sp-8) x=sp+4*((f.ps.length:Int)-1-i):=by unfold va;rw [he,fy (by omega)];omega
     rw [this];exact⟨⟨by omega,by omega,by omega⟩,by omega⟩
    ·have:va o (sp-8) x=sp-8-4*(j:Int):=by unfold va;rw [he,ng,ng];omega
     rw [this];exact⟨⟨by omega,by omega,by omega⟩,by omega⟩
   ·refine hinj x hx y hy ?_;unfold va at e;rcases hoff x hx with⟨i,hi,he⟩|⟨_,j,hj1,hj2,he⟩<;>rcases hoff y hy with⟨i',hi',he'⟩|⟨_,j',hj1',hj2',he'⟩
    ·obtain⟨hil,-⟩:=cC.1 hi;obtain⟨hil',-⟩:=cC.1 hi';rw [he,he',ng,ng]at e;rw [he,he'];omega
    ·obtain⟨hil,-⟩:=cC.1 hi;rw [he,he',ng,ng,ng]at e;exfalso;omega
    ·obtain⟨hil',-⟩:=cC.1 hi';rw [he,he',ng,ng,ng]at e;exfalso;omega
    ·rw [he,he',ng,ng,ng,ng]at e;rw [he,he',ng,ng];omega
   ·rcases hoff x hx with⟨i,hi,he⟩|⟨hn,j,hj1,hj2,he⟩
    ·obtain⟨hil,-⟩:=cC.1 hi;have:va o (sp-8) x=sp+4*((f.ps.length:Int)-1-i):=by unfold va;rw [he,fy (by omega)];omega
     obtain⟨a,ha'⟩:∃a,al[i]?=some a:=⟨_,bV (by omega)⟩
     rw [this,j4 _ (by omega),hmh _ (by omega),tF f.ps al [] i x a hN.nd hi ha',←hargs i a ha',hal]
    ·have:va o (sp-8) x=sp-8-4*(j:Int):=by unfold va;rw [he,ng,ng];omega
     rw [this,j5 j hj1 hj2,mK f.ps al [] x hn];rfl
   ·exact okVs.bind f.ps al (fun p hp=>by simp at hp) hao
  cases hb:kO g fs (d+1) (gN [] f.ps al) f.body s with
  | none=>rw [hb]at h;simp at h
  | some rb=>
   rw [hb]at h;have hB:∀c',(c'.pc=pf+9+2*nv∧Pr o N (gN [] f.ps al) (d+1) (sp-8) (sp-8-4*(nv:Int)) s c'∧c'.m (sp-8)=F∧c'.m (sp-4)=gO q∧∀a,sp≤a→c'.m a=c.m a)→
     SR code (pf+9+2*nv+eK f.body) (pf+10+2*nv+eK f.body) 50 0 o N (d+1) (sp-8) (sp-8-4*(nv:Int)) c' s rb:=fun c' ⟨e1,e2,_⟩=>
    ih.b g (Nat.lt_succ_self g) (d+1) _ f.body s rb hb o N (pf+9+2*nv) (pf+10+2*nv+eK f.body) (sp-8) (sp-8-4*(nv:Int)) c' hN.so hBody (by omega) (by omega) e1 e2 (by omega)
   cases rb with
   | err e=>cases h;exact fun he=>hframe.seq (fun c' hc'=>hB c' hc' he) (by omega)
   | ok qr s1=>
    obtain⟨vs1,qr⟩:=qr;cases h;have hf1:0≤s1.fuel:=by
     obtain⟨_,c2,_,_,hP⟩:=hframe;exact(hB c2 hP).1
    refine⟨hf1,hframe.seq (m:=100*(s.fuel-s1.fuel)+10) (fun c1 hc1=>(hB c1 hc1).2.seq (m:=9) (fun c2 ⟨e1,e2,e3,e4,e5⟩=> ?_) (by omega)) (by omega)⟩;obtain⟨k1,k2,k3,k4,k5⟩:=hc1;have hva:∀x∈N,∀a,(a=sp-8∨a=sp-4∨sp+4*(al.length:Int)≤a)→a≠va o (sp-8) x:=fun x hx a ha'=>by
     rcases hoff x hx with⟨i,hi,he⟩|⟨_,j,hj1,hj2,he⟩
     ·obtain⟨hil,-⟩:=cC.1 hi;unfold va;rw [he,fy (by omega)];omega
     ·unfold va;rw [he,ng,ng];omega
    have hm8:c2.m (sp-8)=F:=(e4 _ (by omega) fun x hx=>hva x hx _ (.inl J)).trans k3;have hm4:c2.m (sp-4)=gO q:=(e4 _ (by omega) fun x hx=>hva x hx _ (.inr (.inl J))).trans k4;have hmh:∀a,sp+4*(al.length:Int)≤a→c2.m a=c.m a:=fun a ha'=>(e4 _ (by omega) fun x hx=>hva x hx _ (.inr (.inr ha'))).trans (k5 a (by omega))
    have hend:Go code 1 c2 fun c3=>c3.pc=pf+10+2*nv+eK f.body∧c3.r 1=qr.getD 0∧St ((d:Int)+1) (sp-8) (sp-8-4*(nv:Int)) c3∧pSm c3 s1∧c3.m=c2.m:=by
     rw [show(((d+1:Nat):Int))=(d:Int)+1 by omega]at e1;cases qr with
     | some v=>exact Go.done (by decide) ⟨(e5.2 v rfl).1,(e5.2 v rfl).2,e1,e2,rfl⟩
     | none=>
      refine io (e5.1 J) hR.head.1 (v:=0) (by
       show some (wU (c2.r 0+c2.r 0))=_;rw [e1.z];rfl) fun c3 g1 g2 g3 g4 g5=>Go.done (by decide) ⟨by rw [g1];omega,by rw [g2];exact dq (by decide),e1.of fun k hk=>by rw [g2];exact ca (by omega),⟨fun i hi=>by rw [g3];exact e2.m i hi,g4.trans e2.i,g5.trans e2.o⟩,g3⟩
    refine hend.seq (m:=8) (fun c3 ⟨f1,f2,f3,f4,f5⟩=> ?_) (by decide);refine io f1 (by
     have:=hR.head.2.head.1;rw [show pf+10+2*nv+eK f.body=pf+9+2*nv+eK f.body+1 by omega];exact this) (v:=sp-8) (by
     show some (wU (c3.r 13+c3.r 0))=_;rw [f3.f,f3.z,Int.add_zero,fy (by omega)]) fun c4 g1 g2 g3 g4 g5=> ?_
    have h14:c4.r 14=sp-8:=by rw [g2];exact dq (by decide)
    refine(sI (r:=13) hQ13 (g1.trans (by omega)) h14 (by decide) ⟨by omega,by omega,by omega⟩).seq (m:=5) (fun c5 ⟨i1,i2,i3,i4⟩=> ?_) (by decide);refine(sI (sp:=sp-4) (r:=15) hQ15 (i1.trans (by omega)) (by rw [i3];omega) (by decide) ⟨by omega,by omega,by omega⟩).seq (m:=3) (fun c6 ⟨j1,j2,j3,j4⟩=> ?_) (by decide);have hm6:c6.m=c2.m:=by rw [j4.m,i4.m,g3,f5]
    have h13:c6.r 13=F:=by rw [j4.r 13 (by decide),i2,g3,f5];exact hm8
    have h15':c6.r 15=gO q:=by rw [j2,i4.m,g3,f5];exact hm4
    have h0:c6.r 0=0:=by rw [j4.r 0 (by decide),i4.r 0 (by decide),g2,ca (by decide)];exact f3.z
    have h1:c6.r 1=qr.getD 0:=by rw [j4.r 1 (by decide),i4.r 1 (by decide),g2,ca (by decide)];exact f2
    have h12':c6.r 12=(d:Int)+1:=by rw [j4.r 12 (by decide),i4.r 12 (by decide),g2,ca (by decide)];exact f3.d
    refine iH (p:=pf+15+2*nv+eK f.body) (j1.trans (by omega)) (by
     have:=hEnd.head.1;rw [show pf+15+2*nv+eK f.body=pf+4+2+2+1+2*nv+eK f.body+2+2+2 by omega];exact this) (v:=(d:Int)) (by
     show some (wU (c6.r 12+4294967295))=_;rw [h12',ng];exact congrArg some (by omega)) fun c7 l1 l2 l3 l4 l5=> ?_
    refine EH (d:=0) (a:=15) (x:=0) (by
     have:=hEnd.head.2.head.1;rw [l1,show pf+15+2*nv+eK f.body+1=pf+4+2+2+1+2*nv+eK f.body+2+2+2+1 by omega];exact this) (Go.done (by decide) ⟨?_,?_,⟨?_,?_,?_,?_⟩,⟨fun i hi=> ?_,?_,?_⟩,fun a ha'=> ?_⟩)
    ·show ri (wU (c7.r 15+0))=q;rw [l2,ca (by decide),h15'];exact D_ (by omega)
    ·show rp c7.r 0 (gO (c7.pc+1)) 1=_;rw [ca (by decide),l2,ca (by decide)];exact h1
    ·show rp c7.r 0 (gO (c7.pc+1)) 0=_;rw [Bf,l2,ca (by decide)];exact h0
    ·show rp c7.r 0 (gO (c7.pc+1)) 12=_;rw [ca (by decide),l2,dq (by decide)]
    ·show rp c7.r 0 (gO (c7.pc+1)) 13=_;rw [ca (by decide),l2,ca (by decide)];exact h13
    ·show rp c7.r 0 (gO (c7.pc+1)) 14=_;rw [ca (by decide),l2,ca (by decide),j3];omega
    ·show c7.m _=_;rw [l3,hm6,←f5];exact f4.m i hi
    ·exact(((l4.trans j4.i).trans i4.i).trans g4).trans f4.i
    ·exact(((l5.trans j4.o).trans i4.o).trans g5).trans f4.o
    ·show c7.m a=_;rw [l3,hm6];exact hmh a ha'
theorem Hz(hF:VF fs)(hC:CF code fs S)(g:Nat):HD code fs S g:=by
 induction g with
 | zero=>exact⟨⟨fun _ h=>absurd h (Nat.not_lt_zero _),fun _ h=>absurd h (Nat.not_lt_zero _),fun _ h=>absurd h (Nat.not_lt_zero _)⟩,fun _ h=>absurd h (Nat.not_lt_zero _),fun _ h=>absurd h (Nat.not_lt_zero _),fun _ h=>absurd h (Nat.not_lt_zero _)⟩
 | succ g ih=>
  have up:∀{T:Nat→Prop},(∀g'<g,T g')→T g→∀g'<g+1,T g':=fun{T} h1 h2 g' hg=>by
   rcases Nat.lt_or_eq_of_le (Nat.le_of_lt_succ hg)with h|h
   ·exact h1 g' h
   ·exact h▸h2
  exact⟨⟨up ih.x (EB hF hC.cp ih.toHA),up ih.k (EE hF ih.toHA),up ih.c (EF hF hC ih)⟩,up ih.b (EG hF ih),up ih.s (ED hF ih),up ih.w (EC hF ih)⟩
end
theorem jZ{x:Ba}{l:List Ba}:cU x l=true↔x∈l:=by
 unfold cU;rw [List.any_eq_true];constructor
 ·rintro ⟨y,h1,h2⟩;have h2:x=y:=by simpa using h2
  exact h2▸h1
 ·exact fun h=>⟨x,h,by simp⟩
mutual
theorem Kk{fs:List Tf}{ns N:List Ba}(hs:∀x∈ns,x∈N):∀t:Tx,eX fs ns t=0→eX fs N t=0
 | .mk k n nm v kids,h=>by
  obtain⟨h1,h2⟩:=be.1 h;refine be.2 ⟨?_,xi hs kids h2⟩;by_cases hk:k=2
  ·rw [ao hk]at h1 ⊢;by_cases hm:cU nm ns=true
   ·rw [ao (jZ.2 (hs nm (jZ.1 hm)))]
   ·rw [ac hm]at h1;exact absurd h1 (by decide)
  ·rw [ac hk]at h1 ⊢;exact h1
theorem xi{fs:List Tf}{ns N:List Ba}(hs:∀x∈ns,x∈N):∀l:List Tx,ju fs ns l=0→ju fs N l=0
 | [],_=>rfl
 | t::r,h=>by
  obtain⟨h1,h2⟩:=be.1 h;exact be.2 ⟨Kk hs t h1,xi hs r h2⟩
end
theorem XO.list{fs:List Tf}{N:List Ba}:∀{l:List Tx},GXs l→nW l=true→ju fs N l=0→∀u∈l,XO fs N u
 | [],_,_,_,u,hu=>by simp at hu
 | t::r,hg,hr,he,u,hu=>by
  have hr2:(rX t&&nW r)=true:=hr;rw [Bool.and_eq_true]at hr2;obtain⟨e1,e2⟩:=be.1 he;rcases List.mem_cons.1 hu with rfl|hu
  ·exact⟨hg.1,hr2.1,e1⟩
  ·exact XO.list hg.2 hr2.2 e2 u hu
theorem CH:∀{l:List Tx}{t:Tx},t∈l→dX t≤gJ l
 | [],t,h=>by simp at h
 | a::r,t,h=>by
  show dX t≤max (dX a) (gJ r);rcases List.mem_cons.1 h with rfl|h
  ·omega
  ·have:=CH h;omega
theorem xy(fs:List Tf)(ns:List Ba)(k:Int)(nm:Ba)(ve:SV)(es:List Tx)(vb:SV)(body:List Ty)(vl:SV)(els:List Ty):bY fs ns (.mk k nm ve es vb body vl els)=
  ((dx fs (dx fs (if k=1 then ns++ [nm]else ns) body).1 els).1,fst (if k=2 then(if cU nm ns=true then 0 else 21)else 0) (fst (ju fs ns es) (fst (if k=1 then(if cU nm ns=true then 22 else 0)else 0) (fst (dx fs (if k=1 then ns++ [nm]else ns) body).2 (dx fs (dx fs (if k=1 then ns++ [nm]else ns) body).1 els).2)))):=rfl
theorem tu(fs:List Tf)(ns:List Ba)(t:Ty)(r:List Ty):dx fs ns (t::r)=((dx fs (bY fs ns t).1 r).1,fst (bY fs ns t).2 (dx fs (bY fs ns t).1 r).2):=rfl
mutual
theorem Dg{fs:List Tf}:∀(t:Ty)(ns:List Ba),∀x∈ns,x∈(bY fs ns t).1
 | .mk k nm ve es vb body vl els,ns,x,hx=>by
  rw [xy];refine jo els _ x (jo body _ x ?_);split
  ·exact List.mem_append_left _ hx
  ·exact hx
theorem jo{fs:List Tf}:∀(l:List Ty)(ns:List Ba),∀x∈ns,x∈(dx fs ns l).1
 | [],ns,x,hx=>hx
 | t::r,ns,x,hx=>by
  rw [tu];exact jo r _ x (Dg t ns x hx)
end
mutual
theorem Ji{fs:List Tf}:∀(t:Ty)(ns N:List Ba)(d:Nat),(∀x∈(bY fs ns t).1,x∈N)→GY t→rY t=true→(bY fs ns t).2=0→Ds d t=false→SO fs N t
 | .mk k nm ve es vb body vl els,ns,N,d,hN,hg,hr,he,hd=>by
  have hr2:(FE k nm es.length body.length els.length&&nW es&&kU body&&kU els)=true:=hr;simp only [Bool.and_eq_true]at hr2;obtain⟨⟨⟨h1,h2⟩,h3⟩,h4⟩:=hr2;have hd2:(decide (d>8) || decide (gJ es>8) || db (d+1) body || db (d+1) els)=false:=hd;simp only [Bool.or_eq_false_iff,decide_eq_false_iff_not]at hd2;obtain⟨⟨⟨d1,d2⟩,d3⟩,d4⟩:=hd2;have hsub:=Dg (fs:=fs) (.mk k nm ve es vb body vl els) ns;rw [xy]at he hN;obtain⟨e1,he⟩:=be.1 he;obtain⟨e2,he⟩:=be.1 he;obtain⟨e3,he⟩:=be.1 he;obtain⟨e4,e5⟩:=be.1 he;have hns:∀x∈ns,x∈N:=fun x hx=>hN x (hsub x hx)
  refine⟨h1,fun u hu=>⟨XO.list hg.2.1.2 h2 (xi hns es e2) u hu,by have:=CH hu;omega⟩,fun hk=> ?_,⟨hg.2.2.1.1,sf body _ N (d+1) (fun x hx=>hN x (jo els _ x hx)) hg.2.2.1.2 h3 e4 d3⟩,hg.2.2.2.1,sf els _ N (d+1) hN hg.2.2.2.2 h4 e5 d4⟩;by_cases hk1:k=1
  ·refine hN nm (jo els _ nm (jo body _ nm ?_));rw [ao hk1];exact List.mem_append_right _ (List.mem_singleton_self _)
  ·have hk2:k=2:=by omega
   rw [ao hk2]at e1;by_cases hm:cU nm ns=true
   ·exact hns nm (jZ.1 hm)
   ·rw [ac hm]at e1;exact absurd e1 (by decide)
theorem sf{fs:List Tf}:∀(l:List Ty)(ns N:List Ba)(d:Nat),(∀x∈(dx fs ns l).1,x∈N)→GYs l→kU l=true→(dx fs ns l).2=0→db d l=false→SOs fs N l
 | [],_,_,_,_,_,_,_,_=>trivial
 | t::r,ns,N,d,hN,hg,hr,he,hd=>by
  have hr2:(rY t&&kU r)=true:=hr;rw [Bool.and_eq_true]at hr2;have hd2:(Ds d t || db d r)=false:=hd;rw [Bool.or_eq_false_iff]at hd2;rw [tu]at he hN;obtain⟨e1,e2⟩:=be.1 he;exact⟨Ji t ns N d (fun x hx=>hN x (jo r _ x hx)) hg.1 hr2.1 e1 hd2.1,sf r _ N d hN hg.2 hr2.2 e2 hd2.2⟩
end
structure Jo(ps ns:List Ba)(o:Om)(n:Int)(vs:List Ba):Prop where
 ens:ns=ps++vs
 nd:ns.Nodup
 en:(vs.length:Int)=n
 p:∀(i:Nat) x,ps[i]?=some x→bk o x=8+4*((ps.length:Int)-1-i)
 v:∀(j:Nat) x,vs[j]?=some x→bk o x=wU (-(4*((j:Int)+1)))
theorem Jo.add{ps ns:List Ba}{o:Om}{n:Int}{vs:List Ba}{nm:Ba}(h:Jo ps ns o n vs)(hn:nm∉ns):Jo ps (ns++ [nm]) (fz o nm (wU (-(4*(n+1))))) (n+1) (vs++ [nm]):=by
 refine⟨by rw [h.ens,List.append_assoc],List.nodup_append.2 ⟨h.nd,by simp,fun a ha b hb e=> ?_⟩,by rw [bO,dJ,←h.en];omega,fun i x hi=> ?_,fun j x hj=> ?_⟩
 ·rw [List.mem_singleton.1 hb]at e;exact hn (e▸ha)
 ·rw [fV,ac fun e=>hn (by rw [e,h.ens];exact List.mem_append_left _ (cO hi))];exact h.p i x hi
 ·by_cases hl:j<vs.length
  ·rw [List.getElem?_append_left hl]at hj;rw [fV,ac fun e=>hn (by rw [e,h.ens];exact List.mem_append_right _ (cO hj))];exact h.v j x hj
  ·rw [List.getElem?_append_right (by omega)]at hj;have:j=vs.length:=by
    have:=(cC.1 hj).1;simp at this;omega
   subst this;rw [Nat.sub_self]at hj;cases hj;rw [fV,ao J,h.en]
theorem w3(k:Int)(nm:Ba)(ve:SV)(es:List Tx)(vb:SV)(body:List Ty)(vl:SV)(els:List Ty)(p:Om×Int):gD (.mk k nm ve es vb body vl els) p=gDs els (gDs body (if k=1 then(fz p.1 nm (wU (-(4*(p.2+1)))),p.2+1)else p)):=rfl
mutual
theorem Mv{fs:List Tf}{ps:List Ba}:∀(t:Ty)(ns:List Ba)(p:Om×Int),(∃vs,Jo ps ns p.1 p.2 vs)→(bY fs ns t).2=0→∃vs,Jo ps (bY fs ns t).1 (gD t p).1 (gD t p).2 vs
 | .mk k nm ve es vb body vl els,ns,p,h,he=>by
  rw [xy]at he ⊢;obtain⟨e1,he⟩:=be.1 he;obtain⟨e2,he⟩:=be.1 he;obtain⟨e3,he⟩:=be.1 he;obtain⟨e4,e5⟩:=be.1 he;rw [w3];refine yp els _ _ (yp body _ _ ?_ e4) e5;by_cases hk:k=1
  ·rw [ao hk]at e3;rw [ao hk,ao hk];obtain⟨vs,hvs⟩:=h;refine⟨_,hvs.add fun hm=> ?_⟩;rw [ao (jZ.2 hm)]at e3;exact absurd e3 (by decide)
  ·rw [ac hk,ac hk];exact h
theorem yp{fs:List Tf}{ps:List Ba}:∀(l:List Ty)(ns:List Ba)(p:Om×Int),(∃vs,Jo ps ns p.1 p.2 vs)→(dx fs ns l).2=0→∃vs,Jo ps (dx fs ns l).1 (gDs l p).1 (gDs l p).2 vs
 | [],ns,p,h,_=>h
 | t::r,ns,p,h,he=>by
  rw [tu]at he ⊢;obtain⟨e1,e2⟩:=be.1 he;exact yp r _ _ (Mv t ns p h e1) e2
end
mutual
theorem HR:∀(t:Ty)(p:Om×Int),(gD t p).2=p.2+vY t
 | .mk k nm ve es vb body vl els,p=>by
  rw [w3,mm els,mm body,show vY (.mk k nm ve es vb body vl els)=(if k=1 then 1 else 0)+dA body+dA els from J];by_cases h:k=1
  ·rw [ao h,ao h];show p.2+1+_+_=_;omega
  ·rw [ac h,ac h];omega
theorem mm:∀(l:List Ty)(p:Om×Int),(gDs l p).2=p.2+dA l
 | [],p=>by show p.2=p.2+((0:Nat):Int);omega
 | t::r,p=>by
  show(gDs r (gD t p)).2=_;rw [mm r,HR t,show dA (t::r)=vY t+dA r from J];omega
end
theorem Cm(n:Int):∀(l:List Ba)(k:Int)(o:Om),l.Nodup→(∀(i:Nat) x,l[i]?=some x→bk (gP n k l o) x=8+4*(n-1-(k+i)))∧∀x,x∉l→bk (gP n k l o) x=bk o x
 | [],k,o,_=>⟨fun i x h=>by simp at h,fun _ _=>rfl⟩
 | p::r,k,o,h=>by
  rw [List.nodup_cons]at h;obtain⟨i1,i2⟩:=Cm n r (k+1) (fz o p (8+4*(n-1-k))) h.2;refine⟨fun i x hi=> ?_,fun x hx=> ?_⟩
  ·cases i with
   | zero=>
    cases hi;show bk (gP n (k+1) r _) p=_;rw [i2 p h.1,fV,ao J];show 8+4*(n-1-k)=8+4*(n-1-(k+0));rw [Int.add_zero]
   | succ i=>
    have:=i1 i x hi;show bk (gP n (k+1) r _) x=_;rw [this];omega
  ·rw [List.mem_cons,not_or]at hx;show bk (gP n (k+1) r _) x=_;rw [i2 x hx.2,fV,ac fun e=>hx.1 e.symm]
theorem CE:∀(l ns:List Ba),ns.Nodup→tB ns l=0→(ns++l).Nodup
 | [],ns,h,_=>by rw [List.append_nil];exact h
 | x::r,ns,h,he=>by
  obtain⟨e1,e2⟩:=be.1 he;have hx:x∉ns:=fun hm=>by rw [ao (jZ.2 hm)]at e1;exact absurd e1 (by decide)
  have:=CE r (ns++ [x]) (List.nodup_append.2 ⟨h,by simp,fun a ha b hb e=>hx (by rw [List.mem_singleton.1 hb]at e;exact e▸ha)⟩) e2;rw [List.append_assoc]at this;exact this
theorem Kd{fs:List Tf}{f:Tf}(hg:GF f)(hr:kU f.body=true)(h:lD fs f=0):pFO fs f (dx fs f.ps f.body).1:=by
 obtain⟨h1,h2⟩:=be.1 h;obtain⟨h3,h4⟩:=be.1 h2;have hb:¬(f.ps.length>4∨f.ps.length+dA f.body>12∨d9 f.body>400∨db 1 f.body=true):=fun hb=>by
  rw [ao hb]at h1;exact absurd h1 (by decide)
 simp only [not_or,Bool.not_eq_true]at hb;obtain⟨b1,b2,b3,b4⟩:=hb;have hnd:f.ps.Nodup:=by
  have:=CE f.ps [] (by simp) h3;exact this
 have hj0:Jo f.ps f.ps (gP f.ps.length 0 f.ps []) 0 []:=⟨by rw [List.append_nil],hnd,rfl,fun i x hi=>by
  rw [(Cm f.ps.length f.ps 0 [] hnd).1 i x hi,Int.zero_add],fun j x hj=>by simp at hj⟩
 obtain⟨vs,hj⟩:=yp (fs:=fs) f.body f.ps (gP f.ps.length 0 f.ps [],0) ⟨[],hj0⟩ h4;have hgo:cQ f=gDs f.body (gP f.ps.length 0 f.ps [],0):=J;have hnv:(cQ f).2=(dA f.body:Int):=by rw [hgo,mm];omega
 rw [←hgo]at hj;have hvl:=hj.en;have hns:=hj.ens;have hndN:=hj.nd;have off:∀x∈(dx fs f.ps f.body).1,(∃i:Nat,f.ps[i]?=some x∧bk (cQ f).1 x=8+4*((f.ps.length:Int)-1-i))∨(x∉f.ps∧∃j:Nat,1≤j∧j≤(cQ f).2.toNat∧bk (cQ f).1 x=wU (-(4*(j:Int)))∧vs[j-1]?=some x):=fun x hx=>by
  rw [hns]at hx;by_cases hp:x∈f.ps
  ·obtain⟨i,hi⟩:=List.getElem?_of_mem hp;exact .inl ⟨i,hi,hj.p i x hi⟩
  ·rcases List.mem_append.1 hx with hx|hx
   ·exact absurd hx hp
   ·obtain⟨j,hjx⟩:=List.getElem?_of_mem hx;have hl:=(cC.1 hjx).1;refine .inr ⟨hp,j+1,by omega,by omega,?_,hjx⟩;rw [hj.v j x hjx];rfl
 refine⟨sf f.body f.ps _ 1 (fun _ h=>h) hg.2.2.2.2.1 hr h4 b4,by omega,by omega,hnd,fun x hx=> ?_,fun x hx y hy e=> ?_⟩
 ·rcases off x hx with h|⟨h1,j,h2,h3,h4,_⟩
  ·exact .inl h
  ·exact .inr ⟨h1,j,h2,h3,h4⟩
 ·rcases off x hx with⟨i,hi,he⟩|⟨_,j,hj1,hj2,he,hv⟩<;>rcases off y hy with⟨i',hi',he'⟩|⟨_,j',hj1',hj2',he',hv'⟩
  ·have:i=i':=by rw [he,he']at e;omega
   subst this;exact dr (hi.symm.trans hi')
  ·have hl:=(cC.1 hi).1;rw [he,he',ng]at e;exfalso;omega
  ·have hl:=(cC.1 hi').1;rw [he,he',ng]at e;exfalso;omega
  ·have:j=j':=by rw [he,he',ng,ng]at e;omega
   subst this;exact dr (hv.symm.trans hv')
theorem yc{fs:List Tf}(h:∀(i:Nat)(f:Tf),fs[i]?=some f→xc fs f.name=(i:Int)):(fs.map Tf.name).Nodup:=by
 refine List.pairwise_iff_getElem.2 fun i j hi hj hij e=> ?_
 rw [List.getElem_map,List.getElem_map]at e;have hil:i<fs.length:=by simpa using hi
 have hjl:j<fs.length:=by simpa using hj
 have h1:=h i fs[i] (bV hil);have h2:=h j fs[j] (bV hjl);rw [e]at h1;omega
theorem AI{S:Ba→Int}{code:List Qi}:∀(l:List Tf)(p:Nat),cAt code p (AJ S l p)→p+vM l≤1984→∀x f,cK l x=some f→∃q:Nat,gw l p x=(q:Int)∧cAt code q (zF S f q)∧q+wF f≤1984
 | [],p,_,_,x,f,hf=>by simp [cK]at hf
 | a::r,p,hc,hl,x,f,hf=>by
  have hc':cAt code p (zF S a p++AJ S r (p+wF a)):=hc;have hw:vM (a::r)=wF a+vM r:=J;obtain⟨h1,h2⟩:=hc'.app;rw [vH]at h2;unfold gw;unfold cK at hf;rw [List.find?_cons]at hf;by_cases hn:a.name=x
  ·rw [decide_eq_true hn]at hf;cases hf;rw [ao hn];exact⟨p,J,h1,by omega⟩
  ·rw [decide_eq_false hn]at hf;rw [ac hn];exact AI r (p+wF a) h2 (by omega) x f hf
theorem Ks{fs:List Tf}{f:Tf}(hg:GP fs)(h:Fine fs f)(hr:∀f∈fs,kU f.body=true)(hl:(iC fs).length≤1984):CF (iC fs) fs (gw fs 3):=by
 have hle:(iC fs).length=3+vM fs:=by
  unfold iC;rw [bO,nJ];rfl
 refine⟨fun x g hx=>AI fs 3 ?_ (by omega) x g hx,fun x g hx=> ?_⟩
 ·have:=cAt.of (a:= [qi 16 14 0 16384,qi 40 15 0 (wU (gw fs 3 dV-1)),⟨48,0,0,0,0⟩]) (l:=AJ (gw fs 3) fs 3) (b:= []);rw [List.append_nil]at this;exact this
 ·have hm:=i6 hx;exact⟨_,Kd (hg.2 g hm) (hr g hm) (h.each g hm)⟩
def N6(code:List Qi)(c:Qs)(fuel:Int):Re Int→Prop
 | .ok v s1=>0≤s1.fuel∧Go code (100*(fuel-s1.fuel)+50) c fun c'=>code[c'.pc]?=some ⟨48,0,0,0,0⟩∧c'.out=s1.out∧∀i:Nat,i<256→c'.m (8192+4*(i:Int))=s1.mem i
 | .err e=>e=26→Go code (100*fuel+150) c (Bk code)
theorem D7{fs:List Tf}{f:Tf}{ins:List Int}{fuel:Int}{g:Nat}{r:Re Int}(hg:GP fs)(h:Fine fs f)(hr:∀f∈fs,kU f.body=true)(hl:(iC fs).length≤1984)(hi:∀x∈ins,oW x)(hf0:0≤fuel)(hf:fuel≤1000000000000)
  (he:qM g fs 0 f [] (FM ins fuel)=some r):N6 (iC fs) ⟨0,fun _=>0,fun _=>0,ins,[]⟩ fuel r:=by
 have hC:=Ks hg h hr hl;obtain⟨pm,hpm,hcm,hlm⟩:=hC.fn _ _ h.main;have hc:cAt (iC fs) 0 (iC fs):=fun j i hj=>by rw [Nat.zero_add];exact hj
 have hc':cAt (iC fs) 0 ([qi 16 14 0 16384,qi 40 15 0 (wU (gw fs 3 dV-1)),⟨48,0,0,0,0⟩]++AJ (gw fs 3) fs 3):=hc;have h3:=hc'.app.1;have hfn:=pM h.main;have hs:Go (iC fs) 2 ⟨0,fun _=>0,fun _=>0,ins,[]⟩ fun c=>c.pc=pm∧c.r 15=gO 2∧St ((0:Nat):Int) 0 16384 c∧pSm c (FM ins fuel):=by
  refine iH (c:=⟨0,fun _=>0,fun _=>0,ins,[]⟩) (p:=0) J h3.head.1 (v:=16384) J fun c1 e1 e2 e3 e4 e5=> ?_
  refine pi (d:=15) (a:=0) (x:=wU (gw fs 3 dV-1)) (by rw [e1];exact h3.head.2.head.1) (Go.done (by decide) ⟨?_,?_,⟨?_,?_,?_,?_⟩,⟨fun i _=> ?_,e4,e5⟩⟩)
  ·show ri (wU (gO c1.pc+_))=pm;rw [e1,hpm];exact kW J (by omega) (by omega)
  ·show rp c1.r 15 (gO (c1.pc+1)) 15=_;rw [dq (by decide),e1]
  ·show rp c1.r 15 (gO (c1.pc+1)) 0=0;rw [ca (by decide),e2];rfl
  ·show rp c1.r 15 (gO (c1.pc+1)) 12=_;rw [ca (by decide),e2];rfl
  ·show rp c1.r 15 (gO (c1.pc+1)) 13=0;rw [ca (by decide),e2];rfl
  ·show rp c1.r 15 (gO (c1.pc+1)) 14=16384;rw [ca (by decide),e2];rfl
  ·show c1.m _=0;rw [e3]
 have hR:∀c,(c.pc=pm∧c.r 15=gO 2∧St ((0:Nat):Int) 0 16384 c∧pSm c (FM ins fuel))→CR (iC fs) 2 0 0 16384 0 c (FM ins fuel) r:=fun c ⟨e1,e2,e3,e4⟩=>
  (Hz h.vf hC (g+1)).c g (Nat.lt_succ_self g) 0 f [] (FM ins fuel) r he 0 16384 c 2 (by rw [hfn];exact h.main) (by rw [h.noP];rfl) (by simp) (by rw [hfn,hpm];exact e1) e2 (by decide) e3 e4 (Hp hi hf) hf0 rfl (by decide) (by decide) (by decide) (fun i x hi=>by simp at hi)
 cases r with
 | err e=>exact fun h26=>hs.seq (fun c hc=>hR c hc h26) (by show 2+(100*fuel+100)≤_;omega)
 | ok v s1=>
  have hf1:0≤s1.fuel:=by
   obtain⟨_,c2,_,_,hP⟩:=hs;exact(hR c2 hP).1
  refine⟨hf1,hs.seq (fun c hc=>(hR c hc).2.weak (fun c' ⟨e1,e2,e3,e4,e5⟩=>⟨?_,e4.o,e4.m⟩) (Int.le_refl _)) (by show 2+(100*(fuel-s1.fuel)+45)≤_;omega)⟩;rw [e1];exact h3.head.2.head.2.head.1
structure Msc(code:List Qi)(s:Mm):Prop where
 hs:MO s 64
 hb:byL s.d
 rt:∀p:Nat,p<64→s.r.getD p 0=oO p
 im:∀(k:Nat)(i:Qi),code[k]?=some i→∀j:Nat,j<4→s.i[256+4*k+j]?=(eC (k_ i))[j]?
 len:code.length≤1984
 va:∀(k:Nat)(i:Qi),code[k]?=some i→VQ i∧0≤i.imm∧i.imm<4294967296
structure Sim(code:List Qi)(c:Qs)(x:Int)(s:Mm):Prop where
 k:Msc code s
 mem:∀a,yf a→yo s.d a.toNat=c.m a
 h0:c.r 0=0
 hr:∀k,0≤c.r k∧c.r k<4294967296
 pc:c.pc<1984→x=gO c.pc
 xb:0≤x∧x<4294967296
 hi:∀v∈c.inp,0≤v∧v<4294967296
theorem Jp{p:Nat}(h:0<p∧p<32):oO p/4%2=1:=by
 unfold oO;rw [ac (by omega),ao (by omega)];rfl
theorem GO{p:Nat}(h:32≤p):oO p=3:=by
 unfold oO;rw [ao h]
theorem Sim.pcl{code:List Qi}{c:Qs}{x:Int}{s:Mm}(h:Sim code c x s){i:Qi}(hc:code[c.pc]?=some i):c.pc<1984∧x=256+4*(c.pc:Int):=by
 obtain⟨h1,-⟩:=cC.1 hc;have:=h.k.len;exact⟨by omega,h.pc (by omega)⟩
theorem Sim.stx{code:List Qi}{c:Qs}{x:Int}{s:Mm}(h:Sim code c x s){i:Qi}(hc:code[c.pc]?=some i){st:Int}(hst:0≤st∧st<1000000000000000):Stx s i x c.r st:=by
 obtain⟨h1,h2⟩:=h.pcl hc;obtain⟨hv,him⟩:=h.k.va _ _ hc;have hl:=h.k.hs.d;refine⟨⟨him,hv,⟨by omega,by omega⟩,by omega,fun k h3 h4=> ?_,fun k hk=> ?_⟩,by omega,h.h0,h.hr,hst⟩
 ·unfold vz;rw [show((x+k)/256).toNat=(x+k).toNat/256 by omega,h.k.rt _ (by omega),Jp (by omega),decide_eq_true (by omega)];rfl
 ·rw [show x.toNat+k=256+4*c.pc+k by omega];exact h.k.im _ _ hc k hk
theorem xS{code:List Qi}{s:Mm}(h:Msc code s){a:Int}(ha:yf a){q:Int}(hq:q=1∨q=2):∀k:Int,0≤k→k<4→vz s (IntKind.u32.wrap (a+k)) q=true:=fun k h1 h2=>by
 obtain⟨ha1,ha2,ha3⟩:=ha;have hl:=h.hs.d;rw [bx (by omega)];unfold vz;rw [show((a+k)/256).toNat=(a+k).toNat/256 by omega,h.rt _ (by omega),GO (by omega),decide_eq_true (by omega)];rcases hq with rfl|rfl<;>rfl
theorem mj{d:List Int}{a k:Nat}{l:List Int}(h:a+l.length≤d.length):(pk d a l).getD k 0=if a≤k∧k<a+l.length then l.getD (k-a) 0 else d.getD k 0:=by
 rw [List.getD_eq_getElem?_getD,mS];by_cases h1:a≤k∧k<a+l.length
 ·rw [ao h1,ao ⟨h1.1,h1.2,by omega⟩,List.getD_eq_getElem?_getD]
 ·rw [ac h1,ac (fun h2=>h1 ⟨h2.1,h2.2.1⟩),List.getD_eq_getElem?_getD]
theorem s7(d:List Int)(a:Nat):yo d a=((((0:Int)*256+d.getD (a+3) 0)*256+d.getD (a+2) 0)*256+d.getD (a+1) 0)*256+d.getD (a+0) 0:=rfl
theorem Hv{d:List Int}{a b:Nat}{v:Int}(hv:0≤v∧v<4294967296)(ha:a+4≤d.length)(h4:a%4=0∧b%4=0):yo (pk d a (eC v)) b=if b=a then v else yo d b:=by
 have hl:(eC v).length=4:=J;rw [s7,mj (by omega),mj (by omega),mj (by omega),mj (by omega),hl];by_cases h:b=a
 ·subst h;rw [ao (by omega),ao (by omega),ao (by omega),ao (by omega),ao J,show b+3-b=3 by omega,show b+2-b=2 by omega,show b+1-b=1 by omega,show b+0-b=0 by omega];show(((0*256+v/16777216%256)*256+v/65536%256)*256+v/256%256)*256+v%256=v;omega
 ·rw [ac (by omega),ac (by omega),ac (by omega),ac (by omega),ac h,s7]
theorem C9{d:List Int}{a:Nat}:∀{l:List Int},byL d→byL l→byL (pk d a l):=fun{l} h1 h2 x hx=>by
 obtain⟨k,hk⟩:=List.getElem?_of_mem hx;rw [mS]at hk;split at hk
 ·exact h2 x (cO hk)
 ·exact h1 x (cO hk)
theorem C8(v:Int):byL (eC v):=fun x hx=>by
 have:x=v%256∨x=v/256%256∨x=v/65536%256∨x=v/16777216%256:=by
  simpa [eC]using hx
 omega
theorem BB(o:BinOp)(ho:o= .and∨o= .or∨o= .xor)(a b:Int):oW (bits o .u32 a b):=by
 rcases ho with rfl|rfl|rfl<;>exact jG _
theorem LF{op a b v:Int}(h:vh op a b=some v)(ha:0≤a∧a<4294967296)(hb:0≤b∧b<4294967296):0≤v∧v<4294967296:=by
 have key:∀z:Int,some (wU z)=some v→0≤v∧v<4294967296:=fun z hz=>by injection hz with hz;subst hz;exact jG z
 unfold vh at h;split at h
 ·exact key _ h
 split at h
 ·exact key _ h
 split at h
 ·injection h with h;subst h;exact BB _ (by simp) _ _
 split at h
 ·injection h with h;subst h;exact BB _ (by simp) _ _
 split at h
 ·injection h with h;subst h;exact BB _ (by simp) _ _
 split at h
 ·exact key _ h
 split at h
 ·injection h with h;subst h;have h2:(0:Int)<2^(b%32).toNat:=Int.pow_pos (by decide);exact⟨Int.ediv_nonneg ha.1 (by omega),Int.lt_of_le_of_lt (Int.ediv_le_self _ ha.1) ha.2⟩
 split at h
 ·exact key _ h
 split at h
 ·split at h
  ·cases h
  ·injection h with h;subst h;exact⟨Int.ediv_nonneg ha.1 hb.1,Int.lt_of_le_of_lt (Int.ediv_le_self _ ha.1) ha.2⟩
 split at h
 ·injection h with h;subst h;unfold tr;split<;>decide
 ·cases h
theorem rc{r:Int→Int}{d v:Int}(h:r 0=0):rp r d v 0=0:=by
 unfold rp;rw [ac (fun h2=>h2.2 h2.1.symm)];exact h
theorem zG{r:Int→Int}{d v:Int}(h:∀k,0≤r k∧r k<4294967296)(hv:0≤v∧v<4294967296)(k:Int):0≤rp r d v k∧rp r d v k<4294967296:=by
 unfold rp;split
 ·exact hv
 ·exact h k
theorem x7{y:Int}(h:ri y<1984):256≤y∧y%4=0∧y=gO (ri y):=by
 unfold ri at h ⊢;by_cases h2:256≤y∧y%4=0
 ·rw [ao h2]at h ⊢;unfold gO;omega
 ·rw [ac h2]at h;omega
theorem Sim.to{code:List Qi}{c:Qs}{x:Int}{s:Mm}(h:Sim code c x s){p:Nat}{r:Int→Int}{x1:Int}(h0:r 0=0)(hr:∀k,0≤r k∧r k<4294967296)(hp:p<1984→x1=gO p)(hx:0≤x1∧x1<4294967296):
  Sim code {c with pc:=p,r:=r} x1 s:=⟨h.k,h.mem,h0,hr,hp,hx,h.hi⟩
def Dk(e:Me)(x:Int)(r:Int→Int)(st:Int)(s:Mm)(x1:Int)(r1:Int→Int)(st1 t y:Int)(s1:Mm):Prop:=
 aO prog 115 [.agg (sR x r st).toArray,Pt e.m] [aP e.m 157 (mR e),own 5 1 bL (sv e.vd) s.d,own 5 1 bL (sv e.vi) s.i,own 3 1 eI (sv e.vr) s.r] [] (.agg (oC x1 r1 st1 t y).toArray) [aP e.m 157 (mR e),own 5 1 bL (sv e.vd) s1.d,own 5 1 bL (sv e.vi) s1.i,own 3 1 eI (sv e.vr) s1.r]
theorem Sim.step(e:Me){code:List Qi}{c c1:Qs}{x:Int}{s:Mm}(h:Sim code c x s){i:Qi}(hc:code[c.pc]?=some i)(h1:tL i c=some c1)(ho:i.op≠48){st:Int}(hst:0≤st∧st<1000000000000000):
  ∃x1 s1,Sim code c1 x1 s1∧c1.inp=c.inp∧c1.out=c.out∧Dk e x c.r st s x1 c1.r (st+1) 0 0 s1:=by
 have hx:=h.stx hc hst;obtain⟨hp1,hp2⟩:=h.pcl hc;have hpx:x=gO c.pc:=hp2;have hx4:0≤x+4∧x+4<4294967296:=by omega
 have hn:c.pc+1<1984→x+4=gO (c.pc+1):=fun _=>by unfold gO;omega
 have hn2:x+4=gO (c.pc+1):=by unfold gO;omega
 unfold tL at h1;cases hu:vh i.op (c.r i.a) (if i.op<16 then c.r i.b else i.imm)with
 | some v=>
  rw [hu]at h1;injection h1 with h1;subst h1;exact⟨x+4,s,h.to (rc h.h0) (zG h.hr (LF hu (h.hr _) (by split;exact h.hr _;exact(h.k.va _ _ hc).2))) hn hx4,J,J,A7 e s 64 h.k.hs i x c.r st hx v hu⟩
 | none=>
  rw [hu]at h1;dsimp only at h1;by_cases o1:i.op=23
  ·rw [ao o1]at h1;by_cases ha:yf (wU (c.r i.a+i.imm))
   ·rw [ao ha]at h1;injection h1 with h1;subst h1;have hl:=h.k.hs.d;have h4:wU (c.r i.a+i.imm)+4≤s.d.length:=by obtain⟨ha1,ha2,ha3⟩:=ha;omega
    have hb:=wL h.k.hb (wU (c.r i.a+i.imm)).toNat 4;have hm:=h.mem _ ha;refine⟨x+4,s,h.to (rc h.h0) (zG h.hr ?_) hn hx4,J,J,?_⟩
    ·rw [←hm];have h256:(256:Int)^4=4294967296:=by decide
     exact⟨hb.1,by unfold yo;omega⟩
    ·have:=A3 e s 64 h.k.hs i x c.r st hx h.k.hb o1 h4 (xS h.k ha (Or.inl J));rw [hm]at this;exact this
   ·rw [ac ha]at h1;cases h1
  rw [ac o1]at h1;by_cases o2:i.op=25
  ·rw [ao o2]at h1;by_cases ha:yf (wU (c.r i.a+i.imm))
   ·rw [ao ha]at h1;injection h1 with h1;subst h1;have hl:=h.k.hs.d;have ha':=ha;obtain⟨ha1,ha2,ha3⟩:=ha';have h4:wU (c.r i.a+i.imm)+4≤s.d.length:=by omega
    refine⟨x+4,{s with d:=pk s.d (wU (c.r i.a+i.imm)).toNat (eC (c.r i.d))},⟨⟨h.k.hs.dd (eD _ _ _),C9 h.k.hb (C8 _),h.k.rt,h.k.im,h.k.len,h.k.va⟩,fun a h2=> ?_,h.h0,h.hr,hn,hx4,h.hi⟩,J,J,A1 e s 64 h.k.hs i x c.r st hx o2 h4 (xS h.k ha (Or.inr J))⟩;have h3:=h2;obtain⟨h5,h6,h7⟩:=h3;show yo (pk s.d _ _) a.toNat=mw c.m _ _ a;rw [Hv (h.hr _) (by omega) ⟨by omega,by omega⟩];unfold mw;by_cases h8:a=wU (c.r i.a+i.imm)
    ·rw [ao (by omega),ao h8]
    ·rw [ac (by omega),ac h8];exact h.mem a h2
   ·rw [ac ha]at h1;cases h1
  rw [ac o2]at h1;by_cases o3:i.op=27
  ·rw [ao o3]at h1;injection h1 with h1;subst h1;have hw:=jG (c.r i.a+i.imm);refine⟨wU (c.r i.a+i.imm)/4*4,s,h.to (rc h.h0) (zG h.hr (by rw [←hn2];exact hx4)) (fun hp=> ?_) (by omega),J,J,?_⟩
   ·obtain⟨q1,q2,q3⟩:=x7 hp;rw [←q3];omega
   ·have:=zt e s 64 h.k.hs i x c.r st hx o3;rw [hn2]at this;exact this
  rw [ac o3]at h1;by_cases o4:i.op=32
  ·rw [ao o4]at h1;injection h1 with h1;subst h1;have hw:=jG (x+4*i.imm);have:=A6 e s 64 h.k.hs i x c.r st hx o4;by_cases hq:c.r i.d=c.r i.a
   ·rw [ao hq]at this ⊢;refine⟨wU (x+4*i.imm),s,h.to h.h0 h.hr (fun hp=> ?_) hw,J,J,this⟩;obtain⟨q1,q2,q3⟩:=x7 hp;rw [←q3,hpx]
   ·rw [ac hq]at this ⊢;exact⟨x+4,s,h.to h.h0 h.hr hn hx4,J,J,this⟩
  rw [ac o4]at h1;by_cases o5:i.op=35
  ·rw [ao o5]at h1;injection h1 with h1;subst h1;have hw:=jG (x+4*i.imm);have:=zv e s 64 h.k.hs i x c.r st hx o5;by_cases hq:c.r i.d≥c.r i.a
   ·rw [ao hq]at this ⊢;refine⟨wU (x+4*i.imm),s,h.to h.h0 h.hr (fun hp=> ?_) hw,J,J,this⟩;obtain⟨q1,q2,q3⟩:=x7 hp;rw [←q3,hpx]
   ·rw [ac hq]at this ⊢;exact⟨x+4,s,h.to h.h0 h.hr hn hx4,J,J,this⟩
  rw [ac o5]at h1;by_cases o6:i.op=40
  ·rw [ao o6]at h1;injection h1 with h1;subst h1;have hw:=jG (x+4*i.imm);refine⟨wU (x+4*i.imm),s,h.to (rc h.h0) (zG h.hr (by rw [←hn2];exact hx4)) (fun hp=> ?_) hw,J,J,?_⟩
   ·obtain⟨q1,q2,q3⟩:=x7 hp;rw [←q3,hpx]
   ·have:=A4 e s 64 h.k.hs i x c.r st hx o6;rw [hn2]at this;exact this
  rw [ac o6]at h1;by_cases o7:i.op=41
  ·rw [ao o7]at h1;injection h1 with h1;subst h1;exact⟨x+4,s,h.to (rc h.h0) (zG h.hr (jG _)) hn hx4,J,J,A2 e s 64 h.k.hs i x c.r st hx o7⟩
  rw [ac o7,ac (fun h2=>ho h2.1),ac (fun h2=>ho h2.1)]at h1;cases h1
def nN(i:Qi):Int×Int:=if i.op=48 then(4,i.imm)else(3,0)
theorem Sim.trap(e:Me){code:List Qi}{c:Qs}{x:Int}{s:Mm}(h:Sim code c x s){i:Qi}(hc:code[c.pc]?=some i)(ho:i.op=48∨i.op=49){st:Int}(hst:0≤st∧st<1000000000000000):
  Dk e x c.r st s x c.r st (nN i).1 (nN i).2 s:=by
 have hx:=h.stx hc hst;by_cases h1:i.op=48
 ·rw [show nN i=(4,i.imm)from ao h1];exact A0 e s 64 h.k.hs i x c.r st hx h1
 ·rw [show nN i=(3,0)from ac h1];exact A5 e s 64 h.k.hs i x c.r st hx (by omega)
def Fw(code:List Qi):Nat→Qs→Qs→Prop
 | 0,c,c'=>c=c'
 | n+1,c,c'=>∃i c1,code[c.pc]?=some i∧tL i c=some c1∧i.op≠48∧Fw code n c1 c'
theorem Sim.turn(e:Me){code:List Qi}{c c':Qs}{x:Int}{s:Mm}(h:Sim code c x s){n:Nat}(hn:Fw code n c c'){i:Qi}(hc:code[c'.pc]?=some i)(ho:i.op=48∨i.op=49){st:Int}(hst:0≤st∧st<1000000000000000):
  ∃x1 r1 st1 t y s1,Dk e x c.r st s x1 r1 st1 t y s1∧((t=0∧∃m c1,n=m+1∧r1=c1.r∧st1=st+1∧c1.inp=c.inp∧c1.out=c.out∧Sim code c1 x1 s1∧Fw code m c1 c')∨(t≠0∧n=0∧c=c'∧t=(nN i).1∧y=(nN i).2∧s1=s)):=by
 cases n with
 | zero=>
  have h2:c=c':=hn;subst h2;refine⟨x,c.r,st,(nN i).1,(nN i).2,s,h.trap e hc ho hst,.inr ⟨?_,J,J,J,J,J⟩⟩;unfold nN;split
  ·show(4:Int)≠0;decide
  ·show(3:Int)≠0;decide
 | succ m=>
  obtain⟨j,c1,h2,h3,h4,h5⟩:=hn;obtain⟨x1,s1,h6,h7,h8,h9⟩:=h.step e h2 h3 h4 hst;exact⟨x1,c1.r,st+1,0,0,s1,h9,.inl ⟨J,m,c1,J,J,J,h7,h8,h6,h5⟩⟩
structure Rl where
 x:Int
 s:Mm
 c:Qs
 m:Nat
 k:Nat
theorem zE(e:Me)(cp:Nat){code:List Qi}{c c':Qs}{x:Int}{s:Mm}(h:Sim code c x s){n:Nat}(hn:Fw code n c c'){i:Qi}(hc:code[c'.pc]?=some i)(ho:i.op=48∨i.op=49)(st most:Int)(hst:0≤st∧st+n<1000000000000000)(hm:(n:Int)<most):
  Spec prog 65 [Pt cp,I6 most] [aP e.m 157 (mR e),own 5 1 bL (sv e.vd) (s).d,own 5 1 bL (sv e.vi) (s).i,own 3 1 eI (sv e.vr) (s).r,aP cp 93 (nz x c.r st e.m)] [] (X:=Int×Mm) (fun p=>Sim code c' p.1 p.2) (fun _=> .agg #[I6 (nN i).1,I3 (nN i).2]) (fun p=> [aP e.m 157 (mR e),own 5 1 bL (sv e.vd) p.2.d,own 5 1 bL (sv e.vi) p.2.i,own 3 1 eI (sv e.vr) p.2.r,aP cp 93 (nz p.1 c'.r (st+(n:Int)) e.m)]) (fun _=> []):=by
 refine au func65 J ntmps65 J fun w0 M H=>sx 0 20 J J (sx 1 21 J J (sx 2 22 J J (sx 3 23 J J (sx 4 24 J J (ak (aV xM J J fun b4=>av J (am J (aa (aC ?_)))))))))
 refine bG (X:=Rl) (fun p=>Sim code p.c p.x p.s∧Fw code p.m p.c c'∧p.m+p.k=n) (fun p=> [(0,Pt cp),(1,I6 most),(4,Pt b4),(5,I6 (p.k:Int))]) (fun p=> [(20,aP e.m 157 (mR e)),(21,own 5 1 bL (sv e.vd) p.s.d),(22,own 5 1 bL (sv e.vi) p.s.i),(23,own 3 1 eI (sv e.vr) p.s.r),(24,aP cp 93 (nz p.x p.c.r (st+(p.k:Int)) e.m)),(4,aP b4 53 [I6 0,I3 0])]) (fun p=> []) (fun p=>p.m) ⟨x,s,c,n,0⟩ ⟨h,hn,J⟩ J (by dsimp only;rw [show st+((0:Nat):Int)=st by omega];rfl) J (fun p hp=> ?_);obtain⟨hp1,hp2,hp3⟩:=hp;obtain⟨x1,r1,st1,t,y,s1,hS,hor⟩:=hp1.turn e hp2 hc ho (st:=st+(p.k:Int)) ⟨by omega,by omega⟩;refine aC (aW (aW ?_));refine ce [7,8,9,10,11,12,13,14,15,16,17,18,19,20,21,22,23,24,25] _ J (br (V:= [(0,7,_),(1,8,_),(2,9,_),(3,10,_),(4,11,_),(5,12,_),(6,13,_),(7,14,_),(8,15,_),(9,16,_),(10,17,_),(11,18,_),(12,19,_),(13,20,_),(14,21,_),(15,22,_),(16,23,_),(17,24,_),(18,25,_)]) [0,1,2,3,4,5,6,7,8,9,10,11,12,13,14,15,16,17,18] J J (aJ J J (ad J (aA J) (ad J (ai dH J) (ad J (ai mZ J) (ad J (ag t3 J J (aB (k:=24) J J)) (ad J (aU J J fU) (aJ J J (bM (cT [] J J J O (fun hg1=>aX J)) (bM (cT [(14,_)] J J J ⟨J,O⟩ (fun hg2=>aA J)) (bM (cT [(15,_)] J J J ⟨J,O⟩ (fun hg3=>ai dH J)) (bM (cT [(16,_)] J J J ⟨J,O⟩ (fun hg4=>ai f_ J)) (bM (cT [(17,_)] J J J ⟨J,O⟩ (fun hg5=>ag t3 J J (aB (k:=24) J J))) (bM (cT [] J J J O (fun hg6=>aX J)) (bM (cT [(19,_)] J J J ⟨J,O⟩ (fun hg7=>aA J)) (bM (cT [(20,_)] J J J ⟨J,O⟩ (fun hg8=>ai dH J)) (bM (cT [(21,_)] J J J ⟨J,O⟩ (fun hg9=>ai mZ J)) (bM (cT [(22,_)] J J J ⟨J,O⟩ (fun hg10=>ag t3 J J (aB (k:=24) J J))) (bM (cT [(18,_),(23,_)] J J J ⟨J,J,O⟩ (fun hg11=>aU J J eY)) (ad J (bw J J J) ay))))))))))))))))))) J J J ?_);refine ah J (fun h12=> ?_) (fun h12=> ?_)
 ·cases h12
 ·(try simp only [aY]at h12);refine az (aS (ab J (ab J (ap J J eY (aa (ah J (fun h13=> ?_) (fun h13=> ?_)))))))
  ·(exfalso;have h0:=h13;revert h0;simp;omega)
  ·(try simp only [aY]at h13);refine az (aW ?_);refine ce [31,32,33,34,35,36,37,38,39,6] _ J (jQ (V:= [(0,31,_),(1,32,_),(2,33,_),(3,34,_),(4,35,_),(5,36,_),(6,37,_),(7,38,_)]) [0,1,2,3,4,5,6,7] J J (aJ J J (ad J (aA J) (ad J (ai dH J) (ad J (aM (us:=sR p.x p.c.r (st+(p.k:Int))) nO J J J (k8 (k:=24) J J)) (aJ J J (ad J (aA J) (ad J (ai fc J) (ad J (ag tK J J (aB (k:=24) J J)) ay)))))))) J [8,9] J J (fX (ik 8 [8,7,6,5,4,3,2,1,0] [] (fun _=> []) J J J J J J J J J (fun _ _=>J) J (cy (xs:= [.tmp 34,.tmp 38]) hS Gn [20,21,22,23] [] [20,21,22,23]) (fun _ _=>bn [] 9 [9,8,7,6,5,4,3,2,1,0] [] (fun b6=> []) J J ay J J J J J J J J J J J (fun _ _=>J) J (gC kK J) (fun b6 _=>bP [] 10 [10,9,8,7,6,5,4,3,2,1,0] [] (fun _=> []) J J ay J J J J J J J J J (fun _ _=>J) J (cI (k:=6) kK J J J J J J) (fun _ _=>br [] J J ay J J J ?_)))) (fX (ik 9 [9] [] (fun b6=> []) J J J J J J J J J (fun _ _=>J) J (gC kK J) (fun b6 _=>bn [0,1,2,3,4,5,6,7] 8 [9,8,7,6,5,4,3,2,1,0] [] (fun _=> []) J J (aJ J J (ad J (aA J) (ad J (ai dH J) (ad J (aM (us:=sR p.x p.c.r (st+(p.k:Int))) nO J J J (k8 (k:=24) J J)) (aJ J J (ad J (aA J) (ad J (ai fc J) (ad J (ag tK J J (aB (k:=24) J J)) ay)))))))) J J J J J J J J J J J (fun _ _=>J) J (cy (xs:= [.tmp 34,.tmp 38]) hS Gn [20,21,22,23] [] [20,21,22,23]) (fun _ _=>bP [] 10 [10,9,8,7,6,5,4,3,2,1,0] [] (fun _=> []) J J ay J J J J J J J J J (fun _ _=>J) J (cI (k:=6) kK J J J J J J) (fun _ _=>br [] J J ay J J J ?_)))) oZ)))
   ·refine aS (ax oe J (aH (cH pG J) (aL 6 t3 J J J J (ap J J ga (aa (ah J (fun h14=> ?_) (fun h14=> ?_)))))))
    ·(try simp only [aY]at h14);obtain⟨-,q2,q3,q4,q5,q6⟩:=hor.resolve_left (fun q=>h14 q.1);subst q6;obtain rfl:p.k=n:=by omega
     rw [←q4,←q5,←q3];refine ak (ax oe J (aH (aM (us:= [I6 t,I3 y]) xM J J J (k8 (k:=6) J J)) (aq (k:=4) xM J J J J J J (aa (ar (aG (p.x,p.s) (q3▸hp1) J (bR (bh xM J J J (bi (k:=4) J))) J [20,21,22,23,24] [] J J J))))))
    ·(try simp only [aY]at h14);obtain⟨q1,m1,c1,q2,q3,q4,qi,qo,q6,q7⟩:=hor.resolve_right (fun q=>q.1 h14);subst q3;subst q4;refine az (ak (ab J (ax yM J (aH (aM (us:=sR x1 c1.r (st+(p.k:Int)+1)) nO J J J (k8 (k:=6) J J)) (bp J (ax dH J (aw (k:=24) (us:=sR x1 c1.r (st+(p.k:Int)+1)) (c':=nz x1 c1.r (st+(p.k:Int)+1) e.m) nO J J J J J J J J (aa (aj (ab J (ap J J a_ (am J (aa ?_)))))))))))));refine aI ⟨x1,s1,c1,m1,p.k+1⟩ ⟨⟨q6,q7,by show m1+(p.k+1)=n;omega⟩,by show m1<p.m;omega⟩ J (by dsimp only;rw [show st+((p.k+1:Nat):Int)=st+(p.k:Int)+1 by omega];rfl) J
   ·refine aS (ax oe J (aH (cH pG J) (aL 6 t3 J J J J (ap J J ga (aa (ah J (fun h15=> ?_) (fun h15=> ?_)))))))
    ·(try simp only [aY]at h15);obtain⟨-,q2,q3,q4,q5,q6⟩:=hor.resolve_left (fun q=>h15 q.1);subst q6;obtain rfl:p.k=n:=by omega
     rw [←q4,←q5,←q3];refine ak (ax oe J (aH (aM (us:= [I6 t,I3 y]) xM J J J (k8 (k:=6) J J)) (aq (k:=4) xM J J J J J J (aa (ar (aG (p.x,p.s) (q3▸hp1) J (bR (bh xM J J J (bi (k:=4) J))) J [20,21,22,23,24] [] J J J))))))
    ·(try simp only [aY]at h15);obtain⟨q1,m1,c1,q2,q3,q4,qi,qo,q6,q7⟩:=hor.resolve_right (fun q=>q.1 h15);subst q3;subst q4;refine az (ak (ab J (ax yM J (aH (aM (us:=sR x1 c1.r (st+(p.k:Int)+1)) nO J J J (k8 (k:=6) J J)) (bp J (ax dH J (aw (k:=24) (us:=sR x1 c1.r (st+(p.k:Int)+1)) (c':=nz x1 c1.r (st+(p.k:Int)+1) e.m) nO J J J J J J J J (aa (aj (ab J (ap J J a_ (am J (aa ?_)))))))))))));refine aI ⟨x1,s1,c1,m1,p.k+1⟩ ⟨⟨q6,q7,by show m1+(p.k+1)=n;omega⟩,by show m1<p.m;omega⟩ J (by dsimp only;rw [show st+((p.k+1:Nat):Int)=st+(p.k:Int)+1 by omega];rfl) J
theorem AZ{i:Qi}{c c1:Qs}(h:tL i c=some c1)(ho:i.op≠48):c1.inp=c.inp∧c1.out=c.out:=by
 unfold tL at h;split at h
 ·injection h with h;subst h;exact⟨rfl,rfl⟩
 split at h
 ·split at h
  ·injection h with h;subst h;exact⟨rfl,rfl⟩
  ·cases h
 split at h
 ·split at h
  ·injection h with h;subst h;exact⟨rfl,rfl⟩
  ·cases h
 split at h
 ·injection h with h;subst h;exact⟨rfl,rfl⟩
 split at h
 ·injection h with h;subst h;exact⟨rfl,rfl⟩
 split at h
 ·injection h with h;subst h;exact⟨rfl,rfl⟩
 split at h
 ·injection h with h;subst h;exact⟨rfl,rfl⟩
 split at h
 ·injection h with h;subst h;exact⟨rfl,rfl⟩
 split at h
 ·rename_i h2;exact absurd h2.1 ho
 split at h
 ·rename_i h2;exact absurd h2.1 ho
 ·cases h
theorem Bi{code:List Qi}:∀{n:Nat}{c c':Qs},Fw code n c c'→c'.inp=c.inp∧c'.out=c.out
 | 0,c,c',h=>by
  have:c=c':=h;subst this;exact⟨J,J⟩
 | n+1,c,c',h=>by
  obtain⟨i,c1,-,h2,h3,h4⟩:=h;obtain⟨a,b⟩:=AZ h2 h3;obtain⟨a2,b2⟩:=Bi h4;exact⟨a2.trans a,b2.trans b⟩
theorem tU{code:List Qi}:∀{n:Nat}{c c':Qs},rn code n c c'→∃k c1,Fw code k c c1∧((k=n∧c1=c')∨∃i c2 m,code[c1.pc]?=some i∧i.op=48∧tL i c1=some c2∧n=k+1+m∧rn code m c2 c')
 | 0,c,c',h=>⟨0,c',h,.inl ⟨rfl,rfl⟩⟩
 | n+1,c,c',h=>by
  obtain⟨i,c1,h1,h2,h3⟩:=h;by_cases ho:i.op=48
  ·exact⟨0,c,J,.inr ⟨i,c1,n,h1,ho,h2,by omega,h3⟩⟩
  ·obtain⟨k,c2,h4,h5⟩:=tU h3;refine⟨k+1,c2,⟨i,c1,h1,h2,ho,h4⟩,?_⟩;rcases h5 with⟨h6,h7⟩|⟨j,c3,m,g1,g2,g3,g4,g5⟩
   ·exact .inl ⟨by omega,h7⟩
   ·exact .inr ⟨j,c3,m,g1,g2,g3,by omega,g5⟩
theorem nR{i:Qi}{c c1:Qs}(h:tL i c=some c1)(ho:i.op=48):(i.imm=1∧c1={c with pc:=c.pc+1,out:=c.out++ [c.r 1]})∨(i.imm=2∧c1={c with pc:=c.pc+1,r:=rp c.r 1 (c.inp.headD 0),inp:=c.inp.tail}):=by
 unfold tL at h;rw [ho]at h;have e:∀a b,vh 48 a b=none:=fun a b=>J
 rw [e]at h;by_cases h1:i.imm=1
 ·rw [h1]at h;injection h with h;exact .inl ⟨h1,h.symm⟩
 ·by_cases h2:i.imm=2
  ·rw [h2]at h;injection h with h;exact .inr ⟨h2,h.symm⟩
  ·exfalso;have q1:¬((48:Int)=48∧i.imm=1):=fun q=>h1 q.2
   have q2:¬((48:Int)=48∧i.imm=2):=fun q=>h2 q.2
   have:(if(48:Int)=48∧i.imm=1 then some {c with pc:=c.pc+1,out:=c.out++ [c.r 1]}else if(48:Int)=48∧i.imm=2 then some {c with pc:=c.pc+1,r:=rp c.r 1 (c.inp.headD 0),inp:=c.inp.tail}else none)=some c1:=h;rw [ac q1,ac q2]at this;cases this
def FX(l:List Int):Nat→Int
 | 0=>0
 | k+1=>FX l k+l.getD k 0*256^k
theorem B9{t:Ba}{k:Nat}(hk:k<4):0≤FX (aN t) k∧FX (aN t) k+(aN t).getD k 0*256^k<4294967296∧0≤(aN t).getD k 0*256^k∧(aN t).getD k 0*256^k<4294967296:=by
 have b0:=hZ t 0;have b1:=hZ t 1;have b2:=hZ t 2;have b3:=hZ t 3;have:k=0∨k=1∨k=2∨k=3:=by omega
 rcases this with rfl|rfl|rfl|rfl
 ·show 0≤(0:Int)∧(0:Int)+(aN t).getD 0 0*256^0<4294967296∧0≤(aN t).getD 0 0*256^0∧(aN t).getD 0 0*256^0<4294967296;omega
 ·show 0≤(0:Int)+(aN t).getD 0 0*256^0∧(0:Int)+(aN t).getD 0 0*256^0+(aN t).getD 1 0*256^1<4294967296∧0≤(aN t).getD 1 0*256^1∧(aN t).getD 1 0*256^1<4294967296;omega
 ·show 0≤(0:Int)+(aN t).getD 0 0*256^0+(aN t).getD 1 0*256^1∧(0:Int)+(aN t).getD 0 0*256^0+(aN t).getD 1 0*256^1+(aN t).getD 2 0*256^2<4294967296∧0≤(aN t).getD 2 0*256^2∧(aN t).getD 2 0*256^2<4294967296;omega
 ·show 0≤(0:Int)+(aN t).getD 0 0*256^0+(aN t).getD 1 0*256^1+(aN t).getD 2 0*256^2∧(0:Int)+(aN t).getD 0 0*256^0+(aN t).getD 1 0*256^1+(aN t).getD 2 0*256^2+(aN t).getD 3 0*256^3<4294967296∧0≤(aN t).getD 3 0*256^3∧(aN t).getD 3 0*256^3<4294967296;omega
theorem Mz{t:Ba}{k:Nat}(hk:k<4):IntKind.u32.wrap ((aN t).getD k 0*2^(8*(k:Int)).toNat)=(aN t).getD k 0*256^k:=by
 obtain⟨-,-,h1,h2⟩:=B9 (t:=t) hk;have e:(2:Int)^(8*(k:Int)).toNat=256^k:=by
  have:k=0∨k=1∨k=2∨k=3:=by omega
  rcases this with rfl|rfl|rfl|rfl<;>rfl
 rw [e];exact jq h1 h2
theorem zJ(t:Ba)(ht:t.size=4):
  aO prog 66 [Sg t] [] [] (I3 (FX (aN t) 4)) []:=by
 refine au func66 J ntmps66 J fun w0 M H=>ak (am J (av J (am J (aa (aS (am J (aa (aC (bG (X:=Nat) (fun k=>k≤4) (fun k=> [(0,Sg t),(3,I3 (FX (aN t) k)),(4,I6 (k:Int))]) (fun k=> []) (fun k=> []) (fun k=>4-k) 0 (bB _) J J J (fun k n1=>aS (ab J ?_)))))))))))
 refine ab J (aH (ck underlying9 J) (ap J J cL (ab J (aF [] J J O (fun hg1=>aX J) J (aF [(10,_)] J J ⟨J,O⟩ (fun hg2=>aU J J cL) J (aH (bw J J J) (aa (ah J (fun h3=> ?_) (fun h3=> ?_)))))))))
 ·(try simp only [aY]at h3);have hi:k<4:=by omega
  have hbk:=B9 (t:=t) hi;have hb1:=hZ t k;refine az (aW (aC (aj (ab J (ab J (ab J (aH (d6 (j:=k) underlying9 J J J (by omega)) (aH (bX underlying5 underlying41 J (c:=(aN t).getD k 0) (bx (by omega))) (ab J (ap J J i9 (ap J J (gT (by omega) (by show _≤(32:Int);omega) (Mz hi)) (ap J J (bZ (c:=FX (aN t) (k+1)) (bx (by omega))) (am J (aa (aj (ab J (ap J J a_ (am J (aa ?_)))))))))))))))))));refine aI (k+1) ⟨by omega,by omega⟩ J J J
 ·(try simp only [aY]at h3);have hi:k=4:=by omega
  subst hi;refine bK (ak (ab J (am J (aa (ar (aG () O J (bR (aD J)) J [] [] J J J))))))
theorem uT:∀{l:List Qi}{k:Nat}{i:Qi},l[k]?=some i→∀{j:Nat},j<4→(d5 l)[4*k+j]?=(eC (qO i))[j]?
 | [],k,i,h,j,hj=>by simp at h
 | q::r,0,i,h,j,hj=>by
  have h:q=i:=by simpa using h
  subst h;show(eC (qO q)++d5 r)[4*0+j]?=_;rw [List.getElem?_append_left (by rw [show(eC (qO q)).length=4 from J];omega),show 4*0+j=j by omega]
 | q::r,k+1,i,h,j,hj=>by
  have h:r[k]?=some i:=by simpa using h
  show(eC (qO q)++d5 r)[4*(k+1)+j]?=_;rw [List.getElem?_append_right (by rw [show(eC (qO q)).length=4 from J];omega),show 4*(k+1)+j-(eC (qO q)).length=4*k+j by rw [show(eC (qO q)).length=4 from J];omega];exact uT h hj
theorem Bt{n m a:Nat}:pk (List.replicate n 0) a (List.replicate m 0)=List.replicate n (0:Int):=by
 apply List.ext_getElem?;intro k;rw [mS];split
 ·rename_i h;have h3:k<n:=by have:=h.2.2;simpa using this
  have h4:k-a<m:=by have:=h.2.1;simp at this;omega
  rw [List.getElem?_replicate,ao h4,List.getElem?_replicate,ao h3]
 ·rfl
def sZ(n:Nat):Mm:=⟨List.replicate (256*n) 0,List.replicate (256*n) 0,List.replicate n 0⟩
theorem BL{n:Nat}(hn:n≤4096):MO (sZ n) n:=⟨by show(List.replicate _ _).length=_;rw [List.length_replicate];omega,by show(List.replicate _ _).length=_;rw [List.length_replicate];omega,List.length_replicate ..,by omega,fun x hx=>by have:=List.eq_of_mem_replicate hx;subst this;decide⟩
theorem FQ(n:Nat):∀p,(ge (sZ n) p).d=List.replicate (256*n) 0∧(ge (sZ n) p).i=List.replicate (256*n) 0
 | 0=>⟨rfl,rfl⟩
 | p+1=>by
  obtain⟨h1,h2⟩:=FQ n p;refine⟨?_,?_⟩
  ·show pk (ge (sZ n) p).d (256*p) zer=_;rw [h1,jD,Bt]
  ·show pk (ge (sZ n) p).i (256*p) zer=_;rw [h2,jD,Bt]
theorem FP(s:Mm):∀(p q:Nat),p≤s.r.length→(ge s p).r.getD q 0=if q<p then oO q else s.r.getD q 0
 | 0,q,_=>by rw [ac (by omega)];rfl
 | p+1,q,h=>by
  have hl:∀p,(ge s p).r.length=s.r.length:=fun p=>by
   induction p with
   | zero=>rfl
   | succ p ih=>exact(List.length_set ..).trans ih
  show((ge s p).r.set p (oO p)).getD q 0=_;rw [List.getD_eq_getElem?_getD,List.getElem?_set];by_cases h1:p=q
  ·subst h1;rw [ao J,ao (by rw [hl];omega),ao (by omega)];rfl
  ·rw [ac h1,←List.getD_eq_getElem?_getD,FP s p q (by omega)];by_cases h2:q<p
   ·rw [ao h2,ao (by omega)]
   ·rw [ac h2,ac (by omega)]
theorem JZ(s:Mm)(p:Nat):(qJ s (p+1)).i=pk (qJ s p).i ((p+1)*256) (((qJ s p).d.drop ((p+1)*256)).take 256):=by rw [qJ]
theorem J0{s:Mm}(hl:s.i.length=s.d.length)(k:Nat):∀p,(p+1)*256≤s.d.length→(qJ s p).i[k]?=if 256≤k∧k<(p+1)*256 then s.d[k]? else s.i[k]?:=by
 intro p
 induction p with
 | zero=>
  intro _;rw [ac (by omega),qJ]
 | succ p ihp=>
  intro h;have hli:∀p,(qJ s p).i.length=s.i.length:=fun p=>by
   induction p with
   | zero=>rfl
   | succ p ih=>exact(eD ..).trans ih
  have h':(p+1)*256≤s.d.length:=Nat.le_trans (Nat.mul_le_mul_right 256 (Nat.le_succ (p+1))) h;have ih:=ihp h';clear ihp;rw [JZ,ym,mS,ih,hli];have hlen:(List.take 256 (List.drop ((p+1)*256) s.d)).length=256:=by
   rw [List.length_take,List.length_drop];omega
  rw [hlen];by_cases h1:(p+1)*256≤k∧k<(p+1)*256+256
  ·rw [ao ⟨h1.1,h1.2,by omega⟩,ao ⟨by omega,by omega⟩,List.getElem?_take,ao (by omega),List.getElem?_drop,show(p+1)*256+(k-(p+1)*256)=k by omega]
  ·rw [ac (fun h2=>h1 ⟨h2.1,h2.2.1⟩)];by_cases h2:256≤k∧k<(p+1)*256
   ·rw [ao h2,ao ⟨h2.1,by omega⟩]
   ·rw [ac h2,ac (fun h3=> ?_)];omega
theorem FR(s:Mm):∀p,(qJ s p).r=s.r
 | 0=>rfl
 | p+1=>FR s p
theorem Ht{code:List Qi}(hl:code.length≤1984)(hv:∀i∈code,nD i=true∧0≤i.imm∧i.imm<4294967296){ins:List Int}(hi:∀v∈ins,0≤v∧v<4294967296):
  Sim code ⟨0,fun _=>0,fun _=>0,ins,[]⟩ 256 (IR (sZ 64) (d5 code)):=by
 have hb:=fS code;obtain⟨hd,hi0⟩:=FQ 64 64;have hm:=j6 (BL (n:=64) (by decide)) 64;have hD:(IR (sZ 64) (d5 code)).d=pk (List.replicate (256*64) 0) 256 (d5 code):=by
  show(qJ _ 31).d=_;rw [ym];show pk (ge (sZ 64) 64).d 256 (d5 code)=_;rw [hd]
 have hDk:∀k,(pk (List.replicate (256*64) (0:Int)) 256 (d5 code)).getD k 0=if 256≤k∧k<256+(d5 code).length then(d5 code).getD (k-256) 0 else 0:=fun k=>by
  rw [mj (by rw [List.length_replicate];omega)];split
  ·rfl
  ·rw [List.getD_eq_getElem?_getD,List.getElem?_replicate];split<;>rfl
 refine⟨⟨?_,?_,fun p hp=> ?_,fun k i hk j hj=> ?_,hl,fun k i hk=>⟨VQ.of (hv i (cO hk)).1,(hv i (cO hk)).2⟩⟩,fun a ha=> ?_,J,fun _=>⟨Int.le_refl _,by show(0:Int)<4294967296;decide⟩,fun _=>J,by decide,hi⟩
 ·exact wK (hm.dd (eD _ _ _)) 31
 ·rw [hD];exact C9 (fun x hx=>by have:=List.eq_of_mem_replicate hx;subst this;decide) (qb code)
 ·show(qJ _ 31).r.getD p 0=_;rw [FR];show(ge (sZ 64) 64).r.getD p 0=_;rw [FP (sZ 64) 64 p (Nat.le_of_eq (by exact(List.length_replicate ..).symm)),ao hp]
 ·have hkl:k<code.length:=(cC.1 hk).1;show(qJ {ge (sZ 64) 64 with d:=pk (ge (sZ 64) 64).d 256 (d5 code)} 31).i[256+4*k+j]?=_;rw [J0 (by show(ge (sZ 64) 64).i.length=(pk _ _ _).length;rw [eD,hm.i,hm.d]) _ 31 (by show _≤(pk _ _ _).length;rw [eD,hm.d];decide),ao ⟨by omega,by omega⟩];show(pk (ge (sZ 64) 64).d 256 (d5 code))[256+4*k+j]?=_;rw [mS,ao ⟨by omega,by omega,by rw [hm.d];omega⟩,show 256+4*k+j-256=4*k+j by omega,uT hk hj,show qO i=k_ i from ao (hv i (cO hk)).1]
 ·obtain⟨a1,a2,a3⟩:=ha;rw [hD,s7,hDk,hDk,hDk,hDk,ac (by omega),ac (by omega),ac (by omega),ac (by omega)];rfl
end Go.Proofs.YtedmdgbmdplifaaGreat
