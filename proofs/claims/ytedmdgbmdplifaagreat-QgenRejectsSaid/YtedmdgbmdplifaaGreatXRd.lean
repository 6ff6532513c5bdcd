/-
  A part of the proof. Conditions are with the theorems.
-/
import Derived.Test.YtedmdgbmdplifaaGreatXRa
import Derived.Test.YtedmdgbmdplifaaGreatXRb
import Derived.Test.YtedmdgbmdplifaaGreatXRc
set_option maxHeartbeats 32000000
set_option maxRecDepth 100000
set_option linter.unusedSimpArgs false
set_option linter.unusedVariables false
namespace Go.Proofs.YtedmdgbmdplifaaGreat
open Go.RowKit Tryz
theorem El{q:Prop}{k:Int}(h:k=1∨k=2∨k=3∨k=4∨k=5∨k=6∨k=7)(n1:¬k=1)(n2:¬k=2)(n3:¬k=3)(n4:¬k=4)(n5:¬k=5)(n6:¬k=6)(n7:¬k=7):q:=by omega
theorem NA{t:Tx}(h:GX t):oW t.n:=by cases t;exact h.1
theorem B_(e:Ga)(c:Oq)(om sm:Om)(hm:e.mp=c.m)(t:Tx)(hw:Wx t)(hg:GX t)(ih:∀u∈t.kids,∀s:Qg,s.sz+22*nX u≤780000→Spec prog 167 [Pt e.g,xV u] [gA e s] [cx u.v u.kids,gW e.g c,mp fE Prod.fst vQ e.mo om,mp fE Prod.fst vI (some e.ms) sm] (X:=Unit) (fun _=>True) (fun _=> .tuple #[]) (fun _=> [gA e (gX om sm u s)]) (fun _=> []))(s:Qg)(hz:s.sz+22*nX t≤780000):
  aO prog 167 [Pt e.g,xV t] [gA e s] [cx t.v t.kids,gW e.g c,mp fE Prod.fst vQ e.mo om,mp fE Prod.fst vI (some e.ms) sm] (.tuple #[]) [gA e (gX om sm t s)]:=by
 refine au func167 J ntmps167 J fun w0 M H=>bs 0 9 J jK (ak (cz J J fun b3=>av J (ax m6 J (aL 3 t3 J J J J (aa (aC (ak (ap J J bc (am J (aa (ah J (fun h1=> ?_) (fun h1=> ?_))))))))))))
 ·(try simp only [aY]at h1);have hk:t.kind=1:=h1;rw [MQ hk];refine aj (ab J (ax Cu J (aL 3 dt J J J J (ae (xs:= [.tmp 11,.tmp 13]) (BC e s (by omega) t.n (NA hg)) KN [0] [] [0] (fun _ _=>aa (bN () O J fi J [0] [] J J J))))))
 ·(try simp only [aY]at h1);have n1:¬t.kind=1:=h1;refine ak (ap J J bc (am J (aa (ah J (fun h2=> ?_) (fun h2=> ?_)))))
  ·(try simp only [aY]at h2);have hk:t.kind=2:=h2;rw [MP hk];refine ce [17,18,19,20,21,22,23,24,25] _ J (bn (V:= [(0,17,_),(1,18,_),(2,19,_),(3,20,_),(4,21,_),(5,22,_),(6,23,_),(7,24,_)]) [0,1,2,3,4,5,6,7] 8 [8,7,6,5,4,3,2,1,0] [] (fun _=> []) J J (aJ J J (aJ J J (ad J (aA J) (ad J (ai kC J) (ad J (ag zp J J (mY (k:=0) J (fun _=>J) J)) (ad J (ai fe J) (ad J (ag t9 J J (aB (k:=3) J J)) (ad J (Bx underlying108 ea dt J J (rE (k:=2) J)) ay)))))))) J J J J J J J J J J J (fun _ _=>J) J (cy (xs:= [.tmp 17,.const (I6 23),.const (I6 1),.const (I6 13),.tmp 24]) (cJ e (s) (by omega) 23 1 13 (bk om t.name)) iF [0] [] [0]) (fun _ _=>br [] J J ay J J J (bN () O J fi J [0] [] J J J)))
  ·(try simp only [aY]at h2);have n2:¬t.kind=2:=h2;refine ak (ap J J bc (am J (aa (ah J (fun h3=> ?_) (fun h3=> ?_)))))
   ·(try simp only [aY]at h3);have hk:t.kind=5:=h3;rw [ML hk];refine aj (ab J (aH (aT (parts:= [(0,.const (I6 48)),(4,.const (I3 2))]) el kV J J) (bD gI ⟨48,0,0,0,2⟩ underlying106 el J (by decide) (by decide) J J J J fun v30=>cr 30 7 J bE (ae (xs:= [.tmp 28,.tmp 30]) (gq e s (by omega) v30 [⟨48,0,0,0,2⟩] (by simp)) u0 [0] [(false,7)] [0] (fun _ _=>aa (bN () O J fi J [0] [] J J J))))))
   ·(try simp only [aY]at h3);have n5:¬t.kind=5:=h3;refine ak (ap J J bc (am J (aa (ah J (fun h4=> ?_) (fun h4=> ?_)))))
    ·(try simp only [aY]at h4);have hk:t.kind=4:=h4;obtain⟨u,hku⟩:=hw.one (.inl hk);have hnu:nX t=nX u+1:=by rw [ug,hku];simp [fM]
     have hsz:=k9 om sm u s;rw [MM hk hku];refine ak (ab J (ax eT J (aL 3 nQ J J J J (aH (aR (j:=0) underlying59 dn J J (aQ (k:=9) J) J (by rw [hku];simp)) ?_))));refine vA (aM dn J J J (ci (aQ (k:=9) J) (by intro _;rfl) (show t.kids[0]?=some u by rw [hku];rfl) (by rfl))) J ?_;refine bs 0 8 J (fh (show u∈t.kids by rw [hku];simp)) ?_;refine fj (xs:= [.tmp 34,.tmp 38]) (ih u (show u∈t.kids by rw [hku];simp) (s) (by omega)) qh [0] [(false,8),(false,1),(false,2),(false,3)] [0] J J J J J J J J (fun _ _=>J) (fun _ _ _=>J) J (fun _ _=> ?_);refine av J (ab J (ae (xs:= [.tmp 40,.const (I6 1)]) (rN e (gX om sm u s) (by omega) 1) Gb [0] [] [0] (fun _ _=>aa (aj (ab J (ae (xs:= [.tmp 42,.const (I6 23),.const (I6 1),.const (I6 1),.const (I3 8192)]) (cJ e ((gX om sm u s).elem 1) (by rw [cW];omega) 23 1 1 8192) iF [0] [] [0] (fun _ _=>aa (bN () O J fi J [0] [] J J J))))))))
    ·(try simp only [aY]at h4);have n4:¬t.kind=4:=h4;refine ak (ap J J bc (am J (aa (ah J (fun h5=> ?_) (fun h5=> ?_)))))
     ·(try simp only [aY]at h5);have hk:t.kind=6:=h5;obtain⟨u,hku⟩:=hw.one (.inr hk);have hnu:nX t=nX u+1:=by rw [ug,hku];simp [fM]
      have hsz:=k9 om sm u s;rw [MK hk hku];refine ak (ab J (ax eT J (aL 3 nQ J J J J (aH (aR (j:=0) underlying59 dn J J (aQ (k:=9) J) J (by rw [hku];simp)) ?_))));refine vA (aM dn J J J (ci (aQ (k:=9) J) (by intro _;rfl) (show t.kids[0]?=some u by rw [hku];rfl) (by rfl))) J ?_;refine bs 0 8 J (fh (show u∈t.kids by rw [hku];simp)) ?_;refine fj (xs:= [.tmp 46,.tmp 50]) (ih u (show u∈t.kids by rw [hku];simp) (s) (by omega)) qh [0] [(false,8),(false,1),(false,2),(false,3)] [0] J J J J J J J J (fun _ _=>J) (fun _ _ _=>J) J (fun _ _=> ?_);refine av J (ax fe J (aL 3 t9 J J J J (aa (aC (ak (ap J J eM (am J (aa (ah J (fun h6=> ?_) (fun h6=> ?_))))))))))
      ·(try simp only [aY]at h6);have ho:t.name=ef:=de ((gk _ _).symm.trans h6);rw [ho,show Ck ef (gX om sm u s)=(gX om sm u s).emit [q3 2 1 0 1]from J];refine aj (ab J (ae (xs:= [.tmp 56,.const (I6 2),.const (I6 1),.const (I6 0),.const (I6 1)]) (cS e (gX om sm u s) (by omega) 2 1 0 1) lI [0] [] [0] (fun _ _=>aa (bN () O J fi J [0] [] J J J))))
      ·(try simp only [aY]at h6);have u1:¬t.name=ef:=eW ((gk _ _).symm.trans h6);refine ak (ap J J eM (am J (aa (ah J (fun h7=> ?_) (fun h7=> ?_)))))
       ·(try simp only [aY]at h7);have ho:t.name=sN:=de ((gk _ _).symm.trans h7);rw [ho,show Ck sN (gX om sm u s)=((gX om sm u s).emit [qi 16 2 0 4294967295]).emit [q3 5 1 1 2]from J];refine ak (ab J (ae (xs:= [.tmp 60,.const (I6 16),.const (I6 2),.const (I6 0),.const (I3 4294967295)]) (cJ e (gX om sm u s) (by omega) 16 2 0 4294967295) iF [0] [] [0] (fun _ _=>aa (aj (ab J (ae (xs:= [.tmp 62,.const (I6 5),.const (I6 1),.const (I6 1),.const (I6 2)]) (cS e ((gX om sm u s).emit [qi 16 2 0 4294967295]) (by rw [bj];simp;omega) 5 1 1 2) lI [0] [] [0] (fun _ _=>aa (bN () O J fi J [0] [] J J J))))))))
       ·(try simp only [aY]at h7);have u2:¬t.name=sN:=eW ((gk _ _).symm.trans h7);refine ak (ap J J eM (am J (aa (ah J (fun h8=> ?_) (fun h8=> ?_)))))
        ·(try simp only [aY]at h8);have ho:t.name=uf:=de ((gk _ _).symm.trans h8);rw [ho,show Ck uf (gX om sm u s)=((gX om sm u s).emit [qi 16 2 0 1]).emit [q3 11 1 1 2]from J];refine ak (ab J (ae (xs:= [.tmp 66,.const (I6 16),.const (I6 2),.const (I6 0),.const (I3 1)]) (cJ e (gX om sm u s) (by omega) 16 2 0 1) iF [0] [] [0] (fun _ _=>aa (aj (ab J (ae (xs:= [.tmp 68,.const (I6 11),.const (I6 1),.const (I6 1),.const (I6 2)]) (cS e ((gX om sm u s).emit [qi 16 2 0 1]) (by rw [bj];simp;omega) 11 1 1 2) lI [0] [] [0] (fun _ _=>aa (bN () O J fi J [0] [] J J J))))))))
        ·exact absurd ((hw.un hk).resolve_left u1 |>.resolve_left u2) (eW ((gk _ _).symm.trans h8))
     ·(try simp only [aY]at h5);have n6:¬t.kind=6:=h5;refine ak (ap J J bc (am J (aa (ah J (fun h9=> ?_) (fun h9=> ?_)))))
      ·(try simp only [aY]at h9);have hk:t.kind=7:=h9;obtain⟨hbin,a,b,hkab⟩:=hw.two hk;have hnu:nX t=nX a+nX b+1:=by rw [ug,hkab];simp [fM]
       have hsa:=k9 om sm a s;have hsb:=k9 om sm b ((gX om sm a s).push 1);rw [ct]at hsb;rw [MJ hk hkab];obtain⟨nc,lc,hfc,hcb,hop⟩:=Hj e c t.name ((gX om sm b ((gX om sm a s).push 1)).pop 2) (by rw [dh];omega) hbin;refine bs 1 10 J (BA 0 J) ?_;rw [←hm];refine ak (ab J (ax eT J (aL 3 nQ J J J J (aH (aR (j:=0) underlying59 dn J J (aQ (k:=9) J) J (by rw [hkab];simp)) ?_))));refine vA (aM dn J J J (ci (aQ (k:=9) J) (by intro _;rfl) (show t.kids[0]?=some a by rw [hkab];rfl) (by rfl))) J ?_;refine bs 0 8 J (fh (show a∈t.kids by rw [hkab];simp)) ?_;refine fj (xs:= [.tmp 72,.tmp 76]) (ih a (show a∈t.kids by rw [hkab];simp) (s) (by omega)) qh [0] [(false,8),(false,1),(false,2),(false,3)] [0] J J J J J J J J (fun _ _=>J) (fun _ _ _=>J) J (fun _ _=> ?_);refine av J (ab J (ae (xs:= [.tmp 78,.const (I6 1)]) (g_ e (gX om sm a s) (by omega) 1) Ar [0] [] [0] (fun _ _=>av J (ab J (ax eT J (aL 3 nQ J J J J (aH (aR (j:=1) underlying59 dn J J (aQ (k:=9) J) J (by rw [hkab];simp)) ?_)))))));refine vA (aM dn J J J (ci (aQ (k:=9) J) (by intro _;rfl) (show t.kids[1]?=some b by rw [hkab];rfl) (by rfl))) J ?_;refine bs 0 8 J (fh (show b∈t.kids by rw [hkab];simp)) ?_;refine fj (xs:= [.tmp 80,.tmp 84]) (ih b (show b∈t.kids by rw [hkab];simp) ((gX om sm a s).push 1) (by rw [ct];omega)) qh [0] [(false,8),(false,1),(false,2),(false,3)] [0] J J J J J J J J (fun _ _=>J) (fun _ _ _=>J) J (fun _ _=> ?_)
       refine av J (ab J (ae (xs:= [.tmp 86,.const (I6 2)]) (l8 e (gX om sm b ((gX om sm a s).push 1)) (by omega) 2) Fb [0] [] [0] (fun _ _=>aa (ce [88,89,90,91,92,93,94,95] _ J (bn (V:= [(0,88,_),(1,89,_),(2,90,_),(3,91,_),(4,92,_),(5,93,_),(6,94,_)]) [0,1,2,3,4,5,6] 7 [7,6,5,4,3,2,1,0] [] (fun _=> []) J J (aJ J J (ad J (aA J) (ad J (ai yU J) (ad J (ag Jf J J (mY (k:=0) J (fun _=>J) J)) (ad J (ai fe J) (ad J (ag t9 J J (aB (k:=3) J J)) (ad J (l9 underlying109 ea t1 J J (rE (k:=10) J) hfc) ay))))))) J J J J J J J J J J J (fun _ _=>J) J (cy (xs:= []) hop hcb [0] [(false,1)] [0]) (fun _ _=>br [] J J ay J J J (bN () O J fi J [0] [] J J J)))))))
      ·(try simp only [aY]at h9);have n7:¬t.kind=7:=h9;refine ak (ap J J bc (am J (aa (ah J (fun h10=> ?_) (fun h10=> ?_)))))
       ·(try simp only [aY]at h10);have hk:t.kind=3:=h10;have hnx:=ug t;have hss:=td om sm t.kids s;have hkl:=tx hg;rw [MN hk];refine aS (ax eT J (aL 3 nQ J J J J (aH (aZ underlying59 J (aQ (k:=9) J)) (ab J (aa (aC (bG (X:=Nat) (fun i=>i≤t.kids.length) (fun i=> [(0,Pt e.g),(3,Pt b3),(99,sv t.v),(100,I6 (t.kids.length:Int)),(101,I6 (i:Int))]) (fun i=> [(0,gA e (rH om sm (t.kids.take i) s)),(3,aP b3 61 (gg t))]) (fun i=> [(0,cx t.v t.kids),(1,gW e.g c),(2,mp fE Prod.fst vQ e.mo om),(3,mp fE Prod.fst vI (some e.ms) sm),(9,sl 4 gg (sv t.v) t.kids)]) (fun i=>t.kids.length-i) 0 (bB _) J J J (fun i n1=>ak (ap J J cL (aa (aW (ah J (fun h11=> ?_) (fun h11=> ?_)))))))))))))
        ·(try simp only [aY]at h11);have hi:i<t.kids.length:=by omega
         obtain⟨kid,hkid⟩:∃k,t.kids[i]?=some k:=⟨_,bV hi⟩
         have hkm:=cO hkid;have hle:=wB t.kids (i+1);rw [jX hkid]at hle;have hsi:=td om sm (t.kids.take i) s;have hsk:=k9 om sm kid (rH om sm (t.kids.take i) s);refine az (aW (aC (ak (aH (aR (j:=i) underlying59 dn J J (aQ (k:=9) J) (by first|rfl|omega) (by first|omega|(simp;done)|(simp;omega))) (aH (aM dn J J J (ci (aQ (k:=9) J) (by intro _;rfl) hkid (by rfl))) (aV dn J J fun b5=>aq (k:=5) dn J J J J J J (av J (ab J (aH (aM dn J J J (bi (k:=5) J)) (bs 0 8 J (fh (hkm)) (ae (xs:= [.tmp 105,.tmp 106]) (ih kid (hkm) (rH om sm (t.kids.take i) s) (by omega)) qh [0] [(false,8),(false,1),(false,2),(false,3)] [0] (fun _ _=>aa (aj (ab J (ae (xs:= [.tmp 108,.const (I6 1)]) (g_ e (gX om sm kid (rH om sm (t.kids.take i) s)) (by omega) 1) Ar [0] [] [0] (fun _ _=> ?_))))))))))))))));refine aa (aj (ap J J a_ (ab J (aa ?_))));refine aI (i+1) ⟨by omega,by omega⟩ J (by rw [uE s hkid];rfl) J
        ·(try simp only [aY]at h11);have hi:i=t.kids.length:=by omega
         subst hi;rw [eo];refine bK (aW (ce [111,112,113,114,115,116,117,118,119] _ J (bn (V:= [(0,111,_),(1,112,_),(2,113,_),(3,114,_),(4,115,_),(5,116,_),(6,117,_),(7,118,_)]) [0,1,2,3,4,5,6,7] 8 [8,7,6,5,4,3,2,1,0] [] (fun _=> []) J J (aJ J J (aJ J J (ad J (aA J) (ad J (ai mu J) (ad J (ag AY J J (mY (k:=0) J (fun _=>J) J)) (ad J (ai fe J) (ad J (ag t9 J J (aB (k:=3) J J)) (ad J (By underlying105 ea t3 J J (rE (k:=3) J)) ay)))))))) J J J J J J J J J J J (fun _ _=>J) J (cy (xs:= [.tmp 111,.const (I6 40),.const (I6 15),.const (I6 0),.tmp 118]) (eO e (rH om sm t.kids s) (by omega) 40 15 0 (bk sm t.name)) qS [0] [] [0]) (fun _ _=>br [] J J ay J J J (ak (ax eT J (aL 3 nQ J J J J (aH (aZ underlying59 J (aQ (k:=9) J)) (am J (av J (ab J (ap J J fU (aa (ah J (fun h12=> ?_) (fun h12=> ?_)))))))))))))))
         ·(try simp only [aY]at h12);rw [ao (show t.kids.length>0 by omega)];refine aj (ab J (ab J (ap J J i9 (aH (bX underlying3 underlying41 J (by first|exact bx (by omega)|rfl)) (ae (xs:= [.tmp 125,.const (I6 16),.const (I6 14),.const (I6 14),.tmp 128]) (cJ e ((rH om sm t.kids s).jump 40 15 0 (bk sm t.name)) (by rw [bz];omega) 16 14 14 (4*t.kids.length)) iF [0] [] [0] (fun _ _=>aa (bN () O J fi J [0] [] J J J)))))))
         ·(try simp only [aY]at h12);rw [ac (show ¬t.kids.length>0 by omega)];refine az (bN () O J fi J [0] [] J J J)
       ·exact El hw.kind n1 n2 (by simpa using h10) n4 n5 n6 n7
theorem yt(e:Ga)(c:Oq)(om sm:Om)(hm:e.mp=c.m):∀(n:Nat)(t:Tx),SizeOf.sizeOf t<n→rX t=true→GX t→∀s:Qg,s.sz+22*nX t≤780000→aO prog 167 [Pt e.g,xV t] [gA e s] [cx t.v t.kids,gW e.g c,mp fE Prod.fst vQ e.mo om,mp fE Prod.fst vI (some e.ms) sm] (.tuple #[]) [gA e (gX om sm t s)]
 | 0,_,h,_,_=>absurd h (Nat.not_lt_zero _)
 | n+1,t,h,hr,hg=>fun s hz=>B_ e c om sm hm t (Fq hr) hg (fun u hu=>yt e c om sm hm n u (by have:=xJ hu;omega) ((Fq hr).kids u hu) ((ot hg).mem u hu)) s hz
theorem uA(e:Ga)(c:Oq)(om sm:Om)(hm:e.mp=c.m)(t:Tx)(hr:rX t=true)(hg:GX t)(s:Qg)(hz:s.sz+22*nX t≤780000):aO prog 167 [Pt e.g,xV t] [gA e s] [cx t.v t.kids,gW e.g c,mp fE Prod.fst vQ e.mo om,mp fE Prod.fst vI (some e.ms) sm] (.tuple #[]) [gA e (gX om sm t s)]:=yt e c om sm hm _ t (Nat.lt_succ_self _) hr hg s hz
variable{K:(Int→Int)→Prop}
theorem Res.len{s s':Qg}{r:List Qi}(h:Res K s s' r):s'.code.length=s.code.length+r.length:=by
 obtain⟨raw,fs,ls,a1,a2,-⟩:=h.ex;rw [a1,bO,a2]
theorem xQ(a:List Int)(x y:Int)(b:List Int):(a++ [x]++b).set a.length y=a++ [y]++b:=by
 rw [List.append_assoc,List.set_append_right _ _ (bU _),Nat.sub_self,List.append_assoc];rfl
theorem tP(a:List Int)(x z y:Int)(b:List Int):(a++ [x,z]++b).set (a.length+1) y=a++ [x,y]++b:=by
 rw [List.append_assoc,List.set_append_right _ _ (by omega),show a.length+1-a.length=1 by omega,List.append_assoc];rfl
theorem Res.one{s s':Qg}{r:List Qi}(m:Int)(h:Res (fun L=>K L∧L (s.labs.length:Int)=m) s.lab s' r)(hm:m=s'.code.length):Res K s (s'.place s.labs.length) r:=by
 refine Res.labels [0] [m] J (s':=s') (h.weaken fun L hL=>⟨hL.1,hL.2 0 m J⟩) J J fun ls hls=> ?_
 show s'.labs.set ((s.labs.length:Int).toNat) s'.code.length=_;rw [hls,Int.toNat_natCast,xQ,hm]
theorem cM{c:Prop} [Decidable c]{s a b:Qg}{r t:List Qi}(h1:Res K s a r)(h2:Res K s b t):Res K s (if c then a else b) (if c then r else t):=by
 by_cases h:c
 ·rw [ao h,ao h];exact h1
 ·rw [ac h,ac h];exact h2
theorem vK{n:Nat}(h:n<4294967296):wU (n:Int)=n:=by
 unfold wU;show((n:Int))%4294967296=n;omega
theorem EL(o:Ba)(s:Qg):Res K s (nG o s) (zg o):=by
 unfold nG zg;refine cM ?_ ?_
 ·exact Res.emit _ _
 refine cM ?_ ?_
 ·exact Res.emit _ _
 refine cM ?_ ?_
 ·exact Res.emit _ _
 refine cM ?_ ?_
 ·exact Res.emit _ _
 refine cM ?_ ?_
 ·exact Res.emit _ _
 refine cM ?_ ?_
 ·exact Res.emit _ _
 refine cM ?_ ?_
 ·exact Res.emit _ _
 refine cM ?_ ?_
 ·exact Res.emit _ _
 refine cM ?_ ?_
 ·exact Res.emit _ _
 refine cM ?_ ?_
 ·exact Res.emit _ _
 refine cM ?_ ?_
 ·exact(Res.emit _ [_]).seq (Res.emit _ [_])
 refine cM ?_ ?_
 ·exact(Res.emit _ [_]).seq (Res.emit _ [_])
 refine cM ?_ ?_
 ·exact(Res.emit _ [_]).seq (Res.emit _ [_])
 refine cM ?_ ?_
 ·exact((Res.emit _ [_]).seq (Res.emit _ [_])).seq (Res.emit _ [_])
 refine cM ?_ ?_
 ·refine Res.one ((s.code.length:Int)+2) ((Res.jump s.lab 32 1 0 _ 2 fun L hL=> ?_).seq (Res.emit _ [_])) ?_
  ·rw [hL.2];show wU ((s.code.length:Int)+2-s.code.length)=2;rw [show(s.code.length:Int)+2-s.code.length=((2:Nat):Int) by omega];exact vK (by decide)
  ·show _=((((s.code++ [_])++ [_]).length:Nat):Int);simp only [bO,b_,cj];omega
 refine cM ?_ ?_
 ·refine(Res.one (r:= [q3 1 3 1 0,qi 32 1 0 3,q3 10 3 2 1,q3 9 3 3 1]) ((s.code.length:Int)+4) (((((Res.emit s.lab [_]).seq (Res.jump _ 32 1 0 _ 3 fun L hL=> ?_)).seq (Res.emit _ [_])).seq (Res.emit _ [_]))) ?_).seq (Res.emit _ [_])
  ·rw [hL.2];show wU ((s.code.length:Int)+4-(((s.code++ [_]).length:Nat):Int))=3;rw [bO,dJ,show(s.code.length:Int)+4-((s.code.length+1:Nat):Int)=((3:Nat):Int) by omega];exact vK (by decide)
  ·show _=((((((s.code++ [_])++ [_])++ [_])++ [_]).length:Nat):Int);simp only [bO,b_,cj];omega
 ·exact Res.nil s
theorem EJ(o:Ba)(s:Qg):Res K s (Ck o s) (AA o):=by
 unfold Ck AA;refine cM ?_ ?_
 ·exact Res.emit _ _
 refine cM ?_ ?_
 ·exact(Res.emit _ [_]).seq (Res.emit _ [_])
 refine cM ?_ ?_
 ·exact(Res.emit _ [_]).seq (Res.emit _ [_])
 ·exact Res.nil s
theorem Cn(n:Int)(s:Qg):Res K s (pu n s) (nC n):=by
 unfold pu nC;refine cM ?_ ?_
 ·exact Res.emit _ _
 ·exact Res.emit _ _
mutual
theorem wT{o st:Om}{S:Ba→Int}(hK:∀L,K L→∀x,L (bk st x)=S x):∀(t:Tx)(s:Qg),Res K s (gX o st t s) (zX o S t s.code.length)
 | .mk k n nm v kids,s=>by
  have h0:=oa (o:=o) hK kids;have h1:=yu (o:=o) hK kids;have hs:=te (o:=o) hK kids;unfold gX zX;split
  ·exact Cn n s
  split
  ·exact Res.emit _ _
  split
  ·exact Res.emit _ _
  split
  ·exact(h0 s).seq ((Res.elem _ 1).seq (Res.emit _ _))
  split
  ·exact(h0 s).seq (EJ nm _)
  split
  ·have e1:=(h0 s).len;have e2:=(Res.push (K:=K) (ku o st kids s) 1).len;have e3:s.code.length+(vv o S kids s.code.length).length+2=((ku o st kids s).push 1).code.length:=by
    rw [e2,e1];rfl
   rw [e3];exact(h0 s).seq ((Res.push _ 1).seq ((h1 _).seq ((Res.pop _ 2).seq (EL nm _))))
  split
  ·have e1:=(hs s).len;have e2:Res K (rH o st kids s) ((rH o st kids s).jump 40 15 0 (bk st nm)) [qi 40 15 0 (wU (S nm-((s.code.length+(vF o S kids s.code.length).length:Nat):Int)))]:=by
    refine Res.jump _ 40 15 0 _ _ fun L hL=> ?_
    rw [hK L hL nm,e1]
   refine(hs s).seq (e2.seq ?_);dsimp only;split
   ·exact Res.emit _ _
   ·exact Res.nil _
  ·exact Res.nil s
theorem oa{o st:Om}{S:Ba→Int}(hK:∀L,K L→∀x,L (bk st x)=S x):∀(l:List Tx)(s:Qg),Res K s (ku o st l s) (vv o S l s.code.length)
 | [],s=>Res.nil s
 | t::_,s=>wT hK t s
theorem yu{o st:Om}{S:Ba→Int}(hK:∀L,K L→∀x,L (bk st x)=S x):∀(l:List Tx)(s:Qg),Res K s (IT o st l s) (I0 o S l s.code.length)
 | [],s=>Res.nil s
 | _::r,s=>oa hK r s
theorem te{o st:Om}{S:Ba→Int}(hK:∀L,K L→∀x,L (bk st x)=S x):∀(l:List Tx)(s:Qg),Res K s (rH o st l s) (vF o S l s.code.length)
 | [],s=>Res.nil s
 | t::r,s=>by
  have h:=wT (o:=o) hK t s;have e1:=h.len;have e2:=(Res.push (K:=K) (gX o st t s) 1).len;have e3:s.code.length+(zX o S t s.code.length).length+2=((gX o st t s).push 1).code.length:=by
   rw [e2,e1];rfl
  unfold rH vF;rw [e3];exact h.seq ((Res.push _ 1).seq (te hK r _))
end
variable{K:(Int→Int)→Prop}
theorem Res.relab{s s1 s2:Qg}{r:List Qi}(ns ms:List Int)(hl:ns.length=ms.length)(h:Res K {s with labs:=s.labs++ns} s1 r)
  (hc:s2.code=s1.code) (hf:s2.fixes=s1.fixes) (hs:∀ls,s1.labs=(s.labs++ns)++ls→s2.labs=(s.labs++ms)++ls):Res K {s with labs:=s.labs++ms} s2 r:=by
 obtain⟨raw,fs,ls,a1,a2,a3,a4,a5,a6⟩:=h.ex;refine⟨⟨raw,fs,ls,hc.trans a1,a2,hf.trans a3,hs ls a4,a5,fun L hK hL=>a6 L hK fun i n hi=> ?_⟩⟩;have:=hL i n hi;show L (((s.labs++ns).length+i:Nat):Int)=n;rw [bO,hl,←bO];exact this
theorem Gy(s:Qg):s.lab.place s.labs.length={s with labs:=s.labs++ [(s.code.length:Int)]}:=by
 show Qg.mk _ _ ((s.labs++ [0]).set ((s.labs.length:Int).toNat) s.code.length)=_;have:=xQ s.labs 0 (s.code.length:Int) [];simp only [List.append_nil]at this;rw [Int.toNat_natCast,this];rfl
mutual
theorem Cg{o st:Om}{S:Ba→Int}{en E:Int}:∀{K:(Int→Int)→Prop}(t:Ty)(s:Qg),(∀L,K L→∀x,L (bk st x)=S x)→(∀L,K L→L en=E)→Res K s (gY o st en t s) (zY o S E t s.code.length)
 | K,.mk k nm ve es vb body vl els,s,hK,hE=>by
  refine Res.labels [(s.code.length:Int)] [(s.code.length:Int)] J (s':=gY o st en (.mk k nm ve es vb body vl els) s) ?_ J J (fun ls h=>h);generalize hK':(fun L=>K L∧∀(i:Nat)(n:Int),[(s.code.length:Int)][i]?=some n→L ((s.labs.length+i:Nat):Int)=n)=K';have k1:∀L,K' L→∀x,L (bk st x)=S x:=fun L h=>hK L (by rw [←hK']at h;exact h.1)
  have k2:∀L,K' L→L en=E:=fun L h=>hE L (by rw [←hK']at h;exact h.1)
  have k3:∀L,K' L→L (s.labs.length:Int)=s.code.length:=fun L h=>by rw [←hK']at h;exact h.2 0 _ J
  clear hK';unfold gY zY;dsimp only;rw [Gy];generalize hs0:({s with labs:=s.labs++ [(s.code.length:Int)]}:Qg)=s0;have c0:s0.code.length=s.code.length:=by rw [←hs0]
  have h0:=oa (K:=K') (o:=o) k1 es s0;rw [c0]at h0;have e0:=h0.len;rw [c0,lQ]at e0;refine cM (h0.seq (Res.emit _ _)) (cM ?_ (cM (h0.seq (Res.emit _ _)) (cM ?_ (cM ?_ (cM ?_ h0)))))
  ·have e2:=(Res.push (K:=K') (ku o st es s0) 1).len;have e3:s.code.length+iD es+2=((ku o st es s0).push 1).code.length:=by
    rw [e2,e0];rfl
   rw [e3];exact h0.seq ((Res.push _ 1).seq ((yu k1 es _).seq ((Res.pop _ 2).seq ((Res.elem _ 2).seq (Res.emit _ _)))))
  ·exact h0.seq (Res.jump _ 40 0 0 _ _ fun L hL=>by rw [k2 L hL,e0])
  ·refine h0.seq ?_;generalize hs1:ku o st es s0=s1;rw [hs1]at e0;have hb:=fun(K:(Int→Int)→Prop)(a:∀L,K L→∀x,L (bk st x)=S x)(b:∀L,K L→L en=E)(s:Qg)=>kq (o:=o) (st:=st) (en:=en) (E:=E) (S:=S) (K:=K) body s a b
   have he:=fun(K:(Int→Int)→Prop)(a:∀L,K L→∀x,L (bk st x)=S x)(b:∀L,K L→L en=E)(s:Qg)=>kq (o:=o) (st:=st) (en:=en) (E:=E) (S:=S) (K:=K) els s a b
   simp only [eB];obtain⟨po,hpo⟩:∃po,po=s.code.length+iD es+1+eK body+(if els.length>0 then 1 else 0):=⟨_,J⟩
   obtain⟨sA,hsA⟩:∃x,x=((s1.lab.lab).jump 32 1 0 s1.labs.length):=⟨_,J⟩
   obtain⟨sB,hsB⟩:∃x,x=gf o st en body sA:=⟨_,J⟩
   obtain⟨sC,hsC⟩:∃x,x=(if els.length>0 then sB.jump 40 0 0 (s1.labs.length+1)else sB):=⟨_,J⟩
   obtain⟨sD,hsD⟩:∃x,x=gf o st en els (sC.place s1.labs.length):=⟨_,J⟩
   rw [←hsA,←hsB,←hsC,←hsD,←hpo];obtain⟨K2,hK2⟩:∃K2:(Int→Int)→Prop,K2=(fun L=>K' L∧∀(i:Nat)(n:Int),[(po:Int),((po+eK els:Nat):Int)][i]?=some n→L ((s1.labs.length+i:Nat):Int)=n):=⟨_,J⟩
   have j1:∀L,K2 L→∀x,L (bk st x)=S x:=fun L h=>k1 L (by rw [hK2]at h;exact h.1)
   have j2:∀L,K2 L→L en=E:=fun L h=>k2 L (by rw [hK2]at h;exact h.1)
   have j3:∀L,K2 L→L (s1.labs.length:Int)=(po:Int):=fun L h=>by rw [hK2]at h;exact h.2 0 _ J
   have j4:∀L,K2 L→L (s1.labs.length+1)=((po+eK els:Nat):Int):=fun L h=>by rw [hK2]at h;exact h.2 1 _ J
   have g1:Res K2 s1.lab.lab sA [qi 32 1 0 (wU ((eK body+(if els.length>0 then 1 else 0)+1:Nat):Int))]:=by
    rw [hsA];refine Res.jump _ 32 1 0 _ _ fun L hL=> ?_
    rw [j3 L hL,hpo];show wU (_-(s1.code.length:Int))=_;rw [e0]
    congr 1
    omega
   have e1:sA.code.length=s.code.length+iD es+1:=by
    rw [g1.len];show s1.code.length+1=_;rw [e0]
   have g2:=hb K2 j1 j2 sA;rw [e1,←hsB]at g2;have e2:=g2.len;rw [eB,e1]at e2;have g3:Res K2 sB sC (if els.length>0 then [qi 40 0 0 (wU ((eK els+1:Nat):Int))]else []):=by
    rw [hsC];by_cases h:els.length>0
    ·rw [ao h,ao h];refine Res.jump _ 40 0 0 _ _ fun L hL=> ?_
     rw [j4 L hL,e2,hpo,ao h]
     congr 1
     omega
    ·rw [ac h,ac h];exact Res.nil _
   have e3:=g3.len;have e4:s.code.length+iD es+1+eK body+(if els.length>0 then [qi 40 0 0 (wU ((eK els+1:Nat):Int))]else []).length=po:=by
    rw [hpo];split<;>rfl
   rw [e2,e4]at e3;have g4:=(g1.seq (g2.seq g3))
   have ee:({s1 with labs:=s1.labs++ [0,0]}:Qg)=s1.lab.lab:=by
    show _=Qg.mk _ _ ((s1.labs++ [0])++ [0]);rw [List.append_assoc];rfl
   rw [←ee]at g4;have g6:=Res.relab (s2:=sC.place s1.labs.length) [0,0] [(po:Int),0] J g4 J J (fun ls hls=>by
     show List.set sC.labs ((s1.labs.length:Int).toNat) (sC.code.length:Int)=_;rw [hls,e3,Int.toNat_natCast];simp)
   have g5:=he K2 j1 j2 (sC.place s1.labs.length);have e5:(sC.place s1.labs.length).code.length=po:=e3;rw [e5,←hsD]at g5;have e6:=g5.len;rw [e5,eB]at e6;have g7:=g6.seq g5;rw [hK2]at g7;refine Res.labels [(po:Int),0] [(po:Int),((po+eK els:Nat):Int)] J (s':=sD) ?_ J J (fun ls hls=> ?_)
   ·simpa only [List.append_assoc]using g7
   ·show List.set sD.labs (((s1.labs.length:Int)+1).toNat) (sD.code.length:Int)=_;rw [hls,e6,show((s1.labs.length:Int)+1).toNat=s1.labs.length+1 by omega,tP]
  ·refine h0.seq ?_;generalize hs1:ku o st es s0=s1;rw [hs1]at e0;have hb:=fun(K:(Int→Int)→Prop)(a:∀L,K L→∀x,L (bk st x)=S x)(b:∀L,K L→L en=E)(s:Qg)=>kq (o:=o) (st:=st) (en:=en) (E:=E) (S:=S) (K:=K) body s a b
   simp only [eB];obtain⟨sA,hsA⟩:∃x,x=s1.lab.jump 32 1 0 s1.labs.length:=⟨_,J⟩
   obtain⟨sB,hsB⟩:∃x,x=gf o st en body sA:=⟨_,J⟩
   obtain⟨K2,hK2⟩:∃K2:(Int→Int)→Prop,K2=(fun L=>K' L∧L (s1.labs.length:Int)=((s.code.length+iD es+eK body+2:Nat):Int)):=⟨_,J⟩
   have j1:∀L,K2 L→∀x,L (bk st x)=S x:=fun L h=>k1 L (by rw [hK2]at h;exact h.1)
   have j2:∀L,K2 L→L en=E:=fun L h=>k2 L (by rw [hK2]at h;exact h.1)
   have g1:Res K2 s1.lab sA [qi 32 1 0 (wU ((eK body+2:Nat):Int))]:=by
    rw [hsA];refine Res.jump _ 32 1 0 _ _ fun L hL=> ?_
    rw [hK2]at hL;rw [hL.2];show wU (_-(s1.code.length:Int))=_;rw [e0]
    congr 1
    omega
   have e1:sA.code.length=s.code.length+iD es+1:=by
    rw [g1.len];show s1.code.length+1=_;rw [e0]
   have g2:=hb K2 j1 j2 sA;rw [e1,←hsB]at g2;have e2:=g2.len;rw [eB,e1]at e2;have g3:Res K2 sB (sB.jump 40 0 0 s.labs.length) [qi 40 0 0 (wU (-((eK body+iD es+1:Nat):Int)))]:=by
    refine Res.jump _ 40 0 0 _ _ fun L hL=> ?_
    rw [hK2]at hL;rw [k3 L hL.1,e2]
    congr 1
    omega
   have g4:=g1.seq (g2.seq g3);have e4:=g3.len;rw [e2]at e4;rw [hK2]at g4;rw [←hsA,←hsB];refine Res.one _ g4 ?_;rw [e4];show _=((s.code.length+iD es+1+eK body+1:Nat):Int);omega
theorem kq{o st:Om}{S:Ba→Int}{en E:Int}:∀{K:(Int→Int)→Prop}(l:List Ty)(s:Qg),(∀L,K L→∀x,L (bk st x)=S x)→(∀L,K L→L en=E)→Res K s (gf o st en l s) (jA o S E l s.code.length)
 | K,[],s,_,_=>Res.nil s
 | K,t::r,s,hK,hE=>by
  have h:=Cg (o:=o) t s hK hE;unfold gf jA;rw [←h.len];exact h.seq (kq r _ hK hE)
end
theorem pr:∀(n:Nat)(s:Qg),Res K s (dk n s) (h_ n)
 | 0,s=>Res.nil s
 | n+1,s=>(Res.push s 0).seq (pr n _)
theorem HQ{st:Om}{S:Ba→Int}(hK:∀L,K L→∀x,L (bk st x)=S x)(f:Tf)(s:Qg)(hi:(bk st f.name).toNat<s.labs.length):
  Res K {s with labs:=s.labs.set (bk st f.name).toNat s.code.length} (gF st f s) (zF S f s.code.length):=by
 obtain⟨i,hi'⟩:∃i,i=(bk st f.name).toNat:=⟨_,J⟩
 obtain⟨s0,hs0⟩:∃s0:Qg,s0={s with labs:=s.labs.set i s.code.length}:=⟨_,J⟩
 obtain⟨lb,hlb⟩:∃lb,lb=s.labs.length:=⟨_,J⟩
 rw [←hi']at hi ⊢;have l0:s0.labs.length=lb:=by rw [hs0,hlb];exact List.length_set
 have c0:s0.code.length=s.code.length:=by rw [hs0]
 obtain⟨n,hn⟩:∃n,n=(cQ f).2.toNat:=⟨_,J⟩
 obtain⟨E,hE⟩:∃E,E=s.code.length+10+2*n+eK f.body:=⟨_,J⟩
 obtain⟨K2,hK2⟩:∃K2:(Int→Int)→Prop,K2=(fun L=>K L∧∀(i:Nat)(n:Int),[((s.code.length+4:Nat):Int),(E:Int)][i]?=some n→L ((s0.labs.length+i:Nat):Int)=n):=⟨_,J⟩
 have j1:∀L,K2 L→∀x,L (bk st x)=S x:=fun L h=>hK L (by rw [hK2]at h;exact h.1)
 have j2:∀L,K2 L→L (lb:Int)=((s.code.length+4:Nat):Int):=fun L h=>by rw [hK2]at h;rw [←l0];exact h.2 0 _ J
 have j3:∀L,K2 L→L ((lb:Int)+1)=(E:Int):=fun L h=>by
  rw [hK2]at h;have:=h.2 1 _ J;rw [l0]at this;exact this
 obtain⟨sP,hsP⟩:∃x:Qg,x={s0 with labs:=s0.labs++ [0,0]}:=⟨_,J⟩
 have cP:sP.code.length=s.code.length:=by rw [hsP];exact c0
 have eP:(s.lab.lab).place (bk st f.name)=sP:=by
  rw [hsP,hs0];show Qg.mk _ _ (((s.labs++ [0])++ [0]).set (bk st f.name).toNat s.code.length)=_;rw [←hi',List.append_assoc,List.set_append_left _ _ hi];rfl
 obtain⟨sA,hsA⟩:∃x,x=(((sP.emit [qi 16 12 12 1]).emit [qi 16 2 0 12]).jump 35 2 12 lb).emit [⟨49,0,0,0,0⟩]:=⟨_,J⟩
 have g1:Res K2 sP sA [qi 16 12 12 1,qi 16 2 0 12,qi 35 2 12 2,⟨49,0,0,0,0⟩]:=by
  rw [hsA];refine(((Res.emit _ [_]).seq (Res.emit _ [_])).seq (Res.jump _ 35 2 12 _ 2 fun L hL=> ?_)).seq (Res.emit _ [_]);rw [j2 L hL];show wU (_-((((sP.code++ [_])++ [_]).length:Nat):Int))=2;rw [bO,bO,cP];show wU (_-((s.code.length+1+1:Nat):Int))=2;rw [show((s.code.length+4:Nat):Int)-((s.code.length+1+1:Nat):Int)=((2:Nat):Int) by omega];exact vK (by decide)
 have e1:sA.code.length=s.code.length+4:=by rw [g1.len,cP];rfl
 have g1b:Res K2 {s0 with labs:=s0.labs++ [((s.code.length+4:Nat):Int),0]} (sA.place lb) [qi 16 12 12 1,qi 16 2 0 12,qi 35 2 12 2,⟨49,0,0,0,0⟩]:=by
  rw [hsP]at g1;refine Res.relab [0,0] _ J g1 J J fun ls hls=> ?_
  show List.set sA.labs ((lb:Int).toNat) (sA.code.length:Int)=_;rw [hls,e1,Int.toNat_natCast,←l0];simp
 obtain⟨sB,hsB⟩:∃x,x=dk n ((((sA.place lb).push 15).push 13).emit [q3 1 13 14 0]):=⟨_,J⟩
 have g2:Res K2 (sA.place lb) sB (eJ 15++(eJ 13++([q3 1 13 14 0]++h_ n))):=by
  rw [hsB];exact(Res.push _ 15).seq ((Res.push _ 13).seq ((Res.emit _ [_]).seq (pr n _)))
 have e2:sB.code.length=s.code.length+9+2*n:=by
  rw [g2.len];simp only [bO,ja];show sA.code.length+_=_;rw [e1];simp only [eJ,b_,cj];omega
 obtain⟨sC,hsC⟩:∃x,x=(gf (cQ f).1 st (lb+1) f.body sB).emit [q3 1 1 0 0]:=⟨_,J⟩
 have g3:Res K2 sB sC (jA (cQ f).1 S E f.body (s.code.length+9+2*n)++ [q3 1 1 0 0]):=by
  rw [hsC,←e2];exact(kq f.body sB j1 j3).seq (Res.emit _ _)
 have e3:sC.code.length=E:=by
  rw [g3.len,e2,hE];simp only [bO,eB,b_,cj];omega
 have g4:=g1b.seq (g2.seq g3);have g5:=Res.relab (s2:=sC.place (lb+1)) [((s.code.length+4:Nat):Int),0] [((s.code.length+4:Nat):Int),(E:Int)] J g4 J J (fun ls hls=>by
  show List.set sC.labs (((lb:Int)+1).toNat) (sC.code.length:Int)=_;rw [hls,e3,show((lb:Int)+1).toNat=s0.labs.length+1 by omega,tP])
 have g6:=g5.seq ((Res.emit (sC.place (lb+1)) [q3 1 14 13 0]).seq ((Res.pop _ 13).seq ((Res.pop _ 15).seq ((Res.emit _ [qi 16 12 12 4294967295]).seq (Res.emit _ [qi 27 0 15 0])))));have g7:Res K s0 (((((sC.place (lb+1)).emit [q3 1 14 13 0]).pop 13).pop 15).emit [qi 16 12 12 4294967295] |>.emit [qi 27 0 15 0]) (zF S f s.code.length):=by
  refine Res.labels [((s.code.length+4:Nat):Int),(E:Int)] [((s.code.length+4:Nat):Int),(E:Int)] J (s':=((((sC.place (lb+1)).emit [q3 1 14 13 0]).pop 13).pop 15).emit [qi 16 12 12 4294967295] |>.emit [qi 27 0 15 0]) ?_ J J (fun ls h=>h);rw [←hK2];have:zF S f s.code.length=([qi 16 12 12 1,qi 16 2 0 12,qi 35 2 12 2,⟨49,0,0,0,0⟩]++((eJ 15++(eJ 13++([q3 1 13 14 0]++h_ n)))++(jA (cQ f).1 S E f.body (s.code.length+9+2*n)++ [q3 1 1 0 0])))++([q3 1 14 13 0]++(jE 13++(jE 15++([qi 16 12 12 4294967295]++ [qi 27 0 15 0])))):=by
   unfold zF;rw [hE,hn];simp only [List.append_assoc];rfl
  rw [this];exact g6
 rw [hs0]at g7;have:gF st f s=(((((sC.place (lb+1)).emit [q3 1 14 13 0]).pop 13).pop 15).emit [qi 16 12 12 4294967295] |>.emit [qi 27 0 15 0]):=by
  rw [hsC,hsB,hsA,←eP,hn,hlb];rfl
 rw [this];exact g7
def dy(st:Om):List Tf→Nat→List Int→List Int
 | [],_,l=>l
 | f::r,p,l=>dy st r (p+wF f) (l.set (bk st f.name).toNat p)
theorem lf(st:Om):∀(fs:List Tf)(p:Nat)(l:List Int),(dy st fs p l).length=l.length
 | [],_,_=>rfl
 | f::r,p,l=>by
  unfold dy;rw [lf st r,List.length_set]
theorem oJ(st:Om):∀(fs:List Tf)(p:Nat)(a b:List Int),(∀f∈fs,(bk st f.name).toNat<a.length)→dy st fs p (a++b)=dy st fs p a++b
 | [],_,_,_,_=>rfl
 | f::r,p,a,b,h=>by
  unfold dy;rw [List.set_append_left _ _ (h f (by simp)),oJ st r _ _ b fun g hg=>by rw [List.length_set];exact h g (by simp [hg])]
theorem yA{st:Om}{S:Ba→Int}(hK:∀L,K L→∀x,L (bk st x)=S x):∀(fs:List Tf)(s:Qg),(∀f∈fs,(bk st f.name).toNat<s.labs.length)→
  Res K {s with labs:=dy st fs s.code.length s.labs} (pw st fs s) (AJ S fs s.code.length)
 | [],s,_=>Res.nil s
 | f::r,s,h=>by
  have hf:=h f (by simp);have g1:=HQ hK f s hf;have e1:(gF st f s).code.length=s.code.length+wF f:=by
   have:=g1.len;rw [vH]at this;exact this
  obtain⟨raw,fx,ls,a1,a2,a3,a4,a5,a6⟩:=g1.ex;have hl:(gF st f s).labs.length≥s.labs.length:=by
   rw [a4,bO,List.length_set];omega
  have g2:=yA hK r (gF st f s) (fun g hg=>by have:=h g (by simp [hg]);omega);rw [e1]at g2;have hr:∀g∈r,(bk st g.name).toNat<(s.labs.set (bk st f.name).toNat s.code.length).length:=fun g hg=>by rw [List.length_set];exact h g (by simp [hg])
  have g3:Res K {s with labs:=dy st (f::r) s.code.length s.labs} {gF st f s with labs:=dy st r (s.code.length+wF f) (gF st f s).labs} (zF S f s.code.length):=by
   refine⟨⟨raw,fx,ls,a1,a2,a3,?_,a5,fun L hL hi=>a6 L hL fun i n hn=> ?_⟩⟩
   ·show dy st r _ (gF st f s).labs=_;rw [a4,oJ st r _ _ _ hr];rfl
   ·have:=hi i n hn;show L (((s.labs.set (bk st f.name).toNat s.code.length).length+i:Nat):Int)=n;rw [List.length_set];rw [show({s with labs:=dy st (f::r) s.code.length s.labs}:Qg).labs.length=s.labs.length from lf st _ _ _]at this;exact this
  exact g3.seq g2
theorem Res.labs_le{K:(Int→Int)→Prop}{s s':Qg}{r:List Qi}(h:Res K s s' r):s.labs.length≤s'.labs.length:=by
 obtain⟨raw,fs,ls,-,-,-,a4,-⟩:=h.ex;rw [a4,bO];omega
theorem Ci(o st:Om)(t:Tx)(s:Qg):s.labs.length≤(gX o st t s).labs.length:=(wT (K:=fun _=>False) (S:=fun _=>0) (fun _ h=>h.elim) t s).labs_le
theorem yv(o st:Om)(t:List Tx)(s:Qg):s.labs.length≤(ku o st t s).labs.length:=(oa (K:=fun _=>False) (S:=fun _=>0) (fun _ h=>h.elim) t s).labs_le
theorem iI(o st:Om)(en:Int)(l:List Ty)(s:Qg):s.labs.length≤(gf o st en l s).labs.length:=(kq (K:=fun _=>False) (S:=fun _=>0) (E:=0) l s (fun _ h=>h.elim) (fun _ h=>h.elim)).labs_le
mutual
theorem J9(o st:Om)(en:Int):∀(t:Ty)(s:Qg),(gY o st en t s).sz≤s.sz+22*nY t
 | .mk k nm _ es _ body _ els,s=>by
  have hb:=iN o st en body;have hl:=iN o st en els;have h0:=wV o st es (s.lab.place s.labs.length);have h1:=yw o st es (s.lab.place s.labs.length);rw [bv,bT]at h0 h1;unfold gY nY;dsimp only;refine cD ?_ (cD ?_ (cD ?_ (cD ?_ (cD ?_ (cD ?_ (by omega))))))
  ·simp only [bj,dJ];omega
  ·simp only [bj,cW,dh,dJ];omega
  ·simp only [bj,dJ];omega
  ·simp only [bz];omega
  ·have b1:=hb (((ku o st es (s.lab.place s.labs.length)).lab.lab).jump 32 1 0 (ku o st es (s.lab.place s.labs.length)).labs.length);rw [bz,bT,bT]at b1;rw [bv];refine Nat.le_trans (hl _) ?_;rw [bv];have:(if els.length>0 then(gf o st en body (((ku o st es (s.lab.place s.labs.length)).lab.lab).jump 32 1 0 (ku o st es (s.lab.place s.labs.length)).labs.length)).jump 40 0 0 ((ku o st es (s.lab.place s.labs.length)).labs.length+1)else gf o st en body (((ku o st es (s.lab.place s.labs.length)).lab.lab).jump 32 1 0 (ku o st es (s.lab.place s.labs.length)).labs.length)).sz≤s.sz+22*fM es+22*d9 body+7:=by
    refine cD ?_ ?_
    ·rw [bz];omega
    ·omega
   omega
  ·have b1:=hb ((ku o st es (s.lab.place s.labs.length)).lab.jump 32 1 0 (ku o st es (s.lab.place s.labs.length)).labs.length);rw [bz,bT]at b1;rw [bv,bz];omega
theorem iN(o st:Om)(en:Int):∀(l:List Ty)(s:Qg),(gf o st en l s).sz≤s.sz+22*d9 l
 | [],s=>Nat.le_add_right _ _
 | t::r,s=>by
  have h1:=J9 o st en t s;have h2:=iN o st en r (gY o st en t s);unfold gf d9;omega
end
theorem uD{o st:Om}{en:Int}:∀{l:List Ty}{i:Nat}{u:Ty}(s:Qg),l[i]?=some u→gf o st en (l.take (i+1)) s=gY o st en u (gf o st en (l.take i) s)
 | [],i,u,s,h=>by simp at h
 | x::r,0,u,s,h=>by cases h;rfl
 | x::r,i+1,u,s,h=>uD (l:=r) _ h
structure Wy(t:Ty):Prop where
 one:t.kind≠3→∃a,t.es= [a]
 two:t.kind=3→∃a b,t.es= [a,b]
 es:∀u∈t.es,rX u=true
 body:kU t.body=true
 els:kU t.els=true
theorem I4{t:Ty}(h:rY t=true):Wy t:=by
 obtain⟨k,nm,ve,es,vb,body,vl,els⟩:=t;unfold rY at h;simp only [Bool.and_eq_true]at h;obtain⟨⟨⟨h1,h2⟩,h3⟩,h4⟩:=h;unfold FE at h1;simp only [Bool.and_eq_true,decide_eq_true_eq]at h1;have h5:=h1.1.1.1.2;refine⟨fun hk=> ?_,fun hk=> ?_,sE h2,h3,h4⟩
 ·rw [ac (show ¬k=3 from hk)]at h5;exact sK h5
 ·rw [ao (show k=3 from hk)]at h5;exact AU h5
theorem xU:∀{l:List Ty},kU l=true→∀u∈l,rY u=true
 | [],_,_,h=>by simp at h
 | t::r,h,u,hu=>by
  unfold kU at h;rw [Bool.and_eq_true]at h;rcases List.mem_cons.1 hu with rfl|hu
  ·exact h.1
  ·exact xU h.2 u hu
abbrev iq(s:Qg):Qg:=s.lab.place s.labs.length
theorem Ka{o st:Om}{en:Int}{t:Ty}{a:Tx}{s:Qg}(h:t.kind=1∨t.kind=2)(he:t.es= [a]):gY o st en t s=(gX o st a (iq s)).emit [qi 25 1 13 (bk o t.name)]:=by
 obtain⟨k,nm,ve,es,vb,body,vl,els⟩:=t;obtain rfl:es= [a]:=he;exact ao h
theorem MI{o st:Om}{en:Int}{t:Ty}{a b:Tx}{s:Qg}(h:t.kind=3)(he:t.es= [a,b]):gY o st en t s=(((gX o st b ((gX o st a (iq s)).push 1)).pop 2).elem 2).emit [qi 25 1 2 8192]:=by
 obtain⟨k,nm,ve,es,vb,body,vl,els⟩:=t;obtain rfl:es= [a,b]:=he;obtain rfl:k=3:=h;rfl
theorem MD{o st:Om}{en:Int}{t:Ty}{a:Tx}{s:Qg}(h:t.kind=7)(he:t.es= [a]):gY o st en t s=(gX o st a (iq s)).emit [⟨48,0,0,0,1⟩]:=by
 obtain⟨k,nm,ve,es,vb,body,vl,els⟩:=t;obtain rfl:es= [a]:=he;obtain rfl:k=7:=h;rfl
theorem ME{o st:Om}{en:Int}{t:Ty}{a:Tx}{s:Qg}(h:t.kind=6)(he:t.es= [a]):gY o st en t s=(gX o st a (iq s)).jump 40 0 0 en:=by
 obtain⟨k,nm,ve,es,vb,body,vl,els⟩:=t;obtain rfl:es= [a]:=he;obtain rfl:k=6:=h;rfl
theorem MH{o st:Om}{en:Int}{t:Ty}{a:Tx}{s s1:Qg}(h:t.kind=4)(he:t.es= [a])(h1:s1=gX o st a (iq s)):gY o st en t s=
  (gf o st en t.els ((if t.els.length>0 then(gf o st en t.body ((s1.lab.lab).jump 32 1 0 s1.labs.length)).jump 40 0 0 (s1.labs.length+1)else gf o st en t.body ((s1.lab.lab).jump 32 1 0 s1.labs.length)).place s1.labs.length)).place (s1.labs.length+1):=by
 obtain⟨k,nm,ve,es,vb,body,vl,els⟩:=t;obtain rfl:es= [a]:=he;obtain rfl:k=4:=h;subst h1;rfl
theorem MG{o st:Om}{en:Int}{t:Ty}{a:Tx}{s s1:Qg}(h:t.kind=5)(he:t.es= [a])(h1:s1=gX o st a (iq s)):gY o st en t s=((gf o st en t.body (s1.lab.jump 32 1 0 s1.labs.length)).jump 40 0 0 s.labs.length).place s1.labs.length:=by
 obtain⟨k,nm,ve,es,vb,body,vl,els⟩:=t;obtain rfl:es= [a]:=he;obtain rfl:k=5:=h;subst h1;rfl
theorem MC{o st:Om}{en:Int}{t:Ty}{a:Tx}{s:Qg}(n1:¬t.kind=1)(n2:¬t.kind=2)(n3:¬t.kind=3)(n4:¬t.kind=4)(n5:¬t.kind=5)(n6:¬t.kind=6)(n7:¬t.kind=7)(he:t.es= [a]):gY o st en t s=gX o st a (iq s):=by
 obtain⟨k,nm,ve,es,vb,body,vl,els⟩:=t;obtain rfl:es= [a]:=he;have n1:¬k=1:=n1;have n2:¬k=2:=n2;have n3:¬k=3:=n3;have n4:¬k=4:=n4;have n5:¬k=5:=n5;have n6:¬k=6:=n6;have n7:¬k=7:=n7;unfold gY;dsimp only;rw [ac (fun h=>h.elim n1 n2),ac n3,ac n7,ac n6,ac n4,ac n5];rfl
theorem lB{t:Ty}{a:Tx}{r:List Tx}(hw:Wy t)(h:t.kind≠3)(he:t.es=a::r):t.es= [a]:=by
 obtain⟨b,hb⟩:=hw.one h;rw [hb]at he;cases he;exact hb
theorem HZ{t:Ty}{a:Tx}{r:List Tx}(hw:Wy t)(h:t.kind=3)(he:t.es=a::r):∃b,t.es= [a,b]:=by
 obtain⟨c,b,hb⟩:=hw.two h;rw [hb]at he;cases he;exact⟨b,hb⟩
theorem B6(e:Ga)(c:Oq)(om sm:Om)(hm:e.mp=c.m)(t:Ty)(hw:Wy t)(hg:GY t)(ihb:∀s:Qg,s.sz+22*d9 t.body≤780000→Spec prog 96 [Pt e.g,sv t.vb] [gA e s] [cm t.vb t.body,gW e.g c,mp fE Prod.fst vQ e.mo om,mp fE Prod.fst vI (some e.ms) sm] (X:=Unit) (fun _=>True) (fun _=> .tuple #[]) (fun _=> [gA e (gf om sm e.en t.body s)]) (fun _=> []))(ihe:∀s:Qg,s.sz+22*d9 t.els≤780000→Spec prog 96 [Pt e.g,sv t.vl] [gA e s] [cm t.vl t.els,gW e.g c,mp fE Prod.fst vQ e.mo om,mp fE Prod.fst vI (some e.ms) sm] (X:=Unit) (fun _=>True) (fun _=> .tuple #[]) (fun _=> [gA e (gf om sm e.en t.els s)]) (fun _=> []))(s:Qg)(hz:s.sz+22*nY t≤780000)(he0:0≤e.en):
  aO prog 130 [Pt e.g,yV t] [gA e s] [cx t.ve t.es,cm t.vb t.body,cm t.vl t.els,gW e.g c,mp fE Prod.fst vQ e.mo om,mp fE Prod.fst vI (some e.ms) sm] (.tuple #[]) [gA e (gY om sm e.en t s)]:=by
 refine au func130 J ntmps130 J fun w0 M H=>bs 0 9 J jK (bs 2 11 J jI ?_)
 have hne:=FJ t;obtain⟨a,ra,hea⟩:∃a r,t.es=a::r:=by
  by_cases h3:t.kind=3
  ·obtain⟨a,b,h⟩:=hw.two h3;exact⟨a,[b],h⟩
  ·obtain⟨a,h⟩:=hw.one h3;exact⟨a,[],h⟩
 have hna:fM t.es=nX a+fM ra:=by rw [hea];rfl
 have ham:a∈t.es:=by rw [hea];simp
 have hgt:(iq s).sz=s.sz+1:=by rw [bv,bT]
 have hsa:=k9 om sm a (iq s);rw [hgt]at hsa;have hla:=Ci om sm a (iq s);refine ak (cz J J fun b3=>av J (ab J (ae (xs:= [.tmp 8]) (eG e (s) (by omega)) tt [0] [] [0] (fun _ _=>am J (av J (ab J (ab J (ae (xs:= [.tmp 10,.tmp 11]) (dP e (s.lab) (by rw [bT];omega) ((s.labs.length:Int)) (by simp [Qg.lab];omega)) qg [0] [] [0] (fun _ _=>av J (ab J (ax m5 J ?_)))))))))));refine aL 3 nQ J J J J (aH (aR (j:=0) underlying59 dn J J (aQ (k:=9) J) J (by rw [hea];simp)) ?_);refine vA (aM dn J J J (ci (aQ (k:=9) J) (by intro _;rfl) (show t.es[0]?=some a by rw [hea];rfl) (by rfl))) J ?_;refine bs 0 10 J (fh ham) (ch (xs:= [.tmp 13,.tmp 17]) (uA e c om sm hm a (hw.es _ ham) ((vu hg).2.mem _ ham) (iq s) (by omega)) qh [0] [(false,10),(false,3),(false,4),(false,5)] [0] J J J (fun _ _=>av J (ax iv J (aL 3 t3 J J J J (aa (aC (aS (ap J J bc (am J (aa (ah J (fun h1=> ?_) (fun h1=> ?_))))))))))))
 ·(try simp only [aY]at h1);have k1:t.kind=1:=h1;refine az (ah J (fun h2=> ?_) (fun h2=> ?_))
  ·(try simp only [aY]at h2);rw [Ka (.inl k1) (lB hw (by omega) hea)];refine ce [24,25,26,27,28,29,30,31,32] _ J (bn (V:= [(0,24,_),(1,25,_),(2,26,_),(3,27,_),(4,28,_),(5,29,_),(6,30,_),(7,31,_)]) [0,1,2,3,4,5,6,7] 8 [8,7,6,5,4,3,2,1,0] [] (fun _=> []) J J (aJ J J (aJ J J (ad J (aA J) (ad J (ai kC J) (ad J (ag zp J J (mY (k:=0) J (fun _=>J) J)) (ad J (ai lz J) (ad J (ag t9 J J (aB (k:=3) J J)) (ad J (Bx underlying108 ea dt J J (rE (k:=4) J)) ay)))))))) J J J J J J J J J J J (fun _ _=>J) J (cy (xs:= [.tmp 24,.const (I6 25),.const (I6 1),.const (I6 13),.tmp 31]) (cJ e (gX om sm a (iq s)) (by omega) 25 1 13 (bk om t.name)) iF [0] [] [0]) (fun _ _=>br [] J J ay J J J (bN () O J fi J [0] [] J J J)))
  ·exact absurd k1 (eW h2)
 ·(try simp only [aY]at h1);have n1:¬t.kind=1:=h1;refine aj (ap J J bc (am J (aa (ah J (fun h3=> ?_) (fun h3=> ?_)))))
  ·(try simp only [aY]at h3);have k2:t.kind=2:=h3;rw [Ka (.inr k2) (lB hw (by omega) hea)];refine ce [24,25,26,27,28,29,30,31,32] _ J (bn (V:= [(0,24,_),(1,25,_),(2,26,_),(3,27,_),(4,28,_),(5,29,_),(6,30,_),(7,31,_)]) [0,1,2,3,4,5,6,7] 8 [8,7,6,5,4,3,2,1,0] [] (fun _=> []) J J (aJ J J (aJ J J (ad J (aA J) (ad J (ai kC J) (ad J (ag zp J J (mY (k:=0) J (fun _=>J) J)) (ad J (ai lz J) (ad J (ag t9 J J (aB (k:=3) J J)) (ad J (Bx underlying108 ea dt J J (rE (k:=4) J)) ay)))))))) J J J J J J J J J J J (fun _ _=>J) J (cy (xs:= [.tmp 24,.const (I6 25),.const (I6 1),.const (I6 13),.tmp 31]) (cJ e (gX om sm a (iq s)) (by omega) 25 1 13 (bk om t.name)) iF [0] [] [0]) (fun _ _=>br [] J J ay J J J (bN () O J fi J [0] [] J J J)))
  ·(try simp only [aY]at h3);have n2:¬t.kind=2:=h3;refine ak (ap J J bc (am J (aa (ah J (fun h4=> ?_) (fun h4=> ?_)))))
   ·(try simp only [aY]at h4);have hk:t.kind=3:=h4;obtain⟨b,heb⟩:=HZ hw hk hea;have hbm:b∈t.es:=by rw [heb];simp
    have hnb:fM t.es=nX a+nX b:=by rw [heb];simp [fM]
    have hsb:=k9 om sm b ((gX om sm a (iq s)).push 1);rw [ct]at hsb;rw [MI hk heb];refine ak (ab J (ae (xs:= [.tmp 35,.const (I6 1)]) (g_ e (gX om sm a (iq s)) (by omega) 1) Ar [0] [] [0] (fun _ _=>av J (ab J (ax m5 J (aL 3 nQ J J J J (aH (aR (j:=1) underlying59 dn J J (aQ (k:=9) J) J (by rw [heb];simp)) ?_)))))));refine vA (aM dn J J J (ci (aQ (k:=9) J) (by intro _;rfl) (show t.es[1]?=some b by rw [heb];rfl) (by rfl))) J ?_;refine bs 0 10 J (fh hbm) (ch (xs:= [.tmp 37,.tmp 41]) (uA e c om sm hm b (hw.es _ hbm) ((vu hg).2.mem _ hbm) ((gX om sm a (iq s)).push 1) (by rw [ct];omega)) qh [0] [(false,10),(false,3),(false,4),(false,5)] [0] J J J (fun _ _=>av J (ab J (ae (xs:= [.tmp 43,.const (I6 2)]) (l8 e (gX om sm b ((gX om sm a (iq s)).push 1)) (by omega) 2) Fb [0] [] [0] (fun _ _=>av J (ab J (ae (xs:= [.tmp 45,.const (I6 2)]) (rN e ((gX om sm b ((gX om sm a (iq s)).push 1)).pop 2) (by rw [dh];omega) 2) Gb [0] [] [0] (fun _ _=>aa (aj (ab J (ae (xs:= [.tmp 47,.const (I6 25),.const (I6 1),.const (I6 2),.const (I3 8192)]) (cJ e (((gX om sm b ((gX om sm a (iq s)).push 1)).pop 2).elem 2) (by rw [cW,dh];omega) 25 1 2 8192) iF [0] [] [0] (fun _ _=>aa (bN () O J fi J [0] [] J J J)))))))))))))
   ·(try simp only [aY]at h4);have n3:¬t.kind=3:=h4;refine ak (ap J J bc (am J (aa (ah J (fun h5=> ?_) (fun h5=> ?_)))))
    ·(try simp only [aY]at h5);have hk:t.kind=7:=h5;rw [MD hk (lB hw (by omega) hea)];refine aj (ab J (aH (aT (parts:= [(0,.const (I6 48)),(4,.const (I3 1))]) el kV J J) (bD gI ⟨48,0,0,0,1⟩ underlying106 el J (by decide) (by decide) J J J J fun v53=>cr 53 7 J bE (ae (xs:= [.tmp 51,.tmp 53]) (gq e (gX om sm a (iq s)) (by omega) v53 [⟨48,0,0,0,1⟩] (by simp)) u0 [0] [(false,7)] [0] (fun _ _=>aa (bN () O J fi J [0] [] J J J))))))
    ·(try simp only [aY]at h5);have n7:¬t.kind=7:=h5;refine ak (ap J J bc (am J (aa (ah J (fun h6=> ?_) (fun h6=> ?_)))))
     ·(try simp only [aY]at h6);have hk:t.kind=6:=h6;rw [ME hk (lB hw (by omega) hea)];refine aj (ab J (ab J (bp J (ax tj J (aH (ag t3 J J (mY (k:=0) J (fun _=>J) J)) (ae (xs:= [.tmp 57,.const (I6 40),.const (I6 0),.const (I6 0),.tmp 61]) (eO e (gX om sm a (iq s)) (by omega) 40 0 0 e.en) qS [0] [] [0] (fun _ _=>aa (bN () O J fi J [0] [] J J J))))))))
     ·(try simp only [aY]at h6);have n6:¬t.kind=6:=h6;refine ak (ap J J bc (am J (aa (ah J (fun h7=> ?_) (fun h7=> ?_)))))
      ·(try simp only [aY]at h7);have hk:t.kind=4:=h7;obtain⟨s1,hs1⟩:∃s1,s1=gX om sm a (iq s):=⟨_,J⟩
       rw [MH hk (lB hw (by omega) hea) hs1];rw [←hs1]at hsa hla ⊢;have hb:=iN om sm e.en t.body ((s1.lab.lab).jump 32 1 0 s1.labs.length);rw [bz,bT,bT]at hb;have lb:=iI om sm e.en t.body ((s1.lab.lab).jump 32 1 0 s1.labs.length);have ll:((s1.lab.lab).jump 32 1 0 s1.labs.length).labs.length=s1.labs.length+2:=by simp [Qg.lab,Qg.jump]
       
       refine ak (ab J (ae (xs:= [.tmp 65]) (eG e (s1) (by omega)) tt [0] [] [0] (fun _ _=>ab J (ae (xs:= [.tmp 67]) (eG e (s1.lab) (by rw [bT];omega)) tt [0] [] [0] (fun _ _=> ?_)))))
       with_reducible rw [show((s1.lab.labs.length:Nat):Int)=(s1.labs.length:Int)+1 from by simp [Qg.lab]]
       refine am J (am J (av J (ab J (ab J (ae (xs:= [.tmp 69,.const (I6 32),.const (I6 1),.const (I6 0),.tmp 70]) (eO e (s1.lab.lab) (by rw [bT,bT];omega) 32 1 0 (s1.labs.length:Int)) qS [0] [] [0] (fun _ _=>av J (ab J (ax jj J (aL 3 nP J J J J (ae (xs:= [.tmp 72,.tmp 74]) (ihb ((s1.lab.lab).jump 32 1 0 s1.labs.length) (by rw [bz,bT,bT];omega)) CT [0] [(false,1),(false,3),(false,4),(false,5)] [0] (fun _ _=>aa (aS (ax ji J ?_)))))))))))));refine aL 3 nP J J J J (aH (aZ underlying62 J (aQ (k:=11) J)) (ap J J fU (aa (ah J (fun h8=> ?_) (fun h8=> ?_)))))
       ·(try simp only [aY]at h8);obtain⟨sC,hC⟩:∃sC,sC=(gf om sm e.en t.body ((s1.lab.lab).jump 32 1 0 s1.labs.length)).jump 40 0 0 (s1.labs.length+1):=⟨_,J⟩
        rw [ao (show t.els.length>0 by omega),←hC];have hsC:sC.sz≤s1.sz+22*d9 t.body+6∧s1.labs.length+2≤sC.labs.length:=by rw [hC];(refine⟨?_,?_⟩;rw [bz];omega;show _≤(gf om sm e.en t.body ((s1.lab.lab).jump 32 1 0 s1.labs.length)).labs.length;omega)
        have hle:=iN om sm e.en t.els (sC.place s1.labs.length);rw [bv]at hle;have lle:=iI om sm e.en t.els (sC.place s1.labs.length);have lpl:(sC.place s1.labs.length).labs.length=sC.labs.length:=by simp [Qg.place]
        refine aj (ab J (ab J (ae (xs:= [.tmp 80,.const (I6 40),.const (I6 0),.const (I6 0),.tmp 81]) (eO e (gf om sm e.en t.body ((s1.lab.lab).jump 32 1 0 s1.labs.length)) (by omega) 40 0 0 (s1.labs.length+1)) qS [0] [] [0] (fun _ _=> ?_))));rw [←hC];refine av J (ab J (ab J (ae (xs:= [.tmp 83,.tmp 84]) (dP e (sC) (by omega) ((s1.labs.length:Int)) (by omega)) qg [0] [] [0] (fun _ _=>av J (ab J (ax ji J (aL 3 nP J J J J (ae (xs:= [.tmp 86,.tmp 88]) (ihe (sC.place s1.labs.length) (by rw [bv];omega)) CT [0] [(false,2),(false,3),(false,4),(false,5)] [0] (fun _ _=>aa (aj (ab J (ab J (ae (xs:= [.tmp 90,.tmp 91]) (dP e (gf om sm e.en t.els (sC.place s1.labs.length)) (by omega) ((s1.labs.length+1:Int)) (by omega)) qg [0] [] [0] (fun _ _=>aa (bN () O J fi J [0] [] J J J)))))))))))))))
       ·(try simp only [aY]at h8);obtain⟨sC,hC⟩:∃sC,sC=gf om sm e.en t.body ((s1.lab.lab).jump 32 1 0 s1.labs.length):=⟨_,J⟩
        rw [ac (show ¬t.els.length>0 by omega),←hC];have hsC:sC.sz≤s1.sz+22*d9 t.body+6∧s1.labs.length+2≤sC.labs.length:=by rw [hC];(refine⟨?_,?_⟩<;>omega)
        have hle:=iN om sm e.en t.els (sC.place s1.labs.length);rw [bv]at hle;have lle:=iI om sm e.en t.els (sC.place s1.labs.length);have lpl:(sC.place s1.labs.length).labs.length=sC.labs.length:=by simp [Qg.place]
        refine az (ak (ab J (ab J (ae (xs:= [.tmp 83,.tmp 84]) (dP e (sC) (by omega) ((s1.labs.length:Int)) (by omega)) qg [0] [] [0] (fun _ _=>av J (ab J (ax ji J (aL 3 nP J J J J (ae (xs:= [.tmp 86,.tmp 88]) (ihe (sC.place s1.labs.length) (by rw [bv];omega)) CT [0] [(false,2),(false,3),(false,4),(false,5)] [0] (fun _ _=>aa (aj (ab J (ab J (ae (xs:= [.tmp 90,.tmp 91]) (dP e (gf om sm e.en t.els (sC.place s1.labs.length)) (by omega) ((s1.labs.length+1:Int)) (by omega)) qg [0] [] [0] (fun _ _=>aa (bN () O J fi J [0] [] J J J))))))))))))))))
      ·(try simp only [aY]at h7);have n4:¬t.kind=4:=h7;refine ak (ap J J bc (am J (aa (ah J (fun h9=> ?_) (fun h9=> ?_)))))
       ·(try simp only [aY]at h9);have hk:t.kind=5:=h9;obtain⟨s1,hs1⟩:∃s1,s1=gX om sm a (iq s):=⟨_,J⟩
        rw [MG hk (lB hw (by omega) hea) hs1];rw [←hs1]at hsa hla ⊢;have hb:=iN om sm e.en t.body (s1.lab.jump 32 1 0 s1.labs.length);rw [bz,bT]at hb;have lb:=iI om sm e.en t.body (s1.lab.jump 32 1 0 s1.labs.length);have ll:(s1.lab.jump 32 1 0 s1.labs.length).labs.length=s1.labs.length+1:=by simp [Qg.lab,Qg.jump]
        have lj:((gf om sm e.en t.body (s1.lab.jump 32 1 0 s1.labs.length)).jump 40 0 0 s.labs.length).labs.length=(gf om sm e.en t.body (s1.lab.jump 32 1 0 s1.labs.length)).labs.length:=by simp [Qg.jump]
        refine ak (ab J (ae (xs:= [.tmp 95]) (eG e (s1) (by omega)) tt [0] [] [0] (fun _ _=>am J (av J (ab J (ab J (ae (xs:= [.tmp 97,.const (I6 32),.const (I6 1),.const (I6 0),.tmp 98]) (eO e (s1.lab) (by rw [bT];omega) 32 1 0 (s1.labs.length:Int)) qS [0] [] [0] (fun _ _=>av J (ab J (ax jj J (aL 3 nP J J J J (ae (xs:= [.tmp 100,.tmp 102]) (ihb (s1.lab.jump 32 1 0 s1.labs.length) (by rw [bz,bT];omega)) CT [0] [(false,1),(false,3),(false,4),(false,5)] [0] (fun _ _=>aa (aW ?_))))))))))))));refine aj (ab J (ab J (ae (xs:= [.tmp 104,.const (I6 40),.const (I6 0),.const (I6 0),.tmp 105]) (eO e (gf om sm e.en t.body (s1.lab.jump 32 1 0 s1.labs.length)) (by omega) 40 0 0 (s.labs.length:Int)) qS [0] [] [0] (fun _ _=>aa (aj (ab J (ab J (ae (xs:= [.tmp 107,.tmp 108]) (dP e ((gf om sm e.en t.body (s1.lab.jump 32 1 0 s1.labs.length)).jump 40 0 0 s.labs.length) (by rw [bz];omega) ((s1.labs.length:Int)) (by omega)) qg [0] [] [0] (fun _ _=>aa (bN () O J fi J [0] [] J J J))))))))))
       ·(try simp only [aY]at h9);have n5:¬t.kind=5:=h9;rw [MC n1 n2 n3 n4 n5 n6 n7 (lB hw (by omega) hea)];refine az (bN () O J fi J [0] [] J J J)
theorem Cd(e:Ga)(c:Oq)(om sm:Om)(v:SV)(l:List Ty)(hl:l.length≤1000000)(ih:∀u∈l,∀s:Qg,s.sz+22*nY u≤780000→Spec prog 130 [Pt e.g,yV u] [gA e s] [cx u.ve u.es,cm u.vb u.body,cm u.vl u.els,gW e.g c,mp fE Prod.fst vQ e.mo om,mp fE Prod.fst vI (some e.ms) sm] (X:=Unit) (fun _=>True) (fun _=> .tuple #[]) (fun _=> [gA e (gY om sm e.en u s)]) (fun _=> []))(s:Qg)(hz:s.sz+22*d9 l≤780000):
  aO prog 96 [Pt e.g,sv v] [gA e s] [cm v l,gW e.g c,mp fE Prod.fst vQ e.mo om,mp fE Prod.fst vI (some e.ms) sm] (.tuple #[]) [gA e (gf om sm e.en l s)]:=by
 refine au func96 J ntmps96 J fun w0 M H=>bs 0 9 J jI (ak (ab J (aH (aZ underlying62 J (aQ (k:=9) J)) (ab J (aa (aC (bG (X:=Nat) (fun i=>i≤l.length) (fun i=> [(0,Pt e.g),(6,sv v),(7,I6 (l.length:Int)),(8,I6 (i:Int))]) (fun i=> [(0,gA e (gf om sm e.en (l.take i) s))]) (fun i=> [(0,cm v l),(1,gW e.g c),(2,mp fE Prod.fst vQ e.mo om),(3,mp fE Prod.fst vI (some e.ms) sm),(9,sl 5 iK (sv v) l)]) (fun i=>l.length-i) 0 (bB _) J J J (fun i n1=>ak (ap J J cL (aa (aW (ah J (fun h1=> ?_) (fun h1=> ?_)))))))))))))
 ·(try simp only [aY]at h1);have hi:i<l.length:=by omega
  obtain⟨kid,hkid⟩:∃k,l[i]?=some k:=⟨_,bV hi⟩
  have hkm:=cO hkid;have hle:=wA l (i+1);rw [o9 hkid]at hle;have hsi:=iN om sm e.en (l.take i) s;refine az (aW (aC (ak (aH (aR (j:=i) underlying62 fB J J (aQ (k:=9) J) (by first|rfl|omega) (by first|omega|(simp;done)|(simp;omega))) (aH (aM fB J J J (ci (aQ (k:=9) J) (by intro _;rfl) hkid (by rfl))) (aV fB J J fun b5=>aq (k:=5) fB J J J J J J (aa (aj (ab J (aH (aM fB J J J (bi (k:=5) J)) (bs 0 11 J (sa hkm) (bs 0 12 J (jJ hkm) (bs 0 13 J (lU hkm) (ae (xs:= [.tmp 12,.tmp 13]) (ih kid hkm (gf om sm e.en (l.take i) s) (by omega)) Lj [0] [(false,11),(false,12),(false,13),(false,1),(false,2),(false,3)] [0] (fun _ _=>aa (aj (ap J J a_ ?_)))))))))))))))));refine ab J (aa ?_);refine aI (i+1) ⟨by omega,by omega⟩ J (by rw [uD s hkid];rfl) J
 ·(try simp only [aY]at h1);have hi:i=l.length:=by omega
  subst hi;rw [eo];refine bK (bN () O J fi J [0] [] J J J)
theorem tc(e:Ga)(c:Oq)(om sm:Om)(hm:e.mp=c.m)(he0:0≤e.en):∀(n:Nat)(v:SV)(l:List Ty),SizeOf.sizeOf l<n→kU l=true→GYs l→l.length≤1000000→∀s:Qg,s.sz+22*d9 l≤780000→aO prog 96 [Pt e.g,sv v] [gA e s] [cm v l,gW e.g c,mp fE Prod.fst vQ e.mo om,mp fE Prod.fst vI (some e.ms) sm] (.tuple #[]) [gA e (gf om sm e.en l s)]
 | 0,_,_,h,_,_,_=>absurd h (Nat.not_lt_zero _)
 | n+1,v,l,h,hr,hg,hl=>fun s hz=>Cd e c om sm v l hl (fun u hu s hz=>by
   have hlt:=List.sizeOf_lt_of_mem hu;have hw:=I4 (xU hr u hu);have hgu:=hg.mem u hu;have hb:SizeOf.sizeOf u.body<SizeOf.sizeOf u:=by cases u;simp [Ty.body];omega
   have hl':SizeOf.sizeOf u.els<SizeOf.sizeOf u:=by cases u;simp [Ty.els];omega
   exact B6 e c om sm hm u hw hgu (fun s hz=>tc e c om sm hm he0 n u.vb u.body (by omega) hw.body (gu hgu).2 (gu hgu).1 s hz) (fun s hz=>tc e c om sm hm he0 n u.vl u.els (by omega) hw.els (iO hgu).2 (iO hgu).1 s hz) s hz he0) s hz
theorem Ce(e:Ga)(c:Oq)(om sm:Om)(hm:e.mp=c.m)(he0:0≤e.en)(v:SV)(l:List Ty)(hr:kU l=true)(hg:GYs l)(hl:l.length≤1000000)(s:Qg)(hz:s.sz+22*d9 l≤780000):aO prog 96 [Pt e.g,sv v] [gA e s] [cm v l,gW e.g c,mp fE Prod.fst vQ e.mo om,mp fE Prod.fst vI (some e.ms) sm] (.tuple #[]) [gA e (gf om sm e.en l s)]:=tc e c om sm hm he0 _ v l (Nat.lt_succ_self _) hr hg hl s hz
theorem uJ:∀{l:List Ty}{i:Nat}{u:Ty}(p:Om×Int),l[i]?=some u→gDs (l.take (i+1)) p=gD u (gDs (l.take i) p)
 | [],i,u,p,h=>by simp at h
 | x::r,0,u,p,h=>by cases h;rfl
 | x::r,i+1,u,p,h=>uJ (l:=r) _ h
theorem Cq(t:Ty)(p:Om×Int):gD t p=gDs t.els (gDs t.body (if t.kind=1 then(fz p.1 t.name (wU (-(4*(p.2+1)))),p.2+1)else p)):=by cases t;rfl
mutual
theorem MR:∀(t:Ty)(p:Om×Int),(gD t p).2=p.2+vY t
 | .mk k nm _ _ _ body _ els,p=>by
  rw [Cq];show(gDs els (gDs body _)).2=_;rw [nu els,nu body];unfold vY;show(if k=1 then _ else p).2+_+_=_;by_cases h:k=1
  ·rw [ao h,ao h];show p.2+1+_+_=_;omega
  ·rw [ac h,ac h];omega
theorem nu:∀(l:List Ty)(p:Om×Int),(gDs l p).2=p.2+dA l
 | [],p=>by show p.2=p.2+((0:Nat):Int);omega
 | t::r,p=>by
  show(gDs r (gD t p)).2=_;rw [nu r,MR t,show dA (t::r)=vY t+dA r from J];omega
end
theorem z_(g:Nat)(vp:SV)(ms mo mq:Nat)(en:Int)(s:Qg)(cb:Nat)(v:SV)(l:List Ty)(hl:l.length≤1000000)(ihb:∀u∈l,∀p:Om×Int,0≤p.2→p.2+dA u.body≤1000000→Spec prog 94 [Pt g,sv u.vb,Pt cb] [gA (⟨g,vp,ms,some mo,mq,en⟩:Ga) s,mp fE Prod.fst vQ (some mo) (p).1,aP cb 3 [I6 (p).2]] [cm u.vb u.body] (X:=Unit) (fun _=>True) (fun _=> .tuple #[]) (fun _=> [gA (⟨g,vp,ms,some mo,mq,en⟩:Ga) s,mp fE Prod.fst vQ (some mo) (gDs u.body p).1,aP cb 3 [I6 (gDs u.body p).2]]) (fun _=> []))(ihe:∀u∈l,∀p:Om×Int,0≤p.2→p.2+dA u.els≤1000000→Spec prog 94 [Pt g,sv u.vl,Pt cb] [gA (⟨g,vp,ms,some mo,mq,en⟩:Ga) s,mp fE Prod.fst vQ (some mo) (p).1,aP cb 3 [I6 (p).2]] [cm u.vl u.els] (X:=Unit) (fun _=>True) (fun _=> .tuple #[]) (fun _=> [gA (⟨g,vp,ms,some mo,mq,en⟩:Ga) s,mp fE Prod.fst vQ (some mo) (gDs u.els p).1,aP cb 3 [I6 (gDs u.els p).2]]) (fun _=> []))(p:Om×Int)(h0:0≤p.2)(hn:p.2+dA l≤1000000):
  aO prog 94 [Pt g,sv v,Pt cb] [gA (⟨g,vp,ms,some mo,mq,en⟩:Ga) s,mp fE Prod.fst vQ (some mo) (p).1,aP cb 3 [I6 (p).2]] [cm v l] (.tuple #[]) [gA (⟨g,vp,ms,some mo,mq,en⟩:Ga) s,mp fE Prod.fst vQ (some mo) (gDs l p).1,aP cb 3 [I6 (gDs l p).2]]:=by
 refine au func94 J ntmps94 J fun w0 M H=>bs 0 9 J jI (ak (ab J (aH (aZ underlying62 J (aQ (k:=9) J)) (ab J (aa (aC (bG (X:=Nat) (fun i=>i≤l.length) (fun i=> [(0,Pt g),(2,Pt cb),(8,sv v),(9,I6 (l.length:Int)),(10,I6 (i:Int))]) (fun i=> [(0,gA (⟨g,vp,ms,some mo,mq,en⟩:Ga) s),(1,mp fE Prod.fst vQ (some mo) (gDs (l.take i) p).1),(2,aP cb 3 [I6 (gDs (l.take i) p).2])]) (fun i=> [(0,cm v l),(9,sl 5 iK (sv v) l)]) (fun i=>l.length-i) 0 (bB _) J J J (fun i n1=>ak (ap J J cL (aa (aW (ah J (fun h1=> ?_) (fun h1=> ?_)))))))))))))
 ·(try simp only [aY]at h1);have hi:i<l.length:=by omega
  obtain⟨kid,hkid⟩:∃k,l[i]?=some k:=⟨_,bV hi⟩
  have hkm:=cO hkid;have hn1:=nu (l.take i) p;have hn2:=nu (l.take (i+1)) p;have hvt:=lS hkid;have hvl:=nh hkid;have hve:=AT kid;obtain⟨q,hq⟩:∃q,q=(if kid.kind=1 then(fz (gDs (l.take i) p).1 kid.name (wU (-(4*((gDs (l.take i) p).2+1)))),(gDs (l.take i) p).2+1)else gDs (l.take i) p):=⟨_,J⟩
  have hq2:q.2=(gDs (l.take i) p).2+((if kid.kind=1 then 1 else 0:Nat):Int):=by rw [hq];split<;>simp
  refine az (aW (aC (ak (aH (aR (j:=i) underlying62 fB J J (aQ (k:=9) J) (by first|rfl|omega) (by first|omega|(simp;done)|(simp;omega))) (aH (aM fB J J J (ci (aQ (k:=9) J) (by intro _;rfl) hkid (by rfl))) (aV fB J J fun b7=>aq (k:=7) fB J J J J J J (aa (bq (X:=Unit) (fun _=>True) (fun _=> [(0,Pt g),(2,Pt cb),(7,Pt b7),(8,sv v),(9,I6 (l.length:Int)),(10,I6 (i:Int))]) (fun _=> [(0,gA (⟨g,vp,ms,some mo,mq,en⟩:Ga) s),(1,mp fE Prod.fst vQ (some mo) q.1),(2,aP cb 3 [I6 q.2]),(7,aP b7 64 (iK kid))]) (fun _=> [(0,cm v l),(9,sl 5 iK (sv v) l)]) ?_ (fun _ _=> ?_)))))))))
  ·refine ak (ax iv J (aL 7 t3 J J J J (ap J J bc (aa (ah J (fun h2=> ?_) (fun h2=> ?_))))))
   ·(try simp only [aY]at h2);have hk:kid.kind=1:=h2;rw [ao hk]at hve;have hqe:q=(fz (gDs (l.take i) p).1 kid.name (wU (-(4*((gDs (l.take i) p).2+1)))),(gDs (l.take i) p).2+1):=by rw [hq,ao hk]
    refine ak (ab J (bp J (aL 2 t3 J J J J (ap J J a_ (bp J (aw (k:=2) t3 J J J J J J J J (aa ?_)))))));refine ce [22,23,24,25,26,27,28,29,30,31,32,33] _ J (bP (V:= [(0,22,_),(1,23,_),(2,24,_),(3,25,_),(4,26,_),(5,27,_),(6,28,_),(7,29,_),(8,30,_),(9,31,_),(10,32,_),(11,33,_)]) [0,1,2,3,4,5,6,7,8,9,10,11] 12 [12,11,10,9,8,7,6,5,4,3,2,1,0] [] (fun _=> []) J J (aJ J J (ad J (aA J) (ad J (ai kC J) (ad J (ag zp J J (mY (k:=0) J (fun _=>J) J)) (ad J (ai lz J) (ad J (ag t9 J J (aB (k:=7) J J)) (aJ J J (ad J (aA J) (ad J (ag t3 J J (aB (k:=2) J J)) (ad J (aU J J i9) (ad J (bX underlying3 underlying41 J (by first|exact bx (by omega)|rfl)) (ad J (JG J J) ay)))))))))))) J J J J J J J J J (fun _ _=>J) J (g8 (k:=1) (α:=Ba×Int) (kf:=Prod.fst) (vf:=vQ) (kid.name,wU (-(4*((gDs (l.take i) p).2+1)))) (fz (gDs (l.take i) p).1 kid.name (wU (-(4*((gDs (l.take i) p).2+1))))) underlying108 ea J J J J (List.Perm.refl _)) (fun _ _=>br [] J J ay J J J ?_));refine aI () O J (by rw [hqe];rfl) J
   ·(try simp only [aY]at h2);have hk:¬kid.kind=1:=h2;rw [ac hk]at hve;have hqe:q=gDs (l.take i) p:=by rw [hq,ac hk]
    refine az (aI () O J (by rw [hqe];rfl) J)
  ·refine ak (ab J (ax jj J (aL 7 nP J J J J (ab J (bs 0 11 J (jJ hkm) (ae (xs:= [.tmp 34,.tmp 36,.tmp 37]) (ihb kid hkm q (by omega) (by omega)) Ij [0,1,2] [(false,11)] [0,1,2] (fun _ _=>aa (aj (ab J (ax ji J (aL 7 nP J J J J (ab J (bs 0 11 J (lU hkm) (ae (xs:= [.tmp 39,.tmp 41,.tmp 42]) (ihe kid hkm (gDs kid.body q) (by rw [nu];omega) (by rw [nu];omega)) Ij [0,1,2] [(false,11)] [0,1,2] (fun _ _=>aa (aj (ap J J a_ (ab J ?_))))))))))))))))));refine aa ?_;refine aI (i+1) ⟨by omega,by omega⟩ J (by rw [uJ p hkid,Cq,←hq];rfl) J
 ·(try simp only [aY]at h1);have hi:i=l.length:=by omega
  subst hi;rw [eo];refine bK (bN () O J fi J [0,1,2] [] J J J)
theorem pj(g:Nat)(vp:SV)(ms mo mq:Nat)(en:Int)(s:Qg)(cb:Nat):∀(n:Nat)(v:SV)(l:List Ty),SizeOf.sizeOf l<n→GYs l→l.length≤1000000→∀p:Om×Int,0≤p.2→p.2+dA l≤1000000→aO prog 94 [Pt g,sv v,Pt cb] [gA (⟨g,vp,ms,some mo,mq,en⟩:Ga) s,mp fE Prod.fst vQ (some mo) (p).1,aP cb 3 [I6 (p).2]] [cm v l] (.tuple #[]) [gA (⟨g,vp,ms,some mo,mq,en⟩:Ga) s,mp fE Prod.fst vQ (some mo) (gDs l p).1,aP cb 3 [I6 (gDs l p).2]]
 | 0,_,_,h,_,_=>absurd h (Nat.not_lt_zero _)
 | n+1,v,l,h,hg,hl=>fun p h0 hn=>z_ g vp ms mo mq en s cb v l hl (fun u hu p h0 hn=>by
   have hlt:=List.sizeOf_lt_of_mem hu;have hgu:=hg.mem u hu;have hb:SizeOf.sizeOf u.body<SizeOf.sizeOf u:=by cases u;simp [Ty.body];omega
   exact pj g vp ms mo mq en s cb n u.vb u.body (by omega) (gu hgu).2 (gu hgu).1 p h0 hn) (fun u hu p h0 hn=>by
   have hlt:=List.sizeOf_lt_of_mem hu;have hgu:=hg.mem u hu;have hb:SizeOf.sizeOf u.els<SizeOf.sizeOf u:=by cases u;simp [Ty.els];omega
   exact pj g vp ms mo mq en s cb n u.vl u.els (by omega) (iO hgu).2 (iO hgu).1 p h0 hn) p h0 hn
theorem Aa(g:Nat)(vp:SV)(ms mo mq:Nat)(en:Int)(s:Qg)(cb:Nat)(v:SV)(l:List Ty)(hg:GYs l)(hl:l.length≤1000000)(p:Om×Int)(h0:0≤p.2)(hn:p.2+dA l≤1000000):aO prog 94 [Pt g,sv v,Pt cb] [gA (⟨g,vp,ms,some mo,mq,en⟩:Ga) s,mp fE Prod.fst vQ (some mo) (p).1,aP cb 3 [I6 (p).2]] [cm v l] (.tuple #[]) [gA (⟨g,vp,ms,some mo,mq,en⟩:Ga) s,mp fE Prod.fst vQ (some mo) (gDs l p).1,aP cb 3 [I6 (gDs l p).2]]:=pj g vp ms mo mq en s cb _ v l (Nat.lt_succ_self _) hg hl p h0 hn
section
variable{P:Program}{N:Nat}{w0:World}{M H:Nat→Prop}{E:d_}{Γ R:dF}
theorem sw(k:Nat)(ns:List Nat){e:Ga}{s:Qg}{Rel:Act→World→Prop}(hk:bF Γ k=some (gA e s))(hns:ns.Nodup)(hl:ns.length=4)
  (h:∀vc vf vl,At N w0 M H E (ez ns [aP e.g 111 (gR e.vp vc vf vl e.ms e.mo e.mp e.en),own 118 5 gI (sv vc) s.code,own 171 2 tA (sv vf) s.fixes,own 3 1 eI (sv vl) s.labs] (eA [k] Γ)) R Rel):At N w0 M H E Γ R Rel:=
 lZ k ns hk hns (fun _=>hl) fun x=>h x.1 x.2.1 x.2.2
theorem ss(k:Nat)(ks:List Nat)(e:Ga)(s:Qg)(vc vf vl:SV){Rel:Act→World→Prop}(hL:dK Γ ks=cB [aP e.g 111 (gR e.vp vc vf vl e.ms e.mo e.mp e.en),own 118 5 gI (sv vc) s.code,own 171 2 tA (sv vf) s.fixes,own 3 1 eI (sv vl) s.labs])(hks:ks.Nodup)
  (h:At N w0 M H E ((k,gA e s)::eA ks Γ) R Rel):At N w0 M H E Γ R Rel:=GQ (f:=fun x:SV×SV×SV=> [aP e.g 111 (gR e.vp x.1 x.2.1 x.2.2 e.ms e.mo e.mp e.en),own 118 5 gI (sv x.1) s.code,own 171 2 tA (sv x.2.1) s.fixes,own 3 1 eI (sv x.2.2) s.labs]) k ks (vc,vf,vl) hL hks h
end
theorem yy(n:Int):∀(l:List Ba)(k:Int)(x:Ba)(o:Om),gP n k (l++ [x]) o=fz (gP n k l o) x (8+4*(n-1-(k+l.length)))
 | [],k,x,o=>by
  show fz o x (8+4*(n-1-k))=fz o x (8+4*(n-1-(k+((0:Nat):Int))));rw [show k+((0:Nat):Int)=k by omega]
 | y::l,k,x,o=>by
  show gP n (k+1) (l++ [x]) _=fz (gP n (k+1) l _) x _;rw [yy n l (k+1) x];rw [show k+1+(l.length:Int)=k+(((y::l).length:Nat):Int) by rw [b_];omega]
theorem EK{n:Int}{l:List Ba}{i:Nat}{x:Ba}(o:Om)(h:l[i]?=some x):gP n 0 (l.take (i+1)) o=fz (gP n 0 (l.take i) o) x (8+4*(n-1-(i:Int))):=by
 obtain⟨hi,-⟩:=cC.1 h;rw [cn h,yy,List.length_take,Nat.min_eq_left (by omega),show(0:Int)+(i:Int)=i by omega]
theorem gH:∀(n:Nat)(s:Qg),dk (n+1) s=(dk n s).push 0
 | 0,s=>rfl
 | n+1,s=>gH n (s.push 0)
theorem co:∀(n:Nat)(s:Qg),(dk n s).sz=s.sz+2*n
 | 0,s=>rfl
 | n+1,s=>by
  rw [gH,ct,co n];omega
theorem jg:∀(n:Nat)(s:Qg),(dk n s).labs=s.labs
 | 0,s=>rfl
 | n+1,s=>by
  rw [gH];exact jg n s
mutual
theorem Jb:∀t:Ty,vY t≤nY t
 | .mk k nm ve es vb body vl els=>by
  have h1:=lT body;have h2:=lT els;show(if k=1 then 1 else 0)+dA body+dA els≤1+fM es+d9 body+d9 els;split<;>omega
theorem lT:∀l:List Ty,dA l≤d9 l
 | []=>bU _
 | t::r=>by
  have h1:=Jb t;have h2:=lT r;show vY t+dA r≤nY t+d9 r;omega
end
theorem dY(s:Qg):s.lab.labs.length=s.labs.length+1:=by
 show(s.labs++ [0]).length=_;rw [bO,dJ]
theorem dL(s:Qg)(l:Int):(s.place l).labs.length=s.labs.length:=by
 show(s.labs.set _ _).length=_;rw [List.length_set]
theorem yz(f:Tf):(cQ f).2=(dA f.body:Int):=by
 show(gDs f.body (gP f.ps.length 0 f.ps [],0)).2=_;rw [nu];show(0:Int)+_=_;omega
theorem Kb(sm:Om)(f:Tf)(s:Qg):(gF sm f s).sz≤s.sz+24*d9 f.body+60:=by
 have h1:=iN (cQ f).1 sm ((s.labs.length:Int)+1) f.body (dk (cQ f).2.toNat ((((((((((s.lab.lab).place (bk sm f.name)).emit [qi 16 12 12 1]).emit [qi 16 2 0 12]).jump 35 2 12 s.labs.length).emit [⟨49,0,0,0,0⟩]).place s.labs.length).push 15).push 13).emit [q3 1 13 14 0]));have h2:=lT f.body;have h3:=yz f;simp only [bj,ct,dh,bT,bv,bz,co,b_,cj]at h1;show((((((((gf (cQ f).1 sm ((s.labs.length:Int)+1) f.body (dk (cQ f).2.toNat _)).emit [q3 1 1 0 0]).place ((s.labs.length:Int)+1)).emit [q3 1 14 13 0]).pop 13).pop 15).emit [qi 16 12 12 4294967295]).emit [qi 27 0 15 0]).sz≤_;simp only [bj,ct,dh,bT,bv,bz,b_,cj];omega
theorem z9(e:Ga)(c:Oq)(sm:Om)(hm:e.mp=c.m)(f:Tf)(hr:kU f.body=true)(hg:GF f)(s:Qg)(hst:0≤bk sm f.name∧bk sm f.name<s.labs.length)(hz:s.sz+24*d9 f.body+100≤780000):
  Spec prog 54 [Pt e.g,II f] [gA e s] [Dm f,gW e.g c,mp fE Prod.fst vI (some e.ms) sm] (X:=Nat) (fun _=>True) (fun _=> .tuple #[]) (fun b=> [gA ({e with mo:=some b,en:=((s.labs.length:Nat):Int)+1}:Ga) (gF sm f s)]) (fun _=> []):=by
 refine au func54 J ntmps54 J fun w0 M H=> ?_
 have hpl:=hg.2.2.1;have hbl:=hg.2.2.2.1;have hgn:=hg.2.2.2.2.2;have hvn:=lT f.body;have hon:=yz f;obtain⟨nv,hnv⟩:∃nv,nv=(cQ f).2.toNat:=⟨_,J⟩
 have hnl:(s.lab.labs.length:Int)=((s.labs.length:Nat):Int)+1:=by rw [dY];omega
 refine bs 0 3 J tJ (bs 0 4 J sd (ak (cz J J fun b3=>av J (ab J (ki (Prod.fst:Ba×Int→Ba) fE vQ J fun b8=>bp J (ax kC J (sw 0 [0,21,22,23] J (by decide) J fun vc vf vl=>aw (k:=0) zp J J J J J J J J (ss 0 [0,21,22,23] ({e with mo:=some b8}:Ga) s vc vf vl J (by decide) (aa (aS (ax fO J ?_)))))))))));refine aL 3 oD J J J J (aH (aZ underlying46 J (aQ (k:=3) J)) (ab J (aa (aC (bG (X:=Nat) (fun i=>i≤f.ps.length) (fun i=> [(0,Pt e.g),(3,Pt b3),(13,I6 (f.ps.length:Int)),(14,I6 (i:Int))]) (fun i=> [(0,gA ({e with mo:=some b8}:Ga) s),(3,aP b3 66 (oq f)),(8,mp fE Prod.fst vQ (some b8) (gP (f.ps.length:Int) 0 (f.ps.take i) []))]) (fun i=> [(0,Dm f),(1,gW e.g c),(2,mp fE Prod.fst vI (some e.ms) sm),(3,sl 1 eS (sv f.vp) f.ps),(4,cm f.vb f.body)]) (fun i=>f.ps.length-i) 0 (bB _) J J J (fun i n1=>ak (ap J J cL (aa (aW (ah J (fun h1=> ?_) (fun h1=> ?_)))))))))))
 ·(try simp only [aY]at h1);have hi:i<f.ps.length:=by omega
  obtain⟨x,hx⟩:∃x,f.ps[i]?=some x:=⟨_,bV hi⟩
  refine az (aW (aC (ak (ab J (am J (aa ?_))))));refine ce [17,18,19,20,21,22,23,24,25,26,27,28,29,30,31,32,33,34] _ J (bP (V:= [(0,17,_),(1,18,_),(2,19,_),(3,20,_),(4,21,_),(5,22,_),(6,23,_),(7,24,_),(8,25,_),(9,26,_),(10,27,_),(11,28,_),(12,29,_),(13,30,_),(14,31,_),(15,32,_),(16,33,_),(17,34,_)]) [0,1,2,3,4,5,6,7,8,9,10,11,12,13,14,15,16,17] 18 [18,17,16,15,14,13,12,11,10,9,8,7,6,5,4,3,2,1,0] [] (fun _=> []) J J (aJ J J (ad J (aA J) (ad J (ai kC J) (ad J (ag zp J J (mY (k:=0) J (fun _=>J) J)) (ad J (ai fO J) (ad J (ag oD J J (aB (k:=3) J J)) (aJ J J (ad J (aR (j:=i) underlying46 t9 J J (aQ (k:=3) J) (by first|rfl|omega) (by first|omega|(simp;done)|(simp;omega))) (ad J (ag t9 J J (ci (aQ (k:=3) J) (by intro _;rfl) hx (by rfl))) (ad J (ai fO J) (ad J (ag oD J J (aB (k:=3) J J)) (ad J (aZ underlying46 J (aQ (k:=3) J)) (ad J (aU J J iz) (aJ J J (ad J (aU J J iz) (ad J (aU J J i9) (ad J (aU J J a_) (ad J (bX underlying3 underlying41 J (by first|exact bx (by omega)|rfl)) ay)))))))))))))))))) J J J J J J J J J (fun _ _=>J) J (g8 (k:=8) (α:=Ba×Int) (kf:=Prod.fst) (vf:=vQ) (x,8+4*((f.ps.length:Int)-1-i)) (fz (gP (f.ps.length:Int) 0 (f.ps.take i) []) x (8+4*((f.ps.length:Int)-1-i))) underlying108 ea J J J J (List.Perm.refl _)) (fun _ _=>br [] J J ay J J J ?_));refine aj (ap J J a_ (ab J (aa ?_)));refine aI (i+1) ⟨by omega,by omega⟩ J (by rw [EK [] hx];rfl) J
 ·(try simp only [aY]at h1);have hi:i=f.ps.length:=by omega
  subst hi;refine bK (ak (aV t3 J J fun b5=>aw (k:=5) t3 J J J J J J J J (aa (aW ?_))));rw [eo];refine aj (ab J (ax m3 J (aL 3 nP J J J J (ch (xs:= [.tmp 36,.tmp 38,.tmp 5]) (Aa e.g e.vp e.ms b8 e.mp e.en s b5 f.vb f.body hg.2.2.2.2.1 hbl (gP (f.ps.length:Int) 0 f.ps [],0) (Int.le_refl _) (by dsimp only;omega)) Ij [0,8,5] [(false,4)] [0,8,5] J J J (fun _ _=> ?_)))));obtain⟨om,hom⟩:∃om,om=(cQ f).1:=⟨_,J⟩
  refine av J (ab J (ae (xs:= [.tmp 40]) (eG ({e with mo:=some b8}:Ga) (s) (by omega)) tt [0] [] [0] (fun _ _=>am J (av J (ab J (ab J (ae (xs:= [.tmp 43]) (eG ({e with mo:=some b8}:Ga) ((s).lab) (by(try simp only [bj,ct,dh,cW,bT,bv,bz,co,b_,cj]);omega)) tt [0] [] [0] (fun _ _=> ?_))))))));rw [hnl];refine bp J (ax tj J (sw 0 [0,21,22,23] J (by decide) J fun vc vf vl=>aw (k:=0) t3 J J J J J J J J (ss 0 [0,21,22,23] ({e with mo:=some b8,en:=((s.labs.length:Nat):Int)+1}:Ga) (((s).lab).lab) vc vf vl J (by decide) (aa (aW ?_)))));refine ce [47,48,49,50,51,52,53,54,55] _ J (bn (V:= [(0,47,_),(1,48,_),(2,49,_),(3,50,_),(4,51,_),(5,52,_),(6,53,_),(7,54,_)]) [0,1,2,3,4,5,6,7] 8 [8,7,6,5,4,3,2,1,0] [] (fun _=> []) J J (aJ J J (aJ J J (ad J (aA J) (ad J (ai mu J) (ad J (ag AY J J (mY (k:=0) J (fun _=>J) J)) (ad J (ai m4 J) (ad J (ag t9 J J (aB (k:=3) J J)) (ad J (By underlying105 ea t3 J J (rE (k:=2) J)) ay)))))))) J J J J J J J J J J J (fun _ _=>J) J (cy (xs:= [.tmp 47,.tmp 54]) (dP ({e with mo:=some b8,en:=((s.labs.length:Nat):Int)+1}:Ga) (((s).lab).lab) (by(try simp only [bj,ct,dh,cW,bT,bv,bz,co,b_,cj]);omega) (bk sm f.name) ⟨hst.1,by rw [dY,dY];omega⟩) qg [0] [] [0]) (fun _ _=>br [] J J ay J J J ?_))
  refine ak (ab J (ae (xs:= [.tmp 56,.const (I6 16),.const (I6 12),.const (I6 12),.const (I3 1)]) (cJ ({e with mo:=some b8,en:=((s.labs.length:Nat):Int)+1}:Ga) ((((s).lab).lab).place (bk sm f.name)) (by(try simp only [bj,ct,dh,cW,bT,bv,bz,co,b_,cj]);omega) 16 12 12 1) iF [0] [] [0] (fun _ _=>av J (ab J (ae (xs:= [.tmp 58,.const (I6 16),.const (I6 2),.const (I6 0),.const (I3 12)]) (cJ ({e with mo:=some b8,en:=((s.labs.length:Nat):Int)+1}:Ga) (((((s).lab).lab).place (bk sm f.name)).emit [qi 16 12 12 1]) (by(try simp only [bj,ct,dh,cW,bT,bv,bz,co,b_,cj]);omega) 16 2 0 12) iF [0] [] [0] (fun _ _=>av J (ab J (ab J (ae (xs:= [.tmp 60,.const (I6 35),.const (I6 2),.const (I6 12),.tmp 61]) (eO ({e with mo:=some b8,en:=((s.labs.length:Nat):Int)+1}:Ga) ((((((s).lab).lab).place (bk sm f.name)).emit [qi 16 12 12 1]).emit [qi 16 2 0 12]) (by(try simp only [bj,ct,dh,cW,bT,bv,bz,co,b_,cj]);omega) 35 2 12 ((s.labs.length:Nat):Int)) qS [0] [] [0] (fun _ _=>av J (ab J (aH (aT (parts:= [(0,.const (I6 49))]) el kV J J) ?_))))))))))));refine bD gI ⟨49,0,0,0,0⟩ underlying106 el J (by decide) (by decide) J J J J fun v65=>cr 65 7 J bE (ae (xs:= [.tmp 63,.tmp 65]) (gq ({e with mo:=some b8,en:=((s.labs.length:Nat):Int)+1}:Ga) (((((((s).lab).lab).place (bk sm f.name)).emit [qi 16 12 12 1]).emit [qi 16 2 0 12]).jump 35 2 12 ((s.labs.length:Nat):Int)) (by(try simp only [bj,ct,dh,cW,bT,bv,bz,co,b_,cj]);omega) v65 [⟨49,0,0,0,0⟩] (by simp)) u0 [0] [(false,7)] [0] (fun _ _=>av J (ab J (ab J ?_))))
  refine fj (xs:= [.tmp 67,.tmp 68]) (dP ({e with mo:=some b8,en:=((s.labs.length:Nat):Int)+1}:Ga) ((((((((s).lab).lab).place (bk sm f.name)).emit [qi 16 12 12 1]).emit [qi 16 2 0 12]).jump 35 2 12 ((s.labs.length:Nat):Int)).emit [⟨49,0,0,0,0⟩]) (by(try simp only [bj,ct,dh,cW,bT,bv,bz,co,b_,cj]);omega) ((s.labs.length:Nat):Int) ⟨by omega,by show _<(((((((s).lab).lab).place (bk sm f.name)).labs.length:Nat)):Int);rw [dL,dY,dY];omega⟩) qg [0] [] [0] J J J J J J J J (fun _ _=>J) (fun _ _ _=>J) J (fun _ _=> ?_);refine av J (ab J (ae (xs:= [.tmp 70,.const (I6 15)]) (g_ ({e with mo:=some b8,en:=((s.labs.length:Nat):Int)+1}:Ga) (((((((((s).lab).lab).place (bk sm f.name)).emit [qi 16 12 12 1]).emit [qi 16 2 0 12]).jump 35 2 12 ((s.labs.length:Nat):Int)).emit [⟨49,0,0,0,0⟩]).place ((s.labs.length:Nat):Int)) (by(try simp only [bj,ct,dh,cW,bT,bv,bz,co,b_,cj]);omega) 15) Ar [0] [] [0] (fun _ _=>av J (ab J (ae (xs:= [.tmp 72,.const (I6 13)]) (g_ ({e with mo:=some b8,en:=((s.labs.length:Nat):Int)+1}:Ga) ((((((((((s).lab).lab).place (bk sm f.name)).emit [qi 16 12 12 1]).emit [qi 16 2 0 12]).jump 35 2 12 ((s.labs.length:Nat):Int)).emit [⟨49,0,0,0,0⟩]).place ((s.labs.length:Nat):Int)).push 15) (by(try simp only [bj,ct,dh,cW,bT,bv,bz,co,b_,cj]);omega) 13) Ar [0] [] [0] (fun _ _=>av J (ab J (ae (xs:= [.tmp 74,.const (I6 1),.const (I6 13),.const (I6 14),.const (I6 0)]) (cS ({e with mo:=some b8,en:=((s.labs.length:Nat):Int)+1}:Ga) (((((((((((s).lab).lab).place (bk sm f.name)).emit [qi 16 12 12 1]).emit [qi 16 2 0 12]).jump 35 2 12 ((s.labs.length:Nat):Int)).emit [⟨49,0,0,0,0⟩]).place ((s.labs.length:Nat):Int)).push 15).push 13) (by(try simp only [bj,ct,dh,cW,bT,bv,bz,co,b_,cj]);omega) 1 13 14 0) lI [0] [] [0] (fun _ _=>aa (aS (aL 5 t3 J J J J ?_)))))))))));refine ab J (aa (aC ?_));have hnc:((gDs f.body (gP (f.ps.length:Int) 0 f.ps [],0)).2:Int)=(nv:Int):=by
   have:(cQ f).2=(nv:Int):=by omega
   exact this
  rw [hnc];refine bG (X:=Nat) (fun i=>i≤nv) (fun i=> [(0,Pt e.g),(3,Pt b3),(76,I6 (nv:Int)),(77,I6 (i:Int))]) (fun i=> [(0,gA ({e with mo:=some b8,en:=((s.labs.length:Nat):Int)+1}:Ga) (dk i ((((((((((((s).lab).lab).place (bk sm f.name)).emit [qi 16 12 12 1]).emit [qi 16 2 0 12]).jump 35 2 12 ((s.labs.length:Nat):Int)).emit [⟨49,0,0,0,0⟩]).place ((s.labs.length:Nat):Int)).push 15).push 13).emit [q3 1 13 14 0]))),(3,aP b3 66 (oq f)),(8,mp fE Prod.fst vQ (some b8) om)]) (fun i=> [(0,Dm f),(1,gW e.g c),(2,mp fE Prod.fst vI (some e.ms) sm),(3,sl 1 eS (sv f.vp) f.ps),(4,cm f.vb f.body)]) (fun i=>nv-i) 0 (bB _) J (by rw [hom];rfl) J (fun i n1=>ak (ap J J cL (aa (aW (ah J (fun h2=> ?_) (fun h2=> ?_))))))
  ·(try simp only [aY]at h2);have hi:i<nv:=by omega
   refine az (aW (aC (aj (ab J (ae (xs:= [.tmp 79,.const (I6 0)]) (g_ ({e with mo:=some b8,en:=((s.labs.length:Nat):Int)+1}:Ga) (dk i ((((((((((((s).lab).lab).place (bk sm f.name)).emit [qi 16 12 12 1]).emit [qi 16 2 0 12]).jump 35 2 12 ((s.labs.length:Nat):Int)).emit [⟨49,0,0,0,0⟩]).place ((s.labs.length:Nat):Int)).push 15).push 13).emit [q3 1 13 14 0])) (by(try simp only [bj,ct,dh,cW,bT,bv,bz,co,b_,cj]);omega) 0) Ar [0] [] [0] (fun _ _=>aa (aj (ap J J a_ (ab J (aa ?_))))))))));refine aI (i+1) ⟨by omega,by omega⟩ J (by rw [gH];rfl) J
  ·(try simp only [aY]at h2);have hi:nv=i:=by omega
   subst hi;refine bK (ak (ab J (ax m3 J (aL 3 nP J J J J (fj (xs:= [.tmp 82,.tmp 84]) (Ce ({e with mo:=some b8,en:=((s.labs.length:Nat):Int)+1}:Ga) c om sm hm (by dsimp only;omega) f.vb f.body hr hg.2.2.2.2.1 hbl (dk nv ((((((((((((s).lab).lab).place (bk sm f.name)).emit [qi 16 12 12 1]).emit [qi 16 2 0 12]).jump 35 2 12 ((s.labs.length:Nat):Int)).emit [⟨49,0,0,0,0⟩]).place ((s.labs.length:Nat):Int)).push 15).push 13).emit [q3 1 13 14 0])) (by(try simp only [bj,ct,dh,cW,bT,bv,bz,co,b_,cj]);omega)) CT [0] [(false,4),(false,1),(true,8),(false,2)] [0] J J J J J (by rw [hom];rfl) J J (fun _ _=>J) (fun _ _ _=>J) J (fun _ _=> ?_))))));have hbz:=iN om sm (((s.labs.length:Nat):Int)+1) f.body (dk nv ((((((((((((s).lab).lab).place (bk sm f.name)).emit [qi 16 12 12 1]).emit [qi 16 2 0 12]).jump 35 2 12 ((s.labs.length:Nat):Int)).emit [⟨49,0,0,0,0⟩]).place ((s.labs.length:Nat):Int)).push 15).push 13).emit [q3 1 13 14 0]));simp only [bj,ct,dh,cW,bT,bv,bz,co,b_,cj]at hbz;have hbl2:=iI om sm (((s.labs.length:Nat):Int)+1) f.body (dk nv ((((((((((((s).lab).lab).place (bk sm f.name)).emit [qi 16 12 12 1]).emit [qi 16 2 0 12]).jump 35 2 12 ((s.labs.length:Nat):Int)).emit [⟨49,0,0,0,0⟩]).place ((s.labs.length:Nat):Int)).push 15).push 13).emit [q3 1 13 14 0]));rw [jg]at hbl2;have hbl3:((((((((((((s).lab).lab).place (bk sm f.name)).emit [qi 16 12 12 1]).emit [qi 16 2 0 12]).jump 35 2 12 ((s.labs.length:Nat):Int)).emit [⟨49,0,0,0,0⟩]).place ((s.labs.length:Nat):Int)).push 15).push 13).emit [q3 1 13 14 0]).labs.length=s.labs.length+2:=by
    show(((((((((s).lab).lab).place (bk sm f.name)).emit [qi 16 12 12 1]).emit [qi 16 2 0 12]).jump 35 2 12 ((s.labs.length:Nat):Int)).emit [⟨49,0,0,0,0⟩]).place ((s.labs.length:Nat):Int)).labs.length=_;rw [dL];show((((s).lab).lab).place (bk sm f.name)).labs.length=_;rw [dL,dY,dY]
   refine av J (ab J (ae (xs:= [.tmp 86,.const (I6 1),.const (I6 1),.const (I6 0),.const (I6 0)]) (cS ({e with mo:=some b8,en:=((s.labs.length:Nat):Int)+1}:Ga) (gf om sm (((s.labs.length:Nat):Int)+1) f.body (dk nv ((((((((((((s).lab).lab).place (bk sm f.name)).emit [qi 16 12 12 1]).emit [qi 16 2 0 12]).jump 35 2 12 ((s.labs.length:Nat):Int)).emit [⟨49,0,0,0,0⟩]).place ((s.labs.length:Nat):Int)).push 15).push 13).emit [q3 1 13 14 0]))) (by(try simp only [bj,ct,dh,cW,bT,bv,bz,co,b_,cj]);omega) 1 1 0 0) lI [0] [] [0] (fun _ _=>av J (ab J (ab J (bp J (ax tj J (aH (ag t3 J J (mY (k:=0) J (fun _=>J) J)) ?_))))))));refine fj (xs:= [.tmp 88,.tmp 92]) (dP ({e with mo:=some b8,en:=((s.labs.length:Nat):Int)+1}:Ga) ((gf om sm (((s.labs.length:Nat):Int)+1) f.body (dk nv ((((((((((((s).lab).lab).place (bk sm f.name)).emit [qi 16 12 12 1]).emit [qi 16 2 0 12]).jump 35 2 12 ((s.labs.length:Nat):Int)).emit [⟨49,0,0,0,0⟩]).place ((s.labs.length:Nat):Int)).push 15).push 13).emit [q3 1 13 14 0]))).emit [q3 1 1 0 0]) (by(try simp only [bj,ct,dh,cW,bT,bv,bz,co,b_,cj]);omega) (((s.labs.length:Nat):Int)+1) ⟨by omega,by show _<((((gf om sm (((s.labs.length:Nat):Int)+1) f.body (dk nv ((((((((((((s).lab).lab).place (bk sm f.name)).emit [qi 16 12 12 1]).emit [qi 16 2 0 12]).jump 35 2 12 ((s.labs.length:Nat):Int)).emit [⟨49,0,0,0,0⟩]).place ((s.labs.length:Nat):Int)).push 15).push 13).emit [q3 1 13 14 0]))).labs.length:Nat)):Int);omega⟩) qg [0] [] [0] J J J J J J J J (fun _ _=>J) (fun _ _ _=>J) J (fun _ _=> ?_)
   refine av J (ab J (ae (xs:= [.tmp 94,.const (I6 1),.const (I6 14),.const (I6 13),.const (I6 0)]) (cS ({e with mo:=some b8,en:=((s.labs.length:Nat):Int)+1}:Ga) (((gf om sm (((s.labs.length:Nat):Int)+1) f.body (dk nv ((((((((((((s).lab).lab).place (bk sm f.name)).emit [qi 16 12 12 1]).emit [qi 16 2 0 12]).jump 35 2 12 ((s.labs.length:Nat):Int)).emit [⟨49,0,0,0,0⟩]).place ((s.labs.length:Nat):Int)).push 15).push 13).emit [q3 1 13 14 0]))).emit [q3 1 1 0 0]).place (((s.labs.length:Nat):Int)+1)) (by(try simp only [bj,ct,dh,cW,bT,bv,bz,co,b_,cj]);omega) 1 14 13 0) lI [0] [] [0] (fun _ _=>av J (ab J (ae (xs:= [.tmp 96,.const (I6 13)]) (l8 ({e with mo:=some b8,en:=((s.labs.length:Nat):Int)+1}:Ga) ((((gf om sm (((s.labs.length:Nat):Int)+1) f.body (dk nv ((((((((((((s).lab).lab).place (bk sm f.name)).emit [qi 16 12 12 1]).emit [qi 16 2 0 12]).jump 35 2 12 ((s.labs.length:Nat):Int)).emit [⟨49,0,0,0,0⟩]).place ((s.labs.length:Nat):Int)).push 15).push 13).emit [q3 1 13 14 0]))).emit [q3 1 1 0 0]).place (((s.labs.length:Nat):Int)+1)).emit [q3 1 14 13 0]) (by(try simp only [bj,ct,dh,cW,bT,bv,bz,co,b_,cj]);omega) 13) Fb [0] [] [0] (fun _ _=>av J (ab J (ae (xs:= [.tmp 98,.const (I6 15)]) (l8 ({e with mo:=some b8,en:=((s.labs.length:Nat):Int)+1}:Ga) (((((gf om sm (((s.labs.length:Nat):Int)+1) f.body (dk nv ((((((((((((s).lab).lab).place (bk sm f.name)).emit [qi 16 12 12 1]).emit [qi 16 2 0 12]).jump 35 2 12 ((s.labs.length:Nat):Int)).emit [⟨49,0,0,0,0⟩]).place ((s.labs.length:Nat):Int)).push 15).push 13).emit [q3 1 13 14 0]))).emit [q3 1 1 0 0]).place (((s.labs.length:Nat):Int)+1)).emit [q3 1 14 13 0]).pop 13) (by(try simp only [bj,ct,dh,cW,bT,bv,bz,co,b_,cj]);omega) 15) Fb [0] [] [0] (fun _ _=> ?_)))))))))
   refine av J (ab J (ae (xs:= [.tmp 100,.const (I6 16),.const (I6 12),.const (I6 12),.const (I3 4294967295)]) (cJ ({e with mo:=some b8,en:=((s.labs.length:Nat):Int)+1}:Ga) ((((((gf om sm (((s.labs.length:Nat):Int)+1) f.body (dk nv ((((((((((((s).lab).lab).place (bk sm f.name)).emit [qi 16 12 12 1]).emit [qi 16 2 0 12]).jump 35 2 12 ((s.labs.length:Nat):Int)).emit [⟨49,0,0,0,0⟩]).place ((s.labs.length:Nat):Int)).push 15).push 13).emit [q3 1 13 14 0]))).emit [q3 1 1 0 0]).place (((s.labs.length:Nat):Int)+1)).emit [q3 1 14 13 0]).pop 13).pop 15) (by(try simp only [bj,ct,dh,cW,bT,bv,bz,co,b_,cj]);omega) 16 12 12 4294967295) iF [0] [] [0] (fun _ _=>aa (aj (ab J (ae (xs:= [.tmp 102,.const (I6 27),.const (I6 0),.const (I6 15),.const (I3 0)]) (cJ ({e with mo:=some b8,en:=((s.labs.length:Nat):Int)+1}:Ga) (((((((gf om sm (((s.labs.length:Nat):Int)+1) f.body (dk nv ((((((((((((s).lab).lab).place (bk sm f.name)).emit [qi 16 12 12 1]).emit [qi 16 2 0 12]).jump 35 2 12 ((s.labs.length:Nat):Int)).emit [⟨49,0,0,0,0⟩]).place ((s.labs.length:Nat):Int)).push 15).push 13).emit [q3 1 13 14 0]))).emit [q3 1 1 0 0]).place (((s.labs.length:Nat):Int)+1)).emit [q3 1 14 13 0]).pop 13).pop 15).emit [qi 16 12 12 4294967295]) (by(try simp only [bj,ct,dh,cW,bT,bv,bz,co,b_,cj]);omega) 27 0 15 0) iF [0] [] [0] (fun _ _=>aa (bN b8 O J fi J [0] [] J (by rw [hom,hnv];rfl) J))))))))
structure okG(s:Qg):Prop where
 fx:∀p∈s.fixes,(0≤p.1∧p.1<s.code.length)∧(0≤p.2∧p.2<s.labs.length)
 im:∀q∈s.code,oW q.imm
theorem okG.emit{s:Qg}(h:okG s){l:List Qi}(hl:∀q∈l,oW q.imm):okG (s.emit l):=by
 refine⟨fun p hp=> ?_,fun q hq=> ?_⟩
 ·have:=h.fx p hp;show(_∧p.1<((s.code++l).length:Int))∧(_∧p.2<(s.labs.length:Int));rw [bO];omega
 ·rcases List.mem_append.1 hq with hq|hq
  ·exact h.im q hq
  ·exact hl q hq
theorem okG.lab{s:Qg}(h:okG s):okG s.lab:=by
 refine⟨fun p hp=> ?_,h.im⟩;have:=h.fx p hp;rw [dY];exact⟨this.1,this.2.1,by omega⟩
theorem okG.place{s:Qg}(h:okG s)(l:Int):okG (s.place l):=by
 refine⟨fun p hp=> ?_,h.im⟩;have:=h.fx p hp;rw [dL];exact this
theorem okG.jump{s:Qg}(h:okG s)(op d a:Int){l:Int}(hl:0≤l∧l<s.labs.length):okG (s.jump op d a l):=by
 refine⟨fun p hp=> ?_,fun q hq=> ?_⟩
 ·show(_∧p.1<((s.code++ [qi op d a 0]).length:Int))∧(_∧p.2<(s.labs.length:Int));rw [bO,dJ];rcases List.mem_append.1 hp with hp|hp
  ·have:=h.fx p hp;omega
  ·rw [List.mem_singleton.1 hp];dsimp only;omega
 ·rcases List.mem_append.1 hq with hq|hq
  ·exact h.im q hq
  ·rw [List.mem_singleton.1 hq];exact oY
theorem Nt{q:Qi}(h:oW q.imm):∀x∈ [q],oW x.imm:=fun x hx=>by rw [List.mem_singleton.1 hx];exact h
theorem okG.one{s:Qg}(h:okG s){q:Qi}(hq:oW q.imm):okG (s.emit [q]):=h.emit (Nt hq)
theorem okG.push{s:Qg}(h:okG s)(r:Int):okG (s.push r):=(h.one (q:=qi 16 14 14 4294967292) ⟨by decide,by decide⟩).one (q:=qi 25 r 14 0) oY
theorem okG.pop{s:Qg}(h:okG s)(r:Int):okG (s.pop r):=(h.one (q:=qi 23 r 14 0) oY).one (q:=qi 16 14 14 4) ⟨by decide,by decide⟩
theorem okG.elem{s:Qg}(h:okG s)(r:Int):okG (s.elem r):=(h.one (q:=qi 17 r r 255) (show oW 255 from⟨by decide,by decide⟩)).one (q:=qi 20 r r 2) (show oW 2 from⟨by decide,by decide⟩)
theorem okG.ite{c:Prop} [Decidable c]{a b:Qg}(h1:okG a)(h2:okG b):okG (if c then a else b):=by split;exact h1;exact h2
theorem okG.op{s:Qg}(h:okG s)(o:Ba):okG (nG o s):=by
 have w1:oW 1:=⟨by decide,by decide⟩
 have t:∀{s:Qg},okG s→∀op d a b,okG (s.emit [q3 op d a b]):=fun h op d a b=>h.one oY
 have i1:∀{s:Qg},okG s→okG (s.emit [qi 19 1 1 1]):=fun h=>h.one w1
 have l2:(s.labs.length:Int)<s.lab.labs.length:=by rw [dY];omega
 unfold nG
 repeat' (refine okG.ite ?_ ?_)
 ·exact t h _ _ _ _
 ·exact t h _ _ _ _
 ·exact t h _ _ _ _
 ·exact t h _ _ _ _
 ·exact t h _ _ _ _
 ·exact t h _ _ _ _
 ·exact t h _ _ _ _
 ·exact t h _ _ _ _
 ·exact t h _ _ _ _
 ·exact t h _ _ _ _
 ·exact i1 (t h _ _ _ _)
 ·exact i1 (t h _ _ _ _)
 ·exact t (t h _ _ _ _) _ _ _ _
 ·exact i1 (t (t h _ _ _ _) _ _ _ _)
 ·exact(t (h.lab.jump 32 1 0 ⟨by omega,l2⟩) _ _ _ _).place _
 ·exact t ((t (t ((t h.lab _ _ _ _).jump 32 1 0 (l:=(s.labs.length:Int)) ⟨by omega,l2⟩) _ _ _ _) _ _ _ _).place _) _ _ _ _
 ·exact h
theorem okG.un{s:Qg}(h:okG s)(o:Ba):okG (Ck o s):=by
 unfold Ck
 repeat' (refine okG.ite ?_ ?_)
 ·exact h.one oY
 ·exact(h.one (q:=qi 16 2 0 4294967295) ⟨by decide,by decide⟩).one oY
 ·exact(h.one (q:=qi 16 2 0 1) ⟨by decide,by decide⟩).one oY
 ·exact h
theorem okG.num{s:Qg}(h:okG s){n:Int}(hn:oW n):okG (pu n s):=by
 have h1:=hn.1;have h2:=hn.2;unfold pu;refine okG.ite (h.one hn) (h.emit fun q hq=> ?_);simp only [List.mem_cons,List.not_mem_nil,or_false]at hq;rcases hq with rfl|rfl
 ·show oW (n/1024);exact⟨by omega,by omega⟩
 ·show oW (n%1024);exact⟨by omega,by omega⟩
structure okL(o st:Om)(k:Nat):Prop where
 o:∀x,oW (bk o x)
 st:∀x,0≤bk st x∧bk st x<k
mutual
theorem FY{o st:Om}{k:Nat}(hk:okL o st k):∀(t:Tx)(s:Qg),GX t→k≤s.labs.length→okG s→okG (gX o st t s)
 | .mk kd n nm v kids,s,hg,hs,h=>by
  have h0:=wW hk kids s hg.2.2.2 hs h;have l0:=yv o st kids s;have h1:=Cj hk kids ((ku o st kids s).push 1) hg.2.2.2 (by show k≤(ku o st kids s).labs.length;omega) (h0.push 1);have h2:=Ch hk kids s hg.2.2.2 hs h;have l2:s.labs.length≤(rH o st kids s).labs.length:=(te (K:=fun _=>False) (S:=fun _=>0) (fun _ h=>h.elim) kids s).labs_le;have hst:=hk.st nm;have hkl:=hg.2.2.1;unfold gX;refine okG.ite (h.num hg.1) (okG.ite (h.one (q:=qi 23 1 13 (bk o nm)) (hk.o nm)) (okG.ite (h.one (q:=⟨48,0,0,0,2⟩) ⟨by decide,by decide⟩) (okG.ite ((h0.elem 1).one (q:=qi 23 1 1 8192) ⟨by decide,by decide⟩) (okG.ite (h0.un nm) (okG.ite ((h1.pop 2).op nm) (okG.ite ?_ h))))));have hj:=h2.jump 40 15 0 (l:=bk st nm) ⟨hst.1,by omega⟩;refine okG.ite (hj.one (q:=qi 16 14 14 (4*kids.length)) ?_) hj;show oW (4*(kids.length:Int));exact⟨by omega,by omega⟩
theorem wW{o st:Om}{k:Nat}(hk:okL o st k):∀(l:List Tx)(s:Qg),GXs l→k≤s.labs.length→okG s→okG (ku o st l s)
 | [],s,_,_,h=>h
 | t::_,s,hg,hs,h=>FY hk t s hg.1 hs h
theorem Cj{o st:Om}{k:Nat}(hk:okL o st k):∀(l:List Tx)(s:Qg),GXs l→k≤s.labs.length→okG s→okG (IT o st l s)
 | [],s,_,_,h=>h
 | _::r,s,hg,hs,h=>wW hk r s hg.2 hs h
theorem Ch{o st:Om}{k:Nat}(hk:okL o st k):∀(l:List Tx)(s:Qg),GXs l→k≤s.labs.length→okG s→okG (rH o st l s)
 | [],s,_,_,h=>h
 | t::r,s,hg,hs,h=>Ch hk r _ hg.2 (by have:=Ci o st t s;show k≤(gX o st t s).labs.length;omega) ((FY hk t s hg.1 hs h).push 1)
end
mutual
theorem J_{o st:Om}{k:Nat}(hk:okL o st k){en:Int}(he:0≤en∧en<k):∀(t:Ty)(s:Qg),GY t→k≤s.labs.length→okG s→okG (gY o st en t s)
 | .mk kd nm ve es vb body vl els,s,hg,hs,h=>by
  have hs0:k≤((s.lab.place s.labs.length)).labs.length:=by rw [dL,dY];omega
  have hl0:s.labs.length<((s.lab.place s.labs.length)).labs.length:=by rw [dL,dY];omega
  have h0:=wW hk es _ hg.2.1.2 hs0 (h.lab.place s.labs.length);have l0:=yv o st es (s.lab.place s.labs.length);have h1:=Cj hk es ((ku o st es (s.lab.place s.labs.length)).push 1) hg.2.1.2 (by show k≤(ku o st es _).labs.length;omega) (h0.push 1);unfold gY;dsimp only;generalize ku o st es (s.lab.place s.labs.length)=s1 at h0 l0 h1;refine okG.ite (h0.one (q:=qi 25 1 13 (bk o nm)) (hk.o nm)) (okG.ite (((h1.pop 2).elem 2).one (q:=qi 25 1 2 8192) ⟨by decide,by decide⟩) (okG.ite (h0.one (q:=⟨48,0,0,0,1⟩) ⟨by decide,by decide⟩) (okG.ite (h0.jump 40 0 0 ⟨he.1,by omega⟩) (okG.ite ?_ (okG.ite ?_ h0)))))
  ·have e2:(s1.lab.lab).labs.length=s1.labs.length+2:=by rw [dY,dY]
   have h2:=pl hk he body _ hg.2.2.1.2 (by show k≤(s1.lab.lab).labs.length;omega) (h0.lab.lab.jump 32 1 0 (l:=(s1.labs.length:Int)) ⟨by omega,by omega⟩);have l2:=iI o st en body ((s1.lab.lab).jump 32 1 0 s1.labs.length);have l2':(s1.lab.lab).labs.length≤_:=l2;have h3:okG (if els.length>0 then(gf o st en body ((s1.lab.lab).jump 32 1 0 s1.labs.length)).jump 40 0 0 ((s1.labs.length:Int)+1)else gf o st en body ((s1.lab.lab).jump 32 1 0 s1.labs.length)):=okG.ite (h2.jump 40 0 0 ⟨by omega,by omega⟩) h2;have l3:k≤(if els.length>0 then(gf o st en body ((s1.lab.lab).jump 32 1 0 s1.labs.length)).jump 40 0 0 ((s1.labs.length:Int)+1)else gf o st en body ((s1.lab.lab).jump 32 1 0 s1.labs.length)).labs.length:=by
    split
    ·show k≤(gf o st en body _).labs.length;omega
    ·omega
   exact(pl hk he els _ hg.2.2.2.2 (by rw [dL];exact l3) (h3.place _)).place _
  ·have e2:(s1.lab).labs.length=s1.labs.length+1:=dY s1;have h2:=pl hk he body _ hg.2.2.1.2 (by show k≤(s1.lab).labs.length;omega) (h0.lab.jump 32 1 0 (l:=(s1.labs.length:Int)) ⟨by omega,by omega⟩);have l2:=iI o st en body ((s1.lab).jump 32 1 0 s1.labs.length);have l2':(s1.lab).labs.length≤_:=l2;exact(h2.jump 40 0 0 (l:=(s.labs.length:Int)) ⟨by omega,by omega⟩).place _
theorem pl{o st:Om}{k:Nat}(hk:okL o st k){en:Int}(he:0≤en∧en<k):∀(l:List Ty)(s:Qg),GYs l→k≤s.labs.length→okG s→okG (gf o st en l s)
 | [],s,_,_,h=>h
 | t::r,s,hg,hs,h=>pl hk he r _ hg.2 (by
   have:=(Cg (K:=fun _=>False) (S:=fun _=>0) (E:=0) t s (fun _ h=>h.elim) (fun _ h=>h.elim):Res (fun _=>False) s (gY o st en t s) _).labs_le;omega) (J_ hk he t s hg.1 hs h)
end
theorem fV(o:Om)(x y:Ba)(n:Int):bk (fz o x n) y=if x=y then n else bk o y:=by
 unfold bk fz;rw [List.find?_cons];by_cases h:x=y
 ·rw [ao h];simp only [decide_eq_true h]
 ·rw [ac h];simp only [decide_eq_false h]
  induction o with
  | nil=>rfl
  | cons p r ih=>
   rw [List.filter_cons];by_cases hp:p.1=x
   ·rw [ac (by simp [hp]),ih,List.find?_cons];simp only [decide_eq_false (show ¬p.1=y from fun e=>h (hp.symm.trans e))]
   ·rw [ao (by simp [hp]),List.find?_cons,List.find?_cons];by_cases hy:p.1=y
    ·simp only [decide_eq_true hy]
    ·simp only [decide_eq_false hy];exact ih
def mQ:List Tf→Ba→Nat
 | [],_=>0
 | f::r,x=>if f.name=x then 0 else mQ r x+1
theorem yx:∀(fs:List Tf)(p:Om×Qg)(x:Ba),(fs.map Tf.name).Nodup→(x∈fs.map Tf.name→bk (mI fs p).1 x=((p.2.labs.length+mQ fs x:Nat):Int))∧(x∉fs.map Tf.name→bk (mI fs p).1 x=bk p.1 x)
 | [],p,x,_=>⟨fun h=>by simp at h,fun _=>rfl⟩
 | f::r,p,x,h=>by
  rw [List.map_cons,List.nodup_cons]at h;unfold mI;obtain⟨i1,i2⟩:=yx r (fz p.1 f.name p.2.labs.length,p.2.lab) x h.2;have hl:(p.2.lab).labs.length=p.2.labs.length+1:=by
   show(p.2.labs++ [0]).length=_;rw [bO,dJ]
  rw [hl]at i1;by_cases hx:x∈r.map Tf.name
  ·have hf:¬f.name=x:=fun e=>h.1 (by rw [e];exact hx)
   refine⟨fun _=> ?_,fun hn=>absurd (List.mem_cons_of_mem _ hx) hn⟩;rw [i1 hx,show mQ (f::r) x=mQ r x+1 from ac hf]
   congr 1
   omega
  ·rw [i2 hx];show(_→bk (fz p.1 f.name (p.2.labs.length:Int)) x=_)∧(_→bk (fz p.1 f.name (p.2.labs.length:Int)) x=_);rw [fV];by_cases hf:f.name=x
   ·rw [ao hf];refine⟨fun _=> ?_,fun hn=>absurd (by rw [List.map_cons,hf];exact List.mem_cons_self) hn⟩;unfold mQ;rw [ao hf];rfl
   ·rw [ac hf];refine⟨fun hn=> ?_,fun _=>J⟩;rw [List.map_cons,List.mem_cons]at hn;exact absurd (hn.resolve_left fun e=>hf e.symm) hx
theorem uG:∀(fs:List Tf)(p:Om×Qg),(mI fs p).2={p.2 with labs:=p.2.labs++List.replicate fs.length 0}
 | [],p=>by
  show p.2={p.2 with labs:=p.2.labs++ []};rw [List.append_nil]
 | f::r,p=>by
  unfold mI;rw [uG r];show Qg.mk _ _ ((p.2.labs++ [0])++List.replicate r.length 0)=_;rw [List.append_assoc];rfl
theorem sH:∀(fs:List Tf)(x:Ba),x∈fs.map Tf.name→mQ fs x<fs.length
 | [],x,h=>by simp at h
 | f::r,x,h=>by
  unfold mQ;split
  ·simp
  ·have:=sH r x ((List.mem_cons.1 h).resolve_left fun e=>by subst e;contradiction);simp only [b_];omega
theorem t7:∀(fs:List Tf)(x y:Ba),x∈fs.map Tf.name→y∈fs.map Tf.name→mQ fs x=mQ fs y→x=y
 | [],x,_,h,_,_=>by simp at h
 | f::r,x,y,hx,hy,he=>by
  unfold mQ at he;by_cases h1:f.name=x
  ·by_cases h2:f.name=y
   ·rw [←h1,h2]
   ·rw [ao h1,ac h2]at he;omega
  ·by_cases h2:f.name=y
   ·rw [ac h1,ao h2]at he;omega
   ·rw [ac h1,ac h2]at he;exact t7 r x y ((List.mem_cons.1 hx).resolve_left fun e=>h1 e.symm) ((List.mem_cons.1 hy).resolve_left fun e=>h2 e.symm) (by omega)
theorem lW(st:Om):∀(fs:List Tf)(p:Nat)(l:List Int)(k:Nat),(∀f∈fs,(bk st f.name).toNat≠k)→(dy st fs p l)[k]?=l[k]?
 | [],_,_,_,_=>rfl
 | f::r,p,l,k,h=>by
  unfold dy;rw [lW st r _ _ k fun g hg=>h g (by simp [hg]),List.getElem?_set_ne (h f (by simp))]
theorem oI(st:Om):∀(fs:List Tf)(p:Nat)(l:List Int)(x:Ba),(fs.map Tf.name).Nodup→(∀a∈fs.map Tf.name,∀b∈fs.map Tf.name,(bk st a).toNat=(bk st b).toNat→a=b)→
  (∀a∈fs.map Tf.name,(bk st a).toNat<l.length)→x∈fs.map Tf.name→(dy st fs p l)[(bk st x).toNat]?=some (gw fs p x)
 | [],_,_,x,_,_,_,h=>by simp at h
 | f::r,p,l,x,hn,hi,hl,hx=>by
  rw [List.map_cons,List.nodup_cons]at hn;unfold dy gw;by_cases hf:f.name=x
  ·rw [ao hf,lW st r _ _ _ fun g hg e=>hn.1 (by
    have hm:g.name∈(f::r).map Tf.name:=List.mem_map_of_mem (by simp [hg]);have:=hi g.name hm x hx e;rw [hf,←this];exact List.mem_map_of_mem hg),hf,List.getElem?_set_self (hl x hx)]
  ·rw [ac hf];exact oI st r _ _ x hn.2 (fun a ha b hb=>hi a (List.mem_cons_of_mem _ ha) b (List.mem_cons_of_mem _ hb)) (fun a ha=>by rw [List.length_set];exact hl a (List.mem_cons_of_mem _ ha)) ((List.mem_cons.1 hx).resolve_left fun e=>hf e.symm)
theorem uI(labs:List Int):∀(fs:List (Int×Int))(l:List Qi),ml labs fs l=qn (fun i=>labs.getD i.toNat 0) 0 fs l
 | [],l=>rfl
 | f::r,l=>by
  unfold ml qn;rw [Nat.sub_zero];exact uI labs r _
theorem xB:∀(fs:List Tf)(p:Nat)(x:Ba),x∉fs.map Tf.name→gw fs p x=3
 | [],_,_,_=>rfl
 | f::r,p,x,h=>by
  rw [List.map_cons,List.mem_cons]at h;unfold gw;rw [ac fun e=>h (Or.inl e.symm)];exact xB r _ x fun e=>h (Or.inr e)
theorem yC(fs:List Tf)(hn:(fs.map Tf.name).Nodup)(h0:fs≠ []):ir fs=iC fs:=by
 obtain⟨st,hst⟩:∃st,st=(mI fs ([],⟨[],[],[]⟩)).1:=⟨_,J⟩
 have ho:∀x,x∉fs.map Tf.name→bk st x=0:=fun x hx=>by
  rw [hst,(yx fs _ x hn).2 hx];rfl
 have hm:∀x∈fs.map Tf.name,(bk st x).toNat=mQ fs x:=fun x hx=>by
  rw [hst,(yx fs _ x hn).1 hx];show((0+mQ fs x:Nat):Int).toNat=_;rw [Nat.zero_add,Int.toNat_natCast]
 obtain⟨s0,hs0⟩:∃s0,s0=(mI fs ([],⟨[],[],[]⟩)).2:=⟨_,J⟩
 have e0:s0=⟨[],[],List.replicate fs.length 0⟩:=by
  rw [hs0,uG];rfl
 obtain⟨s1,hs1⟩:∃s1:Qg,s1=((s0.emit [qi 16 14 0 16384]).jump 40 15 0 (bk st dV)).emit [⟨48,0,0,0,0⟩]:=⟨_,J⟩
 have hA:w4 fs=pw st fs s1:=by
  rw [hs1,hs0,hst];rfl
 have c1:s1.code.length=3:=by rw [hs1,e0];rfl
 have l1:s1.labs=List.replicate fs.length 0:=by rw [hs1,e0];rfl
 obtain⟨S,hS⟩:∃S,S=gw fs 3:=⟨_,J⟩
 have hlt:∀f∈fs,(bk st f.name).toNat<s1.labs.length:=fun f hf=>by
  have hx:f.name∈fs.map Tf.name:=List.mem_map_of_mem hf;rw [hm _ hx,l1,List.length_replicate];exact sH fs _ hx
 have g2:=yA (K:=fun L=>∀x,L (bk st x)=S x) (S:=S) (fun L h=>h) fs s1 hlt;rw [c1]at g2;have g1:Res (fun L=>∀x,L (bk st x)=S x) {s0 with labs:=dy st fs 3 s1.labs} {s1 with labs:=dy st fs 3 s1.labs} [qi 16 14 0 16384,qi 40 15 0 (wU (S dV-1)),⟨48,0,0,0,0⟩]:=by
  rw [hs1];refine(((Res.emit _ [_]).seq (Res.jump _ 40 15 0 (bk st dV) _ fun L hL=> ?_)).seq (Res.emit _ [_]));rw [hL dV];show wU (_-(((s0.code++ [_]).length:Nat):Int))=_;rw [e0];rfl
 obtain⟨raw,fx,ls,a1,a2,a3,a4,a5,a6⟩:=(g1.seq g2).ex;unfold ir;rw [hA,uI,a1,a3];have hc:s0.code= []:=by rw [e0]
 have hf:s0.fixes= []:=by rw [e0]
 show qn _ 0 (s0.fixes++fx) (s0.code++raw)=iC fs;rw [hc,hf,List.nil_append,List.nil_append];have hcl:s0.code.length=0:=by rw [hc];rfl
 have hget:∀x∈fs.map Tf.name,(dy st fs 3 s1.labs)[(bk st x).toNat]?=some (gw fs 3 x):=fun x hx=>
  oI st fs 3 s1.labs x hn (fun a ha b hb e=>t7 fs a b ha hb (by rw [←hm a ha,←hm b hb];exact e)) (fun a ha=>by
   obtain⟨f,hf,rfl⟩:=List.mem_map.1 ha;exact hlt f hf) hx
 have a6':=a6 (fun i=>(pw st fs s1).labs.getD i.toNat 0) (fun x=> ?_) (fun i n hi=> ?_)
 ·rw [show({s0 with labs:=dy st fs 3 s1.labs}:Qg).code.length=0 from hcl]at a6';rw [a6',hS];rfl
 ·show(pw st fs s1).labs.getD (bk st x).toNat 0=S x;rw [a4,hS];show(dy st fs 3 s1.labs++ls).getD _ 0=_;have hlen:∀y∈fs.map Tf.name,(bk st y).toNat<(dy st fs 3 s1.labs).length:=fun y hy=>by
   rw [lf];obtain⟨f,hf,rfl⟩:=List.mem_map.1 hy;exact hlt f hf
  by_cases hx:x∈fs.map Tf.name
  ·rw [List.getD_eq_getElem?_getD,List.getElem?_append_left (hlen x hx),hget x hx];rfl
  ·rw [xB fs 3 x hx,ho x hx];cases fs with
   | nil=>exact absurd rfl h0
   | cons f r=>
    have hy:f.name∈(f::r).map Tf.name:=by simp
    have h3:=hget f.name hy;have h4:=hlen f.name hy;have h5:(bk st f.name).toNat=0:=by
     rw [hm _ hy];unfold mQ;rw [ao J]
    rw [h5]at h3 h4;rw [List.getD_eq_getElem?_getD,show(0:Int).toNat=0 from J,List.getElem?_append_left h4,h3];unfold gw;rw [ao J];rfl
 ·show(pw st fs s1).labs.getD (((dy st fs 3 s1.labs).length+i:Nat):Int).toNat 0=n;rw [a4];show(dy st fs 3 s1.labs++ls).getD _ 0=_;rw [Int.toNat_natCast,List.getD_eq_getElem?_getD,List.getElem?_append_right (by omega),show(dy st fs 3 s1.labs).length+i-(dy st fs 3 s1.labs).length=i by omega,hi];rfl
def okO(o:Om):Prop:=∀x,oW (bk o x)
theorem okO.put{o:Om}(h:okO o)(x:Ba){n:Int}(hn:oW n):okO (fz o x n):=fun y=>by
 rw [fV];split
 ·exact hn
 ·exact h y
theorem okO.nil:okO []:=fun _=>oY
theorem okO.gP{n:Int}(hn:n≤1000000):∀(l:List Ba)(k:Int)(o:Om),okO o→0≤k→k+l.length≤n→okO (gP n k l o)
 | [],k,o,h,_,_=>h
 | p::r,k,o,h,hk,hl=>by
  rw [b_]at hl;exact okO.gP hn r (k+1) _ (h.put p ⟨by omega,by omega⟩) (by omega) (by omega)
mutual
theorem okO.gD:∀(t:Ty)(p:Om×Int),okO p.1→okO (gD t p).1
 | .mk k nm ve es vb body vl els,p,h=>by
  rw [Cq];refine okO.gDs els _ (okO.gDs body _ ?_);show okO (if k=1 then _ else p).1;split
  ·exact h.put nm (oV _)
  ·exact h
theorem okO.gDs:∀(l:List Ty)(p:Om×Int),okO p.1→okO (gDs l p).1
 | [],p,h=>h
 | t::r,p,h=>okO.gDs r _ (okO.gD t p h)
end
theorem okO.offs{f:Tf}(hg:GF f):okO (cQ f).1:=okO.gDs f.body _ (okO.gP (by have:=hg.2.2.1;omega) f.ps 0 [] okO.nil (Int.le_refl _) (by omega))
theorem okG.push0:∀(n:Nat){s:Qg},okG s→okG (dk n s)
 | 0,s,h=>h
 | n+1,s,h=>by
  rw [gH];exact(okG.push0 n h).push 0
theorem Kc{st:Om}{f:Tf}{s:Qg}(hg:GF f)(hst:∀x,0≤bk st x∧bk st x<s.labs.length)(h:okG s):okG (gF st f s):=by
 have e2:(s.lab.lab).labs.length=s.labs.length+2:=by rw [dY,dY]
 have h1:=(((h.lab.lab.place (bk st f.name)).one (q:=qi 16 12 12 1) ⟨by decide,by decide⟩).one (q:=qi 16 2 0 12) ⟨by decide,by decide⟩).jump 35 2 12 (l:=(s.labs.length:Int)) ⟨by omega,by show(s.labs.length:Int)<((s.lab.lab).place (bk st f.name)).labs.length;rw [dL];omega⟩;have h2:=(h1.one (q:=⟨49,0,0,0,0⟩) oY).place s.labs.length;have h3:=((((h2.push 15).push 13).one (q:=q3 1 13 14 0) oY).push0 (cQ f).2.toNat)
 have l3:(dk (cQ f).2.toNat ((((((((((s.lab.lab).place (bk st f.name)).emit [qi 16 12 12 1]).emit [qi 16 2 0 12]).jump 35 2 12 s.labs.length).emit [⟨49,0,0,0,0⟩]).place s.labs.length).push 15).push 13).emit [q3 1 13 14 0])).labs.length=s.labs.length+2:=by
  rw [jg];show(((((((s.lab.lab).place (bk st f.name)).emit [qi 16 12 12 1]).emit [qi 16 2 0 12]).jump 35 2 12 s.labs.length).emit [⟨49,0,0,0,0⟩]).place s.labs.length).labs.length=_;rw [dL];show((s.lab.lab).place (bk st f.name)).labs.length=_;rw [dL,e2]
 have h4:=pl (o:=(cQ f).1) (st:=st) (k:=s.labs.length+2) ⟨okO.offs hg,fun x=>by have:=hst x;omega⟩ (en:=(s.labs.length:Int)+1) ⟨by omega,by omega⟩ f.body _ hg.2.2.2.2.1 (by rw [l3];exact bU _) h3;exact(((((((h4.one (q:=q3 1 1 0 0) oY).place _).one (q:=q3 1 14 13 0) oY).pop 13).pop 15).one (q:=qi 16 12 12 4294967295) ⟨by decide,by decide⟩).one (q:=qi 27 0 15 0) oY)
theorem Cp(st:Om)(f:Tf)(s:Qg):s.labs.length≤(gF st f s).labs.length:=by
 have h1:=iI (cQ f).1 st ((s.labs.length:Int)+1) f.body (dk (cQ f).2.toNat ((((((((((s.lab.lab).place (bk st f.name)).emit [qi 16 12 12 1]).emit [qi 16 2 0 12]).jump 35 2 12 s.labs.length).emit [⟨49,0,0,0,0⟩]).place s.labs.length).push 15).push 13).emit [q3 1 13 14 0]));rw [jg]at h1;have h2:s.labs.length+2≤(gf (cQ f).1 st ((s.labs.length:Int)+1) f.body (dk (cQ f).2.toNat ((((((((((s.lab.lab).place (bk st f.name)).emit [qi 16 12 12 1]).emit [qi 16 2 0 12]).jump 35 2 12 s.labs.length).emit [⟨49,0,0,0,0⟩]).place s.labs.length).push 15).push 13).emit [q3 1 13 14 0]))).labs.length:=by
  refine Nat.le_trans ?_ h1;show _≤(((((((s.lab.lab).place (bk st f.name)).emit [qi 16 12 12 1]).emit [qi 16 2 0 12]).jump 35 2 12 s.labs.length).emit [⟨49,0,0,0,0⟩]).place s.labs.length).labs.length;rw [dL];show _≤((s.lab.lab).place (bk st f.name)).labs.length;rw [dL,dY,dY];exact bU _
 show _≤(((gf (cQ f).1 st ((s.labs.length:Int)+1) f.body _).emit [q3 1 1 0 0]).place ((s.labs.length:Int)+1)).labs.length;rw [dL];exact Nat.le_trans (Nat.le_add_right _ 2) h2
theorem Co{st:Om}:∀(l:List Tf)(s:Qg),(∀f∈l,GF f)→(∀x,0≤bk st x∧bk st x<s.labs.length)→okG s→okG (pw st l s)
 | [],s,_,_,h=>h
 | f::r,s,hg,hst,h=>Co r _ (fun g hm=>hg g (by simp [hm])) (fun x=>by have:=hst x;have:=Cp st f s;omega) (Kc (hg f (by simp)) hst h)
theorem Cl{fs:List Tf}(hn:(fs.map Tf.name).Nodup)(h0:fs≠ [])(x:Ba):0≤bk (mI fs ([],⟨[],[],[]⟩)).1 x∧bk (mI fs ([],⟨[],[],[]⟩)).1 x<fs.length:=by
 have hl:0<fs.length:=by cases fs with|nil=>exact absurd J h0|cons _ _=>simp
 obtain⟨h1,h2⟩:=yx fs ([],⟨[],[],[]⟩) x hn;by_cases hx:x∈fs.map Tf.name
 ·have:=sH fs x hx;rw [h1 hx];simp only [cj];omega
 ·rw [h2 hx];show(0:Int)≤0∧(0:Int)<_;omega
theorem EN{fs:List Tf}(hg:GP fs)(hn:(fs.map Tf.name).Nodup)(h0:fs≠ []):okG (w4 fs):=by
 have hb:=Cl hn h0;have hs:=uG fs ([],⟨[],[],[]⟩);have hl:(mI fs ([],⟨[],[],[]⟩)).2.labs.length=fs.length:=by
  rw [hs];simp
 have ok0:okG (mI fs ([],⟨[],[],[]⟩)).2:=by
  rw [hs];exact⟨fun p hp=>by simp at hp,fun q hq=>by simp at hq⟩
 have h1:=((ok0.one (q:=qi 16 14 0 16384) ⟨by decide,by decide⟩).jump 40 15 0 (l:=bk (mI fs ([],⟨[],[],[]⟩)).1 dV) ⟨(hb dV).1,by show _<((mI fs ([],⟨[],[],[]⟩)).2.labs.length:Int);rw [hl];exact(hb dV).2⟩).one (q:=⟨48,0,0,0,0⟩) oY;exact Co fs _ hg.2 (fun x=>by
  show _∧_<((mI fs ([],⟨[],[],[]⟩)).2.labs.length:Int);rw [hl];exact hb x) h1
theorem q_:∀(l:List Qi)(k:Nat)(n:Int),oW n→(∀q∈l,oW q.imm)→∀q∈gl l k n,oW q.imm
 | [],_,_,_,h=>h
 | i::l,0,n,hn,h=>fun q hq=>by
  rcases List.mem_cons.1 hq with rfl|hq
  ·exact hn
  ·exact h q (by simp [hq])
 | i::l,k+1,n,hn,h=>fun q hq=>by
  rcases List.mem_cons.1 hq with rfl|hq
  ·exact h q (by simp)
  ·exact q_ l k n hn (fun q hq=>h q (by simp [hq])) q hq
theorem tf(labs:List Int):∀(fs:List (Int×Int))(l:List Qi),(∀q∈l,oW q.imm)→(∀q∈ml labs fs l,oW q.imm)∧(ml labs fs l).length=l.length
 | [],l,h=>⟨h,rfl⟩
 | p::r,l,h=>by
  obtain⟨h1,h2⟩:=tf labs r (gl l p.1.toNat (wU (labs.getD p.2.toNat 0-p.1))) (q_ l _ _ (oV _) h);exact⟨h1,h2.trans (ib l _ _)⟩
theorem rI(labs:List Int):∀{fs:List (Int×Int)}{i:Nat}{f:Int×Int}(l:List Qi),fs[i]?=some f→ml labs (fs.take (i+1)) l=gl (ml labs (fs.take i) l) f.1.toNat (wU (labs.getD f.2.toNat 0-f.1))
 | [],i,f,l,h=>by simp at h
 | p::r,0,f,l,h=>by cases h;rfl
 | p::r,i+1,f,l,h=>rI labs (fs:=r) _ h
theorem oK:∀(l:List Qi)(k:Nat)(n:Int)(q:Qi),l[k]?=some q→gl l k n=l.set k {q with imm:=n}
 | [],k,n,q,h=>by simp at h
 | i::l,0,n,q,h=>by cases h;rfl
 | i::l,k+1,n,q,h=>congrArg (i:: ·) (oK l k n q h)
def d5(l:List Qi):List Int:=l.flatMap fun q=>eC (qO q)
theorem fS:∀l:List Qi,(d5 l).length=4*l.length
 | []=>rfl
 | q::r=>by
  show(eC (qO q)++d5 r).length=_;rw [bO,fS r,b_,show(eC (qO q)).length=4 from J];omega
theorem xX(n:Int):∀x∈eC n,0≤x∧x<256:=fun x hx=>by
 simp only [eC,List.mem_cons,List.not_mem_nil,or_false]at hx;rcases hx with rfl|rfl|rfl|rfl<;>omega
theorem qb(l:List Qi):∀x∈d5 l,0≤x∧x<256:=fun x hx=>by
 obtain⟨q,_,hq⟩:=List.mem_flatMap.1 hx;exact xX _ x hq
theorem iy:∀l:List Int,(∀x∈l,0≤x∧x<256)→aN (iP l)=l:=by
 have h0:∀(l:List Int)(r:Ba),(l.foldl (fun r n=>r.push (UInt8.ofNat n.toNat)) r).data.toList=r.data.toList++l.map fun n=>UInt8.ofNat n.toNat:=by
  intro l
  induction l with
  | nil=>intro r;simp
  | cons n l ih=>intro r;rw [List.foldl_cons,ih];simp [ByteArray.push]
 intro l hl;unfold aN iP;rw [h0];simp only [List.map_append,List.map_map];show(ByteArray.empty.data.toList).map _++_=l;rw [show ByteArray.empty.data.toList= []from J,List.map_nil,List.nil_append];refine(List.map_congr_left (g:=id) fun n hn=> ?_).trans (List.map_id l);have:=hl n hn;show(((UInt8.ofNat n.toNat).toNat:Nat):Int)=n;rw [UInt8.toNat_ofNat'];omega
theorem xp{l:List Qi}{i:Nat}{q:Qi}(h:l[i]?=some q):d5 (l.take (i+1))=d5 (l.take i)++aN (iP (eC (qO q))):=by
 rw [cn h,iy _ (xX _)];unfold d5;rw [List.flatMap_append];simp
theorem Gx(x:Int):IntKind.u32.wrap (IntKind.i64.wrap x)=wU x:=by
 unfold wU;simp only [IntKind.wrap_u32,IntKind.wrap_i64];omega
theorem uC(e:Ga)(s:Qg)(hs:okG s)(hz:s.sz≤240000)(hne:s.code≠ []):
  aO prog 55 [Pt e.g] [gA e s] [] (Sg (iP (d5 (ml s.labs s.fixes s.code)))) []:=by
 refine au func55 J ntmps55 J fun w0 M H=> ?_
 unfold Qg.sz at hz;refine sw 0 [0,21,22,23] J (by decide) J fun vc vf vl=>ak (am J (aa (aS (ab J (bp J (ax ol J (aL 0 DS J J J J (aH (aZ underlying107 J (bl (k:=22) J)) (ab J (aa (aC (bG (X:=Nat) (fun i=>i≤s.fixes.length) (fun i=> [(0,Pt e.g),(2,Sg ⟨#[]⟩),(13,sv vf),(14,I6 (s.fixes.length:Int)),(15,I6 (i:Int))]) (fun i=> [(0,aP e.g 111 (gR e.vp vc vf vl e.ms e.mo e.mp e.en)),(21,own 118 5 gI (sv vc) (ml s.labs (s.fixes.take i) s.code)),(22,own 171 2 tA (sv vf) s.fixes),(23,own 3 1 eI (sv vl) s.labs)]) (fun i=> []) (fun i=>s.fixes.length-i) 0 (bB _) J J J (fun i n1=>ak (ap J J cL ?_))))))))))))))
 refine aa (aW (ah J (fun h1=> ?_) (fun h1=> ?_)))
 ·(try simp only [aY]at h1);have hi:i<s.fixes.length:=by omega
  obtain⟨f,hf⟩:∃f,s.fixes[i]?=some f:=⟨_,bV hi⟩
  have hfx:=hs.fx f (cO hf);have hfl:(ml s.labs (s.fixes.take i) s.code).length=s.code.length:=(tf s.labs (s.fixes.take i) s.code hs.im).2;obtain⟨q,hq⟩:∃q,(ml s.labs (s.fixes.take i) s.code)[f.1.toNat]?=some q:=⟨_,bV (by rw [hfl];omega)⟩
  obtain⟨lb,hlb⟩:∃lb,s.labs[f.2.toNat]?=some lb:=⟨_,bV (by omega)⟩
  have hgd:s.labs.getD f.2.toNat 0=lb:=by rw [List.getD_eq_getElem?_getD,hlb];rfl
  refine az (aW (aC (ak (aH (aR (j:=i) underlying107 vU J J (bl (k:=22) J) (by first|rfl|omega) (by first|omega|(simp;done)|(simp;omega))) (aH (aM vU J J J (ci (bl (k:=22) J) (by intro _;rfl) hf (by rfl))) (aV vU J J fun b4=>aq (k:=4) vU J J J J J J (aa ?_)))))));refine ce [19,20,21,22,23,24,25,26,27,28,29,30,31,32,33,34,35,36,37,38] _ J (bP (V:= [(0,19,_),(1,20,_),(2,21,_),(3,22,_),(4,23,_),(5,24,_),(6,25,_),(7,26,_),(8,27,_),(9,28,_),(10,29,_),(11,30,_),(12,31,_),(13,32,_),(14,33,_),(15,34,_),(16,35,_),(17,36,_),(18,37,_),(19,38,_)]) [0,1,2,3,4,5,6,7,8,9,10,11,12,13,14,15,16,17,18,19] 20 [20,19,18,17,16,15,14,13,12,11,10,9,8,7,6,5,4,3,2,1,0] [] (fun _=> []) J J (aJ J J (ad J (aA J) (ad J (ai kD J) (ad J (ag zq J J (aB (k:=0) J J)) (ad J (ai yP J) (ad J (ag t3 J J (aB (k:=4) J J)) (aJ J J (ad J (aA J) (ad J (ai mx J) (ad J (ag DQ J J (aB (k:=0) J J)) (ad J (ai E1 J) (ad J (ag t3 J J (aB (k:=4) J J)) (ad J (aR (j:=f.2.toNat) underlying22 t3 J J (bl (k:=23) J) (by omega) (by omega)) (ad J (ag t3 J J (ci (bl (k:=23) J) (by intro _;rfl) hlb (by rfl))) (ad J (ai yP J) (ad J (ag t3 J J (aB (k:=4) J J)) (ad J (aU J J (la J)) (ad J (bX underlying3 underlying41 J (Gx _)) (ad J (aR (j:=f.1.toNat) underlying106 el J J (bl (k:=21) J) (by omega) (by rw [hfl];omega)) (ad J (cH dm J) ay)))))))))))))))))))) J J J J J J J J J (fun _ _=>J) J (gZ (k:=21) (o:=4) (e':={q with imm:=wU (lb-f.1)}) dt J J J J J J (by intro _;rfl) hq (by show _+1≤_;decide) J) (fun _ _=>br [] J J ay J J J ?_));refine aj (ap J J a_ (ab J (aa ?_)));refine aI (i+1) ⟨by omega,by omega⟩ J (by rw [rI s.labs s.code hf,oK _ _ _ q hq,hgd];rfl) J
 ·(try simp only [aY]at h1);have hi:i=s.fixes.length:=by omega
  subst hi;refine bK (aW ?_);rw [eo];obtain⟨C,hC⟩:∃C,C=ml s.labs s.fixes s.code:=⟨_,J⟩
  rw [←hC];have hCo:=tf s.labs s.fixes s.code hs.im;rw [←hC]at hCo;have hCl:=hCo.2;refine aj (aV DR J J fun b5=>aa (aS (ab J (bp J (ax kD J (aL 0 zq J J J J (aH (aZ underlying106 J (bl (k:=21) J)) (ab J (aa (aC (em 31 (α:=Int) (S:=5) (s:=1) (enc:=bL) (bG (X:=Nat×Option Addr×SV) (fun x=>x.1≤C.length∧(x.2.1=none∨x.2.1=some ⟨b5,0,none⟩)) (fun x=> [(0,Pt e.g),(2,Sg ⟨#[]⟩),(5,Pt b5),(43,sv vc),(44,I6 (C.length:Int)),(45,I6 (x.1:Int))]) (fun x=> [(0,aP e.g 111 (gR e.vp vc vf vl e.ms e.mo e.mp e.en)),(21,own 118 5 gI (sv vc) C),(5,aP b5 177 [.pointer x.2.1,sv x.2.2]),(31,own 5 1 bL (sv x.2.2) (d5 (C.take x.1)))]) (fun x=> []) (fun x=>C.length-x.1) (0,none,bQ) ⟨bB _,.inl J⟩ J J J (fun x hx0=>ak (ap J J cL (aa ?_)))))))))))))));refine aW (ah J (fun h2=> ?_) (fun h2=> ?_))
  ·(try simp only [aY]at h2);have hi:x.1<C.length:=by omega
   obtain⟨q,hq⟩:∃q,C[x.1]?=some q:=⟨_,bV hi⟩
   have hqi:=hCo.1 q (cO hq);have hcl:=fS (C.take x.1);have htl:=List.length_take (i:=x.1) (l:=C);have hps:(iP (eC (qO q))).size=4:=by rw [e9];rfl
   refine az (aW (aC (ak (aH (aR (j:=x.1) underlying106 el J J (bl (k:=21) J) (by first|rfl|omega) (by first|omega|(simp;done)|(simp;omega))) (aH (aM el J J J (ci (bl (k:=21) J) (by intro _;rfl) hq (by rfl))) (aV el J J fun b7=>aq (k:=7) el J J J J J J (av J (aH (aM el J J J (bi (k:=7) J)) (ae (xs:= [.tmp 50]) (uO q hqi) MZ [] [] [] (fun _ _=>ab J (aH (cv J J) (aH (cv J J) (am J (am J (aa ?_)))))))))))))));refine aj (ab J (ae (xs:= [.tmp 54,.const (I6 4)]) (Bq (qO q) (Ib q)) Lv [] [] [] (fun _ _=>ae (xs:= [.tmp 5,.tmp 55]) (zh b5 x.2.1 hx0.2 x.2.2 (d5 (C.take x.1)) (iP (eC (qO q))) (by omega)) MY [5,31] [] [5,31] (fun v56 _=>aa (aj (ap J J a_ (ab J (aa ?_))))))));refine aI (x.1+1,some ⟨b5,0,none⟩,v56) ⟨⟨by dsimp only;omega,.inr rfl⟩,by dsimp only;omega⟩ J (by dsimp only;rw [xp hq];rfl) J
  ·(try simp only [aY]at h2);have hi:x.1=C.length:=by omega
   rw [hi,eo];refine bK (ak (ae (xs:= [.tmp 5]) (Ax b5 x.2.1 x.2.2 (d5 C) (by intro h;have:=fS C;rw [h]at this;simp at this;exact hne (List.length_eq_zero_iff.1 (by omega))) (qb C)) Lu [5,31] [] [5] (fun _ _=>am J (aa (ar (aG () O J (bR (aD J)) (by rw [hC]) [] [] J J J))))))
def sR(pc:Int)(r:Int→Int)(st:Int):List Value:=I3 pc::((List.range 16).map (fun k=>Value.int .u32 (r ((k:Nat):Int)))++ [I3 0,I3 0,I3 0,I3 0,I3 0,I6 st,I6 0])
def nz(pc:Int)(r:Int→Int)(st:Int)(m:Nat):List Value:=sR pc r st++ [Pt m]
def nZ:Int→Int:=fun _=>0
theorem zT(n:Nat)(hn:n≤4096):
  Spec prog 74 [I6 (n:Int),.bool false] [] [] (X:=Me) (fun _=>True) (fun e=>Pt e.m) (fun e=> [aP e.m 157 (mR e),own 5 1 bL (sv e.vd) ((⟨List.replicate (256*n) 0,List.replicate (256*n) 0,List.replicate n 0⟩:Mm)).d,own 5 1 bL (sv e.vi) ((⟨List.replicate (256*n) 0,List.replicate (256*n) 0,List.replicate n 0⟩:Mm)).i,own 3 1 eI (sv e.vr) ((⟨List.replicate (256*n) 0,List.replicate (256*n) 0,List.replicate n 0⟩:Mm)).r]) (fun _=> []):=by
 refine au func74 J ntmps74 J fun w0 M H=>ak (am J (av J (ab J (aH (Bw (c:=(n:Int)) J J (by omega)) (aH (kY (c:=(n:Int)) J J (by omega)) (am J (aa (bq (X:=Nat×SV×SV×SV) (fun _=>True) (fun x=> [(1,.bool false),(5,I6 (n:Int)),(6,Pt x.1)]) (fun x=> [(20,aP x.1 157 [sv x.2.1,.slice none 0 0,sv x.2.2.1,.slice none 0 0,sv x.2.2.2,.bool false]),(12,own 5 1 bL (sv x.2.1) (List.replicate (256*n) 0)),(17,own 3 1 eI (sv x.2.2.2) (List.replicate n 0))]) (fun x=> []) ?_ (fun x _=> ?_)))))))))
 ·refine ce [10,11,12,13,14,15,16,17,18,19,20,6] _ J (jQ (V:= [(0,10,_),(1,11,_),(3,13,_),(4,14,_),(6,16,_),(8,18,_)]) [0,1,3,4,6,8] J J (aJ J J (ad J (aU J J (ew (c:=((256*n:Nat):Int)) (by rw [bC (by omega)];omega))) (aJ J J (ad J (aU J J (ew (c:=((256*n:Nat):Int)) (by rw [bC (by omega)];omega))) (aJ J J (aJ J J ay)))))) J [2,5,7] J J (fX (ik 2 [2,1,0] [] (fun v12=> []) J J J J J J J J J (fun _ _=>J) J (dC bL 0 underlying84 t5 J J J J (c:=256*n) J J (by omega) (by simp only [maxLen];omega)) (fun v12 _=>jQ [3,4,6,8] J J (aJ J J (ad J (aU J J (ew (c:=((256*n:Nat):Int)) (by rw [bC (by omega)];omega))) (aJ J J (aJ J J ay)))) J [5,7] J J (fX (ik 5 [5,4,3,2,1,0] [] (fun v15=> []) J J J J J J J J J (fun _ _=>J) J (dC bL 0 underlying84 t5 J J J J (c:=256*n) J J (by omega) (by simp only [maxLen];omega)) (fun v15 _=>bn [6,8] 7 [7,6,5,4,3,2,1,0] [9] (fun v17=> [(9,19,_)]) J J (aJ J J (aJ J J ay)) J J J J J J J J J J J (fun _ _=>J) J (dC eI 0 underlying22 t3 J J J J (c:=n) J J (by omega) (by simp only [maxLen];omega)) (fun v17 _=>bn [9,8] 10 [10,9,8,7,6,5,4,3,2,1,0] [11] (fun b20=> [(11,6,_)]) J J (ad J (aT (parts:= [(0,.tmp 12),(2,.tmp 15),(4,.tmp 17),(5,.tmp 18)]) zo rf J J) (aJ J J ay)) J J J J J J J J J J J (fun _ _=>J) J (mX J (by rfl)) (fun b20 _=>br [11] J J (ad J (dU J) ay) J J J ?_)))) (fX (ik 7 [7,6,2,1,0] [] (fun v17=> []) J J J J J J J J J (fun _ _=>J) J (dC eI 0 underlying22 t3 J J J J (c:=n) J J (by omega) (by simp only [maxLen];omega)) (fun v17 _=>bn [3,4,8] 5 [7,6,5,4,3,2,1,0] [9] (fun v15=> [(9,19,_)]) J J (aJ J J (ad J (aU J J (ew (c:=((256*n:Nat):Int)) (by rw [bC (by omega)];omega))) (aJ J J ay))) J J J J J J J J J J J (fun _ _=>J) J (dC bL 0 underlying84 t5 J J J J (c:=256*n) J J (by omega) (by simp only [maxLen];omega)) (fun v15 _=>bn [9,8] 10 [10,9,8,7,6,5,4,3,2,1,0] [11] (fun b20=> [(11,6,_)]) J J (ad J (aT (parts:= [(0,.tmp 12),(2,.tmp 15),(4,.tmp 17),(5,.tmp 18)]) zo rf J J) (aJ J J ay)) J J J J J J J J J J J (fun _ _=>J) J (mX J (by rfl)) (fun b20 _=>br [11] J J (ad J (dU J) ay) J J J ?_)))) oZ)))) (fX (ik 5 [5,4,3] [] (fun v15=> []) J J J J J J J J J (fun _ _=>J) J (dC bL 0 underlying84 t5 J J J J (c:=256*n) J J (by omega) (by simp only [maxLen];omega)) (fun v15 _=>jQ [0,1,6,8] J J (aJ J J (ad J (aU J J (ew (c:=((256*n:Nat):Int)) (by rw [bC (by omega)];omega))) (aJ J J (aJ J J ay)))) J [2,7] J J (fX (ik 2 [5,4,3,2,1,0] [] (fun v12=> []) J J J J J J J J J (fun _ _=>J) J (dC bL 0 underlying84 t5 J J J J (c:=256*n) J J (by omega) (by simp only [maxLen];omega)) (fun v12 _=>bn [6,8] 7 [7,6,5,4,3,2,1,0] [9] (fun v17=> [(9,19,_)]) J J (aJ J J (aJ J J ay)) J J J J J J J J J J J (fun _ _=>J) J (dC eI 0 underlying22 t3 J J J J (c:=n) J J (by omega) (by simp only [maxLen];omega)) (fun v17 _=>bn [9,8] 10 [10,9,8,7,6,5,4,3,2,1,0] [11] (fun b20=> [(11,6,_)]) J J (ad J (aT (parts:= [(0,.tmp 12),(2,.tmp 15),(4,.tmp 17),(5,.tmp 18)]) zo rf J J) (aJ J J ay)) J J J J J J J J J J J (fun _ _=>J) J (mX J (by rfl)) (fun b20 _=>br [11] J J (ad J (dU J) ay) J J J ?_)))) (fX (ik 7 [7,6,5,4,3] [] (fun v17=> []) J J J J J J J J J (fun _ _=>J) J (dC eI 0 underlying22 t3 J J J J (c:=n) J J (by omega) (by simp only [maxLen];omega)) (fun v17 _=>bn [0,1,8] 2 [7,6,5,4,3,2,1,0] [9] (fun v12=> [(9,19,_)]) J J (aJ J J (ad J (aU J J (ew (c:=((256*n:Nat):Int)) (by rw [bC (by omega)];omega))) (aJ J J ay))) J J J J J J J J J J J (fun _ _=>J) J (dC bL 0 underlying84 t5 J J J J (c:=256*n) J J (by omega) (by simp only [maxLen];omega)) (fun v12 _=>bn [9,8] 10 [10,9,8,7,6,5,4,3,2,1,0] [11] (fun b20=> [(11,6,_)]) J J (ad J (aT (parts:= [(0,.tmp 12),(2,.tmp 15),(4,.tmp 17),(5,.tmp 18)]) zo rf J J) (aJ J J ay)) J J J J J J J J J J J (fun _ _=>J) J (mX J (by rfl)) (fun b20 _=>br [11] J J (ad J (dU J) ay) J J J ?_)))) oZ)))) (fX (ik 7 [7,6] [] (fun v17=> []) J J J J J J J J J (fun _ _=>J) J (dC eI 0 underlying22 t3 J J J J (c:=n) J J (by omega) (by simp only [maxLen];omega)) (fun v17 _=>jQ [0,1,3,4,8] J J (aJ J J (ad J (aU J J (ew (c:=((256*n:Nat):Int)) (by rw [bC (by omega)];omega))) (aJ J J (ad J (aU J J (ew (c:=((256*n:Nat):Int)) (by rw [bC (by omega)];omega))) (aJ J J ay))))) J [2,5] J J (fX (ik 2 [7,6,2,1,0] [] (fun v12=> []) J J J J J J J J J (fun _ _=>J) J (dC bL 0 underlying84 t5 J J J J (c:=256*n) J J (by omega) (by simp only [maxLen];omega)) (fun v12 _=>bn [3,4,8] 5 [7,6,5,4,3,2,1,0] [9] (fun v15=> [(9,19,_)]) J J (aJ J J (ad J (aU J J (ew (c:=((256*n:Nat):Int)) (by rw [bC (by omega)];omega))) (aJ J J ay))) J J J J J J J J J J J (fun _ _=>J) J (dC bL 0 underlying84 t5 J J J J (c:=256*n) J J (by omega) (by simp only [maxLen];omega)) (fun v15 _=>bn [9,8] 10 [10,9,8,7,6,5,4,3,2,1,0] [11] (fun b20=> [(11,6,_)]) J J (ad J (aT (parts:= [(0,.tmp 12),(2,.tmp 15),(4,.tmp 17),(5,.tmp 18)]) zo rf J J) (aJ J J ay)) J J J J J J J J J J J (fun _ _=>J) J (mX J (by rfl)) (fun b20 _=>br [11] J J (ad J (dU J) ay) J J J ?_)))) (fX (ik 5 [7,6,5,4,3] [] (fun v15=> []) J J J J J J J J J (fun _ _=>J) J (dC bL 0 underlying84 t5 J J J J (c:=256*n) J J (by omega) (by simp only [maxLen];omega)) (fun v15 _=>bn [0,1,8] 2 [7,6,5,4,3,2,1,0] [9] (fun v12=> [(9,19,_)]) J J (aJ J J (ad J (aU J J (ew (c:=((256*n:Nat):Int)) (by rw [bC (by omega)];omega))) (aJ J J ay))) J J J J J J J J J J J (fun _ _=>J) J (dC bL 0 underlying84 t5 J J J J (c:=256*n) J J (by omega) (by simp only [maxLen];omega)) (fun v12 _=>bn [9,8] 10 [10,9,8,7,6,5,4,3,2,1,0] [11] (fun b20=> [(11,6,_)]) J J (ad J (aT (parts:= [(0,.tmp 12),(2,.tmp 15),(4,.tmp 17),(5,.tmp 18)]) zo rf J J) (aJ J J ay)) J J J J J J J J J J J (fun _ _=>J) J (mX J (by rfl)) (fun b20 _=>br [11] J J (ad J (dU J) ay) J J J ?_)))) oZ)))) oZ))))
  ·refine aI (b20,v12,v15,v17) O J J J
  ·refine aI (b20,v12,v15,v17) O J J J
  ·refine aI (b20,v12,v15,v17) O J J J
  ·refine aI (b20,v12,v15,v17) O J J J
  ·refine aI (b20,v12,v15,v17) O J J J
  ·refine aI (b20,v12,v15,v17) O J J J
 ·refine aS (ab J (aH (cZ J) (aa (ah J (fun h1=> ?_) (fun h1=> ?_)))))
  ·refine ak (ab J (ab J (ap J J (ew (c:=((256*n:Nat):Int)) (by rw [bC (by omega)];omega)) (kg bL 0 underlying84 t5 J J J J (c:=256*n) J J (by omega) (by simp only [maxLen];omega) J fun v26=>bp J (ax oj J (aw (k:=20) vR J J J J J J J J (aa (aj (ab J (ab J (ap J J (ew (c:=((256*n:Nat):Int)) (by rw [bC (by omega)];omega)) (kg bL 0 underlying84 t5 J J J J (c:=256*n) J J (by omega) (by simp only [maxLen];omega) J fun v32=>bp J (ax E3 J (aw (k:=20) vR J J J J J J J J (aa (aW ?_))))))))))))))));refine aj (ab J (am J (aa (ar (aG ⟨x.1,x.2.1,v26,x.2.2.1,v32,x.2.2.2⟩ O J (bR (aD J)) J [20,12,26,17] [] J J J)))))
  ·exact absurd h1 (by simp)
theorem zI(n:Nat)(hn:n≤4096):
  Spec prog 34 [I6 (n:Int)] [] [] (X:=Nat×Me) (fun _=>True) (fun x=>Pt x.1) (fun x=> [aP x.1 93 (nz 0 nZ 0 x.2.m),aP x.2.m 157 (mR x.2),own 5 1 bL (sv x.2.vd) ((⟨List.replicate (256*n) 0,List.replicate (256*n) 0,List.replicate n 0⟩:Mm)).d,own 5 1 bL (sv x.2.vi) ((⟨List.replicate (256*n) 0,List.replicate (256*n) 0,List.replicate n 0⟩:Mm)).i,own 3 1 eI (sv x.2.vr) ((⟨List.replicate (256*n) 0,List.replicate (256*n) 0,List.replicate n 0⟩:Mm)).r]) (fun _=> []):=by
 refine au func34 J ntmps34 J fun w0 M H=>ak (am J (av J (ab J (ae (xs:= [.tmp 3,.const (.bool Bool.false)]) (zT n hn) M6 [] [] [10,11,12,13] (fun e _=>aH (aT (cs:=(nz 0 nZ 0 e.m).toArray) (parts:= [(1,.tmp 4)]) N0 Mb J (by kernel_rfl)) (cz J J fun b6=>am J (aa (ar (aG (b6,e) O J (bR (aD J)) J [6,10,11,12,13] [] J J J)))))))))
theorem zD(c m:Nat):
  aO prog 77 [Pt c,.agg (sR 256 nZ 0).toArray] [aP c 93 (nz 0 nZ 0 m)] [] (.tuple #[]) [aP c 93 (nz 256 nZ 0 m)]:=by
 refine au func77 J ntmps77 J fun w0 M H=>ak (cz J J fun b3=>av J (ax fw J (aH (cV (j:=0) underlying75 dt J J (by rfl) (by decide)) (aw (k:=3) dt J J J J J J J J (av J (ax Ct J (aw (k:=3) dt J J J J J J J J (av J (ax f_ J (aL 3 t3 J J J J ?_))))))))))
 refine aH (kY J J J) (ax f_ J (aw (k:=3) t3 J J J J J J J J (av J (ax mZ J (aL 3 t3 J J J J (aH (kY J J J) (ax mZ J (aw (k:=3) t3 J J J J J J J J (aa (aj (ab J (aH (aM nO J J J (bi (k:=3) J)) (bp J (ax dH J (aw (k:=0) nO J J J J J J J J (aa (bN () O J fi J [0] [] J J J)))))))))))))))))
@[irreducible] def zer:List Int:=List.replicate 256 0
theorem jD:zer=List.replicate 256 0:=by unfold zer;rfl
theorem gU:zer.length=256:=by rw [jD];exact List.length_replicate ..
theorem AE:zer.take 256=zer:=List.take_of_length_le (by rw [gU];omega)
def oO(p:Nat):Int:=if p≥32 then 3 else if p>0 then 5 else 0
def ge(s:Mm):Nat→Mm
 | 0=>s
 | p+1=>⟨pk (ge s p).d (256*p) zer,pk (ge s p).i (256*p) zer,(ge s p).r.set p (oO p)⟩
def qJ(s:Mm):Nat→Mm
 | 0=>s
 | p+1=>{qJ s p with i:=pk (qJ s p).i ((p+1)*256) (((qJ s p).d.drop ((p+1)*256)).take 256)}
def IR(s:Mm)(code:List Int):Mm:=qJ {ge s 64 with d:=pk (ge s 64).d 256 code} 31
theorem wi(p:Nat):0≤oO p∧oO p<8∧bits .and .i64 (oO p) 7=oO p:=by
 unfold oO;split
 ·decide
 ·split<;>decide
theorem GL{l:List Int}{k:Nat}{x:Int}(h:∀y∈l,0≤y∧y<8)(hx:0≤x∧x<8):∀y∈l.set k x,0≤y∧y<8:=fun y hy=>by
 rcases List.mem_or_eq_of_mem_set hy with hy|hy
 ·exact h y hy
 ·exact hy▸hx
theorem j6{s:Mm}{n:Nat}(h:MO s n):∀p,MO (ge s p) n
 | 0=>h
 | p+1=>by
  have ih:=j6 h p;exact⟨(eD _ _ _).trans ih.d,(eD _ _ _).trans ih.i,(List.length_set ..).trans ih.r,ih.n,GL ih.rb ⟨(wi p).1,(wi p).2.1⟩⟩
theorem ym(s:Mm):∀p,(qJ s p).d=s.d
 | 0=>rfl
 | p+1=>ym s p
theorem wK{s:Mm}{n:Nat}(h:MO s n):∀p,MO (qJ s p) n
 | 0=>h
 | p+1=>by
  have ih:=wK h p;exact ih.ii (eD _ _ _)
theorem Lz:aN (iP zer)=zer:=iy _ fun x hx=>by rw [jD]at hx;rw [List.eq_of_mem_replicate hx];decide
theorem oU:(iP zer).size=256:=by rw [e9,gU]
theorem wg(c:Nat)(e:Me)(s:Mm)(n:Nat)(hs:MO s n)(hn:64≤n)(code:Ba)(hc:code.size≤7936):
  aO prog 39 [Pt c,Sg code] [aP e.m 157 (mR e),own 5 1 bL (sv e.vd) (s).d,own 5 1 bL (sv e.vi) (s).i,own 3 1 eI (sv e.vr) (s).r,aP c 93 (nz 0 nZ 0 e.m)] [] (.tuple #[]) [aP e.m 157 (mR e),own 5 1 bL (sv e.vd) (IR s (aN code)).d,own 5 1 bL (sv e.vi) (IR s (aN code)).i,own 3 1 eI (sv e.vr) (IR s (aN code)).r,aP c 93 (nz 256 nZ 0 e.m)]:=by
 refine au func39 J ntmps39 J fun w0 M H=> ?_
 have hdl:=hs.d;have hnn:=hs.n;have hcl:=eb code;refine ak (kg bL 0 underlying84 t5 J J J J (c:=256) J J (by omega) (by simp only [maxLen];omega) J fun v8=>aH (oS underlying84 underlying5 underlying9 J (bl (k:=8) J) (by decide)) ?_);rw [←jD];refine am J (aa (aS (am J (aa (aC (bG (X:=Nat) (fun p=>p≤64) (fun p=> [(0,Pt c),(1,Sg code),(4,Sg (iP zer)),(5,I6 (p:Int))]) (fun p=> [(0,aP e.m 157 (mR e)),(1,own 5 1 bL (sv e.vd) (ge s p).d),(2,own 5 1 bL (sv e.vi) (ge s p).i),(3,own 3 1 eI (sv e.vr) (ge s p).r),(4,aP c 93 (nz 0 nZ 0 e.m))]) (fun p=> []) (fun p=>64-p) 0 (bB _) J J J (fun p n1=>aS (ab J (ap J J cL (aa (ah J (fun h1=> ?_) (fun h1=> ?_))))))))))))
 ·(try simp only [aY]at h1);have hi:p<64:=by omega
  refine az (aW (aC (ak (ab J (bp J (ax fc J (aL 4 tK J J J J (ab J (ap J J (ew (c:=((256*p:Nat):Int)) (by rw [bC (by omega)];omega)) (aH (bX underlying3 underlying41 J (c:=((256*p:Nat):Int)) (bx (by omega))) (ab J (ae (xs:= [.tmp 17,.tmp 20,.tmp 21]) (oN e (ge s p) n (j6 hs p) (256*p) (iP zer) (by rw [oU];omega) (by rw [oU];omega)) Kz [0,1,2,3] [] [0,1,2,3] (fun _ _=> ?_)))))))))))));rw [Lz];refine av J (ab J (bp J (ax fc J (aL 4 tK J J J J (ab J (ab J (ch (xs:= [.tmp 26,.tmp 27,.tmp 28]) (qB e {ge s p with d:=pk (ge s p).d (256*p) zer} n ((j6 hs p).dd (eD _ _ _)) p (by omega) (iP zer) (by rw [oU];omega)) Nl [0,1,2,3] [] [0,1,2,3] J J J (fun _ _=> ?_))))))));rw [Lz,AE];refine av J (am J (aa (bq (X:=Unit) (fun _=>True) (fun _=> [(0,Pt c),(1,Sg code),(4,Sg (iP zer)),(5,I6 (p:Int)),(6,I6 (if p>0 then 5 else 0))]) (fun _=> [(0,aP e.m 157 (mR e)),(1,own 5 1 bL (sv e.vd) ({ge s p with d:=pk (ge s p).d (256*p) zer,i:=pk (ge s p).i (256*p) zer}).d),(2,own 5 1 bL (sv e.vi) ({ge s p with d:=pk (ge s p).d (256*p) zer,i:=pk (ge s p).i (256*p) zer}).i),(3,own 3 1 eI (sv e.vr) ({ge s p with d:=pk (ge s p).d (256*p) zer,i:=pk (ge s p).i (256*p) zer}).r),(4,aP c 93 (nz 0 nZ 0 e.m))]) (fun _=> []) ?_ (fun _ _=> ?_))))
  ·refine ak (ab J (ap J J fU (aa (ah J (fun h2=> ?_) (fun h2=> ?_)))))
   ·(try simp only [aY]at h2);refine aj (am J (aa ?_));refine aI () O (by rw [ao (show p>0 by omega)];rfl) J J
   ·(try simp only [aY]at h2);refine az ?_;refine aI () O (by rw [ac (show ¬p>0 by omega)];rfl) J J
  ·refine bq (X:=Unit) (fun _=>True) (fun _=> [(0,Pt c),(1,Sg code),(4,Sg (iP zer)),(5,I6 (p:Int)),(6,I6 (oO p))]) (fun _=> [(0,aP e.m 157 (mR e)),(1,own 5 1 bL (sv e.vd) ({ge s p with d:=pk (ge s p).d (256*p) zer,i:=pk (ge s p).i (256*p) zer}).d),(2,own 5 1 bL (sv e.vi) ({ge s p with d:=pk (ge s p).d (256*p) zer,i:=pk (ge s p).i (256*p) zer}).i),(3,own 3 1 eI (sv e.vr) ({ge s p with d:=pk (ge s p).d (256*p) zer,i:=pk (ge s p).i (256*p) zer}).r),(4,aP c 93 (nz 0 nZ 0 e.m))]) (fun _=> []) ?_ (fun _ _=> ?_)
   ·refine ak (ab J (ap J J eY (aa (ah J (fun h3=> ?_) (fun h3=> ?_)))))
    ·(try simp only [aY]at h3);refine aj (am J (aa ?_));refine aI () O (by unfold oO;rw [ao (show p≥32 by omega)];rfl) J J
    ·(try simp only [aY]at h3);refine az ?_;refine aI () O (by unfold oO;rw [ac (show ¬p≥32 by omega)];rfl) J J
   ·refine aj (ab J (bp J (ax fc J (aL 4 tK J J J J (ab J (ab J (ch (xs:= [.tmp 37,.tmp 38,.tmp 39]) (qC e {ge s p with d:=pk (ge s p).d (256*p) zer,i:=pk (ge s p).i (256*p) zer} n (((j6 hs p).dd (eD _ _ _)).ii (eD _ _ _)) p (by omega) (oO p) (oO p) (wi p).2.2) Nk [0,1,2,3] [] [0,1,2,3] J J J (fun _ _=>aa (aj (ab J (ap J J a_ (am J (aa ?_)))))))))))));refine aI (p+1) ⟨by omega,by omega⟩ J J J
 ·(try simp only [aY]at h1);have hi:p=64:=by omega
  subst hi;refine bK (ak (ab J (bp J (ax fc J (aL 4 tK J J J J (ab J (ae (xs:= [.tmp 44,.const (I3 256),.tmp 45]) (oN e (ge s 64) n (j6 hs 64) 256 code (by omega) (by omega)) Kz [0,1,2,3] [] [0,1,2,3] (fun _ _=>aa (aS (am J (aa (aC (bG (X:=Nat) (fun p=>p≤31) (fun p=> [(0,Pt c),(7,I6 ((p+1:Nat):Int))]) (fun p=> [(0,aP e.m 157 (mR e)),(1,own 5 1 bL (sv e.vd) (qJ {ge s 64 with d:=pk (ge s 64).d 256 (aN code)} p).d),(2,own 5 1 bL (sv e.vi) (qJ {ge s 64 with d:=pk (ge s 64).d 256 (aN code)} p).i),(3,own 3 1 eI (sv e.vr) (qJ {ge s 64 with d:=pk (ge s 64).d 256 (aN code)} p).r),(4,aP c 93 (nz 0 nZ 0 e.m))]) (fun p=> []) (fun p=>31-p) 0 (bB _) J J J (fun p n2=>aS ?_))))))))))))));refine ab J (ap J J cL (aa (ah J (fun h4=> ?_) (fun h4=> ?_))))
  ·(try simp only [aY]at h4);have hi:p<31:=by omega
   refine az (aW (aC (aj (ab J (bp J (ax fc J (aL 4 tK J J J J (ab J (ap J J (ew (c:=(((p+1)*256:Nat):Int)) (by rw [bC (by omega)];omega)) (aH (bX underlying3 underlying41 J (c:=(((p+1)*256:Nat):Int)) (bx (by omega))) (ch (xs:= [.tmp 54,.tmp 57]) (wd e (qJ {ge s 64 with d:=pk (ge s 64).d 256 (aN code)} p) n (wK ((j6 hs 64).dd (eD _ _ _)) p) (((p+1)*256:Nat):Int) (by rw [ym];have h1:=eD (aN code) (ge s 64).d 256;have h2:=(j6 hs 64).d;dsimp only;omega)) M5 [0,1,2,3] [] [0,1,2,3] J J J (fun _ _=> ?_))))))))))));rw [show((((p+1)*256:Nat):Int)).toNat/256*256=(p+1)*256 by omega];refine aa (aj (ab J (ap J J a_ (am J (aa ?_)))));refine aI (p+1) ⟨by omega,by omega⟩ J J J
  ·(try simp only [aY]at h4);have hi:p=31:=by omega
   subst hi;refine bK (aj (ab J (aH (aT (cs:=(sR 256 nZ 0).toArray) (parts:= [(0,.const (I3 256))]) nO GZ J (by kernel_rfl)) (ae (xs:= [.tmp 59,.tmp 60]) (zD c e.m) M4 [4] [] [4] (fun _ _=>aa (bN () O J fi J [0,1,2,3,4] [] J J J))))))
structure Qs where
 pc:Nat
 r:Int→Int
 m:Int→Int
 inp:List Int
 out:List Int
def rp(r:Int→Int)(d v:Int):Int→Int:=fun k=>if k=d∧d≠0 then v else r k
def mw(m:Int→Int)(a v:Int):Int→Int:=fun k=>if k=a then v else m k
def ri(x:Int):Nat:=if 256≤x∧x%4=0 then((x-256)/4).toNat else 5000
def gO(p:Nat):Int:=256+4*(p:Int)
def yf(a:Int):Prop:=8192≤a∧a<16384∧a%4=0
instance(a:Int):Decidable (yf a):=by unfold yf;exact inferInstance
def vh(op a b:Int):Option Int:=
 if op=1∨op=16 then some (wU (a+b))else if op=2 then some (wU (a-b))else if op=3∨op=17 then some (bits .and .u32 a b)else
 if op=4∨op=18 then some (bits .or .u32 a b)else if op=5∨op=19 then some (bits .xor .u32 a b)else
 if op=6∨op=20 then some (wU (a*2^(b%32).toNat))else if op=7 then some (a/2^(b%32).toNat)else
 if op=9 then some (wU (a*b))else if op=10 then(if b=0 then none else some (a/b))else if op=11 then some (tr (decide (a<b)))else none
def tL(i:Qi)(c:Qs):Option Qs:=
 match vh i.op (c.r i.a) (if i.op<16 then c.r i.b else i.imm)with
 | some v=>some {c with pc:=c.pc+1,r:=rp c.r i.d v}
 | none=>
  if i.op=23 then(if yf (wU (c.r i.a+i.imm))then some {c with pc:=c.pc+1,r:=rp c.r i.d (c.m (wU (c.r i.a+i.imm)))}else none)else
  if i.op=25 then(if yf (wU (c.r i.a+i.imm))then some {c with pc:=c.pc+1,m:=mw c.m (wU (c.r i.a+i.imm)) (c.r i.d)}else none)else
  if i.op=27 then some {c with pc:=ri (wU (c.r i.a+i.imm)),r:=rp c.r i.d (gO (c.pc+1))}else
  if i.op=32 then some {c with pc:=if c.r i.d=c.r i.a then ri (wU (gO c.pc+4*i.imm))else c.pc+1}else
  if i.op=35 then some {c with pc:=if c.r i.d≥c.r i.a then ri (wU (gO c.pc+4*i.imm))else c.pc+1}else
  if i.op=40 then some {c with pc:=ri (wU (gO c.pc+4*i.imm)),r:=rp c.r i.d (gO (c.pc+1))}else
  if i.op=41 then some {c with pc:=c.pc+1,r:=rp c.r i.d (wU (i.imm*1024))}else
  if i.op=48∧i.imm=1 then some {c with pc:=c.pc+1,out:=c.out++ [c.r 1]}else
  if i.op=48∧i.imm=2 then some {c with pc:=c.pc+1,r:=rp c.r 1 (c.inp.headD 0),inp:=c.inp.tail}else none
def rn(code:List Qi):Nat→Qs→Qs→Prop
 | 0,c,c'=>c=c'
 | n+1,c,c'=>∃i c1,code[c.pc]?=some i∧tL i c=some c1∧rn code n c1 c'
theorem rn.trans{code:List Qi}:∀{n m:Nat}{a b c:Qs},rn code n a b→rn code m b c→rn code (n+m) a c
 | 0,m,a,b,c,h,h2=>by
  have:a=b:=h;subst this;rw [Nat.zero_add];exact h2
 | n+1,m,a,b,c,h,h2=>by
  obtain⟨i,c1,g1,g2,g3⟩:=h;rw [Nat.succ_add];exact⟨i,c1,g1,g2,g3.trans h2⟩
def cAt(code:List Qi)(p:Nat)(l:List Qi):Prop:=∀j i,l[j]?=some i→code[p+j]?=some i
theorem cAt.app{code:List Qi}{p:Nat}{a b:List Qi}(h:cAt code p (a++b)):cAt code p a∧cAt code (p+a.length) b:=by
 refine⟨fun j i hj=>h j i ?_,fun j i hj=> ?_⟩
 ·rw [List.getElem?_append_left (by obtain⟨h,-⟩:=cC.1 hj;exact h)];exact hj
 ·have:=h (a.length+j) i (by rw [List.getElem?_append_right (by omega),show a.length+j-a.length=j by omega];exact hj);rw [Nat.add_assoc];exact this
theorem cAt.head{code:List Qi}{p:Nat}{i:Qi}{l:List Qi}(h:cAt code p (i::l)):code[p]?=some i∧cAt code (p+1) l:=
 ⟨h 0 i rfl,fun j x hj=>by
  have:=h (j+1) x hj;rw [show p+1+j=p+(j+1) by omega];exact this⟩
theorem cAt.of{a b l:List Qi}:cAt (a++l++b) a.length l:=fun j i hj=>by
 rw [List.append_assoc,List.getElem?_append_right (by omega),show a.length+j-a.length=j by omega,List.getElem?_append_left (by obtain⟨h,-⟩:=cC.1 hj;exact h)];exact hj
def Go(code:List Qi)(n:Int)(c:Qs)(P:Qs→Prop):Prop:=∃(k:Nat)(c':Qs),(k:Int)≤n∧rn code k c c'∧P c'
theorem Go.done{code:List Qi}{n:Int}{c:Qs}{P:Qs→Prop}(hn:0≤n)(h:P c):Go code n c P:=⟨0,c,hn,rfl,h⟩
theorem Go.seq{code:List Qi}{n m k:Int}{c:Qs}{P Q:Qs→Prop}(h:Go code n c P)(h2:∀c',P c'→Go code m c' Q)(hk:n+m≤k):Go code k c Q:=by
 obtain⟨a,c1,h3,h4,h5⟩:=h;obtain⟨b,c2,h6,h7,h8⟩:=h2 c1 h5;exact⟨a+b,c2,by omega,h4.trans h7,h8⟩
theorem Go.weak{code:List Qi}{n m:Int}{c:Qs}{P Q:Qs→Prop}(h:Go code n c P)(h2:∀c',P c'→Q c')(hk:n≤m):Go code m c Q:=by
 obtain⟨a,c1,h3,h4,h5⟩:=h;exact⟨a,c1,by omega,h4,h2 c1 h5⟩
theorem Go.step{code:List Qi}{n:Int}{c c1:Qs}{i:Qi}{P:Qs→Prop}(h:code[c.pc]?=some i)(h2:tL i c=some c1)(h3:Go code (n-1) c1 P):Go code n c P:=by
 obtain⟨k,c2,h4,h5,h6⟩:=h3;exact⟨k+1,c2,by omega,⟨i,c1,h,h2,h5⟩,h6⟩
/-! The instructions that the compiler uses. -/
section
variable{code:List Qi}{n:Int}{c:Qs}{P:Qs→Prop}{d a b x:Int}
theorem fy{n:Int}(h:0≤n∧n<4294967296):wU n=n:=jq h.1 h.2
theorem B8{i:Qi}{v:Int}(h:code[c.pc]?=some i)(h2:vh i.op (c.r i.a) (if i.op<16 then c.r i.b else i.imm)=some v)(h3:Go code (n-1) {c with pc:=c.pc+1,r:=rp c.r i.d v} P):Go code n c P:=
 Go.step h (by unfold tL;rw [h2]) h3
theorem wS(h:code[c.pc]?=some (qi 23 d a x))(h2:yf (wU (c.r a+x)))(h3:Go code (n-1) {c with pc:=c.pc+1,r:=rp c.r d (c.m (wU (c.r a+x)))} P):Go code n c P:=
 Go.step (i:=qi 23 d a x) (c1:={c with pc:=c.pc+1,r:=rp c.r d (c.m (wU (c.r a+x)))}) h (by
  have e:tL (qi 23 d a x) c=(if yf (wU (c.r a+x))then some {c with pc:=c.pc+1,r:=rp c.r d (c.m (wU (c.r a+x)))}else none):=J;rw [e,ao h2]) h3
theorem wR(h:code[c.pc]?=some (qi 25 d a x))(h2:yf (wU (c.r a+x)))(h3:Go code (n-1) {c with pc:=c.pc+1,m:=mw c.m (wU (c.r a+x)) (c.r d)} P):Go code n c P:=
 Go.step (i:=qi 25 d a x) (c1:={c with pc:=c.pc+1,m:=mw c.m (wU (c.r a+x)) (c.r d)}) h (by
  have e:tL (qi 25 d a x) c=(if yf (wU (c.r a+x))then some {c with pc:=c.pc+1,m:=mw c.m (wU (c.r a+x)) (c.r d)}else none):=J;rw [e,ao h2]) h3
theorem EH(h:code[c.pc]?=some (qi 27 d a x))(h3:Go code (n-1) {c with pc:=ri (wU (c.r a+x)),r:=rp c.r d (gO (c.pc+1))} P):Go code n c P:=
 Go.step h rfl h3
theorem s9(h:code[c.pc]?=some (qi 32 d a x))(h3:Go code (n-1) {c with pc:=if c.r d=c.r a then ri (wU (gO c.pc+4*x))else c.pc+1} P):Go code n c P:=
 Go.step h rfl h3
theorem EI(h:code[c.pc]?=some (qi 35 d a x))(h3:Go code (n-1) {c with pc:=if c.r d≥c.r a then ri (wU (gO c.pc+4*x))else c.pc+1} P):Go code n c P:=
 Go.step h rfl h3
theorem pi(h:code[c.pc]?=some (qi 40 d a x))(h3:Go code (n-1) {c with pc:=ri (wU (gO c.pc+4*x)),r:=rp c.r d (gO (c.pc+1))} P):Go code n c P:=
 Go.step h rfl h3
theorem HH(h:code[c.pc]?=some (qi 41 d a x))(h3:Go code (n-1) {c with pc:=c.pc+1,r:=rp c.r d (wU (x*1024))} P):Go code n c P:=
 Go.step h rfl h3
theorem HG(h:code[c.pc]?=some ⟨48,0,0,0,1⟩)(h3:Go code (n-1) {c with pc:=c.pc+1,out:=c.out++ [c.r 1]} P):Go code n c P:=
 Go.step h rfl h3
theorem J2(h:code[c.pc]?=some ⟨48,0,0,0,2⟩)(h3:Go code (n-1) {c with pc:=c.pc+1,r:=rp c.r 1 (c.inp.headD 0),inp:=c.inp.tail} P):Go code n c P:=
 Go.step h rfl h3
end
theorem kW{p q:Nat}{x:Int}(hx:x=wU ((q:Int)-(p:Int)))(hq:q<10000)(hp:p<10000):ri (wU (gO p+4*x))=q:=by
 have e:wU (gO p+4*x)=256+4*(q:Int):=by
  rw [hx];unfold gO;have h1:∀n:Int,wU n=n%4294967296:=fun n=>J
  rw [h1,h1];omega
 unfold ri;rw [e,ao (by omega)];omega
theorem D_{p:Nat}(hp:p<10000):ri (wU (gO p+0))=p:=by
 rw [Int.add_zero];unfold gO;rw [fy (by omega)];unfold ri;rw [ao (by omega)];omega
def iE(op:Int):Int:=
 if op=1∨op=16 then 3 else if op=2 then 4 else if op=3∨op=17 then 5 else if op=4∨op=18 then 6 else if op=5∨op=19 then 7 else
 if op=6∨op=20 then 8 else if op=7∨op=21 then 9 else if op=8∨op=22 then 10 else if op=9 then 11 else if op=10 then 12 else if op=11 then 14 else if op=12 then 15 else 0
def Nu(k a b:Int):Option Int:=
 if k=3 then some (wU (a+b))else if k=4 then some (wU (a-b))else if k=5 then some (bits .and .u32 a b)else if k=6 then some (bits .or .u32 a b)else if k=7 then some (bits .xor .u32 a b)else
 if k=8 then some (wU (a*2^(b%32).toNat))else if k=9 then some (a/2^(b%32).toNat)else if k=11 then some (wU (a*b))else if k=12 then(if b=0 then none else some (a/b))else if k=14 then some (tr (decide (a<b)))else none
theorem Iy{op a b v:Int}(h:vh op a b=some v):Nu (iE op) a b=some v:=by
 unfold vh at h;by_cases h1:op=1∨op=16
 ·rw [ao h1]at h;unfold iE;rw [ao h1];exact h
 rw [ac h1]at h;unfold iE;rw [ac h1];by_cases h2:op=2
 ·rw [ao h2]at h;rw [ao h2];exact h
 rw [ac h2]at h;rw [ac h2];by_cases h3:op=3∨op=17
 ·rw [ao h3]at h;rw [ao h3];exact h
 rw [ac h3]at h;rw [ac h3];by_cases h4:op=4∨op=18
 ·rw [ao h4]at h;rw [ao h4];exact h
 rw [ac h4]at h;rw [ac h4];by_cases h5:op=5∨op=19
 ·rw [ao h5]at h;rw [ao h5];exact h
 rw [ac h5]at h;rw [ac h5];by_cases h6:op=6∨op=20
 ·rw [ao h6]at h;rw [ao h6];exact h
 rw [ac h6]at h;rw [ac h6];by_cases h7:op=7
 ·rw [ao h7]at h;rw [ao (Or.inl h7)];exact h
 rw [ac h7]at h;by_cases h8:op=9
 ·rw [ao h8]at h;rw [ac (by omega),ac (by omega),ao h8];exact h
 rw [ac h8]at h;by_cases h9:op=10
 ·rw [ao h9]at h;rw [ac (by omega),ac (by omega),ac h8,ao h9];exact h
 rw [ac h9]at h;by_cases h10:op=11
 ·rw [ao h10]at h;rw [ac (by omega),ac (by omega),ac h8,ac h9,ao h10];exact h
 rw [ac h10]at h;cases h
theorem Ix{op a b v:Int}(h:vh op a b=some v):(1≤op∧op≤7∨9≤op∧op≤11∨16≤op∧op≤20)∧(op=10→b≠0)∧iE op≠0:=by
 unfold vh at h;unfold iE;by_cases h1:op=1∨op=16
 ·rw [ao h1];exact⟨by omega,by omega,by decide⟩
 rw [ac h1]at h;rw [ac h1];by_cases h2:op=2
 ·rw [ao h2];exact⟨by omega,by omega,by decide⟩
 rw [ac h2]at h;rw [ac h2];by_cases h3:op=3∨op=17
 ·rw [ao h3];exact⟨by omega,by omega,by decide⟩
 rw [ac h3]at h;rw [ac h3];by_cases h4:op=4∨op=18
 ·rw [ao h4];exact⟨by omega,by omega,by decide⟩
 rw [ac h4]at h;rw [ac h4];by_cases h5:op=5∨op=19
 ·rw [ao h5];exact⟨by omega,by omega,by decide⟩
 rw [ac h5]at h;rw [ac h5];by_cases h6:op=6∨op=20
 ·rw [ao h6];exact⟨by omega,by omega,by decide⟩
 rw [ac h6]at h;rw [ac h6];by_cases h7:op=7
 ·rw [ao (Or.inl h7)];exact⟨by omega,by omega,by decide⟩
 rw [ac h7]at h;by_cases h8:op=9
 ·rw [ac (by omega),ac (by omega),ao h8];exact⟨by omega,by omega,by decide⟩
 rw [ac h8]at h;by_cases h9:op=10
 ·rw [ao h9]at h;rw [ac (by omega),ac (by omega),ac h8,ao h9];refine⟨by omega,fun _ hb=> ?_,by decide⟩;rw [ao hb]at h;cases h
 rw [ac h9]at h;by_cases h10:op=11
 ·rw [ac (by omega),ac (by omega),ac h8,ac h9,ao h10];exact⟨by omega,by omega,by decide⟩
 rw [ac h10]at h;cases h
theorem zK(t:Bool):
  aO prog 182 [.bool t] [] [] (I3 (tr t)) []:=by
 refine au func182 J ntmps182 J fun w0 M H=>ak (am J (aa (aS (ab J (aa (ah J (fun h1=> ?_) (fun h1=> ?_)))))))
 ·obtain rfl:t=true:=h1;refine ak (am J (aa (ar (aG () O J (bR (aD J)) J [] [] J J J))))
 ·obtain rfl:t=false:=h1;refine az (ak (am J (aa (ar (aG () O J (bR (aD J)) J [] [] J J J)))))
theorem Bh(k a b v:Int)(ha:0≤a∧a<4294967296)(hb:0≤b∧b<4294967296)(hv:Nu k a b=some v):
  aO prog 150 [I6 k,I3 a,I3 b] [] [] (I3 v) []:=by
 refine au func150 J ntmps150 J fun w0 M H=>ak (am J (aa (aS (ab J (aa (aC (ak (ap J J bc (am J (aa (ah J (fun h1=> ?_) (fun h1=> ?_))))))))))))
 ·(try simp only [aY]at h1);obtain rfl:k=3:=h1;obtain rfl:wU (a+b)=v:=dr hv;refine ak (ab J (ab J (ap J J (bZ J) (am J (aa (ar (aG () O J (bR (aD J)) J [] [] J J J)))))))
 ·(try simp only [aY]at h1);refine ak (ap J J bc (am J (aa (ah J (fun h2=> ?_) (fun h2=> ?_)))))
  ·(try simp only [aY]at h2);obtain rfl:k=4:=h2;obtain rfl:wU (a-b)=v:=dr hv;refine ak (ab J (ab J (ap J J (la J) (am J (aa (ar (aG () O J (bR (aD J)) J [] [] J J J)))))))
  ·(try simp only [aY]at h2);refine ak (ap J J bc (am J (aa (ah J (fun h3=> ?_) (fun h3=> ?_)))))
   ·(try simp only [aY]at h3);obtain rfl:k=5:=h3;obtain rfl:bits .and .u32 a b=v:=dr hv;refine ak (ab J (ab J (ap J J (u_ J) (am J (aa (ar (aG () O J (bR (aD J)) J [] [] J J J)))))))
   ·(try simp only [aY]at h3);refine ak (ap J J bc (am J (aa (ah J (fun h4=> ?_) (fun h4=> ?_)))))
    ·(try simp only [aY]at h4);obtain rfl:k=6:=h4;obtain rfl:bits .or .u32 a b=v:=dr hv;refine ak (ab J (ab J (ap J J (Dd J) (am J (aa (ar (aG () O J (bR (aD J)) J [] [] J J J)))))))
    ·(try simp only [aY]at h4);refine ak (ap J J bc (am J (aa (ah J (fun h5=> ?_) (fun h5=> ?_)))))
     ·(try simp only [aY]at h5);obtain rfl:k=7:=h5;obtain rfl:bits .xor .u32 a b=v:=dr hv;refine ak (ab J (ab J (ap J J (Ly J) (am J (aa (ar (aG () O J (bR (aD J)) J [] [] J J J)))))))
     ·(try simp only [aY]at h5);refine ak (ap J J bc (am J (aa (ah J (fun h6=> ?_) (fun h6=> ?_)))))
      ·(try simp only [aY]at h6);obtain rfl:k=8:=h6;obtain rfl:wU (a*2^(b%32).toNat)=v:=dr hv;refine ak (ab J (ab J (ap J J (iA (by omega) (by first|exact jM (by omega)|rfl)) (ap J J (gT (by omega) (by show _≤(32:Int);omega) J) (am J (aa (ar (aG () O J (bR (aD J)) J [] [] J J J))))))))
      ·(try simp only [aY]at h6);refine ak (ap J J bc (am J (aa (ah J (fun h7=> ?_) (fun h7=> ?_)))))
       ·(try simp only [aY]at h7);obtain rfl:k=9:=h7;obtain rfl:a/2^(b%32).toNat=v:=dr hv;refine ak (ab J (ab J (ap J J (iA (by omega) (by first|exact jM (by omega)|rfl)) (ap J J (ql (by omega) (by show _≤(32:Int);omega) J) (am J (aa (ar (aG () O J (bR (aD J)) J [] [] J J J))))))))
       ·(try simp only [aY]at h7);refine ak (ap J J bc (am J (aa (ah J (fun h8=> ?_) (fun h8=> ?_)))))
        ·(have hk:k=10:=by simpa using h8);subst hk;cases hv
        ·(try simp only [aY]at h8);refine ak (ap J J bc (am J (aa (ah J (fun h9=> ?_) (fun h9=> ?_)))))
         ·(try simp only [aY]at h9);obtain rfl:k=11:=h9;obtain rfl:wU (a*b)=v:=dr hv;refine ak (ab J (ab J (ap J J (ew J) (am J (aa (ar (aG () O J (bR (aD J)) J [] [] J J J)))))))
         ·(try simp only [aY]at h9);refine ak (ap J J bc (am J (aa (ah J (fun h10=> ?_) (fun h10=> ?_)))))
          ·(try simp only [aY]at h10);obtain rfl:k=12:=h10;have hq:(if b=0 then none else some (a/b))=some v:=hv;refine aS (ab J (ap J J bc (aa (ah J (fun h11=> ?_) (fun h11=> ?_)))))
           ·(have hz:b=0:=by simpa using h11);rw [ao hz]at hq;cases hq
           ·(try simp only [aY]at h11);have hz:¬b=0:=by simpa using h11
            rw [ac hz]at hq;obtain rfl:a/b=v:=dr hq;refine az (ak (ab J (ab J (ap J J (j_ (by omega) (np ha (by omega))) (am J (aa (ar (aG () O J (bR (aD J)) J [] [] J J J))))))))
          ·(try simp only [aY]at h10);refine ak (ap J J bc (am J (aa (ah J (fun h12=> ?_) (fun h12=> ?_)))))
           ·(have hk:k=13:=by simpa using h12);subst hk;cases hv
           ·(try simp only [aY]at h12);refine ak (ap J J bc (am J (aa (ah J (fun h13=> ?_) (fun h13=> ?_)))))
            ·(try simp only [aY]at h13);obtain rfl:k=14:=h13;obtain rfl:tr (decide (a<b))=v:=dr hv;refine ak (ab J (ab J (ap J J cL (ae (xs:= [.tmp 75]) (zK (decide (a<b))) KS [] [] [] (fun _ _=>am J (aa (ar (aG () O J (bR (aD J)) J [] [] J J J))))))))
            ·(try simp only [aY]at h13);refine ak (ap J J bc (am J (aa (ah J (fun h14=> ?_) (fun h14=> ?_)))))
             ·(have hk:k=15:=by simpa using h14);subst hk;cases hv
             ·(try simp only [aY]at h14);exfalso;unfold Nu at hv;rw [ac (by omega),ac (by omega),ac (by omega),ac (by omega),ac (by omega),ac (by omega),ac (by omega),ac (by omega),ac (by omega),ac (by omega)]at hv;cases hv
theorem we(op:Int):
  aO prog 148 [I6 op] [] [] (I6 (iE op)) []:=by
 refine au func148 J ntmps148 J fun w0 M H=>ak (am J (aa (aS (ab J (aa (aC (bq (X:=Unit) (fun _=>True) (fun _=> [(3,I6 op),(4,.bool (decide (op=1∨op=16)))]) (fun _=> []) (fun _=> []) ?_ (fun _ _=> ?_))))))))
 ·refine ak (ap J J bc (am J (aa (ah J (fun h1=> ?_) (fun h1=> ?_)))))
  ·(try simp only [aY]at h1);refine az (aI () O (by first|(rw [show decide (op=1∨op=16)=decide (op=1)from decide_eq_decide.2 (by omega)];rfl)|(rw [show decide (op=1∨op=16)=decide (op=16)from decide_eq_decide.2 (by omega)];rfl)) J J)
  ·(try simp only [aY]at h1);refine aj (ap J J bc (am J (aa (aI () O (by first|(rw [show decide (op=1∨op=16)=decide (op=1)from decide_eq_decide.2 (by omega)];rfl)|(rw [show decide (op=1∨op=16)=decide (op=16)from decide_eq_decide.2 (by omega)];rfl)) J J))))
 ·refine ah J (fun h2=> ?_) (fun h2=> ?_)
  ·(try simp only [aY]at h2);have e:iE op=3:=by unfold iE;rw [ao (by omega)]
   rw [e];refine ak (am J (aa (ar (aG () O J (bR (aD J)) J [] [] J J J))))
  ·(try simp only [aY]at h2);refine ak (ap J J bc (am J (aa (ah J (fun h3=> ?_) (fun h3=> ?_)))))
   ·(try simp only [aY]at h3);have e:iE op=4:=by unfold iE;rw [ac (by omega),ao (by omega)]
    rw [e];refine ak (am J (aa (ar (aG () O J (bR (aD J)) J [] [] J J J))))
   ·(try simp only [aY]at h3);refine bq (X:=Unit) (fun _=>True) (fun _=> [(3,I6 op),(9,.bool (decide (op=3∨op=17)))]) (fun _=> []) (fun _=> []) ?_ (fun _ _=> ?_)
    ·refine ak (ap J J bc (am J (aa (ah J (fun h4=> ?_) (fun h4=> ?_)))))
     ·(try simp only [aY]at h4);refine az (aI () O (by first|(rw [show decide (op=3∨op=17)=decide (op=3)from decide_eq_decide.2 (by omega)];rfl)|(rw [show decide (op=3∨op=17)=decide (op=17)from decide_eq_decide.2 (by omega)];rfl)) J J)
     ·(try simp only [aY]at h4);refine aj (ap J J bc (am J (aa (aI () O (by first|(rw [show decide (op=3∨op=17)=decide (op=3)from decide_eq_decide.2 (by omega)];rfl)|(rw [show decide (op=3∨op=17)=decide (op=17)from decide_eq_decide.2 (by omega)];rfl)) J J))))
    ·refine ah J (fun h5=> ?_) (fun h5=> ?_)
     ·(try simp only [aY]at h5);have e:iE op=5:=by unfold iE;rw [ac (by omega),ac (by omega),ao (by omega)]
      rw [e];refine ak (am J (aa (ar (aG () O J (bR (aD J)) J [] [] J J J))))
     ·(try simp only [aY]at h5);refine bq (X:=Unit) (fun _=>True) (fun _=> [(3,I6 op),(12,.bool (decide (op=4∨op=18)))]) (fun _=> []) (fun _=> []) ?_ (fun _ _=> ?_)
      ·refine ak (ap J J bc (am J (aa (ah J (fun h6=> ?_) (fun h6=> ?_)))))
       ·(try simp only [aY]at h6);refine az (aI () O (by first|(rw [show decide (op=4∨op=18)=decide (op=4)from decide_eq_decide.2 (by omega)];rfl)|(rw [show decide (op=4∨op=18)=decide (op=18)from decide_eq_decide.2 (by omega)];rfl)) J J)
       ·(try simp only [aY]at h6);refine aj (ap J J bc (am J (aa (aI () O (by first|(rw [show decide (op=4∨op=18)=decide (op=4)from decide_eq_decide.2 (by omega)];rfl)|(rw [show decide (op=4∨op=18)=decide (op=18)from decide_eq_decide.2 (by omega)];rfl)) J J))))
      ·refine ah J (fun h7=> ?_) (fun h7=> ?_)
       ·(try simp only [aY]at h7);have e:iE op=6:=by unfold iE;rw [ac (by omega),ac (by omega),ac (by omega),ao (by omega)]
        rw [e];refine ak (am J (aa (ar (aG () O J (bR (aD J)) J [] [] J J J))))
       ·(try simp only [aY]at h7);refine bq (X:=Unit) (fun _=>True) (fun _=> [(3,I6 op),(15,.bool (decide (op=5∨op=19)))]) (fun _=> []) (fun _=> []) ?_ (fun _ _=> ?_)
        ·refine ak (ap J J bc (am J (aa (ah J (fun h8=> ?_) (fun h8=> ?_)))))
         ·(try simp only [aY]at h8);refine az (aI () O (by first|(rw [show decide (op=5∨op=19)=decide (op=5)from decide_eq_decide.2 (by omega)];rfl)|(rw [show decide (op=5∨op=19)=decide (op=19)from decide_eq_decide.2 (by omega)];rfl)) J J)
         ·(try simp only [aY]at h8);refine aj (ap J J bc (am J (aa (aI () O (by first|(rw [show decide (op=5∨op=19)=decide (op=5)from decide_eq_decide.2 (by omega)];rfl)|(rw [show decide (op=5∨op=19)=decide (op=19)from decide_eq_decide.2 (by omega)];rfl)) J J))))
        ·refine ah J (fun h9=> ?_) (fun h9=> ?_)
         ·(try simp only [aY]at h9);have e:iE op=7:=by unfold iE;rw [ac (by omega),ac (by omega),ac (by omega),ac (by omega),ao (by omega)]
          rw [e];refine ak (am J (aa (ar (aG () O J (bR (aD J)) J [] [] J J J))))
         ·(try simp only [aY]at h9);refine bq (X:=Unit) (fun _=>True) (fun _=> [(3,I6 op),(18,.bool (decide (op=6∨op=20)))]) (fun _=> []) (fun _=> []) ?_ (fun _ _=> ?_)
          ·refine ak (ap J J bc (am J (aa (ah J (fun h10=> ?_) (fun h10=> ?_)))))
           ·(try simp only [aY]at h10);refine az (aI () O (by first|(rw [show decide (op=6∨op=20)=decide (op=6)from decide_eq_decide.2 (by omega)];rfl)|(rw [show decide (op=6∨op=20)=decide (op=20)from decide_eq_decide.2 (by omega)];rfl)) J J)
           ·(try simp only [aY]at h10);refine aj (ap J J bc (am J (aa (aI () O (by first|(rw [show decide (op=6∨op=20)=decide (op=6)from decide_eq_decide.2 (by omega)];rfl)|(rw [show decide (op=6∨op=20)=decide (op=20)from decide_eq_decide.2 (by omega)];rfl)) J J))))
          ·refine ah J (fun h11=> ?_) (fun h11=> ?_)
           ·(try simp only [aY]at h11);have e:iE op=8:=by unfold iE;rw [ac (by omega),ac (by omega),ac (by omega),ac (by omega),ac (by omega),ao (by omega)]
            rw [e];refine ak (am J (aa (ar (aG () O J (bR (aD J)) J [] [] J J J))))
           ·(try simp only [aY]at h11);refine bq (X:=Unit) (fun _=>True) (fun _=> [(3,I6 op),(21,.bool (decide (op=7∨op=21)))]) (fun _=> []) (fun _=> []) ?_ (fun _ _=> ?_)
            ·refine ak (ap J J bc (am J (aa (ah J (fun h12=> ?_) (fun h12=> ?_)))))
             ·(try simp only [aY]at h12);refine az (aI () O (by first|(rw [show decide (op=7∨op=21)=decide (op=7)from decide_eq_decide.2 (by omega)];rfl)|(rw [show decide (op=7∨op=21)=decide (op=21)from decide_eq_decide.2 (by omega)];rfl)) J J)
             ·(try simp only [aY]at h12);refine aj (ap J J bc (am J (aa (aI () O (by first|(rw [show decide (op=7∨op=21)=decide (op=7)from decide_eq_decide.2 (by omega)];rfl)|(rw [show decide (op=7∨op=21)=decide (op=21)from decide_eq_decide.2 (by omega)];rfl)) J J))))
            ·refine ah J (fun h13=> ?_) (fun h13=> ?_)
             ·(try simp only [aY]at h13);have e:iE op=9:=by unfold iE;rw [ac (by omega),ac (by omega),ac (by omega),ac (by omega),ac (by omega),ac (by omega),ao (by omega)]
              rw [e];refine ak (am J (aa (ar (aG () O J (bR (aD J)) J [] [] J J J))))
             ·(try simp only [aY]at h13);refine bq (X:=Unit) (fun _=>True) (fun _=> [(3,I6 op),(24,.bool (decide (op=8∨op=22)))]) (fun _=> []) (fun _=> []) ?_ (fun _ _=> ?_)
              ·refine ak (ap J J bc (am J (aa (ah J (fun h14=> ?_) (fun h14=> ?_)))))
               ·(try simp only [aY]at h14);refine az (aI () O (by first|(rw [show decide (op=8∨op=22)=decide (op=8)from decide_eq_decide.2 (by omega)];rfl)|(rw [show decide (op=8∨op=22)=decide (op=22)from decide_eq_decide.2 (by omega)];rfl)) J J)
               ·(try simp only [aY]at h14);refine aj (ap J J bc (am J (aa (aI () O (by first|(rw [show decide (op=8∨op=22)=decide (op=8)from decide_eq_decide.2 (by omega)];rfl)|(rw [show decide (op=8∨op=22)=decide (op=22)from decide_eq_decide.2 (by omega)];rfl)) J J))))
              ·refine ah J (fun h15=> ?_) (fun h15=> ?_)
               ·(try simp only [aY]at h15);have e:iE op=10:=by unfold iE;rw [ac (by omega),ac (by omega),ac (by omega),ac (by omega),ac (by omega),ac (by omega),ac (by omega),ao (by omega)]
                rw [e];refine ak (am J (aa (ar (aG () O J (bR (aD J)) J [] [] J J J))))
               ·(try simp only [aY]at h15);refine ak (ap J J bc (am J (aa (ah J (fun h16=> ?_) (fun h16=> ?_)))))
                ·(try simp only [aY]at h16);have e:iE op=11:=by unfold iE;rw [ac (by omega),ac (by omega),ac (by omega),ac (by omega),ac (by omega),ac (by omega),ac (by omega),ac (by omega),ao (by omega)]
                 rw [e];refine ak (am J (aa (ar (aG () O J (bR (aD J)) J [] [] J J J))))
                ·(try simp only [aY]at h16);refine ak (ap J J bc (am J (aa (ah J (fun h17=> ?_) (fun h17=> ?_)))))
                 ·(try simp only [aY]at h17);have e:iE op=12:=by unfold iE;rw [ac (by omega),ac (by omega),ac (by omega),ac (by omega),ac (by omega),ac (by omega),ac (by omega),ac (by omega),ac (by omega),ao (by omega)]
                  rw [e];refine ak (am J (aa (ar (aG () O J (bR (aD J)) J [] [] J J J))))
                 ·(try simp only [aY]at h17);refine ak (ap J J bc (am J (aa (ah J (fun h18=> ?_) (fun h18=> ?_)))))
                  ·(try simp only [aY]at h18);have e:iE op=14:=by unfold iE;rw [ac (by omega),ac (by omega),ac (by omega),ac (by omega),ac (by omega),ac (by omega),ac (by omega),ac (by omega),ac (by omega),ac (by omega),ao (by omega)]
                   rw [e];refine ak (am J (aa (ar (aG () O J (bR (aD J)) J [] [] J J J))))
                  ·(try simp only [aY]at h18);refine ak (ap J J bc (am J (aa (ah J (fun h19=> ?_) (fun h19=> ?_)))))
                   ·(try simp only [aY]at h19);have e:iE op=15:=by unfold iE;rw [ac (by omega),ac (by omega),ac (by omega),ac (by omega),ac (by omega),ac (by omega),ac (by omega),ac (by omega),ac (by omega),ac (by omega),ac (by omega),ao (by omega)]
                    rw [e];refine ak (am J (aa (ar (aG () O J (bR (aD J)) J [] [] J J J))))
                   ·(try simp only [aY]at h19);have e:iE op=0:=by unfold iE;rw [ac (by omega),ac (by omega),ac (by omega),ac (by omega),ac (by omega),ac (by omega),ac (by omega),ac (by omega),ac (by omega),ac (by omega),ac (by omega),ac (by omega)]
                    rw [e];refine az (ak (am J (aa (ar (aG () O J (bR (aD J)) J [] [] J J J)))))
theorem qA(a b:Int):
  aO prog 153 [I6 32,I3 a,I3 b] [] [] (.bool (decide (a=b))) []:=by
 refine au func153 J ntmps153 J fun w0 M H=>ak (am J (aa (aS (ab J (aa (aC (ak (ap J J bc (am J (aa (ah J (fun h1=> ?_) (fun h1=> ?_))))))))))))
 ·(try simp only [aY]at h1);refine ak (ab J (ab J (ap J J bc (am J (aa (ar (aG () O J (bR (aD J)) J [] [] J J J)))))))
 ·exact absurd h1 (by decide)
theorem qz(a b:Int):
  aO prog 153 [I6 35,I3 a,I3 b] [] [] (.bool (decide (a≥b))) []:=by
 refine au func153 J ntmps153 J fun w0 M H=>ak (am J (aa (aS (ab J (aa (aC (ak (ap J J bc (am J (aa (ah J (fun h1=> ?_) (fun h1=> ?_))))))))))))
 ·exact absurd h1 (by decide)
 ·(try simp only [aY]at h1);refine ak (ap J J bc (am J (aa (ah J (fun h2=> ?_) (fun h2=> ?_)))))
  ·exact absurd h2 (by decide)
  ·(try simp only [aY]at h2);refine ak (ap J J bc (am J (aa (ah J (fun h3=> ?_) (fun h3=> ?_)))))
   ·exact absurd h3 (by decide)
   ·(try simp only [aY]at h3);refine ak (ap J J bc (am J (aa (ah J (fun h4=> ?_) (fun h4=> ?_)))))
    ·(try simp only [aY]at h4);refine ak (ab J (ab J (ap J J eY (am J (aa (ar (aG () O J (bR (aD J)) J [] [] J J J)))))))
    ·exact absurd h4 (by decide)
structure Fx(s:Mm)(i:Qi)(pc:Int):Prop where
 imm:0≤i.imm∧i.imm<4294967296
 hv:VQ i
 p:0≤pc∧pc+4≤s.d.length
 al:pc%4=0
 rt:∀k:Int,0≤k→k<4→vz s (pc+k) 4=true
 im:∀k:Nat,k<4→s.i[pc.toNat+k]?=(eC (k_ i))[k]?
theorem VQ.bd{i:Qi}(hv:VQ i):0≤k_ i∧k_ i<4294967296:=xg (i:=i) (by unfold nD;simp only [Bool.and_eq_true];exact⟨⟨⟨⟨hv.k,hv.fd⟩,hv.fa⟩,hv.fb⟩,hv.im⟩)
def IP(w:Int):Nat→Int
 | 0=>0
 | k+1=>IP w k+kL w k%256*256^k
theorem Ew{w:Int}(hw:0≤w∧w<4294967296):IP w 4=w:=by
 show 0+w%256*256^0+w/256%256*256^1+w/256/256%256*256^2+w/256/256/256%256*256^3=w;omega
theorem BO{w:Int}(hw:0≤w∧w<4294967296){k:Nat}(hk:k<4):0≤IP w k∧IP w k+kL w k%256*256^k<4294967296∧0≤kL w k%256*256^k∧kL w k%256*256^k<4294967296:=by
 have:k=0∨k=1∨k=2∨k=3:=by omega
 rcases this with rfl|rfl|rfl|rfl
 ·show 0≤(0:Int)∧0+w%256*256^0<4294967296∧0≤w%256*256^0∧w%256*256^0<4294967296;omega
 ·show 0≤0+w%256*256^0∧0+w%256*256^0+w/256%256*256^1<4294967296∧0≤w/256%256*256^1∧w/256%256*256^1<4294967296;omega
 ·show 0≤0+w%256*256^0+w/256%256*256^1∧0+w%256*256^0+w/256%256*256^1+w/256/256%256*256^2<4294967296∧0≤w/256/256%256*256^2∧w/256/256%256*256^2<4294967296;omega
 ·show 0≤0+w%256*256^0+w/256%256*256^1+w/256/256%256*256^2∧0+w%256*256^0+w/256%256*256^1+w/256/256%256*256^2+w/256/256/256%256*256^3<4294967296∧0≤w/256/256/256%256*256^3∧w/256/256/256%256*256^3<4294967296;omega
theorem L4{w:Int}(hw:0≤w∧w<4294967296){k:Nat}(hk:k<4):IntKind.u32.wrap (kL w k%256*2^(8*(k:Int)).toNat)=kL w k%256*256^k:=by
 obtain⟨-,-,h1,h2⟩:=BO hw hk;have e:(2:Int)^(8*(k:Int)).toNat=256^k:=by
  have:k=0∨k=1∨k=2∨k=3:=by omega
  rcases this with rfl|rfl|rfl|rfl<;>rfl
 rw [e];exact jq h1 h2
def NK(i:Qi):List Value:=gI i++ [I6 0,I3 0]
theorem tX(e:Me)(s:Mm)(n:Nat)(hs:MO s n)(i:Qi)(pc:Int)(hf:Fx s i pc):
  aO prog 147 [I3 pc,Pt e.m] [aP e.m 157 (mR e),own 5 1 bL (sv e.vd) (s).d,own 5 1 bL (sv e.vi) (s).i,own 3 1 eI (sv e.vr) (s).r] [] (.agg (NK i).toArray) [aP e.m 157 (mR e),own 5 1 bL (sv e.vd) (s).d,own 5 1 bL (sv e.vi) (s).i,own 3 1 eI (sv e.vr) (s).r]:=by
 refine au func147 J ntmps147 J fun w0 M H=> ?_
 have hdl:=hs.d;have hnn:=hs.n;have hp:=hf.p;have hal:=hf.al;have hwb:=hf.hv.bd;refine ak (aV zn J J fun b4=>aa (aS (ab J (ap J J (iA (by omega) (by first|exact jM (by omega)|rfl)) (ap J J ga (aa (ah J (fun h1=> ?_) (fun h1=> ?_))))))))
 ·(exfalso;have h0:=h1;revert h0;simp;omega)
 ·(try simp only [aY]at h1);refine az (ak (am J (aa (aS (am J (aa (aC (bG (X:=Nat) (fun k=>k≤4) (fun k=> [(0,I3 pc),(1,Pt e.m),(4,Pt b4),(5,I3 (IP (k_ i) k)),(6,I6 (k:Int))]) (fun k=> [(0,aP e.m 157 (mR e)),(1,own 5 1 bL (sv e.vd) s.d),(2,own 5 1 bL (sv e.vi) s.i),(3,own 3 1 eI (sv e.vr) s.r),(4,aP b4 236 [I6 0,I6 0,I6 0,I6 0,I3 0,I6 0,I3 0])]) (fun k=> []) (fun k=>4-k) 0 (bB _) J J J (fun k n1=>aS (ab J (ap J J cL (aa (ah J (fun h2=> ?_) (fun h2=> ?_))))))))))))))
  ·(try simp only [aY]at h2);have hi:k<4:=by omega
   have hbk:=BO hwb hi;refine az (aW (aC (ak (ab J (ab J (ab J (aH (bX underlying3 underlying41 J (c:=(k:Int)) (bx (by omega))) (ap J J (bZ (c:=pc+k) (bx (by omega))) ?_))))))));refine fj (xs:= [.tmp 19,.tmp 23]) (Ae e s n hs (pc+k) (by omega) (hf.rt k (by omega) (by omega)) (kL (k_ i) k%256) (by rw [show(pc+(k:Int)).toNat=pc.toNat+k by omega,hf.im k hi,xY hwb hi]) (by omega)) KU [0,1,2,3] [] [0,1,2,3] J J J J J J J J (fun _ _=>J) (fun _ _ _=>J) J (fun _ _=> ?_);refine aV gx J J fun b7=>aq (k:=7) gx J J J J J J (aa (aS (ax mn J (aL 7 t4 J J J J (aH (cZ J) (aa (ah J (fun h3=> ?_) (fun h3=> ?_))))))))
   ·cases h3
   ·(try simp only [aY]at h3);refine az (aj (ab J (ax ob J (aL 7 dt J J J J (ab J (ap J J i9 (aH (bX underlying3 underlying138 J (c:=8*(k:Int)) (by first|exact xF (by omega) (by omega)|rfl)) (ap J J (gT (by omega) (by show _≤(32:Int);omega) (L4 hwb hi)) (ap J J (bZ (c:=IP (k_ i) (k+1)) (bx (by omega))) (am J (aa (aj (ab J (ap J J a_ (am J (aa ?_))))))))))))))));refine aI (k+1) ⟨by omega,by omega⟩ J J J
  ·(try simp only [aY]at h2);have hi:k=4:=by omega
   subst hi;rw [Ew hwb];refine bK (ak (ab J (ae (xs:= [.tmp 43]) (sr i hf.imm hf.hv) KT [] [] [] (fun _ _=>ab J (aH (cv J J) (aH (cv J J) (aV el J J fun b8=>aq (k:=8) el J J J J J J (am J (aa (aS (ab J (ap J J ga (aa (ah J (fun h4=> ?_) (fun h4=> ?_)))))))))))))))
   ·cases h4
   ·(try simp only [aY]at h4);refine az (ak (aH (aM el J J J (bi (k:=8) J)) (aH (aT (cs:=(NK i).toArray) (parts:= [(0,.tmp 51)]) zn Jw J (by kernel_rfl)) (aq (k:=4) zn J J J J J J (aa (ar (aG () O J (bR (bh zn J J J (bi (k:=4) J))) J [0,1,2,3] [] J J J)))))))
section
end
end Go.Proofs.YtedmdgbmdplifaaGreat
