/-
  A part of the proof. Conditions are with the theorems.
-/
import Derived.Test.YtedmdgbmdplifaaGreatXLa
import Derived.Test.YtedmdgbmdplifaaGreatXLb
import Derived.Test.YtedmdgbmdplifaaGreatXLc
import Derived.Test.YtedmdgbmdplifaaGreatXLd
set_option maxHeartbeats 32000000
set_option maxRecDepth 100000
set_option linter.unusedSimpArgs false
set_option linter.unusedVariables false
namespace Go.Proofs.YtedmdgbmdplifaaGreat
open Go.RowKit Tryz
theorem wz(op:Int):
  aN prog 148 [I6 op] [] [] (I6 (iL op)) []:=by
 refine ay func148 J ntmps148 J fun w0 M H=>am (ao J (aa (aR (ab J (aa (aC (bv (X:=Unit) (fun _=>True) (fun _=> [(3,I6 op),(4,.bool (decide (op=1∨op=16)))]) (fun _=> []) (fun _=> []) ?_ (fun _ _=> ?_))))))))
 ·refine am (ap J J bj (ao J (aa (ai J (fun h1=> ?_) (fun h1=> ?_)))))
  ·(try simp only [aX]at h1);refine az (aI () O (by first|(rw [show decide (op=1∨op=16)=decide (op=1)from decide_eq_decide.2 (by omega)];rfl)|(rw [show decide (op=1∨op=16)=decide (op=16)from decide_eq_decide.2 (by omega)];rfl)) J J)
  ·(try simp only [aX]at h1);refine aj (ap J J bj (ao J (aa (aI () O (by first|(rw [show decide (op=1∨op=16)=decide (op=1)from decide_eq_decide.2 (by omega)];rfl)|(rw [show decide (op=1∨op=16)=decide (op=16)from decide_eq_decide.2 (by omega)];rfl)) J J))))
 ·refine ai J (fun h2=> ?_) (fun h2=> ?_)
  ·(try simp only [aX]at h2);have e:iL op=3:=by unfold iL;rw [ak (by omega)]
   rw [e];refine am (ao J (aa (ar (aG () O J (bU (aD J)) J [] [] J J J))))
  ·(try simp only [aX]at h2);refine am (ap J J bj (ao J (aa (ai J (fun h3=> ?_) (fun h3=> ?_)))))
   ·(try simp only [aX]at h3);have e:iL op=4:=by unfold iL;rw [ac (by omega),ak (by omega)]
    rw [e];refine am (ao J (aa (ar (aG () O J (bU (aD J)) J [] [] J J J))))
   ·(try simp only [aX]at h3);refine bv (X:=Unit) (fun _=>True) (fun _=> [(3,I6 op),(9,.bool (decide (op=3∨op=17)))]) (fun _=> []) (fun _=> []) ?_ (fun _ _=> ?_)
    ·refine am (ap J J bj (ao J (aa (ai J (fun h4=> ?_) (fun h4=> ?_)))))
     ·(try simp only [aX]at h4);refine az (aI () O (by first|(rw [show decide (op=3∨op=17)=decide (op=3)from decide_eq_decide.2 (by omega)];rfl)|(rw [show decide (op=3∨op=17)=decide (op=17)from decide_eq_decide.2 (by omega)];rfl)) J J)
     ·(try simp only [aX]at h4);refine aj (ap J J bj (ao J (aa (aI () O (by first|(rw [show decide (op=3∨op=17)=decide (op=3)from decide_eq_decide.2 (by omega)];rfl)|(rw [show decide (op=3∨op=17)=decide (op=17)from decide_eq_decide.2 (by omega)];rfl)) J J))))
    ·refine ai J (fun h5=> ?_) (fun h5=> ?_)
     ·(try simp only [aX]at h5);have e:iL op=5:=by unfold iL;rw [ac (by omega),ac (by omega),ak (by omega)]
      rw [e];refine am (ao J (aa (ar (aG () O J (bU (aD J)) J [] [] J J J))))
     ·(try simp only [aX]at h5);refine bv (X:=Unit) (fun _=>True) (fun _=> [(3,I6 op),(12,.bool (decide (op=4∨op=18)))]) (fun _=> []) (fun _=> []) ?_ (fun _ _=> ?_)
      ·refine am (ap J J bj (ao J (aa (ai J (fun h6=> ?_) (fun h6=> ?_)))))
       ·(try simp only [aX]at h6);refine az (aI () O (by first|(rw [show decide (op=4∨op=18)=decide (op=4)from decide_eq_decide.2 (by omega)];rfl)|(rw [show decide (op=4∨op=18)=decide (op=18)from decide_eq_decide.2 (by omega)];rfl)) J J)
       ·(try simp only [aX]at h6);refine aj (ap J J bj (ao J (aa (aI () O (by first|(rw [show decide (op=4∨op=18)=decide (op=4)from decide_eq_decide.2 (by omega)];rfl)|(rw [show decide (op=4∨op=18)=decide (op=18)from decide_eq_decide.2 (by omega)];rfl)) J J))))
      ·refine ai J (fun h7=> ?_) (fun h7=> ?_)
       ·(try simp only [aX]at h7);have e:iL op=6:=by unfold iL;rw [ac (by omega),ac (by omega),ac (by omega),ak (by omega)]
        rw [e];refine am (ao J (aa (ar (aG () O J (bU (aD J)) J [] [] J J J))))
       ·(try simp only [aX]at h7);refine bv (X:=Unit) (fun _=>True) (fun _=> [(3,I6 op),(15,.bool (decide (op=5∨op=19)))]) (fun _=> []) (fun _=> []) ?_ (fun _ _=> ?_)
        ·refine am (ap J J bj (ao J (aa (ai J (fun h8=> ?_) (fun h8=> ?_)))))
         ·(try simp only [aX]at h8);refine az (aI () O (by first|(rw [show decide (op=5∨op=19)=decide (op=5)from decide_eq_decide.2 (by omega)];rfl)|(rw [show decide (op=5∨op=19)=decide (op=19)from decide_eq_decide.2 (by omega)];rfl)) J J)
         ·(try simp only [aX]at h8);refine aj (ap J J bj (ao J (aa (aI () O (by first|(rw [show decide (op=5∨op=19)=decide (op=5)from decide_eq_decide.2 (by omega)];rfl)|(rw [show decide (op=5∨op=19)=decide (op=19)from decide_eq_decide.2 (by omega)];rfl)) J J))))
        ·refine ai J (fun h9=> ?_) (fun h9=> ?_)
         ·(try simp only [aX]at h9);have e:iL op=7:=by unfold iL;rw [ac (by omega),ac (by omega),ac (by omega),ac (by omega),ak (by omega)]
          rw [e];refine am (ao J (aa (ar (aG () O J (bU (aD J)) J [] [] J J J))))
         ·(try simp only [aX]at h9);refine bv (X:=Unit) (fun _=>True) (fun _=> [(3,I6 op),(18,.bool (decide (op=6∨op=20)))]) (fun _=> []) (fun _=> []) ?_ (fun _ _=> ?_)
          ·refine am (ap J J bj (ao J (aa (ai J (fun h10=> ?_) (fun h10=> ?_)))))
           ·(try simp only [aX]at h10);refine az (aI () O (by first|(rw [show decide (op=6∨op=20)=decide (op=6)from decide_eq_decide.2 (by omega)];rfl)|(rw [show decide (op=6∨op=20)=decide (op=20)from decide_eq_decide.2 (by omega)];rfl)) J J)
           ·(try simp only [aX]at h10);refine aj (ap J J bj (ao J (aa (aI () O (by first|(rw [show decide (op=6∨op=20)=decide (op=6)from decide_eq_decide.2 (by omega)];rfl)|(rw [show decide (op=6∨op=20)=decide (op=20)from decide_eq_decide.2 (by omega)];rfl)) J J))))
          ·refine ai J (fun h11=> ?_) (fun h11=> ?_)
           ·(try simp only [aX]at h11);have e:iL op=8:=by unfold iL;rw [ac (by omega),ac (by omega),ac (by omega),ac (by omega),ac (by omega),ak (by omega)]
            rw [e];refine am (ao J (aa (ar (aG () O J (bU (aD J)) J [] [] J J J))))
           ·(try simp only [aX]at h11);refine bv (X:=Unit) (fun _=>True) (fun _=> [(3,I6 op),(21,.bool (decide (op=7∨op=21)))]) (fun _=> []) (fun _=> []) ?_ (fun _ _=> ?_)
            ·refine am (ap J J bj (ao J (aa (ai J (fun h12=> ?_) (fun h12=> ?_)))))
             ·(try simp only [aX]at h12);refine az (aI () O (by first|(rw [show decide (op=7∨op=21)=decide (op=7)from decide_eq_decide.2 (by omega)];rfl)|(rw [show decide (op=7∨op=21)=decide (op=21)from decide_eq_decide.2 (by omega)];rfl)) J J)
             ·(try simp only [aX]at h12);refine aj (ap J J bj (ao J (aa (aI () O (by first|(rw [show decide (op=7∨op=21)=decide (op=7)from decide_eq_decide.2 (by omega)];rfl)|(rw [show decide (op=7∨op=21)=decide (op=21)from decide_eq_decide.2 (by omega)];rfl)) J J))))
            ·refine ai J (fun h13=> ?_) (fun h13=> ?_)
             ·(try simp only [aX]at h13);have e:iL op=9:=by unfold iL;rw [ac (by omega),ac (by omega),ac (by omega),ac (by omega),ac (by omega),ac (by omega),ak (by omega)]
              rw [e];refine am (ao J (aa (ar (aG () O J (bU (aD J)) J [] [] J J J))))
             ·(try simp only [aX]at h13);refine bv (X:=Unit) (fun _=>True) (fun _=> [(3,I6 op),(24,.bool (decide (op=8∨op=22)))]) (fun _=> []) (fun _=> []) ?_ (fun _ _=> ?_)
              ·refine am (ap J J bj (ao J (aa (ai J (fun h14=> ?_) (fun h14=> ?_)))))
               ·(try simp only [aX]at h14);refine az (aI () O (by first|(rw [show decide (op=8∨op=22)=decide (op=8)from decide_eq_decide.2 (by omega)];rfl)|(rw [show decide (op=8∨op=22)=decide (op=22)from decide_eq_decide.2 (by omega)];rfl)) J J)
               ·(try simp only [aX]at h14);refine aj (ap J J bj (ao J (aa (aI () O (by first|(rw [show decide (op=8∨op=22)=decide (op=8)from decide_eq_decide.2 (by omega)];rfl)|(rw [show decide (op=8∨op=22)=decide (op=22)from decide_eq_decide.2 (by omega)];rfl)) J J))))
              ·refine ai J (fun h15=> ?_) (fun h15=> ?_)
               ·(try simp only [aX]at h15);have e:iL op=10:=by unfold iL;rw [ac (by omega),ac (by omega),ac (by omega),ac (by omega),ac (by omega),ac (by omega),ac (by omega),ak (by omega)]
                rw [e];refine am (ao J (aa (ar (aG () O J (bU (aD J)) J [] [] J J J))))
               ·(try simp only [aX]at h15);refine am (ap J J bj (ao J (aa (ai J (fun h16=> ?_) (fun h16=> ?_)))))
                ·(try simp only [aX]at h16);have e:iL op=11:=by unfold iL;rw [ac (by omega),ac (by omega),ac (by omega),ac (by omega),ac (by omega),ac (by omega),ac (by omega),ac (by omega),ak (by omega)]
                 rw [e];refine am (ao J (aa (ar (aG () O J (bU (aD J)) J [] [] J J J))))
                ·(try simp only [aX]at h16);refine am (ap J J bj (ao J (aa (ai J (fun h17=> ?_) (fun h17=> ?_)))))
                 ·(try simp only [aX]at h17);have e:iL op=12:=by unfold iL;rw [ac (by omega),ac (by omega),ac (by omega),ac (by omega),ac (by omega),ac (by omega),ac (by omega),ac (by omega),ac (by omega),ak (by omega)]
                  rw [e];refine am (ao J (aa (ar (aG () O J (bU (aD J)) J [] [] J J J))))
                 ·(try simp only [aX]at h17);refine am (ap J J bj (ao J (aa (ai J (fun h18=> ?_) (fun h18=> ?_)))))
                  ·(try simp only [aX]at h18);have e:iL op=14:=by unfold iL;rw [ac (by omega),ac (by omega),ac (by omega),ac (by omega),ac (by omega),ac (by omega),ac (by omega),ac (by omega),ac (by omega),ac (by omega),ak (by omega)]
                   rw [e];refine am (ao J (aa (ar (aG () O J (bU (aD J)) J [] [] J J J))))
                  ·(try simp only [aX]at h18);refine am (ap J J bj (ao J (aa (ai J (fun h19=> ?_) (fun h19=> ?_)))))
                   ·(try simp only [aX]at h19);have e:iL op=15:=by unfold iL;rw [ac (by omega),ac (by omega),ac (by omega),ac (by omega),ac (by omega),ac (by omega),ac (by omega),ac (by omega),ac (by omega),ac (by omega),ac (by omega),ak (by omega)]
                    rw [e];refine am (ao J (aa (ar (aG () O J (bU (aD J)) J [] [] J J J))))
                   ·(try simp only [aX]at h19);have e:iL op=0:=by unfold iL;rw [ac (by omega),ac (by omega),ac (by omega),ac (by omega),ac (by omega),ac (by omega),ac (by omega),ac (by omega),ac (by omega),ac (by omega),ac (by omega),ac (by omega)]
                    rw [e];refine az (am (ao J (aa (ar (aG () O J (bU (aD J)) J [] [] J J J)))))
theorem qN(a b:Int):
  aN prog 153 [I6 32,I3 a,I3 b] [] [] (.bool (decide (a=b))) []:=by
 refine ay func153 J ntmps153 J fun w0 M H=>am (ao J (aa (aR (ab J (aa (aC (am (ap J J bj (ao J (aa (ai J (fun h1=> ?_) (fun h1=> ?_))))))))))))
 ·(try simp only [aX]at h1);refine am (ab J (ab J (ap J J bj (ao J (aa (ar (aG () O J (bU (aD J)) J [] [] J J J)))))))
 ·exact absurd h1 (by decide)
theorem qM(a b:Int):
  aN prog 153 [I6 35,I3 a,I3 b] [] [] (.bool (decide (a≥b))) []:=by
 refine ay func153 J ntmps153 J fun w0 M H=>am (ao J (aa (aR (ab J (aa (aC (am (ap J J bj (ao J (aa (ai J (fun h1=> ?_) (fun h1=> ?_))))))))))))
 ·exact absurd h1 (by decide)
 ·(try simp only [aX]at h1);refine am (ap J J bj (ao J (aa (ai J (fun h2=> ?_) (fun h2=> ?_)))))
  ·exact absurd h2 (by decide)
  ·(try simp only [aX]at h2);refine am (ap J J bj (ao J (aa (ai J (fun h3=> ?_) (fun h3=> ?_)))))
   ·exact absurd h3 (by decide)
   ·(try simp only [aX]at h3);refine am (ap J J bj (ao J (aa (ai J (fun h4=> ?_) (fun h4=> ?_)))))
    ·(try simp only [aX]at h4);refine am (ab J (ab J (ap J J fp (ao J (aa (ar (aG () O J (bU (aD J)) J [] [] J J J)))))))
    ·exact absurd h4 (by decide)
structure Fx(s:Mm)(i:Qi)(pc:Int):Prop where
 imm:0≤i.imm∧i.imm<4294967296
 hv:VQ i
 p:0≤pc∧pc+4≤s.d.length
 al:pc%4=0
 rt:∀k:Int,0≤k→k<4→vT s (pc+k) 4=true
 im:∀k:Nat,k<4→s.i[pc.toNat+k]?=(eJ (lf i))[k]?
theorem VQ.bd{i:Qi}(hv:VQ i):0≤lf i∧lf i<4294967296:=xy (i:=i) (by unfold nN;simp only [Bool.and_eq_true];exact⟨⟨⟨⟨hv.k,hv.fd⟩,hv.fa⟩,hv.fb⟩,hv.im⟩)
def Jg(w:Int):Nat→Int
 | 0=>0
 | k+1=>Jg w k+kN w k%256*256^k
theorem ES{w:Int}(hw:0≤w∧w<4294967296):Jg w 4=w:=by
 show 0+w%256*256^0+w/256%256*256^1+w/256/256%256*256^2+w/256/256/256%256*256^3=w;omega
theorem B6{w:Int}(hw:0≤w∧w<4294967296){k:Nat}(hk:k<4):0≤Jg w k∧Jg w k+kN w k%256*256^k<4294967296∧0≤kN w k%256*256^k∧kN w k%256*256^k<4294967296:=by
 have:k=0∨k=1∨k=2∨k=3:=by omega
 rcases this with rfl|rfl|rfl|rfl
 ·show 0≤(0:Int)∧0+w%256*256^0<4294967296∧0≤w%256*256^0∧w%256*256^0<4294967296;omega
 ·show 0≤0+w%256*256^0∧0+w%256*256^0+w/256%256*256^1<4294967296∧0≤w/256%256*256^1∧w/256%256*256^1<4294967296;omega
 ·show 0≤0+w%256*256^0+w/256%256*256^1∧0+w%256*256^0+w/256%256*256^1+w/256/256%256*256^2<4294967296∧0≤w/256/256%256*256^2∧w/256/256%256*256^2<4294967296;omega
 ·show 0≤0+w%256*256^0+w/256%256*256^1+w/256/256%256*256^2∧0+w%256*256^0+w/256%256*256^1+w/256/256%256*256^2+w/256/256/256%256*256^3<4294967296∧0≤w/256/256/256%256*256^3∧w/256/256/256%256*256^3<4294967296;omega
theorem MA{w:Int}(hw:0≤w∧w<4294967296){k:Nat}(hk:k<4):IntKind.u32.wrap (kN w k%256*2^(8*(k:Int)).toNat)=kN w k%256*256^k:=by
 obtain⟨-,-,h1,h2⟩:=B6 hw hk;have e:(2:Int)^(8*(k:Int)).toNat=256^k:=by
  have:k=0∨k=1∨k=2∨k=3:=by omega
  rcases this with rfl|rfl|rfl|rfl<;>rfl
 rw [e];exact jA h1 h2
def Oh(i:Qi):List Value:=gM i++ [I6 0,I3 0]
theorem uk(e:Me)(s:Mm)(n:Nat)(hs:MO s n)(i:Qi)(pc:Int)(hf:Fx s i pc):
  aN prog 147 [I3 pc,Pt e.m] [aO e.m 157 (mR e),own 5 1 bJ (sv e.vd) (s).d,own 5 1 bJ (sv e.vi) (s).i,own 3 1 eI (sv e.vr) (s).r] [] (.agg (Oh i).toArray) [aO e.m 157 (mR e),own 5 1 bJ (sv e.vd) (s).d,own 5 1 bJ (sv e.vi) (s).i,own 3 1 eI (sv e.vr) (s).r]:=by
 refine ay func147 J ntmps147 J fun w0 M H=> ?_
 have hdl:=hs.d;have hnn:=hs.n;have hp:=hf.p;have hal:=hf.al;have hwb:=hf.hv.bd;refine am (aU zC J J fun b4=>aa (aR (ab J (ap J J (gW (by omega) (by first|exact iX (by omega)|rfl)) (ap J J fW (aa (ai J (fun h1=> ?_) (fun h1=> ?_))))))))
 ·(exfalso;have h0:=h1;revert h0;simp;omega)
 ·(try simp only [aX]at h1);refine az (am (ao J (aa (aR (ao J (aa (aC (bC (X:=Nat) (fun k=>k≤4) (fun k=> [(0,I3 pc),(1,Pt e.m),(4,Pt b4),(5,I3 (Jg (lf i) k)),(6,I6 (k:Int))]) (fun k=> [(0,aO e.m 157 (mR e)),(1,own 5 1 bJ (sv e.vd) s.d),(2,own 5 1 bJ (sv e.vi) s.i),(3,own 3 1 eI (sv e.vr) s.r),(4,aO b4 236 [I6 0,I6 0,I6 0,I6 0,I3 0,I6 0,I3 0])]) (fun k=> []) (fun k=>4-k) 0 (bE _) J J J (fun k n1=>aR (ab J (ap J J cG (aa (ai J (fun h2=> ?_) (fun h2=> ?_))))))))))))))
  ·(try simp only [aX]at h2);have hi:k<4:=by omega
   have hbk:=B6 hwb hi;refine az (aT (aC (am (ab J (ab J (ab J (aJ (bK underlying3 underlying41 J (c:=(k:Int)) (bw (by omega))) (ap J J (bX (c:=pc+k) (bw (by omega))) ?_))))))));refine fy (xs:= [.tmp 19,.tmp 23]) (Aw e s n hs (pc+k) (by omega) (hf.rt k (by omega) (by omega)) (kN (lf i) k%256) (by rw [show(pc+(k:Int)).toNat=pc.toNat+k by omega,hf.im k hi,yp hwb hi]) (by omega)) Lu [0,1,2,3] [] [0,1,2,3] J J J J J J J J (fun _ _=>J) (fun _ _ _=>J) J (fun _ _=> ?_);refine aU gy J J fun b7=>aq (k:=7) gy J J J J J J (aa (aR (aA mt J (aL 7 t4 J J J J (aJ (cZ J) (aa (ai J (fun h3=> ?_) (fun h3=> ?_))))))))
   ·cases h3
   ·(try simp only [aX]at h3);refine az (aj (ab J (aA ou J (aL 7 dy J J J J (ab J (ap J J iH (aJ (bK underlying3 underlying138 J (c:=8*(k:Int)) (by first|exact xY (by omega) (by omega)|rfl)) (ap J J (gV (by omega) (by show _≤(32:Int);omega) (MA hwb hi)) (ap J J (bX (c:=Jg (lf i) (k+1)) (bw (by omega))) (ao J (aa (aj (ab J (ap J J aY (ao J (aa ?_))))))))))))))));refine aI (k+1) ⟨by omega,by omega⟩ J J J
  ·(try simp only [aX]at h2);have hi:k=4:=by omega
   subst hi;rw [ES hwb];refine bF (am (ab J (ae (xs:= [.tmp 43]) (sG i hf.imm hf.hv) Lt [] [] [] (fun _ _=>ab J (aJ (cv J J) (aJ (cv J J) (aU ey J J fun b8=>aq (k:=8) ey J J J J J J (ao J (aa (aR (ab J (ap J J fW (aa (ai J (fun h4=> ?_) (fun h4=> ?_)))))))))))))))
   ·cases h4
   ·(try simp only [aX]at h4);refine az (am (aJ (aM ey J J J (bh (k:=8) J)) (aJ (aW (cs:=(Oh i).toArray) (parts:= [(0,.tmp 51)]) zC JV J (by kernel_rfl)) (aq (k:=4) zC J J J J J J (aa (ar (aG () O J (bU (be zC J J J (bh (k:=4) J))) J [0,1,2,3] [] J J J)))))))
section
end
def eQ(p:SV×List Ba):List Value:= [sv p.1]
def HN(v:SV)(l:List (SV×List Ba)):Asn:=⟨fun w F=>SlIn' w F 1 eQ (sv v) l∧∀p∈l,SlIn' w F 1 eS (sv p.1) p.2,fun h hs=>⟨h.1.stable hs,fun p hp=>(h.2 p hp).stable hs⟩⟩
theorem Kn{v:SV}{l:List (SV×List Ba)}:∀w G,(HN v l).pred w G→(∀b,G b→b<w.heap.size)→∃G',(sl 1 eQ (sv v) l).pred w G'∧∀b,G' b→G b:=fun w G h _=>h.1
theorem Ko{v:SV}{l:List (SV×List Ba)}{p:SV×List Ba}(hp:p∈l):∀w G,(HN v l).pred w G→(∀b,G b→b<w.heap.size)→∃G',(sl 1 eS (sv p.1) p.2).pred w G'∧∀b,G' b→G b:=fun w G h _=>h.2 p hp
abbrev Jh(a b c d e f g h:SV):List (SV×List Ba):= [(a,[iW]),(b,[eD]),(c,[eB]),(d,[lQ,lN]),(e,[kP,lO,lP,mZ]),(f,[fM,fY]),(g,[fh,ep]),(h,[fN,jI,kO])]
theorem HM{v a b c d e f g h:SV}(w:World)(F:Nat→Prop)(hh:AllIn w F [own 9 1 eS (sv a) [iW],own 9 1 eS (sv b) [eD],own 9 1 eS (sv c) [eB],own 9 1 eS (sv d) [lQ,lN],own 9 1 eS (sv e) [kP,lO,lP,mZ],own 9 1 eS (sv f) [fM,fY],own 9 1 eS (sv g) [fh,ep],own 9 1 eS (sv h) [fN,jI,kO],own 46 1 eQ (sv v) (Jh a b c d e f g h)]):(HN v (Jh a b c d e f g h)).pred w F:=by
 obtain⟨⟨_,a1,b1⟩,⟨_,a2,b2⟩,⟨_,a3,b3⟩,⟨_,a4,b4⟩,⟨_,a5,b5⟩,⟨_,a6,b6⟩,⟨_,a7,b7⟩,⟨_,a8,b8⟩,⟨_,a9,b9⟩,_⟩:=hh;refine⟨eL a9 b9,fun p hp=> ?_⟩;simp only [Jh,List.mem_cons,List.not_mem_nil,or_false]at hp;rcases hp with rfl|rfl|rfl|rfl|rfl|rfl|rfl|rfl
 ·exact eL a1 b1
 ·exact eL a2 b2
 ·exact eL a3 b3
 ·exact eL a4 b4
 ·exact eL a5 b5
 ·exact eL a6 b6
 ·exact eL a7 b7
 ·exact eL a8 b8
theorem tf:
  Spec prog 21 [] [] [] (X:=SV×List (SV×List Ba)) (fun x=>x.2.map (fun p=>p.2)=rlv) (fun x=>sv x.1) (fun x=> [HN x.1 x.2]) (fun _=> []):=by
 refine ay func21 J ntmps21 J fun w0 M H=>am (ao J (aw J (bH eS iW underlying46 t9 J (by decide) (by decide) J J J J fun v1=>bH eS eD underlying46 t9 J (by decide) (by decide) J J J J fun v2=>bH eS eB underlying46 t9 J (by decide) (by decide) J J J J fun v3=>dG eS [lQ,lN] (parts:= [(0,.const (Sg (ByteArray.mk #[61,61]))),(1,.const (Sg (ByteArray.mk #[33,61])))]) underlying46 t9 J (by decide) (by intro _;rfl) J (by decide) (by decide) J J J J fun v4=>dG eS [kP,lO,lP,mZ] (parts:= [(0,.const (Sg (ByteArray.mk #[60]))),(1,.const (Sg (ByteArray.mk #[60,61]))),(2,.const (Sg (ByteArray.mk #[62]))),(3,.const (Sg (ByteArray.mk #[62,61])))]) underlying46 t9 J (by decide) (by intro _;rfl) J (by decide) (by decide) J J J J fun v5=>dG eS [fM,fY] (parts:= [(0,.const (Sg (ByteArray.mk #[60,60]))),(1,.const (Sg (ByteArray.mk #[62,62])))]) underlying46 t9 J (by decide) (by intro _;rfl) J (by decide) (by decide) J J J J fun v6=>dG eS [fh,ep] (parts:= [(0,.const (Sg (ByteArray.mk #[43]))),(1,.const (Sg (ByteArray.mk #[45])))]) underlying46 t9 J (by decide) (by intro _;rfl) J (by decide) (by decide) J J J J fun v7=>dG eS [fN,jI,kO] (parts:= [(0,.const (Sg (ByteArray.mk #[42]))),(1,.const (Sg (ByteArray.mk #[47]))),(2,.const (Sg (ByteArray.mk #[37])))]) underlying46 t9 J (by decide) (by intro _;rfl) J (by decide) (by decide) J J J J fun v8=>dG eQ (Jh v1 v2 v3 v4 v5 v6 v7 v8) (parts:= [(0,.tmp 1),(1,.tmp 2),(2,.tmp 3),(3,.tmp 4),(4,.tmp 5),(5,.tmp 6),(6,.tmp 7),(7,.tmp 8)]) underlying44 oO J (by decide) (by intro _;rfl) J (by decide) (by decide) J J J J fun v9=>ao J (aa (ar (bL 60 [1,2,3,4,5,6,7,8,9] (C:=HN v9 (Jh v1 v2 v3 v4 v5 v6 v7 v8)) J HM ?_))))))
 refine aG (v9,Jh v1 v2 v3 v4 v5 v6 v7 v8) J J (bU (aD J)) J [60] [] J J J
section
end
theorem Dz{nm:Ba}(h:ja nm=true)(a b:Int):(IP nm a b).isSome=true:=by
 unfold ja at h;obtain⟨p,hp⟩:=Option.isSome_iff_exists.1 h;have h1:=List.mem_of_find?_eq_some hp;have h2:=List.find?_some hp;have h2:p.1=nm:=by simpa using h2
 subst h2;simp only [lvL,List.mem_cons,List.not_mem_nil,or_false]at h1;rcases h1 with rfl|rfl|rfl|rfl|rfl|rfl|rfl|rfl|rfl|rfl|rfl|rfl|rfl|rfl|rfl|rfl<;>rfl
theorem D0{nm:Ba}(h:cU nm AO=true)(a:Int):(I_ nm a).isSome=true:=by
 unfold cU at h;obtain⟨p,h1,h2⟩:=List.any_eq_true.1 h;have h2:nm=p:=by simpa using h2
 subst h2;simp only [AO,List.mem_cons,List.not_mem_nil,or_false]at h1;rcases h1 with rfl|rfl|rfl<;>rfl
theorem rD{k:Int}{nm:Ba}{n:Nat}(h:rE k nm n=true):(k=1∧n=0)∨(k=5∧n=0)∨(k=2∧n=0)∨k=3∨(k=4∧n=1)∨(k=6∧cU nm AO=true∧n=1)∨(k=7∧ja nm=true∧n=2):=by
 unfold rE at h;split at h
 ·rename_i hk;simp only [Bool.and_eq_true,decide_eq_true_eq]at h;rcases hk with hk|hk
  ·exact .inl ⟨hk,h.2⟩
  ·exact .inr (.inl ⟨hk,h.2⟩)
 ·split at h
  ·rename_i hk;simp only [Bool.and_eq_true,decide_eq_true_eq]at h;exact .inr (.inr (.inl ⟨hk,h.2⟩))
  ·split at h
   ·rename_i hk;exact .inr (.inr (.inr (.inl hk)))
   ·split at h
    ·rename_i hk;simp only [Bool.and_eq_true,decide_eq_true_eq]at h;exact .inr (.inr (.inr (.inr (.inl ⟨hk,h.2⟩))))
    ·split at h
     ·rename_i hk;simp only [Bool.and_eq_true,decide_eq_true_eq]at h;exact .inr (.inr (.inr (.inr (.inr (.inl ⟨hk,h.1,h.2⟩)))))
     ·split at h
      ·rename_i hk;simp only [Bool.and_eq_true,decide_eq_true_eq]at h;exact .inr (.inr (.inr (.inr (.inr (.inr ⟨hk,h.1,h.2⟩)))))
      ·cases h
theorem AI{fs:List Tf}{ns:List Ba}{t:Tx}(h:nE fs ns t=0)(hk:t.kind=3):∃f,cK fs t.name=some f∧f.ps.length=t.kids.length:=by
 cases hf:cK fs t.name with
 | none=>rw [yA hk hf]at h;cases h
 | some f=>
  rw [s9 hk hf]at h;refine⟨f,J,?_⟩;split at h
  ·assumption
  ·cases h
mutual
theorem FQ{fs:List Tf}{ns:List Ba}:∀t:Tx,GX t→rX t=true→eX fs ns t=0→VX fs t
 | .mk k n nm v kids,hg,hr,he=>by
  have hr2:(rE k nm kids.length&&(decide (k=1) || decide (n=0))&&oh kids)=true:=hr;simp only [Bool.and_eq_true]at hr2;obtain⟨⟨h1,_⟩,h3⟩:=hr2;have he2:=Gj fs ns (.mk k n nm v kids);rw [he]at he2;obtain⟨e1,e2⟩:=bc.1 he2.symm;have hc:=rD h1;refine⟨hg.1,hg.2.2.1,fun hk=>by omega,fun hk=> ?_,fun hk=> ?_,fun k1 k2 k4 k5 k6 k7=> ?_,wi kids hg.2.2.2 h3 e2⟩
  ·have:cU nm AO=true∧kids.length=1:=by
    rcases hc with hc|hc|hc|hc|hc|⟨_,hc,hn⟩|hc
    ·omega
    ·omega
    ·omega
    ·omega
    ·omega
    ·exact⟨hc,hn⟩
    ·omega
   exact⟨by omega,D0 this.1⟩
  ·have:ja nm=true∧kids.length=2:=by
    rcases hc with hc|hc|hc|hc|hc|hc|⟨_,hc,hn⟩
    ·omega
    ·omega
    ·omega
    ·omega
    ·omega
    ·omega
    ·exact⟨hc,hn⟩
   exact⟨by omega,Dz this.1⟩
  ·have hk:k=3:=by omega
   obtain⟨f,hf1,hf2⟩:=AI e1 hk;exact⟨f,hf1,by rw [hf2];exact bM _⟩
theorem wi{fs:List Tf}{ns:List Ba}:∀l:List Tx,GXs l→oh l=true→jE fs ns l=0→IZ fs l
 | [],_,_,_=>trivial
 | t::r,hg,hr,he=>by
  have hr2:(rX t&&oh r)=true:=hr;rw [Bool.and_eq_true]at hr2;obtain⟨e1,e2⟩:=bc.1 he;exact⟨FQ t hg.1 hr2.1 e1,wi r hg.2 hr2.2 e2⟩
end
theorem wO{k:Int}{nm:Ba}{ne nb nl:Nat}(h:F1 k nm ne nb nl=true):1≤k∧k≤8∧ne=(if k=3 then 2 else 1)∧(k=4∨k=5∨nb=0)∧(k=4∨nl=0):=by
 unfold F1 at h;simp only [Bool.and_eq_true,Bool.or_eq_true,decide_eq_true_eq]at h;obtain⟨⟨⟨⟨⟨h1,h2⟩,h3⟩,h4⟩,h5⟩,h6⟩:=h;exact⟨h1,h2,h3,by rcases h5 with(h|h)|h;exact .inl h;exact .inr (.inl h);exact .inr (.inr h),h6⟩
mutual
theorem JA{fs:List Tf}:∀(ns:List Ba)(t:Ty),GY t→rY t=true→(bY fs ns t).2=0→VY fs t
 | ns,.mk k nm ve es vb body vl els,hg,hr,he=>by
  have hr2:(F1 k nm es.length body.length els.length&&oh es&&kZ body&&kZ els)=true:=hr;simp only [Bool.and_eq_true]at hr2;obtain⟨⟨⟨h1,h2⟩,h3⟩,h4⟩:=hr2;have hk:=wO h1;rw [GK]at he;obtain⟨e1,he⟩:=bc.1 he;obtain⟨e2,he⟩:=bc.1 he;obtain⟨e3,he⟩:=bc.1 he;obtain⟨e4,e5⟩:=bc.1 he;have hes:es.length=if k=3 then 2 else 1:=hk.2.2.1
  exact⟨⟨by rw [hes];split<;>omega,hg.2.1.1,fun h3=>by rw [hes,ak h3];exact bM _,wi es hg.2.1.2 h2 e2⟩,⟨hg.2.2.1.1,se _ body hg.2.2.1.2 h3 e4⟩,hg.2.2.2.1,se _ els hg.2.2.2.2 h4 e5⟩
theorem se{fs:List Tf}:∀(ns:List Ba)(l:List Ty),GYs l→kZ l=true→(dA fs ns l).2=0→GM fs l
 | _,[],_,_,_=>trivial
 | ns,t::r,hg,hr,he=>by
  have hr2:(rY t&&kZ r)=true:=hr;rw [Bool.and_eq_true]at hr2;obtain⟨e1,e2⟩:=bc.1 he;exact⟨JA ns t hg.1 hr2.1 e1,se _ r hg.2 hr2.2 e2⟩
end
theorem r8{fs:List Tf}:∀{l:List Tf},gl fs l=0→∀f∈l,lF fs f=0
 | [],_,f,hf=>by simp at hf
 | g::r,h,f,hf=>by
  obtain⟨h1,h2⟩:=bc.1 h;rcases List.mem_cons.1 hf with rfl|hf
  ·exact h1
  ·exact r8 h2 f hf
structure Fine(fs:List Tf)(f:Tf):Prop where
 vf:VF fs
 main:cK fs d9=some f
 noP:f.ps= []
 len:fs.length≤16
 once:∀(i:Nat)(f:Tf),fs[i]?=some f→xu fs f.name=(i:Int)
 each:∀f∈fs,lF fs f=0
theorem qv{fs:List Tf}(hg:GP fs)(h:jx fs=0):∃f,Fine fs f:=by
 unfold jx at h;split at h
 ·cases h
 ·rename_i h1;split at h
  ·cases h
  ·rename_i h2;split at h
   ·cases h
   ·rename_i h3;split at h
    ·cases h
    ·rename_i f hf;split at h
     ·cases h
     ·rename_i h4;have h1:rP fs=true:=by simpa using h1
      have h3:once fs=true:=by simpa using h3
      have hr:=List.all_eq_true.1 h1;have he:=r8 h;refine⟨f,fun g hgm=> ?_,hf,List.eq_nil_of_length_eq_zero (by omega),by omega,pe.1 h3,he⟩;obtain⟨g1,g2,g3,g4,g5,g6⟩:=hg.2 g hgm;have hrg:=hr g hgm;unfold rF at hrg;simp only [Bool.and_eq_true]at hrg;have heg:=he g hgm;rw [tF]at heg;have h6:=(bc.1 (bc.1 heg).2).2;exact⟨g3,g4,se _ g.body g5 hrg.2 h6⟩
def F8(ins:List Int)(fuel:Int):Ms:=⟨ins,[],fun _=>0,fuel⟩
theorem HJ{ins:List Int}{fuel:Int}(hi:∀x∈ins,oW x)(hf:fuel≤1000000000000):okMs (F8 ins fuel):=⟨hi,fun _=>pj,by show fuel<_;omega,by show((0:Nat):Int)+max fuel 0≤_;omega⟩
structure Ru where
 err:Int
 out:List Int
 mem:List Int
def Ha:Re Int→Ru
 | .ok _ s=>⟨0,s.out,(List.range 256).map s.mem⟩
 | .err z=>⟨z,[],[]⟩
inductive RunIs(fs:List Tf)(ins:List Int)(fuel:Int):Ru→Prop where
 | bad (h:jx fs≠0):RunIs fs ins fuel ⟨jx fs,[],[]⟩
 | run (f:Tf) (g:Nat) (r:Re Int) (h:jx fs=0) (hf:cK fs d9=some f) (he:qV g fs 0 f [] (F8 ins fuel)=some r):RunIs fs ins fuel (Ha r)
section
end
inductive Px where
 | mk (kind n:Int) (name:Ba) (kids:List Px)
inductive Py where
 | mk (kind:Int) (name:Ba) (es:List Px) (body els:List Py)
structure Pf where
 name:Ba
 ps:List Ba
 body:List Py
mutual
def qW:Tx→Px
 | .mk k n nm _ kids=> .mk k n nm (jJ kids)
def jJ:List Tx→List Px
 | []=> []
 | t::r=>qW t::jJ r
end
mutual
def Jm:Ty→Py
 | .mk k nm _ es _ body _ els=> .mk k nm (jJ es) (kR body) (kR els)
def kR:List Ty→List Py
 | []=> []
 | t::r=>Jm t::kR r
end
def AQ(f:Tf):Pf:=⟨f.name,f.ps,kR f.body⟩
theorem qj:∀a b:List Tx,jJ (a++b)=jJ a++jJ b
 | [],b=>by simp [jJ]
 | t::r,b=>by simp [jJ,qj r b]
theorem u_:∀a b:List Ty,kR (a++b)=kR a++kR b
 | [],b=>by simp [kR]
 | t::r,b=>by simp [kR,u_ r b]
def Al(n m:Int):Int:=((n.tmod m)+m).tmod m
theorem EW{x n:Int}(hn:0<n):0≤Al x n∧Al x n<n:=by
 unfold Al;have h1:=Int.tmod_lt_of_pos x hn;have h2:=Int.tmod_lt_of_pos (-x) hn;rw [Int.neg_tmod]at h2;have h3:0≤x.tmod n+n:=by omega
 rw [Int.tmod_eq_emod_of_nonneg h3];exact⟨Int.emod_nonneg _ (by omega),Int.emod_lt_of_pos _ hn⟩
theorem JF(x:Int){m:Int}(hm:0<m): -m<x.tmod m∧x.tmod m<m:=by
 have h1:=Int.tmod_lt_of_pos x hm;have h2:=Int.tmod_lt_of_pos (-x) hm;rw [Int.neg_tmod]at h2;omega
theorem pw(n m:Int)(hm:0<m∧m≤1000000):
  aN prog 24 [I6 n,I6 m] [] [] (I6 (Al n m)) []:=by
 refine ay func24 J ntmps24 J fun w0 M H=>am (ao J (aw J (ab J (ab J (ap J J (gW (by omega) J) (ab J (ap J J (bX (by have:=JF n hm.1;exact bs (by omega))) (ab J (ap J J (gW (by omega) J) (ao J (aa (ar (aG () O J (bU (aD J)) J [] [] J J J)))))))))))))
theorem nr{w:World}{F G:Nat→Prop}{t:Tx}(h:(cx t.v t.kids).pred w G)(hs:∀b,G b→F b):TxIn w F t:=by
 have h2:TxIn w G t:=by
  cases t;exact h
 exact TxIn.mono hs (fun _ _=>J) t h2
def I5(l:List Tx):Asn:=⟨fun w F=>TxsIn w F l,fun h hs=>TxsIn.mono (fun _ hb=>hb) hs _ h⟩
theorem xX{w:World}{F:Nat→Prop}:∀{l:List Tx}{t:Tx},TxsIn w F l→TxIn w F t→TxsIn w F (l++ [t])
 | [],t,_,ht=>⟨ht,trivial⟩
 | a::r,t,h,ht=>⟨h.1,xX h.2 ht⟩
theorem FM{w:World}{F G:Nat→Prop}{l:List Tx}(h:(I5 l).pred w G)(hs:∀b,G b→F b):TxsIn w F l:=TxsIn.mono hs (fun _ _=>rfl) l h
theorem pF(w:World)(F:Nat→Prop)(_:AllIn w F []):(cx bT []).pred w F:=⟨m4,trivial⟩
theorem yu{v:SV}{t:Tx}(w:World)(F:Nat→Prop)(h:AllIn w F [own 61 4 gk (sv v) [t],cx t.v t.kids]):(cx v [t]).pred w F:=by
 obtain⟨⟨_,a0,b0⟩,⟨_,a1,b1⟩,_⟩:=h;exact⟨eL a0 b0,nr a1 b1,O⟩
theorem D5{v:SV}{t u:Tx}(w:World)(F:Nat→Prop)(h:AllIn w F [own 61 4 gk (sv v) [t,u],cx t.v t.kids,cx u.v u.kids]):(cx v [t,u]).pred w F:=by
 obtain⟨⟨_,a0,b0⟩,⟨_,a1,b1⟩,⟨_,a2,b2⟩,_⟩:=h;exact⟨eL a0 b0,nr a1 b1,nr a2 b2,O⟩
theorem EU{l:List Tx}{t:Tx}(w:World)(F:Nat→Prop)(h:AllIn w F [I5 l,cx t.v t.kids]):(I5 (l++ [t])).pred w F:=by
 obtain⟨⟨_,a0,b0⟩,⟨_,a1,b1⟩,_⟩:=h;exact xX (FM a0 b0) (nr a1 b1)
theorem Cg{v:SV}{l:List Tx}(w:World)(F:Nat→Prop)(h:AllIn w F [own 61 4 gk (sv v) l,I5 l]):(cx v l).pred w F:=by
 obtain⟨⟨_,a0,b0⟩,⟨_,a1,b1⟩,_⟩:=h;exact⟨eL a0 b0,FM a1 b1⟩
def I4(l:List Ty):Asn:=⟨fun w F=>TysIn w F l,fun h hs=>TysIn.mono (fun _ hb=>hb) hs _ h⟩
theorem xW{w:World}{F:Nat→Prop}:∀{l:List Ty}{t:Ty},TysIn w F l→TyIn w F t→TysIn w F (l++ [t])
 | [],t,_,ht=>⟨ht,trivial⟩
 | a::r,t,h,ht=>⟨h.1,xW h.2 ht⟩
theorem FK{w:World}{F G:Nat→Prop}{l:List Ty}(h:(I4 l).pred w G)(hs:∀b,G b→F b):TysIn w F l:=TysIn.mono hs (fun _ _=>rfl) l h
theorem Spec.roAll{P:Program}{n:Nat}{vs:List Value}{L R0 R1:List Asn}{X:Type}{φ:X→Prop}{v:X→Value}{L' R':X→List Asn}(h:Spec P n vs L R0 φ v L' R')(hAB:∀(i:Nat)(A:Asn),R0[i]?=some A→∃B:Asn,R1[i]?=some B∧∀w G,B.pred w G→A.pred w G):Spec P n vs L R1 φ v L' R':=fun w M H ⟨F,hF⟩=>
 h w M H ⟨F,hF.touch,hF.has,hF.lt,hF.mine,hF.apart,fun k C hk=>by
  obtain⟨B,h1,h2⟩:=hAB k C hk;obtain⟨G,g1,g2⟩:=hF.ro k B h1;exact⟨G,h2 _ _ g1,g2⟩⟩
section
end
theorem TfIn.up{w:World}{F G:Nat→Prop}{f:Tf}(h:TfIn w G f)(hs:∀b,G b→F b):TfIn w F f:=by
 obtain⟨⟨A,a1,a2⟩,⟨⟨B,b1,b2⟩,b3⟩⟩:=h;exact⟨⟨A,a1,fun b hb=>hs b (a2 b hb)⟩,⟨⟨B,b1,fun b hb=>hs b (b2 b hb)⟩,TysIn.mono hs (fun _ _=>J) _ b3⟩⟩
theorem COk.mv{w0:World}{M H:Nat→Prop}{Γ R:dL}{w:World}{k k':Nat}{A:Asn}(h:COk w0 M H Γ R w)(hk:bG Γ k=some A)(hne:Nat.beq k' k=false):COk w0 M H ((k',A)::(k,Fy)::Γ) R w:=by
 obtain⟨F,hF⟩:=h;have hne':k'≠k:=fun e=>by subst e;simp at hne
 have hsub:∀j b,(if j=k' then F k else if j=k then fun _=>False else F j) b→(j=k'∧F k b)∨(j≠k'∧j≠k∧F j b):=by
  intro j b hb;split at hb
  ·exact .inl ⟨by assumption,hb⟩
  ·split at hb
   ·exact hb.elim
   ·exact .inr ⟨by assumption,by assumption,hb⟩
 refine⟨fun j=>if j=k' then F k else if j=k then fun _=>False else F j,hF.touch,?_,?_,?_,?_,?_⟩
 ·intro j B hj;simp only [bG]at hj;cases h1:Nat.beq k' j with
  | true=>
   rw [h1]at hj;simp at hj;subst hj;have:=co h1;subst this;simp only [if_true];exact hF.has k A hk
  | false=>
   rw [h1]at hj;have hj1:j≠k':=fun e=>by subst e;simp at h1
   cases h2:Nat.beq k j with
   | true=>
    rw [h2]at hj;simp at hj;subst hj;have:=co h2;subst this;simp only [hj1,if_false,if_true];exact fun b hb=>hb
   | false=>
    rw [h2]at hj;have hj2:j≠k:=fun e=>by subst e;simp at h2
    simp only [hj1,hj2,if_false];exact hF.has j B hj
 ·intro j b hb;rcases hsub j b hb with⟨_,hb⟩|⟨_,_,hb⟩<;>exact hF.lt _ b hb
 ·intro j b hb hlt;rcases hsub j b hb with⟨_,hb⟩|⟨_,_,hb⟩<;>exact hF.mine _ b hb hlt
 ·intro i j b hi hj;rcases hsub i b hi with⟨e1,h1⟩|⟨e1,e2,h1⟩<;>rcases hsub j b hj with⟨f1,h2⟩|⟨f1,f2,h2⟩
  ·rw [e1,f1]
  ·exact absurd (hF.apart k j b h1 h2).symm f2
  ·exact absurd (hF.apart i k b h1 h2) e2
  ·exact hF.apart i j b h1 h2
 ·intro j B hj;obtain⟨G,g1,g2⟩:=hF.ro j B hj;refine⟨G,g1,fun b hb=>⟨(g2 b hb).1,fun i hi=> ?_,(g2 b hb).2.2⟩⟩;rcases hsub i b hi with⟨_,hb'⟩|⟨_,_,hb'⟩<;>exact(g2 b hb).2.1 _ hb'
theorem sJ{N:Nat}{w0:World}{M H:Nat→Prop}{E:el}{Γ R:dL}(k k':Nat){A:Asn}{Rel:Act→World→Prop}(hk:bG Γ k=some A)(hne:Nat.beq k' k=false)(h:At N w0 M H E ((k',A)::(k,Fy)::Γ) R Rel):At N w0 M H E Γ R Rel:=
 h.weak (fun _ h=>h) fun w hC=>hC.mv hk hne
def rs(r:Int→Int)(d v:Int):Int→Int:=fun k=>if k=d then v else r k
theorem wv{pc:Int}{r:Int→Int}{st x:Int}(hx:0≤x∧x<16):(sR pc r st)[1+x.toNat*1]?=some (I3 (r x)):=by
 obtain⟨k,rfl⟩:=Int.eq_ofNat_of_zero_le hx.1;have hk:k<16:=by omega
 show(sR pc r st)[1+k*1]?=_
 match k,hk with
 | 0,_=>rfl
 | 1,_=>rfl
 | 2,_=>rfl
 | 3,_=>rfl
 | 4,_=>rfl
 | 5,_=>rfl
 | 6,_=>rfl
 | 7,_=>rfl
 | 8,_=>rfl
 | 9,_=>rfl
 | 10,_=>rfl
 | 11,_=>rfl
 | 12,_=>rfl
 | 13,_=>rfl
 | 14,_=>rfl
 | 15,_=>rfl
theorem lm{pc:Int}{r:Int→Int}{st x v:Int}(hx:0≤x∧x<16):(sR pc r st).take (1+x.toNat*1)++ [Value.int .u32 v]++(sR pc r st).drop (1+x.toNat*1+1)=sR pc (rs r x v) st:=by
 obtain⟨k,rfl⟩:=Int.eq_ofNat_of_zero_le hx.1;have hk:k<16:=by omega
 show(sR pc r st).take (1+k*1)++ [Value.int .u32 v]++(sR pc r st).drop (1+k*1+1)=_
 match k,hk with
 | 0,_=>rfl
 | 1,_=>rfl
 | 2,_=>rfl
 | 3,_=>rfl
 | 4,_=>rfl
 | 5,_=>rfl
 | 6,_=>rfl
 | 7,_=>rfl
 | 8,_=>rfl
 | 9,_=>rfl
 | 10,_=>rfl
 | 11,_=>rfl
 | 12,_=>rfl
 | 13,_=>rfl
 | 14,_=>rfl
 | 15,_=>rfl
theorem MB{r:Int→Int}(h0:r 0=0):rs r 0 0=r:=by
 funext k;unfold rs;split
 ·rename_i h;rw [h,h0]
 ·rfl
theorem JO{r:Int→Int}{d v:Int}(h0:r 0=0):rs (rs r d v) 0 0=rp r d v:=by
 funext k;unfold rs rp;by_cases h:k=0
 ·rw [ak h];by_cases h2:k=d∧d≠0
  ·exact absurd (h2.1.symm.trans h) h2.2
  ·rw [ac h2,h,h0]
 ·rw [ac h];by_cases h2:k=d
  ·rw [ak h2,ak ⟨h2,fun h3=>h (h2.trans h3)⟩]
  ·rw [ac h2,ac (fun h3=>h2 h3.1)]
theorem oX{pc:Int}{r:Int→Int}{st x:Int}{u:Value}(hx:0≤x∧x<16):(1+x.toNat*1+ [u].length).ble (sR pc r st).length=true:=by
 rw [Nat.ble_eq];show 1+x.toNat*1+1≤24;omega
theorem Ej{pc:Int}{r:Int→Int}{st:Int}(h0:r 0=0):(sR pc r st).take 1++ [Value.int .u32 0]++(sR pc r st).drop 2=sR pc r st:=(lm (x:=0) (by decide)).trans (by rw [MB h0])
theorem uc{pc:Int}{r:Int→Int}{st d v:Int}(h0:r 0=0):(sR pc (rs r d v) st).take 1++ [Value.int .u32 0]++(sR pc (rs r d v) st).drop 2=sR pc (rp r d v) st:=(lm (x:=0) (by decide)).trans (by rw [JO h0])
theorem jP(n:Int):0≤wU n∧wU n<4294967296:=by
 show 0≤n%4294967296∧n%4294967296<4294967296;omega
theorem wg(a b:Int):wU (a+wU b)=wU (a+b):=by
 show(a+b%4294967296)%4294967296=(a+b)%4294967296;omega
theorem Jy(n:Int):IntKind.u32.wrap (IntKind.u32.wrap n/4*4)=IntKind.u32.wrap n/4*4:=by
 have:=jP n;have e:IntKind.u32.wrap n=wU n:=J;exact bw (by omega)
structure Stx(s:Mm)(i:Qi)(pc:Int)(r:Int→Int)(st:Int):Prop where
 f:Fx s i pc
 p:pc<1000000
 h0:r 0=0
 hr:∀k,0≤r k∧r k<4294967296
 hst:0≤st∧st<1000000000000000
def oC(pc:Int)(r:Int→Int)(st k x:Int):List Value:=sR pc r st++ [I6 k,I3 x]
theorem lW(pc:Int)(r:Int→Int)(st k x:Int):
  aN prog 149 [.agg (sR pc r st).toArray,I6 k,I3 x] [] [] (.agg (oC pc r st k x).toArray) []:=by
 refine ay func149 J ntmps149 J fun w0 M H=>am (cB J J fun b3=>aU kM J J fun b6=>aw J (aJ (aM lX J J J (bh (k:=3) J)) (ab J (ab J (aJ (aW (parts:= [(0,.tmp 8),(1,.tmp 9)]) yc JU J J) (aJ (aW (cs:=(oC pc r st k x).toArray) (parts:= [(0,.tmp 7),(1,.tmp 10)]) kM FY J (by kernel_rfl)) (aq (k:=6) kM J J J J J J (aa (ar (aG () O J (bU (be kM J J J (bh (k:=6) J))) J [] [] J J J))))))))))
abbrev kE(e:Me)(i:Qi)(pc:Int)(r:Int→Int)(b2 b4 b6 b7:Nat):el:= [(1,Pt e.m),(2,Pt b2),(4,Pt b4),(6,Pt b6),(7,Pt b7),(8,I3 (r i.d)),(9,I3 (r i.a)),(10,I3 (if i.op<16 then r i.b else i.imm)),(11,I3 (pc+4)),(12,I6 (iL i.op))]
abbrev kG(e:Me)(s:Mm)(i:Qi)(pc:Int)(r:Int→Int)(st:Int)(b2 b4 b6 b7:Nat):dL:= [(20,aO e.m 157 (mR e)),(21,own 5 1 bJ (sv e.vd) s.d),(22,own 5 1 bJ (sv e.vi) s.i),(23,own 3 1 eI (sv e.vr) s.r),(2,aO b2 78 (sR pc r st)),(4,aO b4 207 (oC 0 mV 0 0 0)),(6,aO b6 118 (gM i)),(7,aO b7 78 (sR pc r st))]
def qL:Nat→Code→Code
 | 0,c=>c
 | n+1,.seq _ b=>qL n b
 | _+1,c=>c
def eC(f:Func):Code:=match f.body with
 | some c=>c
 | none=> .skip
theorem fF(e:Me)(s:Mm)(n:Nat)(hs:MO s n)(i:Qi)(pc:Int)(r:Int→Int)(st:Int)(hx:Stx s i pc r st){X:Type}{φ:X→Prop}{v:X→Value}{L1 R1:X→List Asn}
  (k:∀(w0:World)(M H:Nat→Prop)(b2 b4 b6 b7:Nat),At 301 w0 M H (kE e i pc r b2 b4 b6 b7) (kG e s i pc r st b2 b4 b6 b7) [] ((qL 12 (eC f115)).wp prog (bodyPost prog f115 (Jp w0 M H φ v L1 R1)))):
  Spec prog 115 [.agg (sR pc r st).toArray,Pt e.m] [aO e.m 157 (mR e),own 5 1 bJ (sv e.vd) (s).d,own 5 1 bJ (sv e.vi) (s).i,own 3 1 eI (sv e.vr) (s).r] [] φ v L1 R1:=by
 refine ay func115 J ntmps115 J fun w0 M H=>sJ 0 20 J J (sJ 1 21 J J (sJ 2 22 J J (sJ 3 23 J J ?_)))
 have hdd:=hx.f.hv.d;have haa:=hx.f.hv.a;have hbb:=hx.f.hv.b;have him:=hx.f.imm;have hpp:=hx.f.p;have hp2:=hx.p;have hst:=hx.hst;refine am (cB J J fun b2=>aU kM J J fun b4=>aw J (aA gQ J (aL 2 dy J J J J (ab J (ae (xs:= [.tmp 20,.tmp 21]) (uk e s n hs i pc hx.f) LL [20,21,22,23] [] [20,21,22,23] (fun _ _=>aU zC J J fun b5=>aq (k:=5) zC J J J J J J (aa (aR (aA Fi J (aJ (cy qc J) (aL 5 t3 J J J J ?_)))))))))));refine ap J J fW (aa (ai J (fun h1=> ?_) (fun h1=> ?_)))
 ·cases h1
 ·(try simp only [aX]at h1);refine az (am (aA Fj J (aJ (aM (us:=gM i) ey J J J (jC (k:=5) J J)) (aU ey J J fun b6=>aq (k:=6) ey J J J J J J (aw J (aJ (aM lX J J J (bh (k:=2) J)) (aU lX J J fun b7=>aq (k:=7) lX J J J J J J (aw J (aA fi J (aJ (cH (j:=0) underlying75 dy J J (by rfl) (by decide)) (ax (k:=7) (us:= [I3 0]) (c':=sR pc r st) dy J J J J J J J (Ej hx.h0) (aa ?_))))))))))));refine am (aA fJ J (aL 6 t3 J J J J (aA fi J (aJ (cH (j:=i.d.toNat) underlying75 dy J J (by omega) (by omega)) (aL 7 dy J J J (wv hx.f.hv.d) (ao J (aw J (aA kH J (aL 6 t3 J J J J (aA fi J (aJ (cH (j:=i.a.toNat) underlying75 dy J J (by omega) (by omega)) (aL 7 dy J J J (wv hx.f.hv.a) (ao J (aw J ?_))))))))))))));refine aA kF J (aL 6 t3 J J J J (aA fi J (aJ (cH (j:=i.b.toNat) underlying75 dy J J (by omega) (by omega)) (aL 7 dy J J J (wv hx.f.hv.b) (ao J (aw J (aA gQ J (aL 7 dy J J J J (ap J J (bX (c:=pc+4) (bw (by omega))) (ao J (aw J (aA b_ J (aL 6 t3 J J J J (ae (xs:= [.tmp 55]) (wz i.op) LK [] [] [] (fun _ _=>ao J ?_)))))))))))))));refine aa (bv (X:=Nat×Nat×Nat×Nat) (fun _=>True) (fun z=> [(1,Pt e.m),(2,Pt z.1),(4,Pt z.2.1),(6,Pt z.2.2.1),(7,Pt z.2.2.2),(8,I3 (r i.d)),(9,I3 (r i.a)),(10,I3 (if i.op<16 then r i.b else i.imm)),(11,I3 (pc+4)),(12,I6 (iL i.op))]) (fun z=> [(20,aO e.m 157 (mR e)),(21,own 5 1 bJ (sv e.vd) s.d),(22,own 5 1 bJ (sv e.vi) s.i),(23,own 3 1 eI (sv e.vr) s.r),(2,aO z.1 78 (sR pc r st)),(4,aO z.2.1 207 (oC 0 mV 0 0 0)),(6,aO z.2.2.1 118 (gM i)),(7,aO z.2.2.2 78 (sR pc r st))]) (fun z=> []) ?_ (fun⟨b2,b4,b6,b7⟩ _=> ?_))
  ·refine am (aA b_ J (aL 6 t3 J J J J (ap J J fp (aa (ai J (fun h2=> ?_) (fun h2=> ?_))))))
   ·(try simp only [aX]at h2);refine aj (aA dq J (aL 6 dy J J J J (ao J (aa ?_))));refine aI (b2,b4,b6,b7) O (by rw [ac (show ¬i.op<16 by omega)];rfl) J J
   ·(try simp only [aX]at h2);refine az ?_;refine aI (b2,b4,b6,b7) O (by rw [ak (show i.op<16 by omega)];rfl) J J
  ·exact k w0 M H b2 b4 b6 b7
theorem l_{N:Nat}{w0:World}{M H:Nat→Prop}{E E2:el}{Γ R:dL}{Rel:Act→World→Prop}(he:rV E E2=rT E2)(h:At N w0 M H E2 Γ R Rel):At N w0 M H E Γ R Rel:=fun a w h1 h2=>h a w (h1.sub he) h2
def gm:Code→Code
 | .seq (.block _ c) _=>c
 | c=>c
def els:Nat→Code→Code
 | 0,c=>c
 | n+1,.seq _ (.cond _ _ f)=>els n f
 | _+1,c=>c
theorem mB{e:Me}{s:Mm}{i:Qi}{pc:Int}{r:Int→Int}{st:Int}(h:i.op≠10){w0:World}{M H:Nat→Prop}{Q:Exit→Act→World→Prop}{b2 b4 b6 b7:Nat}(k:At 301 w0 M H (kE e i pc r b2 b4 b6 b7) (kG e s i pc r st b2 b4 b6 b7) [] ((els 1 (gm (qL 12 (eC f115)))).wp prog Q)):
  At 301 w0 M H (kE e i pc r b2 b4 b6 b7) (kG e s i pc r st b2 b4 b6 b7) [] ((els 0 (gm (qL 12 (eC f115)))).wp prog Q):=by
 skip;refine am (aA b_ J (aL 6 t3 J J J J (ap J J bj (ab J (aF [] J J O (fun hg1=>aV J) J (aF [(67,_)] J J ⟨J,O⟩ (fun hg2=>aS J J bj) J (aJ (bD J J J) (ao J (aa (ai J (fun h3=> ?_) (fun h3=> ?_)))))))))))
 ·(exfalso;have h0:=h3;revert h0;simp;first|exact h|omega|(intro h1;exact absurd h1 h))
 ·(try simp only [aX]at h3);exact l_ J k
theorem mA{e:Me}{s:Mm}{i:Qi}{pc:Int}{r:Int→Int}{st:Int}(h:iL i.op=0){w0:World}{M H:Nat→Prop}{Q:Exit→Act→World→Prop}{b2 b4 b6 b7:Nat}(k:At 301 w0 M H (kE e i pc r b2 b4 b6 b7) (kG e s i pc r st b2 b4 b6 b7) [] ((els 2 (gm (qL 12 (eC f115)))).wp prog Q)):
  At 301 w0 M H (kE e i pc r b2 b4 b6 b7) (kG e s i pc r st b2 b4 b6 b7) [] ((els 1 (gm (qL 12 (eC f115)))).wp prog Q):=by
 skip;refine am (ab J (ap J J fW (ao J (aa (ai J (fun h1=> ?_) (fun h1=> ?_))))))
 ·(exfalso;have h0:=h1;revert h0;simp;first|exact h|omega|(intro h1;exact absurd h1 h))
 ·(try simp only [aX]at h1);exact l_ J k
theorem nK{e:Me}{s:Mm}{i:Qi}{pc:Int}{r:Int→Int}{st:Int}(h:i.op≠23∧i.op≠24){w0:World}{M H:Nat→Prop}{Q:Exit→Act→World→Prop}{b2 b4 b6 b7:Nat}(k:At 301 w0 M H (kE e i pc r b2 b4 b6 b7) (kG e s i pc r st b2 b4 b6 b7) [] ((els 3 (gm (qL 12 (eC f115)))).wp prog Q)):
  At 301 w0 M H (kE e i pc r b2 b4 b6 b7) (kG e s i pc r st b2 b4 b6 b7) [] ((els 2 (gm (qL 12 (eC f115)))).wp prog Q):=by
 skip;refine am (aA b_ J (aL 6 t3 J J J J (ap J J bj (ab J (aF [] J J O (fun hg1=>ah b_ J) J (aF [(88,_)] J J ⟨J,O⟩ (fun hg2=>ag t3 J J (aB (k:=6) J J)) J (aF [(88,_),(89,_)] J J ⟨J,J,O⟩ (fun hg3=>aS J J bj) J (aJ (bD J J J) (ao J (aa (ai J (fun h4=> ?_) (fun h4=> ?_))))))))))))
 ·(exfalso;have h0:=h4;revert h0;simp;first|exact h|omega|(intro h1;exact absurd h1 h))
 ·(try simp only [aX]at h4);exact l_ J k
theorem qp{e:Me}{s:Mm}{i:Qi}{pc:Int}{r:Int→Int}{st:Int}(h:i.op≠25∧i.op≠26){w0:World}{M H:Nat→Prop}{Q:Exit→Act→World→Prop}{b2 b4 b6 b7:Nat}(k:At 301 w0 M H (kE e i pc r b2 b4 b6 b7) (kG e s i pc r st b2 b4 b6 b7) [] ((els 4 (gm (qL 12 (eC f115)))).wp prog Q)):
  At 301 w0 M H (kE e i pc r b2 b4 b6 b7) (kG e s i pc r st b2 b4 b6 b7) [] ((els 3 (gm (qL 12 (eC f115)))).wp prog Q):=by
 skip;refine am (aA b_ J (aL 6 t3 J J J J (ap J J bj (ab J (aF [] J J O (fun hg1=>ah b_ J) J (aF [(120,_)] J J ⟨J,O⟩ (fun hg2=>ag t3 J J (aB (k:=6) J J)) J (aF [(120,_),(121,_)] J J ⟨J,J,O⟩ (fun hg3=>aS J J bj) J (aJ (bD J J J) (ao J (aa (ai J (fun h4=> ?_) (fun h4=> ?_))))))))))))
 ·(exfalso;have h0:=h4;revert h0;simp;first|exact h|omega|(intro h1;exact absurd h1 h))
 ·(try simp only [aX]at h4);exact l_ J k
theorem nj{e:Me}{s:Mm}{i:Qi}{pc:Int}{r:Int→Int}{st:Int}(h:i.op≠27){w0:World}{M H:Nat→Prop}{Q:Exit→Act→World→Prop}{b2 b4 b6 b7:Nat}(k:At 301 w0 M H (kE e i pc r b2 b4 b6 b7) (kG e s i pc r st b2 b4 b6 b7) [] ((els 5 (gm (qL 12 (eC f115)))).wp prog Q)):
  At 301 w0 M H (kE e i pc r b2 b4 b6 b7) (kG e s i pc r st b2 b4 b6 b7) [] ((els 4 (gm (qL 12 (eC f115)))).wp prog Q):=by
 skip;refine am (aA b_ J (aL 6 t3 J J J J (ap J J bj (ao J (aa (ai J (fun h1=> ?_) (fun h1=> ?_)))))))
 ·(exfalso;have h0:=h1;revert h0;simp;first|exact h|omega|(intro h1;exact absurd h1 h))
 ·(try simp only [aX]at h1);exact l_ J k
theorem tB{e:Me}{s:Mm}{i:Qi}{pc:Int}{r:Int→Int}{st:Int}(h:¬(32≤i.op∧i.op≤37)){w0:World}{M H:Nat→Prop}{Q:Exit→Act→World→Prop}{b2 b4 b6 b7:Nat}(k:At 301 w0 M H (kE e i pc r b2 b4 b6 b7) (kG e s i pc r st b2 b4 b6 b7) [] ((els 6 (gm (qL 12 (eC f115)))).wp prog Q)):
  At 301 w0 M H (kE e i pc r b2 b4 b6 b7) (kG e s i pc r st b2 b4 b6 b7) [] ((els 5 (gm (qL 12 (eC f115)))).wp prog Q):=by
 skip;refine am (aA b_ J (aL 6 t3 J J J J (ap J J fp (ab J (aF [] J J O (fun hg1=>ah b_ J) J (aF [(162,_)] J J ⟨J,O⟩ (fun hg2=>ag t3 J J (aB (k:=6) J J)) J (aF [(162,_),(163,_)] J J ⟨J,J,O⟩ (fun hg3=>aS J J ki) J (aJ (bD J J J) (ao J (aa (ai J (fun h4=> ?_) (fun h4=> ?_))))))))))))
 ·(exfalso;have h0:=h4;revert h0;simp;first|exact h|omega|(intro h1;exact absurd h1 h))
 ·(try simp only [aX]at h4);exact l_ J k
theorem xB{e:Me}{s:Mm}{i:Qi}{pc:Int}{r:Int→Int}{st:Int}(h:i.op≠40){w0:World}{M H:Nat→Prop}{Q:Exit→Act→World→Prop}{b2 b4 b6 b7:Nat}(k:At 301 w0 M H (kE e i pc r b2 b4 b6 b7) (kG e s i pc r st b2 b4 b6 b7) [] ((els 7 (gm (qL 12 (eC f115)))).wp prog Q)):
  At 301 w0 M H (kE e i pc r b2 b4 b6 b7) (kG e s i pc r st b2 b4 b6 b7) [] ((els 6 (gm (qL 12 (eC f115)))).wp prog Q):=by
 skip;refine am (aA b_ J (aL 6 t3 J J J J (ap J J bj (ao J (aa (ai J (fun h1=> ?_) (fun h1=> ?_)))))))
 ·(exfalso;have h0:=h1;revert h0;simp;first|exact h|omega|(intro h1;exact absurd h1 h))
 ·(try simp only [aX]at h1);exact l_ J k
theorem CZ{e:Me}{s:Mm}{i:Qi}{pc:Int}{r:Int→Int}{st:Int}(h:i.op≠41){w0:World}{M H:Nat→Prop}{Q:Exit→Act→World→Prop}{b2 b4 b6 b7:Nat}(k:At 301 w0 M H (kE e i pc r b2 b4 b6 b7) (kG e s i pc r st b2 b4 b6 b7) [] ((els 8 (gm (qL 12 (eC f115)))).wp prog Q)):
  At 301 w0 M H (kE e i pc r b2 b4 b6 b7) (kG e s i pc r st b2 b4 b6 b7) [] ((els 7 (gm (qL 12 (eC f115)))).wp prog Q):=by
 skip;refine am (aA b_ J (aL 6 t3 J J J J (ap J J bj (ao J (aa (ai J (fun h1=> ?_) (fun h1=> ?_)))))))
 ·(exfalso;have h0:=h1;revert h0;simp;first|exact h|omega|(intro h1;exact absurd h1 h))
 ·(try simp only [aX]at h1);exact l_ J k
theorem Ix{e:Me}{s:Mm}{i:Qi}{pc:Int}{r:Int→Int}{st:Int}(h:i.op≠48){w0:World}{M H:Nat→Prop}{Q:Exit→Act→World→Prop}{b2 b4 b6 b7:Nat}(k:At 301 w0 M H (kE e i pc r b2 b4 b6 b7) (kG e s i pc r st b2 b4 b6 b7) [] ((els 9 (gm (qL 12 (eC f115)))).wp prog Q)):
  At 301 w0 M H (kE e i pc r b2 b4 b6 b7) (kG e s i pc r st b2 b4 b6 b7) [] ((els 8 (gm (qL 12 (eC f115)))).wp prog Q):=by
 skip;refine am (aA b_ J (aL 6 t3 J J J J (ap J J bj (ao J (aa (ai J (fun h1=> ?_) (fun h1=> ?_)))))))
 ·(exfalso;have h0:=h1;revert h0;simp;first|exact h|omega|(intro h1;exact absurd h1 h))
 ·(try simp only [aX]at h1);exact l_ J k
theorem fS(e:Me)(s:Mm)(pc:Int)(r1 r2:Int→Int)(st npc:Int)(hst:0≤st∧st<1000000000000000)(hz:(sR pc r1 st).take 1++ [Value.int .u32 0]++(sR pc r1 st).drop 2=sR pc r2 st){w0:World}{M H:Nat→Prop}{b4 b7:Nat}:
  At 301 w0 M H [(4,Pt b4),(7,Pt b7),(11,I3 npc)] [(20,aO e.m 157 (mR e)),(21,own 5 1 bJ (sv e.vd) (s).d),(22,own 5 1 bJ (sv e.vi) (s).i),(23,own 3 1 eI (sv e.vr) (s).r),(4,aO b4 207 (oC 0 mV 0 0 0)),(7,aO b7 78 (sR pc r1 st))] [] ((qL 13 (eC f115)).wp prog (bodyPost prog f115 (Jp w0 M H (X:=Unit) (fun _=>True) (fun _=> .agg (oC npc r2 (st+1) 0 0).toArray) (fun _=> [aO e.m 157 (mR e),own 5 1 bJ (sv e.vd) (s).d,own 5 1 bJ (sv e.vi) (s).i,own 3 1 eI (sv e.vr) (s).r]) (fun _=> [])))):=by
 skip;refine am (aA fi J (aJ (cH (j:=0) underlying75 dy J J (by rfl) (by decide)) (ax (k:=7) (us:= [I3 0]) (c':=sR pc r2 st) dy J J J J J J J hz (aw J (ab J (aA gQ J (ax (k:=7) (us:= [I3 npc]) (c':=sR npc r2 st) dy J J J J J J J J (aw J (aA gd J (aL 7 t3 J J J J (ap J J (bX (c:=st+1) (bs (by omega))) (aA gd J (ax (k:=7) (us:= [I6 (st+1)]) (c':=sR npc r2 (st+1)) t3 J J J J J J J J (aa ?_))))))))))))));refine am (aJ (aM lX J J J (bh (k:=7) J)) (aJ (aW (cs:=(oC npc r2 (st+1) 0 0).toArray) (parts:= [(0,.tmp 299)]) kM FY J (by kernel_rfl)) (aq (k:=4) kM J J J J J J (aa (ar (aG () O J (bU (be kM J J J (bh (k:=4) J))) J [20,21,22,23] [] J J J))))))
theorem Bn(e:Me)(s:Mm)(n:Nat)(hs:MO s n)(i:Qi)(pc:Int)(r:Int→Int)(st:Int)(hx:Stx s i pc r st)(v:Int)(hu:vL i.op (r i.a) (if i.op<16 then r i.b else i.imm)=some v):
  aN prog 115 [.agg (sR pc r st).toArray,Pt e.m] [aO e.m 157 (mR e),own 5 1 bJ (sv e.vd) (s).d,own 5 1 bJ (sv e.vi) (s).i,own 3 1 eI (sv e.vr) (s).r] [] (.agg (oC (pc+4) (rp r i.d v) (st+1) 0 0).toArray) [aO e.m 157 (mR e),own 5 1 bJ (sv e.vd) (s).d,own 5 1 bJ (sv e.vi) (s).i,own 3 1 eI (sv e.vr) (s).r]:=by
 have hdd:=hx.f.hv.d;have haa:=hx.f.hv.a;have hbb:=hx.f.hv.b;have him:=hx.f.imm;have hpp:=hx.f.p;have hp2:=hx.p;have hst:=hx.hst;obtain⟨ho,hz,hk⟩:=IX hu;refine fF e s n hs i pc r st hx fun w0 M H b2 b4 b6 b7=> ?_
 refine bv (X:=Unit) (fun _=>True) (fun _=> [(4,Pt b4),(7,Pt b7),(11,I3 (pc+4))]) (fun _=> [(20,aO e.m 157 (mR e)),(21,own 5 1 bJ (sv e.vd) (s).d),(22,own 5 1 bJ (sv e.vi) (s).i),(23,own 3 1 eI (sv e.vr) (s).r),(4,aO b4 207 (oC 0 mV 0 0 0)),(7,aO b7 78 (sR pc (rs r i.d v) st))]) (fun _=> []) ?_ (fun _ _=> ?_)
 ·refine aC (am (aA b_ J (aL 6 t3 J J J J (ap J J bj (ab J (aF [] J J O (fun hg1=>aV J) J (aF [(67,_)] J J ⟨J,O⟩ (fun hg2=>aS J J bj) J (aJ (bD J J J) (ao J (aa (ai J (fun h3=> ?_) (fun h3=> ?_))))))))))))
  ·(exfalso;have h0:=h3;revert h0;simp;try omega)
  ·(try simp only [aX]at h3);refine am (ab J (ap J J fW (ao J (aa (ai J (fun h4=> ?_) (fun h4=> ?_))))))
   ·(try simp only [aX]at h4);refine bV [75,76,77,78,79,80,81,82] _ J (bk (V:= [(0,75,_),(1,76,_),(2,77,_),(3,78,_),(4,79,_),(6,81,_)]) [0,1,2,3,4,6] 5 [5,4,3,2] [7] (fun _=> [(7,82,_)]) J J (ad J (ah fJ J) (ad J (ag t3 J J (aB (k:=6) J J)) (aK J J (aK J J (aK J J (ad J (ah fi J) au)))))) J J J J J J J J J J J (fun _ _=>J) J (ga (xs:= [.tmp 77,.tmp 78,.tmp 79]) (Bx (iL i.op) (r i.a) (if i.op<16 then r i.b else i.imm) v (hx.hr _) (by split;exact hx.hr _;exact him) (IY hu)) LJ [] [] [] J J J) (fun _ _=>bR [7,0,1,6] 8 [8,7,6,5,4,3,2,1,0] [] (fun _=> []) J J (ad J (cH (j:=i.d.toNat) underlying75 dy J J (by omega) (by omega)) (ad J (ah fJ J) (ad J (ag t3 J J (aB (k:=6) J J)) (ad J (ah fi J) au)))) J J J J J J J J J (fun _ _=>J) J (db (k:=7) (us:= [I3 v]) (c':=sR pc (rs r i.d v) st) dy J J J J J J (oX hx.f.hv.d) (lm hx.f.hv.d)) (fun _ _=>br [] J J au J J J ?_)));refine aI () O J J J
   ·(exfalso;have h0:=h4;revert h0;simp;exact hk)
 ·exact fS e s pc (rs r i.d v) (rp r i.d v) st (pc+4) hst (uc hx.h0)
theorem Bi(e:Me)(s:Mm)(n:Nat)(hs:MO s n)(i:Qi)(pc:Int)(r:Int→Int)(st:Int)(hx:Stx s i pc r st)(hb:byL s.d)(ho:i.op=23)(hq4:(wU (r i.a+i.imm))+4≤s.d.length)(hok:∀k:Int,0≤k→k<4→vT s (IntKind.u32.wrap ((wU (r i.a+i.imm))+k)) 1=true):
  aN prog 115 [.agg (sR pc r st).toArray,Pt e.m] [aO e.m 157 (mR e),own 5 1 bJ (sv e.vd) (s).d,own 5 1 bJ (sv e.vi) (s).i,own 3 1 eI (sv e.vr) (s).r] [] (.agg (oC (pc+4) (rp r i.d (yF s.d (wU (r i.a+i.imm)).toNat)) (st+1) 0 0).toArray) [aO e.m 157 (mR e),own 5 1 bJ (sv e.vd) (s).d,own 5 1 bJ (sv e.vi) (s).i,own 3 1 eI (sv e.vr) (s).r]:=by
 have hdd:=hx.f.hv.d;have haa:=hx.f.hv.a;have hbb:=hx.f.hv.b;have him:=hx.f.imm;have hpp:=hx.f.p;have hp2:=hx.p;have hst:=hx.hst;have hk:iL i.op=0:=by rw [ho];rfl
 refine fF e s n hs i pc r st hx fun w0 M H b2 b4 b6 b7=> ?_
 refine bv (X:=Unit) (fun _=>True) (fun _=> [(4,Pt b4),(7,Pt b7),(11,I3 (pc+4))]) (fun _=> [(20,aO e.m 157 (mR e)),(21,own 5 1 bJ (sv e.vd) (s).d),(22,own 5 1 bJ (sv e.vi) (s).i),(23,own 3 1 eI (sv e.vr) (s).r),(4,aO b4 207 (oC 0 mV 0 0 0)),(7,aO b7 78 (sR pc (rs r i.d (yF s.d (wU (r i.a+i.imm)).toNat)) st))]) (fun _=> []) ?_ (fun _ _=> ?_)
 ·refine aC ?_;refine mB (by omega) (mA hk ?_);refine am (aA b_ J (aL 6 t3 J J J J (ap J J bj (ab J (aF [] J J O (fun hg1=>ah b_ J) J (aF [(88,_)] J J ⟨J,O⟩ (fun hg2=>ag t3 J J (aB (k:=6) J J)) J (aF [(88,_),(89,_)] J J ⟨J,J,O⟩ (fun hg3=>aS J J bj) J (aJ (bD J J J) (ao J (aa (ai J (fun h4=> ?_) (fun h4=> ?_))))))))))))
  ·(try simp only [aX]at h4);refine am (ao J (aa (aR (aA b_ J (aL 6 t3 J J J J (ap J J bj (aa (ai J (fun h5=> ?_) (fun h5=> ?_)))))))))
   ·(exfalso;have h0:=h5;revert h0;simp;try omega)
   ·(try simp only [aX]at h5);refine az (am (ab J (ab J (aA dq J (aL 6 dy J J J J (ap J J (bX J) (ab J (ct (xs:= [.tmp 95,.tmp 99,.tmp 100]) (B8 e s n hs (wU (r i.a+i.imm)) (jP _) hb hq4 hok) LI [20,21,22,23] [] [20,21,22,23] J J J (fun _ _=>aU gy J J fun b14=>aq (k:=14) gy J J J J J J (aa (aR (aA mt J (aL 14 t4 J J J J (aJ (cZ J) (aa ?_)))))))))))))));refine ai J (fun h6=> ?_) (fun h6=> ?_)
    ·cases h6
    ·(try simp only [aX]at h6);refine az (aj (aA fJ J (aL 6 t3 J J J J (aA ou J (aL 14 dy J J J J (aA fi J (aJ (cH (j:=i.d.toNat) underlying75 dy J J (by omega) (by omega)) (ax (k:=7) (us:= [I3 (yF s.d (wU (r i.a+i.imm)).toNat)]) (c':=sR pc (rs r i.d (yF s.d (wU (r i.a+i.imm)).toNat)) st) dy J J J J J J (oX hx.f.hv.d) (lm hx.f.hv.d) (aa (aI () O J J J))))))))))
  ·(exfalso;have h0:=h4;revert h0;simp;try omega)
 ·exact fS e s pc (rs r i.d (yF s.d (wU (r i.a+i.imm)).toNat)) (rp r i.d (yF s.d (wU (r i.a+i.imm)).toNat)) st (pc+4) hst (uc hx.h0)
theorem Bg(e:Me)(s:Mm)(n:Nat)(hs:MO s n)(i:Qi)(pc:Int)(r:Int→Int)(st:Int)(hx:Stx s i pc r st)(ho:i.op=25)(hq4:(wU (r i.a+i.imm))+4≤s.d.length)(hok:∀k:Int,0≤k→k<4→vT s (IntKind.u32.wrap ((wU (r i.a+i.imm))+k)) 2=true):
  aN prog 115 [.agg (sR pc r st).toArray,Pt e.m] [aO e.m 157 (mR e),own 5 1 bJ (sv e.vd) (s).d,own 5 1 bJ (sv e.vi) (s).i,own 3 1 eI (sv e.vr) (s).r] [] (.agg (oC (pc+4) r (st+1) 0 0).toArray) [aO e.m 157 (mR e),own 5 1 bJ (sv e.vd) ({s with d:=pk s.d (wU (r i.a+i.imm)).toNat (eJ (r i.d))}).d,own 5 1 bJ (sv e.vi) ({s with d:=pk s.d (wU (r i.a+i.imm)).toNat (eJ (r i.d))}).i,own 3 1 eI (sv e.vr) ({s with d:=pk s.d (wU (r i.a+i.imm)).toNat (eJ (r i.d))}).r]:=by
 have hdd:=hx.f.hv.d;have haa:=hx.f.hv.a;have hbb:=hx.f.hv.b;have him:=hx.f.imm;have hpp:=hx.f.p;have hp2:=hx.p;have hst:=hx.hst;have hk:iL i.op=0:=by rw [ho];rfl
 refine fF e s n hs i pc r st hx fun w0 M H b2 b4 b6 b7=> ?_
 refine bv (X:=Unit) (fun _=>True) (fun _=> [(4,Pt b4),(7,Pt b7),(11,I3 (pc+4))]) (fun _=> [(20,aO e.m 157 (mR e)),(21,own 5 1 bJ (sv e.vd) ({s with d:=pk s.d (wU (r i.a+i.imm)).toNat (eJ (r i.d))}).d),(22,own 5 1 bJ (sv e.vi) ({s with d:=pk s.d (wU (r i.a+i.imm)).toNat (eJ (r i.d))}).i),(23,own 3 1 eI (sv e.vr) ({s with d:=pk s.d (wU (r i.a+i.imm)).toNat (eJ (r i.d))}).r),(4,aO b4 207 (oC 0 mV 0 0 0)),(7,aO b7 78 (sR pc r st))]) (fun _=> []) ?_ (fun _ _=> ?_)
 ·refine aC ?_;refine mB (by omega) (mA hk (nK (by omega) ?_));refine am (aA b_ J (aL 6 t3 J J J J (ap J J bj (ab J (aF [] J J O (fun hg1=>ah b_ J) J (aF [(120,_)] J J ⟨J,O⟩ (fun hg2=>ag t3 J J (aB (k:=6) J J)) J (aF [(120,_),(121,_)] J J ⟨J,J,O⟩ (fun hg3=>aS J J bj) J (aJ (bD J J J) (ao J (aa (ai J (fun h4=> ?_) (fun h4=> ?_))))))))))))
  ·(try simp only [aX]at h4);refine am (ao J (aa (aR (aA b_ J (aL 6 t3 J J J J (ap J J bj (aa (ai J (fun h5=> ?_) (fun h5=> ?_)))))))))
   ·(exfalso;have h0:=h5;revert h0;simp;try omega)
   ·(try simp only [aX]at h5);refine az (am (ab J (ab J (aA dq J (aL 6 dy J J J J (ap J J (bX J) (ab J (ab J (ct (xs:= [.tmp 127,.tmp 131,.tmp 132,.tmp 133]) (zH e s n hs (wU (r i.a+i.imm)) (jP _) (r i.d) (hx.hr _) hq4 hok) LH [20,21,22,23] [] [20,21,22,23] J J J (fun _ _=>aU gy J J fun b16=>aq (k:=16) gy J J J J J J (aw J (aA mt J (aL 16 t4 J J J J (aJ (cZ J) (aa ?_)))))))))))))));refine ai J (fun h6=> ?_) (fun h6=> ?_)
    ·cases h6
    ·(try simp only [aX]at h6);refine az (aI () O J J J)
  ·(exfalso;have h0:=h4;revert h0;simp;try omega)
 ·exact fS e {s with d:=pk s.d (wU (r i.a+i.imm)).toNat (eJ (r i.d))} pc r r st (pc+4) hst (Ej hx.h0)
theorem zI(e:Me)(s:Mm)(n:Nat)(hs:MO s n)(i:Qi)(pc:Int)(r:Int→Int)(st:Int)(hx:Stx s i pc r st)(ho:i.op=27):
  aN prog 115 [.agg (sR pc r st).toArray,Pt e.m] [aO e.m 157 (mR e),own 5 1 bJ (sv e.vd) (s).d,own 5 1 bJ (sv e.vi) (s).i,own 3 1 eI (sv e.vr) (s).r] [] (.agg (oC ((wU (r i.a+i.imm))/4*4) (rp r i.d (pc+4)) (st+1) 0 0).toArray) [aO e.m 157 (mR e),own 5 1 bJ (sv e.vd) (s).d,own 5 1 bJ (sv e.vi) (s).i,own 3 1 eI (sv e.vr) (s).r]:=by
 have hdd:=hx.f.hv.d;have haa:=hx.f.hv.a;have hbb:=hx.f.hv.b;have him:=hx.f.imm;have hpp:=hx.f.p;have hp2:=hx.p;have hst:=hx.hst;have hk:iL i.op=0:=by rw [ho];rfl
 refine fF e s n hs i pc r st hx fun w0 M H b2 b4 b6 b7=> ?_
 refine bv (X:=Unit) (fun _=>True) (fun _=> [(4,Pt b4),(7,Pt b7),(11,I3 ((wU (r i.a+i.imm))/4*4))]) (fun _=> [(20,aO e.m 157 (mR e)),(21,own 5 1 bJ (sv e.vd) (s).d),(22,own 5 1 bJ (sv e.vi) (s).i),(23,own 3 1 eI (sv e.vr) (s).r),(4,aO b4 207 (oC 0 mV 0 0 0)),(7,aO b7 78 (sR pc (rs r i.d (pc+4)) st))]) (fun _=> []) ?_ (fun _ _=> ?_)
 ·refine aC ?_;refine mB (by omega) (mA hk (nK (by omega) (qp (by omega) ?_)));refine am (aA b_ J (aL 6 t3 J J J J (ap J J bj (ao J (aa (ai J (fun h1=> ?_) (fun h1=> ?_)))))))
  ·(try simp only [aX]at h1);refine am (aA fJ J (aL 6 t3 J J J J (ab J (aA fi J (aJ (cH (j:=i.d.toNat) underlying75 dy J J (by omega) (by omega)) (ax (k:=7) (us:= [I3 (pc+4)]) (c':=sR pc (rs r i.d (pc+4)) st) dy J J J J J J (oX hx.f.hv.d) (lm hx.f.hv.d) (aa (aj (ab J (aA dq J (aL 6 dy J J J J (ap J J (bX J) (ap J J (iG (by decide) (nz (jP _) (by decide))) (ap J J (ek (Jy _)) (ao J (aa (aI () O J J J)))))))))))))))))
  ·(exfalso;have h0:=h1;revert h0;simp;try omega)
 ·exact fS e s pc (rs r i.d (pc+4)) (rp r i.d (pc+4)) st ((wU (r i.a+i.imm))/4*4) hst (uc hx.h0)
theorem Bm(e:Me)(s:Mm)(n:Nat)(hs:MO s n)(i:Qi)(pc:Int)(r:Int→Int)(st:Int)(hx:Stx s i pc r st)(ho:i.op=32):
  aN prog 115 [.agg (sR pc r st).toArray,Pt e.m] [aO e.m 157 (mR e),own 5 1 bJ (sv e.vd) (s).d,own 5 1 bJ (sv e.vi) (s).i,own 3 1 eI (sv e.vr) (s).r] [] (.agg (oC (if r i.d=r i.a then wU (pc+4*i.imm)else pc+4) r (st+1) 0 0).toArray) [aO e.m 157 (mR e),own 5 1 bJ (sv e.vd) (s).d,own 5 1 bJ (sv e.vi) (s).i,own 3 1 eI (sv e.vr) (s).r]:=by
 have hdd:=hx.f.hv.d;have haa:=hx.f.hv.a;have hbb:=hx.f.hv.b;have him:=hx.f.imm;have hpp:=hx.f.p;have hp2:=hx.p;have hst:=hx.hst;have hk:iL i.op=0:=by rw [ho];rfl
 refine fF e s n hs i pc r st hx fun w0 M H b2 b4 b6 b7=> ?_
 refine bv (X:=Unit) (fun _=>True) (fun _=> [(4,Pt b4),(7,Pt b7),(11,I3 (if r i.d=r i.a then wU (pc+4*i.imm)else pc+4))]) (fun _=> [(20,aO e.m 157 (mR e)),(21,own 5 1 bJ (sv e.vd) (s).d),(22,own 5 1 bJ (sv e.vi) (s).i),(23,own 3 1 eI (sv e.vr) (s).r),(4,aO b4 207 (oC 0 mV 0 0 0)),(7,aO b7 78 (sR pc r st))]) (fun _=> []) ?_ (fun _ _=> ?_)
 ·refine aC ?_;refine mB (by omega) (mA hk (nK (by omega) (qp (by omega) (nj (by omega) ?_))));refine am (aA b_ J (aL 6 t3 J J J J (ap J J fp (ab J (aF [] J J O (fun hg1=>ah b_ J) J (aF [(162,_)] J J ⟨J,O⟩ (fun hg2=>ag t3 J J (aB (k:=6) J J)) J (aF [(162,_),(163,_)] J J ⟨J,J,O⟩ (fun hg3=>aS J J ki) J (aJ (bD J J J) (ao J (aa (ai J (fun h4=> ?_) (fun h4=> ?_))))))))))))
  ·(try simp only [aX]at h4);refine am (aA b_ J (aL 6 t3 J J J J (ab J (ab J ?_))));rw [ho];refine ae (xs:= [.tmp 167,.tmp 168,.tmp 169]) (qN (r i.d) (r i.a)) Gz [] [] [] (fun _ _=>ao J (aw J (ab J (aa (ai J (fun h5=> ?_) (fun h5=> ?_))))))
   ·(try simp only [aX]at h5);rw [ak h5];refine aj (aA gQ J (aL 7 dy J J J J (aA dq J (aL 6 dy J J J J (ap J J (ek J) (ap J J (bX (c:=wU (pc+4*i.imm)) (wg _ _)) (ao J (aa (aI () O J J J)))))))))
   ·(try simp only [aX]at h5);rw [ac h5];refine az (aI () O J J J)
  ·(exfalso;have h0:=h4;revert h0;simp;try omega)
 ·exact fS e s pc r r st (if r i.d=r i.a then wU (pc+4*i.imm)else pc+4) hst (Ej hx.h0)
theorem zJ(e:Me)(s:Mm)(n:Nat)(hs:MO s n)(i:Qi)(pc:Int)(r:Int→Int)(st:Int)(hx:Stx s i pc r st)(ho:i.op=35):
  aN prog 115 [.agg (sR pc r st).toArray,Pt e.m] [aO e.m 157 (mR e),own 5 1 bJ (sv e.vd) (s).d,own 5 1 bJ (sv e.vi) (s).i,own 3 1 eI (sv e.vr) (s).r] [] (.agg (oC (if r i.d≥r i.a then wU (pc+4*i.imm)else pc+4) r (st+1) 0 0).toArray) [aO e.m 157 (mR e),own 5 1 bJ (sv e.vd) (s).d,own 5 1 bJ (sv e.vi) (s).i,own 3 1 eI (sv e.vr) (s).r]:=by
 have hdd:=hx.f.hv.d;have haa:=hx.f.hv.a;have hbb:=hx.f.hv.b;have him:=hx.f.imm;have hpp:=hx.f.p;have hp2:=hx.p;have hst:=hx.hst;have hk:iL i.op=0:=by rw [ho];rfl
 refine fF e s n hs i pc r st hx fun w0 M H b2 b4 b6 b7=> ?_
 refine bv (X:=Unit) (fun _=>True) (fun _=> [(4,Pt b4),(7,Pt b7),(11,I3 (if r i.d≥r i.a then wU (pc+4*i.imm)else pc+4))]) (fun _=> [(20,aO e.m 157 (mR e)),(21,own 5 1 bJ (sv e.vd) (s).d),(22,own 5 1 bJ (sv e.vi) (s).i),(23,own 3 1 eI (sv e.vr) (s).r),(4,aO b4 207 (oC 0 mV 0 0 0)),(7,aO b7 78 (sR pc r st))]) (fun _=> []) ?_ (fun _ _=> ?_)
 ·refine aC ?_;refine mB (by omega) (mA hk (nK (by omega) (qp (by omega) (nj (by omega) ?_))));refine am (aA b_ J (aL 6 t3 J J J J (ap J J fp (ab J (aF [] J J O (fun hg1=>ah b_ J) J (aF [(162,_)] J J ⟨J,O⟩ (fun hg2=>ag t3 J J (aB (k:=6) J J)) J (aF [(162,_),(163,_)] J J ⟨J,J,O⟩ (fun hg3=>aS J J ki) J (aJ (bD J J J) (ao J (aa (ai J (fun h4=> ?_) (fun h4=> ?_))))))))))))
  ·(try simp only [aX]at h4);refine am (aA b_ J (aL 6 t3 J J J J (ab J (ab J ?_))));rw [ho];refine ae (xs:= [.tmp 167,.tmp 168,.tmp 169]) (qM (r i.d) (r i.a)) Gz [] [] [] (fun _ _=>ao J (aw J (ab J (aa (ai J (fun h5=> ?_) (fun h5=> ?_))))))
   ·(try simp only [aX]at h5);rw [ak h5];refine aj (aA gQ J (aL 7 dy J J J J (aA dq J (aL 6 dy J J J J (ap J J (ek J) (ap J J (bX (c:=wU (pc+4*i.imm)) (wg _ _)) (ao J (aa (aI () O J J J)))))))))
   ·(try simp only [aX]at h5);rw [ac h5];refine az (aI () O J J J)
  ·(exfalso;have h0:=h4;revert h0;simp;try omega)
 ·exact fS e s pc r r st (if r i.d≥r i.a then wU (pc+4*i.imm)else pc+4) hst (Ej hx.h0)
theorem Bj(e:Me)(s:Mm)(n:Nat)(hs:MO s n)(i:Qi)(pc:Int)(r:Int→Int)(st:Int)(hx:Stx s i pc r st)(ho:i.op=40):
  aN prog 115 [.agg (sR pc r st).toArray,Pt e.m] [aO e.m 157 (mR e),own 5 1 bJ (sv e.vd) (s).d,own 5 1 bJ (sv e.vi) (s).i,own 3 1 eI (sv e.vr) (s).r] [] (.agg (oC (wU (pc+4*i.imm)) (rp r i.d (pc+4)) (st+1) 0 0).toArray) [aO e.m 157 (mR e),own 5 1 bJ (sv e.vd) (s).d,own 5 1 bJ (sv e.vi) (s).i,own 3 1 eI (sv e.vr) (s).r]:=by
 have hdd:=hx.f.hv.d;have haa:=hx.f.hv.a;have hbb:=hx.f.hv.b;have him:=hx.f.imm;have hpp:=hx.f.p;have hp2:=hx.p;have hst:=hx.hst;have hk:iL i.op=0:=by rw [ho];rfl
 refine fF e s n hs i pc r st hx fun w0 M H b2 b4 b6 b7=> ?_
 refine bv (X:=Unit) (fun _=>True) (fun _=> [(4,Pt b4),(7,Pt b7),(11,I3 (wU (pc+4*i.imm)))]) (fun _=> [(20,aO e.m 157 (mR e)),(21,own 5 1 bJ (sv e.vd) (s).d),(22,own 5 1 bJ (sv e.vi) (s).i),(23,own 3 1 eI (sv e.vr) (s).r),(4,aO b4 207 (oC 0 mV 0 0 0)),(7,aO b7 78 (sR pc (rs r i.d (pc+4)) st))]) (fun _=> []) ?_ (fun _ _=> ?_)
 ·refine aC ?_;refine mB (by omega) (mA hk (nK (by omega) (qp (by omega) (nj (by omega) (tB (by omega) ?_)))));refine am (aA b_ J (aL 6 t3 J J J J (ap J J bj (ao J (aa (ai J (fun h1=> ?_) (fun h1=> ?_)))))))
  ·(try simp only [aX]at h1);refine am (aA fJ J (aL 6 t3 J J J J (ab J (aA fi J (aJ (cH (j:=i.d.toNat) underlying75 dy J J (by omega) (by omega)) (ax (k:=7) (us:= [I3 (pc+4)]) (c':=sR pc (rs r i.d (pc+4)) st) dy J J J J J J (oX hx.f.hv.d) (lm hx.f.hv.d) (aa (aj (aA gQ J (aL 7 dy J J J J (aA dq J (aL 6 dy J J J J (ap J J (ek J) (ap J J (bX (c:=wU (pc+4*i.imm)) (wg _ _)) (ao J (aa (aI () O J J J)))))))))))))))))
  ·(exfalso;have h0:=h1;revert h0;simp;try omega)
 ·exact fS e s pc (rs r i.d (pc+4)) (rp r i.d (pc+4)) st (wU (pc+4*i.imm)) hst (uc hx.h0)
theorem Bh(e:Me)(s:Mm)(n:Nat)(hs:MO s n)(i:Qi)(pc:Int)(r:Int→Int)(st:Int)(hx:Stx s i pc r st)(ho:i.op=41):
  aN prog 115 [.agg (sR pc r st).toArray,Pt e.m] [aO e.m 157 (mR e),own 5 1 bJ (sv e.vd) (s).d,own 5 1 bJ (sv e.vi) (s).i,own 3 1 eI (sv e.vr) (s).r] [] (.agg (oC (pc+4) (rp r i.d (wU (i.imm*1024))) (st+1) 0 0).toArray) [aO e.m 157 (mR e),own 5 1 bJ (sv e.vd) (s).d,own 5 1 bJ (sv e.vi) (s).i,own 3 1 eI (sv e.vr) (s).r]:=by
 have hdd:=hx.f.hv.d;have haa:=hx.f.hv.a;have hbb:=hx.f.hv.b;have him:=hx.f.imm;have hpp:=hx.f.p;have hp2:=hx.p;have hst:=hx.hst;have hk:iL i.op=0:=by rw [ho];rfl
 refine fF e s n hs i pc r st hx fun w0 M H b2 b4 b6 b7=> ?_
 refine bv (X:=Unit) (fun _=>True) (fun _=> [(4,Pt b4),(7,Pt b7),(11,I3 (pc+4))]) (fun _=> [(20,aO e.m 157 (mR e)),(21,own 5 1 bJ (sv e.vd) (s).d),(22,own 5 1 bJ (sv e.vi) (s).i),(23,own 3 1 eI (sv e.vr) (s).r),(4,aO b4 207 (oC 0 mV 0 0 0)),(7,aO b7 78 (sR pc (rs r i.d (wU (i.imm*1024))) st))]) (fun _=> []) ?_ (fun _ _=> ?_)
 ·refine aC ?_;refine mB (by omega) (mA hk (nK (by omega) (qp (by omega) (nj (by omega) (tB (by omega) (xB (by omega) ?_))))));refine am (aA b_ J (aL 6 t3 J J J J (ap J J bj (ao J (aa (ai J (fun h1=> ?_) (fun h1=> ?_)))))))
  ·(try simp only [aX]at h1);refine aj (aA fJ J (aL 6 t3 J J J J (aA dq J (aL 6 dy J J J J (ap J J (gV (by decide) (by decide) J) (aA fi J (aJ (cH (j:=i.d.toNat) underlying75 dy J J (by omega) (by omega)) (ax (k:=7) (us:= [I3 (wU (i.imm*1024))]) (c':=sR pc (rs r i.d (wU (i.imm*1024))) st) dy J J J J J J (oX hx.f.hv.d) (lm hx.f.hv.d) (aa (aI () O J J J))))))))))
  ·(exfalso;have h0:=h1;revert h0;simp;try omega)
 ·exact fS e s pc (rs r i.d (wU (i.imm*1024))) (rp r i.d (wU (i.imm*1024))) st (pc+4) hst (uc hx.h0)
theorem Bf(e:Me)(s:Mm)(n:Nat)(hs:MO s n)(i:Qi)(pc:Int)(r:Int→Int)(st:Int)(hx:Stx s i pc r st)(ho:i.op=48):
  aN prog 115 [.agg (sR pc r st).toArray,Pt e.m] [aO e.m 157 (mR e),own 5 1 bJ (sv e.vd) (s).d,own 5 1 bJ (sv e.vi) (s).i,own 3 1 eI (sv e.vr) (s).r] [] (.agg (oC pc r st 4 i.imm).toArray) [aO e.m 157 (mR e),own 5 1 bJ (sv e.vd) (s).d,own 5 1 bJ (sv e.vi) (s).i,own 3 1 eI (sv e.vr) (s).r]:=by
 have hdd:=hx.f.hv.d;have haa:=hx.f.hv.a;have hbb:=hx.f.hv.b;have him:=hx.f.imm;have hpp:=hx.f.p;have hp2:=hx.p;have hst:=hx.hst;have hk:iL i.op=0:=by rw [ho];rfl
 refine fF e s n hs i pc r st hx fun w0 M H b2 b4 b6 b7=> ?_
 refine bv (X:=Unit) (fun _=>False) (fun _=> []) (fun _=> []) (fun _=> []) ?_ (fun _ hF=> ?_)
 ·refine aC ?_;refine mB (by omega) (mA hk (nK (by omega) (qp (by omega) (nj (by omega) (tB (by omega) (xB (by omega) (CZ (by omega) ?_)))))));refine am (aA b_ J (aL 6 t3 J J J J (ap J J bj (ao J (aa (ai J (fun h1=> ?_) (fun h1=> ?_)))))))
  ·(try simp only [aX]at h1);refine am (aJ (aM lX J J J (bh (k:=2) J)) (aA dq J (aL 6 dy J J J J (ae (xs:= [.tmp 208,.const (I6 4),.tmp 210]) (lW pc r st 4 i.imm) GA [] [] [] (fun _ _=>aq (k:=4) kM J J J J J J (aa (ar (aG () O J (bU (be kM J J J (bh (k:=4) J))) J [20,21,22,23] [] J J J))))))))
  ·(exfalso;have h0:=h1;revert h0;simp;try omega)
 ·exact hF.elim
theorem Bl(e:Me)(s:Mm)(n:Nat)(hs:MO s n)(i:Qi)(pc:Int)(r:Int→Int)(st:Int)(hx:Stx s i pc r st)(ho:i.op=49):
  aN prog 115 [.agg (sR pc r st).toArray,Pt e.m] [aO e.m 157 (mR e),own 5 1 bJ (sv e.vd) (s).d,own 5 1 bJ (sv e.vi) (s).i,own 3 1 eI (sv e.vr) (s).r] [] (.agg (oC pc r st 3 0).toArray) [aO e.m 157 (mR e),own 5 1 bJ (sv e.vd) (s).d,own 5 1 bJ (sv e.vi) (s).i,own 3 1 eI (sv e.vr) (s).r]:=by
 have hdd:=hx.f.hv.d;have haa:=hx.f.hv.a;have hbb:=hx.f.hv.b;have him:=hx.f.imm;have hpp:=hx.f.p;have hp2:=hx.p;have hst:=hx.hst;have hk:iL i.op=0:=by rw [ho];rfl
 refine fF e s n hs i pc r st hx fun w0 M H b2 b4 b6 b7=> ?_
 refine bv (X:=Unit) (fun _=>False) (fun _=> []) (fun _=> []) (fun _=> []) ?_ (fun _ hF=> ?_)
 ·refine aC ?_;refine mB (by omega) (mA hk (nK (by omega) (qp (by omega) (nj (by omega) (tB (by omega) (xB (by omega) (CZ (by omega) (Ix (by omega) ?_))))))));refine am (aA b_ J (aL 6 t3 J J J J (ap J J bj (ao J (aa (ai J (fun h1=> ?_) (fun h1=> ?_)))))))
  ·(try simp only [aX]at h1);refine am (aJ (aM lX J J J (bh (k:=2) J)) (ae (xs:= [.tmp 216,.const (I6 3),.const (I3 0)]) (lW pc r st 3 0) GA [] [] [] (fun _ _=>aq (k:=4) kM J J J J J J (aa (ar (aG () O J (bU (be kM J J J (bh (k:=4) J))) J [20,21,22,23] [] J J J))))))
  ·(exfalso;have h0:=h1;revert h0;simp;try omega)
 ·exact hF.elim
theorem np(n:Int):wU n=n%4294967296:=by
 unfold wU;simp [IntKind.wrap,IntKind.signed,IntKind.bits]
theorem Mt{a b:Int}(ha:oW a)(hb:oW b):bits .xor .u32 a b=((a.toNat^^^b.toNat:Nat):Int):=by
 have h1:bits .xor .u32 a b=IntKind.u32.wrap (((BitVec.ofInt 32 a^^^BitVec.ofInt 32 b).toNat:Nat):Int):=J;have h2:∀x:Int,oW x→(BitVec.ofInt 32 x).toNat=x.toNat:=fun x hx=>by
  rw [BitVec.toNat_ofInt,Int.emod_eq_of_lt hx.1 (by have:=hx.2;omega)]
 have h3:=(BitVec.ofInt 32 a^^^BitVec.ofInt 32 b).isLt;rw [h1,bw (by omega),BitVec.toNat_xor,h2 a ha,h2 b hb]
theorem DT{a b:Int}(ha:oW a)(hb:oW b):0<bits .xor .u32 a b↔¬a=b:=by
 rw [Mt ha hb];have h:a.toNat^^^b.toNat=0→a.toNat=b.toNat:=fun h=>by
  have h2:(a.toNat^^^b.toNat)^^^b.toNat=a.toNat:=by rw [Nat.xor_assoc,Nat.xor_self,Nat.xor_zero]
  rw [h,Nat.zero_xor]at h2;exact h2.symm
 have h1:=ha.1;have h2:=hb.1;constructor
 ·intro hx e;subst e;rw [Nat.xor_self]at hx;omega
 ·intro hn;have:¬(a.toNat^^^b.toNat=0):=fun e=>hn (by have:=h e;omega)
  omega
theorem DV{a:Int}(ha:oW a):bits .xor .u32 a 4294967295=4294967295-a:=by
 have h1:bits .xor .u32 a 4294967295=IntKind.u32.wrap (((BitVec.ofInt 32 a^^^BitVec.ofInt 32 4294967295).toNat:Nat):Int):=J;have h2:BitVec.ofInt 32 4294967295=BitVec.allOnes 32:=by decide
 rw [h1,h2,BitVec.xor_allOnes,BitVec.toNat_not,BitVec.toNat_ofInt];have h4:=ha.1;have h5:=ha.2;have h3:(a%((2^32:Nat):Int)).toNat=a.toNat:=by
  rw [Int.emod_eq_of_lt ha.1 (by omega)]
 rw [h3,bw (by omega)];omega
theorem MP{x y:Int}(hx:oW x)(hx2:x%1024=0)(hy:0≤y∧y<1024):bits .or .u32 x y=x+y:=by
 have h1:bits .or .u32 x y=IntKind.u32.wrap (((BitVec.ofInt 32 x ||| BitVec.ofInt 32 y).toNat:Nat):Int):=J;have h2:∀x:Int,oW x→(BitVec.ofInt 32 x).toNat=x.toNat:=fun x hx=>by
  rw [BitVec.toNat_ofInt,Int.emod_eq_of_lt hx.1 (by have:=hx.2;omega)]
 have h3:=(BitVec.ofInt 32 x ||| BitVec.ofInt 32 y).isLt;have h4:=hx.1;have h5:=hx.2;rw [h1,bw (by omega),BitVec.toNat_or,h2 x hx,h2 y ⟨hy.1,by omega⟩];have e:x.toNat=2^10*(x.toNat/2^10):=by omega
 rw [e,←Nat.two_pow_add_eq_or_of_lt (show y.toNat<2^10 by omega)];omega
theorem Jt(b:Bool):bits .xor .u32 (tr b) 1=tr (!b):=by cases b<;>rfl
structure Kr(ks:List Int)(c c':Qs):Prop where
 m:c'.m=c.m
 i:c'.inp=c.inp
 o:c'.out=c.out
 r:∀k,k∉ks→c'.r k=c.r k
theorem dt{r:Int→Int}{d v:Int}(h:d≠0):rp r d v d=v:=ak ⟨rfl,h⟩
theorem ce{r:Int→Int}{d v k:Int}(h:k≠d):rp r d v k=r k:=ac fun e=>h e.1
theorem dM{r:Int→Int}{d v:Int}{ks:List Int}(h:d∈ks):∀k,k∉ks→rp r d v k=r k:=fun k hk=>ce fun e=>hk (e▸h)
section
variable{code:List Qi}
theorem iw{n:Int}{c:Qs}{P:Qs→Prop}{op d a b:Int}{p:Nat}{v:Int}(hpc:c.pc=p)(h:code[p]?=some (q3 op d a b))(h2:vL op (c.r a) (c.r b)=some v)
  (h3:∀c',c'.pc=p+1→c'.r=rp c.r d v→c'.m=c.m→c'.inp=c.inp→c'.out=c.out→Go code (n-1) c' P) (ho:op<16:=by decide):Go code n c P:=
 Cs (i:=q3 op d a b) (hpc▸h) (by rw [ak (show(q3 op d a b).op<16 from ho)];exact h2) (h3 _ (by rw [←hpc]) rfl rfl rfl rfl)
theorem iN{n:Int}{c:Qs}{P:Qs→Prop}{op d a x:Int}{p:Nat}{v:Int}(hpc:c.pc=p)(h:code[p]?=some (qi op d a x))(h2:vL op (c.r a) x=some v)
  (h3:∀c',c'.pc=p+1→c'.r=rp c.r d v→c'.m=c.m→c'.inp=c.inp→c'.out=c.out→Go code (n-1) c' P) (ho:¬op<16:=by decide):Go code n c P:=
 Cs (i:=qi op d a x) (hpc▸h) (by rw [ac (show ¬(qi op d a x).op<16 from ho)];exact h2) (h3 _ (by rw [←hpc]) rfl rfl rfl rfl)
theorem J5{p:Nat}{c:Qs}{o:Ba}{a b:Int}(hb:ja o=true)(hc:cAt code p (zv o))(hl:p<9000)(hpc:c.pc=p)(h0:c.r 0=0)(h2:c.r 2=a)(h1:c.r 1=b)(ha:oW a)(hw:oW b):
  Go code 5 c fun c'=>c'.pc=p+(zv o).length∧c'.r 1=(IP o a b).getD 0∧Kr [1,3] c c':=by
 have one:∀{op x y:Int}{v:Int},cAt code p [q3 op 1 x y]→op<16→vL op (c.r x) (c.r y)=some v→Go code 5 c fun c'=>c'.pc=p+1∧c'.r 1=v∧Kr [1,3] c c':=fun{op x y v} hc ho hv=>
  iw hpc hc.head.1 (v:=v) hv (fun c' e1 e2 e3 e4 e5=>Go.done (by decide) ⟨e1,by rw [e2];exact dt (by decide),e3,e4,e5,by rw [e2];exact dM (by decide)⟩) ho
 have two:∀{op x y:Int}{v:Bool},cAt code p [q3 op 1 x y,qi 19 1 1 1]→op<16→vL op (c.r x) (c.r y)=some (tr v)→Go code 5 c fun c'=>c'.pc=p+2∧c'.r 1=tr (!v)∧Kr [1,3] c c':=fun{op x y v} hc ho hv=>
  iw hpc hc.head.1 (v:=tr v) hv (fun c' e1 e2 e3 e4 e5=>
   iN e1 hc.head.2.head.1 (v:=tr (!v)) (by rw [←Jt v,e2];rfl) fun c2 f1 f2 f3 f4 f5=>Go.done (by decide) ⟨by rw [f1],by rw [f2];exact dt (by decide),f3.trans e3,f4.trans e4,f5.trans e5,fun k hk=>by rw [f2,dM (by decide) k hk,e2];exact dM (by decide) k hk⟩) ho
 have ne:∀{l:List Qi},cAt code p (q3 5 1 2 1::q3 11 1 0 1::l)→∀{P:Qs→Prop},(∀c',c'.pc=p+2→c'.r 1=tr (!decide (a=b))→Kr [1,3] c c'→Go code 3 c' P)→Go code 5 c P:=fun{l} hc{P} hP=>
  iw hpc hc.head.1 (v:=bits .xor .u32 a b) (by rw [←h2,←h1];rfl) fun c' e1 e2 e3 e4 e5=>
   iw e1 hc.head.2.head.1 (v:=tr (!decide (a=b))) (by
    show some (tr (decide (c'.r 0<c'.r 1)))=_;rw [e2,ce (by decide),h0,dt (by decide)];have:=DT ha hw;by_cases h:a=b
    ·rw [decide_eq_false (fun x=>this.1 x h),decide_eq_true h];rfl
    ·rw [decide_eq_true (this.2 h),decide_eq_false h];rfl) fun c2 f1 f2 f3 f4 f5=>
   hP c2 f1 (by rw [f2];exact dt (by decide)) ⟨f3.trans e3,f4.trans e4,f5.trans e5,fun k hk=>by rw [f2,dM (by decide) k hk,e2];exact dM (by decide) k hk⟩
 unfold ja at hb;obtain⟨q,hq⟩:=Option.isSome_iff_exists.1 hb;have hm:=List.mem_of_find?_eq_some hq;have he:=List.find?_some hq;have he:q.1=o:=by simpa using he
 subst he;simp only [lvL,List.mem_cons,List.not_mem_nil,or_false]at hm;rcases hm with rfl|rfl|rfl|rfl|rfl|rfl|rfl|rfl|rfl|rfl|rfl|rfl|rfl|rfl|rfl|rfl
 · -- remainder
  have hc':cAt code p [q3 1 3 1 0,qi 32 1 0 3,q3 10 3 2 1,q3 9 3 3 1,q3 2 1 2 3]:=hc;show Go code 5 c fun c'=>c'.pc=p+5∧c'.r 1=(if b=0 then a else a%b)∧Kr [1,3] c c'
  refine iw hpc hc'.head.1 (v:=b) (by
   show some (wU (c.r 1+c.r 0))=_;rw [h1,h0,Int.add_zero,fB hw]) fun c1 e1 e2 e3 e4 e5=> ?_
  refine tk (d:=1) (a:=0) (x:=3) (by rw [e1];exact hc'.head.2.head.1) ?_;rw [e2,ce (by decide),ce (by decide),h1,h0,e1];by_cases hz:b=0
  ·rw [ak hz,ak hz,k9 (q:=p+4) (by rw [show((p+4:Nat):Int)-((p+1:Nat):Int)=3 by omega];rfl) (by omega) (by omega)];refine iw (p:=p+4) J hc'.head.2.head.2.head.2.head.2.head.1 (v:=a) (by
    show some (wU (rp c.r 3 b 2-rp c.r 3 b 3))=_;rw [ce (by decide),dt (by decide),h2,hz,Int.sub_zero,fB ha]) fun c2 f1 f2 f3 f4 f5=> ?_
   refine Go.done (by decide) ⟨f1,by rw [f2];exact dt (by decide),f3.trans e3,f4.trans e4,f5.trans e5,fun k hk=> ?_⟩;rw [f2,dM (by decide) k hk];exact dM (by decide) k hk
  ·rw [ac hz,ac hz];have hq1:a/b*b+a%b=a:=Int.ediv_mul_add_emod a b;have hq2:=Int.emod_nonneg a hz;have hq3:=Int.emod_lt_of_pos a (b:=b) (by have:=hw.1;omega);have hq4:0≤a/b:=Int.ediv_nonneg ha.1 hw.1;have hq5:0≤a/b*b:=Int.mul_nonneg hq4 hw.1;have ha2:=ha.2;have hw2:=hw.2;refine iw (p:=p+2) J hc'.head.2.head.2.head.1 (v:=a/b) (by
    show(if rp c.r 3 b 1=0 then none else some (rp c.r 3 b 2/rp c.r 3 b 1))=_;rw [ce (by decide),ce (by decide),h1,h2,ac hz]) fun c2 f1 f2 f3 f4 f5=> ?_
   refine iw f1 hc'.head.2.head.2.head.2.head.1 (v:=a/b*b) (by
    show some (wU (c2.r 3*c2.r 1))=_;rw [f2];show some (wU (rp (rp c.r 3 b) 3 (a/b) 3*rp (rp c.r 3 b) 3 (a/b) 1))=_;rw [dt (by decide),ce (by decide),ce (by decide),h1,fB ⟨hq5,by omega⟩]) fun c3 g1 g2 g3 g4 g5=> ?_
   refine iw g1 hc'.head.2.head.2.head.2.head.2.head.1 (v:=a%b) (by
    show some (wU (c3.r 2-c3.r 3))=_;rw [g2,f2];show some (wU (rp (rp (rp c.r 3 b) 3 (a/b)) 3 (a/b*b) 2-rp (rp (rp c.r 3 b) 3 (a/b)) 3 (a/b*b) 3))=_;rw [dt (by decide),ce (by decide),ce (by decide),ce (by decide),h2,fB (by omega)];exact congrArg some (by omega)) fun c4 k1 k2 k3 k4 k5=> ?_
   refine Go.done (by decide) ⟨k1,by rw [k2];exact dt (by decide),((k3.trans g3).trans f3).trans e3,((k4.trans g4).trans f4).trans e4,((k5.trans g5).trans f5).trans e5,fun k hk=> ?_⟩;rw [k2,dM (by decide) k hk,g2,dM (by decide) k hk,f2,dM (by decide) k hk];exact dM (by decide) k hk
 · -- quotient
  have hc':cAt code p [qi 32 1 0 2,q3 10 1 2 1]:=hc;show Go code 5 c fun c'=>c'.pc=p+2∧c'.r 1=(if b=0 then 0 else a/b)∧Kr [1,3] c c'
  refine tk (d:=1) (a:=0) (x:=2) (by rw [hpc];exact hc'.head.1) ?_;rw [h1,h0,hpc];by_cases hz:b=0
  ·rw [ak hz,ak hz,k9 (q:=p+2) (by rw [show((p+2:Nat):Int)-(p:Int)=2 by omega];rfl) (by omega) (by omega)];exact Go.done (by decide) ⟨J,h1.trans hz,J,J,J,fun _ _=>J⟩
  ·rw [ac hz,ac hz];refine iw (p:=p+1) J hc'.head.2.head.1 (v:=a/b) (by
    show(if c.r 1=0 then none else some (c.r 2/c.r 1))=_;rw [h1,h2,ac hz]) fun c2 f1 f2 f3 f4 f5=> ?_
   exact Go.done (by decide) ⟨f1,by rw [f2];exact dt (by decide),f3,f4,f5,by rw [f2];exact dM (by decide)⟩
 ·exact one (op:=9) hc (by decide) (by rw [h2,h1];rfl)
 ·exact one (op:=2) hc (by decide) (by rw [h2,h1];rfl)
 ·exact one (op:=1) hc (by decide) (by rw [h2,h1];rfl)
 ·exact one (op:=7) hc (by decide) (by rw [h2,h1];rfl)
 ·exact one (op:=6) hc (by decide) (by rw [h2,h1];rfl)
 · -- at least
  have:=two (op:=11) (x:=2) (y:=1) (v:=decide (a<b)) hc (by decide) (by rw [h2,h1];rfl);show Go code 5 c fun c'=>c'.pc=p+2∧c'.r 1=tr (decide (a≥b))∧Kr [1,3] c c'
  rw [show decide (a≥b)= !decide (a<b) by rw [←decide_not];exact decide_eq_decide.2 (by omega)];exact this
 ·exact one (op:=11) (v:=tr (decide (b<a))) hc (by decide) (by rw [h2,h1];rfl)
 · -- at most
  have:=two (op:=11) (x:=1) (y:=2) (v:=decide (b<a)) hc (by decide) (by rw [h2,h1];rfl);show Go code 5 c fun c'=>c'.pc=p+2∧c'.r 1=tr (decide (a≤b))∧Kr [1,3] c c'
  rw [show decide (a≤b)= !decide (b<a) by rw [←decide_not];exact decide_eq_decide.2 (by omega)];exact this
 ·exact one (op:=11) hc (by decide) (by rw [h2,h1];rfl)
 ·exact ne (l:= []) hc fun c' e1 e2 e3=>Go.done (by decide) ⟨e1,e2,e3⟩
 · -- equal
  have hc':cAt code p [q3 5 1 2 1,q3 11 1 0 1,qi 19 1 1 1]:=hc;refine ne hc' fun c' e1 e2 e3=>iN e1 hc'.head.2.head.2.head.1 (v:=tr (decide (a=b))) (by
   show some (bits .xor .u32 (c'.r 1) 1)=_;rw [e2,Jt,Bool.not_not]) fun c2 f1 f2 f3 f4 f5=> ?_
  exact Go.done (by decide) ⟨f1,by rw [f2];exact dt (by decide),f3.trans e3.m,f4.trans e3.i,f5.trans e3.o,fun k hk=>by rw [f2,dM (by decide) k hk];exact e3.r k hk⟩
 ·exact one (op:=3) hc (by decide) (by rw [h2,h1];rfl)
 ·exact one (op:=5) hc (by decide) (by rw [h2,h1];rfl)
 ·exact one (op:=4) hc (by decide) (by rw [h2,h1];rfl)
theorem JD{p:Nat}{c:Qs}{o:Ba}{a:Int}(hb:cU o AO=true)(hc:cAt code p (AN o))(hpc:c.pc=p)(h0:c.r 0=0)(h1:c.r 1=a)(ha:oW a):
  Go code 2 c fun c'=>c'.pc=p+(AN o).length∧c'.r 1=(I_ o a).getD 0∧Kr [1,2] c c':=by
 have two:∀{op x v:Int},cAt code p [qi 16 2 0 x,q3 op 1 1 2]→oW x→op<16→vL op a x=some v→Go code 2 c fun c'=>c'.pc=p+2∧c'.r 1=v∧Kr [1,2] c c':=fun{op x v} hc hx ho hv=>
  iN hpc hc.head.1 (v:=x) (by
   show some (wU (c.r 0+x))=_;rw [h0,Int.zero_add,fB hx]) fun c' e1 e2 e3 e4 e5=>
   iw e1 hc.head.2.head.1 (v:=v) (by
    rw [e2];show vL op (rp c.r 2 x 1) (rp c.r 2 x 2)=_;rw [ce (by decide),dt (by decide),h1];exact hv) (fun c2 f1 f2 f3 f4 f5=>Go.done (by decide) ⟨f1,by rw [f2];exact dt (by decide),f3.trans e3,f4.trans e4,f5.trans e5,fun k hk=>by rw [f2,dM (by decide) k hk,e2];exact dM (by decide) k hk⟩) ho
 unfold cU at hb;obtain⟨q,hm,he⟩:=List.any_eq_true.1 hb;have he:o=q:=by simpa using he
 subst he;simp only [AO,List.mem_cons,List.not_mem_nil,or_false]at hm;rcases hm with rfl|rfl|rfl
 ·have hc':cAt code p [q3 2 1 0 1]:=hc;refine iw hpc hc'.head.1 (v:=wU (-a)) (by
   show some (wU (c.r 0-c.r 1))=_;rw [h0,h1,Int.zero_sub]) fun c' e1 e2 e3 e4 e5=>Go.done (by decide) ⟨e1,by rw [e2];exact dt (by decide),e3,e4,e5,by rw [e2];exact dM (by decide)⟩
 ·exact two (op:=5) hc (by decide) (by decide) (show some (bits .xor .u32 a 4294967295)=some (4294967295-a) by rw [DV ha])
 ·refine two (op:=11) hc (by decide) (by decide) ?_;show some (tr (decide (a<1)))=some (tr (decide (a=0)));have:=ha.1;rw [show decide (a<1)=decide (a=0)from decide_eq_decide.2 (by omega)]
theorem HI{p:Nat}{c:Qs}{n:Int}(hc:cAt code p (nM n))(hpc:c.pc=p)(h0:c.r 0=0)(ha:oW n):
  Go code 2 c fun c'=>c'.pc=p+(nM n).length∧c'.r 1=n∧Kr [1] c c':=by
 unfold nM at hc ⊢;by_cases h:gU n=true
 ·rw [ak h]at hc ⊢;exact iN hpc hc.head.1 (v:=n) (by
   show some (wU (c.r 0+n))=_;rw [h0,Int.zero_add,fB ha]) fun c' e1 e2 e3 e4 e5=>Go.done (by decide) ⟨e1,by rw [e2];exact dt (by decide),e3,e4,e5,by rw [e2];exact dM (by decide)⟩
 ·rw [ac h]at hc ⊢;have h1:=ha.1;have h2:=ha.2;refine Id (d:=1) (a:=0) (x:=n/1024) (by rw [hpc];exact hc.head.1) ?_;rw [fB (by omega)];refine iN (p:=p+1) (by rw [←hpc]) hc.head.2.head.1 (v:=n) (by
   show some (bits .or .u32 (rp c.r 1 (n/1024*1024) 1) (n%1024))=_;rw [dt (by decide),MP ⟨by omega,by omega⟩ (by omega) (by omega)];exact congrArg some (by omega)) fun c' e1 e2 e3 e4 e5=>Go.done (by decide) ⟨e1,by rw [e2];exact dt (by decide),e3,e4,e5,fun k hk=>by
    rw [e2,dM (by decide) k hk];exact dM (by decide) k hk⟩
end
theorem IW{b:Int}(hb:oW b):bits .and .u32 b 255=b%256:=by
 have h1:bits .and .u32 b 255=IntKind.u32.wrap (((BitVec.ofInt 32 b&&&BitVec.ofInt 32 255).toNat:Nat):Int):=J;have h4:=hb.1;have h5:=hb.2;have h2:(BitVec.ofInt 32 b).toNat=b.toNat:=by
  rw [BitVec.toNat_ofInt,Int.emod_eq_of_lt hb.1 (by omega)]
 have h3:(BitVec.ofInt 32 255).toNat=2^8-1:=by decide
 rw [h1,BitVec.toNat_and,h2,h3,Nat.and_two_pow_sub_one_eq_mod,bw (by omega)];omega
structure St(d F sp:Int)(c:Qs):Prop where
 z:c.r 0=0
 d:c.r 12=d
 f:c.r 13=F
 s:c.r 14=sp
theorem St.of{d F sp:Int}{c c':Qs}(h:St d F sp c)(hk:∀k:Int,k=0∨k=12∨k=13∨k=14→c'.r k=c.r k):St d F sp c':=
 ⟨(hk 0 (by simp)).trans h.z,(hk 12 (by simp)).trans h.d,(hk 13 (by simp)).trans h.f,(hk 14 (by simp)).trans h.s⟩
theorem St.kr{d F sp:Int}{c c':Qs}{ks:List Int}(h:St d F sp c)(hk:Kr ks c c')(hn:∀k∈ks,¬(k=0∨k=12∨k=13∨k=14)):St d F sp c':=
 h.of fun k hk'=>hk.r k fun hm=>hn k hm hk'
structure pSm(c:Qs)(s:Ms):Prop where
 m:∀i:Nat,i<256→c.m (8192+4*(i:Int))=s.mem i
 i:c.inp=s.inp
 o:c.out=s.out
theorem pSm.kr{c c':Qs}{s:Ms}{ks:List Int}(h:pSm c s)(hk:Kr ks c c'):pSm c' s:=⟨fun i hi=>by rw [hk.m];exact h.m i hi,hk.i.trans h.i,hk.o.trans h.o⟩
def va(o:Om)(F:Int)(x:Ba):Int:=wU (F+bn o x)
structure Fs(o:Om)(N:List Ba)(F sp:Int):Prop where
 ok:∀x∈N,yx (va o F x)∧sp≤va o F x
 inj:∀x∈N,∀y∈N,va o F x=va o F y→x=y
def Fr(o:Om)(N:List Ba)(vs:Vs)(F:Int)(m:Int→Int):Prop:=∀x∈N,m (va o F x)=oL vs x
def lo(d:Nat):Int:=16384-256*d
structure Pr(o:Om)(N:List Ba)(vs:Vs)(d:Nat)(F sp:Int)(s:Ms)(c:Qs):Prop where
 st:St d F sp c
 fs:Fs o N F sp
 fr:Fr o N vs F c.m
 sm:pSm c s
 ok:okMs s
 vs:okVs vs
 al:sp%4=0∧sp≤16384
 fu:0≤s.fuel
 d1:1≤d∧d≤12
structure XO(fs:List Tf)(N:List Ba)(t:Tx):Prop where
 g:GX t
 r:rX t=true
 e:eX fs N t=0
theorem XO.kids{fs:List Tf}{N:List Ba}{k n:Int}{nm:Ba}{v:SV}{kids:List Tx}(h:XO fs N (.mk k n nm v kids)):∀u∈kids,XO fs N u:=by
 have hr:=h.r;have he:=h.e;have hg:=h.g;have hr2:(rE k nm kids.length&&(decide (k=1) || decide (n=0))&&oh kids)=true:=hr;simp only [Bool.and_eq_true]at hr2;have he2:jE fs N kids=0:=(bc.1 he).2;have hg2:GXs kids:=hg.2.2.2;clear he hr hg h;have:∀l:List Tx,GXs l→oh l=true→jE fs N l=0→∀u∈l,XO fs N u:=by
  intro l
  induction l with
  | nil=>intro _ _ _ u hu;simp at hu
  | cons t l ih=>
   intro h1 h2 h3 u hu;have h2':(rX t&&oh l)=true:=h2;rw [Bool.and_eq_true]at h2';obtain⟨h4,h5⟩:=bc.1 h3;rcases List.mem_cons.1 hu with rfl|hu
   ·exact⟨h1.1,h2'.1,h4⟩
   ·exact ih h1.2 h2'.2 h5 u hu
 exact this kids hg2 hr2.2 he2
theorem Pr.of{o:Om}{N:List Ba}{vs:Vs}{d:Nat}{F sp sp':Int}{s s':Ms}{c c':Qs}(h:Pr o N vs d F sp s c)(hst:St d F sp' c')(hsm:pSm c' s')(hok:okMs s')(hfu:0≤s'.fuel)(hm:∀a,sp≤a→c'.m a=c.m a)(hs:sp'≤sp)(ha:sp'%4=0):
  Pr o N vs d F sp' s' c':=
 ⟨hst,⟨fun x hx=>⟨(h.fs.ok x hx).1,Int.le_trans hs (h.fs.ok x hx).2⟩,h.fs.inj⟩,fun x hx=>(hm _ (h.fs.ok x hx).2).trans (h.fr x hx),hsm,hok,h.vs,⟨ha,by have:=h.al;omega⟩,hfu,h.d1⟩
theorem Pr.pay{o:Om}{N:List Ba}{vs:Vs}{d:Nat}{F sp:Int}{s:Ms}{c:Qs}(h:Pr o N vs d F sp s c)(hf:¬s.fuel≤0):Pr o N vs d F sp {s with fuel:=s.fuel-1} c:=
 ⟨h.st,h.fs,h.fr,⟨h.sm.m,h.sm.i,h.sm.o⟩,(Kp.pay h.ok hf).ok,h.vs,h.al,by dsimp only;omega,h.d1⟩
def Bk(code:List Qi)(c:Qs):Prop:=code[c.pc]?=some ⟨49,0,0,0,0⟩
def XR(code:List Qi)(p':Nat)(d:Nat)(F sp:Int)(c:Qs)(s:Ms):Re Int→Prop
 | .ok v s1=>0≤s1.fuel∧Go code (100*(s.fuel-s1.fuel)-40) c fun c'=>c'.pc=p'∧c'.r 1=v∧St d F sp c'∧pSm c' s1∧∀a,sp≤a→c'.m a=c.m a
 | .err e=>e=26→Go code (100*s.fuel+50) c (Bk code)
def KR(code:List Qi)(p':Nat)(d:Nat)(F sp:Int)(c:Qs)(s:Ms)(acc:List Int)(n:Nat):Re (List Int)→Prop
 | .ok ks s1=>0≤s1.fuel∧∃new,ks=acc++new∧new.length=n∧Go code (100*(s.fuel-s1.fuel)) c fun c'=>c'.pc=p'∧St d F (sp-4*(n:Int)) c'∧pSm c' s1∧(∀a,sp≤a→c'.m a=c.m a)∧∀(i:Nat) x,new[i]?=some x→c'.m (sp-4*((i:Int)+1))=x
 | .err e=>e=26→Go code (100*s.fuel+50) c (Bk code)
def CR(code:List Qi)(q:Nat)(d:Nat)(F sp:Int)(n:Nat)(c:Qs)(s:Ms):Re Int→Prop
 | .ok v s1=>0≤s1.fuel∧Go code (100*(s.fuel-s1.fuel)+45) c fun c'=>c'.pc=q∧c'.r 1=v∧St d F sp c'∧pSm c' s1∧∀a,sp+4*(n:Int)≤a→c'.m a=c.m a
 | .err e=>e=26→Go code (100*s.fuel+100) c (Bk code)
section
variable(code:List Qi)(fs:List Tf)(S:Ba→Int)
def HX(g:Nat):Prop:=∀(d:Nat) vs t s r,ju g fs d vs t s=some r→∀o N p F sp c,XO fs N t→cAt code p (zX o S t p)→p+wX t≤1984→c.pc=p→Pr o N vs d F sp s c→lo d+16*dX t≤sp→XR code (p+wX t) d F sp c s r
def HK(g:Nat):Prop:=∀(d:Nat) vs acc l s r,jM g fs d vs acc l s=some r→∀o N p F sp c,(∀u∈l,XO fs N u)→cAt code p (wa o S l p)→p+qG l≤1984→c.pc=p→Pr o N vs d F sp s c→lo d+16*gN l+4*l.length≤sp→KR code (p+qG l) d F sp c s acc l.length r
def HC(g:Nat):Prop:=∀(d:Nat) f al s r,qV g fs d f al s=some r→∀F sp c q,cK fs f.name=some f→al.length=f.ps.length→(∀a∈al,oW a)→c.pc=(S f.name).toNat→c.r 15=gT q→q<3000→St d F sp c→pSm c s→okMs s→0≤s.fuel→
 sp%4=0→sp+4*al.length≤16384→lo d≤sp→d≤12→(∀(i:Nat) x,al[i]?=some x→c.m (sp+4*((al.length:Int)-1-i))=x)→CR code q d F sp al.length c s r
end
theorem uO{g:Nat}{fs:List Tf}{d:Nat}{vs:Vs}{acc:List Int}{t:Tx}{l:List Tx}{s:Ms}{r:Re (List Int)}(h:jM g fs d vs acc (t::l) s=some r):
  ∃g' rx,g'<g∧ju g' fs d vs t s=some rx∧((∃v s1,rx= .ok v s1∧jM g' fs d vs (acc++ [v]) l s1=some r)∨∃e,rx= .err e∧r= .err e):=by
 cases g with
 | zero=>simp [jM]at h
 | succ g=>
  rw [jM]at h;cases hx:ju g fs d vs t s with
  | none=>rw [hx]at h;simp at h
  | some q=>
   rw [hx]at h;refine⟨g,q,Nat.lt_succ_self g,hx,?_⟩;cases q with
   | err e=>exact .inr ⟨e,rfl,(dv h).symm⟩
   | ok v s1=>exact .inl ⟨v,s1,rfl,h⟩
theorem xc{g:Nat}{fs:List Tf}{d:Nat}{vs:Vs}{acc:List Int}{s:Ms}{r:Re (List Int)}(h:jM g fs d vs acc [] s=some r):r= .ok acc s:=by
 cases g with
 | zero=>simp [jM]at h
 | succ g=>rw [jM]at h;exact(dv h).symm
section
variable{code:List Qi}{c:Qs}{p:Nat}{d F sp:Int}
theorem kp{r:Int}(hc:cAt code p (eO r))(hpc:c.pc=p)(h:St d F sp c)(hr:r≠14)(hs:8196≤sp∧sp≤16384∧sp%4=0):
  Go code 2 c fun c'=>c'.pc=p+2∧St d F (sp-4) c'∧c'.m=mw c.m (sp-4) (c.r r)∧c'.inp=c.inp∧c'.out=c.out∧∀k,k≠14→c'.r k=c.r k:=by
 refine iN hpc hc.head.1 (v:=sp-4) (by
  show some (wU (c.r 14+4294967292))=_;rw [h.s,np];exact congrArg some (by omega)) fun c1 e1 e2 e3 e4 e5=> ?_
 have h14:c1.r 14=sp-4:=by rw [e2];exact dt (by decide)
 have hw:wU (c1.r 14+0)=sp-4:=by rw [h14,Int.add_zero,fB (by omega)]
 have hk:∀k,k≠14→c1.r k=c.r k:=fun k hk=>by rw [e2];exact ce hk
 refine xh (d:=r) (a:=14) (x:=0) (by rw [e1];exact hc.head.2.head.1) (by rw [hw];exact⟨by omega,by omega,by omega⟩) (Go.done (by decide) ⟨by show c1.pc+1=_;rw [e1],⟨(hk 0 (by decide)).trans h.z,(hk 12 (by decide)).trans h.d,(hk 13 (by decide)).trans h.f,h14⟩,?_,e4,e5,hk⟩);show mw c1.m (wU (c1.r 14+0)) (c1.r r)=_;rw [hw,e3,hk r hr]
theorem sQ{r:Int}(hc:cAt code p (jN r))(hpc:c.pc=p)(h:c.r 14=sp)(hr:r≠14∧r≠0)(hs:yx sp):
  Go code 2 c fun c'=>c'.pc=p+2∧c'.r r=c.m sp∧c'.r 14=sp+4∧Kr [r,14] c c':=by
 have hw:wU (c.r 14+0)=sp:=by rw [h,Int.add_zero,fB ⟨by have:=hs.1;omega,by have:=hs.2.1;omega⟩]
 refine xi (d:=r) (a:=14) (x:=0) (by rw [hpc];exact hc.head.1) (by rw [hw];exact hs) ?_;rw [hw];refine iN (p:=p+1) (by rw [←hpc]) hc.head.2.head.1 (v:=sp+4) (by
  show some (wU (rp c.r r (c.m sp) 14+4))=_;rw [ce (fun e=>hr.1 e.symm),h,fB ⟨by have:=hs.1;omega,by have:=hs.2.1;omega⟩]) fun c1 e1 e2 e3 e4 e5=> ?_
 refine Go.done (by decide) ⟨e1,by rw [e2,ce hr.1];exact dt hr.2,by rw [e2];exact dt (by decide),e3,e4,e5,fun k hk=> ?_⟩;simp only [List.mem_cons,List.not_mem_nil,or_false,not_or]at hk;rw [e2,ce hk.2];exact ce hk.1
theorem zf{r x:Int}(hc:cAt code p (rf r))(hpc:c.pc=p)(hr:r≠0)(h:c.r r=x)(hx:oW x):
  Go code 2 c fun c'=>c'.pc=p+2∧c'.r r=4*(x%256)∧Kr [r] c c':=by
 refine iN hpc hc.head.1 (v:=x%256) (by
  show some (bits .and .u32 (c.r r) 255)=_;rw [h,IW hx]) fun c1 e1 e2 e3 e4 e5=> ?_
 refine iN e1 hc.head.2.head.1 (v:=4*(x%256)) (by
  show some (wU (c1.r r*2^((2:Int)%32).toNat))=_;rw [e2,dt hr,show((2:Int)^((2:Int)%32).toNat)=4 from J,fB (by omega)];exact congrArg some (by omega)) fun c2 f1 f2 f3 f4 f5=> ?_
 refine Go.done (by decide) ⟨f1,by rw [f2];exact dt hr,f3.trans e3,f4.trans e4,f5.trans e5,fun k hk=> ?_⟩;simp only [List.mem_cons,List.not_mem_nil,or_false]at hk;rw [f2,ce hk,e2];exact ce hk
end
theorem Bw{r:Int→Int}{v k:Int}:rp r 0 v k=r k:=ac fun h=>h.2 rfl
theorem rJ{d:Nat}(h:d≤12):13312≤lo d:=by unfold lo;omega
theorem i_{m:Int→Int}{a v k:Int}(h:k≠a):mw m a v k=m k:=ac h
theorem nD{m:Int→Int}{a v:Int}:mw m a v a=v:=ak rfl
theorem pSm.push{c c':Qs}{s:Ms}{a v:Int}(h:pSm c s)(hm:c'.m=mw c.m a v)(hi:c'.inp=c.inp)(ho:c'.out=c.out)(ha:9216≤a):pSm c' s:=
 ⟨fun i hi=>by rw [hm,i_ (by omega)];exact h.m i hi,hi.trans h.i,ho.trans h.o⟩
section
variable{code:List Qi}{fs:List Tf}{S:Ba→Int}{c:Qs}{p:Nat}{d:Nat}{F sp:Int}{o:Om}{N:List Ba}{vs:Vs}{s:Ms}
theorem FN{g1 g2:Nat}{a b:Tx}{nm:Ba}{r1:Re Int}{w:Nat}(hF:VF fs)(h1:HX code fs S g1)(h2:HX code fs S g2)(hb:ja nm=true)(ha:ju g1 fs d vs a s=some r1)(hva:VX fs a)(hvb:VX fs b)
  (hxa:XO fs N a) (hxb:XO fs N b) (hc:cAt code p (zX o S a p++(eO 1++(zX o S b (p+(zX o S a p).length+2)++(jN 2++zv nm))))) (hw:w=wX a+(wX b+(4+(zv nm).length))) (hl:p+w≤1984) (hpc:c.pc=p) (hp:Pr o N vs d F sp s c) (hs1:lo d+16*dX a≤sp) (hs2:lo d+16*dX b+4≤sp)
  {r:Re Int} (hr:(∃v s1,r1= .ok v s1∧∃r2,ju g2 fs d vs b s1=some r2∧((∃x s2,r2= .ok x s2∧r= .ok ((IP nm v x).getD 0) s2)∨∃e,r2= .err e∧r= .err e))∨∃e,r1= .err e∧r= .err e):
  XR code (p+w) d F sp c s r:=by
 have hd:=rJ hp.d1.2;obtain⟨hca,hc⟩:=hc.app;obtain⟨hcp,hc⟩:=hc.app;obtain⟨hcb,hc⟩:=hc.app;obtain⟨hcq,hco⟩:=hc.app;rw [fK]at hcp hcb hcq hco;rw [fK]at hcq hco;have hX:=h1 d vs a s r1 ha o N p F sp c hxa hca (by omega) hpc hp hs1;rcases hr with⟨v,s1,rfl,r2,hb2,hr⟩|⟨e,rfl,rfl⟩
 ·obtain⟨hv,hk1⟩:=(jD hF g1).x d vs a s v s1 hva hp.vs hp.ok ha;obtain⟨hf1,hX⟩:=hX;have mid:∀c',(c'.pc=p+wX a∧c'.r 1=v∧St d F sp c'∧pSm c' s1∧∀x,sp≤x→c'.m x=c.m x)→Go code 2 c' fun c2=>c2.pc=p+wX a+2∧Pr o N vs d F (sp-4) s1 c2∧c2.m (sp-4)=v∧∀x,sp≤x→c2.m x=c.m x:=fun c' ⟨e1,e2,e3,e4,e5⟩=>
   (kp hcp e1 e3 (by decide) ⟨by omega,hp.al.2,hp.al.1⟩).weak (fun c2 ⟨f1,f2,f3,f4,f5,f6⟩=>by
    have hm:∀x,sp≤x→c2.m x=c.m x:=fun x hx=>by rw [f3,i_ (by omega)];exact e5 x hx
    exact⟨f1,hp.of f2 (e4.push f3 f4 f5 (by omega)) hk1.ok hf1 hm (by omega) (by have:=hp.al;omega),by rw [f3,nD,e2],hm⟩) (Int.le_refl _)
  have hX2:=hX.seq mid (k:=100*(s.fuel-s1.fuel)-38) (by omega);rcases hr with⟨x,s2,rfl,rfl⟩|⟨e,rfl,rfl⟩
  ·obtain⟨hx,hk2⟩:=(jD hF g2).x d vs b s1 x s2 hvb hp.vs hk1.ok hb2;obtain⟨hf2,-⟩:0≤s2.fuel∧True:=by
    obtain⟨_,c2,_,_,e1,e2,e3,e4⟩:=hX2;have:=h2 d vs b s1 _ hb2 o N (p+wX a+2) F (sp-4) c2 hxb hcb (by omega) e1 e2 (by omega);exact⟨this.1,O⟩
   refine⟨hf2,hX2.seq (m:=100*(s1.fuel-s2.fuel)-33) (fun c2 ⟨e1,e2,e3,e4⟩=> ?_) (by omega)⟩;have hX3:=(h2 d vs b s1 _ hb2 o N (p+wX a+2) F (sp-4) c2 hxb hcb (by omega) e1 e2 (by omega)).2;refine hX3.seq (m:=7) (fun c3 ⟨f1,f2,f3,f4,f5⟩=> ?_) (by omega);refine(sQ (p:=p+wX a+2+wX b) (r:=2) hcq f1 f3.s (by decide) ⟨by omega,by have:=hp.al;omega,by have:=hp.al;omega⟩).seq (m:=5) (fun c4 ⟨g1,g2,g3,g4⟩=> ?_) (by omega);have h0:c4.r 0=0:=(g4.r 0 (by decide)).trans f3.z;have h2':c4.r 2=v:=by rw [g2,f5 _ (Int.le_refl _),e3]
   have h1':c4.r 1=x:=(g4.r 1 (by decide)).trans f2;refine(J5 (p:=p+wX a+2+wX b+2) hb hco (by omega) g1 h0 h2' h1' hv hx).weak (fun c5 ⟨k1,k2,k3⟩=>⟨by rw [k1];omega,k2,?_,(f4.kr g4).kr k3,fun a ha=> ?_⟩) (Int.le_refl _)
   ·exact⟨(k3.r 0 (by decide)).trans h0,((k3.r 12 (by decide)).trans (g4.r 12 (by decide))).trans f3.d,((k3.r 13 (by decide)).trans (g4.r 13 (by decide))).trans f3.f,((k3.r 14 (by decide)).trans g3).trans (by omega)⟩
   ·rw [k3.m,g4.m,f5 a (by omega),e4 a ha]
  ·intro he;refine hX2.seq (m:=100*s1.fuel+50) (fun c2 ⟨e1,e2,e3,e4⟩=> ?_) (by omega);exact h2 d vs b s1 _ hb2 o N (p+wX a+2) F (sp-4) c2 hxb hcb (by omega) e1 e2 (by omega) he
 ·exact hX
end
section
variable{code:List Qi}{fs:List Tf}{S:Ba→Int}
structure HA(code:List Qi)(fs:List Tf)(S:Ba→Int)(g:Nat):Prop where
 x:∀g'<g,HX code fs S g'
 k:∀g'<g,HK code fs S g'
 c:∀g'<g,HC code fs S g'
theorem XO.vx{N:List Ba}{t:Tx}(h:XO fs N t):VX fs t:=FQ t h.g h.r h.e
theorem XO.vxs{N:List Ba}:∀{l:List Tx},(∀u∈l,XO fs N u)→IZ fs l
 | [],_=>trivial
 | t::r,h=>⟨(h t (by simp)).vx,XO.vxs fun u hu=>h u (by simp [hu])⟩
theorem E0{g:Nat}(hF:VF fs)(ih:HA code fs S g):HK code fs S g:=by
 intro d vs acc l s r h o N p F sp c hx hc hl hpc hp hsp;have hd:=rJ hp.d1.2;cases l with
 | nil=>
  rw [xc h];refine⟨hp.fu,[],by simp,rfl,Go.done (by omega) ⟨by rw [hpc];rfl,?_,hp.sm,fun _ _=>rfl,fun i x hi=>by simp at hi⟩⟩;rw [show sp-4*(([]:List Tx).length:Int)=sp by simp];exact hp.st
 | cons t l=>
  obtain⟨g',rx,hg,hx1,hr⟩:=uO h;have hdx:gN (t::l)=max (dX t) (gN l):=J;have hw:qG (t::l)=wX t+(2+qG l):=J;have hc':cAt code p (zX o S t p++(eO 1++wa o S l (p+(zX o S t p).length+2))):=hc;obtain⟨hca,hc2⟩:=hc'.app;obtain⟨hcp,hcl⟩:=hc2.app;rw [fK]at hcp hcl;rw [ca]at hsp;have hX:=ih.x g' hg d vs t s rx hx1 o N p F sp c (hx t (by simp)) hca (by omega) hpc hp (by omega);rcases hr with⟨v,s1,rfl,h2⟩|⟨e,rfl,rfl⟩
  ·obtain⟨hv,hk1⟩:=(jD hF g').x d vs t s v s1 (hx t (by simp)).vx hp.vs hp.ok hx1;obtain⟨hf1,hX⟩:=hX;have mid:∀c',(c'.pc=p+wX t∧c'.r 1=v∧St d F sp c'∧pSm c' s1∧∀x,sp≤x→c'.m x=c.m x)→Go code 2 c' fun c2=>c2.pc=p+wX t+2∧Pr o N vs d F (sp-4) s1 c2∧c2.m (sp-4)=v∧∀x,sp≤x→c2.m x=c.m x:=fun c' ⟨e1,e2,e3,e4,e5⟩=>
    (kp hcp e1 e3 (by decide) ⟨by omega,hp.al.2,hp.al.1⟩).weak (fun c2 ⟨f1,f2,f3,f4,f5,f6⟩=>by
     have hm:∀x,sp≤x→c2.m x=c.m x:=fun x hx=>by rw [f3,i_ (by omega)];exact e5 x hx
     exact⟨f1,hp.of f2 (e4.push f3 f4 f5 (by omega)) hk1.ok hf1 hm (by omega) (by have:=hp.al;omega),by rw [f3,nD,e2],hm⟩) (Int.le_refl _)
   have hX2:=hX.seq mid (k:=100*(s.fuel-s1.fuel)-38) (by omega);have next:∀c2,(c2.pc=p+wX t+2∧Pr o N vs d F (sp-4) s1 c2∧c2.m (sp-4)=v∧∀x,sp≤x→c2.m x=c.m x)→KR code (p+wX t+2+qG l) d F (sp-4) c2 s1 (acc++ [v]) l.length r:=fun c2 ⟨e1,e2,e3,e4⟩=>
    ih.k g' hg d vs (acc++ [v]) l s1 r h2 o N (p+wX t+2) F (sp-4) c2 (fun u hu=>hx u (by simp [hu])) hcl (by omega) e1 e2 (by omega)
   cases r with
   | err e=>
    intro he;exact hX2.seq (fun c2 hc2=>next c2 hc2 he) (by omega)
   | ok ks s2=>
    obtain⟨_,c2,_,hrn,hP⟩:=id hX2;obtain⟨hf2,new,hn1,hn2,-⟩:=next c2 hP
    refine⟨hf2,v::new,by rw [hn1,List.append_assoc];rfl,by rw [ca,hn2,ca],hX2.seq (m:=100*(s1.fuel-s2.fuel)) (fun c2 hP=> ?_) (by omega)⟩;obtain⟨-,new',hm1,hm2,hG⟩:=next c2 hP
    have:new'=new:=List.append_cancel_left (hm1.symm.trans hn1);subst this;obtain⟨e1,e2,e3,e4⟩:=hP;refine hG.weak (fun c3 ⟨f1,f2,f3,f4,f5⟩=>⟨by rw [f1,hw];omega,?_,f3,fun a ha=>by rw [f4 a (by omega),e4 a ha],fun i x hi=> ?_⟩) (Int.le_refl _)
    ·rw [show sp-4*((t::l).length:Int)=sp-4-4*(l.length:Int) by rw [ca];omega];exact f2
    ·cases i with
     | zero=>
      cases hi;rw [show sp-4*(((0:Nat):Int)+1)=sp-4 by omega,f4 _ (Int.le_refl _),e3]
     | succ i=>
      have:=f5 i x hi;rw [show sp-4*(((i+1:Nat):Int)+1)=sp-4-4*((i:Int)+1) by omega];exact this
  ·exact hX
theorem HG{N:List Ba}{k n:Int}{nm:Ba}{v:SV}{kids:List Tx}(h:XO fs N (.mk k n nm v kids)):rE k nm kids.length=true:=by
 have hr2:(rE k nm kids.length&&(decide (k=1) || decide (n=0))&&oh kids)=true:=h.r;simp only [Bool.and_eq_true]at hr2;exact hr2.1.1
theorem EJ{N:List Ba}{n:Int}{nm:Ba}{v:SV}{kids:List Tx}(h:XO fs N (.mk 2 n nm v kids)):nm∈N:=by
 have he:=h.e;have he2:(if cU nm N=true then(0:Int)else 21)=0:=(bc.1 he).1;by_cases hm:cU nm N=true
 ·unfold cU at hm;obtain⟨q,h1,h2⟩:=List.any_eq_true.1 hm;have h2:nm=q:=by simpa using h2
  exact h2▸h1
 ·rw [ac hm]at he2;exact absurd he2 (by decide)
theorem AH{N:List Ba}{n:Int}{nm:Ba}{v:SV}{kids:List Tx}(h:XO fs N (.mk 3 n nm v kids)):∃f,cK fs nm=some f∧f.ps.length=kids.length:=by
 have he:=h.e;have he2:(match cK fs nm with|none=>(21:Int)|some f=>if f.ps.length=kids.length then 0 else 23)=0:=(bc.1 he).1;cases hf:cK fs nm with
 | none=>
  rw [hf]at he2;have he3:(21:Int)=0:=he2;exact absurd he3 (by decide)
 | some f=>
  rw [hf]at he2;refine⟨f,J,?_⟩;by_cases hq:f.ps.length=kids.length
  ·exact hq
  ·dsimp only at he2;rw [ac hq]at he2;exact absurd he2 (by decide)
theorem qh{fs:List Tf}{x:Ba}{f:Tf}(h:cK fs x=some f):f.name=x:=by
 have:=List.find?_some h;simpa using this
structure CP(code:List Qi)(fs:List Tf)(S:Ba→Int):Prop where
 pos:∀x f,cK fs x=some f→∃p:Nat,S x=(p:Int)∧p<3000
 ps:∀x f,cK fs x=some f→f.ps.length≤4
theorem EX{g:Nat}(hF:VF fs)(hC:CP code fs S)(ih:HA code fs S g):HX code fs S g:=by
 intro d vs t s r h o N p F sp c hx hc hl hpc hp hsp;have hd:=rJ hp.d1.2;cases g with
 | zero=>simp [ju]at h
 | succ g=>
  rw [ju]at h;by_cases hf:s.fuel≤0
  ·rw [ak hf]at h;cases h;intro e;exact absurd e (by decide)
  rw [ac hf]at h;have hp':=hp.pay hf;obtain⟨k,n,nm,v,kids⟩:=t;have hok:=HG hx;have hdx:dX (.mk k n nm v kids)=gN kids+1:=J;rw [hdx]at hsp;obtain⟨s',hs'⟩:∃s',s'={s with fuel:=s.fuel-1}:=⟨_,J⟩
  have hsf:s'.fuel=s.fuel-1:=by rw [hs']
  rw [←hs']at h hp';dsimp only [Tx.kids,Tx.kind,Tx.n,Tx.name]at h;have back:∀{r:Re Int}{p':Nat},XR code p' d F sp c s' r→XR code p' d F sp c s r:=fun{r p'} h=>by
   cases r with
   | ok v s1=>exact⟨h.1,h.2.weak (fun _ h=>h) (by omega)⟩
   | err e=>exact fun he=>(h he).weak (fun _ h=>h) (by omega)
  rcases rD hok with⟨rfl,hn⟩|⟨rfl,hn⟩|⟨rfl,hn⟩|rfl|⟨rfl,hn⟩|⟨rfl,hu,hn⟩|⟨rfl,hb,hn⟩
  · -- a number
   have:kids= []:=List.length_eq_zero_iff.1 hn;subst this;cases hk:jM g fs d vs [] [] s' with
   | none=>rw [hk]at h;simp at h
   | some q=>
    rw [hk]at h;have:=xc hk;subst this;cases h;have hc':cAt code p (nM n):=hc;refine⟨hp'.fu,(HI hc' hpc hp.st.z hx.g.1).weak (fun c' ⟨e1,e2,e3⟩=>⟨e1,e2,hp.st.kr e3 (by decide),hp'.sm.kr e3,fun a _=>by rw [e3.m]⟩) (by omega)⟩
  · -- an input
   have:kids= []:=List.length_eq_zero_iff.1 hn;subst this;cases hk:jM g fs d vs [] [] s' with
   | none=>rw [hk]at h;simp at h
   | some q=>
    rw [hk]at h;have:=xc hk;subst this;have hc':cAt code p [⟨48,0,0,0,2⟩]:=hc;have hgo:∀{v1:Int}{s1:Ms},s1.fuel=s'.fuel→s1.out=s'.out→s1.mem=s'.mem→c.inp.headD 0=v1→c.inp.tail=s1.inp→XR code (p+1) d F sp c s (.ok v1 s1):=fun{v1 s1} e1 e2 e3 e4 e5=>by
     refine⟨by rw [e1];exact hp'.fu,Ku (by rw [hpc];exact hc'.head.1) (Go.done (by omega) ⟨by rw [hpc],by show rp c.r 1 (c.inp.headD 0) 1=v1;rw [dt (by decide),e4],hp.st.of fun k hk=>ce (by omega),⟨fun i hi=>by rw [e3];exact hp'.sm.m i hi,e5,by rw [e2];exact hp'.sm.o⟩,fun _ _=>rfl⟩)⟩
    have hin:=hp'.sm.i;cases hi:s'.inp with
    | nil=>
     rw [hi]at hin;simp only [hi]at h;cases h;exact hgo J J J (by rw [hin];rfl) (by rw [hin,hi];rfl)
    | cons a r1=>
     rw [hi]at hin;simp only [hi]at h;cases h;exact hgo J J J (by rw [hin];rfl) (by rw [hin];rfl)
  · -- a name
   have:kids= []:=List.length_eq_zero_iff.1 hn;subst this;cases hk:jM g fs d vs [] [] s' with
   | none=>rw [hk]at h;simp at h
   | some q=>
    rw [hk]at h;have:=xc hk;subst this;cases h;have hc':cAt code p [qi 23 1 13 (bn o nm)]:=hc;have hN:=EJ hx;have hva:wU (c.r 13+bn o nm)=va o F nm:=by rw [hp.st.f];rfl
    refine⟨hp'.fu,xi (d:=1) (a:=13) (x:=bn o nm) (by rw [hpc];exact hc'.head.1) (by rw [hva];exact(hp.fs.ok nm hN).1) (Go.done (by omega) ⟨by rw [hpc];rfl,?_,hp.st.of fun k hk=>ce (by omega),⟨hp'.sm.m,hp'.sm.i,hp'.sm.o⟩,fun _ _=>rfl⟩)⟩;rw [hva];show rp c.r 1 (c.m (va o F nm)) 1=_;rw [dt (by decide)];exact hp.fr nm hN
  · -- a call
   obtain⟨f,hff,hfl⟩:=AH hx;have hc':cAt code p (wa o S kids p++([qi 40 15 0 (wU (S nm-((p+(wa o S kids p).length:Nat):Int)))]++if kids.length>0 then [qi 16 14 14 (4*kids.length)]else [])):=hc;have hw:wX (.mk 3 n nm v kids)=qG kids+(1+if kids.length>0 then 1 else 0):=J;rw [hw]at hl ⊢;obtain⟨hck,hc2⟩:=hc'.app;obtain⟨hcj,hca⟩:=hc2.app;rw [nR]at hcj hca;have h4:=hC.ps nm f hff;cases hk:jM g fs d vs [] kids s' with
   | none=>rw [hk]at h;simp at h
   | some q=>
    rw [hk]at h;have hK:=ih.k g (Nat.lt_succ_self g) d vs [] kids s' q hk o N p F sp c hx.kids hck (by omega) hpc hp' (by omega);cases q with
    | err e=>
     cases h;exact fun he=>(hK he).weak (fun _ h=>h) (by omega)
    | ok ks s1=>
     obtain⟨hk1,hk2,hk3⟩:=(jD hF g).k d vs [] kids s' ks s1 (XO.vxs hx.kids) hp'.vs hp'.ok (by simp) hk;obtain⟨hf1,new,hn1,hn2,hK⟩:=hK;rw [List.nil_append]at hn1;subst hn1;dsimp only at h;have h:(match cK fs nm with|none=>none|some f=>qV g fs d f ks s1)=some r:=h;rw [hff]at h;have h:qV g fs d f ks s1=some r:=h;obtain⟨pf,hpf,hpf2⟩:=hC.pos nm f hff;have hfn:=qh hff;obtain⟨q,hq⟩:∃q,q=p+qG kids+1:=⟨_,J⟩
     have mid:∀c',(c'.pc=p+qG kids∧St d F (sp-4*(kids.length:Int)) c'∧pSm c' s1∧(∀a,sp≤a→c'.m a=c.m a)∧∀(i:Nat) x,ks[i]?=some x→c'.m (sp-4*((i:Int)+1))=x)→
       Go code 1 c' fun c2=>CR code q d F (sp-4*(kids.length:Int)) kids.length c2 s1 r∧∀a,sp≤a→c2.m a=c.m a:=fun c' ⟨e1,e2,e3,e4,e5⟩=>by
      refine pM (d:=15) (a:=0) (x:=wU (S nm-((p+qG kids:Nat):Int))) (by rw [e1];exact hcj.head.1) (Go.done (by decide) ⟨?_,e4⟩);rw [e1,k9 (q:=pf) (by rw [hpf]) (by omega) (by omega)];have hR:=ih.c g (Nat.lt_succ_self g) d f ks s1 r h F (sp-4*(kids.length:Int)) ⟨pf,rp c'.r 15 (gT (p+qG kids+1)),c'.m,c'.inp,c'.out⟩ q (by rw [hfn];exact hff) (by rw [hn2,hfl]) hk1 ?_ ?_ (by omega) ?_ ⟨e3.m,e3.i,e3.o⟩ hk3.ok hf1 (by have:=hp.al;omega) (by have:=hp.al;omega) (by omega) hp.d1.2 (fun i x hi=> ?_)
      ·rw [hn2]at hR;exact hR
      ·show pf=_;rw [hfn,hpf];rfl
      ·show rp c'.r 15 (gT (p+qG kids+1)) 15=_;rw [dt (by decide),hq]
      ·exact e2.of fun k hk=>by
        show rp c'.r 15 _ k=_;exact ce (by omega)
      ·have:=e5 i x hi;show c'.m _=x;rw [←this]
       congr 1
       omega
     have hM:=hK.seq mid (k:=100*(s'.fuel-s1.fuel)+1) (by omega);have pops:∀{v1:Int}{s2:Ms}(c3:Qs),c3.pc=q→c3.r 1=v1→St d F (sp-4*(kids.length:Int)) c3→pSm c3 s2→Go code 1 c3 fun c4=>c4.pc=p+(qG kids+(1+if kids.length>0 then 1 else 0))∧c4.r 1=v1∧St d F sp c4∧pSm c4 s2∧c4.m=c3.m:=fun{v1 s2} c3 f1 f2 f3 f4=>by
      by_cases hz:kids.length>0
      ·rw [ak hz]at hca ⊢;refine iN (f1.trans hq) hca.head.1 (v:=sp) (by
        show some (wU (c3.r 14+4*(kids.length:Int)))=_;rw [f3.s,fB ⟨by omega,by have:=hp.al;omega⟩];exact congrArg some (by omega)) fun c4 e1 e2 e3 e4 e5=>Go.done (by decide) ⟨by rw [e1];omega,by rw [e2,ce (by decide)];exact f2,⟨?_,?_,?_,by rw [e2];exact dt (by decide)⟩,⟨fun i hi=>by rw [e3];exact f4.m i hi,e4.trans f4.i,e5.trans f4.o⟩,e3⟩
       ·rw [e2,ce (by decide)];exact f3.z
       ·rw [e2,ce (by decide)];exact f3.d
       ·rw [e2,ce (by decide)];exact f3.f
      ·rw [ac hz];have:(kids.length:Int)=0:=by omega
       rw [this,show sp-4*0=sp by omega]at f3;exact Go.done (by decide) ⟨by rw [f1,hq];omega,f2,f3,f4,rfl⟩
     cases r with
     | err e=>exact fun he=>hM.seq (fun c2 ⟨hR,_⟩=>hR he) (by omega)
     | ok v2 s2=>
      have hf2:0≤s2.fuel:=by
       obtain⟨_,c2,_,_,hR,_⟩:=hM;exact hR.1
      refine⟨hf2,hM.seq (m:=100*(s1.fuel-s2.fuel)+46) (fun c2 ⟨hR,hm⟩=>hR.2.seq (m:=1) (fun c3 ⟨f1,f2,f3,f4,f5⟩=>(pops c3 f1 f2 f3 f4).weak (fun c4 ⟨k1,k2,k3,k4,k5⟩=>⟨k1,k2,k3,k4,fun a ha=> ?_⟩) (Int.le_refl _)) (by omega)) (by omega)⟩;rw [k5,f5 a (by omega),hm a ha]
  · -- an element of mem
   obtain⟨a,rfl⟩:=List.length_eq_one_iff.1 hn;cases hk:jM g fs d vs [] [a] s' with
   | none=>rw [hk]at h;simp at h
   | some q=>
    rw [hk]at h;obtain⟨g',rx,hg,hx1,hr⟩:=uO hk;have hxa:=hx.kids a (by simp);have hc':cAt code p (zX o S a p++(rf 1++ [qi 23 1 1 8192])):=hc;have hw:wX (.mk 4 n nm v [a])=wX a+3:=J;rw [hw]at hl ⊢;obtain⟨hca,hc2⟩:=hc'.app;obtain⟨hce,hcl⟩:=hc2.app;rw [fK]at hce hcl;have hda:gN [a]=max (dX a) 0:=J;have hX:=ih.x g' (by omega) d vs a s' rx hx1 o N p F sp c hxa hca (by omega) hpc hp' (by omega);rcases hr with⟨x,s1,rfl,h2⟩|⟨e,rfl,rfl⟩
    ·have:=xc h2;subst this;obtain⟨hv,hk1⟩:=(jD hF g').x d vs a s' x s1 hxa.vx hp'.vs hp'.ok hx1;cases h;refine⟨hX.1,hX.2.seq (m:=3) (fun c1 ⟨e1,e2,e3,e4,e5⟩=> ?_) (by omega)⟩;refine(zf (r:=1) hce e1 (by decide) e2 hv).seq (m:=1) (fun c2 ⟨f1,f2,f3⟩=> ?_) (by decide);have hw:wU (c2.r 1+8192)=8192+4*(((x%256).toNat:Nat):Int):=by rw [f2,fB (by omega)];omega
     refine xi (d:=1) (a:=1) (x:=8192) (by rw [f1];exact hcl.head.1) (by rw [hw];exact⟨by omega,by omega,by omega⟩) (Go.done (by decide) ⟨by show c2.pc+1=_;rw [f1];omega,?_,(e3.kr f3 (by decide)).of fun k hk=>ce (by omega),?_,fun a ha=>by rw [f3.m];exact e5 a ha⟩)
     ·rw [hw];show rp c2.r 1 (c2.m (8192+4*(((x%256).toNat:Nat):Int))) 1=_;rw [dt (by decide),f3.m,e4.m _ (by omega)];rfl
     ·have:=e4.kr f3;exact⟨this.m,this.i,this.o⟩
    ·cases h;exact back hX
  · -- a unary operator
   obtain⟨a,rfl⟩:=List.length_eq_one_iff.1 hn;cases hk:jM g fs d vs [] [a] s' with
   | none=>rw [hk]at h;simp at h
   | some q=>
    rw [hk]at h;obtain⟨g',rx,hg,hx1,hr⟩:=uO hk;have hxa:=hx.kids a (by simp);have hc':cAt code p (zX o S a p++AN nm):=hc;have hw:wX (.mk 6 n nm v [a])=wX a+(AN nm).length:=J;rw [hw]at hl ⊢;obtain⟨hca,hcu⟩:=hc'.app;rw [fK]at hcu;have hda:gN [a]=max (dX a) 0:=J;have hX:=ih.x g' (by omega) d vs a s' rx hx1 o N p F sp c hxa hca (by omega) hpc hp' (by omega);rcases hr with⟨x,s1,rfl,h2⟩|⟨e,rfl,rfl⟩
    ·have:=xc h2;subst this;obtain⟨hv,hk1⟩:=(jD hF g').x d vs a s' x s1 hxa.vx hp'.vs hp'.ok hx1;cases h;refine⟨hX.1,hX.2.seq (m:=2) (fun c1 ⟨e1,e2,e3,e4,e5⟩=> ?_) (by omega)⟩;exact(JD hu hcu e1 e3.z e2 hv).weak (fun c2 ⟨f1,f2,f3⟩=>⟨by rw [f1];omega,f2,e3.kr f3 (by decide),e4.kr f3,fun a ha=>by rw [f3.m];exact e5 a ha⟩) (Int.le_refl _)
    ·cases h;exact back hX
  · -- a binary operator
   obtain⟨a,b,rfl⟩:∃a b,kids= [a,b]:=⟨_,_,List.eq_getElem_of_length_eq_two kids hn⟩
   cases hk:jM g fs d vs [] [a,b] s' with
   | none=>rw [hk]at h;simp at h
   | some q=>
    rw [hk]at h;obtain⟨g',rx,hg,hx1,hr⟩:=uO hk;have hxa:=hx.kids a (by simp);have hxb:=hx.kids b (by simp);have hda:gN [a,b]=max (dX a) (max (dX b) 0):=J;have hw:wX (.mk 7 n nm v [a,b])=wX a+(wX b+(4+(zv nm).length)):=J;rcases hr with⟨x,s1,rfl,h2⟩|⟨e,rfl,rfl⟩
    ·obtain⟨g'',ry,hg2,hx2,hr2⟩:=uO h2;refine back (FN (r:=r) hF (ih.x g' (by omega)) (ih.x g'' (by omega)) hb hx1 hxa.vx hxb.vx hxa hxb hc hw hl hpc hp' (by omega) (by omega) (.inl ⟨x,s1,J,ry,hx2,?_⟩));rcases hr2 with⟨y,s2,rfl,h3⟩|⟨e,rfl,rfl⟩
     ·have:=xc h3;subst this;cases h;exact .inl ⟨y,s2,J,J⟩
     ·cases h;exact .inr ⟨e,J,J⟩
    ·cases h;exact back (FN (r:= .err e) hF (ih.x g' (by omega)) (ih.x g' (by omega)) hb hx1 hxa.vx hxb.vx hxa hxb hc hw hl hpc hp' (by omega) (by omega) (.inr ⟨e,J,J⟩))
end
mutual
def SO(fs:List Tf)(N:List Ba):Ty→Prop
 | .mk k nm _ es _ body _ els=>F1 k nm es.length body.length els.length=true∧(∀u∈es,XO fs N u∧dX u≤8)∧(k=1∨k=2→nm∈N)∧(body.length≤1000000∧SOs fs N body)∧(els.length≤1000000∧SOs fs N els)
def SOs(fs:List Tf)(N:List Ba):List Ty→Prop
 | []=>True
 | t::r=>SO fs N t∧SOs fs N r
end
mutual
theorem SO.vy{fs:List Tf}{N:List Ba}:∀{t:Ty},SO fs N t→VY fs t
 | .mk k nm ve es vb body vl els,h=>by
  obtain⟨h1,h2,h3,⟨h4,h5⟩,h6,h7⟩:=h;have hk:=wO h1;have hes:es.length=if k=3 then 2 else 1:=hk.2.2.1
  exact⟨⟨by rw [hes];split<;>omega,by rw [hes];split<;>omega,fun h3=>by rw [hes,ak h3];exact bM _,XO.vxs fun u hu=>(h2 u hu).1⟩,⟨h4,SOs.vys h5⟩,h6,SOs.vys h7⟩
theorem SOs.vys{fs:List Tf}{N:List Ba}:∀{l:List Ty},SOs fs N l→GM fs l
 | [],_=>trivial
 | t::r,h=>⟨h.1.vy,SOs.vys h.2⟩
end
def Kv(o:Om)(N:List Ba)(F sp:Int)(m m':Int→Int):Prop:=∀a,sp≤a→(∀x∈N,a≠va o F x)→m' a=m a
theorem Kv.trans{o:Om}{N:List Ba}{F sp:Int}{a b c:Int→Int}(h:Kv o N F sp a b)(h2:Kv o N F sp b c):Kv o N F sp a c:=fun x h3 h4=>(h2 x h3 h4).trans (h x h3 h4)
theorem Kv.of{o:Om}{N:List Ba}{F sp:Int}{a b:Int→Int}(h:∀x,sp≤x→b x=a x):Kv o N F sp a b:=fun x h3 _=>h x h3
def Ex(p' E:Nat)(q:Option Int)(c':Qs):Prop:=(q=none→c'.pc=p')∧∀v,q=some v→c'.pc=E∧c'.r 1=v
def SR(code:List Qi)(p' E:Nat)(b k:Int)(o:Om)(N:List Ba)(d:Nat)(F sp:Int)(c:Qs)(s:Ms):Re (Vs×Option Int)→Prop
 | .ok q s1=>0≤s1.fuel∧Go code (100*(s.fuel-s1.fuel)+k) c fun c'=>St d F sp c'∧pSm c' s1∧Fr o N q.1 F c'.m∧Kv o N F sp c.m c'.m∧Ex p' E q.2 c'
 | .err e=>e=26→Go code (100*s.fuel+b) c (Bk code)
def zW(o:Om)(S:Ba→Int)(E:Int)(e:Tx)(l:List Ty)(p:Nat):List Qi:=
 zX o S e p++([qi 32 1 0 (wU (((jK o S E l (p+wX e+1)).length+2:Nat):Int))]++(jK o S E l (p+wX e+1)++ [qi 40 0 0 (wU (-(((jK o S E l (p+wX e+1)).length+wX e+1:Nat):Int)))]))
section
variable(code:List Qi)(fs:List Tf)(S:Ba→Int)
def HB(g:Nat):Prop:=∀(d:Nat) vs l s r,kQ g fs d vs l s=some r→∀o N p(E:Nat) F sp c,SOs fs N l→cAt code p (jK o S (E:Int) l p)→p+eR l≤1984→E≤1984→c.pc=p→Pr o N vs d F sp s c→lo d+132≤sp→SR code (p+eR l) E 50 0 o N d F sp c s r
def HS(g:Nat):Prop:=∀(d:Nat) vs t s r,nQ g fs d vs t s=some r→∀o N p(E:Nat) F sp c,SO fs N t→cAt code p (zY o S (E:Int) t p)→p+wY t≤1984→E≤1984→c.pc=p→Pr o N vs d F sp s c→lo d+132≤sp→SR code (p+wY t) E 50 0 o N d F sp c s r
def HW(g:Nat):Prop:=∀(d:Nat) vs e l v s r,qU g fs d vs e l v s=some r→∀o N p(E:Nat) F sp c,XO fs N e→dX e≤8→l.length≤1000000→SOs fs N l→cAt code p (zW o S (E:Int) e l p)→p+wX e+eR l+2≤1984→E≤1984→c.pc=p+wX e→c.r 1=v→Pr o N vs d F sp s c→lo d+132≤sp→
 SR code (p+wX e+eR l+2) E 60 2 o N d F sp c s r
structure HD(g:Nat):Prop extends HA code fs S g where
 b:∀g'<g,HB code fs S g'
 s:∀g'<g,HS code fs S g'
 w:∀g'<g,HW code fs S g'
end
section
variable{code:List Qi}{fs:List Tf}{S:Ba→Int}
theorem Pr.next{o:Om}{N:List Ba}{vs vs':Vs}{d:Nat}{F sp:Int}{s s':Ms}{c c':Qs}(h:Pr o N vs d F sp s c)(hst:St d F sp c')(hsm:pSm c' s')(hfr:Fr o N vs' F c'.m)(hok:okMs s')(hvs:okVs vs')(hfu:0≤s'.fuel):Pr o N vs' d F sp s' c':=
 ⟨hst,h.fs,hfr,hsm,hok,hvs,h.al,hfu,h.d1⟩
theorem Ex.none{p' E:Nat}{c':Qs}(h:c'.pc=p'):Ex p' E none c':=⟨fun _=>h,fun v hv=>by cases hv⟩
theorem SR.up{p' E:Nat}{b b' k k':Int}{o:Om}{N:List Ba}{d:Nat}{F sp:Int}{c0:Qs}{s s0:Ms}{r:Re (Vs×Option Int)}{n:Int}{P:Qs→Prop}(hg:Go code n c0 P)(h:∀c,P c→SR code p' E b k o N d F sp c s r)(hkv:∀c,P c→Kv o N F sp c0.m c.m)
  (h1:n+100*s.fuel+b≤100*s0.fuel+b') (h2:n+100*s.fuel+k≤100*s0.fuel+k'):SR code p' E b' k' o N d F sp c0 s0 r:=by
 cases r with
 | err e=>exact fun he=>hg.seq (fun c hc=>h c hc he) (by omega)
 | ok q s1=>
  have hf:0≤s1.fuel:=by
   obtain⟨_,c2,_,_,hP⟩:=hg;exact(h c2 hP).1
  exact⟨hf,hg.seq (fun c hc=>(h c hc).2.weak (fun c' ⟨e1,e2,e3,e4,e5⟩=>⟨e1,e2,e3,(hkv c hc).trans e4,e5⟩) (Int.le_refl _)) (by omega)⟩
theorem E3{g:Nat}(hF:VF fs)(ih:HD code fs S g):HB code fs S g:=by
 intro d vs l s r h o N p E F sp c hx hc hl hE hpc hp hsp;cases g with
 | zero=>simp [kQ]at h
 | succ g=>
  cases l with
  | nil=>
   rw [kQ]at h;cases h;exact⟨hp.fu,Go.done (by omega) ⟨hp.st,hp.sm,hp.fr,Kv.of fun _ _=>J,Ex.none hpc⟩⟩
  | cons t l=>
   rw [kQ]at h;have hc':cAt code p (zY o S E t p++jK o S E l (p+(zY o S E t p).length)):=hc;have hw:eR (t::l)=wY t+eR l:=J;obtain⟨hct,hcl⟩:=hc'.app;rw [v_]at hcl;cases hs:nQ g fs d vs t s with
   | none=>rw [hs]at h;simp at h
   | some q=>
    rw [hs]at h;have hS:=ih.s g (Nat.lt_succ_self g) d vs t s q hs o N p E F sp c hx.1 hct (by omega) hE hpc hp hsp;cases q with
    | err e=>cases h;exact hS
    | ok q s1=>
     obtain⟨vs1,q⟩:=q;obtain⟨k1,k2,k3⟩:=(jD hF g).s d vs t s _ s1 hx.1.vy hp.vs hp.ok hs;cases q with
     | some v=>
      cases h;exact⟨hS.1,hS.2.weak (fun c' ⟨e1,e2,e3,e4,e5⟩=>⟨e1,e2,e3,e4,fun hq=>(by cases hq),e5.2⟩) (Int.le_refl _)⟩
     | none=>
      have h:kQ g fs d vs1 l s1=some r:=h;rw [hw,←Nat.add_assoc];refine SR.up (s:=s1) (b:=50) (k:=0) hS.2 (fun c' ⟨e1,e2,e3,e4,e5⟩=> ?_) (fun c' ⟨e1,e2,e3,e4,e5⟩=>e4) (by omega) (by omega);exact ih.b g (Nat.lt_succ_self g) d vs1 l s1 r h o N (p+wY t) E F sp c' hx.2 hcl (by omega) hE (e5.1 J) (hp.next e1 e2 e3 k3.ok k1 hS.1) hsp
theorem oK(vs:Vs)(x y:Ba)(n:Int):oL (fC vs x n) y=if x=y then n else oL vs y:=fX vs x y n
theorem EY{g:Nat}(hF:VF fs)(ih:HD code fs S g):HW code fs S g:=by
 intro d vs e l v s r h o N p E F sp c hxe hde hll hxl hc hl hE hpc hv hp hsp;cases g with
 | zero=>simp [qU]at h
 | succ g=>
  rw [qU]at h;unfold zW at hc;obtain⟨hce,hc2⟩:=id hc.app;obtain⟨hcb,hc3⟩:=hc2.app;obtain⟨hcl,hcj⟩:=hc3.app;rw [fK]at hcb hcl hcj;rw [eG]at hcb hcj;have hbeq:=hcb.head.1;have hz0:∀{P:Qs→Prop}{n:Int},Go code (n-1) {c with pc:=if v=0 then p+wX e+eR l+2 else p+wX e+1} P→Go code n c P:=fun{P n} hG=>by
   refine tk (d:=1) (a:=0) (x:=wU (((eR l+2:Nat):Int))) (by rw [hpc];exact hbeq) ?_;rw [hv,hp.st.z,hpc];by_cases hz:v=0
   ·rw [ak hz]at hG ⊢;rw [k9 (q:=p+wX e+eR l+2) (by rw [show((p+wX e+eR l+2:Nat):Int)-((p+wX e:Nat):Int)=((eR l+2:Nat):Int) by omega]) (by omega) (by omega)];exact hG
   ·rw [ac hz]at hG ⊢;exact hG
  by_cases hz:v=0
  ·rw [ak hz]at h hz0;cases h;exact⟨hp.fu,hz0 (Go.done (by omega) ⟨hp.st.of fun _ _=>J,⟨hp.sm.m,hp.sm.i,hp.sm.o⟩,hp.fr,Kv.of fun _ _=>J,Ex.none J⟩)⟩
  ·rw [ac hz]at h hz0;obtain⟨c1,hc1⟩:∃c1:Qs,c1={c with pc:=p+wX e+1}:=⟨_,J⟩
   rw [←hc1]at hz0;have hp1:Pr o N vs d F sp s c1:=by rw [hc1];exact⟨hp.st.of fun _ _=>J,hp.fs,hp.fr,⟨hp.sm.m,hp.sm.i,hp.sm.o⟩,hp.ok,hp.vs,hp.al,hp.fu,hp.d1⟩
   have hm1:c1.m=c.m:=by rw [hc1]
   have hg1:Go code 1 c fun x=>x=c1:=hz0 (Go.done (by decide) J)
   cases hb:kQ g fs d vs l s with
   | none=>rw [hb]at h;simp at h
   | some q=>
    rw [hb]at h;have hB:=ih.b g (Nat.lt_succ_self g) d vs l s q hb o N (p+wX e+1) E F sp c1 hxl hcl (by omega) hE (by rw [hc1]) hp1 hsp;cases q with
    | err z=>cases h;exact fun he=>hg1.seq (m:=100*s.fuel+50) (fun x hx=>by subst hx;exact hB he) (by omega)
    | ok q s1=>
     obtain⟨vs1,q⟩:=q;obtain⟨k1,k2,k3⟩:=(jD hF g).b d vs l s _ s1 hxl.vys hp.vs hp.ok hb;cases q with
     | some x=>
      cases h;exact⟨hB.1,hg1.seq (m:=100*(s.fuel-s1.fuel)) (fun x hx=>by subst hx;exact hB.2.weak (fun c' ⟨e1,e2,e3,e4,e5⟩=>⟨e1,e2,e3,by rw [←hm1];exact e4,fun hq=>(by cases hq),e5.2⟩) (by omega)) (by omega)⟩
     | none=>
      dsimp only at h;have hB2:Go code (100*(s.fuel-s1.fuel)+2) c fun c'=>St d F sp c'∧pSm c' s1∧Fr o N vs1 F c'.m∧Kv o N F sp c.m c'.m∧c'.pc=p:=hg1.seq (m:=100*(s.fuel-s1.fuel)+1) (fun x hx=>by
       subst hx;refine hB.2.seq (m:=1) (fun c' ⟨e1,e2,e3,e4,e5⟩=> ?_) (by omega);have e5:=e5.1 J;obtain⟨x,hxx⟩:∃x,x=wU (-(((eR l+wX e+1:Nat):Int))):=⟨_,J⟩
       have hj:=hcj.head.1;rw [←hxx]at hj;refine pM (d:=0) (a:=0) (x:=x) (by rw [e5];exact hj) (Go.done (by decide) ⟨e1.of fun k hk=>Bw,⟨e2.m,e2.i,e2.o⟩,e3,by rw [←hm1];exact e4,?_⟩);show rB (wU (gT c'.pc+4*x))=p;rw [e5,hxx];exact k9 (by rw [show(p:Int)-((p+wX e+1+eR l:Nat):Int)= -((eR l+wX e+1:Nat):Int) by omega]) (by omega) (by omega)) (by omega)
      cases hx2:ju g fs d vs1 e s1 with
      | none=>rw [hx2]at h;simp at h
      | some q=>
       rw [hx2]at h;have hX:∀c',(St d F sp c'∧pSm c' s1∧Fr o N vs1 F c'.m∧Kv o N F sp c.m c'.m∧c'.pc=p)→XR code (p+wX e) d F sp c' s1 q:=fun c' ⟨e1,e2,e3,e4,e5⟩=>
        ih.x g (Nat.lt_succ_self g) d vs1 e s1 q hx2 o N p F sp c' hxe hce (by omega) e5 (hp.next e1 e2 e3 k3.ok k1 hB.1) (by omega)
       cases q with
       | err z=>cases h;exact fun he=>hB2.seq (m:=100*s1.fuel+50) (fun c' hc'=>hX c' hc' he) (by omega)
       | ok w s2=>
        obtain⟨w1,w2⟩:=(jD hF g).x d vs1 e s1 w s2 hxe.vx k1 k3.ok hx2;have h:qU g fs d vs1 e l w s2=some r:=h;have hf2:0≤s2.fuel:=by
         obtain⟨_,c2,_,_,hP⟩:=hB2;exact(hX c2 hP).1
        have hX2:Go code (100*(s.fuel-s2.fuel)-38) c fun c'=>(St d F sp c'∧pSm c' s2∧Fr o N vs1 F c'.m∧Kv o N F sp c.m c'.m)∧c'.pc=p+wX e∧c'.r 1=w:=hB2.seq (m:=100*(s1.fuel-s2.fuel)-40) (fun c' hc'=>(hX c' hc').2.weak (fun c2 ⟨f1,f2,f3,f4,f5⟩=>by
         obtain⟨e1,e2,e3,e4,e5⟩:=hc';exact⟨⟨f3,f4,fun x hx=>(f5 _ (hp.fs.ok x hx).2).trans (e3 x hx),e4.trans (Kv.of f5)⟩,f1,f2⟩) (Int.le_refl _)) (by omega)
        refine SR.up (s:=s2) hX2 (fun c' ⟨⟨e1,e2,e3,e4⟩,e5,e6⟩=> ?_) (fun c' h=>h.1.2.2.2) (b:=60) (k:=2) (by omega) (by omega);exact ih.w g (Nat.lt_succ_self g) d vs1 e l w s2 r h o N p E F sp c' hxe hde hll hxl (by unfold zW;exact hc) hl hE e5 e6 (hp.next e1 e2 e3 w2.ok k1 hf2) hsp
theorem Kv.mw{o:Om}{N:List Ba}{F sp:Int}{m:Int→Int}{x:Ba}{v:Int}(hx:x∈N):Kv o N F sp m (mw m (va o F x) v):=fun a _ h=>i_ (h x hx)
theorem Fr.put{o:Om}{N:List Ba}{vs:Vs}{F sp:Int}{m:Int→Int}{x:Ba}{v:Int}(h:Fr o N vs F m)(hf:Fs o N F sp)(hx:x∈N):Fr o N (fC vs x v) F (mw m (va o F x) v):=fun y hy=>by
 rw [oK];by_cases e:x=y
 ·subst e;rw [ak J,nD]
 ·rw [ac e,i_ fun q=>e (hf.inj x hx y hy q.symm)];exact h y hy
theorem Ir{g:Nat}{d:Nat}{vs:Vs}{k:Int}{nm:Ba}{ve vb vl:SV}{e:Tx}{es:List Tx}{body els:List Ty}{s s1:Ms}{v:Int}(hf:¬s.fuel≤0)(hx:ju g fs d vs e {s with fuel:=s.fuel-1}=some (.ok v s1)):
  nQ (g+1) fs d vs (.mk k nm ve (e::es) vb body vl els) s=
    if k=1∨k=2 then some (.ok (fC vs nm v,none) s1)else
    if k=3 then(match es with
     | []=>none
     | e2::_=>match ju g fs d vs e2 s1 with
      | none=>none
      | some (.err e)=>some (.err e)
      | some (.ok w s2)=>some (.ok (vs,none) {s2 with mem:=B0 s2.mem (v%256).toNat w}))else
    if k=4 then kQ g fs d vs (if v=0 then els else body) s1 else
    if k=5 then qU g fs d vs e body v s1 else
    if k=6 then some (.ok (vs,some v) s1)else if k=7 then some (.ok (vs,none) {s1 with out:=s1.out++ [v]})else some (.ok (vs,none) s1):=by
 rw [nQ,ac hf];dsimp only [Ty.es];rw [hx];rfl
theorem CW{g:Nat}{d:Nat}{vs:Vs}{k:Int}{nm:Ba}{ve vb vl:SV}{e:Tx}{es:List Tx}{body els:List Ty}{s:Ms}(hf:¬s.fuel≤0)(hx:ju g fs d vs e {s with fuel:=s.fuel-1}=none):
  nQ (g+1) fs d vs (.mk k nm ve (e::es) vb body vl els) s=none:=by
 rw [nQ,ac hf];dsimp only [Ty.es];rw [hx]
theorem Fv{g:Nat}{d:Nat}{vs:Vs}{k:Int}{nm:Ba}{ve vb vl:SV}{e:Tx}{es:List Tx}{body els:List Ty}{s:Ms}{z:Int}(hf:¬s.fuel≤0)(hx:ju g fs d vs e {s with fuel:=s.fuel-1}=some (.err z)):
  nQ (g+1) fs d vs (.mk k nm ve (e::es) vb body vl els) s=some (.err z):=by
 rw [nQ,ac hf];dsimp only [Ty.es];rw [hx]
theorem EZ{g:Nat}(hF:VF fs)(ih:HD code fs S g):HS code fs S g:=by
 intro d vs t s r h o N p E F sp c hx hc hl hE hpc hp hsp;have hd:=rJ hp.d1.2;cases g with
 | zero=>simp [nQ]at h
 | succ g=>
  by_cases hf:s.fuel≤0
  ·rw [nQ,ak hf]at h;cases h;intro e;exact absurd e (by decide)
  have hp':=hp.pay hf;obtain⟨k,nm,ve,es,vb,body,vl,els⟩:=t;obtain⟨hok,hes,hnm,⟨hbl,hbo⟩,hel,heo⟩:=hx;have hk:=wO hok;obtain⟨s',hs'⟩:∃s',s'={s with fuel:=s.fuel-1}:=⟨_,J⟩
  have hsf:s'.fuel=s.fuel-1:=by rw [hs']
  rw [←hs']at hp';cases es with
  | nil=>
   have:=hk.2.2.1;split at this<;>simp at this
  | cons e es=>
   have hxe:=(hes e (by simp)).1;have hde:=(hes e (by simp)).2;have hca:cAt code p (zX o S e p):=by
    have hc':=hc;unfold zY at hc';by_cases q1:k=1∨k=2
    ·rw [ak q1]at hc';exact hc'.app.1
    rw [ac q1]at hc';by_cases q3:k=3
    ·rw [ak q3]at hc';exact hc'.app.1
    rw [ac q3]at hc';by_cases q7:k=7
    ·rw [ak q7]at hc';exact hc'.app.1
    rw [ac q7]at hc';by_cases q6:k=6
    ·rw [ak q6]at hc';exact hc'.app.1
    rw [ac q6]at hc';by_cases q4:k=4
    ·rw [ak q4]at hc';exact hc'.app.1
    rw [ac q4]at hc';by_cases q5:k=5
    ·rw [ak q5]at hc';exact hc'.app.1
    rw [ac q5]at hc';exact hc'
   have hwe:wX e≤wY (.mk k nm ve (e::es) vb body vl els):=by
    unfold wY;show iK (e::es)≤_
    repeat' split
    all_goals omega
   cases hx1:ju g fs d vs e s' with
   | none=>
    rw [CW hf (by rw [←hs'];exact hx1)]at h;cases h
   | some q=>
    have hX:=ih.x g (Nat.lt_succ_self g) d vs e s' q hx1 o N p F sp c hxe hca (by omega) hpc hp' (by omega);cases q with
    | err z=>
     rw [Fv hf (by rw [←hs'];exact hx1)]at h;cases h;exact fun he=>(hX he).weak (fun _ h=>h) (by omega)
    | ok v s1=>
     obtain⟨hv,hk1⟩:=(jD hF g).x d vs e s' v s1 hxe.vx hp'.vs hp'.ok hx1;rw [Ir hf (by rw [←hs'];exact hx1)]at h;obtain⟨hf1,hX⟩:=hX;have hX1:Go code (100*(s.fuel-s1.fuel)-140) c fun c'=>c'.pc=p+wX e∧c'.r 1=v∧(∀a,sp≤a→c'.m a=c.m a)∧Pr o N vs d F sp s1 c':=hX.weak (fun c' ⟨e1,e2,e3,e4,e5⟩=>⟨e1,e2,e5,hp.of e3 e4 hk1.ok hf1 e5 (Int.le_refl _) hp.al.1⟩) (by omega)
     by_cases q1:k=1∨k=2
     · -- a variable
      rw [ak q1]at h;cases h;have hc':cAt code p (zX o S e p++ [qi 25 1 13 (bn o nm)]):=by
       have hc':=hc;unfold zY at hc';rw [ak q1]at hc';exact hc'
      have hw:wY (.mk k nm ve (e::es) vb body vl els)=wX e+1:=by unfold wY;rw [ak q1];rfl
      rw [hw];have hcs:=hc'.app.2;rw [fK]at hcs;have hN:=hnm q1;refine⟨hf1,hX1.seq (m:=1) (fun c1 ⟨e1,e2,e3,e4⟩=> ?_) (by omega)⟩;have hva:wU (c1.r 13+bn o nm)=va o F nm:=by rw [e4.st.f];rfl
      refine xh (d:=1) (a:=13) (x:=bn o nm) (by rw [e1];exact hcs.head.1) (by rw [hva];exact(hp.fs.ok nm hN).1) (Go.done (by decide) ?_);rw [hva,e2];refine⟨e4.st.of fun _ _=>J,e4.sm.push J J J (by have:=(hp.fs.ok nm hN).2;omega),e4.fr.put e4.fs hN,(Kv.of e3).trans (Kv.mw hN),Ex.none (by show c1.pc+1=_;rw [e1];rfl)⟩
     rw [ac q1]at h;by_cases q3:k=3
     · -- an element of mem
      rw [ak q3]at h;subst q3;have hn:(e::es).length=2:=by have:=hk.2.2.1;rw [ak J]at this;exact this
      obtain⟨e2,rfl⟩:∃e2,es= [e2]:=List.length_eq_one_iff.1 (by rw [ca]at hn;omega);have hc':cAt code p (zX o S e p++(eO 1++(zX o S e2 (p+wX e+2)++(jN 2++(rf 2++ [qi 25 1 2 8192]))))):=hc;have hw:wY (.mk 3 nm ve [e,e2] vb body vl els)=wX e+(wX e2+7):=J;rw [hw]at hl ⊢;have hxe2:=(hes e2 (by simp)).1;have hde2:=(hes e2 (by simp)).2;obtain⟨-,hc2⟩:=hc'.app;obtain⟨hcp,hc3⟩:=hc2.app;obtain⟨hcx,hc4⟩:=hc3.app;obtain⟨hcq,hc5⟩:=hc4.app;obtain⟨hce,hcs⟩:=hc5.app;rw [fK]at hcp hcx hcq hce hcs;rw [fK]at hcq hce hcs;have hX2:Go code (100*(s.fuel-s1.fuel)-138) c fun c'=>c'.pc=p+wX e+2∧Pr o N vs d F (sp-4) s1 c'∧c'.m (sp-4)=v∧∀a,sp≤a→c'.m a=c.m a:=hX1.seq (m:=2) (fun c1 ⟨e1,e2,e3,e4⟩=>(kp hcp e1 e4.st (by decide) ⟨by omega,hp.al.2,hp.al.1⟩).weak (fun c2 ⟨f1,f2,f3,f4,f5,f6⟩=>by
       have hm:∀x,sp≤x→c2.m x=c1.m x:=fun x hx=>by rw [f3,i_ (by omega)]
       exact⟨f1,e4.of f2 (e4.sm.push f3 f4 f5 (by omega)) hk1.ok hf1 hm (by omega) (by have:=hp.al;omega),by rw [f3,nD,e2],fun a ha=>(hm a ha).trans (e3 a ha)⟩) (Int.le_refl _)) (by omega)
      dsimp only at h;cases hx2:ju g fs d vs e2 s1 with
      | none=>rw [hx2]at h;simp at h
      | some q=>
       rw [hx2]at h;have hY:∀c',(c'.pc=p+wX e+2∧Pr o N vs d F (sp-4) s1 c'∧c'.m (sp-4)=v∧∀a,sp≤a→c'.m a=c.m a)→XR code (p+wX e+2+wX e2) d F (sp-4) c' s1 q:=fun c' ⟨f1,f2,f3,f4⟩=>
        ih.x g (Nat.lt_succ_self g) d vs e2 s1 q hx2 o N (p+wX e+2) F (sp-4) c' hxe2 hcx (by omega) f1 f2 (by omega)
       cases q with
       | err z=>cases h;exact fun he=>hX2.seq (fun c' hc'=>hY c' hc' he) (by omega)
       | ok w s2=>
        cases h;obtain⟨hw1,hw2⟩:=(jD hF g).x d vs e2 s1 w s2 hxe2.vx hp.vs hk1.ok hx2;have hf2:0≤s2.fuel:=by
         obtain⟨_,c2,_,_,hP⟩:=hX2;exact(hY c2 hP).1
        refine⟨hf2,hX2.seq (m:=100*(s1.fuel-s2.fuel)-35) (fun c2 hc2=>(hY c2 hc2).2.seq (m:=5) (fun c3 ⟨g1,g2,g3,g4,g5⟩=> ?_) (by omega)) (by dsimp only;omega)⟩;obtain⟨f1,f2,f3,f4⟩:=hc2;refine(sQ (r:=2) hcq g1 g3.s (by decide) ⟨by omega,by have:=hp.al;omega,by have:=hp.al;omega⟩).seq (m:=3) (fun c4 ⟨i1,i2,i3,i4⟩=> ?_) (by decide);have h2:c4.r 2=v:=by rw [i2,g5 _ (Int.le_refl _),f3]
        refine(zf (r:=2) hce i1 (by decide) h2 hv).seq (m:=1) (fun c5 ⟨j1,j2,j3⟩=> ?_) (by decide);have hwa:wU (c5.r 2+8192)=8192+4*(((v%256).toNat:Nat):Int):=by rw [j2,fB (by omega)];omega
        have hst:St d F sp c5:=⟨((j3.r 0 (by decide)).trans (i4.r 0 (by decide))).trans g3.z,((j3.r 12 (by decide)).trans (i4.r 12 (by decide))).trans g3.d,((j3.r 13 (by decide)).trans (i4.r 13 (by decide))).trans g3.f,((j3.r 14 (by decide)).trans i3).trans (by omega)⟩
        have hm5:c5.m=c3.m:=j3.m.trans i4.m;have hr1:c5.r 1=w:=((j3.r 1 (by decide)).trans (i4.r 1 (by decide))).trans g2;have hsm:=(g4.kr i4).kr j3;have hkv:∀a,sp≤a→c5.m a=c.m a:=fun a ha=>by rw [hm5,g5 a (by omega),f4 a ha]
        refine xh (d:=1) (a:=2) (x:=8192) (by rw [j1];exact hcs.head.1) (by rw [hwa];exact⟨by omega,by omega,by omega⟩) (Go.done (by decide) ?_);rw [hwa,hr1];refine⟨hst.of fun _ _=>J,⟨fun i hi=> ?_,hsm.i,hsm.o⟩,fun x hx=> ?_,fun a ha _=> ?_,Ex.none (by show c5.pc+1=_;rw [j1];simp only [eO,jN,ca,cj];omega)⟩
        ·show mw c5.m _ w _=B0 s2.mem _ w i;unfold B0;by_cases hi2:i=(v%256).toNat
         ·rw [ak hi2,hi2,nD]
         ·rw [ac hi2,i_ (by omega)];exact hsm.m i hi
        ·have:=(hp.fs.ok x hx).2;show mw c5.m _ w _=_;rw [i_ (by omega),hkv _ this];exact hp.fr x hx
        ·show mw c5.m _ w _=_;rw [i_ (by omega),hkv a ha]
     rw [ac q3]at h;by_cases q4:k=4
     · -- if
      rw [ak q4]at h;subst q4;obtain⟨je,hje⟩:∃je:Nat,je=if els.length>0 then 1 else 0:=⟨_,J⟩
      have hc':cAt code p (zX o S e p++([qi 32 1 0 (wU (((jK o S E body (p+wX e+1)).length+(if els.length>0 then 1 else 0)+1:Nat):Int))]++(jK o S E body (p+wX e+1)++
       ((if els.length>0 then [qi 40 0 0 (wU (((jK o S E els (p+wX e+1+(jK o S E body (p+wX e+1)).length+(if els.length>0 then 1 else 0))).length+1:Nat):Int))]else [])++
        jK o S E els (p+wX e+1+(jK o S E body (p+wX e+1)).length+(if els.length>0 then 1 else 0)))))):=hc
      rw [←hje]at hc';have hw:wY (.mk 4 nm ve (e::es) vb body vl els)=wX e+(eR body+(eR els+(1+je))):=by
       show iK (e::es)+(eR body+(eR els+if els.length>0 then 2 else 1))=_;rw [hje];show wX e+_=_;split<;>omega
      rw [hw]at hl ⊢;obtain⟨-,hc2⟩:=hc'.app;obtain⟨hcb,hc3⟩:=hc2.app;obtain⟨hcl,hc4⟩:=hc3.app;obtain⟨hcj,hcel⟩:=hc4.app;simp only [fK,eG]at hcb hcl hcj hcel;have hjl:(if els.length>0 then [qi 40 0 0 (wU ((eR els+1:Nat):Int))]else []).length=je:=by rw [hje];split<;>rfl
      rw [hjl]at hcel;have hbeq:=hcb.head.1;have hX3:Go code (100*(s.fuel-s1.fuel)-139) c fun c'=>c'.pc=(if v=0 then p+wX e+1+eR body+je else p+wX e+1)∧(∀a,sp≤a→c'.m a=c.m a)∧Pr o N vs d F sp s1 c':=hX1.seq (m:=1) (fun c1 ⟨e1,e2,e3,e4⟩=>by
       refine tk (d:=1) (a:=0) (x:=wU (((eR body+je+1:Nat):Int))) (by rw [e1];exact hbeq) (Go.done (by decide) ⟨?_,e3,⟨e4.st.of fun _ _=>J,e4.fs,e4.fr,⟨e4.sm.m,e4.sm.i,e4.sm.o⟩,e4.ok,e4.vs,e4.al,e4.fu,e4.d1⟩⟩);show(if c1.r 1=c1.r 0 then _ else c1.pc+1)=_;rw [e2,e4.st.z,e1];by_cases hz:v=0
       ·rw [ak hz,ak hz];exact k9 (by rw [show((p+wX e+1+eR body+je:Nat):Int)-((p+wX e:Nat):Int)=((eR body+je+1:Nat):Int) by omega]) (by omega) (by omega)
       ·rw [ac hz,ac hz]) (by omega)
      by_cases hz:v=0
      ·rw [ak hz]at h hX3;refine SR.up (s:=s1) hX3 (fun c' ⟨e1,e2,e3⟩=> ?_) (fun c' ⟨e1,e2,e3⟩=>Kv.of e2) (b:=50) (k:=0) (by omega) (by omega);have:=ih.b g (Nat.lt_succ_self g) d vs els s1 r h o N (p+wX e+1+eR body+je) E F sp c' heo hcel (by omega) hE e1 e3 hsp;rw [show p+(wX e+(eR body+(eR els+(1+je))))=p+wX e+1+eR body+je+eR els by omega];exact this
      ·rw [ac hz]at h hX3;have hB:∀c',(c'.pc=p+wX e+1∧(∀a,sp≤a→c'.m a=c.m a)∧Pr o N vs d F sp s1 c')→SR code (p+wX e+1+eR body) E 50 0 o N d F sp c' s1 r:=fun c' ⟨e1,e2,e3⟩=>
        ih.b g (Nat.lt_succ_self g) d vs body s1 r h o N (p+wX e+1) E F sp c' hbo hcl (by omega) hE e1 e3 hsp
       cases r with
       | err z=>exact fun he=>hX3.seq (fun c' hc'=>hB c' hc' he) (by omega)
       | ok q s2=>
        have hf2:0≤s2.fuel:=by
         obtain⟨_,c2,_,_,hP⟩:=hX3;exact(hB c2 hP).1
        refine⟨hf2,hX3.seq (m:=100*(s1.fuel-s2.fuel)+1) (fun c2 hc2=>(hB c2 hc2).2.seq (m:=1) (fun c3 ⟨f1,f2,f3,f4,f5⟩=> ?_) (by omega)) (by omega)⟩;obtain⟨g1,g2,g3⟩:=hc2;have hkv:=(Kv.of (o:=o) (N:=N) (F:=F) g2).trans f4;obtain⟨vs2,q⟩:=q;cases q with
        | some x=>exact Go.done (by decide) ⟨f1,f2,f3,hkv,fun hq=>(by cases hq),f5.2⟩
        | none=>
         have f6:=f5.1 J;by_cases hz2:els.length>0
         ·rw [ak hz2]at hcj hje;refine pM (d:=0) (a:=0) (x:=wU ((eR els+1:Nat):Int)) (by rw [f6];exact hcj.head.1) (Go.done (by decide) ⟨f1.of fun k hk=>Bw,⟨f2.m,f2.i,f2.o⟩,f3,hkv,Ex.none ?_⟩);show rB _=_;rw [f6];exact k9 (by rw [show((p+(wX e+(eR body+(eR els+(1+je)))):Nat):Int)-((p+wX e+1+eR body:Nat):Int)=((eR els+1:Nat):Int) by omega]) (by omega) (by omega)
         ·rw [ac hz2]at hje;have:els= []:=List.length_eq_zero_iff.1 (by omega);subst this;have hw0:eR []=0:=J;exact Go.done (by decide) ⟨f1,f2,f3,hkv,Ex.none (by rw [f6];omega)⟩
     rw [ac q4]at h;by_cases q5:k=5
     · -- while
      rw [ak q5]at h;subst q5;have hc':cAt code p (zW o S E e body p):=hc;have hw:wY (.mk 5 nm ve (e::es) vb body vl els)=wX e+(eR body+2):=J;rw [hw]at hl ⊢;refine SR.up (s:=s1) hX1 (fun c' ⟨e1,e2,e3,e4⟩=> ?_) (fun c' ⟨e1,e2,e3,e4⟩=>Kv.of e3) (b:=60) (k:=2) (by omega) (by omega);have:=ih.w g (Nat.lt_succ_self g) d vs e body v s1 r h o N p E F sp c' hxe hde hbl hbo hc' (by omega) hE e1 e2 e4 hsp;rw [show p+(wX e+(eR body+2))=p+wX e+eR body+2 by omega];exact this
     rw [ac q5]at h;by_cases q6:k=6
     · -- return
      rw [ak q6]at h;subst q6;cases h;have hc':cAt code p (zX o S e p++ [qi 40 0 0 (wU ((E:Int)-((p+wX e:Nat):Int)))]):=hc;have hw:wY (.mk 6 nm ve (e::es) vb body vl els)=wX e+1:=J;rw [hw]at hl ⊢;have hcs:=hc'.app.2;rw [fK]at hcs;refine⟨hf1,hX1.seq (m:=1) (fun c1 ⟨e1,e2,e3,e4⟩=> ?_) (by omega)⟩;refine pM (d:=0) (a:=0) (x:=wU ((E:Int)-((p+wX e:Nat):Int))) (by rw [e1];exact hcs.head.1) (Go.done (by decide) ⟨e4.st.of fun k hk=>Bw,⟨e4.sm.m,e4.sm.i,e4.sm.o⟩,e4.fr,Kv.of e3,fun hq=>(by cases hq),fun y hy=> ?_⟩);cases hy;refine⟨?_,by show rp c1.r 0 (gT (c1.pc+1)) 1=_;rw [Bw];exact e2⟩;show rB _=_;rw [e1];exact k9 J (by omega) (by omega)
     rw [ac q6]at h;by_cases q7:k=7
     · -- out
      rw [ak q7]at h;subst q7;cases h;have hc':cAt code p (zX o S e p++ [⟨48,0,0,0,1⟩]):=hc;have hw:wY (.mk 7 nm ve (e::es) vb body vl els)=wX e+1:=J;rw [hw]at hl ⊢;have hcs:=hc'.app.2;rw [fK]at hcs;refine⟨hf1,hX1.seq (m:=1) (fun c1 ⟨e1,e2,e3,e4⟩=> ?_) (by dsimp only;omega)⟩;refine Ic (by rw [e1];exact hcs.head.1) (Go.done (by decide) ⟨e4.st.of fun _ _=>J,⟨e4.sm.m,e4.sm.i,?_⟩,e4.fr,Kv.of e3,Ex.none (by show c1.pc+1=_;rw [e1];rfl)⟩);show c1.out++ [c1.r 1]=s1.out++ [v];rw [e2,e4.sm.o]
     rw [ac q7]at h
     -- an expression alone
     have q8:k=8:=by omega
     subst q8;cases h;have hw:wY (.mk 8 nm ve (e::es) vb body vl els)=wX e:=J;rw [hw];exact⟨hf1,hX1.weak (fun c1 ⟨e1,e2,e3,e4⟩=>⟨e4.st,e4.sm,e4.fr,Kv.of e3,Ex.none e1⟩) (by omega)⟩
end
structure pFO(fs:List Tf)(f:Tf)(N:List Ba):Prop where
 so:SOs fs N f.body
 ps4:f.ps.length≤4
 nv:(cQ f).2.toNat≤12
 nd:f.ps.Nodup
 off:∀x∈N,(∃i:Nat,f.ps[i]?=some x∧bn (cQ f).1 x=8+4*((f.ps.length:Int)-1-i))∨(x∉f.ps∧∃j:Nat,1≤j∧j≤(cQ f).2.toNat∧bn (cQ f).1 x=wU (-(4*(j:Int))))
 inj:∀x∈N,∀y∈N,bn (cQ f).1 x=bn (cQ f).1 y→x=y
structure CF(code:List Qi)(fs:List Tf)(S:Ba→Int):Prop where
 fn:∀x f,cK fs x=some f→∃p:Nat,S x=(p:Int)∧cAt code p (zF S f p)∧p+wF f≤1984
 ok:∀x f,cK fs x=some f→∃N,pFO fs f N
theorem CF.cp{code:List Qi}{fs:List Tf}{S:Ba→Int}(h:CF code fs S):CP code fs S:=
 ⟨fun x f hf=>by obtain⟨p,h1,h2,h3⟩:=h.fn x f hf;exact⟨p,h1,by omega⟩,fun x f hf=>by obtain⟨N,hN⟩:=h.ok x f hf;exact hN.ps4⟩
theorem mP:∀(ps:List Ba)(al:List Int)(vs:Vs)(x:Ba),x∉ps→oL (gS vs ps al) x=oL vs x
 | [],al,vs,x,h=>by unfold gS;rfl
 | p::ps,[],vs,x,h=>by unfold gS;rfl
 | p::ps,a::al,vs,x,h=>by
  rw [List.mem_cons,not_or]at h;show oL (gS (fC vs p a) ps al) x=_;rw [mP ps al _ x h.2,oK,ac fun e=>h.1 e.symm]
theorem tT:∀(ps:List Ba)(al:List Int)(vs:Vs)(i:Nat)(x:Ba)(a:Int),ps.Nodup→ps[i]?=some x→al[i]?=some a→oL (gS vs ps al) x=a
 | [],al,vs,i,x,a,_,h,_=>by simp at h
 | p::ps,[],vs,i,x,a,_,_,h=>by simp at h
 | p::ps,b::al,vs,i,x,a,hn,h1,h2=>by
  rw [List.nodup_cons]at hn;show oL (gS (fC vs p b) ps al) x=_;cases i with
  | zero=>
   cases h1;cases h2;rw [mP ps al _ p hn.1,oK,ak J]
  | succ i=>exact tT ps al _ i x a hn.2 h1 h2
section
variable{code:List Qi}{fs:List Tf}{S:Ba→Int}
theorem um{d F:Int}:∀(n:Nat){p:Nat}{sp:Int}{c:Qs}{s:Ms},cAt code p (ig n)→c.pc=p→St d F sp c→9216+4*(n:Int)≤sp→sp≤16384→sp%4=0→pSm c s→
  Go code (2*(n:Int)) c fun c'=>c'.pc=p+2*n∧St d F (sp-4*(n:Int)) c'∧pSm c' s∧(∀a,sp≤a→c'.m a=c.m a)∧∀j:Nat,1≤j→j≤n→c'.m (sp-4*(j:Int))=0
 | 0,p,sp,c,s,_,hpc,h,_,_,_,hs=>Go.done (by omega) ⟨hpc,by rw [show sp-4*((0:Nat):Int)=sp by omega];exact h,hs,fun _ _=>rfl,fun j h1 h2=>by omega⟩
 | n+1,p,sp,c,s,hc,hpc,h,h1,h2,h3,hs=>by
  have hc':cAt code p (eO 0++ig n):=hc;obtain⟨hc1,hc2⟩:=hc'.app;refine(kp hc1 hpc h (by decide) ⟨by omega,h2,h3⟩).seq (m:=2*(n:Int)) (fun c1 ⟨e1,e2,e3,e4,e5,e6⟩=> ?_) (by omega);refine(um n (p:=p+2) (sp:=sp-4) hc2 e1 e2 (by omega) (by omega) (by omega) (hs.push e3 e4 e5 (by omega))).weak (fun c2 ⟨f1,f2,f3,f4,f5⟩=>⟨by rw [f1];omega,?_,f3,fun a ha=> ?_,fun j hj1 hj2=> ?_⟩) (Int.le_refl _)
  ·rw [show sp-4*((n+1:Nat):Int)=sp-4-4*(n:Int) by omega];exact f2
  ·rw [f4 a (by omega),e3,i_ (by omega)]
  ·by_cases hj:j=1
   ·subst hj;rw [show sp-4*((1:Nat):Int)=sp-4 by omega,f4 _ (Int.le_refl _),e3,nD,h.z]
   ·have:=f5 (j-1) (by omega) (by omega);rw [show sp-4*(j:Int)=sp-4-4*((j-1:Nat):Int) by omega];exact this
theorem E1{g:Nat}(hF:VF fs)(hC:CF code fs S)(ih:HD code fs S g):HC code fs S g:=by
 intro d f al s r h F sp c q hff hal hao hpc h15 hq hst hsm hok hfu ha hsp hlo hd hargs;have hlo':=rJ hd;cases g with
 | zero=>simp [qV]at h
 | succ g=>
  rw [qV]at h;obtain⟨pf,hpf,hcf,hpl⟩:=hC.fn _ _ hff;obtain⟨N,hN⟩:=hC.ok _ _ hff;obtain⟨nv,hnv⟩:∃nv,nv=(cQ f).2.toNat:=⟨_,J⟩
  obtain⟨o,ho⟩:∃o,o=(cQ f).1:=⟨_,J⟩
  have hv12:=hN.nv;have h4:=hN.ps4;have hoff:=hN.off;have hinj:=hN.inj;rw [←ho,←hnv]at hoff;rw [←ho]at hinj;rw [←hnv]at hv12;have hwf:wF f=17+2*nv+eR f.body:=by rw [hnv];rfl
  have hcf':cAt code pf ([qi 16 12 12 1,qi 16 2 0 12,qi 35 2 12 2,⟨49,0,0,0,0⟩]++(eO 15++(eO 13++([q3 1 13 14 0]++(ig nv++
   (jK o S ((pf+10+2*nv+eR f.body:Nat):Int) f.body (pf+9+2*nv)++([q3 1 1 0 0,q3 1 14 13 0]++(jN 13++(jN 15++ [qi 16 12 12 4294967295,qi 27 0 15 0]))))))))):=by
   rw [hnv,ho];exact hcf
  obtain⟨hA,hcf'⟩:=hcf'.app;obtain⟨hP15,hcf'⟩:=hcf'.app;obtain⟨hP13,hcf'⟩:=hcf'.app;obtain⟨hAdd,hcf'⟩:=hcf'.app;obtain⟨hP0,hcf'⟩:=hcf'.app;obtain⟨hBody,hcf'⟩:=hcf'.app;obtain⟨hR,hcf'⟩:=hcf'.app;obtain⟨hQ13,hcf'⟩:=hcf'.app;obtain⟨hQ15,hEnd⟩:=hcf'.app;simp only [jj,eG,eO,jN,ca,cj,Nat.zero_add,Nat.reduceAdd]at hP15 hP13 hAdd hP0 hBody hR hQ13 hQ15 hEnd;have hpc0:c.pc=pf:=by rw [hpc,hpf];rfl
  have hdc:(d:Int)≤12:=by omega
  have hstart:Go code 3 c fun c3=>c3.pc=(if d=12 then pf+3 else pf+4)∧St ((d:Int)+1) F sp c3∧c3.r 15=gT q∧pSm c3 s∧c3.m=c.m:=by
   refine iN hpc0 hA.head.1 (v:=(d:Int)+1) (by
    show some (wU (c.r 12+1))=_;rw [hst.d,fB (by omega)]) fun c1 e1 e2 e3 e4 e5=> ?_
   refine iN e1 hA.head.2.head.1 (v:=12) (by
    show some (wU (c1.r 0+12))=_;rw [e2,ce (by decide),hst.z];rfl) fun c2 f1 f2 f3 f4 f5=> ?_
   refine E5 (d:=2) (a:=12) (x:=2) (by rw [f1];exact hA.head.2.head.2.head.1) (Go.done (by decide) ⟨?_,⟨?_,?_,?_,?_⟩,?_,⟨fun i hi=> ?_,(f4.trans e4).trans hsm.i,(f5.trans e5).trans hsm.o⟩,f3.trans e3⟩)
   ·show(if c2.r 2≥c2.r 12 then _ else c2.pc+1)=_;rw [f2,dt (by decide),ce (by decide),e2,dt (by decide),f1];by_cases h12:d=12
    ·rw [ac (by omega),ak h12]
    ·rw [ak (by omega),ac h12];exact k9 (by rw [show((pf+4:Nat):Int)-((pf+1+1:Nat):Int)=2 by omega];rfl) (by omega) (by omega)
   ·show c2.r 0=0;rw [f2,ce (by decide),e2,ce (by decide)];exact hst.z
   ·show c2.r 12=_;rw [f2,ce (by decide),e2,dt (by decide)]
   ·show c2.r 13=_;rw [f2,ce (by decide),e2,ce (by decide)];exact hst.f
   ·show c2.r 14=_;rw [f2,ce (by decide),e2,ce (by decide)];exact hst.s
   ·show c2.r 15=_;rw [f2,ce (by decide),e2,ce (by decide)];exact h15
   ·show c2.m _=_;rw [f3,e3];exact hsm.m i hi
  by_cases h12:d=12
  ·rw [ak h12]at h hstart;cases h;exact fun _=>hstart.weak (fun c3 ⟨e1,_⟩=>by unfold Bk;rw [e1];exact hA.head.2.head.2.head.2.head.1) (by omega)
  rw [ac h12]at h hstart;have hlo1:lo d=lo (d+1)+256:=by unfold lo;omega
  have hlo2:=rJ (d:=d+1) (by omega)
  -- the frame
  have hframe:Go code (8+2*(nv:Int)) c fun c'=>c'.pc=pf+9+2*nv∧Pr o N (gS [] f.ps al) (d+1) (sp-8) (sp-8-4*(nv:Int)) s c'∧c'.m (sp-8)=F∧c'.m (sp-4)=gT q∧∀a,sp≤a→c'.m a=c.m a:=by
   refine hstart.seq (m:=5+2*(nv:Int)) (fun c3 ⟨e1,e2,e3,e4,e5⟩=> ?_) (by omega);refine(kp hP15 e1 e2 (by decide) ⟨by omega,by omega,ha⟩).seq (m:=3+2*(nv:Int)) (fun c4 ⟨f1,f2,f3,f4,f5,f6⟩=> ?_) (by omega);refine(kp hP13 f1 f2 (by decide) ⟨by omega,by omega,by omega⟩).seq (m:=1+2*(nv:Int)) (fun c5 ⟨g1,g2,g3,g4,g5,g6⟩=> ?_) (by omega);refine iw g1 hAdd.head.1 (v:=sp-8) (by
    show some (wU (c5.r 14+c5.r 0))=_;rw [g2.s,g2.z,fB (by omega)];exact congrArg some (by omega)) fun c6 i1 i2 i3 i4 i5=> ?_
   have hst6:St ((d:Int)+1) (sp-8) (sp-8) c6:=⟨by rw [i2,ce (by decide)];exact g2.z,by rw [i2,ce (by decide)];exact g2.d,by rw [i2];exact dt (by decide),by rw [i2,ce (by decide),g2.s];omega⟩
   have hsm6:pSm c6 s:=by
    have h5:=(e4.push f3 f4 f5 (by omega)).push g3 g4 g5 (by omega);exact⟨fun i hi=>by rw [i3];exact h5.m i hi,i4.trans h5.i,i5.trans h5.o⟩
   have hm8:c6.m (sp-8)=F:=by
    rw [i3,g3,show sp-8=sp-4-4 by omega,nD,f6 13 (by decide)];exact e2.f
   have hm4:c6.m (sp-4)=gT q:=by
    rw [i3,g3,i_ (by omega),f3,nD];exact e3
   have hmh:∀a,sp≤a→c6.m a=c.m a:=fun a ha=>by rw [i3,g3,i_ (by omega),f3,i_ (by omega),e5]
   refine(um nv (p:=pf+9) (s:=s) hP0 i1 hst6 (by omega) (by omega) (by omega) hsm6).weak (fun c7 ⟨j1,j2,j3,j4,j5⟩=>⟨j1,⟨by rw [show(((d+1:Nat):Int))=(d:Int)+1 by omega];exact j2,⟨fun x hx=> ?_,fun x hx y hy e=> ?_⟩,fun x hx=> ?_,j3,hok,?_,⟨by omega,by omega⟩,hfu,⟨by omega,by omega⟩⟩,by rw [j4 _ (Int.le_refl _)];exact hm8,by rw [j4 _ (by omega)];exact hm4,fun a ha=>by rw [j4 a (by omega)];exact hmh a ha⟩) (by omega)
   ·rcases hoff x hx with⟨i,hi,he⟩|⟨_,j,hj1,hj2,he⟩
    ·obtain⟨hil,-⟩:=cA.1 hi;have:va o (sp-8) x=sp+4*((f.ps.length:Int)-1-i):=by unfold va;rw [he,fB (by omega)];omega
     rw [this];exact⟨⟨by omega,by omega,by omega⟩,by omega⟩
    ·have:va o (sp-8) x=sp-8-4*(j:Int):=by unfold va;rw [he,np,np];omega
     rw [this];exact⟨⟨by omega,by omega,by omega⟩,by omega⟩
   ·refine hinj x hx y hy ?_;unfold va at e;rcases hoff x hx with⟨i,hi,he⟩|⟨_,j,hj1,hj2,he⟩<;>rcases hoff y hy with⟨i',hi',he'⟩|⟨_,j',hj1',hj2',he'⟩
    ·obtain⟨hil,-⟩:=cA.1 hi;obtain⟨hil',-⟩:=cA.1 hi';rw [he,he',np,np]at e;rw [he,he'];omega
    ·obtain⟨hil,-⟩:=cA.1 hi;rw [he,he',np,np,np]at e;exfalso;omega
    ·obtain⟨hil',-⟩:=cA.1 hi';rw [he,he',np,np,np]at e;exfalso;omega
    ·rw [he,he',np,np,np,np]at e;rw [he,he',np,np];omega
   ·rcases hoff x hx with⟨i,hi,he⟩|⟨hn,j,hj1,hj2,he⟩
    ·obtain⟨hil,-⟩:=cA.1 hi;have:va o (sp-8) x=sp+4*((f.ps.length:Int)-1-i):=by unfold va;rw [he,fB (by omega)];omega
     obtain⟨a,ha'⟩:∃a,al[i]?=some a:=⟨_,bO (by omega)⟩
     rw [this,j4 _ (by omega),hmh _ (by omega),tT f.ps al [] i x a hN.nd hi ha',←hargs i a ha',hal]
    ·have:va o (sp-8) x=sp-8-4*(j:Int):=by unfold va;rw [he,np,np];omega
     rw [this,j5 j hj1 hj2,mP f.ps al [] x hn];rfl
   ·exact okVs.bind f.ps al (fun p hp=>by simp at hp) hao
  cases hb:kQ g fs (d+1) (gS [] f.ps al) f.body s with
  | none=>rw [hb]at h;simp at h
  | some rb=>
   rw [hb]at h;have hB:∀c',(c'.pc=pf+9+2*nv∧Pr o N (gS [] f.ps al) (d+1) (sp-8) (sp-8-4*(nv:Int)) s c'∧c'.m (sp-8)=F∧c'.m (sp-4)=gT q∧∀a,sp≤a→c'.m a=c.m a)→
     SR code (pf+9+2*nv+eR f.body) (pf+10+2*nv+eR f.body) 50 0 o N (d+1) (sp-8) (sp-8-4*(nv:Int)) c' s rb:=fun c' ⟨e1,e2,_⟩=>
    ih.b g (Nat.lt_succ_self g) (d+1) _ f.body s rb hb o N (pf+9+2*nv) (pf+10+2*nv+eR f.body) (sp-8) (sp-8-4*(nv:Int)) c' hN.so hBody (by omega) (by omega) e1 e2 (by omega)
   cases rb with
   | err e=>cases h;exact fun he=>hframe.seq (fun c' hc'=>hB c' hc' he) (by omega)
   | ok qr s1=>
    obtain⟨vs1,qr⟩:=qr;cases h;have hf1:0≤s1.fuel:=by
     obtain⟨_,c2,_,_,hP⟩:=hframe;exact(hB c2 hP).1
    refine⟨hf1,hframe.seq (m:=100*(s.fuel-s1.fuel)+10) (fun c1 hc1=>(hB c1 hc1).2.seq (m:=9) (fun c2 ⟨e1,e2,e3,e4,e5⟩=> ?_) (by omega)) (by omega)⟩;obtain⟨k1,k2,k3,k4,k5⟩:=hc1;have hva:∀x∈N,∀a,(a=sp-8∨a=sp-4∨sp+4*(al.length:Int)≤a)→a≠va o (sp-8) x:=fun x hx a ha'=>by
     rcases hoff x hx with⟨i,hi,he⟩|⟨_,j,hj1,hj2,he⟩
     ·obtain⟨hil,-⟩:=cA.1 hi;unfold va;rw [he,fB (by omega)];omega
     ·unfold va;rw [he,np,np];omega
    have hm8:c2.m (sp-8)=F:=(e4 _ (by omega) fun x hx=>hva x hx _ (.inl J)).trans k3;have hm4:c2.m (sp-4)=gT q:=(e4 _ (by omega) fun x hx=>hva x hx _ (.inr (.inl J))).trans k4;have hmh:∀a,sp+4*(al.length:Int)≤a→c2.m a=c.m a:=fun a ha'=>(e4 _ (by omega) fun x hx=>hva x hx _ (.inr (.inr ha'))).trans (k5 a (by omega))
    have hend:Go code 1 c2 fun c3=>c3.pc=pf+10+2*nv+eR f.body∧c3.r 1=qr.getD 0∧St ((d:Int)+1) (sp-8) (sp-8-4*(nv:Int)) c3∧pSm c3 s1∧c3.m=c2.m:=by
     rw [show(((d+1:Nat):Int))=(d:Int)+1 by omega]at e1;cases qr with
     | some v=>exact Go.done (by decide) ⟨(e5.2 v rfl).1,(e5.2 v rfl).2,e1,e2,rfl⟩
     | none=>
      refine iw (e5.1 J) hR.head.1 (v:=0) (by
       show some (wU (c2.r 0+c2.r 0))=_;rw [e1.z];rfl) fun c3 g1 g2 g3 g4 g5=>Go.done (by decide) ⟨by rw [g1];omega,by rw [g2];exact dt (by decide),e1.of fun k hk=>by rw [g2];exact ce (by omega),⟨fun i hi=>by rw [g3];exact e2.m i hi,g4.trans e2.i,g5.trans e2.o⟩,g3⟩
    refine hend.seq (m:=8) (fun c3 ⟨f1,f2,f3,f4,f5⟩=> ?_) (by decide);refine iw f1 (by
     have:=hR.head.2.head.1;rw [show pf+10+2*nv+eR f.body=pf+9+2*nv+eR f.body+1 by omega];exact this) (v:=sp-8) (by
     show some (wU (c3.r 13+c3.r 0))=_;rw [f3.f,f3.z,Int.add_zero,fB (by omega)]) fun c4 g1 g2 g3 g4 g5=> ?_
    have h14:c4.r 14=sp-8:=by rw [g2];exact dt (by decide)
    refine(sQ (r:=13) hQ13 (g1.trans (by omega)) h14 (by decide) ⟨by omega,by omega,by omega⟩).seq (m:=5) (fun c5 ⟨i1,i2,i3,i4⟩=> ?_) (by decide);refine(sQ (sp:=sp-4) (r:=15) hQ15 (i1.trans (by omega)) (by rw [i3];omega) (by decide) ⟨by omega,by omega,by omega⟩).seq (m:=3) (fun c6 ⟨j1,j2,j3,j4⟩=> ?_) (by decide);have hm6:c6.m=c2.m:=by rw [j4.m,i4.m,g3,f5]
    have h13:c6.r 13=F:=by rw [j4.r 13 (by decide),i2,g3,f5];exact hm8
    have h15':c6.r 15=gT q:=by rw [j2,i4.m,g3,f5];exact hm4
    have h0:c6.r 0=0:=by rw [j4.r 0 (by decide),i4.r 0 (by decide),g2,ce (by decide)];exact f3.z
    have h1:c6.r 1=qr.getD 0:=by rw [j4.r 1 (by decide),i4.r 1 (by decide),g2,ce (by decide)];exact f2
    have h12':c6.r 12=(d:Int)+1:=by rw [j4.r 12 (by decide),i4.r 12 (by decide),g2,ce (by decide)];exact f3.d
    refine iN (p:=pf+15+2*nv+eR f.body) (j1.trans (by omega)) (by
     have:=hEnd.head.1;rw [show pf+15+2*nv+eR f.body=pf+4+2+2+1+2*nv+eR f.body+2+2+2 by omega];exact this) (v:=(d:Int)) (by
     show some (wU (c6.r 12+4294967295))=_;rw [h12',np];exact congrArg some (by omega)) fun c7 l1 l2 l3 l4 l5=> ?_
    refine E4 (d:=0) (a:=15) (x:=0) (by
     have:=hEnd.head.2.head.1;rw [l1,show pf+15+2*nv+eR f.body+1=pf+4+2+2+1+2*nv+eR f.body+2+2+2+1 by omega];exact this) (Go.done (by decide) ⟨?_,?_,⟨?_,?_,?_,?_⟩,⟨fun i hi=> ?_,?_,?_⟩,fun a ha'=> ?_⟩)
    ·show rB (wU (c7.r 15+0))=q;rw [l2,ce (by decide),h15'];exact Ey (by omega)
    ·show rp c7.r 0 (gT (c7.pc+1)) 1=_;rw [ce (by decide),l2,ce (by decide)];exact h1
    ·show rp c7.r 0 (gT (c7.pc+1)) 0=_;rw [Bw,l2,ce (by decide)];exact h0
    ·show rp c7.r 0 (gT (c7.pc+1)) 12=_;rw [ce (by decide),l2,dt (by decide)]
    ·show rp c7.r 0 (gT (c7.pc+1)) 13=_;rw [ce (by decide),l2,ce (by decide)];exact h13
    ·show rp c7.r 0 (gT (c7.pc+1)) 14=_;rw [ce (by decide),l2,ce (by decide),j3];omega
    ·show c7.m _=_;rw [l3,hm6,←f5];exact f4.m i hi
    ·exact(((l4.trans j4.i).trans i4.i).trans g4).trans f4.i
    ·exact(((l5.trans j4.o).trans i4.o).trans g5).trans f4.o
    ·show c7.m a=_;rw [l3,hm6];exact hmh a ha'
theorem H_(hF:VF fs)(hC:CF code fs S)(g:Nat):HD code fs S g:=by
 induction g with
 | zero=>exact⟨⟨fun _ h=>absurd h (Nat.not_lt_zero _),fun _ h=>absurd h (Nat.not_lt_zero _),fun _ h=>absurd h (Nat.not_lt_zero _)⟩,fun _ h=>absurd h (Nat.not_lt_zero _),fun _ h=>absurd h (Nat.not_lt_zero _),fun _ h=>absurd h (Nat.not_lt_zero _)⟩
 | succ g ih=>
  have up:∀{T:Nat→Prop},(∀g'<g,T g')→T g→∀g'<g+1,T g':=fun{T} h1 h2 g' hg=>by
   rcases Nat.lt_or_eq_of_le (Nat.le_of_lt_succ hg)with h|h
   ·exact h1 g' h
   ·exact h▸h2
  exact⟨⟨up ih.x (EX hF hC.cp ih.toHA),up ih.k (E0 hF ih.toHA),up ih.c (E1 hF hC ih)⟩,up ih.b (E3 hF ih),up ih.s (EZ hF ih),up ih.w (EY hF ih)⟩
end
theorem kc{x:Ba}{l:List Ba}:cU x l=true↔x∈l:=by
 unfold cU;rw [List.any_eq_true];constructor
 ·rintro ⟨y,h1,h2⟩;have h2:x=y:=by simpa using h2
  exact h2▸h1
 ·exact fun h=>⟨x,h,by simp⟩
mutual
theorem KO{fs:List Tf}{ns N:List Ba}(hs:∀x∈ns,x∈N):∀t:Tx,eX fs ns t=0→eX fs N t=0
 | .mk k n nm v kids,h=>by
  obtain⟨h1,h2⟩:=bc.1 h;refine bc.2 ⟨?_,xA hs kids h2⟩;by_cases hk:k=2
  ·rw [ak hk]at h1 ⊢;by_cases hm:cU nm ns=true
   ·rw [ak (kc.2 (hs nm (kc.1 hm)))]
   ·rw [ac hm]at h1;exact absurd h1 (by decide)
  ·rw [ac hk]at h1 ⊢;exact h1
theorem xA{fs:List Tf}{ns N:List Ba}(hs:∀x∈ns,x∈N):∀l:List Tx,jE fs ns l=0→jE fs N l=0
 | [],_=>rfl
 | t::r,h=>by
  obtain⟨h1,h2⟩:=bc.1 h;exact bc.2 ⟨KO hs t h1,xA hs r h2⟩
end
theorem XO.list{fs:List Tf}{N:List Ba}:∀{l:List Tx},GXs l→oh l=true→jE fs N l=0→∀u∈l,XO fs N u
 | [],_,_,_,u,hu=>by simp at hu
 | t::r,hg,hr,he,u,hu=>by
  have hr2:(rX t&&oh r)=true:=hr;rw [Bool.and_eq_true]at hr2;obtain⟨e1,e2⟩:=bc.1 he;rcases List.mem_cons.1 hu with rfl|hu
  ·exact⟨hg.1,hr2.1,e1⟩
  ·exact XO.list hg.2 hr2.2 e2 u hu
theorem C7:∀{l:List Tx}{t:Tx},t∈l→dX t≤gN l
 | [],t,h=>by simp at h
 | a::r,t,h=>by
  show dX t≤max (dX a) (gN r);rcases List.mem_cons.1 h with rfl|h
  ·omega
  ·have:=C7 h;omega
theorem xQ(fs:List Tf)(ns:List Ba)(k:Int)(nm:Ba)(ve:SV)(es:List Tx)(vb:SV)(body:List Ty)(vl:SV)(els:List Ty):bY fs ns (.mk k nm ve es vb body vl els)=
  ((dA fs (dA fs (if k=1 then ns++ [nm]else ns) body).1 els).1,fst (if k=2 then(if cU nm ns=true then 0 else 21)else 0) (fst (jE fs ns es) (fst (if k=1 then(if cU nm ns=true then 22 else 0)else 0) (fst (dA fs (if k=1 then ns++ [nm]else ns) body).2 (dA fs (dA fs (if k=1 then ns++ [nm]else ns) body).1 els).2)))):=rfl
theorem tI(fs:List Tf)(ns:List Ba)(t:Ty)(r:List Ty):dA fs ns (t::r)=((dA fs (bY fs ns t).1 r).1,fst (bY fs ns t).2 (dA fs (bY fs ns t).1 r).2):=rfl
mutual
theorem DE{fs:List Tf}:∀(t:Ty)(ns:List Ba),∀x∈ns,x∈(bY fs ns t).1
 | .mk k nm ve es vb body vl els,ns,x,hx=>by
  rw [xQ];refine jy els _ x (jy body _ x ?_);split
  ·exact List.mem_append_left _ hx
  ·exact hx
theorem jy{fs:List Tf}:∀(l:List Ty)(ns:List Ba),∀x∈ns,x∈(dA fs ns l).1
 | [],ns,x,hx=>hx
 | t::r,ns,x,hx=>by
  rw [tI];exact jy r _ x (DE t ns x hx)
end
mutual
theorem JJ{fs:List Tf}:∀(t:Ty)(ns N:List Ba)(d:Nat),(∀x∈(bY fs ns t).1,x∈N)→GY t→rY t=true→(bY fs ns t).2=0→DO d t=false→SO fs N t
 | .mk k nm ve es vb body vl els,ns,N,d,hN,hg,hr,he,hd=>by
  have hr2:(F1 k nm es.length body.length els.length&&oh es&&kZ body&&kZ els)=true:=hr;simp only [Bool.and_eq_true]at hr2;obtain⟨⟨⟨h1,h2⟩,h3⟩,h4⟩:=hr2;have hd2:(decide (d>8) || decide (gN es>8) || de (d+1) body || de (d+1) els)=false:=hd;simp only [Bool.or_eq_false_iff,decide_eq_false_iff_not]at hd2;obtain⟨⟨⟨d1,d2⟩,d3⟩,d4⟩:=hd2;have hsub:=DE (fs:=fs) (.mk k nm ve es vb body vl els) ns;rw [xQ]at he hN;obtain⟨e1,he⟩:=bc.1 he;obtain⟨e2,he⟩:=bc.1 he;obtain⟨e3,he⟩:=bc.1 he;obtain⟨e4,e5⟩:=bc.1 he;have hns:∀x∈ns,x∈N:=fun x hx=>hN x (hsub x hx)
  refine⟨h1,fun u hu=>⟨XO.list hg.2.1.2 h2 (xA hns es e2) u hu,by have:=C7 hu;omega⟩,fun hk=> ?_,⟨hg.2.2.1.1,sq body _ N (d+1) (fun x hx=>hN x (jy els _ x hx)) hg.2.2.1.2 h3 e4 d3⟩,hg.2.2.2.1,sq els _ N (d+1) hN hg.2.2.2.2 h4 e5 d4⟩;by_cases hk1:k=1
  ·refine hN nm (jy els _ nm (jy body _ nm ?_));rw [ak hk1];exact List.mem_append_right _ (List.mem_singleton_self _)
  ·have hk2:k=2:=by omega
   rw [ak hk2]at e1;by_cases hm:cU nm ns=true
   ·exact hns nm (kc.1 hm)
   ·rw [ac hm]at e1;exact absurd e1 (by decide)
theorem sq{fs:List Tf}:∀(l:List Ty)(ns N:List Ba)(d:Nat),(∀x∈(dA fs ns l).1,x∈N)→GYs l→kZ l=true→(dA fs ns l).2=0→de d l=false→SOs fs N l
 | [],_,_,_,_,_,_,_,_=>trivial
 | t::r,ns,N,d,hN,hg,hr,he,hd=>by
  have hr2:(rY t&&kZ r)=true:=hr;rw [Bool.and_eq_true]at hr2;have hd2:(DO d t || de d r)=false:=hd;rw [Bool.or_eq_false_iff]at hd2;rw [tI]at he hN;obtain⟨e1,e2⟩:=bc.1 he;exact⟨JJ t ns N d (fun x hx=>hN x (jy r _ x hx)) hg.1 hr2.1 e1 hd2.1,sq r _ N d hN hg.2 hr2.2 e2 hd2.2⟩
end
structure Jo(ps ns:List Ba)(o:Om)(n:Int)(vs:List Ba):Prop where
 ens:ns=ps++vs
 nd:ns.Nodup
 en:(vs.length:Int)=n
 p:∀(i:Nat) x,ps[i]?=some x→bn o x=8+4*((ps.length:Int)-1-i)
 v:∀(j:Nat) x,vs[j]?=some x→bn o x=wU (-(4*((j:Int)+1)))
theorem Jo.add{ps ns:List Ba}{o:Om}{n:Int}{vs:List Ba}{nm:Ba}(h:Jo ps ns o n vs)(hn:nm∉ns):Jo ps (ns++ [nm]) (fC o nm (wU (-(4*(n+1))))) (n+1) (vs++ [nm]):=by
 refine⟨by rw [h.ens,List.append_assoc],List.nodup_append.2 ⟨h.nd,by simp,fun a ha b hb e=> ?_⟩,by rw [bQ,dP,←h.en];omega,fun i x hi=> ?_,fun j x hj=> ?_⟩
 ·rw [List.mem_singleton.1 hb]at e;exact hn (e▸ha)
 ·rw [fX,ac fun e=>hn (by rw [e,h.ens];exact List.mem_append_left _ (cO hi))];exact h.p i x hi
 ·by_cases hl:j<vs.length
  ·rw [List.getElem?_append_left hl]at hj;rw [fX,ac fun e=>hn (by rw [e,h.ens];exact List.mem_append_right _ (cO hj))];exact h.v j x hj
  ·rw [List.getElem?_append_right (by omega)]at hj;have:j=vs.length:=by
    have:=(cA.1 hj).1;simp at this;omega
   subst this;rw [Nat.sub_self]at hj;cases hj;rw [fX,ak J,h.en]
theorem xn(k:Int)(nm:Ba)(ve:SV)(es:List Tx)(vb:SV)(body:List Ty)(vl:SV)(els:List Ty)(p:Om×Int):gD (.mk k nm ve es vb body vl els) p=gDs els (gDs body (if k=1 then(fC p.1 nm (wU (-(4*(p.2+1)))),p.2+1)else p)):=rfl
mutual
theorem M3{fs:List Tf}{ps:List Ba}:∀(t:Ty)(ns:List Ba)(p:Om×Int),(∃vs,Jo ps ns p.1 p.2 vs)→(bY fs ns t).2=0→∃vs,Jo ps (bY fs ns t).1 (gD t p).1 (gD t p).2 vs
 | .mk k nm ve es vb body vl els,ns,p,h,he=>by
  rw [xQ]at he ⊢;obtain⟨e1,he⟩:=bc.1 he;obtain⟨e2,he⟩:=bc.1 he;obtain⟨e3,he⟩:=bc.1 he;obtain⟨e4,e5⟩:=bc.1 he;rw [xn];refine yG els _ _ (yG body _ _ ?_ e4) e5;by_cases hk:k=1
  ·rw [ak hk]at e3;rw [ak hk,ak hk];obtain⟨vs,hvs⟩:=h;refine⟨_,hvs.add fun hm=> ?_⟩;rw [ak (kc.2 hm)]at e3;exact absurd e3 (by decide)
  ·rw [ac hk,ac hk];exact h
theorem yG{fs:List Tf}{ps:List Ba}:∀(l:List Ty)(ns:List Ba)(p:Om×Int),(∃vs,Jo ps ns p.1 p.2 vs)→(dA fs ns l).2=0→∃vs,Jo ps (dA fs ns l).1 (gDs l p).1 (gDs l p).2 vs
 | [],ns,p,h,_=>h
 | t::r,ns,p,h,he=>by
  rw [tI]at he ⊢;obtain⟨e1,e2⟩:=bc.1 he;exact yG r _ _ (M3 t ns p h e1) e2
end
mutual
theorem Im:∀(t:Ty)(p:Om×Int),(gD t p).2=p.2+vY t
 | .mk k nm ve es vb body vl els,p=>by
  rw [xn,mr els,mr body,show vY (.mk k nm ve es vb body vl els)=(if k=1 then 1 else 0)+dF body+dF els from J];by_cases h:k=1
  ·rw [ak h,ak h];show p.2+1+_+_=_;omega
  ·rw [ac h,ac h];omega
theorem mr:∀(l:List Ty)(p:Om×Int),(gDs l p).2=p.2+dF l
 | [],p=>by show p.2=p.2+((0:Nat):Int);omega
 | t::r,p=>by
  show(gDs r (gD t p)).2=_;rw [mr r,Im t,show dF (t::r)=vY t+dF r from J];omega
end
theorem CH(n:Int):∀(l:List Ba)(k:Int)(o:Om),l.Nodup→(∀(i:Nat) x,l[i]?=some x→bn (gP n k l o) x=8+4*(n-1-(k+i)))∧∀x,x∉l→bn (gP n k l o) x=bn o x
 | [],k,o,_=>⟨fun i x h=>by simp at h,fun _ _=>rfl⟩
 | p::r,k,o,h=>by
  rw [List.nodup_cons]at h;obtain⟨i1,i2⟩:=CH n r (k+1) (fC o p (8+4*(n-1-k))) h.2;refine⟨fun i x hi=> ?_,fun x hx=> ?_⟩
  ·cases i with
   | zero=>
    cases hi;show bn (gP n (k+1) r _) p=_;rw [i2 p h.1,fX,ak J];show 8+4*(n-1-k)=8+4*(n-1-(k+0));rw [Int.add_zero]
   | succ i=>
    have:=i1 i x hi;show bn (gP n (k+1) r _) x=_;rw [this];omega
  ·rw [List.mem_cons,not_or]at hx;show bn (gP n (k+1) r _) x=_;rw [i2 x hx.2,fX,ac fun e=>hx.1 e.symm]
theorem C5:∀(l ns:List Ba),ns.Nodup→tP ns l=0→(ns++l).Nodup
 | [],ns,h,_=>by rw [List.append_nil];exact h
 | x::r,ns,h,he=>by
  obtain⟨e1,e2⟩:=bc.1 he;have hx:x∉ns:=fun hm=>by rw [ak (kc.2 hm)]at e1;exact absurd e1 (by decide)
  have:=C5 r (ns++ [x]) (List.nodup_append.2 ⟨h,by simp,fun a ha b hb e=>hx (by rw [List.mem_singleton.1 hb]at e;exact e▸ha)⟩) e2;rw [List.append_assoc]at this;exact this
theorem KI{fs:List Tf}{f:Tf}(hg:GF f)(hr:kZ f.body=true)(h:lF fs f=0):pFO fs f (dA fs f.ps f.body).1:=by
 obtain⟨h1,h2⟩:=bc.1 h;obtain⟨h3,h4⟩:=bc.1 h2;have hb:¬(f.ps.length>4∨f.ps.length+dF f.body>12∨ef f.body>400∨de 1 f.body=true):=fun hb=>by
  rw [ak hb]at h1;exact absurd h1 (by decide)
 simp only [not_or,Bool.not_eq_true]at hb;obtain⟨b1,b2,b3,b4⟩:=hb;have hnd:f.ps.Nodup:=by
  have:=C5 f.ps [] (by simp) h3;exact this
 have hj0:Jo f.ps f.ps (gP f.ps.length 0 f.ps []) 0 []:=⟨by rw [List.append_nil],hnd,rfl,fun i x hi=>by
  rw [(CH f.ps.length f.ps 0 [] hnd).1 i x hi,Int.zero_add],fun j x hj=>by simp at hj⟩
 obtain⟨vs,hj⟩:=yG (fs:=fs) f.body f.ps (gP f.ps.length 0 f.ps [],0) ⟨[],hj0⟩ h4;have hgo:cQ f=gDs f.body (gP f.ps.length 0 f.ps [],0):=J;have hnv:(cQ f).2=(dF f.body:Int):=by rw [hgo,mr];omega
 rw [←hgo]at hj;have hvl:=hj.en;have hns:=hj.ens;have hndN:=hj.nd;have off:∀x∈(dA fs f.ps f.body).1,(∃i:Nat,f.ps[i]?=some x∧bn (cQ f).1 x=8+4*((f.ps.length:Int)-1-i))∨(x∉f.ps∧∃j:Nat,1≤j∧j≤(cQ f).2.toNat∧bn (cQ f).1 x=wU (-(4*(j:Int)))∧vs[j-1]?=some x):=fun x hx=>by
  rw [hns]at hx;by_cases hp:x∈f.ps
  ·obtain⟨i,hi⟩:=List.getElem?_of_mem hp;exact .inl ⟨i,hi,hj.p i x hi⟩
  ·rcases List.mem_append.1 hx with hx|hx
   ·exact absurd hx hp
   ·obtain⟨j,hjx⟩:=List.getElem?_of_mem hx;have hl:=(cA.1 hjx).1;refine .inr ⟨hp,j+1,by omega,by omega,?_,hjx⟩;rw [hj.v j x hjx];rfl
 refine⟨sq f.body f.ps _ 1 (fun _ h=>h) hg.2.2.2.2.1 hr h4 b4,by omega,by omega,hnd,fun x hx=> ?_,fun x hx y hy e=> ?_⟩
 ·rcases off x hx with h|⟨h1,j,h2,h3,h4,_⟩
  ·exact .inl h
  ·exact .inr ⟨h1,j,h2,h3,h4⟩
 ·rcases off x hx with⟨i,hi,he⟩|⟨_,j,hj1,hj2,he,hv⟩<;>rcases off y hy with⟨i',hi',he'⟩|⟨_,j',hj1',hj2',he',hv'⟩
  ·have:i=i':=by rw [he,he']at e;omega
   subst this;exact dv (hi.symm.trans hi')
  ·have hl:=(cA.1 hi).1;rw [he,he',np]at e;exfalso;omega
  ·have hl:=(cA.1 hi').1;rw [he,he',np]at e;exfalso;omega
  ·have:j=j':=by rw [he,he',np,np]at e;omega
   subst this;exact dv (hv.symm.trans hv')
theorem yv{fs:List Tf}(h:∀(i:Nat)(f:Tf),fs[i]?=some f→xu fs f.name=(i:Int)):(fs.map Tf.name).Nodup:=by
 refine List.pairwise_iff_getElem.2 fun i j hi hj hij e=> ?_
 rw [List.getElem_map,List.getElem_map]at e;have hil:i<fs.length:=by simpa using hi
 have hjl:j<fs.length:=by simpa using hj
 have h1:=h i fs[i] (bO hil);have h2:=h j fs[j] (bO hjl);rw [e]at h1;omega
theorem AW{S:Ba→Int}{code:List Qi}:∀(l:List Tf)(p:Nat),cAt code p (AX S l p)→p+wh l≤1984→∀x f,cK l x=some f→∃q:Nat,gx l p x=(q:Int)∧cAt code q (zF S f q)∧q+wF f≤1984
 | [],p,_,_,x,f,hf=>by simp [cK]at hf
 | a::r,p,hc,hl,x,f,hf=>by
  have hc':cAt code p (zF S a p++AX S r (p+wF a)):=hc;have hw:wh (a::r)=wF a+wh r:=J;obtain⟨h1,h2⟩:=hc'.app;rw [wc]at h2;unfold gx;unfold cK at hf;rw [List.find?_cons]at hf;by_cases hn:a.name=x
  ·rw [decide_eq_true hn]at hf;cases hf;rw [ak hn];exact⟨p,J,h1,by omega⟩
  ·rw [decide_eq_false hn]at hf;rw [ac hn];exact AW r (p+wF a) h2 (by omega) x f hf
theorem KV{fs:List Tf}{f:Tf}(hg:GP fs)(h:Fine fs f)(hr:∀f∈fs,kZ f.body=true)(hl:(iJ fs).length≤1984):CF (iJ fs) fs (gx fs 3):=by
 have hle:(iJ fs).length=3+wh fs:=by
  unfold iJ;rw [bQ,nT];rfl
 refine⟨fun x g hx=>AW fs 3 ?_ (by omega) x g hx,fun x g hx=> ?_⟩
 ·have:=cAt.of (a:= [qi 16 14 0 16384,qi 40 15 0 (wU (gx fs 3 d9-1)),⟨48,0,0,0,0⟩]) (l:=AX (gx fs 3) fs 3) (b:= []);rw [List.append_nil]at this;exact this
 ·have hm:=jc hx;exact⟨_,KI (hg.2 g hm) (hr g hm) (h.each g hm)⟩
def OJ(code:List Qi)(c:Qs)(fuel:Int):Re Int→Prop
 | .ok v s1=>0≤s1.fuel∧Go code (100*(fuel-s1.fuel)+50) c fun c'=>code[c'.pc]?=some ⟨48,0,0,0,0⟩∧c'.out=s1.out∧∀i:Nat,i<256→c'.m (8192+4*(i:Int))=s1.mem i
 | .err e=>e=26→Go code (100*fuel+150) c (Bk code)
theorem Et{fs:List Tf}{f:Tf}{ins:List Int}{fuel:Int}{g:Nat}{r:Re Int}(hg:GP fs)(h:Fine fs f)(hr:∀f∈fs,kZ f.body=true)(hl:(iJ fs).length≤1984)(hi:∀x∈ins,oW x)(hf0:0≤fuel)(hf:fuel≤1000000000000)
  (he:qV g fs 0 f [] (F8 ins fuel)=some r):OJ (iJ fs) ⟨0,fun _=>0,fun _=>0,ins,[]⟩ fuel r:=by
 have hC:=KV hg h hr hl;obtain⟨pm,hpm,hcm,hlm⟩:=hC.fn _ _ h.main;have hc:cAt (iJ fs) 0 (iJ fs):=fun j i hj=>by rw [Nat.zero_add];exact hj
 have hc':cAt (iJ fs) 0 ([qi 16 14 0 16384,qi 40 15 0 (wU (gx fs 3 d9-1)),⟨48,0,0,0,0⟩]++AX (gx fs 3) fs 3):=hc;have h3:=hc'.app.1;have hfn:=qh h.main;have hs:Go (iJ fs) 2 ⟨0,fun _=>0,fun _=>0,ins,[]⟩ fun c=>c.pc=pm∧c.r 15=gT 2∧St ((0:Nat):Int) 0 16384 c∧pSm c (F8 ins fuel):=by
  refine iN (c:=⟨0,fun _=>0,fun _=>0,ins,[]⟩) (p:=0) J h3.head.1 (v:=16384) J fun c1 e1 e2 e3 e4 e5=> ?_
  refine pM (d:=15) (a:=0) (x:=wU (gx fs 3 d9-1)) (by rw [e1];exact h3.head.2.head.1) (Go.done (by decide) ⟨?_,?_,⟨?_,?_,?_,?_⟩,⟨fun i _=> ?_,e4,e5⟩⟩)
  ·show rB (wU (gT c1.pc+_))=pm;rw [e1,hpm];exact k9 J (by omega) (by omega)
  ·show rp c1.r 15 (gT (c1.pc+1)) 15=_;rw [dt (by decide),e1]
  ·show rp c1.r 15 (gT (c1.pc+1)) 0=0;rw [ce (by decide),e2];rfl
  ·show rp c1.r 15 (gT (c1.pc+1)) 12=_;rw [ce (by decide),e2];rfl
  ·show rp c1.r 15 (gT (c1.pc+1)) 13=0;rw [ce (by decide),e2];rfl
  ·show rp c1.r 15 (gT (c1.pc+1)) 14=16384;rw [ce (by decide),e2];rfl
  ·show c1.m _=0;rw [e3]
 have hR:∀c,(c.pc=pm∧c.r 15=gT 2∧St ((0:Nat):Int) 0 16384 c∧pSm c (F8 ins fuel))→CR (iJ fs) 2 0 0 16384 0 c (F8 ins fuel) r:=fun c ⟨e1,e2,e3,e4⟩=>
  (H_ h.vf hC (g+1)).c g (Nat.lt_succ_self g) 0 f [] (F8 ins fuel) r he 0 16384 c 2 (by rw [hfn];exact h.main) (by rw [h.noP];rfl) (by simp) (by rw [hfn,hpm];exact e1) e2 (by decide) e3 e4 (HJ hi hf) hf0 rfl (by decide) (by decide) (by decide) (fun i x hi=>by simp at hi)
 cases r with
 | err e=>exact fun h26=>hs.seq (fun c hc=>hR c hc h26) (by show 2+(100*fuel+100)≤_;omega)
 | ok v s1=>
  have hf1:0≤s1.fuel:=by
   obtain⟨_,c2,_,_,hP⟩:=hs;exact(hR c2 hP).1
  refine⟨hf1,hs.seq (fun c hc=>(hR c hc).2.weak (fun c' ⟨e1,e2,e3,e4,e5⟩=>⟨?_,e4.o,e4.m⟩) (Int.le_refl _)) (by show 2+(100*(fuel-s1.fuel)+45)≤_;omega)⟩;rw [e1];exact h3.head.2.head.2.head.1
structure Msc(code:List Qi)(s:Mm):Prop where
 hs:MO s 64
 hb:byL s.d
 rt:∀p:Nat,p<64→s.r.getD p 0=o8 p
 im:∀(k:Nat)(i:Qi),code[k]?=some i→∀j:Nat,j<4→s.i[256+4*k+j]?=(eJ (lf i))[j]?
 len:code.length≤1984
 va:∀(k:Nat)(i:Qi),code[k]?=some i→VQ i∧0≤i.imm∧i.imm<4294967296
structure Sim(code:List Qi)(c:Qs)(x:Int)(s:Mm):Prop where
 k:Msc code s
 mem:∀a,yx a→yF s.d a.toNat=c.m a
 h0:c.r 0=0
 hr:∀k,0≤c.r k∧c.r k<4294967296
 pc:c.pc<1984→x=gT c.pc
 xb:0≤x∧x<4294967296
 hi:∀v∈c.inp,0≤v∧v<4294967296
theorem JP{p:Nat}(h:0<p∧p<32):o8 p/4%2=1:=by
 unfold o8;rw [ac (by omega),ak (by omega)];rfl
theorem Hc{p:Nat}(h:32≤p):o8 p=3:=by
 unfold o8;rw [ak h]
theorem Sim.pcl{code:List Qi}{c:Qs}{x:Int}{s:Mm}(h:Sim code c x s){i:Qi}(hc:code[c.pc]?=some i):c.pc<1984∧x=256+4*(c.pc:Int):=by
 obtain⟨h1,-⟩:=cA.1 hc;have:=h.k.len;exact⟨by omega,h.pc (by omega)⟩
theorem Sim.stx{code:List Qi}{c:Qs}{x:Int}{s:Mm}(h:Sim code c x s){i:Qi}(hc:code[c.pc]?=some i){st:Int}(hst:0≤st∧st<1000000000000000):Stx s i x c.r st:=by
 obtain⟨h1,h2⟩:=h.pcl hc;obtain⟨hv,him⟩:=h.k.va _ _ hc;have hl:=h.k.hs.d;refine⟨⟨him,hv,⟨by omega,by omega⟩,by omega,fun k h3 h4=> ?_,fun k hk=> ?_⟩,by omega,h.h0,h.hr,hst⟩
 ·unfold vT;rw [show((x+k)/256).toNat=(x+k).toNat/256 by omega,h.k.rt _ (by omega),JP (by omega),decide_eq_true (by omega)];rfl
 ·rw [show x.toNat+k=256+4*c.pc+k by omega];exact h.k.im _ _ hc k hk
theorem yj{code:List Qi}{s:Mm}(h:Msc code s){a:Int}(ha:yx a){q:Int}(hq:q=1∨q=2):∀k:Int,0≤k→k<4→vT s (IntKind.u32.wrap (a+k)) q=true:=fun k h1 h2=>by
 obtain⟨ha1,ha2,ha3⟩:=ha;have hl:=h.hs.d;rw [bw (by omega)];unfold vT;rw [show((a+k)/256).toNat=(a+k).toNat/256 by omega,h.rt _ (by omega),Hc (by omega),decide_eq_true (by omega)];rcases hq with rfl|rfl<;>rfl
theorem mm{d:List Int}{a k:Nat}{l:List Int}(h:a+l.length≤d.length):(pk d a l).getD k 0=if a≤k∧k<a+l.length then l.getD (k-a) 0 else d.getD k 0:=by
 rw [List.getD_eq_getElem?_getD,mY];by_cases h1:a≤k∧k<a+l.length
 ·rw [ak h1,ak ⟨h1.1,h1.2,by omega⟩,List.getD_eq_getElem?_getD]
 ·rw [ac h1,ac (fun h2=>h1 ⟨h2.1,h2.2.1⟩),List.getD_eq_getElem?_getD]
theorem th(d:List Int)(a:Nat):yF d a=((((0:Int)*256+d.getD (a+3) 0)*256+d.getD (a+2) 0)*256+d.getD (a+1) 0)*256+d.getD (a+0) 0:=rfl
theorem HU{d:List Int}{a b:Nat}{v:Int}(hv:0≤v∧v<4294967296)(ha:a+4≤d.length)(h4:a%4=0∧b%4=0):yF (pk d a (eJ v)) b=if b=a then v else yF d b:=by
 have hl:(eJ v).length=4:=J;rw [th,mm (by omega),mm (by omega),mm (by omega),mm (by omega),hl];by_cases h:b=a
 ·subst h;rw [ak (by omega),ak (by omega),ak (by omega),ak (by omega),ak J,show b+3-b=3 by omega,show b+2-b=2 by omega,show b+1-b=1 by omega,show b+0-b=0 by omega];show(((0*256+v/16777216%256)*256+v/65536%256)*256+v/256%256)*256+v%256=v;omega
 ·rw [ac (by omega),ac (by omega),ac (by omega),ac (by omega),ac h,th]
theorem Dx{d:List Int}{a:Nat}:∀{l:List Int},byL d→byL l→byL (pk d a l):=fun{l} h1 h2 x hx=>by
 obtain⟨k,hk⟩:=List.getElem?_of_mem hx;rw [mY]at hk;split at hk
 ·exact h2 x (cO hk)
 ·exact h1 x (cO hk)
theorem Dw(v:Int):byL (eJ v):=fun x hx=>by
 have:x=v%256∨x=v/256%256∨x=v/65536%256∨x=v/16777216%256:=by
  simpa [eJ]using hx
 omega
theorem BR(o:BinOp)(ho:o= .and∨o= .or∨o= .xor)(a b:Int):oW (bits o .u32 a b):=by
 rcases ho with rfl|rfl|rfl<;>exact jP _
theorem Md{op a b v:Int}(h:vL op a b=some v)(ha:0≤a∧a<4294967296)(hb:0≤b∧b<4294967296):0≤v∧v<4294967296:=by
 have key:∀z:Int,some (wU z)=some v→0≤v∧v<4294967296:=fun z hz=>by injection hz with hz;subst hz;exact jP z
 unfold vL at h;split at h
 ·exact key _ h
 split at h
 ·exact key _ h
 split at h
 ·injection h with h;subst h;exact BR _ (by simp) _ _
 split at h
 ·injection h with h;subst h;exact BR _ (by simp) _ _
 split at h
 ·injection h with h;subst h;exact BR _ (by simp) _ _
 split at h
 ·exact key _ h
 split at h
 ·injection h with h;subst h;have h2:(0:Int)<2^(b%32).toNat:=Int.pow_pos (by decide);exact⟨Int.ediv_nonneg ha.1 (by omega),Int.lt_of_le_of_lt (Int.ediv_le_self _ ha.1) ha.2⟩
 split at h
 ·exact key _ h
 split at h
 ·split at h
  ·cases h
  ·injection h with h;subst h;exact⟨Int.ediv_nonneg ha.1 hb.1,Int.lt_of_le_of_lt (Int.ediv_le_self _ ha.1) ha.2⟩
 split at h
 ·injection h with h;subst h;unfold tr;split<;>decide
 ·cases h
theorem rm{r:Int→Int}{d v:Int}(h:r 0=0):rp r d v 0=0:=by
 unfold rp;rw [ac (fun h2=>h2.2 h2.1.symm)];exact h
theorem zT{r:Int→Int}{d v:Int}(h:∀k,0≤r k∧r k<4294967296)(hv:0≤v∧v<4294967296)(k:Int):0≤rp r d v k∧rp r d v k<4294967296:=by
 unfold rp;split
 ·exact hv
 ·exact h k
theorem yq{y:Int}(h:rB y<1984):256≤y∧y%4=0∧y=gT (rB y):=by
 unfold rB at h ⊢;by_cases h2:256≤y∧y%4=0
 ·rw [ak h2]at h ⊢;unfold gT;omega
 ·rw [ac h2]at h;omega
theorem Sim.to{code:List Qi}{c:Qs}{x:Int}{s:Mm}(h:Sim code c x s){p:Nat}{r:Int→Int}{x1:Int}(h0:r 0=0)(hr:∀k,0≤r k∧r k<4294967296)(hp:p<1984→x1=gT p)(hx:0≤x1∧x1<4294967296):
  Sim code {c with pc:=p,r:=r} x1 s:=⟨h.k,h.mem,h0,hr,hp,hx,h.hi⟩
def DI(e:Me)(x:Int)(r:Int→Int)(st:Int)(s:Mm)(x1:Int)(r1:Int→Int)(st1 t y:Int)(s1:Mm):Prop:=
 aN prog 115 [.agg (sR x r st).toArray,Pt e.m] [aO e.m 157 (mR e),own 5 1 bJ (sv e.vd) s.d,own 5 1 bJ (sv e.vi) s.i,own 3 1 eI (sv e.vr) s.r] [] (.agg (oC x1 r1 st1 t y).toArray) [aO e.m 157 (mR e),own 5 1 bJ (sv e.vd) s1.d,own 5 1 bJ (sv e.vi) s1.i,own 3 1 eI (sv e.vr) s1.r]
theorem Sim.step(e:Me){code:List Qi}{c c1:Qs}{x:Int}{s:Mm}(h:Sim code c x s){i:Qi}(hc:code[c.pc]?=some i)(h1:tZ i c=some c1)(ho:i.op≠48){st:Int}(hst:0≤st∧st<1000000000000000):
  ∃x1 s1,Sim code c1 x1 s1∧c1.inp=c.inp∧c1.out=c.out∧DI e x c.r st s x1 c1.r (st+1) 0 0 s1:=by
 have hx:=h.stx hc hst;obtain⟨hp1,hp2⟩:=h.pcl hc;have hpx:x=gT c.pc:=hp2;have hx4:0≤x+4∧x+4<4294967296:=by omega
 have hn:c.pc+1<1984→x+4=gT (c.pc+1):=fun _=>by unfold gT;omega
 have hn2:x+4=gT (c.pc+1):=by unfold gT;omega
 unfold tZ at h1;cases hu:vL i.op (c.r i.a) (if i.op<16 then c.r i.b else i.imm)with
 | some v=>
  rw [hu]at h1;injection h1 with h1;subst h1;exact⟨x+4,s,h.to (rm h.h0) (zT h.hr (Md hu (h.hr _) (by split;exact h.hr _;exact(h.k.va _ _ hc).2))) hn hx4,J,J,Bn e s 64 h.k.hs i x c.r st hx v hu⟩
 | none=>
  rw [hu]at h1;dsimp only at h1;by_cases o1:i.op=23
  ·rw [ak o1]at h1;by_cases ha:yx (wU (c.r i.a+i.imm))
   ·rw [ak ha]at h1;injection h1 with h1;subst h1;have hl:=h.k.hs.d;have h4:wU (c.r i.a+i.imm)+4≤s.d.length:=by obtain⟨ha1,ha2,ha3⟩:=ha;omega
    have hb:=xa h.k.hb (wU (c.r i.a+i.imm)).toNat 4;have hm:=h.mem _ ha;refine⟨x+4,s,h.to (rm h.h0) (zT h.hr ?_) hn hx4,J,J,?_⟩
    ·rw [←hm];have h256:(256:Int)^4=4294967296:=by decide
     exact⟨hb.1,by unfold yF;omega⟩
    ·have:=Bi e s 64 h.k.hs i x c.r st hx h.k.hb o1 h4 (yj h.k ha (Or.inl J));rw [hm]at this;exact this
   ·rw [ac ha]at h1;cases h1
  rw [ac o1]at h1;by_cases o2:i.op=25
  ·rw [ak o2]at h1;by_cases ha:yx (wU (c.r i.a+i.imm))
   ·rw [ak ha]at h1;injection h1 with h1;subst h1;have hl:=h.k.hs.d;have ha':=ha;obtain⟨ha1,ha2,ha3⟩:=ha';have h4:wU (c.r i.a+i.imm)+4≤s.d.length:=by omega
    refine⟨x+4,{s with d:=pk s.d (wU (c.r i.a+i.imm)).toNat (eJ (c.r i.d))},⟨⟨h.k.hs.dd (da _ _ _),Dx h.k.hb (Dw _),h.k.rt,h.k.im,h.k.len,h.k.va⟩,fun a h2=> ?_,h.h0,h.hr,hn,hx4,h.hi⟩,J,J,Bg e s 64 h.k.hs i x c.r st hx o2 h4 (yj h.k ha (Or.inr J))⟩;have h3:=h2;obtain⟨h5,h6,h7⟩:=h3;show yF (pk s.d _ _) a.toNat=mw c.m _ _ a;rw [HU (h.hr _) (by omega) ⟨by omega,by omega⟩];unfold mw;by_cases h8:a=wU (c.r i.a+i.imm)
    ·rw [ak (by omega),ak h8]
    ·rw [ac (by omega),ac h8];exact h.mem a h2
   ·rw [ac ha]at h1;cases h1
  rw [ac o2]at h1;by_cases o3:i.op=27
  ·rw [ak o3]at h1;injection h1 with h1;subst h1;have hw:=jP (c.r i.a+i.imm);refine⟨wU (c.r i.a+i.imm)/4*4,s,h.to (rm h.h0) (zT h.hr (by rw [←hn2];exact hx4)) (fun hp=> ?_) (by omega),J,J,?_⟩
   ·obtain⟨q1,q2,q3⟩:=yq hp;rw [←q3];omega
   ·have:=zI e s 64 h.k.hs i x c.r st hx o3;rw [hn2]at this;exact this
  rw [ac o3]at h1;by_cases o4:i.op=32
  ·rw [ak o4]at h1;injection h1 with h1;subst h1;have hw:=jP (x+4*i.imm);have:=Bm e s 64 h.k.hs i x c.r st hx o4;by_cases hq:c.r i.d=c.r i.a
   ·rw [ak hq]at this ⊢;refine⟨wU (x+4*i.imm),s,h.to h.h0 h.hr (fun hp=> ?_) hw,J,J,this⟩;obtain⟨q1,q2,q3⟩:=yq hp;rw [←q3,hpx]
   ·rw [ac hq]at this ⊢;exact⟨x+4,s,h.to h.h0 h.hr hn hx4,J,J,this⟩
  rw [ac o4]at h1;by_cases o5:i.op=35
  ·rw [ak o5]at h1;injection h1 with h1;subst h1;have hw:=jP (x+4*i.imm);have:=zJ e s 64 h.k.hs i x c.r st hx o5;by_cases hq:c.r i.d≥c.r i.a
   ·rw [ak hq]at this ⊢;refine⟨wU (x+4*i.imm),s,h.to h.h0 h.hr (fun hp=> ?_) hw,J,J,this⟩;obtain⟨q1,q2,q3⟩:=yq hp;rw [←q3,hpx]
   ·rw [ac hq]at this ⊢;exact⟨x+4,s,h.to h.h0 h.hr hn hx4,J,J,this⟩
  rw [ac o5]at h1;by_cases o6:i.op=40
  ·rw [ak o6]at h1;injection h1 with h1;subst h1;have hw:=jP (x+4*i.imm);refine⟨wU (x+4*i.imm),s,h.to (rm h.h0) (zT h.hr (by rw [←hn2];exact hx4)) (fun hp=> ?_) hw,J,J,?_⟩
   ·obtain⟨q1,q2,q3⟩:=yq hp;rw [←q3,hpx]
   ·have:=Bj e s 64 h.k.hs i x c.r st hx o6;rw [hn2]at this;exact this
  rw [ac o6]at h1;by_cases o7:i.op=41
  ·rw [ak o7]at h1;injection h1 with h1;subst h1;exact⟨x+4,s,h.to (rm h.h0) (zT h.hr (jP _)) hn hx4,J,J,Bh e s 64 h.k.hs i x c.r st hx o7⟩
  rw [ac o7,ac (fun h2=>ho h2.1),ac (fun h2=>ho h2.1)]at h1;cases h1
def nZ(i:Qi):Int×Int:=if i.op=48 then(4,i.imm)else(3,0)
theorem Sim.trap(e:Me){code:List Qi}{c:Qs}{x:Int}{s:Mm}(h:Sim code c x s){i:Qi}(hc:code[c.pc]?=some i)(ho:i.op=48∨i.op=49){st:Int}(hst:0≤st∧st<1000000000000000):
  DI e x c.r st s x c.r st (nZ i).1 (nZ i).2 s:=by
 have hx:=h.stx hc hst;by_cases h1:i.op=48
 ·rw [show nZ i=(4,i.imm)from ak h1];exact Bf e s 64 h.k.hs i x c.r st hx h1
 ·rw [show nZ i=(3,0)from ac h1];exact Bl e s 64 h.k.hs i x c.r st hx (by omega)
def FU(code:List Qi):Nat→Qs→Qs→Prop
 | 0,c,c'=>c=c'
 | n+1,c,c'=>∃i c1,code[c.pc]?=some i∧tZ i c=some c1∧i.op≠48∧FU code n c1 c'
theorem Sim.turn(e:Me){code:List Qi}{c c':Qs}{x:Int}{s:Mm}(h:Sim code c x s){n:Nat}(hn:FU code n c c'){i:Qi}(hc:code[c'.pc]?=some i)(ho:i.op=48∨i.op=49){st:Int}(hst:0≤st∧st<1000000000000000):
  ∃x1 r1 st1 t y s1,DI e x c.r st s x1 r1 st1 t y s1∧((t=0∧∃m c1,n=m+1∧r1=c1.r∧st1=st+1∧c1.inp=c.inp∧c1.out=c.out∧Sim code c1 x1 s1∧FU code m c1 c')∨(t≠0∧n=0∧c=c'∧t=(nZ i).1∧y=(nZ i).2∧s1=s)):=by
 cases n with
 | zero=>
  have h2:c=c':=hn;subst h2;refine⟨x,c.r,st,(nZ i).1,(nZ i).2,s,h.trap e hc ho hst,.inr ⟨?_,J,J,J,J,J⟩⟩;unfold nZ;split
  ·show(4:Int)≠0;decide
  ·show(3:Int)≠0;decide
 | succ m=>
  obtain⟨j,c1,h2,h3,h4,h5⟩:=hn;obtain⟨x1,s1,h6,h7,h8,h9⟩:=h.step e h2 h3 h4 hst;exact⟨x1,c1.r,st+1,0,0,s1,h9,.inl ⟨J,m,c1,J,J,J,h7,h8,h6,h5⟩⟩
structure Rl where
 x:Int
 s:Mm
 c:Qs
 m:Nat
 k:Nat
theorem zS(e:Me)(cp:Nat){code:List Qi}{c c':Qs}{x:Int}{s:Mm}(h:Sim code c x s){n:Nat}(hn:FU code n c c'){i:Qi}(hc:code[c'.pc]?=some i)(ho:i.op=48∨i.op=49)(st most:Int)(hst:0≤st∧st+n<1000000000000000)(hm:(n:Int)<most):
  Spec prog 65 [Pt cp,I6 most] [aO e.m 157 (mR e),own 5 1 bJ (sv e.vd) (s).d,own 5 1 bJ (sv e.vi) (s).i,own 3 1 eI (sv e.vr) (s).r,aO cp 93 (mE x c.r st e.m)] [] (X:=Int×Mm) (fun p=>Sim code c' p.1 p.2) (fun _=> .agg #[I6 (nZ i).1,I3 (nZ i).2]) (fun p=> [aO e.m 157 (mR e),own 5 1 bJ (sv e.vd) p.2.d,own 5 1 bJ (sv e.vi) p.2.i,own 3 1 eI (sv e.vr) p.2.r,aO cp 93 (mE p.1 c'.r (st+(n:Int)) e.m)]) (fun _=> []):=by
 refine ay func65 J ntmps65 J fun w0 M H=>sJ 0 20 J J (sJ 1 21 J J (sJ 2 22 J J (sJ 3 23 J J (sJ 4 24 J J (am (aU yc J J fun b4=>aw J (ao J (aa (aC ?_)))))))))
 refine bC (X:=Rl) (fun p=>Sim code p.c p.x p.s∧FU code p.m p.c c'∧p.m+p.k=n) (fun p=> [(0,Pt cp),(1,I6 most),(4,Pt b4),(5,I6 (p.k:Int))]) (fun p=> [(20,aO e.m 157 (mR e)),(21,own 5 1 bJ (sv e.vd) p.s.d),(22,own 5 1 bJ (sv e.vi) p.s.i),(23,own 3 1 eI (sv e.vr) p.s.r),(24,aO cp 93 (mE p.x p.c.r (st+(p.k:Int)) e.m)),(4,aO b4 53 [I6 0,I3 0])]) (fun p=> []) (fun p=>p.m) ⟨x,s,c,n,0⟩ ⟨h,hn,J⟩ J (by dsimp only;rw [show st+((0:Nat):Int)=st by omega];rfl) J (fun p hp=> ?_);obtain⟨hp1,hp2,hp3⟩:=hp;obtain⟨x1,r1,st1,t,y,s1,hS,hor⟩:=hp1.turn e hp2 hc ho (st:=st+(p.k:Int)) ⟨by omega,by omega⟩;refine aC (aT (aT ?_));refine bV [7,8,9,10,11,12,13,14,15,16,17,18,19,20,21,22,23,24,25] _ J (br (V:= [(0,7,_),(1,8,_),(2,9,_),(3,10,_),(4,11,_),(5,12,_),(6,13,_),(7,14,_),(8,15,_),(9,16,_),(10,17,_),(11,18,_),(12,19,_),(13,20,_),(14,21,_),(15,22,_),(16,23,_),(17,24,_),(18,25,_)]) [0,1,2,3,4,5,6,7,8,9,10,11,12,13,14,15,16,17,18] J J (aK J J (ad J (av J) (ad J (ah dx J) (ad J (ah m9 J) (ad J (ag t3 J J (aB (k:=24) J J)) (ad J (aS J J ge) (aK J J (a_ (cT [] J J J O (fun hg1=>aV J)) (a_ (cT [(14,_)] J J J ⟨J,O⟩ (fun hg2=>av J)) (a_ (cT [(15,_)] J J J ⟨J,O⟩ (fun hg3=>ah dx J)) (a_ (cT [(16,_)] J J J ⟨J,O⟩ (fun hg4=>ah gd J)) (a_ (cT [(17,_)] J J J ⟨J,O⟩ (fun hg5=>ag t3 J J (aB (k:=24) J J))) (a_ (cT [] J J J O (fun hg6=>aV J)) (a_ (cT [(19,_)] J J J ⟨J,O⟩ (fun hg7=>av J)) (a_ (cT [(20,_)] J J J ⟨J,O⟩ (fun hg8=>ah dx J)) (a_ (cT [(21,_)] J J J ⟨J,O⟩ (fun hg9=>ah m9 J)) (a_ (cT [(22,_)] J J J ⟨J,O⟩ (fun hg10=>ag t3 J J (aB (k:=24) J J))) (a_ (cT [(18,_),(23,_)] J J J ⟨J,J,O⟩ (fun hg11=>aS J J fp)) (ad J (bD J J J) au))))))))))))))))))) J J J ?_);refine ai J (fun h12=> ?_) (fun h12=> ?_)
 ·cases h12
 ·(try simp only [aX]at h12);refine az (aR (ab J (ab J (ap J J fp (aa (ai J (fun h13=> ?_) (fun h13=> ?_)))))))
  ·(exfalso;have h0:=h13;revert h0;simp;omega)
  ·(try simp only [aX]at h13);refine az (aT ?_);refine bV [31,32,33,34,35,36,37,38,39,6] _ J (jZ (V:= [(0,31,_),(1,32,_),(2,33,_),(3,34,_),(4,35,_),(5,36,_),(6,37,_),(7,38,_)]) [0,1,2,3,4,5,6,7] J J (aK J J (ad J (av J) (ad J (ah dx J) (ad J (aM (us:=sR p.x p.c.r (st+(p.k:Int))) lX J J J (jC (k:=24) J J)) (aK J J (ad J (av J) (ad J (ah dw J) (ad J (ag nt J J (aB (k:=24) J J)) au)))))))) J [8,9] J J (fZ (ir 8 [8,7,6,5,4,3,2,1,0] [] (fun _=> []) J J J J J J J J J (fun _ _=>J) J (bS (xs:= [.tmp 34,.tmp 38]) hS GH [20,21,22,23] [] [20,21,22,23]) (fun _ _=>bk [] 9 [9,8,7,6,5,4,3,2,1,0] [] (fun b6=> []) J J au J J J J J J J J J J J (fun _ _=>J) J (gH kM J) (fun b6 _=>bR [] 10 [10,9,8,7,6,5,4,3,2,1,0] [] (fun _=> []) J J au J J J J J J J J J (fun _ _=>J) J (cI (k:=6) kM J J J J J J) (fun _ _=>br [] J J au J J J ?_)))) (fZ (ir 9 [9] [] (fun b6=> []) J J J J J J J J J (fun _ _=>J) J (gH kM J) (fun b6 _=>bk [0,1,2,3,4,5,6,7] 8 [9,8,7,6,5,4,3,2,1,0] [] (fun _=> []) J J (aK J J (ad J (av J) (ad J (ah dx J) (ad J (aM (us:=sR p.x p.c.r (st+(p.k:Int))) lX J J J (jC (k:=24) J J)) (aK J J (ad J (av J) (ad J (ah dw J) (ad J (ag nt J J (aB (k:=24) J J)) au)))))))) J J J J J J J J J J J (fun _ _=>J) J (bS (xs:= [.tmp 34,.tmp 38]) hS GH [20,21,22,23] [] [20,21,22,23]) (fun _ _=>bR [] 10 [10,9,8,7,6,5,4,3,2,1,0] [] (fun _=> []) J J au J J J J J J J J J (fun _ _=>J) J (cI (k:=6) kM J J J J J J) (fun _ _=>br [] J J au J J J ?_)))) pl)))
   ·refine aR (aA ow J (aJ (cy qc J) (aL 6 t3 J J J J (ap J J fW (aa (ai J (fun h14=> ?_) (fun h14=> ?_)))))))
    ·(try simp only [aX]at h14);obtain⟨-,q2,q3,q4,q5,q6⟩:=hor.resolve_left (fun q=>h14 q.1);subst q6;obtain rfl:p.k=n:=by omega
     rw [←q4,←q5,←q3];refine am (aA ow J (aJ (aM (us:= [I6 t,I3 y]) yc J J J (jC (k:=6) J J)) (aq (k:=4) yc J J J J J J (aa (ar (aG (p.x,p.s) (q3▸hp1) J (bU (be yc J J J (bh (k:=4) J))) J [20,21,22,23,24] [] J J J))))))
    ·(try simp only [aX]at h14);obtain⟨q1,m1,c1,q2,q3,q4,qi,qo,q6,q7⟩:=hor.resolve_right (fun q=>q.1 h14);subst q3;subst q4;refine az (am (ab J (aA y5 J (aJ (aM (us:=sR x1 c1.r (st+(p.k:Int)+1)) lX J J J (jC (k:=6) J J)) (bq J (aA dx J (ax (k:=24) (us:=sR x1 c1.r (st+(p.k:Int)+1)) (c':=mE x1 c1.r (st+(p.k:Int)+1) e.m) lX J J J J J J J J (aa (aj (ab J (ap J J aY (ao J (aa ?_)))))))))))));refine aI ⟨x1,s1,c1,m1,p.k+1⟩ ⟨⟨q6,q7,by show m1+(p.k+1)=n;omega⟩,by show m1<p.m;omega⟩ J (by dsimp only;rw [show st+((p.k+1:Nat):Int)=st+(p.k:Int)+1 by omega];rfl) J
   ·refine aR (aA ow J (aJ (cy qc J) (aL 6 t3 J J J J (ap J J fW (aa (ai J (fun h15=> ?_) (fun h15=> ?_)))))))
    ·(try simp only [aX]at h15);obtain⟨-,q2,q3,q4,q5,q6⟩:=hor.resolve_left (fun q=>h15 q.1);subst q6;obtain rfl:p.k=n:=by omega
     rw [←q4,←q5,←q3];refine am (aA ow J (aJ (aM (us:= [I6 t,I3 y]) yc J J J (jC (k:=6) J J)) (aq (k:=4) yc J J J J J J (aa (ar (aG (p.x,p.s) (q3▸hp1) J (bU (be yc J J J (bh (k:=4) J))) J [20,21,22,23,24] [] J J J))))))
    ·(try simp only [aX]at h15);obtain⟨q1,m1,c1,q2,q3,q4,qi,qo,q6,q7⟩:=hor.resolve_right (fun q=>q.1 h15);subst q3;subst q4;refine az (am (ab J (aA y5 J (aJ (aM (us:=sR x1 c1.r (st+(p.k:Int)+1)) lX J J J (jC (k:=6) J J)) (bq J (aA dx J (ax (k:=24) (us:=sR x1 c1.r (st+(p.k:Int)+1)) (c':=mE x1 c1.r (st+(p.k:Int)+1) e.m) lX J J J J J J J J (aa (aj (ab J (ap J J aY (ao J (aa ?_)))))))))))));refine aI ⟨x1,s1,c1,m1,p.k+1⟩ ⟨⟨q6,q7,by show m1+(p.k+1)=n;omega⟩,by show m1<p.m;omega⟩ J (by dsimp only;rw [show st+((p.k+1:Nat):Int)=st+(p.k:Int)+1 by omega];rfl) J
end Go.Proofs.YtedmdgbmdplifaaGreat
