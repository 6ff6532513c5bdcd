/-
  A part of the proof. Conditions are with the theorems.
-/
import Derived.Test.YtedmdgbmdplifaaGreatXFa
import Derived.Test.YtedmdgbmdplifaaGreatXFb
import Derived.Test.YtedmdgbmdplifaaGreatXFc
import Derived.Test.YtedmdgbmdplifaaGreatXFd
set_option maxHeartbeats 32000000
set_option maxRecDepth 100000
set_option linter.unusedSimpArgs false
set_option linter.unusedVariables false
namespace Go.Proofs.YtedmdgbmdplifaaGreat
open Go.RowKit Tryz
theorem Ap(op:Int):
  aW prog 148 [I6 op] [] [] (I6 (kL op)) []:=by
 refine aI func148 J ntmps148 J fun w0 M H=>aq (am J (aa (aU (ad J (aa (aA (bC (X:=Unit) (fun _=>True) (fun _=> [(3,I6 op),(4,.bool (decide (op=1∨op=16)))]) (fun _=> []) (fun _=> []) ?_ (fun _ _=> ?_))))))))
 ·refine aq (ar J J bv (am J (aa (ap J (fun h1=> ?_) (fun h1=> ?_)))))
  ·(try simp only [bl]at h1);refine aC (aG () O (by first|(rw [show decide (op=1∨op=16)=decide (op=1)from decide_eq_decide.2 (by omega)];rfl)|(rw [show decide (op=1∨op=16)=decide (op=16)from decide_eq_decide.2 (by omega)];rfl)) J J)
  ·(try simp only [bl]at h1);refine ak (ar J J bv (am J (aa (aG () O (by first|(rw [show decide (op=1∨op=16)=decide (op=1)from decide_eq_decide.2 (by omega)];rfl)|(rw [show decide (op=1∨op=16)=decide (op=16)from decide_eq_decide.2 (by omega)];rfl)) J J))))
 ·refine ap J (fun h2=> ?_) (fun h2=> ?_)
  ·(try simp only [bl]at h2);have e:kL op=3:=by unfold kL;rw [aj (by omega)]
   rw [e];refine aq (am J (aa (ay (aN () O J (ce (aL J)) J [] [] J J J))))
  ·(try simp only [bl]at h2);refine aq (ar J J bv (am J (aa (ap J (fun h3=> ?_) (fun h3=> ?_)))))
   ·(try simp only [bl]at h3);have e:kL op=4:=by unfold kL;rw [ac (by omega),aj (by omega)]
    rw [e];refine aq (am J (aa (ay (aN () O J (ce (aL J)) J [] [] J J J))))
   ·(try simp only [bl]at h3);refine bC (X:=Unit) (fun _=>True) (fun _=> [(3,I6 op),(9,.bool (decide (op=3∨op=17)))]) (fun _=> []) (fun _=> []) ?_ (fun _ _=> ?_)
    ·refine aq (ar J J bv (am J (aa (ap J (fun h4=> ?_) (fun h4=> ?_)))))
     ·(try simp only [bl]at h4);refine aC (aG () O (by first|(rw [show decide (op=3∨op=17)=decide (op=3)from decide_eq_decide.2 (by omega)];rfl)|(rw [show decide (op=3∨op=17)=decide (op=17)from decide_eq_decide.2 (by omega)];rfl)) J J)
     ·(try simp only [bl]at h4);refine ak (ar J J bv (am J (aa (aG () O (by first|(rw [show decide (op=3∨op=17)=decide (op=3)from decide_eq_decide.2 (by omega)];rfl)|(rw [show decide (op=3∨op=17)=decide (op=17)from decide_eq_decide.2 (by omega)];rfl)) J J))))
    ·refine ap J (fun h5=> ?_) (fun h5=> ?_)
     ·(try simp only [bl]at h5);have e:kL op=5:=by unfold kL;rw [ac (by omega),ac (by omega),aj (by omega)]
      rw [e];refine aq (am J (aa (ay (aN () O J (ce (aL J)) J [] [] J J J))))
     ·(try simp only [bl]at h5);refine bC (X:=Unit) (fun _=>True) (fun _=> [(3,I6 op),(12,.bool (decide (op=4∨op=18)))]) (fun _=> []) (fun _=> []) ?_ (fun _ _=> ?_)
      ·refine aq (ar J J bv (am J (aa (ap J (fun h6=> ?_) (fun h6=> ?_)))))
       ·(try simp only [bl]at h6);refine aC (aG () O (by first|(rw [show decide (op=4∨op=18)=decide (op=4)from decide_eq_decide.2 (by omega)];rfl)|(rw [show decide (op=4∨op=18)=decide (op=18)from decide_eq_decide.2 (by omega)];rfl)) J J)
       ·(try simp only [bl]at h6);refine ak (ar J J bv (am J (aa (aG () O (by first|(rw [show decide (op=4∨op=18)=decide (op=4)from decide_eq_decide.2 (by omega)];rfl)|(rw [show decide (op=4∨op=18)=decide (op=18)from decide_eq_decide.2 (by omega)];rfl)) J J))))
      ·refine ap J (fun h7=> ?_) (fun h7=> ?_)
       ·(try simp only [bl]at h7);have e:kL op=6:=by unfold kL;rw [ac (by omega),ac (by omega),ac (by omega),aj (by omega)]
        rw [e];refine aq (am J (aa (ay (aN () O J (ce (aL J)) J [] [] J J J))))
       ·(try simp only [bl]at h7);refine bC (X:=Unit) (fun _=>True) (fun _=> [(3,I6 op),(15,.bool (decide (op=5∨op=19)))]) (fun _=> []) (fun _=> []) ?_ (fun _ _=> ?_)
        ·refine aq (ar J J bv (am J (aa (ap J (fun h8=> ?_) (fun h8=> ?_)))))
         ·(try simp only [bl]at h8);refine aC (aG () O (by first|(rw [show decide (op=5∨op=19)=decide (op=5)from decide_eq_decide.2 (by omega)];rfl)|(rw [show decide (op=5∨op=19)=decide (op=19)from decide_eq_decide.2 (by omega)];rfl)) J J)
         ·(try simp only [bl]at h8);refine ak (ar J J bv (am J (aa (aG () O (by first|(rw [show decide (op=5∨op=19)=decide (op=5)from decide_eq_decide.2 (by omega)];rfl)|(rw [show decide (op=5∨op=19)=decide (op=19)from decide_eq_decide.2 (by omega)];rfl)) J J))))
        ·refine ap J (fun h9=> ?_) (fun h9=> ?_)
         ·(try simp only [bl]at h9);have e:kL op=7:=by unfold kL;rw [ac (by omega),ac (by omega),ac (by omega),ac (by omega),aj (by omega)]
          rw [e];refine aq (am J (aa (ay (aN () O J (ce (aL J)) J [] [] J J J))))
         ·(try simp only [bl]at h9);refine bC (X:=Unit) (fun _=>True) (fun _=> [(3,I6 op),(18,.bool (decide (op=6∨op=20)))]) (fun _=> []) (fun _=> []) ?_ (fun _ _=> ?_)
          ·refine aq (ar J J bv (am J (aa (ap J (fun h10=> ?_) (fun h10=> ?_)))))
           ·(try simp only [bl]at h10);refine aC (aG () O (by first|(rw [show decide (op=6∨op=20)=decide (op=6)from decide_eq_decide.2 (by omega)];rfl)|(rw [show decide (op=6∨op=20)=decide (op=20)from decide_eq_decide.2 (by omega)];rfl)) J J)
           ·(try simp only [bl]at h10);refine ak (ar J J bv (am J (aa (aG () O (by first|(rw [show decide (op=6∨op=20)=decide (op=6)from decide_eq_decide.2 (by omega)];rfl)|(rw [show decide (op=6∨op=20)=decide (op=20)from decide_eq_decide.2 (by omega)];rfl)) J J))))
          ·refine ap J (fun h11=> ?_) (fun h11=> ?_)
           ·(try simp only [bl]at h11);have e:kL op=8:=by unfold kL;rw [ac (by omega),ac (by omega),ac (by omega),ac (by omega),ac (by omega),aj (by omega)]
            rw [e];refine aq (am J (aa (ay (aN () O J (ce (aL J)) J [] [] J J J))))
           ·(try simp only [bl]at h11);refine bC (X:=Unit) (fun _=>True) (fun _=> [(3,I6 op),(21,.bool (decide (op=7∨op=21)))]) (fun _=> []) (fun _=> []) ?_ (fun _ _=> ?_)
            ·refine aq (ar J J bv (am J (aa (ap J (fun h12=> ?_) (fun h12=> ?_)))))
             ·(try simp only [bl]at h12);refine aC (aG () O (by first|(rw [show decide (op=7∨op=21)=decide (op=7)from decide_eq_decide.2 (by omega)];rfl)|(rw [show decide (op=7∨op=21)=decide (op=21)from decide_eq_decide.2 (by omega)];rfl)) J J)
             ·(try simp only [bl]at h12);refine ak (ar J J bv (am J (aa (aG () O (by first|(rw [show decide (op=7∨op=21)=decide (op=7)from decide_eq_decide.2 (by omega)];rfl)|(rw [show decide (op=7∨op=21)=decide (op=21)from decide_eq_decide.2 (by omega)];rfl)) J J))))
            ·refine ap J (fun h13=> ?_) (fun h13=> ?_)
             ·(try simp only [bl]at h13);have e:kL op=9:=by unfold kL;rw [ac (by omega),ac (by omega),ac (by omega),ac (by omega),ac (by omega),ac (by omega),aj (by omega)]
              rw [e];refine aq (am J (aa (ay (aN () O J (ce (aL J)) J [] [] J J J))))
             ·(try simp only [bl]at h13);refine bC (X:=Unit) (fun _=>True) (fun _=> [(3,I6 op),(24,.bool (decide (op=8∨op=22)))]) (fun _=> []) (fun _=> []) ?_ (fun _ _=> ?_)
              ·refine aq (ar J J bv (am J (aa (ap J (fun h14=> ?_) (fun h14=> ?_)))))
               ·(try simp only [bl]at h14);refine aC (aG () O (by first|(rw [show decide (op=8∨op=22)=decide (op=8)from decide_eq_decide.2 (by omega)];rfl)|(rw [show decide (op=8∨op=22)=decide (op=22)from decide_eq_decide.2 (by omega)];rfl)) J J)
               ·(try simp only [bl]at h14);refine ak (ar J J bv (am J (aa (aG () O (by first|(rw [show decide (op=8∨op=22)=decide (op=8)from decide_eq_decide.2 (by omega)];rfl)|(rw [show decide (op=8∨op=22)=decide (op=22)from decide_eq_decide.2 (by omega)];rfl)) J J))))
              ·refine ap J (fun h15=> ?_) (fun h15=> ?_)
               ·(try simp only [bl]at h15);have e:kL op=10:=by unfold kL;rw [ac (by omega),ac (by omega),ac (by omega),ac (by omega),ac (by omega),ac (by omega),ac (by omega),aj (by omega)]
                rw [e];refine aq (am J (aa (ay (aN () O J (ce (aL J)) J [] [] J J J))))
               ·(try simp only [bl]at h15);refine aq (ar J J bv (am J (aa (ap J (fun h16=> ?_) (fun h16=> ?_)))))
                ·(try simp only [bl]at h16);have e:kL op=11:=by unfold kL;rw [ac (by omega),ac (by omega),ac (by omega),ac (by omega),ac (by omega),ac (by omega),ac (by omega),ac (by omega),aj (by omega)]
                 rw [e];refine aq (am J (aa (ay (aN () O J (ce (aL J)) J [] [] J J J))))
                ·(try simp only [bl]at h16);refine aq (ar J J bv (am J (aa (ap J (fun h17=> ?_) (fun h17=> ?_)))))
                 ·(try simp only [bl]at h17);have e:kL op=12:=by unfold kL;rw [ac (by omega),ac (by omega),ac (by omega),ac (by omega),ac (by omega),ac (by omega),ac (by omega),ac (by omega),ac (by omega),aj (by omega)]
                  rw [e];refine aq (am J (aa (ay (aN () O J (ce (aL J)) J [] [] J J J))))
                 ·(try simp only [bl]at h17);refine aq (ar J J bv (am J (aa (ap J (fun h18=> ?_) (fun h18=> ?_)))))
                  ·(try simp only [bl]at h18);have e:kL op=14:=by unfold kL;rw [ac (by omega),ac (by omega),ac (by omega),ac (by omega),ac (by omega),ac (by omega),ac (by omega),ac (by omega),ac (by omega),ac (by omega),aj (by omega)]
                   rw [e];refine aq (am J (aa (ay (aN () O J (ce (aL J)) J [] [] J J J))))
                  ·(try simp only [bl]at h18);refine aq (ar J J bv (am J (aa (ap J (fun h19=> ?_) (fun h19=> ?_)))))
                   ·(try simp only [bl]at h19);have e:kL op=15:=by unfold kL;rw [ac (by omega),ac (by omega),ac (by omega),ac (by omega),ac (by omega),ac (by omega),ac (by omega),ac (by omega),ac (by omega),ac (by omega),ac (by omega),aj (by omega)]
                    rw [e];refine aq (am J (aa (ay (aN () O J (ce (aL J)) J [] [] J J J))))
                   ·(try simp only [bl]at h19);have e:kL op=0:=by unfold kL;rw [ac (by omega),ac (by omega),ac (by omega),ac (by omega),ac (by omega),ac (by omega),ac (by omega),ac (by omega),ac (by omega),ac (by omega),ac (by omega),ac (by omega)]
                    rw [e];refine aC (aq (am J (aa (ay (aN () O J (ce (aL J)) J [] [] J J J)))))
theorem uK(a b:Int):
  aW prog 153 [I6 32,I3 a,I3 b] [] [] (.bool (decide (a=b))) []:=by
 refine aI func153 J ntmps153 J fun w0 M H=>aq (am J (aa (aU (ad J (aa (aA (aq (ar J J bv (am J (aa (ap J (fun h1=> ?_) (fun h1=> ?_))))))))))))
 ·(try simp only [bl]at h1);refine aq (ad J (ad J (ar J J bv (am J (aa (ay (aN () O J (ce (aL J)) J [] [] J J J)))))))
 ·exact absurd h1 (by decide)
theorem uJ(a b:Int):
  aW prog 153 [I6 35,I3 a,I3 b] [] [] (.bool (decide (a≥b))) []:=by
 refine aI func153 J ntmps153 J fun w0 M H=>aq (am J (aa (aU (ad J (aa (aA (aq (ar J J bv (am J (aa (ap J (fun h1=> ?_) (fun h1=> ?_))))))))))))
 ·exact absurd h1 (by decide)
 ·(try simp only [bl]at h1);refine aq (ar J J bv (am J (aa (ap J (fun h2=> ?_) (fun h2=> ?_)))))
  ·exact absurd h2 (by decide)
  ·(try simp only [bl]at h2);refine aq (ar J J bv (am J (aa (ap J (fun h3=> ?_) (fun h3=> ?_)))))
   ·exact absurd h3 (by decide)
   ·(try simp only [bl]at h3);refine aq (ar J J bv (am J (aa (ap J (fun h4=> ?_) (fun h4=> ?_)))))
    ·(try simp only [bl]at h4);refine aq (ad J (ad J (ar J J iz (am J (aa (ay (aN () O J (ce (aL J)) J [] [] J J J)))))))
    ·exact absurd h4 (by decide)
structure Fx(s:Mm)(i:Qi)(pc:Int):Prop where
 imm:0≤i.imm∧i.imm<4294967296
 hv:VQ i
 p:0≤pc∧pc+4≤s.d.length
 al:pc%4=0
 rt:∀k:Int,0≤k→k<4→zN s (pc+k) 4=true
 im:∀k:Nat,k<4→s.i[pc.toNat+k]?=(fP (oi i))[k]?
theorem VQ.bd{i:Qi}(hv:VQ i):0≤oi i∧oi i<4294967296:=Bi (i:=i) (by unfold rM;simp only [Bool.and_eq_true];exact⟨⟨⟨⟨hv.k,hv.fd⟩,hv.fa⟩,hv.fb⟩,hv.im⟩)
def OO(w:Int):Nat→Int
 | 0=>0
 | k+1=>OO w k+nM w k%256*256^k
theorem JM{w:Int}(hw:0≤w∧w<4294967296):OO w 4=w:=by
 show 0+w%256*256^0+w/256%256*256^1+w/256/256%256*256^2+w/256/256/256%256*256^3=w;omega
theorem Gv{w:Int}(hw:0≤w∧w<4294967296){k:Nat}(hk:k<4):0≤OO w k∧OO w k+nM w k%256*256^k<4294967296∧0≤nM w k%256*256^k∧nM w k%256*256^k<4294967296:=by
 have:k=0∨k=1∨k=2∨k=3:=by omega
 rcases this with rfl|rfl|rfl|rfl
 ·show 0≤(0:Int)∧0+w%256*256^0<4294967296∧0≤w%256*256^0∧w%256*256^0<4294967296;omega
 ·show 0≤0+w%256*256^0∧0+w%256*256^0+w/256%256*256^1<4294967296∧0≤w/256%256*256^1∧w/256%256*256^1<4294967296;omega
 ·show 0≤0+w%256*256^0+w/256%256*256^1∧0+w%256*256^0+w/256%256*256^1+w/256/256%256*256^2<4294967296∧0≤w/256/256%256*256^2∧w/256/256%256*256^2<4294967296;omega
 ·show 0≤0+w%256*256^0+w/256%256*256^1+w/256/256%256*256^2∧0+w%256*256^0+w/256%256*256^1+w/256/256%256*256^2+w/256/256/256%256*256^3<4294967296∧0≤w/256/256/256%256*256^3∧w/256/256/256%256*256^3<4294967296;omega
theorem SJ{w:Int}(hw:0≤w∧w<4294967296){k:Nat}(hk:k<4):IntKind.u32.wrap (nM w k%256*2^(8*(k:Int)).toNat)=nM w k%256*256^k:=by
 obtain⟨-,-,h1,h2⟩:=Gv hw hk;have e:(2:Int)^(8*(k:Int)).toNat=256^k:=by
  have:k=0∨k=1∨k=2∨k=3:=by omega
  rcases this with rfl|rfl|rfl|rfl<;>rfl
 rw [e];exact mc h1 h2
def UW(i:Qi):List Value:=jw i++ [I6 0,I3 0]
theorem yz(e:Me)(s:Mm)(n:Nat)(hs:MO s n)(i:Qi)(pc:Int)(hf:Fx s i pc):
  aW prog 147 [I3 pc,Pt e.m] [bj e.m 157 (mR e),own 5 1 cn (sv e.vd) (s).d,own 5 1 cn (sv e.vi) (s).i,own 3 1 eI (sv e.vr) (s).r] [] (.agg (UW i).toArray) [bj e.m 157 (mR e),own 5 1 cn (sv e.vd) (s).d,own 5 1 cn (sv e.vi) (s).i,own 3 1 eI (sv e.vr) (s).r]:=by
 refine aI func147 J ntmps147 J fun w0 M H=> ?_
 have hdl:=hs.d;have hnn:=hs.n;have hp:=hf.p;have hal:=hf.al;have hwb:=hf.hv.bd;refine aq (aZ DG J J fun b4=>aa (aU (ad J (ar J J (k8 (by omega) (by first|exact sZ (by omega)|rfl)) (ar J J iT (aa (ap J (fun h1=> ?_) (fun h1=> ?_))))))))
 ·(exfalso;have h0:=h1;revert h0;simp;omega)
 ·(try simp only [bl]at h1);refine aC (aq (am J (aa (aU (am J (aa (aA (bJ (X:=Nat) (fun k=>k≤4) (fun k=> [(0,I3 pc),(1,Pt e.m),(4,Pt b4),(5,I3 (OO (oi i) k)),(6,I6 (k:Int))]) (fun k=> [(0,bj e.m 157 (mR e)),(1,own 5 1 cn (sv e.vd) s.d),(2,own 5 1 cn (sv e.vi) s.i),(3,own 3 1 eI (sv e.vr) s.r),(4,bj b4 236 [I6 0,I6 0,I6 0,I6 0,I3 0,I6 0,I3 0])]) (fun k=> []) (fun k=>4-k) 0 (bn _) J J J (fun k n1=>aU (ad J (ar J J cy (aa (ap J (fun h2=> ?_) (fun h2=> ?_))))))))))))))
  ·(try simp only [bl]at h2);have hi:k<4:=by omega
   have hbk:=Gv hwb hi;refine aC (be (aA (aq (ad J (ad J (ad J (aP (cw underlying3 underlying41 J (c:=(k:Int)) (cc (by omega))) (ar J J (co (c:=pc+k) (cc (by omega))) ?_))))))));refine dI (xs:= [.tmp 19,.tmp 23]) (Ev e s n hs (pc+k) (by omega) (hf.rt k (by omega) (by omega)) (nM (oi i) k%256) (by rw [show(pc+(k:Int)).toNat=pc.toNat+k by omega,hf.im k hi,B7 hwb hi]) (by omega)) Rc [0,1,2,3] [] [0,1,2,3] J J J J J J J J (fun _ _=>J) (fun _ _ _=>J) J (fun _ _=> ?_);refine aZ jo J J fun b7=>av (k:=7) jo J J J J J J (aa (aU (aD qd J (aR 7 t4 J J J J (aP (cZ J) (aa (ap J (fun h3=> ?_) (fun h3=> ?_))))))))
   ·cases h3
   ·(try simp only [bl]at h3);refine aC (ak (ad J (aD ss J (aR 7 eA J J J J (ad J (ar J J lF (aP (cw underlying3 underlying138 J (c:=8*(k:Int)) (by first|exact BL (by omega) (by omega)|rfl)) (ar J J (jQ (by omega) (by show _≤(32:Int);omega) (SJ hwb hi)) (ar J J (co (c:=OO (oi i) (k+1)) (cc (by omega))) (am J (aa (ak (ad J (ar J J aK (am J (aa ?_))))))))))))))));refine aG (k+1) ⟨by omega,by omega⟩ J J J
  ·(try simp only [bl]at h2);have hi:k=4:=by omega
   subst hi;rw [JM hwb];refine bL (aq (ad J (ai (xs:= [.tmp 43]) (wE i hf.imm hf.hv) Rb [] [] [] (fun _ _=>ad J (aP (cC J J) (aP (cC J J) (aZ fF J J fun b8=>av (k:=8) fF J J J J J J (am J (aa (aU (ad J (ar J J iT (aa (ap J (fun h4=> ?_) (fun h4=> ?_)))))))))))))))
   ·cases h4
   ·(try simp only [bl]at h4);refine aC (aq (aP (aM fF J J J (bp (k:=8) J)) (aP (aX (cs:=(UW i).toArray) (parts:= [(0,.tmp 51)]) DG PM J (by kernel_rfl)) (av (k:=4) DG J J J J J J (aa (ay (aN () O J (ce (bw DG J J J (bp (k:=4) J))) J [0,1,2,3] [] J J J)))))))
section
end
theorem Du{α:Type}{p:α→Bool}{l:List α}{u:α}(hm:u∈l)(h:p u=true):l.any p=true:=List.any_eq_true.2 ⟨u,hm,h⟩
def eQ(p:SV×List Ba):List Value:= [sv p.1]
def Gz(v:SV)(l:List (SV×List Ba)):Asn:=⟨fun w F=>SlIn' w F 1 eQ (sv v) l∧∀p∈l,SlIn' w F 1 eS (sv p.1) p.2,fun h hs=>⟨h.1.stable hs,fun p hp=>(h.2 p hp).stable hs⟩⟩
theorem Gw{v:SV}{l:List (SV×List Ba)}:∀w G,(Gz v l).pred w G→(∀b,G b→b<w.heap.size)→∃G',(sl 1 eQ (sv v) l).pred w G'∧∀b,G' b→G b:=fun w G h _=>h.1
theorem Gx{v:SV}{l:List (SV×List Ba)}{p:SV×List Ba}(hp:p∈l):∀w G,(Gz v l).pred w G→(∀b,G b→b<w.heap.size)→∃G',(sl 1 eS (sv p.1) p.2).pred w G'∧∀b,G' b→G b:=fun w G h _=>h.2 p hp
abbrev JN(a b c d e f g h:SV):List (SV×List Ba):= [(a,[kK]),(b,[fw]),(c,[fo]),(d,[nR,nO]),(e,[mx,nP,nQ,oU]),(f,[gQ,ib]),(g,[gg,dU]),(h,[gT,la,lR])]
theorem Gy{v a b c d e f g h:SV}(w:World)(F:Nat→Prop)(hh:AllIn w F [own 9 1 eS (sv a) [kK],own 9 1 eS (sv b) [fw],own 9 1 eS (sv c) [fo],own 9 1 eS (sv d) [nR,nO],own 9 1 eS (sv e) [mx,nP,nQ,oU],own 9 1 eS (sv f) [gQ,ib],own 9 1 eS (sv g) [gg,dU],own 9 1 eS (sv h) [gT,la,lR],own 46 1 eQ (sv v) (JN a b c d e f g h)]):(Gz v (JN a b c d e f g h)).pred w F:=by
 obtain⟨⟨_,a1,b1⟩,⟨_,a2,b2⟩,⟨_,a3,b3⟩,⟨_,a4,b4⟩,⟨_,a5,b5⟩,⟨_,a6,b6⟩,⟨_,a7,b7⟩,⟨_,a8,b8⟩,⟨_,a9,b9⟩,_⟩:=hh;refine⟨dm a9 b9,fun p hp=> ?_⟩;simp only [JN,List.mem_cons,List.not_mem_nil,or_false]at hp;rcases hp with rfl|rfl|rfl|rfl|rfl|rfl|rfl|rfl
 ·exact dm a1 b1
 ·exact dm a2 b2
 ·exact dm a3 b3
 ·exact dm a4 b4
 ·exact dm a5 b5
 ·exact dm a6 b6
 ·exact dm a7 b7
 ·exact dm a8 b8
theorem Nl{k:Int}{nm:Ba}{n:Nat}(h:k=6):jC k nm n=(((nm==⟨#[45]⟩) || (nm==⟨#[126]⟩) || (nm==⟨#[33]⟩))&&decide ((n:Int)=1)):=by
 rw [Lj h]
 congr 1
 simp only [cx,rf,List.any_cons,List.any_nil,Bool.or_false,eT,Bool.or_assoc];rfl
def UI(t:Tx):Prop:=aW prog 137 [xV t] [] [ck t.v t.kids] (.bool (rX t)) []
theorem PF{t:Tx}(h:jC t.kind t.name t.kids.length=false∨(t.kind≠1∧t.n≠0)):rX t=false:=by
 rw [B5];rcases h with h|⟨h1,h2⟩
 ·rw [h];rfl
 ·rw [decide_eq_false h1,decide_eq_false h2];simp
theorem MQ{t u:Tx}(hu:u∈t.kids)(h:rX u=false):rX t=false:=by
 rw [B5,Du hu (by rw [h];rfl)];simp
theorem MP{t:Tx}(h:jC t.kind t.name t.kids.length=true)(h2:t.kind=1∨t.n=0)(h3:t.kids.any (fun u=> !rX u)=false):rX t=true:=by
 rw [B5,h,h3];rcases h2 with h2|h2
 ·rw [decide_eq_true h2];rfl
 ·rw [decide_eq_true h2];simp
theorem zE{α:Type}{p:α→Bool}{l:List α}{i:Nat}{u:α}(h:l[i]?=some u):(l.take (i+1)).any p=((l.take i).any p || p u):=by
 rw [cj h];simp
theorem lS:
  Spec prog 21 [] [] [] (X:=SV×List (SV×List Ba)) (fun x=>x.2.map (fun p=>p.2)=rlv) (fun x=>sv x.1) (fun x=> [Gz x.1 x.2]) (fun _=> []):=by
 refine aI func21 J ntmps21 J fun w0 M H=>aq (am J (az J (bq eS kK underlying46 t9 J (by decide) (by decide) J J J J fun v1=>bq eS fw underlying46 t9 J (by decide) (by decide) J J J J fun v2=>bq eS fo underlying46 t9 J (by decide) (by decide) J J J J fun v3=>cI eS [nR,nO] (parts:= [(0,.const (Sg (ByteArray.mk #[61,61]))),(1,.const (Sg (ByteArray.mk #[33,61])))]) underlying46 t9 J (by decide) (by intro _;rfl) J (by decide) (by decide) J J J J fun v4=>cI eS [mx,nP,nQ,oU] (parts:= [(0,.const (Sg (ByteArray.mk #[60]))),(1,.const (Sg (ByteArray.mk #[60,61]))),(2,.const (Sg (ByteArray.mk #[62]))),(3,.const (Sg (ByteArray.mk #[62,61])))]) underlying46 t9 J (by decide) (by intro _;rfl) J (by decide) (by decide) J J J J fun v5=>cI eS [gQ,ib] (parts:= [(0,.const (Sg (ByteArray.mk #[60,60]))),(1,.const (Sg (ByteArray.mk #[62,62])))]) underlying46 t9 J (by decide) (by intro _;rfl) J (by decide) (by decide) J J J J fun v6=>cI eS [gg,dU] (parts:= [(0,.const (Sg (ByteArray.mk #[43]))),(1,.const (Sg (ByteArray.mk #[45])))]) underlying46 t9 J (by decide) (by intro _;rfl) J (by decide) (by decide) J J J J fun v7=>cI eS [gT,la,lR] (parts:= [(0,.const (Sg (ByteArray.mk #[42]))),(1,.const (Sg (ByteArray.mk #[47]))),(2,.const (Sg (ByteArray.mk #[37])))]) underlying46 t9 J (by decide) (by intro _;rfl) J (by decide) (by decide) J J J J fun v8=>cI eQ (JN v1 v2 v3 v4 v5 v6 v7 v8) (parts:= [(0,.tmp 1),(1,.tmp 2),(2,.tmp 3),(3,.tmp 4),(4,.tmp 5),(5,.tmp 6),(6,.tmp 7),(7,.tmp 8)]) underlying44 jT J (by decide) (by intro _;rfl) J (by decide) (by decide) J J J J fun v9=>am J (aa (ay (bz 60 [1,2,3,4,5,6,7,8,9] (C:=Gz v9 (JN v1 v2 v3 v4 v5 v6 v7 v8)) J Gy ?_))))))
 refine aN (v9,JN v1 v2 v3 v4 v5 v6 v7 v8) J J (ce (aL J)) J [60] [] J J J
theorem D2(s:Ba):
  Spec prog 173 [Sg s] [] [] (X:=Int) (fun r=>decide (r≥0)=gJ s) (fun r=>I6 r) (fun _=> []) (fun _=> []):=by
 refine aI func173 J ntmps173 J fun w0 M H=>aq (am J (az J (ai (xs:= []) lS KH [] [] [60] (fun⟨v6,ls⟩ hls=> ?_))))
 dsimp only at hls ⊢;have hll:ls.length=8:=by have h:=congrArg List.length hls;rw [List.length_map]at h;exact h
 have hbin:gJ s=ls.any fun p=>cx s p.2:=by rw [←Jf,←hls,List.any_map];rfl
 refine cK 60 20 J (fun _ _ h=>h) (a_ 20 21 J Gw (am J (aa (aU (am J (aa (aA (bJ (X:=Nat) (fun i=>i≤ls.length∧((ls.take i).any fun p=>cx s p.2)=false) (fun i=> [(0,Sg s),(3,sv v6),(4,I6 (i:Int))]) (fun i=> []) (fun i=> [(20,Gz v6 ls),(21,sl 1 eQ (sv v6) ls)]) (fun i=>ls.length-i) 0 ⟨bn _,J⟩ J J J (fun i hx0=> ?_)))))))));obtain⟨n1,n2⟩:=hx0;refine aU (ad J (ad J (aP (aT underlying44 J (aJ (k:=21) J)) (ar J J cy (aa (ap J (fun h1=> ?_) (fun h1=> ?_)))))))
 ·(try simp only [bl]at h1);have hi:i<ls.length:=by omega
  obtain⟨p,hx⟩:∃k,ls[i]?=some k:=⟨_,bQ hi⟩
  have hpm:=bV hx;have hpl:p.2.length≤1000000:=by
   have h:p.2∈rlv:=by rw [←hls];exact List.mem_map_of_mem hpm
   simp only [rlv,List.mem_cons,List.not_mem_nil,or_false]at h;rcases h with h|h|h|h|h|h|h|h<;>rw [h]<;>decide
  refine aC (be (aA (aq (ad J (ad J (ad J (aP (aO (j:=i) underlying44 jT J J (aJ (k:=21) J) (by first|rfl|omega) (by first|omega|(simp;done)|(simp;omega))) (aP (ag jT J J (bF (aJ (k:=21) J) (by intro _;rfl) hx (by rfl))) (a_ 20 22 J (Gx hpm) (ai (xs:= [.tmp 13,.tmp 17]) (l7 s p.1 p.2 hpl) HP [] [(false,22)] [] (fun _ _=>am J (az J (ad J (aa (ap J (fun h2=> ?_) (fun h2=> ?_))))))))))))))))
  ·have hct:cx s p.2=true:=h2;refine aq (ad J (am J (aa (ay (aN (i:Int) (by rw [hbin,Du (p:=fun p=>cx s p.2) hpm hct];exact decide_eq_true (by omega)) J (ce (aL J)) J [] [] J J J)))))
  ·have hcf:cx s p.2=false:=h2;refine aC (ak (ad J (ar J J aK (am J (aa ?_)))));refine aG (i+1) ⟨⟨by omega,by rw [zE hx,n2,hcf];rfl⟩,by omega⟩ J J J
 ·(try simp only [bl]at h1);have hi:i=ls.length:=by omega
  subst hi;rw [cQ]at n2;refine bL (aq (am J (aa (ay (aN (-1) (by rw [hbin,n2];rfl) J (ce (aL J)) J [] [] J J J)))))
theorem FC(t:Tx)(hkl:t.kids.length≤1000000)(ih:∀u∈t.kids,UI u):
  aW prog 137 [xV t] [] [ck t.v t.kids] (.bool (rX t)) []:=by
 refine aI func137 J ntmps137 J fun w0 M H=>a_ 0 1 J iM (aq (cM J J fun b1=>am J (az J (aD di J (aR 1 t9 J J J J (ai (xs:= [.tmp 9]) (kT t.name) Dn [] [] [] (fun _ _=>am J (az J (aD dq J (aR 1 kc J J J J (aP (aT underlying59 J (aJ (k:=1) J)) (am J ?_))))))))))))
 refine az J (am J (aa (bC (X:=Unit) (fun _=>True) (fun _=> [(1,Pt b1),(4,I6 (t.kids.length:Int)),(5,.bool (jC t.kind t.name t.kids.length))]) (fun _=> [(1,bj b1 61 (eH t))]) (fun _=> [(0,ck t.v t.kids),(1,sl 4 eH (sv t.v) t.kids)]) ?_ (fun _ _=> ?_))))
 ·refine aq (aD jG J (aR 1 t3 J J J J (aa (aA (aq (ar J J bv (am J (aa (ap J (fun h1=> ?_) (fun h1=> ?_))))))))))
  ·have q1:t.kind=1:=cB h1;refine ak (aD di J (aR 1 t9 J J J J (ar J J e_ (ad J (aH [] J J O (fun hg2=>aV J) J (aH [(22,_)] J J ⟨J,O⟩ (fun hg3=>aQ J J bv) J (aP (bH J J J) (am J (aa (aG () O (by rw [Cj (.inl q1)];rfl) J J))))))))))
  ·have q1:¬t.kind=1:=dl h1;refine aq (ar J J bv (am J (aa (ap J (fun h4=> ?_) (fun h4=> ?_)))))
   ·have q2:t.kind=2:=cB h4;refine ak (ad J (ad J (aH [] J J O (fun hg5=>aV J) J (aH [(29,_)] J J ⟨J,O⟩ (fun hg6=>aQ J J bv) J (aP (bH J J J) (am J (aa (aG () O (by rw [Lm q2];rfl) J J))))))))
   ·have q2:¬t.kind=2:=dl h4;refine aq (ar J J bv (am J (aa (ap J (fun h7=> ?_) (fun h7=> ?_)))))
    ·have q3:t.kind=3:=cB h7;refine ak (ad J (am J (aa (aG () O (by rw [Ll q3];rfl) J J))))
    ·have q3:¬t.kind=3:=dl h7;refine aq (ar J J bv (am J (aa (ap J (fun h8=> ?_) (fun h8=> ?_)))))
     ·have q4:t.kind=4:=cB h8;refine ak (aD di J (aR 1 t9 J J J J (ar J J e_ (ad J (aH [] J J O (fun hg9=>aV J) J (aH [(41,_)] J J ⟨J,O⟩ (fun hg10=>aQ J J bv) J (aP (bH J J J) (am J (aa (aG () O (by rw [Lk q4];rfl) J J))))))))))
     ·have q4:¬t.kind=4:=dl h8;refine aq (ar J J bv (am J (aa (ap J (fun h11=> ?_) (fun h11=> ?_)))))
      ·have q5:t.kind=5:=cB h11;refine ak (aD di J (aR 1 t9 J J J J (ar J J e_ (ad J (aH [] J J O (fun hg12=>aV J) J (aH [(50,_)] J J ⟨J,O⟩ (fun hg13=>aQ J J bv) J (aP (bH J J J) (am J (aa (aG () O (by rw [Cj (.inr q5)];rfl) J J))))))))))
      ·have q5:¬t.kind=5:=dl h11;refine aq (ar J J bv (am J (aa (ap J (fun h14=> ?_) (fun h14=> ?_)))))
       ·have q6:t.kind=6:=cB h14;refine ak (aD di J (aR 1 t9 J J J J (ar J J e_ (ad J (aH [] J J O (fun hg15=>ah di J) J (aH [(59,_)] J J ⟨J,O⟩ (fun hg16=>ag t9 J J (ax (k:=1) J J)) J (aH [(59,_),(60,_)] J J ⟨J,J,O⟩ (fun hg17=>aQ J J e_) J (aP (bH J J J) (ad J (aH [] J J O (fun hg18=>ah di J) J (aH [(64,_)] J J ⟨J,O⟩ (fun hg19=>ag t9 J J (ax (k:=1) J J)) J (aH [(64,_),(65,_)] J J ⟨J,J,O⟩ (fun hg20=>aQ J J e_) J (aP (bH J J J) (ad J (aH [] J J O (fun hg21=>aV J) J (aH [(69,_)] J J ⟨J,O⟩ (fun hg22=>aQ J J bv) J (aP (bH J J J) (am J (aa ?_)))))))))))))))))));refine aG () O (by rw [Nl q6];rfl) J J
       ·have q6:¬t.kind=6:=dl h14;refine aq (ar J J bv (am J (aa (ap J (fun h23=> ?_) (fun h23=> ?_)))))
        ·have q7:t.kind=7:=cB h23;refine ak (aD di J (aR 1 t9 J J J J (ai (xs:= [.tmp 75]) (D2 t.name) Dg [] [] [] (fun r hr=>ar J J iz (ad J (aH [] J J O (fun hg24=>aV J) J (aH [(79,_)] J J ⟨J,O⟩ (fun hg25=>aQ J J bv) J (aP (bH J J J) (am J (aa (aG () O (by rw [Li q7,←hr];rfl) J J)))))))))))
        ·have q7:¬t.kind=7:=dl h23;refine aC (aG () O (by rw [Ln q1 q5 q2 q3 q4 q6 q7];rfl) J J)
 ·refine aU (ad J (aP (cZ J) (ad J (aH [] J J O (fun hg26=>ah jG J) J (aH [(85,_)] J J ⟨J,O⟩ (fun hg27=>ag t3 J J (ax (k:=1) J J)) J (aH [(85,_),(86,_)] J J ⟨J,J,O⟩ (fun hg28=>aQ J J iT) J (aH [(85,_),(86,_),(87,_)] J J ⟨J,J,J,O⟩ (fun hg29=>aV J) J (cA [] [(85,_),(86,_),(87,_),(88,_)] J J O ⟨J,J,J,J,O⟩ (fun hg30 hg30'=>ah xy J) J (cA [(89,_)] [(85,_),(86,_),(87,_),(88,_)] J J ⟨J,O⟩ ⟨J,J,J,J,O⟩ (fun hg31 hg31'=>ag eA J J (ax (k:=1) J J)) J (cA [(89,_),(90,_)] [(85,_),(86,_),(87,_),(88,_)] J J ⟨J,J,O⟩ ⟨J,J,J,J,O⟩ (fun hg32 hg32'=>aQ J J iT) J (aH [(85,_),(86,_),(87,_),(88,_)] J J ⟨J,J,J,J,O⟩ (fun hg33=>d7 J J J (by first|exact dL|exact eu|exact da hg33|exact dF hg33|rfl)) J (aP (bH J J J) (aa (ap J (fun h34=> ?_) (fun h34=> ?_)))))))))))))))
  ·(try simp only [bl]at h34);have qc:=h34;refine aq (am J (aa (ay (aN () O J (ce (aL J)) (congrArg Value.bool (PF qc).symm) [] [] J J J))))
  ·(try simp only [bl]at h34);have qc:=h34;refine aC (aU (am J (aa (aA (bJ (X:=Nat) (fun i=>i≤t.kids.length∧((t.kids.take i).any fun u=> !rX u)=false) (fun i=> [(1,Pt b1),(4,I6 (t.kids.length:Int)),(6,I6 (i:Int))]) (fun i=> [(1,bj b1 61 (eH t))]) (fun i=> [(0,ck t.v t.kids),(1,sl 4 eH (sv t.v) t.kids)]) (fun i=>t.kids.length-i) 0 ⟨bn _,J⟩ J J J (fun i hx0=> ?_))))));obtain⟨n1,n2⟩:=hx0;refine aU (ad J (ad J (ar J J cy (aa (ap J (fun h35=> ?_) (fun h35=> ?_))))))
   ·(try simp only [bl]at h35);have hi:i<t.kids.length:=by omega
    obtain⟨u,hu⟩:∃u,t.kids[i]?=some u:=⟨_,bQ hi⟩
    have hum:=bV hu;refine aC (be (aA (aq (aD dq J (aR 1 kc J J J J (ad J (aP (aO (j:=i) underlying59 ci J J (aJ (k:=1) J) (by first|rfl|omega) (by first|omega|(simp;done)|(simp;omega))) (aP (aM ci J J J (bF (aJ (k:=1) J) (by intro _;rfl) hu (by rfl))) (a_ 0 7 J (dH hum) (ai (xs:= [.tmp 103]) (ih u hum) L0 [] [(false,7)] [] (fun _ _=>am J (az J (ad J (aP (cZ J) (aa (ap J (fun h36=> ?_) (fun h36=> ?_)))))))))))))))))
    ·have hct:rX u=false:=by simpa using h36
     refine aq (am J (aa (ay (aN () O J (ce (aL J)) (congrArg Value.bool (MQ hum hct).symm) [] [] J J J))))
    ·have hcf:rX u=true:=by simpa using h36
     refine aC (ak (ad J (ar J J aK (am J (aa ?_)))));refine aG (i+1) ⟨⟨by omega,by rw [zE hu,n2,hcf];rfl⟩,by omega⟩ J J J
   ·(try simp only [bl]at h35);have hi:i=t.kids.length:=by omega
    subst hi;rw [cQ]at n2;refine bL (aq (am J (aa (ay (aN () O J (ce (aL J)) (congrArg Value.bool (MP qc.1 qc.2 n2).symm) [] [] J J J)))))
theorem BZ:∀(n:Nat)(t:Tx),SizeOf.sizeOf t<n→GX t→UI t
 | 0,_,h,_=>absurd h (Nat.not_lt_zero _)
 | n+1,t,h,ht=>FC t (qY ht) fun u hu=>BZ n u (by have:=vj hu;omega) ((nH ht).mem u hu)
theorem FD(t:Tx)(ht:GX t):UI t:=BZ _ t (Nat.lt_succ_self _) ht
def Si(v:SV)(l:List Ty):Prop:=aW prog 103 [sv v] [] [cm v l] (.bool (l.all rY)) []
theorem qv{α:Type}{p:α→Bool}{l:List α}{i:Nat}{u:α}(h:l[i]?=some u):(l.take (i+1)).all p=((l.take i).all p&&p u):=by
 rw [cj h];simp
theorem l9{α:Type}{p:α→Bool}{l:List α}{u:α}(hm:u∈l)(h:p u=false):l.all p=false:=by
 rw [Bool.eq_false_iff];intro h2;rw [List.all_eq_true]at h2;rw [h2 u hm]at h;cases h
theorem qK(t:Ty):rY t=(n_ t.kind t.name t.es.length t.body.length t.els.length&&t.es.all rX&&t.body.all rY&&t.els.all rY):=by
 cases t;rw [rY,sc,ip,ip];rfl
theorem SN{t:Ty}(h:t.kind<1∨t.kind>8):rY t=false:=by
 rw [qK];unfold n_;rcases h with h|h
 ·rw [decide_eq_false (show ¬t.kind≥1 by omega)];rfl
 ·rw [decide_eq_false (show ¬t.kind≤8 by omega)];simp
theorem SM{t:Ty}(h:(((decide (t.kind=1) || decide (t.kind=2))&& !bE t.name) || (!(decide (t.kind=1) || decide (t.kind=2))&& !(t.name==⟨#[]⟩)) || !decide ((t.es.length:Int)=(if t.kind=3 then 2 else 1)))=true):rY t=false:=by
 rw [qK];unfold n_;by_cases hn:t.es.length=if t.kind=3 then 2 else 1
 ·have hn2:(t.es.length:Int)=if t.kind=3 then 2 else 1:=by
   rw [hn];split<;>rfl
  rw [decide_eq_true hn2]at h;by_cases hk:t.kind=1∨t.kind=2
  ·have hk2:(decide (t.kind=1) || decide (t.kind=2))=true:=by simpa using hk
   rw [hk2]at h;rw [aj hk];have h3:bE t.name=false:=by simpa using h
   rw [h3];simp
  ·have hk2:(decide (t.kind=1) || decide (t.kind=2))=false:=by simpa using hk
   rw [hk2]at h;rw [ac hk];have h3:(t.name==⟨#[]⟩)=false:=by simpa using h
   rw [eT]at h3;rw [show decide (t.name=oNil)=false from h3];simp
 ·rw [decide_eq_false hn];simp
theorem ST{t:Ty}(h:(!decide (t.kind=4)&&(decide ((t.els.length:Int)>0) || (!decide (t.kind=5)&&decide ((t.body.length:Int)>0))))=true):rY t=false:=by
 rw [qK];unfold n_;have h4:t.kind≠4:=by
  intro h4;rw [decide_eq_true h4]at h;simp at h
 rw [decide_eq_false h4];by_cases h5:t.els.length=0
 ·rw [h5]at h;by_cases h6:t.kind=5
  ·rw [decide_eq_true h6]at h;simp at h
  ·by_cases h7:t.body.length=0
   ·rw [h7]at h;simp at h
   ·rw [decide_eq_false h6,decide_eq_false h7];simp
 ·rw [decide_eq_false h5];simp
theorem SP{t:Ty}{u:Tx}(hm:u∈t.es)(h:rX u=false):rY t=false:=by
 rw [qK,l9 hm h];simp
theorem SL{t:Ty}(h:t.body.all rY=false∨t.els.all rY=false):rY t=false:=by
 rw [qK];rcases h with h|h<;>rw [h]<;>simp
theorem PD{t:Ty}(h1:¬t.kind<1∧¬t.kind>8)(h2:(((decide (t.kind=1) || decide (t.kind=2))&& !bE t.name) || (!(decide (t.kind=1) || decide (t.kind=2))&& !(t.name==⟨#[]⟩)) || !decide ((t.es.length:Int)=(if t.kind=3 then 2 else 1)))=false)
  (h3:(!decide (t.kind=4)&&(decide ((t.els.length:Int)>0) || (!decide (t.kind=5)&&decide ((t.body.length:Int)>0))))=false) (h4:t.es.all rX=true) (h5:t.body.all rY=true∧t.els.all rY=true):rY t=true:=by
 rw [qK,h4,h5.1,h5.2];unfold n_;rw [decide_eq_true (show t.kind≥1 by omega),decide_eq_true (show t.kind≤8 by omega)];simp only [Bool.or_eq_false_iff]at h2;have hn:t.es.length=if t.kind=3 then 2 else 1:=by
  have h:=h2.2;simp only [Bool.not_eq_false',decide_eq_true_eq]at h;split at h<;>rename_i h6
  ·rw [aj h6];omega
  ·rw [ac h6];omega
 rw [decide_eq_true hn];have hnm:(if t.kind=1∨t.kind=2 then bE t.name else decide (t.name=oNil))=true:=by
  by_cases hk:t.kind=1∨t.kind=2
  ·have hk2:(decide (t.kind=1) || decide (t.kind=2))=true:=by simpa using hk
   have h:=h2.1.1;rw [hk2]at h;rw [aj hk];simpa using h
  ·have hk2:(decide (t.kind=1) || decide (t.kind=2))=false:=by simpa using hk
   have h:=h2.1.2;rw [hk2]at h;rw [ac hk];have h7:(t.name==⟨#[]⟩)=true:=by simpa using h
   rw [eT]at h7;exact h7
 rw [hnm];by_cases h8:t.kind=4
 ·rw [decide_eq_true h8];rfl
 ·rw [decide_eq_false h8]at h3;simp only [Bool.not_false,Bool.true_and,Bool.or_eq_false_iff]at h3;have h9:t.els.length=0:=by
   have h:=dl h3.1;omega
  rw [decide_eq_true h9];by_cases h10:t.kind=5
  ·rw [decide_eq_true h10];simp
  ·have h:=h3.2;rw [decide_eq_false h10]at h;have h11:t.body.length=0:=by
    have h:=dl (show decide ((t.body.length:Int)>0)=false by simpa using h);omega
   rw [decide_eq_true h11];simp
theorem Fy(v:SV)(l:List Ty)(hl:l.length≤1000000)(hg:GYs l)(ih:∀u∈l,Si u.vb u.body∧Si u.vl u.els):
  aW prog 103 [sv v] [] [cm v l] (.bool (l.all rY)) []:=by
 refine aI func103 J ntmps103 J fun w0 M H=>a_ 0 1 J iK (aq (am J (aa (aU (am J (aa (aA (bJ (X:=Nat) (fun i=>i≤l.length∧(l.take i).all rY=true) (fun i=> [(0,sv v),(3,I6 (i:Int))]) (fun i=> []) (fun i=> [(0,cm v l),(1,sl 5 fK (sv v) l)]) (fun i=>l.length-i) 0 ⟨bn _,J⟩ J J J (fun i hx0=> ?_)))))))))
 obtain⟨n1,n2⟩:=hx0;refine aU (ad J (ad J (aP (aT underlying62 J (aJ (k:=1) J)) (ar J J cy (aa (ap J (fun h1=> ?_) (fun h1=> ?_)))))))
 ·(try simp only [bl]at h1);have hi:i<l.length:=by omega
  obtain⟨st,hst⟩:∃k,l[i]?=some k:=⟨_,bQ hi⟩
  have hsm:=bV hst;have hsg:=uy (hg.mem st hsm);refine a_ 0 7 J (oq hsm) (a_ 0 8 J (iL hsm) (a_ 0 9 J (kN hsm) (a_ 7 10 J iM (a_ 8 11 J iK (a_ 9 12 J iK (aC (be (aA (aq (ad J (ad J (aP (aO (j:=i) underlying62 dR J J (aJ (k:=1) J) (by first|rfl|omega) (by first|omega|(simp;done)|(simp;omega))) (aP (aM dR J J J (bF (aJ (k:=1) J) (by intro _;rfl) hst (by rfl))) (aZ dR J J fun b4=>av (k:=4) dR J J J J J J (aa (be (be ?_)))))))))))))))));refine ak (aD fV J (aR 4 t3 J J J J (ar J J cy (ad J (aH [] J J O (fun hg2=>ah fV J) J (aH [(26,_)] J J ⟨J,O⟩ (fun hg3=>ag t3 J J (ax (k:=4) J J)) J (aH [(26,_),(27,_)] J J ⟨J,J,O⟩ (fun hg4=>aQ J J fA) J (aP (bH J J J) (aa (ap J (fun h5=> ?_) (fun h5=> ?_)))))))))))
  ·(try simp only [bl]at h5);have q2:=h5;refine aq (am J (aa (ay (aN () O J (ce (aL J)) (congrArg Value.bool (l9 hsm (SN q2)).symm) [] [] J J J))))
  ·(try simp only [bl]at h5);have q2:=h5;refine aC (aq (aD fV J (aR 4 t3 J J J J (ar J J bv (ad J (aH [] J J O (fun hg6=>ah fV J) J (aH [(34,_)] J J ⟨J,O⟩ (fun hg7=>ag t3 J J (ax (k:=4) J J)) J (aH [(34,_),(35,_)] J J ⟨J,J,O⟩ (fun hg8=>aQ J J bv) J (aP (bH J J J) (am J (az J (aD kz J (aR 4 t9 J J J J (ai (xs:= [.tmp 39]) (kT st.name) Dn [] [] [] (fun _ _=>am J (aa ?_))))))))))))))));refine aq (am J (aa (bC (X:=Unit) (fun _=>True) (fun _=> [(0,sv v),(3,I6 (i:Int)),(4,Pt b4),(5,.bool (decide (st.kind=1) || decide (st.kind=2))),(6,.bool (bE st.name)),(7,I6 (if st.kind=3 then 2 else 1))]) (fun _=> [(4,bj b4 64 (fK st))]) (fun _=> [(0,cm v l),(1,sl 5 fK (sv v) l),(7,ck st.ve st.es),(8,cm st.vb st.body),(9,cm st.vl st.els),(10,sl 4 eH (sv st.ve) st.es),(11,sl 5 fK (sv st.vb) st.body),(12,sl 5 fK (sv st.vl) st.els)]) ?_ (fun _ _=> ?_))))
   ·refine aq (aD fV J (aR 4 t3 J J J J (ar J J bv (aa (ap J (fun h9=> ?_) (fun h9=> ?_))))))
    ·have q3:st.kind=3:=cB h9;refine ak (am J (aa (aG () O (by rw [aj q3];rfl) J J)))
    ·have q3:¬st.kind=3:=dl h9;refine aC (aG () O (by rw [ac q3];rfl) J J)
   ·refine aU (ad J (ad J (aH [] J J O (fun hg10=>aV J) J (aH [(46,_)] J J ⟨J,O⟩ (fun hg11=>cZ J) J (aP (bH J J J) (ad J (aH [] J J O (fun hg12=>aV J) J (aH [(50,_)] J J ⟨J,O⟩ (fun hg13=>cZ J) J (aH [(50,_),(51,_)] J J ⟨J,J,O⟩ (fun hg14=>aV J) J (cA [] [(50,_),(51,_),(52,_)] J J O ⟨J,J,J,O⟩ (fun hg15 hg15'=>ah kz J) J (cA [(53,_)] [(50,_),(51,_),(52,_)] J J ⟨J,O⟩ ⟨J,J,J,O⟩ (fun hg16 hg16'=>ag t9 J J (ax (k:=4) J J)) J (cA [(53,_),(54,_)] [(50,_),(51,_),(52,_)] J J ⟨J,J,O⟩ ⟨J,J,J,O⟩ (fun hg17 hg17'=>aQ J J RT) J (aH [(50,_),(51,_),(52,_)] J J ⟨J,J,J,O⟩ (fun hg18=>d7 J J J (by first|exact dL|exact eu|exact da hg18|exact dF hg18|rfl)) J (aP (bH J J J) (ad J (aH [] J J O (fun hg19=>ah jF J) J (aH [(59,_)] J J ⟨J,O⟩ (fun hg20=>ag kc J J (ax (k:=4) J J)) J ?_)))))))))))))))));refine aH [(59,_),(60,_)] J J ⟨J,J,O⟩ (fun hg21=>aT underlying59 J (aJ (k:=10) J)) J (aH [(59,_),(60,_),(61,_)] J J ⟨J,J,J,O⟩ (fun hg22=>aV J) J (aH [(59,_),(60,_),(61,_),(62,_)] J J ⟨J,J,J,J,O⟩ (fun hg23=>aQ J J iT) J (aP (bH J J J) (aa (ap J (fun h24=> ?_) (fun h24=> ?_))))))
    ·have q4:=h24;refine aq (am J (aa (ay (aN () O J (ce (aL J)) (congrArg Value.bool (l9 hsm (SM q4)).symm) [] [] J J J))))
    ·have q4:=h24;have hes:(st.es.length:Int)=if st.kind=3 then 2 else 1:=by
      have h:=(Bool.or_eq_false_iff.1 q4).2;simpa using h
     rw [←hes];refine aC (aU (aD fV J (aR 4 t3 J J J J (ar J J iT (ad J (aH [] J J O (fun hg25=>ah g9 J) J (aH [(69,_)] J J ⟨J,O⟩ (fun hg26=>ag kO J J (ax (k:=4) J J)) J (aH [(69,_),(70,_)] J J ⟨J,J,O⟩ (fun hg27=>aT underlying62 J (aJ (k:=12) J)) J (aH [(69,_),(70,_),(71,_)] J J ⟨J,J,J,O⟩ (fun hg28=>aQ J J fA) J (aH [(69,_),(70,_),(71,_),(72,_)] J J ⟨J,J,J,J,O⟩ (fun hg29=>aV J) J (cA [] [(69,_),(70,_),(71,_),(72,_),(73,_)] J J O ⟨J,J,J,J,J,O⟩ (fun hg30 hg30'=>ah fV J) J (cA [(74,_)] [(69,_),(70,_),(71,_),(72,_),(73,_)] J J ⟨J,O⟩ ⟨J,J,J,J,J,O⟩ (fun hg31 hg31'=>ag t3 J J (ax (k:=4) J J)) J (cA [(74,_),(75,_)] [(69,_),(70,_),(71,_),(72,_),(73,_)] J J ⟨J,J,O⟩ ⟨J,J,J,J,J,O⟩ (fun hg32 hg32'=>aQ J J iT) J (cA [(74,_),(75,_),(76,_)] [(69,_),(70,_),(71,_),(72,_),(73,_)] J J ⟨J,J,J,O⟩ ⟨J,J,J,J,J,O⟩ (fun hg33 hg33'=>aV J) J (cA [] [(74,_),(75,_),(76,_),(77,_)] J J O ⟨J,J,J,J,O⟩ (fun hg34 hg34'=>ah gu J) J (cA [(78,_)] [(74,_),(75,_),(76,_),(77,_)] J J ⟨J,O⟩ ⟨J,J,J,J,O⟩ (fun hg35 hg35'=>ag kO J J (ax (k:=4) J J)) J (cA [(78,_),(79,_)] [(74,_),(75,_),(76,_),(77,_)] J J ⟨J,J,O⟩ ⟨J,J,J,J,O⟩ (fun hg36 hg36'=>aT underlying62 J (aJ (k:=11) J)) J ?_)))))))))))))))));refine cA [(78,_),(79,_),(80,_)] [(74,_),(75,_),(76,_),(77,_)] J J ⟨J,J,J,O⟩ ⟨J,J,J,J,O⟩ (fun hg37 hg37'=>aQ J J fA) J (cA [(74,_),(75,_),(76,_),(77,_)] [(69,_),(70,_),(71,_),(72,_),(73,_)] J J ⟨J,J,J,J,O⟩ ⟨J,J,J,J,J,O⟩ (fun hg38 hg38'=>d7 J J J (by first|exact dL|exact eu|exact da hg38|exact dF hg38|exact da (Dp hg38 hg38')|exact dF (Dp hg38 hg38')|rfl)) J (aH [(69,_),(70,_),(71,_),(72,_),(73,_)] J J ⟨J,J,J,J,J,O⟩ (fun hg39=>d7 J J J (by first|exact dL|exact eu|exact da hg39|exact dF hg39|rfl)) J (aP (bH J J J) (aa (ap J (fun h40=> ?_) (fun h40=> ?_))))))
     ·have q5:=h40;refine aq (am J (aa (ay (aN () O J (ce (aL J)) (congrArg Value.bool (l9 hsm (ST q5)).symm) [] [] J J J))))
     ·have q5:=h40;refine aC (aU (am J (aa (aA (bJ (X:=Nat) (fun j=>j≤st.es.length∧(st.es.take j).all rX=true) (fun j=> [(0,sv v),(3,I6 (i:Int)),(4,Pt b4),(7,I6 (st.es.length:Int)),(8,I6 (j:Int))]) (fun j=> [(4,bj b4 64 (fK st))]) (fun j=> [(0,cm v l),(1,sl 5 fK (sv v) l),(7,ck st.ve st.es),(8,cm st.vb st.body),(9,cm st.vl st.els),(10,sl 4 eH (sv st.ve) st.es),(11,sl 5 fK (sv st.vb) st.body),(12,sl 5 fK (sv st.vl) st.els)]) (fun j=>st.es.length-j) 0 ⟨bn _,J⟩ J J J (fun j hy0=> ?_))))));obtain⟨n3,n4⟩:=hy0;refine aU (ad J (ad J (ar J J cy (aa (ap J (fun h41=> ?_) (fun h41=> ?_))))))
      ·(try simp only [bl]at h41);have hj:j<st.es.length:=by omega
       obtain⟨u,hu⟩:∃k,st.es[j]?=some k:=⟨_,bQ hj⟩
       have hum:=bV hu;refine aC (be (aA (aq (aD jF J (aR 4 kc J J J J (ad J (aP (aO (j:=j) underlying59 ci J J (aJ (k:=10) J) (by first|rfl|omega) hj) (aP (aM ci J J J (bF (aJ (k:=10) J) (by intro _;rfl) hu (by rfl))) (a_ 7 13 J (dH hum) (ai (xs:= [.tmp 94]) (FD u (hsg.2.mem u hum)) L0 [] [(false,13)] [] (fun _ _=>am J (az J (ad J (aP (cZ J) (aa (ap J (fun h42=> ?_) (fun h42=> ?_)))))))))))))))))
       ·have q7:rX u=false:=by simpa using h42
        refine aq (am J (aa (ay (aN () O J (ce (aL J)) (congrArg Value.bool (l9 hsm (SP hum q7)).symm) [] [] J J J))))
       ·have q7:rX u=true:=by simpa using h42
        refine aC (ak (ad J (ar J J aK (am J (aa ?_)))));refine aG (j+1) ⟨⟨by omega,by rw [qv hu,n4,q7];rfl⟩,by omega⟩ J J J
      ·(try simp only [bl]at h41);have hj:j=st.es.length:=by omega
       subst hj;rw [cQ]at n4;refine bL (aq (aD gu J (aR 4 kO J J J J (ai (xs:= [.tmp 99]) (ih st hsm).1 Ib [] [(false,8)] [] (fun _ _=>am J (az J (aD g9 J (aR 4 kO J J J J (ai (xs:= [.tmp 102]) (ih st hsm).2 Ib [] [(false,9)] [] (fun _ _=>am J (az J (ad J (aP (cZ J) (ad J ?_))))))))))))));refine aH [] J J O (fun hg43=>aV J) J (aH [(107,_)] J J ⟨J,O⟩ (fun hg44=>cZ J) J (aP (bH J J J) (aa (ap J (fun h45=> ?_) (fun h45=> ?_)))))
       ·(try simp only [bl]at h45);have q8:=h45;refine aq (am J (aa (ay (aN () O J (ce (aL J)) (congrArg Value.bool (l9 hsm (SL q8)).symm) [] [] J J J))))
       ·(try simp only [bl]at h45);have q8:=h45;refine aC (ak (ad J (ar J J aK (am J (aa ?_)))));refine aG (i+1) ⟨⟨by omega,by rw [qv hst,n2,PD q2 q4 q5 n4 q8];rfl⟩,by omega⟩ J J J
 ·(try simp only [bl]at h1);have hi:i=l.length:=by omega
  subst hi;rw [cQ]at n2;refine bL (aq (am J (aa (ay (aN () O J (ce (aL J)) (congrArg Value.bool n2.symm) [] [] J J J)))))
theorem wA:∀(n:Nat)(v:SV)(l:List Ty),SizeOf.sizeOf l<n→l.length≤1000000→GYs l→Si v l
 | 0,_,_,h,_,_=>absurd h (Nat.not_lt_zero _)
 | n+1,v,l,h,hl,hg=>Fy v l hl hg fun u hu=>by
  have h1:=List.sizeOf_lt_of_mem hu;have h2:SizeOf.sizeOf u.body<SizeOf.sizeOf u∧SizeOf.sizeOf u.els<SizeOf.sizeOf u:=by
   cases u;simp only [Ty.mk.sizeOf_spec,Ty.body,Ty.els];omega
  have h3:=hg.mem u hu;exact⟨wA n u.vb u.body (by omega) (fZ h3).1 (fZ h3).2,wA n u.vl u.els (by omega) (iA h3).1 (iA h3).2⟩
theorem Fz(v:SV)(l:List Ty)(hl:l.length≤1000000)(hg:GYs l):Si v l:=wA _ v l (Nat.lt_succ_self _) hl hg
theorem Aw(f:Tf):rF f=(f.ps.all bE&&bE f.name&&f.body.all rY):=by unfold rF;rw [ip]
theorem PG{f:Tf}(h:bE f.name=false∨f.body.all rY=false):rF f=false:=by
 rw [Aw];rcases h with h|h<;>rw [h]<;>simp
theorem SX{f:Tf}{x:Ba}(hm:x∈f.ps)(h:bE x=false):rF f=false:=by
 rw [Aw,l9 hm h];rfl
theorem yx(vp:SV)(fs:List Tf)(hg:GP fs):
  aW prog 56 [.agg #[sv vp]] [] [dO vp fs] (.bool (rP fs)) []:=by
 refine aI func56 J ntmps56 J fun w0 M H=>a_ 0 1 J lL ?_
 have hgl:=hg.1;refine aq (cM J J fun b1=>am J (aa (aU (am J (aa (aA (bJ (X:=Nat) (fun i=>i≤fs.length∧(fs.take i).all rF=true) (fun i=> [(1,Pt b1),(3,I6 (i:Int))]) (fun i=> [(1,bj b1 27 [sv vp])]) (fun i=> [(0,dO vp fs),(1,sl 3 jI (sv vp) fs)]) (fun i=>fs.length-i) 0 ⟨bn _,J⟩ J J J (fun i hx0=> ?_))))))));obtain⟨n1,n2⟩:=hx0;refine aU (ad J (aD fW J (aR 1 kJ J J J J (aP (aT underlying25 J (aJ (k:=1) J)) (ar J J cy (aa (ap J (fun h1=> ?_) (fun h1=> ?_))))))))
 ·(try simp only [bl]at h1);have hi:i<fs.length:=by omega
  obtain⟨f,hf⟩:∃k,fs[i]?=some k:=⟨_,bQ hi⟩
  have hfm:=bV hf;have hgf:=hg.2 f hfm;have hpl:=hgf.2.2.1;refine a_ 0 7 J (rh hfm) (a_ 7 8 J ri (aC (be (aA (aq (aD fW J (aR 1 kJ J J J J (ad J (aP (aO (j:=i) underlying25 gC J J (aJ (k:=1) J) (by first|rfl|omega) (by first|omega|(simp;done)|(simp;omega))) (aP (aM gC J J J (bF (aJ (k:=1) J) (by intro _;rfl) hf (by rfl))) (aZ gC J J fun b4=>av (k:=4) gC J J J J J J (az J (aD lW J (aR 4 t9 J J J J (ai (xs:= [.tmp 22]) (kT f.name) Dn [] [] [] (fun _ _=> ?_))))))))))))))));refine am J (az J (aD li J (aR 4 kO J J J J (a_ 7 9 J m_ (ai (xs:= [.tmp 25]) (Fz f.vb f.body hgf.2.2.2.1 hgf.2.2.2.2.1) Ib [] [(false,9)] [] (fun _ _=>am J (aa (aU (ad J (aP (cZ J) (ad J (aH [] J J O (fun hg2=>aV J) J (aH [(30,_)] J J ⟨J,O⟩ (fun hg3=>cZ J) J (aP (bH J J J) (aa ?_)))))))))))))));refine ap J (fun h4=> ?_) (fun h4=> ?_)
  ·(try simp only [bl]at h4);have q2:=h4;refine aq (am J (aa (ay (aN () O J (ce (aL J)) (congrArg Value.bool (show false=rP fs from(l9 (p:=rF) hfm (PG q2)).symm)) [] [] J J J))))
  ·(try simp only [bl]at h4);have q2:=h4;refine aC (aq (am J (aa (aA (bJ (X:=Nat) (fun j=>j≤f.ps.length∧(f.ps.take j).all bE=true) (fun j=> [(1,Pt b1),(3,I6 (i:Int)),(4,Pt b4),(7,I6 (j:Int))]) (fun j=> [(1,bj b1 27 [sv vp]),(4,bj b4 66 (jI f))]) (fun j=> [(0,dO vp fs),(1,sl 3 jI (sv vp) fs),(7,EK f),(8,sl 1 eS (sv f.vp) f.ps)]) (fun j=>f.ps.length-j) 0 ⟨bn _,J⟩ J J J (fun j hy0=> ?_))))));obtain⟨n3,n4⟩:=hy0;refine aU (ad J (aD fj J (aR 4 jT J J J J (aP (aT underlying46 J (aJ (k:=8) J)) (ar J J cy (aa (ap J (fun h5=> ?_) (fun h5=> ?_))))))))
   ·(try simp only [bl]at h5);have hj:j<f.ps.length:=by omega
    obtain⟨x,hx⟩:∃k,f.ps[j]?=some k:=⟨_,bQ hj⟩
    have hxm:=bV hx;refine aC (be (aA (aq (aD fj J (aR 4 jT J J J J (ad J (aP (aO (j:=j) underlying46 t9 J J (aJ (k:=8) J) (by first|rfl|omega) (by first|omega|(simp;done)|(simp;omega))) (aP (ag t9 J J (bF (aJ (k:=8) J) (by intro _;rfl) hx (by rfl))) (ai (xs:= [.tmp 44]) (kT x) Dn [] [] [] (fun _ _=>am J (az J (ad J (aP (cZ J) (aa (ap J (fun h6=> ?_) (fun h6=> ?_))))))))))))))))
    ·have q4:bE x=false:=by simpa using h6
     refine aq (am J (aa (ay (aN () O J (ce (aL J)) (congrArg Value.bool (show false=rP fs from(l9 (p:=rF) hfm (SX hxm q4)).symm)) [] [] J J J))))
    ·have q4:bE x=true:=by simpa using h6
     refine aC (ak (ad J (ar J J aK (am J (aa ?_)))));refine aG (j+1) ⟨⟨by omega,by rw [qv hx,n4,q4];rfl⟩,by omega⟩ J J J
   ·(try simp only [bl]at h5);have hj:j=f.ps.length:=by omega
    subst hj;rw [cQ]at n4;refine bL (ak (ad J (ar J J aK (am J (aa ?_)))));refine aG (i+1) ⟨⟨by omega,by rw [qv hf,n2,Aw,n4,q2.1,q2.2];rfl⟩,by omega⟩ J J J
 ·(try simp only [bl]at h1);have hi:i=fs.length:=by omega
  subst hi;rw [cQ]at n2;refine bL (aq (am J (aa (ay (aN () O J (ce (aL J)) (congrArg Value.bool n2.symm) [] [] J J J)))))
section
end
theorem Ih{nm:Ba}(h:gJ nm=true)(a b:Int):(Ot nm a b).isSome=true:=by
 unfold gJ at h;obtain⟨p,hp⟩:=Option.isSome_iff_exists.1 h;have h1:=List.mem_of_find?_eq_some hp;have h2:=List.find?_some hp;have h2:p.1=nm:=by simpa using h2
 subst h2;simp only [lvL,List.mem_cons,List.not_mem_nil,or_false]at h1;rcases h1 with rfl|rfl|rfl|rfl|rfl|rfl|rfl|rfl|rfl|rfl|rfl|rfl|rfl|rfl|rfl|rfl<;>rfl
theorem IJ{nm:Ba}(h:cx nm rf=true)(a:Int):(OK nm a).isSome=true:=by
 unfold cx at h;obtain⟨p,h1,h2⟩:=List.any_eq_true.1 h;have h2:nm=p:=by simpa using h2
 subst h2;simp only [rf,List.mem_cons,List.not_mem_nil,or_false]at h1;rcases h1 with rfl|rfl|rfl<;>rfl
theorem vB{k:Int}{nm:Ba}{n:Nat}(h:jC k nm n=true):(k=1∧n=0)∨(k=5∧n=0)∨(k=2∧n=0)∨k=3∨(k=4∧n=1)∨(k=6∧cx nm rf=true∧n=1)∨(k=7∧gJ nm=true∧n=2):=by
 unfold jC at h;split at h
 ·rename_i hk;simp only [Bool.and_eq_true,decide_eq_true_eq]at h;rcases hk with hk|hk
  ·exact .inl ⟨hk,h.2⟩
  ·exact .inr (.inl ⟨hk,h.2⟩)
 ·split at h
  ·rename_i hk;simp only [Bool.and_eq_true,decide_eq_true_eq]at h;exact .inr (.inr (.inl ⟨hk,h.2⟩))
  ·split at h
   ·rename_i hk;exact .inr (.inr (.inr (.inl hk)))
   ·split at h
    ·rename_i hk;simp only [Bool.and_eq_true,decide_eq_true_eq]at h;exact .inr (.inr (.inr (.inr (.inl ⟨hk,h.2⟩))))
    ·split at h
     ·rename_i hk;simp only [Bool.and_eq_true,decide_eq_true_eq]at h;exact .inr (.inr (.inr (.inr (.inr (.inl ⟨hk,h.1,h.2⟩)))))
     ·split at h
      ·rename_i hk;simp only [Bool.and_eq_true,decide_eq_true_eq]at h;exact .inr (.inr (.inr (.inr (.inr (.inr ⟨hk,h.1,h.2⟩)))))
      ·cases h
theorem EF{fs:List Tf}{ns:List Ba}{t:Tx}(h:nE fs ns t=0)(hk:t.kind=3):∃f,cV fs t.name=some f∧f.ps.length=t.kids.length:=by
 cases hf:cV fs t.name with
 | none=>rw [Cs hk hf]at h;cases h
 | some f=>
  rw [w4 hk hf]at h;refine⟨f,J,?_⟩;split at h
  ·assumption
  ·cases h
mutual
theorem KX{fs:List Tf}{ns:List Ba}:∀t:Tx,GX t→rX t=true→eX fs ns t=0→VX fs t
 | .mk k n nm v kids,hg,hr,he=>by
  have hr2:(jC k nm kids.length&&(decide (k=1) || decide (n=0))&&ji kids)=true:=hr;simp only [Bool.and_eq_true]at hr2;obtain⟨⟨h1,_⟩,h3⟩:=hr2;have he2:=LH fs ns (.mk k n nm v kids);rw [he]at he2;obtain⟨e1,e2⟩:=bx.1 he2.symm;have hc:=vB h1;refine⟨hg.1,hg.2.2.1,fun hk=>by omega,fun hk=> ?_,fun hk=> ?_,fun k1 k2 k4 k5 k6 k7=> ?_,z6 kids hg.2.2.2 h3 e2⟩
  ·have:cx nm rf=true∧kids.length=1:=by
    rcases hc with hc|hc|hc|hc|hc|⟨_,hc,hn⟩|hc
    ·omega
    ·omega
    ·omega
    ·omega
    ·omega
    ·exact⟨hc,hn⟩
    ·omega
   exact⟨by omega,IJ this.1⟩
  ·have:gJ nm=true∧kids.length=2:=by
    rcases hc with hc|hc|hc|hc|hc|hc|⟨_,hc,hn⟩
    ·omega
    ·omega
    ·omega
    ·omega
    ·omega
    ·omega
    ·exact⟨hc,hn⟩
   exact⟨by omega,Ih this.1⟩
  ·have hk:k=3:=by omega
   obtain⟨f,hf1,hf2⟩:=EF e1 hk;exact⟨f,hf1,by rw [hf2];exact bU _⟩
theorem z6{fs:List Tf}{ns:List Ba}:∀l:List Tx,GXs l→ji l=true→jH fs ns l=0→OE fs l
 | [],_,_,_=>trivial
 | t::r,hg,hr,he=>by
  have hr2:(rX t&&ji r)=true:=hr;rw [Bool.and_eq_true]at hr2;obtain⟨e1,e2⟩:=bx.1 he;exact⟨KX t hg.1 hr2.1 e1,z6 r hg.2 hr2.2 e2⟩
end
theorem AD{k:Int}{nm:Ba}{ne nb nl:Nat}(h:n_ k nm ne nb nl=true):1≤k∧k≤8∧ne=(if k=3 then 2 else 1)∧(k=4∨k=5∨nb=0)∧(k=4∨nl=0):=by
 unfold n_ at h;simp only [Bool.and_eq_true,Bool.or_eq_true,decide_eq_true_eq]at h;obtain⟨⟨⟨⟨⟨h1,h2⟩,h3⟩,h4⟩,h5⟩,h6⟩:=h;exact⟨h1,h2,h3,by rcases h5 with(h|h)|h;exact .inl h;exact .inr (.inl h);exact .inr (.inr h),h6⟩
mutual
theorem Pc{fs:List Tf}:∀(ns:List Ba)(t:Ty),GY t→rY t=true→(bY fs ns t).2=0→VY fs t
 | ns,.mk k nm ve es vb body vl els,hg,hr,he=>by
  have hr2:(n_ k nm es.length body.length els.length&&ji es&&h_ body&&h_ els)=true:=hr;simp only [Bool.and_eq_true]at hr2;obtain⟨⟨⟨h1,h2⟩,h3⟩,h4⟩:=hr2;have hk:=AD h1;rw [L_]at he;obtain⟨e1,he⟩:=bx.1 he;obtain⟨e2,he⟩:=bx.1 he;obtain⟨e3,he⟩:=bx.1 he;obtain⟨e4,e5⟩:=bx.1 he;have hes:es.length=if k=3 then 2 else 1:=hk.2.2.1
  exact⟨⟨by rw [hes];split<;>omega,hg.2.1.1,fun h3=>by rw [hes,aj h3];exact bU _,z6 es hg.2.1.2 h2 e2⟩,⟨hg.2.2.1.1,wq _ body hg.2.2.1.2 h3 e4⟩,hg.2.2.2.1,wq _ els hg.2.2.2.2 h4 e5⟩
theorem wq{fs:List Tf}:∀(ns:List Ba)(l:List Ty),GYs l→h_ l=true→(dK fs ns l).2=0→Mb fs l
 | _,[],_,_,_=>trivial
 | ns,t::r,hg,hr,he=>by
  have hr2:(rY t&&h_ r)=true:=hr;rw [Bool.and_eq_true]at hr2;obtain⟨e1,e2⟩:=bx.1 he;exact⟨Pc ns t hg.1 hr2.1 e1,wq _ r hg.2 hr2.2 e2⟩
end
theorem wc{fs:List Tf}:∀{l:List Tf},iE fs l=0→∀f∈l,mW fs f=0
 | [],_,f,hf=>by simp at hf
 | g::r,h,f,hf=>by
  obtain⟨h1,h2⟩:=bx.1 h;rcases List.mem_cons.1 hf with rfl|hf
  ·exact h1
  ·exact wc h2 f hf
structure Fine(fs:List Tf)(f:Tf):Prop where
 vf:VF fs
 main:cV fs eq=some f
 noP:f.ps= []
 len:fs.length≤16
 once:∀(i:Nat)(f:Tf),fs[i]?=some f→Bd fs f.name=(i:Int)
 each:∀f∈fs,mW fs f=0
theorem kF{fs:List Tf}(hg:GP fs)(h:jP fs=0):∃f,Fine fs f:=by
 unfold jP at h;split at h
 ·cases h
 ·rename_i h1;split at h
  ·cases h
  ·rename_i h2;split at h
   ·cases h
   ·rename_i h3;split at h
    ·cases h
    ·rename_i f hf;split at h
     ·cases h
     ·rename_i h4;have h1:rP fs=true:=by simpa using h1
      have h3:once fs=true:=by simpa using h3
      have hr:=List.all_eq_true.1 h1;have he:=wc h;refine⟨f,fun g hgm=> ?_,hf,List.eq_nil_of_length_eq_zero (by omega),by omega,tm.1 h3,he⟩;obtain⟨g1,g2,g3,g4,g5,g6⟩:=hg.2 g hgm;have hrg:=hr g hgm;unfold rF at hrg;simp only [Bool.and_eq_true]at hrg;have heg:=he g hgm;rw [xI]at heg;have h6:=(bx.1 (bx.1 heg).2).2;exact⟨g3,g4,wq _ g.body g5 hrg.2 h6⟩
def Lu(ins:List Int)(fuel:Int):Ms:=⟨ins,[],fun _=>0,fuel⟩
theorem Nr{ins:List Int}{fuel:Int}(hi:∀x∈ins,oW x)(hf:fuel≤1000000000000):okMs (Lu ins fuel):=⟨hi,fun _=>nN,by show fuel<_;omega,by show((0:Nat):Int)+max fuel 0≤_;omega⟩
structure Ru where
 err:Int
 out:List Int
 mem:List Int
def MI:Re Int→Ru
 | .ok _ s=>⟨0,s.out,(List.range 256).map s.mem⟩
 | .err z=>⟨z,[],[]⟩
inductive RunIs(fs:List Tf)(ins:List Int)(fuel:Int):Ru→Prop where
 | bad (h:jP fs≠0):RunIs fs ins fuel ⟨jP fs,[],[]⟩
 | run (f:Tf) (g:Nat) (r:Re Int) (h:jP fs=0) (hf:cV fs eq=some f) (he:u0 g fs 0 f [] (Lu ins fuel)=some r):RunIs fs ins fuel (MI r)
section
end
abbrev rN(n:Int):Tx:= .mk 1 n oNil bc []
abbrev mF(s:Ba):Tx:= .mk 2 0 s bc []
abbrev Vf:Tx:= .mk 5 0 oNil bc []
abbrev E_(op:Ba)(v:SV)(a b:Tx):Tx:= .mk 7 0 op v [a,b]
abbrev xX(v:SV)(t:Tx):Ty:= .mk 7 oNil v [t] bc [] bc []
theorem gt{s:Ba}(h:(s.data.toList.all (fun b=>decide (b.toNat<128))&&decide (s.size≤1000000))=true):qz s:=by
 simp only [Bool.and_eq_true,decide_eq_true_eq,List.all_eq_true]at h;refine⟨fun i hi=> ?_,h.2⟩;refine h.1 (s[i]'hi) ?_;have:s[i]'hi=s.data.toList[i]'(by simpa using hi):=by simp [ByteArray.getElem_eq_getElem_data]
 rw [this];exact List.getElem_mem _
section
end
inductive Px where
 | mk (kind n:Int) (name:Ba) (kids:List Px)
inductive Py where
 | mk (kind:Int) (name:Ba) (es:List Px) (body els:List Py)
structure Pf where
 name:Ba
 ps:List Ba
 body:List Py
mutual
def iD:Tx→Px
 | .mk k n nm _ kids=> .mk k n nm (gE kids)
def gE:List Tx→List Px
 | []=> []
 | t::r=>iD t::gE r
end
mutual
def C5:Ty→Py
 | .mk k nm _ es _ body _ els=> .mk k nm (gE es) (dV body) (dV els)
def dV:List Ty→List Py
 | []=> []
 | t::r=>C5 t::dV r
end
def oh(f:Tf):Pf:=⟨f.name,f.ps,dV f.body⟩
theorem ql:∀a b:List Tx,gE (a++b)=gE a++gE b
 | [],b=>by simp [gE]
 | t::r,b=>by simp [gE,ql r b]
theorem fI:∀a b:List Ty,dV (a++b)=dV a++dV b
 | [],b=>by simp [dV]
 | t::r,b=>by simp [dV,fI r b]
structure Gc where
 l:List Int
 me:Nat
 fs:List (Ba×List Ba)
structure Gs where
 at_:Nat
 left:Int
 nodes:Int
 vars:Int
 names:List Ba
def Em(n m:Int):Int:=((n.tmod m)+m).tmod m
def gN(l:List Int)(n:Int)(s:Gs):Int×Gs:=match l[s.at_]? with
 | none=>(0,s)
 | some x=>(Em x n,{s with at_:=s.at_+1})
def cL:List Int:= [0,1,2,3,5,8,31,32,255,256,65535,131072,2147483647,2147483648,4294967295]
def biL:List Ba:= [gg,dU,gT,la,lR,fo,kK,fw,gQ,ib,mx,nP,nQ,oU,nR,nO]
def gK(l:List Int)(d:Nat)(s:Gs):Int×Gs:=
 let r:=gN l 16 {s with nodes:=IntKind.i64.wrap (s.nodes-1)}
 (if d=0∨r.2.nodes<1 then r.1%4 else r.1,r.2)
mutual
inductive GXr(c:Gc):Nat→Gs→Px→Gs→Prop
 | nam {d:Nat} {s s1 s2:Gs} {k j:Int} {x:Ba} (hk:gK c.l d s=(k,s1)) (h:k=1∨k=2) (hn:0<s1.names.length) (hj:gN c.l (s1.names.length:Int) s1=(j,s2)) (hx:s1.names[j.toNat]?=some x):GXr c d s (.mk 2 0 x []) s2
 | inp {d:Nat} {s s1:Gs} (hk:gK c.l d s=(3,s1)):GXr c d s (.mk 5 0 oNil []) s1
 | mem {d:Nat} {s s1 s2:Gs} {k:Int} {p:Px} (hk:gK c.l (d+1) s=(k,s1)) (h:k=4∨k=5) (hp:GXr c d s1 p s2):GXr c (d+1) s (.mk 4 0 oNil [p]) s2
 | una {d:Nat} {s s1 s2 s3:Gs} {j:Int} {x:Ba} {p:Px} (hk:gK c.l (d+1) s=(6,s1)) (hj:gN c.l 3 s1=(j,s2)) (hx:rf[j.toNat]?=some x) (hp:GXr c d s2 p s3):GXr c (d+1) s (.mk 6 0 x [p]) s3
 | call {d:Nat} {s s1 s2 s3:Gs} {j:Int} {f:Ba×List Ba} {ps:List Px} (hk:gK c.l (d+1) s=(7,s1)) (h:c.me+1<c.fs.length) (hj:gN c.l ((c.fs.length:Int)-(c.me:Int)-1) s1=(j,s2)) (hx:c.fs[((c.me:Int)+1+j).toNat]?=some f) (hp:GKr c d f.2.length s2 ps s3):GXr c (d+1) s (.mk 3 0 f.1 ps) s3
 | bin {d:Nat} {s s1 s2 s3 s4:Gs} {k j:Int} {x:Ba} {p q:Px} (hk:gK c.l (d+1) s=(k,s1)) (h:7<k) (hj:gN c.l 16 s1=(j,s2)) (hx:biL[j.toNat]?=some x) (hp:GXr c d s2 p s3) (hq:GXr c d s3 q s4):GXr c (d+1) s (.mk 7 0 x [p,q]) s4
 | con {d:Nat} {s s1 s2:Gs} {k j:Int} {x:Int} (hk:gK c.l d s=(k,s1)) (h1:¬((k=1∨k=2)∧0<s1.names.length)) (h3:k≠3) (h4:k≠4) (h5:k≠5) (h6:k≠6) (h7:¬(k=7∧c.me+1<c.fs.length)) (h8:¬7<k) (hj:gN c.l 15 s1=(j,s2)) (hx:cL[j.toNat]?=some x):GXr c d s (.mk 1 x oNil []) s2
inductive GKr(c:Gc):Nat→Nat→Gs→List Px→Gs→Prop
 | nil {d:Nat} {s:Gs}:GKr c d 0 s [] s
 | cons {d n:Nat} {s s1 s2:Gs} {p:Px} {ps:List Px} (hp:GXr c d s p s1) (hq:GKr c d n s1 ps s2):GKr c d (n+1) s (p::ps) s2
end
theorem GKr.snoc{c:Gc}{d:Nat}:∀{n:Nat}{s s1 s2:Gs}{p:Px}{ps:List Px},GKr c d n s ps s1→GXr c d s1 p s2→GKr c d (n+1) s (ps++ [p]) s2
 | 0,_,_,_,_,_,.nil,h2=> .cons h2 .nil
 | n+1,_,_,_,_,_,.cons hp hq,h2=> .cons hp (GKr.snoc hq h2)
def GCr(c:Gc)(d:Nat)(f:Ba×List Ba)(s:Gs)(p:Px)(s':Gs):Prop:=∃ps,GKr c d f.2.length s ps s'∧p= .mk 3 0 f.1 ps
def freshL:List Ba:= [⟨#[97]⟩,⟨#[98]⟩,⟨#[99]⟩,⟨#[100]⟩,⟨#[101]⟩,⟨#[120,49]⟩,⟨#[121,50]⟩,⟨#[108,111,111,112]⟩]
def pu(n:Int):Px:= .mk 1 n oNil []
def jM(s:Ba):Px:= .mk 2 0 s []
def jN(x:Ba):Py:= .mk 2 x [.mk 7 0 dU [jM x,pu 1]] [] []
mutual
inductive GYr(c:Gc):Nat→Gs→List Py→Gs→Prop
 | mk {e:Nat} {s s1 s2:Gs} {j:Int} {o:List Py} (hj:gN c.l 5 s=(j,s1)) (h:GLr c e (1+j).toNat s1 o s2):GYr c e s o s2
inductive GLr(c:Gc):Nat→Nat→Gs→List Py→Gs→Prop
 | zero {e:Nat} {s:Gs}:GLr c e 0 s [] s
 | stop {e n:Nat} {s:Gs} (h:s.left≤0):GLr c e n s [] s
 | step {e n:Nat} {s s1 s2 s3:Gs} {k:Int} {o r:List Py} (h:0<s.left) (hk:gN c.l 12 {s with left:=s.left-1}=(k,s1)) (h1:G1r c e k s1 o s2) (h2:GLr c e n s2 r s3):GLr c e (n+1) s (o++r) s3
inductive G1r(c:Gc):Nat→Int→Gs→List Py→Gs→Prop
 | var {e:Nat} {s s1:Gs} {k:Int} {x:Ba} {p:Px} (hk:k<3) (hx:freshL[s.vars.toNat]?=some x) (hv:s.vars<8) (hp:GXr c 3 {s with vars:=s.vars+1} p s1):G1r c e k s [.mk 1 x [p] [] []] {s1 with names:=s1.names++ [x]}
 | set {e:Nat} {s s1 s2:Gs} {j:Int} {x:Ba} {p:Px} (hn:0<s.names.length) (hj:gN c.l (s.names.length:Int) s=(j,s1)) (hx:s.names[j.toNat]?=some x) (hp:GXr c 3 s1 p s2):G1r c e 3 s [.mk 2 x [p] [] []] s2
 | put {e:Nat} {s s1 s2:Gs} {k:Int} {p q:Px} (hk:k=4∨k=5) (hp:GXr c 2 s p s1) (hq:GXr c 3 s1 q s2):G1r c e k s [.mk 3 oNil [p,q] [] []] s2
 | iff1 {e:Nat} {s s1 s2 s3 s4:Gs} {p:Px} {a b:List Py} (hp:GXr c 2 s p s1) (ha:GYr c e s1 a s2) (hj:gN c.l 2 s2=(1,s3)) (hb:GYr c e s3 b s4):G1r c (e+1) 6 s [.mk 4 oNil [p] a b] s4
 | iff0 {e:Nat} {s s1 s2 s3:Gs} {j:Int} {p:Px} {a:List Py} (hp:GXr c 2 s p s1) (ha:GYr c e s1 a s2) (hj:gN c.l 2 s2=(j,s3)) (hb:j≠1):G1r c (e+1) 6 s [.mk 4 oNil [p] a []] s3
 | whi {e:Nat} {s s1 s2:Gs} {j:Int} {x:Ba} {a:List Py} (hx:freshL[s.vars.toNat]?=some x) (hv:s.vars<8) (hj:gN c.l 5 {s with vars:=s.vars+1}=(j,s1)) (ha:GYr c (e+1) s1 a s2):G1r c (e+2) 7 s [.mk 1 x [pu j] [] [],.mk 5 oNil [jM x] (a++ [jN x]) []] {s2 with names:=s2.names++ [x]}
 | ret {e:Nat} {s s1 s2:Gs} {p:Px} (hj:gN c.l 3 s=(0,s1)) (hp:GXr c 3 s1 p s2):G1r c e 8 s [.mk 6 oNil [p] [] []] s2
 | dos {e:Nat} {s s1 s2 s3 s4:Gs} {j j2:Int} {f:Ba×List Ba} {p:Px} (h:c.me+1<c.fs.length) (hj:gN c.l ((c.fs.length:Int)-(c.me:Int)-1) s=(j,s1)) (hj2:gN c.l 8 s1=(j2,s2))
   (hf:(j2≠7∧c.fs[((c.me:Int)+1+j).toNat]?=some f∧s3=s2)∨(j2=7∧∃j3,gN c.l ((c.fs.length:Int)-1) s2=(j3,s3)∧c.fs[(1+j3).toNat]?=some f)) (hp:GCr c 1 f s3 p s4):G1r c e 9 s [.mk 8 oNil [p] [] []] s4
 | out {e:Nat} {s s1 s2:Gs} {k:Int} {p:Px} (h3:¬(k<3∧s.vars<8)) (hs:¬(k=3∧0<s.names.length)) (h4:k≠4) (h5:k≠5) (h6:¬(k=6∧1≤e)) (h7:¬(k=7∧2≤e∧s.vars<8)) (h8:(k≠8∧s1=s)∨(k=8∧∃j,j≠0∧gN c.l 3 s=(j,s1))) (h9:¬(k=9∧c.me+1<c.fs.length)) (hp:GXr c 3 s1 p s2):G1r c e k s [.mk 7 oNil [p] [] []] s2
end
theorem JU{x n:Int}(hn:0<n):0≤Em x n∧Em x n<n:=by
 unfold Em;have h1:=Int.tmod_lt_of_pos x hn;have h2:=Int.tmod_lt_of_pos (-x) hn;rw [Int.neg_tmod]at h2;have h3:0≤x.tmod n+n:=by omega
 rw [Int.tmod_eq_emod_of_nonneg h3];exact⟨Int.emod_nonneg _ (by omega),Int.emod_lt_of_pos _ hn⟩
theorem pY{l:List Int}{n j:Int}{s s1:Gs}(hn:0<n)(h:gN l n s=(j,s1)):0≤j∧j<n:=by
 unfold gN at h;split at h
 ·cases h;exact⟨Int.le_refl _,hn⟩
 ·cases h;exact JU hn
theorem CJ{l:List Int}{n j:Int}{s s1:Gs}(h:gN l n s=(j,s1)):s1={s with at_:=s1.at_}∧(s.at_≤l.length→s1.at_≤l.length):=by
 unfold gN at h;split at h
 ·cases h;exact⟨J,fun h=>h⟩
 ·rename_i x hx;cases h;exact⟨J,fun _=>(cU.1 hx).1⟩
def ix(vl:SV)(s:Gs)(vn:SV)(me:Nat)(vf:SV):List Value:= [sv vl,I6 (s.at_:Int),I6 s.left,I6 s.nodes,sv vn,I6 s.vars,I6 (me:Int),sv vf]
theorem J_{l:List Int}{n:Int}{s:Gs}(h:l.length≤s.at_):gN l n s=(0,s):=by
 unfold gN;rw [List.getElem?_eq_none h]
theorem J9{l:List Int}{n x:Int}{s:Gs}(h:l[s.at_]?=some x):gN l n s=(Em x n,{s with at_:=s.at_+1}):=by
 unfold gN;rw [h]
theorem Pj(x:Int){m:Int}(hm:0<m): -m<x.tmod m∧x.tmod m<m:=by
 have h1:=Int.tmod_lt_of_pos x hm;have h2:=Int.tmod_lt_of_pos (-x) hm;rw [Int.neg_tmod]at h2;omega
theorem Gr(n m:Int)(hm:0<m∧m≤1000000):
  aW prog 24 [I6 n,I6 m] [] [] (I6 (Em n m)) []:=by
 refine aI func24 J ntmps24 J fun w0 M H=>aq (am J (az J (ad J (ad J (ar J J (k8 (by omega) J) (ad J (ar J J (co (by have:=Pj n hm.1;exact bM (by omega))) (ad J (ar J J (k8 (by omega) J) (am J (aa (ay (aN () O J (ce (aL J)) J [] [] J J J)))))))))))))
theorem cN(g:Nat)(vl vn vf:SV)(c:Gc)(hl:c.l.length≤9223372036854775807)(hlo:∀x∈c.l,Lr x)(n:Int)(hn:0<n∧n≤1000000)(s:Gs):
  aW prog 46 [Pt g,I6 n] [bj g 102 (ix vl (s) vn c.me vf)] [sl 1 eI (sv vl) c.l] (I6 (gN c.l n s).1) [bj g 102 (ix vl ((gN c.l n s).2) vn c.me vf)]:=by
 refine aI func46 J ntmps46 J fun w0 M H=>aq (am J (aa (be (be (bX [5,6,7,8,9,10,11,12,13,14] _ J (bA (V:= [(0,5,_),(1,6,_),(2,7,_),(3,8,_),(4,9,_),(5,10,_),(6,11,_),(7,12,_),(8,13,_),(9,14,_)]) [0,1,2,3,4,5,6,7,8,9] J J (aF J J (ae J (au J) (ae J (ah sK J) (ae J (ag t3 J J (ax (k:=0) J J)) (aF J J (ae J (au J) (ae J (ah C4 J) (ae J (ag Fa J J (ax (k:=0) J J)) (ae J (aT underlying22 J (aJ (k:=0) J)) (ae J (aQ J J iz) aw)))))))))) J J J (ap J (fun h1=> ?_) (fun h1=> ?_))))))))
 ·(try simp only [bl]at h1);rw [J_ (by omega)];refine aq (am J (aa (ay (aN () O J (ce (aL J)) J [0] [] J J J))))
 ·(try simp only [bl]at h1);have hlt:s.at_<c.l.length:=by omega
  obtain⟨x,hx⟩:∃x,c.l[s.at_]?=some x:=⟨_,bQ hlt⟩
  rw [J9 hx];refine aC (aq (ad J (bS J (aD sK J (aR 0 t3 J J J J (ar J J aK (bS J (aD sK J (aB (k:=0) t3 J J J J J J J J (aa (be ?_)))))))))));refine bX [22,23,24,25,26,27,28,29,30,31,32,33,34,4] _ J (bi (V:= [(0,22,_),(1,23,_),(2,24,_),(3,25,_),(4,26,_),(5,27,_),(6,28,_),(7,29,_),(8,30,_),(9,31,_),(10,32,_),(11,33,_)]) [0,1,2,3,4,5,6,7,8,9,10,11] 12 [12,11,10,9,8,7,6,5,4,3,2,1,0] [13] (fun _=> [(13,4,_)]) J J (aF J J (ae J (au J) (ae J (ah C4 J) (ae J (ag Fa J J (ax (k:=0) J J)) (aF J J (ae J (au J) (ae J (ah sK J) (ae J (ag t3 J J (ax (k:=0) J J)) (ae J (aQ J J (io (c:=(s.at_:Int)) (by rw [show(s.at_:Int)+1-1=(s.at_:Int) by omega];exact bM (by omega)))) (ae J (aO (j:=s.at_) underlying22 t3 J J (aJ (k:=0) J) (by omega) hlt) (ae J (ag t3 J J (bF (aJ (k:=0) J) (by intro _;rfl) hx (by rfl))) (aF J J aw)))))))))))) J J J J J J J J J J J (fun _ _=>J) J (b_ (xs:= [.tmp 32,.tmp 33]) (Gr x n hn) Uu [] [] []) (fun _ _=>bA [13] J J (ae J (df J) aw) J J J ?_));refine ay (aN () O J (ce (aL J)) J [0] [] J J J)
theorem tN{l:List Int}{α:Type}{L:List α}{n:Int}(hn:0<n)(hL:n=(L.length:Int))(s:Gs):∃x,L[(gN l n s).1.toNat]?=some x∧(gN l n s).1.toNat<L.length∧(gN l n s).1=((gN l n s).1.toNat:Int):=by
 have h:=pY (l:=l) (s:=s) (j:=(gN l n s).1) (s1:=(gN l n s).2) hn J;have h2:(gN l n s).1.toNat<L.length:=by omega
 exact⟨_,bQ h2,h2,by omega⟩
theorem y_(g:Nat)(vl vn vf:SV)(c:Gc)(hl:c.l.length≤9223372036854775807)(hlo:∀x∈c.l,Lr x)(s:Gs):
  Spec prog 117 [Pt g] [bj g 102 (ix vl (s) vn c.me vf)] [sl 1 eI (sv vl) c.l] (X:=Int) (fun x=>cL[(gN c.l 15 s).1.toNat]?=some x) (fun x=>xV (rN x)) (fun _=> [bj g 102 (ix vl ((gN c.l 15 s).2) vn c.me vf)]) (fun _=> []):=by
 refine aI func117 J ntmps117 J fun w0 M H=>aq (aZ ci J J fun b2=>az J (cI eU cL (parts:= [(0,.const (I3 0)),(1,.const (I3 1)),(2,.const (I3 2)),(3,.const (I3 3)),(4,.const (I3 5)),(5,.const (I3 8)),(6,.const (I3 31)),(7,.const (I3 32)),(8,.const (I3 255)),(9,.const (I3 256)),(10,.const (I3 65535)),(11,.const (I3 131072)),(12,.const (I3 2147483647)),(13,.const (I3 2147483648)),(14,.const (I3 4294967295))]) underlying48 eA J (by decide) (by intro _;rfl) J (by decide) (by decide) J J J J fun v4=>am J (az J (ad J (ad J (ad J (aP (aT underlying48 J (bh (k:=4) J)) (ai (xs:= [.tmp 6,.tmp 8]) (cN g vl vn vf c hl hlo 15 (by decide) s) lC [0] [(false,0)] [0] (fun _ _=> ?_)))))))))
 obtain⟨x,hx,hj1,hj2⟩:=tN (l:=c.l) (L:=cL) (n:=15) (by decide) J s;refine aP (aO (j:=(gN c.l 15 s).1.toNat) underlying48 eA J J (bh (k:=4) J) hj2 hj1) (aP (ag eA J J (bF (bh (k:=4) J) (by intro _;rfl) hx (by rfl))) (aP (aX (parts:= [(0,.const (I6 1)),(1,.tmp 11)]) ci k9 J J) (av (k:=2) ci J J J J J J (aa (ay (aN x hx J (ce (bw ci J J J (bp (k:=2) J))) J [0] [] J J J))))))
theorem lV(l:List Int)(n:Int)(s:Gs):(gN l n s).2.names=s.names∧(gN l n s).2.left=s.left∧(gN l n s).2.vars=s.vars:=by
 have h:=(CJ (l:=l) (n:=n) (s:=s) (j:=(gN l n s).1) (s1:=(gN l n s).2) (by exact Prod.eta _)).1;rw [h];exact⟨J,J,J⟩
theorem qR(l:List Int){n:Int}(hn:0<n)(s:Gs):0≤(gN l n s).1∧(gN l n s).1<n:=pY (j:=(gN l n s).1) (s1:=(gN l n s).2) hn (by exact Prod.eta _)
theorem bN{l:List Int}{n j:Int}{s s1:Gs}(h:gN l n s=(j,s1)):s1.names=s.names∧s1.left=s.left∧s1.vars=s.vars:=by
 rw [(CJ h).1];exact⟨J,J,J⟩
theorem jv{l:List Int}{d:Nat}{s s1:Gs}{k:Int}(h:gK l d s=(k,s1)):s1.names=s.names∧s1.left=s.left∧s1.vars=s.vars:=by
 unfold gK at h;have h2:(gN l 16 {s with nodes:=IntKind.i64.wrap (s.nodes-1)}).2=s1:=congrArg Prod.snd h;have h3:=lV l 16 {s with nodes:=IntKind.i64.wrap (s.nodes-1)};rw [h2]at h3;exact h3
theorem lm{w:World}{F G:Nat→Prop}{t:Tx}(h:(ck t.v t.kids).pred w G)(hs:∀b,G b→F b):TxIn w F t:=by
 have h2:TxIn w G t:=by
  cases t;exact h
 exact TxIn.mono hs (fun _ _=>J) t h2
def KU(l:List Tx):Asn:=⟨fun w F=>TxsIn w F l,fun h hs=>TxsIn.mono (fun _ hb=>hb) hs _ h⟩
theorem BI{w:World}{F:Nat→Prop}:∀{l:List Tx}{t:Tx},TxsIn w F l→TxIn w F t→TxsIn w F (l++ [t])
 | [],t,_,ht=>⟨ht,trivial⟩
 | a::r,t,h,ht=>⟨h.1,BI h.2 ht⟩
theorem KT{w:World}{F G:Nat→Prop}{l:List Tx}(h:(KU l).pred w G)(hs:∀b,G b→F b):TxsIn w F l:=TxsIn.mono hs (fun _ _=>rfl) l h
theorem ly(w:World)(F:Nat→Prop)(_:AllIn w F []):(ck bc []).pred w F:=⟨i9,trivial⟩
theorem lQ{v:SV}{t:Tx}(w:World)(F:Nat→Prop)(h:AllIn w F [own 61 4 eH (sv v) [t],ck t.v t.kids]):(ck v [t]).pred w F:=by
 obtain⟨⟨_,a0,b0⟩,⟨_,a1,b1⟩,_⟩:=h;exact⟨dm a0 b0,lm a1 b1,O⟩
theorem BP{v:SV}{t u:Tx}(w:World)(F:Nat→Prop)(h:AllIn w F [own 61 4 eH (sv v) [t,u],ck t.v t.kids,ck u.v u.kids]):(ck v [t,u]).pred w F:=by
 obtain⟨⟨_,a0,b0⟩,⟨_,a1,b1⟩,⟨_,a2,b2⟩,_⟩:=h;exact⟨dm a0 b0,lm a1 b1,lm a2 b2,O⟩
theorem Cx{l:List Tx}{t:Tx}(w:World)(F:Nat→Prop)(h:AllIn w F [KU l,ck t.v t.kids]):(KU (l++ [t])).pred w F:=by
 obtain⟨⟨_,a0,b0⟩,⟨_,a1,b1⟩,_⟩:=h;exact BI (KT a0 b0) (lm a1 b1)
theorem yY{v:SV}{l:List Tx}(w:World)(F:Nat→Prop)(h:AllIn w F [own 61 4 eH (sv v) l,KU l]):(ck v l).pred w F:=by
 obtain⟨⟨_,a0,b0⟩,⟨_,a1,b1⟩,_⟩:=h;exact⟨dm a0 b0,KT a1 b1⟩
structure Ge where
 g:Nat
 vl:SV
 vn:SV
 vf:SV
 c:Gc
 F:List Tf
structure Gfine(e:Ge):Prop where
 hl:e.c.l.length≤9223372036854775807
 hlo:∀x∈e.c.l,Lr x
 fs:e.c.fs=e.F.map fun f=>(f.name,f.ps)
 fl:e.F.length≤100
 me:e.c.me≤100
 ps:∀f∈e.F,f.ps.length≤100
def R8(e:Ge)(d:Nat):Prop:=∀s:Gs,s.names.length≤1000→Spec prog 79 [Pt e.g,I6 ((d:Int)+1)] [bj e.g 102 (ix e.vl s e.vn e.c.me e.vf)] [sl 1 eI (sv e.vl) e.c.l,sl 1 eS (sv e.vn) s.names,dO e.vf e.F] (X:=Tx×Gs) (fun x=>GXr e.c d s (iD x.1) x.2) (fun x=>xV x.1) (fun x=> [bj e.g 102 (ix e.vl x.2 e.vn e.c.me e.vf),ck x.1.v x.1.kids]) (fun _=> [])
def U5(e:Ge)(d:Nat):Prop:=∀(s:Gs)(f:Tf),f∈e.F→s.names.length≤1000→Spec prog 80 [Pt e.g,IW f,I6 ((d:Int)+2)] [bj e.g 102 (ix e.vl s e.vn e.c.me e.vf)] [sl 1 eI (sv e.vl) e.c.l,sl 1 eS (sv e.vn) s.names,dO e.vf e.F] (X:=Tx×Gs) (fun x=>GCr e.c d (f.name,f.ps) s (iD x.1) x.2) (fun x=>xV x.1) (fun x=> [bj e.g 102 (ix e.vl x.2 e.vn e.c.me e.vf),ck x.1.v x.1.kids]) (fun _=> [])
mutual
theorem GXr.keep{c:Gc}:∀{d:Nat}{s s':Gs}{p:Px},GXr c d s p s'→s'.names=s.names∧s'.left=s.left∧s'.vars=s.vars
 | _,s,_,_,.nam (s1:=s1) hk _ _ hj _=>by
  have h1:=jv hk;have h2:=(CJ hj).1;rw [h2];exact h1
 | _,_,_,_,.inp hk=>jv hk
 | _,_,_,_,.mem hk _ hp=>by
  have h1:=jv hk;have h2:=hp.keep;exact⟨h2.1.trans h1.1,h2.2.1.trans h1.2.1,h2.2.2.trans h1.2.2⟩
 | _,_,_,_,.una hk hj _ hp=>by
  have h1:=jv hk;have h3:=bN hj;have h2:=hp.keep;exact⟨h2.1.trans (h3.1.trans h1.1),h2.2.1.trans (h3.2.1.trans h1.2.1),h2.2.2.trans (h3.2.2.trans h1.2.2)⟩
 | _,_,_,_,.call hk _ hj _ hp=>by
  have h1:=jv hk;have h3:=bN hj;have h2:=hp.keep;exact⟨h2.1.trans (h3.1.trans h1.1),h2.2.1.trans (h3.2.1.trans h1.2.1),h2.2.2.trans (h3.2.2.trans h1.2.2)⟩
 | _,_,_,_,.bin hk _ hj _ hp hq=>by
  have h1:=jv hk;have h3:=bN hj;have h2:=hp.keep;have h4:=hq.keep;exact⟨h4.1.trans (h2.1.trans (h3.1.trans h1.1)),h4.2.1.trans (h2.2.1.trans (h3.2.1.trans h1.2.1)),h4.2.2.trans (h2.2.2.trans (h3.2.2.trans h1.2.2))⟩
 | _,_,_,_,.con hk _ _ _ _ _ _ _ hj _=>by
  have h1:=jv hk;have h3:=bN hj;exact⟨h3.1.trans h1.1,h3.2.1.trans h1.2.1,h3.2.2.trans h1.2.2⟩
theorem GKr.keep{c:Gc}:∀{d n:Nat}{s s':Gs}{ps:List Px},GKr c d n s ps s'→s'.names=s.names∧s'.left=s.left∧s'.vars=s.vars
 | _,_,_,_,_,.nil=>⟨rfl,rfl,rfl⟩
 | _,_,_,_,_,.cons hp hq=>by
  have h1:=hp.keep;have h2:=hq.keep;exact⟨h2.1.trans h1.1,h2.2.1.trans h1.2.1,h2.2.2.trans h1.2.2⟩
end
theorem tI(e:Ge)(he:Gfine e)(d:Nat)(hd:d≤10)(ih:R8 e d)(s:Gs)(f:Tf)(hf:f∈e.F)(hn:s.names.length≤1000):
  Spec prog 80 [Pt e.g,IW f,I6 ((d:Int)+2)] [bj e.g 102 (ix e.vl (s) e.vn e.c.me e.vf)] [sl 1 eI (sv e.vl) e.c.l,sl 1 eS (sv e.vn) s.names,dO e.vf e.F] (X:=Tx×Gs) (fun x=>GCr e.c d (f.name,f.ps) s (iD x.1) x.2) (fun x=>xV x.1) (fun x=> [bj e.g 102 (ix e.vl (x.2) e.vn e.c.me e.vf),ck x.1.v x.1.kids]) (fun _=> []):=by
 refine aI func80 J ntmps80 J fun w0 M H=>a_ 2 4 J (rh hf) (a_ 4 3 J ri ?_)
 have hpl:=he.ps f hf;refine aq (cM J J fun b4=>aZ ci J J fun b6=>az J (aD lW J (aR 4 t9 J J J J (aP (aX (parts:= [(0,.const (I6 3)),(2,.tmp 10)]) ci k9 J J) (aZ ci J J fun b7=>av (k:=7) ci J J J J J J (aa (aU (am J (aa (aA (eo 40 (α:=Tx) (S:=61) (s:=4) (enc:=eH) ?_)))))))))));refine bz 41 [] (L:= []) (C:=KU []) J (fun _ _ _=>O) (bJ (X:=Nat×SV×List Tx×Gs) (fun x=>x.1≤f.ps.length∧x.2.2.1.length=x.1∧GKr e.c d x.1 s (gE x.2.2.1) x.2.2.2) (fun x=> [(0,Pt e.g),(2,I6 ((d:Int)+2)),(4,Pt b4),(6,Pt b6),(7,Pt b7),(8,I6 (x.1:Int))]) (fun x=> [(0,bj e.g 102 (ix e.vl (x.2.2.2) e.vn e.c.me e.vf)),(4,bj b4 66 (jI f)),(6,bj b6 61 (eH (.mk 0 0 oNil bc []))),(7,bj b7 61 (eH (.mk 3 0 f.name x.2.1 x.2.2.1))),(40,own 61 4 eH (sv x.2.1) x.2.2.1),(41,KU x.2.2.1)]) (fun x=> [(0,sl 1 eI (sv e.vl) e.c.l),(1,sl 1 eS (sv e.vn) s.names),(2,dO e.vf e.F),(3,sl 1 eS (sv f.vp) f.ps)]) (fun x=>f.ps.length-x.1) (0,bc,[],s) ⟨bn _,J,.nil⟩ J J J (fun x hx0=> ?_));obtain⟨i,vk,kids,sx⟩:=x;obtain⟨n1,n2,n3⟩:=hx0;dsimp only at n1 n2 n3 ⊢;have n4:kids=kids:=J;refine aU (ad J (aD fj J (aR 4 jT J J J J (aP (aT underlying46 J (aJ (k:=3) J)) (ar J J cy (aa (ap J (fun h1=> ?_) (fun h1=> ?_))))))))
 ·(try simp only [bl]at h1);have hi:i<f.ps.length:=by omega
  refine aC (be (aA ?_));refine bX [19,20,21,22,23,24,25,26,27] _ J (bi (V:= [(0,19,_),(1,20,_),(2,21,_),(3,22,_),(4,23,_)]) [0,1,2,3,4] 5 [5,4,3,2] [] (fun xt=> []) J J (ae J (ah dq J) (ae J (ag kc J J (ax (k:=7) J J)) (aF J J (aF J J (ae J (aQ J J (io (c:=(d:Int)+1) (by rw [show(d:Int)+2-1=(d:Int)+1 by omega];exact bM (by omega)))) aw))))) J J J J J J J J J J J (fun _ _=>J) J (jq (xs:= [.tmp 21,.tmp 23]) (ih sx (by rw [n3.keep.1];exact hn)) oR [0] [(false,0),(false,1),(false,2)] [0,24] J J J J J (by rw [←n3.keep.1];rfl) J J (fun _ _=>J) (fun _ _ _=>J)) (fun xt hxt=>bi [0,1] 6 [6,5,4,3,2] [] (fun v25=> []) J J (ae J (ah dq J) (ae J (ag kc J J (ax (k:=7) J J)) aw)) J J J J J J J J J J J (fun _ _=>J) J (d9 eH xt.1 underlying59 ci J (by decide) (by decide) J J J) (fun v25 _=>bi [0,1] 7 [7,6,5,4,3,2,1,0] [8] (fun v26=> [(8,27,_)]) J J (ae J (ah dq J) (ae J (ag kc J J (ax (k:=7) J J)) aw)) J J J J J J J J J J J (fun _ _=>J) J (ja 40 underlying59 ci J (by decide) (fun _=>J) (fun _=>J) J J J (bh (k:=25) J) (by have:=congrArg List.length n4;simp only [dk];omega) (by unfold maxLen;simp only [dk];omega)) (fun v26 _=>bP [8] 9 [9,8,7,6,5,4,3,2,1,0] [] (fun _=> []) J J (ae J (ah dq J) aw) J J J J J J J J J (fun _ _=>J) J (dw (k:=7) kc J J J J J J J J) (fun _ _=>bA [] J J aw J J J ?_)))));refine ak (ad J (ar J J aK (am J (aa (bz 41 [41,24] J Cx ?_)))));refine aG (i+1,v26,kids++ [xt.1],xt.2) ⟨⟨by dsimp only;omega,by dsimp only;rw [bD,dk,n2],by dsimp only;rw [ql];exact n3.snoc hxt⟩,by dsimp only;omega⟩ J J J
 ·(try simp only [bl]at h1);have hi:i=f.ps.length:=by omega
  subst hi;refine bL (aq (aP (aM ci J J J (bp (k:=7) J)) (av (k:=6) ci J J J J J J (aa (ay (bz 50 [40,41] J yY (aN (.mk 3 0 f.name vk kids,sx) ⟨gE kids,n3,J⟩ J (ce (bw ci J J J (bp (k:=6) J))) J [0,50] [] J J J)))))))
theorem tG(e:Ge)(he:Gfine e)(d:Nat)(hd:d≤10)(ihX:∀k,d=k+1→R8 e k)(ihC:∀k,d=k+1→U5 e k)(s:Gs)(hn:s.names.length≤1000):
  Spec prog 79 [Pt e.g,I6 ((d:Int)+1)] [bj e.g 102 (ix e.vl (s) e.vn e.c.me e.vf)] [sl 1 eI (sv e.vl) e.c.l,sl 1 eS (sv e.vn) s.names,dO e.vf e.F] (X:=Tx×Gs) (fun x=>GXr e.c d s (iD x.1) x.2) (fun x=>xV x.1) (fun x=> [bj e.g 102 (ix e.vl (x.2) e.vn e.c.me e.vf),ck x.1.v x.1.kids]) (fun _=> []):=by
 refine aI func79 J ntmps79 J fun w0 M H=>a_ 2 3 J lL ?_
 have hfl:e.c.fs.length=e.F.length:=by rw [he.fs,List.length_map]
 have hflb:=he.fl;have hmeb:=he.me;obtain⟨k0,s1,hr⟩:∃k0 s1,gN e.c.l 16 {s with nodes:=IntKind.i64.wrap (s.nodes-1)}=(k0,s1):=⟨_,_,J⟩
 have hkb:=pY (by decide) hr;have hst:=bN hr;obtain⟨k,hkk⟩:∃k,(if d=0∨s1.nodes<1 then k0%4 else k0)=k:=⟨_,J⟩
 have hk:gK e.c.l d s=(k,s1):=by
  unfold gK;rw [hr,←hkk]
 have hn1:s1.names=s.names:=hst.1;have hk16:0≤k∧k<16:=by rw [←hkk];split<;>omega
 have hk4:d=0→k<4:=fun h=>by rw [←hkk,aj (.inl h)];omega
 refine aq (aZ ci J J fun b4=>az J (ad J (bS J (aD sI J (aR 0 t3 J J J J (ar J J (io J) (bS J (aD sI J (aB (k:=0) t3 J J J J J J J J (az J (ad J (ai (xs:= [.tmp 17,.const (I6 16)]) (cN e.g e.vl e.vn e.vf e.c he.hl he.hlo (16) (by decide) ({s with nodes:=IntKind.i64.wrap (s.nodes-1)})) lC [0] [(false,0)] [0] (fun _ _=> ?_)))))))))))));rw [hr];refine am J (aa (bC (X:=Unit) (fun _=>True) (fun _=> [(0,Pt e.g),(1,I6 ((d:Int)+1)),(4,Pt b4),(5,I6 k)]) (fun _=> [(0,bj e.g 102 (ix e.vl (s1) e.vn e.c.me e.vf)),(4,bj b4 61 (eH (.mk 0 0 oNil bc [])))]) (fun _=> [(0,sl 1 eI (sv e.vl) e.c.l),(1,sl 1 eS (sv e.vn) s.names),(2,dO e.vf e.F),(3,sl 3 jI (sv e.vf) e.F)]) ?_ (fun _ _=> ?_)))
 ·refine aq (ad J (ar J J mt (ad J (aH [] J J O (fun hg1=>aV J) J (aH [(22,_)] J J ⟨J,O⟩ (fun hg2=>au J) J (aH [(22,_),(23,_)] J J ⟨J,J,O⟩ (fun hg3=>ah sI J) J (aH [(22,_),(23,_),(24,_)] J J ⟨J,J,J,O⟩ (fun hg4=>ag t3 J J (ax (k:=0) J J)) J (aH [(22,_),(23,_),(24,_),(25,_)] J J ⟨J,J,J,J,O⟩ (fun hg5=>aQ J J cy) J (aP (bH J J J) (aa (ap J (fun h6=> ?_) (fun h6=> ?_))))))))))))
  ·(try simp only [bl]at h6);have hsm:d=0∨s1.nodes<1:=by rcases h6 with h|h;exact .inl (by omega);exact .inr h
   refine ak (ad J (ar J J (k8 (by decide) (Int.tmod_eq_emod_of_nonneg hkb.1)) (am J (aa (aG () O (by rw [←hkk,aj hsm];rfl) J J)))))
  ·(try simp only [bl]at h6);have hsm:¬(d=0∨s1.nodes<1):=by rintro (h|h);exact h6.1 (by omega);exact h6.2 h
   refine aC (aG () O (by rw [←hkk,ac hsm];rfl) J J)
 ·refine be (aA (aq (ad J (ar J J bv (ad J (aH [] J J O (fun hg7=>aV J) J (aH [(34,_)] J J ⟨J,O⟩ (fun hg8=>au J) J (aH [(34,_),(35,_)] J J ⟨J,J,O⟩ (fun hg9=>ah gB J) J (aH [(34,_),(35,_),(36,_)] J J ⟨J,J,J,O⟩ (fun hg10=>ag jT J J (ax (k:=0) J J)) J (aH [(34,_),(35,_),(36,_),(37,_)] J J ⟨J,J,J,J,O⟩ (fun hg11=>aT underlying46 J (aJ (k:=1) J)) J (aH [(34,_),(35,_),(36,_),(37,_),(38,_)] J J ⟨J,J,J,J,J,O⟩ (fun hg12=>aQ J J fA) J (aP (bH J J J) (ad J (aH [] J J O (fun hg13=>aV J) J (aH [(42,_)] J J ⟨J,O⟩ (fun hg14=>aQ J J bv) J (aH [(42,_),(43,_)] J J ⟨J,J,O⟩ (fun hg15=>aV J) J (cA [] [(42,_),(43,_),(44,_)] J J O ⟨J,J,J,O⟩ (fun hg16 hg16'=>aV J) J (cA [(45,_)] [(42,_),(43,_),(44,_)] J J ⟨J,O⟩ ⟨J,J,J,O⟩ (fun hg17 hg17'=>au J) J ?_))))))))))))))))));refine cA [(45,_),(46,_)] [(42,_),(43,_),(44,_)] J J ⟨J,J,O⟩ ⟨J,J,J,O⟩ (fun hg18 hg18'=>ah gB J) J (cA [(45,_),(46,_),(47,_)] [(42,_),(43,_),(44,_)] J J ⟨J,J,J,O⟩ ⟨J,J,J,O⟩ (fun hg19 hg19'=>ag jT J J (ax (k:=0) J J)) J (cA [(45,_),(46,_),(47,_),(48,_)] [(42,_),(43,_),(44,_)] J J ⟨J,J,J,J,O⟩ ⟨J,J,J,O⟩ (fun hg20 hg20'=>aT underlying46 J (aJ (k:=1) J)) J (cA [(45,_),(46,_),(47,_),(48,_),(49,_)] [(42,_),(43,_),(44,_)] J J ⟨J,J,J,J,J,O⟩ ⟨J,J,J,O⟩ (fun hg21 hg21'=>aQ J J fA) J (aH [(42,_),(43,_),(44,_)] J J ⟨J,J,J,O⟩ (fun hg22=>d7 J J J (by first|exact dL|exact eu|exact da hg22|exact dF hg22|rfl)) J (aP (bH J J J) (am J (aa (ap J (fun h23=> ?_) (fun h23=> ?_)))))))))
  ·(try simp only [bl]at h23);have hq:(k=1∨k=2)∧0<s1.names.length:=by rw [hn1];rcases h23 with h|h;exact⟨.inl h.1,by omega⟩;exact⟨.inr h.1,by omega⟩
   have hsl:=hq.2;rw [hn1]at hsl;obtain⟨x6,hx6,hja6,hjb6⟩:=tN (l:=e.c.l) (L:=s.names) (n:=(s.names.length:Int)) (by omega) J (s1);refine be ?_;refine bX [53,54,55,56,57,58,59,60,61,62,63,64,65,66] _ J (bi (V:= [(0,53,_),(1,54,_),(2,55,_),(3,56,_),(4,57,_),(5,58,_),(6,59,_),(7,60,_),(8,61,_),(9,62,_)]) [0,1,2,3,4,5,6,7,8,9] 10 [10,9,8,7,6,5,4] [11,12,13] (fun _=> [(11,64,_),(12,65,_),(13,66,_)]) J J (aF J J (ae J (au J) (ae J (ah gB J) (ae J (ag jT J J (ax (k:=0) J J)) (aF J J (aF J J (ae J (au J) (ae J (ah gB J) (ae J (ag jT J J (ax (k:=0) J J)) (ae J (aT underlying46 J (aJ (k:=1) J)) aw)))))))))) J J J J J J J J J J J (fun _ _=>J) J (b_ (xs:= [.tmp 57,.tmp 62]) (cN e.g e.vl e.vn e.vf e.c he.hl he.hlo (s.names.length:Int) (by omega) s1) lC [0] [(false,0)] [0]) (fun _ _=>bP [11,12,13,0,1,2,3] 14 [14,13,12,11,10,9,8,7,6,5,4,3,2,1,0] [] (fun _=> []) J J (ae J (aO (j:=(gN e.c.l (s.names.length:Int) s1).1.toNat) underlying46 t9 J J (aJ (k:=1) J) hjb6 hja6) (ae J (ag t9 J J (bF (aJ (k:=1) J) (by intro _;rfl) hx6 (by rfl))) (ae J (aX (parts:= [(0,.const (I6 2)),(2,.tmp 65)]) ci k9 J J) (aF J J (ae J (au J) (ae J (ah gB J) (ae J (ag jT J J (ax (k:=0) J J)) aw))))))) J J J J J J J J J (fun _ _=>J) J (bZ (k:=4) ci J J J J J J) (fun _ _=>bA [] J J aw J J J ?_)));refine ay (bz 50 [] (L:= []) J ly (aN (mF x6,(gN e.c.l (s.names.length:Int) s1).2) (.nam (j:=(gN e.c.l (s.names.length:Int) s1).1) hk hq.1 hq.2 (by rw [hn1]) (by rw [hn1];exact hx6)) J (ce (bw ci J J J (bp (k:=4) J))) J [0,50] [] J J J))
  ·(try simp only [bl]at h23);have hq:¬((k=1∨k=2)∧0<s1.names.length):=by
    rw [hn1];rintro ⟨h1|h1,h2⟩
    ·rcases h23.1 with h|h
     ·exact h h1
     ·omega
    ·rcases h23.2 with h|h
     ·exact h h1
     ·omega
   refine aq (ad J (ar J J bv (am J (aa (ap J (fun h24=> ?_) (fun h24=> ?_))))))
   ·(try simp only [bl]at h24);have q3:k=3:=h24;refine aq (aP (aX (parts:= [(0,.const (I6 5))]) ci k9 J J) (av (k:=4) ci J J J J J J (aa (ay (bz 50 [] (L:= []) J ly (aN (Vf,s1) (.inp (q3▸hk)) J (ce (bw ci J J J (bp (k:=4) J))) J [0,50] [] J J J))))))
   ·(try simp only [bl]at h24);have q3:¬k=3:=h24;refine aq (ad J (ar J J bv (ad J (aH [] J J O (fun hg25=>aV J) J (aH [(75,_)] J J ⟨J,O⟩ (fun hg26=>aQ J J bv) J (aP (bH J J J) (am J (aa (ap J (fun h27=> ?_) (fun h27=> ?_))))))))))
    ·(try simp only [bl]at h27);have q4:k=4∨k=5:=h27;obtain⟨d2,rfl⟩:∃d2,d=d2+1:=⟨d-1,by have:=hk4;omega⟩
     refine aq (ad J (ad J ?_));refine uE (aQ J J (io (c:=(d2:Int)+1) (by rw [show(((d2+1:Nat):Int)+1)-1=(d2:Int)+1 by omega];exact bM (by omega)))) J ?_;refine dI (xs:= [.tmp 78,.tmp 80]) (ihX _ J (s1) (by rw [hn1];exact hn)) oR [0] [(false,0),(false,1),(false,2)] [0,81] J J J J J (by rw [←hn1];rfl) J J (fun _ _=>J) (fun _ _ _=>J) J (fun xt hxt=>bq eH xt.1 underlying59 ci J (by decide) (by decide) J J J J fun v82=>aP (aX (parts:= [(0,.const (I6 4)),(3,.tmp 82)]) ci k9 J J) (av (k:=4) ci J J J J J J (aa (ay (bz 50 [82,81] J lQ (aN (.mk 4 0 oNil v82 [xt.1],xt.2) (.mem hk q4 hxt) J (ce (bw ci J J J (bp (k:=4) J))) J [0,50] [] J J J))))))
    ·(try simp only [bl]at h27);have q4:¬(k=4∨k=5):=by rintro (h|h);exact h27.1 h;exact h27.2 h
     refine aq (ad J (ar J J bv (am J (aa (ap J (fun h28=> ?_) (fun h28=> ?_))))))
     ·(try simp only [bl]at h28);have q6:k=6:=h28;obtain⟨d2,rfl⟩:∃d2,d=d2+1:=⟨d-1,by have:=hk4;omega⟩
      obtain⟨xu,hxu,hjau,hjbu⟩:=tN (l:=e.c.l) (L:=rf) (n:=3) (by decide) J (s1);have hn6:(gN e.c.l 3 s1).2.names=s.names:=(lV e.c.l 3 s1).1.trans hn1;refine be ?_
      refine bX [87,88,89,90,91,92,93,94,95,96,97] _ J (hQ (V:= [(1,88,_),(5,92,_),(6,93,_),(7,94,_)]) [1,5,6,7] J J (aF J J (aF J J (aF J J (bk (Jj J (aQ J J (io (c:=(d2:Int)+1) (by rw [show(((d2+1:Nat):Int)+1)-1=(d2:Int)+1 by omega];exact bM (by omega))))) aw)))) J [0,2] J J (ea (fy 0 [0] [] (fun v87=> []) J J J J J J J J J (fun _ _=>J) J (gm eS rf (parts:= [(0,.const (Sg (ByteArray.mk #[45]))),(1,.const (Sg (ByteArray.mk #[126]))),(2,.const (Sg (ByteArray.mk #[33])))]) underlying46 t9 J (by decide) (by intro _;rfl) J (by decide) (by decide) J J J) (fun v87 _=>bi [1,5,6,7] 2 [2,1,0] [3,4] (fun _=> [(3,90,_),(4,91,_)]) J J (aF J J (aF J J (aF J J (bk (Jj J (aQ J J (io (c:=(d2:Int)+1) (by rw [show(((d2+1:Nat):Int)+1)-1=(d2:Int)+1 by omega];exact bM (by omega))))) aw)))) J J J J J J J J J J J (fun _ _=>J) J (b_ (xs:= [.tmp 88,.const (I6 3)]) (cN e.g e.vl e.vn e.vf e.c he.hl he.hlo (3) (by decide) (s1)) lC [0] [(false,0)] [0]) (fun _ _=>bi [3,4,5,6,7] 8 [8,7,6,5,2,1,0] [] (fun xt=> []) J J (ae J (aO (j:=(gN e.c.l 3 s1).1.toNat) underlying46 t9 J J (bh (k:=87) J) hjbu hjau) (ae J (ag t9 J J (bF (bh (k:=87) J) (by intro _;rfl) hxu (by rfl))) (aF J J (aF J J (bk (Jj J (aQ J J (io (c:=(d2:Int)+1) (by rw [show(((d2+1:Nat):Int)+1)-1=(d2:Int)+1 by omega];exact bM (by omega))))) aw))))) J J J J J J J J J J J (fun _ _=>J) J (jq (xs:= [.tmp 92,.tmp 94]) (ihX _ J ((gN e.c.l 3 s1).2) (by rw [hn6];exact hn)) oR [0] [(false,0),(false,1),(false,2)] [0,95] J J J J J (by rw [←hn6];rfl) J J (fun _ _=>J) (fun _ _ _=>J)) (fun xt hxt=>bi [3,4] 9 [9,8,7,6,5,2,1,0] [10] (fun v96=> [(10,97,_)]) J J (ae J (aO (j:=(gN e.c.l 3 s1).1.toNat) underlying46 t9 J J (bh (k:=87) J) hjbu hjau) (ae J (ag t9 J J (bF (bh (k:=87) J) (by intro _;rfl) hxu (by rfl))) aw)) J J J J J J J J J J J (fun _ _=>J) J (d9 eH xt.1 underlying59 ci J (by decide) (by decide) J J J) (fun v96 _=>bP [10,3,4] 11 [11,10,9,8,7,6,5,4,3,2,1,0] [] (fun _=> []) J J (ae J (aX (parts:= [(0,.const (I6 6)),(2,.tmp 91),(3,.tmp 96)]) ci k9 J J) (ae J (aO (j:=(gN e.c.l 3 s1).1.toNat) underlying46 t9 J J (bh (k:=87) J) hjbu hjau) (ae J (ag t9 J J (bF (bh (k:=87) J) (by intro _;rfl) hxu (by rfl))) aw))) J J J J J J J J J (fun _ _=>J) J (bZ (k:=4) ci J J J J J J) (fun _ _=>bA [] J J aw J J J ?_)))))) (ea (fy 2 [2,1] [] (fun _=> []) J J J J J J J J J (fun _ _=>J) J (b_ (xs:= [.tmp 88,.const (I6 3)]) (cN e.g e.vl e.vn e.vf e.c he.hl he.hlo (3) (by decide) (s1)) lC [0] [(false,0)] [0]) (fun _ _=>hQ [5,6,7] J J (aF J J (aF J J (bk (Jj J (aQ J J (io (c:=(d2:Int)+1) (by rw [show(((d2+1:Nat):Int)+1)-1=(d2:Int)+1 by omega];exact bM (by omega))))) aw))) J [0,8] J J (ea (fy 0 [2,1,0] [3,4] (fun v87=> [(3,90,_),(4,91,_)]) J J J J J J J J J (fun _ _=>J) J (gm eS rf (parts:= [(0,.const (Sg (ByteArray.mk #[45]))),(1,.const (Sg (ByteArray.mk #[126]))),(2,.const (Sg (ByteArray.mk #[33])))]) underlying46 t9 J (by decide) (by intro _;rfl) J (by decide) (by decide) J J J) (fun v87 _=>bi [3,4,5,6,7] 8 [8,7,6,5,2,1,0] [] (fun xt=> []) J J (ae J (aO (j:=(gN e.c.l 3 s1).1.toNat) underlying46 t9 J J (bh (k:=87) J) hjbu hjau) (ae J (ag t9 J J (bF (bh (k:=87) J) (by intro _;rfl) hxu (by rfl))) (aF J J (aF J J (bk (Jj J (aQ J J (io (c:=(d2:Int)+1) (by rw [show(((d2+1:Nat):Int)+1)-1=(d2:Int)+1 by omega];exact bM (by omega))))) aw))))) J J J J J J J J J J J (fun _ _=>J) J (jq (xs:= [.tmp 92,.tmp 94]) (ihX _ J ((gN e.c.l 3 s1).2) (by rw [hn6];exact hn)) oR [0] [(false,0),(false,1),(false,2)] [0,95] J J J J J (by rw [←hn6];rfl) J J (fun _ _=>J) (fun _ _ _=>J)) (fun xt hxt=>bi [3,4] 9 [9,8,7,6,5,2,1,0] [10] (fun v96=> [(10,97,_)]) J J (ae J (aO (j:=(gN e.c.l 3 s1).1.toNat) underlying46 t9 J J (bh (k:=87) J) hjbu hjau) (ae J (ag t9 J J (bF (bh (k:=87) J) (by intro _;rfl) hxu (by rfl))) aw)) J J J J J J J J J J J (fun _ _=>J) J (d9 eH xt.1 underlying59 ci J (by decide) (by decide) J J J) (fun v96 _=>bP [10,3,4] 11 [11,10,9,8,7,6,5,4,3,2,1,0] [] (fun _=> []) J J (ae J (aX (parts:= [(0,.const (I6 6)),(2,.tmp 91),(3,.tmp 96)]) ci k9 J J) (ae J (aO (j:=(gN e.c.l 3 s1).1.toNat) underlying46 t9 J J (bh (k:=87) J) hjbu hjau) (ae J (ag t9 J J (bF (bh (k:=87) J) (by intro _;rfl) hxu (by rfl))) aw))) J J J J J J J J J (fun _ _=>J) J (bZ (k:=4) ci J J J J J J) (fun _ _=>bA [] J J aw J J J ?_))))) (ea (fy 8 [8,7,6,5,2,1] [] (fun xt=> []) J J J J J J J J J (fun _ _=>J) J (jq (xs:= [.tmp 92,.tmp 94]) (ihX _ J ((gN e.c.l 3 s1).2) (by rw [hn6];exact hn)) oR [0] [(false,0),(false,1),(false,2)] [0,95] J J J J J (by rw [←hn6];rfl) J J (fun _ _=>J) (fun _ _ _=>J)) (fun xt hxt=>hQ [] J J aw J [0,9] J J (ea (fy 0 [8,7,6,5,2,1,0] [3,4] (fun v87=> [(3,90,_),(4,91,_)]) J J J J J J J J J (fun _ _=>J) J (gm eS rf (parts:= [(0,.const (Sg (ByteArray.mk #[45]))),(1,.const (Sg (ByteArray.mk #[126]))),(2,.const (Sg (ByteArray.mk #[33])))]) underlying46 t9 J (by decide) (by intro _;rfl) J (by decide) (by decide) J J J) (fun v87 _=>bi [3,4] 9 [9,8,7,6,5,2,1,0] [10] (fun v96=> [(10,97,_)]) J J (ae J (aO (j:=(gN e.c.l 3 s1).1.toNat) underlying46 t9 J J (bh (k:=87) J) hjbu hjau) (ae J (ag t9 J J (bF (bh (k:=87) J) (by intro _;rfl) hxu (by rfl))) aw)) J J J J J J J J J J J (fun _ _=>J) J (d9 eH xt.1 underlying59 ci J (by decide) (by decide) J J J) (fun v96 _=>bP [10,3,4] 11 [11,10,9,8,7,6,5,4,3,2,1,0] [] (fun _=> []) J J (ae J (aX (parts:= [(0,.const (I6 6)),(2,.tmp 91),(3,.tmp 96)]) ci k9 J J) (ae J (aO (j:=(gN e.c.l 3 s1).1.toNat) underlying46 t9 J J (bh (k:=87) J) hjbu hjau) (ae J (ag t9 J J (bF (bh (k:=87) J) (by intro _;rfl) hxu (by rfl))) aw))) J J J J J J J J J (fun _ _=>J) J (bZ (k:=4) ci J J J J J J) (fun _ _=>bA [] J J aw J J J ?_)))) (ea (fy 9 [9,8,7,6,5,2,1] [] (fun v96=> []) J J J J J J J J J (fun _ _=>J) J (d9 eH xt.1 underlying59 ci J (by decide) (by decide) J J J) (fun v96 _=>bi [] 0 [9,8,7,6,5,2,1,0] [3,4,10] (fun v87=> [(3,90,_),(4,91,_),(10,97,_)]) J J aw J J J J J J J J J J J (fun _ _=>J) J (gm eS rf (parts:= [(0,.const (Sg (ByteArray.mk #[45]))),(1,.const (Sg (ByteArray.mk #[126]))),(2,.const (Sg (ByteArray.mk #[33])))]) underlying46 t9 J (by decide) (by intro _;rfl) J (by decide) (by decide) J J J) (fun v87 _=>bP [3,4,10] 11 [11,10,9,8,7,6,5,4,3,2,1,0] [] (fun _=> []) J J (ae J (aO (j:=(gN e.c.l 3 s1).1.toNat) underlying46 t9 J J (bh (k:=87) J) hjbu hjau) (ae J (ag t9 J J (bF (bh (k:=87) J) (by intro _;rfl) hxu (by rfl))) (ae J (aX (parts:= [(0,.const (I6 6)),(2,.tmp 91),(3,.tmp 96)]) ci k9 J J) aw))) J J J J J J J J J (fun _ _=>J) J (bZ (k:=4) ci J J J J J J) (fun _ _=>bA [] J J aw J J J ?_)))) ld)))) ld)))) ld)))
      ·refine ay (bz 50 [96,95] J lQ (aN (.mk 6 0 xu v96 [xt.1],xt.2) (.una (q6▸hk) J hxu hxt) J (ce (bw ci J J J (bp (k:=4) J))) J [0,50] [] J J J))
      ·refine ay (bz 50 [96,95] J lQ (aN (.mk 6 0 xu v96 [xt.1],xt.2) (.una (q6▸hk) J hxu hxt) J (ce (bw ci J J J (bp (k:=4) J))) J [0,50] [] J J J))
      ·refine ay (bz 50 [96,95] J lQ (aN (.mk 6 0 xu v96 [xt.1],xt.2) (.una (q6▸hk) J hxu hxt) J (ce (bw ci J J J (bp (k:=4) J))) J [0,50] [] J J J))
      ·refine ay (bz 50 [96,95] J lQ (aN (.mk 6 0 xu v96 [xt.1],xt.2) (.una (q6▸hk) J hxu hxt) J (ce (bw ci J J J (bp (k:=4) J))) J [0,50] [] J J J))
     ·(try simp only [bl]at h28);have q6:¬k=6:=h28;refine be ?_;refine bX [99,100,101,102,103,104,105,106,107,108,109,110,111,112,113,98] _ J (bA (V:= [(0,99,_),(1,100,_),(2,101,_),(3,102,_),(4,103,_),(5,104,_),(6,105,_),(7,106,_),(8,107,_),(9,108,_),(10,109,_),(11,110,_),(12,111,_),(13,112,_),(14,113,_),(15,98,_)]) [0,1,2,3,4,5,6,7,8,9,10,11,12,13,14,15] J J (aF J J (ae J (aQ J J bv) (aF J J (bk (bT [] J J J O (fun hg29=>aV J)) (bk (bT [(102,_)] J J J ⟨J,O⟩ (fun hg30=>au J)) (bk (bT [(103,_)] J J J ⟨J,O⟩ (fun hg31=>ah fe J)) (bk (bT [(104,_)] J J J ⟨J,O⟩ (fun hg32=>ag t3 J J (ax (k:=0) J J))) (bk (bT [(105,_)] J J J ⟨J,O⟩ (fun hg33=>aQ J J aK)) (bk (bT [] J J J O (fun hg34=>aV J)) (bk (bT [(107,_)] J J J ⟨J,O⟩ (fun hg35=>au J)) (bk (bT [(108,_)] J J J ⟨J,O⟩ (fun hg36=>ah dx J)) (bk (bT [(109,_)] J J J ⟨J,O⟩ (fun hg37=>ag kJ J J (ax (k:=0) J J))) (bk (bT [(110,_)] J J J ⟨J,O⟩ (fun hg38=>aT underlying25 J (aJ (k:=3) J))) (bk (bT [(106,_),(111,_)] J J J ⟨J,J,O⟩ (fun hg39=>aQ J J cy)) (ae J (bH J J J) (ae J (df J) aw)))))))))))))))) J J J ?_);refine ap J (fun h40=> ?_) (fun h40=> ?_)
      ·(try simp only [bl]at h40);have q7:k=7∧e.c.me+1<e.F.length:=⟨h40.1,by have:=h40.2;omega⟩
       obtain⟨d2,rfl⟩:∃d2,d=d2+1:=⟨d-1,by have:=hk4;omega⟩
       have hjb:=qR e.c.l (n:=(e.F.length:Int)-(e.c.me:Int)-1) (by omega) s1;obtain⟨jf,hjf⟩:∃jf:Nat,(e.c.me:Int)+1+(gN e.c.l ((e.F.length:Int)-(e.c.me:Int)-1) s1).1=(jf:Int):=⟨((e.c.me:Int)+1+(gN e.c.l ((e.F.length:Int)-(e.c.me:Int)-1) s1).1).toNat,by omega⟩
       have hjl:jf<e.F.length:=by omega
       obtain⟨f,hfj⟩:∃f,e.F[jf]?=some f:=⟨_,bQ hjl⟩
       refine bC (X:=Tf×Gs×Nat) (fun y=>y.1∈e.F∧∃j,gN e.c.l ((e.c.fs.length:Int)-(e.c.me:Int)-1) s1=(j,y.2.1)∧e.c.fs[((e.c.me:Int)+1+j).toNat]?=some (y.1.name,y.1.ps)) (fun y=> [(0,Pt e.g),(1,I6 (((d2+1:Nat):Int)+1)),(4,Pt b4),(6,Pt y.2.2)]) (fun y=> [(0,bj e.g 102 (ix e.vl (y.2.1) e.vn e.c.me e.vf)),(4,bj b4 61 (eH (.mk 0 0 oNil bc []))),(6,bj y.2.2 66 (jI y.1))]) (fun y=> [(0,sl 1 eI (sv e.vl) e.c.l),(1,sl 1 eS (sv e.vn) s.names),(2,dO e.vf e.F),(3,sl 3 jI (sv e.vf) e.F)]) ?_ (fun y hy=> ?_)
       ·refine bX [114,115,116,117,118,119,120,121,122,123,124,125,126,127,128,129,130,131,132,133,134,135,136,137,138,6] _ J (hQ (V:= [(0,114,_),(1,115,_),(2,116,_),(3,117,_),(4,118,_),(5,119,_),(6,120,_),(7,121,_),(8,122,_),(9,123,_),(10,124,_),(11,125,_),(12,126,_),(13,127,_),(14,128,_),(15,129,_),(16,130,_),(17,131,_),(18,132,_),(19,133,_),(20,134,_)]) [0,1,2,3,4,5,6,7,8,9,10,11,12,13,14,15,16,17,18,19,20] J J (aF J J (ae J (au J) (ae J (ah dx J) (ae J (ag kJ J J (ax (k:=0) J J)) (aF J J (ae J (au J) (ae J (ah fe J) (ae J (ag t3 J J (ax (k:=0) J J)) (ae J (aQ J J aK) (aF J J (aF J J (ae J (au J) (ae J (ah dx J) (ae J (ag kJ J J (ax (k:=0) J J)) (ae J (aT underlying25 J (aJ (k:=3) J)) (aF J J (ae J (au J) (ae J (ah fe J) (ae J (ag t3 J J (ax (k:=0) J J)) (ae J (aQ J J eG) (ae J (aQ J J eG) aw))))))))))))))))))))) J [21,25] J J (ea (fy 21 [21,20,19,18,17,16,15,14,13,12,11,10,9] [22,23,24] (fun _=> [(22,136,_),(23,137,_),(24,138,_)]) J J J J J J J J J (fun _ _=>J) J (b_ (xs:= [.tmp 123,.tmp 134]) (cN e.g e.vl e.vn e.vf e.c he.hl he.hlo (((e.F.length:Int)-(e.c.me:Int)-1)) (by omega) (s1)) lC [0] [(false,0)] [0]) (fun _ _=>bi [22,23,24,0,1,2,3,4,5,6,7,8] 25 [25,21,20,19,18,17,16,15,14,13,12,11,10,9] [] (fun b6=> []) J J (ae J (aQ J J aK) (ae J (aO (j:=jf) underlying25 gC J J (aJ (k:=3) J) hjf hjl) (ae J (aM gC J J J (bF (aJ (k:=3) J) (by intro _;rfl) hfj (by rfl))) (aF J J (ae J (au J) (ae J (ah dx J) (ae J (ag kJ J J (ax (k:=0) J J)) (aF J J (ae J (au J) (ae J (ah fe J) (ae J (ag t3 J J (ax (k:=0) J J)) (ae J (aQ J J aK) aw)))))))))))) J J J J J J J J J J J (fun _ _=>J) J (gh gC J) (fun b6 _=>bP [22,23,24,0,1,2,3,4,5,6,7,8] 26 [26,25,24,23,22,21,20,19,18,17,16,15,14,13,12,11,10,9,8,7,6,5,4,3,2,1,0] [] (fun _=> []) J J (ae J (aQ J J aK) (ae J (aO (j:=jf) underlying25 gC J J (aJ (k:=3) J) hjf hjl) (ae J (aM gC J J J (bF (aJ (k:=3) J) (by intro _;rfl) hfj (by rfl))) (aF J J (ae J (au J) (ae J (ah dx J) (ae J (ag kJ J J (ax (k:=0) J J)) (aF J J (ae J (au J) (ae J (ah fe J) (ae J (ag t3 J J (ax (k:=0) J J)) (ae J (aQ J J aK) aw)))))))))))) J J J J J J J J J (fun _ _=>J) J (bZ (k:=6) gC J J J J J J) (fun _ _=>bA [] J J aw J J J ?_)))) (ea (fy 25 [25] [] (fun b6=> []) J J J J J J J J J (fun _ _=>J) J (gh gC J) (fun b6 _=>bi [0,1,2,3,4,5,6,7,8,9,10,11,12,13,14,15,16,17,18,19,20] 21 [25,21,20,19,18,17,16,15,14,13,12,11,10,9] [22,23,24] (fun _=> [(22,136,_),(23,137,_),(24,138,_)]) J J (aF J J (ae J (au J) (ae J (ah dx J) (ae J (ag kJ J J (ax (k:=0) J J)) (aF J J (ae J (au J) (ae J (ah fe J) (ae J (ag t3 J J (ax (k:=0) J J)) (ae J (aQ J J aK) (aF J J (aF J J (ae J (au J) (ae J (ah dx J) (ae J (ag kJ J J (ax (k:=0) J J)) (ae J (aT underlying25 J (aJ (k:=3) J)) (aF J J (ae J (au J) (ae J (ah fe J) (ae J (ag t3 J J (ax (k:=0) J J)) (ae J (aQ J J eG) (ae J (aQ J J eG) aw))))))))))))))))))))) J J J J J J J J J J J (fun _ _=>J) J (b_ (xs:= [.tmp 123,.tmp 134]) (cN e.g e.vl e.vn e.vf e.c he.hl he.hlo (((e.F.length:Int)-(e.c.me:Int)-1)) (by omega) (s1)) lC [0] [(false,0)] [0]) (fun _ _=>bP [22,23,24,0,1,2,3,4,5,6,7,8] 26 [26,25,24,23,22,21,20,19,18,17,16,15,14,13,12,11,10,9,8,7,6,5,4,3,2,1,0] [] (fun _=> []) J J (ae J (aQ J J aK) (ae J (aO (j:=jf) underlying25 gC J J (aJ (k:=3) J) hjf hjl) (ae J (aM gC J J J (bF (aJ (k:=3) J) (by intro _;rfl) hfj (by rfl))) (aF J J (ae J (au J) (ae J (ah dx J) (ae J (ag kJ J J (ax (k:=0) J J)) (aF J J (ae J (au J) (ae J (ah fe J) (ae J (ag t3 J J (ax (k:=0) J J)) (ae J (aQ J J aK) aw)))))))))))) J J J J J J J J J (fun _ _=>J) J (bZ (k:=6) gC J J J J J J) (fun _ _=>bA [] J J aw J J J ?_)))) ld)))
        ·refine aG (f,(gN e.c.l ((e.F.length:Int)-(e.c.me:Int)-1) s1).2,b6) ⟨bV hfj,_,by rw [hfl],by rw [he.fs,List.getElem?_map,show((e.c.me:Int)+1+(gN e.c.l ((e.F.length:Int)-(e.c.me:Int)-1) s1).1).toNat=jf by omega,hfj];rfl⟩ J J J
        ·refine aG (f,(gN e.c.l ((e.F.length:Int)-(e.c.me:Int)-1) s1).2,b6) ⟨bV hfj,_,by rw [hfl],by rw [he.fs,List.getElem?_map,show((e.c.me:Int)+1+(gN e.c.l ((e.F.length:Int)-(e.c.me:Int)-1) s1).1).toNat=jf by omega,hfj];rfl⟩ J J J
       ·obtain⟨f,s2,b6⟩:=y;obtain⟨hfm,jn,hjn,hfx⟩:=hy;dsimp only at hfm hjn hfx ⊢;have hn2:s2.names=s.names:=(bN hjn).1.trans hn1;refine aq (ad J (aP (aM gC J J J (bp (k:=6) J)) (ad J (dI (xs:= [.tmp 139,.tmp 140,.tmp 141]) (ihC _ J s2 f hfm (by rw [hn2];exact hn)) QT [0] [(false,0),(false,1),(false,2)] [0,142] J J J J J (by rw [←hn2];rfl) J J (fun _ _=>J) (fun _ _ _=>J) J (fun xt hxt=>av (k:=4) ci J J J J J J (aa (ay ?_)))))));obtain⟨ps,hps,hpe⟩:=hxt;refine aN (xt.1,xt.2) (by rw [hpe];exact .call (q7.1▸hk) (by rw [hfl];exact q7.2) hjn hfx hps) J (ce (bw ci J J J (bp (k:=4) J))) J [0,142] [] J J J
      ·(try simp only [bl]at h40);have q7:¬(k=7∧e.c.me+1<e.F.length):=by rintro ⟨h1,h2⟩;rcases h40 with h|h;exact h h1;omega
       refine aq (ad J (ar J J fA (am J (aa (ap J (fun h41=> ?_) (fun h41=> ?_))))))
       ·(try simp only [bl]at h41);have q8:7<k:=h41;obtain⟨d2,rfl⟩:∃d2,d=d2+1:=⟨d-1,by have:=hk4;omega⟩
        refine aq (cI eS biL (parts:= [(0,.const (Sg (ByteArray.mk #[43]))),(1,.const (Sg (ByteArray.mk #[45]))),(2,.const (Sg (ByteArray.mk #[42]))),(3,.const (Sg (ByteArray.mk #[47]))),(4,.const (Sg (ByteArray.mk #[37]))),(5,.const (Sg (ByteArray.mk #[38]))),(6,.const (Sg (ByteArray.mk #[124]))),(7,.const (Sg (ByteArray.mk #[94]))),(8,.const (Sg (ByteArray.mk #[60,60]))),(9,.const (Sg (ByteArray.mk #[62,62]))),(10,.const (Sg (ByteArray.mk #[60]))),(11,.const (Sg (ByteArray.mk #[60,61]))),(12,.const (Sg (ByteArray.mk #[62]))),(13,.const (Sg (ByteArray.mk #[62,61]))),(14,.const (Sg (ByteArray.mk #[61,61]))),(15,.const (Sg (ByteArray.mk #[33,61])))]) underlying46 t9 J (by decide) (by intro _;rfl) J (by decide) (by decide) J J J J fun v146=>am J (az J (ad J (ad J (ad J (aP (aT underlying46 J (bh (k:=146) J)) (ai (xs:= [.tmp 148,.tmp 150]) (cN e.g e.vl e.vn e.vf e.c he.hl he.hlo (16) (by decide) (s1)) lC [0] [(false,0)] [0] (fun _ _=> ?_))))))));obtain⟨xb,hxb,hjab,hjbb⟩:=tN (l:=e.c.l) (L:=biL) (n:=16) (by decide) J (s1);have hn7:(gN e.c.l 16 s1).2.names=s.names:=(lV e.c.l 16 s1).1.trans hn1;refine aP (aO (j:=(gN e.c.l 16 s1).1.toNat) underlying46 t9 J J (bh (k:=146) J) hjbb hjab) (aP (ag t9 J J (bF (bh (k:=146) J) (by intro _;rfl) hxb (by rfl))) (am J (az J (ad J (ad J ?_)))));refine uE (aQ J J (io (c:=(d2:Int)+1) (by rw [show(((d2+1:Nat):Int)+1)-1=(d2:Int)+1 by omega];exact bM (by omega)))) J ?_;refine dI (xs:= [.tmp 154,.tmp 156]) (ihX _ J ((gN e.c.l 16 s1).2) (by rw [hn7];exact hn)) oR [0] [(false,0),(false,1),(false,2)] [0,157] J J J J J (by rw [←hn7];rfl) J J (fun _ _=>J) (fun _ _ _=>J) J (fun xt hxt=> ?_);have hn8:xt.2.names=s.names:=hxt.keep.1.trans hn7;refine aZ ci J J fun b9=>av (k:=9) ci J J J J J J (aa (be ?_))
        refine bX [158,159,160,161,162,163,164,165] _ J (bi (V:= [(0,158,_),(1,159,_),(2,160,_),(3,161,_),(4,162,_)]) [0,1,2,3,4] 5 [5,4,3,2] [] (fun xu=> []) J J (aF J J (ae J (aM ci J J J (bp (k:=9) J)) (aF J J (aF J J (bk (Jj J (aQ J J (io (c:=(d2:Int)+1) (by rw [show(((d2+1:Nat):Int)+1)-1=(d2:Int)+1 by omega];exact bM (by omega))))) aw))))) J J J J J J J J J J J (fun _ _=>J) J (jq (xs:= [.tmp 160,.tmp 162]) (ihX _ J (xt.2) (by rw [hn8];exact hn)) oR [0] [(false,0),(false,1),(false,2)] [0,163] J J J J J (by rw [←hn8];rfl) J J (fun _ _=>J) (fun _ _ _=>J)) (fun xu hxu=>bi [0,1] 6 [6,5,4,3,2,1] [7] (fun v164=> [(7,165,_)]) J J (aF J J (ae J (aM ci J J J (bp (k:=9) J)) aw)) J J J J J J J J J J J (fun _ _=>J) J (gm eH [xt.1,xu.1] (parts:= [(0,.tmp 159),(1,.tmp 163)]) underlying59 ci J (by decide) (by intro _;rfl) J (by decide) (by decide) J J J) (fun v164 _=>bP [7,0] 8 [8,7,6,5,4,3,2,1,0] [] (fun _=> []) J J (ae J (aX (parts:= [(0,.const (I6 7)),(2,.tmp 158),(3,.tmp 164)]) ci k9 J J) (aF J J aw)) J J J J J J J J J (fun _ _=>J) J (bZ (k:=4) ci J J J J J J) (fun _ _=>bA [] J J aw J J J ?_))));refine ay (bz 50 [164,157,163] J BP (aN (E_ xb v164 xt.1 xu.1,xu.2) (.bin hk q8 J hxb hxt hxu) J (ce (bw ci J J J (bp (k:=4) J))) J [0,50] [] J J J))
       ·(try simp only [bl]at h41);have q8:¬7<k:=by omega
        refine aC (aq (ad J (ai (xs:= [.tmp 166]) (y_ e.g e.vl e.vn e.vf e.c he.hl he.hlo s1) RK [0] [(false,0)] [0] (fun xc hxc=>av (k:=4) ci J J J J J J (aa (ay (bz 50 [] (L:= []) J ly ?_)))))));refine aN (rN xc,(gN e.c.l 15 s1).2) (.con hk hq q3 (fun h=>q4 (.inl h)) (fun h=>q4 (.inr h)) q6 (fun h=>q7 ⟨h.1,by rw [←hfl];exact h.2⟩) q8 J hxc) J (ce (bw ci J J J (bp (k:=4) J))) J [0,50] [] J J J
def mb(l:List Ty):Asn:=⟨fun w F=>TysIn w F l,fun h hs=>TysIn.mono (fun _ hb=>hb) hs _ h⟩
theorem jS{w:World}{F:Nat→Prop}:∀{l:List Ty}{t:Ty},TysIn w F l→TyIn w F t→TysIn w F (l++ [t])
 | [],t,_,ht=>⟨ht,trivial⟩
 | a::r,t,h,ht=>⟨h.1,jS h.2 ht⟩
theorem ma{w:World}{F G:Nat→Prop}{l:List Ty}(h:(mb l).pred w G)(hs:∀b,G b→F b):TysIn w F l:=TysIn.mono hs (fun _ _=>rfl) l h
theorem Spec.roAll{P:Program}{n:Nat}{vs:List Value}{L R0 R1:List Asn}{X:Type}{φ:X→Prop}{v:X→Value}{L' R':X→List Asn}(h:Spec P n vs L R0 φ v L' R')(hAB:∀(i:Nat)(A:Asn),R0[i]?=some A→∃B:Asn,R1[i]?=some B∧∀w G,B.pred w G→A.pred w G):Spec P n vs L R1 φ v L' R':=fun w M H ⟨F,hF⟩=>
 h w M H ⟨F,hF.touch,hF.has,hF.lt,hF.mine,hF.apart,fun k C hk=>by
  obtain⟨B,h1,h2⟩:=hAB k C hk;obtain⟨G,g1,g2⟩:=hF.ro k B h1;exact⟨G,h2 _ _ g1,g2⟩⟩
theorem Cg{A B C D:Asn}(h:∀w G,D.pred w G→B.pred w G):∀(i:Nat)(X:Asn),([A,B,C]:List Asn)[i]?=some X→∃Y,([A,D,C]:List Asn)[i]?=some Y∧∀w G,Y.pred w G→X.pred w G
 | 0,X,hX=>⟨A,rfl,by cases hX;exact fun _ _ h=>h⟩
 | 1,X,hX=>⟨D,rfl,by cases hX;exact h⟩
 | 2,X,hX=>⟨C,rfl,by cases hX;exact fun _ _ h=>h⟩
 | i+3,X,hX=>by simp at hX
theorem AV{e:Ge}(he:Gfine e):∀d,d≤10→R8 e d∧U5 e d
 | 0,hd=>by
  have hx:R8 e 0:=fun s hn=>tG e he 0 hd (fun k h=>by omega) (fun k h=>by omega) s hn
  exact⟨hx,fun s f hf hn=>tI e he 0 hd hx s f hf hn⟩
 | d+1,hd=>by
  have ih:=AV he d (by omega);have hx:R8 e (d+1):=fun s hn=>tG e he (d+1) hd (fun k h=>(show d=k by omega)▸ih.1) (fun k h=>(show d=k by omega)▸ih.2) s hn
  exact⟨hx,fun s f hf hn=>tI e he (d+1) hd hx s f hf hn⟩
def Ge.at(e:Ge)(v:SV):Ge:={e with vn:=v}
theorem Gfine.at{e:Ge}(he:Gfine e)(v:SV):Gfine (e.at v):=⟨he.hl,he.hlo,he.fs,he.fl,he.me,he.ps⟩
theorem mU{e:Ge}(he:Gfine e)(d:Nat)(hd:d≤10)(v:SV)(s:Gs)(hn:s.names.length≤1000):Spec prog 79 [Pt e.g,I6 ((d:Int)+1)] [bj e.g 102 (ix e.vl s v e.c.me e.vf)] [sl 1 eI (sv e.vl) e.c.l,own 9 1 eS (sv v) s.names,dO e.vf e.F] (X:=Tx×Gs) (fun x=>GXr e.c d s (iD x.1) x.2) (fun x=>xV x.1) (fun x=> [bj e.g 102 (ix e.vl x.2 v e.c.me e.vf),ck x.1.v x.1.kids]) (fun _=> []):=
 Spec.roAll ((AV (he.at v) d hd).1 s hn) (Cg cf)
theorem NP{e:Ge}(he:Gfine e)(d:Nat)(hd:d≤10)(v:SV)(s:Gs)(f:Tf)(hf:f∈e.F)(hn:s.names.length≤1000):Spec prog 80 [Pt e.g,IW f,I6 ((d:Int)+2)] [bj e.g 102 (ix e.vl s v e.c.me e.vf)] [sl 1 eI (sv e.vl) e.c.l,own 9 1 eS (sv v) s.names,dO e.vf e.F] (X:=Tx×Gs) (fun x=>GCr e.c d (f.name,f.ps) s (iD x.1) x.2) (fun x=>xV x.1) (fun x=> [bj e.g 102 (ix e.vl x.2 v e.c.me e.vf),ck x.1.v x.1.kids]) (fun _=> []):=
 Spec.roAll ((AV (he.at v) d hd).2 s f hf hn) (Cg cf)
structure GInv(s:Gs):Prop where
 v0:0≤s.vars
 v8:s.vars≤8
 nm:(s.names.length:Int)≤100+s.vars
 lf:s.left≤1000
theorem GInv.same{s s':Gs}(h:GInv s)(k:s'.names=s.names∧s'.left=s.left∧s'.vars=s.vars):GInv s':=⟨by rw [k.2.2];exact h.v0,by rw [k.2.2];exact h.v8,by rw [k.1,k.2.2];exact h.nm,by rw [k.2.1];exact h.lf⟩
theorem GInv.n{s:Gs}(h:GInv s):s.names.length≤1000:=by have:=h.nm;have:=h.v8;omega
theorem GCr.keep{c:Gc}{d:Nat}{f:Ba×List Ba}{s s':Gs}{p:Px}(h:GCr c d f s p s'):s'.names=s.names∧s'.left=s.left∧s'.vars=s.vars:=by
 obtain⟨ps,h1,_⟩:=h;exact h1.keep
theorem eb{a b c:Gs}(h:b.names=a.names∧b.left=a.left∧b.vars=a.vars)(k:c.names=b.names∧c.left=b.left∧c.vars=b.vars):c.names=a.names∧c.left=a.left∧c.vars=a.vars:=⟨k.1.trans h.1,k.2.1.trans h.2.1,k.2.2.trans h.2.2⟩
theorem na{l:List Ty}{k:Int}{nm:Ba}{v:SV}{t:Tx}(w:World)(F:Nat→Prop)(h:AllIn w F [mb l,own 61 4 eH (sv v) [t],ck t.v t.kids]):(mb (l++ [.mk k nm v [t] bc [] bc []])).pred w F:=by
 obtain⟨⟨_,a0,b0⟩,⟨_,a1,b1⟩,⟨_,a2,b2⟩,_⟩:=h;have hny:SlIn' w F 5 fK (sv bc) []∧TysIn w F []:=⟨i9,O⟩
 exact jS (ma a0 b0) ⟨⟨dm a1 b1,lm a2 b2,O⟩,hny,hny⟩
theorem I1{l:List Ty}{k:Int}{nm:Ba}{v:SV}{t u:Tx}(w:World)(F:Nat→Prop)(h:AllIn w F [mb l,own 61 4 eH (sv v) [t,u],ck t.v t.kids,ck u.v u.kids]):(mb (l++ [.mk k nm v [t,u] bc [] bc []])).pred w F:=by
 obtain⟨⟨_,a0,b0⟩,⟨_,a1,b1⟩,⟨_,a2,b2⟩,⟨_,a3,b3⟩,_⟩:=h;have hny:SlIn' w F 5 fK (sv bc) []∧TysIn w F []:=⟨i9,O⟩
 exact jS (ma a0 b0) ⟨⟨dm a1 b1,lm a2 b2,lm a3 b3,O⟩,hny,hny⟩
theorem Fd{l a b:List Ty}{v va vb:SV}{t:Tx}(w:World)(F:Nat→Prop)(h:AllIn w F [mb l,own 61 4 eH (sv v) [t],ck t.v t.kids,own 64 5 fK (sv va) a,mb a,own 64 5 fK (sv vb) b,mb b]):(mb (l++ [.mk 4 oNil v [t] va a vb b])).pred w F:=by
 obtain⟨⟨_,a0,b0⟩,⟨_,a1,b1⟩,⟨_,a2,b2⟩,⟨_,a3,b3⟩,⟨_,a4,b4⟩,⟨_,a5,b5⟩,⟨_,a6,b6⟩,_⟩:=h;exact jS (ma a0 b0) ⟨⟨dm a1 b1,lm a2 b2,O⟩,⟨dm a3 b3,ma a4 b4⟩,⟨dm a5 b5,ma a6 b6⟩⟩
theorem Fe{l a:List Ty}{v va:SV}{t:Tx}(w:World)(F:Nat→Prop)(h:AllIn w F [mb l,own 61 4 eH (sv v) [t],ck t.v t.kids,own 64 5 fK (sv va) a,mb a]):(mb (l++ [.mk 4 oNil v [t] va a bc []])).pred w F:=by
 obtain⟨⟨_,a0,b0⟩,⟨_,a1,b1⟩,⟨_,a2,b2⟩,⟨_,a3,b3⟩,⟨_,a4,b4⟩,_⟩:=h;exact jS (ma a0 b0) ⟨⟨dm a1 b1,lm a2 b2,O⟩,⟨dm a3 b3,ma a4 b4⟩,⟨i9,O⟩⟩
abbrev wo(x:Ba)(v:SV)(n:Int):Ty:= .mk 1 x v [rN n] bc [] bc []
abbrev md(x:Ba)(v u:SV):Ty:= .mk 2 x v [E_ dU u (mF x) (rN 1)] bc [] bc []
abbrev oV(x:Ba)(v vb:SV)(b:List Ty):Ty:= .mk 5 oNil v [mF x] vb b bc []
theorem I0{l a:List Ty}{x:Ba}{v0 v1 v2 v3 vb:SV}{n:Int}(w:World)(F:Nat→Prop)(h:AllIn w F [mb l,own 61 4 eH (sv v0) [rN n],own 61 4 eH (sv v1) [mF x],mb a,own 61 4 eH (sv v2) [mF x,rN 1],own 61 4 eH (sv v3) [E_ dU v2 (mF x) (rN 1)],own 64 5 fK (sv vb) (a++ [md x v3 v2])]):
  (mb (l++ [wo x v0 n,oV x v1 vb (a++ [md x v3 v2])])).pred w F:=by
 obtain⟨⟨_,a0,b0⟩,⟨_,a1,b1⟩,⟨_,a2,b2⟩,⟨_,a3,b3⟩,⟨_,a4,b4⟩,⟨_,a5,b5⟩,⟨_,a6,b6⟩,_⟩:=h;have hny:SlIn' w F 5 fK (sv bc) []∧TysIn w F []:=⟨i9,O⟩
 have hx:TxIn w F (mF x):=⟨i9,O⟩
 have hn:∀n,TxIn w F (rN n):=fun _=>⟨i9,O⟩
 have hb:TxIn w F (E_ dU v2 (mF x) (rN 1)):=⟨dm a4 b4,hx,hn 1,O⟩
 have h1:TyIn w F (wo x v0 n):=⟨⟨dm a1 b1,hn n,O⟩,hny,hny⟩
 have h2:TyIn w F (md x v3 v2):=⟨⟨dm a5 b5,hb,O⟩,hny,hny⟩
 have h3:TyIn w F (oV x v1 vb (a++ [md x v3 v2])):=⟨⟨dm a2 b2,hx,O⟩,⟨dm a6 b6,jS (ma a3 b3) h2⟩,hny⟩
 have:=jS (jS (ma a0 b0) h1) h3;rw [List.append_assoc]at this;exact this
theorem jj{c:Gc}{lev many i:Nat}{s s1 s0 s':Gs}{k:Int}{out o:List Py}(hi:i<many)(hleft:0<s.left)(hk:gN c.l 12 {s with left:=s.left-1}=(k,s1))(h1:G1r c lev k s1 o s')(hinv:∀r s2,GLr c lev (many-i) s r s2→GLr c lev many s0 (out++r) s2):∀r s2,GLr c lev (many-(i+1)) s' r s2→GLr c lev many s0 ((out++o)++r) s2:=fun r s2 h=>by
 rw [List.append_assoc];refine hinv _ _ ?_;rw [show many-i=(many-(i+1))+1 by omega];exact .step hleft hk h1 h
structure GKp(s s':Gs):Prop where
 inv:GInv s'
 left:s'.left≤s.left
 diff:(s'.names.length:Int)-s'.vars=(s.names.length:Int)-s.vars
theorem GKp.of{s s':Gs}(h:GInv s)(k:s'.names=s.names∧s'.left=s.left∧s'.vars=s.vars):GKp s s':=⟨h.same k,by rw [k.2.1];exact Int.le_refl _,by rw [k.1,k.2.2]⟩
theorem GKp.trans{a b c:Gs}(h:GKp a b)(k:GKp b c):GKp a c:=⟨k.inv,Int.le_trans k.left h.left,k.diff.trans h.diff⟩
theorem GInv.var{s:Gs}(h:GInv s)(hv:s.vars<8):GInv {s with vars:=s.vars+1}:=⟨by show 0≤s.vars+1;have:=h.v0;omega,by show s.vars+1≤8;omega,by show(s.names.length:Int)≤100+(s.vars+1);have:=h.nm;omega,h.lf⟩
theorem GKp.more{s s':Gs}{x:Ba}(h:GInv s)(k:GKp {s with vars:=s.vars+1} s'):GKp s {s' with names:=s'.names++ [x]}:=by
 have hd:(s'.names.length:Int)-s'.vars=(s.names.length:Int)-(s.vars+1):=k.diff;have hn:=h.nm;have hl:((s'.names++ [x]).length:Int)=(s'.names.length:Int)+1:=by rw [bD,dk];rfl
 exact⟨⟨k.inv.v0,k.inv.v8,by show((s'.names++ [x]).length:Int)≤100+s'.vars;omega,k.inv.lf⟩,k.left,by show((s'.names++ [x]).length:Int)-s'.vars=_;omega⟩
mutual
theorem GYr.inv{c:Gc}:∀{e:Nat}{s s':Gs}{o:List Py},GYr c e s o s'→GInv s→GKp s s'
 | _,_,_,_,.mk hj h,hi=>(GKp.of hi (bN hj)).trans (h.inv (hi.same (bN hj)))
theorem GLr.inv{c:Gc}:∀{e n:Nat}{s s':Gs}{o:List Py},GLr c e n s o s'→GInv s→GKp s s'
 | _,_,_,_,_,.zero,hi=>GKp.of hi ⟨rfl,rfl,rfl⟩
 | _,_,_,_,_,.stop _,hi=>GKp.of hi ⟨rfl,rfl,rfl⟩
 | _,_,s,_,_,.step hl hk h1 h2,hi=>by
  have hi2:GInv {s with left:=s.left-1}:=⟨hi.v0,hi.v8,hi.nm,by show s.left-1≤1000;have:=hi.lf;omega⟩
  have k0:GKp s {s with left:=s.left-1}:=⟨hi2,by show s.left-1≤s.left;omega,rfl⟩
  have k1:=GKp.of hi2 (bN hk);have k2:=h1.inv k1.inv;exact((k0.trans k1).trans k2).trans (h2.inv k2.inv)
theorem G1r.inv{c:Gc}:∀{e:Nat}{k:Int}{s s':Gs}{o:List Py},G1r c e k s o s'→GInv s→GKp s s'
 | _,_,s,_,_,.var _ _ hv hp,hi=>GKp.more hi (GKp.of (hi.var hv) hp.keep)
 | _,_,_,_,_,.set _ hj _ hp,hi=>GKp.of hi (eb (bN hj) hp.keep)
 | _,_,_,_,_,.put _ hp hq,hi=>GKp.of hi (eb hp.keep hq.keep)
 | _,_,_,_,_,.iff1 hp ha hj hb,hi=>by
  have k1:=GKp.of hi hp.keep;have k2:=ha.inv k1.inv;have k3:=GKp.of k2.inv (bN hj);exact((k1.trans k2).trans k3).trans (hb.inv k3.inv)
 | _,_,_,_,_,.iff0 hp ha hj _,hi=>by
  have k1:=GKp.of hi hp.keep;have k2:=ha.inv k1.inv;exact(k1.trans k2).trans (GKp.of k2.inv (bN hj))
 | _,_,s,_,_,.whi _ hv hj ha,hi=>by
  have k1:=GKp.of (hi.var hv) (bN hj);exact GKp.more hi (k1.trans (ha.inv k1.inv))
 | _,_,_,_,_,.ret hj hp,hi=>GKp.of hi (eb (bN hj) hp.keep)
 | _,_,s,_,_,.dos (s2:=s2) (s3:=s3) _ hj hj2 hf hp,hi=>by
  have k1:s3.names=s2.names∧s3.left=s2.left∧s3.vars=s2.vars:=by
   rcases hf with⟨_,_,h⟩|⟨_,j3,h,_⟩
   ·rw [h];exact⟨J,J,J⟩
   ·exact bN h
  exact GKp.of hi (eb (eb (eb (bN hj) (bN hj2)) k1) hp.keep)
 | _,_,s,_,_,.out (s1:=s1) _ _ _ _ _ _ h8 _ hp,hi=>by
  have k1:s1.names=s.names∧s1.left=s.left∧s1.vars=s.vars:=by
   rcases h8 with⟨_,h⟩|⟨_,j,_,h⟩
   ·rw [h];exact⟨J,J,J⟩
   ·exact bN h
  exact GKp.of hi (eb k1 hp.keep)
end
theorem N4{x:Ba}{v0 v1 vb v2 v3:SV}{n:Int}{a:List Ty}:dV [wo x v0 n,oV x v1 vb (a++ [md x v3 v2])]= [.mk 1 x [pu n] [] [],.mk 5 oNil [jM x] (dV a++ [jN x]) []]:=by
 simp only [dV,C5,gE,iD,fI,pu,jM,jN]
structure Xg where
 i:Nat
 vo:SV
 out:List Ty
 s:Gs
 vn:SV
def U4(e:Ge)(lev:Nat):Prop:=∀(s:Gs)(vn:SV),GInv s→Spec prog 47 [Pt e.g,I6 (4-(lev:Int))] [bj e.g 102 (ix e.vl s vn e.c.me e.vf),own 9 1 eS (sv vn) s.names] [sl 1 eI (sv e.vl) e.c.l,dO e.vf e.F] (X:=SV×List Ty×Gs×SV) (fun x=>GYr e.c lev s (dV x.2.1) x.2.2.1∧x.2.1.length≤10) (fun x=>sv x.1)
 (fun x=> [bj e.g 102 (ix e.vl x.2.2.1 x.2.2.2 e.c.me e.vf),own 9 1 eS (sv x.2.2.2) x.2.2.1.names,own 64 5 fK (sv x.1) x.2.1,mb x.2.1]) (fun _=> [])
theorem zh{v:Int}(h0:0≤v)(h8:v<8):∃x,freshL[v.toNat]?=some x∧v.toNat<freshL.length∧v=(v.toNat:Int):=by
 have h:v.toNat<freshL.length:=by show _<8;omega
 exact⟨_,bQ h,h,by omega⟩
theorem rC(e:Ge)(he:Gfine e)(lev:Nat)(hlv:lev≤3)(ih:∀k,lev=k+1→U4 e k)(s0:Gs)(vn0:SV)(hi0:GInv s0):
  Spec prog 47 [Pt e.g,I6 (4-(lev:Int))] [bj e.g 102 (ix e.vl (s0) vn0 e.c.me e.vf),own 9 1 eS (sv vn0) s0.names] [sl 1 eI (sv e.vl) e.c.l,dO e.vf e.F] (X:=SV×List Ty×Gs×SV) (fun x=>GYr e.c lev s0 (dV x.2.1) x.2.2.1∧x.2.1.length≤10) (fun x=>sv x.1) (fun x=> [bj e.g 102 (ix e.vl (x.2.2.1) x.2.2.2 e.c.me e.vf),own 9 1 eS (sv x.2.2.2) x.2.2.1.names,own 64 5 fK (sv x.1) x.2.1,mb x.2.1]) (fun _=> []):=by
 refine aI func47 J ntmps47 J fun w0 M H=>a_ 1 2 J (fun _ G h _=>⟨G,h,fun _ hb=>hb⟩) (a_ 2 3 J lL ?_)
 have hfl:e.c.fs.length=e.F.length:=by rw [he.fs,List.length_map]
 have hflb:=he.fl;have hmeb:=he.me;obtain⟨j0,sm,hj0⟩:∃j0 sm,gN e.c.l 5 s0=(j0,sm):=⟨_,_,J⟩
 have hjb0:=pY (by decide) hj0;have him:GInv sm:=hi0.same (bN hj0);obtain⟨many,hmany⟩:∃many:Nat,(1:Int)+j0=(many:Int):=⟨(1+j0).toNat,by omega⟩
 refine aq (am J (az J (am J (az J (ad J (ai (xs:= [.tmp 19,.const (I6 5)]) (cN e.g e.vl vn0 e.vf e.c he.hl he.hlo 5 (by decide) s0) lC [0] [(false,0)] [0] (fun _ _=> ?_)))))));rw [hj0];dsimp only;refine ar J J aK ?_;rw [hmany];refine am J (aa (aU (am J (aa (aA (eo 60 (α:=Ty) (S:=64) (s:=5) (enc:=fK) (bz 40 [] (L:= []) (C:=mb []) J (fun _ _ _=>O) (bJ (X:=Xg) (fun x=>x.i≤many∧GInv x.s∧x.out.length≤2*x.i∧∀r s2,GLr e.c lev (many-x.i) x.s r s2→GLr e.c lev many sm (dV x.out++r) s2) (fun x=> [(0,Pt e.g),(1,I6 (4-(lev:Int))),(5,sv x.vo),(6,I6 (many:Int)),(7,I6 (x.i:Int))]) (fun x=> [(0,bj e.g 102 (ix e.vl (x.s) x.vn e.c.me e.vf)),(1,own 9 1 eS (sv x.vn) x.s.names),(60,own 64 5 fK (sv x.vo) x.out),(40,mb x.out)]) (fun x=> [(0,sl 1 eI (sv e.vl) e.c.l),(2,dO e.vf e.F),(3,sl 3 jI (sv e.vf) e.F)]) (fun x=>many-x.i) ⟨0,bc,[],sm,vn0⟩ ⟨bn _,him,bU _,fun r s2 h=>h⟩ J (by dsimp only;rw [show sm.names=s0.names from(bN hj0).1];rfl) J (fun x hx0=> ?_)))))))));obtain⟨i,vo,out,s,vn⟩:=x;obtain⟨n1,n2,n3,n4⟩:=hx0;dsimp only at n1 n2 n3 n4 ⊢;refine aU (ad J (ad J (ar J J cy (ad J (aH [] J J O (fun hg1=>aV J) J (aH [(26,_)] J J ⟨J,O⟩ (fun hg2=>au J) J (aH [(26,_),(27,_)] J J ⟨J,J,O⟩ (fun hg3=>ah sJ J) J (aH [(26,_),(27,_),(28,_)] J J ⟨J,J,J,O⟩ (fun hg4=>ag t3 J J (ax (k:=0) J J)) J (aH [(26,_),(27,_),(28,_),(29,_)] J J ⟨J,J,J,J,O⟩ (fun hg5=>aQ J J fA) J (aP (bH J J J) (aa (ap J (fun h6=> ?_) (fun h6=> ?_)))))))))))))
 ·(try simp only [bl]at h6);have hi2:i<many:=by omega
  have hleft:0<s.left:=h6.2;obtain⟨k,sa,hk⟩:∃a b,gN e.c.l 12 {s with left:=s.left-1}=(a,b):=⟨_,_,J⟩
  have hkb:=pY (by decide) hk;have hna:sa.names=s.names:=(bN hk).1;have hia:GInv sa:=GInv.same (s:={s with left:=s.left-1}) ⟨n2.v0,n2.v8,n2.nm,by show s.left-1≤1000;have:=n2.lf;omega⟩ (bN hk);have hin:=hia.n;have hv0:=hia.v0;have hv8:=hia.v8;have hinm:sa.names.length≤1000:=hin;rw [←hna];refine aC (be (aA (aq (ad J (bS J (aD sJ J (aR 0 t3 J J J J (ar J J (io (by exact q_ (by omega) (by have:=n2.lf;omega))) (bS J (aD sJ J (aB (k:=0) t3 J J J J J J J J (az J (ad J (ai (xs:= [.tmp 41,.const (I6 12)]) (cN e.g e.vl vn e.vf e.c he.hl he.hlo (12) (by decide) ({s with left:=s.left-1})) lC [0] [(false,0)] [0] (fun _ _=> ?_)))))))))))))));rw [hk];dsimp only;refine am J (az J (cI eS freshL (parts:= [(0,.const (Sg (ByteArray.mk #[97]))),(1,.const (Sg (ByteArray.mk #[98]))),(2,.const (Sg (ByteArray.mk #[99]))),(3,.const (Sg (ByteArray.mk #[100]))),(4,.const (Sg (ByteArray.mk #[101]))),(5,.const (Sg (ByteArray.mk #[120,49]))),(6,.const (Sg (ByteArray.mk #[121,50]))),(7,.const (Sg (ByteArray.mk #[108,111,111,112])))]) underlying46 t9 J (by decide) (by intro _;rfl) J (by decide) (by decide) J J J J fun v43=>am J (aa (aA (aq (ad J (ar J J cy (ad J (aH [] J J O (fun hg7=>aV J) J (aH [(55,_)] J J ⟨J,O⟩ (fun hg8=>au J) J (aH [(55,_),(56,_)] J J ⟨J,J,O⟩ (fun hg9=>ah jX J) J (aH [(55,_),(56,_),(57,_)] J J ⟨J,J,J,O⟩ (fun hg10=>ag t3 J J (ax (k:=0) J J)) J (aH [(55,_),(56,_),(57,_),(58,_)] J J ⟨J,J,J,J,O⟩ (fun hg11=>aV J) J (aH [(55,_),(56,_),(57,_),(58,_),(59,_)] J J ⟨J,J,J,J,J,O⟩ (fun hg12=>aT underlying46 J (bh (k:=43) J)) J (aH [(55,_),(56,_),(57,_),(58,_),(59,_),(60,_)] J J ⟨J,J,J,J,J,J,O⟩ (fun hg13=>aQ J J cy) J ?_)))))))))))))));refine aP (bH J J J) (am J (aa (ap J (fun h14=> ?_) (fun h14=> ?_))))
  ·(try simp only [bl]at h14);have h2:k<3∧sa.vars<8:=⟨h14.1,h14.2⟩
   obtain⟨nm,hnm,hnm1,hnm2⟩:=zh hia.v0 h2.2;refine aq (ad J (ad J (bS J (aD jX J (aR 0 t3 J J J J (aP (aO (j:=sa.vars.toNat) underlying46 t9 J J (bh (k:=43) J) hnm2 hnm1) (aP (ag t9 J J (bF (bh (k:=43) J) (by intro _;rfl) hnm (by rfl))) (am J (az J (ad J (bS J (aD jX J (aR 0 t3 J J J J (ar J J aK (bS J (aD jX J ?_))))))))))))))));refine aB (k:=0) t3 J J J J J J J J (az J (ad J (dI (xs:= [.tmp 77,.const (I6 4)]) (mU he 3 (by decide) vn ({sa with vars:=sa.vars+1}) (by rw [show({sa with vars:=sa.vars+1}:Gs).names=sa.names from J];exact hin)) oR [0] [(false,0),(true,1),(false,2)] [0,78] J J J J J (by rw [show({sa with vars:=sa.vars+1}:Gs).names=sa.names from J];rfl) J J (fun _ _=>J) (fun _ _ _=>J) J (fun⟨t1,s2⟩ ht1=> ?_))));dsimp only at ht1 ⊢;refine aZ ci J J fun b11=>av (k:=11) ci J J J J J J (az J (ad J (ad J (aP (aM ci J J J (bp (k:=11) J)) (bq eH t1 underlying59 ci J (by decide) (by decide) J J J J fun v82=>aP (aX (parts:= [(0,.const (I6 1)),(1,.tmp 80),(2,.tmp 82)]) dR mn J J) (bq fK (.mk 1 nm v82 [t1] bc [] bc []) underlying62 dR J (by decide) (by decide) J J J J fun v84=>dy 60 underlying62 dR J (by decide) (fun _=>J) (fun _=>J) J J J (bh (k:=84) J) (by simp only [bD,aY,aS];omega) (by unfold maxLen;simp only [bD,aY,aS];omega) J fun v85=>am J (aa (ak (ad J (ad J (bS J (aD gB J (aR 0 jT J J J J ?_)))))))))))))
   refine ad J (bq eS nm underlying46 t9 J (by decide) (by decide) J J J J fun v92=>dy 1 underlying46 t9 J (by decide) (fun _=>J) (fun _=>J) J J J (bh (k:=92) J) (by have:=hinm;simp only [dk];omega) (by unfold maxLen;have:=hinm;simp only [dk];omega) J fun v93=>bS J (aD gB J (aB (k:=0) jT J J J J J J J J (aa (ak (ad J (ar J J aK (am J (aa ?_)))))))));have hg1:G1r e.c (lev) k sa (dV [.mk 1 nm v82 [t1] bc [] bc []]) ({s2 with names:=s2.names++ [nm]}):= .var h2.1 hnm h2.2 ht1;have hkp:=hg1.inv hia;refine bz 40 [40,82,78] (C:=mb (out++ [.mk 1 nm v82 [t1] bc [] bc []])) J na ?_;refine aG ⟨i+1,v85,out++ [.mk 1 nm v82 [t1] bc [] bc []],{s2 with names:=s2.names++ [nm]},v93⟩ ⟨⟨by dsimp only;omega,hkp.inv,by dsimp only;rw [bD];simp only [aY,aS];omega,by dsimp only;rw [fI];exact jj hi2 hleft hk hg1 n4⟩,by dsimp only;omega⟩ J (by dsimp only;rw [show s2.names=sa.names from ht1.keep.1];rfl) J
  ·(try simp only [bl]at h14);have q2:¬(k<3∧sa.vars<8):=by rintro ⟨a,b⟩;rcases h14 with h|h;exact h a;exact h b
   refine aq (ad J (ar J J bv (ad J (aH [] J J O (fun hg15=>aV J) J (aH [(100,_)] J J ⟨J,O⟩ (fun hg16=>au J) J (aH [(100,_),(101,_)] J J ⟨J,J,O⟩ (fun hg17=>ah gB J) J (aH [(100,_),(101,_),(102,_)] J J ⟨J,J,J,O⟩ (fun hg18=>ag jT J J (ax (k:=0) J J)) J (aH [(100,_),(101,_),(102,_),(103,_)] J J ⟨J,J,J,J,O⟩ (fun hg19=>aT underlying46 J (bh (k:=1) J)) J (aH [(100,_),(101,_),(102,_),(103,_),(104,_)] J J ⟨J,J,J,J,J,O⟩ (fun hg20=>aQ J J fA) J (aP (bH J J J) (am J (aa (ap J (fun h21=> ?_) (fun h21=> ?_))))))))))))))
   ·(try simp only [bl]at h21);have h3:k=3∧0<sa.names.length:=⟨h21.1,by have:=h21.2;omega⟩
    obtain⟨x6,hx6,hja6,hjb6⟩:=tN (l:=e.c.l) (L:=sa.names) (n:=(sa.names.length:Int)) (by omega) J sa;refine be ?_;refine bX [107,108,109,110,111,112,113,114,115,116,117,118,119,12] _ J (bi (V:= [(0,107,_),(1,108,_),(2,109,_),(3,110,_),(4,111,_),(5,112,_),(6,113,_),(7,114,_),(8,115,_),(9,116,_)]) [0,1,2,3,4,5,6,7,8,9] 10 [10,9,8,7,6,5,4] [11,12,13] (fun _=> [(11,118,_),(12,119,_),(13,12,_)]) J J (aF J J (ae J (au J) (ae J (ah gB J) (ae J (ag jT J J (ax (k:=0) J J)) (aF J J (aF J J (ae J (au J) (ae J (ah gB J) (ae J (ag jT J J (ax (k:=0) J J)) (ae J (aT underlying46 J (bh (k:=1) J)) aw)))))))))) J J J J J J J J J J J (fun _ _=>J) J (b_ (xs:= [.tmp 111,.tmp 116]) (cN e.g e.vl vn e.vf e.c he.hl he.hlo ((sa.names.length:Int)) (by omega) (sa)) lC [0] [(false,0)] [0]) (fun _ _=>bA [11,12,13,0,1,2,3] J J (ae J (aO (j:=(gN e.c.l (sa.names.length:Int) sa).1.toNat) underlying46 t9 J J (bh (k:=1) J) hjb6 hja6) (ae J (ag t9 J J (bF (bh (k:=1) J) (by intro _;rfl) hx6 (by rfl))) (ae J (df J) (aF J J (ae J (au J) (ae J (ah gB J) (ae J (ag jT J J (ax (k:=0) J J)) aw))))))) J J J ?_));refine ak (ad J (ad J (ad J (dI (xs:= [.tmp 122,.const (I6 4)]) (mU he 3 (by decide) vn ((gN e.c.l (sa.names.length:Int) sa).2) (by rw [(lV e.c.l (sa.names.length:Int) sa).1];exact hin)) oR [0] [(false,0),(true,1),(false,2)] [0,123] J J J J J (by rw [(lV e.c.l (sa.names.length:Int) sa).1];rfl) J J (fun _ _=>J) (fun _ _ _=>J) J (fun⟨t1,s2⟩ ht1=> ?_)))));dsimp only at ht1 ⊢;refine bq eH t1 underlying59 ci J (by decide) (by decide) J J J J fun v124=>aP (aX (parts:= [(0,.const (I6 2)),(1,.tmp 121),(2,.tmp 124)]) dR mn J J) (bq fK (.mk 2 x6 v124 [t1] bc [] bc []) underlying62 dR J (by decide) (by decide) J J J J fun v126=>dy 60 underlying62 dR J (by decide) (fun _=>J) (fun _=>J) J J J (bh (k:=126) J) (by simp only [bD,aY,aS];omega) (by unfold maxLen;simp only [bD,aY,aS];omega) J fun v127=>am J (aa (ak (ad J (ar J J aK (am J (aa ?_)))))))
    have hg1:G1r e.c (lev) k sa (dV [.mk 2 x6 v124 [t1] bc [] bc []]) (s2):=h3.1▸ .set h3.2 J hx6 ht1;have hkp:=hg1.inv hia;refine bz 40 [40,124,123] (C:=mb (out++ [.mk 2 x6 v124 [t1] bc [] bc []])) J na ?_;refine aG ⟨i+1,v127,out++ [.mk 2 x6 v124 [t1] bc [] bc []],s2,vn⟩ ⟨⟨by dsimp only;omega,hkp.inv,by dsimp only;rw [bD];simp only [aY,aS];omega,by dsimp only;rw [fI];exact jj hi2 hleft hk hg1 n4⟩,by dsimp only;omega⟩ J (by dsimp only;rw [show s2.names=sa.names from ht1.keep.1.trans (lV _ _ _).1];rfl) J
   ·(try simp only [bl]at h21);have q3:¬(k=3∧0<sa.names.length):=by rintro ⟨a,b⟩;rcases h21 with h|h;exact h a;omega
    refine aq (ad J (ar J J bv (ad J (aH [] J J O (fun hg22=>aV J) J (aH [(132,_)] J J ⟨J,O⟩ (fun hg23=>aQ J J bv) J (aP (bH J J J) (am J (aa (ap J (fun h24=> ?_) (fun h24=> ?_))))))))))
    ·(try simp only [bl]at h24);have h4:k=4∨k=5:=h24;refine aq (ad J (ai (xs:= [.tmp 135,.const (I6 3)]) (mU he 2 (by decide) vn sa hin) oR [0] [(false,0),(true,1),(false,2)] [0,136] (fun⟨t1,s2⟩ ht1=> ?_)));dsimp only at ht1 ⊢;refine aZ ci J J fun b13=>av (k:=13) ci J J J J J J (aa ?_)
     refine bX [137,138,139,140,141,142,143,144] _ J (bi (V:= [(0,137,_),(1,138,_),(2,139,_)]) [0,1,2] 3 [3,2] [] (fun x2=> []) J J (aF J J (ae J (aM ci J J J (bp (k:=13) J)) (aF J J aw))) J J J J J J J J J J J (fun _ _=>J) J (jq (xs:= [.tmp 139,.const (I6 4)]) (mU he 3 (by decide) vn (s2) (by rw [show s2.names=sa.names from ht1.keep.1];exact hin)) oR [0] [(false,0),(true,1),(false,2)] [0,140] J J J J J (by rw [show s2.names=sa.names from ht1.keep.1];rfl) J J (fun _ _=>J) (fun _ _ _=>J)) (fun x2 ht2=>bi [0,1] 4 [4,3,2,1] [5] (fun v141=> [(5,142,_)]) J J (aF J J (ae J (aM ci J J J (bp (k:=13) J)) aw)) J J J J J J J J J J J (fun _ _=>J) J (gm eH [t1,x2.1] (parts:= [(0,.tmp 138),(1,.tmp 140)]) underlying59 ci J (by decide) (by intro _;rfl) J (by decide) (by decide) J J J) (fun v141 _=>bi [5,0] 6 [6,5,4,3,2,1] [] (fun v143=> []) J J (ae J (aX (parts:= [(0,.const (I6 3)),(2,.tmp 141)]) dR mn J J) (aF J J aw)) J J J J J J J J J J J (fun _ _=>J) J (d9 fK (.mk 3 oNil v141 [t1,x2.1] bc [] bc []) underlying62 dR J (by decide) (by decide) J J J) (fun v143 _=>bi [0] 7 [7,6,5,4,3,2,1,0] [] (fun v144=> []) J J (aF J J aw) J J J J J J J J J J J (fun _ _=>J) J (ja 60 underlying62 dR J (by decide) (fun _=>J) (fun _=>J) J J J (bh (k:=143) J) (by simp only [bD,aY,aS];omega) (by unfold maxLen;simp only [bD,aY,aS];omega)) (fun v144 _=>yi [] 8 [8,7,6,5,4,3,2,1,0] J J aw J J J J J J J J (df J) ?_)))));refine ak (ad J (ar J J aK (am J (aa ?_))));have hg1:G1r e.c (lev) k sa (dV [.mk 3 oNil v141 [t1,x2.1] bc [] bc []]) (x2.2):= .put h4 ht1 ht2;have hkp:=hg1.inv hia;refine bz 40 [40,141,136,140] (C:=mb (out++ [.mk 3 oNil v141 [t1,x2.1] bc [] bc []])) J I1 ?_;refine aG ⟨i+1,v144,out++ [.mk 3 oNil v141 [t1,x2.1] bc [] bc []],x2.2,vn⟩ ⟨⟨by dsimp only;omega,hkp.inv,by dsimp only;rw [bD];simp only [aY,aS];omega,by dsimp only;rw [fI];exact jj hi2 hleft hk hg1 n4⟩,by dsimp only;omega⟩ J (by dsimp only;rw [show x2.2.names=sa.names from ht2.keep.1.trans ht1.keep.1];rfl) J
    ·(try simp only [bl]at h24);have q4:¬k=4∧¬k=5:=h24;refine aq (ad J (ar J J bv (ad J (aH [] J J O (fun hg25=>aV J) J (aH [(149,_)] J J ⟨J,O⟩ (fun hg26=>aQ J J cy) J (aP (bH J J J) (am J (aa (ap J (fun h27=> ?_) (fun h27=> ?_))))))))))
     ·(try simp only [bl]at h27);have h5:k=6:=h27.1;obtain⟨lv,rfl⟩:∃lv,lev=lv+1:=⟨lev-1,by have:=h27.2;omega⟩
      refine aq (ad J (ai (xs:= [.tmp 152,.const (I6 3)]) (mU he 2 (by decide) vn sa hin) oR [0] [(false,0),(true,1),(false,2)] [0,153] (fun⟨t1,s2⟩ ht1=> ?_)));dsimp only at ht1 ⊢;have hi2b:GInv s2:=hia.same ht1.keep;refine bq eH t1 underlying59 ci J (by decide) (by decide) J J J J fun v154=>aP (aX (parts:= [(0,.const (I6 4)),(2,.tmp 154)]) dR mn J J) (aZ dR J J fun b14=>av (k:=14) dR J J J J J J (az J (ad J (ad J ?_))))
      refine uE (aQ J J (co (c:=4-(lv:Int)) (by rw [show 4-((lv+1:Nat):Int)+1=4-(lv:Int) by omega];exact bM (by omega)))) J ?_;refine dI (xs:= [.tmp 156,.tmp 158]) (ih lv J s2 vn hi2b) KF [0,1] [(false,0),(false,2)] [0,1,61,62] J J J J (by rw [show s2.names=sa.names from ht1.keep.1];rfl) J J J (fun _ _=>J) (fun _ _ _=>J) J (fun⟨vb1,l1,s3,vn2⟩ hl1=> ?_);dsimp only at hl1 ⊢;have hi3:GInv s3:=(hl1.1.inv hi2b).inv;obtain⟨j6,s4,hj6⟩:∃a b,gN e.c.l 2 s3=(a,b):=⟨_,_,J⟩
      refine aD gu J (aB (k:=14) kO J J J J J J J J (aa (aU (ad J (ai (xs:= [.tmp 161,.const (I6 2)]) (cN e.g e.vl vn2 e.vf e.c he.hl he.hlo 2 (by decide) s3) lC [0] [(false,0)] [0] (fun _ _=> ?_))))));rw [hj6];dsimp only;refine ar J J bv (aa (ap J (fun h28=> ?_) (fun h28=> ?_)))
      ·(try simp only [bl]at h28);have hj6e:j6=1:=h28;refine ak (ad J (ad J ?_));refine uE (aQ J J (co (c:=4-(lv:Int)) (by rw [show 4-((lv+1:Nat):Int)+1=4-(lv:Int) by omega];exact bM (by omega)))) J ?_;refine dI (xs:= [.tmp 164,.tmp 166]) (ih lv J s4 vn2 (hi3.same (bN hj6))) KF [0,1] [(false,0),(false,2)] [0,1,63,64] J J J J (by rw [show s4.names=s3.names from(bN hj6).1];rfl) J J J (fun _ _=>J) (fun _ _ _=>J) J (fun⟨Mn,l2,s5,vn3⟩ hl2=> ?_);dsimp only at hl2 ⊢;refine aD g9 J (aB (k:=14) kO J J J J J J J J (aa (ak (ad J (aP (aM dR J J J (bp (k:=14) J)) (bq fK (.mk 4 oNil v154 [t1] vb1 l1 Mn l2) underlying62 dR J (by decide) (by decide) J J J J fun v171=>dy 60 underlying62 dR J (by decide) (fun _=>J) (fun _=>J) J J J (bh (k:=171) J) (by simp only [bD,aY,aS];omega) (by unfold maxLen;simp only [bD,aY,aS];omega) J fun v172=>am J (aa (ak (ad J (ar J J aK (am J (aa ?_))))))))))));have hg1:G1r e.c (lv+1) k sa (dV [.mk 4 oNil v154 [t1] vb1 l1 Mn l2]) (s5):=h5▸ .iff1 ht1 hl1.1 (hj6e▸hj6) hl2.1;have hkp:=hg1.inv hia;refine bz 40 [40,154,153,61,62,63,64] (C:=mb (out++ [.mk 4 oNil v154 [t1] vb1 l1 Mn l2])) J Fd ?_;refine aG ⟨i+1,v172,out++ [.mk 4 oNil v154 [t1] vb1 l1 Mn l2],s5,vn3⟩ ⟨⟨by dsimp only;omega,hkp.inv,by dsimp only;rw [bD];simp only [aY,aS];omega,by dsimp only;rw [fI];exact jj hi2 hleft hk hg1 n4⟩,by dsimp only;omega⟩ J J J
      ·(try simp only [bl]at h28);have hj6e:j6≠1:=h28;refine aC (ak (ad J (aP (aM dR J J J (bp (k:=14) J)) (bq fK (.mk 4 oNil v154 [t1] vb1 l1 bc []) underlying62 dR J (by decide) (by decide) J J J J fun v171=>dy 60 underlying62 dR J (by decide) (fun _=>J) (fun _=>J) J J J (bh (k:=171) J) (by simp only [bD,aY,aS];omega) (by unfold maxLen;simp only [bD,aY,aS];omega) J fun v172=>am J (aa (ak (ad J (ar J J aK (am J (aa ?_))))))))));have hg1:G1r e.c (lv+1) k sa (dV [.mk 4 oNil v154 [t1] vb1 l1 bc []]) (s4):=h5▸ .iff0 ht1 hl1.1 hj6 hj6e;have hkp:=hg1.inv hia;refine bz 40 [40,154,153,61,62] (C:=mb (out++ [.mk 4 oNil v154 [t1] vb1 l1 bc []])) J Fe ?_;refine aG ⟨i+1,v172,out++ [.mk 4 oNil v154 [t1] vb1 l1 bc []],s4,vn2⟩ ⟨⟨by dsimp only;omega,hkp.inv,by dsimp only;rw [bD];simp only [aY,aS];omega,by dsimp only;rw [fI];exact jj hi2 hleft hk hg1 n4⟩,by dsimp only;omega⟩ J (by dsimp only;rw [show s4.names=s3.names from(bN hj6).1];rfl) J
     ·(try simp only [bl]at h27);have q5:¬(k=6∧1≤lev):=by rintro ⟨a,b⟩;rcases h27 with h|h;exact h a;omega
      refine aq (ad J (ar J J bv (ad J (aH [] J J O (fun hg29=>aV J) J (aH [(177,_)] J J ⟨J,O⟩ (fun hg30=>aQ J J cy) J (aP (bH J J J) (ad J (aH [] J J O (fun hg31=>aV J) J (aH [(181,_)] J J ⟨J,O⟩ (fun hg32=>au J) J (aH [(181,_),(182,_)] J J ⟨J,J,O⟩ (fun hg33=>ah jX J) J (aH [(181,_),(182,_),(183,_)] J J ⟨J,J,J,O⟩ (fun hg34=>ag t3 J J (ax (k:=0) J J)) J (aH [(181,_),(182,_),(183,_),(184,_)] J J ⟨J,J,J,J,O⟩ (fun hg35=>aV J) J (aH [(181,_),(182,_),(183,_),(184,_),(185,_)] J J ⟨J,J,J,J,J,O⟩ (fun hg36=>aT underlying46 J (bh (k:=43) J)) J (aH [(181,_),(182,_),(183,_),(184,_),(185,_),(186,_)] J J ⟨J,J,J,J,J,J,O⟩ (fun hg37=>aQ J J cy) J (aP (bH J J J) (am J (aa (ap J (fun h38=> ?_) (fun h38=> ?_)))))))))))))))))))
      ·(try simp only [bl]at h38);have h7:k=7∧sa.vars<8:=⟨h38.1.1,h38.2⟩
       obtain⟨lv,rfl⟩:∃lv,lev=lv+2:=⟨lev-2,by have:=h38.1.2;omega⟩
       obtain⟨nm,hnm,hnm1,hnm2⟩:=zh hia.v0 h7.2;obtain⟨j7,s2,hj7⟩:∃a b,gN e.c.l 5 {sa with vars:=sa.vars+1}=(a,b):=⟨_,_,J⟩
       have hjb7:=pY (by decide) hj7;have hi2b:GInv s2:=GInv.same (hia.var h7.2) (bN hj7);refine aq (ad J (ad J (bS J (aD jX J (aR 0 t3 J J J J (aP (aO (j:=sa.vars.toNat) underlying46 t9 J J (bh (k:=43) J) hnm2 hnm1) (aP (ag t9 J J (bF (bh (k:=43) J) (by intro _;rfl) hnm (by rfl))) (am J (az J (ad J (bS J (aD jX J (aR 0 t3 J J J J (ar J J aK (bS J (aD jX J ?_))))))))))))))));refine aB (k:=0) t3 J J J J J J J J (az J (ad J (aP (aX (parts:= [(0,.const (I6 2)),(2,.tmp 203)]) ci k9 J J) (aZ ci J J fun b16=>av (k:=16) ci J J J J J J (az J (ad J (ad J (ad J (ai (xs:= [.tmp 207,.const (I6 5)]) (cN e.g e.vl vn e.vf e.c he.hl he.hlo (5) (by decide) ({sa with vars:=sa.vars+1})) lC [0] [(false,0)] [0] (fun _ _=> ?_))))))))));rw [hj7];dsimp only;refine aP (cw underlying3 underlying41 J (by first|exact cc (by omega)|rfl)) (aP (aX (parts:= [(0,.const (I6 1)),(1,.tmp 209)]) ci k9 J J) (bq eH (rN j7) underlying59 ci J (by decide) (by decide) J J J J fun v211=>aP (aX (parts:= [(0,.const (I6 1)),(1,.tmp 206),(2,.tmp 211)]) dR mn J J) (bq fK (wo nm v211 j7) underlying62 dR J (by decide) (by decide) J J J J fun v213=>dy 60 underlying62 dR J (by decide) (fun _=>J) (fun _=>J) J J J (bh (k:=213) J) (by simp only [bD,aY,aS];omega) (by unfold maxLen;simp only [bD,aY,aS];omega) J fun v214=>am J (az J (aP (aM ci J J J (bp (k:=16) J)) (bq eH (mF nm) underlying59 ci J (by decide) (by decide) J J J J fun v216=>aP (aX (parts:= [(0,.const (I6 5)),(2,.tmp 216)]) dR mn J J) (aZ dR J J fun b17=>av (k:=17) dR J J J J J J (az J (ad J (ad J ?_))))))))));refine uE (aQ J J (co (c:=4-((lv+1:Nat):Int)) (by rw [show 4-((lv+2:Nat):Int)+1=4-((lv+1:Nat):Int) by omega];exact bM (by omega)))) J ?_;refine dI (xs:= [.tmp 218,.tmp 220]) (ih (lv+1) J s2 vn hi2b) KF [0,1] [(false,0),(false,2)] [0,1,61,62] J J J J (by rw [show s2.names=sa.names from(bN hj7).1];rfl) J J J (fun _ _=>J) (fun _ _ _=>J) J (fun⟨vb1,l1,s3,vn2⟩ hl1=> ?_);dsimp only at hl1 ⊢;have hi3:GInv s3:=(hl1.1.inv hi2b).inv
       refine aD gu J (aB (k:=17) kO J J J J J J J J (az J (aD gu J (aR 17 kO J J J J (ad J (aP (aM ci J J J (bp (k:=16) J)) (aP (aX (parts:= [(0,.const (I6 1)),(1,.const (I3 1))]) ci k9 J J) (cI eH [mF nm,rN 1] (parts:= [(0,.tmp 226),(1,.tmp 227)]) underlying59 ci J (by decide) (by intro _;rfl) J (by decide) (by decide) J J J J fun v228=>aP (aX (parts:= [(0,.const (I6 7)),(2,.const (Sg (ByteArray.mk #[45]))),(3,.tmp 228)]) ci k9 J J) (bq eH (E_ dU v228 (mF nm) (rN 1)) underlying59 ci J (by decide) (by decide) J J J J fun v230=>aP (aX (parts:= [(0,.const (I6 2)),(1,.tmp 225),(2,.tmp 230)]) dR mn J J) (bq fK (md nm v230 v228) underlying62 dR J (by decide) (by decide) J J J J fun v232=>dy 61 underlying62 dR J (by decide) (fun _=>J) (fun _=>J) J J J (bh (k:=232) J) (by have:=hl1.2;simp only [dk];omega) (by unfold maxLen;have:=hl1.2;simp only [dk];omega) J fun v233=>aD gu J (aB (k:=17) kO J J J J J J J J (aa (be ?_)))))))))))));refine ak (ad J (ad J (bS J (aD gB J (aR 0 jT J J J J (ad J (bq eS nm underlying46 t9 J (by decide) (by decide) J J J J fun v241=>dy 1 underlying46 t9 J (by decide) (fun _=>J) (fun _=>J) J J J (bh (k:=241) J) (by have:=hi3.n;simp only [dk];omega) (by unfold maxLen;have:=hi3.n;simp only [dk];omega) J fun v242=>bS J (aD gB J (aB (k:=0) jT J J J J J J J J (aa (ak (ad J (aP (aM dR J J J (bp (k:=17) J)) (bq fK (oV nm v216 v233 (l1++ [md nm v230 v228])) underlying62 dR J (by decide) (by decide) J J J J fun v247=>dy 60 underlying62 dR J (by decide) (fun _=>J) (fun _=>J) J J J (bh (k:=247) J) (by simp only [bD,aY,aS];omega) (by unfold maxLen;simp only [bD,aY,aS];omega) J fun v248=>am J (aa ?_)))))))))))))));refine ak (ad J (ar J J aK (am J (aa ?_))));have hg1:G1r e.c (lv+2) k sa (dV [wo nm v211 j7,oV nm v216 v233 (l1++ [md nm v230 v228])]) ({s3 with names:=s3.names++ [nm]}):=(by rw [N4];exact h7.1▸ .whi hnm h7.2 hj7 hl1.1)
       have hkp:=hg1.inv hia;refine bz 40 [40,211,216,62,228,230,61] (C:=mb (out++ [wo nm v211 j7,oV nm v216 v233 (l1++ [md nm v230 v228])])) J I0 ?_;refine aG ⟨i+1,v248,out++ [wo nm v211 j7,oV nm v216 v233 (l1++ [md nm v230 v228])],{s3 with names:=s3.names++ [nm]},v242⟩ ⟨⟨by dsimp only;omega,hkp.inv,by dsimp only;rw [bD];simp only [aY,aS];omega,by dsimp only;rw [fI];exact jj hi2 hleft hk hg1 n4⟩,by dsimp only;omega⟩ J (by dsimp only;rw [show out++ [wo nm v211 j7,oV nm v216 v233 (l1++ [md nm v230 v228])]=out++ [wo nm v211 j7]++ [oV nm v216 v233 (l1++ [md nm v230 v228])]from(List.append_assoc out [_] [_]).symm];rfl) J
      ·(try simp only [bl]at h38);have q7:¬(k=7∧2≤lev∧sa.vars<8):=by rintro ⟨a,b,c⟩;rcases h38 with(h|h)|h;exact h a;omega;exact h c
       refine aq (ad J (ar J J bv (ad J (fB (t:=252) J (fun h39=> ?_) (fun h39=> ?_)))))
       ·(try simp only [bl]at h39);have h8:k=8:=h39;obtain⟨j8,sb,hj8⟩:∃a b,gN e.c.l 3 sa=(a,b):=⟨_,_,J⟩
        have hnb:sb.names=sa.names:=(bN hj8).1;refine bK J J (ad J (bK J J (ai (xs:= [.tmp 253,.const (I6 3)]) (cN e.g e.vl vn e.vf e.c he.hl he.hlo (3) (by decide) (sa)) lC [0] [(false,0)] [0] (fun _ _=> ?_))));rw [hj8];dsimp only;refine bK J J (ar J J bv (aP (bH J J J) (am J (aa (ap J (fun h40=> ?_) (fun h40=> ?_))))))
        ·(try simp only [bl]at h40);have h80:j8=0:=h40.2;refine ak (ad J (ad J (dI (xs:= [.tmp 258,.const (I6 4)]) (mU he 3 (by decide) vn (sb) (by rw [hnb];exact hin)) oR [0] [(false,0),(true,1),(false,2)] [0,259] J J J J J (by rw [hnb];rfl) J J (fun _ _=>J) (fun _ _ _=>J) J (fun⟨t1,s2⟩ ht1=> ?_))));dsimp only at ht1 ⊢;refine bq eH t1 underlying59 ci J (by decide) (by decide) J J J J fun v260=>aP (aX (parts:= [(0,.const (I6 6)),(2,.tmp 260)]) dR mn J J) (bq fK (.mk 6 oNil v260 [t1] bc [] bc []) underlying62 dR J (by decide) (by decide) J J J J fun v262=>dy 60 underlying62 dR J (by decide) (fun _=>J) (fun _=>J) J J J (bh (k:=262) J) (by simp only [bD,aY,aS];omega) (by unfold maxLen;simp only [bD,aY,aS];omega) J fun v263=>am J (aa (ak (ad J (ar J J aK (am J (aa ?_)))))))
         have hg1:G1r e.c (lev) k sa (dV [.mk 6 oNil v260 [t1] bc [] bc []]) (s2):=h8▸ .ret (h80▸hj8) ht1;have hkp:=hg1.inv hia;refine bz 40 [40,260,259] (C:=mb (out++ [.mk 6 oNil v260 [t1] bc [] bc []])) J na ?_;refine aG ⟨i+1,v263,out++ [.mk 6 oNil v260 [t1] bc [] bc []],s2,vn⟩ ⟨⟨by dsimp only;omega,hkp.inv,by dsimp only;rw [bD];simp only [aY,aS];omega,by dsimp only;rw [fI];exact jj hi2 hleft hk hg1 n4⟩,by dsimp only;omega⟩ J (by dsimp only;rw [show s2.names=sa.names from ht1.keep.1.trans (bN hj8).1];rfl) J
        ·(try simp only [bl]at h40);have h80:j8≠0:=by simpa using h40
         refine be ?_;refine bX [265,266,267,268,269,270,271,272,273,274,275,276,277,278,279,264] _ J (bA (V:= [(0,265,_),(1,266,_),(2,267,_),(3,268,_),(4,269,_),(5,270,_),(6,271,_),(7,272,_),(8,273,_),(9,274,_),(10,275,_),(11,276,_),(12,277,_),(13,278,_),(14,279,_),(15,264,_)]) [0,1,2,3,4,5,6,7,8,9,10,11,12,13,14,15] J J (aF J J (ae J (aQ J J bv) (aF J J (bk (bT [] J J J O (fun hg41=>aV J)) (bk (bT [(268,_)] J J J ⟨J,O⟩ (fun hg42=>au J)) (bk (bT [(269,_)] J J J ⟨J,O⟩ (fun hg43=>ah fe J)) (bk (bT [(270,_)] J J J ⟨J,O⟩ (fun hg44=>ag t3 J J (ax (k:=0) J J))) (bk (bT [(271,_)] J J J ⟨J,O⟩ (fun hg45=>aQ J J aK)) (bk (bT [] J J J O (fun hg46=>aV J)) (bk (bT [(273,_)] J J J ⟨J,O⟩ (fun hg47=>au J)) (bk (bT [(274,_)] J J J ⟨J,O⟩ (fun hg48=>ah dx J)) (bk (bT [(275,_)] J J J ⟨J,O⟩ (fun hg49=>ag kJ J J (ax (k:=0) J J))) (bk (bT [(276,_)] J J J ⟨J,O⟩ (fun hg50=>aT underlying25 J (aJ (k:=3) J))) (bk (bT [(272,_),(277,_)] J J J ⟨J,J,O⟩ (fun hg51=>aQ J J cy)) (ae J (bH J J J) (ae J (df J) aw)))))))))))))))) J J J ?_);refine ap J (fun h52=> ?_) (fun h52=> ?_)
         ·simp only [Bool.and_eq_true,decide_eq_true_eq]at h52;omega
         ·(try simp only [bl]at h52);have q9:¬(k=9∧e.c.me+1<e.F.length):=by rintro ⟨h1,h2⟩;omega
          refine ak (ad J (ad J (dI (xs:= [.tmp 45,.const (I6 4)]) (mU he 3 (by decide) vn (sb) (by rw [hnb];exact hin)) oR [0] [(false,0),(true,1),(false,2)] [0,46] J J J J J (by rw [hnb];rfl) J J (fun _ _=>J) (fun _ _ _=>J) J (fun⟨t1,s2⟩ ht1=> ?_))));dsimp only at ht1 ⊢;refine bq eH t1 underlying59 ci J (by decide) (by decide) J J J J fun v47=>aP (aX (parts:= [(0,.const (I6 7)),(2,.tmp 47)]) dR mn J J) (bq fK (xX v47 t1) underlying62 dR J (by decide) (by decide) J J J J fun v49=>dy 60 underlying62 dR J (by decide) (fun _=>J) (fun _=>J) J J J (bh (k:=49) J) (by simp only [bD,aY,aS];omega) (by unfold maxLen;simp only [bD,aY,aS];omega) J fun v50=>am J (aa (ak (ad J (ar J J aK (am J (aa ?_)))))))
          have hg1:G1r e.c (lev) k sa (dV [xX v47 t1]) (s2):= .out q2 q3 q4.1 q4.2 (fun h=>q5 h) (fun h=>q7 h) (.inr ⟨h8,j8,h80,hj8⟩) (fun h=>q9 ⟨h.1,by rw [←hfl];exact h.2⟩) ht1;have hkp:=hg1.inv hia;refine bz 40 [40,47,46] (C:=mb (out++ [xX v47 t1])) J na ?_;refine aG ⟨i+1,v50,out++ [xX v47 t1],s2,vn⟩ ⟨⟨by dsimp only;omega,hkp.inv,by dsimp only;rw [bD];simp only [aY,aS];omega,by dsimp only;rw [fI];exact jj hi2 hleft hk hg1 n4⟩,by dsimp only;omega⟩ J (by dsimp only;rw [show s2.names=sa.names from ht1.keep.1.trans (bN hj8).1];rfl) J
       ·(try simp only [bl]at h39);have h8:¬k=8:=h39;refine dj J J J J (dj J J J J (dj J J J J (aP (bH J J J) (am J (aa (ap J (fun h53=> ?_) (fun h53=> ?_)))))))
        ·exact absurd h53 (by simp)
        ·(try simp only [bl]at h53);refine be ?_;refine bX [265,266,267,268,269,270,271,272,273,274,275,276,277,278,279,264] _ J (bA (V:= [(0,265,_),(1,266,_),(2,267,_),(3,268,_),(4,269,_),(5,270,_),(6,271,_),(7,272,_),(8,273,_),(9,274,_),(10,275,_),(11,276,_),(12,277,_),(13,278,_),(14,279,_),(15,264,_)]) [0,1,2,3,4,5,6,7,8,9,10,11,12,13,14,15] J J (aF J J (ae J (aQ J J bv) (aF J J (bk (bT [] J J J O (fun hg54=>aV J)) (bk (bT [(268,_)] J J J ⟨J,O⟩ (fun hg55=>au J)) (bk (bT [(269,_)] J J J ⟨J,O⟩ (fun hg56=>ah fe J)) (bk (bT [(270,_)] J J J ⟨J,O⟩ (fun hg57=>ag t3 J J (ax (k:=0) J J))) (bk (bT [(271,_)] J J J ⟨J,O⟩ (fun hg58=>aQ J J aK)) (bk (bT [] J J J O (fun hg59=>aV J)) (bk (bT [(273,_)] J J J ⟨J,O⟩ (fun hg60=>au J)) (bk (bT [(274,_)] J J J ⟨J,O⟩ (fun hg61=>ah dx J)) (bk (bT [(275,_)] J J J ⟨J,O⟩ (fun hg62=>ag kJ J J (ax (k:=0) J J))) (bk (bT [(276,_)] J J J ⟨J,O⟩ (fun hg63=>aT underlying25 J (aJ (k:=3) J))) (bk (bT [(272,_),(277,_)] J J J ⟨J,J,O⟩ (fun hg64=>aQ J J cy)) (ae J (bH J J J) (ae J (df J) aw)))))))))))))))) J J J ?_);refine ap J (fun h65=> ?_) (fun h65=> ?_)
         ·(try simp only [bl]at h65);have h9:k=9∧e.c.me+1<e.F.length:=⟨h65.1,by have:=h65.2;omega⟩
          have hjb:=qR e.c.l (n:=(e.F.length:Int)-(e.c.me:Int)-1) (by omega) sa;obtain⟨jf,hjf⟩:∃jf:Nat,(e.c.me:Int)+1+(gN e.c.l ((e.F.length:Int)-(e.c.me:Int)-1) sa).1=(jf:Int):=⟨((e.c.me:Int)+1+(gN e.c.l ((e.F.length:Int)-(e.c.me:Int)-1) sa).1).toNat,by omega⟩
          have hjl:jf<e.F.length:=by omega
          obtain⟨f,hfj⟩:∃f,e.F[jf]?=some f:=⟨_,bQ hjl⟩
          refine bC (X:=Tf×Gs×Nat) (fun y=>y.1∈e.F∧∃j,gN e.c.l ((e.F.length:Int)-(e.c.me:Int)-1) sa=(j,y.2.1)∧e.c.fs[((e.c.me:Int)+1+j).toNat]?=some (y.1.name,y.1.ps)) (fun y=> [(0,Pt e.g),(1,I6 (4-(lev:Int))),(5,sv vo),(6,I6 (many:Int)),(7,I6 (i:Int)),(18,Pt y.2.2)]) (fun y=> [(0,bj e.g 102 (ix e.vl (y.2.1) vn e.c.me e.vf)),(1,own 9 1 eS (sv vn) sa.names),(60,own 64 5 fK (sv vo) out),(40,mb out),(18,bj y.2.2 66 (jI y.1))]) (fun y=> [(0,sl 1 eI (sv e.vl) e.c.l),(2,dO e.vf e.F),(3,sl 3 jI (sv e.vf) e.F)]) ?_ (fun y hy=> ?_)
          ·refine bX [280,281,282,283,284,285,286,287,288,289,290,291,292,293,294,295,296,297,298,299,300,301,302,303,304,18] _ J (hQ (V:= [(0,280,_),(1,281,_),(2,282,_),(3,283,_),(4,284,_),(5,285,_),(6,286,_),(7,287,_),(8,288,_),(9,289,_),(10,290,_),(11,291,_),(12,292,_),(13,293,_),(14,294,_),(15,295,_),(16,296,_),(17,297,_),(18,298,_),(19,299,_),(20,300,_)]) [0,1,2,3,4,5,6,7,8,9,10,11,12,13,14,15,16,17,18,19,20] J J (aF J J (ae J (au J) (ae J (ah dx J) (ae J (ag kJ J J (ax (k:=0) J J)) (aF J J (ae J (au J) (ae J (ah fe J) (ae J (ag t3 J J (ax (k:=0) J J)) (ae J (aQ J J aK) (aF J J (aF J J (ae J (au J) (ae J (ah dx J) (ae J (ag kJ J J (ax (k:=0) J J)) (ae J (aT underlying25 J (aJ (k:=3) J)) (aF J J (ae J (au J) (ae J (ah fe J) (ae J (ag t3 J J (ax (k:=0) J J)) (ae J (aQ J J eG) (ae J (aQ J J eG) aw))))))))))))))))))))) J [21,25] J J (ea (fy 21 [21,20,19,18,17,16,15,14,13,12,11,10,9] [22,23,24] (fun _=> [(22,302,_),(23,303,_),(24,304,_)]) J J J J J J J J J (fun _ _=>J) J (b_ (xs:= [.tmp 289,.tmp 300]) (cN e.g e.vl vn e.vf e.c he.hl he.hlo (((e.F.length:Int)-(e.c.me:Int)-1)) (by omega) (sa)) lC [0] [(false,0)] [0]) (fun _ _=>bi [22,23,24,0,1,2,3,4,5,6,7,8] 25 [25,21,20,19,18,17,16,15,14,13,12,11,10,9] [] (fun b18=> []) J J (ae J (aQ J J aK) (ae J (aO (j:=jf) underlying25 gC J J (aJ (k:=3) J) hjf hjl) (ae J (aM gC J J J (bF (aJ (k:=3) J) (by intro _;rfl) hfj (by rfl))) (aF J J (ae J (au J) (ae J (ah dx J) (ae J (ag kJ J J (ax (k:=0) J J)) (aF J J (ae J (au J) (ae J (ah fe J) (ae J (ag t3 J J (ax (k:=0) J J)) (ae J (aQ J J aK) aw)))))))))))) J J J J J J J J J J J (fun _ _=>J) J (gh gC J) (fun b18 _=>bP [22,23,24,0,1,2,3,4,5,6,7,8] 26 [26,25,24,23,22,21,20,19,18,17,16,15,14,13,12,11,10,9,8,7,6,5,4,3,2,1,0] [] (fun _=> []) J J (ae J (aQ J J aK) (ae J (aO (j:=jf) underlying25 gC J J (aJ (k:=3) J) hjf hjl) (ae J (aM gC J J J (bF (aJ (k:=3) J) (by intro _;rfl) hfj (by rfl))) (aF J J (ae J (au J) (ae J (ah dx J) (ae J (ag kJ J J (ax (k:=0) J J)) (aF J J (ae J (au J) (ae J (ah fe J) (ae J (ag t3 J J (ax (k:=0) J J)) (ae J (aQ J J aK) aw)))))))))))) J J J J J J J J J (fun _ _=>J) J (bZ (k:=18) gC J J J J J J) (fun _ _=>bA [] J J aw J J J ?_)))) (ea (fy 25 [25] [] (fun b18=> []) J J J J J J J J J (fun _ _=>J) J (gh gC J) (fun b18 _=>bi [0,1,2,3,4,5,6,7,8,9,10,11,12,13,14,15,16,17,18,19,20] 21 [25,21,20,19,18,17,16,15,14,13,12,11,10,9] [22,23,24] (fun _=> [(22,302,_),(23,303,_),(24,304,_)]) J J (aF J J (ae J (au J) (ae J (ah dx J) (ae J (ag kJ J J (ax (k:=0) J J)) (aF J J (ae J (au J) (ae J (ah fe J) (ae J (ag t3 J J (ax (k:=0) J J)) (ae J (aQ J J aK) (aF J J (aF J J (ae J (au J) (ae J (ah dx J) (ae J (ag kJ J J (ax (k:=0) J J)) (ae J (aT underlying25 J (aJ (k:=3) J)) (aF J J (ae J (au J) (ae J (ah fe J) (ae J (ag t3 J J (ax (k:=0) J J)) (ae J (aQ J J eG) (ae J (aQ J J eG) aw))))))))))))))))))))) J J J J J J J J J J J (fun _ _=>J) J (b_ (xs:= [.tmp 289,.tmp 300]) (cN e.g e.vl vn e.vf e.c he.hl he.hlo (((e.F.length:Int)-(e.c.me:Int)-1)) (by omega) (sa)) lC [0] [(false,0)] [0]) (fun _ _=>bP [22,23,24,0,1,2,3,4,5,6,7,8] 26 [26,25,24,23,22,21,20,19,18,17,16,15,14,13,12,11,10,9,8,7,6,5,4,3,2,1,0] [] (fun _=> []) J J (ae J (aQ J J aK) (ae J (aO (j:=jf) underlying25 gC J J (aJ (k:=3) J) hjf hjl) (ae J (aM gC J J J (bF (aJ (k:=3) J) (by intro _;rfl) hfj (by rfl))) (aF J J (ae J (au J) (ae J (ah dx J) (ae J (ag kJ J J (ax (k:=0) J J)) (aF J J (ae J (au J) (ae J (ah fe J) (ae J (ag t3 J J (ax (k:=0) J J)) (ae J (aQ J J aK) aw)))))))))))) J J J J J J J J J (fun _ _=>J) J (bZ (k:=18) gC J J J J J J) (fun _ _=>bA [] J J aw J J J ?_)))) ld)))
           ·refine aG (f,(gN e.c.l ((e.F.length:Int)-(e.c.me:Int)-1) sa).2,b18) ⟨bV hfj,(gN e.c.l ((e.F.length:Int)-(e.c.me:Int)-1) sa).1,J,by rw [he.fs,List.getElem?_map,show((e.c.me:Int)+1+(gN e.c.l ((e.F.length:Int)-(e.c.me:Int)-1) sa).1).toNat=jf by omega,hfj];rfl⟩ J J J
           ·refine aG (f,(gN e.c.l ((e.F.length:Int)-(e.c.me:Int)-1) sa).2,b18) ⟨bV hfj,(gN e.c.l ((e.F.length:Int)-(e.c.me:Int)-1) sa).1,J,by rw [he.fs,List.getElem?_map,show((e.c.me:Int)+1+(gN e.c.l ((e.F.length:Int)-(e.c.me:Int)-1) sa).1).toNat=jf by omega,hfj];rfl⟩ J J J
          ·obtain⟨f2,s2b,b18⟩:=y;obtain⟨hfm,jn,hjn,hfx⟩:=hy;dsimp only at hfm hjn hfx ⊢;obtain⟨j10,s3b,hj10⟩:∃a b,gN e.c.l 8 s2b=(a,b):=⟨_,_,J⟩
           have hn3:s3b.names=sa.names:=(bN hj10).1.trans (bN hjn).1;refine bC (X:=Tf×Gs) (fun y=>y.1∈e.F∧y.2.names=sa.names∧((j10≠7∧e.c.fs[((e.c.me:Int)+1+jn).toNat]?=some (y.1.name,y.1.ps)∧y.2=s3b)∨(j10=7∧∃j3,gN e.c.l ((e.c.fs.length:Int)-1) s3b=(j3,y.2)∧e.c.fs[(1+j3).toNat]?=some (y.1.name,y.1.ps)))) (fun y=> [(0,Pt e.g),(1,I6 (4-(lev:Int))),(5,sv vo),(6,I6 (many:Int)),(7,I6 (i:Int)),(18,Pt b18)]) (fun y=> [(0,bj e.g 102 (ix e.vl (y.2) vn e.c.me e.vf)),(1,own 9 1 eS (sv vn) sa.names),(60,own 64 5 fK (sv vo) out),(40,mb out),(18,bj b18 66 (jI y.1))]) (fun y=> [(0,sl 1 eI (sv e.vl) e.c.l),(2,dO e.vf e.F),(3,sl 3 jI (sv e.vf) e.F)]) ?_ (fun y hy=> ?_)
           ·refine aq (ad J (ai (xs:= [.tmp 305,.const (I6 8)]) (cN e.g e.vl vn e.vf e.c he.hl he.hlo (8) (by decide) (s2b)) lC [0] [(false,0)] [0] (fun _ _=> ?_)));rw [hj10];dsimp only;refine ar J J bv (aa (ap J (fun h66=> ?_) (fun h66=> ?_)))
            ·(try simp only [bl]at h66);have h10:j10=7:=h66;have hjb3:=qR e.c.l (n:=(e.F.length:Int)-1) (by omega) s3b;obtain⟨jg,hjg⟩:∃jg:Nat,(1:Int)+(gN e.c.l ((e.F.length:Int)-1) s3b).1=(jg:Int):=⟨((1:Int)+(gN e.c.l ((e.F.length:Int)-1) s3b).1).toNat,by omega⟩
             have hjgl:jg<e.F.length:=by omega
             obtain⟨f5,hgj⟩:∃f,e.F[jg]?=some f:=⟨_,bQ hjgl⟩
             refine bX [308,309,310,311,312,313,314,315,316,317,318,319,320,321,322] _ J (bi (V:= [(0,308,_),(1,309,_),(2,310,_),(3,311,_),(4,312,_),(5,313,_),(6,314,_),(7,315,_),(8,316,_),(9,317,_),(10,318,_)]) [0,1,2,3,4,5,6,7,8,9,10] 11 [11,10,9,8,7,6,5,4] [12,13,14] (fun _=> [(12,320,_),(13,321,_),(14,322,_)]) J J (aF J J (ae J (au J) (ae J (ah dx J) (ae J (ag kJ J J (ax (k:=0) J J)) (aF J J (aF J J (ae J (au J) (ae J (ah dx J) (ae J (ag kJ J J (ax (k:=0) J J)) (ae J (aT underlying25 J (aJ (k:=3) J)) (ae J (aQ J J eG) aw))))))))))) J J J J J J J J J J J (fun _ _=>J) J (b_ (xs:= [.tmp 312,.tmp 318]) (cN e.g e.vl vn e.vf e.c he.hl he.hlo (((e.F.length:Int)-1)) (by omega) (s3b)) lC [0] [(false,0)] [0]) (fun _ _=>bP [12,13,14,0,1,2,3] 15 [15,14,13,12,11,10,9,8,7,6,5,4,3,2,1,0] [] (fun _=> []) J J (ae J (aQ J J aK) (ae J (aO (j:=jg) underlying25 gC J J (aJ (k:=3) J) hjg hjgl) (ae J (aM gC J J J (bF (aJ (k:=3) J) (by intro _;rfl) hgj (by rfl))) (aF J J (ae J (au J) (ae J (ah dx J) (ae J (ag kJ J J (ax (k:=0) J J)) aw))))))) J J J J J J J J J (fun _ _=>J) J (bZ (k:=18) gC J J J J J J) (fun _ _=>bA [] J J aw J J J ?_)));refine aG (f5,(gN e.c.l ((e.F.length:Int)-1) s3b).2) ⟨bV hgj,(lV _ _ _).1.trans hn3,.inr ⟨h10,(gN e.c.l ((e.F.length:Int)-1) s3b).1,by rw [hfl],by rw [he.fs,List.getElem?_map,show((1:Int)+(gN e.c.l ((e.F.length:Int)-1) s3b).1).toNat=jg by omega,hgj];rfl⟩⟩ J J J
            ·(try simp only [bl]at h66);have h10:j10≠7:=h66;refine aC (aG (f2,s3b) ⟨hfm,hn3,.inl ⟨h10,hfx,J⟩⟩ J J J)
           ·obtain⟨f4,s4b⟩:=y;obtain⟨hf4,hn4,hff⟩:=hy;dsimp only at hf4 hn4 hff ⊢;refine ak (ad J (ad J (aP (aM gC J J J (bp (k:=18) J)) (dI (xs:= [.tmp 324,.tmp 325,.const (I6 3)]) (NP he 1 (by decide) vn s4b f4 hf4 (by rw [hn4];exact hin)) QT [0] [(false,0),(true,1),(false,2)] [0,326] J J J J J (by rw [hn4];rfl) J J (fun _ _=>J) (fun _ _ _=>J) J (fun⟨t1,s5⟩ ht1=> ?_)))));dsimp only at ht1 ⊢;refine bq eH t1 underlying59 ci J (by decide) (by decide) J J J J fun v327=>aP (aX (parts:= [(0,.const (I6 8)),(2,.tmp 327)]) dR mn J J) (bq fK (.mk 8 oNil v327 [t1] bc [] bc []) underlying62 dR J (by decide) (by decide) J J J J fun v329=>dy 60 underlying62 dR J (by decide) (fun _=>J) (fun _=>J) J J J (bh (k:=329) J) (by simp only [bD,aY,aS];omega) (by unfold maxLen;simp only [bD,aY,aS];omega) J fun v330=>am J (aa (ak (ad J (ar J J aK (am J (aa ?_)))))))
            have hg1:G1r e.c (lev) k sa (dV [.mk 8 oNil v327 [t1] bc [] bc []]) (s5):=h9.1▸ .dos (by rw [hfl];exact h9.2) (by rw [hfl];exact hjn) hj10 hff ht1;have hkp:=hg1.inv hia;refine bz 40 [40,327,326] (C:=mb (out++ [.mk 8 oNil v327 [t1] bc [] bc []])) J na ?_;refine aG ⟨i+1,v330,out++ [.mk 8 oNil v327 [t1] bc [] bc []],s5,vn⟩ ⟨⟨by dsimp only;omega,hkp.inv,by dsimp only;rw [bD];simp only [aY,aS];omega,by dsimp only;rw [fI];exact jj hi2 hleft hk hg1 n4⟩,by dsimp only;omega⟩ J (by dsimp only;rw [show s5.names=sa.names from ht1.keep.1.trans hn4];rfl) J
         ·(try simp only [bl]at h65);have q9:¬(k=9∧e.c.me+1<e.F.length):=by rintro ⟨h1,h2⟩;rcases h65 with h|h;exact h h1;omega
          refine ak (ad J (ad J (ai (xs:= [.tmp 45,.const (I6 4)]) (mU he 3 (by decide) vn sa hin) oR [0] [(false,0),(true,1),(false,2)] [0,46] (fun⟨t1,s2⟩ ht1=> ?_))));dsimp only at ht1 ⊢;refine bq eH t1 underlying59 ci J (by decide) (by decide) J J J J fun v47=>aP (aX (parts:= [(0,.const (I6 7)),(2,.tmp 47)]) dR mn J J) (bq fK (xX v47 t1) underlying62 dR J (by decide) (by decide) J J J J fun v49=>dy 60 underlying62 dR J (by decide) (fun _=>J) (fun _=>J) J J J (bh (k:=49) J) (by simp only [bD,aY,aS];omega) (by unfold maxLen;simp only [bD,aY,aS];omega) J fun v50=>am J (aa (ak (ad J (ar J J aK (am J (aa ?_)))))))
          have hg1:G1r e.c (lev) k sa (dV [xX v47 t1]) (s2):= .out q2 q3 q4.1 q4.2 (fun h=>q5 h) (fun h=>q7 h) (.inl ⟨h8,J⟩) (fun h=>q9 ⟨h.1,by rw [←hfl];exact h.2⟩) ht1;have hkp:=hg1.inv hia;refine bz 40 [40,47,46] (C:=mb (out++ [xX v47 t1])) J na ?_;refine aG ⟨i+1,v50,out++ [xX v47 t1],s2,vn⟩ ⟨⟨by dsimp only;omega,hkp.inv,by dsimp only;rw [bD];simp only [aY,aS];omega,by dsimp only;rw [fI];exact jj hi2 hleft hk hg1 n4⟩,by dsimp only;omega⟩ J (by dsimp only;rw [show s2.names=sa.names from ht1.keep.1];rfl) J
 ·(try simp only [bl]at h6);have hend:GLr e.c lev (many-i) s [] s:=by
   by_cases hh:i<many
   ·refine .stop ?_;rcases h6 with h|h
    ·omega
    ·omega
   ·rw [show many-i=0 by omega];exact .zero
  have hfin:=n4 _ _ hend;rw [List.append_nil]at hfin;refine bL (aq (ad J (am J (aa (ay ?_)))));refine aN (vo,out,s,vn) ⟨.mk hj0 (by rw [hmany];exact hfin),by dsimp only;omega⟩ J (ce (aL J)) J [0,1,60,40] [] J J J
end Go.Proofs.YtedmdgbmdplifaaGreat
