/-
  A part of the proof. Conditions are with the theorems.
-/
import Derived.Test.YtedmdgbmdplifaaGreatXBa
import Derived.Test.YtedmdgbmdplifaaGreatXBb
import Derived.Test.YtedmdgbmdplifaaGreatXBc
import Derived.Test.YtedmdgbmdplifaaGreatXBd
set_option maxHeartbeats 32000000
set_option maxRecDepth 100000
set_option linter.unusedSimpArgs false
set_option linter.unusedVariables false
namespace Go.Proofs.YtedmdgbmdplifaaGreat
open Go.RowKit Tryz
theorem yw(op:Int):
  bi prog 148 [I6 op] [] [] (I6 (jQ op)) []:=by
 refine aM func148 J ntmps148 J fun w0 M H=>ar (aq J (aa (aV (ad J (aa (aC (bz (X:=Unit) (fun _=>True) (fun _=> [(3,I6 op),(4,.bool (decide (op=1∨op=16)))]) (fun _=> []) (fun _=> []) ?_ (fun _ _=> ?_))))))))
 ·refine ar (av J J br (aq J (aa (am J (fun h1=> ?_) (fun h1=> ?_)))))
  ·(try simp only [bk]at h1);refine aA (aG () O (by first|(rw [show decide (op=1∨op=16)=decide (op=1)from decide_eq_decide.2 (by omega)];rfl)|(rw [show decide (op=1∨op=16)=decide (op=16)from decide_eq_decide.2 (by omega)];rfl)) J J)
  ·(try simp only [bk]at h1);refine ap (av J J br (aq J (aa (aG () O (by first|(rw [show decide (op=1∨op=16)=decide (op=1)from decide_eq_decide.2 (by omega)];rfl)|(rw [show decide (op=1∨op=16)=decide (op=16)from decide_eq_decide.2 (by omega)];rfl)) J J))))
 ·refine am J (fun h2=> ?_) (fun h2=> ?_)
  ·(try simp only [bk]at h2);have e:jQ op=3:=by unfold jQ;rw [aw (by omega)]
   rw [e];refine ar (aq J (aa (az (aQ () O J (cc (aP J)) J [] [] J J J))))
  ·(try simp only [bk]at h2);refine ar (av J J br (aq J (aa (am J (fun h3=> ?_) (fun h3=> ?_)))))
   ·(try simp only [bk]at h3);have e:jQ op=4:=by unfold jQ;rw [ai (by omega),aw (by omega)]
    rw [e];refine ar (aq J (aa (az (aQ () O J (cc (aP J)) J [] [] J J J))))
   ·(try simp only [bk]at h3);refine bz (X:=Unit) (fun _=>True) (fun _=> [(3,I6 op),(9,.bool (decide (op=3∨op=17)))]) (fun _=> []) (fun _=> []) ?_ (fun _ _=> ?_)
    ·refine ar (av J J br (aq J (aa (am J (fun h4=> ?_) (fun h4=> ?_)))))
     ·(try simp only [bk]at h4);refine aA (aG () O (by first|(rw [show decide (op=3∨op=17)=decide (op=3)from decide_eq_decide.2 (by omega)];rfl)|(rw [show decide (op=3∨op=17)=decide (op=17)from decide_eq_decide.2 (by omega)];rfl)) J J)
     ·(try simp only [bk]at h4);refine ap (av J J br (aq J (aa (aG () O (by first|(rw [show decide (op=3∨op=17)=decide (op=3)from decide_eq_decide.2 (by omega)];rfl)|(rw [show decide (op=3∨op=17)=decide (op=17)from decide_eq_decide.2 (by omega)];rfl)) J J))))
    ·refine am J (fun h5=> ?_) (fun h5=> ?_)
     ·(try simp only [bk]at h5);have e:jQ op=5:=by unfold jQ;rw [ai (by omega),ai (by omega),aw (by omega)]
      rw [e];refine ar (aq J (aa (az (aQ () O J (cc (aP J)) J [] [] J J J))))
     ·(try simp only [bk]at h5);refine bz (X:=Unit) (fun _=>True) (fun _=> [(3,I6 op),(12,.bool (decide (op=4∨op=18)))]) (fun _=> []) (fun _=> []) ?_ (fun _ _=> ?_)
      ·refine ar (av J J br (aq J (aa (am J (fun h6=> ?_) (fun h6=> ?_)))))
       ·(try simp only [bk]at h6);refine aA (aG () O (by first|(rw [show decide (op=4∨op=18)=decide (op=4)from decide_eq_decide.2 (by omega)];rfl)|(rw [show decide (op=4∨op=18)=decide (op=18)from decide_eq_decide.2 (by omega)];rfl)) J J)
       ·(try simp only [bk]at h6);refine ap (av J J br (aq J (aa (aG () O (by first|(rw [show decide (op=4∨op=18)=decide (op=4)from decide_eq_decide.2 (by omega)];rfl)|(rw [show decide (op=4∨op=18)=decide (op=18)from decide_eq_decide.2 (by omega)];rfl)) J J))))
      ·refine am J (fun h7=> ?_) (fun h7=> ?_)
       ·(try simp only [bk]at h7);have e:jQ op=6:=by unfold jQ;rw [ai (by omega),ai (by omega),ai (by omega),aw (by omega)]
        rw [e];refine ar (aq J (aa (az (aQ () O J (cc (aP J)) J [] [] J J J))))
       ·(try simp only [bk]at h7);refine bz (X:=Unit) (fun _=>True) (fun _=> [(3,I6 op),(15,.bool (decide (op=5∨op=19)))]) (fun _=> []) (fun _=> []) ?_ (fun _ _=> ?_)
        ·refine ar (av J J br (aq J (aa (am J (fun h8=> ?_) (fun h8=> ?_)))))
         ·(try simp only [bk]at h8);refine aA (aG () O (by first|(rw [show decide (op=5∨op=19)=decide (op=5)from decide_eq_decide.2 (by omega)];rfl)|(rw [show decide (op=5∨op=19)=decide (op=19)from decide_eq_decide.2 (by omega)];rfl)) J J)
         ·(try simp only [bk]at h8);refine ap (av J J br (aq J (aa (aG () O (by first|(rw [show decide (op=5∨op=19)=decide (op=5)from decide_eq_decide.2 (by omega)];rfl)|(rw [show decide (op=5∨op=19)=decide (op=19)from decide_eq_decide.2 (by omega)];rfl)) J J))))
        ·refine am J (fun h9=> ?_) (fun h9=> ?_)
         ·(try simp only [bk]at h9);have e:jQ op=7:=by unfold jQ;rw [ai (by omega),ai (by omega),ai (by omega),ai (by omega),aw (by omega)]
          rw [e];refine ar (aq J (aa (az (aQ () O J (cc (aP J)) J [] [] J J J))))
         ·(try simp only [bk]at h9);refine bz (X:=Unit) (fun _=>True) (fun _=> [(3,I6 op),(18,.bool (decide (op=6∨op=20)))]) (fun _=> []) (fun _=> []) ?_ (fun _ _=> ?_)
          ·refine ar (av J J br (aq J (aa (am J (fun h10=> ?_) (fun h10=> ?_)))))
           ·(try simp only [bk]at h10);refine aA (aG () O (by first|(rw [show decide (op=6∨op=20)=decide (op=6)from decide_eq_decide.2 (by omega)];rfl)|(rw [show decide (op=6∨op=20)=decide (op=20)from decide_eq_decide.2 (by omega)];rfl)) J J)
           ·(try simp only [bk]at h10);refine ap (av J J br (aq J (aa (aG () O (by first|(rw [show decide (op=6∨op=20)=decide (op=6)from decide_eq_decide.2 (by omega)];rfl)|(rw [show decide (op=6∨op=20)=decide (op=20)from decide_eq_decide.2 (by omega)];rfl)) J J))))
          ·refine am J (fun h11=> ?_) (fun h11=> ?_)
           ·(try simp only [bk]at h11);have e:jQ op=8:=by unfold jQ;rw [ai (by omega),ai (by omega),ai (by omega),ai (by omega),ai (by omega),aw (by omega)]
            rw [e];refine ar (aq J (aa (az (aQ () O J (cc (aP J)) J [] [] J J J))))
           ·(try simp only [bk]at h11);refine bz (X:=Unit) (fun _=>True) (fun _=> [(3,I6 op),(21,.bool (decide (op=7∨op=21)))]) (fun _=> []) (fun _=> []) ?_ (fun _ _=> ?_)
            ·refine ar (av J J br (aq J (aa (am J (fun h12=> ?_) (fun h12=> ?_)))))
             ·(try simp only [bk]at h12);refine aA (aG () O (by first|(rw [show decide (op=7∨op=21)=decide (op=7)from decide_eq_decide.2 (by omega)];rfl)|(rw [show decide (op=7∨op=21)=decide (op=21)from decide_eq_decide.2 (by omega)];rfl)) J J)
             ·(try simp only [bk]at h12);refine ap (av J J br (aq J (aa (aG () O (by first|(rw [show decide (op=7∨op=21)=decide (op=7)from decide_eq_decide.2 (by omega)];rfl)|(rw [show decide (op=7∨op=21)=decide (op=21)from decide_eq_decide.2 (by omega)];rfl)) J J))))
            ·refine am J (fun h13=> ?_) (fun h13=> ?_)
             ·(try simp only [bk]at h13);have e:jQ op=9:=by unfold jQ;rw [ai (by omega),ai (by omega),ai (by omega),ai (by omega),ai (by omega),ai (by omega),aw (by omega)]
              rw [e];refine ar (aq J (aa (az (aQ () O J (cc (aP J)) J [] [] J J J))))
             ·(try simp only [bk]at h13);refine bz (X:=Unit) (fun _=>True) (fun _=> [(3,I6 op),(24,.bool (decide (op=8∨op=22)))]) (fun _=> []) (fun _=> []) ?_ (fun _ _=> ?_)
              ·refine ar (av J J br (aq J (aa (am J (fun h14=> ?_) (fun h14=> ?_)))))
               ·(try simp only [bk]at h14);refine aA (aG () O (by first|(rw [show decide (op=8∨op=22)=decide (op=8)from decide_eq_decide.2 (by omega)];rfl)|(rw [show decide (op=8∨op=22)=decide (op=22)from decide_eq_decide.2 (by omega)];rfl)) J J)
               ·(try simp only [bk]at h14);refine ap (av J J br (aq J (aa (aG () O (by first|(rw [show decide (op=8∨op=22)=decide (op=8)from decide_eq_decide.2 (by omega)];rfl)|(rw [show decide (op=8∨op=22)=decide (op=22)from decide_eq_decide.2 (by omega)];rfl)) J J))))
              ·refine am J (fun h15=> ?_) (fun h15=> ?_)
               ·(try simp only [bk]at h15);have e:jQ op=10:=by unfold jQ;rw [ai (by omega),ai (by omega),ai (by omega),ai (by omega),ai (by omega),ai (by omega),ai (by omega),aw (by omega)]
                rw [e];refine ar (aq J (aa (az (aQ () O J (cc (aP J)) J [] [] J J J))))
               ·(try simp only [bk]at h15);refine ar (av J J br (aq J (aa (am J (fun h16=> ?_) (fun h16=> ?_)))))
                ·(try simp only [bk]at h16);have e:jQ op=11:=by unfold jQ;rw [ai (by omega),ai (by omega),ai (by omega),ai (by omega),ai (by omega),ai (by omega),ai (by omega),ai (by omega),aw (by omega)]
                 rw [e];refine ar (aq J (aa (az (aQ () O J (cc (aP J)) J [] [] J J J))))
                ·(try simp only [bk]at h16);refine ar (av J J br (aq J (aa (am J (fun h17=> ?_) (fun h17=> ?_)))))
                 ·(try simp only [bk]at h17);have e:jQ op=12:=by unfold jQ;rw [ai (by omega),ai (by omega),ai (by omega),ai (by omega),ai (by omega),ai (by omega),ai (by omega),ai (by omega),ai (by omega),aw (by omega)]
                  rw [e];refine ar (aq J (aa (az (aQ () O J (cc (aP J)) J [] [] J J J))))
                 ·(try simp only [bk]at h17);refine ar (av J J br (aq J (aa (am J (fun h18=> ?_) (fun h18=> ?_)))))
                  ·(try simp only [bk]at h18);have e:jQ op=14:=by unfold jQ;rw [ai (by omega),ai (by omega),ai (by omega),ai (by omega),ai (by omega),ai (by omega),ai (by omega),ai (by omega),ai (by omega),ai (by omega),aw (by omega)]
                   rw [e];refine ar (aq J (aa (az (aQ () O J (cc (aP J)) J [] [] J J J))))
                  ·(try simp only [bk]at h18);refine ar (av J J br (aq J (aa (am J (fun h19=> ?_) (fun h19=> ?_)))))
                   ·(try simp only [bk]at h19);have e:jQ op=15:=by unfold jQ;rw [ai (by omega),ai (by omega),ai (by omega),ai (by omega),ai (by omega),ai (by omega),ai (by omega),ai (by omega),ai (by omega),ai (by omega),ai (by omega),aw (by omega)]
                    rw [e];refine ar (aq J (aa (az (aQ () O J (cc (aP J)) J [] [] J J J))))
                   ·(try simp only [bk]at h19);have e:jQ op=0:=by unfold jQ;rw [ai (by omega),ai (by omega),ai (by omega),ai (by omega),ai (by omega),ai (by omega),ai (by omega),ai (by omega),ai (by omega),ai (by omega),ai (by omega),ai (by omega)]
                    rw [e];refine aA (ar (aq J (aa (az (aQ () O J (cc (aP J)) J [] [] J J J)))))
theorem tn(a b:Int):
  bi prog 153 [I6 32,I3 a,I3 b] [] [] (.bool (decide (a=b))) []:=by
 refine aM func153 J ntmps153 J fun w0 M H=>ar (aq J (aa (aV (ad J (aa (aC (ar (av J J br (aq J (aa (am J (fun h1=> ?_) (fun h1=> ?_))))))))))))
 ·(try simp only [bk]at h1);refine ar (ad J (ad J (av J J br (aq J (aa (az (aQ () O J (cc (aP J)) J [] [] J J J)))))))
 ·exact absurd h1 (by decide)
theorem tm(a b:Int):
  bi prog 153 [I6 35,I3 a,I3 b] [] [] (.bool (decide (a≥b))) []:=by
 refine aM func153 J ntmps153 J fun w0 M H=>ar (aq J (aa (aV (ad J (aa (aC (ar (av J J br (aq J (aa (am J (fun h1=> ?_) (fun h1=> ?_))))))))))))
 ·exact absurd h1 (by decide)
 ·(try simp only [bk]at h1);refine ar (av J J br (aq J (aa (am J (fun h2=> ?_) (fun h2=> ?_)))))
  ·exact absurd h2 (by decide)
  ·(try simp only [bk]at h2);refine ar (av J J br (aq J (aa (am J (fun h3=> ?_) (fun h3=> ?_)))))
   ·exact absurd h3 (by decide)
   ·(try simp only [bk]at h3);refine ar (av J J br (aq J (aa (am J (fun h4=> ?_) (fun h4=> ?_)))))
    ·(try simp only [bk]at h4);refine ar (ad J (ad J (av J J ig (aq J (aa (az (aQ () O J (cc (aP J)) J [] [] J J J)))))))
    ·exact absurd h4 (by decide)
structure Fx(s:Mm)(i:Qi)(pc:Int):Prop where
 imm:0≤i.imm∧i.imm<4294967296
 hv:VQ i
 p:0≤pc∧pc+4≤s.d.length
 al:pc%4=0
 rt:∀k:Int,0≤k→k<4→xR s (pc+k) 4=true
 im:∀k:Nat,k<4→s.i[pc.toNat+k]?=(fR (mX i))[k]?
theorem VQ.bd{i:Qi}(hv:VQ i):0≤mX i∧mX i<4294967296:=zq (i:=i) (by unfold qp;simp only [Bool.and_eq_true];exact⟨⟨⟨⟨hv.k,hv.fd⟩,hv.fa⟩,hv.fb⟩,hv.im⟩)
def LY(w:Int):Nat→Int
 | 0=>0
 | k+1=>LY w k+mK w k%256*256^k
theorem Hg{w:Int}(hw:0≤w∧w<4294967296):LY w 4=w:=by
 show 0+w%256*256^0+w/256%256*256^1+w/256/256%256*256^2+w/256/256/256%256*256^3=w;omega
theorem En{w:Int}(hw:0≤w∧w<4294967296){k:Nat}(hk:k<4):0≤LY w k∧LY w k+mK w k%256*256^k<4294967296∧0≤mK w k%256*256^k∧mK w k%256*256^k<4294967296:=by
 have:k=0∨k=1∨k=2∨k=3:=by omega
 rcases this with rfl|rfl|rfl|rfl
 ·show 0≤(0:Int)∧0+w%256*256^0<4294967296∧0≤w%256*256^0∧w%256*256^0<4294967296;omega
 ·show 0≤0+w%256*256^0∧0+w%256*256^0+w/256%256*256^1<4294967296∧0≤w/256%256*256^1∧w/256%256*256^1<4294967296;omega
 ·show 0≤0+w%256*256^0+w/256%256*256^1∧0+w%256*256^0+w/256%256*256^1+w/256/256%256*256^2<4294967296∧0≤w/256/256%256*256^2∧w/256/256%256*256^2<4294967296;omega
 ·show 0≤0+w%256*256^0+w/256%256*256^1+w/256/256%256*256^2∧0+w%256*256^0+w/256%256*256^1+w/256/256%256*256^2+w/256/256/256%256*256^3<4294967296∧0≤w/256/256/256%256*256^3∧w/256/256/256%256*256^3<4294967296;omega
theorem O_{w:Int}(hw:0≤w∧w<4294967296){k:Nat}(hk:k<4):IntKind.u32.wrap (mK w k%256*2^(8*(k:Int)).toNat)=mK w k%256*256^k:=by
 obtain⟨-,-,h1,h2⟩:=En hw hk;have e:(2:Int)^(8*(k:Int)).toNat=256^k:=by
  have:k=0∨k=1∨k=2∨k=3:=by omega
  rcases this with rfl|rfl|rfl|rfl<;>rfl
 rw [e];exact lg h1 h2
def QX(i:Qi):List Value:=iY i++ [I6 0,I3 0]
theorem wE(e:Me)(s:Mm)(n:Nat)(hs:MO s n)(i:Qi)(pc:Int)(hf:Fx s i pc):
  bi prog 147 [I3 pc,Pt e.m] [be e.m 157 (mR e),own 5 1 ct (sv e.vd) (s).d,own 5 1 ct (sv e.vi) (s).i,own 3 1 eI (sv e.vr) (s).r] [] (.agg (QX i).toArray) [be e.m 157 (mR e),own 5 1 ct (sv e.vd) (s).d,own 5 1 ct (sv e.vi) (s).i,own 3 1 eI (sv e.vr) (s).r]:=by
 refine aM func147 J ntmps147 J fun w0 M H=> ?_
 have hdl:=hs.d;have hnn:=hs.n;have hp:=hf.p;have hal:=hf.al;have hwb:=hf.hv.bd;refine ar (aX BQ J J fun b4=>aa (aV (ad J (av J J (kA (by omega) (by first|exact rr (by omega)|rfl)) (av J J gj (aa (am J (fun h1=> ?_) (fun h1=> ?_))))))))
 ·(exfalso;have h0:=h1;revert h0;simp;omega)
 ·(try simp only [bk]at h1);refine aA (ar (aq J (aa (aV (aq J (aa (aC (bI (X:=Nat) (fun k=>k≤4) (fun k=> [(0,I3 pc),(1,Pt e.m),(4,Pt b4),(5,I3 (LY (mX i) k)),(6,I6 (k:Int))]) (fun k=> [(0,be e.m 157 (mR e)),(1,own 5 1 ct (sv e.vd) s.d),(2,own 5 1 ct (sv e.vi) s.i),(3,own 3 1 eI (sv e.vr) s.r),(4,be b4 236 [I6 0,I6 0,I6 0,I6 0,I3 0,I6 0,I3 0])]) (fun k=> []) (fun k=>4-k) 0 (bq _) J J J (fun k n1=>aV (ad J (av J J cy (aa (am J (fun h2=> ?_) (fun h2=> ?_))))))))))))))
  ·(try simp only [bk]at h2);have hi:k<4:=by omega
   have hbk:=En hwb hi;refine aA (aZ (aC (ar (ad J (ad J (ad J (aS (cB underlying3 underlying41 J (c:=(k:Int)) (cf (by omega))) (av J J (cC (c:=pc+k) (cf (by omega))) ?_))))))));refine dG (xs:= [.tmp 19,.tmp 23]) (Cy e s n hs (pc+k) (by omega) (hf.rt k (by omega) (by omega)) (mK (mX i) k%256) (by rw [show(pc+(k:Int)).toNat=pc.toNat+k by omega,hf.im k hi,Ao hwb hi]) (by omega)) NW [0,1,2,3] [] [0,1,2,3] J J J J J J J J (fun _ _=>J) (fun _ _ _=>J) J (fun _ _=> ?_);refine aX iR J J fun b7=>au (k:=7) iR J J J J J J (aa (aV (aD oq J (aT 7 t4 J J J J (aS (cZ J) (aa (am J (fun h3=> ?_) (fun h3=> ?_))))))))
   ·cases h3
   ·(try simp only [bk]at h3);refine aA (ap (ad J (aD qP J (aT 7 eG J J J J (ad J (av J J kB (aS (cB underlying3 underlying138 J (c:=8*(k:Int)) (by first|exact zT (by omega) (by omega)|rfl)) (av J J (jd (by omega) (by show _≤(32:Int);omega) (O_ hwb hi)) (av J J (cC (c:=LY (mX i) (k+1)) (cf (by omega))) (aq J (aa (ap (ad J (av J J aO (aq J (aa ?_))))))))))))))));refine aG (k+1) ⟨by omega,by omega⟩ J J J
  ·(try simp only [bk]at h2);have hi:k=4:=by omega
   subst hi;rw [Hg hwb];refine bM (ar (ad J (ak (xs:= [.tmp 43]) (uR i hf.imm hf.hv) NV [] [] [] (fun _ _=>ad J (aS (cS J J) (aS (cS J J) (aX fH J J fun b8=>au (k:=8) fH J J J J J J (aq J (aa (aV (ad J (av J J gj (aa (am J (fun h4=> ?_) (fun h4=> ?_)))))))))))))))
   ·cases h4
   ·(try simp only [bk]at h4);refine aA (ar (aS (aJ fH J J J (a_ (k:=8) J)) (aS (aR (cs:=(QX i).toArray) (parts:= [(0,.tmp 51)]) BQ MK J (by kernel_rfl)) (au (k:=4) BQ J J J J J J (aa (az (aQ () O J (cc (bp BQ J J J (a_ (k:=4) J))) J [0,1,2,3] [] J J J)))))))
section
end
theorem BG{α:Type}{p:α→Bool}{l:List α}{u:α}(hm:u∈l)(h:p u=true):l.any p=true:=List.any_eq_true.2 ⟨u,hm,h⟩
def eQ(p:SV×List Ba):List Value:= [sv p.1]
def IQ(v:SV)(l:List (SV×List Ba)):Asn:=⟨fun w F=>SlIn' w F 1 eQ (sv v) l∧∀p∈l,SlIn' w F 1 eS (sv p.1) p.2,fun h hs=>⟨h.1.stable hs,fun p hp=>(h.2 p hp).stable hs⟩⟩
theorem qIO{v:SV}{l:List (SV×List Ba)}:∀w G,(IQ v l).pred w G→(∀b,G b→b<w.heap.size)→∃G',(sl 1 eQ (sv v) l).pred w G'∧∀b,G' b→G b:=fun w G h _=>h.1
theorem IP{v:SV}{l:List (SV×List Ba)}{p:SV×List Ba}(hp:p∈l):∀w G,(IQ v l).pred w G→(∀b,G b→b<w.heap.size)→∃G',(sl 1 eS (sv p.1) p.2).pred w G'∧∀b,G' b→G b:=fun w G h _=>h.2 p hp
abbrev LZ(a b c d e f g h:SV):List (SV×List Ba):= [(a,[ke]),(b,[fJ]),(c,[fD]),(d,[nk,ng]),(e,[mj,nh,nj,oO]),(f,[gL,iq]),(g,[gm,eJ]),(h,[gM,kM,lS])]
theorem KA{v a b c d e f g h:SV}(w:World)(F:Nat→Prop)(hh:AllIn w F [own 9 1 eS (sv a) [ke],own 9 1 eS (sv b) [fJ],own 9 1 eS (sv c) [fD],own 9 1 eS (sv d) [nk,ng],own 9 1 eS (sv e) [mj,nh,nj,oO],own 9 1 eS (sv f) [gL,iq],own 9 1 eS (sv g) [gm,eJ],own 9 1 eS (sv h) [gM,kM,lS],own 46 1 eQ (sv v) (LZ a b c d e f g h)]):(IQ v (LZ a b c d e f g h)).pred w F:=by
 obtain⟨⟨_,a1,b1⟩,⟨_,a2,b2⟩,⟨_,a3,b3⟩,⟨_,a4,b4⟩,⟨_,a5,b5⟩,⟨_,a6,b6⟩,⟨_,a7,b7⟩,⟨_,a8,b8⟩,⟨_,a9,b9⟩,_⟩:=hh;refine⟨ck a9 b9,fun p hp=> ?_⟩;simp only [LZ,List.mem_cons,List.not_mem_nil,or_false]at hp;rcases hp with rfl|rfl|rfl|rfl|rfl|rfl|rfl|rfl
 ·exact ck a1 b1
 ·exact ck a2 b2
 ·exact ck a3 b3
 ·exact ck a4 b4
 ·exact ck a5 b5
 ·exact ck a6 b6
 ·exact ck a7 b7
 ·exact ck a8 b8
theorem Kt{k:Int}{nm:Ba}{n:Nat}(h:k=6):qK k nm n=(((nm==⟨#[45]⟩) || (nm==⟨#[126]⟩) || (nm==⟨#[33]⟩))&&decide ((n:Int)=1)):=by
 rw [IE h]
 congr 1
 simp only [cD,ti,List.any_cons,List.any_nil,Bool.or_false,gt,Bool.or_assoc];rfl
def QM(t:Tx):Prop:=bi prog 137 [xV t] [] [cm t.v t.kids] (.bool (rX t)) []
theorem MD{t:Tx}(h:qK t.kind t.name t.kids.length=false∨(t.kind≠1∧t.n≠0)):rX t=false:=by
 rw [Am];rcases h with h|⟨h1,h2⟩
 ·rw [h];rfl
 ·rw [decide_eq_false h1,decide_eq_false h2];simp
theorem J3{t u:Tx}(hu:u∈t.kids)(h:rX u=false):rX t=false:=by
 rw [Am,BG hu (by rw [h];rfl)];simp
theorem J2{t:Tx}(h:qK t.kind t.name t.kids.length=true)(h2:t.kind=1∨t.n=0)(h3:t.kids.any (fun u=> !rX u)=false):rX t=true:=by
 rw [Am,h,h3];rcases h2 with h2|h2
 ·rw [decide_eq_true h2];rfl
 ·rw [decide_eq_true h2];simp
theorem xK{α:Type}{p:α→Bool}{l:List α}{i:Nat}{u:α}(h:l[i]?=some u):(l.take (i+1)).any p=((l.take i).any p || p u):=by
 rw [cw h];simp
theorem oe:
  Spec prog 21 [] [] [] (X:=SV×List (SV×List Ba)) (fun x=>x.2.map (fun p=>p.2)=rlv) (fun x=>sv x.1) (fun x=> [IQ x.1 x.2]) (fun _=> []):=by
 refine aM func21 J ntmps21 J fun w0 M H=>ar (aq J (aF J (bj eS ke underlying46 t9 J (by decide) (by decide) J J J J fun v1=>bj eS fJ underlying46 t9 J (by decide) (by decide) J J J J fun v2=>bj eS fD underlying46 t9 J (by decide) (by decide) J J J J fun v3=>dz eS [nk,ng] (parts:= [(0,.const (Sg (ByteArray.mk #[61,61]))),(1,.const (Sg (ByteArray.mk #[33,61])))]) underlying46 t9 J (by decide) (by intro _;rfl) J (by decide) (by decide) J J J J fun v4=>dz eS [mj,nh,nj,oO] (parts:= [(0,.const (Sg (ByteArray.mk #[60]))),(1,.const (Sg (ByteArray.mk #[60,61]))),(2,.const (Sg (ByteArray.mk #[62]))),(3,.const (Sg (ByteArray.mk #[62,61])))]) underlying46 t9 J (by decide) (by intro _;rfl) J (by decide) (by decide) J J J J fun v5=>dz eS [gL,iq] (parts:= [(0,.const (Sg (ByteArray.mk #[60,60]))),(1,.const (Sg (ByteArray.mk #[62,62])))]) underlying46 t9 J (by decide) (by intro _;rfl) J (by decide) (by decide) J J J J fun v6=>dz eS [gm,eJ] (parts:= [(0,.const (Sg (ByteArray.mk #[43]))),(1,.const (Sg (ByteArray.mk #[45])))]) underlying46 t9 J (by decide) (by intro _;rfl) J (by decide) (by decide) J J J J fun v7=>dz eS [gM,kM,lS] (parts:= [(0,.const (Sg (ByteArray.mk #[42]))),(1,.const (Sg (ByteArray.mk #[47]))),(2,.const (Sg (ByteArray.mk #[37])))]) underlying46 t9 J (by decide) (by intro _;rfl) J (by decide) (by decide) J J J J fun v8=>dz eQ (LZ v1 v2 v3 v4 v5 v6 v7 v8) (parts:= [(0,.tmp 1),(1,.tmp 2),(2,.tmp 3),(3,.tmp 4),(4,.tmp 5),(5,.tmp 6),(6,.tmp 7),(7,.tmp 8)]) underlying44 h_ J (by decide) (by intro _;rfl) J (by decide) (by decide) J J J J fun v9=>aq J (aa (az (bh 60 [1,2,3,4,5,6,7,8,9] (C:=IQ v9 (LZ v1 v2 v3 v4 v5 v6 v7 v8)) J KA ?_))))))
 refine aQ (v9,LZ v1 v2 v3 v4 v5 v6 v7 v8) J J (cc (aP J)) J [60] [] J J J
theorem B_(s:Ba):
  Spec prog 173 [Sg s] [] [] (X:=Int) (fun r=>decide (r≥0)=iW s) (fun r=>I6 r) (fun _=> []) (fun _=> []):=by
 refine aM func173 J ntmps173 J fun w0 M H=>ar (aq J (aF J (ak (xs:= []) oe NH [] [] [60] (fun⟨v6,ls⟩ hls=> ?_))))
 dsimp only at hls ⊢;have hll:ls.length=8:=by have h:=congrArg List.length hls;rw [List.length_map]at h;exact h
 have hbin:iW s=ls.any fun p=>cD s p.2:=by rw [←GQ,←hls,List.any_map];rfl
 refine cW 60 20 J (fun _ _ h=>h) (bc 20 21 J qIO (aq J (aa (aV (aq J (aa (aC (bI (X:=Nat) (fun i=>i≤ls.length∧((ls.take i).any fun p=>cD s p.2)=false) (fun i=> [(0,Sg s),(3,sv v6),(4,I6 (i:Int))]) (fun i=> []) (fun i=> [(20,IQ v6 ls),(21,sl 1 eQ (sv v6) ls)]) (fun i=>ls.length-i) 0 ⟨bq _,J⟩ J J J (fun i hx0=> ?_)))))))));obtain⟨n1,n2⟩:=hx0;refine aV (ad J (ad J (aS (aL underlying44 J (aN (k:=21) J)) (av J J cy (aa (am J (fun h1=> ?_) (fun h1=> ?_)))))))
 ·(try simp only [bk]at h1);have hi:i<ls.length:=by omega
  obtain⟨p,hx⟩:∃k,ls[i]?=some k:=⟨_,bT hi⟩
  have hpm:=cd hx;have hpl:p.2.length≤1000000:=by
   have h:p.2∈rlv:=by rw [←hls];exact List.mem_map_of_mem hpm
   simp only [rlv,List.mem_cons,List.not_mem_nil,or_false]at h;rcases h with h|h|h|h|h|h|h|h<;>rw [h]<;>decide
  refine aA (aZ (aC (ar (ad J (ad J (ad J (aS (aK (j:=i) underlying44 h_ J J (aN (k:=21) J) (by first|rfl|omega) (by first|omega|(simp;done)|(simp;omega))) (aS (ae h_ J J (bJ (aN (k:=21) J) (by intro _;rfl) hx (by rfl))) (bc 20 22 J (IP hpm) (ak (xs:= [.tmp 13,.tmp 17]) (k9 s p.1 p.2 hpl) zJ [] [(false,22)] [] (fun _ _=>aq J (aF J (ad J (aa (am J (fun h2=> ?_) (fun h2=> ?_))))))))))))))))
  ·have hct:cD s p.2=true:=h2;refine ar (ad J (aq J (aa (az (aQ (i:Int) (by rw [hbin,BG (p:=fun p=>cD s p.2) hpm hct];exact decide_eq_true (by omega)) J (cc (aP J)) J [] [] J J J)))))
  ·have hcf:cD s p.2=false:=h2;refine aA (ap (ad J (av J J aO (aq J (aa ?_)))));refine aG (i+1) ⟨⟨by omega,by rw [xK hx,n2,hcf];rfl⟩,by omega⟩ J J J
 ·(try simp only [bk]at h1);have hi:i=ls.length:=by omega
  subst hi;rw [cV]at n2;refine bM (ar (aq J (aa (az (aQ (-1) (by rw [hbin,n2];rfl) J (cc (aP J)) J [] [] J J J)))))
theorem DH(t:Tx)(hkl:t.kids.length≤1000000)(ih:∀u∈t.kids,QM u):
  bi prog 137 [xV t] [] [cm t.v t.kids] (.bool (rX t)) []:=by
 refine aM func137 J ntmps137 J fun w0 M H=>bc 0 1 J gE (ar (cA J J fun b1=>aq J (aF J (aD el J (aT 1 t9 J J J J (ak (xs:= [.tmp 9]) (jW t.name) Bz [] [] [] (fun _ _=>aq J (aF J (aD dT J (aT 1 jM J J J J (aS (aL underlying59 J (aN (k:=1) J)) (aq J ?_))))))))))))
 refine aF J (aq J (aa (bz (X:=Unit) (fun _=>True) (fun _=> [(1,Pt b1),(4,I6 (t.kids.length:Int)),(5,.bool (qK t.kind t.name t.kids.length))]) (fun _=> [(1,be b1 61 (dB t))]) (fun _=> [(0,cm t.v t.kids),(1,sl 4 dB (sv t.v) t.kids)]) ?_ (fun _ _=> ?_))))
 ·refine ar (aD ki J (aT 1 t3 J J J J (aa (aC (ar (av J J br (aq J (aa (am J (fun h1=> ?_) (fun h1=> ?_))))))))))
  ·have q1:t.kind=1:=cH h1;refine ap (aD el J (aT 1 t9 J J J J (av J J eT (ad J (aI [] J J O (fun hg2=>aY J) J (aI [(22,_)] J J ⟨J,O⟩ (fun hg3=>aU J J br) J (aS (bK J J J) (aq J (aa (aG () O (by rw [Az (.inl q1)];rfl) J J))))))))))
  ·have q1:¬t.kind=1:=dk h1;refine ar (av J J br (aq J (aa (am J (fun h4=> ?_) (fun h4=> ?_)))))
   ·have q2:t.kind=2:=cH h4;refine ap (ad J (ad J (aI [] J J O (fun hg5=>aY J) J (aI [(29,_)] J J ⟨J,O⟩ (fun hg6=>aU J J br) J (aS (bK J J J) (aq J (aa (aG () O (by rw [IH q2];rfl) J J))))))))
   ·have q2:¬t.kind=2:=dk h4;refine ar (av J J br (aq J (aa (am J (fun h7=> ?_) (fun h7=> ?_)))))
    ·have q3:t.kind=3:=cH h7;refine ap (ad J (aq J (aa (aG () O (by rw [IG q3];rfl) J J))))
    ·have q3:¬t.kind=3:=dk h7;refine ar (av J J br (aq J (aa (am J (fun h8=> ?_) (fun h8=> ?_)))))
     ·have q4:t.kind=4:=cH h8;refine ap (aD el J (aT 1 t9 J J J J (av J J eT (ad J (aI [] J J O (fun hg9=>aY J) J (aI [(41,_)] J J ⟨J,O⟩ (fun hg10=>aU J J br) J (aS (bK J J J) (aq J (aa (aG () O (by rw [IF q4];rfl) J J))))))))))
     ·have q4:¬t.kind=4:=dk h8;refine ar (av J J br (aq J (aa (am J (fun h11=> ?_) (fun h11=> ?_)))))
      ·have q5:t.kind=5:=cH h11;refine ap (aD el J (aT 1 t9 J J J J (av J J eT (ad J (aI [] J J O (fun hg12=>aY J) J (aI [(50,_)] J J ⟨J,O⟩ (fun hg13=>aU J J br) J (aS (bK J J J) (aq J (aa (aG () O (by rw [Az (.inr q5)];rfl) J J))))))))))
      ·have q5:¬t.kind=5:=dk h11;refine ar (av J J br (aq J (aa (am J (fun h14=> ?_) (fun h14=> ?_)))))
       ·have q6:t.kind=6:=cH h14;refine ap (aD el J (aT 1 t9 J J J J (av J J eT (ad J (aI [] J J O (fun hg15=>ah el J) J (aI [(59,_)] J J ⟨J,O⟩ (fun hg16=>ae t9 J J (ax (k:=1) J J)) J (aI [(59,_),(60,_)] J J ⟨J,J,O⟩ (fun hg17=>aU J J eT) J (aS (bK J J J) (ad J (aI [] J J O (fun hg18=>ah el J) J (aI [(64,_)] J J ⟨J,O⟩ (fun hg19=>ae t9 J J (ax (k:=1) J J)) J (aI [(64,_),(65,_)] J J ⟨J,J,O⟩ (fun hg20=>aU J J eT) J (aS (bK J J J) (ad J (aI [] J J O (fun hg21=>aY J) J (aI [(69,_)] J J ⟨J,O⟩ (fun hg22=>aU J J br) J (aS (bK J J J) (aq J (aa ?_)))))))))))))))))));refine aG () O (by rw [Kt q6];rfl) J J
       ·have q6:¬t.kind=6:=dk h14;refine ar (av J J br (aq J (aa (am J (fun h23=> ?_) (fun h23=> ?_)))))
        ·have q7:t.kind=7:=cH h23;refine ap (aD el J (aT 1 t9 J J J J (ak (xs:= [.tmp 75]) (B_ t.name) NY [] [] [] (fun r hr=>av J J ig (ad J (aI [] J J O (fun hg24=>aY J) J (aI [(79,_)] J J ⟨J,O⟩ (fun hg25=>aU J J br) J (aS (bK J J J) (aq J (aa (aG () O (by rw [ID q7,←hr];rfl) J J)))))))))))
        ·have q7:¬t.kind=7:=dk h23;refine aA (aG () O (by rw [II q1 q5 q2 q3 q4 q6 q7];rfl) J J)
 ·refine aV (ad J (aS (cZ J) (ad J (aI [] J J O (fun hg26=>ah ki J) J (aI [(85,_)] J J ⟨J,O⟩ (fun hg27=>ae t3 J J (ax (k:=1) J J)) J (aI [(85,_),(86,_)] J J ⟨J,J,O⟩ (fun hg28=>aU J J gj) J (aI [(85,_),(86,_),(87,_)] J J ⟨J,J,J,O⟩ (fun hg29=>aY J) J (cG [] [(85,_),(86,_),(87,_),(88,_)] J J O ⟨J,J,J,J,O⟩ (fun hg30 hg30'=>ah zh J) J (cG [(89,_)] [(85,_),(86,_),(87,_),(88,_)] J J ⟨J,O⟩ ⟨J,J,J,J,O⟩ (fun hg31 hg31'=>ae eG J J (ax (k:=1) J J)) J (cG [(89,_),(90,_)] [(85,_),(86,_),(87,_),(88,_)] J J ⟨J,J,O⟩ ⟨J,J,J,J,O⟩ (fun hg32 hg32'=>aU J J gj) J (aI [(85,_),(86,_),(87,_),(88,_)] J J ⟨J,J,J,J,O⟩ (fun hg33=>e9 J J J (by first|exact dU|exact ez|exact dh hg33|exact dK hg33|rfl)) J (aS (bK J J J) (aa (am J (fun h34=> ?_) (fun h34=> ?_)))))))))))))))
  ·(try simp only [bk]at h34);have qc:=h34;refine ar (aq J (aa (az (aQ () O J (cc (aP J)) (congrArg Value.bool (MD qc).symm) [] [] J J J))))
  ·(try simp only [bk]at h34);have qc:=h34;refine aA (aV (aq J (aa (aC (bI (X:=Nat) (fun i=>i≤t.kids.length∧((t.kids.take i).any fun u=> !rX u)=false) (fun i=> [(1,Pt b1),(4,I6 (t.kids.length:Int)),(6,I6 (i:Int))]) (fun i=> [(1,be b1 61 (dB t))]) (fun i=> [(0,cm t.v t.kids),(1,sl 4 dB (sv t.v) t.kids)]) (fun i=>t.kids.length-i) 0 ⟨bq _,J⟩ J J J (fun i hx0=> ?_))))));obtain⟨n1,n2⟩:=hx0;refine aV (ad J (ad J (av J J cy (aa (am J (fun h35=> ?_) (fun h35=> ?_))))))
   ·(try simp only [bk]at h35);have hi:i<t.kids.length:=by omega
    obtain⟨u,hu⟩:∃u,t.kids[i]?=some u:=⟨_,bT hi⟩
    have hum:=cd hu;refine aA (aZ (aC (ar (aD dT J (aT 1 jM J J J J (ad J (aS (aK (j:=i) underlying59 ca J J (aN (k:=1) J) (by first|rfl|omega) (by first|omega|(simp;done)|(simp;omega))) (aS (aJ ca J J J (bJ (aN (k:=1) J) (by intro _;rfl) hu (by rfl))) (bc 0 7 J (eb hum) (ak (xs:= [.tmp 103]) (ih u hum) Jk [] [(false,7)] [] (fun _ _=>aq J (aF J (ad J (aS (cZ J) (aa (am J (fun h36=> ?_) (fun h36=> ?_)))))))))))))))))
    ·have hct:rX u=false:=by simpa using h36
     refine ar (aq J (aa (az (aQ () O J (cc (aP J)) (congrArg Value.bool (J3 hum hct).symm) [] [] J J J))))
    ·have hcf:rX u=true:=by simpa using h36
     refine aA (ap (ad J (av J J aO (aq J (aa ?_)))));refine aG (i+1) ⟨⟨by omega,by rw [xK hu,n2,hcf];rfl⟩,by omega⟩ J J J
   ·(try simp only [bk]at h35);have hi:i=t.kids.length:=by omega
    subst hi;rw [cV]at n2;refine bM (ar (aq J (aa (az (aQ () O J (cc (aP J)) (congrArg Value.bool (J2 qc.1 qc.2 n2).symm) [] [] J J J)))))
theorem Ah:∀(n:Nat)(t:Tx),SizeOf.sizeOf t<n→GX t→QM t
 | 0,_,h,_=>absurd h (Nat.not_lt_zero _)
 | n+1,t,h,ht=>DH t (l8 ht) fun u hu=>Ah n u (by have:=pJ hu;omega) ((ka ht).mem u hu)
theorem DI(t:Tx)(ht:GX t):QM t:=Ah _ t (Nat.lt_succ_self _) ht
def OZ(v:SV)(l:List Ty):Prop:=bi prog 103 [sv v] [] [b_ v l] (.bool (l.all rY)) []
theorem oK{α:Type}{p:α→Bool}{l:List α}{i:Nat}{u:α}(h:l[i]?=some u):(l.take (i+1)).all p=((l.take i).all p&&p u):=by
 rw [cw h];simp
theorem k_{α:Type}{p:α→Bool}{l:List α}{u:α}(hm:u∈l)(h:p u=false):l.all p=false:=by
 rw [Bool.eq_false_iff];intro h2;rw [List.all_eq_true]at h2;rw [h2 u hm]at h;cases h
theorem lP(t:Ty):rY t=(Ay t.kind t.name t.es.length t.body.length t.els.length&&t.es.all rX&&t.body.all rY&&t.els.all rY):=by
 cases t;rw [rY,qG,kK,kK];rfl
theorem Pe{t:Ty}(h:t.kind<1∨t.kind>8):rY t=false:=by
 rw [lP];unfold Ay;rcases h with h|h
 ·rw [decide_eq_false (show ¬t.kind≥1 by omega)];rfl
 ·rw [decide_eq_false (show ¬t.kind≤8 by omega)];simp
theorem Pd{t:Ty}(h:(((decide (t.kind=1) || decide (t.kind=2))&& !cu t.name) || (!(decide (t.kind=1) || decide (t.kind=2))&& !(t.name==⟨#[]⟩)) || !decide ((t.es.length:Int)=(if t.kind=3 then 2 else 1)))=true):rY t=false:=by
 rw [lP];unfold Ay;by_cases hn:t.es.length=if t.kind=3 then 2 else 1
 ·have hn2:(t.es.length:Int)=if t.kind=3 then 2 else 1:=by
   rw [hn];split<;>rfl
  rw [decide_eq_true hn2]at h;by_cases hk:t.kind=1∨t.kind=2
  ·have hk2:(decide (t.kind=1) || decide (t.kind=2))=true:=by simpa using hk
   rw [hk2]at h;rw [aw hk];have h3:cu t.name=false:=by simpa using h
   rw [h3];simp
  ·have hk2:(decide (t.kind=1) || decide (t.kind=2))=false:=by simpa using hk
   rw [hk2]at h;rw [ai hk];have h3:(t.name==⟨#[]⟩)=false:=by simpa using h
   rw [gt]at h3;rw [show decide (t.name=bD)=false from h3];simp
 ·rw [decide_eq_false hn];simp
theorem Pi{t:Ty}(h:(!decide (t.kind=4)&&(decide ((t.els.length:Int)>0) || (!decide (t.kind=5)&&decide ((t.body.length:Int)>0))))=true):rY t=false:=by
 rw [lP];unfold Ay;have h4:t.kind≠4:=by
  intro h4;rw [decide_eq_true h4]at h;simp at h
 rw [decide_eq_false h4];by_cases h5:t.els.length=0
 ·rw [h5]at h;by_cases h6:t.kind=5
  ·rw [decide_eq_true h6]at h;simp at h
  ·by_cases h7:t.body.length=0
   ·rw [h7]at h;simp at h
   ·rw [decide_eq_false h6,decide_eq_false h7];simp
 ·rw [decide_eq_false h5];simp
theorem Pg{t:Ty}{u:Tx}(hm:u∈t.es)(h:rX u=false):rY t=false:=by
 rw [lP,k_ hm h];simp
theorem Pc{t:Ty}(h:t.body.all rY=false∨t.els.all rY=false):rY t=false:=by
 rw [lP];rcases h with h|h<;>rw [h]<;>simp
theorem MB{t:Ty}(h1:¬t.kind<1∧¬t.kind>8)(h2:(((decide (t.kind=1) || decide (t.kind=2))&& !cu t.name) || (!(decide (t.kind=1) || decide (t.kind=2))&& !(t.name==⟨#[]⟩)) || !decide ((t.es.length:Int)=(if t.kind=3 then 2 else 1)))=false)
  (h3:(!decide (t.kind=4)&&(decide ((t.els.length:Int)>0) || (!decide (t.kind=5)&&decide ((t.body.length:Int)>0))))=false) (h4:t.es.all rX=true) (h5:t.body.all rY=true∧t.els.all rY=true):rY t=true:=by
 rw [lP,h4,h5.1,h5.2];unfold Ay;rw [decide_eq_true (show t.kind≥1 by omega),decide_eq_true (show t.kind≤8 by omega)];simp only [Bool.or_eq_false_iff]at h2;have hn:t.es.length=if t.kind=3 then 2 else 1:=by
  have h:=h2.2;simp only [Bool.not_eq_false',decide_eq_true_eq]at h;split at h<;>rename_i h6
  ·rw [aw h6];omega
  ·rw [ai h6];omega
 rw [decide_eq_true hn];have hnm:(if t.kind=1∨t.kind=2 then cu t.name else decide (t.name=bD))=true:=by
  by_cases hk:t.kind=1∨t.kind=2
  ·have hk2:(decide (t.kind=1) || decide (t.kind=2))=true:=by simpa using hk
   have h:=h2.1.1;rw [hk2]at h;rw [aw hk];simpa using h
  ·have hk2:(decide (t.kind=1) || decide (t.kind=2))=false:=by simpa using hk
   have h:=h2.1.2;rw [hk2]at h;rw [ai hk];have h7:(t.name==⟨#[]⟩)=true:=by simpa using h
   rw [gt]at h7;exact h7
 rw [hnm];by_cases h8:t.kind=4
 ·rw [decide_eq_true h8];rfl
 ·rw [decide_eq_false h8]at h3;simp only [Bool.not_false,Bool.true_and,Bool.or_eq_false_iff]at h3;have h9:t.els.length=0:=by
   have h:=dk h3.1;omega
  rw [decide_eq_true h9];by_cases h10:t.kind=5
  ·rw [decide_eq_true h10];simp
  ·have h:=h3.2;rw [decide_eq_false h10]at h;have h11:t.body.length=0:=by
    have h:=dk (show decide ((t.body.length:Int)>0)=false by simpa using h);omega
   rw [decide_eq_true h11];simp
theorem DD(v:SV)(l:List Ty)(hl:l.length≤1000000)(hg:GYs l)(ih:∀u∈l,OZ u.vb u.body∧OZ u.vl u.els):
  bi prog 103 [sv v] [] [b_ v l] (.bool (l.all rY)) []:=by
 refine aM func103 J ntmps103 J fun w0 M H=>bc 0 1 J hZ (ar (aq J (aa (aV (aq J (aa (aC (bI (X:=Nat) (fun i=>i≤l.length∧(l.take i).all rY=true) (fun i=> [(0,sv v),(3,I6 (i:Int))]) (fun i=> []) (fun i=> [(0,b_ v l),(1,sl 5 dM (sv v) l)]) (fun i=>l.length-i) 0 ⟨bq _,J⟩ J J J (fun i hx0=> ?_)))))))))
 obtain⟨n1,n2⟩:=hx0;refine aV (ad J (ad J (aS (aL underlying62 J (aN (k:=1) J)) (av J J cy (aa (am J (fun h1=> ?_) (fun h1=> ?_)))))))
 ·(try simp only [bk]at h1);have hi:i<l.length:=by omega
  obtain⟨st,hst⟩:∃k,l[i]?=some k:=⟨_,bT hi⟩
  have hsm:=cd hst;have hsg:=oM (hg.mem st hsm);refine bc 0 7 J (lF hsm) (bc 0 8 J (iv hsm) (bc 0 9 J (ji hsm) (bc 7 10 J gE (bc 8 11 J hZ (bc 9 12 J hZ (aA (aZ (aC (ar (ad J (ad J (aS (aK (j:=i) underlying62 cr J J (aN (k:=1) J) (by first|rfl|omega) (by first|omega|(simp;done)|(simp;omega))) (aS (aJ cr J J J (bJ (aN (k:=1) J) (by intro _;rfl) hst (by rfl))) (aX cr J J fun b4=>au (k:=4) cr J J J J J J (aa (aZ (aZ ?_)))))))))))))))));refine ap (aD fj J (aT 4 t3 J J J J (av J J cy (ad J (aI [] J J O (fun hg2=>ah fj J) J (aI [(26,_)] J J ⟨J,O⟩ (fun hg3=>ae t3 J J (ax (k:=4) J J)) J (aI [(26,_),(27,_)] J J ⟨J,J,O⟩ (fun hg4=>aU J J fh) J (aS (bK J J J) (aa (am J (fun h5=> ?_) (fun h5=> ?_)))))))))))
  ·(try simp only [bk]at h5);have q2:=h5;refine ar (aq J (aa (az (aQ () O J (cc (aP J)) (congrArg Value.bool (k_ hsm (Pe q2)).symm) [] [] J J J))))
  ·(try simp only [bk]at h5);have q2:=h5;refine aA (ar (aD fj J (aT 4 t3 J J J J (av J J br (ad J (aI [] J J O (fun hg6=>ah fj J) J (aI [(34,_)] J J ⟨J,O⟩ (fun hg7=>ae t3 J J (ax (k:=4) J J)) J (aI [(34,_),(35,_)] J J ⟨J,J,O⟩ (fun hg8=>aU J J br) J (aS (bK J J J) (aq J (aF J (aD jH J (aT 4 t9 J J J J (ak (xs:= [.tmp 39]) (jW st.name) Bz [] [] [] (fun _ _=>aq J (aa ?_))))))))))))))));refine ar (aq J (aa (bz (X:=Unit) (fun _=>True) (fun _=> [(0,sv v),(3,I6 (i:Int)),(4,Pt b4),(5,.bool (decide (st.kind=1) || decide (st.kind=2))),(6,.bool (cu st.name)),(7,I6 (if st.kind=3 then 2 else 1))]) (fun _=> [(4,be b4 64 (dM st))]) (fun _=> [(0,b_ v l),(1,sl 5 dM (sv v) l),(7,cm st.ve st.es),(8,b_ st.vb st.body),(9,b_ st.vl st.els),(10,sl 4 dB (sv st.ve) st.es),(11,sl 5 dM (sv st.vb) st.body),(12,sl 5 dM (sv st.vl) st.els)]) ?_ (fun _ _=> ?_))))
   ·refine ar (aD fj J (aT 4 t3 J J J J (av J J br (aa (am J (fun h9=> ?_) (fun h9=> ?_))))))
    ·have q3:st.kind=3:=cH h9;refine ap (aq J (aa (aG () O (by rw [aw q3];rfl) J J)))
    ·have q3:¬st.kind=3:=dk h9;refine aA (aG () O (by rw [ai q3];rfl) J J)
   ·refine aV (ad J (ad J (aI [] J J O (fun hg10=>aY J) J (aI [(46,_)] J J ⟨J,O⟩ (fun hg11=>cZ J) J (aS (bK J J J) (ad J (aI [] J J O (fun hg12=>aY J) J (aI [(50,_)] J J ⟨J,O⟩ (fun hg13=>cZ J) J (aI [(50,_),(51,_)] J J ⟨J,J,O⟩ (fun hg14=>aY J) J (cG [] [(50,_),(51,_),(52,_)] J J O ⟨J,J,J,O⟩ (fun hg15 hg15'=>ah jH J) J (cG [(53,_)] [(50,_),(51,_),(52,_)] J J ⟨J,O⟩ ⟨J,J,J,O⟩ (fun hg16 hg16'=>ae t9 J J (ax (k:=4) J J)) J (cG [(53,_),(54,_)] [(50,_),(51,_),(52,_)] J J ⟨J,J,O⟩ ⟨J,J,J,O⟩ (fun hg17 hg17'=>aU J J OE) J (aI [(50,_),(51,_),(52,_)] J J ⟨J,J,J,O⟩ (fun hg18=>e9 J J J (by first|exact dU|exact ez|exact dh hg18|exact dK hg18|rfl)) J (aS (bK J J J) (ad J (aI [] J J O (fun hg19=>ah ie J) J (aI [(59,_)] J J ⟨J,O⟩ (fun hg20=>ae jM J J (ax (k:=4) J J)) J ?_)))))))))))))))));refine aI [(59,_),(60,_)] J J ⟨J,J,O⟩ (fun hg21=>aL underlying59 J (aN (k:=10) J)) J (aI [(59,_),(60,_),(61,_)] J J ⟨J,J,J,O⟩ (fun hg22=>aY J) J (aI [(59,_),(60,_),(61,_),(62,_)] J J ⟨J,J,J,J,O⟩ (fun hg23=>aU J J gj) J (aS (bK J J J) (aa (am J (fun h24=> ?_) (fun h24=> ?_))))))
    ·have q4:=h24;refine ar (aq J (aa (az (aQ () O J (cc (aP J)) (congrArg Value.bool (k_ hsm (Pd q4)).symm) [] [] J J J))))
    ·have q4:=h24;have hes:(st.es.length:Int)=if st.kind=3 then 2 else 1:=by
      have h:=(Bool.or_eq_false_iff.1 q4).2;simpa using h
     rw [←hes];refine aA (aV (aD fj J (aT 4 t3 J J J J (av J J gj (ad J (aI [] J J O (fun hg25=>ah fK J) J (aI [(69,_)] J J ⟨J,O⟩ (fun hg26=>ae eR J J (ax (k:=4) J J)) J (aI [(69,_),(70,_)] J J ⟨J,J,O⟩ (fun hg27=>aL underlying62 J (aN (k:=12) J)) J (aI [(69,_),(70,_),(71,_)] J J ⟨J,J,J,O⟩ (fun hg28=>aU J J fh) J (aI [(69,_),(70,_),(71,_),(72,_)] J J ⟨J,J,J,J,O⟩ (fun hg29=>aY J) J (cG [] [(69,_),(70,_),(71,_),(72,_),(73,_)] J J O ⟨J,J,J,J,J,O⟩ (fun hg30 hg30'=>ah fj J) J (cG [(74,_)] [(69,_),(70,_),(71,_),(72,_),(73,_)] J J ⟨J,O⟩ ⟨J,J,J,J,J,O⟩ (fun hg31 hg31'=>ae t3 J J (ax (k:=4) J J)) J (cG [(74,_),(75,_)] [(69,_),(70,_),(71,_),(72,_),(73,_)] J J ⟨J,J,O⟩ ⟨J,J,J,J,J,O⟩ (fun hg32 hg32'=>aU J J gj) J (cG [(74,_),(75,_),(76,_)] [(69,_),(70,_),(71,_),(72,_),(73,_)] J J ⟨J,J,J,O⟩ ⟨J,J,J,J,J,O⟩ (fun hg33 hg33'=>aY J) J (cG [] [(74,_),(75,_),(76,_),(77,_)] J J O ⟨J,J,J,J,O⟩ (fun hg34 hg34'=>ah fV J) J (cG [(78,_)] [(74,_),(75,_),(76,_),(77,_)] J J ⟨J,O⟩ ⟨J,J,J,J,O⟩ (fun hg35 hg35'=>ae eR J J (ax (k:=4) J J)) J (cG [(78,_),(79,_)] [(74,_),(75,_),(76,_),(77,_)] J J ⟨J,J,O⟩ ⟨J,J,J,J,O⟩ (fun hg36 hg36'=>aL underlying62 J (aN (k:=11) J)) J ?_)))))))))))))))));refine cG [(78,_),(79,_),(80,_)] [(74,_),(75,_),(76,_),(77,_)] J J ⟨J,J,J,O⟩ ⟨J,J,J,J,O⟩ (fun hg37 hg37'=>aU J J fh) J (cG [(74,_),(75,_),(76,_),(77,_)] [(69,_),(70,_),(71,_),(72,_),(73,_)] J J ⟨J,J,J,J,O⟩ ⟨J,J,J,J,J,O⟩ (fun hg38 hg38'=>e9 J J J (by first|exact dU|exact ez|exact dh hg38|exact dK hg38|exact dh (BC hg38 hg38')|exact dK (BC hg38 hg38')|rfl)) J (aI [(69,_),(70,_),(71,_),(72,_),(73,_)] J J ⟨J,J,J,J,J,O⟩ (fun hg39=>e9 J J J (by first|exact dU|exact ez|exact dh hg39|exact dK hg39|rfl)) J (aS (bK J J J) (aa (am J (fun h40=> ?_) (fun h40=> ?_))))))
     ·have q5:=h40;refine ar (aq J (aa (az (aQ () O J (cc (aP J)) (congrArg Value.bool (k_ hsm (Pi q5)).symm) [] [] J J J))))
     ·have q5:=h40;refine aA (aV (aq J (aa (aC (bI (X:=Nat) (fun j=>j≤st.es.length∧(st.es.take j).all rX=true) (fun j=> [(0,sv v),(3,I6 (i:Int)),(4,Pt b4),(7,I6 (st.es.length:Int)),(8,I6 (j:Int))]) (fun j=> [(4,be b4 64 (dM st))]) (fun j=> [(0,b_ v l),(1,sl 5 dM (sv v) l),(7,cm st.ve st.es),(8,b_ st.vb st.body),(9,b_ st.vl st.els),(10,sl 4 dB (sv st.ve) st.es),(11,sl 5 dM (sv st.vb) st.body),(12,sl 5 dM (sv st.vl) st.els)]) (fun j=>st.es.length-j) 0 ⟨bq _,J⟩ J J J (fun j hy0=> ?_))))));obtain⟨n3,n4⟩:=hy0;refine aV (ad J (ad J (av J J cy (aa (am J (fun h41=> ?_) (fun h41=> ?_))))))
      ·(try simp only [bk]at h41);have hj:j<st.es.length:=by omega
       obtain⟨u,hu⟩:∃k,st.es[j]?=some k:=⟨_,bT hj⟩
       have hum:=cd hu;refine aA (aZ (aC (ar (aD ie J (aT 4 jM J J J J (ad J (aS (aK (j:=j) underlying59 ca J J (aN (k:=10) J) (by first|rfl|omega) hj) (aS (aJ ca J J J (bJ (aN (k:=10) J) (by intro _;rfl) hu (by rfl))) (bc 7 13 J (eb hum) (ak (xs:= [.tmp 94]) (DI u (hsg.2.mem u hum)) Jk [] [(false,13)] [] (fun _ _=>aq J (aF J (ad J (aS (cZ J) (aa (am J (fun h42=> ?_) (fun h42=> ?_)))))))))))))))))
       ·have q7:rX u=false:=by simpa using h42
        refine ar (aq J (aa (az (aQ () O J (cc (aP J)) (congrArg Value.bool (k_ hsm (Pg hum q7)).symm) [] [] J J J))))
       ·have q7:rX u=true:=by simpa using h42
        refine aA (ap (ad J (av J J aO (aq J (aa ?_)))));refine aG (j+1) ⟨⟨by omega,by rw [oK hu,n4,q7];rfl⟩,by omega⟩ J J J
      ·(try simp only [bk]at h41);have hj:j=st.es.length:=by omega
       subst hj;rw [cV]at n4;refine bM (ar (aD fV J (aT 4 eR J J J J (ak (xs:= [.tmp 99]) (ih st hsm).1 FH [] [(false,8)] [] (fun _ _=>aq J (aF J (aD fK J (aT 4 eR J J J J (ak (xs:= [.tmp 102]) (ih st hsm).2 FH [] [(false,9)] [] (fun _ _=>aq J (aF J (ad J (aS (cZ J) (ad J ?_))))))))))))));refine aI [] J J O (fun hg43=>aY J) J (aI [(107,_)] J J ⟨J,O⟩ (fun hg44=>cZ J) J (aS (bK J J J) (aa (am J (fun h45=> ?_) (fun h45=> ?_)))))
       ·(try simp only [bk]at h45);have q8:=h45;refine ar (aq J (aa (az (aQ () O J (cc (aP J)) (congrArg Value.bool (k_ hsm (Pc q8)).symm) [] [] J J J))))
       ·(try simp only [bk]at h45);have q8:=h45;refine aA (ap (ad J (av J J aO (aq J (aa ?_)))));refine aG (i+1) ⟨⟨by omega,by rw [oK hst,n2,MB q2 q4 q5 n4 q8];rfl⟩,by omega⟩ J J J
 ·(try simp only [bk]at h1);have hi:i=l.length:=by omega
  subst hi;rw [cV]at n2;refine bM (ar (aq J (aa (az (aQ () O J (cc (aP J)) (congrArg Value.bool n2.symm) [] [] J J J)))))
theorem uN:∀(n:Nat)(v:SV)(l:List Ty),SizeOf.sizeOf l<n→l.length≤1000000→GYs l→OZ v l
 | 0,_,_,h,_,_=>absurd h (Nat.not_lt_zero _)
 | n+1,v,l,h,hl,hg=>DD v l hl hg fun u hu=>by
  have h1:=List.sizeOf_lt_of_mem hu;have h2:SizeOf.sizeOf u.body<SizeOf.sizeOf u∧SizeOf.sizeOf u.els<SizeOf.sizeOf u:=by
   cases u;simp only [Ty.mk.sizeOf_spec,Ty.body,Ty.els];omega
  have h3:=hg.mem u hu;exact⟨uN n u.vb u.body (by omega) (ff h3).1 (ff h3).2,uN n u.vl u.els (by omega) (gk h3).1 (gk h3).2⟩
theorem DE(v:SV)(l:List Ty)(hl:l.length≤1000000)(hg:GYs l):OZ v l:=uN _ v l (Nat.lt_succ_self _) hl hg
theorem uZ(f:Tf):rF f=(f.ps.all cu&&cu f.name&&f.body.all rY):=by unfold rF;rw [kK]
theorem ME{f:Tf}(h:cu f.name=false∨f.body.all rY=false):rF f=false:=by
 rw [uZ];rcases h with h|h<;>rw [h]<;>simp
theorem Pm{f:Tf}{x:Ba}(hm:x∈f.ps)(h:cu x=false):rF f=false:=by
 rw [uZ,k_ hm h];rfl
theorem wC(vp:SV)(fs:List Tf)(hg:GP fs):
  bi prog 56 [.agg #[sv vp]] [] [cE vp fs] (.bool (rP fs)) []:=by
 refine aM func56 J ntmps56 J fun w0 M H=>bc 0 1 J jw ?_
 have hgl:=hg.1;refine ar (cA J J fun b1=>aq J (aa (aV (aq J (aa (aC (bI (X:=Nat) (fun i=>i≤fs.length∧(fs.take i).all rF=true) (fun i=> [(1,Pt b1),(3,I6 (i:Int))]) (fun i=> [(1,be b1 27 [sv vp])]) (fun i=> [(0,cE vp fs),(1,sl 3 gu (sv vp) fs)]) (fun i=>fs.length-i) 0 ⟨bq _,J⟩ J J J (fun i hx0=> ?_))))))));obtain⟨n1,n2⟩:=hx0;refine aV (ad J (aD dx J (aT 1 ip J J J J (aS (aL underlying25 J (aN (k:=1) J)) (av J J cy (aa (am J (fun h1=> ?_) (fun h1=> ?_))))))))
 ·(try simp only [bk]at h1);have hi:i<fs.length:=by omega
  obtain⟨f,hf⟩:∃k,fs[i]?=some k:=⟨_,bT hi⟩
  have hfm:=cd hf;have hgf:=hg.2 f hfm;have hpl:=hgf.2.2.1;refine bc 0 7 J (lI hfm) (bc 7 8 J lJ (aA (aZ (aC (ar (aD dx J (aT 1 ip J J J J (ad J (aS (aK (j:=i) underlying25 fC J J (aN (k:=1) J) (by first|rfl|omega) (by first|omega|(simp;done)|(simp;omega))) (aS (aJ fC J J J (bJ (aN (k:=1) J) (by intro _;rfl) hf (by rfl))) (aX fC J J fun b4=>au (k:=4) fC J J J J J J (aF J (aD jG J (aT 4 t9 J J J J (ak (xs:= [.tmp 22]) (jW f.name) Bz [] [] [] (fun _ _=> ?_))))))))))))))));refine aq J (aF J (aD bX J (aT 4 eR J J J J (bc 7 9 J kF (ak (xs:= [.tmp 25]) (DE f.vb f.body hgf.2.2.2.1 hgf.2.2.2.2.1) FH [] [(false,9)] [] (fun _ _=>aq J (aa (aV (ad J (aS (cZ J) (ad J (aI [] J J O (fun hg2=>aY J) J (aI [(30,_)] J J ⟨J,O⟩ (fun hg3=>cZ J) J (aS (bK J J J) (aa ?_)))))))))))))));refine am J (fun h4=> ?_) (fun h4=> ?_)
  ·(try simp only [bk]at h4);have q2:=h4;refine ar (aq J (aa (az (aQ () O J (cc (aP J)) (congrArg Value.bool (show false=rP fs from(k_ (p:=rF) hfm (ME q2)).symm)) [] [] J J J))))
  ·(try simp only [bk]at h4);have q2:=h4;refine aA (ar (aq J (aa (aC (bI (X:=Nat) (fun j=>j≤f.ps.length∧(f.ps.take j).all cu=true) (fun j=> [(1,Pt b1),(3,I6 (i:Int)),(4,Pt b4),(7,I6 (j:Int))]) (fun j=> [(1,be b1 27 [sv vp]),(4,be b4 66 (gu f))]) (fun j=> [(0,cE vp fs),(1,sl 3 gu (sv vp) fs),(7,CQ f),(8,sl 1 eS (sv f.vp) f.ps)]) (fun j=>f.ps.length-j) 0 ⟨bq _,J⟩ J J J (fun j hy0=> ?_))))));obtain⟨n3,n4⟩:=hy0;refine aV (ad J (aD dW J (aT 4 h_ J J J J (aS (aL underlying46 J (aN (k:=8) J)) (av J J cy (aa (am J (fun h5=> ?_) (fun h5=> ?_))))))))
   ·(try simp only [bk]at h5);have hj:j<f.ps.length:=by omega
    obtain⟨x,hx⟩:∃k,f.ps[j]?=some k:=⟨_,bT hj⟩
    have hxm:=cd hx;refine aA (aZ (aC (ar (aD dW J (aT 4 h_ J J J J (ad J (aS (aK (j:=j) underlying46 t9 J J (aN (k:=8) J) (by first|rfl|omega) (by first|omega|(simp;done)|(simp;omega))) (aS (ae t9 J J (bJ (aN (k:=8) J) (by intro _;rfl) hx (by rfl))) (ak (xs:= [.tmp 44]) (jW x) Bz [] [] [] (fun _ _=>aq J (aF J (ad J (aS (cZ J) (aa (am J (fun h6=> ?_) (fun h6=> ?_))))))))))))))))
    ·have q4:cu x=false:=by simpa using h6
     refine ar (aq J (aa (az (aQ () O J (cc (aP J)) (congrArg Value.bool (show false=rP fs from(k_ (p:=rF) hfm (Pm hxm q4)).symm)) [] [] J J J))))
    ·have q4:cu x=true:=by simpa using h6
     refine aA (ap (ad J (av J J aO (aq J (aa ?_)))));refine aG (j+1) ⟨⟨by omega,by rw [oK hx,n4,q4];rfl⟩,by omega⟩ J J J
   ·(try simp only [bk]at h5);have hj:j=f.ps.length:=by omega
    subst hj;rw [cV]at n4;refine bM (ap (ad J (av J J aO (aq J (aa ?_)))));refine aG (i+1) ⟨⟨by omega,by rw [oK hf,n2,uZ,n4,q2.1,q2.2];rfl⟩,by omega⟩ J J J
 ·(try simp only [bk]at h1);have hi:i=fs.length:=by omega
  subst hi;rw [cV]at n2;refine bM (ar (aq J (aa (az (aQ () O J (cc (aP J)) (congrArg Value.bool n2.symm) [] [] J J J)))))
def zR(n v s e:Int):List Value:= [I6 n,I6 v,I6 s,I6 e]
abbrev zV(n v s e:Int):Value:= .agg #[I6 n,I6 v,I6 s,I6 e]
theorem CX{n v s e n' v' s' e':Int}(h1:n=n')(h2:v=v')(h3:s=s')(h4:e=e'):zR n v s e=zR n' v' s' e':=by rw [h1,h2,h3,h4]
abbrev sm(n:Int):Prop:=0≤n∧n≤1000000000000
mutual
def dS:Ty→Nat
 | .mk _ _ _ _ _ body _ els=>max (jS body) (jS els)+1
def jS:List Ty→Nat
 | []=>0
 | t::r=>max (dS t) (jS r)
end
mutual
def dq:Ty→Nat
 | .mk _ _ _ es _ body _ els=>max (max (jr body) (jr els)) (gC es)
def jr:List Ty→Nat
 | []=>0
 | t::r=>max (dq t) (jr r)
end
theorem Br:∀a b:List Ty,jS (a++b)=max (jS a) (jS b)
 | [],b=>by simp [jS]
 | t::r,b=>by simp only [List.cons_append,jS,Br r b];omega
theorem Bo:∀a b:List Ty,jr (a++b)=max (jr a) (jr b)
 | [],b=>by simp [jr]
 | t::r,b=>by simp only [List.cons_append,jr,Bo r b];omega
theorem Fi{l:List Ty}{i:Nat}{k:Ty}(h:l[i]?=some k):jS (l.take (i+1))=max (jS (l.take i)) (dS k):=by
 rw [cw h,Br];show max _ (max (dS k) 0)=_;omega
theorem Fb{l:List Ty}{i:Nat}{k:Ty}(h:l[i]?=some k):jr (l.take (i+1))=max (jr (l.take i)) (dq k):=by
 rw [cw h,Bo];show max _ (max (dq k) 0)=_;omega
theorem I1(t:Ty):dS t=max (jS t.body) (jS t.els)+1:=by cases t;rfl
theorem Ns(t:Ty):dq t=max (max (jr t.body) (jr t.els)) (gC t.es):=by cases t;rfl
theorem Ef(t:Tx):nX t=eH t.kids+1∧dX t=gC t.kids+1:=by cases t;exact⟨rfl,rfl⟩
theorem yN(t:Ty):nY t=1+eH t.es+cM t.body+cM t.els:=by cases t;rfl
theorem Dd(t:Ty):vY t=(if t.kind=1 then 1 else 0)+dD t.body+dD t.els:=by cases t;rfl
mutual
theorem Nv:∀t:Ty,dS t≤nY t∧dq t≤nY t
 | .mk _ _ _ es _ body _ els=>by
  have h1:=nz body;have h2:=nz els;have h3:=sN es;rw [dS,dq,nY];omega
theorem nz:∀l:List Ty,jS l≤cM l∧jr l≤cM l
 | []=>by rw [jS,jr,cM];omega
 | t::r=>by
  have h1:=Nv t;have h2:=nz r;rw [jS,jr,cM];omega
end
mutual
theorem Lf:∀(d:Nat)(t:Ty),CT d t=true↔d+dS t>9∨dq t>8
 | d,.mk k nm v es vb body vl els=>by
  rw [CT,dS,dq];simp only [Bool.or_eq_true,decide_eq_true_eq];rw [q_ (d+1) body,q_ (d+1) els];omega
theorem q_:∀(d:Nat)(l:List Ty),dY d l=true↔(0<jS l∧d+jS l>9)∨jr l>8
 | d,[]=>by rw [dY,jS,jr];simp
 | d,t::r=>by
  rw [dY,jS,jr,Bool.or_eq_true,Lf d t,q_ d r];have h1:0<dS t:=by rw [I1];omega
  omega
end
theorem BB(f:Tf):rc f↔f.ps.length>4∨f.ps.length+dD f.body>12∨cM f.body>400∨jS f.body>8∨jr f.body>8:=by
 unfold rc;rw [q_];omega
def OX(v:SV)(l:List Ty):Prop:=bi prog 58 [sv v] [] [b_ v l] (zV (cM l:Int) (dD l:Int) (jS l:Int) (jr l:Int)) []
def QN(t:Tx):Prop:=bi prog 105 [xV t] [] [cm t.v t.kids] (zV (nX t:Int) 0 0 (dX t:Int)) []
theorem iH(a b c d a2 b2 c2 d2:Int)(h1:sm a)(h2:sm b)(h3:sm a2)(h4:sm b2):
  bi prog 104 [zV a b c d,zV a2 b2 c2 d2] [] [] (zV (a+a2) (b+b2) (max c c2) (max d d2)) []:=by
 refine aM func104 J ntmps104 J fun w0 M H=>ar (cA J J fun b2=>cA J J fun b3=>aX gh J J fun b4=>aF J (aD kR J (aT 2 t3 J J J J (aD kR J (aT 3 t3 J J J J (av J J aO (aD oy J (aT 2 t3 J J J J (aD oy J (aT 3 t3 J J J J (av J J aO (aD ox J ?_))))))))))))
 refine aT 2 t3 J J J J (aD ox J (aT 3 t3 J J J J (aS (rO J J J) (aD ow J (aT 2 t3 J J J J (aD ow J (aT 3 t3 J J J J (aS (rO J J J) (aS (aR (parts:= [(0,.tmp 9),(1,.tmp 14),(2,.tmp 19),(3,.tmp 24)]) gh DX J J) (au (k:=4) gh J J J J J J (aa (az (aQ () O J (cc (bp gh J J J (a_ (k:=4) J))) J [] [] J J J)))))))))))))
theorem tC(t:Tx)(ht:nX t≤1000000)(hkl:t.kids.length≤1000000)(ih:∀u∈t.kids,QN u):
  bi prog 105 [xV t] [] [cm t.v t.kids] (zV (nX t:Int) 0 0 (dX t:Int)) []:=by
 refine aM func105 J ntmps105 J fun w0 M H=>bc 0 1 J gE ?_
 obtain⟨hn1,hn2⟩:=Ef t;have hdxl:=sN t.kids;refine ar (cA J J fun b1=>aX gh J J fun b2=>aF J (aS (aR (parts:= []) gh DX J J) (aX gh J J fun b3=>au (k:=3) gh J J J J J J (aa (aV (aq J (aa (aC (bI (X:=Nat) (fun i=>i≤t.kids.length) (fun i=> [(1,Pt b1),(2,Pt b2),(3,Pt b3),(4,I6 (i:Int))]) (fun i=> [(1,be b1 61 (dB t)),(2,be b2 124 (zR 0 0 0 0)),(3,be b3 124 (zR (eH (t.kids.take i):Int) 0 0 (gC (t.kids.take i):Int)))]) (fun i=> [(0,cm t.v t.kids),(1,sl 4 dB (sv t.v) t.kids)]) (fun i=>t.kids.length-i) 0 (bq _) J J J (fun i n1=>aZ (aZ ?_)))))))))));refine ap (ad J (aD dT J (aT 1 jM J J J J (aS (aL underlying59 J (aN (k:=1) J)) (av J J cy (aa (am J (fun h1=> ?_) (fun h1=> ?_))))))))
 ·(try simp only [bk]at h1);have hi:i<t.kids.length:=by omega
  obtain⟨u,hu⟩:∃u,t.kids[i]?=some u:=⟨_,bT hi⟩
  have hum:=cd hu;refine bc 0 7 J (eb hum) ?_;have hle:=lT t.kids (i+1);rw [ft hu]at hle;have hdu:=xr u;refine aA (aZ (aC ?_));refine bQ [13,14,15,16,17,18,19,20] _ J (aW (V:= [(0,13,_),(1,14,_),(2,15,_),(3,16,_),(4,17,_),(5,18,_)]) [0,1,2,3,4,5] 6 [6,5,4,3,2,1] [] (fun _=> []) J J (ac J (aJ gh J J J (a_ (k:=3) J)) (ac J (ah dT J) (ac J (ae jM J J (ax (k:=1) J J)) (ay J J (ac J (aK (j:=i) underlying59 ca J J (aN (k:=1) J) (by first|rfl|omega) (by first|omega|(simp;done)|(simp;omega))) (ac J (aJ ca J J J (bJ (aN (k:=1) J) (by intro _;rfl) hu (by rfl))) ag)))))) J J J J J J J J J J J (fun _ _=>J) J (bw (xs:= [.tmp 18]) (ih u hum) Js [] [(false,7)] []) (fun _ _=>aW [0] 7 [7,6,5,4,3,2,1,0] [] (fun _=> []) J J (ac J (aJ gh J J J (a_ (k:=3) J)) ag) J J J J J J J J J J J (fun _ _=>J) J (bw (xs:= [.tmp 13,.tmp 19]) (iH (eH (t.kids.take i):Int) 0 0 (gC (t.kids.take i):Int) (nX u:Int) 0 0 (dX u:Int) ⟨by omega,by omega⟩ ⟨by omega,by omega⟩ ⟨by omega,by omega⟩ ⟨by omega,by omega⟩) sX [] [] []) (fun _ _=>bH [] 8 [8,7,6,5,4,3,2,1,0] [] (fun _=> []) J J ag J J J J J J J J J (fun _ _=>J) J (bL (k:=3) gh J J J J J J) (fun _ _=>bn [] J J ag J J J ?_))));refine ap (ad J (av J J aO (aq J (aa ?_))));refine aG (i+1) ⟨by omega,by omega⟩ J (by rw [CX (n:=((eH (t.kids.take (i+1)):Nat):Int)) (n':=(eH (t.kids.take i):Int)+(nX u:Int)) (e':=max (gC (t.kids.take i):Int) (dX u:Int)) (e:=((gC (t.kids.take (i+1)):Nat):Int)) (by rw [ft hu,Int.natCast_add]) (show(0:Int)=0+0 from J) (show(0:Int)=max 0 0 from J) (by rw [lY hu];omega)];rfl) J
 ·(try simp only [bk]at h1);have hi:i=t.kids.length:=by omega
  subst hi;rw [cV];refine bM (ar (aD kR J (aT 3 t3 J J J J (av J J aO (aD kR J (aB (k:=3) t3 J J J J J J J J (aF J (aD ow J (aT 3 t3 J J J J (av J J aO (aD ow J (aB (k:=3) t3 J J J J J J J J (aF J (aS (aJ gh J J J (a_ (k:=3) J)) ?_))))))))))))));refine au (k:=2) gh J J J J J J (aa (az ?_));have hfin:zV ((eH t.kids:Int)+1) 0 0 ((gC t.kids:Int)+1)=zV (nX t:Int) 0 0 (dX t:Int):=by rw [hn1,hn2];rfl
  refine aQ () O J (cc (bp gh J J J (a_ (k:=2) J))) (by rw [←hfin];rfl) [] [] J J J
theorem oD:∀(n:Nat)(t:Tx),SizeOf.sizeOf t<n→GX t→nX t≤1000000→QN t
 | 0,_,h,_,_=>absurd h (Nat.not_lt_zero _)
 | n+1,t,h,ht,hn=>tC t hn (l8 ht) fun u hu=>oD n u (by have:=pJ hu;omega) ((ka ht).mem u hu) (by
  obtain⟨i,hi⟩:=List.getElem?_of_mem hu;have hle:=lT t.kids (i+1);rw [ft hi]at hle;have:=(Ef t).1;omega)
theorem tD(t:Tx)(ht:GX t)(hn:nX t≤1000000):QN t:=oD _ t (Nat.lt_succ_self _) ht hn
theorem tj(v:SV)(l:List Ty)(hn:cM l≤1000000)(hl:l.length≤1000000)(hg:GYs l)(ih:∀u∈l,OX u.vb u.body∧OX u.vl u.els):
  bi prog 58 [sv v] [] [b_ v l] (zV (cM l:Int) (dD l:Int) (jS l:Int) (jr l:Int)) []:=by
 refine aM func58 J ntmps58 J fun w0 M H=>bc 0 1 J hZ (ar (aX gh J J fun b2=>aF J (aS (aR (parts:= []) gh DX J J) (aX gh J J fun b3=>au (k:=3) gh J J J J J J (aa (aV (aq J (aa (aC (bI (X:=Nat) (fun i=>i≤l.length) (fun i=> [(0,sv v),(2,Pt b2),(3,Pt b3),(4,I6 (i:Int))]) (fun i=> [(2,be b2 124 (zR 0 0 0 0)),(3,be b3 124 (zR (cM (l.take i):Int) (dD (l.take i):Int) (jS (l.take i):Int) (jr (l.take i):Int)))]) (fun i=> [(0,b_ v l),(1,sl 5 dM (sv v) l)]) (fun i=>l.length-i) 0 (bq _) J J J (fun i n1=>aZ ?_)))))))))))
 refine ar (ad J (ad J (aS (aL underlying62 J (aN (k:=1) J)) (av J J cy (aa (am J (fun h1=> ?_) (fun h1=> ?_)))))))
 ·(try simp only [bk]at h1);have hi:i<l.length:=by omega
  obtain⟨st,hst⟩:∃k,l[i]?=some k:=⟨_,bT hi⟩
  have hsm:=cd hst;have hsg:=oM (hg.mem st hsm);have hle:=no l (i+1);rw [iT hst]at hle;have hny:=yN st;have hvy:=Db st;have hva:=iZ (l.take i);have hvb:=iZ st.body;have hvs:=iZ st.els;have hvy2:(vY st:Int)=((dD st.body:Int)+(dD st.els:Int))+(if st.kind=1 then 1 else 0:Int):=by
   rw [Dd];split<;>omega
  have hki:0≤(if st.kind=1 then 1 else 0:Int)∧(if st.kind=1 then 1 else 0:Int)≤1:=by split<;>omega
  have hdsb:=nz st.body;have hdse:=nz st.els;have hdsi:=nz (l.take i);have hnl:=no l i;have hdxe:=sN st.es;refine bc 0 7 J (lF hsm) (bc 0 8 J (iv hsm) (bc 0 9 J (ji hsm) (bc 7 10 J gE (aA (aZ (aC (ar (ad J (ad J (aS (aK (j:=i) underlying62 cr J J (aN (k:=1) J) (by first|rfl|omega) (by first|omega|(simp;done)|(simp;omega))) (aS (aJ cr J J J (bJ (aN (k:=1) J) (by intro _;rfl) hst (by rfl))) (aX cr J J fun b5=>au (k:=5) cr J J J J J J (aa (bz (X:=Nat) (fun _=>True) (fun y=> [(0,sv v),(2,Pt b2),(3,Pt b3),(4,I6 (i:Int)),(5,Pt b5),(6,Pt y)]) (fun y=> [(2,be b2 124 (zR 0 0 0 0)),(3,be b3 124 (zR (cM (l.take i):Int) (dD (l.take i):Int) (jS (l.take i):Int) (jr (l.take i):Int))),(5,be b5 64 (dM st)),(6,be y 124 (zR ((cM st.body:Int)+(cM st.els:Int)) ((dD st.body:Int)+(dD st.els:Int)) (max (jS st.body:Int) (jS st.els:Int)) (max (jr st.body:Int) (jr st.els:Int))))]) (fun y=> [(0,b_ v l),(1,sl 5 dM (sv v) l),(7,cm st.ve st.es),(8,b_ st.vb st.body),(9,b_ st.vl st.els),(10,sl 4 dB (sv st.ve) st.es)]) ?_ (fun b6 _=> ?_)))))))))))))))
  ·refine bQ [19,20,21,22,23,24,25,6] _ J (fp (V:= [(0,19,_),(1,20,_),(3,22,_),(4,23,_)]) [0,1,3,4] J J (ac J (ah fV J) (ac J (ae eR J J (ax (k:=5) J J)) (ac J (ah fK J) (ac J (ae eR J J (ax (k:=5) J J)) ag)))) J [2,7] J J (bC (ea 2 [2,1,0] [] (fun _=> []) J J J J J J J J J (fun _ _=>J) J (bw (xs:= [.tmp 20]) (ih st hsm).1 CI [] [(false,8)] []) (fun _ _=>fp [3,4] J J (ac J (ah fK J) (ac J (ae eR J J (ax (k:=5) J J)) ag)) J [5,7] J J (bC (ea 5 [5,4,3,2,1,0] [] (fun _=> []) J J J J J J J J J (fun _ _=>J) J (bw (xs:= [.tmp 23]) (ih st hsm).2 CI [] [(false,9)] []) (fun _ _=>fp [] J J ag J [6,7] J J (bC (ea 6 [6,5,4,3,2,1,0] [] (fun _=> []) J J J J J J J J J (fun _ _=>J) J (fv (xs:= [.tmp 21,.tmp 24]) (iH _ _ _ _ _ _ _ _ ⟨by omega,by omega⟩ ⟨by omega,by omega⟩ ⟨by omega,by omega⟩ ⟨by omega,by omega⟩) sX [] [] [] J J J) (fun _ _=>aW [] 7 [7,6,5,4,3,2,1,0] [] (fun b6=> []) J J ag J J J J J J J J J J J (fun _ _=>J) J (d6 gh J) (fun b6 _=>bH [] 8 [8,7,6,5,4,3,2,1,0] [] (fun _=> []) J J ag J J J J J J J J J (fun _ _=>J) J (bL (k:=6) gh J J J J J J) (fun _ _=>bn [] J J ag J J J ?_)))) (bC (ea 7 [7,5,4,3,2,1,0] [] (fun b6=> []) J J J J J J J J J (fun _ _=>J) J (d6 gh J) (fun b6 _=>aW [] 6 [7,6,5,4,3,2,1,0] [] (fun _=> []) J J ag J J J J J J J J J J J (fun _ _=>J) J (fv (xs:= [.tmp 21,.tmp 24]) (iH _ _ _ _ _ _ _ _ ⟨by omega,by omega⟩ ⟨by omega,by omega⟩ ⟨by omega,by omega⟩ ⟨by omega,by omega⟩) sX [] [] [] J J J) (fun _ _=>bH [] 8 [8,7,6,5,4,3,2,1,0] [] (fun _=> []) J J ag J J J J J J J J J (fun _ _=>J) J (bL (k:=6) gh J J J J J J) (fun _ _=>bn [] J J ag J J J ?_)))) dv)))) (bC (ea 7 [7,2,1,0] [] (fun b6=> []) J J J J J J J J J (fun _ _=>J) J (d6 gh J) (fun b6 _=>aW [3,4] 5 [7,5,4,3,2,1,0] [] (fun _=> []) J J (ac J (ah fK J) (ac J (ae eR J J (ax (k:=5) J J)) ag)) J J J J J J J J J J J (fun _ _=>J) J (bw (xs:= [.tmp 23]) (ih st hsm).2 CI [] [(false,9)] []) (fun _ _=>aW [] 6 [7,6,5,4,3,2,1,0] [] (fun _=> []) J J ag J J J J J J J J J J J (fun _ _=>J) J (fv (xs:= [.tmp 21,.tmp 24]) (iH _ _ _ _ _ _ _ _ ⟨by omega,by omega⟩ ⟨by omega,by omega⟩ ⟨by omega,by omega⟩ ⟨by omega,by omega⟩) sX [] [] [] J J J) (fun _ _=>bH [] 8 [8,7,6,5,4,3,2,1,0] [] (fun _=> []) J J ag J J J J J J J J J (fun _ _=>J) J (bL (k:=6) gh J J J J J J) (fun _ _=>bn [] J J ag J J J ?_))))) dv)))) (bC (ea 7 [7] [] (fun b6=> []) J J J J J J J J J (fun _ _=>J) J (d6 gh J) (fun b6 _=>aW [0,1,3,4] 2 [7,2,1,0] [] (fun _=> []) J J (ac J (ah fV J) (ac J (ae eR J J (ax (k:=5) J J)) (ac J (ah fK J) (ac J (ae eR J J (ax (k:=5) J J)) ag)))) J J J J J J J J J J J (fun _ _=>J) J (bw (xs:= [.tmp 20]) (ih st hsm).1 CI [] [(false,8)] []) (fun _ _=>aW [3,4] 5 [7,5,4,3,2,1,0] [] (fun _=> []) J J (ac J (ah fK J) (ac J (ae eR J J (ax (k:=5) J J)) ag)) J J J J J J J J J J J (fun _ _=>J) J (bw (xs:= [.tmp 23]) (ih st hsm).2 CI [] [(false,9)] []) (fun _ _=>aW [] 6 [7,6,5,4,3,2,1,0] [] (fun _=> []) J J ag J J J J J J J J J J J (fun _ _=>J) J (fv (xs:= [.tmp 21,.tmp 24]) (iH _ _ _ _ _ _ _ _ ⟨by omega,by omega⟩ ⟨by omega,by omega⟩ ⟨by omega,by omega⟩ ⟨by omega,by omega⟩) sX [] [] [] J J J) (fun _ _=>bH [] 8 [8,7,6,5,4,3,2,1,0] [] (fun _=> []) J J ag J J J J J J J J J (fun _ _=>J) J (bL (k:=6) gh J J J J J J) (fun _ _=>bn [] J J ag J J J ?_)))))) dv)))
   ·refine aG b6 O J J J
   ·refine aG b6 O J J J
   ·refine aG b6 O J J J
   ·refine aG b6 O J J J
  ·refine ar (aD ox J (aT 6 t3 J J J J (av J J aO (aD ox J (aB (k:=6) t3 J J J J J J J J (aF J (aD kR J (aT 6 t3 J J J J (av J J aO (aD kR J (aB (k:=6) t3 J J J J J J J J (aa (bz (X:=Unit) (fun _=>True) (fun _=> [(0,sv v),(2,Pt b2),(3,Pt b3),(4,I6 (i:Int)),(5,Pt b5),(6,Pt b6)]) (fun _=> [(2,be b2 124 (zR 0 0 0 0)),(3,be b3 124 (zR (cM (l.take i):Int) (dD (l.take i):Int) (jS (l.take i):Int) (jr (l.take i):Int))),(5,be b5 64 (dM st)),(6,be b6 124 (zR ((cM st.body:Int)+(cM st.els:Int)+1) (((dD st.body:Int)+(dD st.els:Int))+(if st.kind=1 then 1 else 0:Int)) (max (jS st.body:Int) (jS st.els:Int)+1) (max (jr st.body:Int) (jr st.els:Int))))]) (fun _=> [(0,b_ v l),(1,sl 5 dM (sv v) l),(7,cm st.ve st.es),(8,b_ st.vb st.body),(9,b_ st.vl st.els),(10,sl 4 dB (sv st.ve) st.es)]) ?_ (fun _ _=> ?_))))))))))))))
   ·refine ar (aD fj J (aT 5 t3 J J J J (av J J br (aa (am J (fun h2=> ?_) (fun h2=> ?_))))))
    ·have q1:st.kind=1:=cH h2;refine ap (aD oy J (aT 6 t3 J J J J (av J J aO (aD oy J (aB (k:=6) t3 J J J J J J J J (aa (aG () O J (by rw [aw q1];rfl) J)))))))
    ·have q1:¬st.kind=1:=dk h2;refine aA (aG () O J (by rw [ai q1,Int.add_zero];rfl) J)
   ·refine aV (aq J (aa (aC ?_)));refine bI (X:=Nat) (fun j=>j≤st.es.length) (fun j=> [(0,sv v),(2,Pt b2),(3,Pt b3),(4,I6 (i:Int)),(5,Pt b5),(6,Pt b6),(7,I6 (j:Int))]) (fun j=> [(2,be b2 124 (zR 0 0 0 0)),(3,be b3 124 (zR (cM (l.take i):Int) (dD (l.take i):Int) (jS (l.take i):Int) (jr (l.take i):Int))),(5,be b5 64 (dM st)),(6,be b6 124 (zR (((cM st.body:Int)+(cM st.els:Int)+1)+(eH (st.es.take j):Int)) (((dD st.body:Int)+(dD st.els:Int))+(if st.kind=1 then 1 else 0:Int)) (max (jS st.body:Int) (jS st.els:Int)+1) (max (max (jr st.body:Int) (jr st.els:Int)) (gC (st.es.take j):Int))))]) (fun j=> [(0,b_ v l),(1,sl 5 dM (sv v) l),(7,cm st.ve st.es),(8,b_ st.vb st.body),(9,b_ st.vl st.els),(10,sl 4 dB (sv st.ve) st.es)]) (fun j=>st.es.length-j) 0 (bq _) J (by rw [show(((cM st.body:Int)+(cM st.els:Int)+1)+(eH (st.es.take 0):Int))=((cM st.body:Int)+(cM st.els:Int)+1) by simp [eH],show max (max (jr st.body:Int) (jr st.els:Int)) (gC (st.es.take 0):Int)=(max (jr st.body:Int) (jr st.els:Int)) by simp [gC]<;>omega];rfl) J (fun j n2=> ?_);refine aV (ad J (aD ie J (aT 5 jM J J J J (aS (aL underlying59 J (aN (k:=10) J)) (av J J cy (aa (am J (fun h3=> ?_) (fun h3=> ?_))))))))
    ·(try simp only [bk]at h3);have hj:j<st.es.length:=by omega
     obtain⟨u,hu⟩:∃k,st.es[j]?=some k:=⟨_,bT hj⟩
     have hum:=cd hu;refine bc 7 11 J (eb hum) ?_;have hlx:=lT st.es (j+1);rw [ft hu]at hlx;have hdu:=xr u;refine aA (aZ (aC ?_));refine bQ [48,49,50,51,52,53,54,55] _ J (aW (V:= [(0,48,_),(1,49,_),(2,50,_),(3,51,_),(4,52,_),(5,53,_)]) [0,1,2,3,4,5] 6 [6,5,4,3,2,1] [] (fun _=> []) J J (ac J (aJ gh J J J (a_ (k:=6) J)) (ac J (ah ie J) (ac J (ae jM J J (ax (k:=5) J J)) (ay J J (ac J (aK (j:=j) underlying59 ca J J (aN (k:=10) J) (by first|rfl|omega) (by first|omega|(simp;done)|(simp;omega))) (ac J (aJ ca J J J (bJ (aN (k:=10) J) (by intro _;rfl) hu (by rfl))) ag)))))) J J J J J J J J J J J (fun _ _=>J) J (bw (xs:= [.tmp 53]) (tD u (hsg.2.mem u hum) (by omega)) Js [] [(false,11)] []) (fun _ _=>aW [0] 7 [7,6,5,4,3,2,1,0] [] (fun _=> []) J J (ac J (aJ gh J J J (a_ (k:=6) J)) ag) J J J J J J J J J J J (fun _ _=>J) J (bw (xs:= [.tmp 48,.tmp 54]) (iH (((cM st.body:Int)+(cM st.els:Int)+1)+(eH (st.es.take j):Int)) (((dD st.body:Int)+(dD st.els:Int))+(if st.kind=1 then 1 else 0:Int)) (max (jS st.body:Int) (jS st.els:Int)+1) (max (max (jr st.body:Int) (jr st.els:Int)) (gC (st.es.take j):Int)) (nX u:Int) 0 0 (dX u:Int) ⟨by omega,by omega⟩ ⟨by omega,by omega⟩ ⟨by omega,by omega⟩ ⟨by omega,by omega⟩) sX [] [] []) (fun _ _=>bH [] 8 [8,7,6,5,4,3,2,1,0] [] (fun _=> []) J J ag J J J J J J J J J (fun _ _=>J) J (bL (k:=6) gh J J J J J J) (fun _ _=>bn [] J J ag J J J ?_))));refine ap (ad J (av J J aO (aq J (aa ?_))))
     refine aG (j+1) ⟨by omega,by omega⟩ J (by rw [CX (n:=((cM st.body:Int)+(cM st.els:Int)+1)+((eH (st.es.take (j+1)):Nat):Int)) (v:=((dD st.body:Int)+(dD st.els:Int))+(if st.kind=1 then 1 else 0:Int)) (s:=(max (jS st.body:Int) (jS st.els:Int)+1)) (e:=max (max (jr st.body:Int) (jr st.els:Int)) ((gC (st.es.take (j+1)):Nat):Int)) (n':=((cM st.body:Int)+(cM st.els:Int)+1)+(eH (st.es.take j):Int)+(nX u:Int)) (v':=((dD st.body:Int)+(dD st.els:Int))+(if st.kind=1 then 1 else 0:Int)+0) (s':=max (max (jS st.body:Int) (jS st.els:Int)+1) 0) (e':=max (max (max (jr st.body:Int) (jr st.els:Int)) (gC (st.es.take j):Int)) (dX u:Int)) (by rw [ft hu]<;>omega) (by rw [Int.add_zero]) (by omega) (by rw [lY hu]<;>omega)];rfl) J
    ·(try simp only [bk]at h3);have hj:j=st.es.length:=by omega
     subst hj;rw [cV];refine bM (ap (aS (aJ gh J J J (a_ (k:=3) J)) (aS (aJ gh J J J (a_ (k:=6) J)) ?_)));refine dG (xs:= [.tmp 56,.tmp 57]) (iH (cM (l.take i):Int) (dD (l.take i):Int) (jS (l.take i):Int) (jr (l.take i):Int) (((cM st.body:Int)+(cM st.els:Int)+1)+(eH st.es:Int)) (((dD st.body:Int)+(dD st.els:Int))+(if st.kind=1 then 1 else 0:Int)) (max (jS st.body:Int) (jS st.els:Int)+1) (max (max (jr st.body:Int) (jr st.els:Int)) (gC st.es:Int)) ⟨by omega,by omega⟩ ⟨by omega,by omega⟩ ⟨by omega,by omega⟩ ⟨by omega,by omega⟩) sX [] [] [] J J J J J J J J (fun _ _=>J) (fun _ _ _=>J) J (fun _ _=> ?_);refine au (k:=3) gh J J J J J J (aa (ap (ad J (av J J aO (aq J (aa ?_))))));refine aG (i+1) ⟨by omega,by omega⟩ J (by rw [CX (n:=((cM (l.take (i+1)):Nat):Int)) (v:=((dD (l.take (i+1)):Nat):Int)) (s:=((jS (l.take (i+1)):Nat):Int)) (e:=((jr (l.take (i+1)):Nat):Int)) (n':=(cM (l.take i):Int)+(((cM st.body:Int)+(cM st.els:Int)+1)+(eH st.es:Int))) (v':=(dD (l.take i):Int)+(((dD st.body:Int)+(dD st.els:Int))+(if st.kind=1 then 1 else 0:Int))) (s':=max (jS (l.take i):Int) (max (jS st.body:Int) (jS st.els:Int)+1)) (e':=max (jr (l.take i):Int) (max (max (jr st.body:Int) (jr st.els:Int)) (gC st.es:Int))) (by rw [iT hst]<;>omega) (by rw [km hst,Int.natCast_add,hvy2]) (by rw [Fi hst,I1]<;>omega) (by rw [Fb hst,Ns]<;>omega)];rfl) J
 ·(try simp only [bk]at h1);have hi:i=l.length:=by omega
  subst hi;rw [cV];refine bM (ar (aS (aJ gh J J J (a_ (k:=3) J)) (au (k:=2) gh J J J J J J (aa (az (aQ () O J (cc (bp gh J J J (a_ (k:=2) J))) J [] [] J J J))))))
theorem kH:∀(n:Nat)(v:SV)(l:List Ty),SizeOf.sizeOf l<n→l.length≤1000000→GYs l→cM l≤1000000→OX v l
 | 0,_,_,h,_,_,_=>absurd h (Nat.not_lt_zero _)
 | n+1,v,l,h,hl,hg,hn=>tj v l hn hl hg fun u hu=>by
  have h1:=List.sizeOf_lt_of_mem hu;have h2:SizeOf.sizeOf u.body<SizeOf.sizeOf u∧SizeOf.sizeOf u.els<SizeOf.sizeOf u:=by
   cases u;simp only [Ty.mk.sizeOf_spec,Ty.body,Ty.els];omega
  have h3:=hg.mem u hu;obtain⟨i,hi⟩:=List.getElem?_of_mem hu;have hle:=no l (i+1);rw [iT hi]at hle;have h4:=yN u;exact⟨kH n u.vb u.body (by omega) (ff h3).1 (ff h3).2 (by omega),kH n u.vl u.els (by omega) (gk h3).1 (gk h3).2 (by omega)⟩
theorem tk(v:SV)(l:List Ty)(hl:l.length≤1000000)(hg:GYs l)(hn:cM l≤1000000):OX v l:=kH _ v l (Nat.lt_succ_self _) hl hg hn
theorem kQ{a b:Int}(h:a≠0):fst a b=a:=ai h
theorem vP{fs:List Tf}{ns:List Ba}{l:List Tx}{i:Nat}{u:Tx}(hu:l[i]?=some u)(h0:jJ fs ns (l.take i)=0)(h:eX fs ns u≠0):jJ fs ns l=eX fs ns u:=by
 have h1:=vR fs ns (l.take (i+1)) (l.drop (i+1));rw [List.take_append_drop,lX hu,h0,ju,kQ h]at h1;exact h1
theorem zv{fs:List Tf}{ns:List Ba}{t:Tx}{z:Int}(h:nE fs ns t=z)(hz:z≠0):eX fs ns t=z:=by rw [Bn,h,kQ hz]
theorem Bm{fs:List Tf}{ns:List Ba}{t:Tx}{z:Int}(h:nE fs ns t=0)(h2:jJ fs ns t.kids=z):eX fs ns t=z:=by rw [Bn,h,h2];rfl
def QL(c:Nat)(vp vn:SV)(fs:List Tf)(ns:List Ba)(t:Tx):Prop:=bi prog 106 [Pt c,xV t] [] [be c 128 [sv vp,sv vn],sl 1 eS (sv vn) ns,cE vp fs,cm t.v t.kids] (I6 (eX fs ns t)) []
theorem nu(b:Ba)(vp:SV)(fs:List Tf)(hfl:fs.length≤1000000):
  bi prog 57 [.agg #[sv vp],Sg b] [] [sl 3 gu (sv vp) fs] (I6 (ss fs b)) []:=by
 refine aM func57 J ntmps57 J fun w0 M H=>ar (cA J J fun b2=>aq J (aa (aV (aq J (aa (aC (bI (X:=Nat) (fun i=>i≤fs.length∧∀j y,j<i→fs[j]?=some y→decide (y.name=b)=false) (fun i=> [(1,Sg b),(2,Pt b2),(5,I6 (i:Int))]) (fun i=> [(2,be b2 27 [sv vp])]) (fun i=> [(0,sl 3 gu (sv vp) fs)]) (fun i=>fs.length-i) 0 ⟨bq _,fun j y h=>absurd h (Nat.not_lt_zero _)⟩ J J J (fun i hx0=> ?_))))))))
 obtain⟨n1,n2⟩:=hx0;refine aV (ad J (aD dx J (aT 2 ip J J J J (aS (aL underlying25 J (aN (k:=0) J)) (av J J cy (aa (am J (fun h1=> ?_) (fun h1=> ?_))))))))
 ·(try simp only [bk]at h1);have hi:i<fs.length:=by omega
  obtain⟨f,hf⟩:∃k,fs[i]?=some k:=⟨_,bT hi⟩
  have hfm:=cd hf;refine aA (aZ (aC (ar (aD dx J (aT 2 ip J J J J (ad J (aS (aK (j:=i) underlying25 fC J J (aN (k:=0) J) (by first|rfl|omega) (by first|omega|(simp;done)|(simp;omega))) (aS (bB jG J) (aS (ae t9 J J (dl (aN (k:=0) J) (by intro _;rfl) hf J)) (ad J (av J J eT (aa (am J (fun h2=> ?_) (fun h2=> ?_))))))))))))))
  ·have hct:decide (f.name=b)=true:=by rw [←gt];exact h2
   refine ar (ad J (aq J (aa (az (aQ () O J (cc (aP J)) (by rw [show ss fs b=(i:Int)from ph hf hct n2]) [] [] J J J)))))
  ·have hcf:decide (f.name=b)=false:=by rw [←gt];exact h2
   refine aA (ap (ad J (av J J aO (aq J (aa ?_)))));refine aG (i+1) ⟨⟨by omega,fun j y hj hy=>by
    by_cases h:j=i
    ·subst h;rw [hf]at hy;cases hy;exact hcf
    ·exact n2 j y (by omega) hy⟩,by omega⟩ rfl rfl rfl
 ·(try simp only [bk]at h1);have hi:i=fs.length:=by omega
  subst hi;refine bM (ar (aq J (aa (az (aQ () O J (cc (aP J)) (by rw [show ss fs b= -1 from pg n2]) [] [] J J J)))))
theorem GD(c:Nat)(vp vn:SV)(fs:List Tf)(ns:List Ba)(hfl:fs.length≤1000000)(hns:ns.length≤1000000)(t:Tx)(hkl:t.kids.length≤1000000)(ih:∀u∈t.kids,QL c vp vn fs ns u):
  bi prog 106 [Pt c,xV t] [] [be c 128 [sv vp,sv vn],sl 1 eS (sv vn) ns,cE vp fs,cm t.v t.kids] (I6 (eX fs ns t)) []:=by
 refine aM func106 J ntmps106 J fun w0 M H=>bc 2 4 J jw (bc 3 5 J gE (ar (cA J J fun b3=>aq J (aa (bz (X:=Unit) (fun _=>t.kind=2→cD t.name ns=true) (fun _=> [(0,Pt c),(3,Pt b3)]) (fun _=> [(3,be b3 61 (dB t))]) (fun _=> [(0,be c 128 [sv vp,sv vn]),(1,sl 1 eS (sv vn) ns),(2,cE vp fs),(3,cm t.v t.kids),(4,sl 3 gu (sv vp) fs),(5,sl 4 dB (sv t.v) t.kids)]) ?_ (fun _ hm2=> ?_))))))
 ·refine ar (aD ki J (aT 3 t3 J J J J (av J J br (aa (am J (fun h1=> ?_) (fun h1=> ?_))))))
  ·have q2:t.kind=2:=cH h1;refine aZ (bQ [12,13,14,15,16,17,18,5] _ J (aW (V:= [(0,12,_),(1,13,_),(2,14,_),(3,15,_),(4,16,_),(5,17,_)]) [0,1,2,3,4,5] 6 [6,5,4,3,2,1,0] [7] (fun _=> [(7,5,_)]) J J (ac J (ah el J) (ac J (ae t9 J J (ax (k:=3) J J)) (ay J J (ac J (aj J) (ac J (ah jo J) (ac J (ae h_ J J (d7 (k:=0) J J)) ag)))))) J J J J J J J J J J J (fun _ _=>J) J (bw (xs:= [.tmp 13,.tmp 17]) (k9 t.name vn ns hns) zJ [] [(false,1)] []) (fun _ _=>bn [7] J J (ac J (cT J) ag) J J J (ar (ad J (aS (cZ J) (aa (am J (fun h2=> ?_) (fun h2=> ?_)))))))))
   ·have qm:cD t.name ns=false:=by simpa using h2
    refine ar (aq J (aa (az ?_)));refine aQ () O J (cc (aP J)) (by rw [zv (show nE fs ns t=21 by rw [Kx q2,qm];rfl) (by decide)]) [] [] J J J
   ·have qm:cD t.name ns=true:=by simpa using h2
    refine aA (aG () (fun _=>qm) J J J)
  ·have q2:¬t.kind=2:=dk h1;refine aA (aG () (fun h=>absurd h q2) J J J)
 ·refine bz (X:=Unit) (fun _=>nE fs ns t=0) (fun _=> [(0,Pt c),(3,Pt b3)]) (fun _=> [(3,be b3 61 (dB t))]) (fun _=> [(0,be c 128 [sv vp,sv vn]),(1,sl 1 eS (sv vn) ns),(2,cE vp fs),(3,cm t.v t.kids),(4,sl 3 gu (sv vp) fs),(5,sl 4 dB (sv t.v) t.kids)]) ?_ (fun _ hn0=> ?_)
  ·refine ar (aD ki J (aT 3 t3 J J J J (av J J br (aa (am J (fun h3=> ?_) (fun h3=> ?_))))))
   ·have q3:t.kind=3:=cH h3;refine aZ (bQ [24,25,26,27,28,29,30,6] _ J (aW (V:= [(0,24,_),(1,25,_),(2,26,_),(3,27,_),(4,28,_),(5,29,_)]) [0,1,2,3,4,5] 6 [6,5,4,3,2,1,0] [7] (fun _=> [(7,6,_)]) J J (ay J J (ac J (aj J) (ac J (ah Bf J) (ac J (aJ iQ J J J (KW (us:= [sv vp]) (k:=0) J J)) (ac J (ah el J) (ac J (ae t9 J J (ax (k:=3) J J)) ag)))))) J J J J J J J J J J J (fun _ _=>J) J (bw (xs:= [.tmp 27,.tmp 29]) (nu t.name vp fs hfl) Lw [] [(false,4)] []) (fun _ _=>bn [7] J J (ac J (cT J) ag) J J J (aV (ad J (av J J cy (aa (am J (fun h4=> ?_) (fun h4=> ?_)))))))))
    ·have hff:dc fs t.name=none:=fk.1.1 (cH h4);refine ar (aq J (aa (az (aQ () O J (cc (aP J)) (by rw [zv (vj q3 hff) (by decide)]) [] [] J J J))))
    ·have hq1:¬ss fs t.name<0:=dk h4;obtain⟨f,hff⟩:∃f,dc fs t.name=some f:=by
      cases hf:dc fs t.name with
      | none=>exact absurd (fk.1.2 hf) hq1
      | some f=>exact⟨f,rfl⟩
     obtain⟨m,hxm,hfx⟩:=fk.2 f hff;have hfm:=cd hfx;have hml:m<fs.length:=(db.1 hfx).1;rw [hxm];refine bc 2 6 J (lI hfm) (bc 6 7 J lJ (aA (aZ (bQ [33,34,35,36,37,38,39,40,41,42,43,44,45,46] _ J (bn (V:= [(0,33,_),(1,34,_),(2,35,_),(3,36,_),(4,37,_),(5,38,_),(6,39,_),(7,40,_),(8,41,_),(9,42,_),(10,43,_),(11,44,_),(12,45,_),(13,46,_)]) [0,1,2,3,4,5,6,7,8,9,10,11,12,13] J J (ay J J (ac J (aj J) (ac J (ah Bf J) (ac J (ah dx J) (ac J (ae ip J J (d7 (k:=0) J J)) (ay J J (ac J (aK (j:=m) underlying25 fC J J (aN (k:=4) J) J hml) (ac J (bB dW J) (ac J (ae h_ J J (dl (aN (k:=4) J) (by intro _;rfl) hfx J)) (ac J (aL underlying46 J (aN (k:=7) J)) (ac J (ah dT J) (ac J (ae jM J J (ax (k:=3) J J)) (ac J (aL underlying59 J (aN (k:=5) J)) (ac J (aU J J gj) ag)))))))))))))) J J J (am J (fun h5=> ?_) (fun h5=> ?_)))))))
     ·(try simp only [bk]at h5);have hpl:¬f.ps.length=t.kids.length:=by omega
      refine ar (aq J (aa (az ?_)));refine aQ () O J (cc (aP J)) (by rw [zv (show nE fs ns t=23 by rw [oa q3 hff,ai hpl]) (by decide)]) [] [] J J J
     ·(try simp only [bk]at h5);have hpl:f.ps.length=t.kids.length:=by omega
      refine aA (aG () (by rw [oa q3 hff,aw hpl]) J J J)
   ·have q3:¬t.kind=3:=dk h3;refine aA (aG () (by by_cases q2:t.kind=2;rw [Kx q2,aw (hm2 q2)];exact M8 q2 q3) J J J)
  ·refine aV (aq J (aa (aC (bI (X:=Nat) (fun i=>i≤t.kids.length∧jJ fs ns (t.kids.take i)=0) (fun i=> [(0,Pt c),(3,Pt b3),(7,I6 (i:Int))]) (fun i=> [(3,be b3 61 (dB t))]) (fun i=> [(0,be c 128 [sv vp,sv vn]),(1,sl 1 eS (sv vn) ns),(2,cE vp fs),(3,cm t.v t.kids),(4,sl 3 gu (sv vp) fs),(5,sl 4 dB (sv t.v) t.kids)]) (fun i=>t.kids.length-i) 0 ⟨bq _,J⟩ J J J (fun i hx0=> ?_)))));obtain⟨n1,n2⟩:=hx0;refine aV (ad J (aD dT J (aT 3 jM J J J J (aS (aL underlying59 J (aN (k:=5) J)) (av J J cy (aa (am J (fun h6=> ?_) (fun h6=> ?_))))))))
   ·(try simp only [bk]at h6);have hi:i<t.kids.length:=by omega
    obtain⟨u,hu⟩:∃u,t.kids[i]?=some u:=⟨_,bT hi⟩
    have hum:=cd hu;refine aA (aZ (aC (ar (ad J (aD dT J (aT 3 jM J J J J (ad J (aS (aK (j:=i) underlying59 ca J J (aN (k:=5) J) (by first|rfl|omega) (by first|omega|(simp;done)|(simp;omega))) (aS (aJ ca J J J (bJ (aN (k:=5) J) (by intro _;rfl) hu (by rfl))) (bc 3 9 J (eb hum) (ak (xs:= [.tmp 54,.tmp 59]) (ih u hum) FG [] [(false,0),(false,1),(false,2),(false,9)] [] (fun _ _=>aq J (aF J (ad J (av J J gj (aa ?_))))))))))))))));refine am J (fun h7=> ?_) (fun h7=> ?_)
    ·(try simp only [bk]at h7);have hct:eX fs ns u≠0:=h7;refine ar (ad J (aq J (aa (az (aQ () O J (cc (aP J)) (by rw [Bm hn0 (vP hu n2 hct)]) [] [] J J J)))))
    ·(try simp only [bk]at h7);have hcf:eX fs ns u=0:=h7;refine aA (ap (ad J (av J J aO (aq J (aa ?_)))));refine aG (i+1) ⟨⟨by omega,by rw [lX hu,n2,hcf];rfl⟩,by omega⟩ J J J
   ·(try simp only [bk]at h6);have hi:i=t.kids.length:=by omega
    subst hi;rw [cV]at n2;refine bM (ar (aq J (aa (az (aQ () O J (cc (aP J)) (by rw [Bm hn0 n2]) [] [] J J J)))))
theorem DB(c:Nat)(vp vn:SV)(fs:List Tf)(ns:List Ba)(hfl:fs.length≤1000000)(hns:ns.length≤1000000):∀(n:Nat)(t:Tx),SizeOf.sizeOf t<n→GX t→QL c vp vn fs ns t
 | 0,_,h,_=>absurd h (Nat.not_lt_zero _)
 | n+1,t,h,ht=>GD c vp vn fs ns hfl hns t (l8 ht) fun u hu=>DB c vp vn fs ns hfl hns n u (by have:=pJ hu;omega) ((ka ht).mem u hu)
theorem GE(c:Nat)(vp vn:SV)(fs:List Tf)(ns:List Ba)(hfl:fs.length≤1000000)(hns:ns.length≤1000000)(t:Tx)(ht:GX t):QL c vp vn fs ns t:=DB c vp vn fs ns hfl hns _ t (Nat.lt_succ_self _) ht
section
end
theorem FP{nm:Ba}(h:iW nm=true)(a b:Int):(LB nm a b).isSome=true:=by
 unfold iW at h;obtain⟨p,hp⟩:=Option.isSome_iff_exists.1 h;have h1:=List.mem_of_find?_eq_some hp;have h2:=List.find?_some hp;have h2:p.1=nm:=by simpa using h2
 subst h2;simp only [lvL,List.mem_cons,List.not_mem_nil,or_false]at h1;rcases h1 with rfl|rfl|rfl|rfl|rfl|rfl|rfl|rfl|rfl|rfl|rfl|rfl|rfl|rfl|rfl|rfl<;>rfl
theorem Gf{nm:Ba}(h:cD nm ti=true)(a:Int):(LT nm a).isSome=true:=by
 unfold cD at h;obtain⟨p,h1,h2⟩:=List.any_eq_true.1 h;have h2:nm=p:=by simpa using h2
 subst h2;simp only [ti,List.mem_cons,List.not_mem_nil,or_false]at h1;rcases h1 with rfl|rfl|rfl<;>rfl
theorem tX{k:Int}{nm:Ba}{n:Nat}(h:qK k nm n=true):(k=1∧n=0)∨(k=5∧n=0)∨(k=2∧n=0)∨k=3∨(k=4∧n=1)∨(k=6∧cD nm ti=true∧n=1)∨(k=7∧iW nm=true∧n=2):=by
 unfold qK at h;split at h
 ·rename_i hk;simp only [Bool.and_eq_true,decide_eq_true_eq]at h;rcases hk with hk|hk
  ·exact .inl ⟨hk,h.2⟩
  ·exact .inr (.inl ⟨hk,h.2⟩)
 ·split at h
  ·rename_i hk;simp only [Bool.and_eq_true,decide_eq_true_eq]at h;exact .inr (.inr (.inl ⟨hk,h.2⟩))
  ·split at h
   ·rename_i hk;exact .inr (.inr (.inr (.inl hk)))
   ·split at h
    ·rename_i hk;simp only [Bool.and_eq_true,decide_eq_true_eq]at h;exact .inr (.inr (.inr (.inr (.inl ⟨hk,h.2⟩))))
    ·split at h
     ·rename_i hk;simp only [Bool.and_eq_true,decide_eq_true_eq]at h;exact .inr (.inr (.inr (.inr (.inr (.inl ⟨hk,h.1,h.2⟩)))))
     ·split at h
      ·rename_i hk;simp only [Bool.and_eq_true,decide_eq_true_eq]at h;exact .inr (.inr (.inr (.inr (.inr (.inr ⟨hk,h.1,h.2⟩)))))
      ·cases h
theorem CK{fs:List Tf}{ns:List Ba}{t:Tx}(h:nE fs ns t=0)(hk:t.kind=3):∃f,dc fs t.name=some f∧f.ps.length=t.kids.length:=by
 cases hf:dc fs t.name with
 | none=>rw [vj hk hf]at h;cases h
 | some f=>
  rw [oa hk hf]at h;refine⟨f,J,?_⟩;split at h
  ·assumption
  ·cases h
mutual
theorem Ir{fs:List Tf}{ns:List Ba}:∀t:Tx,GX t→rX t=true→eX fs ns t=0→VX fs t
 | .mk k n nm v kids,hg,hr,he=>by
  have hr2:(qK k nm kids.length&&(decide (k=1) || decide (n=0))&&qH kids)=true:=hr;simp only [Bool.and_eq_true]at hr2;obtain⟨⟨h1,_⟩,h3⟩:=hr2;have he2:=Bn fs ns (.mk k n nm v kids);rw [he]at he2;obtain⟨e1,e2⟩:=bF.1 he2.symm;have hc:=tX h1;refine⟨hg.1,hg.2.2.1,fun hk=>by omega,fun hk=> ?_,fun hk=> ?_,fun k1 k2 k4 k5 k6 k7=> ?_,yc kids hg.2.2.2 h3 e2⟩
  ·have:cD nm ti=true∧kids.length=1:=by
    rcases hc with hc|hc|hc|hc|hc|⟨_,hc,hn⟩|hc
    ·omega
    ·omega
    ·omega
    ·omega
    ·omega
    ·exact⟨hc,hn⟩
    ·omega
   exact⟨by omega,Gf this.1⟩
  ·have:iW nm=true∧kids.length=2:=by
    rcases hc with hc|hc|hc|hc|hc|hc|⟨_,hc,hn⟩
    ·omega
    ·omega
    ·omega
    ·omega
    ·omega
    ·omega
    ·exact⟨hc,hn⟩
   exact⟨by omega,FP this.1⟩
  ·have hk:k=3:=by omega
   obtain⟨f,hf1,hf2⟩:=CK e1 hk;exact⟨f,hf1,by rw [hf2];exact cj _⟩
theorem yc{fs:List Tf}{ns:List Ba}:∀l:List Tx,GXs l→qH l=true→jJ fs ns l=0→LM fs l
 | [],_,_,_=>trivial
 | t::r,hg,hr,he=>by
  have hr2:(rX t&&qH r)=true:=hr;rw [Bool.and_eq_true]at hr2;obtain⟨e1,e2⟩:=bF.1 he;exact⟨Ir t hg.1 hr2.1 e1,yc r hg.2 hr2.2 e2⟩
end
theorem yI{k:Int}{nm:Ba}{ne nb nl:Nat}(h:Ay k nm ne nb nl=true):1≤k∧k≤8∧ne=(if k=3 then 2 else 1)∧(k=4∨k=5∨nb=0)∧(k=4∨nl=0):=by
 unfold Ay at h;simp only [Bool.and_eq_true,Bool.or_eq_true,decide_eq_true_eq]at h;obtain⟨⟨⟨⟨⟨h1,h2⟩,h3⟩,h4⟩,h5⟩,h6⟩:=h;exact⟨h1,h2,h3,by rcases h5 with(h|h)|h;exact .inl h;exact .inr (.inl h);exact .inr (.inr h),h6⟩
mutual
theorem Mi{fs:List Tf}:∀(ns:List Ba)(t:Ty),GY t→rY t=true→(bY fs ns t).2=0→VY fs t
 | ns,.mk k nm ve es vb body vl els,hg,hr,he=>by
  have hr2:(Ay k nm es.length body.length els.length&&qH es&&mQ body&&mQ els)=true:=hr;simp only [Bool.and_eq_true]at hr2;obtain⟨⟨⟨h1,h2⟩,h3⟩,h4⟩:=hr2;have hk:=yI h1;rw [ux]at he;obtain⟨e1,he⟩:=bF.1 he;obtain⟨e2,he⟩:=bF.1 he;obtain⟨e3,he⟩:=bF.1 he;obtain⟨e4,e5⟩:=bF.1 he;have hes:es.length=if k=3 then 2 else 1:=hk.2.2.1
  exact⟨⟨by rw [hes];split<;>omega,hg.2.1.1,fun h3=>by rw [hes,aw h3];exact cj _,yc es hg.2.1.2 h2 e2⟩,⟨hg.2.2.1.1,uE _ body hg.2.2.1.2 h3 e4⟩,hg.2.2.2.1,uE _ els hg.2.2.2.2 h4 e5⟩
theorem uE{fs:List Tf}:∀(ns:List Ba)(l:List Ty),GYs l→mQ l=true→(dm fs ns l).2=0→Ju fs l
 | _,[],_,_,_=>trivial
 | ns,t::r,hg,hr,he=>by
  have hr2:(rY t&&mQ r)=true:=hr;rw [Bool.and_eq_true]at hr2;obtain⟨e1,e2⟩:=bF.1 he;exact⟨Mi ns t hg.1 hr2.1 e1,uE _ r hg.2 hr2.2 e2⟩
end
theorem ur{fs:List Tf}:∀{l:List Tf},gU fs l=0→∀f∈l,kW fs f=0
 | [],_,f,hf=>by simp at hf
 | g::r,h,f,hf=>by
  obtain⟨h1,h2⟩:=bF.1 h;rcases List.mem_cons.1 hf with rfl|hf
  ·exact h1
  ·exact ur h2 f hf
structure Fine(fs:List Tf)(f:Tf):Prop where
 vf:VF fs
 main:dc fs ed=some f
 noP:f.ps= []
 len:fs.length≤16
 once:∀(i:Nat)(f:Tf),fs[i]?=some f→ss fs f.name=(i:Int)
 each:∀f∈fs,kW fs f=0
theorem sS{fs:List Tf}(hg:GP fs)(h:jK fs=0):∃f,Fine fs f:=by
 unfold jK at h;split at h
 ·cases h
 ·rename_i h1;split at h
  ·cases h
  ·rename_i h2;split at h
   ·cases h
   ·rename_i h3;split at h
    ·cases h
    ·rename_i f hf;split at h
     ·cases h
     ·rename_i h4;have h1:rP fs=true:=by simpa using h1
      have h3:once fs=true:=by simpa using h3
      have hr:=List.all_eq_true.1 h1;have he:=ur h;refine⟨f,fun g hgm=> ?_,hf,List.eq_nil_of_length_eq_zero (by omega),by omega,n9.1 h3,he⟩;obtain⟨g1,g2,g3,g4,g5,g6⟩:=hg.2 g hgm;have hrg:=hr g hgm;unfold rF at hrg;simp only [Bool.and_eq_true]at hrg;have heg:=he g hgm;rw [mF]at heg;have h6:=(bF.1 (bF.1 heg).2).2;exact⟨g3,g4,uE _ g.body g5 hrg.2 h6⟩
def IM(ins:List Int)(fuel:Int):Ms:=⟨ins,[],fun _=>0,fuel⟩
theorem Ky{ins:List Int}{fuel:Int}(hi:∀x∈ins,oW x)(hf:fuel≤1000000000000):okMs (IM ins fuel):=⟨hi,fun _=>lm,by show fuel<_;omega,by show((0:Nat):Int)+max fuel 0≤_;omega⟩
structure Ru where
 err:Int
 out:List Int
 mem:List Int
def JX:Re Int→Ru
 | .ok _ s=>⟨0,s.out,(List.range 256).map s.mem⟩
 | .err z=>⟨z,[],[]⟩
inductive RunIs(fs:List Tf)(ins:List Int)(fuel:Int):Ru→Prop where
 | bad (h:jK fs≠0):RunIs fs ins fuel ⟨jK fs,[],[]⟩
 | run (f:Tf) (g:Nat) (r:Re Int) (h:jK fs=0) (hf:dc fs ed=some f) (he:tF g fs 0 f [] (IM ins fuel)=some r):RunIs fs ins fuel (JX r)
section
end
abbrev kb(n:Int):Tx:= .mk 1 n bD bv []
abbrev iP(s:Ba):Tx:= .mk 2 0 s bv []
abbrev mZ:Tx:= .mk 5 0 bD bv []
abbrev Di(op:Ba)(v:SV)(a b:Tx):Tx:= .mk 7 0 op v [a,b]
abbrev wh(v:SV)(t:Tx):Ty:= .mk 7 bD v [t] bv [] bv []
theorem dw{s:Ba}(h:(s.data.toList.all (fun b=>decide (b.toNat<128))&&decide (s.size≤1000000))=true):oP s:=by
 simp only [Bool.and_eq_true,decide_eq_true_eq,List.all_eq_true]at h;refine⟨fun i hi=> ?_,h.2⟩;refine h.1 (s[i]'hi) ?_;have:s[i]'hi=s.data.toList[i]'(by simpa using hi):=by simp [ByteArray.getElem_eq_getElem_data]
 rw [this];exact List.getElem_mem _
theorem KM{n:Int}(h:oW n):GX (kb n):=⟨h,dw rfl,bq _,trivial⟩
theorem Hr{s:Ba}(h:oP s):GX (iP s):=⟨lm,h,bq _,trivial⟩
theorem w9:GX mZ:=⟨lm,dw rfl,bq _,trivial⟩
theorem KK{k:Int}{nm:Ba}{ve:SV}{t:Tx}(h:oP nm)(ht:GX t):GY (.mk k nm ve [t] bv [] bv []):=⟨h,⟨by show 1≤1000000;decide,ht,trivial⟩,⟨bq _,trivial⟩,bq _,trivial⟩
section
end
inductive Px where
 | mk (kind n:Int) (name:Ba) (kids:List Px)
inductive Py where
 | mk (kind:Int) (name:Ba) (es:List Px) (body els:List Py)
structure Pf where
 name:Ba
 ps:List Ba
 body:List Py
mutual
def lz:Tx→Px
 | .mk k n nm _ kids=> .mk k n nm (gT kids)
def gT:List Tx→List Px
 | []=> []
 | t::r=>lz t::gT r
end
mutual
def E9:Ty→Py
 | .mk k nm _ es _ body _ els=> .mk k nm (gT es) (eE body) (eE els)
def eE:List Ty→List Py
 | []=> []
 | t::r=>E9 t::eE r
end
def xT(f:Tf):Pf:=⟨f.name,f.ps,eE f.body⟩
theorem oE:∀a b:List Tx,gT (a++b)=gT a++gT b
 | [],b=>by simp [gT]
 | t::r,b=>by simp [gT,oE r b]
theorem fL:∀a b:List Ty,eE (a++b)=eE a++eE b
 | [],b=>by simp [eE]
 | t::r,b=>by simp [eE,fL r b]
structure Gc where
 l:List Int
 me:Nat
 fs:List (Ba×List Ba)
structure Gs where
 at_:Nat
 left:Int
 nodes:Int
 vars:Int
 names:List Ba
def dR(n m:Int):Int:=((n.tmod m)+m).tmod m
def gN(l:List Int)(n:Int)(s:Gs):Int×Gs:=match l[s.at_]? with
 | none=>(0,s)
 | some x=>(dR x n,{s with at_:=s.at_+1})
def cL:List Int:= [0,1,2,3,5,8,31,32,255,256,65535,131072,2147483647,2147483648,4294967295]
def OC:List Ba:= [gm,eJ,gM,kM,lS,fD,ke,fJ,gL,iq,mj,nh,nj,oO,nk,ng]
def gK(l:List Int)(d:Nat)(s:Gs):Int×Gs:=
 let r:=gN l 16 {s with nodes:=IntKind.i64.wrap (s.nodes-1)}
 (if d=0∨r.2.nodes<1 then r.1%4 else r.1,r.2)
mutual
inductive GXr(c:Gc):Nat→Gs→Px→Gs→Prop
 | nam {d:Nat} {s s1 s2:Gs} {k j:Int} {x:Ba} (hk:gK c.l d s=(k,s1)) (h:k=1∨k=2) (hn:0<s1.names.length) (hj:gN c.l (s1.names.length:Int) s1=(j,s2)) (hx:s1.names[j.toNat]?=some x):GXr c d s (.mk 2 0 x []) s2
 | inp {d:Nat} {s s1:Gs} (hk:gK c.l d s=(3,s1)):GXr c d s (.mk 5 0 bD []) s1
 | mem {d:Nat} {s s1 s2:Gs} {k:Int} {p:Px} (hk:gK c.l (d+1) s=(k,s1)) (h:k=4∨k=5) (hp:GXr c d s1 p s2):GXr c (d+1) s (.mk 4 0 bD [p]) s2
 | una {d:Nat} {s s1 s2 s3:Gs} {j:Int} {x:Ba} {p:Px} (hk:gK c.l (d+1) s=(6,s1)) (hj:gN c.l 3 s1=(j,s2)) (hx:ti[j.toNat]?=some x) (hp:GXr c d s2 p s3):GXr c (d+1) s (.mk 6 0 x [p]) s3
 | call {d:Nat} {s s1 s2 s3:Gs} {j:Int} {f:Ba×List Ba} {ps:List Px} (hk:gK c.l (d+1) s=(7,s1)) (h:c.me+1<c.fs.length) (hj:gN c.l ((c.fs.length:Int)-(c.me:Int)-1) s1=(j,s2)) (hx:c.fs[((c.me:Int)+1+j).toNat]?=some f) (hp:GKr c d f.2.length s2 ps s3):GXr c (d+1) s (.mk 3 0 f.1 ps) s3
 | bin {d:Nat} {s s1 s2 s3 s4:Gs} {k j:Int} {x:Ba} {p q:Px} (hk:gK c.l (d+1) s=(k,s1)) (h:7<k) (hj:gN c.l 16 s1=(j,s2)) (hx:OC[j.toNat]?=some x) (hp:GXr c d s2 p s3) (hq:GXr c d s3 q s4):GXr c (d+1) s (.mk 7 0 x [p,q]) s4
 | con {d:Nat} {s s1 s2:Gs} {k j:Int} {x:Int} (hk:gK c.l d s=(k,s1)) (h1:¬((k=1∨k=2)∧0<s1.names.length)) (h3:k≠3) (h4:k≠4) (h5:k≠5) (h6:k≠6) (h7:¬(k=7∧c.me+1<c.fs.length)) (h8:¬7<k) (hj:gN c.l 15 s1=(j,s2)) (hx:cL[j.toNat]?=some x):GXr c d s (.mk 1 x bD []) s2
inductive GKr(c:Gc):Nat→Nat→Gs→List Px→Gs→Prop
 | nil {d:Nat} {s:Gs}:GKr c d 0 s [] s
 | cons {d n:Nat} {s s1 s2:Gs} {p:Px} {ps:List Px} (hp:GXr c d s p s1) (hq:GKr c d n s1 ps s2):GKr c d (n+1) s (p::ps) s2
end
theorem GKr.snoc{c:Gc}{d:Nat}:∀{n:Nat}{s s1 s2:Gs}{p:Px}{ps:List Px},GKr c d n s ps s1→GXr c d s1 p s2→GKr c d (n+1) s (ps++ [p]) s2
 | 0,_,_,_,_,_,.nil,h2=> .cons h2 .nil
 | n+1,_,_,_,_,_,.cons hp hq,h2=> .cons hp (GKr.snoc hq h2)
def GCr(c:Gc)(d:Nat)(f:Ba×List Ba)(s:Gs)(p:Px)(s':Gs):Prop:=∃ps,GKr c d f.2.length s ps s'∧p= .mk 3 0 f.1 ps
def freshL:List Ba:= [⟨#[97]⟩,⟨#[98]⟩,⟨#[99]⟩,⟨#[100]⟩,⟨#[101]⟩,⟨#[120,49]⟩,⟨#[121,50]⟩,⟨#[108,111,111,112]⟩]
def G7(n:Int):Px:= .mk 1 n bD []
def As(s:Ba):Px:= .mk 2 0 s []
def D3(x:Ba):Py:= .mk 2 x [.mk 7 0 eJ [As x,G7 1]] [] []
mutual
inductive GYr(c:Gc):Nat→Gs→List Py→Gs→Prop
 | mk {e:Nat} {s s1 s2:Gs} {j:Int} {o:List Py} (hj:gN c.l 5 s=(j,s1)) (h:GLr c e (1+j).toNat s1 o s2):GYr c e s o s2
inductive GLr(c:Gc):Nat→Nat→Gs→List Py→Gs→Prop
 | zero {e:Nat} {s:Gs}:GLr c e 0 s [] s
 | stop {e n:Nat} {s:Gs} (h:s.left≤0):GLr c e n s [] s
 | step {e n:Nat} {s s1 s2 s3:Gs} {k:Int} {o r:List Py} (h:0<s.left) (hk:gN c.l 12 {s with left:=s.left-1}=(k,s1)) (h1:G1r c e k s1 o s2) (h2:GLr c e n s2 r s3):GLr c e (n+1) s (o++r) s3
inductive G1r(c:Gc):Nat→Int→Gs→List Py→Gs→Prop
 | var {e:Nat} {s s1:Gs} {k:Int} {x:Ba} {p:Px} (hk:k<3) (hx:freshL[s.vars.toNat]?=some x) (hv:s.vars<8) (hp:GXr c 3 {s with vars:=s.vars+1} p s1):G1r c e k s [.mk 1 x [p] [] []] {s1 with names:=s1.names++ [x]}
 | set {e:Nat} {s s1 s2:Gs} {j:Int} {x:Ba} {p:Px} (hn:0<s.names.length) (hj:gN c.l (s.names.length:Int) s=(j,s1)) (hx:s.names[j.toNat]?=some x) (hp:GXr c 3 s1 p s2):G1r c e 3 s [.mk 2 x [p] [] []] s2
 | put {e:Nat} {s s1 s2:Gs} {k:Int} {p q:Px} (hk:k=4∨k=5) (hp:GXr c 2 s p s1) (hq:GXr c 3 s1 q s2):G1r c e k s [.mk 3 bD [p,q] [] []] s2
 | iff1 {e:Nat} {s s1 s2 s3 s4:Gs} {p:Px} {a b:List Py} (hp:GXr c 2 s p s1) (ha:GYr c e s1 a s2) (hj:gN c.l 2 s2=(1,s3)) (hb:GYr c e s3 b s4):G1r c (e+1) 6 s [.mk 4 bD [p] a b] s4
 | iff0 {e:Nat} {s s1 s2 s3:Gs} {j:Int} {p:Px} {a:List Py} (hp:GXr c 2 s p s1) (ha:GYr c e s1 a s2) (hj:gN c.l 2 s2=(j,s3)) (hb:j≠1):G1r c (e+1) 6 s [.mk 4 bD [p] a []] s3
 | whi {e:Nat} {s s1 s2:Gs} {j:Int} {x:Ba} {a:List Py} (hx:freshL[s.vars.toNat]?=some x) (hv:s.vars<8) (hj:gN c.l 5 {s with vars:=s.vars+1}=(j,s1)) (ha:GYr c (e+1) s1 a s2):G1r c (e+2) 7 s [.mk 1 x [G7 j] [] [],.mk 5 bD [As x] (a++ [D3 x]) []] {s2 with names:=s2.names++ [x]}
 | ret {e:Nat} {s s1 s2:Gs} {p:Px} (hj:gN c.l 3 s=(0,s1)) (hp:GXr c 3 s1 p s2):G1r c e 8 s [.mk 6 bD [p] [] []] s2
 | dos {e:Nat} {s s1 s2 s3 s4:Gs} {j j2:Int} {f:Ba×List Ba} {p:Px} (h:c.me+1<c.fs.length) (hj:gN c.l ((c.fs.length:Int)-(c.me:Int)-1) s=(j,s1)) (hj2:gN c.l 8 s1=(j2,s2))
   (hf:(j2≠7∧c.fs[((c.me:Int)+1+j).toNat]?=some f∧s3=s2)∨(j2=7∧∃j3,gN c.l ((c.fs.length:Int)-1) s2=(j3,s3)∧c.fs[(1+j3).toNat]?=some f)) (hp:GCr c 1 f s3 p s4):G1r c e 9 s [.mk 8 bD [p] [] []] s4
 | out {e:Nat} {s s1 s2:Gs} {k:Int} {p:Px} (h3:¬(k<3∧s.vars<8)) (hs:¬(k=3∧0<s.names.length)) (h4:k≠4) (h5:k≠5) (h6:¬(k=6∧1≤e)) (h7:¬(k=7∧2≤e∧s.vars<8)) (h8:(k≠8∧s1=s)∨(k=8∧∃j,j≠0∧gN c.l 3 s=(j,s1))) (h9:¬(k=9∧c.me+1<c.fs.length)) (hp:GXr c 3 s1 p s2):G1r c e k s [.mk 7 bD [p] [] []] s2
end
theorem mr{x n:Int}(hn:0<n):0≤dR x n∧dR x n<n:=by
 unfold dR;have h1:=Int.tmod_lt_of_pos x hn;have h2:=Int.tmod_lt_of_pos (-x) hn;rw [Int.neg_tmod]at h2;have h3:0≤x.tmod n+n:=by omega
 rw [Int.tmod_eq_emod_of_nonneg h3];exact⟨Int.emod_nonneg _ (by omega),Int.emod_lt_of_pos _ hn⟩
theorem qe{l:List Int}{n j:Int}{s s1:Gs}(hn:0<n)(h:gN l n s=(j,s1)):0≤j∧j<n:=by
 unfold gN at h;split at h
 ·cases h;exact⟨Int.le_refl _,hn⟩
 ·cases h;exact mr hn
theorem EY{l:List Int}{n j:Int}{s s1:Gs}(h:gN l n s=(j,s1)):s1={s with at_:=s1.at_}∧(s.at_≤l.length→s1.at_≤l.length):=by
 unfold gN at h;split at h
 ·cases h;exact⟨J,fun h=>h⟩
 ·rename_i x hx;cases h;exact⟨J,fun _=>(db.1 hx).1⟩
def ib(vl:SV)(s:Gs)(vn:SV)(me:Nat)(vf:SV):List Value:= [sv vl,I6 (s.at_:Int),I6 s.left,I6 s.nodes,sv vn,I6 s.vars,I6 (me:Int),sv vf]
theorem Hz{l:List Int}{n:Int}{s:Gs}(h:l.length≤s.at_):gN l n s=(0,s):=by
 unfold gN;rw [List.getElem?_eq_none h]
theorem Hy{l:List Int}{n x:Int}{s:Gs}(h:l[s.at_]?=some x):gN l n s=(dR x n,{s with at_:=s.at_+1}):=by
 unfold gN;rw [h]
theorem Mo(x:Int){m:Int}(hm:0<m): -m<x.tmod m∧x.tmod m<m:=by
 have h1:=Int.tmod_lt_of_pos x hm;have h2:=Int.tmod_lt_of_pos (-x) hm;rw [Int.neg_tmod]at h2;omega
theorem eu(n m:Int)(hm:0<m∧m≤1000000):
  bi prog 24 [I6 n,I6 m] [] [] (I6 (dR n m)) []:=by
 refine aM func24 J ntmps24 J fun w0 M H=>ar (aq J (aF J (ad J (ad J (av J J (kA (by omega) J) (ad J (av J J (cC (by have:=Mo n hm.1;exact bU (by omega))) (ad J (av J J (kA (by omega) J) (aq J (aa (az (aQ () O J (cc (aP J)) J [] [] J J J)))))))))))))
theorem cU(g:Nat)(vl vn vf:SV)(c:Gc)(hl:c.l.length≤9223372036854775807)(hlo:∀x∈c.l,wP x)(n:Int)(hn:0<n∧n≤1000000)(s:Gs):
  bi prog 46 [Pt g,I6 n] [be g 102 (ib vl (s) vn c.me vf)] [sl 1 eI (sv vl) c.l] (I6 (gN c.l n s).1) [be g 102 (ib vl ((gN c.l n s).2) vn c.me vf)]:=by
 refine aM func46 J ntmps46 J fun w0 M H=>ar (aq J (aa (aZ (aZ (bQ [5,6,7,8,9,10,11,12,13,14] _ J (bn (V:= [(0,5,_),(1,6,_),(2,7,_),(3,8,_),(4,9,_),(5,10,_),(6,11,_),(7,12,_),(8,13,_),(9,14,_)]) [0,1,2,3,4,5,6,7,8,9] J J (ay J J (ac J (aj J) (ac J (ah qY J) (ac J (ae t3 J J (ax (k:=0) J J)) (ay J J (ac J (aj J) (ac J (ah Bh J) (ac J (ae Dj J J (ax (k:=0) J J)) (ac J (aL underlying22 J (aN (k:=0) J)) (ac J (aU J J ig) ag)))))))))) J J J (am J (fun h1=> ?_) (fun h1=> ?_))))))))
 ·(try simp only [bk]at h1);rw [Hz (by omega)];refine ar (aq J (aa (az (aQ () O J (cc (aP J)) J [0] [] J J J))))
 ·(try simp only [bk]at h1);have hlt:s.at_<c.l.length:=by omega
  obtain⟨x,hx⟩:∃x,c.l[s.at_]?=some x:=⟨_,bT hlt⟩
  rw [Hy hx];refine aA (ar (ad J (bS J (aD qY J (aT 0 t3 J J J J (av J J aO (bS J (aD qY J (aB (k:=0) t3 J J J J J J J J (aa (aZ ?_)))))))))));refine bQ [22,23,24,25,26,27,28,29,30,31,32,33,34,4] _ J (aW (V:= [(0,22,_),(1,23,_),(2,24,_),(3,25,_),(4,26,_),(5,27,_),(6,28,_),(7,29,_),(8,30,_),(9,31,_),(10,32,_),(11,33,_)]) [0,1,2,3,4,5,6,7,8,9,10,11] 12 [12,11,10,9,8,7,6,5,4,3,2,1,0] [13] (fun _=> [(13,4,_)]) J J (ay J J (ac J (aj J) (ac J (ah Bh J) (ac J (ae Dj J J (ax (k:=0) J J)) (ay J J (ac J (aj J) (ac J (ah qY J) (ac J (ae t3 J J (ax (k:=0) J J)) (ac J (aU J J (gZ (c:=(s.at_:Int)) (by rw [show(s.at_:Int)+1-1=(s.at_:Int) by omega];exact bU (by omega)))) (ac J (aK (j:=s.at_) underlying22 t3 J J (aN (k:=0) J) (by omega) hlt) (ac J (ae t3 J J (bJ (aN (k:=0) J) (by intro _;rfl) hx (by rfl))) (ay J J ag)))))))))))) J J J J J J J J J J J (fun _ _=>J) J (bw (xs:= [.tmp 32,.tmp 33]) (eu x n hn) lZ [] [] []) (fun _ _=>bn [13] J J (ac J (cT J) ag) J J J ?_));refine az (aQ () O J (cc (aP J)) J [0] [] J J J)
theorem se{l:List Int}{α:Type}{L:List α}{n:Int}(hn:0<n)(hL:n=(L.length:Int))(s:Gs):∃x,L[(gN l n s).1.toNat]?=some x∧(gN l n s).1.toNat<L.length∧(gN l n s).1=((gN l n s).1.toNat:Int):=by
 have h:=qe (l:=l) (s:=s) (j:=(gN l n s).1) (s1:=(gN l n s).2) hn J;have h2:(gN l n s).1.toNat<L.length:=by omega
 exact⟨_,bT h2,h2,by omega⟩
theorem xa(g:Nat)(vl vn vf:SV)(c:Gc)(hl:c.l.length≤9223372036854775807)(hlo:∀x∈c.l,wP x)(s:Gs):
  Spec prog 117 [Pt g] [be g 102 (ib vl (s) vn c.me vf)] [sl 1 eI (sv vl) c.l] (X:=Int) (fun x=>cL[(gN c.l 15 s).1.toNat]?=some x) (fun x=>xV (kb x)) (fun _=> [be g 102 (ib vl ((gN c.l 15 s).2) vn c.me vf)]) (fun _=> []):=by
 refine aM func117 J ntmps117 J fun w0 M H=>ar (aX ca J J fun b2=>aF J (dz eU cL (parts:= [(0,.const (I3 0)),(1,.const (I3 1)),(2,.const (I3 2)),(3,.const (I3 3)),(4,.const (I3 5)),(5,.const (I3 8)),(6,.const (I3 31)),(7,.const (I3 32)),(8,.const (I3 255)),(9,.const (I3 256)),(10,.const (I3 65535)),(11,.const (I3 131072)),(12,.const (I3 2147483647)),(13,.const (I3 2147483648)),(14,.const (I3 4294967295))]) underlying48 eG J (by decide) (by intro _;rfl) J (by decide) (by decide) J J J J fun v4=>aq J (aF J (ad J (ad J (ad J (aS (aL underlying48 J (aH (k:=4) J)) (ak (xs:= [.tmp 6,.tmp 8]) (cU g vl vn vf c hl hlo 15 (by decide) s) kx [0] [(false,0)] [0] (fun _ _=> ?_)))))))))
 obtain⟨x,hx,hj1,hj2⟩:=se (l:=c.l) (L:=cL) (n:=15) (by decide) J s;refine aS (aK (j:=(gN c.l 15 s).1.toNat) underlying48 eG J J (aH (k:=4) J) hj2 hj1) (aS (ae eG J J (bJ (aH (k:=4) J) (by intro _;rfl) hx (by rfl))) (aS (aR (parts:= [(0,.const (I6 1)),(1,.tmp 11)]) ca fP J J) (au (k:=2) ca J J J J J J (aa (az (aQ x hx J (cc (bp ca J J J (a_ (k:=2) J))) J [0] [] J J J))))))
theorem kP(l:List Int)(n:Int)(s:Gs):(gN l n s).2.names=s.names∧(gN l n s).2.left=s.left∧(gN l n s).2.vars=s.vars:=by
 have h:=(EY (l:=l) (n:=n) (s:=s) (j:=(gN l n s).1) (s1:=(gN l n s).2) (by exact Prod.eta _)).1;rw [h];exact⟨J,J,J⟩
theorem pj(l:List Int){n:Int}(hn:0<n)(s:Gs):0≤(gN l n s).1∧(gN l n s).1<n:=qe (j:=(gN l n s).1) (s1:=(gN l n s).2) hn (by exact Prod.eta _)
theorem cl{l:List Int}{n j:Int}{s s1:Gs}(h:gN l n s=(j,s1)):s1.names=s.names∧s1.left=s.left∧s1.vars=s.vars:=by
 rw [(EY h).1];exact⟨J,J,J⟩
theorem ln{l:List Int}{d:Nat}{s s1:Gs}{k:Int}(h:gK l d s=(k,s1)):s1.names=s.names∧s1.left=s.left∧s1.vars=s.vars:=by
 unfold gK at h;have h2:(gN l 16 {s with nodes:=IntKind.i64.wrap (s.nodes-1)}).2=s1:=congrArg Prod.snd h;have h3:=kP l 16 {s with nodes:=IntKind.i64.wrap (s.nodes-1)};rw [h2]at h3;exact h3
theorem kn{w:World}{F G:Nat→Prop}{t:Tx}(h:(cm t.v t.kids).pred w G)(hs:∀b,G b→F b):TxIn w F t:=by
 have h2:TxIn w G t:=by
  cases t;exact h
 exact TxIn.mono hs (fun _ _=>J) t h2
def Io(l:List Tx):Asn:=⟨fun w F=>TxsIn w F l,fun h hs=>TxsIn.mono (fun _ hb=>hb) hs _ h⟩
theorem zS{w:World}{F:Nat→Prop}:∀{l:List Tx}{t:Tx},TxsIn w F l→TxIn w F t→TxsIn w F (l++ [t])
 | [],t,_,ht=>⟨ht,trivial⟩
 | a::r,t,h,ht=>⟨h.1,zS h.2 ht⟩
theorem In{w:World}{F G:Nat→Prop}{l:List Tx}(h:(Io l).pred w G)(hs:∀b,G b→F b):TxsIn w F l:=TxsIn.mono hs (fun _ _=>rfl) l h
theorem kv(w:World)(F:Nat→Prop)(_:AllIn w F []):(cm bv []).pred w F:=⟨ia,trivial⟩
theorem kL{v:SV}{t:Tx}(w:World)(F:Nat→Prop)(h:AllIn w F [own 61 4 dB (sv v) [t],cm t.v t.kids]):(cm v [t]).pred w F:=by
 obtain⟨⟨_,a0,b0⟩,⟨_,a1,b1⟩,_⟩:=h;exact⟨ck a0 b0,kn a1 b1,O⟩
theorem z_{v:SV}{t u:Tx}(w:World)(F:Nat→Prop)(h:AllIn w F [own 61 4 dB (sv v) [t,u],cm t.v t.kids,cm u.v u.kids]):(cm v [t,u]).pred w F:=by
 obtain⟨⟨_,a0,b0⟩,⟨_,a1,b1⟩,⟨_,a2,b2⟩,_⟩:=h;exact⟨ck a0 b0,kn a1 b1,kn a2 b2,O⟩
theorem AJ{l:List Tx}{t:Tx}(w:World)(F:Nat→Prop)(h:AllIn w F [Io l,cm t.v t.kids]):(Io (l++ [t])).pred w F:=by
 obtain⟨⟨_,a0,b0⟩,⟨_,a1,b1⟩,_⟩:=h;exact zS (In a0 b0) (kn a1 b1)
theorem wZ{v:SV}{l:List Tx}(w:World)(F:Nat→Prop)(h:AllIn w F [own 61 4 dB (sv v) l,Io l]):(cm v l).pred w F:=by
 obtain⟨⟨_,a0,b0⟩,⟨_,a1,b1⟩,_⟩:=h;exact⟨ck a0 b0,In a1 b1⟩
structure Ge where
 g:Nat
 vl:SV
 vn:SV
 vf:SV
 c:Gc
 F:List Tf
structure Gfine(e:Ge):Prop where
 hl:e.c.l.length≤9223372036854775807
 hlo:∀x∈e.c.l,wP x
 fs:e.c.fs=e.F.map fun f=>(f.name,f.ps)
 fl:e.F.length≤100
 me:e.c.me≤100
 ps:∀f∈e.F,f.ps.length≤100
def OO(e:Ge)(d:Nat):Prop:=∀s:Gs,s.names.length≤1000→Spec prog 79 [Pt e.g,I6 ((d:Int)+1)] [be e.g 102 (ib e.vl s e.vn e.c.me e.vf)] [sl 1 eI (sv e.vl) e.c.l,sl 1 eS (sv e.vn) s.names,cE e.vf e.F] (X:=Tx×Gs) (fun x=>GXr e.c d s (lz x.1) x.2) (fun x=>xV x.1) (fun x=> [be e.g 102 (ib e.vl x.2 e.vn e.c.me e.vf),cm x.1.v x.1.kids]) (fun _=> [])
def Q6(e:Ge)(d:Nat):Prop:=∀(s:Gs)(f:Tf),f∈e.F→s.names.length≤1000→Spec prog 80 [Pt e.g,Gp f,I6 ((d:Int)+2)] [be e.g 102 (ib e.vl s e.vn e.c.me e.vf)] [sl 1 eI (sv e.vl) e.c.l,sl 1 eS (sv e.vn) s.names,cE e.vf e.F] (X:=Tx×Gs) (fun x=>GCr e.c d (f.name,f.ps) s (lz x.1) x.2) (fun x=>xV x.1) (fun x=> [be e.g 102 (ib e.vl x.2 e.vn e.c.me e.vf),cm x.1.v x.1.kids]) (fun _=> [])
mutual
theorem GXr.keep{c:Gc}:∀{d:Nat}{s s':Gs}{p:Px},GXr c d s p s'→s'.names=s.names∧s'.left=s.left∧s'.vars=s.vars
 | _,s,_,_,.nam (s1:=s1) hk _ _ hj _=>by
  have h1:=ln hk;have h2:=(EY hj).1;rw [h2];exact h1
 | _,_,_,_,.inp hk=>ln hk
 | _,_,_,_,.mem hk _ hp=>by
  have h1:=ln hk;have h2:=hp.keep;exact⟨h2.1.trans h1.1,h2.2.1.trans h1.2.1,h2.2.2.trans h1.2.2⟩
 | _,_,_,_,.una hk hj _ hp=>by
  have h1:=ln hk;have h3:=cl hj;have h2:=hp.keep;exact⟨h2.1.trans (h3.1.trans h1.1),h2.2.1.trans (h3.2.1.trans h1.2.1),h2.2.2.trans (h3.2.2.trans h1.2.2)⟩
 | _,_,_,_,.call hk _ hj _ hp=>by
  have h1:=ln hk;have h3:=cl hj;have h2:=hp.keep;exact⟨h2.1.trans (h3.1.trans h1.1),h2.2.1.trans (h3.2.1.trans h1.2.1),h2.2.2.trans (h3.2.2.trans h1.2.2)⟩
 | _,_,_,_,.bin hk _ hj _ hp hq=>by
  have h1:=ln hk;have h3:=cl hj;have h2:=hp.keep;have h4:=hq.keep;exact⟨h4.1.trans (h2.1.trans (h3.1.trans h1.1)),h4.2.1.trans (h2.2.1.trans (h3.2.1.trans h1.2.1)),h4.2.2.trans (h2.2.2.trans (h3.2.2.trans h1.2.2))⟩
 | _,_,_,_,.con hk _ _ _ _ _ _ _ hj _=>by
  have h1:=ln hk;have h3:=cl hj;exact⟨h3.1.trans h1.1,h3.2.1.trans h1.2.1,h3.2.2.trans h1.2.2⟩
theorem GKr.keep{c:Gc}:∀{d n:Nat}{s s':Gs}{ps:List Px},GKr c d n s ps s'→s'.names=s.names∧s'.left=s.left∧s'.vars=s.vars
 | _,_,_,_,_,.nil=>⟨rfl,rfl,rfl⟩
 | _,_,_,_,_,.cons hp hq=>by
  have h1:=hp.keep;have h2:=hq.keep;exact⟨h2.1.trans h1.1,h2.2.1.trans h1.2.1,h2.2.2.trans h1.2.2⟩
end
theorem r8(e:Ge)(he:Gfine e)(d:Nat)(hd:d≤10)(ih:OO e d)(s:Gs)(f:Tf)(hf:f∈e.F)(hn:s.names.length≤1000):
  Spec prog 80 [Pt e.g,Gp f,I6 ((d:Int)+2)] [be e.g 102 (ib e.vl (s) e.vn e.c.me e.vf)] [sl 1 eI (sv e.vl) e.c.l,sl 1 eS (sv e.vn) s.names,cE e.vf e.F] (X:=Tx×Gs) (fun x=>GCr e.c d (f.name,f.ps) s (lz x.1) x.2) (fun x=>xV x.1) (fun x=> [be e.g 102 (ib e.vl (x.2) e.vn e.c.me e.vf),cm x.1.v x.1.kids]) (fun _=> []):=by
 refine aM func80 J ntmps80 J fun w0 M H=>bc 2 4 J (lI hf) (bc 4 3 J lJ ?_)
 have hpl:=he.ps f hf;refine ar (cA J J fun b4=>aX ca J J fun b6=>aF J (aD jG J (aT 4 t9 J J J J (aS (aR (parts:= [(0,.const (I6 3)),(2,.tmp 10)]) ca fP J J) (aX ca J J fun b7=>au (k:=7) ca J J J J J J (aa (aV (aq J (aa (aC (dI 40 (α:=Tx) (S:=61) (s:=4) (enc:=dB) ?_)))))))))));refine bh 41 [] (L:= []) (C:=Io []) J (fun _ _ _=>O) (bI (X:=Nat×SV×List Tx×Gs) (fun x=>x.1≤f.ps.length∧x.2.2.1.length=x.1∧GKr e.c d x.1 s (gT x.2.2.1) x.2.2.2) (fun x=> [(0,Pt e.g),(2,I6 ((d:Int)+2)),(4,Pt b4),(6,Pt b6),(7,Pt b7),(8,I6 (x.1:Int))]) (fun x=> [(0,be e.g 102 (ib e.vl (x.2.2.2) e.vn e.c.me e.vf)),(4,be b4 66 (gu f)),(6,be b6 61 (dB (.mk 0 0 bD bv []))),(7,be b7 61 (dB (.mk 3 0 f.name x.2.1 x.2.2.1))),(40,own 61 4 dB (sv x.2.1) x.2.2.1),(41,Io x.2.2.1)]) (fun x=> [(0,sl 1 eI (sv e.vl) e.c.l),(1,sl 1 eS (sv e.vn) s.names),(2,cE e.vf e.F),(3,sl 1 eS (sv f.vp) f.ps)]) (fun x=>f.ps.length-x.1) (0,bv,[],s) ⟨bq _,J,.nil⟩ J J J (fun x hx0=> ?_));obtain⟨i,vk,kids,sx⟩:=x;obtain⟨n1,n2,n3⟩:=hx0;dsimp only at n1 n2 n3 ⊢;have n4:kids=kids:=J;refine aV (ad J (aD dW J (aT 4 h_ J J J J (aS (aL underlying46 J (aN (k:=3) J)) (av J J cy (aa (am J (fun h1=> ?_) (fun h1=> ?_))))))))
 ·(try simp only [bk]at h1);have hi:i<f.ps.length:=by omega
  refine aA (aZ (aC ?_));refine bQ [19,20,21,22,23,24,25,26,27] _ J (aW (V:= [(0,19,_),(1,20,_),(2,21,_),(3,22,_),(4,23,_)]) [0,1,2,3,4] 5 [5,4,3,2] [] (fun xt=> []) J J (ac J (ah dT J) (ac J (ae jM J J (ax (k:=7) J J)) (ay J J (ay J J (ac J (aU J J (gZ (c:=(d:Int)+1) (by rw [show(d:Int)+2-1=(d:Int)+1 by omega];exact bU (by omega)))) ag))))) J J J J J J J J J J J (fun _ _=>J) J (iU (xs:= [.tmp 21,.tmp 23]) (ih sx (by rw [n3.keep.1];exact hn)) nH [0] [(false,0),(false,1),(false,2)] [0,24] J J J J J (by rw [←n3.keep.1];rfl) J J (fun _ _=>J) (fun _ _ _=>J)) (fun xt hxt=>aW [0,1] 6 [6,5,4,3,2] [] (fun v25=> []) J J (ac J (ah dT J) (ac J (ae jM J J (ax (k:=7) J J)) ag)) J J J J J J J J J J J (fun _ _=>J) J (bE dB xt.1 underlying59 ca J (by decide) (by decide) J J J) (fun v25 _=>aW [0,1] 7 [7,6,5,4,3,2,1,0] [8] (fun v26=> [(8,27,_)]) J J (ac J (ah dT J) (ac J (ae jM J J (ax (k:=7) J J)) ag)) J J J J J J J J J J J (fun _ _=>J) J (eB 40 underlying59 ca J (by decide) (fun _=>J) (fun _=>J) J J J (aH (k:=25) J) (by have:=congrArg List.length n4;simp only [bV];omega) (by unfold maxLen;simp only [bV];omega)) (fun v26 _=>bH [8] 9 [9,8,7,6,5,4,3,2,1,0] [] (fun _=> []) J J (ac J (ah dT J) ag) J J J J J J J J J (fun _ _=>J) J (da (k:=7) jM J J J J J J J J) (fun _ _=>bn [] J J ag J J J ?_)))));refine ap (ad J (av J J aO (aq J (aa (bh 41 [41,24] J AJ ?_)))));refine aG (i+1,v26,kids++ [xt.1],xt.2) ⟨⟨by dsimp only;omega,by dsimp only;rw [bA,bV,n2],by dsimp only;rw [oE];exact n3.snoc hxt⟩,by dsimp only;omega⟩ J J J
 ·(try simp only [bk]at h1);have hi:i=f.ps.length:=by omega
  subst hi;refine bM (ar (aS (aJ ca J J J (a_ (k:=7) J)) (au (k:=6) ca J J J J J J (aa (az (bh 50 [40,41] J wZ (aQ (.mk 3 0 f.name vk kids,sx) ⟨gT kids,n3,J⟩ J (cc (bp ca J J J (a_ (k:=6) J))) J [0,50] [] J J J)))))))
theorem r6(e:Ge)(he:Gfine e)(d:Nat)(hd:d≤10)(ihX:∀k,d=k+1→OO e k)(ihC:∀k,d=k+1→Q6 e k)(s:Gs)(hn:s.names.length≤1000):
  Spec prog 79 [Pt e.g,I6 ((d:Int)+1)] [be e.g 102 (ib e.vl (s) e.vn e.c.me e.vf)] [sl 1 eI (sv e.vl) e.c.l,sl 1 eS (sv e.vn) s.names,cE e.vf e.F] (X:=Tx×Gs) (fun x=>GXr e.c d s (lz x.1) x.2) (fun x=>xV x.1) (fun x=> [be e.g 102 (ib e.vl (x.2) e.vn e.c.me e.vf),cm x.1.v x.1.kids]) (fun _=> []):=by
 refine aM func79 J ntmps79 J fun w0 M H=>bc 2 3 J jw ?_
 have hfl:e.c.fs.length=e.F.length:=by rw [he.fs,List.length_map]
 have hflb:=he.fl;have hmeb:=he.me;obtain⟨k0,s1,hr⟩:∃k0 s1,gN e.c.l 16 {s with nodes:=IntKind.i64.wrap (s.nodes-1)}=(k0,s1):=⟨_,_,J⟩
 have hkb:=qe (by decide) hr;have hst:=cl hr;obtain⟨k,hkk⟩:∃k,(if d=0∨s1.nodes<1 then k0%4 else k0)=k:=⟨_,J⟩
 have hk:gK e.c.l d s=(k,s1):=by
  unfold gK;rw [hr,←hkk]
 have hn1:s1.names=s.names:=hst.1;have hk16:0≤k∧k<16:=by rw [←hkk];split<;>omega
 have hk4:d=0→k<4:=fun h=>by rw [←hkk,aw (.inl h)];omega
 refine ar (aX ca J J fun b4=>aF J (ad J (bS J (aD qW J (aT 0 t3 J J J J (av J J (gZ J) (bS J (aD qW J (aB (k:=0) t3 J J J J J J J J (aF J (ad J (ak (xs:= [.tmp 17,.const (I6 16)]) (cU e.g e.vl e.vn e.vf e.c he.hl he.hlo (16) (by decide) ({s with nodes:=IntKind.i64.wrap (s.nodes-1)})) kx [0] [(false,0)] [0] (fun _ _=> ?_)))))))))))));rw [hr];refine aq J (aa (bz (X:=Unit) (fun _=>True) (fun _=> [(0,Pt e.g),(1,I6 ((d:Int)+1)),(4,Pt b4),(5,I6 k)]) (fun _=> [(0,be e.g 102 (ib e.vl (s1) e.vn e.c.me e.vf)),(4,be b4 61 (dB (.mk 0 0 bD bv [])))]) (fun _=> [(0,sl 1 eI (sv e.vl) e.c.l),(1,sl 1 eS (sv e.vn) s.names),(2,cE e.vf e.F),(3,sl 3 gu (sv e.vf) e.F)]) ?_ (fun _ _=> ?_)))
 ·refine ar (ad J (av J J l7 (ad J (aI [] J J O (fun hg1=>aY J) J (aI [(22,_)] J J ⟨J,O⟩ (fun hg2=>aj J) J (aI [(22,_),(23,_)] J J ⟨J,J,O⟩ (fun hg3=>ah qW J) J (aI [(22,_),(23,_),(24,_)] J J ⟨J,J,J,O⟩ (fun hg4=>ae t3 J J (ax (k:=0) J J)) J (aI [(22,_),(23,_),(24,_),(25,_)] J J ⟨J,J,J,J,O⟩ (fun hg5=>aU J J cy) J (aS (bK J J J) (aa (am J (fun h6=> ?_) (fun h6=> ?_))))))))))))
  ·(try simp only [bk]at h6);have hsm:d=0∨s1.nodes<1:=by rcases h6 with h|h;exact .inl (by omega);exact .inr h
   refine ap (ad J (av J J (kA (by decide) (Int.tmod_eq_emod_of_nonneg hkb.1)) (aq J (aa (aG () O (by rw [←hkk,aw hsm];rfl) J J)))))
  ·(try simp only [bk]at h6);have hsm:¬(d=0∨s1.nodes<1):=by rintro (h|h);exact h6.1 (by omega);exact h6.2 h
   refine aA (aG () O (by rw [←hkk,ai hsm];rfl) J J)
 ·refine aZ (aC (ar (ad J (av J J br (ad J (aI [] J J O (fun hg7=>aY J) J (aI [(34,_)] J J ⟨J,O⟩ (fun hg8=>aj J) J (aI [(34,_),(35,_)] J J ⟨J,J,O⟩ (fun hg9=>ah gl J) J (aI [(34,_),(35,_),(36,_)] J J ⟨J,J,J,O⟩ (fun hg10=>ae h_ J J (ax (k:=0) J J)) J (aI [(34,_),(35,_),(36,_),(37,_)] J J ⟨J,J,J,J,O⟩ (fun hg11=>aL underlying46 J (aN (k:=1) J)) J (aI [(34,_),(35,_),(36,_),(37,_),(38,_)] J J ⟨J,J,J,J,J,O⟩ (fun hg12=>aU J J fh) J (aS (bK J J J) (ad J (aI [] J J O (fun hg13=>aY J) J (aI [(42,_)] J J ⟨J,O⟩ (fun hg14=>aU J J br) J (aI [(42,_),(43,_)] J J ⟨J,J,O⟩ (fun hg15=>aY J) J (cG [] [(42,_),(43,_),(44,_)] J J O ⟨J,J,J,O⟩ (fun hg16 hg16'=>aY J) J (cG [(45,_)] [(42,_),(43,_),(44,_)] J J ⟨J,O⟩ ⟨J,J,J,O⟩ (fun hg17 hg17'=>aj J) J ?_))))))))))))))))));refine cG [(45,_),(46,_)] [(42,_),(43,_),(44,_)] J J ⟨J,J,O⟩ ⟨J,J,J,O⟩ (fun hg18 hg18'=>ah gl J) J (cG [(45,_),(46,_),(47,_)] [(42,_),(43,_),(44,_)] J J ⟨J,J,J,O⟩ ⟨J,J,J,O⟩ (fun hg19 hg19'=>ae h_ J J (ax (k:=0) J J)) J (cG [(45,_),(46,_),(47,_),(48,_)] [(42,_),(43,_),(44,_)] J J ⟨J,J,J,J,O⟩ ⟨J,J,J,O⟩ (fun hg20 hg20'=>aL underlying46 J (aN (k:=1) J)) J (cG [(45,_),(46,_),(47,_),(48,_),(49,_)] [(42,_),(43,_),(44,_)] J J ⟨J,J,J,J,J,O⟩ ⟨J,J,J,O⟩ (fun hg21 hg21'=>aU J J fh) J (aI [(42,_),(43,_),(44,_)] J J ⟨J,J,J,O⟩ (fun hg22=>e9 J J J (by first|exact dU|exact ez|exact dh hg22|exact dK hg22|rfl)) J (aS (bK J J J) (aq J (aa (am J (fun h23=> ?_) (fun h23=> ?_)))))))))
  ·(try simp only [bk]at h23);have hq:(k=1∨k=2)∧0<s1.names.length:=by rw [hn1];rcases h23 with h|h;exact⟨.inl h.1,by omega⟩;exact⟨.inr h.1,by omega⟩
   have hsl:=hq.2;rw [hn1]at hsl;obtain⟨x6,hx6,hja6,hjb6⟩:=se (l:=e.c.l) (L:=s.names) (n:=(s.names.length:Int)) (by omega) J (s1);refine aZ ?_;refine bQ [53,54,55,56,57,58,59,60,61,62,63,64,65,66] _ J (aW (V:= [(0,53,_),(1,54,_),(2,55,_),(3,56,_),(4,57,_),(5,58,_),(6,59,_),(7,60,_),(8,61,_),(9,62,_)]) [0,1,2,3,4,5,6,7,8,9] 10 [10,9,8,7,6,5,4] [11,12,13] (fun _=> [(11,64,_),(12,65,_),(13,66,_)]) J J (ay J J (ac J (aj J) (ac J (ah gl J) (ac J (ae h_ J J (ax (k:=0) J J)) (ay J J (ay J J (ac J (aj J) (ac J (ah gl J) (ac J (ae h_ J J (ax (k:=0) J J)) (ac J (aL underlying46 J (aN (k:=1) J)) ag)))))))))) J J J J J J J J J J J (fun _ _=>J) J (bw (xs:= [.tmp 57,.tmp 62]) (cU e.g e.vl e.vn e.vf e.c he.hl he.hlo (s.names.length:Int) (by omega) s1) kx [0] [(false,0)] [0]) (fun _ _=>bH [11,12,13,0,1,2,3] 14 [14,13,12,11,10,9,8,7,6,5,4,3,2,1,0] [] (fun _=> []) J J (ac J (aK (j:=(gN e.c.l (s.names.length:Int) s1).1.toNat) underlying46 t9 J J (aN (k:=1) J) hjb6 hja6) (ac J (ae t9 J J (bJ (aN (k:=1) J) (by intro _;rfl) hx6 (by rfl))) (ac J (aR (parts:= [(0,.const (I6 2)),(2,.tmp 65)]) ca fP J J) (ay J J (ac J (aj J) (ac J (ah gl J) (ac J (ae h_ J J (ax (k:=0) J J)) ag))))))) J J J J J J J J J (fun _ _=>J) J (bL (k:=4) ca J J J J J J) (fun _ _=>bn [] J J ag J J J ?_)));refine az (bh 50 [] (L:= []) J kv (aQ (iP x6,(gN e.c.l (s.names.length:Int) s1).2) (.nam (j:=(gN e.c.l (s.names.length:Int) s1).1) hk hq.1 hq.2 (by rw [hn1]) (by rw [hn1];exact hx6)) J (cc (bp ca J J J (a_ (k:=4) J))) J [0,50] [] J J J))
  ·(try simp only [bk]at h23);have hq:¬((k=1∨k=2)∧0<s1.names.length):=by
    rw [hn1];rintro ⟨h1|h1,h2⟩
    ·rcases h23.1 with h|h
     ·exact h h1
     ·omega
    ·rcases h23.2 with h|h
     ·exact h h1
     ·omega
   refine ar (ad J (av J J br (aq J (aa (am J (fun h24=> ?_) (fun h24=> ?_))))))
   ·(try simp only [bk]at h24);have q3:k=3:=h24;refine ar (aS (aR (parts:= [(0,.const (I6 5))]) ca fP J J) (au (k:=4) ca J J J J J J (aa (az (bh 50 [] (L:= []) J kv (aQ (mZ,s1) (.inp (q3▸hk)) J (cc (bp ca J J J (a_ (k:=4) J))) J [0,50] [] J J J))))))
   ·(try simp only [bk]at h24);have q3:¬k=3:=h24;refine ar (ad J (av J J br (ad J (aI [] J J O (fun hg25=>aY J) J (aI [(75,_)] J J ⟨J,O⟩ (fun hg26=>aU J J br) J (aS (bK J J J) (aq J (aa (am J (fun h27=> ?_) (fun h27=> ?_))))))))))
    ·(try simp only [bk]at h27);have q4:k=4∨k=5:=h27;obtain⟨d2,rfl⟩:∃d2,d=d2+1:=⟨d-1,by have:=hk4;omega⟩
     refine ar (ad J (ad J ?_));refine te (aU J J (gZ (c:=(d2:Int)+1) (by rw [show(((d2+1:Nat):Int)+1)-1=(d2:Int)+1 by omega];exact bU (by omega)))) J ?_;refine dG (xs:= [.tmp 78,.tmp 80]) (ihX _ J (s1) (by rw [hn1];exact hn)) nH [0] [(false,0),(false,1),(false,2)] [0,81] J J J J J (by rw [←hn1];rfl) J J (fun _ _=>J) (fun _ _ _=>J) J (fun xt hxt=>bj dB xt.1 underlying59 ca J (by decide) (by decide) J J J J fun v82=>aS (aR (parts:= [(0,.const (I6 4)),(3,.tmp 82)]) ca fP J J) (au (k:=4) ca J J J J J J (aa (az (bh 50 [82,81] J kL (aQ (.mk 4 0 bD v82 [xt.1],xt.2) (.mem hk q4 hxt) J (cc (bp ca J J J (a_ (k:=4) J))) J [0,50] [] J J J))))))
    ·(try simp only [bk]at h27);have q4:¬(k=4∨k=5):=by rintro (h|h);exact h27.1 h;exact h27.2 h
     refine ar (ad J (av J J br (aq J (aa (am J (fun h28=> ?_) (fun h28=> ?_))))))
     ·(try simp only [bk]at h28);have q6:k=6:=h28;obtain⟨d2,rfl⟩:∃d2,d=d2+1:=⟨d-1,by have:=hk4;omega⟩
      obtain⟨xu,hxu,hjau,hjbu⟩:=se (l:=e.c.l) (L:=ti) (n:=3) (by decide) J (s1);have hn6:(gN e.c.l 3 s1).2.names=s.names:=(kP e.c.l 3 s1).1.trans hn1;refine aZ ?_
      refine bQ [87,88,89,90,91,92,93,94,95,96,97] _ J (fp (V:= [(1,88,_),(5,92,_),(6,93,_),(7,94,_)]) [1,5,6,7] J J (ay J J (ay J J (ay J J (bl (GU J (aU J J (gZ (c:=(d2:Int)+1) (by rw [show(((d2+1:Nat):Int)+1)-1=(d2:Int)+1 by omega];exact bU (by omega))))) ag)))) J [0,2] J J (bC (ea 0 [0] [] (fun v87=> []) J J J J J J J J J (fun _ _=>J) J (d_ eS ti (parts:= [(0,.const (Sg (ByteArray.mk #[45]))),(1,.const (Sg (ByteArray.mk #[126]))),(2,.const (Sg (ByteArray.mk #[33])))]) underlying46 t9 J (by decide) (by intro _;rfl) J (by decide) (by decide) J J J) (fun v87 _=>aW [1,5,6,7] 2 [2,1,0] [3,4] (fun _=> [(3,90,_),(4,91,_)]) J J (ay J J (ay J J (ay J J (bl (GU J (aU J J (gZ (c:=(d2:Int)+1) (by rw [show(((d2+1:Nat):Int)+1)-1=(d2:Int)+1 by omega];exact bU (by omega))))) ag)))) J J J J J J J J J J J (fun _ _=>J) J (bw (xs:= [.tmp 88,.const (I6 3)]) (cU e.g e.vl e.vn e.vf e.c he.hl he.hlo (3) (by decide) (s1)) kx [0] [(false,0)] [0]) (fun _ _=>aW [3,4,5,6,7] 8 [8,7,6,5,2,1,0] [] (fun xt=> []) J J (ac J (aK (j:=(gN e.c.l 3 s1).1.toNat) underlying46 t9 J J (aH (k:=87) J) hjbu hjau) (ac J (ae t9 J J (bJ (aH (k:=87) J) (by intro _;rfl) hxu (by rfl))) (ay J J (ay J J (bl (GU J (aU J J (gZ (c:=(d2:Int)+1) (by rw [show(((d2+1:Nat):Int)+1)-1=(d2:Int)+1 by omega];exact bU (by omega))))) ag))))) J J J J J J J J J J J (fun _ _=>J) J (iU (xs:= [.tmp 92,.tmp 94]) (ihX _ J ((gN e.c.l 3 s1).2) (by rw [hn6];exact hn)) nH [0] [(false,0),(false,1),(false,2)] [0,95] J J J J J (by rw [←hn6];rfl) J J (fun _ _=>J) (fun _ _ _=>J)) (fun xt hxt=>aW [3,4] 9 [9,8,7,6,5,2,1,0] [10] (fun v96=> [(10,97,_)]) J J (ac J (aK (j:=(gN e.c.l 3 s1).1.toNat) underlying46 t9 J J (aH (k:=87) J) hjbu hjau) (ac J (ae t9 J J (bJ (aH (k:=87) J) (by intro _;rfl) hxu (by rfl))) ag)) J J J J J J J J J J J (fun _ _=>J) J (bE dB xt.1 underlying59 ca J (by decide) (by decide) J J J) (fun v96 _=>bH [10,3,4] 11 [11,10,9,8,7,6,5,4,3,2,1,0] [] (fun _=> []) J J (ac J (aR (parts:= [(0,.const (I6 6)),(2,.tmp 91),(3,.tmp 96)]) ca fP J J) (ac J (aK (j:=(gN e.c.l 3 s1).1.toNat) underlying46 t9 J J (aH (k:=87) J) hjbu hjau) (ac J (ae t9 J J (bJ (aH (k:=87) J) (by intro _;rfl) hxu (by rfl))) ag))) J J J J J J J J J (fun _ _=>J) J (bL (k:=4) ca J J J J J J) (fun _ _=>bn [] J J ag J J J ?_)))))) (bC (ea 2 [2,1] [] (fun _=> []) J J J J J J J J J (fun _ _=>J) J (bw (xs:= [.tmp 88,.const (I6 3)]) (cU e.g e.vl e.vn e.vf e.c he.hl he.hlo (3) (by decide) (s1)) kx [0] [(false,0)] [0]) (fun _ _=>fp [5,6,7] J J (ay J J (ay J J (bl (GU J (aU J J (gZ (c:=(d2:Int)+1) (by rw [show(((d2+1:Nat):Int)+1)-1=(d2:Int)+1 by omega];exact bU (by omega))))) ag))) J [0,8] J J (bC (ea 0 [2,1,0] [3,4] (fun v87=> [(3,90,_),(4,91,_)]) J J J J J J J J J (fun _ _=>J) J (d_ eS ti (parts:= [(0,.const (Sg (ByteArray.mk #[45]))),(1,.const (Sg (ByteArray.mk #[126]))),(2,.const (Sg (ByteArray.mk #[33])))]) underlying46 t9 J (by decide) (by intro _;rfl) J (by decide) (by decide) J J J) (fun v87 _=>aW [3,4,5,6,7] 8 [8,7,6,5,2,1,0] [] (fun xt=> []) J J (ac J (aK (j:=(gN e.c.l 3 s1).1.toNat) underlying46 t9 J J (aH (k:=87) J) hjbu hjau) (ac J (ae t9 J J (bJ (aH (k:=87) J) (by intro _;rfl) hxu (by rfl))) (ay J J (ay J J (bl (GU J (aU J J (gZ (c:=(d2:Int)+1) (by rw [show(((d2+1:Nat):Int)+1)-1=(d2:Int)+1 by omega];exact bU (by omega))))) ag))))) J J J J J J J J J J J (fun _ _=>J) J (iU (xs:= [.tmp 92,.tmp 94]) (ihX _ J ((gN e.c.l 3 s1).2) (by rw [hn6];exact hn)) nH [0] [(false,0),(false,1),(false,2)] [0,95] J J J J J (by rw [←hn6];rfl) J J (fun _ _=>J) (fun _ _ _=>J)) (fun xt hxt=>aW [3,4] 9 [9,8,7,6,5,2,1,0] [10] (fun v96=> [(10,97,_)]) J J (ac J (aK (j:=(gN e.c.l 3 s1).1.toNat) underlying46 t9 J J (aH (k:=87) J) hjbu hjau) (ac J (ae t9 J J (bJ (aH (k:=87) J) (by intro _;rfl) hxu (by rfl))) ag)) J J J J J J J J J J J (fun _ _=>J) J (bE dB xt.1 underlying59 ca J (by decide) (by decide) J J J) (fun v96 _=>bH [10,3,4] 11 [11,10,9,8,7,6,5,4,3,2,1,0] [] (fun _=> []) J J (ac J (aR (parts:= [(0,.const (I6 6)),(2,.tmp 91),(3,.tmp 96)]) ca fP J J) (ac J (aK (j:=(gN e.c.l 3 s1).1.toNat) underlying46 t9 J J (aH (k:=87) J) hjbu hjau) (ac J (ae t9 J J (bJ (aH (k:=87) J) (by intro _;rfl) hxu (by rfl))) ag))) J J J J J J J J J (fun _ _=>J) J (bL (k:=4) ca J J J J J J) (fun _ _=>bn [] J J ag J J J ?_))))) (bC (ea 8 [8,7,6,5,2,1] [] (fun xt=> []) J J J J J J J J J (fun _ _=>J) J (iU (xs:= [.tmp 92,.tmp 94]) (ihX _ J ((gN e.c.l 3 s1).2) (by rw [hn6];exact hn)) nH [0] [(false,0),(false,1),(false,2)] [0,95] J J J J J (by rw [←hn6];rfl) J J (fun _ _=>J) (fun _ _ _=>J)) (fun xt hxt=>fp [] J J ag J [0,9] J J (bC (ea 0 [8,7,6,5,2,1,0] [3,4] (fun v87=> [(3,90,_),(4,91,_)]) J J J J J J J J J (fun _ _=>J) J (d_ eS ti (parts:= [(0,.const (Sg (ByteArray.mk #[45]))),(1,.const (Sg (ByteArray.mk #[126]))),(2,.const (Sg (ByteArray.mk #[33])))]) underlying46 t9 J (by decide) (by intro _;rfl) J (by decide) (by decide) J J J) (fun v87 _=>aW [3,4] 9 [9,8,7,6,5,2,1,0] [10] (fun v96=> [(10,97,_)]) J J (ac J (aK (j:=(gN e.c.l 3 s1).1.toNat) underlying46 t9 J J (aH (k:=87) J) hjbu hjau) (ac J (ae t9 J J (bJ (aH (k:=87) J) (by intro _;rfl) hxu (by rfl))) ag)) J J J J J J J J J J J (fun _ _=>J) J (bE dB xt.1 underlying59 ca J (by decide) (by decide) J J J) (fun v96 _=>bH [10,3,4] 11 [11,10,9,8,7,6,5,4,3,2,1,0] [] (fun _=> []) J J (ac J (aR (parts:= [(0,.const (I6 6)),(2,.tmp 91),(3,.tmp 96)]) ca fP J J) (ac J (aK (j:=(gN e.c.l 3 s1).1.toNat) underlying46 t9 J J (aH (k:=87) J) hjbu hjau) (ac J (ae t9 J J (bJ (aH (k:=87) J) (by intro _;rfl) hxu (by rfl))) ag))) J J J J J J J J J (fun _ _=>J) J (bL (k:=4) ca J J J J J J) (fun _ _=>bn [] J J ag J J J ?_)))) (bC (ea 9 [9,8,7,6,5,2,1] [] (fun v96=> []) J J J J J J J J J (fun _ _=>J) J (bE dB xt.1 underlying59 ca J (by decide) (by decide) J J J) (fun v96 _=>aW [] 0 [9,8,7,6,5,2,1,0] [3,4,10] (fun v87=> [(3,90,_),(4,91,_),(10,97,_)]) J J ag J J J J J J J J J J J (fun _ _=>J) J (d_ eS ti (parts:= [(0,.const (Sg (ByteArray.mk #[45]))),(1,.const (Sg (ByteArray.mk #[126]))),(2,.const (Sg (ByteArray.mk #[33])))]) underlying46 t9 J (by decide) (by intro _;rfl) J (by decide) (by decide) J J J) (fun v87 _=>bH [3,4,10] 11 [11,10,9,8,7,6,5,4,3,2,1,0] [] (fun _=> []) J J (ac J (aK (j:=(gN e.c.l 3 s1).1.toNat) underlying46 t9 J J (aH (k:=87) J) hjbu hjau) (ac J (ae t9 J J (bJ (aH (k:=87) J) (by intro _;rfl) hxu (by rfl))) (ac J (aR (parts:= [(0,.const (I6 6)),(2,.tmp 91),(3,.tmp 96)]) ca fP J J) ag))) J J J J J J J J J (fun _ _=>J) J (bL (k:=4) ca J J J J J J) (fun _ _=>bn [] J J ag J J J ?_)))) dv)))) dv)))) dv)))
      ·refine az (bh 50 [96,95] J kL (aQ (.mk 6 0 xu v96 [xt.1],xt.2) (.una (q6▸hk) J hxu hxt) J (cc (bp ca J J J (a_ (k:=4) J))) J [0,50] [] J J J))
      ·refine az (bh 50 [96,95] J kL (aQ (.mk 6 0 xu v96 [xt.1],xt.2) (.una (q6▸hk) J hxu hxt) J (cc (bp ca J J J (a_ (k:=4) J))) J [0,50] [] J J J))
      ·refine az (bh 50 [96,95] J kL (aQ (.mk 6 0 xu v96 [xt.1],xt.2) (.una (q6▸hk) J hxu hxt) J (cc (bp ca J J J (a_ (k:=4) J))) J [0,50] [] J J J))
      ·refine az (bh 50 [96,95] J kL (aQ (.mk 6 0 xu v96 [xt.1],xt.2) (.una (q6▸hk) J hxu hxt) J (cc (bp ca J J J (a_ (k:=4) J))) J [0,50] [] J J J))
     ·(try simp only [bk]at h28);have q6:¬k=6:=h28;refine aZ ?_;refine bQ [99,100,101,102,103,104,105,106,107,108,109,110,111,112,113,98] _ J (bn (V:= [(0,99,_),(1,100,_),(2,101,_),(3,102,_),(4,103,_),(5,104,_),(6,105,_),(7,106,_),(8,107,_),(9,108,_),(10,109,_),(11,110,_),(12,111,_),(13,112,_),(14,113,_),(15,98,_)]) [0,1,2,3,4,5,6,7,8,9,10,11,12,13,14,15] J J (ay J J (ac J (aU J J br) (ay J J (bl (bW [] J J J O (fun hg29=>aY J)) (bl (bW [(102,_)] J J J ⟨J,O⟩ (fun hg30=>aj J)) (bl (bW [(103,_)] J J J ⟨J,O⟩ (fun hg31=>ah fe J)) (bl (bW [(104,_)] J J J ⟨J,O⟩ (fun hg32=>ae t3 J J (ax (k:=0) J J))) (bl (bW [(105,_)] J J J ⟨J,O⟩ (fun hg33=>aU J J aO)) (bl (bW [] J J J O (fun hg34=>aY J)) (bl (bW [(107,_)] J J J ⟨J,O⟩ (fun hg35=>aj J)) (bl (bW [(108,_)] J J J ⟨J,O⟩ (fun hg36=>ah dy J)) (bl (bW [(109,_)] J J J ⟨J,O⟩ (fun hg37=>ae ip J J (ax (k:=0) J J))) (bl (bW [(110,_)] J J J ⟨J,O⟩ (fun hg38=>aL underlying25 J (aN (k:=3) J))) (bl (bW [(106,_),(111,_)] J J J ⟨J,J,O⟩ (fun hg39=>aU J J cy)) (ac J (bK J J J) (ac J (cT J) ag)))))))))))))))) J J J ?_);refine am J (fun h40=> ?_) (fun h40=> ?_)
      ·(try simp only [bk]at h40);have q7:k=7∧e.c.me+1<e.F.length:=⟨h40.1,by have:=h40.2;omega⟩
       obtain⟨d2,rfl⟩:∃d2,d=d2+1:=⟨d-1,by have:=hk4;omega⟩
       have hjb:=pj e.c.l (n:=(e.F.length:Int)-(e.c.me:Int)-1) (by omega) s1;obtain⟨jf,hjf⟩:∃jf:Nat,(e.c.me:Int)+1+(gN e.c.l ((e.F.length:Int)-(e.c.me:Int)-1) s1).1=(jf:Int):=⟨((e.c.me:Int)+1+(gN e.c.l ((e.F.length:Int)-(e.c.me:Int)-1) s1).1).toNat,by omega⟩
       have hjl:jf<e.F.length:=by omega
       obtain⟨f,hfj⟩:∃f,e.F[jf]?=some f:=⟨_,bT hjl⟩
       refine bz (X:=Tf×Gs×Nat) (fun y=>y.1∈e.F∧∃j,gN e.c.l ((e.c.fs.length:Int)-(e.c.me:Int)-1) s1=(j,y.2.1)∧e.c.fs[((e.c.me:Int)+1+j).toNat]?=some (y.1.name,y.1.ps)) (fun y=> [(0,Pt e.g),(1,I6 (((d2+1:Nat):Int)+1)),(4,Pt b4),(6,Pt y.2.2)]) (fun y=> [(0,be e.g 102 (ib e.vl (y.2.1) e.vn e.c.me e.vf)),(4,be b4 61 (dB (.mk 0 0 bD bv []))),(6,be y.2.2 66 (gu y.1))]) (fun y=> [(0,sl 1 eI (sv e.vl) e.c.l),(1,sl 1 eS (sv e.vn) s.names),(2,cE e.vf e.F),(3,sl 3 gu (sv e.vf) e.F)]) ?_ (fun y hy=> ?_)
       ·refine bQ [114,115,116,117,118,119,120,121,122,123,124,125,126,127,128,129,130,131,132,133,134,135,136,137,138,6] _ J (fp (V:= [(0,114,_),(1,115,_),(2,116,_),(3,117,_),(4,118,_),(5,119,_),(6,120,_),(7,121,_),(8,122,_),(9,123,_),(10,124,_),(11,125,_),(12,126,_),(13,127,_),(14,128,_),(15,129,_),(16,130,_),(17,131,_),(18,132,_),(19,133,_),(20,134,_)]) [0,1,2,3,4,5,6,7,8,9,10,11,12,13,14,15,16,17,18,19,20] J J (ay J J (ac J (aj J) (ac J (ah dy J) (ac J (ae ip J J (ax (k:=0) J J)) (ay J J (ac J (aj J) (ac J (ah fe J) (ac J (ae t3 J J (ax (k:=0) J J)) (ac J (aU J J aO) (ay J J (ay J J (ac J (aj J) (ac J (ah dy J) (ac J (ae ip J J (ax (k:=0) J J)) (ac J (aL underlying25 J (aN (k:=3) J)) (ay J J (ac J (aj J) (ac J (ah fe J) (ac J (ae t3 J J (ax (k:=0) J J)) (ac J (aU J J eL) (ac J (aU J J eL) ag))))))))))))))))))))) J [21,25] J J (bC (ea 21 [21,20,19,18,17,16,15,14,13,12,11,10,9] [22,23,24] (fun _=> [(22,136,_),(23,137,_),(24,138,_)]) J J J J J J J J J (fun _ _=>J) J (bw (xs:= [.tmp 123,.tmp 134]) (cU e.g e.vl e.vn e.vf e.c he.hl he.hlo (((e.F.length:Int)-(e.c.me:Int)-1)) (by omega) (s1)) kx [0] [(false,0)] [0]) (fun _ _=>aW [22,23,24,0,1,2,3,4,5,6,7,8] 25 [25,21,20,19,18,17,16,15,14,13,12,11,10,9] [] (fun b6=> []) J J (ac J (aU J J aO) (ac J (aK (j:=jf) underlying25 fC J J (aN (k:=3) J) hjf hjl) (ac J (aJ fC J J J (bJ (aN (k:=3) J) (by intro _;rfl) hfj (by rfl))) (ay J J (ac J (aj J) (ac J (ah dy J) (ac J (ae ip J J (ax (k:=0) J J)) (ay J J (ac J (aj J) (ac J (ah fe J) (ac J (ae t3 J J (ax (k:=0) J J)) (ac J (aU J J aO) ag)))))))))))) J J J J J J J J J J J (fun _ _=>J) J (d6 fC J) (fun b6 _=>bH [22,23,24,0,1,2,3,4,5,6,7,8] 26 [26,25,24,23,22,21,20,19,18,17,16,15,14,13,12,11,10,9,8,7,6,5,4,3,2,1,0] [] (fun _=> []) J J (ac J (aU J J aO) (ac J (aK (j:=jf) underlying25 fC J J (aN (k:=3) J) hjf hjl) (ac J (aJ fC J J J (bJ (aN (k:=3) J) (by intro _;rfl) hfj (by rfl))) (ay J J (ac J (aj J) (ac J (ah dy J) (ac J (ae ip J J (ax (k:=0) J J)) (ay J J (ac J (aj J) (ac J (ah fe J) (ac J (ae t3 J J (ax (k:=0) J J)) (ac J (aU J J aO) ag)))))))))))) J J J J J J J J J (fun _ _=>J) J (bL (k:=6) fC J J J J J J) (fun _ _=>bn [] J J ag J J J ?_)))) (bC (ea 25 [25] [] (fun b6=> []) J J J J J J J J J (fun _ _=>J) J (d6 fC J) (fun b6 _=>aW [0,1,2,3,4,5,6,7,8,9,10,11,12,13,14,15,16,17,18,19,20] 21 [25,21,20,19,18,17,16,15,14,13,12,11,10,9] [22,23,24] (fun _=> [(22,136,_),(23,137,_),(24,138,_)]) J J (ay J J (ac J (aj J) (ac J (ah dy J) (ac J (ae ip J J (ax (k:=0) J J)) (ay J J (ac J (aj J) (ac J (ah fe J) (ac J (ae t3 J J (ax (k:=0) J J)) (ac J (aU J J aO) (ay J J (ay J J (ac J (aj J) (ac J (ah dy J) (ac J (ae ip J J (ax (k:=0) J J)) (ac J (aL underlying25 J (aN (k:=3) J)) (ay J J (ac J (aj J) (ac J (ah fe J) (ac J (ae t3 J J (ax (k:=0) J J)) (ac J (aU J J eL) (ac J (aU J J eL) ag))))))))))))))))))))) J J J J J J J J J J J (fun _ _=>J) J (bw (xs:= [.tmp 123,.tmp 134]) (cU e.g e.vl e.vn e.vf e.c he.hl he.hlo (((e.F.length:Int)-(e.c.me:Int)-1)) (by omega) (s1)) kx [0] [(false,0)] [0]) (fun _ _=>bH [22,23,24,0,1,2,3,4,5,6,7,8] 26 [26,25,24,23,22,21,20,19,18,17,16,15,14,13,12,11,10,9,8,7,6,5,4,3,2,1,0] [] (fun _=> []) J J (ac J (aU J J aO) (ac J (aK (j:=jf) underlying25 fC J J (aN (k:=3) J) hjf hjl) (ac J (aJ fC J J J (bJ (aN (k:=3) J) (by intro _;rfl) hfj (by rfl))) (ay J J (ac J (aj J) (ac J (ah dy J) (ac J (ae ip J J (ax (k:=0) J J)) (ay J J (ac J (aj J) (ac J (ah fe J) (ac J (ae t3 J J (ax (k:=0) J J)) (ac J (aU J J aO) ag)))))))))))) J J J J J J J J J (fun _ _=>J) J (bL (k:=6) fC J J J J J J) (fun _ _=>bn [] J J ag J J J ?_)))) dv)))
        ·refine aG (f,(gN e.c.l ((e.F.length:Int)-(e.c.me:Int)-1) s1).2,b6) ⟨cd hfj,_,by rw [hfl],by rw [he.fs,List.getElem?_map,show((e.c.me:Int)+1+(gN e.c.l ((e.F.length:Int)-(e.c.me:Int)-1) s1).1).toNat=jf by omega,hfj];rfl⟩ J J J
        ·refine aG (f,(gN e.c.l ((e.F.length:Int)-(e.c.me:Int)-1) s1).2,b6) ⟨cd hfj,_,by rw [hfl],by rw [he.fs,List.getElem?_map,show((e.c.me:Int)+1+(gN e.c.l ((e.F.length:Int)-(e.c.me:Int)-1) s1).1).toNat=jf by omega,hfj];rfl⟩ J J J
       ·obtain⟨f,s2,b6⟩:=y;obtain⟨hfm,jn,hjn,hfx⟩:=hy;dsimp only at hfm hjn hfx ⊢;have hn2:s2.names=s.names:=(cl hjn).1.trans hn1;refine ar (ad J (aS (aJ fC J J J (a_ (k:=6) J)) (ad J (dG (xs:= [.tmp 139,.tmp 140,.tmp 141]) (ihC _ J s2 f hfm (by rw [hn2];exact hn)) NC [0] [(false,0),(false,1),(false,2)] [0,142] J J J J J (by rw [←hn2];rfl) J J (fun _ _=>J) (fun _ _ _=>J) J (fun xt hxt=>au (k:=4) ca J J J J J J (aa (az ?_)))))));obtain⟨ps,hps,hpe⟩:=hxt;refine aQ (xt.1,xt.2) (by rw [hpe];exact .call (q7.1▸hk) (by rw [hfl];exact q7.2) hjn hfx hps) J (cc (bp ca J J J (a_ (k:=4) J))) J [0,142] [] J J J
      ·(try simp only [bk]at h40);have q7:¬(k=7∧e.c.me+1<e.F.length):=by rintro ⟨h1,h2⟩;rcases h40 with h|h;exact h h1;omega
       refine ar (ad J (av J J fh (aq J (aa (am J (fun h41=> ?_) (fun h41=> ?_))))))
       ·(try simp only [bk]at h41);have q8:7<k:=h41;obtain⟨d2,rfl⟩:∃d2,d=d2+1:=⟨d-1,by have:=hk4;omega⟩
        refine ar (dz eS OC (parts:= [(0,.const (Sg (ByteArray.mk #[43]))),(1,.const (Sg (ByteArray.mk #[45]))),(2,.const (Sg (ByteArray.mk #[42]))),(3,.const (Sg (ByteArray.mk #[47]))),(4,.const (Sg (ByteArray.mk #[37]))),(5,.const (Sg (ByteArray.mk #[38]))),(6,.const (Sg (ByteArray.mk #[124]))),(7,.const (Sg (ByteArray.mk #[94]))),(8,.const (Sg (ByteArray.mk #[60,60]))),(9,.const (Sg (ByteArray.mk #[62,62]))),(10,.const (Sg (ByteArray.mk #[60]))),(11,.const (Sg (ByteArray.mk #[60,61]))),(12,.const (Sg (ByteArray.mk #[62]))),(13,.const (Sg (ByteArray.mk #[62,61]))),(14,.const (Sg (ByteArray.mk #[61,61]))),(15,.const (Sg (ByteArray.mk #[33,61])))]) underlying46 t9 J (by decide) (by intro _;rfl) J (by decide) (by decide) J J J J fun v146=>aq J (aF J (ad J (ad J (ad J (aS (aL underlying46 J (aH (k:=146) J)) (ak (xs:= [.tmp 148,.tmp 150]) (cU e.g e.vl e.vn e.vf e.c he.hl he.hlo (16) (by decide) (s1)) kx [0] [(false,0)] [0] (fun _ _=> ?_))))))));obtain⟨xb,hxb,hjab,hjbb⟩:=se (l:=e.c.l) (L:=OC) (n:=16) (by decide) J (s1);have hn7:(gN e.c.l 16 s1).2.names=s.names:=(kP e.c.l 16 s1).1.trans hn1;refine aS (aK (j:=(gN e.c.l 16 s1).1.toNat) underlying46 t9 J J (aH (k:=146) J) hjbb hjab) (aS (ae t9 J J (bJ (aH (k:=146) J) (by intro _;rfl) hxb (by rfl))) (aq J (aF J (ad J (ad J ?_)))));refine te (aU J J (gZ (c:=(d2:Int)+1) (by rw [show(((d2+1:Nat):Int)+1)-1=(d2:Int)+1 by omega];exact bU (by omega)))) J ?_;refine dG (xs:= [.tmp 154,.tmp 156]) (ihX _ J ((gN e.c.l 16 s1).2) (by rw [hn7];exact hn)) nH [0] [(false,0),(false,1),(false,2)] [0,157] J J J J J (by rw [←hn7];rfl) J J (fun _ _=>J) (fun _ _ _=>J) J (fun xt hxt=> ?_);have hn8:xt.2.names=s.names:=hxt.keep.1.trans hn7;refine aX ca J J fun b9=>au (k:=9) ca J J J J J J (aa (aZ ?_))
        refine bQ [158,159,160,161,162,163,164,165] _ J (aW (V:= [(0,158,_),(1,159,_),(2,160,_),(3,161,_),(4,162,_)]) [0,1,2,3,4] 5 [5,4,3,2] [] (fun xu=> []) J J (ay J J (ac J (aJ ca J J J (a_ (k:=9) J)) (ay J J (ay J J (bl (GU J (aU J J (gZ (c:=(d2:Int)+1) (by rw [show(((d2+1:Nat):Int)+1)-1=(d2:Int)+1 by omega];exact bU (by omega))))) ag))))) J J J J J J J J J J J (fun _ _=>J) J (iU (xs:= [.tmp 160,.tmp 162]) (ihX _ J (xt.2) (by rw [hn8];exact hn)) nH [0] [(false,0),(false,1),(false,2)] [0,163] J J J J J (by rw [←hn8];rfl) J J (fun _ _=>J) (fun _ _ _=>J)) (fun xu hxu=>aW [0,1] 6 [6,5,4,3,2,1] [7] (fun v164=> [(7,165,_)]) J J (ay J J (ac J (aJ ca J J J (a_ (k:=9) J)) ag)) J J J J J J J J J J J (fun _ _=>J) J (d_ dB [xt.1,xu.1] (parts:= [(0,.tmp 159),(1,.tmp 163)]) underlying59 ca J (by decide) (by intro _;rfl) J (by decide) (by decide) J J J) (fun v164 _=>bH [7,0] 8 [8,7,6,5,4,3,2,1,0] [] (fun _=> []) J J (ac J (aR (parts:= [(0,.const (I6 7)),(2,.tmp 158),(3,.tmp 164)]) ca fP J J) (ay J J ag)) J J J J J J J J J (fun _ _=>J) J (bL (k:=4) ca J J J J J J) (fun _ _=>bn [] J J ag J J J ?_))));refine az (bh 50 [164,157,163] J z_ (aQ (Di xb v164 xt.1 xu.1,xu.2) (.bin hk q8 J hxb hxt hxu) J (cc (bp ca J J J (a_ (k:=4) J))) J [0,50] [] J J J))
       ·(try simp only [bk]at h41);have q8:¬7<k:=by omega
        refine aA (ar (ad J (ak (xs:= [.tmp 166]) (xa e.g e.vl e.vn e.vf e.c he.hl he.hlo s1) Ov [0] [(false,0)] [0] (fun xc hxc=>au (k:=4) ca J J J J J J (aa (az (bh 50 [] (L:= []) J kv ?_)))))));refine aQ (kb xc,(gN e.c.l 15 s1).2) (.con hk hq q3 (fun h=>q4 (.inl h)) (fun h=>q4 (.inr h)) q6 (fun h=>q7 ⟨h.1,by rw [←hfl];exact h.2⟩) q8 J hxc) J (cc (bp ca J J J (a_ (k:=4) J))) J [0,50] [] J J J
def ld(l:List Ty):Asn:=⟨fun w F=>TysIn w F l,fun h hs=>TysIn.mono (fun _ hb=>hb) hs _ h⟩
theorem jh{w:World}{F:Nat→Prop}:∀{l:List Ty}{t:Ty},TysIn w F l→TyIn w F t→TysIn w F (l++ [t])
 | [],t,_,ht=>⟨ht,trivial⟩
 | a::r,t,h,ht=>⟨h.1,jh h.2 ht⟩
theorem la{w:World}{F G:Nat→Prop}{l:List Ty}(h:(ld l).pred w G)(hs:∀b,G b→F b):TysIn w F l:=TysIn.mono hs (fun _ _=>rfl) l h
theorem Spec.roAll{P:Program}{n:Nat}{vs:List Value}{L R0 R1:List Asn}{X:Type}{φ:X→Prop}{v:X→Value}{L' R':X→List Asn}(h:Spec P n vs L R0 φ v L' R')(hAB:∀(i:Nat)(A:Asn),R0[i]?=some A→∃B:Asn,R1[i]?=some B∧∀w G,B.pred w G→A.pred w G):Spec P n vs L R1 φ v L' R':=fun w M H ⟨F,hF⟩=>
 h w M H ⟨F,hF.touch,hF.has,hF.lt,hF.mine,hF.apart,fun k C hk=>by
  obtain⟨B,h1,h2⟩:=hAB k C hk;obtain⟨G,g1,g2⟩:=hF.ro k B h1;exact⟨G,h2 _ _ g1,g2⟩⟩
theorem Av{A B C D:Asn}(h:∀w G,D.pred w G→B.pred w G):∀(i:Nat)(X:Asn),([A,B,C]:List Asn)[i]?=some X→∃Y,([A,D,C]:List Asn)[i]?=some Y∧∀w G,Y.pred w G→X.pred w G
 | 0,X,hX=>⟨A,rfl,by cases hX;exact fun _ _ h=>h⟩
 | 1,X,hX=>⟨D,rfl,by cases hX;exact h⟩
 | 2,X,hX=>⟨C,rfl,by cases hX;exact fun _ _ h=>h⟩
 | i+3,X,hX=>by simp at hX
theorem y5{e:Ge}(he:Gfine e):∀d,d≤10→OO e d∧Q6 e d
 | 0,hd=>by
  have hx:OO e 0:=fun s hn=>r6 e he 0 hd (fun k h=>by omega) (fun k h=>by omega) s hn
  exact⟨hx,fun s f hf hn=>r8 e he 0 hd hx s f hf hn⟩
 | d+1,hd=>by
  have ih:=y5 he d (by omega);have hx:OO e (d+1):=fun s hn=>r6 e he (d+1) hd (fun k h=>(show d=k by omega)▸ih.1) (fun k h=>(show d=k by omega)▸ih.2) s hn
  exact⟨hx,fun s f hf hn=>r8 e he (d+1) hd hx s f hf hn⟩
def Ge.at(e:Ge)(v:SV):Ge:={e with vn:=v}
theorem Gfine.at{e:Ge}(he:Gfine e)(v:SV):Gfine (e.at v):=⟨he.hl,he.hlo,he.fs,he.fl,he.me,he.ps⟩
theorem lW{e:Ge}(he:Gfine e)(d:Nat)(hd:d≤10)(v:SV)(s:Gs)(hn:s.names.length≤1000):Spec prog 79 [Pt e.g,I6 ((d:Int)+1)] [be e.g 102 (ib e.vl s v e.c.me e.vf)] [sl 1 eI (sv e.vl) e.c.l,own 9 1 eS (sv v) s.names,cE e.vf e.F] (X:=Tx×Gs) (fun x=>GXr e.c d s (lz x.1) x.2) (fun x=>xV x.1) (fun x=> [be e.g 102 (ib e.vl x.2 v e.c.me e.vf),cm x.1.v x.1.kids]) (fun _=> []):=
 Spec.roAll ((y5 (he.at v) d hd).1 s hn) (Av ch)
theorem KV{e:Ge}(he:Gfine e)(d:Nat)(hd:d≤10)(v:SV)(s:Gs)(f:Tf)(hf:f∈e.F)(hn:s.names.length≤1000):Spec prog 80 [Pt e.g,Gp f,I6 ((d:Int)+2)] [be e.g 102 (ib e.vl s v e.c.me e.vf)] [sl 1 eI (sv e.vl) e.c.l,own 9 1 eS (sv v) s.names,cE e.vf e.F] (X:=Tx×Gs) (fun x=>GCr e.c d (f.name,f.ps) s (lz x.1) x.2) (fun x=>xV x.1) (fun x=> [be e.g 102 (ib e.vl x.2 v e.c.me e.vf),cm x.1.v x.1.kids]) (fun _=> []):=
 Spec.roAll ((y5 (he.at v) d hd).2 s f hf hn) (Av ch)
structure GInv(s:Gs):Prop where
 v0:0≤s.vars
 v8:s.vars≤8
 nm:(s.names.length:Int)≤100+s.vars
 lf:s.left≤1000
theorem GInv.same{s s':Gs}(h:GInv s)(k:s'.names=s.names∧s'.left=s.left∧s'.vars=s.vars):GInv s':=⟨by rw [k.2.2];exact h.v0,by rw [k.2.2];exact h.v8,by rw [k.1,k.2.2];exact h.nm,by rw [k.2.1];exact h.lf⟩
theorem GInv.n{s:Gs}(h:GInv s):s.names.length≤1000:=by have:=h.nm;have:=h.v8;omega
theorem GCr.keep{c:Gc}{d:Nat}{f:Ba×List Ba}{s s':Gs}{p:Px}(h:GCr c d f s p s'):s'.names=s.names∧s'.left=s.left∧s'.vars=s.vars:=by
 obtain⟨ps,h1,_⟩:=h;exact h1.keep
theorem em{a b c:Gs}(h:b.names=a.names∧b.left=a.left∧b.vars=a.vars)(k:c.names=b.names∧c.left=b.left∧c.vars=b.vars):c.names=a.names∧c.left=a.left∧c.vars=a.vars:=⟨k.1.trans h.1,k.2.1.trans h.2.1,k.2.2.trans h.2.2⟩
theorem ma{l:List Ty}{k:Int}{nm:Ba}{v:SV}{t:Tx}(w:World)(F:Nat→Prop)(h:AllIn w F [ld l,own 61 4 dB (sv v) [t],cm t.v t.kids]):(ld (l++ [.mk k nm v [t] bv [] bv []])).pred w F:=by
 obtain⟨⟨_,a0,b0⟩,⟨_,a1,b1⟩,⟨_,a2,b2⟩,_⟩:=h;have hny:SlIn' w F 5 dM (sv bv) []∧TysIn w F []:=⟨ia,O⟩
 exact jh (la a0 b0) ⟨⟨ck a1 b1,kn a2 b2,O⟩,hny,hny⟩
theorem Gv{l:List Ty}{k:Int}{nm:Ba}{v:SV}{t u:Tx}(w:World)(F:Nat→Prop)(h:AllIn w F [ld l,own 61 4 dB (sv v) [t,u],cm t.v t.kids,cm u.v u.kids]):(ld (l++ [.mk k nm v [t,u] bv [] bv []])).pred w F:=by
 obtain⟨⟨_,a0,b0⟩,⟨_,a1,b1⟩,⟨_,a2,b2⟩,⟨_,a3,b3⟩,_⟩:=h;have hny:SlIn' w F 5 dM (sv bv) []∧TysIn w F []:=⟨ia,O⟩
 exact jh (la a0 b0) ⟨⟨ck a1 b1,kn a2 b2,kn a3 b3,O⟩,hny,hny⟩
theorem Dm{l a b:List Ty}{v va vb:SV}{t:Tx}(w:World)(F:Nat→Prop)(h:AllIn w F [ld l,own 61 4 dB (sv v) [t],cm t.v t.kids,own 64 5 dM (sv va) a,ld a,own 64 5 dM (sv vb) b,ld b]):(ld (l++ [.mk 4 bD v [t] va a vb b])).pred w F:=by
 obtain⟨⟨_,a0,b0⟩,⟨_,a1,b1⟩,⟨_,a2,b2⟩,⟨_,a3,b3⟩,⟨_,a4,b4⟩,⟨_,a5,b5⟩,⟨_,a6,b6⟩,_⟩:=h;exact jh (la a0 b0) ⟨⟨ck a1 b1,kn a2 b2,O⟩,⟨ck a3 b3,la a4 b4⟩,⟨ck a5 b5,la a6 b6⟩⟩
theorem Dn{l a:List Ty}{v va:SV}{t:Tx}(w:World)(F:Nat→Prop)(h:AllIn w F [ld l,own 61 4 dB (sv v) [t],cm t.v t.kids,own 64 5 dM (sv va) a,ld a]):(ld (l++ [.mk 4 bD v [t] va a bv []])).pred w F:=by
 obtain⟨⟨_,a0,b0⟩,⟨_,a1,b1⟩,⟨_,a2,b2⟩,⟨_,a3,b3⟩,⟨_,a4,b4⟩,_⟩:=h;exact jh (la a0 b0) ⟨⟨ck a1 b1,kn a2 b2,O⟩,⟨ck a3 b3,la a4 b4⟩,⟨ia,O⟩⟩
abbrev uD(x:Ba)(v:SV)(n:Int):Ty:= .mk 1 x v [kb n] bv [] bv []
abbrev lh(x:Ba)(v u:SV):Ty:= .mk 2 x v [Di eJ u (iP x) (kb 1)] bv [] bv []
abbrev nL(x:Ba)(v vb:SV)(b:List Ty):Ty:= .mk 5 bD v [iP x] vb b bv []
theorem Gu{l a:List Ty}{x:Ba}{v0 v1 v2 v3 vb:SV}{n:Int}(w:World)(F:Nat→Prop)(h:AllIn w F [ld l,own 61 4 dB (sv v0) [kb n],own 61 4 dB (sv v1) [iP x],ld a,own 61 4 dB (sv v2) [iP x,kb 1],own 61 4 dB (sv v3) [Di eJ v2 (iP x) (kb 1)],own 64 5 dM (sv vb) (a++ [lh x v3 v2])]):
  (ld (l++ [uD x v0 n,nL x v1 vb (a++ [lh x v3 v2])])).pred w F:=by
 obtain⟨⟨_,a0,b0⟩,⟨_,a1,b1⟩,⟨_,a2,b2⟩,⟨_,a3,b3⟩,⟨_,a4,b4⟩,⟨_,a5,b5⟩,⟨_,a6,b6⟩,_⟩:=h;have hny:SlIn' w F 5 dM (sv bv) []∧TysIn w F []:=⟨ia,O⟩
 have hx:TxIn w F (iP x):=⟨ia,O⟩
 have hn:∀n,TxIn w F (kb n):=fun _=>⟨ia,O⟩
 have hb:TxIn w F (Di eJ v2 (iP x) (kb 1)):=⟨ck a4 b4,hx,hn 1,O⟩
 have h1:TyIn w F (uD x v0 n):=⟨⟨ck a1 b1,hn n,O⟩,hny,hny⟩
 have h2:TyIn w F (lh x v3 v2):=⟨⟨ck a5 b5,hb,O⟩,hny,hny⟩
 have h3:TyIn w F (nL x v1 vb (a++ [lh x v3 v2])):=⟨⟨ck a2 b2,hx,O⟩,⟨ck a6 b6,jh (la a3 b3) h2⟩,hny⟩
 have:=jh (jh (la a0 b0) h1) h3;rw [List.append_assoc]at this;exact this
theorem iL{c:Gc}{lev many i:Nat}{s s1 s0 s':Gs}{k:Int}{out o:List Py}(hi:i<many)(hleft:0<s.left)(hk:gN c.l 12 {s with left:=s.left-1}=(k,s1))(h1:G1r c lev k s1 o s')(hinv:∀r s2,GLr c lev (many-i) s r s2→GLr c lev many s0 (out++r) s2):∀r s2,GLr c lev (many-(i+1)) s' r s2→GLr c lev many s0 ((out++o)++r) s2:=fun r s2 h=>by
 rw [List.append_assoc];refine hinv _ _ ?_;rw [show many-i=(many-(i+1))+1 by omega];exact .step hleft hk h1 h
structure GKp(s s':Gs):Prop where
 inv:GInv s'
 left:s'.left≤s.left
 diff:(s'.names.length:Int)-s'.vars=(s.names.length:Int)-s.vars
theorem GKp.of{s s':Gs}(h:GInv s)(k:s'.names=s.names∧s'.left=s.left∧s'.vars=s.vars):GKp s s':=⟨h.same k,by rw [k.2.1];exact Int.le_refl _,by rw [k.1,k.2.2]⟩
theorem GKp.trans{a b c:Gs}(h:GKp a b)(k:GKp b c):GKp a c:=⟨k.inv,Int.le_trans k.left h.left,k.diff.trans h.diff⟩
theorem GInv.var{s:Gs}(h:GInv s)(hv:s.vars<8):GInv {s with vars:=s.vars+1}:=⟨by show 0≤s.vars+1;have:=h.v0;omega,by show s.vars+1≤8;omega,by show(s.names.length:Int)≤100+(s.vars+1);have:=h.nm;omega,h.lf⟩
theorem GKp.more{s s':Gs}{x:Ba}(h:GInv s)(k:GKp {s with vars:=s.vars+1} s'):GKp s {s' with names:=s'.names++ [x]}:=by
 have hd:(s'.names.length:Int)-s'.vars=(s.names.length:Int)-(s.vars+1):=k.diff;have hn:=h.nm;have hl:((s'.names++ [x]).length:Int)=(s'.names.length:Int)+1:=by rw [bA,bV];rfl
 exact⟨⟨k.inv.v0,k.inv.v8,by show((s'.names++ [x]).length:Int)≤100+s'.vars;omega,k.inv.lf⟩,k.left,by show((s'.names++ [x]).length:Int)-s'.vars=_;omega⟩
mutual
theorem GYr.inv{c:Gc}:∀{e:Nat}{s s':Gs}{o:List Py},GYr c e s o s'→GInv s→GKp s s'
 | _,_,_,_,.mk hj h,hi=>(GKp.of hi (cl hj)).trans (h.inv (hi.same (cl hj)))
theorem GLr.inv{c:Gc}:∀{e n:Nat}{s s':Gs}{o:List Py},GLr c e n s o s'→GInv s→GKp s s'
 | _,_,_,_,_,.zero,hi=>GKp.of hi ⟨rfl,rfl,rfl⟩
 | _,_,_,_,_,.stop _,hi=>GKp.of hi ⟨rfl,rfl,rfl⟩
 | _,_,s,_,_,.step hl hk h1 h2,hi=>by
  have hi2:GInv {s with left:=s.left-1}:=⟨hi.v0,hi.v8,hi.nm,by show s.left-1≤1000;have:=hi.lf;omega⟩
  have k0:GKp s {s with left:=s.left-1}:=⟨hi2,by show s.left-1≤s.left;omega,rfl⟩
  have k1:=GKp.of hi2 (cl hk);have k2:=h1.inv k1.inv;exact((k0.trans k1).trans k2).trans (h2.inv k2.inv)
theorem G1r.inv{c:Gc}:∀{e:Nat}{k:Int}{s s':Gs}{o:List Py},G1r c e k s o s'→GInv s→GKp s s'
 | _,_,s,_,_,.var _ _ hv hp,hi=>GKp.more hi (GKp.of (hi.var hv) hp.keep)
 | _,_,_,_,_,.set _ hj _ hp,hi=>GKp.of hi (em (cl hj) hp.keep)
 | _,_,_,_,_,.put _ hp hq,hi=>GKp.of hi (em hp.keep hq.keep)
 | _,_,_,_,_,.iff1 hp ha hj hb,hi=>by
  have k1:=GKp.of hi hp.keep;have k2:=ha.inv k1.inv;have k3:=GKp.of k2.inv (cl hj);exact((k1.trans k2).trans k3).trans (hb.inv k3.inv)
 | _,_,_,_,_,.iff0 hp ha hj _,hi=>by
  have k1:=GKp.of hi hp.keep;have k2:=ha.inv k1.inv;exact(k1.trans k2).trans (GKp.of k2.inv (cl hj))
 | _,_,s,_,_,.whi _ hv hj ha,hi=>by
  have k1:=GKp.of (hi.var hv) (cl hj);exact GKp.more hi (k1.trans (ha.inv k1.inv))
 | _,_,_,_,_,.ret hj hp,hi=>GKp.of hi (em (cl hj) hp.keep)
 | _,_,s,_,_,.dos (s2:=s2) (s3:=s3) _ hj hj2 hf hp,hi=>by
  have k1:s3.names=s2.names∧s3.left=s2.left∧s3.vars=s2.vars:=by
   rcases hf with⟨_,_,h⟩|⟨_,j3,h,_⟩
   ·rw [h];exact⟨J,J,J⟩
   ·exact cl h
  exact GKp.of hi (em (em (em (cl hj) (cl hj2)) k1) hp.keep)
 | _,_,s,_,_,.out (s1:=s1) _ _ _ _ _ _ h8 _ hp,hi=>by
  have k1:s1.names=s.names∧s1.left=s.left∧s1.vars=s.vars:=by
   rcases h8 with⟨_,h⟩|⟨_,j,_,h⟩
   ·rw [h];exact⟨J,J,J⟩
   ·exact cl h
  exact GKp.of hi (em k1 hp.keep)
end
def OY(c:Nat)(vp:SV)(fs:List Tf)(v:SV)(l:List Ty):Prop:=∀(vn:SV)(ns:List Ba),ns.length+dD l≤1000000→Spec prog 60 [Pt c,sv v] [be c 128 [sv vp,sv vn],own 9 1 eS (sv vn) ns] [b_ v l,cE vp fs] (X:=SV×List Ba) (fun x=>(dm fs ns l).2=0→x.2=(dm fs ns l).1) (fun _=>I6 (dm fs ns l).2) (fun x=> [be c 128 [sv vp,sv x.1],own 9 1 eS (sv x.1) x.2]) (fun _=> [])
theorem G9{A B C D D':Asn}(h:∀w G,D.pred w G→D'.pred w G):∀(i:Nat)(X:Asn),([A,D',B,C]:List Asn)[i]?=some X→∃Y,([A,D,B,C]:List Asn)[i]?=some Y∧∀w G,Y.pred w G→X.pred w G
 | 0,X,hX=>⟨A,rfl,by cases hX;exact fun _ _ h=>h⟩
 | 1,X,hX=>⟨D,rfl,by cases hX;exact h⟩
 | 2,X,hX=>⟨B,rfl,by cases hX;exact fun _ _ h=>h⟩
 | 3,X,hX=>⟨C,rfl,by cases hX;exact fun _ _ h=>h⟩
 | i+4,X,hX=>by simp at hX
theorem DA(c:Nat)(vp vn:SV)(fs:List Tf)(ns:List Ba)(hfl:fs.length≤1000000)(hns:ns.length≤1000000)(t:Tx)(ht:GX t):Spec prog 106 [Pt c,xV t] [] [be c 128 [sv vp,sv vn],own 9 1 eS (sv vn) ns,cE vp fs,cm t.v t.kids] (X:=Unit) (fun _=>True) (fun _=>I6 (eX fs ns t)) (fun _=> []) (fun _=> []):=
 Spec.roAll (GE c vp vn fs ns hfl hns t ht) (G9 ch)
theorem g8{fs:List Tf}{ns ns2:List Ba}{l:List Ty}{i:Nat}{st:Ty}{z:Int}(hst:l[i]?=some st)(h:dm fs ns (l.take i)=(ns2,0))(hz:(bY fs ns2 st).2=z)(hz0:z≠0):(dm fs ns l).2=z:=by
 have h1:=v_ fs ns (l.take (i+1)) (l.drop (i+1));rw [List.take_append_drop,s8 hst,h]at h1;rw [h1];show fst (fst 0 (bY fs ns2 st).2) _=z;rw [ju,hz,kQ hz0]
theorem LE{fs:List Tf}{ns ns2 ns3:List Ba}{l:List Ty}{i:Nat}{st:Ty}(hst:l[i]?=some st)(h:dm fs ns (l.take i)=(ns2,0))(hz:bY fs ns2 st=(ns3,0)):dm fs ns (l.take (i+1))=(ns3,0):=by
 rw [s8 hst,h];show((bY fs ns2 st).1,fst 0 (bY fs ns2 st).2)=_;rw [hz];rfl
theorem OG{fs:List Tf}{ns:List Ba}{st:Ty}(h2:st.kind=2)(hm:cD st.name ns=false):(bY fs ns st).2=21:=by
 rw [ux];show fst (aE ns st) _=21;have h:aE ns st=21:=by unfold aE;rw [aw h2,hm];rfl
 rw [h];rfl
theorem LL{ns:List Ba}{st:Ty}(h:¬(st.kind=2∧cD st.name ns=false)):aE ns st=0:=by
 unfold aE;by_cases h2:st.kind=2
 ·rw [aw h2];by_cases hm:cD st.name ns=true
  ·rw [aw hm]
  ·exact absurd ⟨h2,by simpa using hm⟩ h
 ·rw [ai h2]
theorem Qa{ns:List Ba}{st:Ty}(h:¬(st.kind=1∧cD st.name ns=true)):dE ns st=0:=by
 unfold dE;by_cases h2:st.kind=1
 ·rw [aw h2];by_cases hm:cD st.name ns=true
  ·exact absurd ⟨h2,hm⟩ h
  ·rw [ai hm]
 ·rw [ai h2]
theorem Ih{fs:List Tf}{ns:List Ba}{st:Ty}{e:Tx}(h1:st.kind=1)(hm:cD st.name ns=true)(he:st.es= [e]):(bY fs ns st).2=fst (eX fs ns e) 22:=by
 rw [ux];show fst (aE ns st) (fst (jJ fs ns st.es) (fst (dE ns st) _))=_;rw [LL (fun h=>by rw [h1]at h;exact absurd h.1 (by decide)),he];have h:dE ns st=22:=by unfold dE;rw [aw h1,aw hm]
 rw [h];show fst 0 (fst (fst (eX fs ns e) 0) (fst 22 _))=_;rw [ju,ew];rfl
theorem OF{fs:List Tf}{ns:List Ba}{st:Ty}(ha:¬(st.kind=2∧cD st.name ns=false)){z:Int}(hz:jJ fs ns st.es=z)(h0:z≠0):(bY fs ns st).2=z:=by
 rw [ux];show fst (aE ns st) (fst (jJ fs ns st.es) _)=_;rw [LL ha,ju,hz,kQ h0]
theorem LG{fs:List Tf}{ns:List Ba}{st:Ty}(ha:¬(st.kind=2∧cD st.name ns=false))(hd:¬(st.kind=1∧cD st.name ns=true))(hz:jJ fs ns st.es=0):bY fs ns st=((dm fs (dm fs (dN ns st) st.body).1 st.els).1,fst (dm fs (dN ns st) st.body).2 (dm fs (dm fs (dN ns st) st.body).1 st.els).2):=by
 rw [ux,LL ha,Qa hd,hz];rfl
theorem Ko{t:Ty}(h:rY t=true)(hk:t.kind≠3):∃e,t.es= [e]:=by
 rw [lP]at h;simp only [Bool.and_eq_true]at h;have h2:=h.1.1.1;unfold Ay at h2;simp only [Bool.and_eq_true,decide_eq_true_eq]at h2;have h3:=h2.1.1.1.2;rw [ai hk]at h3;exact List.length_eq_one_iff.1 h3
structure Xn where
 i:Nat
 vn:SV
 ns:List Ba
theorem Gw(c:Nat)(vp:SV)(fs:List Tf)(hfl:fs.length≤1000000)(v:SV)(l:List Ty)(hl:l.length≤1000000)(hg:GYs l)(hr:l.all rY=true)(ih:∀u∈l,OY c vp fs u.vb u.body∧OY c vp fs u.vl u.els)(vn:SV)(ns:List Ba)(hb:ns.length+dD l≤1000000):
  Spec prog 60 [Pt c,sv v] [be c 128 [sv vp,sv vn],own 9 1 eS (sv vn) ns] [b_ v l,cE vp fs] (X:=SV×List Ba) (fun x=>(dm fs ns l).2=0→x.2=(dm fs ns l).1) (fun _=>I6 (dm fs ns l).2) (fun x=> [be c 128 [sv vp,sv x.1],own 9 1 eS (sv x.1) x.2]) (fun _=> []):=by
 refine aM func60 J ntmps60 J fun w0 M H=>bc 0 2 J hZ (ar (aq J (aa (aV (aq J (aa (aC (bI (X:=Xn) (fun x=>x.i≤l.length∧dm fs ns (l.take x.i)=(x.ns,0)) (fun x=> [(0,Pt c),(1,sv v),(5,I6 (x.i:Int))]) (fun x=> [(0,be c 128 [sv vp,sv x.vn]),(1,own 9 1 eS (sv x.vn) x.ns)]) (fun x=> [(0,b_ v l),(2,sl 5 dM (sv v) l),(1,cE vp fs)]) (fun x=>l.length-x.i) ⟨0,vn,ns⟩ ⟨bq _,J⟩ J J J (fun x hx0=> ?_)))))))))
 obtain⟨i,vn2,ns2⟩:=x;obtain⟨n1,n2⟩:=hx0;dsimp only at n1 n2 ⊢;have hnl2:ns2.length=ns.length+dD (l.take i):=by have h:=kZ fs ns (l.take i);rw [n2]at h;exact h
 have hvl2:=l_ (l.take i) (l.drop i);rw [List.take_append_drop]at hvl2;refine aV (ad J (ad J (aS (aL underlying62 J (aN (k:=2) J)) (av J J cy (aa (am J (fun h1=> ?_) (fun h1=> ?_)))))))
 ·(try simp only [bk]at h1);have hi:i<l.length:=by omega
  obtain⟨st,hst⟩:∃k,l[i]?=some k:=⟨_,bT hi⟩
  have hsm:=cd hst;have hsg:=oM (hg.mem st hsm);have hry:rY st=true:=List.all_eq_true.1 hr st hsm;have hvb:=l_ (l.take (i+1)) (l.drop (i+1));rw [List.take_append_drop,km hst]at hvb;have hvs:=Dd st;refine bc 0 7 J (lF hsm) (bc 0 8 J (iv hsm) (bc 0 9 J (ji hsm) (bc 7 10 J gE (aA (aZ (aC (ar (ad J (ad J (aS (aK (j:=i) underlying62 cr J J (aN (k:=2) J) (by first|rfl|omega) (by first|omega|(simp;done)|(simp;omega))) (aS (aJ cr J J J (bJ (aN (k:=2) J) (by intro _;rfl) hst (by rfl))) (aX cr J J fun b6=>au (k:=6) cr J J J J J J (aa (aZ (bQ [22,23,24,25,26,27,28,7] _ J (aW (V:= [(0,22,_),(1,23,_),(2,24,_),(3,25,_),(4,26,_),(5,27,_)]) [0,1,2,3,4,5] 6 [6,5,4,3,2,1,0] [7] (fun _=> [(7,7,_)]) J J (ac J (ah jH J) (ac J (ae t9 J J (ax (k:=6) J J)) (ay J J (ac J (aj J) (ac J (ah jo J) (ac J (ae h_ J J (ax (k:=0) J J)) ag)))))) J J J J J J J J J J J (fun _ _=>J) J (bw (xs:= [.tmp 23,.tmp 27]) (mI st.name vn2 ns2 (by omega)) zJ [] [(true,1)] []) (fun _ _=>bn [7] J J (ac J (cT J) ag) J J J (aZ (aZ ?_)))))))))))))))))));refine ap (aD fj J (aT 6 t3 J J J J (av J J br (ad J (aI [] J J O (fun hg2=>aY J) J (aI [(33,_)] J J ⟨J,O⟩ (fun hg3=>cZ J) J (aS (bK J J J) (aa (am J (fun h4=> ?_) (fun h4=> ?_))))))))))
  ·have q2:st.kind=2∧cD st.name ns2=false:=by simpa using h4
   refine ar (aq J (aa (az (aQ (vn2,ns2) (fun h=>absurd h (by rw [g8 hst n2 (OG q2.1 q2.2) (by decide)];exact(by decide))) J (cc (aP J)) (by rw [g8 hst n2 (OG q2.1 q2.2) (by decide)]) [0,1] [] J J J))))
  ·have q2:¬(st.kind=2∧cD st.name ns2=false):=by rintro ⟨a,b⟩;rw [decide_eq_true a,b]at h4;exact absurd h4 (by simp)
   refine aA (aV (aD fj J (aT 6 t3 J J J J (av J J br (ad J (aI [] J J O (fun hg5=>aY J) J (aS (bK J J J) (aa (am J (fun h6=> ?_) (fun h6=> ?_))))))))))
   ·have q3:st.kind=1∧cD st.name ns2=true:=by simpa using h6
    obtain⟨e,hes⟩:=Ko hry (by rw [q3.1];decide);have he0:st.es[0]?=some e:=by rw [hes];rfl
    refine ar (ad J (aD ie J (aT 6 jM J J J J (aS (aK (j:=0) underlying59 ca J J (aN (k:=10) J) J (by rw [hes];exact Nat.zero_lt_one)) (aS (aJ ca J J J (bJ (aN (k:=10) J) (by intro _;rfl) he0 (by rfl))) ?_)))));have hum:e∈st.es:=cd he0;refine bc 7 11 J (eb hum) (ak (xs:= [.tmp 42,.tmp 46]) (DA c vp vn2 fs ns2 hfl (by omega) e (hsg.2.mem e hum)) FG [] [(true,0),(true,1),(false,1),(false,11)] [] (fun _ _=>aq J (aa (aV (ad J (av J J gj (aa (am J (fun h7=> ?_) (fun h7=> ?_)))))))))
    ·(try simp only [bk]at h7);have q4:eX fs ns2 e≠0:=h7;refine ar (ad J (aq J (aa (az (aQ (vn2,ns2) (fun h=>absurd h (by rw [g8 hst n2 (z:=eX fs ns2 e) (by rw [Ih q3.1 q3.2 hes,kQ q4]) q4];exact q4)) J (cc (aP J)) (by rw [g8 hst n2 (z:=eX fs ns2 e) (by rw [Ih q3.1 q3.2 hes,kQ q4]) q4]) [0,1] [] J J J)))))
    ·(try simp only [bk]at h7);have q4:eX fs ns2 e=0:=h7;refine aA (ar (aq J (aa (az (aQ (vn2,ns2) (fun h=>absurd h (by rw [g8 hst n2 (z:=22) (by rw [Ih q3.1 q3.2 hes,q4];rfl) (by decide)];exact(by decide))) J (cc (aP J)) (by rw [g8 hst n2 (z:=22) (by rw [Ih q3.1 q3.2 hes,q4];rfl) (by decide)]) [0,1] [] J J J)))))
   ·have q3:¬(st.kind=1∧cD st.name ns2=true):=by rintro ⟨a,b⟩;rw [decide_eq_true a,b]at h6;exact absurd h6 (by simp)
    refine aA (aV (aq J (aa (aC (bI (X:=Nat) (fun j=>j≤st.es.length∧jJ fs ns2 (st.es.take j)=0) (fun j=> [(0,Pt c),(1,sv v),(5,I6 (i:Int)),(6,Pt b6),(7,.bool (cD st.name ns2)),(9,I6 (j:Int))]) (fun j=> [(0,be c 128 [sv vp,sv vn2]),(1,own 9 1 eS (sv vn2) ns2),(6,be b6 64 (dM st))]) (fun j=> [(0,b_ v l),(2,sl 5 dM (sv v) l),(1,cE vp fs),(7,cm st.ve st.es),(8,b_ st.vb st.body),(9,b_ st.vl st.els),(10,sl 4 dB (sv st.ve) st.es)]) (fun j=>st.es.length-j) 0 ⟨bq _,J⟩ J J J (fun j hy0=> ?_))))));obtain⟨n3,n4⟩:=hy0;refine aV (ad J (aD ie J (aT 6 jM J J J J (aS (aL underlying59 J (aN (k:=10) J)) (av J J cy (aa (am J (fun h8=> ?_) (fun h8=> ?_))))))))
    ·(try simp only [bk]at h8);have hj:j<st.es.length:=by omega
     obtain⟨u,hu⟩:∃k,st.es[j]?=some k:=⟨_,bT hj⟩
     have hum:=cd hu;refine aA (aZ (aC (ar (ad J (aD ie J (aT 6 jM J J J J (ad J (aS (aK (j:=j) underlying59 ca J J (aN (k:=10) J) (by first|rfl|omega) (by first|omega|(simp;done)|(simp;omega))) (aS (aJ ca J J J (bJ (aN (k:=10) J) (by intro _;rfl) hu (by rfl))) (bc 7 11 J (eb hum) (ak (xs:= [.tmp 58,.tmp 63]) (DA c vp vn2 fs ns2 hfl (by omega) u (hsg.2.mem u hum)) FG [] [(true,0),(true,1),(false,1),(false,11)] [] (fun _ _=>aq J (aF J (ad J (av J J gj (aa ?_))))))))))))))));refine am J (fun h9=> ?_) (fun h9=> ?_)
     ·(try simp only [bk]at h9);have q6:eX fs ns2 u≠0:=h9;refine ar (ad J (aq J (aa (az (aQ (vn2,ns2) (fun h=>absurd h (by rw [g8 hst n2 (OF q2 (vP hu n4 q6) q6) q6];exact q6)) J (cc (aP J)) (by rw [g8 hst n2 (OF q2 (vP hu n4 q6) q6) q6]) [0,1] [] J J J)))))
     ·(try simp only [bk]at h9);have q6:eX fs ns2 u=0:=h9;refine aA (ap (ad J (av J J aO (aq J (aa ?_)))));refine aG (j+1) ⟨⟨by omega,by rw [lX hu,n4,q6];rfl⟩,by omega⟩ J J J
    ·(try simp only [bk]at h8);have hj:j=st.es.length:=by omega
     subst hj;rw [cV]at n4;refine bM (bz (X:=SV) (fun _=>True) (fun y=> [(0,Pt c),(1,sv v),(5,I6 (i:Int)),(6,Pt b6)]) (fun y=> [(0,be c 128 [sv vp,sv y]),(1,own 9 1 eS (sv y) (dN ns2 st)),(6,be b6 64 (dM st))]) (fun y=> [(0,b_ v l),(2,sl 5 dM (sv v) l),(1,cE vp fs),(7,cm st.ve st.es),(8,b_ st.vb st.body),(9,b_ st.vl st.els),(10,sl 4 dB (sv st.ve) st.es)]) ?_ (fun vn3 _=> ?_))
     ·refine ar (aD fj J (aT 6 t3 J J J J (av J J br (aa (am J (fun h10=> ?_) (fun h10=> ?_))))))
      ·have q7:st.kind=1:=cH h10;refine bQ [71,72,73,74,75,76,77,78,79,80,81] _ J (aW (V:= [(0,71,_),(1,72,_),(2,73,_),(3,74,_),(4,75,_),(5,76,_),(6,77,_)]) [0,1,2,3,4,5,6] 7 [7,6,5] [] (fun v78=> []) J J (ay J J (ay J J (ac J (aj J) (ac J (ah jo J) (ac J (ae h_ J J (ax (k:=0) J J)) (ac J (ah jH J) (ac J (ae t9 J J (ax (k:=6) J J)) ag))))))) J J J J J J J J J J J (fun _ _=>J) J (bE eS st.name underlying46 t9 J (by decide) (by decide) J J J) (fun v78 _=>aW [0,1,2,3,4] 8 [8,7,6,5,4,3,2,1] [9,10] (fun v79=> [(9,80,_),(10,81,_)]) J J (ay J J (ay J J (ac J (aj J) (ac J (ah jo J) (ac J (ae h_ J J (ax (k:=0) J J)) ag))))) J J J J J J J J J J J (fun _ _=>J) J (eB 1 underlying46 t9 J (by decide) (fun _=>J) (fun _=>J) J J J (aH (k:=78) J) (by simp only [bV];omega) (by unfold maxLen;simp only [bV];omega)) (fun v79 _=>bH [9,10,0] 11 [11,10,9,8,7,6,5,4,3,2,1,0] [] (fun _=> []) J J (ac J (aj J) (ac J (ah jo J) (ay J J ag))) J J J J J J J J J (fun _ _=>J) J (da (k:=0) h_ J J J J J J J J) (fun _ _=>bn [] J J ag J J J ?_))));refine aG v79 O J (by rw [show dN ns2 st=ns2++ [st.name]from aw q7];rfl) J
      ·have q7:¬st.kind=1:=dk h10;refine aA (aG vn2 O J (by rw [show dN ns2 st=ns2 from ai q7];rfl) J)
     ·refine ar (ad J (aD fV J (aT 6 eR J J J J (ak (xs:= [.tmp 82,.tmp 84]) ((ih st hsm).1 vn3 (dN ns2 st) (by rw [vV];omega)) Lv [0,1] [(false,8),(false,1)] [0,1] (fun⟨vn4,ns4⟩ h4=> ?_)))));dsimp only at h4 ⊢;refine aq J (aa (bz (X:=SV×List Ba) (fun y=>fst (dm fs (dN ns2 st) st.body).2 (dm fs (dm fs (dN ns2 st) st.body).1 st.els).2=0→y.2=(dm fs (dm fs (dN ns2 st) st.body).1 st.els).1) (fun y=> [(0,Pt c),(1,sv v),(5,I6 (i:Int)),(6,Pt b6),(11,I6 (fst (dm fs (dN ns2 st) st.body).2 (dm fs (dm fs (dN ns2 st) st.body).1 st.els).2))]) (fun y=> [(0,be c 128 [sv vp,sv y.1]),(1,own 9 1 eS (sv y.1) y.2),(6,be b6 64 (dM st))]) (fun y=> [(0,b_ v l),(2,sl 5 dM (sv v) l),(1,cE vp fs),(7,cm st.ve st.es),(8,b_ st.vb st.body),(9,b_ st.vl st.els),(10,sl 4 dB (sv st.ve) st.es)]) ?_ (fun y hy=> ?_)))
      ·refine ar (ad J (av J J br (aa (am J (fun h11=> ?_) (fun h11=> ?_)))))
       ·(try simp only [bk]at h11);have q8:(dm fs (dN ns2 st) st.body).2=0:=h11;refine ap (ad J (aD fK J (aT 6 eR J J J J (ak (xs:= [.tmp 88,.tmp 90]) ((ih st hsm).2 vn4 ns4 (by rw [h4 q8,kZ,vV];omega)) Lv [0,1] [(false,9),(false,1)] [0,1] (fun⟨vn5,ns5⟩ h5=> ?_)))));dsimp only at h5 ⊢;rw [h4 q8]at h5 ⊢;refine aq J (aa (aG (vn5,ns5) (fun h=>h5 (by rw [q8]at h;exact h)) (by rw [q8,ju];rfl) J J))
       ·(try simp only [bk]at h11);have q8:(dm fs (dN ns2 st) st.body).2≠0:=h11;refine aA (aG (vn4,ns4) (fun h=>absurd h (by rw [kQ q8];exact q8)) (by rw [kQ q8];rfl) J J)
      ·refine ar (ad J (av J J gj (aa (am J (fun h12=> ?_) (fun h12=> ?_)))))
       ·(try simp only [bk]at h12);have q9:fst (dm fs (dN ns2 st) st.body).2 (dm fs (dm fs (dN ns2 st) st.body).1 st.els).2≠0:=h12;refine ar (ad J (aq J (aa (az (aQ y (fun h=>absurd h (by rw [g8 hst n2 (z:=fst (dm fs (dN ns2 st) st.body).2 (dm fs (dm fs (dN ns2 st) st.body).1 st.els).2) (by rw [LG q2 q3 n4]) q9];exact q9)) J (cc (aP J)) (by rw [g8 hst n2 (z:=fst (dm fs (dN ns2 st) st.body).2 (dm fs (dm fs (dN ns2 st) st.body).1 st.els).2) (by rw [LG q2 q3 n4]) q9]) [0,1] [] J J J)))))
       ·(try simp only [bk]at h12);have q9:fst (dm fs (dN ns2 st) st.body).2 (dm fs (dm fs (dN ns2 st) st.body).1 st.els).2=0:=h12;refine aA (ap (ad J (av J J aO (aq J (aa ?_)))));refine aG ⟨i+1,y.1,y.2⟩ ⟨⟨by dsimp only;omega,LE hst n2 (by rw [LG q2 q3 n4,hy q9,q9])⟩,by dsimp only;omega⟩ J J J
 ·(try simp only [bk]at h1);have hi:i=l.length:=by omega
  subst hi;rw [cV]at n2;refine bM (ar (aq J (aa (az ?_))));refine aQ (vn2,ns2) (fun _=>by rw [n2]) J (cc (aP J)) (by rw [n2]) [0,1] [] J J J
theorem yn(c:Nat)(vp:SV)(fs:List Tf)(hfl:fs.length≤1000000):∀(n:Nat)(v:SV)(l:List Ty),SizeOf.sizeOf l<n→l.length≤1000000→GYs l→l.all rY=true→OY c vp fs v l
 | 0,_,_,h,_,_,_=>absurd h (Nat.not_lt_zero _)
 | n+1,v,l,h,hl,hg,hr=>fun vn ns hb=>Gw c vp fs hfl v l hl hg hr (fun u hu=>by
  have h1:=List.sizeOf_lt_of_mem hu;have h2:SizeOf.sizeOf u.body<SizeOf.sizeOf u∧SizeOf.sizeOf u.els<SizeOf.sizeOf u:=by
   cases u;simp only [Ty.mk.sizeOf_spec,Ty.body,Ty.els];omega
  have h3:=hg.mem u hu;have h4:=List.all_eq_true.1 hr u hu;rw [lP]at h4;simp only [Bool.and_eq_true]at h4;exact⟨yn c vp fs hfl n u.vb u.body (by omega) (ff h3).1 (ff h3).2 h4.1.2,yn c vp fs hfl n u.vl u.els (by omega) (gk h3).1 (gk h3).2 h4.2⟩) vn ns hb
theorem Gx(c:Nat)(vp:SV)(fs:List Tf)(hfl:fs.length≤1000000)(v:SV)(l:List Ty)(hl:l.length≤1000000)(hg:GYs l)(hr:l.all rY=true):OY c vp fs v l:=yn c vp fs hfl _ v l (Nat.lt_succ_self _) hl hg hr
end Go.Proofs.YtedmdgbmdplifaaGreat
