/-
  Part of the proof: the texts EH, EI, EJ, S0, S1, R1, R2, R3, R4, S2, shortened. Conditions are with the theorems.
-/
import Derived.Test.YtedmdgbmdplifaaGreatXAa
import Derived.Test.YtedmdgbmdplifaaGreatXAb
import Derived.Test.YtedmdgbmdplifaaGreatXAc
import Derived.Test.YtedmdgbmdplifaaGreatXAd
set_option maxHeartbeats 32000000
set_option maxRecDepth 100000
namespace Go.Proofs.YtedmdgbmdplifaaGreat
set_option linter.unusedSimpArgs false
set_option linter.unusedVariables false
open Go.RowKit
def iL(op:Int):Int:=
 if op=1∨op=16 then 3 else if op=2 then 4 else if op=3∨op=17 then 5 else if op=4∨op=18 then 6 else if op=5∨op=19 then 7 else
 if op=6∨op=20 then 8 else if op=7∨op=21 then 9 else if op=8∨op=22 then 10 else if op=9 then 11 else if op=10 then 12 else if op=11 then 14 else if op=12 then 15 else 0
def Rj(k a b:Int):Option Int:=
 if k=3 then some (wU (a+b))else if k=4 then some (wU (a-b))else if k=5 then some (bits .and .u32 a b)else if k=6 then some (bits .or .u32 a b)else if k=7 then some (bits .xor .u32 a b)else
 if k=8 then some (wU (a*2^(b%32).toNat))else if k=9 then some (a/2^(b%32).toNat)else if k=11 then some (wU (a*b))else if k=12 then(if b=0 then none else some (a/b))else if k=14 then some (tr (decide (a<b)))else none
theorem Ll{op a b v:Int}(h:wJ op a b=some v):Rj (iL op) a b=some v:=by
 unfold wJ at h;by_cases h1:op=1∨op=16
 ·rw [if_pos h1]at h;unfold iL;rw [if_pos h1];exact h
 rw [if_neg h1]at h;unfold iL;rw [if_neg h1];by_cases h2:op=2
 ·rw [if_pos h2]at h;rw [if_pos h2];exact h
 rw [if_neg h2]at h;rw [if_neg h2];by_cases h3:op=3∨op=17
 ·rw [if_pos h3]at h;rw [if_pos h3];exact h
 rw [if_neg h3]at h;rw [if_neg h3];by_cases h4:op=4∨op=18
 ·rw [if_pos h4]at h;rw [if_pos h4];exact h
 rw [if_neg h4]at h;rw [if_neg h4];by_cases h5:op=5∨op=19
 ·rw [if_pos h5]at h;rw [if_pos h5];exact h
 rw [if_neg h5]at h;rw [if_neg h5];by_cases h6:op=6∨op=20
 ·rw [if_pos h6]at h;rw [if_pos h6];exact h
 rw [if_neg h6]at h;rw [if_neg h6];by_cases h7:op=7
 ·rw [if_pos h7]at h;rw [if_pos (Or.inl h7)];exact h
 rw [if_neg h7]at h;by_cases h8:op=9
 ·rw [if_pos h8]at h;rw [if_neg (by omega),if_neg (by omega),if_pos h8];exact h
 rw [if_neg h8]at h;by_cases h9:op=10
 ·rw [if_pos h9]at h;rw [if_neg (by omega),if_neg (by omega),if_neg h8,if_pos h9];exact h
 rw [if_neg h9]at h;by_cases h10:op=11
 ·rw [if_pos h10]at h;rw [if_neg (by omega),if_neg (by omega),if_neg h8,if_neg h9,if_pos h10];exact h
 rw [if_neg h10]at h;cases h
theorem Lk{op a b v:Int}(h:wJ op a b=some v):(1≤op∧op≤7∨9≤op∧op≤11∨16≤op∧op≤20)∧(op=10→b≠0)∧iL op≠0:=by
 unfold wJ at h;unfold iL;by_cases h1:op=1∨op=16
 ·rw [if_pos h1];exact⟨by omega,by omega,by decide⟩
 rw [if_neg h1]at h;rw [if_neg h1];by_cases h2:op=2
 ·rw [if_pos h2];exact⟨by omega,by omega,by decide⟩
 rw [if_neg h2]at h;rw [if_neg h2];by_cases h3:op=3∨op=17
 ·rw [if_pos h3];exact⟨by omega,by omega,by decide⟩
 rw [if_neg h3]at h;rw [if_neg h3];by_cases h4:op=4∨op=18
 ·rw [if_pos h4];exact⟨by omega,by omega,by decide⟩
 rw [if_neg h4]at h;rw [if_neg h4];by_cases h5:op=5∨op=19
 ·rw [if_pos h5];exact⟨by omega,by omega,by decide⟩
 rw [if_neg h5]at h;rw [if_neg h5];by_cases h6:op=6∨op=20
 ·rw [if_pos h6];exact⟨by omega,by omega,by decide⟩
 rw [if_neg h6]at h;rw [if_neg h6];by_cases h7:op=7
 ·rw [if_pos (Or.inl h7)];exact⟨by omega,by omega,by decide⟩
 rw [if_neg h7]at h;by_cases h8:op=9
 ·rw [if_neg (by omega),if_neg (by omega),if_pos h8];exact⟨by omega,by omega,by decide⟩
 rw [if_neg h8]at h;by_cases h9:op=10
 ·rw [if_pos h9]at h;rw [if_neg (by omega),if_neg (by omega),if_neg h8,if_pos h9];refine⟨by omega,fun _ hb=> ?_,by decide⟩;rw [if_pos hb]at h;cases h
 rw [if_neg h9]at h;by_cases h10:op=11
 ·rw [if_neg (by omega),if_neg (by omega),if_neg h8,if_neg h9,if_pos h10];exact⟨by omega,by omega,by decide⟩
 rw [if_neg h10]at h;cases h
theorem Bi(t:Bool):
  Spec Tryz.prog 182 [.bool t] [] [] (X:=Unit) (fun _=>True) (fun _=> .int .u32 (tr t)) (fun _=> []) (fun _=> []):=by
 refine aF Tryz.func182 J Tryz.ntmps182 J fun w0 M H=>ae (aa (aj (ag J) J (ai (ae (ae (aa (aj (ac J) J (ai (ar J (fun h1=> ?_) (fun h1=> ?_))))))))))
 ·obtain rfl:t=true:=h1;refine ae (aa (aj (ag J) J (ai (aw (aG () trivial J (bx (aH J)) J [] [] J J J)))))
 ·obtain rfl:t=false:=h1;refine az (ae (aa (aj (ag J) J (ai (aw (aG () trivial J (bx (aH J)) J [] [] J J J))))))
theorem CX(k a b v:Int)(ha:0≤a∧a<4294967296)(hb:0≤b∧b<4294967296)(hv:Rj k a b=some v):
  Spec Tryz.prog 150 [.int .i64 k,.int .u32 a,.int .u32 b] [] [] (X:=Unit) (fun _=>True) (fun _=> .int .u32 v) (fun _=> []) (fun _=> []):=by
 refine aF Tryz.func150 J Tryz.ntmps150 J fun w0 M H=>ae (aa (aj (ag J) J (ai (ae (ae (aa (aj (ac J) J (ai (aB (ae (aa (aj (am J J aS) J ?_))))))))))))
 refine aj (ag J) J (ai (ar J (fun h1=> ?_) (fun h1=> ?_)))
 ·(try simp only [aV]at h1)
  obtain rfl:k=3:=h1;obtain rfl:wU (a+b)=v:=Option.some.inj hv;refine ae (aa (aj (ac J) J (aj (ac J) J (aj (am J J (aX J)) J (aj (ag J) J (ai (aw (aG () trivial J (bx (aH J)) J [] [] J J J))))))))
 ·(try simp only [aV]at h1)
  refine ae (aa (aj (am J J aS) J (aj (ag J) J (ai (ar J (fun h2=> ?_) (fun h2=> ?_))))))
  ·(try simp only [aV]at h2)
   obtain rfl:k=4:=h2;obtain rfl:wU (a-b)=v:=Option.some.inj hv;refine ae (aa (aj (ac J) J (aj (ac J) J (aj (am J J (fQ J)) J (aj (ag J) J (ai (aw (aG () trivial J (bx (aH J)) J [] [] J J J))))))))
  ·(try simp only [aV]at h2)
   refine ae (aa (aj (am J J aS) J (aj (ag J) J (ai (ar J (fun h3=> ?_) (fun h3=> ?_))))))
   ·(try simp only [aV]at h3)
    obtain rfl:k=5:=h3;obtain rfl:bits .and .u32 a b=v:=Option.some.inj hv;refine ae (aa (aj (ac J) J (aj (ac J) J (aj (am J J (lD J)) J (aj (ag J) J (ai (aw (aG () trivial J (bx (aH J)) J [] [] J J J))))))))
   ·(try simp only [aV]at h3)
    refine ae (aa (aj (am J J aS) J (aj (ag J) J (ai (ar J (fun h4=> ?_) (fun h4=> ?_))))))
    ·(try simp only [aV]at h4)
     obtain rfl:k=6:=h4;obtain rfl:bits .or .u32 a b=v:=Option.some.inj hv;refine ae (aa (aj (ac J) J (aj (ac J) J (aj (am J J (BV J)) J (aj (ag J) J (ai (aw (aG () trivial J (bx (aH J)) J [] [] J J J))))))))
    ·(try simp only [aV]at h4)
     refine ae (aa (aj (am J J aS) J (aj (ag J) J (ai (ar J (fun h5=> ?_) (fun h5=> ?_))))))
     ·(try simp only [aV]at h5)
      obtain rfl:k=7:=h5;obtain rfl:bits .xor .u32 a b=v:=Option.some.inj hv;refine ae (aa (aj (ac J) J (aj (ac J) J (aj (am J J (Jc J)) J (aj (ag J) J (ai (aw (aG () trivial J (bx (aH J)) J [] [] J J J))))))))
     ·(try simp only [aV]at h5)
      refine ae (aa (aj (am J J aS) J (aj (ag J) J (ai (ar J (fun h6=> ?_) (fun h6=> ?_))))))
      ·(try simp only [aV]at h6)
       obtain rfl:k=8:=h6;obtain rfl:wU (a*2^(b%32).toNat)=v:=Option.some.inj hv;refine ae (aa (aj (ac J) J (aj (ac J) J (aj (am J J (fV (by omega) (by first|exact kc (by omega)|rfl))) J (aj (am J J (ga (by omega) (by show _≤(32:Int);omega) J)) J (aj (ag J) J (ai (aw (aG () trivial J (bx (aH J)) J [] [] J J J)))))))))
      ·(try simp only [aV]at h6)
       refine ae (aa (aj (am J J aS) J (aj (ag J) J (ai (ar J (fun h7=> ?_) (fun h7=> ?_))))))
       ·(try simp only [aV]at h7)
        obtain rfl:k=9:=h7;obtain rfl:a/2^(b%32).toNat=v:=Option.some.inj hv;refine ae (aa (aj (ac J) J (aj (ac J) J (aj (am J J (fV (by omega) (by first|exact kc (by omega)|rfl))) J (aj (am J J (m_ (by omega) (by show _≤(32:Int);omega) J)) J (aj (ag J) J (ai (aw (aG () trivial J (bx (aH J)) J [] [] J J J)))))))))
       ·(try simp only [aV]at h7)
        refine ae (aa (aj (am J J aS) J (aj (ag J) J (ai (ar J (fun h8=> ?_) (fun h8=> ?_))))))
        ·(have hk:k=10:=by simpa using h8);subst hk;cases hv
        ·(try simp only [aV]at h8)
         refine ae (aa (aj (am J J aS) J (aj (ag J) J (ai (ar J (fun h9=> ?_) (fun h9=> ?_))))))
         ·(try simp only [aV]at h9)
          obtain rfl:k=11:=h9;obtain rfl:wU (a*b)=v:=Option.some.inj hv;refine ae (aa (aj (ac J) J (aj (ac J) J (aj (am J J (de J)) J (aj (ag J) J (ai (aw (aG () trivial J (bx (aH J)) J [] [] J J J))))))))
         ·(try simp only [aV]at h9)
          refine ae (aa (aj (am J J aS) J (aj (ag J) J (ai (ar J (fun h10=> ?_) (fun h10=> ?_))))))
          ·(try simp only [aV]at h10)
           obtain rfl:k=12:=h10;have hq:(if b=0 then none else some (a/b))=some v:=hv;refine ae (ae (aa (aj (ac J) J (aj (am J J aS) J (ai (ar J (fun h11=> ?_) (fun h11=> ?_)))))))
           ·(have hz:b=0:=by simpa using h11);rw [if_pos hz]at hq;cases hq
           ·(try simp only [aV]at h11)
            have hz:¬b=0:=by simpa using h11
            rw [if_neg hz]at hq;obtain rfl:a/b=v:=Option.some.inj hq;refine az (ae (aa (aj (ac J) J (aj (ac J) J (aj (am J J (jU (by omega) (oe ha (by omega)))) J (aj (ag J) J (ai (aw (aG () trivial J (bx (aH J)) J [] [] J J J)))))))))
          ·(try simp only [aV]at h10)
           refine ae (aa (aj (am J J aS) J (aj (ag J) J (ai (ar J (fun h12=> ?_) (fun h12=> ?_))))))
           ·(have hk:k=13:=by simpa using h12);subst hk;cases hv
           ·(try simp only [aV]at h12)
            refine ae (aa (aj (am J J aS) J (aj (ag J) J (ai (ar J (fun h13=> ?_) (fun h13=> ?_))))))
            ·(try simp only [aV]at h13)
             obtain rfl:k=14:=h13;obtain rfl:tr (decide (a<b))=v:=Option.some.inj hv;refine ae (aa (aj (ac J) J (aj (ac J) J (aj (am J J b_) J (au (xs:= [.tmp 75]) (Bi (decide (a<b))) NX [] [] [] J J J J J J J J (fun _ _=>J) (fun _ _ _=>J) J (fun _ _=>aj (ag J) J (ai (aw (aG () trivial J (bx (aH J)) J [] [] J J J)))))))))
            ·(try simp only [aV]at h13)
             refine ae (aa (aj (am J J aS) J (aj (ag J) J (ai (ar J (fun h14=> ?_) (fun h14=> ?_))))))
             ·(have hk:k=15:=by simpa using h14);subst hk;cases hv
             ·(try simp only [aV]at h14)
              exfalso;unfold Rj at hv;rw [if_neg (by omega),if_neg (by omega),if_neg (by omega),if_neg (by omega),if_neg (by omega),if_neg (by omega),if_neg (by omega),if_neg (by omega),if_neg (by omega),if_neg (by omega)]at hv;cases hv
theorem xt(op:Int):
  Spec Tryz.prog 148 [.int .i64 op] [] [] (X:=Unit) (fun _=>True) (fun _=> .int .i64 (iL op)) (fun _=> []) (fun _=> []):=by
 refine aF Tryz.func148 J Tryz.ntmps148 J fun w0 M H=>ae (aa (aj (ag J) J (ai (ae (ae (aa (aj (ac J) J (ai (aB (bi (X:=Unit) (fun _=>True) (fun _=> [(3,.int .i64 op),(4,.bool (decide (op=1∨op=16)))]) (fun _=> []) (fun _=> []) ?_ (fun _ _=> ?_)))))))))))
 ·refine ae (aa (aj (am J J aS) J (aj (ag J) J (ai (ar J (fun h1=> ?_) (fun h1=> ?_))))))
  ·(try simp only [aV]at h1)
   refine az (aL () trivial (by first|(rw [show decide (op=1∨op=16)=decide (op=1)from decide_eq_decide.2 (by omega)];rfl)|(rw [show decide (op=1∨op=16)=decide (op=16)from decide_eq_decide.2 (by omega)];rfl)) J J)
  ·(try simp only [aV]at h1)
   refine aa (aj (am J J aS) J (aj (ag J) J (ai (aL () trivial (by first|(rw [show decide (op=1∨op=16)=decide (op=1)from decide_eq_decide.2 (by omega)];rfl)|(rw [show decide (op=1∨op=16)=decide (op=16)from decide_eq_decide.2 (by omega)];rfl)) J J))))
 ·refine ar J (fun h2=> ?_) (fun h2=> ?_)
  ·(try simp only [aV]at h2)
   have e:iL op=3:=by unfold iL;rw [if_pos (by omega)]
   rw [e];refine ae (aa (aj (ag J) J (ai (aw (aG () trivial J (bx (aH J)) J [] [] J J J)))))
  ·(try simp only [aV]at h2)
   refine ae (aa (aj (am J J aS) J (aj (ag J) J (ai (ar J (fun h3=> ?_) (fun h3=> ?_))))))
   ·(try simp only [aV]at h3)
    have e:iL op=4:=by unfold iL;rw [if_neg (by omega),if_pos (by omega)]
    rw [e];refine ae (aa (aj (ag J) J (ai (aw (aG () trivial J (bx (aH J)) J [] [] J J J)))))
   ·(try simp only [aV]at h3)
    refine bi (X:=Unit) (fun _=>True) (fun _=> [(3,.int .i64 op),(9,.bool (decide (op=3∨op=17)))]) (fun _=> []) (fun _=> []) ?_ (fun _ _=> ?_)
    ·refine ae (aa (aj (am J J aS) J (aj (ag J) J (ai (ar J (fun h4=> ?_) (fun h4=> ?_))))))
     ·(try simp only [aV]at h4)
      refine az (aL () trivial (by first|(rw [show decide (op=3∨op=17)=decide (op=3)from decide_eq_decide.2 (by omega)];rfl)|(rw [show decide (op=3∨op=17)=decide (op=17)from decide_eq_decide.2 (by omega)];rfl)) J J)
     ·(try simp only [aV]at h4)
      refine aa (aj (am J J aS) J (aj (ag J) J (ai (aL () trivial (by first|(rw [show decide (op=3∨op=17)=decide (op=3)from decide_eq_decide.2 (by omega)];rfl)|(rw [show decide (op=3∨op=17)=decide (op=17)from decide_eq_decide.2 (by omega)];rfl)) J J))))
    ·refine ar J (fun h5=> ?_) (fun h5=> ?_)
     ·(try simp only [aV]at h5)
      have e:iL op=5:=by unfold iL;rw [if_neg (by omega),if_neg (by omega),if_pos (by omega)]
      rw [e];refine ae (aa (aj (ag J) J (ai (aw (aG () trivial J (bx (aH J)) J [] [] J J J)))))
     ·(try simp only [aV]at h5)
      refine bi (X:=Unit) (fun _=>True) (fun _=> [(3,.int .i64 op),(12,.bool (decide (op=4∨op=18)))]) (fun _=> []) (fun _=> []) ?_ (fun _ _=> ?_)
      ·refine ae (aa (aj (am J J aS) J (aj (ag J) J (ai (ar J (fun h6=> ?_) (fun h6=> ?_))))))
       ·(try simp only [aV]at h6)
        refine az (aL () trivial (by first|(rw [show decide (op=4∨op=18)=decide (op=4)from decide_eq_decide.2 (by omega)];rfl)|(rw [show decide (op=4∨op=18)=decide (op=18)from decide_eq_decide.2 (by omega)];rfl)) J J)
       ·(try simp only [aV]at h6)
        refine aa (aj (am J J aS) J (aj (ag J) J (ai (aL () trivial (by first|(rw [show decide (op=4∨op=18)=decide (op=4)from decide_eq_decide.2 (by omega)];rfl)|(rw [show decide (op=4∨op=18)=decide (op=18)from decide_eq_decide.2 (by omega)];rfl)) J J))))
      ·refine ar J (fun h7=> ?_) (fun h7=> ?_)
       ·(try simp only [aV]at h7)
        have e:iL op=6:=by unfold iL;rw [if_neg (by omega),if_neg (by omega),if_neg (by omega),if_pos (by omega)]
        rw [e];refine ae (aa (aj (ag J) J (ai (aw (aG () trivial J (bx (aH J)) J [] [] J J J)))))
       ·(try simp only [aV]at h7)
        refine bi (X:=Unit) (fun _=>True) (fun _=> [(3,.int .i64 op),(15,.bool (decide (op=5∨op=19)))]) (fun _=> []) (fun _=> []) ?_ (fun _ _=> ?_)
        ·refine ae (aa (aj (am J J aS) J (aj (ag J) J (ai (ar J (fun h8=> ?_) (fun h8=> ?_))))))
         ·(try simp only [aV]at h8)
          refine az (aL () trivial (by first|(rw [show decide (op=5∨op=19)=decide (op=5)from decide_eq_decide.2 (by omega)];rfl)|(rw [show decide (op=5∨op=19)=decide (op=19)from decide_eq_decide.2 (by omega)];rfl)) J J)
         ·(try simp only [aV]at h8)
          refine aa (aj (am J J aS) J (aj (ag J) J (ai (aL () trivial (by first|(rw [show decide (op=5∨op=19)=decide (op=5)from decide_eq_decide.2 (by omega)];rfl)|(rw [show decide (op=5∨op=19)=decide (op=19)from decide_eq_decide.2 (by omega)];rfl)) J J))))
        ·refine ar J (fun h9=> ?_) (fun h9=> ?_)
         ·(try simp only [aV]at h9)
          have e:iL op=7:=by unfold iL;rw [if_neg (by omega),if_neg (by omega),if_neg (by omega),if_neg (by omega),if_pos (by omega)]
          rw [e];refine ae (aa (aj (ag J) J (ai (aw (aG () trivial J (bx (aH J)) J [] [] J J J)))))
         ·(try simp only [aV]at h9)
          refine bi (X:=Unit) (fun _=>True) (fun _=> [(3,.int .i64 op),(18,.bool (decide (op=6∨op=20)))]) (fun _=> []) (fun _=> []) ?_ (fun _ _=> ?_)
          ·refine ae (aa (aj (am J J aS) J (aj (ag J) J (ai (ar J (fun h10=> ?_) (fun h10=> ?_))))))
           ·(try simp only [aV]at h10)
            refine az (aL () trivial (by first|(rw [show decide (op=6∨op=20)=decide (op=6)from decide_eq_decide.2 (by omega)];rfl)|(rw [show decide (op=6∨op=20)=decide (op=20)from decide_eq_decide.2 (by omega)];rfl)) J J)
           ·(try simp only [aV]at h10)
            refine aa (aj (am J J aS) J (aj (ag J) J (ai (aL () trivial (by first|(rw [show decide (op=6∨op=20)=decide (op=6)from decide_eq_decide.2 (by omega)];rfl)|(rw [show decide (op=6∨op=20)=decide (op=20)from decide_eq_decide.2 (by omega)];rfl)) J J))))
          ·refine ar J (fun h11=> ?_) (fun h11=> ?_)
           ·(try simp only [aV]at h11)
            have e:iL op=8:=by unfold iL;rw [if_neg (by omega),if_neg (by omega),if_neg (by omega),if_neg (by omega),if_neg (by omega),if_pos (by omega)]
            rw [e];refine ae (aa (aj (ag J) J (ai (aw (aG () trivial J (bx (aH J)) J [] [] J J J)))))
           ·(try simp only [aV]at h11)
            refine bi (X:=Unit) (fun _=>True) (fun _=> [(3,.int .i64 op),(21,.bool (decide (op=7∨op=21)))]) (fun _=> []) (fun _=> []) ?_ (fun _ _=> ?_)
            ·refine ae (aa (aj (am J J aS) J (aj (ag J) J (ai (ar J (fun h12=> ?_) (fun h12=> ?_))))))
             ·(try simp only [aV]at h12)
              refine az (aL () trivial (by first|(rw [show decide (op=7∨op=21)=decide (op=7)from decide_eq_decide.2 (by omega)];rfl)|(rw [show decide (op=7∨op=21)=decide (op=21)from decide_eq_decide.2 (by omega)];rfl)) J J)
             ·(try simp only [aV]at h12)
              refine aa (aj (am J J aS) J (aj (ag J) J (ai (aL () trivial (by first|(rw [show decide (op=7∨op=21)=decide (op=7)from decide_eq_decide.2 (by omega)];rfl)|(rw [show decide (op=7∨op=21)=decide (op=21)from decide_eq_decide.2 (by omega)];rfl)) J J))))
            ·refine ar J (fun h13=> ?_) (fun h13=> ?_)
             ·(try simp only [aV]at h13)
              have e:iL op=9:=by unfold iL;rw [if_neg (by omega),if_neg (by omega),if_neg (by omega),if_neg (by omega),if_neg (by omega),if_neg (by omega),if_pos (by omega)]
              rw [e];refine ae (aa (aj (ag J) J (ai (aw (aG () trivial J (bx (aH J)) J [] [] J J J)))))
             ·(try simp only [aV]at h13)
              refine bi (X:=Unit) (fun _=>True) (fun _=> [(3,.int .i64 op),(24,.bool (decide (op=8∨op=22)))]) (fun _=> []) (fun _=> []) ?_ (fun _ _=> ?_)
              ·refine ae (aa (aj (am J J aS) J (aj (ag J) J (ai (ar J (fun h14=> ?_) (fun h14=> ?_))))))
               ·(try simp only [aV]at h14)
                refine az (aL () trivial (by first|(rw [show decide (op=8∨op=22)=decide (op=8)from decide_eq_decide.2 (by omega)];rfl)|(rw [show decide (op=8∨op=22)=decide (op=22)from decide_eq_decide.2 (by omega)];rfl)) J J)
               ·(try simp only [aV]at h14)
                refine aa (aj (am J J aS) J (aj (ag J) J (ai (aL () trivial (by first|(rw [show decide (op=8∨op=22)=decide (op=8)from decide_eq_decide.2 (by omega)];rfl)|(rw [show decide (op=8∨op=22)=decide (op=22)from decide_eq_decide.2 (by omega)];rfl)) J J))))
              ·refine ar J (fun h15=> ?_) (fun h15=> ?_)
               ·(try simp only [aV]at h15)
                have e:iL op=10:=by unfold iL;rw [if_neg (by omega),if_neg (by omega),if_neg (by omega),if_neg (by omega),if_neg (by omega),if_neg (by omega),if_neg (by omega),if_pos (by omega)]
                rw [e];refine ae (aa (aj (ag J) J (ai (aw (aG () trivial J (bx (aH J)) J [] [] J J J)))))
               ·(try simp only [aV]at h15)
                refine ae (aa (aj (am J J aS) J (aj (ag J) J (ai (ar J (fun h16=> ?_) (fun h16=> ?_))))))
                ·(try simp only [aV]at h16)
                 have e:iL op=11:=by unfold iL;rw [if_neg (by omega),if_neg (by omega),if_neg (by omega),if_neg (by omega),if_neg (by omega),if_neg (by omega),if_neg (by omega),if_neg (by omega),if_pos (by omega)]
                 rw [e];refine ae (aa (aj (ag J) J (ai (aw (aG () trivial J (bx (aH J)) J [] [] J J J)))))
                ·(try simp only [aV]at h16)
                 refine ae (aa (aj (am J J aS) J (aj (ag J) J (ai (ar J (fun h17=> ?_) (fun h17=> ?_))))))
                 ·(try simp only [aV]at h17)
                  have e:iL op=12:=by unfold iL;rw [if_neg (by omega),if_neg (by omega),if_neg (by omega),if_neg (by omega),if_neg (by omega),if_neg (by omega),if_neg (by omega),if_neg (by omega),if_neg (by omega),if_pos (by omega)]
                  rw [e];refine ae (aa (aj (ag J) J (ai (aw (aG () trivial J (bx (aH J)) J [] [] J J J)))))
                 ·(try simp only [aV]at h17)
                  refine ae (aa (aj (am J J aS) J (aj (ag J) J (ai (ar J (fun h18=> ?_) (fun h18=> ?_))))))
                  ·(try simp only [aV]at h18)
                   have e:iL op=14:=by unfold iL;rw [if_neg (by omega),if_neg (by omega),if_neg (by omega),if_neg (by omega),if_neg (by omega),if_neg (by omega),if_neg (by omega),if_neg (by omega),if_neg (by omega),if_neg (by omega),if_pos (by omega)]
                   rw [e];refine ae (aa (aj (ag J) J (ai (aw (aG () trivial J (bx (aH J)) J [] [] J J J)))))
                  ·(try simp only [aV]at h18)
                   refine ae (aa (aj (am J J aS) J (aj (ag J) J (ai (ar J (fun h19=> ?_) (fun h19=> ?_))))))
                   ·(try simp only [aV]at h19)
                    have e:iL op=15:=by unfold iL;rw [if_neg (by omega),if_neg (by omega),if_neg (by omega),if_neg (by omega),if_neg (by omega),if_neg (by omega),if_neg (by omega),if_neg (by omega),if_neg (by omega),if_neg (by omega),if_neg (by omega),if_pos (by omega)]
                    rw [e];refine ae (aa (aj (ag J) J (ai (aw (aG () trivial J (bx (aH J)) J [] [] J J J)))))
                   ·(try simp only [aV]at h19)
                    have e:iL op=0:=by unfold iL;rw [if_neg (by omega),if_neg (by omega),if_neg (by omega),if_neg (by omega),if_neg (by omega),if_neg (by omega),if_neg (by omega),if_neg (by omega),if_neg (by omega),if_neg (by omega),if_neg (by omega),if_neg (by omega)]
                    rw [e];refine az (ae (aa (aj (ag J) J (ai (aw (aG () trivial J (bx (aH J)) J [] [] J J J))))))
theorem rr(a b:Int):
  Spec Tryz.prog 153 [.int .i64 32,.int .u32 a,.int .u32 b] [] [] (X:=Unit) (fun _=>True) (fun _=> .bool (decide (a=b))) (fun _=> []) (fun _=> []):=by
 refine aF Tryz.func153 J Tryz.ntmps153 J fun w0 M H=>ae (aa (aj (ag J) J (ai (ae (ae (aa (aj (ac J) J (ai (aB (ae (aa (aj (am J J aS) J ?_))))))))))))
 refine aj (ag J) J (ai (ar J (fun h1=> ?_) (fun h1=> ?_)))
 ·(try simp only [aV]at h1)
  refine ae (aa (aj (ac J) J (aj (ac J) J (aj (am J J aS) J (aj (ag J) J (ai (aw (aG () trivial J (bx (aH J)) J [] [] J J J))))))))
 ·exact absurd h1 (by decide)
theorem rq(a b:Int):
  Spec Tryz.prog 153 [.int .i64 35,.int .u32 a,.int .u32 b] [] [] (X:=Unit) (fun _=>True) (fun _=> .bool (decide (a≥b))) (fun _=> []) (fun _=> []):=by
 refine aF Tryz.func153 J Tryz.ntmps153 J fun w0 M H=>ae (aa (aj (ag J) J (ai (ae (ae (aa (aj (ac J) J (ai (aB (ae (aa (aj (am J J aS) J ?_))))))))))))
 refine aj (ag J) J (ai (ar J (fun h1=> ?_) (fun h1=> ?_)))
 ·exact absurd h1 (by decide)
 ·(try simp only [aV]at h1)
  refine ae (aa (aj (am J J aS) J (aj (ag J) J (ai (ar J (fun h2=> ?_) (fun h2=> ?_))))))
  ·exact absurd h2 (by decide)
  ·(try simp only [aV]at h2)
   refine ae (aa (aj (am J J aS) J (aj (ag J) J (ai (ar J (fun h3=> ?_) (fun h3=> ?_))))))
   ·exact absurd h3 (by decide)
   ·(try simp only [aV]at h3)
    refine ae (aa (aj (am J J aS) J (aj (ag J) J (ai (ar J (fun h4=> ?_) (fun h4=> ?_))))))
    ·(try simp only [aV]at h4)
     refine ae (aa (aj (ac J) J (aj (ac J) J (aj (am J J eV) J (aj (ag J) J (ai (aw (aG () trivial J (bx (aH J)) J [] [] J J J))))))))
    ·exact absurd h4 (by decide)
structure Fx(s:Mm)(i:Qi)(pc:Int):Prop where
 imm:0≤i.imm∧i.imm<4294967296
 hv:VQ i
 p:0≤pc∧pc+4≤s.d.length
 al:pc%4=0
 rt:∀k:Int,0≤k→k<4→wR s (pc+k) 4=true
 im:∀k:Nat,k<4→s.i[pc.toNat+k]?=(ep (lC i))[k]?
theorem VQ.bd{i:Qi}(hv:VQ i):0≤lC i∧lC i<4294967296:=yr (i:=i) (by unfold oy;simp only [Bool.and_eq_true];exact⟨⟨⟨⟨hv.k,hv.fd⟩,hv.fa⟩,hv.fb⟩,hv.im⟩)
def LI(w:Int):Nat→Int
 | 0=>0
 | k+1=>LI w k+ld w k%256*256^k
theorem GB{w:Int}(hw:0≤w∧w<4294967296):LI w 4=w:=by
 show 0+w%256*256^0+w/256%256*256^1+w/256/256%256*256^2+w/256/256/256%256*256^3=w;omega
theorem Dx{w:Int}(hw:0≤w∧w<4294967296){k:Nat}(hk:k<4):0≤LI w k∧LI w k+ld w k%256*256^k<4294967296∧0≤ld w k%256*256^k∧ld w k%256*256^k<4294967296:=by
 have:k=0∨k=1∨k=2∨k=3:=by omega
 rcases this with rfl|rfl|rfl|rfl
 ·show 0≤(0:Int)∧0+w%256*256^0<4294967296∧0≤w%256*256^0∧w%256*256^0<4294967296;omega
 ·show 0≤0+w%256*256^0∧0+w%256*256^0+w/256%256*256^1<4294967296∧0≤w/256%256*256^1∧w/256%256*256^1<4294967296;omega
 ·show 0≤0+w%256*256^0+w/256%256*256^1∧0+w%256*256^0+w/256%256*256^1+w/256/256%256*256^2<4294967296∧0≤w/256/256%256*256^2∧w/256/256%256*256^2<4294967296;omega
 ·show 0≤0+w%256*256^0+w/256%256*256^1+w/256/256%256*256^2∧0+w%256*256^0+w/256%256*256^1+w/256/256%256*256^2+w/256/256/256%256*256^3<4294967296∧0≤w/256/256/256%256*256^3∧w/256/256/256%256*256^3<4294967296;omega
theorem PK{w:Int}(hw:0≤w∧w<4294967296){k:Nat}(hk:k<4):IntKind.u32.wrap (ld w k%256*2^(8*(k:Int)).toNat)=ld w k%256*256^k:=by
 obtain⟨-,-,h1,h2⟩:=Dx hw hk;have e:(2:Int)^(8*(k:Int)).toNat=256^k:=by
  have:k=0∨k=1∨k=2∨k=3:=by omega
  rcases this with rfl|rfl|rfl|rfl<;>rfl
 rw [e];exact bC h1 h2
def RF(i:Qi):List Value:=gC i++ [.int .i64 0,.int .u32 0]
theorem vg(e:Me)(s:Mm)(n:Nat)(hs:MO s n)(i:Qi)(pc:Int)(hf:Fx s i pc):
  Spec Tryz.prog 147 [.int .u32 pc,.pointer (some ⟨e.m,0,none⟩)] [aY e.m 157 (mR e),own 5 1 bQ (sv e.vd) (s).d,own 5 1 bQ (sv e.vi) (s).i,own 3 1 eI (sv e.vr) (s).r] [] (X:=Unit) (fun _=>True) (fun _=> .agg (RF i).toArray) (fun _=> [aY e.m 157 (mR e),own 5 1 bQ (sv e.vd) (s).d,own 5 1 bQ (sv e.vi) (s).i,own 3 1 eI (sv e.vr) (s).r]) (fun _=> []):=by
 refine aF Tryz.func147 J Tryz.ntmps147 J fun w0 M H=> ?_
 have hdl:=hs.d;have hnn:=hs.n;have hp:=hf.p;have hal:=hf.al;have hwb:=hf.hv.bd;refine ae (aa (aT AZ J J fun b4=>ai (ae (ae (aa (aj (ac J) J (aj (am J J (fV (by omega) (by first|exact kc (by omega)|rfl))) J (aj (am J J cW) J (ai (ar J (fun h1=> ?_) (fun h1=> ?_)))))))))))
 ·(exfalso;have h0:=h1;revert h0;simp;omega)
 ·(try simp only [aV]at h1)
  refine az (ae (aa (aj (ag J) J (ai (ae (ae (aa (aj (ag J) J (ai (aB (bk (X:=Nat) (fun k=>k≤4) (fun k=> [(0,.int .u32 pc),(1,.pointer (some ⟨e.m,0,none⟩)),(4,.pointer (some ⟨b4,0,none⟩)),(5,.int .u32 (LI (lC i) k)),(6,.int .i64 (k:Int))]) (fun k=> [(0,aY e.m 157 (mR e)),(1,own 5 1 bQ (sv e.vd) s.d),(2,own 5 1 bQ (sv e.vi) s.i),(3,own 3 1 eI (sv e.vr) s.r),(4,aY b4 236 [.int .i64 0,.int .i64 0,.int .i64 0,.int .i64 0,.int .u32 0,.int .i64 0,.int .u32 0])]) (fun k=> []) (fun k=>4-k) 0 (Nat.zero_le _) J J J (fun k n1=>ae (ae ?_)))))))))))));refine aa (aj (ac J) J (aj (am J J b_) J (ai (ar J (fun h2=> ?_) (fun h2=> ?_)))))
  ·(try simp only [aV]at h2)
   have hi:k<4:=by omega
   have hbk:=Dx hwb hi;refine az (ae (aB (ae (aa (aj (ac J) J (aj (ac J) J (aj (ac J) J (aj (bP Tryz.underlying3 Tryz.underlying41 J (c:=(k:Int)) (bC (by omega) (by omega))) J (aj (am J J (aX (c:=pc+k) (bC (by omega) (by omega)))) J ?_)))))))));refine au (xs:= [.tmp 19,.tmp 23]) (BE e s n hs (pc+k) (by omega) (hf.rt k (by omega) (by omega)) (ld (lC i) k%256) (by rw [show(pc+(k:Int)).toNat=pc.toNat+k by omega,hf.im k hi,zo hwb hi]) (by omega)) NZ [0,1,2,3] [] [0,1,2,3] J J J J J J J J (fun _ _=>J) (fun _ _ _=>J) J (fun _ _=> ?_);refine aT gr J J fun b7=>av (k:=7) gr J J J J J J (ai (ae (ae (aa (aj (ah mX J) J (aj (ak t4 J J (ap (k:=7) J J)) J (aj (bZ J) J (ai (ar J (fun h3=> ?_) (fun h3=> ?_))))))))))
   ·cases h3
   ·(try simp only [aV]at h3)
    refine az (aa (aj (ac J) J (aj (ah oX J) J (aj (ak cr J J (ap (k:=7) J J)) J (aj (ac J) J (aj (am J J (de (by first|exact aU (by omega) (by omega)|rfl))) J (aj (bP Tryz.underlying3 Tryz.underlying138 J (c:=8*(k:Int)) (by first|exact yZ (by omega) (by omega)|rfl)) J (aj (am J J (ga (by omega) (by show _≤(32:Int);omega) (PK hwb hi))) J (aj (am J J (aX (c:=LI (lC i) (k+1)) (bC (by omega) (by omega)))) J (aj (ag J) J (ai (aa (aj (ac J) J ?_)))))))))))));refine aj (am J J (aX (by first|exact aU (by omega) (by omega)|rfl))) J (aj (ag J) J (ai ?_));refine aL (k+1) ⟨by omega,by omega⟩ J J J
  ·(try simp only [aV]at h2)
   have hi:k=4:=by omega
   subst hi;rw [GB hwb];refine bn (ae (aa (aj (ac J) J (au (xs:= [.tmp 43]) (tt i hf.imm hf.hv) NY [] [] [] J J J J J J J J (fun _ _=>J) (fun _ _ _=>J) J (fun _ _=>aj (ac J) J (aj (bV J J) J (aj (bV J J) J (aT ed J J fun b8=>av (k:=8) ed J J J J J J (aj (ag J) J (ai (ae (ae ?_))))))))))));refine aa (aj (ac J) J (aj (am J J cW) J (ai (ar J (fun h4=> ?_) (fun h4=> ?_)))))
   ·cases h4
   ·(try simp only [aV]at h4)
    refine az (ae (aa (aj (aJ ed J J J (aR (k:=8) J)) J (aj (aP (cs:=(RF i).toArray) (parts:= [(0,.tmp 51)]) AZ MC J (by kernel_rfl)) J (av (k:=4) AZ J J J J J J (ai (aw (aG () trivial J (bx (aW AZ J J J (aR (k:=4) J))) J [0,1,2,3] [] J J J))))))))
def xC(vp vi vo:SV)(mem:Nat→Int)(fuel used er:Int):List Value:= [sv vp,sv vi,sv vo]++((List.range 256).map (fun i=> .int .u32 (mem i))++ [.int .i64 fuel,.int .i64 used,.int .i64 er])
section
variable{vp vi vo:SV}{mem:Nat→Int}{fuel used er:Int}
theorem s9:(xC vp vi vo mem fuel used er).length=262:=by simp [xC]
theorem s_{o:Nat}{u:Value}(h:o+1≤262):Nat.ble (o+ [u].length) (xC vp vi vo mem fuel used er).length=true:=by
 rw [s9];exact Nat.ble_eq_true_of_le h
theorem E7{A tl:List Value}(h:A.length=259)(k:Nat):(A++tl)[259+k]?=tl[k]?:=by
 rw [List.getElem?_append_right (by omega)]
 congr 1
 omega
theorem E6{A tl:List Value}(h:A.length=259)(k:Nat)(v:Value):(A++tl).set (259+k) v=A++tl.set k v:=by
 rw [List.set_append_right _ _ (by omega)]
 congr 2
 omega
theorem B_(k:Nat):(xC vp vi vo mem fuel used er)[259+k]?=([.int .i64 fuel,.int .i64 used,.int .i64 er]:List Value)[k]?:=by
 unfold xC;rw [←List.append_assoc];exact E7 (by simp) k
theorem yY:(xC vp vi vo mem fuel used er)[259]?=some (.int .i64 fuel):=B_ 0
theorem s8:(xC vp vi vo mem fuel used er)[260]?=some (.int .i64 used):=B_ 1
theorem j9:(xC vp vi vo mem fuel used er)[261]?=some (.int .i64 er):=B_ 2
theorem Jm{i:Nat}(hi:i<256):(xC vp vi vo mem fuel used er)[3+i]?=some (.int .u32 (mem i)):=by
 unfold xC;rw [List.getElem?_append_right (by simp),List.getElem?_append_left (by simp;omega),List.getElem?_map,List.getElem?_range (by simp;omega)];simp
theorem Cc(k:Nat)(v:Value):(xC vp vi vo mem fuel used er).set (259+k) v= [sv vp,sv vi,sv vo]++((List.range 256).map (fun i=> .int .u32 (mem i))++([.int .i64 fuel,.int .i64 used,.int .i64 er]:List Value).set k v):=by
 unfold xC;rw [←List.append_assoc,←List.append_assoc];exact E6 (by simp) k v
theorem w6{f:Int}:(xC vp vi vo mem fuel used er).take 260++ [.int .i64 f]++(xC vp vi vo mem fuel used er).drop (260+ [Value.int .i64 f].length)=xC vp vi vo mem fuel f er:=(tD (by rw [s9];decide)).trans (Cc 1 _)
theorem uG{f:Int}:(xC vp vi vo mem fuel used er).take 261++ [.int .i64 f]++(xC vp vi vo mem fuel used er).drop (261+ [Value.int .i64 f].length)=xC vp vi vo mem fuel used f:=(tD (by rw [s9];decide)).trans (Cc 2 _)
theorem Ca{v:SV}:(xC vp vi vo mem fuel used er).take 1++ [sv v]++(xC vp vi vo mem fuel used er).drop (1+ [sv v].length)=xC vp v vo mem fuel used er:=rfl
theorem AS{v:SV}:(xC vp vi vo mem fuel used er).take 2++ [sv v]++(xC vp vi vo mem fuel used er).drop (2+ [sv v].length)=xC vp vi v mem fuel used er:=rfl
theorem AT{i:Nat}(hi:i<256){v:Int}:(xC vp vi vo mem fuel used er).take (3+i*1)++ [.int .u32 v]++(xC vp vi vo mem fuel used er).drop (3+i*1+ [Value.int .u32 v].length)=xC vp vi vo (rL mem i v) fuel used er:=by
 rw [tD (by rw [s9];omega)];unfold xC;rw [List.set_append_right _ _ (by simp),List.set_append_left _ _ (by simp;omega),←GA hi];rw [show 3+i*1-([sv vp,sv vi,sv vo]:List Value).length=i by simp]
end
def ky(fr:Vs)(x:ByteArray)(n:Int):Vs:=match fr.findIdx? (fun p=>decide (p.1=x))with
 | some i=>fr.set i (x,n)
 | none=>fr++ [(x,n)]
def FrEq(fr vs:Vs):Prop:=∀x,gE fr x=gE vs x
theorem AV(vs:Vs)(x y:ByteArray)(n:Int):gE (dV vs x n) y=if x=y then n else gE vs y:=by
 unfold gE dV;rw [List.find?_cons];by_cases h:x=y
 ·rw [decide_eq_true (show(x,n).1=y from h),if_pos h]
 ·rw [decide_eq_false (show ¬(x,n).1=y from h),if_neg h];dsimp only;rw [List.find?_filter]
  congr 1
  congr 1
  funext p;by_cases h2:p.1=y
  ·have h3:p.1≠x:=fun h4=>h (h4.symm.trans h2)
   simp [h2];intro h5;exact absurd (h5.symm) (fun h6=>h h6)
  ·simp [h2]
theorem wd{l:Vs}{i:Nat}{p:ByteArray×Int}{x y:ByteArray}{n:Int}(hi:l[i]?=some p)(hp:p.1=x)(h:x≠y):(l.set i (x,n)).find? (fun p=>decide (p.1=y))=l.find? (fun p=>decide (p.1=y)):=by
 induction l generalizing i with
 | nil=>simp at hi
 | cons a r ih=>
  cases i with
  | zero=>
   cases hi;rw [List.set_cons_zero,List.find?_cons,List.find?_cons,decide_eq_false (show ¬(x,n).1=y from h),decide_eq_false (show ¬p.1=y by rw [hp];exact h)]
  | succ i=>
   rw [List.set_cons_succ,List.find?_cons,List.find?_cons,ih hi]
theorem we{l:Vs}{i:Nat}{x:ByteArray}{n:Int}(hi:i<l.length)(hb:∀j p,j<i→l[j]?=some p→p.1≠x):(l.set i (x,n)).find? (fun p=>decide (p.1=x))=some (x,n):=by
 induction l generalizing i with
 | nil=>simp at hi
 | cons a r ih=>
  cases i with
  | zero=>rw [List.set_cons_zero,List.find?_cons,decide_eq_true (show(x,n).1=x from rfl)]
  | succ i=>
   have h1:a.1≠x:=hb 0 a (by omega) J;rw [List.set_cons_succ,List.find?_cons,decide_eq_false h1];exact ih (by simpa using hi) fun j p hj hp=>hb (j+1) p (by omega) hp
theorem t8{fr:Vs}{x:ByteArray}{n:Int}{i:Nat}{p:ByteArray×Int}(hi:fr[i]?=some p)(hp:p.1=x)(hb:∀j p,j<i→fr[j]?=some p→p.1≠x):ky fr x n=fr.set i (x,n):=by
 have h:fr.findIdx? (fun p=>decide (p.1=x))=some i:=by
  rw [List.findIdx?_eq_some_iff_getElem];obtain⟨h1,h2⟩:=List.getElem?_eq_some_iff.1 hi;refine⟨h1,by rw [h2];simpa using hp,fun j hj=> ?_⟩;have:=hb j _ hj (List.getElem?_eq_getElem (by omega));simpa using this
 unfold ky;rw [h]
theorem z8{fr:Vs}{x:ByteArray}{n:Int}(hb:∀p∈fr,p.1≠x):ky fr x n=fr++ [(x,n)]:=by
 have h:fr.findIdx? (fun p=>decide (p.1=x))=none:=by
  rw [List.findIdx?_eq_none_iff];intro p hp;simpa using hb p hp
 unfold ky;rw [h]
theorem r8(fr:Vs)(x y:ByteArray)(n:Int):gE (ky fr x n) y=if x=y then n else gE fr y:=by
 cases h:fr.findIdx? (fun p=>decide (p.1=x))with
 | none=>
  have hb:∀p∈fr,p.1≠x:=by
   rw [List.findIdx?_eq_none_iff]at h;intro p hp;have:=h p hp;simpa using this
  rw [z8 hb];unfold gE;rw [List.find?_append];by_cases hxy:x=y
  ·rw [if_pos hxy];subst hxy;have h2:fr.find? (fun p=>decide (p.1=x))=none:=List.find?_eq_none.2 fun p hp=>by simpa using hb p hp
   rw [h2];simp
  ·rw [if_neg hxy];cases hf:fr.find? (fun p=>decide (p.1=y))with
   | some p=>rfl
   | none=>simp [hxy]
 | some i=>
  rw [List.findIdx?_eq_some_iff_getElem]at h;obtain⟨h1,h2,h3⟩:=h;have h2:fr[i].1=x:=by simpa using h2
  have hb:∀j p,j<i→fr[j]?=some p→p.1≠x:=fun j p hj hp=>by
   have h4:=h3 j hj;rw [List.getElem?_eq_getElem (by omega)]at hp;cases hp;simpa using h4
  rw [t8 (List.getElem?_eq_getElem h1) h2 hb];unfold gE;by_cases hxy:x=y
  ·rw [if_pos hxy];subst hxy;rw [we h1 hb]
  ·rw [if_neg hxy,wd (List.getElem?_eq_getElem h1) h2 hxy]
theorem FrEq.put{fr vs:Vs}(h:FrEq fr vs)(x:ByteArray)(n:Int):FrEq (ky fr x n) (dV vs x n):=fun y=>by rw [r8,AV,h y]
theorem qz(fr:Vs)(x:ByteArray)(n:Int):(ky fr x n).length≤fr.length+1:=by
 unfold ky;split
 ·rw [List.length_set];omega
 ·rw [List.length_append,List.length_singleton];omega
theorem Bn{fr:Vs}{i:Nat}{p:ByteArray×Int}{n:Int}(hi:fr[i]?=some p):(fr.set i (p.1,n)).map Prod.fst=fr.map Prod.fst∧(fr.set i (p.1,n)).map Prod.snd=(fr.map Prod.snd).set i n:=by
 refine⟨?_,by rw [List.map_set]⟩;rw [List.map_set];apply List.ext_getElem?;intro j;rw [List.getElem?_set];split
 ·rename_i h;subst h;rw [List.getElem?_map,hi];split
  ·rfl
  ·rename_i h2;rw [List.length_map]at h2;exact absurd (List.getElem?_eq_some_iff.1 hi).1 h2
 ·rfl
def fC(vN vV:SV)(d:Int)(done:Bool)(val:Int):List Value:= [sv vN,sv vV,.int .i64 d,.bool done,.int .u32 val]
abbrev rK(fr:Vs):List ByteArray:=fr.map Prod.fst
abbrev td(fr:Vs):List Int:=fr.map Prod.snd
theorem Ft{fr:Vs}{x:ByteArray}{i:Nat}{p:ByteArray×Int}(hi:fr[i]?=some p)(hp:p.1=x)(hb:∀j p,j<i→fr[j]?=some p→p.1≠x):gE fr x=p.2:=by
 have h:=t8 (n:=p.2) hi hp hb;have h2:=r8 fr x x p.2;rw [if_pos J,h]at h2;have h3:fr.set i (x,p.2)=fr:=by
  obtain⟨q1,q2⟩:=List.getElem?_eq_some_iff.1 hi;rw [←hp];show fr.set i p=fr;rw [←q2];exact List.set_getElem_self q1
 rw [h3]at h2;exact h2
theorem Fq{fr:Vs}{x:ByteArray}(hb:∀p∈fr,p.1≠x):gE fr x=0:=by
 unfold gE;have h2:fr.find? (fun p=>decide (p.1=x))=none:=List.find?_eq_none.2 fun p hp=>by simpa using hb p hp
 rw [h2]
theorem Gh(m:Nat)(vp vi vo:SV)(mem:Nat→Int)(fuel used:Int)(er:Int)(he:er≠0):
  Spec Tryz.prog 194 [.pointer (some ⟨m,0,none⟩)] [aY m 204 (xC vp vi vo mem fuel used er)] [] (X:=Unit) (fun _=>True) (fun _=> .bool false) (fun _=> [aY m 204 (xC vp vi vo mem fuel used er)]) (fun _=> []):=by
 refine aF Tryz.func194 J Tryz.ntmps194 J fun w0 M H=>ae (aa (aj (ag J) J (ai (ae (ae (aa (aj (ac J) J (aj (aq J) J (aj (ah fh J) J (aj (ak ni J J (ap (k:=0) J j9)) J (aj (am J J cW) J (ai ?_))))))))))))
 refine ar J (fun h1=> ?_) (fun h1=> ?_)
 ·refine ae (aa (aj (ag J) J (ai (aw (aG () trivial J (bx (aH J)) J [0] [] J J J)))))
 ·exact absurd h1 (by simp [he])
theorem zr(m:Nat)(vp vi vo:SV)(mem:Nat→Int)(fuel used:Int)(hf:used≥fuel):
  Spec Tryz.prog 194 [.pointer (some ⟨m,0,none⟩)] [aY m 204 (xC vp vi vo mem fuel used 0)] [] (X:=Unit) (fun _=>True) (fun _=> .bool false) (fun _=> [aY m 204 (xC vp vi vo mem fuel used 25)]) (fun _=> []):=by
 refine aF Tryz.func194 J Tryz.ntmps194 J fun w0 M H=>ae (aa (aj (ag J) J (ai (ae (ae (aa (aj (ac J) J (aj (aq J) J (aj (ah fh J) J (aj (ak ni J J (ap (k:=0) J j9)) J (aj (am J J cW) J (ai ?_))))))))))))
 refine ar J (fun h1=> ?_) (fun h1=> ?_)
 ·exact absurd h1 (by simp)
 ·refine az (ae (ae (bA [8,9,10,11,12,13,14,15,16] _ J (be (V:= [(0,8,_),(1,9,_),(2,10,_),(3,11,_),(4,12,_),(5,13,_),(6,14,_),(7,15,_),(8,16,_)]) [0,1,2,3,4,5,6,7,8] J J (ad (aD J (ac J)) (ad (aD J (aq J)) (ad (aD J (ah o9 J)) (ad (aD J (ak t3 J J (ap (k:=0) J s8))) (ad (aD J (ac J)) (ad (aD J (aq J)) (ad (aD J (ah Aj J)) (ad (aD J (ak t3 J J (ap (k:=0) J yY))) (ad (aD J (am J J eV)) ay))))))))) J J J (ar J (fun h2=> ?_) (fun h2=> ?_))))))
  ·refine ae (aa (aj (ac J) J (aj (aq J) J (aj (ah fh J) J (aI (k:=0) ni J J J J J J (s_ (by decide)) (uG) (ai (ae (aa (aj (ag J) J (ai (aw (aG () trivial J (bx (aH J)) J [0] [] J J J))))))))))))
  ·exact absurd hf (of_decide_eq_false h2)
theorem zq(m:Nat)(vp vi vo:SV)(mem:Nat→Int)(fuel used:Int)(hf:used<fuel)(hu: -9000000000000000000≤used∧used≤9000000000000000000):
  Spec Tryz.prog 194 [.pointer (some ⟨m,0,none⟩)] [aY m 204 (xC vp vi vo mem fuel used 0)] [] (X:=Unit) (fun _=>True) (fun _=> .bool true) (fun _=> [aY m 204 (xC vp vi vo mem fuel (used+1) 0)]) (fun _=> []):=by
 refine aF Tryz.func194 J Tryz.ntmps194 J fun w0 M H=>ae (aa (aj (ag J) J (ai (ae (ae (aa (aj (ac J) J (aj (aq J) J (aj (ah fh J) J (aj (ak ni J J (ap (k:=0) J j9)) J (aj (am J J cW) J (ai ?_))))))))))))
 refine ar J (fun h1=> ?_) (fun h1=> ?_)
 ·exact absurd h1 (by simp)
 ·refine az (ae (ae (bA [8,9,10,11,12,13,14,15,16] _ J (be (V:= [(0,8,_),(1,9,_),(2,10,_),(3,11,_),(4,12,_),(5,13,_),(6,14,_),(7,15,_),(8,16,_)]) [0,1,2,3,4,5,6,7,8] J J (ad (aD J (ac J)) (ad (aD J (aq J)) (ad (aD J (ah o9 J)) (ad (aD J (ak t3 J J (ap (k:=0) J s8))) (ad (aD J (ac J)) (ad (aD J (aq J)) (ad (aD J (ah Aj J)) (ad (aD J (ak t3 J J (ap (k:=0) J yY))) (ad (aD J (am J J eV)) ay))))))))) J J J (ar J (fun h2=> ?_) (fun h2=> ?_))))))
  ·exact absurd (of_decide_eq_true h2) (by omega)
  ·refine az (ae (aa (aj (ac J) J (aj (aq J) J (aj (ah o9 J) J (aj (ak t3 J J (ap (k:=0) J s8)) J (aj (am J J (aX (by first|exact aU (by omega) (by omega)|rfl))) J (aj (aq J) J (aj (ah o9 J) J (aI (k:=0) t3 J J J J J J (s_ (by decide)) (w6) (ai (ae (aa ?_)))))))))))));refine aj (ag J) J (ai (aw (aG () trivial J (bx (aH J)) J [0] [] J J J)))
theorem BB(b:Nat)(vN vV:SV)(d:Int)(done:Bool)(val:Int)(fr:Vs)(hfl:(fr.length:Int)≤2000000000000)(x:ByteArray):
  Spec Tryz.prog 206 [.pointer (some ⟨b,0,none⟩),.string x] [] [aY b 232 (fC vN vV d done val),sl 1 eS (sv vN) (rK fr),sl 1 eU (sv vV) (td fr)] (X:=Unit) (fun _=>True) (fun _=> .int .u32 (gE fr x)) (fun _=> []) (fun _=> []):=by
 refine aF Tryz.func206 J Tryz.ntmps206 J fun w0 M H=>ae (aa (aj (ag J) J (ai (ae (ae (aa (aj (ag J) J (ai (aB (bk (X:=Nat) (fun i=>i≤fr.length∧∀j p,j<i→fr[j]?=some p→p.1≠x) (fun i=> [(0,.pointer (some ⟨b,0,none⟩)),(1,.string x),(5,.int .i64 (i:Int))]) (fun i=> []) (fun i=> [(0,aY b 232 (fC vN vV d done val)),(1,sl 1 eS (sv vN) (rK fr)),(2,sl 1 eU (sv vV) (td fr))]) (fun i=>fr.length-i) 0 ⟨Nat.zero_le _,fun j p h=>absurd h (Nat.not_lt_zero _)⟩ J J J (fun i hx0=> ?_)))))))))))
 obtain⟨n1,n2⟩:=hx0;have hlnm:(rK fr).length=fr.length:=List.length_map ..;refine ae (ae (aa (aj (ac J) J (aj (ac J) J (aj (aq J) J (aj (ah kR J) J (aj (ak gm J J (cz (k:=0) J J)) J (aj (aO Tryz.underlying46 J (aK (k:=1) J)) J (aj (am J J b_) J (ai (ar J (fun h1=> ?_) (fun h1=> ?_))))))))))))
 ·(try simp only [aV]at h1)
  have hi:i<fr.length:=by omega
  obtain⟨p,hp⟩:∃p,fr[i]?=some p:=⟨_,List.getElem?_eq_getElem hi⟩
  have hpn:(rK fr)[i]?=some p.1:=by rw [List.getElem?_map,hp];rfl
  have hpv:(td fr)[i]?=some p.2:=by rw [List.getElem?_map,hp];rfl
  have hln:(rK fr).length=fr.length:=List.length_map ..;have hlv:(td fr).length=fr.length:=List.length_map ..;refine az (ae (aB (ae (aa (aj (ac J) J (aj (aq J) J (aj (ah kR J) J (aj (ak gm J J (cz (k:=0) J J)) J (aj (ac J) J (aj (aN (j:=i) Tryz.underlying46 t9 J J (aK (k:=1) J) (by first|rfl|omega) (by omega)) J (aj (ak t9 J J (bv (aK (k:=1) J) (by intro _;rfl) hpn (by rfl))) J (aj (ac J) J (aj (am J J ci) J ?_)))))))))))));refine ai (ar J (fun h2=> ?_) (fun h2=> ?_))
  ·have heq:p.1=x:=of_decide_eq_true (by rw [←bR];exact h2);refine ae (aa (aj (ac J) J (aj (aq J) J (aj (ah oZ J) J (aj (ak oz J J (cz (k:=0) J J)) J (aj (ac J) J (aj (aN (j:=i) Tryz.underlying48 cr J J (aK (k:=2) J) (by first|rfl|omega) (by omega)) J (aj (ak cr J J (bv (aK (k:=2) J) (by intro _;rfl) hpv (by rfl))) J (aj (ag J) J (ai (aw (aG () trivial J (bx (aH J)) (by rw [Ft hp heq n2]) [] [] J J J))))))))))))
  ·have hne:p.1≠x:=of_decide_eq_false (by rw [←bR];exact h2);refine az (aa (aj (ac J) J (aj (am J J (aX (by first|exact aU (by omega) (by omega)|rfl))) J (aj (ag J) J (ai ?_)))));refine aL (i+1) ⟨⟨by omega,fun j q hj hq=>by
    by_cases h:j=i
    ·subst h;rw [hp]at hq;cases hq;exact hne
    ·exact n2 j q (by omega) hq⟩,by omega⟩ rfl rfl rfl
 ·(try simp only [aV]at h1)
  have hi:i=fr.length:=by omega
  have hall:∀p∈fr,p.1≠x:=fun p hp=>by
   obtain⟨j,hj⟩:=List.getElem?_of_mem hp;exact n2 j p (by rw [hi];exact(List.getElem?_eq_some_iff.1 hj).1) hj
  refine bn (ae (aa (aj (ag J) J (ai (aw (aG () trivial J (bx (aH J)) (by rw [Fq hall]) [] [] J J J))))))
theorem nF(b:Nat)(vN vV:SV)(d:Int)(done:Bool)(val:Int)(fr:Vs)(hfl:(fr.length:Int)≤2000000000000)(x:ByteArray)(n:Int):
  Spec Tryz.prog 145 [.pointer (some ⟨b,0,none⟩),.string x,.int .u32 n] [aY b 232 (fC vN vV d done val),own 9 1 eS (sv vN) (rK fr),own 41 1 eU (sv vV) (td fr)] [] (X:=SV×SV) (fun _=>True) (fun _=> .tuple #[]) (fun y=> [aY b 232 (fC y.1 y.2 d done val),own 9 1 eS (sv y.1) (rK (ky fr x n)),own 41 1 eU (sv y.2) (td (ky fr x n))]) (fun _=> []):=by
 refine aF Tryz.func145 J Tryz.ntmps145 J fun w0 M H=>ae (ae (aa (aj (ag J) J (ai (aB (bk (X:=Nat) (fun i=>i≤fr.length∧∀j p,j<i→fr[j]?=some p→p.1≠x) (fun i=> [(0,.pointer (some ⟨b,0,none⟩)),(1,.string x),(2,.int .u32 n),(6,.int .i64 (i:Int))]) (fun i=> [(0,aY b 232 (fC vN vV d done val)),(1,own 9 1 eS (sv vN) (rK fr)),(2,own 41 1 eU (sv vV) (td fr))]) (fun i=> []) (fun i=>fr.length-i) 0 ⟨Nat.zero_le _,fun j p h=>absurd h (Nat.not_lt_zero _)⟩ J J J (fun i hx0=> ?_)))))))
 obtain⟨n1,n2⟩:=hx0;have hlnm:(rK fr).length=fr.length:=List.length_map ..;refine ae (ae (aa (aj (ac J) J (aj (ac J) J (aj (aq J) J (aj (ah kR J) J (aj (ak gm J J (ap (k:=0) J J)) J (aj (aO Tryz.underlying46 J (bj (k:=1) J)) J (aj (am J J b_) J (ai (ar J (fun h1=> ?_) (fun h1=> ?_))))))))))))
 ·(try simp only [aV]at h1)
  have hi:i<fr.length:=by omega
  obtain⟨p,hp⟩:∃p,fr[i]?=some p:=⟨_,List.getElem?_eq_getElem hi⟩
  have hpn:(rK fr)[i]?=some p.1:=by rw [List.getElem?_map,hp];rfl
  have hpv:(td fr)[i]?=some p.2:=by rw [List.getElem?_map,hp];rfl
  have hln:(rK fr).length=fr.length:=List.length_map ..;have hlv:(td fr).length=fr.length:=List.length_map ..;refine az (ae (aB (ae (aa (aj (ac J) J (aj (aq J) J (aj (ah kR J) J (aj (ak gm J J (ap (k:=0) J J)) J (aj (ac J) J (aj (aN (j:=i) Tryz.underlying46 t9 J J (bj (k:=1) J) (by first|rfl|omega) (by omega)) J (aj (ak t9 J J (bv (bj (k:=1) J) (by intro _;rfl) hpn (by rfl))) J (aj (ac J) J (aj (am J J ci) J ?_)))))))))))));refine ai (ar J (fun h2=> ?_) (fun h2=> ?_))
  ·have heq:p.1=x:=of_decide_eq_true (by rw [←bR];exact h2);refine ae (aa (aj (ac J) J (aj (aq J) J (aj (ah oZ J) J (aj (ak oz J J (ap (k:=0) J J)) J (aj (ac J) J (aj (ac J) J (aj (aN (j:=i) Tryz.underlying48 cr J J (bj (k:=2) J) (by first|rfl|omega) (by omega)) J (lL (k:=2) (e':=n) cr J J J (by intro _;rfl) hpv J J (ai (aw ?_)))))))))));have hfin:=t8 (n:=n) hp heq n2;obtain⟨hs1,hs2⟩:=Bn (n:=n) hp;rw [heq]at hs1 hs2;refine dv (k:=1) (A':=own 9 1 eS (sv vN) (rK (ky fr x n))) J (fun _ _ h=>by rw [hfin];show(own 9 1 eS (sv vN) ((fr.set i (x,n)).map Prod.fst)).pred _ _;rw [hs1];exact h) ?_;refine dv (k:=2) (A':=own 41 1 eU (sv vV) (td (ky fr x n))) J (fun _ _ h=>by rw [hfin];show(own 41 1 eU (sv vV) ((fr.set i (x,n)).map Prod.snd)).pred _ _;rw [hs2];exact h) ?_;refine aG (vN,vV) trivial J eW J [0,1,2] [] J J J
  ·have hne:p.1≠x:=of_decide_eq_false (by rw [←bR];exact h2);refine az (aa (aj (ac J) J (aj (am J J (aX (by first|exact aU (by omega) (by omega)|rfl))) J (aj (ag J) J (ai ?_)))));refine aL (i+1) ⟨⟨by omega,fun j q hj hq=>by
    by_cases h:j=i
    ·subst h;rw [hp]at hq;cases hq;exact hne
    ·exact n2 j q (by omega) hq⟩,by omega⟩ rfl rfl rfl
 ·(try simp only [aV]at h1)
  have hi:i=fr.length:=by omega
  have hall:∀p∈fr,p.1≠x:=fun p hp=>by
   obtain⟨j,hj⟩:=List.getElem?_of_mem hp;exact n2 j p (by rw [hi];exact(List.getElem?_eq_some_iff.1 hj).1) hj
  refine bn (ae (aa (aj (ac J) J (aj (ac J) J (aj (aq J) J (aj (ah kR J) J (aj (ak gm J J (ap (k:=0) J J)) J (aj (ac J) J (bq eS x Tryz.underlying46 t9 J (by decide) (by decide) J J J J fun v38=>eF 1 Tryz.underlying46 t9 J (by decide) (fun _=>J) (fun _=>J) J J J (bj (k:=38) J) (by simp only [List.length_map,List.length_singleton];omega) (by unfold maxLen;simp only [List.length_map,List.length_singleton];omega) J fun v39=>aj (aq J) J (aj (ah kR J) J (aI (k:=0) gm J J J J J J J J ?_)))))))))));refine ai (aa (aj (ac J) J (aj (ac J) J (aj (aq J) J (aj (ah oZ J) J (aj (ak oz J J (ap (k:=0) J J)) J (aj (ac J) J (bq eU n Tryz.underlying48 cr J (by decide) (by decide) J J J J fun v48=>eF 2 Tryz.underlying48 cr J (by decide) (fun _=>J) (fun _=>J) J J J (bj (k:=48) J) (by simp only [List.length_map,List.length_singleton];omega) (by unfold maxLen;simp only [List.length_map,List.length_singleton];omega) J fun v49=>aj (aq J) J (aj (ah oZ J) J (aI (k:=0) oz J J J J J J J J (ai ?_)))))))))));have hfin:=z8 (n:=n) hall;refine dv (k:=1) (A':=own 9 1 eS (sv v39) (rK (ky fr x n))) J (fun _ _ h=>by rw [hfin,show rK (fr++ [(x,n)])=rK fr++ [x]from List.map_append ..];exact h) ?_;refine dv (k:=2) (A':=own 41 1 eU (sv v49) (td (ky fr x n))) J (fun _ _ h=>by rw [hfin,show td (fr++ [(x,n)])=td fr++ [n]from List.map_append ..];exact h) ?_;refine bO (v39,v49) trivial J eW J [0,1,2] [] J J J
structure Rn extends En where
 vp:SV
 fu:Int
structure Sx where
 vi:SV
 vo:SV
 out:List Int
 mem:Nat→Int
 used:Int
 er:Int
def xS(e:Rn)(s:Ms)(vo:SV):Sx:=⟨B0 e.vin (e.ins.length-s.inp.length),vo,s.out,s.mem,e.fu-s.fuel,0⟩
abbrev j8(e:Rn)(x:Sx):List Value:=xC e.vp x.vi x.vo x.mem e.fu x.used x.er
def q_(e:Rn)(r:Re Int)(x:Int×Sx):Prop:=(∃s vo,r= .ok x.1 s∧x.2=xS e s vo)∨(x.2.er≠0∧r= .err x.2.er)
structure RkE(e:Rn)(s:Ms):Prop where
 ok:okMs s
 i:SkI e.toEn s
theorem RkE.kp{e:Rn}{s s':Ms}(h:RkE e s)(h':Kp s s'):RkE e s':=⟨h'.ok,h.i.kp h'⟩
def RK(e:Rn)(g d:Nat)(vs:Vs)(t:Tx)(x:Sx)(r:Re Int):Prop:=(∃s vo,x=xS e s vo∧RkE e s∧d_ g e.fs d vs t s=some r)∨(x.er≠0∧r= .err x.er)
def KIn(e:Rn)(g d:Nat)(vs:Vs)(acc:List Int)(l:List Tx)(x:Sx)(r:Re (List Int)):Prop:=(∃s vo,x=xS e s vo∧RkE e s∧(∀a∈acc,oW a)∧fR g e.fs d vs acc l s=some r)∨(x.er≠0∧r= .err x.er)
theorem KIn.step{e:Rn}{g d:Nat}{vs:Vs}{acc:List Int}{t:Tx}{l:List Tx}{x:Sx}{r:Re (List Int)}(hF:VF e.fs)(ht:VX e.fs t)(hv:okVs vs)(h:KIn e g d vs acc (t::l) x r):
  ∃g2 rx,g2≤g∧RK e g2 d vs t x rx∧∀y,q_ e rx y→KIn e g2 d vs (acc++ [y.1]) l y.2 r:=by
 rcases h with⟨s,vo,h1,h2,h3,h4⟩|⟨h1,h2⟩
 ·obtain⟨g2,rx,hg,hx,hre,hro⟩:=El h4;refine⟨g2,rx,by omega,.inl ⟨s,vo,h1,h2,hx⟩,fun y hy=> ?_⟩;rcases hy with⟨s2,vo2,h5,h6⟩|⟨h5,h6⟩
  ·have h7:=hro _ _ h5;rw [h5]at hx;obtain⟨hv1,hv2⟩:=(em hF g2).x d vs t s y.1 s2 ht hv h2.ok hx;exact .inl ⟨s2,vo2,h6,h2.kp hv2,E_ h3 hv1,h7⟩
  ·exact .inr ⟨h5,hre _ h6⟩
 ·refine⟨g,.err x.er,Nat.le_refl _,.inr ⟨h1,J⟩,fun y hy=> ?_⟩;rcases hy with⟨s2,vo2,h5,h6⟩|⟨h5,h6⟩
  ·cases h5
  ·refine .inr ⟨h5,?_⟩;rw [h2];have:=Re.err.inj h6;rw [this]
theorem KIn.done{e:Rn}{g d:Nat}{vs:Vs}{acc:List Int}{x:Sx}{r:Re (List Int)}(h:KIn e g d vs acc [] x r):(∃s vo,x=xS e s vo∧RkE e s∧(∀a∈acc,oW a)∧r= .ok acc s)∨(x.er≠0∧r= .err x.er):=by
 rcases h with⟨s,vo,h1,h2,h3,h4⟩|h
 ·exact .inl ⟨s,vo,h1,h2,h3,Ht h4⟩
 ·exact .inr h
theorem LV{e:Rn}{s:Ms}{vo:SV}(h:SkI e.toEn s){a:Int}{r:List Int}(hr:s.inp=a::r):xC e.vp (Ff (B0 e.vin (e.ins.length-s.inp.length)) 1 1) vo s.mem e.fu (e.fu-s.fuel) 0=j8 e (xS e {s with inp:=r} vo):=by
 have h1:=h.len.1;rw [hr,List.length_cons]at h1;unfold j8 xS;dsimp only;rw [show e.ins.length-r.length=(e.ins.length-s.inp.length)+1 by rw [hr,List.length_cons];omega];rfl
theorem zt{α:Type}{T:TypeId}{s:Nat}{enc:α→List Value}{v:Value}{l:List α}:∀w G,(own T s enc v l).pred w G→(∀b,G b→b<w.heap.size)→∃G',(sl s enc v l).pred w G'∧∀b,G' b→G b:=fun w G h _=>⟨G,tH h,fun _ h=>h⟩
abbrev RX(e:Rn)(b d:Nat)(vN vV:SV)(fr:Vs)(t:Tx):List Asn:= [aY b 232 (fC vN vV (d:Int) false 0),own 9 1 eS (sv vN) (rK fr),own 41 1 eU (sv vV) (td fr),bK t.v t.kids,cm e.vp e.fs,sl 1 eU (sv e.vin) e.ins]
abbrev LX(e:Rn)(x:Sx):List Asn:= [aY e.m 204 (j8 e x),own 41 1 eU (sv x.vo) x.out]
def Lt(e:Rn)(g:Nat):Prop:=∀(t:Tx)(d b:Nat)(vN vV:SV)(fr vs:Vs)(x:Sx)(r:Re Int),VX e.fs t→d≤12→okVs vs→FrEq fr vs→(fr.length:Int)≤2000000000000→RK e g d vs t x r→
 Spec Tryz.prog 195 [.pointer (some ⟨e.m,0,none⟩),.pointer (some ⟨b,0,none⟩),xV t] (LX e x) (RX e b d vN vV fr t) (X:=Int×Sx) (q_ e r) (fun y=> .int .u32 y.1) (fun y=>LX e y.2) (fun _=> [])
def O9(e:Rn)(g:Nat):Prop:=∀(nm:ByteArray)(f:Tf)(d:Nat)(va:SV)(al:List Int)(s:Ms)(vo:SV)(r:Re Int),ce e.fs nm=some f→al.length≤f.ps.length→(∀a∈al,oW a)→d≤12→RkE e s→jS g e.fs d f al s=some r→
 Spec Tryz.prog 114 [.pointer (some ⟨e.m,0,none⟩),.string nm,sv va,.int .i64 ((d:Int)+1)] (LX e (xS e s vo)) [sl 1 eU (sv va) al,cm e.vp e.fs,sl 1 eU (sv e.vin) e.ins] (X:=Int×Sx) (q_ e r) (fun y=> .int .u32 y.1) (fun y=>LX e y.2) (fun _=> [])
structure Yk where
 i:Nat
 g:Nat
 acc:List Int
 x:Sx
 va:SV
theorem y6(u:Int):vO (some u)= .agg #[.int .u32 u,.bool true]:=rfl
theorem H_(e:Rn)(t:Tx)(d b:Nat)(vN vV:SV)(fr vs:Vs)(x:Sx)(r:Re Int)(hx:x.er≠0)(hr:r= .err x.er)(ht:VX e.fs t)(hd:d≤12)(hvs:okVs vs)(hfr:FrEq fr vs)(hfrl:(fr.length:Int)≤2000000000000):
  Spec Tryz.prog 195 [.pointer (some ⟨e.m,0,none⟩),.pointer (some ⟨b,0,none⟩),xV t] (LX e x) (RX e b d vN vV fr t) (X:=Int×Sx) (q_ e r) (fun y=> .int .u32 y.1) (fun y=>LX e y.2) (fun _=> []):=by
 refine aF Tryz.func195 J Tryz.ntmps195 J fun w0 M H=>ae (aa (bN J J fun b5=>aj (ag J) J (ai (ae (aa (aj (ac J) J (au (xs:= [.tmp 11]) (Gh e.m e.vp x.vi x.vo x.mem e.fu x.used x.er hx) wA [0] [] [0] J J J J J J J J (fun _ _=>J) (fun _ _ _=>J) J (fun _ _=>aj (ag J) J (ai (ae (ae ?_)))))))))))
 refine aa (aj (ac J) J (aj (bZ J) J (ai (ar J (fun h1=> ?_) (fun h1=> ?_)))))
 ·(try simp only [aV]at h1)
  refine ae (aa (aj (ag J) J (ai (aw (aG (0,x) (.inr ⟨hx,hr⟩) J (bx (aH J)) J [0,1] [] J J J)))))
 ·exact absurd h1 (by simp)
theorem LZ(e:Rn)(t:Tx)(d b:Nat)(vN vV:SV)(fr vs:Vs)(g:Nat)(s:Ms)(vo:SV)(r:Re Int)(hr:d_ (g+1) e.fs d vs t s=some r)(hfu:s.fuel≤0)(ht:VX e.fs t)(hd:d≤12)(hvs:okVs vs)(hfr:FrEq fr vs)(hfrl:(fr.length:Int)≤2000000000000):
  Spec Tryz.prog 195 [.pointer (some ⟨e.m,0,none⟩),.pointer (some ⟨b,0,none⟩),xV t] (LX e (xS e s vo)) (RX e b d vN vV fr t) (X:=Int×Sx) (q_ e r) (fun y=> .int .u32 y.1) (fun y=>LX e y.2) (fun _=> []):=by
 refine aF Tryz.func195 J Tryz.ntmps195 J fun w0 M H=> ?_
 unfold d_ at hr;rw [if_pos hfu]at hr;have hr1:r= .err 25:=(Option.some.inj hr).symm;refine ae (aa (bN J J fun b5=>aj (ag J) J (ai (ae (aa (aj (ac J) J (au (xs:= [.tmp 11]) (zr e.m e.vp (B0 e.vin (e.ins.length-s.inp.length)) vo s.mem e.fu (e.fu-s.fuel) (by omega)) wA [0] [] [0] J J J J J J J J (fun _ _=>J) (fun _ _ _=>J) J (fun _ _=>aj (ag J) J (ai (ae (ae (aa ?_))))))))))));refine aj (ac J) J (aj (bZ J) J (ai (ar J (fun h1=> ?_) (fun h1=> ?_))))
 ·(try simp only [aV]at h1)
  refine ae (aa (aj (ag J) J (ai (aw ?_))));refine aG (0,{xS e s vo with er:=25}) (.inr ⟨by show(25:Int)≠0;decide,hr1⟩) J (bx (aH J)) J [0,1] [] J J J
 ·exact absurd h1 (by simp)
theorem LY(e:Rn)(g:Nat)(hF:VF e.fs)(hfu1: -1000000000000000000≤e.fu)(hfu2:e.fu≤1000000000000000000)(hfl:e.fs.length≤1000000)(ihX:∀k,k≤g→Lt e k)(ihC:∀k,k≤g→O9 e k)(t:Tx)(d b:Nat)(vN vV:SV)(fr vs:Vs)(s:Ms)(vo:SV)(r:Re Int)(hs:RkE e s)(hr:d_ (g+1) e.fs d vs t s=some r)(hfu:¬s.fuel≤0)(ht:VX e.fs t)(hd:d≤12)(hvs:okVs vs)(hfr:FrEq fr vs)(hfrl:(fr.length:Int)≤2000000000000):
  Spec Tryz.prog 195 [.pointer (some ⟨e.m,0,none⟩),.pointer (some ⟨b,0,none⟩),xV t] (LX e (xS e s vo)) (RX e b d vN vV fr t) (X:=Int×Sx) (q_ e r) (fun y=> .int .u32 y.1) (fun y=>LX e y.2) (fun _=> []):=by
 refine aF Tryz.func195 J Tryz.ntmps195 J fun w0 M H=> ?_
 unfold d_ at hr;rw [if_neg hfu]at hr;obtain⟨s1,hs1⟩:∃s1:Ms,({s with fuel:=s.fuel-1}:Ms)=s1:=⟨_,J⟩
 have hp:=Kp.pay hs.ok hfu;have hmR:xC e.vp (B0 e.vin (e.ins.length-s.inp.length)) vo s.mem e.fu (e.fu-s.fuel+1) 0=j8 e (xS e s1 vo):=by
  rw [←hs1];unfold j8 xS;dsimp only
  congr 1
  omega
 have hso:s.out=s1.out:=by rw [←hs1]
 rw [hs1]at hr hp;have h51:=hs.kp hp;have hfub:=hs.ok.out;obtain⟨rk,hk⟩:∃rk,fR g e.fs d vs [] t.kids s1=some rk:=by
  cases h:fR g e.fs d vs [] t.kids s1 with
  | none=>rw [h]at hr;simp at hr
  | some q=>exact⟨q,rfl⟩
 rw [hk]at hr;have htk:=uy ht;have htl:=Lr ht;refine aQ 3 7 J eL (ae (aa (bN J J fun b5=>aj (ag J) J (ai (ae (aa (aj (ac J) J ?_)))))));refine au (xs:= [.tmp 11]) (zq e.m e.vp (B0 e.vin (e.ins.length-s.inp.length)) vo s.mem e.fu (e.fu-s.fuel) (by omega) ⟨by omega,by omega⟩) wA [0] [] [0] J J J J J J J J (fun _ _=>J) (fun _ _ _=>J) J (fun _ _=> ?_);rw [hmR];refine aj (ag J) J (ai (ae (ae (aa (aj (ac J) J (aj (bZ J) J (ai (ar J (fun h1=> ?_) (fun h1=> ?_)))))))))
 ·exact absurd h1 (by simp)
 ·(try simp only [aV]at h1)
  refine az (ae (aa (aj (ag J) J (ai (ae (ae (aa (aj (ag J) J (ai (aB (cA 90 (α:=Int) (S:=41) (s:=1) (enc:=eU) ?_)))))))))));refine bk (X:=Yk) (fun z=>z.i≤t.kids.length∧z.g≤g∧z.acc.length=z.i∧KIn e z.g d vs z.acc (t.kids.drop z.i) z.x rk) (fun z=> [(0,.pointer (some ⟨e.m,0,none⟩)),(1,.pointer (some ⟨b,0,none⟩)),(5,.pointer (some ⟨b5,0,none⟩)),(8,sv z.va),(9,.int .i64 (z.i:Int))]) (fun z=> [(0,aY e.m 204 (j8 e z.x)),(1,own 41 1 eU (sv z.x.vo) z.x.out),(5,aY b5 61 (df t)),(90,own 41 1 eU (sv z.va) z.acc)]) (fun z=> [(0,aY b 232 (fC vN vV (d:Int) false 0)),(1,own 9 1 eS (sv vN) (rK fr)),(2,own 41 1 eU (sv vV) (td fr)),(3,bK t.v t.kids),(4,cm e.vp e.fs),(5,sl 1 eU (sv e.vin) e.ins),(7,sl 4 df (sv t.v) t.kids)]) (fun z=>t.kids.length-z.i) ⟨0,g,[],xS e s1 vo,bw⟩ ⟨Nat.zero_le _,Nat.le_refl _,J,.inl ⟨s1,vo,J,h51,by simp,hk⟩⟩ J (by dsimp only [xS];rw [hso];rfl) J (fun z hz0=> ?_);obtain⟨i,gz,acc,x,va⟩:=z;obtain⟨n1,n2,n3,n4⟩:=hz0;dsimp only at n1 n2 n3 n4 ⊢;refine ae (ae (aa (aj (ac J) J (aj (ah cU J) J (aj (ak ic J J (ap (k:=5) J J)) J (aj (aO Tryz.underlying59 J (aK (k:=7) J)) J (aj (am J J b_) J (ai (ar J (fun h2=> ?_) (fun h2=> ?_))))))))))
  ·(try simp only [aV]at h2)
   have hi:i<t.kids.length:=by omega
   obtain⟨kid,hkid⟩:∃k,t.kids[i]?=some k:=⟨_,List.getElem?_eq_getElem hi⟩
   rw [wn hkid]at n4;have hkm:=List.mem_of_getElem? hkid;have hvk:=htk.mem kid hkm;obtain⟨g2,rx,hg2,hin,hstep⟩:=n4.step hF hvk hvs;refine az (ae (aB (aa (aj (ac J) J (aj (ac J) J (aj (ac J) J (aj (ah cU J) J (aj (ak ic J J (ap (k:=5) J J)) J (aj (ac J) J (aj (aN (j:=i) Tryz.underlying59 cg J J (aK (k:=7) J) (by first|rfl|omega) (by first|omega|(simp;done)|(simp;omega))) J (aj (aJ cg J J J (bv (aK (k:=7) J) (by intro _;rfl) hkid (by rfl))) J (aQ 3 8 J (cH hkm) (au (xs:= [.tmp 23,.tmp 24,.tmp 29]) (ihX g2 (by omega) kid d b vN vV fr vs x rx hvk hd hvs hfr hfrl hin) AB [0,1] [(false,0),(false,1),(false,2),(false,8),(false,4),(false,5)] [0,1] J J J J J J J J (fun _ _=>J) (fun _ _ _=>J) J (fun y hy=> ?_))))))))))))));refine bq eU _ Tryz.underlying48 cr J (by decide) (by decide) J J J J fun v31=>eF 90 Tryz.underlying48 cr J (by decide) (fun _=>J) (fun _=>J) J J J (bj (k:=31) J) (by first|omega|(simp;done)|(simp;omega)) (by unfold maxLen;first|omega|(simp;done)|(simp;omega)) J fun v32=>aj (ag J) J (ai (aa (aj (ac J) J (aj (am J J (aX (by first|exact aU (by omega) (by omega)|rfl))) J (aj (ag J) J (ai ?_))))))
   refine aL ⟨i+1,g2,acc++ [y.1],y.2,v32⟩ ⟨⟨by dsimp only;omega,by dsimp only;omega,by dsimp only;rw [List.length_append,List.length_singleton];omega,hstep y hy⟩,by dsimp only;omega⟩ J J J
  ·(try simp only [aV]at h2)
   have hi:i=t.kids.length:=by omega
   rw [List.drop_of_length_le (by omega)]at n4;have n9:=n4.done;refine bn (ae (ae (aa (aj (ac J) J (aj (aq J) J (aj (ah fh J) J (aj (ak ni J J (ap (k:=0) J j9)) J (aj (am J J cW) J (ai (ar J (fun h3=> ?_) (fun h3=> ?_)))))))))))
   ·(try simp only [aV]at h3)
    have hq:rk= .err x.er:=by
     rcases n9 with⟨sx,vox,hx1,_,_,_⟩|⟨_,hq⟩
     ·rw [hx1]at h3;exact absurd J h3
     ·exact hq
    subst hq;refine ae (aa (aj (ag J) J (ai (aw (aG (0,x) (.inr ⟨h3,(Option.some.inj hr).symm⟩) J (bx (aH J)) J [0,1] [] J J J)))))
   ·(try simp only [aV]at h3)
    clear n4;obtain⟨sx,vox,rfl,n5,n4,hq⟩:∃sx vox,x=xS e sx vox∧RkE e sx∧(∀a∈acc,oW a)∧rk= .ok acc sx:=by
     rcases n9 with h|⟨hq,_⟩
     ·exact h
     ·exact absurd h3 hq
    subst hq;dsimp only at hr;have h7:=jA n4 0;refine az (ae (ae (aa (aj (ah ix J) J (aj (ak t3 J J (ap (k:=5) J J)) J (ai (aB (ae (aa (aj (am J J aS) J (aj (ag J) J (ai (ar J (fun h4=> ?_) (fun h4=> ?_))))))))))))))
    ·have q1:t.kind=1:=of_decide_eq_true h4;rw [if_pos q1]at hr;refine ae (aa (aj (ah ua J) J (aj (ak cr J J (ap (k:=5) J J)) J (aj (ag J) J (ai (aw (aG (t.n,xS e sx vox) (.inl ⟨_,vox,(Option.some.inj hr).symm,J⟩) J (bx (aH J)) J [0,1] [] J J J)))))))
    ·have q1:¬t.kind=1:=of_decide_eq_false h4;rw [if_neg q1]at hr;refine ae (aa (aj (am J J aS) J (aj (ag J) J (ai (ar J (fun h5=> ?_) (fun h5=> ?_))))))
     ·have q2:t.kind=2:=of_decide_eq_true h5;rw [if_pos q2]at hr;refine ae (aa (aj (ac J) J (aj (ah cN J) J (aj (ak t9 J J (ap (k:=5) J J)) J (aQ 1 11 J zt (aQ 2 12 J zt (au (xs:= [.tmp 46,.tmp 48]) (BB b vN vV (d:Int) false 0 fr hfrl t.name) NL [] [(false,0),(false,11),(false,12)] [] J J J J J J J J (fun _ _=>J) (fun _ _ _=>J) J (fun _ _=>aj (ag J) J (ai (aw (aG (gE vs t.name,xS e sx vox) (.inl ⟨_,vox,(Option.some.inj hr).symm,J⟩) J (bx (aH J)) (by rw [hfr t.name]) [0,1] [] J J J)))))))))))
     ·have q2:¬t.kind=2:=of_decide_eq_false h5;rw [if_neg q2]at hr;refine ae (aa (aj (am J J aS) J (aj (ag J) J (ai (ar J (fun h6=> ?_) (fun h6=> ?_))))))
      ·have q4:t.kind=4:=of_decide_eq_true h6;rw [if_pos q4]at hr;have hm1:=Ln ht q4;refine ae (bA [52,53,54,55,56,57,58,59,60,6] _ J (be (V:= [(0,52,_),(1,53,_),(2,54,_),(3,55,_),(4,56,_),(5,57,_),(6,58,_),(7,59,_),(8,60,_),(9,6,_)]) [0,1,2,3,4,5,6,7,8,9] J J (ad (aD J (ac J)) (ad (aD J (ac J)) (ad (aD J (aN (j:=0) Tryz.underlying48 cr J J (bj (k:=90) J) J (by omega))) (ad (aD J (ak cr J J (bv (bj (k:=90) J) (by intro _;rfl) (mU 0 (by omega)) (by rfl)))) (ad (aD J (am J J (fV (by decide) (pG h7)))) (ad (aD J (aq J)) (ad (aD J (ah ub J)) (ad (aD J (cG (j:=(acc.getD 0 0%256).toNat) Tryz.underlying202 cr J J (by omega) (by omega))) (ad (aD J (ak cr J J (ap (k:=0) J (by rw [Nat.mul_one];exact Jm (by omega))))) (ad (aD J (ag J)) ay)))))))))) J J J (aw (aG (sx.mem (acc.getD 0 0%256).toNat,xS e sx vox) (.inl ⟨_,vox,(Option.some.inj hr).symm,J⟩) J (bx (aH J)) J [0,1] [] J J J))))
      ·have q4:¬t.kind=4:=of_decide_eq_false h6;rw [if_neg q4]at hr;refine ae (aa (aj (am J J aS) J (aj (ag J) J (ai (ar J (fun h7=> ?_) (fun h7=> ?_))))))
       ·have q5:t.kind=5:=of_decide_eq_true h7;rw [if_pos q5]at hr;refine aQ 5 9 J (GK n5.i) (ae (aa (aj (ag J) J (ai (ae (ae (aa (aj (ac J) J (aj (aq J) J (aj (ah o_ J) J (aj (ak oz J J (ap (k:=0) J J)) J (aj (aO Tryz.underlying48 J (aK (k:=9) J)) J (aj (am J J dL) J ?_)))))))))))));refine ai (ar J (fun h8=> ?_) (fun h8=> ?_))
        ·(try simp only [aV]at h8)
         obtain⟨a,rest,qi⟩:∃a rest,sx.inp=a::rest:=by
          cases h:sx.inp with
          | nil=>rw [h]at h8;simp at h8
          | cons a r=>exact⟨a,r,rfl⟩
         rw [qi]at hr;refine ae (aa (aj (ac J) J (aj (aq J) J (aj (ah o_ J) J (aj (ak oz J J (ap (k:=0) J J)) J (aj (aN (j:=0) Tryz.underlying48 cr J J (aK (k:=9) J) J (by rw [qi];simp)) J ?_))))));refine aj (ak cr J J (bv (aK (k:=9) J) (by intro _;rfl) (show sx.inp[0]?=some a by rw [qi];rfl) (by rfl))) J ?_;refine aj (ag J) J (ai (aa (aj (ac J) J (aj (ac J) J (aj (aq J) J (aj (ah o_ J) J (aj (ak oz J J (ap (k:=0) J J)) J (aj (xI (j:=1) Tryz.underlying48 cr J J (aK (k:=9) J) J (by rw [qi];simp)) J (aj (aq J) J (aj (ah o_ J) J (aI (k:=0) oz J J J J J J J Ca ?_)))))))))));refine dv (k:=0) (A':=aY e.m 204 (j8 e (xS e {sx with inp:=rest} vox))) J (fun _ _ h=>by rw [←LV n5.i qi];exact h) ?_;refine ai (ae (aa (aj (ac J) J (aj (ag J) J (ai (aw (aG (a,xS e {sx with inp:=rest} vox) (.inl ⟨_,vox,(Option.some.inj hr).symm,J⟩) J (bx (aH J)) J [0,1] [] J J J)))))))
        ·(try simp only [aV]at h8)
         have qi:sx.inp= []:=List.eq_nil_of_length_eq_zero (by omega);rw [qi]at hr;refine az (ae (aa (aj (ac J) J (aj (ag J) J (ai (aw (aG (0,xS e sx vox) (.inl ⟨_,vox,(Option.some.inj hr).symm,J⟩) J (bx (aH J)) J [0,1] [] J J J)))))))
       ·have q5:¬t.kind=5:=of_decide_eq_false h7;rw [if_neg q5]at hr;refine ae (aa (aj (am J J aS) J (aj (ag J) J (ai (ar J (fun h9=> ?_) (fun h9=> ?_))))))
        ·have q6:t.kind=6:=of_decide_eq_true h9;rw [if_pos q6]at hr;obtain⟨hu0,hu1⟩:=OP ht q6;obtain⟨u,hu⟩:=Option.isSome_iff_exists.1 (hu1 (acc.getD 0 0));rw [hu]at hr;have hun:=u4 t.name (acc.getD 0 0) (jA n4 0);rw [hu,y6]at hun;refine ae (bA [86,87,88,89,90,91,92,6] _ J (aZ (V:= [(0,86,_),(1,87,_),(2,88,_),(3,89,_),(4,90,_)]) [0,1,2,3,4] 5 [5,4,3,2,1,0] [6,7] (fun _=> [(6,92,_),(7,6,_)]) J J (ad (aD J (ah cN J)) (ad (aD J (ak t9 J J (ap (k:=5) J J))) (ad (aD J (ac J)) (ad (aD J (aN (j:=0) Tryz.underlying48 cr J J (bj (k:=90) J) J (by omega))) (ad (aD J (ak cr J J (bv (bj (k:=90) J) (by intro _;rfl) (mU 0 (by omega)) (by rfl)))) ay))))) J J J J J J J J J J J (fun _ _=>J) J (bh (xs:= [.tmp 87,.tmp 90]) hun NK [] [] [] J J J J J J J J (fun _ _=>J) (fun _ _ _=>J)) (fun _ _=>be [6,7] J J (ad (aD J (mE z7 cr J J)) (ad (aD J (ag J)) ay)) J J J (aw (aG (u,xS e sx vox) (.inl ⟨_,vox,(Option.some.inj hr).symm,J⟩) J (bx (aH J)) J [0,1] [] J J J)))))
        ·have q6:¬t.kind=6:=of_decide_eq_false h9;rw [if_neg q6]at hr;refine ae (aa (aj (am J J aS) J (aj (ag J) J (ai (ar J (fun h10=> ?_) (fun h10=> ?_))))))
         ·have q7:t.kind=7:=of_decide_eq_true h10;rw [if_pos q7]at hr;obtain⟨hu0,hu1⟩:=OQ ht q7;obtain⟨u,hu⟩:=Option.isSome_iff_exists.1 (hu1 (acc.getD 0 0) (acc.getD 1 0));rw [hu]at hr;have hun:=tu t.name (acc.getD 0 0) (acc.getD 1 0) (jA n4 0) (jA n4 1);rw [hu,y6]at hun;refine ae ?_;refine bA [95,96,97,98,99,100,101,102,103,104,6] _ J (aZ (V:= [(0,95,_),(1,96,_),(2,97,_),(3,98,_),(4,99,_),(5,100,_),(6,101,_),(7,102,_)]) [0,1,2,3,4,5,6,7] 8 [8,7,6,5,4,3,2,1,0] [9,10] (fun _=> [(9,104,_),(10,6,_)]) J J (ad (aD J (ah cN J)) (ad (aD J (ak t9 J J (ap (k:=5) J J))) (ad (aD J (ac J)) (ad (aD J (aN (j:=0) Tryz.underlying48 cr J J (bj (k:=90) J) J (by omega))) (ad (aD J (ak cr J J (bv (bj (k:=90) J) (by intro _;rfl) (mU 0 (by omega)) (by rfl)))) (ad (aD J (ac J)) (ad (aD J (aN (j:=1) Tryz.underlying48 cr J J (bj (k:=90) J) J (by omega))) (ad (aD J (ak cr J J (bv (bj (k:=90) J) (by intro _;rfl) (mU 0 (by omega)) (by rfl)))) ay)))))))) J J J J J J J J J J J (fun _ _=>J) J (bh (xs:= [.tmp 96,.tmp 99,.tmp 102]) hun NJ [] [] [] J J J J J J J J (fun _ _=>J) (fun _ _ _=>J)) (fun _ _=>be [9,10] J J (ad (aD J (mE z7 cr J J)) (ad (aD J (ag J)) ay)) J J J ?_));refine aw (aG (u,xS e sx vox) (.inl ⟨_,vox,(Option.some.inj hr).symm,J⟩) J (bx (aH J)) J [0,1] [] J J J)
         ·have q7:¬t.kind=7:=of_decide_eq_false h10;rw [if_neg q7]at hr;obtain⟨f,hff,hfl2⟩:=AP ht q1 q2 q4 q5 q6 q7;rw [hff]at hr;refine bW 90 91 J br (az (ae (bA [105,106,107,108,109,110,111,112,113,114,6] _ J (aZ (V:= [(0,105,_),(1,106,_),(2,107,_),(3,108,_),(4,109,_),(5,110,_),(6,111,_),(7,112,_),(8,113,_)]) [0,1,2,3,4,5,6,7,8] 9 [9,8,7,6,5,4,3,2,1,0] [10] (fun y=> [(10,6,_)]) J J (ad (aD J (ac J)) (ad (aD J (ah cN J)) (ad (aD J (ak t9 J J (ap (k:=5) J J))) (ad (aD J (ac J)) (ad (aD J (ac J)) (ad (aD J (aq J)) (ad (aD J (ah Hi J)) (ad (aD J (ak t3 J J (cz (k:=0) J J))) (ad (aD J (am J J (aX (by first|exact aU (by omega) (by omega)|rfl)))) ay))))))))) J J J J J J J J J J J (fun _ _=>J) J (bh (xs:= [.tmp 105,.tmp 107,.tmp 108,.tmp 113]) (ihC g (Nat.le_refl g) t.name f d va acc sx vox r hff (by omega) n4 hd n5 hr) I_ [0,1] [(false,91),(false,4),(false,5)] [0,1] J J J J J J J J (fun _ _=>J) (fun _ _ _=>J)) (fun y hy=>be [10] J J (ad (aD J (ag J)) ay) J J J (aw (aG y hy J (bx (aH J)) J [0,1] [] J J J)))))))
theorem Fm{e:Rn}:Lt e 0:=fun t d b vN vV fr vs x r ht hd hv hf hn h=>by
 rcases h with⟨s,vo,_,_,h⟩|⟨h1,h2⟩
 ·simp [d_]at h
 ·exact H_ e t d b vN vV fr vs x r h1 h2 ht hd hv hf hn
theorem Fp{e:Rn}{g:Nat}(hF:VF e.fs)(hfu1: -1000000000000000000≤e.fu)(hfu2:e.fu≤1000000000000000000)(hfl:e.fs.length≤1000000)(ihX:∀k,k≤g→Lt e k)(ihC:∀k,k≤g→O9 e k):Lt e (g+1):=fun t d b vN vV fr vs x r ht hd hv hf hn h=>by
 rcases h with⟨s,vo,h1,h2,h3⟩|⟨h1,h2⟩
 ·subst h1;by_cases hfu:s.fuel≤0
  ·exact LZ e t d b vN vV fr vs g s vo r h3 hfu ht hd hv hf hn
  ·exact LY e g hF hfu1 hfu2 hfl ihX ihC t d b vN vV fr vs s vo r h2 h3 hfu ht hd hv hf hn
 ·exact H_ e t d b vN vV fr vs x r h1 h2 ht hd hv hf hn
theorem AN{α:Type}{p:α→Bool}{l:List α}{u:α}(hm:u∈l)(h:p u=true):l.any p=true:=List.any_eq_true.2 ⟨u,hm,h⟩
def eQ(p:SV×List ByteArray):List Value:= [sv p.1]
def DA(v:SV)(l:List (SV×List ByteArray)):Asn:=⟨fun w F=>SlIn' w F 1 eQ (sv v) l∧∀p∈l,SlIn' w F 1 eS (sv p.1) p.2,fun h hs=>⟨h.1.stable hs,fun p hp=>(h.2 p hp).stable hs⟩⟩
theorem Dy{v:SV}{l:List (SV×List ByteArray)}:∀w G,(DA v l).pred w G→(∀b,G b→b<w.heap.size)→∃G',(sl 1 eQ (sv v) l).pred w G'∧∀b,G' b→G b:=fun w G h _=>h.1
theorem Dz{v:SV}{l:List (SV×List ByteArray)}{p:SV×List ByteArray}(hp:p∈l):∀w G,(DA v l).pred w G→(∀b,G b→b<w.heap.size)→∃G',(sl 1 eS (sv p.1) p.2).pred w G'∧∀b,G' b→G b:=fun w G h _=>h.2 p hp
abbrev LJ(a b c d e f g h:SV):List (SV×List ByteArray):= [(a,[iH]),(b,[d6]),(c,[dW]),(d,[lm,lg]),(e,[jZ,lh,li,l9]),(f,[fe,fy]),(g,[eG,dw]),(h,[ff,iV,jt])]
theorem Kl{v a b c d e f g h:SV}(w:World)(F:Nat→Prop)(hh:AllIn w F [own 9 1 eS (sv a) [iH],own 9 1 eS (sv b) [d6],own 9 1 eS (sv c) [dW],own 9 1 eS (sv d) [lm,lg],own 9 1 eS (sv e) [jZ,lh,li,l9],own 9 1 eS (sv f) [fe,fy],own 9 1 eS (sv g) [eG,dw],own 9 1 eS (sv h) [ff,iV,jt],own 46 1 eQ (sv v) (LJ a b c d e f g h)]):(DA v (LJ a b c d e f g h)).pred w F:=by
 obtain⟨⟨_,a1,b1⟩,⟨_,a2,b2⟩,⟨_,a3,b3⟩,⟨_,a4,b4⟩,⟨_,a5,b5⟩,⟨_,a6,b6⟩,⟨_,a7,b7⟩,⟨_,a8,b8⟩,⟨_,a9,b9⟩,_⟩:=hh;refine⟨cM a9 b9,fun p hp=> ?_⟩;simp only [LJ,List.mem_cons,List.not_mem_nil,or_false]at hp;rcases hp with rfl|rfl|rfl|rfl|rfl|rfl|rfl|rfl
 ·exact cM a1 b1
 ·exact cM a2 b2
 ·exact cM a3 b3
 ·exact cM a4 b4
 ·exact cM a5 b5
 ·exact cM a6 b6
 ·exact cM a7 b7
 ·exact cM a8 b8
theorem Kb{k:Int}{nm:ByteArray}{n:Nat}(h:k=6):oP k nm n=(((nm==⟨#[45]⟩) || (nm==⟨#[126]⟩) || (nm==⟨#[33]⟩))&&decide ((n:Int)=1)):=by
 rw [It h]
 congr 1
 simp only [bX,wN,List.any_cons,List.any_nil,Bool.or_false,bR,Bool.or_assoc];rfl
def Rs(t:Tx):Prop:=Spec Tryz.prog 137 [xV t] [] [bK t.v t.kids] (X:=Unit) (fun _=>True) (fun _=> .bool (rX t)) (fun _=> []) (fun _=> [])
theorem Mx{t:Tx}(h:oP t.kind t.name t.kids.length=false∨(t.kind≠1∧t.n≠0)):rX t=false:=by
 rw [zm];rcases h with h|⟨h1,h2⟩
 ·rw [h];rfl
 ·rw [decide_eq_false h1,decide_eq_false h2];simp
theorem JK{t u:Tx}(hu:u∈t.kids)(h:rX u=false):rX t=false:=by
 rw [zm,AN hu (by rw [h];rfl)];simp
theorem JJ{t:Tx}(h:oP t.kind t.name t.kids.length=true)(h2:t.kind=1∨t.n=0)(h3:t.kids.any (fun u=> !rX u)=false):rX t=true:=by
 rw [zm,h,h3];rcases h2 with h2|h2
 ·rw [decide_eq_true h2];rfl
 ·rw [decide_eq_true h2];simp
theorem wI{α:Type}{p:α→Bool}{l:List α}{i:Nat}{u:α}(h:l[i]?=some u):(l.take (i+1)).any p=((l.take i).any p || p u):=by
 rw [bM h];simp
theorem jx:
  Spec Tryz.prog 21 [] [] [] (X:=SV×List (SV×List ByteArray)) (fun x=>x.2.map (fun p=>p.2)=rlv) (fun x=>sv x.1) (fun x=> [DA x.1 x.2]) (fun _=> []):=by
 refine aF Tryz.func21 J Tryz.ntmps21 J fun w0 M H=>ae (aa (aj (ag J) J (ai (ae (aa (bq eS iH Tryz.underlying46 t9 J (by decide) (by decide) J J J J fun v1=>bq eS d6 Tryz.underlying46 t9 J (by decide) (by decide) J J J J fun v2=>bq eS dW Tryz.underlying46 t9 J (by decide) (by decide) J J J J fun v3=>cu eS [lm,lg] (parts:= [(0,.const (.string (ByteArray.mk #[61,61]))),(1,.const (.string (ByteArray.mk #[33,61])))]) Tryz.underlying46 t9 J (by decide) (by intro _;rfl) J (by decide) (by decide) J J J J fun v4=>cu eS [jZ,lh,li,l9] (parts:= [(0,.const (.string (ByteArray.mk #[60]))),(1,.const (.string (ByteArray.mk #[60,61]))),(2,.const (.string (ByteArray.mk #[62]))),(3,.const (.string (ByteArray.mk #[62,61])))]) Tryz.underlying46 t9 J (by decide) (by intro _;rfl) J (by decide) (by decide) J J J J fun v5=>cu eS [fe,fy] (parts:= [(0,.const (.string (ByteArray.mk #[60,60]))),(1,.const (.string (ByteArray.mk #[62,62])))]) Tryz.underlying46 t9 J (by decide) (by intro _;rfl) J (by decide) (by decide) J J J J fun v6=>cu eS [eG,dw] (parts:= [(0,.const (.string (ByteArray.mk #[43]))),(1,.const (.string (ByteArray.mk #[45])))]) Tryz.underlying46 t9 J (by decide) (by intro _;rfl) J (by decide) (by decide) J J J J fun v7=> ?_))))))
 refine cu eS [ff,iV,jt] (parts:= [(0,.const (.string (ByteArray.mk #[42]))),(1,.const (.string (ByteArray.mk #[47]))),(2,.const (.string (ByteArray.mk #[37])))]) Tryz.underlying46 t9 J (by decide) (by intro _;rfl) J (by decide) (by decide) J J J J fun v8=>cu eQ (LJ v1 v2 v3 v4 v5 v6 v7 v8) (parts:= [(0,.tmp 1),(1,.tmp 2),(2,.tmp 3),(3,.tmp 4),(4,.tmp 5),(5,.tmp 6),(6,.tmp 7),(7,.tmp 8)]) Tryz.underlying44 gm J (by decide) (by intro _;rfl) J (by decide) (by decide) J J J J fun v9=>aj (ag J) J (ai (aw (bI 60 [1,2,3,4,5,6,7,8,9] (C:=DA v9 (LJ v1 v2 v3 v4 v5 v6 v7 v8)) J Kl (aG (v9,LJ v1 v2 v3 v4 v5 v6 v7 v8) J J (bx (aH J)) J [60] [] J J J))))
theorem Bj(s:ByteArray):
  Spec Tryz.prog 173 [.string s] [] [] (X:=Int) (fun r=>decide (r≥0)=gw s) (fun r=> .int .i64 r) (fun _=> []) (fun _=> []):=by
 refine aF Tryz.func173 J Tryz.ntmps173 J fun w0 M H=>ae (aa (aj (ag J) J (ai (ae (aa (au (xs:= []) jx Lc [] [] [60] J J J J J J J J (fun _ _=>J) (fun _ _ _=>J) J (fun⟨v6,ls⟩ hls=> ?_)))))))
 dsimp only at hls ⊢;have hll:ls.length=8:=by have h:=congrArg List.length hls;rw [List.length_map]at h;exact h
 have hbin:gw s=ls.any fun p=>bX s p.2:=by rw [←F8,←hls,List.any_map];rfl
 refine bW 60 20 J (fun _ _ h=>h) (aQ 20 21 J Dy (aj (ag J) J (ai (ae (ae (aa (aj (ag J) J (ai (aB (bk (X:=Nat) (fun i=>i≤ls.length∧((ls.take i).any fun p=>bX s p.2)=false) (fun i=> [(0,.string s),(3,sv v6),(4,.int .i64 (i:Int))]) (fun i=> []) (fun i=> [(20,DA v6 ls),(21,sl 1 eQ (sv v6) ls)]) (fun i=>ls.length-i) 0 ⟨Nat.zero_le _,J⟩ J J J (fun i hx0=> ?_)))))))))));obtain⟨n1,n2⟩:=hx0;refine ae (ae (aa (aj (ac J) J (aj (ac J) J (aj (aO Tryz.underlying44 J (aK (k:=21) J)) J (aj (am J J b_) J (ai (ar J (fun h1=> ?_) (fun h1=> ?_)))))))))
 ·(try simp only [aV]at h1)
  have hi:i<ls.length:=by omega
  obtain⟨p,hx⟩:∃k,ls[i]?=some k:=⟨_,List.getElem?_eq_getElem hi⟩
  have hpm:=List.mem_of_getElem? hx;have hpl:p.2.length≤1000000:=by
   have h:p.2∈rlv:=by rw [←hls];exact List.mem_map_of_mem hpm
   simp only [rlv,List.mem_cons,List.not_mem_nil,or_false]at h;rcases h with h|h|h|h|h|h|h|h<;>rw [h]<;>decide
  refine az (ae (aB (ae (aa (aj (ac J) J (aj (ac J) J (aj (ac J) J (aj (aN (j:=i) Tryz.underlying44 gm J J (aK (k:=21) J) (by first|rfl|omega) (by first|omega|(simp;done)|(simp;omega))) J (aj (ak gm J J (bv (aK (k:=21) J) (by intro _;rfl) hx (by rfl))) J (aQ 20 22 J (Dz hpm) (au (xs:= [.tmp 13,.tmp 17]) (jN s p.1 p.2 hpl) yJ [] [(false,22)] [] J J J J J J J J (fun _ _=>J) (fun _ _ _=>J) J (fun _ _=>aj (ag J) J (ai ?_)))))))))))));refine ae (aa (aj (ac J) J (ai (ar J (fun h2=> ?_) (fun h2=> ?_)))))
  ·have hct:bX s p.2=true:=h2;refine ae (aa (aj (ac J) J (aj (ag J) J (ai (aw (aG (i:Int) (by rw [hbin,AN (p:=fun p=>bX s p.2) hpm hct];exact decide_eq_true (by omega)) J (bx (aH J)) J [] [] J J J))))))
  ·have hcf:bX s p.2=false:=h2;refine az (aa (aj (ac J) J (aj (am J J (aX (by first|exact aU (by omega) (by omega)|rfl))) J (aj (ag J) J (ai ?_)))));refine aL (i+1) ⟨⟨by omega,by rw [wI hx,n2,hcf];rfl⟩,by omega⟩ J J J
 ·(try simp only [aV]at h1)
  have hi:i=ls.length:=by omega
  subst hi;rw [List.take_length]at n2;refine bn (ae (aa (aj (ag J) J (ai (aw (aG (-1) (by rw [hbin,n2];rfl) J (bx (aH J)) J [] [] J J J))))))
theorem CO(t:Tx)(hkl:t.kids.length≤1000000)(ih:∀u∈t.kids,Rs u):
  Spec Tryz.prog 137 [xV t] [] [bK t.v t.kids] (X:=Unit) (fun _=>True) (fun _=> .bool (rX t)) (fun _=> []) (fun _=> []):=by
 refine aF Tryz.func137 J Tryz.ntmps137 J fun w0 M H=>aQ 0 1 J eL (ae (aa (bN J J fun b1=>aj (ag J) J (ai (ae (aa (aj (ah cN J) J (aj (ak t9 J J (ap (k:=1) J J)) J (au (xs:= [.tmp 9]) (iM t.name) AH [] [] [] J J J J J J J J (fun _ _=>J) (fun _ _ _=>J) J (fun _ _=>aj (ag J) J (ai ?_)))))))))))
 refine ae (aa (aj (ah cU J) J (aj (ak ic J J (ap (k:=1) J J)) J (aj (aO Tryz.underlying59 J (aK (k:=1) J)) J (aj (ag J) J (ai (ae (aa (aj (ag J) J (ai (bi (X:=Unit) (fun _=>True) (fun _=> [(1,.pointer (some ⟨b1,0,none⟩)),(4,.int .i64 (t.kids.length:Int)),(5,.bool (oP t.kind t.name t.kids.length))]) (fun _=> [(1,aY b1 61 (df t))]) (fun _=> [(0,bK t.v t.kids),(1,sl 4 df (sv t.v) t.kids)]) ?_ (fun _ _=> ?_))))))))))))
 ·refine ae (aa (aj (ah ix J) J (aj (ak t3 J J (ap (k:=1) J J)) J (ai (aB (ae (aa (aj (am J J aS) J (aj (ag J) J (ai (ar J (fun h1=> ?_) (fun h1=> ?_))))))))))))
  ·have q1:t.kind=1:=of_decide_eq_true h1;refine aa (aj (ah cN J) J (aj (ak t9 J J (ap (k:=1) J J)) J (aj (am J J ci) J (aj (ac J) J (aA [] J J trivial (fun hg2=>ac J) J (aA [(22,_)] J J ⟨J,trivial⟩ (fun hg3=>am J J aS) J (aj (aM J J J (by first|exact ax|exact aC|rfl)) J (aj (ag J) J (ai (aL () trivial (by rw [zz (.inl q1)];rfl) J J))))))))))
  ·have q1:¬t.kind=1:=of_decide_eq_false h1;refine ae (aa (aj (am J J aS) J (aj (ag J) J (ai (ar J (fun h4=> ?_) (fun h4=> ?_))))))
   ·have q2:t.kind=2:=of_decide_eq_true h4;refine aa (aj (ac J) J (aj (ac J) J (aA [] J J trivial (fun hg5=>ac J) J (aA [(29,_)] J J ⟨J,trivial⟩ (fun hg6=>am J J aS) J (aj (aM J J J (by first|exact ax|exact aC|rfl)) J (aj (ag J) J (ai (aL () trivial (by rw [Iw q2];rfl) J J))))))))
   ·have q2:¬t.kind=2:=of_decide_eq_false h4;refine ae (aa (aj (am J J aS) J (aj (ag J) J (ai (ar J (fun h7=> ?_) (fun h7=> ?_))))))
    ·have q3:t.kind=3:=of_decide_eq_true h7;refine aa (aj (ac J) J (aj (ag J) J (ai (aL () trivial (by rw [Iv q3];rfl) J J))))
    ·have q3:¬t.kind=3:=of_decide_eq_false h7;refine ae (aa (aj (am J J aS) J (aj (ag J) J (ai (ar J (fun h8=> ?_) (fun h8=> ?_))))))
     ·have q4:t.kind=4:=of_decide_eq_true h8;refine aa (aj (ah cN J) J (aj (ak t9 J J (ap (k:=1) J J)) J (aj (am J J ci) J (aj (ac J) J (aA [] J J trivial (fun hg9=>ac J) J (aA [(41,_)] J J ⟨J,trivial⟩ (fun hg10=>am J J aS) J (aj (aM J J J (by first|exact ax|exact aC|rfl)) J (aj (ag J) J (ai (aL () trivial (by rw [Iu q4];rfl) J J))))))))))
     ·have q4:¬t.kind=4:=of_decide_eq_false h8;refine ae (aa (aj (am J J aS) J (aj (ag J) J (ai (ar J (fun h11=> ?_) (fun h11=> ?_))))))
      ·have q5:t.kind=5:=of_decide_eq_true h11;refine aa (aj (ah cN J) J (aj (ak t9 J J (ap (k:=1) J J)) J (aj (am J J ci) J (aj (ac J) J (aA [] J J trivial (fun hg12=>ac J) J (aA [(50,_)] J J ⟨J,trivial⟩ (fun hg13=>am J J aS) J (aj (aM J J J (by first|exact ax|exact aC|rfl)) J (aj (ag J) J (ai (aL () trivial (by rw [zz (.inr q5)];rfl) J J))))))))))
      ·have q5:¬t.kind=5:=of_decide_eq_false h11;refine ae (aa (aj (am J J aS) J (aj (ag J) J (ai (ar J (fun h14=> ?_) (fun h14=> ?_))))))
       ·have q6:t.kind=6:=of_decide_eq_true h14;refine aa (aj (ah cN J) J (aj (ak t9 J J (ap (k:=1) J J)) J (aj (am J J ci) J (aj (ac J) J (aA [] J J trivial (fun hg15=>ah cN J) J (aA [(59,_)] J J ⟨J,trivial⟩ (fun hg16=>ak t9 J J (ap (k:=1) J J)) J (aA [(59,_),(60,_)] J J ⟨J,J,trivial⟩ (fun hg17=>am J J ci) J (aj (aM J J J (by first|exact ax|exact aC|rfl)) J (aj (ac J) J (aA [] J J trivial (fun hg18=>ah cN J) J (aA [(64,_)] J J ⟨J,trivial⟩ (fun hg19=>ak t9 J J (ap (k:=1) J J)) J (aA [(64,_),(65,_)] J J ⟨J,J,trivial⟩ (fun hg20=>am J J ci) J (aj (aM J J J (by first|exact ax|exact aC|rfl)) J ?_)))))))))))));refine aj (ac J) J (aA [] J J trivial (fun hg21=>ac J) J (aA [(69,_)] J J ⟨J,trivial⟩ (fun hg22=>am J J aS) J (aj (aM J J J (by first|exact ax|exact aC|rfl)) J (aj (ag J) J (ai (aL () trivial (by rw [Kb q6];rfl) J J))))))
       ·have q6:¬t.kind=6:=of_decide_eq_false h14;refine ae (aa (aj (am J J aS) J (aj (ag J) J (ai (ar J (fun h23=> ?_) (fun h23=> ?_))))))
        ·have q7:t.kind=7:=of_decide_eq_true h23;refine aa (aj (ah cN J) J (aj (ak t9 J J (ap (k:=1) J J)) J (au (xs:= [.tmp 75]) (Bj t.name) N2 [] [] [] J J J J J J J J (fun _ _=>J) (fun _ _ _=>J) J (fun r hr=>aj (am J J eV) J (aj (ac J) J (aA [] J J trivial (fun hg24=>ac J) J (aA [(79,_)] J J ⟨J,trivial⟩ (fun hg25=>am J J aS) J (aj (aM J J J (by first|exact ax|exact aC|rfl)) J (aj (ag J) J (ai (aL () trivial (by rw [Ir q7,←hr];rfl) J J)))))))))))
        ·have q7:¬t.kind=7:=of_decide_eq_false h23;refine az (aL () trivial (by rw [Ix q1 q5 q2 q3 q4 q6 q7];rfl) J J)
 ·refine ae (ae (aa (aj (ac J) J (aj (bZ J) J (aj (ac J) J (aA [] J J trivial (fun hg26=>ah ix J) J (aA [(85,_)] J J ⟨J,trivial⟩ (fun hg27=>ak t3 J J (ap (k:=1) J J)) J (aA [(85,_),(86,_)] J J ⟨J,J,trivial⟩ (fun hg28=>am J J cW) J (aA [(85,_),(86,_),(87,_)] J J ⟨J,J,J,trivial⟩ (fun hg29=>ac J) J (ch [] [(85,_),(86,_),(87,_),(88,_)] J J trivial ⟨J,J,J,J,trivial⟩ (fun hg30 hg30'=>ah ua J) J (ch [(89,_)] [(85,_),(86,_),(87,_),(88,_)] J J ⟨J,trivial⟩ ⟨J,J,J,J,trivial⟩ (fun hg31 hg31'=>ak cr J J (ap (k:=1) J J)) J (ch [(89,_),(90,_)] [(85,_),(86,_),(87,_),(88,_)] J J ⟨J,J,trivial⟩ ⟨J,J,J,J,trivial⟩ (fun hg32 hg32'=>am J J cW) J (aA [(85,_),(86,_),(87,_),(88,_)] J J ⟨J,J,J,J,trivial⟩ (fun hg33=>aM J J J (by first|exact ax|exact aC|exact co hg33|exact cO hg33|rfl)) J ?_)))))))))))));refine aj (aM J J J (by first|exact ax|exact aC|rfl)) J (ai (ar J (fun h34=> ?_) (fun h34=> ?_)))
  ·(try simp only [aV]at h34)
   have qc:=h34;refine ae (aa (aj (ag J) J (ai (aw (aG () trivial J (bx (aH J)) (congrArg Value.bool (Mx qc).symm) [] [] J J J)))))
  ·(try simp only [aV]at h34)
   have qc:=h34;refine az (ae (ae (aa (aj (ag J) J (ai (aB (bk (X:=Nat) (fun i=>i≤t.kids.length∧((t.kids.take i).any fun u=> !rX u)=false) (fun i=> [(1,.pointer (some ⟨b1,0,none⟩)),(4,.int .i64 (t.kids.length:Int)),(6,.int .i64 (i:Int))]) (fun i=> [(1,aY b1 61 (df t))]) (fun i=> [(0,bK t.v t.kids),(1,sl 4 df (sv t.v) t.kids)]) (fun i=>t.kids.length-i) 0 ⟨Nat.zero_le _,J⟩ J J J (fun i hx0=> ?_))))))));obtain⟨n1,n2⟩:=hx0;refine ae (ae (aa (aj (ac J) J (aj (ac J) J (aj (am J J b_) J (ai (ar J (fun h35=> ?_) (fun h35=> ?_))))))))
   ·(try simp only [aV]at h35)
    have hi:i<t.kids.length:=by omega
    obtain⟨u,hu⟩:∃u,t.kids[i]?=some u:=⟨_,List.getElem?_eq_getElem hi⟩
    have hum:=List.mem_of_getElem? hu;refine az (ae (aB (ae (aa (aj (ah cU J) J (aj (ak ic J J (ap (k:=1) J J)) J (aj (ac J) J (aj (aN (j:=i) Tryz.underlying59 cg J J (aK (k:=1) J) (by first|rfl|omega) (by first|omega|(simp;done)|(simp;omega))) J (aj (aJ cg J J J (bv (aK (k:=1) J) (by intro _;rfl) hu (by rfl))) J (aQ 0 7 J (cH hum) (au (xs:= [.tmp 103]) (ih u hum) I4 [] [(false,7)] [] J J J J J J J J (fun _ _=>J) (fun _ _ _=>J) J (fun _ _=>aj (ag J) J (ai ?_)))))))))))));refine ae (aa (aj (ac J) J (aj (bZ J) J (ai (ar J (fun h36=> ?_) (fun h36=> ?_))))))
    ·have hct:rX u=false:=by simpa using h36
     refine ae (aa (aj (ag J) J (ai (aw (aG () trivial J (bx (aH J)) (congrArg Value.bool (JK hum hct).symm) [] [] J J J)))))
    ·have hcf:rX u=true:=by simpa using h36
     refine az (aa (aj (ac J) J (aj (am J J (aX (by first|exact aU (by omega) (by omega)|rfl))) J (aj (ag J) J (ai ?_)))));refine aL (i+1) ⟨⟨by omega,by rw [wI hu,n2,hcf];rfl⟩,by omega⟩ J J J
   ·(try simp only [aV]at h35)
    have hi:i=t.kids.length:=by omega
    subst hi;rw [List.take_length]at n2;refine bn (ae (aa (aj (ag J) J (ai (aw (aG () trivial J (bx (aH J)) (congrArg Value.bool (JJ qc.1 qc.2 n2).symm) [] [] J J J))))))
theorem zg:∀(n:Nat)(t:Tx),SizeOf.sizeOf t<n→GX t→Rs t
 | 0,_,h,_=>absurd h (Nat.not_lt_zero _)
 | n+1,t,h,ht=>CO t (kE ht) fun u hu=>zg n u (by have:=ob hu;omega) ((iT ht).mem u hu)
theorem CQ(t:Tx)(ht:GX t):Rs t:=zg _ t (Nat.lt_succ_self _) ht
def O7(v:SV)(l:List Ty):Prop:=Spec Tryz.prog 103 [sv v] [] [bz v l] (X:=Unit) (fun _=>True) (fun _=> .bool (l.all rY)) (fun _=> []) (fun _=> [])
theorem na{α:Type}{p:α→Bool}{l:List α}{i:Nat}{u:α}(h:l[i]?=some u):(l.take (i+1)).all p=((l.take i).all p&&p u):=by
 rw [bM h];simp
theorem jO{α:Type}{p:α→Bool}{l:List α}{u:α}(hm:u∈l)(h:p u=false):l.all p=false:=by
 rw [Bool.eq_false_iff];intro h2;rw [List.all_eq_true]at h2;rw [h2 u hm]at h;cases h
theorem kn(t:Ty):rY t=(zy t.kind t.name t.es.length t.body.length t.els.length&&t.es.all rX&&t.body.all rY&&t.els.all rY):=by
 cases t;rw [rY,oM,jr,jr];rfl
theorem PP{t:Ty}(h:t.kind<1∨t.kind>8):rY t=false:=by
 rw [kn];unfold zy;rcases h with h|h
 ·rw [decide_eq_false (show ¬t.kind≥1 by omega)];rfl
 ·rw [decide_eq_false (show ¬t.kind≤8 by omega)];simp
theorem PO{t:Ty}(h:(((decide (t.kind=1) || decide (t.kind=2))&& !bS t.name) || (!(decide (t.kind=1) || decide (t.kind=2))&& !(t.name==⟨#[]⟩)) || !decide ((t.es.length:Int)=(if t.kind=3 then 2 else 1)))=true):rY t=false:=by
 rw [kn];unfold zy;by_cases hn:t.es.length=if t.kind=3 then 2 else 1
 ·have hn2:(t.es.length:Int)=if t.kind=3 then 2 else 1:=by
   rw [hn];split<;>rfl
  rw [decide_eq_true hn2]at h;by_cases hk:t.kind=1∨t.kind=2
  ·have hk2:(decide (t.kind=1) || decide (t.kind=2))=true:=by simpa using hk
   rw [hk2]at h;rw [if_pos hk];have h3:bS t.name=false:=by simpa using h
   rw [h3];simp
  ·have hk2:(decide (t.kind=1) || decide (t.kind=2))=false:=by simpa using hk
   rw [hk2]at h;rw [if_neg hk];have h3:(t.name==⟨#[]⟩)=false:=by simpa using h
   rw [bR]at h3;rw [show decide (t.name=oNil)=false from h3];simp
 ·rw [decide_eq_false hn];simp
theorem PT{t:Ty}(h:(!decide (t.kind=4)&&(decide ((t.els.length:Int)>0) || (!decide (t.kind=5)&&decide ((t.body.length:Int)>0))))=true):rY t=false:=by
 rw [kn];unfold zy;have h4:t.kind≠4:=by
  intro h4;rw [decide_eq_true h4]at h;simp at h
 rw [decide_eq_false h4];by_cases h5:t.els.length=0
 ·rw [h5]at h;by_cases h6:t.kind=5
  ·rw [decide_eq_true h6]at h;simp at h
  ·by_cases h7:t.body.length=0
   ·rw [h7]at h;simp at h
   ·rw [decide_eq_false h6,decide_eq_false h7];simp
 ·rw [decide_eq_false h5];simp
theorem PQ{t:Ty}{u:Tx}(hm:u∈t.es)(h:rX u=false):rY t=false:=by
 rw [kn,jO hm h];simp
theorem PN{t:Ty}(h:t.body.all rY=false∨t.els.all rY=false):rY t=false:=by
 rw [kn];rcases h with h|h<;>rw [h]<;>simp
theorem Mv{t:Ty}(h1:¬t.kind<1∧¬t.kind>8)(h2:(((decide (t.kind=1) || decide (t.kind=2))&& !bS t.name) || (!(decide (t.kind=1) || decide (t.kind=2))&& !(t.name==⟨#[]⟩)) || !decide ((t.es.length:Int)=(if t.kind=3 then 2 else 1)))=false)
  (h3:(!decide (t.kind=4)&&(decide ((t.els.length:Int)>0) || (!decide (t.kind=5)&&decide ((t.body.length:Int)>0))))=false) (h4:t.es.all rX=true) (h5:t.body.all rY=true∧t.els.all rY=true):rY t=true:=by
 rw [kn,h4,h5.1,h5.2];unfold zy;rw [decide_eq_true (show t.kind≥1 by omega),decide_eq_true (show t.kind≤8 by omega)];simp only [Bool.or_eq_false_iff]at h2;have hn:t.es.length=if t.kind=3 then 2 else 1:=by
  have h:=h2.2;simp only [Bool.not_eq_false',decide_eq_true_eq]at h;split at h<;>rename_i h6
  ·rw [if_pos h6];omega
  ·rw [if_neg h6];omega
 rw [decide_eq_true hn];have hnm:(if t.kind=1∨t.kind=2 then bS t.name else decide (t.name=oNil))=true:=by
  by_cases hk:t.kind=1∨t.kind=2
  ·have hk2:(decide (t.kind=1) || decide (t.kind=2))=true:=by simpa using hk
   have h:=h2.1.1;rw [hk2]at h;rw [if_pos hk];simpa using h
  ·have hk2:(decide (t.kind=1) || decide (t.kind=2))=false:=by simpa using hk
   have h:=h2.1.2;rw [hk2]at h;rw [if_neg hk];have h7:(t.name==⟨#[]⟩)=true:=by simpa using h
   rw [bR]at h7;exact h7
 rw [hnm];by_cases h8:t.kind=4
 ·rw [decide_eq_true h8];rfl
 ·rw [decide_eq_false h8]at h3;simp only [Bool.not_false,Bool.true_and,Bool.or_eq_false_iff]at h3;have h9:t.els.length=0:=by
   have h:=of_decide_eq_false h3.1;omega
  rw [decide_eq_true h9];by_cases h10:t.kind=5
  ·rw [decide_eq_true h10];simp
  ·have h:=h3.2;rw [decide_eq_false h10]at h;have h11:t.body.length=0:=by
    have h:=of_decide_eq_false (show decide ((t.body.length:Int)>0)=false by simpa using h);omega
   rw [decide_eq_true h11];simp
theorem CK(v:SV)(l:List Ty)(hl:l.length≤1000000)(hg:GYs l)(ih:∀u∈l,O7 u.vb u.body∧O7 u.vl u.els):
  Spec Tryz.prog 103 [sv v] [] [bz v l] (X:=Unit) (fun _=>True) (fun _=> .bool (l.all rY)) (fun _=> []) (fun _=> []):=by
 refine aF Tryz.func103 J Tryz.ntmps103 J fun w0 M H=>aQ 0 1 J fL (ae (aa (aj (ag J) J (ai (ae (ae (aa (aj (ag J) J (ai (aB (bk (X:=Nat) (fun i=>i≤l.length∧(l.take i).all rY=true) (fun i=> [(0,sv v),(3,.int .i64 (i:Int))]) (fun i=> []) (fun i=> [(0,bz v l),(1,sl 5 ec (sv v) l)]) (fun i=>l.length-i) 0 ⟨Nat.zero_le _,J⟩ J J J (fun i hx0=> ?_))))))))))))
 obtain⟨n1,n2⟩:=hx0;refine ae (ae (aa (aj (ac J) J (aj (ac J) J (aj (aO Tryz.underlying62 J (aK (k:=1) J)) J (aj (am J J b_) J (ai (ar J (fun h1=> ?_) (fun h1=> ?_)))))))))
 ·(try simp only [aV]at h1)
  have hi:i<l.length:=by omega
  obtain⟨st,hst⟩:∃k,l[i]?=some k:=⟨_,List.getElem?_eq_getElem hi⟩
  have hsm:=List.mem_of_getElem? hst;have hsg:=nh (hg.mem st hsm);refine aQ 0 7 J (jl hsm) (aQ 0 8 J (fv hsm) (aQ 0 9 J (gl hsm) (aQ 7 10 J eL (aQ 8 11 J fL (aQ 9 12 J fL (az (ae (aB (ae (aa (aj (ac J) J (aj (ac J) J (aj (aN (j:=i) Tryz.underlying62 dA J J (aK (k:=1) J) (by first|rfl|omega) (by first|omega|(simp;done)|(simp;omega))) J ?_)))))))))))));refine aj (aJ dA J J J (bv (aK (k:=1) J) (by intro _;rfl) hst (by rfl))) J (aT dA J J fun b4=>av (k:=4) dA J J J J J J (ai (ae (ae (aa (aj (ah dJ J) J (aj (ak t3 J J (ap (k:=4) J J)) J (aj (am J J b_) J (aj (ac J) J (aA [] J J trivial (fun hg2=>ah dJ J) J (aA [(26,_)] J J ⟨J,trivial⟩ (fun hg3=>ak t3 J J (ap (k:=4) J J)) J (aA [(26,_),(27,_)] J J ⟨J,J,trivial⟩ (fun hg4=>am J J dL) J ?_))))))))))));refine aj (aM J J J (by first|exact ax|exact aC|rfl)) J (ai (ar J (fun h5=> ?_) (fun h5=> ?_)))
  ·(try simp only [aV]at h5)
   have q2:=h5;refine ae (aa (aj (ag J) J (ai (aw (aG () trivial J (bx (aH J)) (congrArg Value.bool (jO hsm (PP q2)).symm) [] [] J J J)))))
  ·(try simp only [aV]at h5)
   have q2:=h5;refine az (ae (aa (aj (ah dJ J) J (aj (ak t3 J J (ap (k:=4) J J)) J (aj (am J J aS) J (aj (ac J) J (aA [] J J trivial (fun hg6=>ah dJ J) J (aA [(34,_)] J J ⟨J,trivial⟩ (fun hg7=>ak t3 J J (ap (k:=4) J J)) J (aA [(34,_),(35,_)] J J ⟨J,J,trivial⟩ (fun hg8=>am J J aS) J (aj (aM J J J (by first|exact ax|exact aC|rfl)) J (aj (ag J) J (ai (ae ?_)))))))))))));refine aa (aj (ah gg J) J (aj (ak t9 J J (ap (k:=4) J J)) J (au (xs:= [.tmp 39]) (iM st.name) AH [] [] [] J J J J J J J J (fun _ _=>J) (fun _ _ _=>J) J (fun _ _=>aj (ag J) J (ai (ae (aa (aj (ag J) J (ai (bi (X:=Unit) (fun _=>True) (fun _=> [(0,sv v),(3,.int .i64 (i:Int)),(4,.pointer (some ⟨b4,0,none⟩)),(5,.bool (decide (st.kind=1) || decide (st.kind=2))),(6,.bool (bS st.name)),(7,.int .i64 (if st.kind=3 then 2 else 1))]) (fun _=> [(4,aY b4 64 (ec st))]) (fun _=> [(0,bz v l),(1,sl 5 ec (sv v) l),(7,bK st.ve st.es),(8,bz st.vb st.body),(9,bz st.vl st.els),(10,sl 4 df (sv st.ve) st.es),(11,sl 5 ec (sv st.vb) st.body),(12,sl 5 ec (sv st.vl) st.els)]) ?_ (fun _ _=> ?_)))))))))))
   ·refine ae (aa (aj (ah dJ J) J (aj (ak t3 J J (ap (k:=4) J J)) J (aj (am J J aS) J (ai (ar J (fun h9=> ?_) (fun h9=> ?_)))))))
    ·have q3:st.kind=3:=of_decide_eq_true h9;refine aa (aj (ag J) J (ai (aL () trivial (by rw [if_pos q3];rfl) J J)))
    ·have q3:¬st.kind=3:=of_decide_eq_false h9;refine az (aL () trivial (by rw [if_neg q3];rfl) J J)
   ·refine ae (ae (aa (aj (ac J) J (aj (ac J) J (aA [] J J trivial (fun hg10=>ac J) J (aA [(46,_)] J J ⟨J,trivial⟩ (fun hg11=>bZ J) J (aj (aM J J J (by first|exact ax|exact aC|rfl)) J (aj (ac J) J (aA [] J J trivial (fun hg12=>ac J) J (aA [(50,_)] J J ⟨J,trivial⟩ (fun hg13=>bZ J) J (aA [(50,_),(51,_)] J J ⟨J,J,trivial⟩ (fun hg14=>ac J) J (ch [] [(50,_),(51,_),(52,_)] J J trivial ⟨J,J,J,trivial⟩ (fun hg15 hg15'=>ah gg J) J (ch [(53,_)] [(50,_),(51,_),(52,_)] J J ⟨J,trivial⟩ ⟨J,J,J,trivial⟩ (fun hg16 hg16'=>ak t9 J J (ap (k:=4) J J)) J ?_)))))))))))));refine ch [(53,_),(54,_)] [(50,_),(51,_),(52,_)] J J ⟨J,J,trivial⟩ ⟨J,J,J,trivial⟩ (fun hg17 hg17'=>am J J OG) J (aA [(50,_),(51,_),(52,_)] J J ⟨J,J,J,trivial⟩ (fun hg18=>aM J J J (by first|exact ax|exact aC|exact co hg18|exact cO hg18|rfl)) J (aj (aM J J J (by first|exact ax|exact aC|rfl)) J (aj (ac J) J (aA [] J J trivial (fun hg19=>ah eO J) J (aA [(59,_)] J J ⟨J,trivial⟩ (fun hg20=>ak ic J J (ap (k:=4) J J)) J (aA [(59,_),(60,_)] J J ⟨J,J,trivial⟩ (fun hg21=>aO Tryz.underlying59 J (aK (k:=10) J)) J (aA [(59,_),(60,_),(61,_)] J J ⟨J,J,J,trivial⟩ (fun hg22=>ac J) J (aA [(59,_),(60,_),(61,_),(62,_)] J J ⟨J,J,J,J,trivial⟩ (fun hg23=>am J J cW) J (aj (aM J J J (by first|exact ax|exact aC|rfl)) J (ai (ar J (fun h24=> ?_) (fun h24=> ?_))))))))))))
    ·have q4:=h24;refine ae (aa (aj (ag J) J (ai (aw (aG () trivial J (bx (aH J)) (congrArg Value.bool (jO hsm (PO q4)).symm) [] [] J J J)))))
    ·have q4:=h24;have hes:(st.es.length:Int)=if st.kind=3 then 2 else 1:=by
      have h:=(Bool.or_eq_false_iff.1 q4).2;simpa using h
     rw [←hes];refine az (ae (ae (aa (aj (ah dJ J) J (aj (ak t3 J J (ap (k:=4) J J)) J (aj (am J J cW) J (aj (ac J) J (aA [] J J trivial (fun hg25=>ah eg J) J (aA [(69,_)] J J ⟨J,trivial⟩ (fun hg26=>ak gZ J J (ap (k:=4) J J)) J (aA [(69,_),(70,_)] J J ⟨J,J,trivial⟩ (fun hg27=>aO Tryz.underlying62 J (aK (k:=12) J)) J (aA [(69,_),(70,_),(71,_)] J J ⟨J,J,J,trivial⟩ (fun hg28=>am J J dL) J (aA [(69,_),(70,_),(71,_),(72,_)] J J ⟨J,J,J,J,trivial⟩ (fun hg29=>ac J) J (ch [] [(69,_),(70,_),(71,_),(72,_),(73,_)] J J trivial ⟨J,J,J,J,J,trivial⟩ (fun hg30 hg30'=>ah dJ J) J ?_)))))))))))));refine ch [(74,_)] [(69,_),(70,_),(71,_),(72,_),(73,_)] J J ⟨J,trivial⟩ ⟨J,J,J,J,J,trivial⟩ (fun hg31 hg31'=>ak t3 J J (ap (k:=4) J J)) J (ch [(74,_),(75,_)] [(69,_),(70,_),(71,_),(72,_),(73,_)] J J ⟨J,J,trivial⟩ ⟨J,J,J,J,J,trivial⟩ (fun hg32 hg32'=>am J J cW) J (ch [(74,_),(75,_),(76,_)] [(69,_),(70,_),(71,_),(72,_),(73,_)] J J ⟨J,J,J,trivial⟩ ⟨J,J,J,J,J,trivial⟩ (fun hg33 hg33'=>ac J) J (ch [] [(74,_),(75,_),(76,_),(77,_)] J J trivial ⟨J,J,J,J,trivial⟩ (fun hg34 hg34'=>ah e9 J) J (ch [(78,_)] [(74,_),(75,_),(76,_),(77,_)] J J ⟨J,trivial⟩ ⟨J,J,J,J,trivial⟩ (fun hg35 hg35'=>ak gZ J J (ap (k:=4) J J)) J (ch [(78,_),(79,_)] [(74,_),(75,_),(76,_),(77,_)] J J ⟨J,J,trivial⟩ ⟨J,J,J,J,trivial⟩ (fun hg36 hg36'=>aO Tryz.underlying62 J (aK (k:=11) J)) J (ch [(78,_),(79,_),(80,_)] [(74,_),(75,_),(76,_),(77,_)] J J ⟨J,J,J,trivial⟩ ⟨J,J,J,J,trivial⟩ (fun hg37 hg37'=>am J J dL) J (ch [(74,_),(75,_),(76,_),(77,_)] [(69,_),(70,_),(71,_),(72,_),(73,_)] J J ⟨J,J,J,J,trivial⟩ ⟨J,J,J,J,J,trivial⟩ (fun hg38 hg38'=>aM J J J (by first|exact ax|exact aC|exact co hg38|exact cO hg38|exact co (AK hg38 hg38')|exact cO (AK hg38 hg38')|rfl)) J (aA [(69,_),(70,_),(71,_),(72,_),(73,_)] J J ⟨J,J,J,J,J,trivial⟩ (fun hg39=>aM J J J (by first|exact ax|exact aC|exact co hg39|exact cO hg39|rfl)) J (aj (aM J J J (by first|exact ax|exact aC|rfl)) J (ai (ar J (fun h40=> ?_) (fun h40=> ?_))))))))))))
     ·have q5:=h40;refine ae (aa (aj (ag J) J (ai (aw (aG () trivial J (bx (aH J)) (congrArg Value.bool (jO hsm (PT q5)).symm) [] [] J J J)))))
     ·have q5:=h40;refine az (ae (ae (aa (aj (ag J) J (ai (aB (bk (X:=Nat) (fun j=>j≤st.es.length∧(st.es.take j).all rX=true) (fun j=> [(0,sv v),(3,.int .i64 (i:Int)),(4,.pointer (some ⟨b4,0,none⟩)),(7,.int .i64 (st.es.length:Int)),(8,.int .i64 (j:Int))]) (fun j=> [(4,aY b4 64 (ec st))]) (fun j=> [(0,bz v l),(1,sl 5 ec (sv v) l),(7,bK st.ve st.es),(8,bz st.vb st.body),(9,bz st.vl st.els),(10,sl 4 df (sv st.ve) st.es),(11,sl 5 ec (sv st.vb) st.body),(12,sl 5 ec (sv st.vl) st.els)]) (fun j=>st.es.length-j) 0 ⟨Nat.zero_le _,J⟩ J J J (fun j hy0=> ?_))))))));obtain⟨n3,n4⟩:=hy0;refine ae (ae (aa (aj (ac J) J (aj (ac J) J (aj (am J J b_) J (ai (ar J (fun h41=> ?_) (fun h41=> ?_))))))))
      ·(try simp only [aV]at h41)
       have hj:j<st.es.length:=by omega
       obtain⟨u,hu⟩:∃k,st.es[j]?=some k:=⟨_,List.getElem?_eq_getElem hj⟩
       have hum:=List.mem_of_getElem? hu;refine az (ae (aB (ae (aa (aj (ah eO J) J (aj (ak ic J J (ap (k:=4) J J)) J (aj (ac J) J (aj (aN (j:=j) Tryz.underlying59 cg J J (aK (k:=10) J) (by first|rfl|omega) hj) J (aj (aJ cg J J J (bv (aK (k:=10) J) (by intro _;rfl) hu (by rfl))) J (aQ 7 13 J (cH hum) (au (xs:= [.tmp 94]) (CQ u (hsg.2.mem u hum)) I4 [] [(false,13)] [] J J J J J J J J (fun _ _=>J) (fun _ _ _=>J) J (fun _ _=>aj (ag J) J (ai ?_)))))))))))));refine ae (aa (aj (ac J) J (aj (bZ J) J (ai (ar J (fun h42=> ?_) (fun h42=> ?_))))))
       ·have q7:rX u=false:=by simpa using h42
        refine ae (aa (aj (ag J) J (ai (aw (aG () trivial J (bx (aH J)) (congrArg Value.bool (jO hsm (PQ hum q7)).symm) [] [] J J J)))))
       ·have q7:rX u=true:=by simpa using h42
        refine az (aa (aj (ac J) J (aj (am J J (aX (by first|exact aU (by omega) (by omega)|rfl))) J (aj (ag J) J (ai ?_)))));refine aL (j+1) ⟨⟨by omega,by rw [na hu,n4,q7];rfl⟩,by omega⟩ J J J
      ·(try simp only [aV]at h41)
       have hj:j=st.es.length:=by omega
       subst hj;rw [List.take_length]at n4;refine bn (ae (aa (aj (ah e9 J) J (aj (ak gZ J J (ap (k:=4) J J)) J (au (xs:= [.tmp 99]) (ih st hsm).1 ET [] [(false,8)] [] J J J J J J J J (fun _ _=>J) (fun _ _ _=>J) J (fun _ _=>aj (ag J) J (ai (ae (aa (aj (ah eg J) J (aj (ak gZ J J (ap (k:=4) J J)) J (au (xs:= [.tmp 102]) (ih st hsm).2 ET [] [(false,9)] [] J J J J J J J J (fun _ _=>J) (fun _ _ _=>J) J (fun _ _=>aj (ag J) J ?_)))))))))))));refine ai (ae (aa (aj (ac J) J (aj (bZ J) J (aj (ac J) J (aA [] J J trivial (fun hg43=>ac J) J (aA [(107,_)] J J ⟨J,trivial⟩ (fun hg44=>bZ J) J (aj (aM J J J (by first|exact ax|exact aC|rfl)) J (ai (ar J (fun h45=> ?_) (fun h45=> ?_)))))))))))
       ·(try simp only [aV]at h45)
        have q8:=h45;refine ae (aa (aj (ag J) J (ai (aw (aG () trivial J (bx (aH J)) (congrArg Value.bool (jO hsm (PN q8)).symm) [] [] J J J)))))
       ·(try simp only [aV]at h45)
        have q8:=h45;refine az (aa (aj (ac J) J (aj (am J J (aX (by first|exact aU (by omega) (by omega)|rfl))) J (aj (ag J) J (ai ?_)))));refine aL (i+1) ⟨⟨by omega,by rw [na hst,n2,Mv q2 q4 q5 n4 q8];rfl⟩,by omega⟩ J J J
 ·(try simp only [aV]at h1)
  have hi:i=l.length:=by omega
  subst hi;rw [List.take_length]at n2;refine bn (ae (aa (aj (ag J) J (ai (aw (aG () trivial J (bx (aH J)) (congrArg Value.bool n2.symm) [] [] J J J))))))
theorem tm:∀(n:Nat)(v:SV)(l:List Ty),SizeOf.sizeOf l<n→l.length≤1000000→GYs l→O7 v l
 | 0,_,_,h,_,_=>absurd h (Nat.not_lt_zero _)
 | n+1,v,l,h,hl,hg=>CK v l hl hg fun u hu=>by
  have h1:=List.sizeOf_lt_of_mem hu;have h2:SizeOf.sizeOf u.body<SizeOf.sizeOf u∧SizeOf.sizeOf u.els<SizeOf.sizeOf u:=by
   cases u;simp only [Ty.mk.sizeOf_spec,Ty.body,Ty.els];omega
  have h3:=hg.mem u hu;exact⟨tm n u.vb u.body (by omega) (dP h3).1 (dP h3).2,tm n u.vl u.els (by omega) (eR h3).1 (eR h3).2⟩
theorem CL(v:SV)(l:List Ty)(hl:l.length≤1000000)(hg:GYs l):O7 v l:=tm _ v l (Nat.lt_succ_self _) hl hg
theorem tC(f:Tf):rF f=(f.ps.all bS&&bS f.name&&f.body.all rY):=by unfold rF;rw [jr]
theorem My{f:Tf}(h:bS f.name=false∨f.body.all rY=false):rF f=false:=by
 rw [tC];rcases h with h|h<;>rw [h]<;>simp
theorem PW{f:Tf}{x:ByteArray}(hm:x∈f.ps)(h:bS x=false):rF f=false:=by
 rw [tC,jO hm h];rfl
theorem u9(vp:SV)(fs:List Tf)(hg:GP fs):
  Spec Tryz.prog 56 [.agg #[sv vp]] [] [cm vp fs] (X:=Unit) (fun _=>True) (fun _=> .bool (rP fs)) (fun _=> []) (fun _=> []):=by
 refine aF Tryz.func56 J Tryz.ntmps56 J fun w0 M H=>aQ 0 1 J jm ?_
 have hgl:=hg.1;refine ae (aa (bN J J fun b1=>aj (ag J) J (ai (ae (ae (aa (aj (ag J) J (ai (aB (bk (X:=Nat) (fun i=>i≤fs.length∧(fs.take i).all rF=true) (fun i=> [(1,.pointer (some ⟨b1,0,none⟩)),(3,.int .i64 (i:Int))]) (fun i=> [(1,aY b1 27 [sv vp])]) (fun i=> [(0,cm vp fs),(1,sl 3 iR (sv vp) fs)]) (fun i=>fs.length-i) 0 ⟨Nat.zero_le _,J⟩ J J J (fun i hx0=> ?_)))))))))));obtain⟨n1,n2⟩:=hx0;refine ae (ae (aa (aj (ac J) J (aj (ah cV J) J (aj (ak mj J J (ap (k:=1) J J)) J (aj (aO Tryz.underlying25 J (aK (k:=1) J)) J (aj (am J J b_) J (ai (ar J (fun h1=> ?_) (fun h1=> ?_))))))))))
 ·(try simp only [aV]at h1)
  have hi:i<fs.length:=by omega
  obtain⟨f,hf⟩:∃k,fs[i]?=some k:=⟨_,List.getElem?_eq_getElem hi⟩
  have hfm:=List.mem_of_getElem? hf;have hgf:=hg.2 f hfm;have hpl:=hgf.2.2.1;refine aQ 0 7 J (lr hfm) (aQ 7 8 J lu (az (ae (aB (ae (aa (aj (ah cV J) J (aj (ak mj J J (ap (k:=1) J J)) J (aj (ac J) J (aj (aN (j:=i) Tryz.underlying25 fX J J (aK (k:=1) J) (by first|rfl|omega) (by first|omega|(simp;done)|(simp;omega))) J (aj (aJ fX J J J (bv (aK (k:=1) J) (by intro _;rfl) hf (by rfl))) J (aT fX J J fun b4=>av (k:=4) fX J J J J J J ?_))))))))))));refine ai (ae (aa (aj (ah jD J) J (aj (ak t9 J J (ap (k:=4) J J)) J (au (xs:= [.tmp 22]) (iM f.name) AH [] [] [] J J J J J J J J (fun _ _=>J) (fun _ _ _=>J) J (fun _ _=>aj (ag J) J (ai (ae (aa (aj (ah iw J) J (aj (ak gZ J J (ap (k:=4) J J)) J (aQ 7 9 J jn (au (xs:= [.tmp 25]) (CL f.vb f.body hgf.2.2.2.1 hgf.2.2.2.2.1) ET [] [(false,9)] [] J J J J J J J J (fun _ _=>J) (fun _ _ _=>J) J (fun _ _=> ?_))))))))))))));refine aj (ag J) J (ai (ae (ae (aa (aj (ac J) J (aj (bZ J) J (aj (ac J) J (aA [] J J trivial (fun hg2=>ac J) J (aA [(30,_)] J J ⟨J,trivial⟩ (fun hg3=>bZ J) J (aj (aM J J J (by first|exact ax|exact aC|rfl)) J (ai (ar J (fun h4=> ?_) (fun h4=> ?_)))))))))))))
  ·(try simp only [aV]at h4)
   have q2:=h4;refine ae (aa (aj (ag J) J (ai (aw (aG () trivial J (bx (aH J)) (congrArg Value.bool (show false=rP fs from(jO (p:=rF) hfm (My q2)).symm)) [] [] J J J)))))
  ·(try simp only [aV]at h4)
   have q2:=h4;refine az (ae (aa (aj (ag J) J (ai (aB (bk (X:=Nat) (fun j=>j≤f.ps.length∧(f.ps.take j).all bS=true) (fun j=> [(1,.pointer (some ⟨b1,0,none⟩)),(3,.int .i64 (i:Int)),(4,.pointer (some ⟨b4,0,none⟩)),(7,.int .i64 (j:Int))]) (fun j=> [(1,aY b1 27 [sv vp]),(4,aY b4 66 (iR f))]) (fun j=> [(0,cm vp fs),(1,sl 3 iR (sv vp) fs),(7,y_ f),(8,sl 1 eS (sv f.vp) f.ps)]) (fun j=>f.ps.length-j) 0 ⟨Nat.zero_le _,J⟩ J J J (fun j hy0=> ?_)))))));obtain⟨n3,n4⟩:=hy0;refine ae (ae (aa (aj (ac J) J (aj (ah dr J) J (aj (ak gm J J (ap (k:=4) J J)) J (aj (aO Tryz.underlying46 J (aK (k:=8) J)) J (aj (am J J b_) J (ai (ar J (fun h5=> ?_) (fun h5=> ?_))))))))))
   ·(try simp only [aV]at h5)
    have hj:j<f.ps.length:=by omega
    obtain⟨x,hx⟩:∃k,f.ps[j]?=some k:=⟨_,List.getElem?_eq_getElem hj⟩
    have hxm:=List.mem_of_getElem? hx;refine az (ae (aB (ae (aa (aj (ah dr J) J (aj (ak gm J J (ap (k:=4) J J)) J (aj (ac J) J (aj (aN (j:=j) Tryz.underlying46 t9 J J (aK (k:=8) J) (by first|rfl|omega) (by first|omega|(simp;done)|(simp;omega))) J (aj (ak t9 J J (bv (aK (k:=8) J) (by intro _;rfl) hx (by rfl))) J (au (xs:= [.tmp 44]) (iM x) AH [] [] [] J J J J J J J J (fun _ _=>J) (fun _ _ _=>J) J (fun _ _=>aj (ag J) J (ai (ae ?_)))))))))))));refine aa (aj (ac J) J (aj (bZ J) J (ai (ar J (fun h6=> ?_) (fun h6=> ?_)))))
    ·have q4:bS x=false:=by simpa using h6
     refine ae (aa (aj (ag J) J (ai (aw (aG () trivial J (bx (aH J)) (congrArg Value.bool (show false=rP fs from(jO (p:=rF) hfm (PW hxm q4)).symm)) [] [] J J J)))))
    ·have q4:bS x=true:=by simpa using h6
     refine az (aa (aj (ac J) J (aj (am J J (aX (by first|exact aU (by omega) (by omega)|rfl))) J (aj (ag J) J (ai ?_)))));refine aL (j+1) ⟨⟨by omega,by rw [na hx,n4,q4];rfl⟩,by omega⟩ J J J
   ·(try simp only [aV]at h5)
    have hj:j=f.ps.length:=by omega
    subst hj;rw [List.take_length]at n4;refine bn (aa (aj (ac J) J (aj (am J J (aX (by first|exact aU (by omega) (by omega)|rfl))) J (aj (ag J) J (ai ?_)))));refine aL (i+1) ⟨⟨by omega,by rw [na hf,n2,tC,n4,q2.1,q2.2];rfl⟩,by omega⟩ J J J
 ·(try simp only [aV]at h1)
  have hi:i=fs.length:=by omega
  subst hi;rw [List.take_length]at n2;refine bn (ae (aa (aj (ag J) J (ai (aw (aG () trivial J (bx (aH J)) (congrArg Value.bool n2.symm) [] [] J J J))))))
def zR(n v s e:Int):List Value:= [.int .i64 n,.int .i64 v,.int .i64 s,.int .i64 e]
abbrev zV(n v s e:Int):Value:= .agg #[.int .i64 n,.int .i64 v,.int .i64 s,.int .i64 e]
theorem B6{n v s e n' v' s' e':Int}(h1:n=n')(h2:v=v')(h3:s=s')(h4:e=e'):zR n v s e=zR n' v' s' e':=by rw [h1,h2,h3,h4]
abbrev sm(n:Int):Prop:=0≤n∧n≤1000000000000
mutual
def dS:Ty→Nat
 | .mk _ _ _ _ _ body _ els=>max (iI body) (iI els)+1
def iI:List Ty→Nat
 | []=>0
 | t::r=>max (dS t) (iI r)
end
mutual
def dq:Ty→Nat
 | .mk _ _ _ es _ body _ els=>max (max (hQ body) (hQ els)) (fj es)
def hQ:List Ty→Nat
 | []=>0
 | t::r=>max (dq t) (hQ r)
end
theorem Az:∀a b:List Ty,iI (a++b)=max (iI a) (iI b)
 | [],b=>by simp [iI]
 | t::r,b=>by simp only [List.cons_append,iI,Az r b];omega
theorem Aw:∀a b:List Ty,hQ (a++b)=max (hQ a) (hQ b)
 | [],b=>by simp [hQ]
 | t::r,b=>by simp only [List.cons_append,hQ,Aw r b];omega
theorem Ez{l:List Ty}{i:Nat}{k:Ty}(h:l[i]?=some k):iI (l.take (i+1))=max (iI (l.take i)) (dS k):=by
 rw [bM h,Az];show max _ (max (dS k) 0)=_;omega
theorem Er{l:List Ty}{i:Nat}{k:Ty}(h:l[i]?=some k):hQ (l.take (i+1))=max (hQ (l.take i)) (dq k):=by
 rw [bM h,Aw];show max _ (max (dq k) 0)=_;omega
theorem IM(t:Ty):dS t=max (iI t.body) (iI t.els)+1:=by cases t;rfl
theorem Nq(t:Ty):dq t=max (max (hQ t.body) (hQ t.els)) (fj t.es):=by cases t;rfl
theorem Dp(t:Tx):nX t=dU t.kids+1∧dX t=fj t.kids+1:=by cases t;exact⟨rfl,rfl⟩
theorem Dn(t:Ty):nY t=1+dU t.es+cl t.body+cl t.els:=by cases t;rfl
theorem Cn(t:Ty):vY t=(if t.kind=1 then 1 else 0)+cD t.body+cD t.els:=by cases t;rfl
mutual
theorem Nu:∀t:Ty,dS t≤nY t∧dq t≤nY t
 | .mk _ _ _ es _ body _ els=>by
  have h1:=lV body;have h2:=lV els;have h3:=qN es;rw [dS,dq,nY];omega
theorem lV:∀l:List Ty,iI l≤cl l∧hQ l≤cl l
 | []=>by rw [iI,hQ,cl];omega
 | t::r=>by
  have h1:=Nu t;have h2:=lV r;rw [iI,hQ,cl];omega
end
mutual
theorem KW:∀(d:Nat)(t:Ty),B2 d t=true↔d+dS t>9∨dq t>8
 | d,.mk k nm v es vb body vl els=>by
  rw [B2,dS,dq];simp only [Bool.or_eq_true,decide_eq_true_eq];rw [pj (d+1) body,pj (d+1) els];omega
theorem pj:∀(d:Nat)(l:List Ty),cS d l=true↔(0<iI l∧d+iI l>9)∨hQ l>8
 | d,[]=>by rw [cS,iI,hQ];simp
 | d,t::r=>by
  rw [cS,iI,hQ,Bool.or_eq_true,KW d t,pj d r];have h1:0<dS t:=by rw [IM];omega
  omega
end
theorem AJ(f:Tf):pl f↔f.ps.length>4∨f.ps.length+cD f.body>12∨cl f.body>400∨iI f.body>8∨hQ f.body>8:=by
 unfold pl;rw [pj];omega
def O5(v:SV)(l:List Ty):Prop:=Spec Tryz.prog 58 [sv v] [] [bz v l] (X:=Unit) (fun _=>True) (fun _=>zV (cl l:Int) (cD l:Int) (iI l:Int) (hQ l:Int)) (fun _=> []) (fun _=> [])
def Rt(t:Tx):Prop:=Spec Tryz.prog 105 [xV t] [] [bK t.v t.kids] (X:=Unit) (fun _=>True) (fun _=>zV (nX t:Int) 0 0 (dX t:Int)) (fun _=> []) (fun _=> [])
theorem gf(a b c d a2 b2 c2 d2:Int)(h1:sm a)(h2:sm b)(h3:sm a2)(h4:sm b2):
  Spec Tryz.prog 104 [zV a b c d,zV a2 b2 c2 d2] [] [] (X:=Unit) (fun _=>True) (fun _=>zV (a+a2) (b+b2) (max c c2) (max d d2)) (fun _=> []) (fun _=> []):=by
 refine aF Tryz.func104 J Tryz.ntmps104 J fun w0 M H=>ae (aa (bN J J fun b2=>bN J J fun b3=>aT eM J J fun b4=>ai (ae (aa (aj (ah jF J) J (aj (ak t3 J J (ap (k:=2) J J)) J (aj (ah jF J) J (aj (ak t3 J J (ap (k:=3) J J)) J (aj (am J J (aX (by first|exact aU (by omega) (by omega)|rfl))) J ?_)))))))))
 refine aj (ah m6 J) J (aj (ak t3 J J (ap (k:=2) J J)) J (aj (ah m6 J) J (aj (ak t3 J J (ap (k:=3) J J)) J (aj (am J J (aX (by first|exact aU (by omega) (by omega)|rfl))) J (aj (ah m5 J) J (aj (ak t3 J J (ap (k:=2) J J)) J (aj (ah m5 J) J (aj (ak t3 J J (ap (k:=3) J J)) J (aj (qa J J J) J (aj (ah m4 J) J (aj (ak t3 J J (ap (k:=2) J J)) J (aj (ah m4 J) J (aj (ak t3 J J (ap (k:=3) J J)) J ?_)))))))))))));refine aj (qa J J J) J (aj (aP (parts:= [(0,.tmp 9),(1,.tmp 14),(2,.tmp 19),(3,.tmp 24)]) eM C8 J J) J (av (k:=4) eM J J J J J J (ai (aw (aG () trivial J (bx (aW eM J J J (aR (k:=4) J))) J [] [] J J J)))))
theorem rT(t:Tx)(ht:nX t≤1000000)(hkl:t.kids.length≤1000000)(ih:∀u∈t.kids,Rt u):
  Spec Tryz.prog 105 [xV t] [] [bK t.v t.kids] (X:=Unit) (fun _=>True) (fun _=>zV (nX t:Int) 0 0 (dX t:Int)) (fun _=> []) (fun _=> []):=by
 refine aF Tryz.func105 J Tryz.ntmps105 J fun w0 M H=>aQ 0 1 J eL ?_
 obtain⟨hn1,hn2⟩:=Dp t;have hdxl:=qN t.kids;refine ae (aa (bN J J fun b1=>aT eM J J fun b2=>ai (ae (aa (aj (aP (parts:= []) eM C8 J J) J (aT eM J J fun b3=>av (k:=3) eM J J J J J J (ai (ae (ae (aa ?_))))))))));refine aj (ag J) J (ai (aB (bk (X:=Nat) (fun i=>i≤t.kids.length) (fun i=> [(1,.pointer (some ⟨b1,0,none⟩)),(2,.pointer (some ⟨b2,0,none⟩)),(3,.pointer (some ⟨b3,0,none⟩)),(4,.int .i64 (i:Int))]) (fun i=> [(1,aY b1 61 (df t)),(2,aY b2 124 (zR 0 0 0 0)),(3,aY b3 124 (zR (dU (t.kids.take i):Int) 0 0 (fj (t.kids.take i):Int)))]) (fun i=> [(0,bK t.v t.kids),(1,sl 4 df (sv t.v) t.kids)]) (fun i=>t.kids.length-i) 0 (Nat.zero_le _) J J J (fun i n1=>ae (ae (aa (aj (ac J) J (aj (ah cU J) J (aj (ak ic J J (ap (k:=1) J J)) J (aj (aO Tryz.underlying59 J (aK (k:=1) J)) J (aj (am J J b_) J (ai (ar J (fun h1=> ?_) (fun h1=> ?_))))))))))))))
 ·(try simp only [aV]at h1)
  have hi:i<t.kids.length:=by omega
  obtain⟨u,hu⟩:∃u,t.kids[i]?=some u:=⟨_,List.getElem?_eq_getElem hi⟩
  have hum:=List.mem_of_getElem? hu;refine aQ 0 7 J (cH hum) ?_;have hle:=ku t.kids (i+1);rw [dY hu]at hle;have hdu:=wr u;refine az (ae (aB ?_));refine bA [13,14,15,16,17,18,19,20] _ J (aZ (V:= [(0,13,_),(1,14,_),(2,15,_),(3,16,_),(4,17,_),(5,18,_)]) [0,1,2,3,4,5] 6 [6,5,4,3,2,1] [] (fun _=> []) J J (ad (aD J (aJ eM J J J (aR (k:=3) J))) (ad (aD J (ah cU J)) (ad (aD J (ak ic J J (ap (k:=1) J J))) (ad (aD J (ac J)) (ad (aD J (aN (j:=i) Tryz.underlying59 cg J J (aK (k:=1) J) (by first|rfl|omega) (by first|omega|(simp;done)|(simp;omega)))) (ad (aD J (aJ cg J J J (bv (aK (k:=1) J) (by intro _;rfl) hu (by rfl)))) ay)))))) J J J J J J J J J J J (fun _ _=>J) J (bh (xs:= [.tmp 18]) (ih u hum) Jb [] [(false,7)] [] J J J J J J J J (fun _ _=>J) (fun _ _ _=>J)) (fun _ _=>aZ [0] 7 [7,6,5,4,3,2,1,0] [] (fun _=> []) J J (ad (aD J (aJ eM J J J (aR (k:=3) J))) ay) J J J J J J J J J J J (fun _ _=>J) J (bh (xs:= [.tmp 13,.tmp 19]) (gf (dU (t.kids.take i):Int) 0 0 (fj (t.kids.take i):Int) (nX u:Int) 0 0 (dX u:Int) ⟨by omega,by omega⟩ ⟨by omega,by omega⟩ ⟨by omega,by omega⟩ ⟨by omega,by omega⟩) qV [] [] [] J J J J J J J J (fun _ _=>J) (fun _ _ _=>J)) (fun _ _=>bB [] 8 [8,7,6,5,4,3,2,1,0] [] (fun _=> []) J J ay J J J J J J J J J (fun _ _=>J) J (bE (k:=3) eM J J J J J J) (fun _ _=>be [] J J ay J J J ?_))));refine aa (aj (ac J) J (aj (am J J (aX (by first|exact aU (by omega) (by omega)|rfl))) J (aj (ag J) J (ai ?_))));refine aL (i+1) ⟨by omega,by omega⟩ J (by rw [B6 (n:=((dU (t.kids.take (i+1)):Nat):Int)) (n':=(dU (t.kids.take i):Int)+(nX u:Int)) (e':=max (fj (t.kids.take i):Int) (dX u:Int)) (e:=((fj (t.kids.take (i+1)):Nat):Int)) (by rw [dY hu,Int.natCast_add]) (show(0:Int)=0+0 from J) (show(0:Int)=max 0 0 from J) (by rw [kC hu];omega)];rfl) J
 ·(try simp only [aV]at h1)
  have hi:i=t.kids.length:=by omega
  subst hi;rw [List.take_length];refine bn (ae (aa (aj (ah jF J) J (aj (ak t3 J J (ap (k:=3) J J)) J (aj (am J J (aX (by first|exact aU (by omega) (by omega)|rfl))) J (aj (ah jF J) J (aI (k:=3) t3 J J J J J J J J (ai (ae (aa (aj (ah m4 J) J (aj (ak t3 J J (ap (k:=3) J J)) J (aj (am J J (aX (by first|exact aU (by omega) (by omega)|rfl))) J ?_)))))))))))));refine aj (ah m4 J) J (aI (k:=3) t3 J J J J J J J J (ai (ae (aa (aj (aJ eM J J J (aR (k:=3) J)) J (av (k:=2) eM J J J J J J (ai (aw ?_))))))));have hfin:zV ((dU t.kids:Int)+1) 0 0 ((fj t.kids:Int)+1)=zV (nX t:Int) 0 0 (dX t:Int):=by rw [hn1,hn2];rfl
  refine aG () trivial J (bx (aW eM J J J (aR (k:=2) J))) (by rw [←hfin];rfl) [] [] J J J
theorem m9:∀(n:Nat)(t:Tx),SizeOf.sizeOf t<n→GX t→nX t≤1000000→Rt t
 | 0,_,h,_,_=>absurd h (Nat.not_lt_zero _)
 | n+1,t,h,ht,hn=>rT t hn (kE ht) fun u hu=>m9 n u (by have:=ob hu;omega) ((iT ht).mem u hu) (by
  obtain⟨i,hi⟩:=List.getElem?_of_mem hu;have hle:=ku t.kids (i+1);rw [dY hi]at hle;have:=(Dp t).1;omega)
theorem rU(t:Tx)(ht:GX t)(hn:nX t≤1000000):Rt t:=m9 _ t (Nat.lt_succ_self _) ht hn
theorem rj(v:SV)(l:List Ty)(hn:cl l≤1000000)(hl:l.length≤1000000)(hg:GYs l)(ih:∀u∈l,O5 u.vb u.body∧O5 u.vl u.els):
  Spec Tryz.prog 58 [sv v] [] [bz v l] (X:=Unit) (fun _=>True) (fun _=>zV (cl l:Int) (cD l:Int) (iI l:Int) (hQ l:Int)) (fun _=> []) (fun _=> []):=by
 refine aF Tryz.func58 J Tryz.ntmps58 J fun w0 M H=>aQ 0 1 J fL (ae (aa (aT eM J J fun b2=>ai (ae (aa (aj (aP (parts:= []) eM C8 J J) J (aT eM J J fun b3=>av (k:=3) eM J J J J J J (ai (ae (ae ?_))))))))))
 refine aa (aj (ag J) J (ai (aB (bk (X:=Nat) (fun i=>i≤l.length) (fun i=> [(0,sv v),(2,.pointer (some ⟨b2,0,none⟩)),(3,.pointer (some ⟨b3,0,none⟩)),(4,.int .i64 (i:Int))]) (fun i=> [(2,aY b2 124 (zR 0 0 0 0)),(3,aY b3 124 (zR (cl (l.take i):Int) (cD (l.take i):Int) (iI (l.take i):Int) (hQ (l.take i):Int)))]) (fun i=> [(0,bz v l),(1,sl 5 ec (sv v) l)]) (fun i=>l.length-i) 0 (Nat.zero_le _) J J J (fun i n1=>ae (ae (aa (aj (ac J) J (aj (ac J) J (aj (aO Tryz.underlying62 J (aK (k:=1) J)) J (aj (am J J b_) J (ai (ar J (fun h1=> ?_) (fun h1=> ?_))))))))))))))
 ·(try simp only [aV]at h1)
  have hi:i<l.length:=by omega
  obtain⟨st,hst⟩:∃k,l[i]?=some k:=⟨_,List.getElem?_eq_getElem hi⟩
  have hsm:=List.mem_of_getElem? hst;have hsg:=nh (hg.mem st hsm);have hle:=lP l (i+1);rw [gt hst]at hle;have hny:=Dn st;have hvy:=Cl st;have hva:=gG (l.take i);have hvb:=gG st.body;have hvs:=gG st.els;have hvy2:(vY st:Int)=((cD st.body:Int)+(cD st.els:Int))+(if st.kind=1 then 1 else 0:Int):=by
   rw [Cn];split<;>omega
  have hki:0≤(if st.kind=1 then 1 else 0:Int)∧(if st.kind=1 then 1 else 0:Int)≤1:=by split<;>omega
  have hdsb:=lV st.body;have hdse:=lV st.els;have hdsi:=lV (l.take i);have hnl:=lP l i;have hdxe:=qN st.es;refine aQ 0 7 J (jl hsm) (aQ 0 8 J (fv hsm) (aQ 0 9 J (gl hsm) (aQ 7 10 J eL (az (ae (aB (ae (aa (aj (ac J) J (aj (ac J) J (aj (aN (j:=i) Tryz.underlying62 dA J J (aK (k:=1) J) (by first|rfl|omega) (by first|omega|(simp;done)|(simp;omega))) J (aj (aJ dA J J J (bv (aK (k:=1) J) (by intro _;rfl) hst (by rfl))) J (aT dA J J fun b5=> ?_)))))))))))));refine av (k:=5) dA J J J J J J (ai (bi (X:=Nat) (fun _=>True) (fun y=> [(0,sv v),(2,.pointer (some ⟨b2,0,none⟩)),(3,.pointer (some ⟨b3,0,none⟩)),(4,.int .i64 (i:Int)),(5,.pointer (some ⟨b5,0,none⟩)),(6,.pointer (some ⟨y,0,none⟩))]) (fun y=> [(2,aY b2 124 (zR 0 0 0 0)),(3,aY b3 124 (zR (cl (l.take i):Int) (cD (l.take i):Int) (iI (l.take i):Int) (hQ (l.take i):Int))),(5,aY b5 64 (ec st)),(6,aY y 124 (zR ((cl st.body:Int)+(cl st.els:Int)) ((cD st.body:Int)+(cD st.els:Int)) (max (iI st.body:Int) (iI st.els:Int)) (max (hQ st.body:Int) (hQ st.els:Int))))]) (fun y=> [(0,bz v l),(1,sl 5 ec (sv v) l),(7,bK st.ve st.es),(8,bz st.vb st.body),(9,bz st.vl st.els),(10,sl 4 df (sv st.ve) st.es)]) ?_ (fun b6 _=> ?_)))
  ·refine bA [19,20,21,22,23,24,25,6] _ J (fS (V:= [(0,19,_),(1,20,_),(3,22,_),(4,23,_)]) [0,1,3,4] J J (ad (aD J (ah e9 J)) (ad (aD J (ak gZ J J (ap (k:=5) J J))) (ad (aD J (ah eg J)) (ad (aD J (ak gZ J J (ap (k:=5) J J))) ay)))) J [2,7] J J (dx (eu 2 [2,1,0] [] (fun _=> []) J J J J J J J J J (fun _ _=>J) J (bh (xs:= [.tmp 20]) (ih st hsm).1 BP [] [(false,8)] [] J J J J J J J J (fun _ _=>J) (fun _ _ _=>J)) (fun _ _=>fS [3,4] J J (ad (aD J (ah eg J)) (ad (aD J (ak gZ J J (ap (k:=5) J J))) ay)) J [5,7] J J (dx (eu 5 [5,4,3,2,1,0] [] (fun _=> []) J J J J J J J J J (fun _ _=>J) J (bh (xs:= [.tmp 23]) (ih st hsm).2 BP [] [(false,9)] [] J J J J J J J J (fun _ _=>J) (fun _ _ _=>J)) (fun _ _=>fS [] J J ay J [6,7] J J (dx (eu 6 [6,5,4,3,2,1,0] [] (fun _=> []) J J J J J J J J J (fun _ _=>J) J (bh (xs:= [.tmp 21,.tmp 24]) (gf _ _ _ _ _ _ _ _ ⟨by omega,by omega⟩ ⟨by omega,by omega⟩ ⟨by omega,by omega⟩ ⟨by omega,by omega⟩) qV [] [] [] J J J J J J J J (fun _ _=>J) (fun _ _ _=>J)) (fun _ _=>aZ [] 7 [7,6,5,4,3,2,1,0] [] (fun b6=> []) J J ay J J J J J J J J J J J (fun _ _=>J) J (dZ eM J) (fun b6 _=>bB [] 8 [8,7,6,5,4,3,2,1,0] [] (fun _=> []) J J ay J J J J J J J J J (fun _ _=>J) J (bE (k:=6) eM J J J J J J) (fun _ _=>be [] J J ay J J J ?_)))) (dx (eu 7 [7,5,4,3,2,1,0] [] (fun b6=> []) J J J J J J J J J (fun _ _=>J) J (dZ eM J) (fun b6 _=>aZ [] 6 [7,6,5,4,3,2,1,0] [] (fun _=> []) J J ay J J J J J J J J J J J (fun _ _=>J) J (bh (xs:= [.tmp 21,.tmp 24]) (gf _ _ _ _ _ _ _ _ ⟨by omega,by omega⟩ ⟨by omega,by omega⟩ ⟨by omega,by omega⟩ ⟨by omega,by omega⟩) qV [] [] [] J J J J J J J J (fun _ _=>J) (fun _ _ _=>J)) (fun _ _=>bB [] 8 [8,7,6,5,4,3,2,1,0] [] (fun _=> []) J J ay J J J J J J J J J (fun _ _=>J) J (bE (k:=6) eM J J J J J J) (fun _ _=>be [] J J ay J J J ?_)))) ju)))) (dx (eu 7 [7,2,1,0] [] (fun b6=> []) J J J J J J J J J (fun _ _=>J) J (dZ eM J) (fun b6 _=>aZ [3,4] 5 [7,5,4,3,2,1,0] [] (fun _=> []) J J (ad (aD J (ah eg J)) (ad (aD J (ak gZ J J (ap (k:=5) J J))) ay)) J J J J J J J J J J J (fun _ _=>J) J (bh (xs:= [.tmp 23]) (ih st hsm).2 BP [] [(false,9)] [] J J J J J J J J (fun _ _=>J) (fun _ _ _=>J)) (fun _ _=>aZ [] 6 [7,6,5,4,3,2,1,0] [] (fun _=> []) J J ay J J J J J J J J J J J (fun _ _=>J) J (bh (xs:= [.tmp 21,.tmp 24]) (gf _ _ _ _ _ _ _ _ ⟨by omega,by omega⟩ ⟨by omega,by omega⟩ ⟨by omega,by omega⟩ ⟨by omega,by omega⟩) qV [] [] [] J J J J J J J J (fun _ _=>J) (fun _ _ _=>J)) (fun _ _=>bB [] 8 [8,7,6,5,4,3,2,1,0] [] (fun _=> []) J J ay J J J J J J J J J (fun _ _=>J) J (bE (k:=6) eM J J J J J J) (fun _ _=>be [] J J ay J J J ?_))))) ju)))) (dx (eu 7 [7] [] (fun b6=> []) J J J J J J J J J (fun _ _=>J) J (dZ eM J) (fun b6 _=>aZ [0,1,3,4] 2 [7,2,1,0] [] (fun _=> []) J J (ad (aD J (ah e9 J)) (ad (aD J (ak gZ J J (ap (k:=5) J J))) (ad (aD J (ah eg J)) (ad (aD J (ak gZ J J (ap (k:=5) J J))) ay)))) J J J J J J J J J J J (fun _ _=>J) J (bh (xs:= [.tmp 20]) (ih st hsm).1 BP [] [(false,8)] [] J J J J J J J J (fun _ _=>J) (fun _ _ _=>J)) (fun _ _=>aZ [3,4] 5 [7,5,4,3,2,1,0] [] (fun _=> []) J J (ad (aD J (ah eg J)) (ad (aD J (ak gZ J J (ap (k:=5) J J))) ay)) J J J J J J J J J J J (fun _ _=>J) J (bh (xs:= [.tmp 23]) (ih st hsm).2 BP [] [(false,9)] [] J J J J J J J J (fun _ _=>J) (fun _ _ _=>J)) (fun _ _=>aZ [] 6 [7,6,5,4,3,2,1,0] [] (fun _=> []) J J ay J J J J J J J J J J J (fun _ _=>J) J (bh (xs:= [.tmp 21,.tmp 24]) (gf _ _ _ _ _ _ _ _ ⟨by omega,by omega⟩ ⟨by omega,by omega⟩ ⟨by omega,by omega⟩ ⟨by omega,by omega⟩) qV [] [] [] J J J J J J J J (fun _ _=>J) (fun _ _ _=>J)) (fun _ _=>bB [] 8 [8,7,6,5,4,3,2,1,0] [] (fun _=> []) J J ay J J J J J J J J J (fun _ _=>J) J (bE (k:=6) eM J J J J J J) (fun _ _=>be [] J J ay J J J ?_)))))) ju)))
   ·refine aL b6 trivial J J J
   ·refine aL b6 trivial J J J
   ·refine aL b6 trivial J J J
   ·refine aL b6 trivial J J J
  ·refine ae (aa (aj (ah m5 J) J (aj (ak t3 J J (ap (k:=6) J J)) J (aj (am J J (aX (by first|exact aU (by omega) (by omega)|rfl))) J (aj (ah m5 J) J (aI (k:=6) t3 J J J J J J J J (ai (ae (aa (aj (ah jF J) J (aj (ak t3 J J (ap (k:=6) J J)) J (aj (am J J (aX (by first|exact aU (by omega) (by omega)|rfl))) J (aj (ah jF J) J ?_)))))))))))));refine aI (k:=6) t3 J J J J J J J J (ai (bi (X:=Unit) (fun _=>True) (fun _=> [(0,sv v),(2,.pointer (some ⟨b2,0,none⟩)),(3,.pointer (some ⟨b3,0,none⟩)),(4,.int .i64 (i:Int)),(5,.pointer (some ⟨b5,0,none⟩)),(6,.pointer (some ⟨b6,0,none⟩))]) (fun _=> [(2,aY b2 124 (zR 0 0 0 0)),(3,aY b3 124 (zR (cl (l.take i):Int) (cD (l.take i):Int) (iI (l.take i):Int) (hQ (l.take i):Int))),(5,aY b5 64 (ec st)),(6,aY b6 124 (zR ((cl st.body:Int)+(cl st.els:Int)+1) (((cD st.body:Int)+(cD st.els:Int))+(if st.kind=1 then 1 else 0:Int)) (max (iI st.body:Int) (iI st.els:Int)+1) (max (hQ st.body:Int) (hQ st.els:Int))))]) (fun _=> [(0,bz v l),(1,sl 5 ec (sv v) l),(7,bK st.ve st.es),(8,bz st.vb st.body),(9,bz st.vl st.els),(10,sl 4 df (sv st.ve) st.es)]) ?_ (fun _ _=> ?_)))
   ·refine ae (aa (aj (ah dJ J) J (aj (ak t3 J J (ap (k:=5) J J)) J (aj (am J J aS) J (ai (ar J (fun h2=> ?_) (fun h2=> ?_)))))))
    ·have q1:st.kind=1:=of_decide_eq_true h2;refine aa (aj (ah m6 J) J (aj (ak t3 J J (ap (k:=6) J J)) J (aj (am J J (aX (by first|exact aU (by omega) (by omega)|rfl))) J (aj (ah m6 J) J (aI (k:=6) t3 J J J J J J J J (ai (aL () trivial J (by rw [if_pos q1];rfl) J)))))))
    ·have q1:¬st.kind=1:=of_decide_eq_false h2;refine az (aL () trivial J (by rw [if_neg q1,Int.add_zero];rfl) J)
   ·refine ae (ae (aa (aj (ag J) J (ai (aB ?_)))));refine bk (X:=Nat) (fun j=>j≤st.es.length) (fun j=> [(0,sv v),(2,.pointer (some ⟨b2,0,none⟩)),(3,.pointer (some ⟨b3,0,none⟩)),(4,.int .i64 (i:Int)),(5,.pointer (some ⟨b5,0,none⟩)),(6,.pointer (some ⟨b6,0,none⟩)),(7,.int .i64 (j:Int))]) (fun j=> [(2,aY b2 124 (zR 0 0 0 0)),(3,aY b3 124 (zR (cl (l.take i):Int) (cD (l.take i):Int) (iI (l.take i):Int) (hQ (l.take i):Int))),(5,aY b5 64 (ec st)),(6,aY b6 124 (zR (((cl st.body:Int)+(cl st.els:Int)+1)+(dU (st.es.take j):Int)) (((cD st.body:Int)+(cD st.els:Int))+(if st.kind=1 then 1 else 0:Int)) (max (iI st.body:Int) (iI st.els:Int)+1) (max (max (hQ st.body:Int) (hQ st.els:Int)) (fj (st.es.take j):Int))))]) (fun j=> [(0,bz v l),(1,sl 5 ec (sv v) l),(7,bK st.ve st.es),(8,bz st.vb st.body),(9,bz st.vl st.els),(10,sl 4 df (sv st.ve) st.es)]) (fun j=>st.es.length-j) 0 (Nat.zero_le _) J (by rw [show(((cl st.body:Int)+(cl st.els:Int)+1)+(dU (st.es.take 0):Int))=((cl st.body:Int)+(cl st.els:Int)+1) by simp [dU],show max (max (hQ st.body:Int) (hQ st.els:Int)) (fj (st.es.take 0):Int)=(max (hQ st.body:Int) (hQ st.els:Int)) by simp [fj]<;>omega];rfl) J (fun j n2=> ?_);refine ae (ae (aa (aj (ac J) J (aj (ah eO J) J (aj (ak ic J J (ap (k:=5) J J)) J (aj (aO Tryz.underlying59 J (aK (k:=10) J)) J (aj (am J J b_) J (ai (ar J (fun h3=> ?_) (fun h3=> ?_))))))))))
    ·(try simp only [aV]at h3)
     have hj:j<st.es.length:=by omega
     obtain⟨u,hu⟩:∃k,st.es[j]?=some k:=⟨_,List.getElem?_eq_getElem hj⟩
     have hum:=List.mem_of_getElem? hu;refine aQ 7 11 J (cH hum) ?_;have hlx:=ku st.es (j+1);rw [dY hu]at hlx;have hdu:=wr u;refine az (ae (aB ?_));refine bA [48,49,50,51,52,53,54,55] _ J (aZ (V:= [(0,48,_),(1,49,_),(2,50,_),(3,51,_),(4,52,_),(5,53,_)]) [0,1,2,3,4,5] 6 [6,5,4,3,2,1] [] (fun _=> []) J J (ad (aD J (aJ eM J J J (aR (k:=6) J))) (ad (aD J (ah eO J)) (ad (aD J (ak ic J J (ap (k:=5) J J))) (ad (aD J (ac J)) (ad (aD J (aN (j:=j) Tryz.underlying59 cg J J (aK (k:=10) J) (by first|rfl|omega) (by first|omega|(simp;done)|(simp;omega)))) (ad (aD J (aJ cg J J J (bv (aK (k:=10) J) (by intro _;rfl) hu (by rfl)))) ay)))))) J J J J J J J J J J J (fun _ _=>J) J (bh (xs:= [.tmp 53]) (rU u (hsg.2.mem u hum) (by omega)) Jb [] [(false,11)] [] J J J J J J J J (fun _ _=>J) (fun _ _ _=>J)) (fun _ _=>aZ [0] 7 [7,6,5,4,3,2,1,0] [] (fun _=> []) J J (ad (aD J (aJ eM J J J (aR (k:=6) J))) ay) J J J J J J J J J J J (fun _ _=>J) J (bh (xs:= [.tmp 48,.tmp 54]) (gf (((cl st.body:Int)+(cl st.els:Int)+1)+(dU (st.es.take j):Int)) (((cD st.body:Int)+(cD st.els:Int))+(if st.kind=1 then 1 else 0:Int)) (max (iI st.body:Int) (iI st.els:Int)+1) (max (max (hQ st.body:Int) (hQ st.els:Int)) (fj (st.es.take j):Int)) (nX u:Int) 0 0 (dX u:Int) ⟨by omega,by omega⟩ ⟨by omega,by omega⟩ ⟨by omega,by omega⟩ ⟨by omega,by omega⟩) qV [] [] [] J J J J J J J J (fun _ _=>J) (fun _ _ _=>J)) (fun _ _=>bB [] 8 [8,7,6,5,4,3,2,1,0] [] (fun _=> []) J J ay J J J J J J J J J (fun _ _=>J) J (bE (k:=6) eM J J J J J J) (fun _ _=>be [] J J ay J J J ?_))));refine aa (aj (ac J) J (aj (am J J (aX (by first|exact aU (by omega) (by omega)|rfl))) J (aj (ag J) J (ai ?_))))
     refine aL (j+1) ⟨by omega,by omega⟩ J (by rw [B6 (n:=((cl st.body:Int)+(cl st.els:Int)+1)+((dU (st.es.take (j+1)):Nat):Int)) (v:=((cD st.body:Int)+(cD st.els:Int))+(if st.kind=1 then 1 else 0:Int)) (s:=(max (iI st.body:Int) (iI st.els:Int)+1)) (e:=max (max (hQ st.body:Int) (hQ st.els:Int)) ((fj (st.es.take (j+1)):Nat):Int)) (n':=((cl st.body:Int)+(cl st.els:Int)+1)+(dU (st.es.take j):Int)+(nX u:Int)) (v':=((cD st.body:Int)+(cD st.els:Int))+(if st.kind=1 then 1 else 0:Int)+0) (s':=max (max (iI st.body:Int) (iI st.els:Int)+1) 0) (e':=max (max (max (hQ st.body:Int) (hQ st.els:Int)) (fj (st.es.take j):Int)) (dX u:Int)) (by rw [dY hu]<;>omega) (by rw [Int.add_zero]) (by omega) (by rw [kC hu]<;>omega)];rfl) J
    ·(try simp only [aV]at h3)
     have hj:j=st.es.length:=by omega
     subst hj;rw [List.take_length];refine bn (aa (aj (aJ eM J J J (aR (k:=3) J)) J (aj (aJ eM J J J (aR (k:=6) J)) J ?_)));refine au (xs:= [.tmp 56,.tmp 57]) (gf (cl (l.take i):Int) (cD (l.take i):Int) (iI (l.take i):Int) (hQ (l.take i):Int) (((cl st.body:Int)+(cl st.els:Int)+1)+(dU st.es:Int)) (((cD st.body:Int)+(cD st.els:Int))+(if st.kind=1 then 1 else 0:Int)) (max (iI st.body:Int) (iI st.els:Int)+1) (max (max (hQ st.body:Int) (hQ st.els:Int)) (fj st.es:Int)) ⟨by omega,by omega⟩ ⟨by omega,by omega⟩ ⟨by omega,by omega⟩ ⟨by omega,by omega⟩) qV [] [] [] J J J J J J J J (fun _ _=>J) (fun _ _ _=>J) J (fun _ _=> ?_);refine av (k:=3) eM J J J J J J (ai (aa (aj (ac J) J (aj (am J J (aX (by first|exact aU (by omega) (by omega)|rfl))) J (aj (ag J) J (ai ?_))))));refine aL (i+1) ⟨by omega,by omega⟩ J (by rw [B6 (n:=((cl (l.take (i+1)):Nat):Int)) (v:=((cD (l.take (i+1)):Nat):Int)) (s:=((iI (l.take (i+1)):Nat):Int)) (e:=((hQ (l.take (i+1)):Nat):Int)) (n':=(cl (l.take i):Int)+(((cl st.body:Int)+(cl st.els:Int)+1)+(dU st.es:Int))) (v':=(cD (l.take i):Int)+(((cD st.body:Int)+(cD st.els:Int))+(if st.kind=1 then 1 else 0:Int))) (s':=max (iI (l.take i):Int) (max (iI st.body:Int) (iI st.els:Int)+1)) (e':=max (hQ (l.take i):Int) (max (max (hQ st.body:Int) (hQ st.els:Int)) (fj st.es:Int))) (by rw [gt hst]<;>omega) (by rw [i7 hst,Int.natCast_add,hvy2]) (by rw [Ez hst,IM]<;>omega) (by rw [Er hst,Nq]<;>omega)];rfl) J
 ·(try simp only [aV]at h1)
  have hi:i=l.length:=by omega
  subst hi;rw [List.take_length];refine bn (ae (aa (aj (aJ eM J J J (aR (k:=3) J)) J (av (k:=2) eM J J J J J J (ai (aw (aG () trivial J (bx (aW eM J J J (aR (k:=2) J))) J [] [] J J J)))))))
theorem jo:∀(n:Nat)(v:SV)(l:List Ty),SizeOf.sizeOf l<n→l.length≤1000000→GYs l→cl l≤1000000→O5 v l
 | 0,_,_,h,_,_,_=>absurd h (Nat.not_lt_zero _)
 | n+1,v,l,h,hl,hg,hn=>rj v l hn hl hg fun u hu=>by
  have h1:=List.sizeOf_lt_of_mem hu;have h2:SizeOf.sizeOf u.body<SizeOf.sizeOf u∧SizeOf.sizeOf u.els<SizeOf.sizeOf u:=by
   cases u;simp only [Ty.mk.sizeOf_spec,Ty.body,Ty.els];omega
  have h3:=hg.mem u hu;obtain⟨i,hi⟩:=List.getElem?_of_mem hu;have hle:=lP l (i+1);rw [gt hi]at hle;have h4:=Dn u;exact⟨jo n u.vb u.body (by omega) (dP h3).1 (dP h3).2 (by omega),jo n u.vl u.els (by omega) (eR h3).1 (eR h3).2 (by omega)⟩
theorem rl(v:SV)(l:List Ty)(hl:l.length≤1000000)(hg:GYs l)(hn:cl l≤1000000):O5 v l:=jo _ v l (Nat.lt_succ_self _) hl hg hn
theorem jC{a b:Int}(h:a≠0):fst a b=a:=if_neg h
theorem uj{fs:List Tf}{ns:List ByteArray}{l:List Tx}{i:Nat}{u:Tx}(hu:l[i]?=some u)(h0:iA fs ns (l.take i)=0)(h:eX fs ns u≠0):iA fs ns l=eX fs ns u:=by
 have h1:=uk fs ns (l.take (i+1)) (l.drop (i+1));rw [List.take_append_drop,kB hu,h0,h_,jC h]at h1;exact h1
theorem yv{fs:List Tf}{ns:List ByteArray}{t:Tx}{z:Int}(h:nE fs ns t=z)(hz:z≠0):eX fs ns t=z:=by rw [Av,h,jC hz]
theorem Au{fs:List Tf}{ns:List ByteArray}{t:Tx}{z:Int}(h:nE fs ns t=0)(h2:iA fs ns t.kids=z):eX fs ns t=z:=by rw [Av,h,h2];rfl
def Rr(c:Nat)(vp vn:SV)(fs:List Tf)(ns:List ByteArray)(t:Tx):Prop:=Spec Tryz.prog 106 [.pointer (some ⟨c,0,none⟩),xV t] [] [aY c 128 [sv vp,sv vn],sl 1 eS (sv vn) ns,cm vp fs,bK t.v t.kids] (X:=Unit) (fun _=>True) (fun _=> .int .i64 (eX fs ns t)) (fun _=> []) (fun _=> [])
theorem iz(b:ByteArray)(vp:SV)(fs:List Tf)(hfl:fs.length≤1000000):
  Spec Tryz.prog 57 [.agg #[sv vp],.string b] [] [sl 3 iR (sv vp) fs] (X:=Unit) (fun _=>True) (fun _=> .int .i64 (qD fs b)) (fun _=> []) (fun _=> []):=by
 refine aF Tryz.func57 J Tryz.ntmps57 J fun w0 M H=>ae (aa (bN J J fun b2=>aj (ag J) J (ai (ae (ae (aa (aj (ag J) J (ai (aB (bk (X:=Nat) (fun i=>i≤fs.length∧∀j y,j<i→fs[j]?=some y→decide (y.name=b)=false) (fun i=> [(1,.string b),(2,.pointer (some ⟨b2,0,none⟩)),(5,.int .i64 (i:Int))]) (fun i=> [(2,aY b2 27 [sv vp])]) (fun i=> [(0,sl 3 iR (sv vp) fs)]) (fun i=>fs.length-i) 0 ⟨Nat.zero_le _,fun j y h=>absurd h (Nat.not_lt_zero _)⟩ J J J (fun i hx0=> ?_)))))))))))
 obtain⟨n1,n2⟩:=hx0;refine ae (ae (aa (aj (ac J) J (aj (ah cV J) J (aj (ak mj J J (ap (k:=2) J J)) J (aj (aO Tryz.underlying25 J (aK (k:=0) J)) J (aj (am J J b_) J (ai (ar J (fun h1=> ?_) (fun h1=> ?_))))))))))
 ·(try simp only [aV]at h1)
  have hi:i<fs.length:=by omega
  obtain⟨f,hf⟩:∃k,fs[i]?=some k:=⟨_,List.getElem?_eq_getElem hi⟩
  have hfm:=List.mem_of_getElem? hf;refine az (ae (aB (ae (aa (aj (ah cV J) J (aj (ak mj J J (ap (k:=2) J J)) J (aj (ac J) J (aj (aN (j:=i) Tryz.underlying25 fX J J (aK (k:=0) J) (by first|rfl|omega) (by first|omega|(simp;done)|(simp;omega))) J (aj (dj jD J) J (aj (ak t9 J J (iO (aK (k:=0) J) (by intro _;rfl) hf J)) J (aj (ac J) J (aj (am J J ci) J (ai ?_)))))))))))));refine ar J (fun h2=> ?_) (fun h2=> ?_)
  ·have hct:decide (f.name=b)=true:=by rw [←bR];exact h2
   refine ae (aa (aj (ac J) J (aj (ag J) J (ai (aw (aG () trivial J (bx (aH J)) (by rw [show qD fs b=(i:Int)from nM hf hct n2]) [] [] J J J))))))
  ·have hcf:decide (f.name=b)=false:=by rw [←bR];exact h2
   refine az (aa (aj (ac J) J (aj (am J J (aX (by first|exact aU (by omega) (by omega)|rfl))) J (aj (ag J) J (ai ?_)))));refine aL (i+1) ⟨⟨by omega,fun j y hj hy=>by
    by_cases h:j=i
    ·subst h;rw [hf]at hy;cases hy;exact hcf
    ·exact n2 j y (by omega) hy⟩,by omega⟩ rfl rfl rfl
 ·(try simp only [aV]at h1)
  have hi:i=fs.length:=by omega
  subst hi;refine bn (ae (aa (aj (ag J) J (ai (aw (aG () trivial J (bx (aH J)) (by rw [show qD fs b= -1 from nL n2]) [] [] J J J))))))
theorem FU(c:Nat)(vp vn:SV)(fs:List Tf)(ns:List ByteArray)(hfl:fs.length≤1000000)(hns:ns.length≤1000000)(t:Tx)(hkl:t.kids.length≤1000000)(ih:∀u∈t.kids,Rr c vp vn fs ns u):
  Spec Tryz.prog 106 [.pointer (some ⟨c,0,none⟩),xV t] [] [aY c 128 [sv vp,sv vn],sl 1 eS (sv vn) ns,cm vp fs,bK t.v t.kids] (X:=Unit) (fun _=>True) (fun _=> .int .i64 (eX fs ns t)) (fun _=> []) (fun _=> []):=by
 refine aF Tryz.func106 J Tryz.ntmps106 J fun w0 M H=>aQ 2 4 J jm (aQ 3 5 J eL (ae (aa (bN J J fun b3=>aj (ag J) J (ai (bi (X:=Unit) (fun _=>t.kind=2→bX t.name ns=true) (fun _=> [(0,.pointer (some ⟨c,0,none⟩)),(3,.pointer (some ⟨b3,0,none⟩))]) (fun _=> [(3,aY b3 61 (df t))]) (fun _=> [(0,aY c 128 [sv vp,sv vn]),(1,sl 1 eS (sv vn) ns),(2,cm vp fs),(3,bK t.v t.kids),(4,sl 3 iR (sv vp) fs),(5,sl 4 df (sv t.v) t.kids)]) ?_ (fun _ hm2=> ?_)))))))
 ·refine ae (aa (aj (ah ix J) J (aj (ak t3 J J (ap (k:=3) J J)) J (aj (am J J aS) J (ai (ar J (fun h1=> ?_) (fun h1=> ?_)))))))
  ·have q2:t.kind=2:=of_decide_eq_true h1;refine ae (bA [12,13,14,15,16,17,18,5] _ J (aZ (V:= [(0,12,_),(1,13,_),(2,14,_),(3,15,_),(4,16,_),(5,17,_)]) [0,1,2,3,4,5] 6 [6,5,4,3,2,1,0] [7] (fun _=> [(7,5,_)]) J J (ad (aD J (ah cN J)) (ad (aD J (ak t9 J J (ap (k:=3) J J))) (ad (aD J (ac J)) (ad (aD J (aq J)) (ad (aD J (ah gW J)) (ad (aD J (ak gm J J (cz (k:=0) J J))) ay)))))) J J J J J J J J J J J (fun _ _=>J) J (bh (xs:= [.tmp 13,.tmp 17]) (jN t.name vn ns hns) yJ [] [(false,1)] [] J J J J J J J J (fun _ _=>J) (fun _ _ _=>J)) (fun _ _=>be [7] J J (ad (aD J (ag J)) ay) J J J (ae (aa (aj (ac J) J (aj (bZ J) J (ai (ar J (fun h2=> ?_) (fun h2=> ?_))))))))))
   ·have qm:bX t.name ns=false:=by simpa using h2
    refine ae (aa (aj (ag J) J (ai (aw ?_))));refine aG () trivial J (bx (aH J)) (by rw [yv (show nE fs ns t=21 by rw [Kh q2,qm];rfl) (by decide)]) [] [] J J J
   ·have qm:bX t.name ns=true:=by simpa using h2
    refine az (aL () (fun _=>qm) J J J)
  ·have q2:¬t.kind=2:=of_decide_eq_false h1;refine az (aL () (fun h=>absurd h q2) J J J)
 ·refine bi (X:=Unit) (fun _=>nE fs ns t=0) (fun _=> [(0,.pointer (some ⟨c,0,none⟩)),(3,.pointer (some ⟨b3,0,none⟩))]) (fun _=> [(3,aY b3 61 (df t))]) (fun _=> [(0,aY c 128 [sv vp,sv vn]),(1,sl 1 eS (sv vn) ns),(2,cm vp fs),(3,bK t.v t.kids),(4,sl 3 iR (sv vp) fs),(5,sl 4 df (sv t.v) t.kids)]) ?_ (fun _ hn0=> ?_)
  ·refine ae (aa (aj (ah ix J) J (aj (ak t3 J J (ap (k:=3) J J)) J (aj (am J J aS) J (ai (ar J (fun h3=> ?_) (fun h3=> ?_)))))))
   ·have q3:t.kind=3:=of_decide_eq_true h3;refine ae (bA [24,25,26,27,28,29,30,6] _ J (aZ (V:= [(0,24,_),(1,25,_),(2,26,_),(3,27,_),(4,28,_),(5,29,_)]) [0,1,2,3,4,5] 6 [6,5,4,3,2,1,0] [7] (fun _=> [(7,6,_)]) J J (ad (aD J (ac J)) (ad (aD J (aq J)) (ad (aD J (ah Ap J)) (ad (aD J (aJ iZ J J J (KF (us:= [sv vp]) (k:=0) J J))) (ad (aD J (ah cN J)) (ad (aD J (ak t9 J J (ap (k:=3) J J))) ay)))))) J J J J J J J J J J J (fun _ _=>J) J (bh (xs:= [.tmp 27,.tmp 29]) (iz t.name vp fs hfl) EI [] [(false,4)] [] J J J J J J J J (fun _ _=>J) (fun _ _ _=>J)) (fun _ _=>be [7] J J (ad (aD J (ag J)) ay) J J J (ae (ae (aa (aj (ac J) J (aj (am J J b_) J (ai (ar J (fun h4=> ?_) (fun h4=> ?_)))))))))))
    ·have hff:ce fs t.name=none:=dC.1.1 (of_decide_eq_true h4);refine ae (aa (aj (ag J) J (ai (aw (aG () trivial J (bx (aH J)) (by rw [yv (tP q3 hff) (by decide)]) [] [] J J J)))))
    ·have hq1:¬qD fs t.name<0:=of_decide_eq_false h4;obtain⟨f,hff⟩:∃f,ce fs t.name=some f:=by
      cases hf:ce fs t.name with
      | none=>exact absurd (dC.1.2 hf) hq1
      | some f=>exact⟨f,rfl⟩
     obtain⟨m,hxm,hfx⟩:=dC.2 f hff;have hfm:=List.mem_of_getElem? hfx;have hml:m<fs.length:=(List.getElem?_eq_some_iff.1 hfx).1;rw [hxm];refine aQ 2 6 J (lr hfm) (aQ 6 7 J lu (az (ae (bA [33,34,35,36,37,38,39,40,41,42,43,44,45,46] _ J (be (V:= [(0,33,_),(1,34,_),(2,35,_),(3,36,_),(4,37,_),(5,38,_),(6,39,_),(7,40,_),(8,41,_),(9,42,_),(10,43,_),(11,44,_),(12,45,_),(13,46,_)]) [0,1,2,3,4,5,6,7,8,9,10,11,12,13] J J (ad (aD J (ac J)) (ad (aD J (aq J)) (ad (aD J (ah Ap J)) (ad (aD J (ah cV J)) (ad (aD J (ak mj J J (cz (k:=0) J J))) (ad (aD J (ac J)) (ad (aD J (aN (j:=m) Tryz.underlying25 fX J J (aK (k:=4) J) J hml)) (ad (aD J (dj dr J)) (ad (aD J (ak gm J J (iO (aK (k:=4) J) (by intro _;rfl) hfx J))) (ad (aD J (aO Tryz.underlying46 J (aK (k:=7) J))) (ad (aD J (ah cU J)) (ad (aD J (ak ic J J (ap (k:=3) J J))) (ad (aD J (aO Tryz.underlying59 J (aK (k:=5) J))) (ad (aD J (am J J cW)) ay)))))))))))))) J J J (ar J (fun h5=> ?_) (fun h5=> ?_)))))))
     ·(try simp only [aV]at h5)
      have hpl:¬f.ps.length=t.kids.length:=by omega
      refine ae (aa (aj (ag J) J (ai (aw ?_))));refine aG () trivial J (bx (aH J)) (by rw [yv (show nE fs ns t=23 by rw [mI q3 hff,if_neg hpl]) (by decide)]) [] [] J J J
     ·(try simp only [aV]at h5)
      have hpl:f.ps.length=t.kids.length:=by omega
      refine az (aL () (by rw [mI q3 hff,if_pos hpl]) J J J)
   ·have q3:¬t.kind=3:=of_decide_eq_false h3;refine az (aL () (by by_cases q2:t.kind=2;rw [Kh q2,if_pos (hm2 q2)];exact M4 q2 q3) J J J)
  ·refine ae (ae (aa (aj (ag J) J (ai (aB (bk (X:=Nat) (fun i=>i≤t.kids.length∧iA fs ns (t.kids.take i)=0) (fun i=> [(0,.pointer (some ⟨c,0,none⟩)),(3,.pointer (some ⟨b3,0,none⟩)),(7,.int .i64 (i:Int))]) (fun i=> [(3,aY b3 61 (df t))]) (fun i=> [(0,aY c 128 [sv vp,sv vn]),(1,sl 1 eS (sv vn) ns),(2,cm vp fs),(3,bK t.v t.kids),(4,sl 3 iR (sv vp) fs),(5,sl 4 df (sv t.v) t.kids)]) (fun i=>t.kids.length-i) 0 ⟨Nat.zero_le _,J⟩ J J J (fun i hx0=> ?_)))))));obtain⟨n1,n2⟩:=hx0;refine ae (ae (aa (aj (ac J) J (aj (ah cU J) J (aj (ak ic J J (ap (k:=3) J J)) J (aj (aO Tryz.underlying59 J (aK (k:=5) J)) J (aj (am J J b_) J (ai (ar J (fun h6=> ?_) (fun h6=> ?_))))))))))
   ·(try simp only [aV]at h6)
    have hi:i<t.kids.length:=by omega
    obtain⟨u,hu⟩:∃u,t.kids[i]?=some u:=⟨_,List.getElem?_eq_getElem hi⟩
    have hum:=List.mem_of_getElem? hu;refine az (ae (aB (ae (aa (aj (ac J) J (aj (ah cU J) J (aj (ak ic J J (ap (k:=3) J J)) J (aj (ac J) J (aj (aN (j:=i) Tryz.underlying59 cg J J (aK (k:=5) J) (by first|rfl|omega) (by first|omega|(simp;done)|(simp;omega))) J (aj (aJ cg J J J (bv (aK (k:=5) J) (by intro _;rfl) hu (by rfl))) J (aQ 3 9 J (cH hum) (au (xs:= [.tmp 54,.tmp 59]) (ih u hum) ES [] [(false,0),(false,1),(false,2),(false,9)] [] J J J J J J J J (fun _ _=>J) (fun _ _ _=>J) J (fun _ _=>aj (ag J) J ?_)))))))))))));refine ai (ae (aa (aj (ac J) J (aj (am J J cW) J (ai (ar J (fun h7=> ?_) (fun h7=> ?_)))))))
    ·(try simp only [aV]at h7)
     have hct:eX fs ns u≠0:=h7;refine ae (aa (aj (ac J) J (aj (ag J) J (ai (aw (aG () trivial J (bx (aH J)) (by rw [Au hn0 (uj hu n2 hct)]) [] [] J J J))))))
    ·(try simp only [aV]at h7)
     have hcf:eX fs ns u=0:=h7;refine az (aa (aj (ac J) J (aj (am J J (aX (by first|exact aU (by omega) (by omega)|rfl))) J (aj (ag J) J (ai ?_)))));refine aL (i+1) ⟨⟨by omega,by rw [kB hu,n2,hcf];rfl⟩,by omega⟩ J J J
   ·(try simp only [aV]at h6)
    have hi:i=t.kids.length:=by omega
    subst hi;rw [List.take_length]at n2;refine bn (ae (aa (aj (ag J) J (ai (aw (aG () trivial J (bx (aH J)) (by rw [Au hn0 n2]) [] [] J J J))))))
theorem CH(c:Nat)(vp vn:SV)(fs:List Tf)(ns:List ByteArray)(hfl:fs.length≤1000000)(hns:ns.length≤1000000):∀(n:Nat)(t:Tx),SizeOf.sizeOf t<n→GX t→Rr c vp vn fs ns t
 | 0,_,h,_=>absurd h (Nat.not_lt_zero _)
 | n+1,t,h,ht=>FU c vp vn fs ns hfl hns t (kE ht) fun u hu=>CH c vp vn fs ns hfl hns n u (by have:=ob hu;omega) ((iT ht).mem u hu)
theorem FV(c:Nat)(vp vn:SV)(fs:List Tf)(ns:List ByteArray)(hfl:fs.length≤1000000)(hns:ns.length≤1000000)(t:Tx)(ht:GX t):Rr c vp vn fs ns t:=CH c vp vn fs ns hfl hns _ t (Nat.lt_succ_self _) ht
structure Sb where
 fr:Vs
 vN:SV
 vV:SV
 done:Bool
 val:Int
 x:Sx
def lp(e:Rn)(r:Re (Vs×Option Int))(y:Sb):Prop:=(∃vs ro s vo,r= .ok (vs,ro) s∧y.x=xS e s vo∧FrEq y.fr vs∧(y.fr.length:Int)+max s.fuel 0≤1000001000000∧y.done=ro.isSome∧y.val=ro.getD 0)∨(y.x.er≠0∧r= .err y.x.er)
abbrev LB(e:Rn)(b d:Nat)(y:Sb):List Asn:= [aY e.m 204 (j8 e y.x),own 41 1 eU (sv y.x.vo) y.x.out,aY b 232 (fC y.vN y.vV (d:Int) y.done y.val),own 9 1 eS (sv y.vN) (rK y.fr),own 41 1 eU (sv y.vV) (td y.fr)]
structure RkB(e:Rn)(fr vs:Vs)(s:Ms):Prop where
 k:RkE e s
 v:okVs vs
 f:FrEq fr vs
 n:(fr.length:Int)+max s.fuel 0≤1000001000000
def OT(e:Rn)(g:Nat):Prop:=∀(l:List Ty)(v:SV)(d b:Nat)(vN vV:SV)(fr vs:Vs)(s:Ms)(vo:SV)(r:Re (Vs×Option Int)),VYs e.fs l→l.length≤1000000→d≤12→RkB e fr vs s→fA g e.fs d vs l s=some r→
 Spec Tryz.prog 146 [.pointer (some ⟨e.m,0,none⟩),.pointer (some ⟨b,0,none⟩),sv v] (LB e b d ⟨fr,vN,vV,false,0,xS e s vo⟩) [bz v l,cm e.vp e.fs,sl 1 eU (sv e.vin) e.ins] (X:=Sb) (lp e r) (fun _=> .tuple #[]) (fun y=>LB e b d y) (fun _=> [])
def RO(e:Rn)(g:Nat):Prop:=∀(t:Ty)(d b:Nat)(vN vV:SV)(fr vs:Vs)(s:Ms)(vo:SV)(r:Re (Vs×Option Int)),VY e.fs t→d≤12→RkB e fr vs s→gB g e.fs d vs t s=some r→
 Spec Tryz.prog 178 [.pointer (some ⟨e.m,0,none⟩),.pointer (some ⟨b,0,none⟩),yV t] (LB e b d ⟨fr,vN,vV,false,0,xS e s vo⟩) [bK t.ve t.es,bz t.vb t.body,bz t.vl t.els,cm e.vp e.fs,sl 1 eU (sv e.vin) e.ins] (X:=Sb) (lp e r) (fun _=> .tuple #[]) (fun y=>LB e b d y) (fun _=> [])
theorem px:∀(ps:List ByteArray)(al:List Int)(vs:Vs)(i:Nat)(p:ByteArray)(a:Int),ps[i]?=some p→al[i]?=some a→dD vs (ps.take (i+1)) (al.take (i+1))=dV (dD vs (ps.take i) (al.take i)) p a
 | [],_,_,_,_,_,h,_=>by simp at h
 | _::_,[],_,_,_,_,_,h=>by simp at h
 | q::ps,c::al,vs,0,p,a,h1,h2=>by
  cases h1;cases h2;rfl
 | q::ps,c::al,vs,i+1,p,a,h1,h2=>by
  rw [List.take_succ_cons,List.take_succ_cons,List.take_succ_cons,List.take_succ_cons];show dD (dV vs q c) _ _=dV (dD (dV vs q c) _ _) p a;exact px ps al (dV vs q c) i p a h1 h2
theorem r9:∀(ps:List ByteArray)(al:List Int)(vs:Vs),dD vs (ps.take al.length) al=dD vs ps al
 | [],[],_=>rfl
 | [],_::_,_=>rfl
 | q::ps,[],_=>rfl
 | q::ps,c::al,vs=>by
  rw [List.length_cons,List.take_succ_cons];show dD (dV vs q c) _ _=dD (dV vs q c) ps al;exact r9 ps al _
structure Yf where
 i:Nat
 fr:Vs
 vN:SV
 vV:SV
structure Yb where
 i:Nat
 g:Nat
 y:Sb
def BIn(e:Rn)(g d:Nat)(l:List Ty)(y:Sb)(r:Re (Vs×Option Int)):Prop:=(∃vs s vo,y.x=xS e s vo∧RkB e y.fr vs s∧y.done=false∧y.val=0∧fA g e.fs d vs l s=some r)∨((y.done=true∨y.x.er≠0)∧lp e r y)
theorem BIn.done{e:Rn}{g d:Nat}{y:Sb}{r:Re (Vs×Option Int)}(h:BIn e g d [] y r):lp e r y:=by
 rcases h with⟨vs,s,vo,h1,h2,h3,h4,h5⟩|h
 ·exact .inl ⟨vs,none,s,vo,Hu h5,h1,h2.f,h2.n,h3,h4⟩
 ·exact h.2
theorem BIn.stop{e:Rn}{g d:Nat}{l:List Ty}{y:Sb}{r:Re (Vs×Option Int)}(h:BIn e g d l y r)(hs:y.done=true∨y.x.er≠0):lp e r y:=by
 rcases h with⟨vs,s,vo,h1,h2,h3,h4,h5⟩|h
 ·rcases hs with hs|hs
  ·rw [h3]at hs;cases hs
  ·rw [h1]at hs;exact absurd J hs
 ·exact h.2
theorem BIn.step{e:Rn}{g d:Nat}{t:Ty}{l:List Ty}{y:Sb}{r:Re (Vs×Option Int)}(hF:VF e.fs)(ht:VY e.fs t)(h:BIn e g d (t::l) y r)(hd:y.done=false)(he:y.x.er=0):
  ∃g2 q vs s vo,g=g2+1∧y.x=xS e s vo∧RkB e y.fr vs s∧y.val=0∧gB g2 e.fs d vs t s=some q∧∀z,lp e q z→BIn e g2 d l z r:=by
 rcases h with⟨vs,s,vo,h1,h2,h3,h4,h5⟩|⟨h,_⟩
 ·obtain⟨g2,q,hg,hx,hre,hrs,hrn⟩:=Em h5;refine⟨g2,q,vs,s,vo,hg,h1,h2,h4,hx,fun z hz=> ?_⟩;rcases hz with⟨vs1,ro,s1,vo1,z1,z2,z3,z4,z5,z6⟩|⟨z1,z2⟩
  ·rw [z1]at hx;obtain⟨k1,k2,k3⟩:=(em hF g2).s d vs t s _ s1 ht h2.v h2.k.ok hx;cases ro with
   | none=>exact .inl ⟨vs1,s1,vo1,z2,⟨h2.k.kp k3,k1,z3,z4⟩,z5,z6,hrn vs1 s1 z1⟩
   | some x=>exact .inr ⟨.inl z5,.inl ⟨vs1,some x,s1,vo1,hrs vs1 x s1 z1,z2,z3,z4,z5,z6⟩⟩
  ·exact .inr ⟨.inr z1,.inr ⟨z1,hre _ z2⟩⟩
 ·rcases h with h|h
  ·rw [hd]at h;cases h
  ·exact absurd he h
theorem HL(e:Rn)(g:Nat)(hF:VF e.fs)(hfl:e.fs.length≤1000000)(ihB:OT e g)(nm:ByteArray)(f:Tf)(d:Nat)(va:SV)(al:List Int)(s:Ms)(vo:SV)(r:Re Int)(hff:ce e.fs nm=some f)(hal:al.length≤f.ps.length)(hao:∀a∈al,oW a)(hd:d≤12)(hs:RkE e s)(hr:jS (g+1) e.fs d f al s=some r)(h12:d=12):
  Spec Tryz.prog 114 [.pointer (some ⟨e.m,0,none⟩),.string nm,sv va,.int .i64 ((d:Int)+1)] (LX e (xS e s vo)) ([sl 1 eU (sv va) al,cm e.vp e.fs,sl 1 eU (sv e.vin) e.ins]) (X:=Int×Sx) (q_ e r) (fun y=> .int .u32 y.1) (fun y=>LX e y.2) (fun _=> []):=by
 refine aF Tryz.func114 J Tryz.ntmps114 J fun w0 M H=> ?_
 unfold jS at hr;rw [if_pos h12]at hr;refine ae (aa (aj (ag J) J (ai (ae (ae (aa (aj (ac J) J (aj (am J J dL) J (ai (ar J (fun h1=> ?_) (fun h1=> ?_)))))))))))
 ·(try simp only [aV]at h1)
  refine ae (aa (aj (ac J) J (aj (aq J) J (aj (ah fh J) J (aI (k:=0) ni J J J J J J (s_ (by decide)) (uG) (ai (ae (aa (aj (ag J) J (ai (aw ?_)))))))))));refine aG (0,{xS e s vo with er:=26}) (.inr ⟨by show(26:Int)≠0;decide,(Option.some.inj hr).symm⟩) J (bx (aH J)) J [0,1] [] J J J
 ·exact absurd (of_decide_eq_false h1) (by omega)
theorem OD(e:Rn)(g:Nat)(hF:VF e.fs)(hfl:e.fs.length≤1000000)(ihB:OT e g)(nm:ByteArray)(f:Tf)(d:Nat)(va:SV)(al:List Int)(s:Ms)(vo:SV)(r:Re Int)(hff:ce e.fs nm=some f)(hal:al.length≤f.ps.length)(hao:∀a∈al,oW a)(hd:d≤12)(hs:RkE e s)(hr:jS (g+1) e.fs d f al s=some r)(h12:¬d=12):
  Spec Tryz.prog 114 [.pointer (some ⟨e.m,0,none⟩),.string nm,sv va,.int .i64 ((d:Int)+1)] (LX e (xS e s vo)) ([sl 1 eU (sv va) al,cm e.vp e.fs,sl 1 eU (sv e.vin) e.ins]) (X:=Int×Sx) (q_ e r) (fun y=> .int .u32 y.1) (fun y=>LX e y.2) (fun _=> []):=by
 refine aF Tryz.func114 J Tryz.ntmps114 J fun w0 M H=> ?_
 unfold jS at hr;rw [if_neg h12]at hr;obtain⟨rb,hb⟩:∃rb,fA g e.fs (d+1) (dD [] f.ps al) f.body s=some rb:=by
  cases h:fA g e.fs (d+1) (dD [] f.ps al) f.body s with
  | none=>rw [h]at hr;simp at hr
  | some q=>exact⟨q,rfl⟩
 rw [hb]at hr;obtain⟨m,hfx,hfm⟩:=dC.2 f hff;have hfm2:=List.mem_of_getElem? hfm;have hml:m<e.fs.length:=(List.getElem?_eq_some_iff.1 hfm).1;obtain⟨hF1,hF2,hF3⟩:=hF f hfm2;have hso:=hs.ok.out;refine aQ 1 3 J jm (aQ 1 4 J (lr hfm2) (aQ 4 5 J lu (aQ 4 6 J jn (ae (aa (aj (ag J) J (ai (ae (ae (aa (aj (ac J) J (aj (am J J dL) J (ai ?_)))))))))))));refine ar J (fun h1=> ?_) (fun h1=> ?_)
 ·exact absurd (of_decide_eq_true h1) (by omega)
 ·(try simp only [aV]at h1)
  refine az (bi (X:=Nat) (fun _=>True) (fun b9=> [(0,.pointer (some ⟨e.m,0,none⟩)),(2,sv va),(3,.int .i64 ((d:Int)+1)),(9,.pointer (some ⟨b9,0,none⟩))]) (fun b9=> [(0,aY e.m 204 (j8 e (xS e s vo))),(1,own 41 1 eU (sv vo) s.out),(9,aY b9 66 (iR f))]) (fun b9=> [(0,sl 1 eU (sv va) al),(1,cm e.vp e.fs),(2,sl 1 eU (sv e.vin) e.ins),(3,sl 3 iR (sv e.vp) e.fs),(4,y_ f),(5,sl 1 eS (sv f.vp) f.ps),(6,bz f.vb f.body)]) ?_ (fun b9 _=> ?_))
  ·refine bA [17,18,19,20,21,22,23,24,25,26,27,28,29,9] _ J (fS (V:= [(0,17,_),(1,18,_),(2,19,_),(3,20,_),(4,21,_),(5,22,_),(6,23,_),(7,24,_),(8,25,_),(9,26,_)]) [0,1,2,3,4,5,6,7,8,9] J J (ad (aD J (ac J)) (ad (aD J (aq J)) (ad (aD J (ah jE J)) (ad (aD J (ah cV J)) (ad (aD J (ak mj J J (ap (k:=0) J J))) (ad (aD J (ac J)) (ad (aD J (aq J)) (ad (aD J (ah jE J)) (ad (aD J (aJ iZ J J J (jd (us:= [sv e.vp]) (k:=0) J J))) (ad (aD J (ac J)) ay)))))))))) J [10,13] J J (dx (eu 10 [10,9,8,7,6,5] [11,12] (fun _=> [(11,28,_),(12,29,_)]) J J J J J J J J J (fun _ _=>J) J (bh (xs:= [.tmp 25,.tmp 26]) (iz nm e.vp e.fs hfl) EI [] [(false,3)] [] J J J J J J J J (fun _ _=>J) (fun _ _ _=>J)) (fun _ _=>aZ [11,12,0,1,2,3,4] 13 [13,10,9,8,7,6,5] [] (fun b9=> []) J J (ad (aD J (aN (j:=m) Tryz.underlying25 fX J J (aK (k:=3) J) hfx hml)) (ad (aD J (aJ fX J J J (bv (aK (k:=3) J) (by intro _;rfl) hfm (by rfl)))) (ad (aD J (ac J)) (ad (aD J (aq J)) (ad (aD J (ah jE J)) (ad (aD J (ah cV J)) (ad (aD J (ak mj J J (ap (k:=0) J J))) ay))))))) J J J J J J J J J J J (fun _ _=>J) J (dZ fX J) (fun b9 _=>bB [11,12,0,1,2,3,4] 14 [14,13,12,11,10,9,8,7,6,5,4,3,2,1,0] [] (fun _=> []) J J (ad (aD J (aN (j:=m) Tryz.underlying25 fX J J (aK (k:=3) J) hfx hml)) (ad (aD J (aJ fX J J J (bv (aK (k:=3) J) (by intro _;rfl) hfm (by rfl)))) (ad (aD J (ac J)) (ad (aD J (aq J)) (ad (aD J (ah jE J)) (ad (aD J (ah cV J)) (ad (aD J (ak mj J J (ap (k:=0) J J))) ay))))))) J J J J J J J J J (fun _ _=>J) J (bE (k:=9) fX J J J J J J) (fun _ _=>be [] J J ay J J J ?_)))) (dx (eu 13 [13] [] (fun b9=> []) J J J J J J J J J (fun _ _=>J) J (dZ fX J) (fun b9 _=>aZ [0,1,2,3,4,5,6,7,8,9] 10 [13,10,9,8,7,6,5] [11,12] (fun _=> [(11,28,_),(12,29,_)]) J J (ad (aD J (ac J)) (ad (aD J (aq J)) (ad (aD J (ah jE J)) (ad (aD J (ah cV J)) (ad (aD J (ak mj J J (ap (k:=0) J J))) (ad (aD J (ac J)) (ad (aD J (aq J)) (ad (aD J (ah jE J)) (ad (aD J (aJ iZ J J J (jd (us:= [sv e.vp]) (k:=0) J J))) (ad (aD J (ac J)) ay)))))))))) J J J J J J J J J J J (fun _ _=>J) J (bh (xs:= [.tmp 25,.tmp 26]) (iz nm e.vp e.fs hfl) EI [] [(false,3)] [] J J J J J J J J (fun _ _=>J) (fun _ _ _=>J)) (fun _ _=>bB [11,12,0,1,2,3,4] 14 [14,13,12,11,10,9,8,7,6,5,4,3,2,1,0] [] (fun _=> []) J J (ad (aD J (aN (j:=m) Tryz.underlying25 fX J J (aK (k:=3) J) hfx hml)) (ad (aD J (aJ fX J J J (bv (aK (k:=3) J) (by intro _;rfl) hfm (by rfl)))) (ad (aD J (ac J)) (ad (aD J (aq J)) (ad (aD J (ah jE J)) (ad (aD J (ah cV J)) (ad (aD J (ak mj J J (ap (k:=0) J J))) ay))))))) J J J J J J J J J (fun _ _=>J) J (bE (k:=9) fX J J J J J J) (fun _ _=>be [] J J ay J J J ?_)))) ju)))
   ·refine aL b9 trivial J J J
   ·refine aL b9 trivial J J J
  ·refine ae (aa (aj (ac J) J (aj (aP (parts:= [(2,.tmp 30)]) PD MD J J) J (bN J J fun b32=>aj (ag J) J (ai (ae (ae (aa (aj (ag J) J (ai (aB (cA 33 (α:=ByteArray) (S:=9) (s:=1) (enc:=eS) ?_))))))))))));refine cA 34 (α:=Int) (S:=41) (s:=1) (enc:=eU) (bk (X:=Yf) (fun z=>z.i≤al.length∧FrEq z.fr (dD [] (f.ps.take z.i) (al.take z.i))∧z.fr.length≤z.i) (fun z=> [(0,.pointer (some ⟨e.m,0,none⟩)),(2,sv va),(3,.int .i64 ((d:Int)+1)),(9,.pointer (some ⟨b9,0,none⟩)),(10,.pointer (some ⟨b32,0,none⟩)),(11,.int .i64 (z.i:Int))]) (fun z=> [(0,aY e.m 204 (j8 e (xS e s vo))),(1,own 41 1 eU (sv vo) s.out),(9,aY b9 66 (iR f)),(32,aY b32 232 (fC z.vN z.vV ((d:Int)+1) false 0)),(33,own 9 1 eS (sv z.vN) (rK z.fr)),(34,own 41 1 eU (sv z.vV) (td z.fr))]) (fun z=> [(0,sl 1 eU (sv va) al),(1,cm e.vp e.fs),(2,sl 1 eU (sv e.vin) e.ins),(3,sl 3 iR (sv e.vp) e.fs),(4,y_ f),(5,sl 1 eS (sv f.vp) f.ps),(6,bz f.vb f.body)]) (fun z=>al.length-z.i) ⟨0,[],bw,bw⟩ ⟨Nat.zero_le _,fun _=>J,Nat.le_refl _⟩ J J J (fun z hz0=> ?_));obtain⟨i,fr,vN,vV⟩:=z;obtain⟨n1,n2,n3⟩:=hz0;dsimp only at n1 n2 n3 ⊢;refine ae (ae (aa (aj (ac J) J (aj (ac J) J (aj (aO Tryz.underlying48 J (aK (k:=0) J)) J (aj (am J J b_) J (ai (ar J (fun h2=> ?_) (fun h2=> ?_)))))))))
   ·(try simp only [aV]at h2)
    have hi:i<al.length:=by omega
    obtain⟨a,ha⟩:∃a,al[i]?=some a:=⟨_,List.getElem?_eq_getElem hi⟩
    obtain⟨p,hp⟩:∃p,f.ps[i]?=some p:=⟨_,List.getElem?_eq_getElem (by omega)⟩
    refine az (ae (aB ?_));refine bA [39,40,41,42,43,44,45,46,47,48,49] _ J (aZ (V:= [(0,39,_),(1,40,_),(2,41,_),(3,42,_),(4,43,_),(5,44,_),(6,45,_),(7,46,_),(8,47,_),(9,48,_)]) [0,1,2,3,4,5,6,7,8,9] 10 [10,9,8,7,6,5,4,3,2,1,0] [] (fun y=> []) J J (ad (aD J (ac J)) (ad (aD J (ah dr J)) (ad (aD J (ak gm J J (ap (k:=9) J J))) (ad (aD J (ac J)) (ad (aD J (aN (j:=i) Tryz.underlying46 t9 J J (aK (k:=5) J) (by first|rfl|omega) (by first|omega|(simp;done)|(simp;omega)))) (ad (aD J (ak t9 J J (bv (aK (k:=5) J) (by intro _;rfl) hp (by rfl)))) (ad (aD J (ac J)) (ad (aD J (ac J)) (ad (aD J (aN (j:=i) Tryz.underlying48 cr J J (aK (k:=0) J) (by first|rfl|omega) (by first|omega|(simp;done)|(simp;omega)))) (ad (aD J (ak cr J J (bv (aK (k:=0) J) (by intro _;rfl) ha (by rfl)))) ay)))))))))) J J J J J J J J J J J (fun _ _=>J) J (bh (xs:= [.tmp 39,.tmp 44,.tmp 48]) (nF b32 vN vV ((d:Int)+1) false 0 fr (by omega) p a) EN [32,33,34] [] [32,33,34] J J J J J J J J (fun _ _=>J) (fun _ _ _=>J)) (fun y _=>be [] J J ay J J J ?_));refine aa (aj (ac J) J (aj (am J J (aX (by first|exact aU (by omega) (by omega)|rfl))) J (aj (ag J) J (ai ?_))));refine aL ⟨i+1,ky fr p a,y.1,y.2⟩ ⟨⟨by dsimp only;omega,by dsimp only;rw [px _ _ _ _ _ _ hp ha];exact n2.put p a,by dsimp only;have:=qz fr p a;omega⟩,by dsimp only;omega⟩ J J J
   ·(try simp only [aV]at h2)
    have hi:i=al.length:=by omega
    subst hi;rw [List.take_length,r9]at n2;have hk2:RkB e fr (dD [] f.ps al) s:=⟨hs,okVs.bind _ _ (fun p hp=>by simp at hp) hao,n2,by omega⟩
    refine bn (ae (aa (aj (ac J) J (aj (ac J) J (aj (ah iw J) J (aj (ak gZ J J (ap (k:=9) J J)) J (au (xs:= [.tmp 50,.tmp 51,.tmp 53]) (ihB f.body f.vb (d+1) b32 vN vV fr (dD [] f.ps al) s vo rb hF3 hF2 (by omega) hk2 hb) AD [0,1,32,33,34] [(false,6),(false,1),(false,2)] [0,1,32,33,34] J J J J J J J J (fun _ _=>J) (fun _ _ _=>J) J (fun y hy=>ai (ae (aa (aj (ac J) J (aj (aq J) J (aj (ah Ad J) J ?_)))))))))))));refine aj (ak cr J J (ap (k:=32) J J)) J (aj (ag J) J (ai (aw ?_)));have hfin:q_ e r (y.val,y.x):=by
     rcases hy with⟨vs1,ro,s1,vo1,z1,z2,z3,z4,z5,z6⟩|⟨z1,z2⟩
     ·rw [z1]at hr;refine .inl ⟨s1,vo1,?_,z2⟩;rw [←Option.some.inj hr,z6]
     ·rw [z2]at hr;exact .inr ⟨z1,(Option.some.inj hr).symm⟩
    refine aG (y.val,y.x) hfin J (bx (aH J)) J [0,1] [] J J J
theorem HN(e:Rn)(g:Nat)(hF:VF e.fs)(ihS:∀k,k≤g→RO e k)(l:List Ty)(v:SV)(d b:Nat)(vN vV:SV)(fr vs:Vs)(s:Ms)(vo:SV)(r:Re (Vs×Option Int))(hl:VYs e.fs l)(hll:l.length≤1000000)(hd:d≤12)(hk:RkB e fr vs s)(hr:fA (g+1) e.fs d vs l s=some r):
  Spec Tryz.prog 146 [.pointer (some ⟨e.m,0,none⟩),.pointer (some ⟨b,0,none⟩),sv v] (LB e b d ⟨fr,vN,vV,false,0,xS e s vo⟩) ([bz v l,cm e.vp e.fs,sl 1 eU (sv e.vin) e.ins]) (X:=Sb) (lp e r) (fun _=> .tuple #[]) (fun y=>LB e b d y) (fun _=> []):=by
 refine aF Tryz.func146 J Tryz.ntmps146 J fun w0 M H=>aQ 0 7 J fL (ae (aa (aj (ag J) J (ai (aB (bk (X:=Yb) (fun z=>z.i≤l.length∧z.g≤g+1∧BIn e z.g d (l.drop z.i) z.y r) (fun z=> [(0,.pointer (some ⟨e.m,0,none⟩)),(1,.pointer (some ⟨b,0,none⟩)),(2,sv v),(6,.int .i64 (z.i:Int))]) (fun z=> [(0,aY e.m 204 (j8 e z.y.x)),(1,own 41 1 eU (sv z.y.x.vo) z.y.x.out),(2,aY b 232 (fC z.y.vN z.y.vV (d:Int) z.y.done z.y.val)),(3,own 9 1 eS (sv z.y.vN) (rK z.y.fr)),(4,own 41 1 eU (sv z.y.vV) (td z.y.fr))]) (fun z=> [(0,bz v l),(1,cm e.vp e.fs),(2,sl 1 eU (sv e.vin) e.ins),(7,sl 5 ec (sv v) l)]) (fun z=>l.length-z.i) ⟨0,g+1,⟨fr,vN,vV,false,0,xS e s vo⟩⟩ ⟨Nat.zero_le _,Nat.le_refl _,.inl ⟨vs,s,vo,J,hk,J,J,hr⟩⟩ J J J (fun z hz0=> ?_)))))))
 obtain⟨i,gz,y⟩:=z;obtain⟨n1,n2,n3⟩:=hz0;dsimp only at n1 n2 n3 ⊢;refine ae (ae (aa (aj (ac J) J (aj (ac J) J (aj (aO Tryz.underlying62 J (aK (k:=7) J)) J (aj (am J J b_) J (aj (ac J) J (aA [] J J trivial (fun hg1=>ac J) J (aA [(12,_)] J J ⟨J,trivial⟩ (fun hg2=>aq J) J (aA [(12,_),(13,_)] J J ⟨J,J,trivial⟩ (fun hg3=>ah fh J) J (aA [(12,_),(13,_),(14,_)] J J ⟨J,J,J,trivial⟩ (fun hg4=>ak ni J J (ap (k:=0) J j9)) J (aA [(12,_),(13,_),(14,_),(15,_)] J J ⟨J,J,J,J,trivial⟩ (fun hg5=>am J J aS) J (aj (aM J J J (by first|exact ax|exact aC|rfl)) J ?_)))))))))))));refine aj (ac J) J (aA [] J J trivial (fun hg6=>ac J) J (aA [(19,_)] J J ⟨J,trivial⟩ (fun hg7=>aq J) J (aA [(19,_),(20,_)] J J ⟨J,J,trivial⟩ (fun hg8=>ah oY J) J (aA [(19,_),(20,_),(21,_)] J J ⟨J,J,J,trivial⟩ (fun hg9=>ak t4 J J (ap (k:=2) J J)) J (aA [(19,_),(20,_),(21,_),(22,_)] J J ⟨J,J,J,J,trivial⟩ (fun hg10=>bZ J) J (aj (aM J J J (by first|exact ax|exact aC|rfl)) J (ai (ar J (fun h11=> ?_) (fun h11=> ?_)))))))))
 ·(try simp only [aV]at h11)
  obtain⟨fr1,vN1,vV1,dn,val,x1⟩:=y;obtain⟨⟨hi0,he0⟩,hd0⟩:=h11;have hi:i<l.length:=by omega
  obtain⟨st,hst⟩:∃k,l[i]?=some k:=⟨_,List.getElem?_eq_getElem hi⟩
  have hm:=List.mem_of_getElem? hst;have hvy:=hl.mem st hm;rw [wn hst]at n3;obtain⟨g2,q,vs1,sx,vox,rfl,hx1,hk1,hval,hx,hstep⟩:=n3.step hF hvy hd0 he0;dsimp only at hx1 hk1 hval hd0;subst hx1 hval hd0;refine az (ae (aB (aa (aj (ac J) J (aj (ac J) J (aj (ac J) J (aj (ac J) J (aj (aN (j:=i) Tryz.underlying62 dA J J (aK (k:=7) J) (by first|rfl|omega) (by first|omega|(simp;done)|(simp;omega))) J (aj (aJ dA J J J (bv (aK (k:=7) J) (by intro _;rfl) hst (by rfl))) J (aQ 0 20 J (jl hm) (aQ 0 21 J (fv hm) (aQ 0 22 J (gl hm) (au (xs:= [.tmp 27,.tmp 28,.tmp 32]) (ihS g2 (by omega) st d b vN1 vV1 fr1 vs1 sx vox q hvy hd hk1 hx) N0 [0,1,2,3,4] [(false,20),(false,21),(false,22),(false,1),(false,2)] [0,1,2,3,4] J J J J J J J J (fun _ _=>J) (fun _ _ _=>J) J (fun y hy=> ?_))))))))))))));refine ai (aa (aj (ac J) J (aj (am J J (aX (by first|exact aU (by omega) (by omega)|rfl))) J (aj (ag J) J (ai ?_)))));refine aL ⟨i+1,g2,y⟩ ⟨⟨by dsimp only;omega,by dsimp only;omega,hstep y hy⟩,by dsimp only;omega⟩ J J J
 ·(try simp only [aV]at h11)
  have hfin:lp e r y:=by
   rcases h11 with(h|h)|h
   ·have hi:i=l.length:=by omega
    rw [List.drop_of_length_le (by omega)]at n3;exact n3.done
   ·exact n3.stop (.inr h)
   ·exact n3.stop (.inl h)
  refine bn (bO y hfin J eW J [0,1,2,3,4] [] J J J)
end Go.Proofs.YtedmdgbmdplifaaGreat
