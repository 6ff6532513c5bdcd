/-
  Part of the proof: the texts EG, PA, EH, EI, EJ, S0, S1, R1, R2, R3, R4, shortened. Conditions are with the theorems.
-/
import Derived.Test.YtedmdgbmdplifaaGreatXCa
import Derived.Test.YtedmdgbmdplifaaGreatXCb
import Derived.Test.YtedmdgbmdplifaaGreatXCc
import Derived.Test.YtedmdgbmdplifaaGreatXCd
set_option maxHeartbeats 32000000
set_option maxRecDepth 100000
namespace Go.Proofs.YtedmdgbmdplifaaGreat
set_option linter.unusedSimpArgs false
set_option linter.unusedVariables false
open Go.RowKit Tryz
def sR(pc:Int)(r:Int→Int)(st:Int):List Value:= .int .u32 pc::((List.range 16).map (fun k=>Value.int .u32 (r ((k:Nat):Int)))++ [.int .u32 0,.int .u32 0,.int .u32 0,.int .u32 0,.int .u32 0,.int .i64 st,.int .i64 0])
def oe(pc:Int)(r:Int→Int)(st:Int)(m:Nat):List Value:=sR pc r st++ [.pointer (some ⟨m,0,none⟩)]
def oJ:Int→Int:=fun _=>0
theorem Bb(n:Nat)(hn:n≤4096):
  Spec prog 74 [.int .i64 (n:Int),.bool false] [] [] (X:=Me) (fun _=>True) (fun e=> .pointer (some ⟨e.m,0,none⟩)) (fun e=> [bj e.m 157 (mR e),own 5 1 bZ (sv e.vd) ((⟨List.replicate (256*n) 0,List.replicate (256*n) 0,List.replicate n 0⟩:Mm)).d,own 5 1 bZ (sv e.vi) ((⟨List.replicate (256*n) 0,List.replicate (256*n) 0,List.replicate n 0⟩:Mm)).i,own 3 1 eI (sv e.vr) ((⟨List.replicate (256*n) 0,List.replicate (256*n) 0,List.replicate n 0⟩:Mm)).r]) (fun _=> []):=by
 refine aI func74 J ntmps74 J fun w0 M H=>aj (ai J J (aG J (ad J J (aO (y_ (c:=(n:Int)) J J (by omega)) J (aO (pN (c:=(n:Int)) J J (by omega)) J (ai J J (ac (br (X:=Nat×SV×SV×SV) (fun _=>True) (fun x=> [(1,.bool false),(5,.int .i64 (n:Int)),(6,.pointer (some ⟨x.1,0,none⟩))]) (fun x=> [(20,bj x.1 157 [sv x.2.1,.slice none 0 0,sv x.2.2.1,.slice none 0 0,sv x.2.2.2,.bool false]),(12,own 5 1 bZ (sv x.2.1) (List.replicate (256*n) 0)),(17,own 3 1 eI (sv x.2.2.2) (List.replicate n 0))]) (fun x=> []) ?_ (fun x _=> ?_)))))))))
 ·refine bH [10,11,12,13,14,15,16,17,18,19,20,6] _ J (fZ (V:= [(0,10,_),(1,11,_),(3,13,_),(4,14,_),(6,16,_),(8,18,_)]) [0,1,3,4,6,8] J J (aa (aD J (am J)) (aa (aD J (aT J J (dr (c:=((256*n:Nat):Int)) (by rw [bc (by omega) (by omega)];omega)))) (aa (aD J (am J)) (aa (aD J (aT J J (dr (c:=((256*n:Nat):Int)) (by rw [bc (by omega) (by omega)];omega)))) (aa (aD J (am J)) (aa (aD J (am J)) aw)))))) J [2,5,7] J J (dF (eF 2 [2,1,0] [] (fun v12=> []) J J J J J J J J J (fun _ _=>J) J (dB bZ 0 underlying84 t5 J J J J (c:=256*n) J J (by omega) (by simp only [maxLen];omega)) (fun v12 _=>fZ [3,4,6,8] J J (aa (aD J (am J)) (aa (aD J (aT J J (dr (c:=((256*n:Nat):Int)) (by rw [bc (by omega) (by omega)];omega)))) (aa (aD J (am J)) (aa (aD J (am J)) aw)))) J [5,7] J J (dF (eF 5 [5,4,3,2,1,0] [] (fun v15=> []) J J J J J J J J J (fun _ _=>J) J (dB bZ 0 underlying84 t5 J J J J (c:=256*n) J J (by omega) (by simp only [maxLen];omega)) (fun v15 _=>bk [6,8] 7 [7,6,5,4,3,2,1,0] [9] (fun v17=> [(9,19,_)]) J J (aa (aD J (am J)) (aa (aD J (am J)) aw)) J J J J J J J J J J J (fun _ _=>J) J (dB eI 0 underlying22 t3 J J J J (c:=n) J J (by omega) (by simp only [maxLen];omega)) (fun v17 _=>bk [9,8] 10 [10,9,8,7,6,5,4,3,2,1,0] [11] (fun b20=> [(11,6,_)]) J J (aa (aD J (aV (parts:= [(0,.tmp 12),(2,.tmp 15),(4,.tmp 17),(5,.tmp 18)]) AK r8 J J)) (aa (aD J (am J)) aw)) J J J J J J J J J J J (fun _ _=>J) J (nF J (by rfl)) (fun b20 _=>bp [11] J J (aa (aD J (ct J)) aw) J J J ?_)))) (dF (eF 7 [7,6,2,1,0] [] (fun v17=> []) J J J J J J J J J (fun _ _=>J) J (dB eI 0 underlying22 t3 J J J J (c:=n) J J (by omega) (by simp only [maxLen];omega)) (fun v17 _=>bk [3,4,8] 5 [7,6,5,4,3,2,1,0] [9] (fun v15=> [(9,19,_)]) J J (aa (aD J (am J)) (aa (aD J (aT J J (dr (c:=((256*n:Nat):Int)) (by rw [bc (by omega) (by omega)];omega)))) (aa (aD J (am J)) aw))) J J J J J J J J J J J (fun _ _=>J) J (dB bZ 0 underlying84 t5 J J J J (c:=256*n) J J (by omega) (by simp only [maxLen];omega)) (fun v15 _=>bk [9,8] 10 [10,9,8,7,6,5,4,3,2,1,0] [11] (fun b20=> [(11,6,_)]) J J (aa (aD J (aV (parts:= [(0,.tmp 12),(2,.tmp 15),(4,.tmp 17),(5,.tmp 18)]) AK r8 J J)) (aa (aD J (am J)) aw)) J J J J J J J J J J J (fun _ _=>J) J (nF J (by rfl)) (fun b20 _=>bp [11] J J (aa (aD J (ct J)) aw) J J J ?_)))) jv)))) (dF (eF 5 [5,4,3] [] (fun v15=> []) J J J J J J J J J (fun _ _=>J) J (dB bZ 0 underlying84 t5 J J J J (c:=256*n) J J (by omega) (by simp only [maxLen];omega)) (fun v15 _=>fZ [0,1,6,8] J J (aa (aD J (am J)) (aa (aD J (aT J J (dr (c:=((256*n:Nat):Int)) (by rw [bc (by omega) (by omega)];omega)))) (aa (aD J (am J)) (aa (aD J (am J)) aw)))) J [2,7] J J (dF (eF 2 [5,4,3,2,1,0] [] (fun v12=> []) J J J J J J J J J (fun _ _=>J) J (dB bZ 0 underlying84 t5 J J J J (c:=256*n) J J (by omega) (by simp only [maxLen];omega)) (fun v12 _=>bk [6,8] 7 [7,6,5,4,3,2,1,0] [9] (fun v17=> [(9,19,_)]) J J (aa (aD J (am J)) (aa (aD J (am J)) aw)) J J J J J J J J J J J (fun _ _=>J) J (dB eI 0 underlying22 t3 J J J J (c:=n) J J (by omega) (by simp only [maxLen];omega)) (fun v17 _=>bk [9,8] 10 [10,9,8,7,6,5,4,3,2,1,0] [11] (fun b20=> [(11,6,_)]) J J (aa (aD J (aV (parts:= [(0,.tmp 12),(2,.tmp 15),(4,.tmp 17),(5,.tmp 18)]) AK r8 J J)) (aa (aD J (am J)) aw)) J J J J J J J J J J J (fun _ _=>J) J (nF J (by rfl)) (fun b20 _=>bp [11] J J (aa (aD J (ct J)) aw) J J J ?_)))) (dF (eF 7 [7,6,5,4,3] [] (fun v17=> []) J J J J J J J J J (fun _ _=>J) J (dB eI 0 underlying22 t3 J J J J (c:=n) J J (by omega) (by simp only [maxLen];omega)) (fun v17 _=>bk [0,1,8] 2 [7,6,5,4,3,2,1,0] [9] (fun v12=> [(9,19,_)]) J J (aa (aD J (am J)) (aa (aD J (aT J J (dr (c:=((256*n:Nat):Int)) (by rw [bc (by omega) (by omega)];omega)))) (aa (aD J (am J)) aw))) J J J J J J J J J J J (fun _ _=>J) J (dB bZ 0 underlying84 t5 J J J J (c:=256*n) J J (by omega) (by simp only [maxLen];omega)) (fun v12 _=>bk [9,8] 10 [10,9,8,7,6,5,4,3,2,1,0] [11] (fun b20=> [(11,6,_)]) J J (aa (aD J (aV (parts:= [(0,.tmp 12),(2,.tmp 15),(4,.tmp 17),(5,.tmp 18)]) AK r8 J J)) (aa (aD J (am J)) aw)) J J J J J J J J J J J (fun _ _=>J) J (nF J (by rfl)) (fun b20 _=>bp [11] J J (aa (aD J (ct J)) aw) J J J ?_)))) jv)))) (dF (eF 7 [7,6] [] (fun v17=> []) J J J J J J J J J (fun _ _=>J) J (dB eI 0 underlying22 t3 J J J J (c:=n) J J (by omega) (by simp only [maxLen];omega)) (fun v17 _=>fZ [0,1,3,4,8] J J (aa (aD J (am J)) (aa (aD J (aT J J (dr (c:=((256*n:Nat):Int)) (by rw [bc (by omega) (by omega)];omega)))) (aa (aD J (am J)) (aa (aD J (aT J J (dr (c:=((256*n:Nat):Int)) (by rw [bc (by omega) (by omega)];omega)))) (aa (aD J (am J)) aw))))) J [2,5] J J (dF (eF 2 [7,6,2,1,0] [] (fun v12=> []) J J J J J J J J J (fun _ _=>J) J (dB bZ 0 underlying84 t5 J J J J (c:=256*n) J J (by omega) (by simp only [maxLen];omega)) (fun v12 _=>bk [3,4,8] 5 [7,6,5,4,3,2,1,0] [9] (fun v15=> [(9,19,_)]) J J (aa (aD J (am J)) (aa (aD J (aT J J (dr (c:=((256*n:Nat):Int)) (by rw [bc (by omega) (by omega)];omega)))) (aa (aD J (am J)) aw))) J J J J J J J J J J J (fun _ _=>J) J (dB bZ 0 underlying84 t5 J J J J (c:=256*n) J J (by omega) (by simp only [maxLen];omega)) (fun v15 _=>bk [9,8] 10 [10,9,8,7,6,5,4,3,2,1,0] [11] (fun b20=> [(11,6,_)]) J J (aa (aD J (aV (parts:= [(0,.tmp 12),(2,.tmp 15),(4,.tmp 17),(5,.tmp 18)]) AK r8 J J)) (aa (aD J (am J)) aw)) J J J J J J J J J J J (fun _ _=>J) J (nF J (by rfl)) (fun b20 _=>bp [11] J J (aa (aD J (ct J)) aw) J J J ?_)))) (dF (eF 5 [7,6,5,4,3] [] (fun v15=> []) J J J J J J J J J (fun _ _=>J) J (dB bZ 0 underlying84 t5 J J J J (c:=256*n) J J (by omega) (by simp only [maxLen];omega)) (fun v15 _=>bk [0,1,8] 2 [7,6,5,4,3,2,1,0] [9] (fun v12=> [(9,19,_)]) J J (aa (aD J (am J)) (aa (aD J (aT J J (dr (c:=((256*n:Nat):Int)) (by rw [bc (by omega) (by omega)];omega)))) (aa (aD J (am J)) aw))) J J J J J J J J J J J (fun _ _=>J) J (dB bZ 0 underlying84 t5 J J J J (c:=256*n) J J (by omega) (by simp only [maxLen];omega)) (fun v12 _=>bk [9,8] 10 [10,9,8,7,6,5,4,3,2,1,0] [11] (fun b20=> [(11,6,_)]) J J (aa (aD J (aV (parts:= [(0,.tmp 12),(2,.tmp 15),(4,.tmp 17),(5,.tmp 18)]) AK r8 J J)) (aa (aD J (am J)) aw)) J J J J J J J J J J J (fun _ _=>J) J (nF J (by rfl)) (fun b20 _=>bp [11] J J (aa (aD J (ct J)) aw) J J J ?_)))) jv)))) jv))))
  ·refine aM (b20,v12,v15,v17) O J J J
  ·refine aM (b20,v12,v15,v17) O J J J
  ·refine aM (b20,v12,v15,v17) O J J J
  ·refine aM (b20,v12,v15,v17) O J J J
  ·refine aM (b20,v12,v15,v17) O J J J
  ·refine aM (b20,v12,v15,v17) O J J J
 ·refine aS (ad J J (aO (ch J) J (ac (ae J (fun h1=> ?_) (fun h1=> ?_)))))
  ·refine aj (ad J J (ad J J (ar J J (dr (c:=((256*n:Nat):Int)) (by rw [bc (by omega) (by omega)];omega)) J (tm bZ 0 underlying84 t5 J J J J (c:=256*n) J J (by omega) (by simp only [maxLen];omega) J fun v26=>bG J J (az o9 J J (aK (k:=20) wV J J J J J J J J (ac (ap (ad J J (ad J J (ar J J (dr (c:=((256*n:Nat):Int)) (by rw [bc (by omega) (by omega)];omega)) J (tm bZ 0 underlying84 t5 J J J J (c:=256*n) J J (by omega) (by simp only [maxLen];omega) J fun v32=>bG J J (az GV J J (aK (k:=20) wV J J J J J J J J (ac (a_ ?_))))))))))))))));refine ap (ad J J (ai J J (ac (au (aH ⟨x.1,x.2.1,v26,x.2.2.1,v32,x.2.2.2⟩ O J (bE (aJ J)) J [20,12,26,17] [] J J J)))))
  ·exact absurd h1 (by simp)
theorem A1(n:Nat)(hn:n≤4096):
  Spec prog 34 [.int .i64 (n:Int)] [] [] (X:=Nat×Me) (fun _=>True) (fun x=> .pointer (some ⟨x.1,0,none⟩)) (fun x=> [bj x.1 93 (oe 0 oJ 0 x.2.m),bj x.2.m 157 (mR x.2),own 5 1 bZ (sv x.2.vd) ((⟨List.replicate (256*n) 0,List.replicate (256*n) 0,List.replicate n 0⟩:Mm)).d,own 5 1 bZ (sv x.2.vi) ((⟨List.replicate (256*n) 0,List.replicate (256*n) 0,List.replicate n 0⟩:Mm)).i,own 3 1 eI (sv x.2.vr) ((⟨List.replicate (256*n) 0,List.replicate (256*n) 0,List.replicate n 0⟩:Mm)).r]) (fun _=> []):=by
 refine aI func34 J ntmps34 J fun w0 M H=>aj (ai J J (aG J (ad J J (ak (xs:= [.tmp 3,.const (.bool Bool.false)]) (Bb n hn) Qd [] [] [10,11,12,13] (fun e _=>aO (aV (cs:=(oe 0 oJ 0 e.m).toArray) (parts:= [(1,.tmp 4)]) Rh Pa J (by kernel_rfl)) J (bU J J fun b6=>ai J J (ac (au (aH (b6,e) O J (bE (aJ J)) J [6,10,11,12,13] [] J J J)))))))))
theorem AX(c m:Nat):
  Spec prog 77 [.pointer (some ⟨c,0,none⟩),.agg (sR 256 oJ 0).toArray] [bj c 93 (oe 0 oJ 0 m)] [] (X:=Unit) (fun _=>True) (fun _=> .tuple #[]) (fun _=> [bj c 93 (oe 256 oJ 0 m)]) (fun _=> []):=by
 refine aI func77 J ntmps77 J fun w0 M H=>aj (bU J J fun b3=>aG J (az fS J J (aO (cO (j:=0) underlying75 cB J J (by rfl) (by decide)) J (aK (k:=3) cB J J J J J J J J (aG J (az Ki J J (aK (k:=3) cB J J J J J J J J (aG J (az gQ J J (aP 3 t3 J J J J J ?_))))))))))
 refine aO (pN J J J) J (az gQ J J (aK (k:=3) t3 J J J J J J J J (aG J (az tU J J (aP 3 t3 J J J J J (aO (pN J J J) J (az tU J J (aK (k:=3) t3 J J J J J J J J (ac (ap (ad J J (aO (aL wA J J J (aX (k:=3) J)) J (bG J J (az dG J J (aK (k:=0) wA J J J J J J J J (ac (bW () O J ff J [0] [] J J J)))))))))))))))))
@[irreducible] def zer:List Int:=List.replicate 256 0
theorem pg:zer=List.replicate 256 0:=by unfold zer;rfl
theorem yx:zer.length=256:=by rw [pg];exact List.length_replicate ..
theorem BO:zer.take 256=zer:=List.take_of_length_le (by rw [yx];omega)
def um(p:Nat):Int:=if p≥32 then 3 else if p>0 then 5 else 0
def gg(s:Mm):Nat→Mm
 | 0=>s
 | p+1=>⟨pk (gg s p).d (256*p) zer,pk (gg s p).i (256*p) zer,(gg s p).r.set p (um p)⟩
def rI(s:Mm):Nat→Mm
 | 0=>s
 | p+1=>{rI s p with i:=pk (rI s p).i ((p+1)*256) (((rI s p).d.drop ((p+1)*256)).take 256)}
def Ld(s:Mm)(code:List Int):Mm:=rI {gg s 64 with d:=pk (gg s 64).d 256 code} 31
theorem xg(p:Nat):0≤um p∧um p<8∧bits .and .i64 (um p) 7=um p:=by
 unfold um;split
 ·decide
 ·split<;>decide
theorem Jb{l:List Int}{k:Nat}{x:Int}(h:∀y∈l,0≤y∧y<8)(hx:0≤x∧x<8):∀y∈l.set k x,0≤y∧y<8:=fun y hy=>by
 rcases List.mem_or_eq_of_mem_set hy with hy|hy
 ·exact h y hy
 ·exact hy▸hx
theorem ky{s:Mm}{n:Nat}(h:MO s n):∀p,MO (gg s p) n
 | 0=>h
 | p+1=>by
  have ih:=ky h p;exact⟨(eE _ _ _).trans ih.d,(eE _ _ _).trans ih.i,(List.length_set ..).trans ih.r,ih.n,Jb ih.rb ⟨(xg p).1,(xg p).2.1⟩⟩
theorem zn(s:Mm):∀p,(rI s p).d=s.d
 | 0=>rfl
 | p+1=>zn s p
theorem xE{s:Mm}{n:Nat}(h:MO s n):∀p,MO (rI s p) n
 | 0=>h
 | p+1=>by
  have ih:=xE h p;exact ih.ii (eE _ _ _)
theorem N6:bn (jZ zer)=zer:=jJ _ fun x hx=>by rw [pg]at hx;rw [List.eq_of_mem_replicate hx];decide
theorem pT:(jZ zer).size=256:=by rw [ga,yx]
theorem xe(c:Nat)(e:Me)(s:Mm)(n:Nat)(hs:MO s n)(hn:64≤n)(code:ByteArray)(hc:code.size≤7936):
  Spec prog 39 [.pointer (some ⟨c,0,none⟩),.string code] [bj e.m 157 (mR e),own 5 1 bZ (sv e.vd) (s).d,own 5 1 bZ (sv e.vi) (s).i,own 3 1 eI (sv e.vr) (s).r,bj c 93 (oe 0 oJ 0 e.m)] [] (X:=Unit) (fun _=>True) (fun _=> .tuple #[]) (fun _=> [bj e.m 157 (mR e),own 5 1 bZ (sv e.vd) (Ld s (bn code)).d,own 5 1 bZ (sv e.vi) (Ld s (bn code)).i,own 3 1 eI (sv e.vr) (Ld s (bn code)).r,bj c 93 (oe 256 oJ 0 e.m)]) (fun _=> []):=by
 refine aI func39 J ntmps39 J fun w0 M H=> ?_
 have hdl:=hs.d;have hnn:=hs.n;have hcl:=gr code;refine aj (tm bZ 0 underlying84 t5 J J J J (c:=256) J J (by omega) (by simp only [maxLen];omega) J fun v8=>aO (CX underlying84 underlying5 underlying9 J (bs (k:=8) J) (by decide)) J ?_);rw [←pg];refine ai J J (ac (aS (ai J J (ac (aB (bv (X:=Nat) (fun p=>p≤64) (fun p=> [(0,.pointer (some ⟨c,0,none⟩)),(1,.string code),(4,.string (jZ zer)),(5,.int .i64 (p:Int))]) (fun p=> [(0,bj e.m 157 (mR e)),(1,own 5 1 bZ (sv e.vd) (gg s p).d),(2,own 5 1 bZ (sv e.vi) (gg s p).i),(3,own 3 1 eI (sv e.vr) (gg s p).r),(4,bj c 93 (oe 0 oJ 0 e.m))]) (fun p=> []) (fun p=>64-p) 0 (Nat.zero_le _) J J J (fun p n1=>aS (ad J J (ar J J ci J (ac (ae J (fun h1=> ?_) (fun h1=> ?_))))))))))))
 ·(try simp only [be]at h1)
  have hi:p<64:=by omega
  refine ax (a_ (aB (aj (ad J J (bG J J (az fh J J (aP 4 uD J J J J J (ad J J (ar J J (dr (c:=((256*p:Nat):Int)) (by rw [bc (by omega) (by omega)];omega)) J (aO (bX underlying3 underlying41 J (c:=((256*p:Nat):Int)) (bK (by omega) (by omega))) J (ad J J (ak (xs:= [.tmp 17,.tmp 20,.tmp 21]) (pI e (gg s p) n (ky hs p) (256*p) (jZ zer) (by rw [pT];omega) (by rw [pT];omega)) M6 [0,1,2,3] [] [0,1,2,3] (fun _ _=> ?_)))))))))))));rw [N6];refine aG J (ad J J (bG J J (az fh J J (aP 4 uD J J J J J (ad J J (ad J J (ak (xs:= [.tmp 26,.tmp 27,.tmp 28]) (rj e {gg s p with d:=pk (gg s p).d (256*p) zer} n ((ky hs p).dd (eE _ _ _)) p (by omega) (jZ zer) (by rw [pT];omega)) Qt [0,1,2,3] [] [0,1,2,3] (fun _ _=> ?_))))))));rw [N6,BO];refine aG J (ai J J (ac (br (X:=Unit) (fun _=>True) (fun _=> [(0,.pointer (some ⟨c,0,none⟩)),(1,.string code),(4,.string (jZ zer)),(5,.int .i64 (p:Int)),(6,.int .i64 (if p>0 then 5 else 0))]) (fun _=> [(0,bj e.m 157 (mR e)),(1,own 5 1 bZ (sv e.vd) ({gg s p with d:=pk (gg s p).d (256*p) zer,i:=pk (gg s p).i (256*p) zer}).d),(2,own 5 1 bZ (sv e.vi) ({gg s p with d:=pk (gg s p).d (256*p) zer,i:=pk (gg s p).i (256*p) zer}).i),(3,own 3 1 eI (sv e.vr) ({gg s p with d:=pk (gg s p).d (256*p) zer,i:=pk (gg s p).i (256*p) zer}).r),(4,bj c 93 (oe 0 oJ 0 e.m))]) (fun _=> []) ?_ (fun _ _=> ?_))))
  ·refine aj (ad J J (ar J J dV J (ac (ae J (fun h2=> ?_) (fun h2=> ?_)))))
   ·(try simp only [be]at h2)
    refine ap (ai J J (ac ?_));refine aM () O (by rw [if_pos (show p>0 by omega)];rfl) J J
   ·(try simp only [be]at h2)
    refine ax ?_;refine aM () O (by rw [if_neg (show ¬p>0 by omega)];rfl) J J
  ·refine br (X:=Unit) (fun _=>True) (fun _=> [(0,.pointer (some ⟨c,0,none⟩)),(1,.string code),(4,.string (jZ zer)),(5,.int .i64 (p:Int)),(6,.int .i64 (um p))]) (fun _=> [(0,bj e.m 157 (mR e)),(1,own 5 1 bZ (sv e.vd) ({gg s p with d:=pk (gg s p).d (256*p) zer,i:=pk (gg s p).i (256*p) zer}).d),(2,own 5 1 bZ (sv e.vi) ({gg s p with d:=pk (gg s p).d (256*p) zer,i:=pk (gg s p).i (256*p) zer}).i),(3,own 3 1 eI (sv e.vr) ({gg s p with d:=pk (gg s p).d (256*p) zer,i:=pk (gg s p).i (256*p) zer}).r),(4,bj c 93 (oe 0 oJ 0 e.m))]) (fun _=> []) ?_ (fun _ _=> ?_)
   ·refine aj (ad J J (ar J J fe J (ac (ae J (fun h3=> ?_) (fun h3=> ?_)))))
    ·(try simp only [be]at h3)
     refine ap (ai J J (ac ?_));refine aM () O (by unfold um;rw [if_pos (show p≥32 by omega)];rfl) J J
    ·(try simp only [be]at h3)
     refine ax ?_;refine aM () O (by unfold um;rw [if_neg (show ¬p≥32 by omega)];rfl) J J
   ·refine ap (ad J J (bG J J (az fh J J (aP 4 uD J J J J J (ad J J (ad J J (ak (xs:= [.tmp 37,.tmp 38,.tmp 39]) (rl e {gg s p with d:=pk (gg s p).d (256*p) zer,i:=pk (gg s p).i (256*p) zer} n (((ky hs p).dd (eE _ _ _)).ii (eE _ _ _)) p (by omega) (um p) (um p) (xg p).2.2) Qr [0,1,2,3] [] [0,1,2,3] (fun _ _=>ac (ap (ad J J (ar J J (bi (by first|exact bc (by omega) (by omega)|rfl)) J (ai J J (ac ?_)))))))))))));refine aM (p+1) ⟨by omega,by omega⟩ J J J
 ·(try simp only [be]at h1)
  have hi:p=64:=by omega
  subst hi;refine bx (aj (ad J J (bG J J (az fh J J (aP 4 uD J J J J J (ad J J (ak (xs:= [.tmp 44,.const (.int .u32 256),.tmp 45]) (pI e (gg s 64) n (ky hs 64) 256 code (by omega) (by omega)) M6 [0,1,2,3] [] [0,1,2,3] (fun _ _=>ac (aS (ai J J (ac (aB (bv (X:=Nat) (fun p=>p≤31) (fun p=> [(0,.pointer (some ⟨c,0,none⟩)),(7,.int .i64 ((p+1:Nat):Int))]) (fun p=> [(0,bj e.m 157 (mR e)),(1,own 5 1 bZ (sv e.vd) (rI {gg s 64 with d:=pk (gg s 64).d 256 (bn code)} p).d),(2,own 5 1 bZ (sv e.vi) (rI {gg s 64 with d:=pk (gg s 64).d 256 (bn code)} p).i),(3,own 3 1 eI (sv e.vr) (rI {gg s 64 with d:=pk (gg s 64).d 256 (bn code)} p).r),(4,bj c 93 (oe 0 oJ 0 e.m))]) (fun p=> []) (fun p=>31-p) 0 (Nat.zero_le _) J J J (fun p n2=>aS ?_))))))))))))));refine ad J J (ar J J ci J (ac (ae J (fun h4=> ?_) (fun h4=> ?_))))
  ·(try simp only [be]at h4)
   have hi:p<31:=by omega
   refine ax (a_ (aB (ap (ad J J (bG J J (az fh J J (aP 4 uD J J J J J (ad J J (ar J J (dr (c:=(((p+1)*256:Nat):Int)) (by rw [bc (by omega) (by omega)];omega)) J (aO (bX underlying3 underlying41 J (c:=(((p+1)*256:Nat):Int)) (bK (by omega) (by omega))) J (ak (xs:= [.tmp 54,.tmp 57]) (xc e (rI {gg s 64 with d:=pk (gg s 64).d 256 (bn code)} p) n (xE ((ky hs 64).dd (eE _ _ _)) p) (((p+1)*256:Nat):Int) (by rw [zn];have h1:=eE (bn code) (gg s 64).d 256;have h2:=(ky hs 64).d;dsimp only;omega)) Qc [0,1,2,3] [] [0,1,2,3] (fun _ _=> ?_))))))))))));rw [show((((p+1)*256:Nat):Int)).toNat/256*256=(p+1)*256 by omega];refine ac (ap (ad J J (ar J J (bi (by first|exact bc (by omega) (by omega)|rfl)) J (ai J J (ac ?_)))));refine aM (p+1) ⟨by omega,by omega⟩ J J J
  ·(try simp only [be]at h4)
   have hi:p=31:=by omega
   subst hi;refine bx (ap (ad J J (aO (aV (cs:=(sR 256 oJ 0).toArray) (parts:= [(0,.const (.int .u32 256))]) wA Pb J (by kernel_rfl)) J (ak (xs:= [.tmp 59,.tmp 60]) (AX c e.m) Qb [4] [] [4] (fun _ _=>ac (bW () O J ff J [0,1,2,3,4] [] J J J))))))
structure Qs where
 pc:Nat
 r:Int→Int
 m:Int→Int
 inp:List Int
 out:List Int
def rp(r:Int→Int)(d v:Int):Int→Int:=fun k=>if k=d∧d≠0 then v else r k
def mw(m:Int→Int)(a v:Int):Int→Int:=fun k=>if k=a then v else m k
def r9(x:Int):Nat:=if 256≤x∧x%4=0 then((x-256)/4).toNat else 5000
def gU(p:Nat):Int:=256+4*(p:Int)
def zh(a:Int):Prop:=8192≤a∧a<16384∧a%4=0
instance(a:Int):Decidable (zh a):=by unfold zh;exact inferInstance
def ww(op a b:Int):Option Int:=
 if op=1∨op=16 then some (wU (a+b))else if op=2 then some (wU (a-b))else if op=3∨op=17 then some (bits .and .u32 a b)else
 if op=4∨op=18 then some (bits .or .u32 a b)else if op=5∨op=19 then some (bits .xor .u32 a b)else
 if op=6∨op=20 then some (wU (a*2^(b%32).toNat))else if op=7 then some (a/2^(b%32).toNat)else
 if op=9 then some (wU (a*b))else if op=10 then(if b=0 then none else some (a/b))else if op=11 then some (tr (decide (a<b)))else none
def uG(i:Qi)(c:Qs):Option Qs:=
 match ww i.op (c.r i.a) (if i.op<16 then c.r i.b else i.imm)with
 | some v=>some {c with pc:=c.pc+1,r:=rp c.r i.d v}
 | none=>
  if i.op=23 then(if zh (wU (c.r i.a+i.imm))then some {c with pc:=c.pc+1,r:=rp c.r i.d (c.m (wU (c.r i.a+i.imm)))}else none)else
  if i.op=25 then(if zh (wU (c.r i.a+i.imm))then some {c with pc:=c.pc+1,m:=mw c.m (wU (c.r i.a+i.imm)) (c.r i.d)}else none)else
  if i.op=27 then some {c with pc:=r9 (wU (c.r i.a+i.imm)),r:=rp c.r i.d (gU (c.pc+1))}else
  if i.op=32 then some {c with pc:=if c.r i.d=c.r i.a then r9 (wU (gU c.pc+4*i.imm))else c.pc+1}else
  if i.op=35 then some {c with pc:=if c.r i.d≥c.r i.a then r9 (wU (gU c.pc+4*i.imm))else c.pc+1}else
  if i.op=40 then some {c with pc:=r9 (wU (gU c.pc+4*i.imm)),r:=rp c.r i.d (gU (c.pc+1))}else
  if i.op=41 then some {c with pc:=c.pc+1,r:=rp c.r i.d (wU (i.imm*1024))}else
  if i.op=48∧i.imm=1 then some {c with pc:=c.pc+1,out:=c.out++ [c.r 1]}else
  if i.op=48∧i.imm=2 then some {c with pc:=c.pc+1,r:=rp c.r 1 (c.inp.headD 0),inp:=c.inp.tail}else none
def rn(code:List Qi):Nat→Qs→Qs→Prop
 | 0,c,c'=>c=c'
 | n+1,c,c'=>∃i c1,code[c.pc]?=some i∧uG i c=some c1∧rn code n c1 c'
theorem rn.trans{code:List Qi}:∀{n m:Nat}{a b c:Qs},rn code n a b→rn code m b c→rn code (n+m) a c
 | 0,m,a,b,c,h,h2=>by
  have:a=b:=h;subst this;rw [Nat.zero_add];exact h2
 | n+1,m,a,b,c,h,h2=>by
  obtain⟨i,c1,g1,g2,g3⟩:=h;rw [Nat.succ_add];exact⟨i,c1,g1,g2,g3.trans h2⟩
def cAt(code:List Qi)(p:Nat)(l:List Qi):Prop:=∀j i,l[j]?=some i→code[p+j]?=some i
theorem cAt.app{code:List Qi}{p:Nat}{a b:List Qi}(h:cAt code p (a++b)):cAt code p a∧cAt code (p+a.length) b:=by
 refine⟨fun j i hj=>h j i ?_,fun j i hj=> ?_⟩
 ·rw [List.getElem?_append_left (by obtain⟨h,-⟩:=List.getElem?_eq_some_iff.1 hj;exact h)];exact hj
 ·have:=h (a.length+j) i (by rw [List.getElem?_append_right (by omega),show a.length+j-a.length=j by omega];exact hj);rw [Nat.add_assoc];exact this
theorem cAt.head{code:List Qi}{p:Nat}{i:Qi}{l:List Qi}(h:cAt code p (i::l)):code[p]?=some i∧cAt code (p+1) l:=
 ⟨h 0 i rfl,fun j x hj=>by
  have:=h (j+1) x hj;rw [show p+1+j=p+(j+1) by omega];exact this⟩
theorem cAt.of{a b l:List Qi}:cAt (a++l++b) a.length l:=fun j i hj=>by
 rw [List.append_assoc,List.getElem?_append_right (by omega),show a.length+j-a.length=j by omega,List.getElem?_append_left (by obtain⟨h,-⟩:=List.getElem?_eq_some_iff.1 hj;exact h)];exact hj
def Go(code:List Qi)(n:Int)(c:Qs)(P:Qs→Prop):Prop:=∃(k:Nat)(c':Qs),(k:Int)≤n∧rn code k c c'∧P c'
theorem Go.done{code:List Qi}{n:Int}{c:Qs}{P:Qs→Prop}(hn:0≤n)(h:P c):Go code n c P:=⟨0,c,hn,rfl,h⟩
theorem Go.seq{code:List Qi}{n m k:Int}{c:Qs}{P Q:Qs→Prop}(h:Go code n c P)(h2:∀c',P c'→Go code m c' Q)(hk:n+m≤k):Go code k c Q:=by
 obtain⟨a,c1,h3,h4,h5⟩:=h;obtain⟨b,c2,h6,h7,h8⟩:=h2 c1 h5;exact⟨a+b,c2,by omega,h4.trans h7,h8⟩
theorem Go.weak{code:List Qi}{n m:Int}{c:Qs}{P Q:Qs→Prop}(h:Go code n c P)(h2:∀c',P c'→Q c')(hk:n≤m):Go code m c Q:=by
 obtain⟨a,c1,h3,h4,h5⟩:=h;exact⟨a,c1,by omega,h4,h2 c1 h5⟩
theorem Go.step{code:List Qi}{n:Int}{c c1:Qs}{i:Qi}{P:Qs→Prop}(h:code[c.pc]?=some i)(h2:uG i c=some c1)(h3:Go code (n-1) c1 P):Go code n c P:=by
 obtain⟨k,c2,h4,h5,h6⟩:=h3;exact⟨k+1,c2,by omega,⟨i,c1,h,h2,h5⟩,h6⟩
/-! The instructions that the compiler uses. -/
section
variable{code:List Qi}{n:Int}{c:Qs}{P:Qs→Prop}{d a b x:Int}
theorem fE{n:Int}(h:0≤n∧n<4294967296):wU n=n:=bK h.1 h.2
theorem DC{i:Qi}{v:Int}(h:code[c.pc]?=some i)(h2:ww i.op (c.r i.a) (if i.op<16 then c.r i.b else i.imm)=some v)(h3:Go code (n-1) {c with pc:=c.pc+1,r:=rp c.r i.d v} P):Go code n c P:=
 Go.step h (by unfold uG;rw [h2]) h3
theorem xK(h:code[c.pc]?=some (qi 23 d a x))(h2:zh (wU (c.r a+x)))(h3:Go code (n-1) {c with pc:=c.pc+1,r:=rp c.r d (c.m (wU (c.r a+x)))} P):Go code n c P:=
 Go.step (i:=qi 23 d a x) (c1:={c with pc:=c.pc+1,r:=rp c.r d (c.m (wU (c.r a+x)))}) h (by
  have e:uG (qi 23 d a x) c=(if zh (wU (c.r a+x))then some {c with pc:=c.pc+1,r:=rp c.r d (c.m (wU (c.r a+x)))}else none):=J;rw [e,if_pos h2]) h3
theorem xJ(h:code[c.pc]?=some (qi 25 d a x))(h2:zh (wU (c.r a+x)))(h3:Go code (n-1) {c with pc:=c.pc+1,m:=mw c.m (wU (c.r a+x)) (c.r d)} P):Go code n c P:=
 Go.step (i:=qi 25 d a x) (c1:={c with pc:=c.pc+1,m:=mw c.m (wU (c.r a+x)) (c.r d)}) h (by
  have e:uG (qi 25 d a x) c=(if zh (wU (c.r a+x))then some {c with pc:=c.pc+1,m:=mw c.m (wU (c.r a+x)) (c.r d)}else none):=J;rw [e,if_pos h2]) h3
theorem Gv(h:code[c.pc]?=some (qi 27 d a x))(h3:Go code (n-1) {c with pc:=r9 (wU (c.r a+x)),r:=rp c.r d (gU (c.pc+1))} P):Go code n c P:=
 Go.step h rfl h3
theorem tM(h:code[c.pc]?=some (qi 32 d a x))(h3:Go code (n-1) {c with pc:=if c.r d=c.r a then r9 (wU (gU c.pc+4*x))else c.pc+1} P):Go code n c P:=
 Go.step h rfl h3
theorem Gw(h:code[c.pc]?=some (qi 35 d a x))(h3:Go code (n-1) {c with pc:=if c.r d≥c.r a then r9 (wU (gU c.pc+4*x))else c.pc+1} P):Go code n c P:=
 Go.step h rfl h3
theorem qh(h:code[c.pc]?=some (qi 40 d a x))(h3:Go code (n-1) {c with pc:=r9 (wU (gU c.pc+4*x)),r:=rp c.r d (gU (c.pc+1))} P):Go code n c P:=
 Go.step h rfl h3
theorem J6(h:code[c.pc]?=some (qi 41 d a x))(h3:Go code (n-1) {c with pc:=c.pc+1,r:=rp c.r d (wU (x*1024))} P):Go code n c P:=
 Go.step h rfl h3
theorem J5(h:code[c.pc]?=some ⟨48,0,0,0,1⟩)(h3:Go code (n-1) {c with pc:=c.pc+1,out:=c.out++ [c.r 1]} P):Go code n c P:=
 Go.step h rfl h3
theorem MA(h:code[c.pc]?=some ⟨48,0,0,0,2⟩)(h3:Go code (n-1) {c with pc:=c.pc+1,r:=rp c.r 1 (c.inp.headD 0),inp:=c.inp.tail} P):Go code n c P:=
 Go.step h rfl h3
end
theorem lx{p q:Nat}{x:Int}(hx:x=wU ((q:Int)-(p:Int)))(hq:q<10000)(hp:p<10000):r9 (wU (gU p+4*x))=q:=by
 have e:wU (gU p+4*x)=256+4*(q:Int):=by
  rw [hx];unfold gU;have h1:∀n:Int,wU n=n%4294967296:=fun n=>J
  rw [h1,h1];omega
 unfold r9;rw [e,if_pos (by omega)];omega
theorem FV{p:Nat}(hp:p<10000):r9 (wU (gU p+0))=p:=by
 rw [Int.add_zero];unfold gU;rw [fE (by omega)];unfold r9;rw [if_pos (by omega)];omega
def iQ(op:Int):Int:=
 if op=1∨op=16 then 3 else if op=2 then 4 else if op=3∨op=17 then 5 else if op=4∨op=18 then 6 else if op=5∨op=19 then 7 else
 if op=6∨op=20 then 8 else if op=7∨op=21 then 9 else if op=8∨op=22 then 10 else if op=9 then 11 else if op=10 then 12 else if op=11 then 14 else if op=12 then 15 else 0
def Qy(k a b:Int):Option Int:=
 if k=3 then some (wU (a+b))else if k=4 then some (wU (a-b))else if k=5 then some (bits .and .u32 a b)else if k=6 then some (bits .or .u32 a b)else if k=7 then some (bits .xor .u32 a b)else
 if k=8 then some (wU (a*2^(b%32).toNat))else if k=9 then some (a/2^(b%32).toNat)else if k=11 then some (wU (a*b))else if k=12 then(if b=0 then none else some (a/b))else if k=14 then some (tr (decide (a<b)))else none
theorem KQ{op a b v:Int}(h:ww op a b=some v):Qy (iQ op) a b=some v:=by
 unfold ww at h;by_cases h1:op=1∨op=16
 ·rw [if_pos h1]at h;unfold iQ;rw [if_pos h1];exact h
 rw [if_neg h1]at h;unfold iQ;rw [if_neg h1];by_cases h2:op=2
 ·rw [if_pos h2]at h;rw [if_pos h2];exact h
 rw [if_neg h2]at h;rw [if_neg h2];by_cases h3:op=3∨op=17
 ·rw [if_pos h3]at h;rw [if_pos h3];exact h
 rw [if_neg h3]at h;rw [if_neg h3];by_cases h4:op=4∨op=18
 ·rw [if_pos h4]at h;rw [if_pos h4];exact h
 rw [if_neg h4]at h;rw [if_neg h4];by_cases h5:op=5∨op=19
 ·rw [if_pos h5]at h;rw [if_pos h5];exact h
 rw [if_neg h5]at h;rw [if_neg h5];by_cases h6:op=6∨op=20
 ·rw [if_pos h6]at h;rw [if_pos h6];exact h
 rw [if_neg h6]at h;rw [if_neg h6];by_cases h7:op=7
 ·rw [if_pos h7]at h;rw [if_pos (Or.inl h7)];exact h
 rw [if_neg h7]at h;by_cases h8:op=9
 ·rw [if_pos h8]at h;rw [if_neg (by omega),if_neg (by omega),if_pos h8];exact h
 rw [if_neg h8]at h;by_cases h9:op=10
 ·rw [if_pos h9]at h;rw [if_neg (by omega),if_neg (by omega),if_neg h8,if_pos h9];exact h
 rw [if_neg h9]at h;by_cases h10:op=11
 ·rw [if_pos h10]at h;rw [if_neg (by omega),if_neg (by omega),if_neg h8,if_neg h9,if_pos h10];exact h
 rw [if_neg h10]at h;cases h
theorem KP{op a b v:Int}(h:ww op a b=some v):(1≤op∧op≤7∨9≤op∧op≤11∨16≤op∧op≤20)∧(op=10→b≠0)∧iQ op≠0:=by
 unfold ww at h;unfold iQ;by_cases h1:op=1∨op=16
 ·rw [if_pos h1];exact⟨by omega,by omega,by decide⟩
 rw [if_neg h1]at h;rw [if_neg h1];by_cases h2:op=2
 ·rw [if_pos h2];exact⟨by omega,by omega,by decide⟩
 rw [if_neg h2]at h;rw [if_neg h2];by_cases h3:op=3∨op=17
 ·rw [if_pos h3];exact⟨by omega,by omega,by decide⟩
 rw [if_neg h3]at h;rw [if_neg h3];by_cases h4:op=4∨op=18
 ·rw [if_pos h4];exact⟨by omega,by omega,by decide⟩
 rw [if_neg h4]at h;rw [if_neg h4];by_cases h5:op=5∨op=19
 ·rw [if_pos h5];exact⟨by omega,by omega,by decide⟩
 rw [if_neg h5]at h;rw [if_neg h5];by_cases h6:op=6∨op=20
 ·rw [if_pos h6];exact⟨by omega,by omega,by decide⟩
 rw [if_neg h6]at h;rw [if_neg h6];by_cases h7:op=7
 ·rw [if_pos (Or.inl h7)];exact⟨by omega,by omega,by decide⟩
 rw [if_neg h7]at h;by_cases h8:op=9
 ·rw [if_neg (by omega),if_neg (by omega),if_pos h8];exact⟨by omega,by omega,by decide⟩
 rw [if_neg h8]at h;by_cases h9:op=10
 ·rw [if_pos h9]at h;rw [if_neg (by omega),if_neg (by omega),if_neg h8,if_pos h9];refine⟨by omega,fun _ hb=> ?_,by decide⟩;rw [if_pos hb]at h;cases h
 rw [if_neg h9]at h;by_cases h10:op=11
 ·rw [if_neg (by omega),if_neg (by omega),if_neg h8,if_neg h9,if_pos h10];exact⟨by omega,by omega,by decide⟩
 rw [if_neg h10]at h;cases h
theorem A3(t:Bool):
  Spec prog 182 [.bool t] [] [] (X:=Unit) (fun _=>True) (fun _=> .int .u32 (tr t)) (fun _=> []) (fun _=> []):=by
 refine aI func182 J ntmps182 J fun w0 M H=>aj (ai J J (ac (aS (ad J J (ac (ae J (fun h1=> ?_) (fun h1=> ?_)))))))
 ·obtain rfl:t=true:=h1;refine aj (ai J J (ac (au (aH () O J (bE (aJ J)) J [] [] J J J))))
 ·obtain rfl:t=false:=h1;refine ax (aj (ai J J (ac (au (aH () O J (bE (aJ J)) J [] [] J J J)))))
theorem CE(k a b v:Int)(ha:0≤a∧a<4294967296)(hb:0≤b∧b<4294967296)(hv:Qy k a b=some v):
  Spec prog 150 [.int .i64 k,.int .u32 a,.int .u32 b] [] [] (X:=Unit) (fun _=>True) (fun _=> .int .u32 v) (fun _=> []) (fun _=> []):=by
 refine aI func150 J ntmps150 J fun w0 M H=>aj (ai J J (ac (aS (ad J J (ac (aB (aj (ar J J aY J (ai J J (ac (ae J (fun h1=> ?_) (fun h1=> ?_))))))))))))
 ·(try simp only [be]at h1)
  obtain rfl:k=3:=h1;obtain rfl:wU (a+b)=v:=Option.some.inj hv;refine aj (ad J J (ad J J (ar J J (bi J) J (ai J J (ac (au (aH () O J (bE (aJ J)) J [] [] J J J)))))))
 ·(try simp only [be]at h1)
  refine aj (ar J J aY J (ai J J (ac (ae J (fun h2=> ?_) (fun h2=> ?_)))))
  ·(try simp only [be]at h2)
   obtain rfl:k=4:=h2;obtain rfl:wU (a-b)=v:=Option.some.inj hv;refine aj (ad J J (ad J J (ar J J (fX J) J (ai J J (ac (au (aH () O J (bE (aJ J)) J [] [] J J J)))))))
  ·(try simp only [be]at h2)
   refine aj (ar J J aY J (ai J J (ac (ae J (fun h3=> ?_) (fun h3=> ?_)))))
   ·(try simp only [be]at h3)
    obtain rfl:k=5:=h3;obtain rfl:bits .and .u32 a b=v:=Option.some.inj hv;refine aj (ad J J (ad J J (ar J J (lE J) J (ai J J (ac (au (aH () O J (bE (aJ J)) J [] [] J J J)))))))
   ·(try simp only [be]at h3)
    refine aj (ar J J aY J (ai J J (ac (ae J (fun h4=> ?_) (fun h4=> ?_)))))
    ·(try simp only [be]at h4)
     obtain rfl:k=6:=h4;obtain rfl:bits .or .u32 a b=v:=Option.some.inj hv;refine aj (ad J J (ad J J (ar J J (BH J) J (ai J J (ac (au (aH () O J (bE (aJ J)) J [] [] J J J)))))))
    ·(try simp only [be]at h4)
     refine aj (ar J J aY J (ai J J (ac (ae J (fun h5=> ?_) (fun h5=> ?_)))))
     ·(try simp only [be]at h5)
      obtain rfl:k=7:=h5;obtain rfl:bits .xor .u32 a b=v:=Option.some.inj hv;refine aj (ad J J (ad J J (ar J J (IN J) J (ai J J (ac (au (aH () O J (bE (aJ J)) J [] [] J J J)))))))
     ·(try simp only [be]at h5)
      refine aj (ar J J aY J (ai J J (ac (ae J (fun h6=> ?_) (fun h6=> ?_)))))
      ·(try simp only [be]at h6)
       obtain rfl:k=8:=h6;obtain rfl:wU (a*2^(b%32).toNat)=v:=Option.some.inj hv;refine aj (ad J J (ad J J (ar J J (gd (by omega) (by first|exact kc (by omega)|rfl)) J (ar J J (gj (by omega) (by show _≤(32:Int);omega) J) J (ai J J (ac (au (aH () O J (bE (aJ J)) J [] [] J J J))))))))
      ·(try simp only [be]at h6)
       refine aj (ar J J aY J (ai J J (ac (ae J (fun h7=> ?_) (fun h7=> ?_)))))
       ·(try simp only [be]at h7)
        obtain rfl:k=9:=h7;obtain rfl:a/2^(b%32).toNat=v:=Option.some.inj hv;refine aj (ad J J (ad J J (ar J J (gd (by omega) (by first|exact kc (by omega)|rfl)) J (ar J J (m7 (by omega) (by show _≤(32:Int);omega) J) J (ai J J (ac (au (aH () O J (bE (aJ J)) J [] [] J J J))))))))
       ·(try simp only [be]at h7)
        refine aj (ar J J aY J (ai J J (ac (ae J (fun h8=> ?_) (fun h8=> ?_)))))
        ·(have hk:k=10:=by simpa using h8);subst hk;cases hv
        ·(try simp only [be]at h8)
         refine aj (ar J J aY J (ai J J (ac (ae J (fun h9=> ?_) (fun h9=> ?_)))))
         ·(try simp only [be]at h9)
          obtain rfl:k=11:=h9;obtain rfl:wU (a*b)=v:=Option.some.inj hv;refine aj (ad J J (ad J J (ar J J (dr J) J (ai J J (ac (au (aH () O J (bE (aJ J)) J [] [] J J J)))))))
         ·(try simp only [be]at h9)
          refine aj (ar J J aY J (ai J J (ac (ae J (fun h10=> ?_) (fun h10=> ?_)))))
          ·(try simp only [be]at h10)
           obtain rfl:k=12:=h10;have hq:(if b=0 then none else some (a/b))=some v:=hv;refine aS (ad J J (ar J J aY J (ac (ae J (fun h11=> ?_) (fun h11=> ?_)))))
           ·(have hz:b=0:=by simpa using h11);rw [if_pos hz]at hq;cases hq
           ·(try simp only [be]at h11)
            have hz:¬b=0:=by simpa using h11
            rw [if_neg hz]at hq;obtain rfl:a/b=v:=Option.some.inj hq;refine ax (aj (ad J J (ad J J (ar J J (jT (by omega) (nZ ha (by omega))) J (ai J J (ac (au (aH () O J (bE (aJ J)) J [] [] J J J))))))))
          ·(try simp only [be]at h10)
           refine aj (ar J J aY J (ai J J (ac (ae J (fun h12=> ?_) (fun h12=> ?_)))))
           ·(have hk:k=13:=by simpa using h12);subst hk;cases hv
           ·(try simp only [be]at h12)
            refine aj (ar J J aY J (ai J J (ac (ae J (fun h13=> ?_) (fun h13=> ?_)))))
            ·(try simp only [be]at h13)
             obtain rfl:k=14:=h13;obtain rfl:tr (decide (a<b))=v:=Option.some.inj hv;refine aj (ad J J (ad J J (ar J J ci J (ak (xs:= [.tmp 75]) (A3 (decide (a<b))) No [] [] [] (fun _ _=>ai J J (ac (au (aH () O J (bE (aJ J)) J [] [] J J J))))))))
            ·(try simp only [be]at h13)
             refine aj (ar J J aY J (ai J J (ac (ae J (fun h14=> ?_) (fun h14=> ?_)))))
             ·(have hk:k=15:=by simpa using h14);subst hk;cases hv
             ·(try simp only [be]at h14)
              exfalso;unfold Qy at hv;rw [if_neg (by omega),if_neg (by omega),if_neg (by omega),if_neg (by omega),if_neg (by omega),if_neg (by omega),if_neg (by omega),if_neg (by omega),if_neg (by omega),if_neg (by omega)]at hv;cases hv
theorem xd(op:Int):
  Spec prog 148 [.int .i64 op] [] [] (X:=Unit) (fun _=>True) (fun _=> .int .i64 (iQ op)) (fun _=> []) (fun _=> []):=by
 refine aI func148 J ntmps148 J fun w0 M H=>aj (ai J J (ac (aS (ad J J (ac (aB (br (X:=Unit) (fun _=>True) (fun _=> [(3,.int .i64 op),(4,.bool (decide (op=1∨op=16)))]) (fun _=> []) (fun _=> []) ?_ (fun _ _=> ?_))))))))
 ·refine aj (ar J J aY J (ai J J (ac (ae J (fun h1=> ?_) (fun h1=> ?_)))))
  ·(try simp only [be]at h1)
   refine ax (aM () O (by first|(rw [show decide (op=1∨op=16)=decide (op=1)from decide_eq_decide.2 (by omega)];rfl)|(rw [show decide (op=1∨op=16)=decide (op=16)from decide_eq_decide.2 (by omega)];rfl)) J J)
  ·(try simp only [be]at h1)
   refine ap (ar J J aY J (ai J J (ac (aM () O (by first|(rw [show decide (op=1∨op=16)=decide (op=1)from decide_eq_decide.2 (by omega)];rfl)|(rw [show decide (op=1∨op=16)=decide (op=16)from decide_eq_decide.2 (by omega)];rfl)) J J))))
 ·refine ae J (fun h2=> ?_) (fun h2=> ?_)
  ·(try simp only [be]at h2)
   have e:iQ op=3:=by unfold iQ;rw [if_pos (by omega)]
   rw [e];refine aj (ai J J (ac (au (aH () O J (bE (aJ J)) J [] [] J J J))))
  ·(try simp only [be]at h2)
   refine aj (ar J J aY J (ai J J (ac (ae J (fun h3=> ?_) (fun h3=> ?_)))))
   ·(try simp only [be]at h3)
    have e:iQ op=4:=by unfold iQ;rw [if_neg (by omega),if_pos (by omega)]
    rw [e];refine aj (ai J J (ac (au (aH () O J (bE (aJ J)) J [] [] J J J))))
   ·(try simp only [be]at h3)
    refine br (X:=Unit) (fun _=>True) (fun _=> [(3,.int .i64 op),(9,.bool (decide (op=3∨op=17)))]) (fun _=> []) (fun _=> []) ?_ (fun _ _=> ?_)
    ·refine aj (ar J J aY J (ai J J (ac (ae J (fun h4=> ?_) (fun h4=> ?_)))))
     ·(try simp only [be]at h4)
      refine ax (aM () O (by first|(rw [show decide (op=3∨op=17)=decide (op=3)from decide_eq_decide.2 (by omega)];rfl)|(rw [show decide (op=3∨op=17)=decide (op=17)from decide_eq_decide.2 (by omega)];rfl)) J J)
     ·(try simp only [be]at h4)
      refine ap (ar J J aY J (ai J J (ac (aM () O (by first|(rw [show decide (op=3∨op=17)=decide (op=3)from decide_eq_decide.2 (by omega)];rfl)|(rw [show decide (op=3∨op=17)=decide (op=17)from decide_eq_decide.2 (by omega)];rfl)) J J))))
    ·refine ae J (fun h5=> ?_) (fun h5=> ?_)
     ·(try simp only [be]at h5)
      have e:iQ op=5:=by unfold iQ;rw [if_neg (by omega),if_neg (by omega),if_pos (by omega)]
      rw [e];refine aj (ai J J (ac (au (aH () O J (bE (aJ J)) J [] [] J J J))))
     ·(try simp only [be]at h5)
      refine br (X:=Unit) (fun _=>True) (fun _=> [(3,.int .i64 op),(12,.bool (decide (op=4∨op=18)))]) (fun _=> []) (fun _=> []) ?_ (fun _ _=> ?_)
      ·refine aj (ar J J aY J (ai J J (ac (ae J (fun h6=> ?_) (fun h6=> ?_)))))
       ·(try simp only [be]at h6)
        refine ax (aM () O (by first|(rw [show decide (op=4∨op=18)=decide (op=4)from decide_eq_decide.2 (by omega)];rfl)|(rw [show decide (op=4∨op=18)=decide (op=18)from decide_eq_decide.2 (by omega)];rfl)) J J)
       ·(try simp only [be]at h6)
        refine ap (ar J J aY J (ai J J (ac (aM () O (by first|(rw [show decide (op=4∨op=18)=decide (op=4)from decide_eq_decide.2 (by omega)];rfl)|(rw [show decide (op=4∨op=18)=decide (op=18)from decide_eq_decide.2 (by omega)];rfl)) J J))))
      ·refine ae J (fun h7=> ?_) (fun h7=> ?_)
       ·(try simp only [be]at h7)
        have e:iQ op=6:=by unfold iQ;rw [if_neg (by omega),if_neg (by omega),if_neg (by omega),if_pos (by omega)]
        rw [e];refine aj (ai J J (ac (au (aH () O J (bE (aJ J)) J [] [] J J J))))
       ·(try simp only [be]at h7)
        refine br (X:=Unit) (fun _=>True) (fun _=> [(3,.int .i64 op),(15,.bool (decide (op=5∨op=19)))]) (fun _=> []) (fun _=> []) ?_ (fun _ _=> ?_)
        ·refine aj (ar J J aY J (ai J J (ac (ae J (fun h8=> ?_) (fun h8=> ?_)))))
         ·(try simp only [be]at h8)
          refine ax (aM () O (by first|(rw [show decide (op=5∨op=19)=decide (op=5)from decide_eq_decide.2 (by omega)];rfl)|(rw [show decide (op=5∨op=19)=decide (op=19)from decide_eq_decide.2 (by omega)];rfl)) J J)
         ·(try simp only [be]at h8)
          refine ap (ar J J aY J (ai J J (ac (aM () O (by first|(rw [show decide (op=5∨op=19)=decide (op=5)from decide_eq_decide.2 (by omega)];rfl)|(rw [show decide (op=5∨op=19)=decide (op=19)from decide_eq_decide.2 (by omega)];rfl)) J J))))
        ·refine ae J (fun h9=> ?_) (fun h9=> ?_)
         ·(try simp only [be]at h9)
          have e:iQ op=7:=by unfold iQ;rw [if_neg (by omega),if_neg (by omega),if_neg (by omega),if_neg (by omega),if_pos (by omega)]
          rw [e];refine aj (ai J J (ac (au (aH () O J (bE (aJ J)) J [] [] J J J))))
         ·(try simp only [be]at h9)
          refine br (X:=Unit) (fun _=>True) (fun _=> [(3,.int .i64 op),(18,.bool (decide (op=6∨op=20)))]) (fun _=> []) (fun _=> []) ?_ (fun _ _=> ?_)
          ·refine aj (ar J J aY J (ai J J (ac (ae J (fun h10=> ?_) (fun h10=> ?_)))))
           ·(try simp only [be]at h10)
            refine ax (aM () O (by first|(rw [show decide (op=6∨op=20)=decide (op=6)from decide_eq_decide.2 (by omega)];rfl)|(rw [show decide (op=6∨op=20)=decide (op=20)from decide_eq_decide.2 (by omega)];rfl)) J J)
           ·(try simp only [be]at h10)
            refine ap (ar J J aY J (ai J J (ac (aM () O (by first|(rw [show decide (op=6∨op=20)=decide (op=6)from decide_eq_decide.2 (by omega)];rfl)|(rw [show decide (op=6∨op=20)=decide (op=20)from decide_eq_decide.2 (by omega)];rfl)) J J))))
          ·refine ae J (fun h11=> ?_) (fun h11=> ?_)
           ·(try simp only [be]at h11)
            have e:iQ op=8:=by unfold iQ;rw [if_neg (by omega),if_neg (by omega),if_neg (by omega),if_neg (by omega),if_neg (by omega),if_pos (by omega)]
            rw [e];refine aj (ai J J (ac (au (aH () O J (bE (aJ J)) J [] [] J J J))))
           ·(try simp only [be]at h11)
            refine br (X:=Unit) (fun _=>True) (fun _=> [(3,.int .i64 op),(21,.bool (decide (op=7∨op=21)))]) (fun _=> []) (fun _=> []) ?_ (fun _ _=> ?_)
            ·refine aj (ar J J aY J (ai J J (ac (ae J (fun h12=> ?_) (fun h12=> ?_)))))
             ·(try simp only [be]at h12)
              refine ax (aM () O (by first|(rw [show decide (op=7∨op=21)=decide (op=7)from decide_eq_decide.2 (by omega)];rfl)|(rw [show decide (op=7∨op=21)=decide (op=21)from decide_eq_decide.2 (by omega)];rfl)) J J)
             ·(try simp only [be]at h12)
              refine ap (ar J J aY J (ai J J (ac (aM () O (by first|(rw [show decide (op=7∨op=21)=decide (op=7)from decide_eq_decide.2 (by omega)];rfl)|(rw [show decide (op=7∨op=21)=decide (op=21)from decide_eq_decide.2 (by omega)];rfl)) J J))))
            ·refine ae J (fun h13=> ?_) (fun h13=> ?_)
             ·(try simp only [be]at h13)
              have e:iQ op=9:=by unfold iQ;rw [if_neg (by omega),if_neg (by omega),if_neg (by omega),if_neg (by omega),if_neg (by omega),if_neg (by omega),if_pos (by omega)]
              rw [e];refine aj (ai J J (ac (au (aH () O J (bE (aJ J)) J [] [] J J J))))
             ·(try simp only [be]at h13)
              refine br (X:=Unit) (fun _=>True) (fun _=> [(3,.int .i64 op),(24,.bool (decide (op=8∨op=22)))]) (fun _=> []) (fun _=> []) ?_ (fun _ _=> ?_)
              ·refine aj (ar J J aY J (ai J J (ac (ae J (fun h14=> ?_) (fun h14=> ?_)))))
               ·(try simp only [be]at h14)
                refine ax (aM () O (by first|(rw [show decide (op=8∨op=22)=decide (op=8)from decide_eq_decide.2 (by omega)];rfl)|(rw [show decide (op=8∨op=22)=decide (op=22)from decide_eq_decide.2 (by omega)];rfl)) J J)
               ·(try simp only [be]at h14)
                refine ap (ar J J aY J (ai J J (ac (aM () O (by first|(rw [show decide (op=8∨op=22)=decide (op=8)from decide_eq_decide.2 (by omega)];rfl)|(rw [show decide (op=8∨op=22)=decide (op=22)from decide_eq_decide.2 (by omega)];rfl)) J J))))
              ·refine ae J (fun h15=> ?_) (fun h15=> ?_)
               ·(try simp only [be]at h15)
                have e:iQ op=10:=by unfold iQ;rw [if_neg (by omega),if_neg (by omega),if_neg (by omega),if_neg (by omega),if_neg (by omega),if_neg (by omega),if_neg (by omega),if_pos (by omega)]
                rw [e];refine aj (ai J J (ac (au (aH () O J (bE (aJ J)) J [] [] J J J))))
               ·(try simp only [be]at h15)
                refine aj (ar J J aY J (ai J J (ac (ae J (fun h16=> ?_) (fun h16=> ?_)))))
                ·(try simp only [be]at h16)
                 have e:iQ op=11:=by unfold iQ;rw [if_neg (by omega),if_neg (by omega),if_neg (by omega),if_neg (by omega),if_neg (by omega),if_neg (by omega),if_neg (by omega),if_neg (by omega),if_pos (by omega)]
                 rw [e];refine aj (ai J J (ac (au (aH () O J (bE (aJ J)) J [] [] J J J))))
                ·(try simp only [be]at h16)
                 refine aj (ar J J aY J (ai J J (ac (ae J (fun h17=> ?_) (fun h17=> ?_)))))
                 ·(try simp only [be]at h17)
                  have e:iQ op=12:=by unfold iQ;rw [if_neg (by omega),if_neg (by omega),if_neg (by omega),if_neg (by omega),if_neg (by omega),if_neg (by omega),if_neg (by omega),if_neg (by omega),if_neg (by omega),if_pos (by omega)]
                  rw [e];refine aj (ai J J (ac (au (aH () O J (bE (aJ J)) J [] [] J J J))))
                 ·(try simp only [be]at h17)
                  refine aj (ar J J aY J (ai J J (ac (ae J (fun h18=> ?_) (fun h18=> ?_)))))
                  ·(try simp only [be]at h18)
                   have e:iQ op=14:=by unfold iQ;rw [if_neg (by omega),if_neg (by omega),if_neg (by omega),if_neg (by omega),if_neg (by omega),if_neg (by omega),if_neg (by omega),if_neg (by omega),if_neg (by omega),if_neg (by omega),if_pos (by omega)]
                   rw [e];refine aj (ai J J (ac (au (aH () O J (bE (aJ J)) J [] [] J J J))))
                  ·(try simp only [be]at h18)
                   refine aj (ar J J aY J (ai J J (ac (ae J (fun h19=> ?_) (fun h19=> ?_)))))
                   ·(try simp only [be]at h19)
                    have e:iQ op=15:=by unfold iQ;rw [if_neg (by omega),if_neg (by omega),if_neg (by omega),if_neg (by omega),if_neg (by omega),if_neg (by omega),if_neg (by omega),if_neg (by omega),if_neg (by omega),if_neg (by omega),if_neg (by omega),if_pos (by omega)]
                    rw [e];refine aj (ai J J (ac (au (aH () O J (bE (aJ J)) J [] [] J J J))))
                   ·(try simp only [be]at h19)
                    have e:iQ op=0:=by unfold iQ;rw [if_neg (by omega),if_neg (by omega),if_neg (by omega),if_neg (by omega),if_neg (by omega),if_neg (by omega),if_neg (by omega),if_neg (by omega),if_neg (by omega),if_neg (by omega),if_neg (by omega),if_neg (by omega)]
                    rw [e];refine ax (aj (ai J J (ac (au (aH () O J (bE (aJ J)) J [] [] J J J)))))
theorem ri(a b:Int):
  Spec prog 153 [.int .i64 32,.int .u32 a,.int .u32 b] [] [] (X:=Unit) (fun _=>True) (fun _=> .bool (decide (a=b))) (fun _=> []) (fun _=> []):=by
 refine aI func153 J ntmps153 J fun w0 M H=>aj (ai J J (ac (aS (ad J J (ac (aB (aj (ar J J aY J (ai J J (ac (ae J (fun h1=> ?_) (fun h1=> ?_))))))))))))
 ·(try simp only [be]at h1)
  refine aj (ad J J (ad J J (ar J J aY J (ai J J (ac (au (aH () O J (bE (aJ J)) J [] [] J J J)))))))
 ·exact absurd h1 (by decide)
theorem rh(a b:Int):
  Spec prog 153 [.int .i64 35,.int .u32 a,.int .u32 b] [] [] (X:=Unit) (fun _=>True) (fun _=> .bool (decide (a≥b))) (fun _=> []) (fun _=> []):=by
 refine aI func153 J ntmps153 J fun w0 M H=>aj (ai J J (ac (aS (ad J J (ac (aB (aj (ar J J aY J (ai J J (ac (ae J (fun h1=> ?_) (fun h1=> ?_))))))))))))
 ·exact absurd h1 (by decide)
 ·(try simp only [be]at h1)
  refine aj (ar J J aY J (ai J J (ac (ae J (fun h2=> ?_) (fun h2=> ?_)))))
  ·exact absurd h2 (by decide)
  ·(try simp only [be]at h2)
   refine aj (ar J J aY J (ai J J (ac (ae J (fun h3=> ?_) (fun h3=> ?_)))))
   ·exact absurd h3 (by decide)
   ·(try simp only [be]at h3)
    refine aj (ar J J aY J (ai J J (ac (ae J (fun h4=> ?_) (fun h4=> ?_)))))
    ·(try simp only [be]at h4)
     refine aj (ad J J (ad J J (ar J J fe J (ai J J (ac (au (aH () O J (bE (aJ J)) J [] [] J J J)))))))
    ·exact absurd h4 (by decide)
structure Fx(s:Mm)(i:Qi)(pc:Int):Prop where
 imm:0≤i.imm∧i.imm<4294967296
 hv:VQ i
 p:0≤pc∧pc+4≤s.d.length
 al:pc%4=0
 rt:∀k:Int,0≤k→k<4→wD s (pc+k) 4=true
 im:∀k:Nat,k<4→s.i[pc.toNat+k]?=(eD (lD i))[k]?
theorem VQ.bd{i:Qi}(hv:VQ i):0≤lD i∧lD i<4294967296:=x7 (i:=i) (by unfold oj;simp only [Bool.and_eq_true];exact⟨⟨⟨⟨hv.k,hv.fd⟩,hv.fa⟩,hv.fb⟩,hv.im⟩)
def K_(w:Int):Nat→Int
 | 0=>0
 | k+1=>K_ w k+lg w k%256*256^k
theorem Gf{w:Int}(hw:0≤w∧w<4294967296):K_ w 4=w:=by
 show 0+w%256*256^0+w/256%256*256^1+w/256/256%256*256^2+w/256/256/256%256*256^3=w;omega
theorem Dg{w:Int}(hw:0≤w∧w<4294967296){k:Nat}(hk:k<4):0≤K_ w k∧K_ w k+lg w k%256*256^k<4294967296∧0≤lg w k%256*256^k∧lg w k%256*256^k<4294967296:=by
 have:k=0∨k=1∨k=2∨k=3:=by omega
 rcases this with rfl|rfl|rfl|rfl
 ·show 0≤(0:Int)∧0+w%256*256^0<4294967296∧0≤w%256*256^0∧w%256*256^0<4294967296;omega
 ·show 0≤0+w%256*256^0∧0+w%256*256^0+w/256%256*256^1<4294967296∧0≤w/256%256*256^1∧w/256%256*256^1<4294967296;omega
 ·show 0≤0+w%256*256^0+w/256%256*256^1∧0+w%256*256^0+w/256%256*256^1+w/256/256%256*256^2<4294967296∧0≤w/256/256%256*256^2∧w/256/256%256*256^2<4294967296;omega
 ·show 0≤0+w%256*256^0+w/256%256*256^1+w/256/256%256*256^2∧0+w%256*256^0+w/256%256*256^1+w/256/256%256*256^2+w/256/256/256%256*256^3<4294967296∧0≤w/256/256/256%256*256^3∧w/256/256/256%256*256^3<4294967296;omega
theorem OY{w:Int}(hw:0≤w∧w<4294967296){k:Nat}(hk:k<4):IntKind.u32.wrap (lg w k%256*2^(8*(k:Int)).toNat)=lg w k%256*256^k:=by
 obtain⟨-,-,h1,h2⟩:=Dg hw hk;have e:(2:Int)^(8*(k:Int)).toNat=256^k:=by
  have:k=0∨k=1∨k=2∨k=3:=by omega
  rcases this with rfl|rfl|rfl|rfl<;>rfl
 rw [e];exact bK h1 h2
def QP(i:Qi):List Value:=gL i++ [.int .i64 0,.int .u32 0]
theorem uV(e:Me)(s:Mm)(n:Nat)(hs:MO s n)(i:Qi)(pc:Int)(hf:Fx s i pc):
  Spec prog 147 [.int .u32 pc,.pointer (some ⟨e.m,0,none⟩)] [bj e.m 157 (mR e),own 5 1 bZ (sv e.vd) (s).d,own 5 1 bZ (sv e.vi) (s).i,own 3 1 eI (sv e.vr) (s).r] [] (X:=Unit) (fun _=>True) (fun _=> .agg (QP i).toArray) (fun _=> [bj e.m 157 (mR e),own 5 1 bZ (sv e.vd) (s).d,own 5 1 bZ (sv e.vi) (s).i,own 3 1 eI (sv e.vr) (s).r]) (fun _=> []):=by
 refine aI func147 J ntmps147 J fun w0 M H=> ?_
 have hdl:=hs.d;have hnn:=hs.n;have hp:=hf.p;have hal:=hf.al;have hwb:=hf.hv.bd;refine aj (aZ AJ J J fun b4=>ac (aS (ad J J (ar J J (gd (by omega) (by first|exact kc (by omega)|rfl)) J (ar J J df J (ac (ae J (fun h1=> ?_) (fun h1=> ?_))))))))
 ·(exfalso;have h0:=h1;revert h0;simp;omega)
 ·(try simp only [be]at h1)
  refine ax (aj (ai J J (ac (aS (ai J J (ac (aB (bv (X:=Nat) (fun k=>k≤4) (fun k=> [(0,.int .u32 pc),(1,.pointer (some ⟨e.m,0,none⟩)),(4,.pointer (some ⟨b4,0,none⟩)),(5,.int .u32 (K_ (lD i) k)),(6,.int .i64 (k:Int))]) (fun k=> [(0,bj e.m 157 (mR e)),(1,own 5 1 bZ (sv e.vd) s.d),(2,own 5 1 bZ (sv e.vi) s.i),(3,own 3 1 eI (sv e.vr) s.r),(4,bj b4 236 [.int .i64 0,.int .i64 0,.int .i64 0,.int .i64 0,.int .u32 0,.int .i64 0,.int .u32 0])]) (fun k=> []) (fun k=>4-k) 0 (Nat.zero_le _) J J J (fun k n1=>aS (ad J J (ar J J ci J (ac (ae J (fun h2=> ?_) (fun h2=> ?_))))))))))))))
  ·(try simp only [be]at h2)
   have hi:k<4:=by omega
   have hbk:=Dg hwb hi;refine ax (a_ (aB (aj (ad J J (ad J J (ad J J (aO (bX underlying3 underlying41 J (c:=(k:Int)) (bK (by omega) (by omega))) J (ar J J (bi (c:=pc+k) (bK (by omega) (by omega))) J ?_))))))));refine d9 (xs:= [.tmp 19,.tmp 23]) (Bq e s n hs (pc+k) (by omega) (hf.rt k (by omega) (by omega)) (lg (lD i) k%256) (by rw [show(pc+(k:Int)).toNat=pc.toNat+k by omega,hf.im k hi,y6 hwb hi]) (by omega)) Nq [0,1,2,3] [] [0,1,2,3] J J J J J J J J (fun _ _=>J) (fun _ _ _=>J) J (fun _ _=> ?_);refine aZ gC J J fun b7=>aq (k:=7) gC J J J J J J (ac (aS (az mU J J (aP 7 t4 J J J J J (aO (ch J) J (ac (ae J (fun h3=> ?_) (fun h3=> ?_))))))))
   ·cases h3
   ·(try simp only [be]at h3)
    refine ax (ap (ad J J (az oR J J (aP 7 cB J J J J J (ad J J (ar J J (dr (by first|exact bc (by omega) (by omega)|rfl)) J (aO (bX underlying3 underlying138 J (c:=8*(k:Int)) (by first|exact yE (by omega) (by omega)|rfl)) J (ar J J (gj (by omega) (by show _≤(32:Int);omega) (OY hwb hi)) J (ar J J (bi (c:=K_ (lD i) (k+1)) (bK (by omega) (by omega))) J (ai J J (ac (ap (ad J J (ar J J (bi (by first|exact bc (by omega) (by omega)|rfl)) J (ai J J (ac ?_))))))))))))))));refine aM (k+1) ⟨by omega,by omega⟩ J J J
  ·(try simp only [be]at h2)
   have hi:k=4:=by omega
   subst hi;rw [Gf hwb];refine bx (aj (ad J J (ak (xs:= [.tmp 43]) (tg i hf.imm hf.hv) Np [] [] [] (fun _ _=>ad J J (aO (ce J J) J (aO (ce J J) J (aZ ew J J fun b8=>aq (k:=8) ew J J J J J J (ai J J (ac (aS (ad J J (ar J J df J (ac (ae J (fun h4=> ?_) (fun h4=> ?_)))))))))))))))
   ·cases h4
   ·(try simp only [be]at h4)
    refine ax (aj (aO (aL ew J J J (aX (k:=8) J)) J (aO (aV (cs:=(QP i).toArray) (parts:= [(0,.tmp 51)]) AJ L8 J (by kernel_rfl)) J (aq (k:=4) AJ J J J J J J (ac (au (aH () O J (bE (bh AJ J J J (aX (k:=4) J))) J [0,1,2,3] [] J J J)))))))
def xC(vp vi vo:SV)(mem:Nat→Int)(fuel used er:Int):List Value:= [sv vp,sv vi,sv vo]++((List.range 256).map (fun i=> .int .u32 (mem i))++ [.int .i64 fuel,.int .i64 used,.int .i64 er])
section
variable{vp vi vo:SV}{mem:Nat→Int}{fuel used er:Int}
theorem sX:(xC vp vi vo mem fuel used er).length=262:=by simp [xC]
theorem sY{o:Nat}{u:Value}(h:o+1≤262):Nat.ble (o+ [u].length) (xC vp vi vo mem fuel used er).length=true:=by
 rw [sX];exact Nat.ble_eq_true_of_le h
theorem EQ{A tl:List Value}(h:A.length=259)(k:Nat):(A++tl)[259+k]?=tl[k]?:=by
 rw [List.getElem?_append_right (by omega)]
 congr 1
 omega
theorem EP{A tl:List Value}(h:A.length=259)(k:Nat)(v:Value):(A++tl).set (259+k) v=A++tl.set k v:=by
 rw [List.set_append_right _ _ (by omega)]
 congr 2
 omega
theorem BV(k:Nat):(xC vp vi vo mem fuel used er)[259+k]?=([.int .i64 fuel,.int .i64 used,.int .i64 er]:List Value)[k]?:=by
 unfold xC;rw [←List.append_assoc];exact EQ (by simp) k
theorem yD:(xC vp vi vo mem fuel used er)[259]?=some (.int .i64 fuel):=BV 0
theorem sW:(xC vp vi vo mem fuel used er)[260]?=some (.int .i64 used):=BV 1
theorem j9:(xC vp vi vo mem fuel used er)[261]?=some (.int .i64 er):=BV 2
theorem IX{i:Nat}(hi:i<256):(xC vp vi vo mem fuel used er)[3+i]?=some (.int .u32 (mem i)):=by
 unfold xC;rw [List.getElem?_append_right (by simp),List.getElem?_append_left (by simp;omega),List.getElem?_map,List.getElem?_range (by simp;omega)];simp
theorem BX(k:Nat)(v:Value):(xC vp vi vo mem fuel used er).set (259+k) v= [sv vp,sv vi,sv vo]++((List.range 256).map (fun i=> .int .u32 (mem i))++([.int .i64 fuel,.int .i64 used,.int .i64 er]:List Value).set k v):=by
 unfold xC;rw [←List.append_assoc,←List.append_assoc];exact EP (by simp) k v
theorem wL{f:Int}:(xC vp vi vo mem fuel used er).take 260++ [.int .i64 f]++(xC vp vi vo mem fuel used er).drop (260+ [Value.int .i64 f].length)=xC vp vi vo mem fuel f er:=(tt (by rw [sX];decide)).trans (BX 1 _)
theorem ut{f:Int}:(xC vp vi vo mem fuel used er).take 261++ [.int .i64 f]++(xC vp vi vo mem fuel used er).drop (261+ [Value.int .i64 f].length)=xC vp vi vo mem fuel used f:=(tt (by rw [sX];decide)).trans (BX 2 _)
theorem BW{v:SV}:(xC vp vi vo mem fuel used er).take 1++ [sv v]++(xC vp vi vo mem fuel used er).drop (1+ [sv v].length)=xC vp v vo mem fuel used er:=rfl
theorem AB{v:SV}:(xC vp vi vo mem fuel used er).take 2++ [sv v]++(xC vp vi vo mem fuel used er).drop (2+ [sv v].length)=xC vp vi v mem fuel used er:=rfl
theorem AC{i:Nat}(hi:i<256){v:Int}:(xC vp vi vo mem fuel used er).take (3+i*1)++ [.int .u32 v]++(xC vp vi vo mem fuel used er).drop (3+i*1+ [Value.int .u32 v].length)=xC vp vi vo (rG mem i v) fuel used er:=by
 rw [tt (by rw [sX];omega)];unfold xC;rw [List.set_append_right _ _ (by simp),List.set_append_left _ _ (by simp;omega),←Ge hi];rw [show 3+i*1-([sv vp,sv vi,sv vo]:List Value).length=i by simp]
end
def kB(fr:Vs)(x:ByteArray)(n:Int):Vs:=match fr.findIdx? (fun p=>decide (p.1=x))with
 | some i=>fr.set i (x,n)
 | none=>fr++ [(x,n)]
def FrEq(fr vs:Vs):Prop:=∀x,gM fr x=gM vs x
theorem AE(vs:Vs)(x y:ByteArray)(n:Int):gM (d8 vs x n) y=if x=y then n else gM vs y:=by
 unfold gM d8;rw [List.find?_cons];by_cases h:x=y
 ·rw [decide_eq_true (show(x,n).1=y from h),if_pos h]
 ·rw [decide_eq_false (show ¬(x,n).1=y from h),if_neg h];dsimp only;rw [List.find?_filter]
  congr 1
  congr 1
  funext p;by_cases h2:p.1=y
  ·have h3:p.1≠x:=fun h4=>h (h4.symm.trans h2)
   simp [h2];intro h5;exact absurd (h5.symm) (fun h6=>h h6)
  ·simp [h2]
theorem vP{l:Vs}{i:Nat}{p:ByteArray×Int}{x y:ByteArray}{n:Int}(hi:l[i]?=some p)(hp:p.1=x)(h:x≠y):(l.set i (x,n)).find? (fun p=>decide (p.1=y))=l.find? (fun p=>decide (p.1=y)):=by
 induction l generalizing i with
 | nil=>simp at hi
 | cons a r ih=>
  cases i with
  | zero=>
   cases hi;rw [List.set_cons_zero,List.find?_cons,List.find?_cons,decide_eq_false (show ¬(x,n).1=y from h),decide_eq_false (show ¬p.1=y by rw [hp];exact h)]
  | succ i=>
   rw [List.set_cons_succ,List.find?_cons,List.find?_cons,ih hi]
theorem vR{l:Vs}{i:Nat}{x:ByteArray}{n:Int}(hi:i<l.length)(hb:∀j p,j<i→l[j]?=some p→p.1≠x):(l.set i (x,n)).find? (fun p=>decide (p.1=x))=some (x,n):=by
 induction l generalizing i with
 | nil=>simp at hi
 | cons a r ih=>
  cases i with
  | zero=>rw [List.set_cons_zero,List.find?_cons,decide_eq_true (show(x,n).1=x from rfl)]
  | succ i=>
   have h1:a.1≠x:=hb 0 a (by omega) J;rw [List.set_cons_succ,List.find?_cons,decide_eq_false h1];exact ih (by simpa using hi) fun j p hj hp=>hb (j+1) p (by omega) hp
theorem tT{fr:Vs}{x:ByteArray}{n:Int}{i:Nat}{p:ByteArray×Int}(hi:fr[i]?=some p)(hp:p.1=x)(hb:∀j p,j<i→fr[j]?=some p→p.1≠x):kB fr x n=fr.set i (x,n):=by
 have h:fr.findIdx? (fun p=>decide (p.1=x))=some i:=by
  rw [List.findIdx?_eq_some_iff_getElem];obtain⟨h1,h2⟩:=List.getElem?_eq_some_iff.1 hi;refine⟨h1,by rw [h2];simpa using hp,fun j hj=> ?_⟩;have:=hb j _ hj (List.getElem?_eq_getElem (by omega));simpa using this
 unfold kB;rw [h]
theorem zD{fr:Vs}{x:ByteArray}{n:Int}(hb:∀p∈fr,p.1≠x):kB fr x n=fr++ [(x,n)]:=by
 have h:fr.findIdx? (fun p=>decide (p.1=x))=none:=by
  rw [List.findIdx?_eq_none_iff];intro p hp;simpa using hb p hp
 unfold kB;rw [h]
theorem rZ(fr:Vs)(x y:ByteArray)(n:Int):gM (kB fr x n) y=if x=y then n else gM fr y:=by
 cases h:fr.findIdx? (fun p=>decide (p.1=x))with
 | none=>
  have hb:∀p∈fr,p.1≠x:=by
   rw [List.findIdx?_eq_none_iff]at h;intro p hp;have:=h p hp;simpa using this
  rw [zD hb];unfold gM;rw [List.find?_append];by_cases hxy:x=y
  ·rw [if_pos hxy];subst hxy;have h2:fr.find? (fun p=>decide (p.1=x))=none:=List.find?_eq_none.2 fun p hp=>by simpa using hb p hp
   rw [h2];simp
  ·rw [if_neg hxy];cases hf:fr.find? (fun p=>decide (p.1=y))with
   | some p=>rfl
   | none=>simp [hxy]
 | some i=>
  rw [List.findIdx?_eq_some_iff_getElem]at h;obtain⟨h1,h2,h3⟩:=h;have h2:fr[i].1=x:=by simpa using h2
  have hb:∀j p,j<i→fr[j]?=some p→p.1≠x:=fun j p hj hp=>by
   have h4:=h3 j hj;rw [List.getElem?_eq_getElem (by omega)]at hp;cases hp;simpa using h4
  rw [tT (List.getElem?_eq_getElem h1) h2 hb];unfold gM;by_cases hxy:x=y
  ·rw [if_pos hxy];subst hxy;rw [vR h1 hb]
  ·rw [if_neg hxy,vP (List.getElem?_eq_getElem h1) h2 hxy]
theorem FrEq.put{fr vs:Vs}(h:FrEq fr vs)(x:ByteArray)(n:Int):FrEq (kB fr x n) (d8 vs x n):=fun y=>by rw [rZ,AE,h y]
theorem qt(fr:Vs)(x:ByteArray)(n:Int):(kB fr x n).length≤fr.length+1:=by
 unfold kB;split
 ·rw [List.length_set];omega
 ·rw [List.length_append,List.length_singleton];omega
theorem A9{fr:Vs}{i:Nat}{p:ByteArray×Int}{n:Int}(hi:fr[i]?=some p):(fr.set i (p.1,n)).map Prod.fst=fr.map Prod.fst∧(fr.set i (p.1,n)).map Prod.snd=(fr.map Prod.snd).set i n:=by
 refine⟨?_,by rw [List.map_set]⟩;rw [List.map_set];apply List.ext_getElem?;intro j;rw [List.getElem?_set];split
 ·rename_i h;subst h;rw [List.getElem?_map,hi];split
  ·rfl
  ·rename_i h2;rw [List.length_map]at h2;exact absurd (List.getElem?_eq_some_iff.1 hi).1 h2
 ·rfl
def fC(vN vV:SV)(d:Int)(done:Bool)(val:Int):List Value:= [sv vN,sv vV,.int .i64 d,.bool done,.int .u32 val]
abbrev rE(fr:Vs):List ByteArray:=fr.map Prod.fst
abbrev s5(fr:Vs):List Int:=fr.map Prod.snd
theorem E9{fr:Vs}{x:ByteArray}{i:Nat}{p:ByteArray×Int}(hi:fr[i]?=some p)(hp:p.1=x)(hb:∀j p,j<i→fr[j]?=some p→p.1≠x):gM fr x=p.2:=by
 have h:=tT (n:=p.2) hi hp hb;have h2:=rZ fr x x p.2;rw [if_pos J,h]at h2;have h3:fr.set i (x,p.2)=fr:=by
  obtain⟨q1,q2⟩:=List.getElem?_eq_some_iff.1 hi;rw [←hp];show fr.set i p=fr;rw [←q2];exact List.set_getElem_self q1
 rw [h3]at h2;exact h2
theorem E8{fr:Vs}{x:ByteArray}(hb:∀p∈fr,p.1≠x):gM fr x=0:=by
 unfold gM;have h2:fr.find? (fun p=>decide (p.1=x))=none:=List.find?_eq_none.2 fun p hp=>by simpa using hb p hp
 rw [h2]
theorem FW(m:Nat)(vp vi vo:SV)(mem:Nat→Int)(fuel used:Int)(er:Int)(he:er≠0):
  Spec prog 194 [.pointer (some ⟨m,0,none⟩)] [bj m 204 (xC vp vi vo mem fuel used er)] [] (X:=Unit) (fun _=>True) (fun _=> .bool false) (fun _=> [bj m 204 (xC vp vi vo mem fuel used er)]) (fun _=> []):=by
 refine aI func194 J ntmps194 J fun w0 M H=>aj (ai J J (ac (aS (ad J J (bG J J (az fp J J (aP 0 nf J J J j9 J (ar J J df J (ac (ae J (fun h1=> ?_) (fun h1=> ?_)))))))))))
 ·refine aj (ai J J (ac (au (aH () O J (bE (aJ J)) J [0] [] J J J))))
 ·exact absurd h1 (by simp [he])
theorem y9(m:Nat)(vp vi vo:SV)(mem:Nat→Int)(fuel used:Int)(hf:used≥fuel):
  Spec prog 194 [.pointer (some ⟨m,0,none⟩)] [bj m 204 (xC vp vi vo mem fuel used 0)] [] (X:=Unit) (fun _=>True) (fun _=> .bool false) (fun _=> [bj m 204 (xC vp vi vo mem fuel used 25)]) (fun _=> []):=by
 refine aI func194 J ntmps194 J fun w0 M H=>aj (ai J J (ac (aS (ad J J (bG J J (az fp J J (aP 0 nf J J J j9 J (ar J J df J (ac (ae J (fun h1=> ?_) (fun h1=> ?_)))))))))))
 ·exact absurd h1 (by simp)
 ·refine ax (a_ (a_ (bH [8,9,10,11,12,13,14,15,16] _ J (bp (V:= [(0,8,_),(1,9,_),(2,10,_),(3,11,_),(4,12,_),(5,13,_),(6,14,_),(7,15,_),(8,16,_)]) [0,1,2,3,4,5,6,7,8] J J (aa (aD J (am J)) (aa (aD J (aF J)) (aa (aD J (ag oV J)) (aa (aD J (ah t3 J J (ay (k:=0) J sW))) (aa (aD J (am J)) (aa (aD J (aF J)) (aa (aD J (ag zQ J)) (aa (aD J (ah t3 J J (ay (k:=0) J yD))) (aa (aD J (aT J J fe)) aw))))))))) J J J (ae J (fun h2=> ?_) (fun h2=> ?_))))))
  ·refine aj (ad J J (bG J J (az fp J J (aK (k:=0) nf J J J J J J (sY (by decide)) (ut) (aG J (ai J J (ac (au (aH () O J (bE (aJ J)) J [0] [] J J J)))))))))
  ·exact absurd hf (of_decide_eq_false h2)
theorem y8(m:Nat)(vp vi vo:SV)(mem:Nat→Int)(fuel used:Int)(hf:used<fuel)(hu: -9000000000000000000≤used∧used≤9000000000000000000):
  Spec prog 194 [.pointer (some ⟨m,0,none⟩)] [bj m 204 (xC vp vi vo mem fuel used 0)] [] (X:=Unit) (fun _=>True) (fun _=> .bool true) (fun _=> [bj m 204 (xC vp vi vo mem fuel (used+1) 0)]) (fun _=> []):=by
 refine aI func194 J ntmps194 J fun w0 M H=>aj (ai J J (ac (aS (ad J J (bG J J (az fp J J (aP 0 nf J J J j9 J (ar J J df J (ac (ae J (fun h1=> ?_) (fun h1=> ?_)))))))))))
 ·exact absurd h1 (by simp)
 ·refine ax (a_ (a_ (bH [8,9,10,11,12,13,14,15,16] _ J (bp (V:= [(0,8,_),(1,9,_),(2,10,_),(3,11,_),(4,12,_),(5,13,_),(6,14,_),(7,15,_),(8,16,_)]) [0,1,2,3,4,5,6,7,8] J J (aa (aD J (am J)) (aa (aD J (aF J)) (aa (aD J (ag oV J)) (aa (aD J (ah t3 J J (ay (k:=0) J sW))) (aa (aD J (am J)) (aa (aD J (aF J)) (aa (aD J (ag zQ J)) (aa (aD J (ah t3 J J (ay (k:=0) J yD))) (aa (aD J (aT J J fe)) aw))))))))) J J J (ae J (fun h2=> ?_) (fun h2=> ?_))))))
  ·exact absurd (of_decide_eq_true h2) (by omega)
  ·refine ax (aj (ad J J (bG J J (az oV J J (aP 0 t3 J J J sW J (ar J J (bi (by first|exact bc (by omega) (by omega)|rfl)) J (bG J J (az oV J J (aK (k:=0) t3 J J J J J J (sY (by decide)) (wL) (aG J (ai J J (ac (au (aH () O J (bE (aJ J)) J [0] [] J J J))))))))))))))
theorem Bn(b:Nat)(vN vV:SV)(d:Int)(done:Bool)(val:Int)(fr:Vs)(hfl:(fr.length:Int)≤2000000000000)(x:ByteArray):
  Spec prog 206 [.pointer (some ⟨b,0,none⟩),.string x] [] [bj b 232 (fC vN vV d done val),sl 1 eS (sv vN) (rE fr),sl 1 eU (sv vV) (s5 fr)] (X:=Unit) (fun _=>True) (fun _=> .int .u32 (gM fr x)) (fun _=> []) (fun _=> []):=by
 refine aI func206 J ntmps206 J fun w0 M H=>aj (ai J J (ac (aS (ai J J (ac (aB (bv (X:=Nat) (fun i=>i≤fr.length∧∀j p,j<i→fr[j]?=some p→p.1≠x) (fun i=> [(0,.pointer (some ⟨b,0,none⟩)),(1,.string x),(5,.int .i64 (i:Int))]) (fun i=> []) (fun i=> [(0,bj b 232 (fC vN vV d done val)),(1,sl 1 eS (sv vN) (rE fr)),(2,sl 1 eU (sv vV) (s5 fr))]) (fun i=>fr.length-i) 0 ⟨Nat.zero_le _,fun j p h=>absurd h (Nat.not_lt_zero _)⟩ J J J (fun i hx0=> ?_))))))))
 obtain⟨n1,n2⟩:=hx0;have hlnm:(rE fr).length=fr.length:=List.length_map ..;refine aS (ad J J (ad J J (bG J J (az kS J J (aO (ah gu J J (cI (k:=0) J J)) J (aO (aU underlying46 J (aN (k:=1) J)) J (ar J J ci J (ac (ae J (fun h1=> ?_) (fun h1=> ?_))))))))))
 ·(try simp only [be]at h1)
  have hi:i<fr.length:=by omega
  obtain⟨p,hp⟩:∃p,fr[i]?=some p:=⟨_,List.getElem?_eq_getElem hi⟩
  have hpn:(rE fr)[i]?=some p.1:=by rw [List.getElem?_map,hp];rfl
  have hpv:(s5 fr)[i]?=some p.2:=by rw [List.getElem?_map,hp];rfl
  have hln:(rE fr).length=fr.length:=List.length_map ..;have hlv:(s5 fr).length=fr.length:=List.length_map ..;refine ax (a_ (aB (aj (ad J J (bG J J (az kS J J (aO (ah gu J J (cI (k:=0) J J)) J (ad J J (aO (aR (j:=i) underlying46 t9 J J (aN (k:=1) J) (by first|rfl|omega) (by omega)) J (aO (ah t9 J J (bD (aN (k:=1) J) (by intro _;rfl) hpn (by rfl))) J (ad J J (ar J J cr J (ac (ae J (fun h2=> ?_) (fun h2=> ?_)))))))))))))))
  ·have heq:p.1=x:=of_decide_eq_true (by rw [←b_];exact h2);refine aj (ad J J (bG J J (az oT J J (aO (ah oo J J (cI (k:=0) J J)) J (ad J J (aO (aR (j:=i) underlying48 cB J J (aN (k:=2) J) (by first|rfl|omega) (by omega)) J (aO (ah cB J J (bD (aN (k:=2) J) (by intro _;rfl) hpv (by rfl))) J (ai J J (ac (au (aH () O J (bE (aJ J)) (by rw [E9 hp heq n2]) [] [] J J J)))))))))))
  ·have hne:p.1≠x:=of_decide_eq_false (by rw [←b_];exact h2);refine ax (ap (ad J J (ar J J (bi (by first|exact bc (by omega) (by omega)|rfl)) J (ai J J (ac ?_)))));refine aM (i+1) ⟨⟨by omega,fun j q hj hq=>by
    by_cases h:j=i
    ·subst h;rw [hp]at hq;cases hq;exact hne
    ·exact n2 j q (by omega) hq⟩,by omega⟩ rfl rfl rfl
 ·(try simp only [be]at h1)
  have hi:i=fr.length:=by omega
  have hall:∀p∈fr,p.1≠x:=fun p hp=>by
   obtain⟨j,hj⟩:=List.getElem?_of_mem hp;exact n2 j p (by rw [hi];exact(List.getElem?_eq_some_iff.1 hj).1) hj
  refine bx (aj (ai J J (ac (au (aH () O J (bE (aJ J)) (by rw [E8 hall]) [] [] J J J)))))
theorem ny(b:Nat)(vN vV:SV)(d:Int)(done:Bool)(val:Int)(fr:Vs)(hfl:(fr.length:Int)≤2000000000000)(x:ByteArray)(n:Int):
  Spec prog 145 [.pointer (some ⟨b,0,none⟩),.string x,.int .u32 n] [bj b 232 (fC vN vV d done val),own 9 1 eS (sv vN) (rE fr),own 41 1 eU (sv vV) (s5 fr)] [] (X:=SV×SV) (fun _=>True) (fun _=> .tuple #[]) (fun y=> [bj b 232 (fC y.1 y.2 d done val),own 9 1 eS (sv y.1) (rE (kB fr x n)),own 41 1 eU (sv y.2) (s5 (kB fr x n))]) (fun _=> []):=by
 refine aI func145 J ntmps145 J fun w0 M H=>aS (ai J J (ac (aB (bv (X:=Nat) (fun i=>i≤fr.length∧∀j p,j<i→fr[j]?=some p→p.1≠x) (fun i=> [(0,.pointer (some ⟨b,0,none⟩)),(1,.string x),(2,.int .u32 n),(6,.int .i64 (i:Int))]) (fun i=> [(0,bj b 232 (fC vN vV d done val)),(1,own 9 1 eS (sv vN) (rE fr)),(2,own 41 1 eU (sv vV) (s5 fr))]) (fun i=> []) (fun i=>fr.length-i) 0 ⟨Nat.zero_le _,fun j p h=>absurd h (Nat.not_lt_zero _)⟩ J J J (fun i hx0=> ?_)))))
 obtain⟨n1,n2⟩:=hx0;have hlnm:(rE fr).length=fr.length:=List.length_map ..;refine aS (ad J J (ad J J (bG J J (az kS J J (aP 0 gu J J J J J (aO (aU underlying46 J (bs (k:=1) J)) J (ar J J ci J (ac (ae J (fun h1=> ?_) (fun h1=> ?_))))))))))
 ·(try simp only [be]at h1)
  have hi:i<fr.length:=by omega
  obtain⟨p,hp⟩:∃p,fr[i]?=some p:=⟨_,List.getElem?_eq_getElem hi⟩
  have hpn:(rE fr)[i]?=some p.1:=by rw [List.getElem?_map,hp];rfl
  have hpv:(s5 fr)[i]?=some p.2:=by rw [List.getElem?_map,hp];rfl
  have hln:(rE fr).length=fr.length:=List.length_map ..;have hlv:(s5 fr).length=fr.length:=List.length_map ..;refine ax (a_ (aB (aj (ad J J (bG J J (az kS J J (aP 0 gu J J J J J (ad J J (aO (aR (j:=i) underlying46 t9 J J (bs (k:=1) J) (by first|rfl|omega) (by omega)) J (aO (ah t9 J J (bD (bs (k:=1) J) (by intro _;rfl) hpn (by rfl))) J (ad J J (ar J J cr J (ac (ae J (fun h2=> ?_) (fun h2=> ?_)))))))))))))))
  ·have heq:p.1=x:=of_decide_eq_true (by rw [←b_];exact h2);refine aj (ad J J (bG J J (az oT J J (aP 0 oo J J J J J (ad J J (ad J J (aO (aR (j:=i) underlying48 cB J J (bs (k:=2) J) (by first|rfl|omega) (by omega)) J (lM (k:=2) (e':=n) cB J J J (by intro _;rfl) hpv J J (ac (au ?_))))))))));have hfin:=tT (n:=n) hp heq n2;obtain⟨hs1,hs2⟩:=A9 (n:=n) hp;rw [heq]at hs1 hs2;refine dD (k:=1) (A':=own 9 1 eS (sv vN) (rE (kB fr x n))) J (fun _ _ h=>by rw [hfin];show(own 9 1 eS (sv vN) ((fr.set i (x,n)).map Prod.fst)).pred _ _;rw [hs1];exact h) ?_;refine dD (k:=2) (A':=own 41 1 eU (sv vV) (s5 (kB fr x n))) J (fun _ _ h=>by rw [hfin];show(own 41 1 eU (sv vV) ((fr.set i (x,n)).map Prod.snd)).pred _ _;rw [hs2];exact h) ?_;refine aH (vN,vV) O J ff J [0,1,2] [] J J J
  ·have hne:p.1≠x:=of_decide_eq_false (by rw [←b_];exact h2);refine ax (ap (ad J J (ar J J (bi (by first|exact bc (by omega) (by omega)|rfl)) J (ai J J (ac ?_)))));refine aM (i+1) ⟨⟨by omega,fun j q hj hq=>by
    by_cases h:j=i
    ·subst h;rw [hp]at hq;cases hq;exact hne
    ·exact n2 j q (by omega) hq⟩,by omega⟩ rfl rfl rfl
 ·(try simp only [be]at h1)
  have hi:i=fr.length:=by omega
  have hall:∀p∈fr,p.1≠x:=fun p hp=>by
   obtain⟨j,hj⟩:=List.getElem?_of_mem hp;exact n2 j p (by rw [hi];exact(List.getElem?_eq_some_iff.1 hj).1) hj
  refine bx (aj (ad J J (ad J J (bG J J (az kS J J (aP 0 gu J J J J J (ad J J (bA eS x underlying46 t9 J (by decide) (by decide) J J J J fun v38=>eO 1 underlying46 t9 J (by decide) (fun _=>J) (fun _=>J) J J J (bs (k:=38) J) (by simp only [List.length_map,List.length_singleton];omega) (by unfold maxLen;simp only [List.length_map,List.length_singleton];omega) J fun v39=>bG J J (az kS J J (aK (k:=0) gu J J J J J J J J (ac (ap (ad J J (ad J J (bG J J (az oT J J ?_))))))))))))))));refine aP 0 oo J J J J J (ad J J (bA eU n underlying48 cB J (by decide) (by decide) J J J J fun v48=>eO 2 underlying48 cB J (by decide) (fun _=>J) (fun _=>J) J J J (bs (k:=48) J) (by simp only [List.length_map,List.length_singleton];omega) (by unfold maxLen;simp only [List.length_map,List.length_singleton];omega) J fun v49=>bG J J (az oT J J (aK (k:=0) oo J J J J J J J J (ac ?_)))));have hfin:=zD (n:=n) hall;refine dD (k:=1) (A':=own 9 1 eS (sv v39) (rE (kB fr x n))) J (fun _ _ h=>by rw [hfin,show rE (fr++ [(x,n)])=rE fr++ [x]from List.map_append ..];exact h) ?_;refine dD (k:=2) (A':=own 41 1 eU (sv v49) (s5 (kB fr x n))) J (fun _ _ h=>by rw [hfin,show s5 (fr++ [(x,n)])=s5 fr++ [n]from List.map_append ..];exact h) ?_;refine bW (v39,v49) O J ff J [0,1,2] [] J J J
structure Rn extends En where
 vp:SV
 fu:Int
structure Sx where
 vi:SV
 vo:SV
 out:List Int
 mem:Nat→Int
 used:Int
 er:Int
def xS(e:Rn)(s:Ms)(vo:SV):Sx:=⟨BM e.vin (e.ins.length-s.inp.length),vo,s.out,s.mem,e.fu-s.fuel,0⟩
abbrev j8(e:Rn)(x:Sx):List Value:=xC e.vp x.vi x.vo x.mem e.fu x.used x.er
def qU(e:Rn)(r:Re Int)(x:Int×Sx):Prop:=(∃s vo,r= .ok x.1 s∧x.2=xS e s vo)∨(x.2.er≠0∧r= .err x.2.er)
structure RkE(e:Rn)(s:Ms):Prop where
 ok:okMs s
 i:SkI e.toEn s
theorem RkE.kp{e:Rn}{s s':Ms}(h:RkE e s)(h':Kp s s'):RkE e s':=⟨h'.ok,h.i.kp h'⟩
def QU(e:Rn)(g d:Nat)(vs:Vs)(t:Tx)(x:Sx)(r:Re Int):Prop:=(∃s vo,x=xS e s vo∧RkE e s∧eo g e.fs d vs t s=some r)∨(x.er≠0∧r= .err x.er)
def KIn(e:Rn)(g d:Nat)(vs:Vs)(acc:List Int)(l:List Tx)(x:Sx)(r:Re (List Int)):Prop:=(∃s vo,x=xS e s vo∧RkE e s∧(∀a∈acc,oW a)∧fY g e.fs d vs acc l s=some r)∨(x.er≠0∧r= .err x.er)
theorem KIn.step{e:Rn}{g d:Nat}{vs:Vs}{acc:List Int}{t:Tx}{l:List Tx}{x:Sx}{r:Re (List Int)}(hF:VF e.fs)(ht:VX e.fs t)(hv:okVs vs)(h:KIn e g d vs acc (t::l) x r):
  ∃g2 rx,g2≤g∧QU e g2 d vs t x rx∧∀y,qU e rx y→KIn e g2 d vs (acc++ [y.1]) l y.2 r:=by
 rcases h with⟨s,vo,h1,h2,h3,h4⟩|⟨h1,h2⟩
 ·obtain⟨g2,rx,hg,hx,hre,hro⟩:=D3 h4;refine⟨g2,rx,by omega,.inl ⟨s,vo,h1,h2,hx⟩,fun y hy=> ?_⟩;rcases hy with⟨s2,vo2,h5,h6⟩|⟨h5,h6⟩
  ·have h7:=hro _ _ h5;rw [h5]at hx;obtain⟨hv1,hv2⟩:=(eB hF g2).x d vs t s y.1 s2 ht hv h2.ok hx;exact .inl ⟨s2,vo2,h6,h2.kp hv2,ET h3 hv1,h7⟩
  ·exact .inr ⟨h5,hre _ h6⟩
 ·refine⟨g,.err x.er,Nat.le_refl _,.inr ⟨h1,J⟩,fun y hy=> ?_⟩;rcases hy with⟨s2,vo2,h5,h6⟩|⟨h5,h6⟩
  ·cases h5
  ·refine .inr ⟨h5,?_⟩;rw [h2];have:=Re.err.inj h6;rw [this]
theorem KIn.done{e:Rn}{g d:Nat}{vs:Vs}{acc:List Int}{x:Sx}{r:Re (List Int)}(h:KIn e g d vs acc [] x r):(∃s vo,x=xS e s vo∧RkE e s∧(∀a∈acc,oW a)∧r= .ok acc s)∨(x.er≠0∧r= .err x.er):=by
 rcases h with⟨s,vo,h1,h2,h3,h4⟩|h
 ·exact .inl ⟨s,vo,h1,h2,h3,G7 h4⟩
 ·exact .inr h
theorem Lr{e:Rn}{s:Ms}{vo:SV}(h:SkI e.toEn s){a:Int}{r:List Int}(hr:s.inp=a::r):xC e.vp (Gg (BM e.vin (e.ins.length-s.inp.length)) 1 1) vo s.mem e.fu (e.fu-s.fuel) 0=j8 e (xS e {s with inp:=r} vo):=by
 have h1:=h.len.1;rw [hr,List.length_cons]at h1;unfold j8 xS;dsimp only;rw [show e.ins.length-r.length=(e.ins.length-s.inp.length)+1 by rw [hr,List.length_cons];omega];rfl
theorem za{α:Type}{T:TypeId}{s:Nat}{enc:α→List Value}{v:Value}{l:List α}:∀w G,(own T s enc v l).pred w G→(∀b,G b→b<w.heap.size)→∃G',(sl s enc v l).pred w G'∧∀b,G' b→G b:=fun w G h _=>⟨G,tx h,fun _ h=>h⟩
abbrev RX(e:Rn)(b d:Nat)(vN vV:SV)(fr:Vs)(t:Tx):List Asn:= [bj b 232 (fC vN vV (d:Int) false 0),own 9 1 eS (sv vN) (rE fr),own 41 1 eU (sv vV) (s5 fr),bS t.v t.kids,cx e.vp e.fs,sl 1 eU (sv e.vin) e.ins]
abbrev LX(e:Rn)(x:Sx):List Asn:= [bj e.m 204 (j8 e x),own 41 1 eU (sv x.vo) x.out]
def KW(e:Rn)(g:Nat):Prop:=∀(t:Tx)(d b:Nat)(vN vV:SV)(fr vs:Vs)(x:Sx)(r:Re Int),VX e.fs t→d≤12→okVs vs→FrEq fr vs→(fr.length:Int)≤2000000000000→QU e g d vs t x r→
 Spec prog 195 [.pointer (some ⟨e.m,0,none⟩),.pointer (some ⟨b,0,none⟩),xV t] (LX e x) (RX e b d vN vV fr t) (X:=Int×Sx) (qU e r) (fun y=> .int .u32 y.1) (fun y=>LX e y.2) (fun _=> [])
def OB(e:Rn)(g:Nat):Prop:=∀(nm:ByteArray)(f:Tf)(d:Nat)(va:SV)(al:List Int)(s:Ms)(vo:SV)(r:Re Int),cm e.fs nm=some f→al.length≤f.ps.length→(∀a∈al,oW a)→d≤12→RkE e s→jR g e.fs d f al s=some r→
 Spec prog 114 [.pointer (some ⟨e.m,0,none⟩),.string nm,sv va,.int .i64 ((d:Int)+1)] (LX e (xS e s vo)) [sl 1 eU (sv va) al,cx e.vp e.fs,sl 1 eU (sv e.vin) e.ins] (X:=Int×Sx) (qU e r) (fun y=> .int .u32 y.1) (fun y=>LX e y.2) (fun _=> [])
structure Yk where
 i:Nat
 g:Nat
 acc:List Int
 x:Sx
 va:SV
theorem yH(u:Int):vO (some u)= .agg #[.int .u32 u,.bool true]:=rfl
theorem Ht(e:Rn)(t:Tx)(d b:Nat)(vN vV:SV)(fr vs:Vs)(x:Sx)(r:Re Int)(hx:x.er≠0)(hr:r= .err x.er)(ht:VX e.fs t)(hd:d≤12)(hvs:okVs vs)(hfr:FrEq fr vs)(hfrl:(fr.length:Int)≤2000000000000):
  Spec prog 195 [.pointer (some ⟨e.m,0,none⟩),.pointer (some ⟨b,0,none⟩),xV t] (LX e x) (RX e b d vN vV fr t) (X:=Int×Sx) (qU e r) (fun y=> .int .u32 y.1) (fun y=>LX e y.2) (fun _=> []):=by
 refine aI func195 J ntmps195 J fun w0 M H=>aj (bU J J fun b5=>ai J J (aG J (ad J J (ak (xs:= [.tmp 11]) (FW e.m e.vp x.vi x.vo x.mem e.fu x.used x.er hx) wn [0] [] [0] (fun _ _=>ai J J (ac (aS (ad J J (aO (ch J) J (ac (ae J (fun h1=> ?_) (fun h1=> ?_))))))))))))
 ·(try simp only [be]at h1)
  refine aj (ai J J (ac (au (aH (0,x) (.inr ⟨hx,hr⟩) J (bE (aJ J)) J [0,1] [] J J J))))
 ·exact absurd h1 (by simp)
theorem Lu(e:Rn)(t:Tx)(d b:Nat)(vN vV:SV)(fr vs:Vs)(g:Nat)(s:Ms)(vo:SV)(r:Re Int)(hr:eo (g+1) e.fs d vs t s=some r)(hfu:s.fuel≤0)(ht:VX e.fs t)(hd:d≤12)(hvs:okVs vs)(hfr:FrEq fr vs)(hfrl:(fr.length:Int)≤2000000000000):
  Spec prog 195 [.pointer (some ⟨e.m,0,none⟩),.pointer (some ⟨b,0,none⟩),xV t] (LX e (xS e s vo)) (RX e b d vN vV fr t) (X:=Int×Sx) (qU e r) (fun y=> .int .u32 y.1) (fun y=>LX e y.2) (fun _=> []):=by
 refine aI func195 J ntmps195 J fun w0 M H=> ?_
 unfold eo at hr;rw [if_pos hfu]at hr;have hr1:r= .err 25:=(Option.some.inj hr).symm;refine aj (bU J J fun b5=>ai J J (aG J (ad J J (ak (xs:= [.tmp 11]) (y9 e.m e.vp (BM e.vin (e.ins.length-s.inp.length)) vo s.mem e.fu (e.fu-s.fuel) (by omega)) wn [0] [] [0] (fun _ _=>ai J J (ac (aS (ad J J (aO (ch J) J (ac (ae J (fun h1=> ?_) (fun h1=> ?_))))))))))))
 ·(try simp only [be]at h1)
  refine aj (ai J J (ac (au ?_)));refine aH (0,{xS e s vo with er:=25}) (.inr ⟨by show(25:Int)≠0;decide,hr1⟩) J (bE (aJ J)) J [0,1] [] J J J
 ·exact absurd h1 (by simp)
theorem Lt(e:Rn)(g:Nat)(hF:VF e.fs)(hfu1: -1000000000000000000≤e.fu)(hfu2:e.fu≤1000000000000000000)(hfl:e.fs.length≤1000000)(ihX:∀k,k≤g→KW e k)(ihC:∀k,k≤g→OB e k)(t:Tx)(d b:Nat)(vN vV:SV)(fr vs:Vs)(s:Ms)(vo:SV)(r:Re Int)(hs:RkE e s)(hr:eo (g+1) e.fs d vs t s=some r)(hfu:¬s.fuel≤0)(ht:VX e.fs t)(hd:d≤12)(hvs:okVs vs)(hfr:FrEq fr vs)(hfrl:(fr.length:Int)≤2000000000000):
  Spec prog 195 [.pointer (some ⟨e.m,0,none⟩),.pointer (some ⟨b,0,none⟩),xV t] (LX e (xS e s vo)) (RX e b d vN vV fr t) (X:=Int×Sx) (qU e r) (fun y=> .int .u32 y.1) (fun y=>LX e y.2) (fun _=> []):=by
 refine aI func195 J ntmps195 J fun w0 M H=> ?_
 unfold eo at hr;rw [if_neg hfu]at hr;obtain⟨s1,hs1⟩:∃s1:Ms,({s with fuel:=s.fuel-1}:Ms)=s1:=⟨_,J⟩
 have hp:=Kp.pay hs.ok hfu;have hmR:xC e.vp (BM e.vin (e.ins.length-s.inp.length)) vo s.mem e.fu (e.fu-s.fuel+1) 0=j8 e (xS e s1 vo):=by
  rw [←hs1];unfold j8 xS;dsimp only
  congr 1
  omega
 have hso:s.out=s1.out:=by rw [←hs1]
 rw [hs1]at hr hp;have h51:=hs.kp hp;have hfub:=hs.ok.out;obtain⟨rk,hk⟩:∃rk,fY g e.fs d vs [] t.kids s1=some rk:=by
  cases h:fY g e.fs d vs [] t.kids s1 with
  | none=>rw [h]at hr;simp at hr
  | some q=>exact⟨q,rfl⟩
 rw [hk]at hr;have htk:=ul ht;have htl:=KU ht;refine aW 3 7 J eW (aj (bU J J fun b5=>ai J J (aG J (ad J J ?_))));refine d9 (xs:= [.tmp 11]) (y8 e.m e.vp (BM e.vin (e.ins.length-s.inp.length)) vo s.mem e.fu (e.fu-s.fuel) (by omega) ⟨by omega,by omega⟩) wn [0] [] [0] J J J J J J J J (fun _ _=>J) (fun _ _ _=>J) J (fun _ _=> ?_);rw [hmR];refine ai J J (ac (aS (ad J J (aO (ch J) J (ac (ae J (fun h1=> ?_) (fun h1=> ?_)))))))
 ·exact absurd h1 (by simp)
 ·(try simp only [be]at h1)
  refine ax (aj (ai J J (ac (aS (ai J J (ac (aB (cJ 90 (α:=Int) (S:=41) (s:=1) (enc:=eU) ?_))))))));refine bv (X:=Yk) (fun z=>z.i≤t.kids.length∧z.g≤g∧z.acc.length=z.i∧KIn e z.g d vs z.acc (t.kids.drop z.i) z.x rk) (fun z=> [(0,.pointer (some ⟨e.m,0,none⟩)),(1,.pointer (some ⟨b,0,none⟩)),(5,.pointer (some ⟨b5,0,none⟩)),(8,sv z.va),(9,.int .i64 (z.i:Int))]) (fun z=> [(0,bj e.m 204 (j8 e z.x)),(1,own 41 1 eU (sv z.x.vo) z.x.out),(5,bj b5 61 (dt t)),(90,own 41 1 eU (sv z.va) z.acc)]) (fun z=> [(0,bj b 232 (fC vN vV (d:Int) false 0)),(1,own 9 1 eS (sv vN) (rE fr)),(2,own 41 1 eU (sv vV) (s5 fr)),(3,bS t.v t.kids),(4,cx e.vp e.fs),(5,sl 1 eU (sv e.vin) e.ins),(7,sl 4 dt (sv t.v) t.kids)]) (fun z=>t.kids.length-z.i) ⟨0,g,[],xS e s1 vo,bJ⟩ ⟨Nat.zero_le _,Nat.le_refl _,J,.inl ⟨s1,vo,J,h51,by simp,hk⟩⟩ J (by dsimp only [xS];rw [hso];rfl) J (fun z hz0=> ?_);obtain⟨i,gz,acc,x,va⟩:=z;obtain⟨n1,n2,n3,n4⟩:=hz0;dsimp only at n1 n2 n3 n4 ⊢;refine aS (ad J J (az dc J J (aP 5 ij J J J J J (aO (aU underlying59 J (aN (k:=7) J)) J (ar J J ci J (ac (ae J (fun h2=> ?_) (fun h2=> ?_))))))))
  ·(try simp only [be]at h2)
   have hi:i<t.kids.length:=by omega
   obtain⟨kid,hkid⟩:∃k,t.kids[i]?=some k:=⟨_,List.getElem?_eq_getElem hi⟩
   rw [wa hkid]at n4;have hkm:=List.mem_of_getElem? hkid;have hvk:=htk.mem kid hkm;obtain⟨g2,rx,hg2,hin,hstep⟩:=n4.step hF hvk hvs;refine ax (a_ (aB (ap (ad J J (ad J J (ad J J (az dc J J (aP 5 ij J J J J J (ad J J (aO (aR (j:=i) underlying59 co J J (aN (k:=7) J) (by first|rfl|omega) (by first|omega|(simp;done)|(simp;omega))) J (aO (aL co J J J (bD (aN (k:=7) J) (by intro _;rfl) hkid (by rfl))) J (aW 3 8 J (cS hkm) (ak (xs:= [.tmp 23,.tmp 24,.tmp 29]) (ihX g2 (by omega) kid d b vN vV fr vs x rx hvk hd hvs hfr hfrl hin) Aj [0,1] [(false,0),(false,1),(false,2),(false,8),(false,4),(false,5)] [0,1] (fun y hy=>bA eU _ underlying48 cB J (by decide) (by decide) J J J J fun v31=>eO 90 underlying48 cB J (by decide) (fun _=>J) (fun _=>J) J J J (bs (k:=31) J) (by first|omega|(simp;done)|(simp;omega)) (by unfold maxLen;first|omega|(simp;done)|(simp;omega)) J fun v32=>ai J J (ac (ap (ad J J ?_)))))))))))))))));refine ar J J (bi (by first|exact bc (by omega) (by omega)|rfl)) J (ai J J (ac ?_));refine aM ⟨i+1,g2,acc++ [y.1],y.2,v32⟩ ⟨⟨by dsimp only;omega,by dsimp only;omega,by dsimp only;rw [List.length_append,List.length_singleton];omega,hstep y hy⟩,by dsimp only;omega⟩ J J J
  ·(try simp only [be]at h2)
   have hi:i=t.kids.length:=by omega
   rw [List.drop_of_length_le (by omega)]at n4;have n9:=n4.done;refine bx (aS (ad J J (bG J J (az fp J J (aP 0 nf J J J j9 J (ar J J df J (ac (ae J (fun h3=> ?_) (fun h3=> ?_)))))))))
   ·(try simp only [be]at h3)
    have hq:rk= .err x.er:=by
     rcases n9 with⟨sx,vox,hx1,_,_,_⟩|⟨_,hq⟩
     ·rw [hx1]at h3;exact absurd J h3
     ·exact hq
    subst hq;refine aj (ai J J (ac (au (aH (0,x) (.inr ⟨h3,(Option.some.inj hr).symm⟩) J (bE (aJ J)) J [0,1] [] J J J))))
   ·(try simp only [be]at h3)
    clear n4;obtain⟨sx,vox,rfl,n5,n4,hq⟩:∃sx vox,x=xS e sx vox∧RkE e sx∧(∀a∈acc,oW a)∧rk= .ok acc sx:=by
     rcases n9 with h|⟨hq,_⟩
     ·exact h
     ·exact absurd h3 hq
    subst hq;dsimp only at hr;have h7:=jA n4 0;refine ax (aS (az iC J J (aP 5 t3 J J J J J (ac (aB (aj (ar J J aY J (ai J J (ac (ae J (fun h4=> ?_) (fun h4=> ?_)))))))))))
    ·have q1:t.kind=1:=of_decide_eq_true h4;rw [if_pos q1]at hr;refine aj (az tV J J (aP 5 cB J J J J J (ai J J (ac (au (aH (t.n,xS e sx vox) (.inl ⟨_,vox,(Option.some.inj hr).symm,J⟩) J (bE (aJ J)) J [0,1] [] J J J))))))
    ·have q1:¬t.kind=1:=of_decide_eq_false h4;rw [if_neg q1]at hr;refine aj (ar J J aY J (ai J J (ac (ae J (fun h5=> ?_) (fun h5=> ?_)))))
     ·have q2:t.kind=2:=of_decide_eq_true h5;rw [if_pos q2]at hr;refine aj (ad J J (az cZ J J (aP 5 t9 J J J J J (aW 1 11 J za (aW 2 12 J za (ak (xs:= [.tmp 46,.tmp 48]) (Bn b vN vV (d:Int) false 0 fr hfrl t.name) Nc [] [(false,0),(false,11),(false,12)] [] (fun _ _=>ai J J (ac (au (aH (gM vs t.name,xS e sx vox) (.inl ⟨_,vox,(Option.some.inj hr).symm,J⟩) J (bE (aJ J)) (by rw [hfr t.name]) [0,1] [] J J J))))))))))
     ·have q2:¬t.kind=2:=of_decide_eq_false h5;rw [if_neg q2]at hr;refine aj (ar J J aY J (ai J J (ac (ae J (fun h6=> ?_) (fun h6=> ?_)))))
      ·have q4:t.kind=4:=of_decide_eq_true h6;rw [if_pos q4]at hr;have hm1:=KT ht q4;refine a_ (bH [52,53,54,55,56,57,58,59,60,6] _ J (bp (V:= [(0,52,_),(1,53,_),(2,54,_),(3,55,_),(4,56,_),(5,57,_),(6,58,_),(7,59,_),(8,60,_),(9,6,_)]) [0,1,2,3,4,5,6,7,8,9] J J (aa (aD J (am J)) (aa (aD J (am J)) (aa (aD J (aR (j:=0) underlying48 cB J J (bs (k:=90) J) J (by omega))) (aa (aD J (ah cB J J (bD (bs (k:=90) J) (by intro _;rfl) (mQ 0 (by omega)) (by rfl)))) (aa (aD J (aT J J (gd (by decide) (pw h7)))) (aa (aD J (aF J)) (aa (aD J (ag tW J)) (aa (aD J (cO (j:=(acc.getD 0 0%256).toNat) underlying202 cB J J (by omega) (by omega))) (aa (aD J (ah cB J J (ay (k:=0) J (by rw [Nat.mul_one];exact IX (by omega))))) (aa (aD J (ct J)) aw)))))))))) J J J (au (aH (sx.mem (acc.getD 0 0%256).toNat,xS e sx vox) (.inl ⟨_,vox,(Option.some.inj hr).symm,J⟩) J (bE (aJ J)) J [0,1] [] J J J))))
      ·have q4:¬t.kind=4:=of_decide_eq_false h6;rw [if_neg q4]at hr;refine aj (ar J J aY J (ai J J (ac (ae J (fun h7=> ?_) (fun h7=> ?_)))))
       ·have q5:t.kind=5:=of_decide_eq_true h7;rw [if_pos q5]at hr;refine aW 5 9 J (Gm n5.i) (aj (ai J J (ac (aS (ad J J (bG J J (az oX J J (aP 0 oo J J J J J (aO (aU underlying48 J (aN (k:=9) J)) J (ar J J dV J (ac (ae J (fun h8=> ?_) (fun h8=> ?_)))))))))))))
        ·(try simp only [be]at h8)
         obtain⟨a,rest,qi⟩:∃a rest,sx.inp=a::rest:=by
          cases h:sx.inp with
          | nil=>rw [h]at h8;simp at h8
          | cons a r=>exact⟨a,r,rfl⟩
         rw [qi]at hr;refine aj (ad J J (bG J J (az oX J J (aP 0 oo J J J J J (aO (aR (j:=0) underlying48 cB J J (aN (k:=9) J) J (by rw [qi];simp)) J ?_)))));refine aO (ah cB J J (bD (aN (k:=9) J) (by intro _;rfl) (show sx.inp[0]?=some a by rw [qi];rfl) (by rfl))) J ?_;refine ai J J (ac (ap (ad J J (ad J J (bG J J (az oX J J (aP 0 oo J J J J J (aO (xn (j:=1) underlying48 cB J J (aN (k:=9) J) J (by rw [qi];simp)) J (bG J J (az oX J J (aK (k:=0) oo J J J J J J J BW ?_)))))))))));refine dD (k:=0) (A':=bj e.m 204 (j8 e (xS e {sx with inp:=rest} vox))) J (fun _ _ h=>by rw [←Lr n5.i qi];exact h) ?_;refine aG J (ad J J (ai J J (ac (au (aH (a,xS e {sx with inp:=rest} vox) (.inl ⟨_,vox,(Option.some.inj hr).symm,J⟩) J (bE (aJ J)) J [0,1] [] J J J)))))
        ·(try simp only [be]at h8)
         have qi:sx.inp= []:=List.eq_nil_of_length_eq_zero (by omega);rw [qi]at hr;refine ax (aj (ad J J (ai J J (ac (au (aH (0,xS e sx vox) (.inl ⟨_,vox,(Option.some.inj hr).symm,J⟩) J (bE (aJ J)) J [0,1] [] J J J))))))
       ·have q5:¬t.kind=5:=of_decide_eq_false h7;rw [if_neg q5]at hr;refine aj (ar J J aY J (ai J J (ac (ae J (fun h9=> ?_) (fun h9=> ?_)))))
        ·have q6:t.kind=6:=of_decide_eq_true h9;rw [if_pos q6]at hr;obtain⟨hu0,hu1⟩:=Oa ht q6;obtain⟨u,hu⟩:=Option.isSome_iff_exists.1 (hu1 (acc.getD 0 0));rw [hu]at hr;have hun:=uP t.name (acc.getD 0 0) (jA n4 0);rw [hu,yH]at hun;refine a_ (bH [86,87,88,89,90,91,92,6] _ J (bk (V:= [(0,86,_),(1,87,_),(2,88,_),(3,89,_),(4,90,_)]) [0,1,2,3,4] 5 [5,4,3,2,1,0] [6,7] (fun _=> [(6,92,_),(7,6,_)]) J J (aa (aD J (ag cZ J)) (aa (aD J (ah t9 J J (ay (k:=5) J J))) (aa (aD J (am J)) (aa (aD J (aR (j:=0) underlying48 cB J J (bs (k:=90) J) J (by omega))) (aa (aD J (ah cB J J (bD (bs (k:=90) J) (by intro _;rfl) (mQ 0 (by omega)) (by rfl)))) aw))))) J J J J J J J J J J J (fun _ _=>J) J (bq (xs:= [.tmp 87,.tmp 90]) hun Nb [] [] [] J J J J J J J J (fun _ _=>J) (fun _ _ _=>J)) (fun _ _=>bp [6,7] J J (aa (aD J (mB zC cB J J)) (aa (aD J (ct J)) aw)) J J J (au (aH (u,xS e sx vox) (.inl ⟨_,vox,(Option.some.inj hr).symm,J⟩) J (bE (aJ J)) J [0,1] [] J J J)))))
        ·have q6:¬t.kind=6:=of_decide_eq_false h9;rw [if_neg q6]at hr;refine aj (ar J J aY J (ai J J (ac (ae J (fun h10=> ?_) (fun h10=> ?_)))))
         ·have q7:t.kind=7:=of_decide_eq_true h10;rw [if_pos q7]at hr;obtain⟨hu0,hu1⟩:=Ob ht q7;obtain⟨u,hu⟩:=Option.isSome_iff_exists.1 (hu1 (acc.getD 0 0) (acc.getD 1 0));rw [hu]at hr;have hun:=th t.name (acc.getD 0 0) (acc.getD 1 0) (jA n4 0) (jA n4 1);rw [hu,yH]at hun;refine a_ ?_;refine bH [95,96,97,98,99,100,101,102,103,104,6] _ J (bk (V:= [(0,95,_),(1,96,_),(2,97,_),(3,98,_),(4,99,_),(5,100,_),(6,101,_),(7,102,_)]) [0,1,2,3,4,5,6,7] 8 [8,7,6,5,4,3,2,1,0] [9,10] (fun _=> [(9,104,_),(10,6,_)]) J J (aa (aD J (ag cZ J)) (aa (aD J (ah t9 J J (ay (k:=5) J J))) (aa (aD J (am J)) (aa (aD J (aR (j:=0) underlying48 cB J J (bs (k:=90) J) J (by omega))) (aa (aD J (ah cB J J (bD (bs (k:=90) J) (by intro _;rfl) (mQ 0 (by omega)) (by rfl)))) (aa (aD J (am J)) (aa (aD J (aR (j:=1) underlying48 cB J J (bs (k:=90) J) J (by omega))) (aa (aD J (ah cB J J (bD (bs (k:=90) J) (by intro _;rfl) (mQ 0 (by omega)) (by rfl)))) aw)))))))) J J J J J J J J J J J (fun _ _=>J) J (bq (xs:= [.tmp 96,.tmp 99,.tmp 102]) hun Na [] [] [] J J J J J J J J (fun _ _=>J) (fun _ _ _=>J)) (fun _ _=>bp [9,10] J J (aa (aD J (mB zC cB J J)) (aa (aD J (ct J)) aw)) J J J ?_));refine au (aH (u,xS e sx vox) (.inl ⟨_,vox,(Option.some.inj hr).symm,J⟩) J (bE (aJ J)) J [0,1] [] J J J)
         ·have q7:¬t.kind=7:=of_decide_eq_false h10;rw [if_neg q7]at hr;obtain⟨f,hff,hfl2⟩:=Ay ht q1 q2 q4 q5 q6 q7;rw [hff]at hr;refine cf 90 91 J bB (ax (a_ (bH [105,106,107,108,109,110,111,112,113,114,6] _ J (bk (V:= [(0,105,_),(1,106,_),(2,107,_),(3,108,_),(4,109,_),(5,110,_),(6,111,_),(7,112,_),(8,113,_)]) [0,1,2,3,4,5,6,7,8] 9 [9,8,7,6,5,4,3,2,1,0] [10] (fun y=> [(10,6,_)]) J J (aa (aD J (am J)) (aa (aD J (ag cZ J)) (aa (aD J (ah t9 J J (ay (k:=5) J J))) (aa (aD J (am J)) (aa (aD J (am J)) (aa (aD J (aF J)) (aa (aD J (ag GO J)) (aa (aD J (ah t3 J J (cI (k:=0) J J))) (aa (aD J (aT J J (bi (by first|exact bc (by omega) (by omega)|rfl)))) aw))))))))) J J J J J J J J J J J (fun _ _=>J) J (bq (xs:= [.tmp 105,.tmp 107,.tmp 108,.tmp 113]) (ihC g (Nat.le_refl g) t.name f d va acc sx vox r hff (by omega) n4 hd n5 hr) IK [0,1] [(false,91),(false,4),(false,5)] [0,1] J J J J J J J J (fun _ _=>J) (fun _ _ _=>J)) (fun y hy=>bp [10] J J (aa (aD J (ct J)) aw) J J J (au (aH y hy J (bE (aJ J)) J [0,1] [] J J J)))))))
theorem E6{e:Rn}:KW e 0:=fun t d b vN vV fr vs x r ht hd hv hf hn h=>by
 rcases h with⟨s,vo,_,_,h⟩|⟨h1,h2⟩
 ·simp [eo]at h
 ·exact Ht e t d b vN vV fr vs x r h1 h2 ht hd hv hf hn
theorem E7{e:Rn}{g:Nat}(hF:VF e.fs)(hfu1: -1000000000000000000≤e.fu)(hfu2:e.fu≤1000000000000000000)(hfl:e.fs.length≤1000000)(ihX:∀k,k≤g→KW e k)(ihC:∀k,k≤g→OB e k):KW e (g+1):=fun t d b vN vV fr vs x r ht hd hv hf hn h=>by
 rcases h with⟨s,vo,h1,h2,h3⟩|⟨h1,h2⟩
 ·subst h1;by_cases hfu:s.fuel≤0
  ·exact Lu e t d b vN vV fr vs g s vo r h3 hfu ht hd hv hf hn
  ·exact Lt e g hF hfu1 hfu2 hfl ihX ihC t d b vN vV fr vs s vo r h2 h3 hfu ht hd hv hf hn
 ·exact Ht e t d b vN vV fr vs x r h1 h2 ht hd hv hf hn
theorem Aw{α:Type}{p:α→Bool}{l:List α}{u:α}(hm:u∈l)(h:p u=true):l.any p=true:=List.any_eq_true.2 ⟨u,hm,h⟩
def eQ(p:SV×List ByteArray):List Value:= [sv p.1]
def Dj(v:SV)(l:List (SV×List ByteArray)):Asn:=⟨fun w F=>SlIn' w F 1 eQ (sv v) l∧∀p∈l,SlIn' w F 1 eS (sv p.1) p.2,fun h hs=>⟨h.1.stable hs,fun p hp=>(h.2 p hp).stable hs⟩⟩
theorem Dh{v:SV}{l:List (SV×List ByteArray)}:∀w G,(Dj v l).pred w G→(∀b,G b→b<w.heap.size)→∃G',(sl 1 eQ (sv v) l).pred w G'∧∀b,G' b→G b:=fun w G h _=>h.1
theorem Di{v:SV}{l:List (SV×List ByteArray)}{p:SV×List ByteArray}(hp:p∈l):∀w G,(Dj v l).pred w G→(∀b,G b→b<w.heap.size)→∃G',(sl 1 eS (sv p.1) p.2).pred w G'∧∀b,G' b→G b:=fun w G h _=>h.2 p hp
abbrev Lc(a b c d e f g h:SV):List (SV×List ByteArray):= [(a,[iO]),(b,[em]),(c,[ed]),(d,[lB,ly]),(e,[kv,lz,lA,mE]),(f,[fB,fR]),(g,[e8,d7]),(h,[fD,jc,jV])]
theorem JU{v a b c d e f g h:SV}(w:World)(F:Nat→Prop)(hh:AllIn w F [own 9 1 eS (sv a) [iO],own 9 1 eS (sv b) [em],own 9 1 eS (sv c) [ed],own 9 1 eS (sv d) [lB,ly],own 9 1 eS (sv e) [kv,lz,lA,mE],own 9 1 eS (sv f) [fB,fR],own 9 1 eS (sv g) [e8,d7],own 9 1 eS (sv h) [fD,jc,jV],own 46 1 eQ (sv v) (Lc a b c d e f g h)]):(Dj v (Lc a b c d e f g h)).pred w F:=by
 obtain⟨⟨_,a1,b1⟩,⟨_,a2,b2⟩,⟨_,a3,b3⟩,⟨_,a4,b4⟩,⟨_,a5,b5⟩,⟨_,a6,b6⟩,⟨_,a7,b7⟩,⟨_,a8,b8⟩,⟨_,a9,b9⟩,_⟩:=hh;refine⟨cW a9 b9,fun p hp=> ?_⟩;simp only [Lc,List.mem_cons,List.not_mem_nil,or_false]at hp;rcases hp with rfl|rfl|rfl|rfl|rfl|rfl|rfl|rfl
 ·exact cW a1 b1
 ·exact cW a2 b2
 ·exact cW a3 b3
 ·exact cW a4 b4
 ·exact cW a5 b5
 ·exact cW a6 b6
 ·exact cW a7 b7
 ·exact cW a8 b8
theorem JL{k:Int}{nm:ByteArray}{n:Nat}(h:k=6):oK k nm n=(((nm==⟨#[45]⟩) || (nm==⟨#[126]⟩) || (nm==⟨#[33]⟩))&&decide ((n:Int)=1)):=by
 rw [HN h]
 congr 1
 simp only [cg,AG,List.any_cons,List.any_nil,Bool.or_false,b_,Bool.or_assoc];rfl
def QD(t:Tx):Prop:=Spec prog 137 [xV t] [] [bS t.v t.kids] (X:=Unit) (fun _=>True) (fun _=> .bool (rX t)) (fun _=> []) (fun _=> [])
theorem L3{t:Tx}(h:oK t.kind t.name t.kids.length=false∨(t.kind≠1∧t.n≠0)):rX t=false:=by
 rw [y0];rcases h with h|⟨h1,h2⟩
 ·rw [h];rfl
 ·rw [decide_eq_false h1,decide_eq_false h2];simp
theorem Jh{t u:Tx}(hu:u∈t.kids)(h:rX u=false):rX t=false:=by
 rw [y0,Aw hu (by rw [h];rfl)];simp
theorem Jg{t:Tx}(h:oK t.kind t.name t.kids.length=true)(h2:t.kind=1∨t.n=0)(h3:t.kids.any (fun u=> !rX u)=false):rX t=true:=by
 rw [y0,h,h3];rcases h2 with h2|h2
 ·rw [decide_eq_true h2];rfl
 ·rw [decide_eq_true h2];simp
theorem wv{α:Type}{p:α→Bool}{l:List α}{i:Nat}{u:α}(h:l[i]?=some u):(l.take (i+1)).any p=((l.take i).any p || p u):=by
 rw [bT h];simp
theorem jy:
  Spec prog 21 [] [] [] (X:=SV×List (SV×List ByteArray)) (fun x=>x.2.map (fun p=>p.2)=rlv) (fun x=>sv x.1) (fun x=> [Dj x.1 x.2]) (fun _=> []):=by
 refine aI func21 J ntmps21 J fun w0 M H=>aj (ai J J (aG J (bA eS iO underlying46 t9 J (by decide) (by decide) J J J J fun v1=>bA eS em underlying46 t9 J (by decide) (by decide) J J J J fun v2=>bA eS ed underlying46 t9 J (by decide) (by decide) J J J J fun v3=>cD eS [lB,ly] (parts:= [(0,.const (.string (ByteArray.mk #[61,61]))),(1,.const (.string (ByteArray.mk #[33,61])))]) underlying46 t9 J (by decide) (by intro _;rfl) J (by decide) (by decide) J J J J fun v4=>cD eS [kv,lz,lA,mE] (parts:= [(0,.const (.string (ByteArray.mk #[60]))),(1,.const (.string (ByteArray.mk #[60,61]))),(2,.const (.string (ByteArray.mk #[62]))),(3,.const (.string (ByteArray.mk #[62,61])))]) underlying46 t9 J (by decide) (by intro _;rfl) J (by decide) (by decide) J J J J fun v5=>cD eS [fB,fR] (parts:= [(0,.const (.string (ByteArray.mk #[60,60]))),(1,.const (.string (ByteArray.mk #[62,62])))]) underlying46 t9 J (by decide) (by intro _;rfl) J (by decide) (by decide) J J J J fun v6=>cD eS [e8,d7] (parts:= [(0,.const (.string (ByteArray.mk #[43]))),(1,.const (.string (ByteArray.mk #[45])))]) underlying46 t9 J (by decide) (by intro _;rfl) J (by decide) (by decide) J J J J fun v7=>cD eS [fD,jc,jV] (parts:= [(0,.const (.string (ByteArray.mk #[42]))),(1,.const (.string (ByteArray.mk #[47]))),(2,.const (.string (ByteArray.mk #[37])))]) underlying46 t9 J (by decide) (by intro _;rfl) J (by decide) (by decide) J J J J fun v8=>cD eQ (Lc v1 v2 v3 v4 v5 v6 v7 v8) (parts:= [(0,.tmp 1),(1,.tmp 2),(2,.tmp 3),(3,.tmp 4),(4,.tmp 5),(5,.tmp 6),(6,.tmp 7),(7,.tmp 8)]) underlying44 gu J (by decide) (by intro _;rfl) J (by decide) (by decide) J J J J fun v9=>ai J J (ac (au (bQ 60 [1,2,3,4,5,6,7,8,9] (C:=Dj v9 (Lc v1 v2 v3 v4 v5 v6 v7 v8)) J JU ?_))))))
 refine aH (v9,Lc v1 v2 v3 v4 v5 v6 v7 v8) J J (bE (aJ J)) J [60] [] J J J
theorem A4(s:ByteArray):
  Spec prog 173 [.string s] [] [] (X:=Int) (fun r=>decide (r≥0)=gI s) (fun r=> .int .i64 r) (fun _=> []) (fun _=> []):=by
 refine aI func173 J ntmps173 J fun w0 M H=>aj (ai J J (aG J (ak (xs:= []) jy KH [] [] [60] (fun⟨v6,ls⟩ hls=> ?_))))
 dsimp only at hls ⊢;have hll:ls.length=8:=by have h:=congrArg List.length hls;rw [List.length_map]at h;exact h
 have hbin:gI s=ls.any fun p=>cg s p.2:=by rw [←FP,←hls,List.any_map];rfl
 refine cf 60 20 J (fun _ _ h=>h) (aW 20 21 J Dh (ai J J (ac (aS (ai J J (ac (aB (bv (X:=Nat) (fun i=>i≤ls.length∧((ls.take i).any fun p=>cg s p.2)=false) (fun i=> [(0,.string s),(3,sv v6),(4,.int .i64 (i:Int))]) (fun i=> []) (fun i=> [(20,Dj v6 ls),(21,sl 1 eQ (sv v6) ls)]) (fun i=>ls.length-i) 0 ⟨Nat.zero_le _,J⟩ J J J (fun i hx0=> ?_)))))))));obtain⟨n1,n2⟩:=hx0;refine aS (ad J J (ad J J (aO (aU underlying44 J (aN (k:=21) J)) J (ar J J ci J (ac (ae J (fun h1=> ?_) (fun h1=> ?_)))))))
 ·(try simp only [be]at h1)
  have hi:i<ls.length:=by omega
  obtain⟨p,hx⟩:∃k,ls[i]?=some k:=⟨_,List.getElem?_eq_getElem hi⟩
  have hpm:=List.mem_of_getElem? hx;have hpl:p.2.length≤1000000:=by
   have h:p.2∈rlv:=by rw [←hls];exact List.mem_map_of_mem hpm
   simp only [rlv,List.mem_cons,List.not_mem_nil,or_false]at h;rcases h with h|h|h|h|h|h|h|h<;>rw [h]<;>decide
  refine ax (a_ (aB (aj (ad J J (ad J J (ad J J (aO (aR (j:=i) underlying44 gu J J (aN (k:=21) J) (by first|rfl|omega) (by first|omega|(simp;done)|(simp;omega))) J (aO (ah gu J J (bD (aN (k:=21) J) (by intro _;rfl) hx (by rfl))) J (aW 20 22 J (Di hpm) (ak (xs:= [.tmp 13,.tmp 17]) (jN s p.1 p.2 hpl) yr [] [(false,22)] [] (fun _ _=>ai J J (aG J (ad J J (ac (ae J (fun h2=> ?_) (fun h2=> ?_))))))))))))))))
  ·have hct:cg s p.2=true:=h2;refine aj (ad J J (ai J J (ac (au (aH (i:Int) (by rw [hbin,Aw (p:=fun p=>cg s p.2) hpm hct];exact decide_eq_true (by omega)) J (bE (aJ J)) J [] [] J J J)))))
  ·have hcf:cg s p.2=false:=h2;refine ax (ap (ad J J (ar J J (bi (by first|exact bc (by omega) (by omega)|rfl)) J (ai J J (ac ?_)))));refine aM (i+1) ⟨⟨by omega,by rw [wv hx,n2,hcf];rfl⟩,by omega⟩ J J J
 ·(try simp only [be]at h1)
  have hi:i=ls.length:=by omega
  subst hi;rw [List.take_length]at n2;refine bx (aj (ai J J (ac (au (aH (-1) (by rw [hbin,n2];rfl) J (bE (aJ J)) J [] [] J J J)))))
theorem Cx(t:Tx)(hkl:t.kids.length≤1000000)(ih:∀u∈t.kids,QD u):
  Spec prog 137 [xV t] [] [bS t.v t.kids] (X:=Unit) (fun _=>True) (fun _=> .bool (rX t)) (fun _=> []) (fun _=> []):=by
 refine aI func137 J ntmps137 J fun w0 M H=>aW 0 1 J eW (aj (bU J J fun b1=>ai J J (aG J (az cZ J J (aP 1 t9 J J J J J (ak (xs:= [.tmp 9]) (iR t.name) Ap [] [] [] (fun _ _=>ai J J (aG J (az dc J J (aP 1 ij J J J J J (aO (aU underlying59 J (aN (k:=1) J)) J (ai J J ?_))))))))))))
 refine aG J (ai J J (ac (br (X:=Unit) (fun _=>True) (fun _=> [(1,.pointer (some ⟨b1,0,none⟩)),(4,.int .i64 (t.kids.length:Int)),(5,.bool (oK t.kind t.name t.kids.length))]) (fun _=> [(1,bj b1 61 (dt t))]) (fun _=> [(0,bS t.v t.kids),(1,sl 4 dt (sv t.v) t.kids)]) ?_ (fun _ _=> ?_))))
 ·refine aj (az iC J J (aP 1 t3 J J J J J (ac (aB (aj (ar J J aY J (ai J J (ac (ae J (fun h1=> ?_) (fun h1=> ?_))))))))))
  ·have q1:t.kind=1:=of_decide_eq_true h1;refine ap (az cZ J J (aP 1 t9 J J J J J (ar J J cr J (ad J J (aA [] J J O (fun hg2=>am J) J (aA [(22,_)] J J ⟨J,O⟩ (fun hg3=>aT J J aY) J (aO (aQ J J J (by first|exact av|exact aC|rfl)) J (ai J J (ac (aM () O (by rw [zf (.inl q1)];rfl) J J))))))))))
  ·have q1:¬t.kind=1:=of_decide_eq_false h1;refine aj (ar J J aY J (ai J J (ac (ae J (fun h4=> ?_) (fun h4=> ?_)))))
   ·have q2:t.kind=2:=of_decide_eq_true h4;refine ap (ad J J (ad J J (aA [] J J O (fun hg5=>am J) J (aA [(29,_)] J J ⟨J,O⟩ (fun hg6=>aT J J aY) J (aO (aQ J J J (by first|exact av|exact aC|rfl)) J (ai J J (ac (aM () O (by rw [HQ q2];rfl) J J))))))))
   ·have q2:¬t.kind=2:=of_decide_eq_false h4;refine aj (ar J J aY J (ai J J (ac (ae J (fun h7=> ?_) (fun h7=> ?_)))))
    ·have q3:t.kind=3:=of_decide_eq_true h7;refine ap (ad J J (ai J J (ac (aM () O (by rw [HP q3];rfl) J J))))
    ·have q3:¬t.kind=3:=of_decide_eq_false h7;refine aj (ar J J aY J (ai J J (ac (ae J (fun h8=> ?_) (fun h8=> ?_)))))
     ·have q4:t.kind=4:=of_decide_eq_true h8;refine ap (az cZ J J (aP 1 t9 J J J J J (ar J J cr J (ad J J (aA [] J J O (fun hg9=>am J) J (aA [(41,_)] J J ⟨J,O⟩ (fun hg10=>aT J J aY) J (aO (aQ J J J (by first|exact av|exact aC|rfl)) J (ai J J (ac (aM () O (by rw [HO q4];rfl) J J))))))))))
     ·have q4:¬t.kind=4:=of_decide_eq_false h8;refine aj (ar J J aY J (ai J J (ac (ae J (fun h11=> ?_) (fun h11=> ?_)))))
      ·have q5:t.kind=5:=of_decide_eq_true h11;refine ap (az cZ J J (aP 1 t9 J J J J J (ar J J cr J (ad J J (aA [] J J O (fun hg12=>am J) J (aA [(50,_)] J J ⟨J,O⟩ (fun hg13=>aT J J aY) J (aO (aQ J J J (by first|exact av|exact aC|rfl)) J (ai J J (ac (aM () O (by rw [zf (.inr q5)];rfl) J J))))))))))
      ·have q5:¬t.kind=5:=of_decide_eq_false h11;refine aj (ar J J aY J (ai J J (ac (ae J (fun h14=> ?_) (fun h14=> ?_)))))
       ·have q6:t.kind=6:=of_decide_eq_true h14;refine ap (az cZ J J (aP 1 t9 J J J J J (ar J J cr J (ad J J (aA [] J J O (fun hg15=>ag cZ J) J (aA [(59,_)] J J ⟨J,O⟩ (fun hg16=>ah t9 J J (ay (k:=1) J J)) J (aA [(59,_),(60,_)] J J ⟨J,J,O⟩ (fun hg17=>aT J J cr) J (aO (aQ J J J (by first|exact av|exact aC|rfl)) J (ad J J (aA [] J J O (fun hg18=>ag cZ J) J (aA [(64,_)] J J ⟨J,O⟩ (fun hg19=>ah t9 J J (ay (k:=1) J J)) J (aA [(64,_),(65,_)] J J ⟨J,J,O⟩ (fun hg20=>aT J J cr) J (aO (aQ J J J (by first|exact av|exact aC|rfl)) J (ad J J (aA [] J J O (fun hg21=>am J) J (aA [(69,_)] J J ⟨J,O⟩ (fun hg22=>aT J J aY) J (aO (aQ J J J (by first|exact av|exact aC|rfl)) J (ai J J (ac ?_)))))))))))))))))));refine aM () O (by rw [JL q6];rfl) J J
       ·have q6:¬t.kind=6:=of_decide_eq_false h14;refine aj (ar J J aY J (ai J J (ac (ae J (fun h23=> ?_) (fun h23=> ?_)))))
        ·have q7:t.kind=7:=of_decide_eq_true h23;refine ap (az cZ J J (aP 1 t9 J J J J J (ak (xs:= [.tmp 75]) (A4 t.name) Nt [] [] [] (fun r hr=>ar J J fe J (ad J J (aA [] J J O (fun hg24=>am J) J (aA [(79,_)] J J ⟨J,O⟩ (fun hg25=>aT J J aY) J (aO (aQ J J J (by first|exact av|exact aC|rfl)) J (ai J J (ac (aM () O (by rw [HM q7,←hr];rfl) J J)))))))))))
        ·have q7:¬t.kind=7:=of_decide_eq_false h23;refine ax (aM () O (by rw [HR q1 q5 q2 q3 q4 q6 q7];rfl) J J)
 ·refine aS (ad J J (aO (ch J) J (ad J J (aA [] J J O (fun hg26=>ag iC J) J (aA [(85,_)] J J ⟨J,O⟩ (fun hg27=>ah t3 J J (ay (k:=1) J J)) J (aA [(85,_),(86,_)] J J ⟨J,J,O⟩ (fun hg28=>aT J J df) J (aA [(85,_),(86,_),(87,_)] J J ⟨J,J,J,O⟩ (fun hg29=>am J) J (cq [] [(85,_),(86,_),(87,_),(88,_)] J J O ⟨J,J,J,J,O⟩ (fun hg30 hg30'=>ag tV J) J (cq [(89,_)] [(85,_),(86,_),(87,_),(88,_)] J J ⟨J,O⟩ ⟨J,J,J,J,O⟩ (fun hg31 hg31'=>ah cB J J (ay (k:=1) J J)) J (cq [(89,_),(90,_)] [(85,_),(86,_),(87,_),(88,_)] J J ⟨J,J,O⟩ ⟨J,J,J,J,O⟩ (fun hg32 hg32'=>aT J J df) J (aA [(85,_),(86,_),(87,_),(88,_)] J J ⟨J,J,J,J,O⟩ (fun hg33=>aQ J J J (by first|exact av|exact aC|exact cz hg33|exact c8 hg33|rfl)) J (aO (aQ J J J (by first|exact av|exact aC|rfl)) J (ac (ae J (fun h34=> ?_) (fun h34=> ?_)))))))))))))))
  ·(try simp only [be]at h34)
   have qc:=h34;refine aj (ai J J (ac (au (aH () O J (bE (aJ J)) (congrArg Value.bool (L3 qc).symm) [] [] J J J))))
  ·(try simp only [be]at h34)
   have qc:=h34;refine ax (aS (ai J J (ac (aB (bv (X:=Nat) (fun i=>i≤t.kids.length∧((t.kids.take i).any fun u=> !rX u)=false) (fun i=> [(1,.pointer (some ⟨b1,0,none⟩)),(4,.int .i64 (t.kids.length:Int)),(6,.int .i64 (i:Int))]) (fun i=> [(1,bj b1 61 (dt t))]) (fun i=> [(0,bS t.v t.kids),(1,sl 4 dt (sv t.v) t.kids)]) (fun i=>t.kids.length-i) 0 ⟨Nat.zero_le _,J⟩ J J J (fun i hx0=> ?_))))));obtain⟨n1,n2⟩:=hx0;refine aS (ad J J (ad J J (ar J J ci J (ac (ae J (fun h35=> ?_) (fun h35=> ?_))))))
   ·(try simp only [be]at h35)
    have hi:i<t.kids.length:=by omega
    obtain⟨u,hu⟩:∃u,t.kids[i]?=some u:=⟨_,List.getElem?_eq_getElem hi⟩
    have hum:=List.mem_of_getElem? hu;refine ax (a_ (aB (aj (az dc J J (aP 1 ij J J J J J (ad J J (aO (aR (j:=i) underlying59 co J J (aN (k:=1) J) (by first|rfl|omega) (by first|omega|(simp;done)|(simp;omega))) J (aO (aL co J J J (bD (aN (k:=1) J) (by intro _;rfl) hu (by rfl))) J (aW 0 7 J (cS hum) (ak (xs:= [.tmp 103]) (ih u hum) IE [] [(false,7)] [] (fun _ _=>ai J J (aG J (ad J J (aO (ch J) J (ac (ae J (fun h36=> ?_) (fun h36=> ?_)))))))))))))))))
    ·have hct:rX u=false:=by simpa using h36
     refine aj (ai J J (ac (au (aH () O J (bE (aJ J)) (congrArg Value.bool (Jh hum hct).symm) [] [] J J J))))
    ·have hcf:rX u=true:=by simpa using h36
     refine ax (ap (ad J J (ar J J (bi (by first|exact bc (by omega) (by omega)|rfl)) J (ai J J (ac ?_)))));refine aM (i+1) ⟨⟨by omega,by rw [wv hu,n2,hcf];rfl⟩,by omega⟩ J J J
   ·(try simp only [be]at h35)
    have hi:i=t.kids.length:=by omega
    subst hi;rw [List.take_length]at n2;refine bx (aj (ai J J (ac (au (aH () O J (bE (aJ J)) (congrArg Value.bool (Jg qc.1 qc.2 n2).symm) [] [] J J J)))))
theorem yT:∀(n:Nat)(t:Tx),SizeOf.sizeOf t<n→GX t→QD t
 | 0,_,h,_=>absurd h (Nat.not_lt_zero _)
 | n+1,t,h,ht=>Cx t (kF ht) fun u hu=>yT n u (by have:=nU hu;omega) ((iY ht).mem u hu)
theorem Cy(t:Tx)(ht:GX t):QD t:=yT _ t (Nat.lt_succ_self _) ht
def Oz(v:SV)(l:List Ty):Prop:=Spec prog 103 [sv v] [] [bF v l] (X:=Unit) (fun _=>True) (fun _=> .bool (l.all rY)) (fun _=> []) (fun _=> [])
theorem m8{α:Type}{p:α→Bool}{l:List α}{i:Nat}{u:α}(h:l[i]?=some u):(l.take (i+1)).all p=((l.take i).all p&&p u):=by
 rw [bT h];simp
theorem jO{α:Type}{p:α→Bool}{l:List α}{u:α}(hm:u∈l)(h:p u=false):l.all p=false:=by
 rw [Bool.eq_false_iff];intro h2;rw [List.all_eq_true]at h2;rw [h2 u hm]at h;cases h
theorem ko(t:Ty):rY t=(ze t.kind t.name t.es.length t.body.length t.els.length&&t.es.all rX&&t.body.all rY&&t.els.all rY):=by
 cases t;rw [rY,oH,ju,ju];rfl
theorem O2{t:Ty}(h:t.kind<1∨t.kind>8):rY t=false:=by
 rw [ko];unfold ze;rcases h with h|h
 ·rw [decide_eq_false (show ¬t.kind≥1 by omega)];rfl
 ·rw [decide_eq_false (show ¬t.kind≤8 by omega)];simp
theorem O1{t:Ty}(h:(((decide (t.kind=1) || decide (t.kind=2))&& !ca t.name) || (!(decide (t.kind=1) || decide (t.kind=2))&& !(t.name==⟨#[]⟩)) || !decide ((t.es.length:Int)=(if t.kind=3 then 2 else 1)))=true):rY t=false:=by
 rw [ko];unfold ze;by_cases hn:t.es.length=if t.kind=3 then 2 else 1
 ·have hn2:(t.es.length:Int)=if t.kind=3 then 2 else 1:=by
   rw [hn];split<;>rfl
  rw [decide_eq_true hn2]at h;by_cases hk:t.kind=1∨t.kind=2
  ·have hk2:(decide (t.kind=1) || decide (t.kind=2))=true:=by simpa using hk
   rw [hk2]at h;rw [if_pos hk];have h3:ca t.name=false:=by simpa using h
   rw [h3];simp
  ·have hk2:(decide (t.kind=1) || decide (t.kind=2))=false:=by simpa using hk
   rw [hk2]at h;rw [if_neg hk];have h3:(t.name==⟨#[]⟩)=false:=by simpa using h
   rw [b_]at h3;rw [show decide (t.name=oNil)=false from h3];simp
 ·rw [decide_eq_false hn];simp
theorem O5{t:Ty}(h:(!decide (t.kind=4)&&(decide ((t.els.length:Int)>0) || (!decide (t.kind=5)&&decide ((t.body.length:Int)>0))))=true):rY t=false:=by
 rw [ko];unfold ze;have h4:t.kind≠4:=by
  intro h4;rw [decide_eq_true h4]at h;simp at h
 rw [decide_eq_false h4];by_cases h5:t.els.length=0
 ·rw [h5]at h;by_cases h6:t.kind=5
  ·rw [decide_eq_true h6]at h;simp at h
  ·by_cases h7:t.body.length=0
   ·rw [h7]at h;simp at h
   ·rw [decide_eq_false h6,decide_eq_false h7];simp
 ·rw [decide_eq_false h5];simp
theorem O3{t:Ty}{u:Tx}(hm:u∈t.es)(h:rX u=false):rY t=false:=by
 rw [ko,jO hm h];simp
theorem O0{t:Ty}(h:t.body.all rY=false∨t.els.all rY=false):rY t=false:=by
 rw [ko];rcases h with h|h<;>rw [h]<;>simp
theorem LZ{t:Ty}(h1:¬t.kind<1∧¬t.kind>8)(h2:(((decide (t.kind=1) || decide (t.kind=2))&& !ca t.name) || (!(decide (t.kind=1) || decide (t.kind=2))&& !(t.name==⟨#[]⟩)) || !decide ((t.es.length:Int)=(if t.kind=3 then 2 else 1)))=false)
  (h3:(!decide (t.kind=4)&&(decide ((t.els.length:Int)>0) || (!decide (t.kind=5)&&decide ((t.body.length:Int)>0))))=false) (h4:t.es.all rX=true) (h5:t.body.all rY=true∧t.els.all rY=true):rY t=true:=by
 rw [ko,h4,h5.1,h5.2];unfold ze;rw [decide_eq_true (show t.kind≥1 by omega),decide_eq_true (show t.kind≤8 by omega)];simp only [Bool.or_eq_false_iff]at h2;have hn:t.es.length=if t.kind=3 then 2 else 1:=by
  have h:=h2.2;simp only [Bool.not_eq_false',decide_eq_true_eq]at h;split at h<;>rename_i h6
  ·rw [if_pos h6];omega
  ·rw [if_neg h6];omega
 rw [decide_eq_true hn];have hnm:(if t.kind=1∨t.kind=2 then ca t.name else decide (t.name=oNil))=true:=by
  by_cases hk:t.kind=1∨t.kind=2
  ·have hk2:(decide (t.kind=1) || decide (t.kind=2))=true:=by simpa using hk
   have h:=h2.1.1;rw [hk2]at h;rw [if_pos hk];simpa using h
  ·have hk2:(decide (t.kind=1) || decide (t.kind=2))=false:=by simpa using hk
   have h:=h2.1.2;rw [hk2]at h;rw [if_neg hk];have h7:(t.name==⟨#[]⟩)=true:=by simpa using h
   rw [b_]at h7;exact h7
 rw [hnm];by_cases h8:t.kind=4
 ·rw [decide_eq_true h8];rfl
 ·rw [decide_eq_false h8]at h3;simp only [Bool.not_false,Bool.true_and,Bool.or_eq_false_iff]at h3;have h9:t.els.length=0:=by
   have h:=of_decide_eq_false h3.1;omega
  rw [decide_eq_true h9];by_cases h10:t.kind=5
  ·rw [decide_eq_true h10];simp
  ·have h:=h3.2;rw [decide_eq_false h10]at h;have h11:t.body.length=0:=by
    have h:=of_decide_eq_false (show decide ((t.body.length:Int)>0)=false by simpa using h);omega
   rw [decide_eq_true h11];simp
theorem Ct(v:SV)(l:List Ty)(hl:l.length≤1000000)(hg:GYs l)(ih:∀u∈l,Oz u.vb u.body∧Oz u.vl u.els):
  Spec prog 103 [sv v] [] [bF v l] (X:=Unit) (fun _=>True) (fun _=> .bool (l.all rY)) (fun _=> []) (fun _=> []):=by
 refine aI func103 J ntmps103 J fun w0 M H=>aW 0 1 J fQ (aj (ai J J (ac (aS (ai J J (ac (aB (bv (X:=Nat) (fun i=>i≤l.length∧(l.take i).all rY=true) (fun i=> [(0,sv v),(3,.int .i64 (i:Int))]) (fun i=> []) (fun i=> [(0,bF v l),(1,sl 5 eu (sv v) l)]) (fun i=>l.length-i) 0 ⟨Nat.zero_le _,J⟩ J J J (fun i hx0=> ?_)))))))))
 obtain⟨n1,n2⟩:=hx0;refine aS (ad J J (ad J J (aO (aU underlying62 J (aN (k:=1) J)) J (ar J J ci J (ac (ae J (fun h1=> ?_) (fun h1=> ?_)))))))
 ·(try simp only [be]at h1)
  have hi:i<l.length:=by omega
  obtain⟨st,hst⟩:∃k,l[i]?=some k:=⟨_,List.getElem?_eq_getElem hi⟩
  have hsm:=List.mem_of_getElem? hst;have hsg:=na (hg.mem st hsm);refine aW 0 7 J (jn hsm) (aW 0 8 J (fF hsm) (aW 0 9 J (gt hsm) (aW 7 10 J eW (aW 8 11 J fQ (aW 9 12 J fQ (ax (a_ (aB (aj (ad J J (ad J J (aO (aR (j:=i) underlying62 dJ J J (aN (k:=1) J) (by first|rfl|omega) (by first|omega|(simp;done)|(simp;omega))) J (aO (aL dJ J J J (bD (aN (k:=1) J) (by intro _;rfl) hst (by rfl))) J (aZ dJ J J fun b4=>aq (k:=4) dJ J J J J J J (ac (a_ (a_ ?_)))))))))))))))));refine ap (az dT J J (aP 4 t3 J J J J J (ar J J ci J (ad J J (aA [] J J O (fun hg2=>ag dT J) J (aA [(26,_)] J J ⟨J,O⟩ (fun hg3=>ah t3 J J (ay (k:=4) J J)) J (aA [(26,_),(27,_)] J J ⟨J,J,O⟩ (fun hg4=>aT J J dV) J (aO (aQ J J J (by first|exact av|exact aC|rfl)) J (ac (ae J (fun h5=> ?_) (fun h5=> ?_)))))))))))
  ·(try simp only [be]at h5)
   have q2:=h5;refine aj (ai J J (ac (au (aH () O J (bE (aJ J)) (congrArg Value.bool (jO hsm (O2 q2)).symm) [] [] J J J))))
  ·(try simp only [be]at h5)
   have q2:=h5;refine ax (aj (az dT J J (aP 4 t3 J J J J J (ar J J aY J (ad J J (aA [] J J O (fun hg6=>ag dT J) J (aA [(34,_)] J J ⟨J,O⟩ (fun hg7=>ah t3 J J (ay (k:=4) J J)) J (aA [(34,_),(35,_)] J J ⟨J,J,O⟩ (fun hg8=>aT J J aY) J (aO (aQ J J J (by first|exact av|exact aC|rfl)) J (ai J J (aG J (az gn J J (aP 4 t9 J J J J J (ak (xs:= [.tmp 39]) (iR st.name) Ap [] [] [] (fun _ _=>ai J J (ac ?_))))))))))))))));refine aj (ai J J (ac (br (X:=Unit) (fun _=>True) (fun _=> [(0,sv v),(3,.int .i64 (i:Int)),(4,.pointer (some ⟨b4,0,none⟩)),(5,.bool (decide (st.kind=1) || decide (st.kind=2))),(6,.bool (ca st.name)),(7,.int .i64 (if st.kind=3 then 2 else 1))]) (fun _=> [(4,bj b4 64 (eu st))]) (fun _=> [(0,bF v l),(1,sl 5 eu (sv v) l),(7,bS st.ve st.es),(8,bF st.vb st.body),(9,bF st.vl st.els),(10,sl 4 dt (sv st.ve) st.es),(11,sl 5 eu (sv st.vb) st.body),(12,sl 5 eu (sv st.vl) st.els)]) ?_ (fun _ _=> ?_))))
   ·refine aj (az dT J J (aP 4 t3 J J J J J (ar J J aY J (ac (ae J (fun h9=> ?_) (fun h9=> ?_))))))
    ·have q3:st.kind=3:=of_decide_eq_true h9;refine ap (ai J J (ac (aM () O (by rw [if_pos q3];rfl) J J)))
    ·have q3:¬st.kind=3:=of_decide_eq_false h9;refine ax (aM () O (by rw [if_neg q3];rfl) J J)
   ·refine aS (ad J J (ad J J (aA [] J J O (fun hg10=>am J) J (aA [(46,_)] J J ⟨J,O⟩ (fun hg11=>ch J) J (aO (aQ J J J (by first|exact av|exact aC|rfl)) J (ad J J (aA [] J J O (fun hg12=>am J) J (aA [(50,_)] J J ⟨J,O⟩ (fun hg13=>ch J) J (aA [(50,_),(51,_)] J J ⟨J,J,O⟩ (fun hg14=>am J) J (cq [] [(50,_),(51,_),(52,_)] J J O ⟨J,J,J,O⟩ (fun hg15 hg15'=>ag gn J) J (cq [(53,_)] [(50,_),(51,_),(52,_)] J J ⟨J,O⟩ ⟨J,J,J,O⟩ (fun hg16 hg16'=>ah t9 J J (ay (k:=4) J J)) J (cq [(53,_),(54,_)] [(50,_),(51,_),(52,_)] J J ⟨J,J,O⟩ ⟨J,J,J,O⟩ (fun hg17 hg17'=>aT J J N2) J (aA [(50,_),(51,_),(52,_)] J J ⟨J,J,J,O⟩ (fun hg18=>aQ J J J (by first|exact av|exact aC|exact cz hg18|exact c8 hg18|rfl)) J (aO (aQ J J J (by first|exact av|exact aC|rfl)) J (ad J J (aA [] J J O (fun hg19=>ag e9 J) J (aA [(59,_)] J J ⟨J,O⟩ (fun hg20=>ah ij J J (ay (k:=4) J J)) J ?_)))))))))))))))));refine aA [(59,_),(60,_)] J J ⟨J,J,O⟩ (fun hg21=>aU underlying59 J (aN (k:=10) J)) J (aA [(59,_),(60,_),(61,_)] J J ⟨J,J,J,O⟩ (fun hg22=>am J) J (aA [(59,_),(60,_),(61,_),(62,_)] J J ⟨J,J,J,J,O⟩ (fun hg23=>aT J J df) J (aO (aQ J J J (by first|exact av|exact aC|rfl)) J (ac (ae J (fun h24=> ?_) (fun h24=> ?_))))))
    ·have q4:=h24;refine aj (ai J J (ac (au (aH () O J (bE (aJ J)) (congrArg Value.bool (jO hsm (O1 q4)).symm) [] [] J J J))))
    ·have q4:=h24;have hes:(st.es.length:Int)=if st.kind=3 then 2 else 1:=by
      have h:=(Bool.or_eq_false_iff.1 q4).2;simpa using h
     rw [←hes];refine ax (aS (az dT J J (aP 4 t3 J J J J J (ar J J df J (ad J J (aA [] J J O (fun hg25=>ag ez J) J (aA [(69,_)] J J ⟨J,O⟩ (fun hg26=>ah hQ J J (ay (k:=4) J J)) J (aA [(69,_),(70,_)] J J ⟨J,J,O⟩ (fun hg27=>aU underlying62 J (aN (k:=12) J)) J (aA [(69,_),(70,_),(71,_)] J J ⟨J,J,J,O⟩ (fun hg28=>aT J J dV) J (aA [(69,_),(70,_),(71,_),(72,_)] J J ⟨J,J,J,J,O⟩ (fun hg29=>am J) J (cq [] [(69,_),(70,_),(71,_),(72,_),(73,_)] J J O ⟨J,J,J,J,J,O⟩ (fun hg30 hg30'=>ag dT J) J (cq [(74,_)] [(69,_),(70,_),(71,_),(72,_),(73,_)] J J ⟨J,O⟩ ⟨J,J,J,J,J,O⟩ (fun hg31 hg31'=>ah t3 J J (ay (k:=4) J J)) J (cq [(74,_),(75,_)] [(69,_),(70,_),(71,_),(72,_),(73,_)] J J ⟨J,J,O⟩ ⟨J,J,J,J,J,O⟩ (fun hg32 hg32'=>aT J J df) J (cq [(74,_),(75,_),(76,_)] [(69,_),(70,_),(71,_),(72,_),(73,_)] J J ⟨J,J,J,O⟩ ⟨J,J,J,J,J,O⟩ (fun hg33 hg33'=>am J) J (cq [] [(74,_),(75,_),(76,_),(77,_)] J J O ⟨J,J,J,J,O⟩ (fun hg34 hg34'=>ag fi J) J (cq [(78,_)] [(74,_),(75,_),(76,_),(77,_)] J J ⟨J,O⟩ ⟨J,J,J,J,O⟩ (fun hg35 hg35'=>ah hQ J J (ay (k:=4) J J)) J (cq [(78,_),(79,_)] [(74,_),(75,_),(76,_),(77,_)] J J ⟨J,J,O⟩ ⟨J,J,J,J,O⟩ (fun hg36 hg36'=>aU underlying62 J (aN (k:=11) J)) J ?_)))))))))))))))));refine cq [(78,_),(79,_),(80,_)] [(74,_),(75,_),(76,_),(77,_)] J J ⟨J,J,J,O⟩ ⟨J,J,J,J,O⟩ (fun hg37 hg37'=>aT J J dV) J (cq [(74,_),(75,_),(76,_),(77,_)] [(69,_),(70,_),(71,_),(72,_),(73,_)] J J ⟨J,J,J,J,O⟩ ⟨J,J,J,J,J,O⟩ (fun hg38 hg38'=>aQ J J J (by first|exact av|exact aC|exact cz hg38|exact c8 hg38|exact cz (As hg38 hg38')|exact c8 (As hg38 hg38')|rfl)) J (aA [(69,_),(70,_),(71,_),(72,_),(73,_)] J J ⟨J,J,J,J,J,O⟩ (fun hg39=>aQ J J J (by first|exact av|exact aC|exact cz hg39|exact c8 hg39|rfl)) J (aO (aQ J J J (by first|exact av|exact aC|rfl)) J (ac (ae J (fun h40=> ?_) (fun h40=> ?_))))))
     ·have q5:=h40;refine aj (ai J J (ac (au (aH () O J (bE (aJ J)) (congrArg Value.bool (jO hsm (O5 q5)).symm) [] [] J J J))))
     ·have q5:=h40;refine ax (aS (ai J J (ac (aB (bv (X:=Nat) (fun j=>j≤st.es.length∧(st.es.take j).all rX=true) (fun j=> [(0,sv v),(3,.int .i64 (i:Int)),(4,.pointer (some ⟨b4,0,none⟩)),(7,.int .i64 (st.es.length:Int)),(8,.int .i64 (j:Int))]) (fun j=> [(4,bj b4 64 (eu st))]) (fun j=> [(0,bF v l),(1,sl 5 eu (sv v) l),(7,bS st.ve st.es),(8,bF st.vb st.body),(9,bF st.vl st.els),(10,sl 4 dt (sv st.ve) st.es),(11,sl 5 eu (sv st.vb) st.body),(12,sl 5 eu (sv st.vl) st.els)]) (fun j=>st.es.length-j) 0 ⟨Nat.zero_le _,J⟩ J J J (fun j hy0=> ?_))))));obtain⟨n3,n4⟩:=hy0;refine aS (ad J J (ad J J (ar J J ci J (ac (ae J (fun h41=> ?_) (fun h41=> ?_))))))
      ·(try simp only [be]at h41)
       have hj:j<st.es.length:=by omega
       obtain⟨u,hu⟩:∃k,st.es[j]?=some k:=⟨_,List.getElem?_eq_getElem hj⟩
       have hum:=List.mem_of_getElem? hu;refine ax (a_ (aB (aj (az e9 J J (aP 4 ij J J J J J (ad J J (aO (aR (j:=j) underlying59 co J J (aN (k:=10) J) (by first|rfl|omega) hj) J (aO (aL co J J J (bD (aN (k:=10) J) (by intro _;rfl) hu (by rfl))) J (aW 7 13 J (cS hum) (ak (xs:= [.tmp 94]) (Cy u (hsg.2.mem u hum)) IE [] [(false,13)] [] (fun _ _=>ai J J (aG J (ad J J (aO (ch J) J (ac (ae J (fun h42=> ?_) (fun h42=> ?_)))))))))))))))))
       ·have q7:rX u=false:=by simpa using h42
        refine aj (ai J J (ac (au (aH () O J (bE (aJ J)) (congrArg Value.bool (jO hsm (O3 hum q7)).symm) [] [] J J J))))
       ·have q7:rX u=true:=by simpa using h42
        refine ax (ap (ad J J (ar J J (bi (by first|exact bc (by omega) (by omega)|rfl)) J (ai J J (ac ?_)))));refine aM (j+1) ⟨⟨by omega,by rw [m8 hu,n4,q7];rfl⟩,by omega⟩ J J J
      ·(try simp only [be]at h41)
       have hj:j=st.es.length:=by omega
       subst hj;rw [List.take_length]at n4;refine bx (aj (az fi J J (aP 4 hQ J J J J J (ak (xs:= [.tmp 99]) (ih st hsm).1 ED [] [(false,8)] [] (fun _ _=>ai J J (aG J (az ez J J (aP 4 hQ J J J J J (ak (xs:= [.tmp 102]) (ih st hsm).2 ED [] [(false,9)] [] (fun _ _=>ai J J (aG J (ad J J (aO (ch J) J (ad J J ?_))))))))))))));refine aA [] J J O (fun hg43=>am J) J (aA [(107,_)] J J ⟨J,O⟩ (fun hg44=>ch J) J (aO (aQ J J J (by first|exact av|exact aC|rfl)) J (ac (ae J (fun h45=> ?_) (fun h45=> ?_)))))
       ·(try simp only [be]at h45)
        have q8:=h45;refine aj (ai J J (ac (au (aH () O J (bE (aJ J)) (congrArg Value.bool (jO hsm (O0 q8)).symm) [] [] J J J))))
       ·(try simp only [be]at h45)
        have q8:=h45;refine ax (ap (ad J J (ar J J (bi (by first|exact bc (by omega) (by omega)|rfl)) J (ai J J (ac ?_)))));refine aM (i+1) ⟨⟨by omega,by rw [m8 hst,n2,LZ q2 q4 q5 n4 q8];rfl⟩,by omega⟩ J J J
 ·(try simp only [be]at h1)
  have hi:i=l.length:=by omega
  subst hi;rw [List.take_length]at n2;refine bx (aj (ai J J (ac (au (aH () O J (bE (aJ J)) (congrArg Value.bool n2.symm) [] [] J J J)))))
theorem tc:∀(n:Nat)(v:SV)(l:List Ty),SizeOf.sizeOf l<n→l.length≤1000000→GYs l→Oz v l
 | 0,_,_,h,_,_=>absurd h (Nat.not_lt_zero _)
 | n+1,v,l,h,hl,hg=>Ct v l hl hg fun u hu=>by
  have h1:=List.sizeOf_lt_of_mem hu;have h2:SizeOf.sizeOf u.body<SizeOf.sizeOf u∧SizeOf.sizeOf u.els<SizeOf.sizeOf u:=by
   cases u;simp only [Ty.mk.sizeOf_spec,Ty.body,Ty.els];omega
  have h3:=hg.mem u hu;exact⟨tc n u.vb u.body (by omega) (dY h3).1 (dY h3).2,tc n u.vl u.els (by omega) (e_ h3).1 (e_ h3).2⟩
theorem Cu(v:SV)(l:List Ty)(hl:l.length≤1000000)(hg:GYs l):Oz v l:=tc _ v l (Nat.lt_succ_self _) hl hg
theorem tq(f:Tf):rF f=(f.ps.all ca&&ca f.name&&f.body.all rY):=by unfold rF;rw [ju]
theorem L4{f:Tf}(h:ca f.name=false∨f.body.all rY=false):rF f=false:=by
 rw [tq];rcases h with h|h<;>rw [h]<;>simp
theorem O8{f:Tf}{x:ByteArray}(hm:x∈f.ps)(h:ca x=false):rF f=false:=by
 rw [tq,jO hm h];rfl
theorem uT(vp:SV)(fs:List Tf)(hg:GP fs):
  Spec prog 56 [.agg #[sv vp]] [] [cx vp fs] (X:=Unit) (fun _=>True) (fun _=> .bool (rP fs)) (fun _=> []) (fun _=> []):=by
 refine aI func56 J ntmps56 J fun w0 M H=>aW 0 1 J jo ?_
 have hgl:=hg.1;refine aj (bU J J fun b1=>ai J J (ac (aS (ai J J (ac (aB (bv (X:=Nat) (fun i=>i≤fs.length∧(fs.take i).all rF=true) (fun i=> [(1,.pointer (some ⟨b1,0,none⟩)),(3,.int .i64 (i:Int))]) (fun i=> [(1,bj b1 27 [sv vp])]) (fun i=> [(0,cx vp fs),(1,sl 3 iW (sv vp) fs)]) (fun i=>fs.length-i) 0 ⟨Nat.zero_le _,J⟩ J J J (fun i hx0=> ?_))))))));obtain⟨n1,n2⟩:=hx0;refine aS (ad J J (az de J J (aP 1 mh J J J J J (aO (aU underlying25 J (aN (k:=1) J)) J (ar J J ci J (ac (ae J (fun h1=> ?_) (fun h1=> ?_))))))))
 ·(try simp only [be]at h1)
  have hi:i<fs.length:=by omega
  obtain⟨f,hf⟩:∃k,fs[i]?=some k:=⟨_,List.getElem?_eq_getElem hi⟩
  have hfm:=List.mem_of_getElem? hf;have hgf:=hg.2 f hfm;have hpl:=hgf.2.2.1;refine aW 0 7 J (ln hfm) (aW 7 8 J lp (ax (a_ (aB (aj (az de J J (aP 1 mh J J J J J (ad J J (aO (aR (j:=i) underlying25 ge J J (aN (k:=1) J) (by first|rfl|omega) (by first|omega|(simp;done)|(simp;omega))) J (aO (aL ge J J J (bD (aN (k:=1) J) (by intro _;rfl) hf (by rfl))) J (aZ ge J J fun b4=>aq (k:=4) ge J J J J J J (aG J (az jD J J (aP 4 t9 J J J J J (ak (xs:= [.tmp 22]) (iR f.name) Ap [] [] [] (fun _ _=> ?_))))))))))))))));refine ai J J (aG J (az iB J J (aP 4 hQ J J J J J (aW 7 9 J jp (ak (xs:= [.tmp 25]) (Cu f.vb f.body hgf.2.2.2.1 hgf.2.2.2.2.1) ED [] [(false,9)] [] (fun _ _=>ai J J (ac (aS (ad J J (aO (ch J) J (ad J J (aA [] J J O (fun hg2=>am J) J (aA [(30,_)] J J ⟨J,O⟩ (fun hg3=>ch J) J (aO (aQ J J J (by first|exact av|exact aC|rfl)) J (ac ?_)))))))))))))));refine ae J (fun h4=> ?_) (fun h4=> ?_)
  ·(try simp only [be]at h4)
   have q2:=h4;refine aj (ai J J (ac (au (aH () O J (bE (aJ J)) (congrArg Value.bool (show false=rP fs from(jO (p:=rF) hfm (L4 q2)).symm)) [] [] J J J))))
  ·(try simp only [be]at h4)
   have q2:=h4;refine ax (aj (ai J J (ac (aB (bv (X:=Nat) (fun j=>j≤f.ps.length∧(f.ps.take j).all ca=true) (fun j=> [(1,.pointer (some ⟨b1,0,none⟩)),(3,.int .i64 (i:Int)),(4,.pointer (some ⟨b4,0,none⟩)),(7,.int .i64 (j:Int))]) (fun j=> [(1,bj b1 27 [sv vp]),(4,bj b4 66 (iW f))]) (fun j=> [(0,cx vp fs),(1,sl 3 iW (sv vp) fs),(7,yL f),(8,sl 1 eS (sv f.vp) f.ps)]) (fun j=>f.ps.length-j) 0 ⟨Nat.zero_le _,J⟩ J J J (fun j hy0=> ?_))))));obtain⟨n3,n4⟩:=hy0;refine aS (ad J J (az dA J J (aP 4 gu J J J J J (aO (aU underlying46 J (aN (k:=8) J)) J (ar J J ci J (ac (ae J (fun h5=> ?_) (fun h5=> ?_))))))))
   ·(try simp only [be]at h5)
    have hj:j<f.ps.length:=by omega
    obtain⟨x,hx⟩:∃k,f.ps[j]?=some k:=⟨_,List.getElem?_eq_getElem hj⟩
    have hxm:=List.mem_of_getElem? hx;refine ax (a_ (aB (aj (az dA J J (aP 4 gu J J J J J (ad J J (aO (aR (j:=j) underlying46 t9 J J (aN (k:=8) J) (by first|rfl|omega) (by first|omega|(simp;done)|(simp;omega))) J (aO (ah t9 J J (bD (aN (k:=8) J) (by intro _;rfl) hx (by rfl))) J (ak (xs:= [.tmp 44]) (iR x) Ap [] [] [] (fun _ _=>ai J J (aG J (ad J J (aO (ch J) J (ac (ae J (fun h6=> ?_) (fun h6=> ?_))))))))))))))))
    ·have q4:ca x=false:=by simpa using h6
     refine aj (ai J J (ac (au (aH () O J (bE (aJ J)) (congrArg Value.bool (show false=rP fs from(jO (p:=rF) hfm (O8 hxm q4)).symm)) [] [] J J J))))
    ·have q4:ca x=true:=by simpa using h6
     refine ax (ap (ad J J (ar J J (bi (by first|exact bc (by omega) (by omega)|rfl)) J (ai J J (ac ?_)))));refine aM (j+1) ⟨⟨by omega,by rw [m8 hx,n4,q4];rfl⟩,by omega⟩ J J J
   ·(try simp only [be]at h5)
    have hj:j=f.ps.length:=by omega
    subst hj;rw [List.take_length]at n4;refine bx (ap (ad J J (ar J J (bi (by first|exact bc (by omega) (by omega)|rfl)) J (ai J J (ac ?_)))));refine aM (i+1) ⟨⟨by omega,by rw [m8 hf,n2,tq,n4,q2.1,q2.2];rfl⟩,by omega⟩ J J J
 ·(try simp only [be]at h1)
  have hi:i=fs.length:=by omega
  subst hi;rw [List.take_length]at n2;refine bx (aj (ai J J (ac (au (aH () O J (bE (aJ J)) (congrArg Value.bool n2.symm) [] [] J J J)))))
def zR(n v s e:Int):List Value:= [.int .i64 n,.int .i64 v,.int .i64 s,.int .i64 e]
abbrev zV(n v s e:Int):Value:= .agg #[.int .i64 n,.int .i64 v,.int .i64 s,.int .i64 e]
theorem BR{n v s e n' v' s' e':Int}(h1:n=n')(h2:v=v')(h3:s=s')(h4:e=e'):zR n v s e=zR n' v' s' e':=by rw [h1,h2,h3,h4]
abbrev sm(n:Int):Prop:=0≤n∧n≤1000000000000
mutual
def dS:Ty→Nat
 | .mk _ _ _ _ _ body _ els=>max (iM body) (iM els)+1
def iM:List Ty→Nat
 | []=>0
 | t::r=>max (dS t) (iM r)
end
mutual
def dq:Ty→Nat
 | .mk _ _ _ es _ body _ els=>max (max (ib body) (ib els)) (ft es)
def ib:List Ty→Nat
 | []=>0
 | t::r=>max (dq t) (ib r)
end
theorem Ag:∀a b:List Ty,iM (a++b)=max (iM a) (iM b)
 | [],b=>by simp [iM]
 | t::r,b=>by simp only [List.cons_append,iM,Ag r b];omega
theorem Ad:∀a b:List Ty,ib (a++b)=max (ib a) (ib b)
 | [],b=>by simp [ib]
 | t::r,b=>by simp only [List.cons_append,ib,Ad r b];omega
theorem Ed{l:List Ty}{i:Nat}{k:Ty}(h:l[i]?=some k):iM (l.take (i+1))=max (iM (l.take i)) (dS k):=by
 rw [bT h,Ag];show max _ (max (dS k) 0)=_;omega
theorem D7{l:List Ty}{i:Nat}{k:Ty}(h:l[i]?=some k):ib (l.take (i+1))=max (ib (l.take i)) (dq k):=by
 rw [bT h,Ad];show max _ (max (dq k) 0)=_;omega
theorem Ik(t:Ty):dS t=max (iM t.body) (iM t.els)+1:=by cases t;rfl
theorem MR(t:Ty):dq t=max (max (ib t.body) (ib t.els)) (ft t.es):=by cases t;rfl
theorem C9(t:Tx):nX t=ey t.kids+1∧dX t=ft t.kids+1:=by cases t;exact⟨rfl,rfl⟩
theorem C7(t:Ty):nY t=1+ey t.es+cw t.body+cw t.els:=by cases t;rfl
theorem B8(t:Ty):vY t=(if t.kind=1 then 1 else 0)+cL t.body+cL t.els:=by cases t;rfl
mutual
theorem MX:∀t:Ty,dS t≤nY t∧dq t≤nY t
 | .mk _ _ _ es _ body _ els=>by
  have h1:=lW body;have h2:=lW els;have h3:=qH es;rw [dS,dq,nY];omega
theorem lW:∀l:List Ty,iM l≤cw l∧ib l≤cw l
 | []=>by rw [iM,ib,cw];omega
 | t::r=>by
  have h1:=MX t;have h2:=lW r;rw [iM,ib,cw];omega
end
mutual
theorem Ks:∀(d:Nat)(t:Ty),BN d t=true↔d+dS t>9∨dq t>8
 | d,.mk k nm v es vb body vl els=>by
  rw [BN,dS,dq];simp only [Bool.or_eq_true,decide_eq_true_eq];rw [pd (d+1) body,pd (d+1) els];omega
theorem pd:∀(d:Nat)(l:List Ty),da d l=true↔(0<iM l∧d+iM l>9)∨ib l>8
 | d,[]=>by rw [da,iM,ib];simp
 | d,t::r=>by
  rw [da,iM,ib,Bool.or_eq_true,Ks d t,pd d r];have h1:0<dS t:=by rw [Ik];omega
  omega
end
theorem Ar(f:Tf):pe f↔f.ps.length>4∨f.ps.length+cL f.body>12∨cw f.body>400∨iM f.body>8∨ib f.body>8:=by
 unfold pe;rw [pd];omega
def Ox(v:SV)(l:List Ty):Prop:=Spec prog 58 [sv v] [] [bF v l] (X:=Unit) (fun _=>True) (fun _=>zV (cw l:Int) (cL l:Int) (iM l:Int) (ib l:Int)) (fun _=> []) (fun _=> [])
def QE(t:Tx):Prop:=Spec prog 105 [xV t] [] [bS t.v t.kids] (X:=Unit) (fun _=>True) (fun _=>zV (nX t:Int) 0 0 (dX t:Int)) (fun _=> []) (fun _=> [])
theorem gm(a b c d a2 b2 c2 d2:Int)(h1:sm a)(h2:sm b)(h3:sm a2)(h4:sm b2):
  Spec prog 104 [zV a b c d,zV a2 b2 c2 d2] [] [] (X:=Unit) (fun _=>True) (fun _=>zV (a+a2) (b+b2) (max c c2) (max d d2)) (fun _=> []) (fun _=> []):=by
 refine aI func104 J ntmps104 J fun w0 M H=>aj (bU J J fun b2=>bU J J fun b3=>aZ eY J J fun b4=>aG J (az jF J J (aP 2 t3 J J J J J (az jF J J (aP 3 t3 J J J J J (ar J J (bi (by first|exact bc (by omega) (by omega)|rfl)) J (az mZ J J (aP 2 t3 J J J J J (az mZ J J (aP 3 t3 J J J J J (ar J J (bi (by first|exact bc (by omega) (by omega)|rfl)) J (az mY J J ?_))))))))))))
 refine aP 2 t3 J J J J J (az mY J J (aP 3 t3 J J J J J (aO (pN J J J) J (az mX J J (aP 2 t3 J J J J J (az mX J J (aP 3 t3 J J J J J (aO (pN J J J) J (aO (aV (parts:= [(0,.tmp 9),(1,.tmp 14),(2,.tmp 19),(3,.tmp 24)]) eY CS J J) J (aq (k:=4) eY J J J J J J (ac (au (aH () O J (bE (bh eY J J J (aX (k:=4) J))) J [] [] J J J)))))))))))))
theorem rL(t:Tx)(ht:nX t≤1000000)(hkl:t.kids.length≤1000000)(ih:∀u∈t.kids,QE u):
  Spec prog 105 [xV t] [] [bS t.v t.kids] (X:=Unit) (fun _=>True) (fun _=>zV (nX t:Int) 0 0 (dX t:Int)) (fun _=> []) (fun _=> []):=by
 refine aI func105 J ntmps105 J fun w0 M H=>aW 0 1 J eW ?_
 obtain⟨hn1,hn2⟩:=C9 t;have hdxl:=qH t.kids;refine aj (bU J J fun b1=>aZ eY J J fun b2=>aG J (aO (aV (parts:= []) eY CS J J) J (aZ eY J J fun b3=>aq (k:=3) eY J J J J J J (ac (aS (ai J J (ac (aB (bv (X:=Nat) (fun i=>i≤t.kids.length) (fun i=> [(1,.pointer (some ⟨b1,0,none⟩)),(2,.pointer (some ⟨b2,0,none⟩)),(3,.pointer (some ⟨b3,0,none⟩)),(4,.int .i64 (i:Int))]) (fun i=> [(1,bj b1 61 (dt t)),(2,bj b2 124 (zR 0 0 0 0)),(3,bj b3 124 (zR (ey (t.kids.take i):Int) 0 0 (ft (t.kids.take i):Int)))]) (fun i=> [(0,bS t.v t.kids),(1,sl 4 dt (sv t.v) t.kids)]) (fun i=>t.kids.length-i) 0 (Nat.zero_le _) J J J (fun i n1=>a_ (a_ ?_)))))))))));refine ap (ad J J (az dc J J (aP 1 ij J J J J J (aO (aU underlying59 J (aN (k:=1) J)) J (ar J J ci J (ac (ae J (fun h1=> ?_) (fun h1=> ?_))))))))
 ·(try simp only [be]at h1)
  have hi:i<t.kids.length:=by omega
  obtain⟨u,hu⟩:∃u,t.kids[i]?=some u:=⟨_,List.getElem?_eq_getElem hi⟩
  have hum:=List.mem_of_getElem? hu;refine aW 0 7 J (cS hum) ?_;have hle:=kw t.kids (i+1);rw [ea hu]at hle;have hdu:=wd u;refine ax (a_ (aB ?_));refine bH [13,14,15,16,17,18,19,20] _ J (bk (V:= [(0,13,_),(1,14,_),(2,15,_),(3,16,_),(4,17,_),(5,18,_)]) [0,1,2,3,4,5] 6 [6,5,4,3,2,1] [] (fun _=> []) J J (aa (aD J (aL eY J J J (aX (k:=3) J))) (aa (aD J (ag dc J)) (aa (aD J (ah ij J J (ay (k:=1) J J))) (aa (aD J (am J)) (aa (aD J (aR (j:=i) underlying59 co J J (aN (k:=1) J) (by first|rfl|omega) (by first|omega|(simp;done)|(simp;omega)))) (aa (aD J (aL co J J J (bD (aN (k:=1) J) (by intro _;rfl) hu (by rfl)))) aw)))))) J J J J J J J J J J J (fun _ _=>J) J (bq (xs:= [.tmp 18]) (ih u hum) IM [] [(false,7)] [] J J J J J J J J (fun _ _=>J) (fun _ _ _=>J)) (fun _ _=>bk [0] 7 [7,6,5,4,3,2,1,0] [] (fun _=> []) J J (aa (aD J (aL eY J J J (aX (k:=3) J))) aw) J J J J J J J J J J J (fun _ _=>J) J (bq (xs:= [.tmp 13,.tmp 19]) (gm (ey (t.kids.take i):Int) 0 0 (ft (t.kids.take i):Int) (nX u:Int) 0 0 (dX u:Int) ⟨by omega,by omega⟩ ⟨by omega,by omega⟩ ⟨by omega,by omega⟩ ⟨by omega,by omega⟩) qP [] [] [] J J J J J J J J (fun _ _=>J) (fun _ _ _=>J)) (fun _ _=>bI [] 8 [8,7,6,5,4,3,2,1,0] [] (fun _=> []) J J aw J J J J J J J J J (fun _ _=>J) J (bM (k:=3) eY J J J J J J) (fun _ _=>bp [] J J aw J J J ?_))));refine ap (ad J J (ar J J (bi (by first|exact bc (by omega) (by omega)|rfl)) J (ai J J (ac ?_))));refine aM (i+1) ⟨by omega,by omega⟩ J (by rw [BR (n:=((ey (t.kids.take (i+1)):Nat):Int)) (n':=(ey (t.kids.take i):Int)+(nX u:Int)) (e':=max (ft (t.kids.take i):Int) (dX u:Int)) (e:=((ft (t.kids.take (i+1)):Nat):Int)) (by rw [ea hu,Int.natCast_add]) (show(0:Int)=0+0 from J) (show(0:Int)=max 0 0 from J) (by rw [kD hu];omega)];rfl) J
 ·(try simp only [be]at h1)
  have hi:i=t.kids.length:=by omega
  subst hi;rw [List.take_length];refine bx (aj (az jF J J (aP 3 t3 J J J J J (ar J J (bi (by first|exact bc (by omega) (by omega)|rfl)) J (az jF J J (aK (k:=3) t3 J J J J J J J J (aG J (az mX J J (aP 3 t3 J J J J J (ar J J (bi (by first|exact bc (by omega) (by omega)|rfl)) J (az mX J J (aK (k:=3) t3 J J J J J J J J (aG J (aO (aL eY J J J (aX (k:=3) J)) J ?_))))))))))))));refine aq (k:=2) eY J J J J J J (ac (au ?_));have hfin:zV ((ey t.kids:Int)+1) 0 0 ((ft t.kids:Int)+1)=zV (nX t:Int) 0 0 (dX t:Int):=by rw [hn1,hn2];rfl
  refine aH () O J (bE (bh eY J J J (aX (k:=2) J))) (by rw [←hfin];rfl) [] [] J J J
theorem m6:∀(n:Nat)(t:Tx),SizeOf.sizeOf t<n→GX t→nX t≤1000000→QE t
 | 0,_,h,_,_=>absurd h (Nat.not_lt_zero _)
 | n+1,t,h,ht,hn=>rL t hn (kF ht) fun u hu=>m6 n u (by have:=nU hu;omega) ((iY ht).mem u hu) (by
  obtain⟨i,hi⟩:=List.getElem?_of_mem hu;have hle:=kw t.kids (i+1);rw [ea hi]at hle;have:=(C9 t).1;omega)
theorem rM(t:Tx)(ht:GX t)(hn:nX t≤1000000):QE t:=m6 _ t (Nat.lt_succ_self _) ht hn
theorem rc(v:SV)(l:List Ty)(hn:cw l≤1000000)(hl:l.length≤1000000)(hg:GYs l)(ih:∀u∈l,Ox u.vb u.body∧Ox u.vl u.els):
  Spec prog 58 [sv v] [] [bF v l] (X:=Unit) (fun _=>True) (fun _=>zV (cw l:Int) (cL l:Int) (iM l:Int) (ib l:Int)) (fun _=> []) (fun _=> []):=by
 refine aI func58 J ntmps58 J fun w0 M H=>aW 0 1 J fQ (aj (aZ eY J J fun b2=>aG J (aO (aV (parts:= []) eY CS J J) J (aZ eY J J fun b3=>aq (k:=3) eY J J J J J J (ac (aS (ai J J (ac (aB (bv (X:=Nat) (fun i=>i≤l.length) (fun i=> [(0,sv v),(2,.pointer (some ⟨b2,0,none⟩)),(3,.pointer (some ⟨b3,0,none⟩)),(4,.int .i64 (i:Int))]) (fun i=> [(2,bj b2 124 (zR 0 0 0 0)),(3,bj b3 124 (zR (cw (l.take i):Int) (cL (l.take i):Int) (iM (l.take i):Int) (ib (l.take i):Int)))]) (fun i=> [(0,bF v l),(1,sl 5 eu (sv v) l)]) (fun i=>l.length-i) 0 (Nat.zero_le _) J J J (fun i n1=>a_ ?_)))))))))))
 refine aj (ad J J (ad J J (aO (aU underlying62 J (aN (k:=1) J)) J (ar J J ci J (ac (ae J (fun h1=> ?_) (fun h1=> ?_)))))))
 ·(try simp only [be]at h1)
  have hi:i<l.length:=by omega
  obtain⟨st,hst⟩:∃k,l[i]?=some k:=⟨_,List.getElem?_eq_getElem hi⟩
  have hsm:=List.mem_of_getElem? hst;have hsg:=na (hg.mem st hsm);have hle:=lQ l (i+1);rw [gG hst]at hle;have hny:=C7 st;have hvy:=B6 st;have hva:=gN (l.take i);have hvb:=gN st.body;have hvs:=gN st.els;have hvy2:(vY st:Int)=((cL st.body:Int)+(cL st.els:Int))+(if st.kind=1 then 1 else 0:Int):=by
   rw [B8];split<;>omega
  have hki:0≤(if st.kind=1 then 1 else 0:Int)∧(if st.kind=1 then 1 else 0:Int)≤1:=by split<;>omega
  have hdsb:=lW st.body;have hdse:=lW st.els;have hdsi:=lW (l.take i);have hnl:=lQ l i;have hdxe:=qH st.es;refine aW 0 7 J (jn hsm) (aW 0 8 J (fF hsm) (aW 0 9 J (gt hsm) (aW 7 10 J eW (ax (a_ (aB (aj (ad J J (ad J J (aO (aR (j:=i) underlying62 dJ J J (aN (k:=1) J) (by first|rfl|omega) (by first|omega|(simp;done)|(simp;omega))) J (aO (aL dJ J J J (bD (aN (k:=1) J) (by intro _;rfl) hst (by rfl))) J (aZ dJ J J fun b5=>aq (k:=5) dJ J J J J J J (ac (br (X:=Nat) (fun _=>True) (fun y=> [(0,sv v),(2,.pointer (some ⟨b2,0,none⟩)),(3,.pointer (some ⟨b3,0,none⟩)),(4,.int .i64 (i:Int)),(5,.pointer (some ⟨b5,0,none⟩)),(6,.pointer (some ⟨y,0,none⟩))]) (fun y=> [(2,bj b2 124 (zR 0 0 0 0)),(3,bj b3 124 (zR (cw (l.take i):Int) (cL (l.take i):Int) (iM (l.take i):Int) (ib (l.take i):Int))),(5,bj b5 64 (eu st)),(6,bj y 124 (zR ((cw st.body:Int)+(cw st.els:Int)) ((cL st.body:Int)+(cL st.els:Int)) (max (iM st.body:Int) (iM st.els:Int)) (max (ib st.body:Int) (ib st.els:Int))))]) (fun y=> [(0,bF v l),(1,sl 5 eu (sv v) l),(7,bS st.ve st.es),(8,bF st.vb st.body),(9,bF st.vl st.els),(10,sl 4 dt (sv st.ve) st.es)]) ?_ (fun b6 _=> ?_)))))))))))))))
  ·refine bH [19,20,21,22,23,24,25,6] _ J (fZ (V:= [(0,19,_),(1,20,_),(3,22,_),(4,23,_)]) [0,1,3,4] J J (aa (aD J (ag fi J)) (aa (aD J (ah hQ J J (ay (k:=5) J J))) (aa (aD J (ag ez J)) (aa (aD J (ah hQ J J (ay (k:=5) J J))) aw)))) J [2,7] J J (dF (eF 2 [2,1,0] [] (fun _=> []) J J J J J J J J J (fun _ _=>J) J (bq (xs:= [.tmp 20]) (ih st hsm).1 BB [] [(false,8)] [] J J J J J J J J (fun _ _=>J) (fun _ _ _=>J)) (fun _ _=>fZ [3,4] J J (aa (aD J (ag ez J)) (aa (aD J (ah hQ J J (ay (k:=5) J J))) aw)) J [5,7] J J (dF (eF 5 [5,4,3,2,1,0] [] (fun _=> []) J J J J J J J J J (fun _ _=>J) J (bq (xs:= [.tmp 23]) (ih st hsm).2 BB [] [(false,9)] [] J J J J J J J J (fun _ _=>J) (fun _ _ _=>J)) (fun _ _=>fZ [] J J aw J [6,7] J J (dF (eF 6 [6,5,4,3,2,1,0] [] (fun _=> []) J J J J J J J J J (fun _ _=>J) J (bq (xs:= [.tmp 21,.tmp 24]) (gm _ _ _ _ _ _ _ _ ⟨by omega,by omega⟩ ⟨by omega,by omega⟩ ⟨by omega,by omega⟩ ⟨by omega,by omega⟩) qP [] [] [] J J J J J J J J (fun _ _=>J) (fun _ _ _=>J)) (fun _ _=>bk [] 7 [7,6,5,4,3,2,1,0] [] (fun b6=> []) J J aw J J J J J J J J J J J (fun _ _=>J) J (eb eY J) (fun b6 _=>bI [] 8 [8,7,6,5,4,3,2,1,0] [] (fun _=> []) J J aw J J J J J J J J J (fun _ _=>J) J (bM (k:=6) eY J J J J J J) (fun _ _=>bp [] J J aw J J J ?_)))) (dF (eF 7 [7,5,4,3,2,1,0] [] (fun b6=> []) J J J J J J J J J (fun _ _=>J) J (eb eY J) (fun b6 _=>bk [] 6 [7,6,5,4,3,2,1,0] [] (fun _=> []) J J aw J J J J J J J J J J J (fun _ _=>J) J (bq (xs:= [.tmp 21,.tmp 24]) (gm _ _ _ _ _ _ _ _ ⟨by omega,by omega⟩ ⟨by omega,by omega⟩ ⟨by omega,by omega⟩ ⟨by omega,by omega⟩) qP [] [] [] J J J J J J J J (fun _ _=>J) (fun _ _ _=>J)) (fun _ _=>bI [] 8 [8,7,6,5,4,3,2,1,0] [] (fun _=> []) J J aw J J J J J J J J J (fun _ _=>J) J (bM (k:=6) eY J J J J J J) (fun _ _=>bp [] J J aw J J J ?_)))) jv)))) (dF (eF 7 [7,2,1,0] [] (fun b6=> []) J J J J J J J J J (fun _ _=>J) J (eb eY J) (fun b6 _=>bk [3,4] 5 [7,5,4,3,2,1,0] [] (fun _=> []) J J (aa (aD J (ag ez J)) (aa (aD J (ah hQ J J (ay (k:=5) J J))) aw)) J J J J J J J J J J J (fun _ _=>J) J (bq (xs:= [.tmp 23]) (ih st hsm).2 BB [] [(false,9)] [] J J J J J J J J (fun _ _=>J) (fun _ _ _=>J)) (fun _ _=>bk [] 6 [7,6,5,4,3,2,1,0] [] (fun _=> []) J J aw J J J J J J J J J J J (fun _ _=>J) J (bq (xs:= [.tmp 21,.tmp 24]) (gm _ _ _ _ _ _ _ _ ⟨by omega,by omega⟩ ⟨by omega,by omega⟩ ⟨by omega,by omega⟩ ⟨by omega,by omega⟩) qP [] [] [] J J J J J J J J (fun _ _=>J) (fun _ _ _=>J)) (fun _ _=>bI [] 8 [8,7,6,5,4,3,2,1,0] [] (fun _=> []) J J aw J J J J J J J J J (fun _ _=>J) J (bM (k:=6) eY J J J J J J) (fun _ _=>bp [] J J aw J J J ?_))))) jv)))) (dF (eF 7 [7] [] (fun b6=> []) J J J J J J J J J (fun _ _=>J) J (eb eY J) (fun b6 _=>bk [0,1,3,4] 2 [7,2,1,0] [] (fun _=> []) J J (aa (aD J (ag fi J)) (aa (aD J (ah hQ J J (ay (k:=5) J J))) (aa (aD J (ag ez J)) (aa (aD J (ah hQ J J (ay (k:=5) J J))) aw)))) J J J J J J J J J J J (fun _ _=>J) J (bq (xs:= [.tmp 20]) (ih st hsm).1 BB [] [(false,8)] [] J J J J J J J J (fun _ _=>J) (fun _ _ _=>J)) (fun _ _=>bk [3,4] 5 [7,5,4,3,2,1,0] [] (fun _=> []) J J (aa (aD J (ag ez J)) (aa (aD J (ah hQ J J (ay (k:=5) J J))) aw)) J J J J J J J J J J J (fun _ _=>J) J (bq (xs:= [.tmp 23]) (ih st hsm).2 BB [] [(false,9)] [] J J J J J J J J (fun _ _=>J) (fun _ _ _=>J)) (fun _ _=>bk [] 6 [7,6,5,4,3,2,1,0] [] (fun _=> []) J J aw J J J J J J J J J J J (fun _ _=>J) J (bq (xs:= [.tmp 21,.tmp 24]) (gm _ _ _ _ _ _ _ _ ⟨by omega,by omega⟩ ⟨by omega,by omega⟩ ⟨by omega,by omega⟩ ⟨by omega,by omega⟩) qP [] [] [] J J J J J J J J (fun _ _=>J) (fun _ _ _=>J)) (fun _ _=>bI [] 8 [8,7,6,5,4,3,2,1,0] [] (fun _=> []) J J aw J J J J J J J J J (fun _ _=>J) J (bM (k:=6) eY J J J J J J) (fun _ _=>bp [] J J aw J J J ?_)))))) jv)))
   ·refine aM b6 O J J J
   ·refine aM b6 O J J J
   ·refine aM b6 O J J J
   ·refine aM b6 O J J J
  ·refine aj (az mY J J (aP 6 t3 J J J J J (ar J J (bi (by first|exact bc (by omega) (by omega)|rfl)) J (az mY J J (aK (k:=6) t3 J J J J J J J J (aG J (az jF J J (aP 6 t3 J J J J J (ar J J (bi (by first|exact bc (by omega) (by omega)|rfl)) J (az jF J J (aK (k:=6) t3 J J J J J J J J (ac (br (X:=Unit) (fun _=>True) (fun _=> [(0,sv v),(2,.pointer (some ⟨b2,0,none⟩)),(3,.pointer (some ⟨b3,0,none⟩)),(4,.int .i64 (i:Int)),(5,.pointer (some ⟨b5,0,none⟩)),(6,.pointer (some ⟨b6,0,none⟩))]) (fun _=> [(2,bj b2 124 (zR 0 0 0 0)),(3,bj b3 124 (zR (cw (l.take i):Int) (cL (l.take i):Int) (iM (l.take i):Int) (ib (l.take i):Int))),(5,bj b5 64 (eu st)),(6,bj b6 124 (zR ((cw st.body:Int)+(cw st.els:Int)+1) (((cL st.body:Int)+(cL st.els:Int))+(if st.kind=1 then 1 else 0:Int)) (max (iM st.body:Int) (iM st.els:Int)+1) (max (ib st.body:Int) (ib st.els:Int))))]) (fun _=> [(0,bF v l),(1,sl 5 eu (sv v) l),(7,bS st.ve st.es),(8,bF st.vb st.body),(9,bF st.vl st.els),(10,sl 4 dt (sv st.ve) st.es)]) ?_ (fun _ _=> ?_))))))))))))))
   ·refine aj (az dT J J (aP 5 t3 J J J J J (ar J J aY J (ac (ae J (fun h2=> ?_) (fun h2=> ?_))))))
    ·have q1:st.kind=1:=of_decide_eq_true h2;refine ap (az mZ J J (aP 6 t3 J J J J J (ar J J (bi (by first|exact bc (by omega) (by omega)|rfl)) J (az mZ J J (aK (k:=6) t3 J J J J J J J J (ac (aM () O J (by rw [if_pos q1];rfl) J)))))))
    ·have q1:¬st.kind=1:=of_decide_eq_false h2;refine ax (aM () O J (by rw [if_neg q1,Int.add_zero];rfl) J)
   ·refine aS (ai J J (ac (aB ?_)));refine bv (X:=Nat) (fun j=>j≤st.es.length) (fun j=> [(0,sv v),(2,.pointer (some ⟨b2,0,none⟩)),(3,.pointer (some ⟨b3,0,none⟩)),(4,.int .i64 (i:Int)),(5,.pointer (some ⟨b5,0,none⟩)),(6,.pointer (some ⟨b6,0,none⟩)),(7,.int .i64 (j:Int))]) (fun j=> [(2,bj b2 124 (zR 0 0 0 0)),(3,bj b3 124 (zR (cw (l.take i):Int) (cL (l.take i):Int) (iM (l.take i):Int) (ib (l.take i):Int))),(5,bj b5 64 (eu st)),(6,bj b6 124 (zR (((cw st.body:Int)+(cw st.els:Int)+1)+(ey (st.es.take j):Int)) (((cL st.body:Int)+(cL st.els:Int))+(if st.kind=1 then 1 else 0:Int)) (max (iM st.body:Int) (iM st.els:Int)+1) (max (max (ib st.body:Int) (ib st.els:Int)) (ft (st.es.take j):Int))))]) (fun j=> [(0,bF v l),(1,sl 5 eu (sv v) l),(7,bS st.ve st.es),(8,bF st.vb st.body),(9,bF st.vl st.els),(10,sl 4 dt (sv st.ve) st.es)]) (fun j=>st.es.length-j) 0 (Nat.zero_le _) J (by rw [show(((cw st.body:Int)+(cw st.els:Int)+1)+(ey (st.es.take 0):Int))=((cw st.body:Int)+(cw st.els:Int)+1) by simp [ey],show max (max (ib st.body:Int) (ib st.els:Int)) (ft (st.es.take 0):Int)=(max (ib st.body:Int) (ib st.els:Int)) by simp [ft]<;>omega];rfl) J (fun j n2=> ?_);refine aS (ad J J (az e9 J J (aP 5 ij J J J J J (aO (aU underlying59 J (aN (k:=10) J)) J (ar J J ci J (ac (ae J (fun h3=> ?_) (fun h3=> ?_))))))))
    ·(try simp only [be]at h3)
     have hj:j<st.es.length:=by omega
     obtain⟨u,hu⟩:∃k,st.es[j]?=some k:=⟨_,List.getElem?_eq_getElem hj⟩
     have hum:=List.mem_of_getElem? hu;refine aW 7 11 J (cS hum) ?_;have hlx:=kw st.es (j+1);rw [ea hu]at hlx;have hdu:=wd u;refine ax (a_ (aB ?_));refine bH [48,49,50,51,52,53,54,55] _ J (bk (V:= [(0,48,_),(1,49,_),(2,50,_),(3,51,_),(4,52,_),(5,53,_)]) [0,1,2,3,4,5] 6 [6,5,4,3,2,1] [] (fun _=> []) J J (aa (aD J (aL eY J J J (aX (k:=6) J))) (aa (aD J (ag e9 J)) (aa (aD J (ah ij J J (ay (k:=5) J J))) (aa (aD J (am J)) (aa (aD J (aR (j:=j) underlying59 co J J (aN (k:=10) J) (by first|rfl|omega) (by first|omega|(simp;done)|(simp;omega)))) (aa (aD J (aL co J J J (bD (aN (k:=10) J) (by intro _;rfl) hu (by rfl)))) aw)))))) J J J J J J J J J J J (fun _ _=>J) J (bq (xs:= [.tmp 53]) (rM u (hsg.2.mem u hum) (by omega)) IM [] [(false,11)] [] J J J J J J J J (fun _ _=>J) (fun _ _ _=>J)) (fun _ _=>bk [0] 7 [7,6,5,4,3,2,1,0] [] (fun _=> []) J J (aa (aD J (aL eY J J J (aX (k:=6) J))) aw) J J J J J J J J J J J (fun _ _=>J) J (bq (xs:= [.tmp 48,.tmp 54]) (gm (((cw st.body:Int)+(cw st.els:Int)+1)+(ey (st.es.take j):Int)) (((cL st.body:Int)+(cL st.els:Int))+(if st.kind=1 then 1 else 0:Int)) (max (iM st.body:Int) (iM st.els:Int)+1) (max (max (ib st.body:Int) (ib st.els:Int)) (ft (st.es.take j):Int)) (nX u:Int) 0 0 (dX u:Int) ⟨by omega,by omega⟩ ⟨by omega,by omega⟩ ⟨by omega,by omega⟩ ⟨by omega,by omega⟩) qP [] [] [] J J J J J J J J (fun _ _=>J) (fun _ _ _=>J)) (fun _ _=>bI [] 8 [8,7,6,5,4,3,2,1,0] [] (fun _=> []) J J aw J J J J J J J J J (fun _ _=>J) J (bM (k:=6) eY J J J J J J) (fun _ _=>bp [] J J aw J J J ?_))));refine ap (ad J J (ar J J (bi (by first|exact bc (by omega) (by omega)|rfl)) J (ai J J (ac ?_))))
     refine aM (j+1) ⟨by omega,by omega⟩ J (by rw [BR (n:=((cw st.body:Int)+(cw st.els:Int)+1)+((ey (st.es.take (j+1)):Nat):Int)) (v:=((cL st.body:Int)+(cL st.els:Int))+(if st.kind=1 then 1 else 0:Int)) (s:=(max (iM st.body:Int) (iM st.els:Int)+1)) (e:=max (max (ib st.body:Int) (ib st.els:Int)) ((ft (st.es.take (j+1)):Nat):Int)) (n':=((cw st.body:Int)+(cw st.els:Int)+1)+(ey (st.es.take j):Int)+(nX u:Int)) (v':=((cL st.body:Int)+(cL st.els:Int))+(if st.kind=1 then 1 else 0:Int)+0) (s':=max (max (iM st.body:Int) (iM st.els:Int)+1) 0) (e':=max (max (max (ib st.body:Int) (ib st.els:Int)) (ft (st.es.take j):Int)) (dX u:Int)) (by rw [ea hu]<;>omega) (by rw [Int.add_zero]) (by omega) (by rw [kD hu]<;>omega)];rfl) J
    ·(try simp only [be]at h3)
     have hj:j=st.es.length:=by omega
     subst hj;rw [List.take_length];refine bx (ap (aO (aL eY J J J (aX (k:=3) J)) J (aO (aL eY J J J (aX (k:=6) J)) J ?_)));refine d9 (xs:= [.tmp 56,.tmp 57]) (gm (cw (l.take i):Int) (cL (l.take i):Int) (iM (l.take i):Int) (ib (l.take i):Int) (((cw st.body:Int)+(cw st.els:Int)+1)+(ey st.es:Int)) (((cL st.body:Int)+(cL st.els:Int))+(if st.kind=1 then 1 else 0:Int)) (max (iM st.body:Int) (iM st.els:Int)+1) (max (max (ib st.body:Int) (ib st.els:Int)) (ft st.es:Int)) ⟨by omega,by omega⟩ ⟨by omega,by omega⟩ ⟨by omega,by omega⟩ ⟨by omega,by omega⟩) qP [] [] [] J J J J J J J J (fun _ _=>J) (fun _ _ _=>J) J (fun _ _=> ?_);refine aq (k:=3) eY J J J J J J (ac (ap (ad J J (ar J J (bi (by first|exact bc (by omega) (by omega)|rfl)) J (ai J J (ac ?_))))));refine aM (i+1) ⟨by omega,by omega⟩ J (by rw [BR (n:=((cw (l.take (i+1)):Nat):Int)) (v:=((cL (l.take (i+1)):Nat):Int)) (s:=((iM (l.take (i+1)):Nat):Int)) (e:=((ib (l.take (i+1)):Nat):Int)) (n':=(cw (l.take i):Int)+(((cw st.body:Int)+(cw st.els:Int)+1)+(ey st.es:Int))) (v':=(cL (l.take i):Int)+(((cL st.body:Int)+(cL st.els:Int))+(if st.kind=1 then 1 else 0:Int))) (s':=max (iM (l.take i):Int) (max (iM st.body:Int) (iM st.els:Int)+1)) (e':=max (ib (l.take i):Int) (max (max (ib st.body:Int) (ib st.els:Int)) (ft st.es:Int))) (by rw [gG hst]<;>omega) (by rw [i_ hst,Int.natCast_add,hvy2]) (by rw [Ed hst,Ik]<;>omega) (by rw [D7 hst,MR]<;>omega)];rfl) J
 ·(try simp only [be]at h1)
  have hi:i=l.length:=by omega
  subst hi;rw [List.take_length];refine bx (aj (aO (aL eY J J J (aX (k:=3) J)) J (aq (k:=2) eY J J J J J J (ac (au (aH () O J (bE (bh eY J J J (aX (k:=2) J))) J [] [] J J J))))))
theorem jq:∀(n:Nat)(v:SV)(l:List Ty),SizeOf.sizeOf l<n→l.length≤1000000→GYs l→cw l≤1000000→Ox v l
 | 0,_,_,h,_,_,_=>absurd h (Nat.not_lt_zero _)
 | n+1,v,l,h,hl,hg,hn=>rc v l hn hl hg fun u hu=>by
  have h1:=List.sizeOf_lt_of_mem hu;have h2:SizeOf.sizeOf u.body<SizeOf.sizeOf u∧SizeOf.sizeOf u.els<SizeOf.sizeOf u:=by
   cases u;simp only [Ty.mk.sizeOf_spec,Ty.body,Ty.els];omega
  have h3:=hg.mem u hu;obtain⟨i,hi⟩:=List.getElem?_of_mem hu;have hle:=lQ l (i+1);rw [gG hi]at hle;have h4:=C7 u;exact⟨jq n u.vb u.body (by omega) (dY h3).1 (dY h3).2 (by omega),jq n u.vl u.els (by omega) (e_ h3).1 (e_ h3).2 (by omega)⟩
theorem re(v:SV)(l:List Ty)(hl:l.length≤1000000)(hg:GYs l)(hn:cw l≤1000000):Ox v l:=jq _ v l (Nat.lt_succ_self _) hl hg hn
theorem jC{a b:Int}(h:a≠0):fst a b=a:=if_neg h
theorem ua{fs:List Tf}{ns:List ByteArray}{l:List Tx}{i:Nat}{u:Tx}(hu:l[i]?=some u)(h0:iF fs ns (l.take i)=0)(h:eX fs ns u≠0):iF fs ns l=eX fs ns u:=by
 have h1:=ub fs ns (l.take (i+1)) (l.drop (i+1));rw [List.take_append_drop,kC hu,h0,ic,jC h]at h1;exact h1
theorem x_{fs:List Tf}{ns:List ByteArray}{t:Tx}{z:Int}(h:nE fs ns t=z)(hz:z≠0):eX fs ns t=z:=by rw [Ac,h,jC hz]
theorem Ab{fs:List Tf}{ns:List ByteArray}{t:Tx}{z:Int}(h:nE fs ns t=0)(h2:iF fs ns t.kids=z):eX fs ns t=z:=by rw [Ac,h,h2];rfl
def QC(c:Nat)(vp vn:SV)(fs:List Tf)(ns:List ByteArray)(t:Tx):Prop:=Spec prog 106 [.pointer (some ⟨c,0,none⟩),xV t] [] [bj c 128 [sv vp,sv vn],sl 1 eS (sv vn) ns,cx vp fs,bS t.v t.kids] (X:=Unit) (fun _=>True) (fun _=> .int .i64 (eX fs ns t)) (fun _=> []) (fun _=> [])
theorem iE(b:ByteArray)(vp:SV)(fs:List Tf)(hfl:fs.length≤1000000):
  Spec prog 57 [.agg #[sv vp],.string b] [] [sl 3 iW (sv vp) fs] (X:=Unit) (fun _=>True) (fun _=> .int .i64 (qy fs b)) (fun _=> []) (fun _=> []):=by
 refine aI func57 J ntmps57 J fun w0 M H=>aj (bU J J fun b2=>ai J J (ac (aS (ai J J (ac (aB (bv (X:=Nat) (fun i=>i≤fs.length∧∀j y,j<i→fs[j]?=some y→decide (y.name=b)=false) (fun i=> [(1,.string b),(2,.pointer (some ⟨b2,0,none⟩)),(5,.int .i64 (i:Int))]) (fun i=> [(2,bj b2 27 [sv vp])]) (fun i=> [(0,sl 3 iW (sv vp) fs)]) (fun i=>fs.length-i) 0 ⟨Nat.zero_le _,fun j y h=>absurd h (Nat.not_lt_zero _)⟩ J J J (fun i hx0=> ?_))))))))
 obtain⟨n1,n2⟩:=hx0;refine aS (ad J J (az de J J (aP 2 mh J J J J J (aO (aU underlying25 J (aN (k:=0) J)) J (ar J J ci J (ac (ae J (fun h1=> ?_) (fun h1=> ?_))))))))
 ·(try simp only [be]at h1)
  have hi:i<fs.length:=by omega
  obtain⟨f,hf⟩:∃k,fs[i]?=some k:=⟨_,List.getElem?_eq_getElem hi⟩
  have hfm:=List.mem_of_getElem? hf;refine ax (a_ (aB (aj (az de J J (aP 2 mh J J J J J (ad J J (aO (aR (j:=i) underlying25 ge J J (aN (k:=0) J) (by first|rfl|omega) (by first|omega|(simp;done)|(simp;omega))) J (aO (dw jD J) J (aO (ah t9 J J (iT (aN (k:=0) J) (by intro _;rfl) hf J)) J (ad J J (ar J J cr J (ac (ae J (fun h2=> ?_) (fun h2=> ?_))))))))))))))
  ·have hct:decide (f.name=b)=true:=by rw [←b_];exact h2
   refine aj (ad J J (ai J J (ac (au (aH () O J (bE (aJ J)) (by rw [show qy fs b=(i:Int)from nH hf hct n2]) [] [] J J J)))))
  ·have hcf:decide (f.name=b)=false:=by rw [←b_];exact h2
   refine ax (ap (ad J J (ar J J (bi (by first|exact bc (by omega) (by omega)|rfl)) J (ai J J (ac ?_)))));refine aM (i+1) ⟨⟨by omega,fun j y hj hy=>by
    by_cases h:j=i
    ·subst h;rw [hf]at hy;cases hy;exact hcf
    ·exact n2 j y (by omega) hy⟩,by omega⟩ rfl rfl rfl
 ·(try simp only [be]at h1)
  have hi:i=fs.length:=by omega
  subst hi;refine bx (aj (ai J J (ac (au (aH () O J (bE (aJ J)) (by rw [show qy fs b= -1 from nG n2]) [] [] J J J)))))
theorem FB(c:Nat)(vp vn:SV)(fs:List Tf)(ns:List ByteArray)(hfl:fs.length≤1000000)(hns:ns.length≤1000000)(t:Tx)(hkl:t.kids.length≤1000000)(ih:∀u∈t.kids,QC c vp vn fs ns u):
  Spec prog 106 [.pointer (some ⟨c,0,none⟩),xV t] [] [bj c 128 [sv vp,sv vn],sl 1 eS (sv vn) ns,cx vp fs,bS t.v t.kids] (X:=Unit) (fun _=>True) (fun _=> .int .i64 (eX fs ns t)) (fun _=> []) (fun _=> []):=by
 refine aI func106 J ntmps106 J fun w0 M H=>aW 2 4 J jo (aW 3 5 J eW (aj (bU J J fun b3=>ai J J (ac (br (X:=Unit) (fun _=>t.kind=2→cg t.name ns=true) (fun _=> [(0,.pointer (some ⟨c,0,none⟩)),(3,.pointer (some ⟨b3,0,none⟩))]) (fun _=> [(3,bj b3 61 (dt t))]) (fun _=> [(0,bj c 128 [sv vp,sv vn]),(1,sl 1 eS (sv vn) ns),(2,cx vp fs),(3,bS t.v t.kids),(4,sl 3 iW (sv vp) fs),(5,sl 4 dt (sv t.v) t.kids)]) ?_ (fun _ hm2=> ?_))))))
 ·refine aj (az iC J J (aP 3 t3 J J J J J (ar J J aY J (ac (ae J (fun h1=> ?_) (fun h1=> ?_))))))
  ·have q2:t.kind=2:=of_decide_eq_true h1;refine a_ (bH [12,13,14,15,16,17,18,5] _ J (bk (V:= [(0,12,_),(1,13,_),(2,14,_),(3,15,_),(4,16,_),(5,17,_)]) [0,1,2,3,4,5] 6 [6,5,4,3,2,1,0] [7] (fun _=> [(7,5,_)]) J J (aa (aD J (ag cZ J)) (aa (aD J (ah t9 J J (ay (k:=3) J J))) (aa (aD J (am J)) (aa (aD J (aF J)) (aa (aD J (ag g_ J)) (aa (aD J (ah gu J J (cI (k:=0) J J))) aw)))))) J J J J J J J J J J J (fun _ _=>J) J (bq (xs:= [.tmp 13,.tmp 17]) (jN t.name vn ns hns) yr [] [(false,1)] [] J J J J J J J J (fun _ _=>J) (fun _ _ _=>J)) (fun _ _=>bp [7] J J (aa (aD J (ct J)) aw) J J J (aj (ad J J (aO (ch J) J (ac (ae J (fun h2=> ?_) (fun h2=> ?_)))))))))
   ·have qm:cg t.name ns=false:=by simpa using h2
    refine aj (ai J J (ac (au ?_)));refine aH () O J (bE (aJ J)) (by rw [x_ (show nE fs ns t=21 by rw [JQ q2,qm];rfl) (by decide)]) [] [] J J J
   ·have qm:cg t.name ns=true:=by simpa using h2
    refine ax (aM () (fun _=>qm) J J J)
  ·have q2:¬t.kind=2:=of_decide_eq_false h1;refine ax (aM () (fun h=>absurd h q2) J J J)
 ·refine br (X:=Unit) (fun _=>nE fs ns t=0) (fun _=> [(0,.pointer (some ⟨c,0,none⟩)),(3,.pointer (some ⟨b3,0,none⟩))]) (fun _=> [(3,bj b3 61 (dt t))]) (fun _=> [(0,bj c 128 [sv vp,sv vn]),(1,sl 1 eS (sv vn) ns),(2,cx vp fs),(3,bS t.v t.kids),(4,sl 3 iW (sv vp) fs),(5,sl 4 dt (sv t.v) t.kids)]) ?_ (fun _ hn0=> ?_)
  ·refine aj (az iC J J (aP 3 t3 J J J J J (ar J J aY J (ac (ae J (fun h3=> ?_) (fun h3=> ?_))))))
   ·have q3:t.kind=3:=of_decide_eq_true h3;refine a_ (bH [24,25,26,27,28,29,30,6] _ J (bk (V:= [(0,24,_),(1,25,_),(2,26,_),(3,27,_),(4,28,_),(5,29,_)]) [0,1,2,3,4,5] 6 [6,5,4,3,2,1,0] [7] (fun _=> [(7,6,_)]) J J (aa (aD J (am J)) (aa (aD J (aF J)) (aa (aD J (ag z8 J)) (aa (aD J (aL i7 J J J (J_ (us:= [sv vp]) (k:=0) J J))) (aa (aD J (ag cZ J)) (aa (aD J (ah t9 J J (ay (k:=3) J J))) aw)))))) J J J J J J J J J J J (fun _ _=>J) J (bq (xs:= [.tmp 27,.tmp 29]) (iE t.name vp fs hfl) Ep [] [(false,4)] [] J J J J J J J J (fun _ _=>J) (fun _ _ _=>J)) (fun _ _=>bp [7] J J (aa (aD J (ct J)) aw) J J J (aS (ad J J (ar J J ci J (ac (ae J (fun h4=> ?_) (fun h4=> ?_)))))))))
    ·have hff:cm fs t.name=none:=dL.1.1 (of_decide_eq_true h4);refine aj (ai J J (ac (au (aH () O J (bE (aJ J)) (by rw [x_ (tG q3 hff) (by decide)]) [] [] J J J))))
    ·have hq1:¬qy fs t.name<0:=of_decide_eq_false h4;obtain⟨f,hff⟩:∃f,cm fs t.name=some f:=by
      cases hf:cm fs t.name with
      | none=>exact absurd (dL.1.2 hf) hq1
      | some f=>exact⟨f,rfl⟩
     obtain⟨m,hxm,hfx⟩:=dL.2 f hff;have hfm:=List.mem_of_getElem? hfx;have hml:m<fs.length:=(List.getElem?_eq_some_iff.1 hfx).1;rw [hxm];refine aW 2 6 J (ln hfm) (aW 6 7 J lp (ax (a_ (bH [33,34,35,36,37,38,39,40,41,42,43,44,45,46] _ J (bp (V:= [(0,33,_),(1,34,_),(2,35,_),(3,36,_),(4,37,_),(5,38,_),(6,39,_),(7,40,_),(8,41,_),(9,42,_),(10,43,_),(11,44,_),(12,45,_),(13,46,_)]) [0,1,2,3,4,5,6,7,8,9,10,11,12,13] J J (aa (aD J (am J)) (aa (aD J (aF J)) (aa (aD J (ag z8 J)) (aa (aD J (ag de J)) (aa (aD J (ah mh J J (cI (k:=0) J J))) (aa (aD J (am J)) (aa (aD J (aR (j:=m) underlying25 ge J J (aN (k:=4) J) J hml)) (aa (aD J (dw dA J)) (aa (aD J (ah gu J J (iT (aN (k:=4) J) (by intro _;rfl) hfx J))) (aa (aD J (aU underlying46 J (aN (k:=7) J))) (aa (aD J (ag dc J)) (aa (aD J (ah ij J J (ay (k:=3) J J))) (aa (aD J (aU underlying59 J (aN (k:=5) J))) (aa (aD J (aT J J df)) aw)))))))))))))) J J J (ae J (fun h5=> ?_) (fun h5=> ?_)))))))
     ·(try simp only [be]at h5)
      have hpl:¬f.ps.length=t.kids.length:=by omega
      refine aj (ai J J (ac (au ?_)));refine aH () O J (bE (aJ J)) (by rw [x_ (show nE fs ns t=23 by rw [mG q3 hff,if_neg hpl]) (by decide)]) [] [] J J J
     ·(try simp only [be]at h5)
      have hpl:f.ps.length=t.kids.length:=by omega
      refine ax (aM () (by rw [mG q3 hff,if_pos hpl]) J J J)
   ·have q3:¬t.kind=3:=of_decide_eq_false h3;refine ax (aM () (by by_cases q2:t.kind=2;rw [JQ q2,if_pos (hm2 q2)];exact Mw q2 q3) J J J)
  ·refine aS (ai J J (ac (aB (bv (X:=Nat) (fun i=>i≤t.kids.length∧iF fs ns (t.kids.take i)=0) (fun i=> [(0,.pointer (some ⟨c,0,none⟩)),(3,.pointer (some ⟨b3,0,none⟩)),(7,.int .i64 (i:Int))]) (fun i=> [(3,bj b3 61 (dt t))]) (fun i=> [(0,bj c 128 [sv vp,sv vn]),(1,sl 1 eS (sv vn) ns),(2,cx vp fs),(3,bS t.v t.kids),(4,sl 3 iW (sv vp) fs),(5,sl 4 dt (sv t.v) t.kids)]) (fun i=>t.kids.length-i) 0 ⟨Nat.zero_le _,J⟩ J J J (fun i hx0=> ?_)))));obtain⟨n1,n2⟩:=hx0;refine aS (ad J J (az dc J J (aP 3 ij J J J J J (aO (aU underlying59 J (aN (k:=5) J)) J (ar J J ci J (ac (ae J (fun h6=> ?_) (fun h6=> ?_))))))))
   ·(try simp only [be]at h6)
    have hi:i<t.kids.length:=by omega
    obtain⟨u,hu⟩:∃u,t.kids[i]?=some u:=⟨_,List.getElem?_eq_getElem hi⟩
    have hum:=List.mem_of_getElem? hu;refine ax (a_ (aB (aj (ad J J (az dc J J (aP 3 ij J J J J J (ad J J (aO (aR (j:=i) underlying59 co J J (aN (k:=5) J) (by first|rfl|omega) (by first|omega|(simp;done)|(simp;omega))) J (aO (aL co J J J (bD (aN (k:=5) J) (by intro _;rfl) hu (by rfl))) J (aW 3 9 J (cS hum) (ak (xs:= [.tmp 54,.tmp 59]) (ih u hum) EC [] [(false,0),(false,1),(false,2),(false,9)] [] (fun _ _=>ai J J (aG J (ad J J (ar J J df J (ac ?_))))))))))))))));refine ae J (fun h7=> ?_) (fun h7=> ?_)
    ·(try simp only [be]at h7)
     have hct:eX fs ns u≠0:=h7;refine aj (ad J J (ai J J (ac (au (aH () O J (bE (aJ J)) (by rw [Ab hn0 (ua hu n2 hct)]) [] [] J J J)))))
    ·(try simp only [be]at h7)
     have hcf:eX fs ns u=0:=h7;refine ax (ap (ad J J (ar J J (bi (by first|exact bc (by omega) (by omega)|rfl)) J (ai J J (ac ?_)))));refine aM (i+1) ⟨⟨by omega,by rw [kC hu,n2,hcf];rfl⟩,by omega⟩ J J J
   ·(try simp only [be]at h6)
    have hi:i=t.kids.length:=by omega
    subst hi;rw [List.take_length]at n2;refine bx (aj (ai J J (ac (au (aH () O J (bE (aJ J)) (by rw [Ab hn0 n2]) [] [] J J J)))))
theorem Cq(c:Nat)(vp vn:SV)(fs:List Tf)(ns:List ByteArray)(hfl:fs.length≤1000000)(hns:ns.length≤1000000):∀(n:Nat)(t:Tx),SizeOf.sizeOf t<n→GX t→QC c vp vn fs ns t
 | 0,_,h,_=>absurd h (Nat.not_lt_zero _)
 | n+1,t,h,ht=>FB c vp vn fs ns hfl hns t (kF ht) fun u hu=>Cq c vp vn fs ns hfl hns n u (by have:=nU hu;omega) ((iY ht).mem u hu)
theorem FC(c:Nat)(vp vn:SV)(fs:List Tf)(ns:List ByteArray)(hfl:fs.length≤1000000)(hns:ns.length≤1000000)(t:Tx)(ht:GX t):QC c vp vn fs ns t:=Cq c vp vn fs ns hfl hns _ t (Nat.lt_succ_self _) ht
end Go.Proofs.YtedmdgbmdplifaaGreat
