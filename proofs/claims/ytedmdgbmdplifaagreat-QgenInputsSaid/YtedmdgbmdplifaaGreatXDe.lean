/-
  A part of the proof. Conditions are with the theorems.
-/
import Derived.Test.YtedmdgbmdplifaaGreatXDa
import Derived.Test.YtedmdgbmdplifaaGreatXDb
import Derived.Test.YtedmdgbmdplifaaGreatXDc
import Derived.Test.YtedmdgbmdplifaaGreatXDd
set_option maxHeartbeats 32000000
set_option maxRecDepth 100000
set_option linter.unusedSimpArgs false
set_option linter.unusedVariables false
namespace Go.Proofs.YtedmdgbmdplifaaGreat
open Go.RowKit Tryz
def sR(pc:Int)(r:Int→Int)(st:Int):List Value:=I3 pc::((List.range 16).map (fun k=>Value.int .u32 (r ((k:Nat):Int)))++ [I3 0,I3 0,I3 0,I3 0,I3 0,I6 st,I6 0])
def qL(pc:Int)(r:Int→Int)(st:Int)(m:Nat):List Value:=sR pc r st++ [Pt m]
def rj:Int→Int:=fun _=>0
theorem DE(n:Nat)(hn:n≤4096):
  Spec prog 74 [I6 (n:Int),.bool false] [] [] (X:=Me) (fun _=>True) (fun e=>Pt e.m) (fun e=> [bh e.m 157 (mR e),own 5 1 co (sv e.vd) ((⟨List.replicate (256*n) 0,List.replicate (256*n) 0,List.replicate n 0⟩:Mm)).d,own 5 1 co (sv e.vi) ((⟨List.replicate (256*n) 0,List.replicate (256*n) 0,List.replicate n 0⟩:Mm)).i,own 3 1 eI (sv e.vr) ((⟨List.replicate (256*n) 0,List.replicate (256*n) 0,List.replicate n 0⟩:Mm)).r]) (fun _=> []):=by
 refine aI func74 J ntmps74 J fun w0 M H=>ap (ak J (aF J (ad J (aP (Fv (c:=(n:Int)) J J (by omega)) (aP (sG (c:=(n:Int)) J J (by omega)) (ak J (aa (bx (X:=Nat×SV×SV×SV) (fun _=>True) (fun x=> [(1,.bool false),(5,I6 (n:Int)),(6,Pt x.1)]) (fun x=> [(20,bh x.1 157 [sv x.2.1,.slice none 0 0,sv x.2.2.1,.slice none 0 0,sv x.2.2.2,.bool false]),(12,own 5 1 co (sv x.2.1) (List.replicate (256*n) 0)),(17,own 3 1 eI (sv x.2.2.2) (List.replicate n 0))]) (fun x=> []) ?_ (fun x _=> ?_)))))))))
 ·refine bJ [10,11,12,13,14,15,16,17,18,19,20,6] _ J (fe (V:= [(0,10,_),(1,11,_),(3,13,_),(4,14,_),(6,16,_),(8,18,_)]) [0,1,3,4,6,8] J J (aD J J (ac J (aR J J (fG (c:=((256*n:Nat):Int)) (by rw [bU (by omega)];omega))) (aD J J (ac J (aR J J (fG (c:=((256*n:Nat):Int)) (by rw [bU (by omega)];omega))) (aD J J (aD J J av)))))) J [2,5,7] J J (df (dQ 2 [2,1,0] [] (fun v12=> []) J J J J J J J J J (fun _ _=>J) J (eu co 0 underlying84 t5 J J J J (c:=256*n) J J (by omega) (by simp only [maxLen];omega)) (fun v12 _=>fe [3,4,6,8] J J (aD J J (ac J (aR J J (fG (c:=((256*n:Nat):Int)) (by rw [bU (by omega)];omega))) (aD J J (aD J J av)))) J [5,7] J J (df (dQ 5 [5,4,3,2,1,0] [] (fun v15=> []) J J J J J J J J J (fun _ _=>J) J (eu co 0 underlying84 t5 J J J J (c:=256*n) J J (by omega) (by simp only [maxLen];omega)) (fun v15 _=>aW [6,8] 7 [7,6,5,4,3,2,1,0] [9] (fun v17=> [(9,19,_)]) J J (aD J J (aD J J av)) J J J J J J J J J J J (fun _ _=>J) J (eu eI 0 underlying22 t3 J J J J (c:=n) J J (by omega) (by simp only [maxLen];omega)) (fun v17 _=>aW [9,8] 10 [10,9,8,7,6,5,4,3,2,1,0] [11] (fun b20=> [(11,6,_)]) J J (ac J (aU (parts:= [(0,.tmp 12),(2,.tmp 15),(4,.tmp 17),(5,.tmp 18)]) C_ uJ J J) (aD J J av)) J J J J J J J J J J J (fun _ _=>J) J (pZ J (by rfl)) (fun b20 _=>bl [11] J J (ac J (cA J) av) J J J ?_)))) (df (dQ 7 [7,6,2,1,0] [] (fun v17=> []) J J J J J J J J J (fun _ _=>J) J (eu eI 0 underlying22 t3 J J J J (c:=n) J J (by omega) (by simp only [maxLen];omega)) (fun v17 _=>aW [3,4,8] 5 [7,6,5,4,3,2,1,0] [9] (fun v15=> [(9,19,_)]) J J (aD J J (ac J (aR J J (fG (c:=((256*n:Nat):Int)) (by rw [bU (by omega)];omega))) (aD J J av))) J J J J J J J J J J J (fun _ _=>J) J (eu co 0 underlying84 t5 J J J J (c:=256*n) J J (by omega) (by simp only [maxLen];omega)) (fun v15 _=>aW [9,8] 10 [10,9,8,7,6,5,4,3,2,1,0] [11] (fun b20=> [(11,6,_)]) J J (ac J (aU (parts:= [(0,.tmp 12),(2,.tmp 15),(4,.tmp 17),(5,.tmp 18)]) C_ uJ J J) (aD J J av)) J J J J J J J J J J J (fun _ _=>J) J (pZ J (by rfl)) (fun b20 _=>bl [11] J J (ac J (cA J) av) J J J ?_)))) ix)))) (df (dQ 5 [5,4,3] [] (fun v15=> []) J J J J J J J J J (fun _ _=>J) J (eu co 0 underlying84 t5 J J J J (c:=256*n) J J (by omega) (by simp only [maxLen];omega)) (fun v15 _=>fe [0,1,6,8] J J (aD J J (ac J (aR J J (fG (c:=((256*n:Nat):Int)) (by rw [bU (by omega)];omega))) (aD J J (aD J J av)))) J [2,7] J J (df (dQ 2 [5,4,3,2,1,0] [] (fun v12=> []) J J J J J J J J J (fun _ _=>J) J (eu co 0 underlying84 t5 J J J J (c:=256*n) J J (by omega) (by simp only [maxLen];omega)) (fun v12 _=>aW [6,8] 7 [7,6,5,4,3,2,1,0] [9] (fun v17=> [(9,19,_)]) J J (aD J J (aD J J av)) J J J J J J J J J J J (fun _ _=>J) J (eu eI 0 underlying22 t3 J J J J (c:=n) J J (by omega) (by simp only [maxLen];omega)) (fun v17 _=>aW [9,8] 10 [10,9,8,7,6,5,4,3,2,1,0] [11] (fun b20=> [(11,6,_)]) J J (ac J (aU (parts:= [(0,.tmp 12),(2,.tmp 15),(4,.tmp 17),(5,.tmp 18)]) C_ uJ J J) (aD J J av)) J J J J J J J J J J J (fun _ _=>J) J (pZ J (by rfl)) (fun b20 _=>bl [11] J J (ac J (cA J) av) J J J ?_)))) (df (dQ 7 [7,6,5,4,3] [] (fun v17=> []) J J J J J J J J J (fun _ _=>J) J (eu eI 0 underlying22 t3 J J J J (c:=n) J J (by omega) (by simp only [maxLen];omega)) (fun v17 _=>aW [0,1,8] 2 [7,6,5,4,3,2,1,0] [9] (fun v12=> [(9,19,_)]) J J (aD J J (ac J (aR J J (fG (c:=((256*n:Nat):Int)) (by rw [bU (by omega)];omega))) (aD J J av))) J J J J J J J J J J J (fun _ _=>J) J (eu co 0 underlying84 t5 J J J J (c:=256*n) J J (by omega) (by simp only [maxLen];omega)) (fun v12 _=>aW [9,8] 10 [10,9,8,7,6,5,4,3,2,1,0] [11] (fun b20=> [(11,6,_)]) J J (ac J (aU (parts:= [(0,.tmp 12),(2,.tmp 15),(4,.tmp 17),(5,.tmp 18)]) C_ uJ J J) (aD J J av)) J J J J J J J J J J J (fun _ _=>J) J (pZ J (by rfl)) (fun b20 _=>bl [11] J J (ac J (cA J) av) J J J ?_)))) ix)))) (df (dQ 7 [7,6] [] (fun v17=> []) J J J J J J J J J (fun _ _=>J) J (eu eI 0 underlying22 t3 J J J J (c:=n) J J (by omega) (by simp only [maxLen];omega)) (fun v17 _=>fe [0,1,3,4,8] J J (aD J J (ac J (aR J J (fG (c:=((256*n:Nat):Int)) (by rw [bU (by omega)];omega))) (aD J J (ac J (aR J J (fG (c:=((256*n:Nat):Int)) (by rw [bU (by omega)];omega))) (aD J J av))))) J [2,5] J J (df (dQ 2 [7,6,2,1,0] [] (fun v12=> []) J J J J J J J J J (fun _ _=>J) J (eu co 0 underlying84 t5 J J J J (c:=256*n) J J (by omega) (by simp only [maxLen];omega)) (fun v12 _=>aW [3,4,8] 5 [7,6,5,4,3,2,1,0] [9] (fun v15=> [(9,19,_)]) J J (aD J J (ac J (aR J J (fG (c:=((256*n:Nat):Int)) (by rw [bU (by omega)];omega))) (aD J J av))) J J J J J J J J J J J (fun _ _=>J) J (eu co 0 underlying84 t5 J J J J (c:=256*n) J J (by omega) (by simp only [maxLen];omega)) (fun v15 _=>aW [9,8] 10 [10,9,8,7,6,5,4,3,2,1,0] [11] (fun b20=> [(11,6,_)]) J J (ac J (aU (parts:= [(0,.tmp 12),(2,.tmp 15),(4,.tmp 17),(5,.tmp 18)]) C_ uJ J J) (aD J J av)) J J J J J J J J J J J (fun _ _=>J) J (pZ J (by rfl)) (fun b20 _=>bl [11] J J (ac J (cA J) av) J J J ?_)))) (df (dQ 5 [7,6,5,4,3] [] (fun v15=> []) J J J J J J J J J (fun _ _=>J) J (eu co 0 underlying84 t5 J J J J (c:=256*n) J J (by omega) (by simp only [maxLen];omega)) (fun v15 _=>aW [0,1,8] 2 [7,6,5,4,3,2,1,0] [9] (fun v12=> [(9,19,_)]) J J (aD J J (ac J (aR J J (fG (c:=((256*n:Nat):Int)) (by rw [bU (by omega)];omega))) (aD J J av))) J J J J J J J J J J J (fun _ _=>J) J (eu co 0 underlying84 t5 J J J J (c:=256*n) J J (by omega) (by simp only [maxLen];omega)) (fun v12 _=>aW [9,8] 10 [10,9,8,7,6,5,4,3,2,1,0] [11] (fun b20=> [(11,6,_)]) J J (ac J (aU (parts:= [(0,.tmp 12),(2,.tmp 15),(4,.tmp 17),(5,.tmp 18)]) C_ uJ J J) (aD J J av)) J J J J J J J J J J J (fun _ _=>J) J (pZ J (by rfl)) (fun b20 _=>bl [11] J J (ac J (cA J) av) J J J ?_)))) ix)))) ix))))
  ·refine aJ (b20,v12,v15,v17) O J J J
  ·refine aJ (b20,v12,v15,v17) O J J J
  ·refine aJ (b20,v12,v15,v17) O J J J
  ·refine aJ (b20,v12,v15,v17) O J J J
  ·refine aJ (b20,v12,v15,v17) O J J J
  ·refine aJ (b20,v12,v15,v17) O J J J
 ·refine aT (ad J (aP (cz J) (aa (ai J (fun h1=> ?_) (fun h1=> ?_)))))
  ·refine ap (ad J (ad J (aw J J (fG (c:=((256*n:Nat):Int)) (by rw [bU (by omega)];omega)) (wh co 0 underlying84 t5 J J J J (c:=256*n) J J (by omega) (by simp only [maxLen];omega) J fun v26=>bI J (aC rM J (aA (k:=20) zv J J J J J J J J (aa (am (ad J (ad J (aw J J (fG (c:=((256*n:Nat):Int)) (by rw [bU (by omega)];omega)) (wh co 0 underlying84 t5 J J J J (c:=256*n) J J (by omega) (by simp only [maxLen];omega) J fun v32=>bI J (aC JY J (aA (k:=20) zv J J J J J J J J (aa (a_ ?_))))))))))))))));refine am (ad J (ak J (aa (ax (aH ⟨x.1,x.2.1,v26,x.2.2.1,v32,x.2.2.2⟩ O J (bQ (aL J)) J [20,12,26,17] [] J J J)))))
  ·exact absurd h1 (by simp)
theorem Dq(n:Nat)(hn:n≤4096):
  Spec prog 34 [I6 (n:Int)] [] [] (X:=Nat×Me) (fun _=>True) (fun x=>Pt x.1) (fun x=> [bh x.1 93 (qL 0 rj 0 x.2.m),bh x.2.m 157 (mR x.2),own 5 1 co (sv x.2.vd) ((⟨List.replicate (256*n) 0,List.replicate (256*n) 0,List.replicate n 0⟩:Mm)).d,own 5 1 co (sv x.2.vi) ((⟨List.replicate (256*n) 0,List.replicate (256*n) 0,List.replicate n 0⟩:Mm)).i,own 3 1 eI (sv x.2.vr) ((⟨List.replicate (256*n) 0,List.replicate (256*n) 0,List.replicate n 0⟩:Mm)).r]) (fun _=> []):=by
 refine aI func34 J ntmps34 J fun w0 M H=>ap (ak J (aF J (ad J (aj (xs:= [.tmp 3,.const (.bool Bool.false)]) (DE n hn) Tj [] [] [10,11,12,13] (fun e _=>aP (aU (cs:=(qL 0 rj 0 e.m).toArray) (parts:= [(1,.tmp 4)]) Uq Sm J (by kernel_rfl)) (ck J J fun b6=>ak J (aa (ax (aH (b6,e) O J (bQ (aL J)) J [6,10,11,12,13] [] J J J)))))))))
theorem Dm(c m:Nat):
  bi prog 77 [Pt c,.agg (sR 256 rj 0).toArray] [bh c 93 (qL 0 rj 0 m)] [] (.tuple #[]) [bh c 93 (qL 256 rj 0 m)]:=by
 refine aI func77 J ntmps77 J fun w0 M H=>ap (ck J J fun b3=>aF J (aC ig J (aP (dz (j:=0) underlying75 dm J J (by rfl) (by decide)) (aA (k:=3) dm J J J J J J J J (aF J (aC Nw J (aA (k:=3) dm J J J J J J J J (aF J (aC jj J (aQ 3 t3 J J J J ?_))))))))))
 refine aP (sG J J J) (aC jj J (aA (k:=3) t3 J J J J J J J J (aF J (aC wO J (aQ 3 t3 J J J J (aP (sG J J J) (aC wO J (aA (k:=3) t3 J J J J J J J J (aa (am (ad J (aP (aM y_ J J J (aX (k:=3) J)) (bI J (aC eA J (aA (k:=0) y_ J J J J J J J J (aa (cm () O J gn J [0] [] J J J)))))))))))))))))
@[irreducible] def zer:List Int:=List.replicate 256 0
theorem rZ:zer=List.replicate 256 0:=by unfold zer;rfl
theorem A8:zer.length=256:=by rw [rZ];exact List.length_replicate ..
theorem Ej:zer.take 256=zer:=List.take_of_length_le (by rw [A8];omega)
def xi(p:Nat):Int:=if p≥32 then 3 else if p>0 then 5 else 0
def iD(s:Mm):Nat→Mm
 | 0=>s
 | p+1=>⟨pk (iD s p).d (256*p) zer,pk (iD s p).i (256*p) zer,(iD s p).r.set p (xi p)⟩
def uk(s:Mm):Nat→Mm
 | 0=>s
 | p+1=>{uk s p with i:=pk (uk s p).i ((p+1)*256) (((uk s p).d.drop ((p+1)*256)).take 256)}
def Oj(s:Mm)(code:List Int):Mm:=uk {iD s 64 with d:=pk (iD s 64).d 256 code} 31
theorem zO(p:Nat):0≤xi p∧xi p<8∧bits .and .i64 (xi p) 7=xi p:=by
 unfold xi;split
 ·decide
 ·split<;>decide
theorem Mj{l:List Int}{k:Nat}{x:Int}(h:∀y∈l,0≤y∧y<8)(hx:0≤x∧x<8):∀y∈l.set k x,0≤y∧y<8:=fun y hy=>by
 rcases List.mem_or_eq_of_mem_set hy with hy|hy
 ·exact h y hy
 ·exact hy▸hx
theorem mr{s:Mm}{n:Nat}(h:MO s n):∀p,MO (iD s p) n
 | 0=>h
 | p+1=>by
  have ih:=mr h p;exact⟨(fL _ _ _).trans ih.d,(fL _ _ _).trans ih.i,(List.length_set ..).trans ih.r,ih.n,Mj ih.rb ⟨(zO p).1,(zO p).2.1⟩⟩
theorem BU(s:Mm):∀p,(uk s p).d=s.d
 | 0=>rfl
 | p+1=>BU s p
theorem Aj{s:Mm}{n:Nat}(h:MO s n):∀p,MO (uk s p) n
 | 0=>h
 | p+1=>by
  have ih:=Aj h p;exact ih.ii (fL _ _ _)
theorem Rs:bv (lT zer)=zer:=lA _ fun x hx=>by rw [rZ]at hx;rw [List.eq_of_mem_replicate hx];decide
theorem sH:(lT zer).size=256:=by rw [iw,A8]
theorem zM(c:Nat)(e:Me)(s:Mm)(n:Nat)(hs:MO s n)(hn:64≤n)(code:Ba)(hc:code.size≤7936):
  bi prog 39 [Pt c,Sg code] [bh e.m 157 (mR e),own 5 1 co (sv e.vd) (s).d,own 5 1 co (sv e.vi) (s).i,own 3 1 eI (sv e.vr) (s).r,bh c 93 (qL 0 rj 0 e.m)] [] (.tuple #[]) [bh e.m 157 (mR e),own 5 1 co (sv e.vd) (Oj s (bv code)).d,own 5 1 co (sv e.vi) (Oj s (bv code)).i,own 3 1 eI (sv e.vr) (Oj s (bv code)).r,bh c 93 (qL 256 rj 0 e.m)]:=by
 refine aI func39 J ntmps39 J fun w0 M H=> ?_
 have hdl:=hs.d;have hnn:=hs.n;have hcl:=iN code;refine ap (wh co 0 underlying84 t5 J J J J (c:=256) J J (by omega) (by simp only [maxLen];omega) J fun v8=>aP (FA underlying84 underlying5 underlying9 J (be (k:=8) J) (by decide)) ?_);rw [←rZ];refine ak J (aa (aT (ak J (aa (aB (bC (X:=Nat) (fun p=>p≤64) (fun p=> [(0,Pt c),(1,Sg code),(4,Sg (lT zer)),(5,I6 (p:Int))]) (fun p=> [(0,bh e.m 157 (mR e)),(1,own 5 1 co (sv e.vd) (iD s p).d),(2,own 5 1 co (sv e.vi) (iD s p).i),(3,own 3 1 eI (sv e.vr) (iD s p).r),(4,bh c 93 (qL 0 rj 0 e.m))]) (fun p=> []) (fun p=>64-p) 0 (br _) J J J (fun p n1=>aT (ad J (aw J J cr (aa (ai J (fun h1=> ?_) (fun h1=> ?_))))))))))))
 ·(try simp only [bj]at h1);have hi:p<64:=by omega
  refine az (a_ (aB (ap (ad J (bI J (aC gq J (aQ 4 xz J J J J (ad J (aw J J (fG (c:=((256*p:Nat):Int)) (by rw [bU (by omega)];omega)) (aP (cC underlying3 underlying41 J (c:=((256*p:Nat):Int)) (cd (by omega))) (ad J (aj (xs:= [.tmp 17,.tmp 20,.tmp 21]) (sr e (iD s p) n (mr hs p) (256*p) (lT zer) (by rw [sH];omega) (by rw [sH];omega)) Qf [0,1,2,3] [] [0,1,2,3] (fun _ _=> ?_)))))))))))));rw [Rs];refine aF J (ad J (bI J (aC gq J (aQ 4 xz J J J J (ad J (ad J (db (xs:= [.tmp 26,.tmp 27,.tmp 28]) (t_ e {iD s p with d:=pk (iD s p).d (256*p) zer} n ((mr hs p).dd (fL _ _ _)) p (by omega) (lT zer) (by rw [sH];omega)) TA [0,1,2,3] [] [0,1,2,3] J J J (fun _ _=> ?_))))))));rw [Rs,Ej];refine aF J (ak J (aa (bx (X:=Unit) (fun _=>True) (fun _=> [(0,Pt c),(1,Sg code),(4,Sg (lT zer)),(5,I6 (p:Int)),(6,I6 (if p>0 then 5 else 0))]) (fun _=> [(0,bh e.m 157 (mR e)),(1,own 5 1 co (sv e.vd) ({iD s p with d:=pk (iD s p).d (256*p) zer,i:=pk (iD s p).i (256*p) zer}).d),(2,own 5 1 co (sv e.vi) ({iD s p with d:=pk (iD s p).d (256*p) zer,i:=pk (iD s p).i (256*p) zer}).i),(3,own 3 1 eI (sv e.vr) ({iD s p with d:=pk (iD s p).d (256*p) zer,i:=pk (iD s p).i (256*p) zer}).r),(4,bh c 93 (qL 0 rj 0 e.m))]) (fun _=> []) ?_ (fun _ _=> ?_))))
  ·refine ap (ad J (aw J J ec (aa (ai J (fun h2=> ?_) (fun h2=> ?_)))))
   ·(try simp only [bj]at h2);refine am (ak J (aa ?_));refine aJ () O (by rw [ar (show p>0 by omega)];rfl) J J
   ·(try simp only [bj]at h2);refine az ?_;refine aJ () O (by rw [ae (show ¬p>0 by omega)];rfl) J J
  ·refine bx (X:=Unit) (fun _=>True) (fun _=> [(0,Pt c),(1,Sg code),(4,Sg (lT zer)),(5,I6 (p:Int)),(6,I6 (xi p))]) (fun _=> [(0,bh e.m 157 (mR e)),(1,own 5 1 co (sv e.vd) ({iD s p with d:=pk (iD s p).d (256*p) zer,i:=pk (iD s p).i (256*p) zer}).d),(2,own 5 1 co (sv e.vi) ({iD s p with d:=pk (iD s p).d (256*p) zer,i:=pk (iD s p).i (256*p) zer}).i),(3,own 3 1 eI (sv e.vr) ({iD s p with d:=pk (iD s p).d (256*p) zer,i:=pk (iD s p).i (256*p) zer}).r),(4,bh c 93 (qL 0 rj 0 e.m))]) (fun _=> []) ?_ (fun _ _=> ?_)
   ·refine ap (ad J (aw J J gI (aa (ai J (fun h3=> ?_) (fun h3=> ?_)))))
    ·(try simp only [bj]at h3);refine am (ak J (aa ?_));refine aJ () O (by unfold xi;rw [ar (show p≥32 by omega)];rfl) J J
    ·(try simp only [bj]at h3);refine az ?_;refine aJ () O (by unfold xi;rw [ae (show ¬p≥32 by omega)];rfl) J J
   ·refine am (ad J (bI J (aC gq J (aQ 4 xz J J J J (ad J (ad J (db (xs:= [.tmp 37,.tmp 38,.tmp 39]) (ua e {iD s p with d:=pk (iD s p).d (256*p) zer,i:=pk (iD s p).i (256*p) zer} n (((mr hs p).dd (fL _ _ _)).ii (fL _ _ _)) p (by omega) (xi p) (xi p) (zO p).2.2) Tz [0,1,2,3] [] [0,1,2,3] J J J (fun _ _=>aa (am (ad J (aw J J aO (ak J (aa ?_)))))))))))));refine aJ (p+1) ⟨by omega,by omega⟩ J J J
 ·(try simp only [bj]at h1);have hi:p=64:=by omega
  subst hi;refine bF (ap (ad J (bI J (aC gq J (aQ 4 xz J J J J (ad J (aj (xs:= [.tmp 44,.const (I3 256),.tmp 45]) (sr e (iD s 64) n (mr hs 64) 256 code (by omega) (by omega)) Qf [0,1,2,3] [] [0,1,2,3] (fun _ _=>aa (aT (ak J (aa (aB (bC (X:=Nat) (fun p=>p≤31) (fun p=> [(0,Pt c),(7,I6 ((p+1:Nat):Int))]) (fun p=> [(0,bh e.m 157 (mR e)),(1,own 5 1 co (sv e.vd) (uk {iD s 64 with d:=pk (iD s 64).d 256 (bv code)} p).d),(2,own 5 1 co (sv e.vi) (uk {iD s 64 with d:=pk (iD s 64).d 256 (bv code)} p).i),(3,own 3 1 eI (sv e.vr) (uk {iD s 64 with d:=pk (iD s 64).d 256 (bv code)} p).r),(4,bh c 93 (qL 0 rj 0 e.m))]) (fun p=> []) (fun p=>31-p) 0 (br _) J J J (fun p n2=>aT ?_))))))))))))));refine ad J (aw J J cr (aa (ai J (fun h4=> ?_) (fun h4=> ?_))))
  ·(try simp only [bj]at h4);have hi:p<31:=by omega
   refine az (a_ (aB (am (ad J (bI J (aC gq J (aQ 4 xz J J J J (ad J (aw J J (fG (c:=(((p+1)*256:Nat):Int)) (by rw [bU (by omega)];omega)) (aP (cC underlying3 underlying41 J (c:=(((p+1)*256:Nat):Int)) (cd (by omega))) (db (xs:= [.tmp 54,.tmp 57]) (zK e (uk {iD s 64 with d:=pk (iD s 64).d 256 (bv code)} p) n (Aj ((mr hs 64).dd (fL _ _ _)) p) (((p+1)*256:Nat):Int) (by rw [BU];have h1:=fL (bv code) (iD s 64).d 256;have h2:=(mr hs 64).d;dsimp only;omega)) Ti [0,1,2,3] [] [0,1,2,3] J J J (fun _ _=> ?_))))))))))));rw [show((((p+1)*256:Nat):Int)).toNat/256*256=(p+1)*256 by omega];refine aa (am (ad J (aw J J aO (ak J (aa ?_)))));refine aJ (p+1) ⟨by omega,by omega⟩ J J J
  ·(try simp only [bj]at h4);have hi:p=31:=by omega
   subst hi;refine bF (am (ad J (aP (aU (cs:=(sR 256 rj 0).toArray) (parts:= [(0,.const (I3 256))]) y_ Sn J (by kernel_rfl)) (aj (xs:= [.tmp 59,.tmp 60]) (Dm c e.m) Th [4] [] [4] (fun _ _=>aa (cm () O J gn J [0,1,2,3,4] [] J J J))))))
structure Qs where
 pc:Nat
 r:Int→Int
 m:Int→Int
 inp:List Int
 out:List Int
def rp(r:Int→Int)(d v:Int):Int→Int:=fun k=>if k=d∧d≠0 then v else r k
def mw(m:Int→Int)(a v:Int):Int→Int:=fun k=>if k=a then v else m k
def uK(x:Int):Nat:=if 256≤x∧x%4=0 then((x-256)/4).toNat else 5000
def jo(p:Nat):Int:=256+4*(p:Int)
def BM(a:Int):Prop:=8192≤a∧a<16384∧a%4=0
instance(a:Int):Decidable (BM a):=by unfold BM;exact inferInstance
def y6(op a b:Int):Option Int:=
 if op=1∨op=16 then some (wU (a+b))else if op=2 then some (wU (a-b))else if op=3∨op=17 then some (bits .and .u32 a b)else
 if op=4∨op=18 then some (bits .or .u32 a b)else if op=5∨op=19 then some (bits .xor .u32 a b)else
 if op=6∨op=20 then some (wU (a*2^(b%32).toNat))else if op=7 then some (a/2^(b%32).toNat)else
 if op=9 then some (wU (a*b))else if op=10 then(if b=0 then none else some (a/b))else if op=11 then some (tr (decide (a<b)))else none
def xA(i:Qi)(c:Qs):Option Qs:=
 match y6 i.op (c.r i.a) (if i.op<16 then c.r i.b else i.imm)with
 | some v=>some {c with pc:=c.pc+1,r:=rp c.r i.d v}
 | none=>
  if i.op=23 then(if BM (wU (c.r i.a+i.imm))then some {c with pc:=c.pc+1,r:=rp c.r i.d (c.m (wU (c.r i.a+i.imm)))}else none)else
  if i.op=25 then(if BM (wU (c.r i.a+i.imm))then some {c with pc:=c.pc+1,m:=mw c.m (wU (c.r i.a+i.imm)) (c.r i.d)}else none)else
  if i.op=27 then some {c with pc:=uK (wU (c.r i.a+i.imm)),r:=rp c.r i.d (jo (c.pc+1))}else
  if i.op=32 then some {c with pc:=if c.r i.d=c.r i.a then uK (wU (jo c.pc+4*i.imm))else c.pc+1}else
  if i.op=35 then some {c with pc:=if c.r i.d≥c.r i.a then uK (wU (jo c.pc+4*i.imm))else c.pc+1}else
  if i.op=40 then some {c with pc:=uK (wU (jo c.pc+4*i.imm)),r:=rp c.r i.d (jo (c.pc+1))}else
  if i.op=41 then some {c with pc:=c.pc+1,r:=rp c.r i.d (wU (i.imm*1024))}else
  if i.op=48∧i.imm=1 then some {c with pc:=c.pc+1,out:=c.out++ [c.r 1]}else
  if i.op=48∧i.imm=2 then some {c with pc:=c.pc+1,r:=rp c.r 1 (c.inp.headD 0),inp:=c.inp.tail}else none
def rn(code:List Qi):Nat→Qs→Qs→Prop
 | 0,c,c'=>c=c'
 | n+1,c,c'=>∃i c1,code[c.pc]?=some i∧xA i c=some c1∧rn code n c1 c'
theorem rn.trans{code:List Qi}:∀{n m:Nat}{a b c:Qs},rn code n a b→rn code m b c→rn code (n+m) a c
 | 0,m,a,b,c,h,h2=>by
  have:a=b:=h;subst this;rw [Nat.zero_add];exact h2
 | n+1,m,a,b,c,h,h2=>by
  obtain⟨i,c1,g1,g2,g3⟩:=h;rw [Nat.succ_add];exact⟨i,c1,g1,g2,g3.trans h2⟩
def cAt(code:List Qi)(p:Nat)(l:List Qi):Prop:=∀j i,l[j]?=some i→code[p+j]?=some i
theorem cAt.app{code:List Qi}{p:Nat}{a b:List Qi}(h:cAt code p (a++b)):cAt code p a∧cAt code (p+a.length) b:=by
 refine⟨fun j i hj=>h j i ?_,fun j i hj=> ?_⟩
 ·rw [List.getElem?_append_left (by obtain⟨h,-⟩:=cJ.1 hj;exact h)];exact hj
 ·have:=h (a.length+j) i (by rw [List.getElem?_append_right (by omega),show a.length+j-a.length=j by omega];exact hj);rw [Nat.add_assoc];exact this
theorem cAt.head{code:List Qi}{p:Nat}{i:Qi}{l:List Qi}(h:cAt code p (i::l)):code[p]?=some i∧cAt code (p+1) l:=
 ⟨h 0 i rfl,fun j x hj=>by
  have:=h (j+1) x hj;rw [show p+1+j=p+(j+1) by omega];exact this⟩
theorem cAt.of{a b l:List Qi}:cAt (a++l++b) a.length l:=fun j i hj=>by
 rw [List.append_assoc,List.getElem?_append_right (by omega),show a.length+j-a.length=j by omega,List.getElem?_append_left (by obtain⟨h,-⟩:=cJ.1 hj;exact h)];exact hj
def Go(code:List Qi)(n:Int)(c:Qs)(P:Qs→Prop):Prop:=∃(k:Nat)(c':Qs),(k:Int)≤n∧rn code k c c'∧P c'
theorem Go.done{code:List Qi}{n:Int}{c:Qs}{P:Qs→Prop}(hn:0≤n)(h:P c):Go code n c P:=⟨0,c,hn,rfl,h⟩
theorem Go.seq{code:List Qi}{n m k:Int}{c:Qs}{P Q:Qs→Prop}(h:Go code n c P)(h2:∀c',P c'→Go code m c' Q)(hk:n+m≤k):Go code k c Q:=by
 obtain⟨a,c1,h3,h4,h5⟩:=h;obtain⟨b,c2,h6,h7,h8⟩:=h2 c1 h5;exact⟨a+b,c2,by omega,h4.trans h7,h8⟩
theorem Go.weak{code:List Qi}{n m:Int}{c:Qs}{P Q:Qs→Prop}(h:Go code n c P)(h2:∀c',P c'→Q c')(hk:n≤m):Go code m c Q:=by
 obtain⟨a,c1,h3,h4,h5⟩:=h;exact⟨a,c1,by omega,h4,h2 c1 h5⟩
theorem Go.step{code:List Qi}{n:Int}{c c1:Qs}{i:Qi}{P:Qs→Prop}(h:code[c.pc]?=some i)(h2:xA i c=some c1)(h3:Go code (n-1) c1 P):Go code n c P:=by
 obtain⟨k,c2,h4,h5,h6⟩:=h3;exact⟨k+1,c2,by omega,⟨i,c1,h,h2,h5⟩,h6⟩
/-! The instructions that the compiler uses. -/
section
variable{code:List Qi}{n:Int}{c:Qs}{P:Qs→Prop}{d a b x:Int}
theorem gQ{n:Int}(h:0≤n∧n<4294967296):wU n=n:=kH h.1 h.2
theorem Gl{i:Qi}{v:Int}(h:code[c.pc]?=some i)(h2:y6 i.op (c.r i.a) (if i.op<16 then c.r i.b else i.imm)=some v)(h3:Go code (n-1) {c with pc:=c.pc+1,r:=rp c.r i.d v} P):Go code n c P:=
 Go.step h (by unfold xA;rw [h2]) h3
theorem Aw(h:code[c.pc]?=some (qi 23 d a x))(h2:BM (wU (c.r a+x)))(h3:Go code (n-1) {c with pc:=c.pc+1,r:=rp c.r d (c.m (wU (c.r a+x)))} P):Go code n c P:=
 Go.step (i:=qi 23 d a x) (c1:={c with pc:=c.pc+1,r:=rp c.r d (c.m (wU (c.r a+x)))}) h (by
  have e:xA (qi 23 d a x) c=(if BM (wU (c.r a+x))then some {c with pc:=c.pc+1,r:=rp c.r d (c.m (wU (c.r a+x)))}else none):=J;rw [e,ar h2]) h3
theorem Av(h:code[c.pc]?=some (qi 25 d a x))(h2:BM (wU (c.r a+x)))(h3:Go code (n-1) {c with pc:=c.pc+1,m:=mw c.m (wU (c.r a+x)) (c.r d)} P):Go code n c P:=
 Go.step (i:=qi 25 d a x) (c1:={c with pc:=c.pc+1,m:=mw c.m (wU (c.r a+x)) (c.r d)}) h (by
  have e:xA (qi 25 d a x) c=(if BM (wU (c.r a+x))then some {c with pc:=c.pc+1,m:=mw c.m (wU (c.r a+x)) (c.r d)}else none):=J;rw [e,ar h2]) h3
theorem Jw(h:code[c.pc]?=some (qi 27 d a x))(h3:Go code (n-1) {c with pc:=uK (wU (c.r a+x)),r:=rp c.r d (jo (c.pc+1))} P):Go code n c P:=
 Go.step h rfl h3
theorem wG(h:code[c.pc]?=some (qi 32 d a x))(h3:Go code (n-1) {c with pc:=if c.r d=c.r a then uK (wU (jo c.pc+4*x))else c.pc+1} P):Go code n c P:=
 Go.step h rfl h3
theorem Jy(h:code[c.pc]?=some (qi 35 d a x))(h3:Go code (n-1) {c with pc:=if c.r d≥c.r a then uK (wU (jo c.pc+4*x))else c.pc+1} P):Go code n c P:=
 Go.step h rfl h3
theorem sT(h:code[c.pc]?=some (qi 40 d a x))(h3:Go code (n-1) {c with pc:=uK (wU (jo c.pc+4*x)),r:=rp c.r d (jo (c.pc+1))} P):Go code n c P:=
 Go.step h rfl h3
theorem Nh(h:code[c.pc]?=some (qi 41 d a x))(h3:Go code (n-1) {c with pc:=c.pc+1,r:=rp c.r d (wU (x*1024))} P):Go code n c P:=
 Go.step h rfl h3
theorem Ng(h:code[c.pc]?=some ⟨48,0,0,0,1⟩)(h3:Go code (n-1) {c with pc:=c.pc+1,out:=c.out++ [c.r 1]} P):Go code n c P:=
 Go.step h rfl h3
theorem PM(h:code[c.pc]?=some ⟨48,0,0,0,2⟩)(h3:Go code (n-1) {c with pc:=c.pc+1,r:=rp c.r 1 (c.inp.headD 0),inp:=c.inp.tail} P):Go code n c P:=
 Go.step h rfl h3
end
theorem nt{p q:Nat}{x:Int}(hx:x=wU ((q:Int)-(p:Int)))(hq:q<10000)(hp:p<10000):uK (wU (jo p+4*x))=q:=by
 have e:wU (jo p+4*x)=256+4*(q:Int):=by
  rw [hx];unfold jo;have h1:∀n:Int,wU n=n%4294967296:=fun n=>J
  rw [h1,h1];omega
 unfold uK;rw [e,ar (by omega)];omega
theorem IW{p:Nat}(hp:p<10000):uK (wU (jo p+0))=p:=by
 rw [Int.add_zero];unfold jo;rw [gQ (by omega)];unfold uK;rw [ar (by omega)];omega
def j_(op:Int):Int:=
 if op=1∨op=16 then 3 else if op=2 then 4 else if op=3∨op=17 then 5 else if op=4∨op=18 then 6 else if op=5∨op=19 then 7 else
 if op=6∨op=20 then 8 else if op=7∨op=21 then 9 else if op=8∨op=22 then 10 else if op=9 then 11 else if op=10 then 12 else if op=11 then 14 else if op=12 then 15 else 0
def TG(k a b:Int):Option Int:=
 if k=3 then some (wU (a+b))else if k=4 then some (wU (a-b))else if k=5 then some (bits .and .u32 a b)else if k=6 then some (bits .or .u32 a b)else if k=7 then some (bits .xor .u32 a b)else
 if k=8 then some (wU (a*2^(b%32).toNat))else if k=9 then some (a/2^(b%32).toNat)else if k=11 then some (wU (a*b))else if k=12 then(if b=0 then none else some (a/b))else if k=14 then some (tr (decide (a<b)))else none
theorem N5{op a b v:Int}(h:y6 op a b=some v):TG (j_ op) a b=some v:=by
 unfold y6 at h;by_cases h1:op=1∨op=16
 ·rw [ar h1]at h;unfold j_;rw [ar h1];exact h
 rw [ae h1]at h;unfold j_;rw [ae h1];by_cases h2:op=2
 ·rw [ar h2]at h;rw [ar h2];exact h
 rw [ae h2]at h;rw [ae h2];by_cases h3:op=3∨op=17
 ·rw [ar h3]at h;rw [ar h3];exact h
 rw [ae h3]at h;rw [ae h3];by_cases h4:op=4∨op=18
 ·rw [ar h4]at h;rw [ar h4];exact h
 rw [ae h4]at h;rw [ae h4];by_cases h5:op=5∨op=19
 ·rw [ar h5]at h;rw [ar h5];exact h
 rw [ae h5]at h;rw [ae h5];by_cases h6:op=6∨op=20
 ·rw [ar h6]at h;rw [ar h6];exact h
 rw [ae h6]at h;rw [ae h6];by_cases h7:op=7
 ·rw [ar h7]at h;rw [ar (Or.inl h7)];exact h
 rw [ae h7]at h;by_cases h8:op=9
 ·rw [ar h8]at h;rw [ae (by omega),ae (by omega),ar h8];exact h
 rw [ae h8]at h;by_cases h9:op=10
 ·rw [ar h9]at h;rw [ae (by omega),ae (by omega),ae h8,ar h9];exact h
 rw [ae h9]at h;by_cases h10:op=11
 ·rw [ar h10]at h;rw [ae (by omega),ae (by omega),ae h8,ae h9,ar h10];exact h
 rw [ae h10]at h;cases h
theorem N4{op a b v:Int}(h:y6 op a b=some v):(1≤op∧op≤7∨9≤op∧op≤11∨16≤op∧op≤20)∧(op=10→b≠0)∧j_ op≠0:=by
 unfold y6 at h;unfold j_;by_cases h1:op=1∨op=16
 ·rw [ar h1];exact⟨by omega,by omega,by decide⟩
 rw [ae h1]at h;rw [ae h1];by_cases h2:op=2
 ·rw [ar h2];exact⟨by omega,by omega,by decide⟩
 rw [ae h2]at h;rw [ae h2];by_cases h3:op=3∨op=17
 ·rw [ar h3];exact⟨by omega,by omega,by decide⟩
 rw [ae h3]at h;rw [ae h3];by_cases h4:op=4∨op=18
 ·rw [ar h4];exact⟨by omega,by omega,by decide⟩
 rw [ae h4]at h;rw [ae h4];by_cases h5:op=5∨op=19
 ·rw [ar h5];exact⟨by omega,by omega,by decide⟩
 rw [ae h5]at h;rw [ae h5];by_cases h6:op=6∨op=20
 ·rw [ar h6];exact⟨by omega,by omega,by decide⟩
 rw [ae h6]at h;rw [ae h6];by_cases h7:op=7
 ·rw [ar (Or.inl h7)];exact⟨by omega,by omega,by decide⟩
 rw [ae h7]at h;by_cases h8:op=9
 ·rw [ae (by omega),ae (by omega),ar h8];exact⟨by omega,by omega,by decide⟩
 rw [ae h8]at h;by_cases h9:op=10
 ·rw [ar h9]at h;rw [ae (by omega),ae (by omega),ae h8,ar h9];refine⟨by omega,fun _ hb=> ?_,by decide⟩;rw [ar hb]at h;cases h
 rw [ae h9]at h;by_cases h10:op=11
 ·rw [ae (by omega),ae (by omega),ae h8,ae h9,ar h10];exact⟨by omega,by omega,by decide⟩
 rw [ae h10]at h;cases h
theorem Ds(t:Bool):
  bi prog 182 [.bool t] [] [] (I3 (tr t)) []:=by
 refine aI func182 J ntmps182 J fun w0 M H=>ap (ak J (aa (aT (ad J (aa (ai J (fun h1=> ?_) (fun h1=> ?_)))))))
 ·obtain rfl:t=true:=h1;refine ap (ak J (aa (ax (aH () O J (bQ (aL J)) J [] [] J J J))))
 ·obtain rfl:t=false:=h1;refine az (ap (ak J (aa (ax (aH () O J (bQ (aL J)) J [] [] J J J)))))
theorem Ff(k a b v:Int)(ha:0≤a∧a<4294967296)(hb:0≤b∧b<4294967296)(hv:TG k a b=some v):
  bi prog 150 [I6 k,I3 a,I3 b] [] [] (I3 v) []:=by
 refine aI func150 J ntmps150 J fun w0 M H=>ap (ak J (aa (aT (ad J (aa (aB (ap (aw J J bn (ak J (aa (ai J (fun h1=> ?_) (fun h1=> ?_))))))))))))
 ·(try simp only [bj]at h1);obtain rfl:k=3:=h1;obtain rfl:wU (a+b)=v:=cf hv;refine ap (ad J (ad J (aw J J (cw J) (ak J (aa (ax (aH () O J (bQ (aL J)) J [] [] J J J)))))))
 ·(try simp only [bj]at h1);refine ap (aw J J bn (ak J (aa (ai J (fun h2=> ?_) (fun h2=> ?_)))))
  ·(try simp only [bj]at h2);obtain rfl:k=4:=h2;obtain rfl:wU (a-b)=v:=cf hv;refine ap (ad J (ad J (aw J J (gu J) (ak J (aa (ax (aH () O J (bQ (aL J)) J [] [] J J J)))))))
  ·(try simp only [bj]at h2);refine ap (aw J J bn (ak J (aa (ai J (fun h3=> ?_) (fun h3=> ?_)))))
   ·(try simp only [bj]at h3);obtain rfl:k=5:=h3;obtain rfl:bits .and .u32 a b=v:=cf hv;refine ap (ad J (ad J (aw J J (tK J) (ak J (aa (ax (aH () O J (bQ (aL J)) J [] [] J J J)))))))
   ·(try simp only [bj]at h3);refine ap (aw J J bn (ak J (aa (ai J (fun h4=> ?_) (fun h4=> ?_)))))
    ·(try simp only [bj]at h4);obtain rfl:k=6:=h4;obtain rfl:bits .or .u32 a b=v:=cf hv;refine ap (ad J (ad J (aw J J (Ea J) (ak J (aa (ax (aH () O J (bQ (aL J)) J [] [] J J J)))))))
    ·(try simp only [bj]at h4);refine ap (aw J J bn (ak J (aa (ai J (fun h5=> ?_) (fun h5=> ?_)))))
     ·(try simp only [bj]at h5);obtain rfl:k=7:=h5;obtain rfl:bits .xor .u32 a b=v:=cf hv;refine ap (ad J (ad J (aw J J (LK J) (ak J (aa (ax (aH () O J (bQ (aL J)) J [] [] J J J)))))))
     ·(try simp only [bj]at h5);refine ap (aw J J bn (ak J (aa (ai J (fun h6=> ?_) (fun h6=> ?_)))))
      ·(try simp only [bj]at h6);obtain rfl:k=8:=h6;obtain rfl:wU (a*2^(b%32).toNat)=v:=cf hv;refine ap (ad J (ad J (aw J J (jt (by omega) (by first|exact sd (by omega)|rfl)) (aw J J (jb (by omega) (by show _≤(32:Int);omega) J) (ak J (aa (ax (aH () O J (bQ (aL J)) J [] [] J J J))))))))
      ·(try simp only [bj]at h6);refine ap (aw J J bn (ak J (aa (ai J (fun h7=> ?_) (fun h7=> ?_)))))
       ·(try simp only [bj]at h7);obtain rfl:k=9:=h7;obtain rfl:a/2^(b%32).toNat=v:=cf hv;refine ap (ad J (ad J (aw J J (jt (by omega) (by first|exact sd (by omega)|rfl)) (aw J J (qO (by omega) (by show _≤(32:Int);omega) J) (ak J (aa (ax (aH () O J (bQ (aL J)) J [] [] J J J))))))))
       ·(try simp only [bj]at h7);refine ap (aw J J bn (ak J (aa (ai J (fun h8=> ?_) (fun h8=> ?_)))))
        ·(have hk:k=10:=by simpa using h8);subst hk;cases hv
        ·(try simp only [bj]at h8);refine ap (aw J J bn (ak J (aa (ai J (fun h9=> ?_) (fun h9=> ?_)))))
         ·(try simp only [bj]at h9);obtain rfl:k=11:=h9;obtain rfl:wU (a*b)=v:=cf hv;refine ap (ad J (ad J (aw J J (fG J) (ak J (aa (ax (aH () O J (bQ (aL J)) J [] [] J J J)))))))
         ·(try simp only [bj]at h9);refine ap (aw J J bn (ak J (aa (ai J (fun h10=> ?_) (fun h10=> ?_)))))
          ·(try simp only [bj]at h10);obtain rfl:k=12:=h10;have hq:(if b=0 then none else some (a/b))=some v:=hv;refine aT (ad J (aw J J bn (aa (ai J (fun h11=> ?_) (fun h11=> ?_)))))
           ·(have hz:b=0:=by simpa using h11);rw [ar hz]at hq;cases hq
           ·(try simp only [bj]at h11);have hz:¬b=0:=by simpa using h11
            rw [ae hz]at hq;obtain rfl:a/b=v:=cf hq;refine az (ap (ad J (ad J (aw J J (lO (by omega) (qB ha (by omega))) (ak J (aa (ax (aH () O J (bQ (aL J)) J [] [] J J J))))))))
          ·(try simp only [bj]at h10);refine ap (aw J J bn (ak J (aa (ai J (fun h12=> ?_) (fun h12=> ?_)))))
           ·(have hk:k=13:=by simpa using h12);subst hk;cases hv
           ·(try simp only [bj]at h12);refine ap (aw J J bn (ak J (aa (ai J (fun h13=> ?_) (fun h13=> ?_)))))
            ·(try simp only [bj]at h13);obtain rfl:k=14:=h13;obtain rfl:tr (decide (a<b))=v:=cf hv;refine ap (ad J (ad J (aw J J cr (aj (xs:= [.tmp 75]) (Ds (decide (a<b))) QC [] [] [] (fun _ _=>ak J (aa (ax (aH () O J (bQ (aL J)) J [] [] J J J))))))))
            ·(try simp only [bj]at h13);refine ap (aw J J bn (ak J (aa (ai J (fun h14=> ?_) (fun h14=> ?_)))))
             ·(have hk:k=15:=by simpa using h14);subst hk;cases hv
             ·(try simp only [bj]at h14);exfalso;unfold TG at hv;rw [ae (by omega),ae (by omega),ae (by omega),ae (by omega),ae (by omega),ae (by omega),ae (by omega),ae (by omega),ae (by omega),ae (by omega)]at hv;cases hv
theorem zL(op:Int):
  bi prog 148 [I6 op] [] [] (I6 (j_ op)) []:=by
 refine aI func148 J ntmps148 J fun w0 M H=>ap (ak J (aa (aT (ad J (aa (aB (bx (X:=Unit) (fun _=>True) (fun _=> [(3,I6 op),(4,.bool (decide (op=1∨op=16)))]) (fun _=> []) (fun _=> []) ?_ (fun _ _=> ?_))))))))
 ·refine ap (aw J J bn (ak J (aa (ai J (fun h1=> ?_) (fun h1=> ?_)))))
  ·(try simp only [bj]at h1);refine az (aJ () O (by first|(rw [show decide (op=1∨op=16)=decide (op=1)from decide_eq_decide.2 (by omega)];rfl)|(rw [show decide (op=1∨op=16)=decide (op=16)from decide_eq_decide.2 (by omega)];rfl)) J J)
  ·(try simp only [bj]at h1);refine am (aw J J bn (ak J (aa (aJ () O (by first|(rw [show decide (op=1∨op=16)=decide (op=1)from decide_eq_decide.2 (by omega)];rfl)|(rw [show decide (op=1∨op=16)=decide (op=16)from decide_eq_decide.2 (by omega)];rfl)) J J))))
 ·refine ai J (fun h2=> ?_) (fun h2=> ?_)
  ·(try simp only [bj]at h2);have e:j_ op=3:=by unfold j_;rw [ar (by omega)]
   rw [e];refine ap (ak J (aa (ax (aH () O J (bQ (aL J)) J [] [] J J J))))
  ·(try simp only [bj]at h2);refine ap (aw J J bn (ak J (aa (ai J (fun h3=> ?_) (fun h3=> ?_)))))
   ·(try simp only [bj]at h3);have e:j_ op=4:=by unfold j_;rw [ae (by omega),ar (by omega)]
    rw [e];refine ap (ak J (aa (ax (aH () O J (bQ (aL J)) J [] [] J J J))))
   ·(try simp only [bj]at h3);refine bx (X:=Unit) (fun _=>True) (fun _=> [(3,I6 op),(9,.bool (decide (op=3∨op=17)))]) (fun _=> []) (fun _=> []) ?_ (fun _ _=> ?_)
    ·refine ap (aw J J bn (ak J (aa (ai J (fun h4=> ?_) (fun h4=> ?_)))))
     ·(try simp only [bj]at h4);refine az (aJ () O (by first|(rw [show decide (op=3∨op=17)=decide (op=3)from decide_eq_decide.2 (by omega)];rfl)|(rw [show decide (op=3∨op=17)=decide (op=17)from decide_eq_decide.2 (by omega)];rfl)) J J)
     ·(try simp only [bj]at h4);refine am (aw J J bn (ak J (aa (aJ () O (by first|(rw [show decide (op=3∨op=17)=decide (op=3)from decide_eq_decide.2 (by omega)];rfl)|(rw [show decide (op=3∨op=17)=decide (op=17)from decide_eq_decide.2 (by omega)];rfl)) J J))))
    ·refine ai J (fun h5=> ?_) (fun h5=> ?_)
     ·(try simp only [bj]at h5);have e:j_ op=5:=by unfold j_;rw [ae (by omega),ae (by omega),ar (by omega)]
      rw [e];refine ap (ak J (aa (ax (aH () O J (bQ (aL J)) J [] [] J J J))))
     ·(try simp only [bj]at h5);refine bx (X:=Unit) (fun _=>True) (fun _=> [(3,I6 op),(12,.bool (decide (op=4∨op=18)))]) (fun _=> []) (fun _=> []) ?_ (fun _ _=> ?_)
      ·refine ap (aw J J bn (ak J (aa (ai J (fun h6=> ?_) (fun h6=> ?_)))))
       ·(try simp only [bj]at h6);refine az (aJ () O (by first|(rw [show decide (op=4∨op=18)=decide (op=4)from decide_eq_decide.2 (by omega)];rfl)|(rw [show decide (op=4∨op=18)=decide (op=18)from decide_eq_decide.2 (by omega)];rfl)) J J)
       ·(try simp only [bj]at h6);refine am (aw J J bn (ak J (aa (aJ () O (by first|(rw [show decide (op=4∨op=18)=decide (op=4)from decide_eq_decide.2 (by omega)];rfl)|(rw [show decide (op=4∨op=18)=decide (op=18)from decide_eq_decide.2 (by omega)];rfl)) J J))))
      ·refine ai J (fun h7=> ?_) (fun h7=> ?_)
       ·(try simp only [bj]at h7);have e:j_ op=6:=by unfold j_;rw [ae (by omega),ae (by omega),ae (by omega),ar (by omega)]
        rw [e];refine ap (ak J (aa (ax (aH () O J (bQ (aL J)) J [] [] J J J))))
       ·(try simp only [bj]at h7);refine bx (X:=Unit) (fun _=>True) (fun _=> [(3,I6 op),(15,.bool (decide (op=5∨op=19)))]) (fun _=> []) (fun _=> []) ?_ (fun _ _=> ?_)
        ·refine ap (aw J J bn (ak J (aa (ai J (fun h8=> ?_) (fun h8=> ?_)))))
         ·(try simp only [bj]at h8);refine az (aJ () O (by first|(rw [show decide (op=5∨op=19)=decide (op=5)from decide_eq_decide.2 (by omega)];rfl)|(rw [show decide (op=5∨op=19)=decide (op=19)from decide_eq_decide.2 (by omega)];rfl)) J J)
         ·(try simp only [bj]at h8);refine am (aw J J bn (ak J (aa (aJ () O (by first|(rw [show decide (op=5∨op=19)=decide (op=5)from decide_eq_decide.2 (by omega)];rfl)|(rw [show decide (op=5∨op=19)=decide (op=19)from decide_eq_decide.2 (by omega)];rfl)) J J))))
        ·refine ai J (fun h9=> ?_) (fun h9=> ?_)
         ·(try simp only [bj]at h9);have e:j_ op=7:=by unfold j_;rw [ae (by omega),ae (by omega),ae (by omega),ae (by omega),ar (by omega)]
          rw [e];refine ap (ak J (aa (ax (aH () O J (bQ (aL J)) J [] [] J J J))))
         ·(try simp only [bj]at h9);refine bx (X:=Unit) (fun _=>True) (fun _=> [(3,I6 op),(18,.bool (decide (op=6∨op=20)))]) (fun _=> []) (fun _=> []) ?_ (fun _ _=> ?_)
          ·refine ap (aw J J bn (ak J (aa (ai J (fun h10=> ?_) (fun h10=> ?_)))))
           ·(try simp only [bj]at h10);refine az (aJ () O (by first|(rw [show decide (op=6∨op=20)=decide (op=6)from decide_eq_decide.2 (by omega)];rfl)|(rw [show decide (op=6∨op=20)=decide (op=20)from decide_eq_decide.2 (by omega)];rfl)) J J)
           ·(try simp only [bj]at h10);refine am (aw J J bn (ak J (aa (aJ () O (by first|(rw [show decide (op=6∨op=20)=decide (op=6)from decide_eq_decide.2 (by omega)];rfl)|(rw [show decide (op=6∨op=20)=decide (op=20)from decide_eq_decide.2 (by omega)];rfl)) J J))))
          ·refine ai J (fun h11=> ?_) (fun h11=> ?_)
           ·(try simp only [bj]at h11);have e:j_ op=8:=by unfold j_;rw [ae (by omega),ae (by omega),ae (by omega),ae (by omega),ae (by omega),ar (by omega)]
            rw [e];refine ap (ak J (aa (ax (aH () O J (bQ (aL J)) J [] [] J J J))))
           ·(try simp only [bj]at h11);refine bx (X:=Unit) (fun _=>True) (fun _=> [(3,I6 op),(21,.bool (decide (op=7∨op=21)))]) (fun _=> []) (fun _=> []) ?_ (fun _ _=> ?_)
            ·refine ap (aw J J bn (ak J (aa (ai J (fun h12=> ?_) (fun h12=> ?_)))))
             ·(try simp only [bj]at h12);refine az (aJ () O (by first|(rw [show decide (op=7∨op=21)=decide (op=7)from decide_eq_decide.2 (by omega)];rfl)|(rw [show decide (op=7∨op=21)=decide (op=21)from decide_eq_decide.2 (by omega)];rfl)) J J)
             ·(try simp only [bj]at h12);refine am (aw J J bn (ak J (aa (aJ () O (by first|(rw [show decide (op=7∨op=21)=decide (op=7)from decide_eq_decide.2 (by omega)];rfl)|(rw [show decide (op=7∨op=21)=decide (op=21)from decide_eq_decide.2 (by omega)];rfl)) J J))))
            ·refine ai J (fun h13=> ?_) (fun h13=> ?_)
             ·(try simp only [bj]at h13);have e:j_ op=9:=by unfold j_;rw [ae (by omega),ae (by omega),ae (by omega),ae (by omega),ae (by omega),ae (by omega),ar (by omega)]
              rw [e];refine ap (ak J (aa (ax (aH () O J (bQ (aL J)) J [] [] J J J))))
             ·(try simp only [bj]at h13);refine bx (X:=Unit) (fun _=>True) (fun _=> [(3,I6 op),(24,.bool (decide (op=8∨op=22)))]) (fun _=> []) (fun _=> []) ?_ (fun _ _=> ?_)
              ·refine ap (aw J J bn (ak J (aa (ai J (fun h14=> ?_) (fun h14=> ?_)))))
               ·(try simp only [bj]at h14);refine az (aJ () O (by first|(rw [show decide (op=8∨op=22)=decide (op=8)from decide_eq_decide.2 (by omega)];rfl)|(rw [show decide (op=8∨op=22)=decide (op=22)from decide_eq_decide.2 (by omega)];rfl)) J J)
               ·(try simp only [bj]at h14);refine am (aw J J bn (ak J (aa (aJ () O (by first|(rw [show decide (op=8∨op=22)=decide (op=8)from decide_eq_decide.2 (by omega)];rfl)|(rw [show decide (op=8∨op=22)=decide (op=22)from decide_eq_decide.2 (by omega)];rfl)) J J))))
              ·refine ai J (fun h15=> ?_) (fun h15=> ?_)
               ·(try simp only [bj]at h15);have e:j_ op=10:=by unfold j_;rw [ae (by omega),ae (by omega),ae (by omega),ae (by omega),ae (by omega),ae (by omega),ae (by omega),ar (by omega)]
                rw [e];refine ap (ak J (aa (ax (aH () O J (bQ (aL J)) J [] [] J J J))))
               ·(try simp only [bj]at h15);refine ap (aw J J bn (ak J (aa (ai J (fun h16=> ?_) (fun h16=> ?_)))))
                ·(try simp only [bj]at h16);have e:j_ op=11:=by unfold j_;rw [ae (by omega),ae (by omega),ae (by omega),ae (by omega),ae (by omega),ae (by omega),ae (by omega),ae (by omega),ar (by omega)]
                 rw [e];refine ap (ak J (aa (ax (aH () O J (bQ (aL J)) J [] [] J J J))))
                ·(try simp only [bj]at h16);refine ap (aw J J bn (ak J (aa (ai J (fun h17=> ?_) (fun h17=> ?_)))))
                 ·(try simp only [bj]at h17);have e:j_ op=12:=by unfold j_;rw [ae (by omega),ae (by omega),ae (by omega),ae (by omega),ae (by omega),ae (by omega),ae (by omega),ae (by omega),ae (by omega),ar (by omega)]
                  rw [e];refine ap (ak J (aa (ax (aH () O J (bQ (aL J)) J [] [] J J J))))
                 ·(try simp only [bj]at h17);refine ap (aw J J bn (ak J (aa (ai J (fun h18=> ?_) (fun h18=> ?_)))))
                  ·(try simp only [bj]at h18);have e:j_ op=14:=by unfold j_;rw [ae (by omega),ae (by omega),ae (by omega),ae (by omega),ae (by omega),ae (by omega),ae (by omega),ae (by omega),ae (by omega),ae (by omega),ar (by omega)]
                   rw [e];refine ap (ak J (aa (ax (aH () O J (bQ (aL J)) J [] [] J J J))))
                  ·(try simp only [bj]at h18);refine ap (aw J J bn (ak J (aa (ai J (fun h19=> ?_) (fun h19=> ?_)))))
                   ·(try simp only [bj]at h19);have e:j_ op=15:=by unfold j_;rw [ae (by omega),ae (by omega),ae (by omega),ae (by omega),ae (by omega),ae (by omega),ae (by omega),ae (by omega),ae (by omega),ae (by omega),ae (by omega),ar (by omega)]
                    rw [e];refine ap (ak J (aa (ax (aH () O J (bQ (aL J)) J [] [] J J J))))
                   ·(try simp only [bj]at h19);have e:j_ op=0:=by unfold j_;rw [ae (by omega),ae (by omega),ae (by omega),ae (by omega),ae (by omega),ae (by omega),ae (by omega),ae (by omega),ae (by omega),ae (by omega),ae (by omega),ae (by omega)]
                    rw [e];refine az (ap (ak J (aa (ax (aH () O J (bQ (aL J)) J [] [] J J J)))))
theorem t8(a b:Int):
  bi prog 153 [I6 32,I3 a,I3 b] [] [] (.bool (decide (a=b))) []:=by
 refine aI func153 J ntmps153 J fun w0 M H=>ap (ak J (aa (aT (ad J (aa (aB (ap (aw J J bn (ak J (aa (ai J (fun h1=> ?_) (fun h1=> ?_))))))))))))
 ·(try simp only [bj]at h1);refine ap (ad J (ad J (aw J J bn (ak J (aa (ax (aH () O J (bQ (aL J)) J [] [] J J J)))))))
 ·exact absurd h1 (by decide)
theorem t7(a b:Int):
  bi prog 153 [I6 35,I3 a,I3 b] [] [] (.bool (decide (a≥b))) []:=by
 refine aI func153 J ntmps153 J fun w0 M H=>ap (ak J (aa (aT (ad J (aa (aB (ap (aw J J bn (ak J (aa (ai J (fun h1=> ?_) (fun h1=> ?_))))))))))))
 ·exact absurd h1 (by decide)
 ·(try simp only [bj]at h1);refine ap (aw J J bn (ak J (aa (ai J (fun h2=> ?_) (fun h2=> ?_)))))
  ·exact absurd h2 (by decide)
  ·(try simp only [bj]at h2);refine ap (aw J J bn (ak J (aa (ai J (fun h3=> ?_) (fun h3=> ?_)))))
   ·exact absurd h3 (by decide)
   ·(try simp only [bj]at h3);refine ap (aw J J bn (ak J (aa (ai J (fun h4=> ?_) (fun h4=> ?_)))))
    ·(try simp only [bj]at h4);refine ap (ad J (ad J (aw J J gI (ak J (aa (ax (aH () O J (bQ (aL J)) J [] [] J J J)))))))
    ·exact absurd h4 (by decide)
structure Fx(s:Mm)(i:Qi)(pc:Int):Prop where
 imm:0≤i.imm∧i.imm<4294967296
 hv:VQ i
 p:0≤pc∧pc+4≤s.d.length
 al:pc%4=0
 rt:∀k:Int,0≤k→k<4→zc s (pc+k) 4=true
 im:∀k:Nat,k<4→s.i[pc.toNat+k]?=(fK (nw i))[k]?
theorem VQ.bd{i:Qi}(hv:VQ i):0≤nw i∧nw i<4294967296:=AM (i:=i) (by unfold qQ;simp only [Bool.and_eq_true];exact⟨⟨⟨⟨hv.k,hv.fd⟩,hv.fa⟩,hv.fb⟩,hv.im⟩)
def Oh(w:Int):Nat→Int
 | 0=>0
 | k+1=>Oh w k+m9 w k%256*256^k
theorem Jg{w:Int}(hw:0≤w∧w<4294967296):Oh w 4=w:=by
 show 0+w%256*256^0+w/256%256*256^1+w/256/256%256*256^2+w/256/256/256%256*256^3=w;omega
theorem FY{w:Int}(hw:0≤w∧w<4294967296){k:Nat}(hk:k<4):0≤Oh w k∧Oh w k+m9 w k%256*256^k<4294967296∧0≤m9 w k%256*256^k∧m9 w k%256*256^k<4294967296:=by
 have:k=0∨k=1∨k=2∨k=3:=by omega
 rcases this with rfl|rfl|rfl|rfl
 ·show 0≤(0:Int)∧0+w%256*256^0<4294967296∧0≤w%256*256^0∧w%256*256^0<4294967296;omega
 ·show 0≤0+w%256*256^0∧0+w%256*256^0+w/256%256*256^1<4294967296∧0≤w/256%256*256^1∧w/256%256*256^1<4294967296;omega
 ·show 0≤0+w%256*256^0+w/256%256*256^1∧0+w%256*256^0+w/256%256*256^1+w/256/256%256*256^2<4294967296∧0≤w/256/256%256*256^2∧w/256/256%256*256^2<4294967296;omega
 ·show 0≤0+w%256*256^0+w/256%256*256^1+w/256/256%256*256^2∧0+w%256*256^0+w/256%256*256^1+w/256/256%256*256^2+w/256/256/256%256*256^3<4294967296∧0≤w/256/256/256%256*256^3∧w/256/256/256%256*256^3<4294967296;omega
theorem R6{w:Int}(hw:0≤w∧w<4294967296){k:Nat}(hk:k<4):IntKind.u32.wrap (m9 w k%256*2^(8*(k:Int)).toNat)=m9 w k%256*256^k:=by
 obtain⟨-,-,h1,h2⟩:=FY hw hk;have e:(2:Int)^(8*(k:Int)).toNat=256^k:=by
  have:k=0∨k=1∨k=2∨k=3:=by omega
  rcases this with rfl|rfl|rfl|rfl<;>rfl
 rw [e];exact kH h1 h2
def T2(i:Qi):List Value:=ja i++ [I6 0,I3 0]
theorem xR(e:Me)(s:Mm)(n:Nat)(hs:MO s n)(i:Qi)(pc:Int)(hf:Fx s i pc):
  bi prog 147 [I3 pc,Pt e.m] [bh e.m 157 (mR e),own 5 1 co (sv e.vd) (s).d,own 5 1 co (sv e.vi) (s).i,own 3 1 eI (sv e.vr) (s).r] [] (.agg (T2 i).toArray) [bh e.m 157 (mR e),own 5 1 co (sv e.vd) (s).d,own 5 1 co (sv e.vi) (s).i,own 3 1 eI (sv e.vr) (s).r]:=by
 refine aI func147 J ntmps147 J fun w0 M H=> ?_
 have hdl:=hs.d;have hnn:=hs.n;have hp:=hf.p;have hal:=hf.al;have hwb:=hf.hv.bd;refine ap (aY C9 J J fun b4=>aa (aT (ad J (aw J J (jt (by omega) (by first|exact sd (by omega)|rfl)) (aw J J eD (aa (ai J (fun h1=> ?_) (fun h1=> ?_))))))))
 ·(exfalso;have h0:=h1;revert h0;simp;omega)
 ·(try simp only [bj]at h1);refine az (ap (ak J (aa (aT (ak J (aa (aB (bC (X:=Nat) (fun k=>k≤4) (fun k=> [(0,I3 pc),(1,Pt e.m),(4,Pt b4),(5,I3 (Oh (nw i) k)),(6,I6 (k:Int))]) (fun k=> [(0,bh e.m 157 (mR e)),(1,own 5 1 co (sv e.vd) s.d),(2,own 5 1 co (sv e.vi) s.i),(3,own 3 1 eI (sv e.vr) s.r),(4,bh b4 236 [I6 0,I6 0,I6 0,I6 0,I3 0,I6 0,I3 0])]) (fun k=> []) (fun k=>4-k) 0 (br _) J J J (fun k n1=>aT (ad J (aw J J cr (aa (ai J (fun h2=> ?_) (fun h2=> ?_))))))))))))))
  ·(try simp only [bj]at h2);have hi:k<4:=by omega
   have hbk:=FY hwb hi;refine az (a_ (aB (ap (ad J (ad J (ad J (aP (cC underlying3 underlying41 J (c:=(k:Int)) (cd (by omega))) (aw J J (cw (c:=pc+k) (cd (by omega))) ?_))))))));refine dh (xs:= [.tmp 19,.tmp 23]) (DT e s n hs (pc+k) (by omega) (hf.rt k (by omega) (by omega)) (m9 (nw i) k%256) (by rw [show(pc+(k:Int)).toNat=pc.toNat+k by omega,hf.im k hi,BC hwb hi]) (by omega)) QE [0,1,2,3] [] [0,1,2,3] J J J J J J J J (fun _ _=>J) (fun _ _ _=>J) J (fun _ _=> ?_);refine aY iV J J fun b7=>aq (k:=7) iV J J J J J J (aa (aT (aC oS J (aQ 7 t4 J J J J (aP (cz J) (aa (ai J (fun h3=> ?_) (fun h3=> ?_))))))))
   ·cases h3
   ·(try simp only [bj]at h3);refine az (am (ad J (aC rC J (aQ 7 dm J J J J (ad J (aw J J kW (aP (cC underlying3 underlying138 J (c:=8*(k:Int)) (by first|exact Be (by omega) (by omega)|rfl)) (aw J J (jb (by omega) (by show _≤(32:Int);omega) (R6 hwb hi)) (aw J J (cw (c:=Oh (nw i) (k+1)) (cd (by omega))) (ak J (aa (am (ad J (aw J J aO (ak J (aa ?_))))))))))))))));refine aJ (k+1) ⟨by omega,by omega⟩ J J J
  ·(try simp only [bj]at h2);have hi:k=4:=by omega
   subst hi;rw [Jg hwb];refine bF (ap (ad J (aj (xs:= [.tmp 43]) (wb i hf.imm hf.hv) QD [] [] [] (fun _ _=>ad J (aP (cG J J) (aP (cG J J) (aY fA J J fun b8=>aq (k:=8) fA J J J J J J (ak J (aa (aT (ad J (aw J J eD (aa (ai J (fun h4=> ?_) (fun h4=> ?_)))))))))))))))
   ·cases h4
   ·(try simp only [bj]at h4);refine az (ap (aP (aM fA J J J (aX (k:=8) J)) (aP (aU (cs:=(T2 i).toArray) (parts:= [(0,.tmp 51)]) C9 Pb J (by kernel_rfl)) (aq (k:=4) C9 J J J J J J (aa (ax (aH () O J (bQ (aV C9 J J J (aX (k:=4) J))) J [0,1,2,3] [] J J J)))))))
def xC(vp vi vo:SV)(mem:Nat→Int)(fuel used er:Int):List Value:= [sv vp,sv vi,sv vo]++((List.range 256).map (fun i=>I3 (mem i))++ [I6 fuel,I6 used,I6 er])
section
variable{vp vi vo:SV}{mem:Nat→Int}{fuel used er:Int}
theorem vF:(xC vp vi vo mem fuel used er).length=262:=by simp [xC]
theorem vG{o:Nat}{u:Value}(h:o+1≤262):Nat.ble (o+ [u].length) (xC vp vi vo mem fuel used er).length=true:=by
 rw [vF];exact Nat.ble_eq_true_of_le h
theorem HH{A tl:List Value}(h:A.length=259)(k:Nat):(A++tl)[259+k]?=tl[k]?:=by
 rw [List.getElem?_append_right (by omega)]
 congr 1
 omega
theorem HG{A tl:List Value}(h:A.length=259)(k:Nat)(v:Value):(A++tl).set (259+k) v=A++tl.set k v:=by
 rw [List.set_append_right _ _ (by omega)]
 congr 2
 omega
theorem Er(k:Nat):(xC vp vi vo mem fuel used er)[259+k]?=([I6 fuel,I6 used,I6 er]:List Value)[k]?:=by
 unfold xC;rw [←List.append_assoc];exact HH (by simp) k
theorem Bd:(xC vp vi vo mem fuel used er)[259]?=some (I6 fuel):=Er 0
theorem vE:(xC vp vi vo mem fuel used er)[260]?=some (I6 used):=Er 1
theorem lZ:(xC vp vi vo mem fuel used er)[261]?=some (I6 er):=Er 2
theorem LU{i:Nat}(hi:i<256):(xC vp vi vo mem fuel used er)[3+i]?=some (I3 (mem i)):=by
 unfold xC;rw [List.getElem?_append_right (by simp),List.getElem?_append_left (by simp;omega),List.getElem?_map,List.getElem?_range (by simp;omega)];simp
theorem Et(k:Nat)(v:Value):(xC vp vi vo mem fuel used er).set (259+k) v= [sv vp,sv vi,sv vo]++((List.range 256).map (fun i=>I3 (mem i))++([I6 fuel,I6 used,I6 er]:List Value).set k v):=by
 unfold xC;rw [←List.append_assoc,←List.append_assoc];exact HG (by simp) k v
theorem zk{f:Int}:(xC vp vi vo mem fuel used er).take 260++ [I6 f]++(xC vp vi vo mem fuel used er).drop (260+ [Value.int .i64 f].length)=xC vp vi vo mem fuel f er:=(wl (by rw [vF];decide)).trans (Et 1 _)
theorem xm{f:Int}:(xC vp vi vo mem fuel used er).take 261++ [I6 f]++(xC vp vi vo mem fuel used er).drop (261+ [Value.int .i64 f].length)=xC vp vi vo mem fuel used f:=(wl (by rw [vF];decide)).trans (Et 2 _)
theorem Es{v:SV}:(xC vp vi vo mem fuel used er).take 1++ [sv v]++(xC vp vi vo mem fuel used er).drop (1+ [sv v].length)=xC vp v vo mem fuel used er:=rfl
theorem C1{v:SV}:(xC vp vi vo mem fuel used er).take 2++ [sv v]++(xC vp vi vo mem fuel used er).drop (2+ [sv v].length)=xC vp vi v mem fuel used er:=rfl
theorem C2{i:Nat}(hi:i<256){v:Int}:(xC vp vi vo mem fuel used er).take (3+i*1)++ [I3 v]++(xC vp vi vo mem fuel used er).drop (3+i*1+ [Value.int .u32 v].length)=xC vp vi vo (ui mem i v) fuel used er:=by
 rw [wl (by rw [vF];omega)];unfold xC;rw [List.set_append_right _ _ (by simp),List.set_append_left _ _ (by simp;omega),←Je hi];rw [show 3+i*1-([sv vp,sv vi,sv vo]:List Value).length=i by simp]
end
def my(fr:Vs)(x:Ba)(n:Int):Vs:=match fr.findIdx? (fun p=>decide (p.1=x))with
 | some i=>fr.set i (x,n)
 | none=>fr++ [(x,n)]
def FrEq(fr vs:Vs):Prop:=∀x,jc fr x=jc vs x
theorem C4(vs:Vs)(x y:Ba)(n:Int):jc (fc vs x n) y=if x=y then n else jc vs y:=by
 unfold jc fc;rw [List.find?_cons];by_cases h:x=y
 ·rw [decide_eq_true (show(x,n).1=y from h),ar h]
 ·rw [decide_eq_false (show ¬(x,n).1=y from h),ae h];dsimp only;rw [List.find?_filter]
  congr 1
  congr 1
  funext p;by_cases h2:p.1=y
  ·have h3:p.1≠x:=fun h4=>h (h4.symm.trans h2)
   simp [h2];intro h5;exact absurd (h5.symm) (fun h6=>h h6)
  ·simp [h2]
theorem yB{l:Vs}{i:Nat}{p:Ba×Int}{x y:Ba}{n:Int}(hi:l[i]?=some p)(hp:p.1=x)(h:x≠y):(l.set i (x,n)).find? (fun p=>decide (p.1=y))=l.find? (fun p=>decide (p.1=y)):=by
 induction l generalizing i with
 | nil=>simp at hi
 | cons a r ih=>
  cases i with
  | zero=>
   cases hi;rw [List.set_cons_zero,List.find?_cons,List.find?_cons,decide_eq_false (show ¬(x,n).1=y from h),decide_eq_false (show ¬p.1=y by rw [hp];exact h)]
  | succ i=>
   rw [List.set_cons_succ,List.find?_cons,List.find?_cons,ih hi]
theorem yC{l:Vs}{i:Nat}{x:Ba}{n:Int}(hi:i<l.length)(hb:∀j p,j<i→l[j]?=some p→p.1≠x):(l.set i (x,n)).find? (fun p=>decide (p.1=x))=some (x,n):=by
 induction l generalizing i with
 | nil=>simp at hi
 | cons a r ih=>
  cases i with
  | zero=>rw [List.set_cons_zero,List.find?_cons,decide_eq_true (show(x,n).1=x from rfl)]
  | succ i=>
   have h1:a.1≠x:=hb 0 a (by omega) J;rw [List.set_cons_succ,List.find?_cons,decide_eq_false h1];exact ih (by simpa using hi) fun j p hj hp=>hb (j+1) p (by omega) hp
theorem wN{fr:Vs}{x:Ba}{n:Int}{i:Nat}{p:Ba×Int}(hi:fr[i]?=some p)(hp:p.1=x)(hb:∀j p,j<i→fr[j]?=some p→p.1≠x):my fr x n=fr.set i (x,n):=by
 have h:fr.findIdx? (fun p=>decide (p.1=x))=some i:=by
  rw [List.findIdx?_eq_some_iff_getElem];obtain⟨h1,h2⟩:=cJ.1 hi;refine⟨h1,by rw [h2];simpa using hp,fun j hj=> ?_⟩;have:=hb j _ hj (bN (by omega));simpa using this
 unfold my;rw [h]
theorem Cc{fr:Vs}{x:Ba}{n:Int}(hb:∀p∈fr,p.1≠x):my fr x n=fr++ [(x,n)]:=by
 have h:fr.findIdx? (fun p=>decide (p.1=x))=none:=by
  rw [List.findIdx?_eq_none_iff];intro p hp;simpa using hb p hp
 unfold my;rw [h]
theorem uA(fr:Vs)(x y:Ba)(n:Int):jc (my fr x n) y=if x=y then n else jc fr y:=by
 cases h:fr.findIdx? (fun p=>decide (p.1=x))with
 | none=>
  have hb:∀p∈fr,p.1≠x:=by
   rw [List.findIdx?_eq_none_iff]at h;intro p hp;have:=h p hp;simpa using this
  rw [Cc hb];unfold jc;rw [List.find?_append];by_cases hxy:x=y
  ·rw [ar hxy];subst hxy;have h2:fr.find? (fun p=>decide (p.1=x))=none:=List.find?_eq_none.2 fun p hp=>by simpa using hb p hp
   rw [h2];simp
  ·rw [ae hxy];cases hf:fr.find? (fun p=>decide (p.1=y))with
   | some p=>rfl
   | none=>simp [hxy]
 | some i=>
  rw [List.findIdx?_eq_some_iff_getElem]at h;obtain⟨h1,h2,h3⟩:=h;have h2:fr[i].1=x:=by simpa using h2
  have hb:∀j p,j<i→fr[j]?=some p→p.1≠x:=fun j p hj hp=>by
   have h4:=h3 j hj;rw [bN (by omega)]at hp;cases hp;simpa using h4
  rw [wN (bN h1) h2 hb];unfold jc;by_cases hxy:x=y
  ·rw [ar hxy];subst hxy;rw [yC h1 hb]
  ·rw [ae hxy,yB (bN h1) h2 hxy]
theorem FrEq.put{fr vs:Vs}(h:FrEq fr vs)(x:Ba)(n:Int):FrEq (my fr x n) (fc vs x n):=fun y=>by rw [uA,C4,h y]
theorem tc(fr:Vs)(x:Ba)(n:Int):(my fr x n).length≤fr.length+1:=by
 unfold my;split
 ·rw [List.length_set];omega
 ·rw [bG,cE];omega
theorem DB{fr:Vs}{i:Nat}{p:Ba×Int}{n:Int}(hi:fr[i]?=some p):(fr.set i (p.1,n)).map Prod.fst=fr.map Prod.fst∧(fr.set i (p.1,n)).map Prod.snd=(fr.map Prod.snd).set i n:=by
 refine⟨?_,by rw [List.map_set]⟩;rw [List.map_set];apply List.ext_getElem?;intro j;rw [List.getElem?_set];split
 ·rename_i h;subst h;rw [List.getElem?_map,hi];split
  ·rfl
  ·rename_i h2;rw [List.length_map]at h2;exact absurd (cJ.1 hi).1 h2
 ·rfl
def fC(vN vV:SV)(d:Int)(done:Bool)(val:Int):List Value:= [sv vN,sv vV,I6 d,.bool done,I3 val]
abbrev uh(fr:Vs):List Ba:=fr.map Prod.fst
abbrev vL(fr:Vs):List Int:=fr.map Prod.snd
theorem Ic{fr:Vs}{x:Ba}{i:Nat}{p:Ba×Int}(hi:fr[i]?=some p)(hp:p.1=x)(hb:∀j p,j<i→fr[j]?=some p→p.1≠x):jc fr x=p.2:=by
 have h:=wN (n:=p.2) hi hp hb;have h2:=uA fr x x p.2;rw [ar J,h]at h2;have h3:fr.set i (x,p.2)=fr:=by
  obtain⟨q1,q2⟩:=cJ.1 hi;rw [←hp];show fr.set i p=fr;rw [←q2];exact List.set_getElem_self q1
 rw [h3]at h2;exact h2
theorem Ib{fr:Vs}{x:Ba}(hb:∀p∈fr,p.1≠x):jc fr x=0:=by
 unfold jc;have h2:fr.find? (fun p=>decide (p.1=x))=none:=List.find?_eq_none.2 fun p hp=>by simpa using hb p hp
 rw [h2]
theorem IX(m:Nat)(vp vi vo:SV)(mem:Nat→Int)(fuel used:Int)(er:Int)(he:er≠0):
  bi prog 194 [Pt m] [bh m 204 (xC vp vi vo mem fuel used er)] [] (.bool false) [bh m 204 (xC vp vi vo mem fuel used er)]:=by
 refine aI func194 J ntmps194 J fun w0 M H=>ap (ak J (aa (aT (ad J (bI J (aC gG J (aQ 0 pr J J J lZ (aw J J eD (aa (ai J (fun h1=> ?_) (fun h1=> ?_)))))))))))
 ·refine ap (ak J (aa (ax (aH () O J (bQ (aL J)) J [0] [] J J J))))
 ·exact absurd h1 (by simp [he])
theorem BF(m:Nat)(vp vi vo:SV)(mem:Nat→Int)(fuel used:Int)(hf:used≥fuel):
  bi prog 194 [Pt m] [bh m 204 (xC vp vi vo mem fuel used 0)] [] (.bool false) [bh m 204 (xC vp vi vo mem fuel used 25)]:=by
 refine aI func194 J ntmps194 J fun w0 M H=>ap (ak J (aa (aT (ad J (bI J (aC gG J (aQ 0 pr J J J lZ (aw J J eD (aa (ai J (fun h1=> ?_) (fun h1=> ?_)))))))))))
 ·exact absurd h1 (by simp)
 ·refine az (a_ (a_ (bJ [8,9,10,11,12,13,14,15,16] _ J (bl (V:= [(0,8,_),(1,9,_),(2,10,_),(3,11,_),(4,12,_),(5,13,_),(6,14,_),(7,15,_),(8,16,_)]) [0,1,2,3,4,5,6,7,8] J J (aD J J (ac J (au J) (ac J (ag rH J) (ac J (ah t3 J J (ay (k:=0) J vE)) (aD J J (ac J (au J) (ac J (ag Co J) (ac J (ah t3 J J (ay (k:=0) J Bd)) (ac J (aR J J gI) av))))))))) J J J (ai J (fun h2=> ?_) (fun h2=> ?_))))))
  ·refine ap (ad J (bI J (aC gG J (aA (k:=0) pr J J J J J J (vG (by decide)) (xm) (aF J (ak J (aa (ax (aH () O J (bQ (aL J)) J [0] [] J J J)))))))))
  ·exact absurd hf (cg h2)
theorem BE(m:Nat)(vp vi vo:SV)(mem:Nat→Int)(fuel used:Int)(hf:used<fuel)(hu: -9000000000000000000≤used∧used≤9000000000000000000):
  bi prog 194 [Pt m] [bh m 204 (xC vp vi vo mem fuel used 0)] [] (.bool true) [bh m 204 (xC vp vi vo mem fuel (used+1) 0)]:=by
 refine aI func194 J ntmps194 J fun w0 M H=>ap (ak J (aa (aT (ad J (bI J (aC gG J (aQ 0 pr J J J lZ (aw J J eD (aa (ai J (fun h1=> ?_) (fun h1=> ?_)))))))))))
 ·exact absurd h1 (by simp)
 ·refine az (a_ (a_ (bJ [8,9,10,11,12,13,14,15,16] _ J (bl (V:= [(0,8,_),(1,9,_),(2,10,_),(3,11,_),(4,12,_),(5,13,_),(6,14,_),(7,15,_),(8,16,_)]) [0,1,2,3,4,5,6,7,8] J J (aD J J (ac J (au J) (ac J (ag rH J) (ac J (ah t3 J J (ay (k:=0) J vE)) (aD J J (ac J (au J) (ac J (ag Co J) (ac J (ah t3 J J (ay (k:=0) J Bd)) (ac J (aR J J gI) av))))))))) J J J (ai J (fun h2=> ?_) (fun h2=> ?_))))))
  ·exact absurd (bW h2) (by omega)
  ·refine az (ap (ad J (bI J (aC rH J (aQ 0 t3 J J J vE (aw J J aO (bI J (aC rH J (aA (k:=0) t3 J J J J J J (vG (by decide)) (zk) (aF J (ak J (aa (ax (aH () O J (bQ (aL J)) J [0] [] J J J))))))))))))))
theorem DQ(b:Nat)(vN vV:SV)(d:Int)(done:Bool)(val:Int)(fr:Vs)(hfl:(fr.length:Int)≤2000000000000)(x:Ba):
  bi prog 206 [Pt b,Sg x] [] [bh b 232 (fC vN vV d done val),sl 1 eS (sv vN) (uh fr),sl 1 eU (sv vV) (vL fr)] (I3 (jc fr x)) []:=by
 refine aI func206 J ntmps206 J fun w0 M H=>ap (ak J (aa (aT (ak J (aa (aB (bC (X:=Nat) (fun i=>i≤fr.length∧∀j p,j<i→fr[j]?=some p→p.1≠x) (fun i=> [(0,Pt b),(1,Sg x),(5,I6 (i:Int))]) (fun i=> []) (fun i=> [(0,bh b 232 (fC vN vV d done val)),(1,sl 1 eS (sv vN) (uh fr)),(2,sl 1 eU (sv vV) (vL fr))]) (fun i=>fr.length-i) 0 ⟨br _,fun j p h=>absurd h (Nat.not_lt_zero _)⟩ J J J (fun i hx0=> ?_))))))))
 obtain⟨n1,n2⟩:=hx0;have hlnm:(uh fr).length=fr.length:=List.length_map ..;refine aT (ad J (ad J (bI J (aC mS J (aP (ah gO J J (dt (k:=0) J J)) (aP (aS underlying46 J (aK (k:=1) J)) (aw J J cr (aa (ai J (fun h1=> ?_) (fun h1=> ?_))))))))))
 ·(try simp only [bj]at h1);have hi:i<fr.length:=by omega
  obtain⟨p,hp⟩:∃p,fr[i]?=some p:=⟨_,bN hi⟩
  have hpn:(uh fr)[i]?=some p.1:=by rw [List.getElem?_map,hp];rfl
  have hpv:(vL fr)[i]?=some p.2:=by rw [List.getElem?_map,hp];rfl
  have hln:(uh fr).length=fr.length:=List.length_map ..;have hlv:(vL fr).length=fr.length:=List.length_map ..;refine az (a_ (aB (ap (ad J (bI J (aC mS J (aP (ah gO J J (dt (k:=0) J J)) (ad J (aP (aN (j:=i) underlying46 t9 J J (aK (k:=1) J) (by first|rfl|omega) (by omega)) (aP (ah t9 J J (bA (aK (k:=1) J) (by intro _;rfl) hpn (by rfl))) (ad J (aw J J cW (aa (ai J (fun h2=> ?_) (fun h2=> ?_)))))))))))))))
  ·have heq:p.1=x:=bW (by rw [←cq];exact h2);refine ap (ad J (bI J (aC rE J (aP (ah qS J J (dt (k:=0) J J)) (ad J (aP (aN (j:=i) underlying48 dm J J (aK (k:=2) J) (by first|rfl|omega) (by omega)) (aP (ah dm J J (bA (aK (k:=2) J) (by intro _;rfl) hpv (by rfl))) (ak J (aa (ax (aH () O J (bQ (aL J)) (by rw [Ic hp heq n2]) [] [] J J J)))))))))))
  ·have hne:p.1≠x:=cg (by rw [←cq];exact h2);refine az (am (ad J (aw J J aO (ak J (aa ?_)))));refine aJ (i+1) ⟨⟨by omega,fun j q hj hq=>by
    by_cases h:j=i
    ·subst h;rw [hp]at hq;cases hq;exact hne
    ·exact n2 j q (by omega) hq⟩,by omega⟩ rfl rfl rfl
 ·(try simp only [bj]at h1);have hi:i=fr.length:=by omega
  have hall:∀p∈fr,p.1≠x:=fun p hp=>by
   obtain⟨j,hj⟩:=List.getElem?_of_mem hp;exact n2 j p (by rw [hi];exact(cJ.1 hj).1) hj
  refine bF (ap (ak J (aa (ax (aH () O J (bQ (aL J)) (by rw [Ib hall]) [] [] J J J)))))
theorem pM(b:Nat)(vN vV:SV)(d:Int)(done:Bool)(val:Int)(fr:Vs)(hfl:(fr.length:Int)≤2000000000000)(x:Ba)(n:Int):
  Spec prog 145 [Pt b,Sg x,I3 n] [bh b 232 (fC vN vV d done val),own 9 1 eS (sv vN) (uh fr),own 41 1 eU (sv vV) (vL fr)] [] (X:=SV×SV) (fun _=>True) (fun _=> .tuple #[]) (fun y=> [bh b 232 (fC y.1 y.2 d done val),own 9 1 eS (sv y.1) (uh (my fr x n)),own 41 1 eU (sv y.2) (vL (my fr x n))]) (fun _=> []):=by
 refine aI func145 J ntmps145 J fun w0 M H=>aT (ak J (aa (aB (bC (X:=Nat) (fun i=>i≤fr.length∧∀j p,j<i→fr[j]?=some p→p.1≠x) (fun i=> [(0,Pt b),(1,Sg x),(2,I3 n),(6,I6 (i:Int))]) (fun i=> [(0,bh b 232 (fC vN vV d done val)),(1,own 9 1 eS (sv vN) (uh fr)),(2,own 41 1 eU (sv vV) (vL fr))]) (fun i=> []) (fun i=>fr.length-i) 0 ⟨br _,fun j p h=>absurd h (Nat.not_lt_zero _)⟩ J J J (fun i hx0=> ?_)))))
 obtain⟨n1,n2⟩:=hx0;have hlnm:(uh fr).length=fr.length:=List.length_map ..;refine aT (ad J (ad J (bI J (aC mS J (aQ 0 gO J J J J (aP (aS underlying46 J (be (k:=1) J)) (aw J J cr (aa (ai J (fun h1=> ?_) (fun h1=> ?_))))))))))
 ·(try simp only [bj]at h1);have hi:i<fr.length:=by omega
  obtain⟨p,hp⟩:∃p,fr[i]?=some p:=⟨_,bN hi⟩
  have hpn:(uh fr)[i]?=some p.1:=by rw [List.getElem?_map,hp];rfl
  have hpv:(vL fr)[i]?=some p.2:=by rw [List.getElem?_map,hp];rfl
  have hln:(uh fr).length=fr.length:=List.length_map ..;have hlv:(vL fr).length=fr.length:=List.length_map ..;refine az (a_ (aB (ap (ad J (bI J (aC mS J (aQ 0 gO J J J J (ad J (aP (aN (j:=i) underlying46 t9 J J (be (k:=1) J) (by first|rfl|omega) (by omega)) (aP (ah t9 J J (bA (be (k:=1) J) (by intro _;rfl) hpn (by rfl))) (ad J (aw J J cW (aa (ai J (fun h2=> ?_) (fun h2=> ?_)))))))))))))))
  ·have heq:p.1=x:=bW (by rw [←cq];exact h2);refine ap (ad J (bI J (aC rE J (aQ 0 qS J J J J (ad J (ad J (aP (aN (j:=i) underlying48 dm J J (be (k:=2) J) (by first|rfl|omega) (by omega)) (nH (k:=2) (e':=n) dm J J J (by intro _;rfl) hpv J J (aa (ax ?_))))))))));have hfin:=wN (n:=n) hp heq n2;obtain⟨hs1,hs2⟩:=DB (n:=n) hp;rw [heq]at hs1 hs2;refine d7 (k:=1) (A':=own 9 1 eS (sv vN) (uh (my fr x n))) J (fun _ _ h=>by rw [hfin];show(own 9 1 eS (sv vN) ((fr.set i (x,n)).map Prod.fst)).pred _ _;rw [hs1];exact h) ?_;refine d7 (k:=2) (A':=own 41 1 eU (sv vV) (vL (my fr x n))) J (fun _ _ h=>by rw [hfin];show(own 41 1 eU (sv vV) ((fr.set i (x,n)).map Prod.snd)).pred _ _;rw [hs2];exact h) ?_;refine aH (vN,vV) O J gn J [0,1,2] [] J J J
  ·have hne:p.1≠x:=cg (by rw [←cq];exact h2);refine az (am (ad J (aw J J aO (ak J (aa ?_)))));refine aJ (i+1) ⟨⟨by omega,fun j q hj hq=>by
    by_cases h:j=i
    ·subst h;rw [hp]at hq;cases hq;exact hne
    ·exact n2 j q (by omega) hq⟩,by omega⟩ rfl rfl rfl
 ·(try simp only [bj]at h1);have hi:i=fr.length:=by omega
  have hall:∀p∈fr,p.1≠x:=fun p hp=>by
   obtain⟨j,hj⟩:=List.getElem?_of_mem hp;exact n2 j p (by rw [hi];exact(cJ.1 hj).1) hj
  refine bF (ap (ad J (ad J (bI J (aC mS J (aQ 0 gO J J J J (ad J (bq eS x underlying46 t9 J (by decide) (by decide) J J J J fun v38=>cM 1 underlying46 t9 J (by decide) (fun _=>J) (fun _=>J) J J J (be (k:=38) J) (by simp only [List.length_map,cE];omega) (by unfold maxLen;simp only [List.length_map,cE];omega) J fun v39=>bI J (aC mS J (aA (k:=0) gO J J J J J J J J (aa (am (ad J (ad J (bI J (aC rE J ?_))))))))))))))));refine aQ 0 qS J J J J (ad J (bq eU n underlying48 dm J (by decide) (by decide) J J J J fun v48=>cM 2 underlying48 dm J (by decide) (fun _=>J) (fun _=>J) J J J (be (k:=48) J) (by simp only [List.length_map,cE];omega) (by unfold maxLen;simp only [List.length_map,cE];omega) J fun v49=>bI J (aC rE J (aA (k:=0) qS J J J J J J J J (aa ?_)))));have hfin:=Cc (n:=n) hall;refine d7 (k:=1) (A':=own 9 1 eS (sv v39) (uh (my fr x n))) J (fun _ _ h=>by rw [hfin,show uh (fr++ [(x,n)])=uh fr++ [x]from List.map_append ..];exact h) ?_;refine d7 (k:=2) (A':=own 41 1 eU (sv v49) (vL (my fr x n))) J (fun _ _ h=>by rw [hfin,show vL (fr++ [(x,n)])=vL fr++ [n]from List.map_append ..];exact h) ?_;refine cm (v39,v49) O J gn J [0,1,2] [] J J J
structure Rn extends En where
 vp:SV
 fu:Int
structure Sx where
 vi:SV
 vo:SV
 out:List Int
 mem:Nat→Int
 used:Int
 er:Int
def xS(e:Rn)(s:Ms)(vo:SV):Sx:=⟨Ef e.vin (e.ins.length-s.inp.length),vo,s.out,s.mem,e.fu-s.fuel,0⟩
abbrev lY(e:Rn)(x:Sx):List Value:=xC e.vp x.vi x.vo x.mem e.fu x.used x.er
def tO(e:Rn)(r:Re Int)(x:Int×Sx):Prop:=(∃s vo,r= .ok x.1 s∧x.2=xS e s vo)∨(x.2.er≠0∧r= .err x.2.er)
structure RkE(e:Rn)(s:Ms):Prop where
 ok:okMs s
 i:SkI e.toEn s
theorem RkE.kp{e:Rn}{s s':Ms}(h:RkE e s)(h':Kp s s'):RkE e s':=⟨h'.ok,h.i.kp h'⟩
def T6(e:Rn)(g d:Nat)(vs:Vs)(t:Tx)(x:Sx)(r:Re Int):Prop:=(∃s vo,x=xS e s vo∧RkE e s∧fw g e.fs d vs t s=some r)∨(x.er≠0∧r= .err x.er)
def KIn(e:Rn)(g d:Nat)(vs:Vs)(acc:List Int)(l:List Tx)(x:Sx)(r:Re (List Int)):Prop:=(∃s vo,x=xS e s vo∧RkE e s∧(∀a∈acc,oW a)∧iq g e.fs d vs acc l s=some r)∨(x.er≠0∧r= .err x.er)
theorem KIn.step{e:Rn}{g d:Nat}{vs:Vs}{acc:List Int}{t:Tx}{l:List Tx}{x:Sx}{r:Re (List Int)}(hF:VF e.fs)(ht:VX e.fs t)(hv:okVs vs)(h:KIn e g d vs acc (t::l) x r):
  ∃g2 rx,g2≤g∧T6 e g2 d vs t x rx∧∀y,tO e rx y→KIn e g2 d vs (acc++ [y.1]) l y.2 r:=by
 rcases h with⟨s,vo,h1,h2,h3,h4⟩|⟨h1,h2⟩
 ·obtain⟨g2,rx,hg,hx,hre,hro⟩:=GR h4;refine⟨g2,rx,by omega,.inl ⟨s,vo,h1,h2,hx⟩,fun y hy=> ?_⟩;rcases hy with⟨s2,vo2,h5,h6⟩|⟨h5,h6⟩
  ·have h7:=hro _ _ h5;rw [h5]at hx;obtain⟨hv1,hv2⟩:=(fI hF g2).x d vs t s y.1 s2 ht hv h2.ok hx;exact .inl ⟨s2,vo2,h6,h2.kp hv2,HL h3 hv1,h7⟩
  ·exact .inr ⟨h5,hre _ h6⟩
 ·refine⟨g,.err x.er,bX _,.inr ⟨h1,J⟩,fun y hy=> ?_⟩;rcases hy with⟨s2,vo2,h5,h6⟩|⟨h5,h6⟩
  ·cases h5
  ·refine .inr ⟨h5,?_⟩;rw [h2];have:=Re.err.inj h6;rw [this]
theorem KIn.done{e:Rn}{g d:Nat}{vs:Vs}{acc:List Int}{x:Sx}{r:Re (List Int)}(h:KIn e g d vs acc [] x r):(∃s vo,x=xS e s vo∧RkE e s∧(∀a∈acc,oW a)∧r= .ok acc s)∨(x.er≠0∧r= .err x.er):=by
 rcases h with⟨s,vo,h1,h2,h3,h4⟩|h
 ·exact .inl ⟨s,vo,h1,h2,h3,J4 h4⟩
 ·exact .inr h
theorem OB{e:Rn}{s:Ms}{vo:SV}(h:SkI e.toEn s){a:Int}{r:List Int}(hr:s.inp=a::r):xC e.vp (Jh (Ef e.vin (e.ins.length-s.inp.length)) 1 1) vo s.mem e.fu (e.fu-s.fuel) 0=lY e (xS e {s with inp:=r} vo):=by
 have h1:=h.len.1;rw [hr,bP]at h1;unfold lY xS;dsimp only;rw [show e.ins.length-r.length=(e.ins.length-s.inp.length)+1 by rw [hr,bP];omega];rfl
theorem BG{α:Type}{T:TypeId}{s:Nat}{enc:α→List Value}{v:Value}{l:List α}:∀w G,(own T s enc v l).pred w G→(∀b,G b→b<w.heap.size)→∃G',(sl s enc v l).pred w G'∧∀b,G' b→G b:=fun w G h _=>⟨G,wq h,fun _ h=>h⟩
abbrev RX(e:Rn)(b d:Nat)(vN vV:SV)(fr:Vs)(t:Tx):List Asn:= [bh b 232 (fC vN vV (d:Int) false 0),own 9 1 eS (sv vN) (uh fr),own 41 1 eU (sv vV) (vL fr),ce t.v t.kids,cx e.vp e.fs,sl 1 eU (sv e.vin) e.ins]
abbrev LX(e:Rn)(x:Sx):List Asn:= [bh e.m 204 (lY e x),own 41 1 eU (sv x.vo) x.out]
def N_(e:Rn)(g:Nat):Prop:=∀(t:Tx)(d b:Nat)(vN vV:SV)(fr vs:Vs)(x:Sx)(r:Re Int),VX e.fs t→d≤12→okVs vs→FrEq fr vs→(fr.length:Int)≤2000000000000→T6 e g d vs t x r→
 Spec prog 195 [Pt e.m,Pt b,xV t] (LX e x) (RX e b d vN vV fr t) (X:=Int×Sx) (tO e r) (fun y=>I3 y.1) (fun y=>LX e y.2) (fun _=> [])
def RP(e:Rn)(g:Nat):Prop:=∀(nm:Ba)(f:Tf)(d:Nat)(va:SV)(al:List Int)(s:Ms)(vo:SV)(r:Re Int),cy e.fs nm=some f→al.length≤f.ps.length→(∀a∈al,oW a)→d≤12→RkE e s→lM g e.fs d f al s=some r→
 Spec prog 114 [Pt e.m,Sg nm,sv va,I6 ((d:Int)+1)] (LX e (xS e s vo)) [sl 1 eU (sv va) al,cx e.vp e.fs,sl 1 eU (sv e.vin) e.ins] (X:=Int×Sx) (tO e r) (fun y=>I3 y.1) (fun y=>LX e y.2) (fun _=> [])
structure Yk where
 i:Nat
 g:Nat
 acc:List Int
 x:Sx
 va:SV
theorem Bh(u:Int):vO (some u)= .agg #[I3 u,.bool true]:=rfl
theorem Kx(e:Rn)(t:Tx)(d b:Nat)(vN vV:SV)(fr vs:Vs)(x:Sx)(r:Re Int)(hx:x.er≠0)(hr:r= .err x.er)(ht:VX e.fs t)(hd:d≤12)(hvs:okVs vs)(hfr:FrEq fr vs)(hfrl:(fr.length:Int)≤2000000000000):
  Spec prog 195 [Pt e.m,Pt b,xV t] (LX e x) (RX e b d vN vV fr t) (X:=Int×Sx) (tO e r) (fun y=>I3 y.1) (fun y=>LX e y.2) (fun _=> []):=by
 refine aI func195 J ntmps195 J fun w0 M H=>ap (ck J J fun b5=>ak J (aF J (ad J (aj (xs:= [.tmp 11]) (IX e.m e.vp x.vi x.vo x.mem e.fu x.used x.er hx) yS [0] [] [0] (fun _ _=>ak J (aa (aT (ad J (aP (cz J) (aa (ai J (fun h1=> ?_) (fun h1=> ?_))))))))))))
 ·(try simp only [bj]at h1);refine ap (ak J (aa (ax (aH (0,x) (.inr ⟨hx,hr⟩) J (bQ (aL J)) J [0,1] [] J J J))))
 ·exact absurd h1 (by simp)
theorem OE(e:Rn)(t:Tx)(d b:Nat)(vN vV:SV)(fr vs:Vs)(g:Nat)(s:Ms)(vo:SV)(r:Re Int)(hr:fw (g+1) e.fs d vs t s=some r)(hfu:s.fuel≤0)(ht:VX e.fs t)(hd:d≤12)(hvs:okVs vs)(hfr:FrEq fr vs)(hfrl:(fr.length:Int)≤2000000000000):
  Spec prog 195 [Pt e.m,Pt b,xV t] (LX e (xS e s vo)) (RX e b d vN vV fr t) (X:=Int×Sx) (tO e r) (fun y=>I3 y.1) (fun y=>LX e y.2) (fun _=> []):=by
 refine aI func195 J ntmps195 J fun w0 M H=> ?_
 unfold fw at hr;rw [ar hfu]at hr;have hr1:r= .err 25:=(cf hr).symm;refine ap (ck J J fun b5=>ak J (aF J (ad J (aj (xs:= [.tmp 11]) (BF e.m e.vp (Ef e.vin (e.ins.length-s.inp.length)) vo s.mem e.fu (e.fu-s.fuel) (by omega)) yS [0] [] [0] (fun _ _=>ak J (aa (aT (ad J (aP (cz J) (aa (ai J (fun h1=> ?_) (fun h1=> ?_))))))))))))
 ·(try simp only [bj]at h1);refine ap (ak J (aa (ax ?_)));refine aH (0,{xS e s vo with er:=25}) (.inr ⟨by show(25:Int)≠0;decide,hr1⟩) J (bQ (aL J)) J [0,1] [] J J J
 ·exact absurd h1 (by simp)
theorem OD(e:Rn)(g:Nat)(hF:VF e.fs)(hfu1: -1000000000000000000≤e.fu)(hfu2:e.fu≤1000000000000000000)(hfl:e.fs.length≤1000000)(ihX:∀k,k≤g→N_ e k)(ihC:∀k,k≤g→RP e k)(t:Tx)(d b:Nat)(vN vV:SV)(fr vs:Vs)(s:Ms)(vo:SV)(r:Re Int)(hs:RkE e s)(hr:fw (g+1) e.fs d vs t s=some r)(hfu:¬s.fuel≤0)(ht:VX e.fs t)(hd:d≤12)(hvs:okVs vs)(hfr:FrEq fr vs)(hfrl:(fr.length:Int)≤2000000000000):
  Spec prog 195 [Pt e.m,Pt b,xV t] (LX e (xS e s vo)) (RX e b d vN vV fr t) (X:=Int×Sx) (tO e r) (fun y=>I3 y.1) (fun y=>LX e y.2) (fun _=> []):=by
 refine aI func195 J ntmps195 J fun w0 M H=> ?_
 unfold fw at hr;rw [ae hfu]at hr;obtain⟨s1,hs1⟩:∃s1:Ms,({s with fuel:=s.fuel-1}:Ms)=s1:=⟨_,J⟩
 have hp:=Kp.pay hs.ok hfu;have hmR:xC e.vp (Ef e.vin (e.ins.length-s.inp.length)) vo s.mem e.fu (e.fu-s.fuel+1) 0=lY e (xS e s1 vo):=by
  rw [←hs1];unfold lY xS;dsimp only
  congr 1
  omega
 have hso:s.out=s1.out:=by rw [←hs1]
 rw [hs1]at hr hp;have h51:=hs.kp hp;have hfub:=hs.ok.out;obtain⟨rk,hk⟩:∃rk,iq g e.fs d vs [] t.kids s1=some rk:=by
  cases h:iq g e.fs d vs [] t.kids s1 with
  | none=>rw [h]at hr;simp at hr
  | some q=>exact⟨q,rfl⟩
 rw [hk]at hr;have htk:=xg ht;have htl:=N8 ht;refine aZ 3 7 J gd (ap (ck J J fun b5=>ak J (aF J (ad J ?_))));refine dh (xs:= [.tmp 11]) (BE e.m e.vp (Ef e.vin (e.ins.length-s.inp.length)) vo s.mem e.fu (e.fu-s.fuel) (by omega) ⟨by omega,by omega⟩) yS [0] [] [0] J J J J J J J J (fun _ _=>J) (fun _ _ _=>J) J (fun _ _=> ?_);rw [hmR];refine ak J (aa (aT (ad J (aP (cz J) (aa (ai J (fun h1=> ?_) (fun h1=> ?_)))))))
 ·exact absurd h1 (by simp)
 ·(try simp only [bj]at h1);refine az (ap (ak J (aa (aT (ak J (aa (aB (cZ 90 (α:=Int) (S:=41) (s:=1) (enc:=eU) ?_))))))));refine bC (X:=Yk) (fun z=>z.i≤t.kids.length∧z.g≤g∧z.acc.length=z.i∧KIn e z.g d vs z.acc (t.kids.drop z.i) z.x rk) (fun z=> [(0,Pt e.m),(1,Pt b),(5,Pt b5),(8,sv z.va),(9,I6 (z.i:Int))]) (fun z=> [(0,bh e.m 204 (lY e z.x)),(1,own 41 1 eU (sv z.x.vo) z.x.out),(5,bh b5 61 (dT t)),(90,own 41 1 eU (sv z.va) z.acc)]) (fun z=> [(0,bh b 232 (fC vN vV (d:Int) false 0)),(1,own 9 1 eS (sv vN) (uh fr)),(2,own 41 1 eU (sv vV) (vL fr)),(3,ce t.v t.kids),(4,cx e.vp e.fs),(5,sl 1 eU (sv e.vin) e.ins),(7,sl 4 dT (sv t.v) t.kids)]) (fun z=>t.kids.length-z.i) ⟨0,g,[],xS e s1 vo,bk⟩ ⟨br _,bX _,J,.inl ⟨s1,vo,J,h51,by simp,hk⟩⟩ J (by dsimp only [xS];rw [hso];rfl) J (fun z hz0=> ?_);obtain⟨i,gz,acc,x,va⟩:=z;obtain⟨n1,n2,n3,n4⟩:=hz0;dsimp only at n1 n2 n3 n4 ⊢;refine aT (ad J (aC dx J (aQ 5 jh J J J J (aP (aS underlying59 J (aK (k:=7) J)) (aw J J cr (aa (ai J (fun h2=> ?_) (fun h2=> ?_))))))))
  ·(try simp only [bj]at h2);have hi:i<t.kids.length:=by omega
   obtain⟨kid,hkid⟩:∃k,t.kids[i]?=some k:=⟨_,bN hi⟩
   rw [yH hkid]at n4;have hkm:=bT hkid;have hvk:=htk.mem kid hkm;obtain⟨g2,rx,hg2,hin,hstep⟩:=n4.step hF hvk hvs;refine az (a_ (aB (am (ad J (ad J (ad J (aC dx J (aQ 5 jh J J J J (ad J (aP (aN (j:=i) underlying59 cl J J (aK (k:=7) J) (by first|rfl|omega) (by first|omega|(simp;done)|(simp;omega))) (aP (aM cl J J J (bA (aK (k:=7) J) (by intro _;rfl) hkid (by rfl))) (aZ 3 8 J (dD hkm) (aj (xs:= [.tmp 23,.tmp 24,.tmp 29]) (ihX g2 (by omega) kid d b vN vV fr vs x rx hvk hd hvs hfr hfrl hin) CJ [0,1] [(false,0),(false,1),(false,2),(false,8),(false,4),(false,5)] [0,1] (fun y hy=>bq eU _ underlying48 dm J (by decide) (by decide) J J J J fun v31=>cM 90 underlying48 dm J (by decide) (fun _=>J) (fun _=>J) J J J (be (k:=31) J) (by first|omega|(simp;done)|(simp;omega)) (by unfold maxLen;first|omega|(simp;done)|(simp;omega)) J fun v32=>ak J (aa (am (ad J ?_)))))))))))))))));refine aw J J aO (ak J (aa ?_));refine aJ ⟨i+1,g2,acc++ [y.1],y.2,v32⟩ ⟨⟨by dsimp only;omega,by dsimp only;omega,by dsimp only;rw [bG,cE];omega,hstep y hy⟩,by dsimp only;omega⟩ J J J
  ·(try simp only [bj]at h2);have hi:i=t.kids.length:=by omega
   rw [List.drop_of_length_le (by omega)]at n4;have n9:=n4.done;refine bF (aT (ad J (bI J (aC gG J (aQ 0 pr J J J lZ (aw J J eD (aa (ai J (fun h3=> ?_) (fun h3=> ?_)))))))))
   ·(try simp only [bj]at h3);have hq:rk= .err x.er:=by
     rcases n9 with⟨sx,vox,hx1,_,_,_⟩|⟨_,hq⟩
     ·rw [hx1]at h3;exact absurd J h3
     ·exact hq
    subst hq;refine ap (ak J (aa (ax (aH (0,x) (.inr ⟨h3,(cf hr).symm⟩) J (bQ (aL J)) J [0,1] [] J J J))))
   ·(try simp only [bj]at h3);clear n4;obtain⟨sx,vox,rfl,n5,n4,hq⟩:∃sx vox,x=xS e sx vox∧RkE e sx∧(∀a∈acc,oW a)∧rk= .ok acc sx:=by
     rcases n9 with h|⟨hq,_⟩
     ·exact h
     ·exact absurd h3 hq
    subst hq;dsimp only at hr;have h7:=ln n4 0;refine az (aT (aC jQ J (aQ 5 t3 J J J J (aa (aB (ap (aw J J bn (ak J (aa (ai J (fun h4=> ?_) (fun h4=> ?_)))))))))))
    ·have q1:t.kind=1:=bW h4;rw [ar q1]at hr;refine ap (aC wP J (aQ 5 dm J J J J (ak J (aa (ax (aH (t.n,xS e sx vox) (.inl ⟨_,vox,(cf hr).symm,J⟩) J (bQ (aL J)) J [0,1] [] J J J))))))
    ·have q1:¬t.kind=1:=cg h4;rw [ae q1]at hr;refine ap (aw J J bn (ak J (aa (ai J (fun h5=> ?_) (fun h5=> ?_)))))
     ·have q2:t.kind=2:=bW h5;rw [ar q2]at hr;refine ap (ad J (aC dI J (aQ 5 t9 J J J J (aZ 1 11 J BG (aZ 2 12 J BG (aj (xs:= [.tmp 46,.tmp 48]) (DQ b vN vV (d:Int) false 0 fr hfrl t.name) Qp [] [(false,0),(false,11),(false,12)] [] (fun _ _=>ak J (aa (ax (aH (jc vs t.name,xS e sx vox) (.inl ⟨_,vox,(cf hr).symm,J⟩) J (bQ (aL J)) (by rw [hfr t.name]) [0,1] [] J J J))))))))))
     ·have q2:¬t.kind=2:=cg h5;rw [ae q2]at hr;refine ap (aw J J bn (ak J (aa (ai J (fun h6=> ?_) (fun h6=> ?_)))))
      ·have q4:t.kind=4:=bW h6;rw [ar q4]at hr;have hm1:=N7 ht q4;refine a_ (bJ [52,53,54,55,56,57,58,59,60,6] _ J (bl (V:= [(0,52,_),(1,53,_),(2,54,_),(3,55,_),(4,56,_),(5,57,_),(6,58,_),(7,59,_),(8,60,_),(9,6,_)]) [0,1,2,3,4,5,6,7,8,9] J J (aD J J (aD J J (ac J (aN (j:=0) underlying48 dm J J (be (k:=90) J) J (by omega)) (ac J (ah dm J J (bA (be (k:=90) J) (by intro _;rfl) (oN 0 (by omega)) (by rfl))) (ac J (aR J J (jt (by decide) (sc h7))) (ac J (au J) (ac J (ag wQ J) (ac J (dz (j:=(acc.getD 0 0%256).toNat) underlying202 dm J J (by omega) (by omega)) (ac J (ah dm J J (ay (k:=0) J (by rw [Nat.mul_one];exact LU (by omega)))) (ac J (cA J) av)))))))))) J J J (ax (aH (sx.mem (acc.getD 0 0%256).toNat,xS e sx vox) (.inl ⟨_,vox,(cf hr).symm,J⟩) J (bQ (aL J)) J [0,1] [] J J J))))
      ·have q4:¬t.kind=4:=cg h6;rw [ae q4]at hr;refine ap (aw J J bn (ak J (aa (ai J (fun h7=> ?_) (fun h7=> ?_)))))
       ·have q5:t.kind=5:=bW h7;rw [ar q5]at hr;refine aZ 5 9 J (Jm n5.i) (ap (ak J (aa (aT (ad J (bI J (aC rI J (aQ 0 qS J J J J (aP (aS underlying48 J (aK (k:=9) J)) (aw J J ec (aa (ai J (fun h8=> ?_) (fun h8=> ?_)))))))))))))
        ·(try simp only [bj]at h8);obtain⟨a,rest,qi⟩:∃a rest,sx.inp=a::rest:=by
          cases h:sx.inp with
          | nil=>rw [h]at h8;simp at h8
          | cons a r=>exact⟨a,r,rfl⟩
         rw [qi]at hr;refine ap (ad J (bI J (aC rI J (aQ 0 qS J J J J (aP (aN (j:=0) underlying48 dm J J (aK (k:=9) J) J (by rw [qi];simp)) ?_)))));refine sE (ah dm J J (bA (aK (k:=9) J) (by intro _;rfl) (show sx.inp[0]?=some a by rw [qi];rfl) (by rfl))) J ?_;refine ak J (aa (am (ad J (ad J (bI J (aC rI J (aQ 0 qS J J J J (aP (z7 (j:=1) underlying48 dm J J (aK (k:=9) J) J (by rw [qi];simp)) (bI J (aC rI J (aA (k:=0) qS J J J J J J J Es ?_)))))))))));refine d7 (k:=0) (A':=bh e.m 204 (lY e (xS e {sx with inp:=rest} vox))) J (fun _ _ h=>by rw [←OB n5.i qi];exact h) ?_;refine aF J (ad J (ak J (aa (ax (aH (a,xS e {sx with inp:=rest} vox) (.inl ⟨_,vox,(cf hr).symm,J⟩) J (bQ (aL J)) J [0,1] [] J J J)))))
        ·(try simp only [bj]at h8);have qi:sx.inp= []:=List.eq_nil_of_length_eq_zero (by omega);rw [qi]at hr;refine az (ap (ad J (ak J (aa (ax (aH (0,xS e sx vox) (.inl ⟨_,vox,(cf hr).symm,J⟩) J (bQ (aL J)) J [0,1] [] J J J))))))
       ·have q5:¬t.kind=5:=cg h7;rw [ae q5]at hr;refine ap (aw J J bn (ak J (aa (ai J (fun h9=> ?_) (fun h9=> ?_)))))
        ·have q6:t.kind=6:=bW h9;rw [ar q6]at hr;obtain⟨hu0,hu1⟩:=Ry ht q6;obtain⟨u,hu⟩:=Option.isSome_iff_exists.1 (hu1 (acc.getD 0 0));rw [hu]at hr;have hun:=xM t.name (acc.getD 0 0) (ln n4 0);rw [hu,Bh]at hun;refine a_ (bJ [86,87,88,89,90,91,92,6] _ J (aW (V:= [(0,86,_),(1,87,_),(2,88,_),(3,89,_),(4,90,_)]) [0,1,2,3,4] 5 [5,4,3,2,1,0] [6,7] (fun _=> [(6,92,_),(7,6,_)]) J J (ac J (ag dI J) (ac J (ah t9 J J (ay (k:=5) J J)) (aD J J (ac J (aN (j:=0) underlying48 dm J J (be (k:=90) J) J (by omega)) (ac J (ah dm J J (bA (be (k:=90) J) (by intro _;rfl) (oN 0 (by omega)) (by rfl))) av))))) J J J J J J J J J J J (fun _ _=>J) J (bB (xs:= [.tmp 87,.tmp 90]) hun Qo [] [] []) (fun _ _=>bl [6,7] J J (ac J (ou Ca dm J J) (ac J (cA J) av)) J J J (ax (aH (u,xS e sx vox) (.inl ⟨_,vox,(cf hr).symm,J⟩) J (bQ (aL J)) J [0,1] [] J J J)))))
        ·have q6:¬t.kind=6:=cg h9;rw [ae q6]at hr;refine ap (aw J J bn (ak J (aa (ai J (fun h10=> ?_) (fun h10=> ?_)))))
         ·have q7:t.kind=7:=bW h10;rw [ar q7]at hr;obtain⟨hu0,hu1⟩:=Rz ht q7;obtain⟨u,hu⟩:=Option.isSome_iff_exists.1 (hu1 (acc.getD 0 0) (acc.getD 1 0));rw [hu]at hr;have hun:=wc t.name (acc.getD 0 0) (acc.getD 1 0) (ln n4 0) (ln n4 1);rw [hu,Bh]at hun;refine a_ ?_;refine bJ [95,96,97,98,99,100,101,102,103,104,6] _ J (aW (V:= [(0,95,_),(1,96,_),(2,97,_),(3,98,_),(4,99,_),(5,100,_),(6,101,_),(7,102,_)]) [0,1,2,3,4,5,6,7] 8 [8,7,6,5,4,3,2,1,0] [9,10] (fun _=> [(9,104,_),(10,6,_)]) J J (ac J (ag dI J) (ac J (ah t9 J J (ay (k:=5) J J)) (aD J J (ac J (aN (j:=0) underlying48 dm J J (be (k:=90) J) J (by omega)) (ac J (ah dm J J (bA (be (k:=90) J) (by intro _;rfl) (oN 0 (by omega)) (by rfl))) (aD J J (ac J (aN (j:=1) underlying48 dm J J (be (k:=90) J) J (by omega)) (ac J (ah dm J J (bA (be (k:=90) J) (by intro _;rfl) (oN 0 (by omega)) (by rfl))) av)))))))) J J J J J J J J J J J (fun _ _=>J) J (bB (xs:= [.tmp 96,.tmp 99,.tmp 102]) hun Qn [] [] []) (fun _ _=>bl [9,10] J J (ac J (ou Ca dm J J) (ac J (cA J) av)) J J J ?_));refine ax (aH (u,xS e sx vox) (.inl ⟨_,vox,(cf hr).symm,J⟩) J (bQ (aL J)) J [0,1] [] J J J)
         ·have q7:¬t.kind=7:=cg h10;rw [ae q7]at hr;obtain⟨f,hff,hfl2⟩:=CY ht q1 q2 q4 q5 q6 q7;rw [hff]at hr;refine cQ 90 91 J bO (az (a_ (bJ [105,106,107,108,109,110,111,112,113,114,6] _ J (aW (V:= [(0,105,_),(1,106,_),(2,107,_),(3,108,_),(4,109,_),(5,110,_),(6,111,_),(7,112,_),(8,113,_)]) [0,1,2,3,4,5,6,7,8] 9 [9,8,7,6,5,4,3,2,1,0] [10] (fun y=> [(10,6,_)]) J J (aD J J (ac J (ag dI J) (ac J (ah t9 J J (ay (k:=5) J J)) (aD J J (aD J J (ac J (au J) (ac J (ag JT J) (ac J (ah t3 J J (dt (k:=0) J J)) (ac J (aR J J aO) av))))))))) J J J J J J J J J J J (fun _ _=>J) J (bB (xs:= [.tmp 105,.tmp 107,.tmp 108,.tmp 113]) (ihC g (bX g) t.name f d va acc sx vox r hff (by omega) n4 hd n5 hr) LH [0,1] [(false,91),(false,4),(false,5)] [0,1]) (fun y hy=>bl [10] J J (ac J (cA J) av) J J J (ax (aH y hy J (bQ (aL J)) J [0,1] [] J J J)))))))
theorem H_{e:Rn}:N_ e 0:=fun t d b vN vV fr vs x r ht hd hv hf hn h=>by
 rcases h with⟨s,vo,_,_,h⟩|⟨h1,h2⟩
 ·simp [fw]at h
 ·exact Kx e t d b vN vV fr vs x r h1 h2 ht hd hv hf hn
theorem Ia{e:Rn}{g:Nat}(hF:VF e.fs)(hfu1: -1000000000000000000≤e.fu)(hfu2:e.fu≤1000000000000000000)(hfl:e.fs.length≤1000000)(ihX:∀k,k≤g→N_ e k)(ihC:∀k,k≤g→RP e k):N_ e (g+1):=fun t d b vN vV fr vs x r ht hd hv hf hn h=>by
 rcases h with⟨s,vo,h1,h2,h3⟩|⟨h1,h2⟩
 ·subst h1;by_cases hfu:s.fuel≤0
  ·exact OE e t d b vN vV fr vs g s vo r h3 hfu ht hd hv hf hn
  ·exact OD e g hF hfu1 hfu2 hfl ihX ihC t d b vN vV fr vs s vo r h2 h3 hfu ht hd hv hf hn
 ·exact Kx e t d b vN vV fr vs x r h1 h2 ht hd hv hf hn
theorem CX{α:Type}{p:α→Bool}{l:List α}{u:α}(hm:u∈l)(h:p u=true):l.any p=true:=List.any_eq_true.2 ⟨u,hm,h⟩
def eQ(p:SV×List Ba):List Value:= [sv p.1]
def K1(v:SV)(l:List (SV×List Ba)):Asn:=⟨fun w F=>SlIn' w F 1 eQ (sv v) l∧∀p∈l,SlIn' w F 1 eS (sv p.1) p.2,fun h hs=>⟨h.1.stable hs,fun p hp=>(h.2 p hp).stable hs⟩⟩
theorem KZ{v:SV}{l:List (SV×List Ba)}:∀w G,(K1 v l).pred w G→(∀b,G b→b<w.heap.size)→∃G',(sl 1 eQ (sv v) l).pred w G'∧∀b,G' b→G b:=fun w G h _=>h.1
theorem K0{v:SV}{l:List (SV×List Ba)}{p:SV×List Ba}(hp:p∈l):∀w G,(K1 v l).pred w G→(∀b,G b→b<w.heap.size)→∃G',(sl 1 eS (sv p.1) p.2).pred w G'∧∀b,G' b→G b:=fun w G h _=>h.2 p hp
abbrev Oi(a b c d e f g h:SV):List (SV×List Ba):= [(a,[j9]),(b,[fo]),(c,[ff]),(d,[nh,na]),(e,[lU,nf,ng,n8]),(f,[gw,gU]),(g,[fU,dR]),(h,[gB,kA,lg])]
theorem M4{v a b c d e f g h:SV}(w:World)(F:Nat→Prop)(hh:AllIn w F [own 9 1 eS (sv a) [j9],own 9 1 eS (sv b) [fo],own 9 1 eS (sv c) [ff],own 9 1 eS (sv d) [nh,na],own 9 1 eS (sv e) [lU,nf,ng,n8],own 9 1 eS (sv f) [gw,gU],own 9 1 eS (sv g) [fU,dR],own 9 1 eS (sv h) [gB,kA,lg],own 46 1 eQ (sv v) (Oi a b c d e f g h)]):(K1 v (Oi a b c d e f g h)).pred w F:=by
 obtain⟨⟨_,a1,b1⟩,⟨_,a2,b2⟩,⟨_,a3,b3⟩,⟨_,a4,b4⟩,⟨_,a5,b5⟩,⟨_,a6,b6⟩,⟨_,a7,b7⟩,⟨_,a8,b8⟩,⟨_,a9,b9⟩,_⟩:=hh;refine⟨dj a9 b9,fun p hp=> ?_⟩;simp only [Oi,List.mem_cons,List.not_mem_nil,or_false]at hp;rcases hp with rfl|rfl|rfl|rfl|rfl|rfl|rfl|rfl
 ·exact dj a1 b1
 ·exact dj a2 b2
 ·exact dj a3 b3
 ·exact dj a4 b4
 ·exact dj a5 b5
 ·exact dj a6 b6
 ·exact dj a7 b7
 ·exact dj a8 b8
theorem MU{k:Int}{nm:Ba}{n:Nat}(h:k=6):nZ k nm n=(((nm==⟨#[45]⟩) || (nm==⟨#[126]⟩) || (nm==⟨#[33]⟩))&&decide ((n:Int)=1)):=by
 rw [KP h]
 congr 1
 simp only [cn,tQ,List.any_cons,List.any_nil,Bool.or_false,cq,Bool.or_assoc];rfl
def TN(t:Tx):Prop:=bi prog 137 [xV t] [] [ce t.v t.kids] (.bool (rX t)) []
theorem O7{t:Tx}(h:nZ t.kind t.name t.kids.length=false∨(t.kind≠1∧t.n≠0)):rX t=false:=by
 rw [BA];rcases h with h|⟨h1,h2⟩
 ·rw [h];rfl
 ·rw [decide_eq_false h1,decide_eq_false h2];simp
theorem Mr{t u:Tx}(hu:u∈t.kids)(h:rX u=false):rX t=false:=by
 rw [BA,CX hu (by rw [h];rfl)];simp
theorem Mq{t:Tx}(h:nZ t.kind t.name t.kids.length=true)(h2:t.kind=1∨t.n=0)(h3:t.kids.any (fun u=> !rX u)=false):rX t=true:=by
 rw [BA,h,h3];rcases h2 with h2|h2
 ·rw [decide_eq_true h2];rfl
 ·rw [decide_eq_true h2];simp
theorem y5{α:Type}{p:α→Bool}{l:List α}{i:Nat}{u:α}(h:l[i]?=some u):(l.take (i+1)).any p=((l.take i).any p || p u):=by
 rw [cj h];simp
theorem oJ:
  Spec prog 21 [] [] [] (X:=SV×List (SV×List Ba)) (fun x=>x.2.map (fun p=>p.2)=rlv) (fun x=>sv x.1) (fun x=> [K1 x.1 x.2]) (fun _=> []):=by
 refine aI func21 J ntmps21 J fun w0 M H=>ap (ak J (aF J (bq eS j9 underlying46 t9 J (by decide) (by decide) J J J J fun v1=>bq eS fo underlying46 t9 J (by decide) (by decide) J J J J fun v2=>bq eS ff underlying46 t9 J (by decide) (by decide) J J J J fun v3=>dv eS [nh,na] (parts:= [(0,.const (Sg (ByteArray.mk #[61,61]))),(1,.const (Sg (ByteArray.mk #[33,61])))]) underlying46 t9 J (by decide) (by intro _;rfl) J (by decide) (by decide) J J J J fun v4=>dv eS [lU,nf,ng,n8] (parts:= [(0,.const (Sg (ByteArray.mk #[60]))),(1,.const (Sg (ByteArray.mk #[60,61]))),(2,.const (Sg (ByteArray.mk #[62]))),(3,.const (Sg (ByteArray.mk #[62,61])))]) underlying46 t9 J (by decide) (by intro _;rfl) J (by decide) (by decide) J J J J fun v5=>dv eS [gw,gU] (parts:= [(0,.const (Sg (ByteArray.mk #[60,60]))),(1,.const (Sg (ByteArray.mk #[62,62])))]) underlying46 t9 J (by decide) (by intro _;rfl) J (by decide) (by decide) J J J J fun v6=>dv eS [fU,dR] (parts:= [(0,.const (Sg (ByteArray.mk #[43]))),(1,.const (Sg (ByteArray.mk #[45])))]) underlying46 t9 J (by decide) (by intro _;rfl) J (by decide) (by decide) J J J J fun v7=>dv eS [gB,kA,lg] (parts:= [(0,.const (Sg (ByteArray.mk #[42]))),(1,.const (Sg (ByteArray.mk #[47]))),(2,.const (Sg (ByteArray.mk #[37])))]) underlying46 t9 J (by decide) (by intro _;rfl) J (by decide) (by decide) J J J J fun v8=>dv eQ (Oi v1 v2 v3 v4 v5 v6 v7 v8) (parts:= [(0,.tmp 1),(1,.tmp 2),(2,.tmp 3),(3,.tmp 4),(4,.tmp 5),(5,.tmp 6),(6,.tmp 7),(7,.tmp 8)]) underlying44 gO J (by decide) (by intro _;rfl) J (by decide) (by decide) J J J J fun v9=>ak J (aa (ax (bz 60 [1,2,3,4,5,6,7,8,9] (C:=K1 v9 (Oi v1 v2 v3 v4 v5 v6 v7 v8)) J M4 ?_))))))
 refine aH (v9,Oi v1 v2 v3 v4 v5 v6 v7 v8) J J (bQ (aL J)) J [60] [] J J J
theorem Du(s:Ba):
  Spec prog 173 [Sg s] [] [] (X:=Int) (fun r=>decide (r≥0)=il s) (fun r=>I6 r) (fun _=> []) (fun _=> []):=by
 refine aI func173 J ntmps173 J fun w0 M H=>ap (ak J (aF J (aj (xs:= []) oJ Ql [] [] [60] (fun⟨v6,ls⟩ hls=> ?_))))
 dsimp only at hls ⊢;have hll:ls.length=8:=by have h:=congrArg List.length hls;rw [List.length_map]at h;exact h
 have hbin:il s=ls.any fun p=>cn s p.2:=by rw [←IP,←hls,List.any_map];rfl
 refine cQ 60 20 J (fun _ _ h=>h) (aZ 20 21 J KZ (ak J (aa (aT (ak J (aa (aB (bC (X:=Nat) (fun i=>i≤ls.length∧((ls.take i).any fun p=>cn s p.2)=false) (fun i=> [(0,Sg s),(3,sv v6),(4,I6 (i:Int))]) (fun i=> []) (fun i=> [(20,K1 v6 ls),(21,sl 1 eQ (sv v6) ls)]) (fun i=>ls.length-i) 0 ⟨br _,J⟩ J J J (fun i hx0=> ?_)))))))));obtain⟨n1,n2⟩:=hx0;refine aT (ad J (ad J (aP (aS underlying44 J (aK (k:=21) J)) (aw J J cr (aa (ai J (fun h1=> ?_) (fun h1=> ?_)))))))
 ·(try simp only [bj]at h1);have hi:i<ls.length:=by omega
  obtain⟨p,hx⟩:∃k,ls[i]?=some k:=⟨_,bN hi⟩
  have hpm:=bT hx;have hpl:p.2.length≤1000000:=by
   have h:p.2∈rlv:=by rw [←hls];exact List.mem_map_of_mem hpm
   simp only [rlv,List.mem_cons,List.not_mem_nil,or_false]at h;rcases h with h|h|h|h|h|h|h|h<;>rw [h]<;>decide
  refine az (a_ (aB (ap (ad J (ad J (ad J (aP (aN (j:=i) underlying44 gO J J (aK (k:=21) J) (by first|rfl|omega) (by first|omega|(simp;done)|(simp;omega))) (aP (ah gO J J (bA (aK (k:=21) J) (by intro _;rfl) hx (by rfl))) (aZ 20 22 J (K0 hpm) (aj (xs:= [.tmp 13,.tmp 17]) (lE s p.1 p.2 hpl) A2 [] [(false,22)] [] (fun _ _=>ak J (aF J (ad J (aa (ai J (fun h2=> ?_) (fun h2=> ?_))))))))))))))))
  ·have hct:cn s p.2=true:=h2;refine ap (ad J (ak J (aa (ax (aH (i:Int) (by rw [hbin,CX (p:=fun p=>cn s p.2) hpm hct];exact decide_eq_true (by omega)) J (bQ (aL J)) J [] [] J J J)))))
  ·have hcf:cn s p.2=false:=h2;refine az (am (ad J (aw J J aO (ak J (aa ?_)))));refine aJ (i+1) ⟨⟨by omega,by rw [y5 hx,n2,hcf];rfl⟩,by omega⟩ J J J
 ·(try simp only [bj]at h1);have hi:i=ls.length:=by omega
  subst hi;rw [cS]at n2;refine bF (ap (ak J (aa (ax (aH (-1) (by rw [hbin,n2];rfl) J (bQ (aL J)) J [] [] J J J)))))
theorem E9(t:Tx)(hkl:t.kids.length≤1000000)(ih:∀u∈t.kids,TN u):
  bi prog 137 [xV t] [] [ce t.v t.kids] (.bool (rX t)) []:=by
 refine aI func137 J ntmps137 J fun w0 M H=>aZ 0 1 J gd (ap (ck J J fun b1=>ak J (aF J (aC dI J (aQ 1 t9 J J J J (aj (xs:= [.tmp 9]) (ki t.name) CQ [] [] [] (fun _ _=>ak J (aF J (aC dx J (aQ 1 jh J J J J (aP (aS underlying59 J (aK (k:=1) J)) (ak J ?_))))))))))))
 refine aF J (ak J (aa (bx (X:=Unit) (fun _=>True) (fun _=> [(1,Pt b1),(4,I6 (t.kids.length:Int)),(5,.bool (nZ t.kind t.name t.kids.length))]) (fun _=> [(1,bh b1 61 (dT t))]) (fun _=> [(0,ce t.v t.kids),(1,sl 4 dT (sv t.v) t.kids)]) ?_ (fun _ _=> ?_))))
 ·refine ap (aC jQ J (aQ 1 t3 J J J J (aa (aB (ap (aw J J bn (ak J (aa (ai J (fun h1=> ?_) (fun h1=> ?_))))))))))
  ·have q1:t.kind=1:=bW h1;refine am (aC dI J (aQ 1 t9 J J J J (aw J J cW (ad J (aG [] J J O (fun hg2=>bc J) J (aG [(22,_)] J J ⟨J,O⟩ (fun hg3=>aR J J bn) J (aP (bH J J J) (ak J (aa (aJ () O (by rw [BK (.inl q1)];rfl) J J))))))))))
  ·have q1:¬t.kind=1:=cg h1;refine ap (aw J J bn (ak J (aa (ai J (fun h4=> ?_) (fun h4=> ?_)))))
   ·have q2:t.kind=2:=bW h4;refine am (ad J (ad J (aG [] J J O (fun hg5=>bc J) J (aG [(29,_)] J J ⟨J,O⟩ (fun hg6=>aR J J bn) J (aP (bH J J J) (ak J (aa (aJ () O (by rw [KT q2];rfl) J J))))))))
   ·have q2:¬t.kind=2:=cg h4;refine ap (aw J J bn (ak J (aa (ai J (fun h7=> ?_) (fun h7=> ?_)))))
    ·have q3:t.kind=3:=bW h7;refine am (ad J (ak J (aa (aJ () O (by rw [KS q3];rfl) J J))))
    ·have q3:¬t.kind=3:=cg h7;refine ap (aw J J bn (ak J (aa (ai J (fun h8=> ?_) (fun h8=> ?_)))))
     ·have q4:t.kind=4:=bW h8;refine am (aC dI J (aQ 1 t9 J J J J (aw J J cW (ad J (aG [] J J O (fun hg9=>bc J) J (aG [(41,_)] J J ⟨J,O⟩ (fun hg10=>aR J J bn) J (aP (bH J J J) (ak J (aa (aJ () O (by rw [KQ q4];rfl) J J))))))))))
     ·have q4:¬t.kind=4:=cg h8;refine ap (aw J J bn (ak J (aa (ai J (fun h11=> ?_) (fun h11=> ?_)))))
      ·have q5:t.kind=5:=bW h11;refine am (aC dI J (aQ 1 t9 J J J J (aw J J cW (ad J (aG [] J J O (fun hg12=>bc J) J (aG [(50,_)] J J ⟨J,O⟩ (fun hg13=>aR J J bn) J (aP (bH J J J) (ak J (aa (aJ () O (by rw [BK (.inr q5)];rfl) J J))))))))))
      ·have q5:¬t.kind=5:=cg h11;refine ap (aw J J bn (ak J (aa (ai J (fun h14=> ?_) (fun h14=> ?_)))))
       ·have q6:t.kind=6:=bW h14;refine am (aC dI J (aQ 1 t9 J J J J (aw J J cW (ad J (aG [] J J O (fun hg15=>ag dI J) J (aG [(59,_)] J J ⟨J,O⟩ (fun hg16=>ah t9 J J (ay (k:=1) J J)) J (aG [(59,_),(60,_)] J J ⟨J,J,O⟩ (fun hg17=>aR J J cW) J (aP (bH J J J) (ad J (aG [] J J O (fun hg18=>ag dI J) J (aG [(64,_)] J J ⟨J,O⟩ (fun hg19=>ah t9 J J (ay (k:=1) J J)) J (aG [(64,_),(65,_)] J J ⟨J,J,O⟩ (fun hg20=>aR J J cW) J (aP (bH J J J) (ad J (aG [] J J O (fun hg21=>bc J) J (aG [(69,_)] J J ⟨J,O⟩ (fun hg22=>aR J J bn) J (aP (bH J J J) (ak J (aa ?_)))))))))))))))))));refine aJ () O (by rw [MU q6];rfl) J J
       ·have q6:¬t.kind=6:=cg h14;refine ap (aw J J bn (ak J (aa (ai J (fun h23=> ?_) (fun h23=> ?_)))))
        ·have q7:t.kind=7:=bW h23;refine am (aC dI J (aQ 1 t9 J J J J (aj (xs:= [.tmp 75]) (Du t.name) QH [] [] [] (fun r hr=>aw J J gI (ad J (aG [] J J O (fun hg24=>bc J) J (aG [(79,_)] J J ⟨J,O⟩ (fun hg25=>aR J J bn) J (aP (bH J J J) (ak J (aa (aJ () O (by rw [KO q7,←hr];rfl) J J)))))))))))
        ·have q7:¬t.kind=7:=cg h23;refine az (aJ () O (by rw [KU q1 q5 q2 q3 q4 q6 q7];rfl) J J)
 ·refine aT (ad J (aP (cz J) (ad J (aG [] J J O (fun hg26=>ag jQ J) J (aG [(85,_)] J J ⟨J,O⟩ (fun hg27=>ah t3 J J (ay (k:=1) J J)) J (aG [(85,_),(86,_)] J J ⟨J,J,O⟩ (fun hg28=>aR J J eD) J (aG [(85,_),(86,_),(87,_)] J J ⟨J,J,J,O⟩ (fun hg29=>bc J) J (cD [] [(85,_),(86,_),(87,_),(88,_)] J J O ⟨J,J,J,J,O⟩ (fun hg30 hg30'=>ag wP J) J (cD [(89,_)] [(85,_),(86,_),(87,_),(88,_)] J J ⟨J,O⟩ ⟨J,J,J,J,O⟩ (fun hg31 hg31'=>ah dm J J (ay (k:=1) J J)) J (cD [(89,_),(90,_)] [(85,_),(86,_),(87,_),(88,_)] J J ⟨J,J,O⟩ ⟨J,J,J,J,O⟩ (fun hg32 hg32'=>aR J J eD) J (aG [(85,_),(86,_),(87,_),(88,_)] J J ⟨J,J,J,J,O⟩ (fun hg33=>eL J J J (by first|exact dL|exact ef|exact dc hg33|exact dA hg33|rfl)) J (aP (bH J J J) (aa (ai J (fun h34=> ?_) (fun h34=> ?_)))))))))))))))
  ·(try simp only [bj]at h34);have qc:=h34;refine ap (ak J (aa (ax (aH () O J (bQ (aL J)) (congrArg Value.bool (O7 qc).symm) [] [] J J J))))
  ·(try simp only [bj]at h34);have qc:=h34;refine az (aT (ak J (aa (aB (bC (X:=Nat) (fun i=>i≤t.kids.length∧((t.kids.take i).any fun u=> !rX u)=false) (fun i=> [(1,Pt b1),(4,I6 (t.kids.length:Int)),(6,I6 (i:Int))]) (fun i=> [(1,bh b1 61 (dT t))]) (fun i=> [(0,ce t.v t.kids),(1,sl 4 dT (sv t.v) t.kids)]) (fun i=>t.kids.length-i) 0 ⟨br _,J⟩ J J J (fun i hx0=> ?_))))));obtain⟨n1,n2⟩:=hx0;refine aT (ad J (ad J (aw J J cr (aa (ai J (fun h35=> ?_) (fun h35=> ?_))))))
   ·(try simp only [bj]at h35);have hi:i<t.kids.length:=by omega
    obtain⟨u,hu⟩:∃u,t.kids[i]?=some u:=⟨_,bN hi⟩
    have hum:=bT hu;refine az (a_ (aB (ap (aC dx J (aQ 1 jh J J J J (ad J (aP (aN (j:=i) underlying59 cl J J (aK (k:=1) J) (by first|rfl|omega) (by first|omega|(simp;done)|(simp;omega))) (aP (aM cl J J J (bA (aK (k:=1) J) (by intro _;rfl) hu (by rfl))) (aZ 0 7 J (dD hum) (aj (xs:= [.tmp 103]) (ih u hum) LA [] [(false,7)] [] (fun _ _=>ak J (aF J (ad J (aP (cz J) (aa (ai J (fun h36=> ?_) (fun h36=> ?_)))))))))))))))))
    ·have hct:rX u=false:=by simpa using h36
     refine ap (ak J (aa (ax (aH () O J (bQ (aL J)) (congrArg Value.bool (Mr hum hct).symm) [] [] J J J))))
    ·have hcf:rX u=true:=by simpa using h36
     refine az (am (ad J (aw J J aO (ak J (aa ?_)))));refine aJ (i+1) ⟨⟨by omega,by rw [y5 hu,n2,hcf];rfl⟩,by omega⟩ J J J
   ·(try simp only [bj]at h35);have hi:i=t.kids.length:=by omega
    subst hi;rw [cS]at n2;refine bF (ap (ak J (aa (ax (aH () O J (bQ (aL J)) (congrArg Value.bool (Mq qc.1 qc.2 n2).symm) [] [] J J J)))))
theorem Bu:∀(n:Nat)(t:Tx),SizeOf.sizeOf t<n→GX t→TN t
 | 0,_,h,_=>absurd h (Nat.not_lt_zero _)
 | n+1,t,h,ht=>E9 t (mC ht) fun u hu=>Bu n u (by have:=qy hu;omega) ((kx ht).mem u hu)
theorem E_(t:Tx)(ht:GX t):TN t:=Bu _ t (Nat.lt_succ_self _) ht
def RN(v:SV)(l:List Ty):Prop:=bi prog 103 [sv v] [] [bV v l] (.bool (l.all rY)) []
theorem pj{α:Type}{p:α→Bool}{l:List α}{i:Nat}{u:α}(h:l[i]?=some u):(l.take (i+1)).all p=((l.take i).all p&&p u):=by
 rw [cj h];simp
theorem lF{α:Type}{p:α→Bool}{l:List α}{u:α}(hm:u∈l)(h:p u=false):l.all p=false:=by
 rw [Bool.eq_false_iff];intro h2;rw [List.all_eq_true]at h2;rw [h2 u hm]at h;cases h
theorem ml(t:Ty):rY t=(uf t.kind t.name t.es.length t.body.length t.els.length&&t.es.all rX&&t.body.all rY&&t.els.all rY):=by
 cases t;rw [rY,ri,hZ,hZ];rfl
theorem R_{t:Ty}(h:t.kind<1∨t.kind>8):rY t=false:=by
 rw [ml];unfold uf;rcases h with h|h
 ·rw [decide_eq_false (show ¬t.kind≥1 by omega)];rfl
 ·rw [decide_eq_false (show ¬t.kind≤8 by omega)];simp
theorem R9{t:Ty}(h:(((decide (t.kind=1) || decide (t.kind=2))&& !bS t.name) || (!(decide (t.kind=1) || decide (t.kind=2))&& !(t.name==⟨#[]⟩)) || !decide ((t.es.length:Int)=(if t.kind=3 then 2 else 1)))=true):rY t=false:=by
 rw [ml];unfold uf;by_cases hn:t.es.length=if t.kind=3 then 2 else 1
 ·have hn2:(t.es.length:Int)=if t.kind=3 then 2 else 1:=by
   rw [hn];split<;>rfl
  rw [decide_eq_true hn2]at h;by_cases hk:t.kind=1∨t.kind=2
  ·have hk2:(decide (t.kind=1) || decide (t.kind=2))=true:=by simpa using hk
   rw [hk2]at h;rw [ar hk];have h3:bS t.name=false:=by simpa using h
   rw [h3];simp
  ·have hk2:(decide (t.kind=1) || decide (t.kind=2))=false:=by simpa using hk
   rw [hk2]at h;rw [ae hk];have h3:(t.name==⟨#[]⟩)=false:=by simpa using h
   rw [cq]at h3;rw [show decide (t.name=oNil)=false from h3];simp
 ·rw [decide_eq_false hn];simp
theorem Sd{t:Ty}(h:(!decide (t.kind=4)&&(decide ((t.els.length:Int)>0) || (!decide (t.kind=5)&&decide ((t.body.length:Int)>0))))=true):rY t=false:=by
 rw [ml];unfold uf;have h4:t.kind≠4:=by
  intro h4;rw [decide_eq_true h4]at h;simp at h
 rw [decide_eq_false h4];by_cases h5:t.els.length=0
 ·rw [h5]at h;by_cases h6:t.kind=5
  ·rw [decide_eq_true h6]at h;simp at h
  ·by_cases h7:t.body.length=0
   ·rw [h7]at h;simp at h
   ·rw [decide_eq_false h6,decide_eq_false h7];simp
 ·rw [decide_eq_false h5];simp
theorem Sa{t:Ty}{u:Tx}(hm:u∈t.es)(h:rX u=false):rY t=false:=by
 rw [ml,lF hm h];simp
theorem R8{t:Ty}(h:t.body.all rY=false∨t.els.all rY=false):rY t=false:=by
 rw [ml];rcases h with h|h<;>rw [h]<;>simp
theorem O5{t:Ty}(h1:¬t.kind<1∧¬t.kind>8)(h2:(((decide (t.kind=1) || decide (t.kind=2))&& !bS t.name) || (!(decide (t.kind=1) || decide (t.kind=2))&& !(t.name==⟨#[]⟩)) || !decide ((t.es.length:Int)=(if t.kind=3 then 2 else 1)))=false)
  (h3:(!decide (t.kind=4)&&(decide ((t.els.length:Int)>0) || (!decide (t.kind=5)&&decide ((t.body.length:Int)>0))))=false) (h4:t.es.all rX=true) (h5:t.body.all rY=true∧t.els.all rY=true):rY t=true:=by
 rw [ml,h4,h5.1,h5.2];unfold uf;rw [decide_eq_true (show t.kind≥1 by omega),decide_eq_true (show t.kind≤8 by omega)];simp only [Bool.or_eq_false_iff]at h2;have hn:t.es.length=if t.kind=3 then 2 else 1:=by
  have h:=h2.2;simp only [Bool.not_eq_false',decide_eq_true_eq]at h;split at h<;>rename_i h6
  ·rw [ar h6];omega
  ·rw [ae h6];omega
 rw [decide_eq_true hn];have hnm:(if t.kind=1∨t.kind=2 then bS t.name else decide (t.name=oNil))=true:=by
  by_cases hk:t.kind=1∨t.kind=2
  ·have hk2:(decide (t.kind=1) || decide (t.kind=2))=true:=by simpa using hk
   have h:=h2.1.1;rw [hk2]at h;rw [ar hk];simpa using h
  ·have hk2:(decide (t.kind=1) || decide (t.kind=2))=false:=by simpa using hk
   have h:=h2.1.2;rw [hk2]at h;rw [ae hk];have h7:(t.name==⟨#[]⟩)=true:=by simpa using h
   rw [cq]at h7;exact h7
 rw [hnm];by_cases h8:t.kind=4
 ·rw [decide_eq_true h8];rfl
 ·rw [decide_eq_false h8]at h3;simp only [Bool.not_false,Bool.true_and,Bool.or_eq_false_iff]at h3;have h9:t.els.length=0:=by
   have h:=cg h3.1;omega
  rw [decide_eq_true h9];by_cases h10:t.kind=5
  ·rw [decide_eq_true h10];simp
  ·have h:=h3.2;rw [decide_eq_false h10]at h;have h11:t.body.length=0:=by
    have h:=cg (show decide ((t.body.length:Int)>0)=false by simpa using h);omega
   rw [decide_eq_true h11];simp
theorem E5(v:SV)(l:List Ty)(hl:l.length≤1000000)(hg:GYs l)(ih:∀u∈l,RN u.vb u.body∧RN u.vl u.els):
  bi prog 103 [sv v] [] [bV v l] (.bool (l.all rY)) []:=by
 refine aI func103 J ntmps103 J fun w0 M H=>aZ 0 1 J ic (ap (ak J (aa (aT (ak J (aa (aB (bC (X:=Nat) (fun i=>i≤l.length∧(l.take i).all rY=true) (fun i=> [(0,sv v),(3,I6 (i:Int))]) (fun i=> []) (fun i=> [(0,bV v l),(1,sl 5 eE (sv v) l)]) (fun i=>l.length-i) 0 ⟨br _,J⟩ J J J (fun i hx0=> ?_)))))))))
 obtain⟨n1,n2⟩:=hx0;refine aT (ad J (ad J (aP (aS underlying62 J (aK (k:=1) J)) (aw J J cr (aa (ai J (fun h1=> ?_) (fun h1=> ?_)))))))
 ·(try simp only [bj]at h1);have hi:i<l.length:=by omega
  obtain⟨st,hst⟩:∃k,l[i]?=some k:=⟨_,bN hi⟩
  have hsm:=bT hst;have hsg:=pn (hg.mem st hsm);refine aZ 0 7 J (kZ hsm) (aZ 0 8 J (gS hsm) (aZ 0 9 J (iO hsm) (aZ 7 10 J gd (aZ 8 11 J ic (aZ 9 12 J ic (az (a_ (aB (ap (ad J (ad J (aP (aN (j:=i) underlying62 dK J J (aK (k:=1) J) (by first|rfl|omega) (by first|omega|(simp;done)|(simp;omega))) (aP (aM dK J J J (bA (aK (k:=1) J) (by intro _;rfl) hst (by rfl))) (aY dK J J fun b4=>aq (k:=4) dK J J J J J J (aa (a_ (a_ ?_)))))))))))))))));refine am (aC eM J (aQ 4 t3 J J J J (aw J J cr (ad J (aG [] J J O (fun hg2=>ag eM J) J (aG [(26,_)] J J ⟨J,O⟩ (fun hg3=>ah t3 J J (ay (k:=4) J J)) J (aG [(26,_),(27,_)] J J ⟨J,J,O⟩ (fun hg4=>aR J J ec) J (aP (bH J J J) (aa (ai J (fun h5=> ?_) (fun h5=> ?_)))))))))))
  ·(try simp only [bj]at h5);have q2:=h5;refine ap (ak J (aa (ax (aH () O J (bQ (aL J)) (congrArg Value.bool (lF hsm (R_ q2)).symm) [] [] J J J))))
  ·(try simp only [bj]at h5);have q2:=h5;refine az (ap (aC eM J (aQ 4 t3 J J J J (aw J J bn (ad J (aG [] J J O (fun hg6=>ag eM J) J (aG [(34,_)] J J ⟨J,O⟩ (fun hg7=>ah t3 J J (ay (k:=4) J J)) J (aG [(34,_),(35,_)] J J ⟨J,J,O⟩ (fun hg8=>aR J J bn) J (aP (bH J J J) (ak J (aF J (aC iK J (aQ 4 t9 J J J J (aj (xs:= [.tmp 39]) (ki st.name) CQ [] [] [] (fun _ _=>ak J (aa ?_))))))))))))))));refine ap (ak J (aa (bx (X:=Unit) (fun _=>True) (fun _=> [(0,sv v),(3,I6 (i:Int)),(4,Pt b4),(5,.bool (decide (st.kind=1) || decide (st.kind=2))),(6,.bool (bS st.name)),(7,I6 (if st.kind=3 then 2 else 1))]) (fun _=> [(4,bh b4 64 (eE st))]) (fun _=> [(0,bV v l),(1,sl 5 eE (sv v) l),(7,ce st.ve st.es),(8,bV st.vb st.body),(9,bV st.vl st.els),(10,sl 4 dT (sv st.ve) st.es),(11,sl 5 eE (sv st.vb) st.body),(12,sl 5 eE (sv st.vl) st.els)]) ?_ (fun _ _=> ?_))))
   ·refine ap (aC eM J (aQ 4 t3 J J J J (aw J J bn (aa (ai J (fun h9=> ?_) (fun h9=> ?_))))))
    ·have q3:st.kind=3:=bW h9;refine am (ak J (aa (aJ () O (by rw [ar q3];rfl) J J)))
    ·have q3:¬st.kind=3:=cg h9;refine az (aJ () O (by rw [ae q3];rfl) J J)
   ·refine aT (ad J (ad J (aG [] J J O (fun hg10=>bc J) J (aG [(46,_)] J J ⟨J,O⟩ (fun hg11=>cz J) J (aP (bH J J J) (ad J (aG [] J J O (fun hg12=>bc J) J (aG [(50,_)] J J ⟨J,O⟩ (fun hg13=>cz J) J (aG [(50,_),(51,_)] J J ⟨J,J,O⟩ (fun hg14=>bc J) J (cD [] [(50,_),(51,_),(52,_)] J J O ⟨J,J,J,O⟩ (fun hg15 hg15'=>ag iK J) J (cD [(53,_)] [(50,_),(51,_),(52,_)] J J ⟨J,O⟩ ⟨J,J,J,O⟩ (fun hg16 hg16'=>ah t9 J J (ay (k:=4) J J)) J (cD [(53,_),(54,_)] [(50,_),(51,_),(52,_)] J J ⟨J,J,O⟩ ⟨J,J,J,O⟩ (fun hg17 hg17'=>aR J J Ro) J (aG [(50,_),(51,_),(52,_)] J J ⟨J,J,J,O⟩ (fun hg18=>eL J J J (by first|exact dL|exact ef|exact dc hg18|exact dA hg18|rfl)) J (aP (bH J J J) (ad J (aG [] J J O (fun hg19=>ag gj J) J (aG [(59,_)] J J ⟨J,O⟩ (fun hg20=>ah jh J J (ay (k:=4) J J)) J ?_)))))))))))))))));refine aG [(59,_),(60,_)] J J ⟨J,J,O⟩ (fun hg21=>aS underlying59 J (aK (k:=10) J)) J (aG [(59,_),(60,_),(61,_)] J J ⟨J,J,J,O⟩ (fun hg22=>bc J) J (aG [(59,_),(60,_),(61,_),(62,_)] J J ⟨J,J,J,J,O⟩ (fun hg23=>aR J J eD) J (aP (bH J J J) (aa (ai J (fun h24=> ?_) (fun h24=> ?_))))))
    ·have q4:=h24;refine ap (ak J (aa (ax (aH () O J (bQ (aL J)) (congrArg Value.bool (lF hsm (R9 q4)).symm) [] [] J J J))))
    ·have q4:=h24;have hes:(st.es.length:Int)=if st.kind=3 then 2 else 1:=by
      have h:=(Bool.or_eq_false_iff.1 q4).2;simpa using h
     rw [←hes];refine az (aT (aC eM J (aQ 4 t3 J J J J (aw J J eD (ad J (aG [] J J O (fun hg25=>ag fq J) J (aG [(69,_)] J J ⟨J,O⟩ (fun hg26=>ah iP J J (ay (k:=4) J J)) J (aG [(69,_),(70,_)] J J ⟨J,J,O⟩ (fun hg27=>aS underlying62 J (aK (k:=12) J)) J (aG [(69,_),(70,_),(71,_)] J J ⟨J,J,J,O⟩ (fun hg28=>aR J J ec) J (aG [(69,_),(70,_),(71,_),(72,_)] J J ⟨J,J,J,J,O⟩ (fun hg29=>bc J) J (cD [] [(69,_),(70,_),(71,_),(72,_),(73,_)] J J O ⟨J,J,J,J,J,O⟩ (fun hg30 hg30'=>ag eM J) J (cD [(74,_)] [(69,_),(70,_),(71,_),(72,_),(73,_)] J J ⟨J,O⟩ ⟨J,J,J,J,J,O⟩ (fun hg31 hg31'=>ah t3 J J (ay (k:=4) J J)) J (cD [(74,_),(75,_)] [(69,_),(70,_),(71,_),(72,_),(73,_)] J J ⟨J,J,O⟩ ⟨J,J,J,J,J,O⟩ (fun hg32 hg32'=>aR J J eD) J (cD [(74,_),(75,_),(76,_)] [(69,_),(70,_),(71,_),(72,_),(73,_)] J J ⟨J,J,J,O⟩ ⟨J,J,J,J,J,O⟩ (fun hg33 hg33'=>bc J) J (cD [] [(74,_),(75,_),(76,_),(77,_)] J J O ⟨J,J,J,J,O⟩ (fun hg34 hg34'=>ag ft J) J (cD [(78,_)] [(74,_),(75,_),(76,_),(77,_)] J J ⟨J,O⟩ ⟨J,J,J,J,O⟩ (fun hg35 hg35'=>ah iP J J (ay (k:=4) J J)) J (cD [(78,_),(79,_)] [(74,_),(75,_),(76,_),(77,_)] J J ⟨J,J,O⟩ ⟨J,J,J,J,O⟩ (fun hg36 hg36'=>aS underlying62 J (aK (k:=11) J)) J ?_)))))))))))))))));refine cD [(78,_),(79,_),(80,_)] [(74,_),(75,_),(76,_),(77,_)] J J ⟨J,J,J,O⟩ ⟨J,J,J,J,O⟩ (fun hg37 hg37'=>aR J J ec) J (cD [(74,_),(75,_),(76,_),(77,_)] [(69,_),(70,_),(71,_),(72,_),(73,_)] J J ⟨J,J,J,J,O⟩ ⟨J,J,J,J,J,O⟩ (fun hg38 hg38'=>eL J J J (by first|exact dL|exact ef|exact dc hg38|exact dA hg38|exact dc (CU hg38 hg38')|exact dA (CU hg38 hg38')|rfl)) J (aG [(69,_),(70,_),(71,_),(72,_),(73,_)] J J ⟨J,J,J,J,J,O⟩ (fun hg39=>eL J J J (by first|exact dL|exact ef|exact dc hg39|exact dA hg39|rfl)) J (aP (bH J J J) (aa (ai J (fun h40=> ?_) (fun h40=> ?_))))))
     ·have q5:=h40;refine ap (ak J (aa (ax (aH () O J (bQ (aL J)) (congrArg Value.bool (lF hsm (Sd q5)).symm) [] [] J J J))))
     ·have q5:=h40;refine az (aT (ak J (aa (aB (bC (X:=Nat) (fun j=>j≤st.es.length∧(st.es.take j).all rX=true) (fun j=> [(0,sv v),(3,I6 (i:Int)),(4,Pt b4),(7,I6 (st.es.length:Int)),(8,I6 (j:Int))]) (fun j=> [(4,bh b4 64 (eE st))]) (fun j=> [(0,bV v l),(1,sl 5 eE (sv v) l),(7,ce st.ve st.es),(8,bV st.vb st.body),(9,bV st.vl st.els),(10,sl 4 dT (sv st.ve) st.es),(11,sl 5 eE (sv st.vb) st.body),(12,sl 5 eE (sv st.vl) st.els)]) (fun j=>st.es.length-j) 0 ⟨br _,J⟩ J J J (fun j hy0=> ?_))))));obtain⟨n3,n4⟩:=hy0;refine aT (ad J (ad J (aw J J cr (aa (ai J (fun h41=> ?_) (fun h41=> ?_))))))
      ·(try simp only [bj]at h41);have hj:j<st.es.length:=by omega
       obtain⟨u,hu⟩:∃k,st.es[j]?=some k:=⟨_,bN hj⟩
       have hum:=bT hu;refine az (a_ (aB (ap (aC gj J (aQ 4 jh J J J J (ad J (aP (aN (j:=j) underlying59 cl J J (aK (k:=10) J) (by first|rfl|omega) hj) (aP (aM cl J J J (bA (aK (k:=10) J) (by intro _;rfl) hu (by rfl))) (aZ 7 13 J (dD hum) (aj (xs:= [.tmp 94]) (E_ u (hsg.2.mem u hum)) LA [] [(false,13)] [] (fun _ _=>ak J (aF J (ad J (aP (cz J) (aa (ai J (fun h42=> ?_) (fun h42=> ?_)))))))))))))))))
       ·have q7:rX u=false:=by simpa using h42
        refine ap (ak J (aa (ax (aH () O J (bQ (aL J)) (congrArg Value.bool (lF hsm (Sa hum q7)).symm) [] [] J J J))))
       ·have q7:rX u=true:=by simpa using h42
        refine az (am (ad J (aw J J aO (ak J (aa ?_)))));refine aJ (j+1) ⟨⟨by omega,by rw [pj hu,n4,q7];rfl⟩,by omega⟩ J J J
      ·(try simp only [bj]at h41);have hj:j=st.es.length:=by omega
       subst hj;rw [cS]at n4;refine bF (ap (aC ft J (aQ 4 iP J J J J (aj (xs:= [.tmp 99]) (ih st hsm).1 Hr [] [(false,8)] [] (fun _ _=>ak J (aF J (aC fq J (aQ 4 iP J J J J (aj (xs:= [.tmp 102]) (ih st hsm).2 Hr [] [(false,9)] [] (fun _ _=>ak J (aF J (ad J (aP (cz J) (ad J ?_))))))))))))));refine aG [] J J O (fun hg43=>bc J) J (aG [(107,_)] J J ⟨J,O⟩ (fun hg44=>cz J) J (aP (bH J J J) (aa (ai J (fun h45=> ?_) (fun h45=> ?_)))))
       ·(try simp only [bj]at h45);have q8:=h45;refine ap (ak J (aa (ax (aH () O J (bQ (aL J)) (congrArg Value.bool (lF hsm (R8 q8)).symm) [] [] J J J))))
       ·(try simp only [bj]at h45);have q8:=h45;refine az (am (ad J (aw J J aO (ak J (aa ?_)))));refine aJ (i+1) ⟨⟨by omega,by rw [pj hst,n2,O5 q2 q4 q5 n4 q8];rfl⟩,by omega⟩ J J J
 ·(try simp only [bj]at h1);have hi:i=l.length:=by omega
  subst hi;rw [cS]at n2;refine bF (ap (ak J (aa (ax (aH () O J (bQ (aL J)) (congrArg Value.bool n2.symm) [] [] J J J)))))
theorem vX:∀(n:Nat)(v:SV)(l:List Ty),SizeOf.sizeOf l<n→l.length≤1000000→GYs l→RN v l
 | 0,_,_,h,_,_=>absurd h (Nat.not_lt_zero _)
 | n+1,v,l,h,hl,hg=>E5 v l hl hg fun u hu=>by
  have h1:=List.sizeOf_lt_of_mem hu;have h2:SizeOf.sizeOf u.body<SizeOf.sizeOf u∧SizeOf.sizeOf u.els<SizeOf.sizeOf u:=by
   cases u;simp only [Ty.mk.sizeOf_spec,Ty.body,Ty.els];omega
  have h3:=hg.mem u hu;exact⟨vX n u.vb u.body (by omega) (eW h3).1 (eW h3).2,vX n u.vl u.els (by omega) (gk h3).1 (gk h3).2⟩
theorem E6(v:SV)(l:List Ty)(hl:l.length≤1000000)(hg:GYs l):RN v l:=vX _ v l (Nat.lt_succ_self _) hl hg
theorem wk(f:Tf):rF f=(f.ps.all bS&&bS f.name&&f.body.all rY):=by unfold rF;rw [hZ]
theorem O8{f:Tf}(h:bS f.name=false∨f.body.all rY=false):rF f=false:=by
 rw [wk];rcases h with h|h<;>rw [h]<;>simp
theorem Si{f:Tf}{x:Ba}(hm:x∈f.ps)(h:bS x=false):rF f=false:=by
 rw [wk,lF hm h];rfl
theorem xP(vp:SV)(fs:List Tf)(hg:GP fs):
  bi prog 56 [.agg #[sv vp]] [] [cx vp fs] (.bool (rP fs)) []:=by
 refine aI func56 J ntmps56 J fun w0 M H=>aZ 0 1 J jG ?_
 have hgl:=hg.1;refine ap (ck J J fun b1=>ak J (aa (aT (ak J (aa (aB (bC (X:=Nat) (fun i=>i≤fs.length∧(fs.take i).all rF=true) (fun i=> [(1,Pt b1),(3,I6 (i:Int))]) (fun i=> [(1,bh b1 27 [sv vp])]) (fun i=> [(0,cx vp fs),(1,sl 3 ip (sv vp) fs)]) (fun i=>fs.length-i) 0 ⟨br _,J⟩ J J J (fun i hx0=> ?_))))))));obtain⟨n1,n2⟩:=hx0;refine aT (ad J (aC dJ J (aQ 1 iB J J J J (aP (aS underlying25 J (aK (k:=1) J)) (aw J J cr (aa (ai J (fun h1=> ?_) (fun h1=> ?_))))))))
 ·(try simp only [bj]at h1);have hi:i<fs.length:=by omega
  obtain⟨f,hf⟩:∃k,fs[i]?=some k:=⟨_,bN hi⟩
  have hfm:=bT hf;have hgf:=hg.2 f hfm;have hpl:=hgf.2.2.1;refine aZ 0 7 J (l_ hfm) (aZ 7 8 J ma (az (a_ (aB (ap (aC dJ J (aQ 1 iB J J J J (ad J (aP (aN (j:=i) underlying25 fj J J (aK (k:=1) J) (by first|rfl|omega) (by first|omega|(simp;done)|(simp;omega))) (aP (aM fj J J J (bA (aK (k:=1) J) (by intro _;rfl) hf (by rfl))) (aY fj J J fun b4=>aq (k:=4) fj J J J J J J (aF J (aC kC J (aQ 4 t9 J J J J (aj (xs:= [.tmp 22]) (ki f.name) CQ [] [] [] (fun _ _=> ?_))))))))))))))));refine ak J (aF J (aC jl J (aQ 4 iP J J J J (aZ 7 9 J k8 (aj (xs:= [.tmp 25]) (E6 f.vb f.body hgf.2.2.2.1 hgf.2.2.2.2.1) Hr [] [(false,9)] [] (fun _ _=>ak J (aa (aT (ad J (aP (cz J) (ad J (aG [] J J O (fun hg2=>bc J) J (aG [(30,_)] J J ⟨J,O⟩ (fun hg3=>cz J) J (aP (bH J J J) (aa ?_)))))))))))))));refine ai J (fun h4=> ?_) (fun h4=> ?_)
  ·(try simp only [bj]at h4);have q2:=h4;refine ap (ak J (aa (ax (aH () O J (bQ (aL J)) (congrArg Value.bool (show false=rP fs from(lF (p:=rF) hfm (O8 q2)).symm)) [] [] J J J))))
  ·(try simp only [bj]at h4);have q2:=h4;refine az (ap (ak J (aa (aB (bC (X:=Nat) (fun j=>j≤f.ps.length∧(f.ps.take j).all bS=true) (fun j=> [(1,Pt b1),(3,I6 (i:Int)),(4,Pt b4),(7,I6 (j:Int))]) (fun j=> [(1,bh b1 27 [sv vp]),(4,bh b4 66 (ip f))]) (fun j=> [(0,cx vp fs),(1,sl 3 ip (sv vp) fs),(7,Bn f),(8,sl 1 eS (sv f.vp) f.ps)]) (fun j=>f.ps.length-j) 0 ⟨br _,J⟩ J J J (fun j hy0=> ?_))))));obtain⟨n3,n4⟩:=hy0;refine aT (ad J (aC d6 J (aQ 4 gO J J J J (aP (aS underlying46 J (aK (k:=8) J)) (aw J J cr (aa (ai J (fun h5=> ?_) (fun h5=> ?_))))))))
   ·(try simp only [bj]at h5);have hj:j<f.ps.length:=by omega
    obtain⟨x,hx⟩:∃k,f.ps[j]?=some k:=⟨_,bN hj⟩
    have hxm:=bT hx;refine az (a_ (aB (ap (aC d6 J (aQ 4 gO J J J J (ad J (aP (aN (j:=j) underlying46 t9 J J (aK (k:=8) J) (by first|rfl|omega) (by first|omega|(simp;done)|(simp;omega))) (aP (ah t9 J J (bA (aK (k:=8) J) (by intro _;rfl) hx (by rfl))) (aj (xs:= [.tmp 44]) (ki x) CQ [] [] [] (fun _ _=>ak J (aF J (ad J (aP (cz J) (aa (ai J (fun h6=> ?_) (fun h6=> ?_))))))))))))))))
    ·have q4:bS x=false:=by simpa using h6
     refine ap (ak J (aa (ax (aH () O J (bQ (aL J)) (congrArg Value.bool (show false=rP fs from(lF (p:=rF) hfm (Si hxm q4)).symm)) [] [] J J J))))
    ·have q4:bS x=true:=by simpa using h6
     refine az (am (ad J (aw J J aO (ak J (aa ?_)))));refine aJ (j+1) ⟨⟨by omega,by rw [pj hx,n4,q4];rfl⟩,by omega⟩ J J J
   ·(try simp only [bj]at h5);have hj:j=f.ps.length:=by omega
    subst hj;rw [cS]at n4;refine bF (am (ad J (aw J J aO (ak J (aa ?_)))));refine aJ (i+1) ⟨⟨by omega,by rw [pj hf,n2,wk,n4,q2.1,q2.2];rfl⟩,by omega⟩ J J J
 ·(try simp only [bj]at h1);have hi:i=fs.length:=by omega
  subst hi;rw [cS]at n2;refine bF (ap (ak J (aa (ax (aH () O J (bQ (aL J)) (congrArg Value.bool n2.symm) [] [] J J J)))))
def zR(n v s e:Int):List Value:= [I6 n,I6 v,I6 s,I6 e]
abbrev zV(n v s e:Int):Value:= .agg #[I6 n,I6 v,I6 s,I6 e]
theorem Em{n v s e n' v' s' e':Int}(h1:n=n')(h2:v=v')(h3:s=s')(h4:e=e'):zR n v s e=zR n' v' s' e':=by rw [h1,h2,h3,h4]
abbrev sm(n:Int):Prop:=0≤n∧n≤1000000000000
mutual
def dS:Ty→Nat
 | .mk _ _ _ _ _ body _ els=>max (ka body) (ka els)+1
def ka:List Ty→Nat
 | []=>0
 | t::r=>max (dS t) (ka r)
end
mutual
def dq:Ty→Nat
 | .mk _ _ _ es _ body _ els=>max (max (jD body) (jD els)) (f_ es)
def jD:List Ty→Nat
 | []=>0
 | t::r=>max (dq t) (jD r)
end
theorem CG:∀a b:List Ty,ka (a++b)=max (ka a) (ka b)
 | [],b=>by simp [ka]
 | t::r,b=>by simp only [List.cons_append,ka,CG r b];omega
theorem CC:∀a b:List Ty,jD (a++b)=max (jD a) (jD b)
 | [],b=>by simp [jD]
 | t::r,b=>by simp only [List.cons_append,jD,CC r b];omega
theorem G8{l:List Ty}{i:Nat}{k:Ty}(h:l[i]?=some k):ka (l.take (i+1))=max (ka (l.take i)) (dS k):=by
 rw [cj h,CG];show max _ (max (dS k) 0)=_;omega
theorem GZ{l:List Ty}{i:Nat}{k:Ty}(h:l[i]?=some k):jD (l.take (i+1))=max (jD (l.take i)) (dq k):=by
 rw [cj h,CC];show max _ (max (dq k) 0)=_;omega
theorem Le(t:Ty):dS t=max (ka t.body) (ka t.els)+1:=by cases t;rfl
theorem P4(t:Ty):dq t=max (max (jD t.body) (jD t.els)) (f_ t.es):=by cases t;rfl
theorem FP(t:Tx):nX t=dW t.kids+1∧dX t=f_ t.kids+1:=by cases t;exact⟨rfl,rfl⟩
theorem FM(t:Ty):nY t=1+dW t.es+cB t.body+cB t.els:=by cases t;rfl
theorem EF(t:Ty):vY t=(if t.kind=1 then 1 else 0)+dg t.body+dg t.els:=by cases t;rfl
mutual
theorem P9:∀t:Ty,dS t≤nY t∧dq t≤nY t
 | .mk _ _ _ es _ body _ els=>by
  have h1:=nP body;have h2:=nP els;have h3:=tz es;rw [dS,dq,nY];omega
theorem nP:∀l:List Ty,ka l≤cB l∧jD l≤cB l
 | []=>by rw [ka,jD,cB];omega
 | t::r=>by
  have h1:=P9 t;have h2:=nP r;rw [ka,jD,cB];omega
end
mutual
theorem NG:∀(d:Nat)(t:Ty),Eh d t=true↔d+dS t>9∨dq t>8
 | d,.mk k nm v es vb body vl els=>by
  rw [Eh,dS,dq];simp only [Bool.or_eq_true,decide_eq_true_eq];rw [rV (d+1) body,rV (d+1) els];omega
theorem rV:∀(d:Nat)(l:List Ty),dC d l=true↔(0<ka l∧d+ka l>9)∨jD l>8
 | d,[]=>by rw [dC,ka,jD];simp
 | d,t::r=>by
  rw [dC,ka,jD,Bool.or_eq_true,NG d t,rV d r];have h1:0<dS t:=by rw [Le];omega
  omega
end
theorem CT(f:Tf):rW f↔f.ps.length>4∨f.ps.length+dg f.body>12∨cB f.body>400∨ka f.body>8∨jD f.body>8:=by
 unfold rW;rw [rV];omega
def RL(v:SV)(l:List Ty):Prop:=bi prog 58 [sv v] [] [bV v l] (zV (cB l:Int) (dg l:Int) (ka l:Int) (jD l:Int)) []
def TO(t:Tx):Prop:=bi prog 105 [xV t] [] [ce t.v t.kids] (zV (nX t:Int) 0 0 (dX t:Int)) []
theorem iJ(a b c d a2 b2 c2 d2:Int)(h1:sm a)(h2:sm b)(h3:sm a2)(h4:sm b2):
  bi prog 104 [zV a b c d,zV a2 b2 c2 d2] [] [] (zV (a+a2) (b+b2) (max c c2) (max d d2)) []:=by
 refine aI func104 J ntmps104 J fun w0 M H=>ap (ck J J fun b2=>ck J J fun b3=>aY ge J J fun b4=>aF J (aC lx J (aQ 2 t3 J J J J (aC lx J (aQ 3 t3 J J J J (aw J J aO (aC oY J (aQ 2 t3 J J J J (aC oY J (aQ 3 t3 J J J J (aw J J aO (aC oX J ?_))))))))))))
 refine aQ 2 t3 J J J J (aC oX J (aQ 3 t3 J J J J (aP (sG J J J) (aC oV J (aQ 2 t3 J J J J (aC oV J (aQ 3 t3 J J J J (aP (sG J J J) (aP (aU (parts:= [(0,.tmp 9),(1,.tmp 14),(2,.tmp 19),(3,.tmp 24)]) ge Ft J J) (aq (k:=4) ge J J J J J J (aa (ax (aH () O J (bQ (aV ge J J J (aX (k:=4) J))) J [] [] J J J)))))))))))))
theorem uo(t:Tx)(ht:nX t≤1000000)(hkl:t.kids.length≤1000000)(ih:∀u∈t.kids,TO u):
  bi prog 105 [xV t] [] [ce t.v t.kids] (zV (nX t:Int) 0 0 (dX t:Int)) []:=by
 refine aI func105 J ntmps105 J fun w0 M H=>aZ 0 1 J gd ?_
 obtain⟨hn1,hn2⟩:=FP t;have hdxl:=tz t.kids;refine ap (ck J J fun b1=>aY ge J J fun b2=>aF J (aP (aU (parts:= []) ge Ft J J) (aY ge J J fun b3=>aq (k:=3) ge J J J J J J (aa (aT (ak J (aa (aB (bC (X:=Nat) (fun i=>i≤t.kids.length) (fun i=> [(1,Pt b1),(2,Pt b2),(3,Pt b3),(4,I6 (i:Int))]) (fun i=> [(1,bh b1 61 (dT t)),(2,bh b2 124 (zR 0 0 0 0)),(3,bh b3 124 (zR (dW (t.kids.take i):Int) 0 0 (f_ (t.kids.take i):Int)))]) (fun i=> [(0,ce t.v t.kids),(1,sl 4 dT (sv t.v) t.kids)]) (fun i=>t.kids.length-i) 0 (br _) J J J (fun i n1=>a_ (a_ ?_)))))))))));refine am (ad J (aC dx J (aQ 1 jh J J J J (aP (aS underlying59 J (aK (k:=1) J)) (aw J J cr (aa (ai J (fun h1=> ?_) (fun h1=> ?_))))))))
 ·(try simp only [bj]at h1);have hi:i<t.kids.length:=by omega
  obtain⟨u,hu⟩:∃u,t.kids[i]?=some u:=⟨_,bN hi⟩
  have hum:=bT hu;refine aZ 0 7 J (dD hum) ?_;have hle:=mn t.kids (i+1);rw [fg hu]at hle;have hdu:=yI u;refine az (a_ (aB ?_));refine bJ [13,14,15,16,17,18,19,20] _ J (aW (V:= [(0,13,_),(1,14,_),(2,15,_),(3,16,_),(4,17,_),(5,18,_)]) [0,1,2,3,4,5] 6 [6,5,4,3,2,1] [] (fun _=> []) J J (ac J (aM ge J J J (aX (k:=3) J)) (ac J (ag dx J) (ac J (ah jh J J (ay (k:=1) J J)) (aD J J (ac J (aN (j:=i) underlying59 cl J J (aK (k:=1) J) (by first|rfl|omega) (by first|omega|(simp;done)|(simp;omega))) (ac J (aM cl J J J (bA (aK (k:=1) J) (by intro _;rfl) hu (by rfl))) av)))))) J J J J J J J J J J J (fun _ _=>J) J (bB (xs:= [.tmp 18]) (ih u hum) LJ [] [(false,7)] []) (fun _ _=>aW [0] 7 [7,6,5,4,3,2,1,0] [] (fun _=> []) J J (ac J (aM ge J J J (aX (k:=3) J)) av) J J J J J J J J J J J (fun _ _=>J) J (bB (xs:= [.tmp 13,.tmp 19]) (iJ (dW (t.kids.take i):Int) 0 0 (f_ (t.kids.take i):Int) (nX u:Int) 0 0 (dX u:Int) ⟨by omega,by omega⟩ ⟨by omega,by omega⟩ ⟨by omega,by omega⟩ ⟨by omega,by omega⟩) tH [] [] []) (fun _ _=>bE [] 8 [8,7,6,5,4,3,2,1,0] [] (fun _=> []) J J av J J J J J J J J J (fun _ _=>J) J (bD (k:=3) ge J J J J J J) (fun _ _=>bl [] J J av J J J ?_))));refine am (ad J (aw J J aO (ak J (aa ?_))));refine aJ (i+1) ⟨by omega,by omega⟩ J (by rw [Em (n:=((dW (t.kids.take (i+1)):Nat):Int)) (n':=(dW (t.kids.take i):Int)+(nX u:Int)) (e':=max (f_ (t.kids.take i):Int) (dX u:Int)) (e:=((f_ (t.kids.take (i+1)):Nat):Int)) (by rw [fg hu,Int.natCast_add]) (show(0:Int)=0+0 from J) (show(0:Int)=max 0 0 from J) (by rw [mA hu];omega)];rfl) J
 ·(try simp only [bj]at h1);have hi:i=t.kids.length:=by omega
  subst hi;rw [cS];refine bF (ap (aC lx J (aQ 3 t3 J J J J (aw J J aO (aC lx J (aA (k:=3) t3 J J J J J J J J (aF J (aC oV J (aQ 3 t3 J J J J (aw J J aO (aC oV J (aA (k:=3) t3 J J J J J J J J (aF J (aP (aM ge J J J (aX (k:=3) J)) ?_))))))))))))));refine aq (k:=2) ge J J J J J J (aa (ax ?_));have hfin:zV ((dW t.kids:Int)+1) 0 0 ((f_ t.kids:Int)+1)=zV (nX t:Int) 0 0 (dX t:Int):=by rw [hn1,hn2];rfl
  refine aH () O J (bQ (aV ge J J J (aX (k:=2) J))) (by rw [←hfin];rfl) [] [] J J J
theorem o_:∀(n:Nat)(t:Tx),SizeOf.sizeOf t<n→GX t→nX t≤1000000→TO t
 | 0,_,h,_,_=>absurd h (Nat.not_lt_zero _)
 | n+1,t,h,ht,hn=>uo t hn (mC ht) fun u hu=>o_ n u (by have:=qy hu;omega) ((kx ht).mem u hu) (by
  obtain⟨i,hi⟩:=List.getElem?_of_mem hu;have hle:=mn t.kids (i+1);rw [fg hi]at hle;have:=(FP t).1;omega)
theorem uq(t:Tx)(ht:GX t)(hn:nX t≤1000000):TO t:=o_ _ t (Nat.lt_succ_self _) ht hn
theorem tW(v:SV)(l:List Ty)(hn:cB l≤1000000)(hl:l.length≤1000000)(hg:GYs l)(ih:∀u∈l,RL u.vb u.body∧RL u.vl u.els):
  bi prog 58 [sv v] [] [bV v l] (zV (cB l:Int) (dg l:Int) (ka l:Int) (jD l:Int)) []:=by
 refine aI func58 J ntmps58 J fun w0 M H=>aZ 0 1 J ic (ap (aY ge J J fun b2=>aF J (aP (aU (parts:= []) ge Ft J J) (aY ge J J fun b3=>aq (k:=3) ge J J J J J J (aa (aT (ak J (aa (aB (bC (X:=Nat) (fun i=>i≤l.length) (fun i=> [(0,sv v),(2,Pt b2),(3,Pt b3),(4,I6 (i:Int))]) (fun i=> [(2,bh b2 124 (zR 0 0 0 0)),(3,bh b3 124 (zR (cB (l.take i):Int) (dg (l.take i):Int) (ka (l.take i):Int) (jD (l.take i):Int)))]) (fun i=> [(0,bV v l),(1,sl 5 eE (sv v) l)]) (fun i=>l.length-i) 0 (br _) J J J (fun i n1=>a_ ?_)))))))))))
 refine ap (ad J (ad J (aP (aS underlying62 J (aK (k:=1) J)) (aw J J cr (aa (ai J (fun h1=> ?_) (fun h1=> ?_)))))))
 ·(try simp only [bj]at h1);have hi:i<l.length:=by omega
  obtain⟨st,hst⟩:∃k,l[i]?=some k:=⟨_,bN hi⟩
  have hsm:=bT hst;have hsg:=pn (hg.mem st hsm);have hle:=nK l (i+1);rw [iW hst]at hle;have hny:=FM st;have hvy:=ED st;have hva:=jd (l.take i);have hvb:=jd st.body;have hvs:=jd st.els;have hvy2:(vY st:Int)=((dg st.body:Int)+(dg st.els:Int))+(if st.kind=1 then 1 else 0:Int):=by
   rw [EF];split<;>omega
  have hki:0≤(if st.kind=1 then 1 else 0:Int)∧(if st.kind=1 then 1 else 0:Int)≤1:=by split<;>omega
  have hdsb:=nP st.body;have hdse:=nP st.els;have hdsi:=nP (l.take i);have hnl:=nK l i;have hdxe:=tz st.es;refine aZ 0 7 J (kZ hsm) (aZ 0 8 J (gS hsm) (aZ 0 9 J (iO hsm) (aZ 7 10 J gd (az (a_ (aB (ap (ad J (ad J (aP (aN (j:=i) underlying62 dK J J (aK (k:=1) J) (by first|rfl|omega) (by first|omega|(simp;done)|(simp;omega))) (aP (aM dK J J J (bA (aK (k:=1) J) (by intro _;rfl) hst (by rfl))) (aY dK J J fun b5=>aq (k:=5) dK J J J J J J (aa (bx (X:=Nat) (fun _=>True) (fun y=> [(0,sv v),(2,Pt b2),(3,Pt b3),(4,I6 (i:Int)),(5,Pt b5),(6,Pt y)]) (fun y=> [(2,bh b2 124 (zR 0 0 0 0)),(3,bh b3 124 (zR (cB (l.take i):Int) (dg (l.take i):Int) (ka (l.take i):Int) (jD (l.take i):Int))),(5,bh b5 64 (eE st)),(6,bh y 124 (zR ((cB st.body:Int)+(cB st.els:Int)) ((dg st.body:Int)+(dg st.els:Int)) (max (ka st.body:Int) (ka st.els:Int)) (max (jD st.body:Int) (jD st.els:Int))))]) (fun y=> [(0,bV v l),(1,sl 5 eE (sv v) l),(7,ce st.ve st.es),(8,bV st.vb st.body),(9,bV st.vl st.els),(10,sl 4 dT (sv st.ve) st.es)]) ?_ (fun b6 _=> ?_)))))))))))))))
  ·refine bJ [19,20,21,22,23,24,25,6] _ J (fe (V:= [(0,19,_),(1,20,_),(3,22,_),(4,23,_)]) [0,1,3,4] J J (ac J (ag ft J) (ac J (ah iP J J (ay (k:=5) J J)) (ac J (ag fq J) (ac J (ah iP J J (ay (k:=5) J J)) av)))) J [2,7] J J (df (dQ 2 [2,1,0] [] (fun _=> []) J J J J J J J J J (fun _ _=>J) J (bB (xs:= [.tmp 20]) (ih st hsm).1 D6 [] [(false,8)] []) (fun _ _=>fe [3,4] J J (ac J (ag fq J) (ac J (ah iP J J (ay (k:=5) J J)) av)) J [5,7] J J (df (dQ 5 [5,4,3,2,1,0] [] (fun _=> []) J J J J J J J J J (fun _ _=>J) J (bB (xs:= [.tmp 23]) (ih st hsm).2 D6 [] [(false,9)] []) (fun _ _=>fe [] J J av J [6,7] J J (df (dQ 6 [6,5,4,3,2,1,0] [] (fun _=> []) J J J J J J J J J (fun _ _=>J) J (fh (xs:= [.tmp 21,.tmp 24]) (iJ _ _ _ _ _ _ _ _ ⟨by omega,by omega⟩ ⟨by omega,by omega⟩ ⟨by omega,by omega⟩ ⟨by omega,by omega⟩) tH [] [] [] J J J) (fun _ _=>aW [] 7 [7,6,5,4,3,2,1,0] [] (fun b6=> []) J J av J J J J J J J J J J J (fun _ _=>J) J (dV ge J) (fun b6 _=>bE [] 8 [8,7,6,5,4,3,2,1,0] [] (fun _=> []) J J av J J J J J J J J J (fun _ _=>J) J (bD (k:=6) ge J J J J J J) (fun _ _=>bl [] J J av J J J ?_)))) (df (dQ 7 [7,5,4,3,2,1,0] [] (fun b6=> []) J J J J J J J J J (fun _ _=>J) J (dV ge J) (fun b6 _=>aW [] 6 [7,6,5,4,3,2,1,0] [] (fun _=> []) J J av J J J J J J J J J J J (fun _ _=>J) J (fh (xs:= [.tmp 21,.tmp 24]) (iJ _ _ _ _ _ _ _ _ ⟨by omega,by omega⟩ ⟨by omega,by omega⟩ ⟨by omega,by omega⟩ ⟨by omega,by omega⟩) tH [] [] [] J J J) (fun _ _=>bE [] 8 [8,7,6,5,4,3,2,1,0] [] (fun _=> []) J J av J J J J J J J J J (fun _ _=>J) J (bD (k:=6) ge J J J J J J) (fun _ _=>bl [] J J av J J J ?_)))) ix)))) (df (dQ 7 [7,2,1,0] [] (fun b6=> []) J J J J J J J J J (fun _ _=>J) J (dV ge J) (fun b6 _=>aW [3,4] 5 [7,5,4,3,2,1,0] [] (fun _=> []) J J (ac J (ag fq J) (ac J (ah iP J J (ay (k:=5) J J)) av)) J J J J J J J J J J J (fun _ _=>J) J (bB (xs:= [.tmp 23]) (ih st hsm).2 D6 [] [(false,9)] []) (fun _ _=>aW [] 6 [7,6,5,4,3,2,1,0] [] (fun _=> []) J J av J J J J J J J J J J J (fun _ _=>J) J (fh (xs:= [.tmp 21,.tmp 24]) (iJ _ _ _ _ _ _ _ _ ⟨by omega,by omega⟩ ⟨by omega,by omega⟩ ⟨by omega,by omega⟩ ⟨by omega,by omega⟩) tH [] [] [] J J J) (fun _ _=>bE [] 8 [8,7,6,5,4,3,2,1,0] [] (fun _=> []) J J av J J J J J J J J J (fun _ _=>J) J (bD (k:=6) ge J J J J J J) (fun _ _=>bl [] J J av J J J ?_))))) ix)))) (df (dQ 7 [7] [] (fun b6=> []) J J J J J J J J J (fun _ _=>J) J (dV ge J) (fun b6 _=>aW [0,1,3,4] 2 [7,2,1,0] [] (fun _=> []) J J (ac J (ag ft J) (ac J (ah iP J J (ay (k:=5) J J)) (ac J (ag fq J) (ac J (ah iP J J (ay (k:=5) J J)) av)))) J J J J J J J J J J J (fun _ _=>J) J (bB (xs:= [.tmp 20]) (ih st hsm).1 D6 [] [(false,8)] []) (fun _ _=>aW [3,4] 5 [7,5,4,3,2,1,0] [] (fun _=> []) J J (ac J (ag fq J) (ac J (ah iP J J (ay (k:=5) J J)) av)) J J J J J J J J J J J (fun _ _=>J) J (bB (xs:= [.tmp 23]) (ih st hsm).2 D6 [] [(false,9)] []) (fun _ _=>aW [] 6 [7,6,5,4,3,2,1,0] [] (fun _=> []) J J av J J J J J J J J J J J (fun _ _=>J) J (fh (xs:= [.tmp 21,.tmp 24]) (iJ _ _ _ _ _ _ _ _ ⟨by omega,by omega⟩ ⟨by omega,by omega⟩ ⟨by omega,by omega⟩ ⟨by omega,by omega⟩) tH [] [] [] J J J) (fun _ _=>bE [] 8 [8,7,6,5,4,3,2,1,0] [] (fun _=> []) J J av J J J J J J J J J (fun _ _=>J) J (bD (k:=6) ge J J J J J J) (fun _ _=>bl [] J J av J J J ?_)))))) ix)))
   ·refine aJ b6 O J J J
   ·refine aJ b6 O J J J
   ·refine aJ b6 O J J J
   ·refine aJ b6 O J J J
  ·refine ap (aC oX J (aQ 6 t3 J J J J (aw J J aO (aC oX J (aA (k:=6) t3 J J J J J J J J (aF J (aC lx J (aQ 6 t3 J J J J (aw J J aO (aC lx J (aA (k:=6) t3 J J J J J J J J (aa (bx (X:=Unit) (fun _=>True) (fun _=> [(0,sv v),(2,Pt b2),(3,Pt b3),(4,I6 (i:Int)),(5,Pt b5),(6,Pt b6)]) (fun _=> [(2,bh b2 124 (zR 0 0 0 0)),(3,bh b3 124 (zR (cB (l.take i):Int) (dg (l.take i):Int) (ka (l.take i):Int) (jD (l.take i):Int))),(5,bh b5 64 (eE st)),(6,bh b6 124 (zR ((cB st.body:Int)+(cB st.els:Int)+1) (((dg st.body:Int)+(dg st.els:Int))+(if st.kind=1 then 1 else 0:Int)) (max (ka st.body:Int) (ka st.els:Int)+1) (max (jD st.body:Int) (jD st.els:Int))))]) (fun _=> [(0,bV v l),(1,sl 5 eE (sv v) l),(7,ce st.ve st.es),(8,bV st.vb st.body),(9,bV st.vl st.els),(10,sl 4 dT (sv st.ve) st.es)]) ?_ (fun _ _=> ?_))))))))))))))
   ·refine ap (aC eM J (aQ 5 t3 J J J J (aw J J bn (aa (ai J (fun h2=> ?_) (fun h2=> ?_))))))
    ·have q1:st.kind=1:=bW h2;refine am (aC oY J (aQ 6 t3 J J J J (aw J J aO (aC oY J (aA (k:=6) t3 J J J J J J J J (aa (aJ () O J (by rw [ar q1];rfl) J)))))))
    ·have q1:¬st.kind=1:=cg h2;refine az (aJ () O J (by rw [ae q1,Int.add_zero];rfl) J)
   ·refine aT (ak J (aa (aB ?_)));refine bC (X:=Nat) (fun j=>j≤st.es.length) (fun j=> [(0,sv v),(2,Pt b2),(3,Pt b3),(4,I6 (i:Int)),(5,Pt b5),(6,Pt b6),(7,I6 (j:Int))]) (fun j=> [(2,bh b2 124 (zR 0 0 0 0)),(3,bh b3 124 (zR (cB (l.take i):Int) (dg (l.take i):Int) (ka (l.take i):Int) (jD (l.take i):Int))),(5,bh b5 64 (eE st)),(6,bh b6 124 (zR (((cB st.body:Int)+(cB st.els:Int)+1)+(dW (st.es.take j):Int)) (((dg st.body:Int)+(dg st.els:Int))+(if st.kind=1 then 1 else 0:Int)) (max (ka st.body:Int) (ka st.els:Int)+1) (max (max (jD st.body:Int) (jD st.els:Int)) (f_ (st.es.take j):Int))))]) (fun j=> [(0,bV v l),(1,sl 5 eE (sv v) l),(7,ce st.ve st.es),(8,bV st.vb st.body),(9,bV st.vl st.els),(10,sl 4 dT (sv st.ve) st.es)]) (fun j=>st.es.length-j) 0 (br _) J (by rw [show(((cB st.body:Int)+(cB st.els:Int)+1)+(dW (st.es.take 0):Int))=((cB st.body:Int)+(cB st.els:Int)+1) by simp [dW],show max (max (jD st.body:Int) (jD st.els:Int)) (f_ (st.es.take 0):Int)=(max (jD st.body:Int) (jD st.els:Int)) by simp [f_]<;>omega];rfl) J (fun j n2=> ?_);refine aT (ad J (aC gj J (aQ 5 jh J J J J (aP (aS underlying59 J (aK (k:=10) J)) (aw J J cr (aa (ai J (fun h3=> ?_) (fun h3=> ?_))))))))
    ·(try simp only [bj]at h3);have hj:j<st.es.length:=by omega
     obtain⟨u,hu⟩:∃k,st.es[j]?=some k:=⟨_,bN hj⟩
     have hum:=bT hu;refine aZ 7 11 J (dD hum) ?_;have hlx:=mn st.es (j+1);rw [fg hu]at hlx;have hdu:=yI u;refine az (a_ (aB ?_));refine bJ [48,49,50,51,52,53,54,55] _ J (aW (V:= [(0,48,_),(1,49,_),(2,50,_),(3,51,_),(4,52,_),(5,53,_)]) [0,1,2,3,4,5] 6 [6,5,4,3,2,1] [] (fun _=> []) J J (ac J (aM ge J J J (aX (k:=6) J)) (ac J (ag gj J) (ac J (ah jh J J (ay (k:=5) J J)) (aD J J (ac J (aN (j:=j) underlying59 cl J J (aK (k:=10) J) (by first|rfl|omega) (by first|omega|(simp;done)|(simp;omega))) (ac J (aM cl J J J (bA (aK (k:=10) J) (by intro _;rfl) hu (by rfl))) av)))))) J J J J J J J J J J J (fun _ _=>J) J (bB (xs:= [.tmp 53]) (uq u (hsg.2.mem u hum) (by omega)) LJ [] [(false,11)] []) (fun _ _=>aW [0] 7 [7,6,5,4,3,2,1,0] [] (fun _=> []) J J (ac J (aM ge J J J (aX (k:=6) J)) av) J J J J J J J J J J J (fun _ _=>J) J (bB (xs:= [.tmp 48,.tmp 54]) (iJ (((cB st.body:Int)+(cB st.els:Int)+1)+(dW (st.es.take j):Int)) (((dg st.body:Int)+(dg st.els:Int))+(if st.kind=1 then 1 else 0:Int)) (max (ka st.body:Int) (ka st.els:Int)+1) (max (max (jD st.body:Int) (jD st.els:Int)) (f_ (st.es.take j):Int)) (nX u:Int) 0 0 (dX u:Int) ⟨by omega,by omega⟩ ⟨by omega,by omega⟩ ⟨by omega,by omega⟩ ⟨by omega,by omega⟩) tH [] [] []) (fun _ _=>bE [] 8 [8,7,6,5,4,3,2,1,0] [] (fun _=> []) J J av J J J J J J J J J (fun _ _=>J) J (bD (k:=6) ge J J J J J J) (fun _ _=>bl [] J J av J J J ?_))));refine am (ad J (aw J J aO (ak J (aa ?_))))
     refine aJ (j+1) ⟨by omega,by omega⟩ J (by rw [Em (n:=((cB st.body:Int)+(cB st.els:Int)+1)+((dW (st.es.take (j+1)):Nat):Int)) (v:=((dg st.body:Int)+(dg st.els:Int))+(if st.kind=1 then 1 else 0:Int)) (s:=(max (ka st.body:Int) (ka st.els:Int)+1)) (e:=max (max (jD st.body:Int) (jD st.els:Int)) ((f_ (st.es.take (j+1)):Nat):Int)) (n':=((cB st.body:Int)+(cB st.els:Int)+1)+(dW (st.es.take j):Int)+(nX u:Int)) (v':=((dg st.body:Int)+(dg st.els:Int))+(if st.kind=1 then 1 else 0:Int)+0) (s':=max (max (ka st.body:Int) (ka st.els:Int)+1) 0) (e':=max (max (max (jD st.body:Int) (jD st.els:Int)) (f_ (st.es.take j):Int)) (dX u:Int)) (by rw [fg hu]<;>omega) (by rw [Int.add_zero]) (by omega) (by rw [mA hu]<;>omega)];rfl) J
    ·(try simp only [bj]at h3);have hj:j=st.es.length:=by omega
     subst hj;rw [cS];refine bF (am (aP (aM ge J J J (aX (k:=3) J)) (aP (aM ge J J J (aX (k:=6) J)) ?_)));refine dh (xs:= [.tmp 56,.tmp 57]) (iJ (cB (l.take i):Int) (dg (l.take i):Int) (ka (l.take i):Int) (jD (l.take i):Int) (((cB st.body:Int)+(cB st.els:Int)+1)+(dW st.es:Int)) (((dg st.body:Int)+(dg st.els:Int))+(if st.kind=1 then 1 else 0:Int)) (max (ka st.body:Int) (ka st.els:Int)+1) (max (max (jD st.body:Int) (jD st.els:Int)) (f_ st.es:Int)) ⟨by omega,by omega⟩ ⟨by omega,by omega⟩ ⟨by omega,by omega⟩ ⟨by omega,by omega⟩) tH [] [] [] J J J J J J J J (fun _ _=>J) (fun _ _ _=>J) J (fun _ _=> ?_);refine aq (k:=3) ge J J J J J J (aa (am (ad J (aw J J aO (ak J (aa ?_))))));refine aJ (i+1) ⟨by omega,by omega⟩ J (by rw [Em (n:=((cB (l.take (i+1)):Nat):Int)) (v:=((dg (l.take (i+1)):Nat):Int)) (s:=((ka (l.take (i+1)):Nat):Int)) (e:=((jD (l.take (i+1)):Nat):Int)) (n':=(cB (l.take i):Int)+(((cB st.body:Int)+(cB st.els:Int)+1)+(dW st.es:Int))) (v':=(dg (l.take i):Int)+(((dg st.body:Int)+(dg st.els:Int))+(if st.kind=1 then 1 else 0:Int))) (s':=max (ka (l.take i):Int) (max (ka st.body:Int) (ka st.els:Int)+1)) (e':=max (jD (l.take i):Int) (max (max (jD st.body:Int) (jD st.els:Int)) (f_ st.es:Int))) (by rw [iW hst]<;>omega) (by rw [kI hst,Int.natCast_add,hvy2]) (by rw [G8 hst,Le]<;>omega) (by rw [GZ hst,P4]<;>omega)];rfl) J
 ·(try simp only [bj]at h1);have hi:i=l.length:=by omega
  subst hi;rw [cS];refine bF (ap (aP (aM ge J J J (aX (k:=3) J)) (aq (k:=2) ge J J J J J J (aa (ax (aH () O J (bQ (aV ge J J J (aX (k:=2) J))) J [] [] J J J))))))
theorem k9:∀(n:Nat)(v:SV)(l:List Ty),SizeOf.sizeOf l<n→l.length≤1000000→GYs l→cB l≤1000000→RL v l
 | 0,_,_,h,_,_,_=>absurd h (Nat.not_lt_zero _)
 | n+1,v,l,h,hl,hg,hn=>tW v l hn hl hg fun u hu=>by
  have h1:=List.sizeOf_lt_of_mem hu;have h2:SizeOf.sizeOf u.body<SizeOf.sizeOf u∧SizeOf.sizeOf u.els<SizeOf.sizeOf u:=by
   cases u;simp only [Ty.mk.sizeOf_spec,Ty.body,Ty.els];omega
  have h3:=hg.mem u hu;obtain⟨i,hi⟩:=List.getElem?_of_mem hu;have hle:=nK l (i+1);rw [iW hi]at hle;have h4:=FM u;exact⟨k9 n u.vb u.body (by omega) (eW h3).1 (eW h3).2 (by omega),k9 n u.vl u.els (by omega) (gk h3).1 (gk h3).2 (by omega)⟩
theorem tX(v:SV)(l:List Ty)(hl:l.length≤1000000)(hg:GYs l)(hn:cB l≤1000000):RL v l:=k9 _ v l (Nat.lt_succ_self _) hl hg hn
theorem lr{a b:Int}(h:a≠0):fst a b=a:=ae h
theorem w4{fs:List Tf}{ns:List Ba}{l:List Tx}{i:Nat}{u:Tx}(hu:l[i]?=some u)(h0:ir fs ns (l.take i)=0)(h:eX fs ns u≠0):ir fs ns l=eX fs ns u:=by
 have h1:=w6 fs ns (l.take (i+1)) (l.drop (i+1));rw [List.take_append_drop,mz hu,h0,e_,lr h]at h1;exact h1
theorem AP{fs:List Tf}{ns:List Ba}{t:Tx}{z:Int}(h:nE fs ns t=z)(hz:z≠0):eX fs ns t=z:=by rw [CB,h,lr hz]
theorem CA{fs:List Tf}{ns:List Ba}{t:Tx}{z:Int}(h:nE fs ns t=0)(h2:ir fs ns t.kids=z):eX fs ns t=z:=by rw [CB,h,h2];rfl
def TM(c:Nat)(vp vn:SV)(fs:List Tf)(ns:List Ba)(t:Tx):Prop:=bi prog 106 [Pt c,xV t] [] [bh c 128 [sv vp,sv vn],sl 1 eS (sv vn) ns,cx vp fs,ce t.v t.kids] (I6 (eX fs ns t)) []
theorem jR(b:Ba)(vp:SV)(fs:List Tf)(hfl:fs.length≤1000000):
  bi prog 57 [.agg #[sv vp],Sg b] [] [sl 3 ip (sv vp) fs] (I6 (ti fs b)) []:=by
 refine aI func57 J ntmps57 J fun w0 M H=>ap (ck J J fun b2=>ak J (aa (aT (ak J (aa (aB (bC (X:=Nat) (fun i=>i≤fs.length∧∀j y,j<i→fs[j]?=some y→decide (y.name=b)=false) (fun i=> [(1,Sg b),(2,Pt b2),(5,I6 (i:Int))]) (fun i=> [(2,bh b2 27 [sv vp])]) (fun i=> [(0,sl 3 ip (sv vp) fs)]) (fun i=>fs.length-i) 0 ⟨br _,fun j y h=>absurd h (Nat.not_lt_zero _)⟩ J J J (fun i hx0=> ?_))))))))
 obtain⟨n1,n2⟩:=hx0;refine aT (ad J (aC dJ J (aQ 2 iB J J J J (aP (aS underlying25 J (aK (k:=0) J)) (aw J J cr (aa (ai J (fun h1=> ?_) (fun h1=> ?_))))))))
 ·(try simp only [bj]at h1);have hi:i<fs.length:=by omega
  obtain⟨f,hf⟩:∃k,fs[i]?=some k:=⟨_,bN hi⟩
  have hfm:=bT hf;refine az (a_ (aB (ap (aC dJ J (aQ 2 iB J J J J (ad J (aP (aN (j:=i) underlying25 fj J J (aK (k:=0) J) (by first|rfl|omega) (by first|omega|(simp;done)|(simp;omega))) (aP (ek kC J) (aP (ah t9 J J (ko (aK (k:=0) J) (by intro _;rfl) hf J)) (ad J (aw J J cW (aa (ai J (fun h2=> ?_) (fun h2=> ?_))))))))))))))
  ·have hct:decide (f.name=b)=true:=by rw [←cq];exact h2
   refine ap (ad J (ak J (aa (ax (aH () O J (bQ (aL J)) (by rw [show ti fs b=(i:Int)from qa hf hct n2]) [] [] J J J)))))
  ·have hcf:decide (f.name=b)=false:=by rw [←cq];exact h2
   refine az (am (ad J (aw J J aO (ak J (aa ?_)))));refine aJ (i+1) ⟨⟨by omega,fun j y hj hy=>by
    by_cases h:j=i
    ·subst h;rw [hf]at hy;cases hy;exact hcf
    ·exact n2 j y (by omega) hy⟩,by omega⟩ rfl rfl rfl
 ·(try simp only [bj]at h1);have hi:i=fs.length:=by omega
  subst hi;refine bF (ap (ak J (aa (ax (aH () O J (bQ (aL J)) (by rw [show ti fs b= -1 from p_ n2]) [] [] J J J)))))
theorem IC(c:Nat)(vp vn:SV)(fs:List Tf)(ns:List Ba)(hfl:fs.length≤1000000)(hns:ns.length≤1000000)(t:Tx)(hkl:t.kids.length≤1000000)(ih:∀u∈t.kids,TM c vp vn fs ns u):
  bi prog 106 [Pt c,xV t] [] [bh c 128 [sv vp,sv vn],sl 1 eS (sv vn) ns,cx vp fs,ce t.v t.kids] (I6 (eX fs ns t)) []:=by
 refine aI func106 J ntmps106 J fun w0 M H=>aZ 2 4 J jG (aZ 3 5 J gd (ap (ck J J fun b3=>ak J (aa (bx (X:=Unit) (fun _=>t.kind=2→cn t.name ns=true) (fun _=> [(0,Pt c),(3,Pt b3)]) (fun _=> [(3,bh b3 61 (dT t))]) (fun _=> [(0,bh c 128 [sv vp,sv vn]),(1,sl 1 eS (sv vn) ns),(2,cx vp fs),(3,ce t.v t.kids),(4,sl 3 ip (sv vp) fs),(5,sl 4 dT (sv t.v) t.kids)]) ?_ (fun _ hm2=> ?_))))))
 ·refine ap (aC jQ J (aQ 3 t3 J J J J (aw J J bn (aa (ai J (fun h1=> ?_) (fun h1=> ?_))))))
  ·have q2:t.kind=2:=bW h1;refine a_ (bJ [12,13,14,15,16,17,18,5] _ J (aW (V:= [(0,12,_),(1,13,_),(2,14,_),(3,15,_),(4,16,_),(5,17,_)]) [0,1,2,3,4,5] 6 [6,5,4,3,2,1,0] [7] (fun _=> [(7,5,_)]) J J (ac J (ag dI J) (ac J (ah t9 J J (ay (k:=3) J J)) (aD J J (ac J (au J) (ac J (ag jz J) (ac J (ah gO J J (dt (k:=0) J J)) av)))))) J J J J J J J J J J J (fun _ _=>J) J (bB (xs:= [.tmp 13,.tmp 17]) (lE t.name vn ns hns) A2 [] [(false,1)] []) (fun _ _=>bl [7] J J (ac J (cA J) av) J J J (ap (ad J (aP (cz J) (aa (ai J (fun h2=> ?_) (fun h2=> ?_)))))))))
   ·have qm:cn t.name ns=false:=by simpa using h2
    refine ap (ak J (aa (ax ?_)));refine aH () O J (bQ (aL J)) (by rw [AP (show nE fs ns t=21 by rw [MZ q2,qm];rfl) (by decide)]) [] [] J J J
   ·have qm:cn t.name ns=true:=by simpa using h2
    refine az (aJ () (fun _=>qm) J J J)
  ·have q2:¬t.kind=2:=cg h1;refine az (aJ () (fun h=>absurd h q2) J J J)
 ·refine bx (X:=Unit) (fun _=>nE fs ns t=0) (fun _=> [(0,Pt c),(3,Pt b3)]) (fun _=> [(3,bh b3 61 (dT t))]) (fun _=> [(0,bh c 128 [sv vp,sv vn]),(1,sl 1 eS (sv vn) ns),(2,cx vp fs),(3,ce t.v t.kids),(4,sl 3 ip (sv vp) fs),(5,sl 4 dT (sv t.v) t.kids)]) ?_ (fun _ hn0=> ?_)
  ·refine ap (aC jQ J (aQ 3 t3 J J J J (aw J J bn (aa (ai J (fun h3=> ?_) (fun h3=> ?_))))))
   ·have q3:t.kind=3:=bW h3;refine a_ (bJ [24,25,26,27,28,29,30,6] _ J (aW (V:= [(0,24,_),(1,25,_),(2,26,_),(3,27,_),(4,28,_),(5,29,_)]) [0,1,2,3,4,5] 6 [6,5,4,3,2,1,0] [7] (fun _=> [(7,6,_)]) J J (aD J J (ac J (au J) (ac J (ag Cu J) (ac J (aM jB J J J (Nn (us:= [sv vp]) (k:=0) J J)) (ac J (ag dI J) (ac J (ah t9 J J (ay (k:=3) J J)) av)))))) J J J J J J J J J J J (fun _ _=>J) J (bB (xs:= [.tmp 27,.tmp 29]) (jR t.name vp fs hfl) Hg [] [(false,4)] []) (fun _ _=>bl [7] J J (ac J (cA J) av) J J J (aT (ad J (aw J J cr (aa (ai J (fun h4=> ?_) (fun h4=> ?_)))))))))
    ·have hff:cy fs t.name=none:=em.1.1 (bW h4);refine ap (ak J (aa (ax (aH () O J (bQ (aL J)) (by rw [AP (ww q3 hff) (by decide)]) [] [] J J J))))
    ·have hq1:¬ti fs t.name<0:=cg h4;obtain⟨f,hff⟩:∃f,cy fs t.name=some f:=by
      cases hf:cy fs t.name with
      | none=>exact absurd (em.1.2 hf) hq1
      | some f=>exact⟨f,rfl⟩
     obtain⟨m,hxm,hfx⟩:=em.2 f hff;have hfm:=bT hfx;have hml:m<fs.length:=(cJ.1 hfx).1;rw [hxm];refine aZ 2 6 J (l_ hfm) (aZ 6 7 J ma (az (a_ (bJ [33,34,35,36,37,38,39,40,41,42,43,44,45,46] _ J (bl (V:= [(0,33,_),(1,34,_),(2,35,_),(3,36,_),(4,37,_),(5,38,_),(6,39,_),(7,40,_),(8,41,_),(9,42,_),(10,43,_),(11,44,_),(12,45,_),(13,46,_)]) [0,1,2,3,4,5,6,7,8,9,10,11,12,13] J J (aD J J (ac J (au J) (ac J (ag Cu J) (ac J (ag dJ J) (ac J (ah iB J J (dt (k:=0) J J)) (aD J J (ac J (aN (j:=m) underlying25 fj J J (aK (k:=4) J) J hml) (ac J (ek d6 J) (ac J (ah gO J J (ko (aK (k:=4) J) (by intro _;rfl) hfx J)) (ac J (aS underlying46 J (aK (k:=7) J)) (ac J (ag dx J) (ac J (ah jh J J (ay (k:=3) J J)) (ac J (aS underlying59 J (aK (k:=5) J)) (ac J (aR J J eD) av)))))))))))))) J J J (ai J (fun h5=> ?_) (fun h5=> ?_)))))))
     ·(try simp only [bj]at h5);have hpl:¬f.ps.length=t.kids.length:=by omega
      refine ap (ak J (aa (ax ?_)));refine aH () O J (bQ (aL J)) (by rw [AP (show nE fs ns t=23 by rw [oD q3 hff,ae hpl]) (by decide)]) [] [] J J J
     ·(try simp only [bj]at h5);have hpl:f.ps.length=t.kids.length:=by omega
      refine az (aJ () (by rw [oD q3 hff,ar hpl]) J J J)
   ·have q3:¬t.kind=3:=cg h3;refine az (aJ () (by by_cases q2:t.kind=2;rw [MZ q2,ar (hm2 q2)];exact PH q2 q3) J J J)
  ·refine aT (ak J (aa (aB (bC (X:=Nat) (fun i=>i≤t.kids.length∧ir fs ns (t.kids.take i)=0) (fun i=> [(0,Pt c),(3,Pt b3),(7,I6 (i:Int))]) (fun i=> [(3,bh b3 61 (dT t))]) (fun i=> [(0,bh c 128 [sv vp,sv vn]),(1,sl 1 eS (sv vn) ns),(2,cx vp fs),(3,ce t.v t.kids),(4,sl 3 ip (sv vp) fs),(5,sl 4 dT (sv t.v) t.kids)]) (fun i=>t.kids.length-i) 0 ⟨br _,J⟩ J J J (fun i hx0=> ?_)))));obtain⟨n1,n2⟩:=hx0;refine aT (ad J (aC dx J (aQ 3 jh J J J J (aP (aS underlying59 J (aK (k:=5) J)) (aw J J cr (aa (ai J (fun h6=> ?_) (fun h6=> ?_))))))))
   ·(try simp only [bj]at h6);have hi:i<t.kids.length:=by omega
    obtain⟨u,hu⟩:∃u,t.kids[i]?=some u:=⟨_,bN hi⟩
    have hum:=bT hu;refine az (a_ (aB (ap (ad J (aC dx J (aQ 3 jh J J J J (ad J (aP (aN (j:=i) underlying59 cl J J (aK (k:=5) J) (by first|rfl|omega) (by first|omega|(simp;done)|(simp;omega))) (aP (aM cl J J J (bA (aK (k:=5) J) (by intro _;rfl) hu (by rfl))) (aZ 3 9 J (dD hum) (aj (xs:= [.tmp 54,.tmp 59]) (ih u hum) Hq [] [(false,0),(false,1),(false,2),(false,9)] [] (fun _ _=>ak J (aF J (ad J (aw J J eD (aa ?_))))))))))))))));refine ai J (fun h7=> ?_) (fun h7=> ?_)
    ·(try simp only [bj]at h7);have hct:eX fs ns u≠0:=h7;refine ap (ad J (ak J (aa (ax (aH () O J (bQ (aL J)) (by rw [CA hn0 (w4 hu n2 hct)]) [] [] J J J)))))
    ·(try simp only [bj]at h7);have hcf:eX fs ns u=0:=h7;refine az (am (ad J (aw J J aO (ak J (aa ?_)))));refine aJ (i+1) ⟨⟨by omega,by rw [mz hu,n2,hcf];rfl⟩,by omega⟩ J J J
   ·(try simp only [bj]at h6);have hi:i=t.kids.length:=by omega
    subst hi;rw [cS]at n2;refine bF (ap (ak J (aa (ax (aH () O J (bQ (aL J)) (by rw [CA hn0 n2]) [] [] J J J)))))
theorem E3(c:Nat)(vp vn:SV)(fs:List Tf)(ns:List Ba)(hfl:fs.length≤1000000)(hns:ns.length≤1000000):∀(n:Nat)(t:Tx),SizeOf.sizeOf t<n→GX t→TM c vp vn fs ns t
 | 0,_,h,_=>absurd h (Nat.not_lt_zero _)
 | n+1,t,h,ht=>IC c vp vn fs ns hfl hns t (mC ht) fun u hu=>E3 c vp vn fs ns hfl hns n u (by have:=qy hu;omega) ((kx ht).mem u hu)
theorem ID(c:Nat)(vp vn:SV)(fs:List Tf)(ns:List Ba)(hfl:fs.length≤1000000)(hns:ns.length≤1000000)(t:Tx)(ht:GX t):TM c vp vn fs ns t:=E3 c vp vn fs ns hfl hns _ t (Nat.lt_succ_self _) ht
end Go.Proofs.YtedmdgbmdplifaaGreat
