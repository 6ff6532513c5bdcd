/-
  A part of the proof. Conditions are with the theorems.
-/
import Derived.Laws.BitsAllLaws
import Derived.Test.YtedmdgbmdplifaaGreatXRa
import Derived.Test.YtedmdgbmdplifaaGreatXRb
set_option maxHeartbeats 32000000
set_option maxRecDepth 100000
set_option linter.unusedSimpArgs false
set_option linter.unusedVariables false
namespace Go.Proofs.YtedmdgbmdplifaaGreat
open Go.RowKit Tryz
theorem zU{s x:Ba}{l:List Ba}{i:Nat}(h:l[i]?=some x):cU s (l.take (i+1))=(cU s (l.take i) || (x==s)):=by
 unfold cU;rw [cn h,List.any_append,gk];simp only [List.any_cons,List.any_nil,Bool.or_false]
 congr 1
 exact decide_eq_decide.2 ⟨fun h=>h.symm,fun h=>h.symm⟩
theorem BN{s x:Ba}{l:List Ba}(hm:x∈l)(h:(x==s)=true):cU s l=true:=by
 rw [gk]at h;exact List.any_eq_true.2 ⟨x,hm,by simpa using(de h).symm⟩
def rlv:List (List Ba):= [[iQ],[ey],[eq],[lO,lL],[kN,lM,lN,mU],[fK,fW],[e_,ef],[fL,jx,kM]]
theorem rC(c:Int):
  aO prog 135 [.int .u8 c] [] [] (.bool (qI c)) []:=by
 refine au func135 J ntmps135 J fun w0 M H=>ak (am J (av J (ab J (ap J J eY (ab J (aF [] J J O (fun hg1=>aX J) J (aF [(6,_)] J J ⟨J,O⟩ (fun hg2=>aU J J jz) J (aH (bw J J J) (am J (aa (ar (aG () O J (bR (aD J)) J [] [] J J J))))))))))))
theorem m_(c:Int):
  aO prog 136 [.int .u8 c] [] [] (.bool (mA c)) []:=by
 refine au func136 J ntmps136 J fun w0 M H=>ak (am J (av J (ab J (ap J J eY (ab J (aF [] J J O (fun hg1=>aX J) J (aF [(6,_)] J J ⟨J,O⟩ (fun hg2=>aU J J jz) J (aH (bw J J J) (am J (aa (ar (aG () O J (bR (aD J)) J [] [] J J J))))))))))))
theorem BU:
  Spec prog 134 [] [] [] (X:=SV) (fun _=>True) (fun u=>sv u) (fun u=> [own 9 1 eS (sv u) vB]) (fun _=> []):=by
 refine au func134 J ntmps134 J fun w0 M H=>ak (am J (av J (dB eS vB (parts:= [(0,.const (Sg (ByteArray.mk #[101,108,115,101]))),(1,.const (Sg (ByteArray.mk #[102,110]))),(2,.const (Sg (ByteArray.mk #[105,102]))),(3,.const (Sg (ByteArray.mk #[105,110]))),(4,.const (Sg (ByteArray.mk #[109,101,109]))),(5,.const (Sg (ByteArray.mk #[111,117,116]))),(6,.const (Sg (ByteArray.mk #[114,101,116,117,114,110]))),(7,.const (Sg (ByteArray.mk #[118,97,114]))),(8,.const (Sg (ByteArray.mk #[119,104,105,108,101])))]) underlying46 t9 J (by decide) (by intro _;rfl) J (by decide) (by decide) J J J J fun v1=>am J (aa (ar (aG v1 O J (bR (aD J)) J [1] [] J J J))))))
theorem qp(s:Ba)(v:SV)(l:List Ba)(hl:l.length≤1000000):
  aO prog 59 [Sg s,sv v] [] [sl 1 eS (sv v) l] (.bool (cU s l)) []:=by
 refine au func59 J ntmps59 J fun w0 M H=>ak (am J (aa (aS (am J (aa (aC (bG (X:=Nat) (fun i=>i≤l.length∧cU s (l.take i)=false) (fun i=> [(0,Sg s),(1,sv v),(5,I6 (i:Int))]) (fun i=> []) (fun i=> [(0,sl 1 eS (sv v) l)]) (fun i=>l.length-i) 0 ⟨bB _,J⟩ J J J (fun i hx0=> ?_))))))))
 obtain⟨n1,n2⟩:=hx0;refine aS (ab J (ab J (aH (aZ underlying46 J (aQ (k:=0) J)) (ap J J cL (aa (ah J (fun h1=> ?_) (fun h1=> ?_)))))))
 ·(try simp only [aY]at h1);have hi:i<l.length:=by omega
  obtain⟨x,hx⟩:∃k,l[i]?=some k:=⟨_,bV hi⟩
  refine az (aW (aC (ak (ab J (ab J (aH (aR (j:=i) underlying46 t9 J J (aQ (k:=0) J) (by first|rfl|omega) (by first|omega|(simp;done)|(simp;omega))) (aH (ag t9 J J (ci (aQ (k:=0) J) (by intro _;rfl) hx (by rfl))) (ab J (ap J J eM (aa (ah J (fun h2=> ?_) (fun h2=> ?_))))))))))))
  ·have hct:(x==s)=true:=h2;refine ak (am J (aa (ar (aG () O J (bR (aD J)) (congrArg Value.bool (BN (cO hx) hct).symm) [] [] J J J))))
  ·have hcf:(x==s)=false:=h2;refine az (aj (ab J (ap J J a_ (am J (aa ?_)))));refine aI (i+1) ⟨⟨by omega,by rw [zU hx,n2,hcf];rfl⟩,by omega⟩ J J J
 ·(try simp only [aY]at h1);have hi:i=l.length:=by omega
  subst hi;rw [eo]at n2;refine bK (ak (am J (aa (ar (aG () O J (bR (aD J)) (congrArg Value.bool n2.symm) [] [] J J J)))))
theorem Ay(s:Ba)(v:SV)(l:List Ba)(hl:l.length≤1000000):aO prog 59 [Sg s,sv v] [] [own 9 1 eS (sv v) l] (.bool (cU s l)) []:=(qp s v l hl).ro1 bE
structure Qi where
 op:Int
 d:Int
 a:Int
 b:Int
 imm:Int
deriving DecidableEq
def gI(i:Qi):List Value:= [I6 i.op,I6 i.d,I6 i.a,I6 i.b,I3 i.imm]
def q3(op d a b:Int):Qi:=⟨op,d,a,b,0⟩
def qi(op d a n:Int):Qi:=⟨op,d,a,0,n⟩
structure Qg where
 code:List Qi
 fixes:List (Int×Int)
 labs:List Int
def tA(p:Int×Int):List Value:= [I6 p.1,I6 p.2]
def Qg.emit(s:Qg)(l:List Qi):Qg:={s with code:=s.code++l}
def Qg.lab(s:Qg):Qg:={s with labs:=s.labs++ [0]}
def Qg.place(s:Qg)(l:Int):Qg:={s with labs:=s.labs.set l.toNat s.code.length}
def Qg.jump(s:Qg)(op d a l:Int):Qg:={s with fixes:=s.fixes++ [((s.code.length:Int),l)],code:=s.code++ [qi op d a 0]}
def Qg.push(s:Qg)(r:Int):Qg:=(s.emit [qi 16 14 14 4294967292]).emit [qi 25 r 14 0]
def Qg.pop(s:Qg)(r:Int):Qg:=(s.emit [qi 23 r 14 0]).emit [qi 16 14 14 4]
def Qg.elem(s:Qg)(r:Int):Qg:=(s.emit [qi 17 r r 255]).emit [qi 20 r r 2]
def nG(o:Ba)(s:Qg):Qg:=
 if o=e_ then s.emit [q3 1 1 2 1]else if o=ef then s.emit [q3 2 1 2 1]else if o=fL then s.emit [q3 9 1 2 1]else
 if o=eq then s.emit [q3 3 1 2 1]else if o=iQ then s.emit [q3 4 1 2 1]else if o=ey then s.emit [q3 5 1 2 1]else
 if o=fK then s.emit [q3 6 1 2 1]else if o=fW then s.emit [q3 7 1 2 1]else if o=kN then s.emit [q3 11 1 2 1]else
 if o=lN then s.emit [q3 11 1 1 2]else if o=lM then(s.emit [q3 11 1 1 2]).emit [qi 19 1 1 1]else if o=mU then(s.emit [q3 11 1 2 1]).emit [qi 19 1 1 1]else
 if o=lL then(s.emit [q3 5 1 2 1]).emit [q3 11 1 0 1]else if o=lO then((s.emit [q3 5 1 2 1]).emit [q3 11 1 0 1]).emit [qi 19 1 1 1]else
 if o=jx then((s.lab.jump 32 1 0 s.labs.length).emit [q3 10 1 2 1]).place s.labs.length else
 if o=kM then((((((s.lab.emit [q3 1 3 1 0]).jump 32 1 0 s.labs.length).emit [q3 10 3 2 1]).emit [q3 9 3 3 1]).place s.labs.length)).emit [q3 2 1 2 3]else s
def Ck(o:Ba)(s:Qg):Qg:=
 if o=ef then s.emit [q3 2 1 0 1]else if o=sN then(s.emit [qi 16 2 0 4294967295]).emit [q3 5 1 1 2]else
 if o=uf then(s.emit [qi 16 2 0 1]).emit [q3 11 1 1 2]else s
def gS(n:Int):Bool:=decide (n<131072) || decide (4294967296-131072≤n)
def pu(n:Int)(s:Qg):Qg:=if gS n=true then s.emit [qi 16 1 0 n]else s.emit [qi 41 1 0 (n/1024),qi 18 1 1 (n%1024)]
abbrev Om:=List (Ba×Int)
def bk(o:Om)(x:Ba):Int:=match o.find? (fun p=>decide (p.1=x))with
 | some p=>p.2
 | none=>0
mutual
def gX(o st:Om):Tx→Qg→Qg
 | .mk k n nm _ kids,s=>
  if k=1 then pu n s else if k=2 then s.emit [qi 23 1 13 (bk o nm)]else
  if k=5 then s.emit [⟨48,0,0,0,2⟩]else
  if k=4 then((ku o st kids s).elem 1).emit [qi 23 1 1 8192]else
  if k=6 then Ck nm (ku o st kids s)else
  if k=7 then nG nm ((IT o st kids ((ku o st kids s).push 1)).pop 2)else
  if k=3 then(let s1:=(rH o st kids s).jump 40 15 0 (bk st nm)
   if kids.length>0 then s1.emit [qi 16 14 14 (4*kids.length)]else s1)else s
def ku(o st:Om):List Tx→Qg→Qg
 | [],s=>s
 | t::_,s=>gX o st t s
def IT(o st:Om):List Tx→Qg→Qg
 | [],s=>s
 | _::r,s=>ku o st r s
def rH(o st:Om):List Tx→Qg→Qg
 | [],s=>s
 | t::r,s=>rH o st r ((gX o st t s).push 1)
end
mutual
def gY(o st:Om)(en:Int):Ty→Qg→Qg
 | .mk k nm _ es _ body _ els,s=>
  let s0:=s.lab.place s.labs.length
  let s1:=ku o st es s0
  if k=1∨k=2 then s1.emit [qi 25 1 13 (bk o nm)]else
  if k=3 then(((IT o st es (s1.push 1)).pop 2).elem 2).emit [qi 25 1 2 8192]else
  if k=7 then s1.emit [⟨48,0,0,0,1⟩]else
  if k=6 then s1.jump 40 0 0 en else
  if k=4 then(let lb:Int:=s1.labs.length
   let s2:=gf o st en body ((s1.lab.lab).jump 32 1 0 lb)
   let s3:=if els.length>0 then s2.jump 40 0 0 (lb+1)else s2
   (gf o st en els (s3.place lb)).place (lb+1))else
  if k=5 then(let lb:Int:=s1.labs.length
   ((gf o st en body (s1.lab.jump 32 1 0 lb)).jump 40 0 0 s.labs.length).place lb)else s1
def gf(o st:Om)(en:Int):List Ty→Qg→Qg
 | [],s=>s
 | t::r,s=>gf o st en r (gY o st en t s)
end
mutual
def gD:Ty→Om×Int→Om×Int
 | .mk k nm _ _ _ body _ els,p=>gDs els (gDs body (if k=1 then(fz p.1 nm (wU (-(4*(p.2+1)))),p.2+1)else p))
def gDs:List Ty→Om×Int→Om×Int
 | [],p=>p
 | t::r,p=>gDs r (gD t p)
end
def gP(n:Int):Int→List Ba→Om→Om
 | _,[],o=>o
 | k,p::r,o=>gP n (k+1) r (fz o p (8+4*(n-1-k)))
def cQ(f:Tf):Om×Int:=gDs f.body (gP f.ps.length 0 f.ps [],0)
def dk:Nat→Qg→Qg
 | 0,s=>s
 | n+1,s=>dk n (s.push 0)
def gF(st:Om)(f:Tf)(s:Qg):Qg:=
 let lb:Int:=s.labs.length
 let ov:=cQ f
 let s1:=((((((s.lab.lab).place (bk st f.name)).emit [qi 16 12 12 1]).emit [qi 16 2 0 12]).jump 35 2 12 lb).emit [⟨49,0,0,0,0⟩]).place lb
 let s2:=dk ov.2.toNat (((s1.push 15).push 13).emit [q3 1 13 14 0])
 let s3:=((gf ov.1 st (lb+1) f.body s2).emit [q3 1 1 0 0]).place (lb+1)
 ((((s3.emit [q3 1 14 13 0]).pop 13).pop 15).emit [qi 16 12 12 4294967295]).emit [qi 27 0 15 0]
def pw(st:Om):List Tf→Qg→Qg
 | [],s=>s
 | f::r,s=>pw st r (gF st f s)
def mI:List Tf→Om×Qg→Om×Qg
 | [],p=>p
 | f::r,p=>mI r (fz p.1 f.name p.2.labs.length,p.2.lab)
def w4(fs:List Tf):Qg:=
 let p:=mI fs ([],⟨[],[],[]⟩)
 pw p.1 fs (((p.2.emit [qi 16 14 0 16384]).jump 40 15 0 (bk p.1 dV)).emit [⟨48,0,0,0,0⟩])
def gl:List Qi→Nat→Int→List Qi
 | [],_,_=> []
 | i::l,0,n=>{i with imm:=n}::l
 | i::l,k+1,n=>i::gl l k n
def ml(labs:List Int):List (Int×Int)→List Qi→List Qi
 | [],l=>l
 | p::r,l=>ml labs r (gl l p.1.toNat (wU (labs.getD p.2.toNat 0-p.1)))
def ir(fs:List Tf):List Qi:=ml (w4 fs).labs (w4 fs).fixes (w4 fs).code
def qn(L:Int→Int)(p:Nat):List (Int×Int)→List Qi→List Qi
 | [],l=>l
 | f::r,l=>qn L p r (gl l (f.1.toNat-p) (wU (L f.2-f.1)))
def J1(p n:Nat)(fs:List (Int×Int)):Prop:=∀f∈fs,(p:Int)≤f.1∧f.1<p+n
theorem ib:∀(l:List Qi)(k:Nat)(n:Int),(gl l k n).length=l.length
 | [],_,_=>rfl
 | _::_,0,_=>rfl
 | _::l,k+1,n=>congrArg (· +1) (ib l k n)
theorem tv(L:Int→Int)(p:Nat):∀(fs:List (Int×Int))(l:List Qi),(qn L p fs l).length=l.length
 | [],l=>rfl
 | f::r,l=>by unfold qn;rw [tv L p r,ib]
theorem nj:∀(a b:List Qi)(k:Nat)(n:Int),k<a.length→gl (a++b) k n=gl a k n++b
 | [],_,_,_,h=>absurd h (Nat.not_lt_zero _)
 | _::_,_,0,_,_=>rfl
 | x::a,b,k+1,n,h=>congrArg (x:: ·) (nj a b k n (Nat.lt_of_succ_lt_succ h))
theorem lX:∀(a b:List Qi)(k:Nat)(n:Int),a.length≤k→gl (a++b) k n=a++gl b (k-a.length) n
 | [],_,_,_,_=>rfl
 | _::_,_,0,_,h=>absurd h (Nat.not_succ_le_zero _)
 | x::a,b,k+1,n,h=>by
  rw [b_,Nat.add_sub_add_right];exact congrArg (x:: ·) (lX a b k n (Nat.le_of_succ_le_succ h))
theorem vg(L:Int→Int)(p:Nat):∀(fs:List (Int×Int))(a b:List Qi),J1 p a.length fs→qn L p fs (a++b)=qn L p fs a++b
 | [],a,b,_=>rfl
 | f::r,a,b,h=>by
  have hf:=h f (by simp);unfold qn;rw [nj a b _ _ (by omega),vg L p r _ b (fun g hg=>by rw [ib];exact h g (by simp [hg]))]
theorem r5(L:Int→Int)(p:Nat):∀(fs:List (Int×Int))(a b:List Qi),J1 (p+a.length) b.length fs→qn L p fs (a++b)=a++qn L (p+a.length) fs b
 | [],a,b,_=>rfl
 | f::r,a,b,h=>by
  have hf:=h f (by simp);unfold qn;rw [lX a b _ _ (by omega),r5 L p r a _ (fun g hg=>by rw [ib];exact h g (by simp [hg]))]
  congr 3
  omega
theorem ze(L:Int→Int)(p:Nat):∀(f1 f2:List (Int×Int))(l:List Qi),qn L p (f1++f2) l=qn L p f2 (qn L p f1 l)
 | [],f2,l=>rfl
 | f::r,f2,l=>by
  show qn L p (r++f2) _=qn L p f2 (qn L p r _);exact ze L p r f2 _
theorem Ff(L:Int→Int)(p:Nat)(f1 f2:List (Int×Int))(a b:List Qi)(h1:J1 p a.length f1)(h2:J1 (p+a.length) b.length f2):
  qn L p (f1++f2) (a++b)=qn L p f1 a++qn L (p+a.length) f2 b:=by
 rw [ze,vg L p f1 a b h1,r5 L p f2 _ b (by rw [tv];exact h2),tv]
structure Res(K:(Int→Int)→Prop)(s s':Qg)(r:List Qi):Prop where
 ex:∃raw fs ls,s'.code=s.code++raw∧raw.length=r.length∧s'.fixes=s.fixes++fs∧s'.labs=s.labs++ls∧J1 s.code.length raw.length fs∧
  ∀L:Int→Int,K L→(∀(i:Nat)(n:Int),ls[i]?=some n→L ((s.labs.length+i:Nat):Int)=n)→qn L s.code.length fs raw=r
theorem Res.nil{K:(Int→Int)→Prop}(s:Qg):Res K s s []:=⟨⟨[],[],[],by simp,rfl,by simp,by simp,fun _ h=>by simp at h,fun _ _ _=>rfl⟩⟩
theorem Res.seq{K:(Int→Int)→Prop}{s s1 s2:Qg}{r1 r2:List Qi}(h1:Res K s s1 r1)(h2:Res K s1 s2 r2):Res K s s2 (r1++r2):=by
 obtain⟨raw1,fs1,ls1,a1,a2,a3,a4,a5,a6⟩:=h1.ex;obtain⟨raw2,fs2,ls2,b1,b2,b3,b4,b5,b6⟩:=h2.ex;have hl:s1.code.length=s.code.length+raw1.length:=by rw [a1,bO]
 have hm:s1.labs.length=s.labs.length+ls1.length:=by rw [a4,bO]
 refine⟨⟨raw1++raw2,fs1++fs2,ls1++ls2,by rw [b1,a1,List.append_assoc],by simp [a2,b2],by rw [b3,a3,List.append_assoc],by rw [b4,a4,List.append_assoc],fun f hf=> ?_,fun L hK hL=> ?_⟩⟩
 ·rw [bO];rcases List.mem_append.1 hf with hf|hf
  ·have:=a5 f hf;omega
  ·have:=b5 f hf;omega
 ·rw [Ff L _ _ _ _ _ a5 (by rw [←hl];exact b5),←hl,a6 L hK fun i n h=>hL i n (by
   rw [List.getElem?_append_left (by obtain⟨h,-⟩:=cC.1 h;exact h)];exact h),b6 L hK fun i n h=> ?_]
  rw [hm];have:=hL (ls1.length+i) n (by rw [List.getElem?_append_right (by omega),show ls1.length+i-ls1.length=i by omega];exact h);rw [show s.labs.length+ls1.length+i=s.labs.length+(ls1.length+i) by omega];exact this
theorem Res.emit{K:(Int→Int)→Prop}(s:Qg)(l:List Qi):Res K s (s.emit l) l:=
 ⟨⟨l,[],[],rfl,rfl,by simp [Qg.emit],by simp [Qg.emit],fun _ h=>by simp at h,fun _ _ _=>rfl⟩⟩
theorem Res.jump{K:(Int→Int)→Prop}(s:Qg)(op d a l:Int)(n:Int)(h:∀L,K L→wU (L l-s.code.length)=n):Res K s (s.jump op d a l) [qi op d a n]:=
 ⟨⟨[qi op d a 0],[((s.code.length:Int),l)],[],rfl,rfl,rfl,by simp [Qg.jump],fun f hf=>by
  have:=List.mem_singleton.1 hf;subst this;simp only [dJ];omega,fun L hK _=>by
  have:=h L hK;simp only [qn,gl,Int.toNat_natCast,Nat.sub_self,this];rfl⟩⟩
theorem Res.push{K:(Int→Int)→Prop}(s:Qg)(r:Int):Res K s (s.push r) [qi 16 14 14 4294967292,qi 25 r 14 0]:=(Res.emit s _).seq (Res.emit _ _)
theorem Res.pop{K:(Int→Int)→Prop}(s:Qg)(r:Int):Res K s (s.pop r) [qi 23 r 14 0,qi 16 14 14 4]:=(Res.emit s _).seq (Res.emit _ _)
theorem Res.elem{K:(Int→Int)→Prop}(s:Qg)(r:Int):Res K s (s.elem r) [qi 17 r r 255,qi 20 r r 2]:=(Res.emit s _).seq (Res.emit _ _)
theorem Res.weaken{K K':(Int→Int)→Prop}{s s':Qg}{r:List Qi}(h:Res K s s' r)(hk:∀L,K' L→K L):Res K' s s' r:=by
 obtain⟨raw,fs,ls,a1,a2,a3,a4,a5,a6⟩:=h.ex;exact⟨⟨raw,fs,ls,a1,a2,a3,a4,a5,fun L hK=>a6 L (hk L hK)⟩⟩
theorem Res.labels{K:(Int→Int)→Prop}{s s' s'':Qg}{r:List Qi}(ns ms:List Int)(hl:ns.length=ms.length)
  (h:Res (fun L=>K L∧∀(i:Nat)(n:Int),ms[i]?=some n→L ((s.labs.length+i:Nat):Int)=n) {s with labs:=s.labs++ns} s' r)
  (hc:s''.code=s'.code) (hf:s''.fixes=s'.fixes) (hs:∀ls,s'.labs=(s.labs++ns)++ls→s''.labs=(s.labs++ms)++ls):Res K s s'' r:=by
 obtain⟨raw,fs,ls,a1,a2,a3,a4,a5,a6⟩:=h.ex;refine⟨⟨raw,fs,ms++ls,hc.trans a1,a2,hf.trans a3,by rw [hs ls a4,List.append_assoc],a5,fun L hK hL=>a6 L ⟨hK,fun i n hi=>hL i n ?_⟩ fun i n hi=> ?_⟩⟩
 ·rw [List.getElem?_append_left (by obtain⟨h,-⟩:=cC.1 hi;exact h)];exact hi
 ·have:=hL (ms.length+i) n (by rw [List.getElem?_append_right (by omega),show ms.length+i-ms.length=i by omega];exact hi);show L (((s.labs++ns).length+i:Nat):Int)=n;rw [bO,hl,show s.labs.length+ms.length+i=s.labs.length+(ms.length+i) by omega];exact this
def eJ(r:Int):List Qi:= [qi 16 14 14 4294967292,qi 25 r 14 0]
def jE(r:Int):List Qi:= [qi 23 r 14 0,qi 16 14 14 4]
def qV(r:Int):List Qi:= [qi 17 r r 255,qi 20 r r 2]
def zg(o:Ba):List Qi:=
 if o=e_ then [q3 1 1 2 1]else if o=ef then [q3 2 1 2 1]else if o=fL then [q3 9 1 2 1]else
 if o=eq then [q3 3 1 2 1]else if o=iQ then [q3 4 1 2 1]else if o=ey then [q3 5 1 2 1]else
 if o=fK then [q3 6 1 2 1]else if o=fW then [q3 7 1 2 1]else if o=kN then [q3 11 1 2 1]else
 if o=lN then [q3 11 1 1 2]else if o=lM then [q3 11 1 1 2,qi 19 1 1 1]else if o=mU then [q3 11 1 2 1,qi 19 1 1 1]else
 if o=lL then [q3 5 1 2 1,q3 11 1 0 1]else if o=lO then [q3 5 1 2 1,q3 11 1 0 1,qi 19 1 1 1]else
 if o=jx then [qi 32 1 0 2,q3 10 1 2 1]else
 if o=kM then [q3 1 3 1 0,qi 32 1 0 3,q3 10 3 2 1,q3 9 3 3 1,q3 2 1 2 3]else []
def AA(o:Ba):List Qi:=
 if o=ef then [q3 2 1 0 1]else if o=sN then [qi 16 2 0 4294967295,q3 5 1 1 2]else
 if o=uf then [qi 16 2 0 1,q3 11 1 1 2]else []
def nC(n:Int):List Qi:=if gS n=true then [qi 16 1 0 n]else [qi 41 1 0 (n/1024),qi 18 1 1 (n%1024)]
mutual
def zX(o:Om)(S:Ba→Int):Tx→Nat→List Qi
 | .mk k n nm _ kids,p=>
  if k=1 then nC n else if k=2 then [qi 23 1 13 (bk o nm)]else
  if k=5 then [⟨48,0,0,0,2⟩]else
  if k=4 then vv o S kids p++(qV 1++ [qi 23 1 1 8192])else
  if k=6 then vv o S kids p++AA nm else
  if k=7 then vv o S kids p++(eJ 1++(I0 o S kids (p+(vv o S kids p).length+2)++(jE 2++zg nm)))else
  if k=3 then vF o S kids p++([qi 40 15 0 (wU (S nm-((p+(vF o S kids p).length:Nat):Int)))]++if kids.length>0 then [qi 16 14 14 (4*kids.length)]else [])else []
def vv(o:Om)(S:Ba→Int):List Tx→Nat→List Qi
 | [],p=> []
 | t::_,p=>zX o S t p
def I0(o:Om)(S:Ba→Int):List Tx→Nat→List Qi
 | [],p=> []
 | _::r,p=>vv o S r p
def vF(o:Om)(S:Ba→Int):List Tx→Nat→List Qi
 | [],p=> []
 | t::r,p=>zX o S t p++(eJ 1++vF o S r (p+(zX o S t p).length+2))
end
mutual
def wX:Tx→Nat
 | .mk k n nm _ kids=>
  if k=1 then(nC n).length else if k=2 then 1 else if k=5 then 1 else
  if k=4 then iD kids+3 else if k=6 then iD kids+(AA nm).length else
  if k=7 then iD kids+(I7 kids+(4+(zg nm).length))else
  if k=3 then qs kids+(1+if kids.length>0 then 1 else 0)else 0
def iD:List Tx→Nat
 | []=>0
 | t::_=>wX t
def I7:List Tx→Nat
 | []=>0
 | _::r=>iD r
def qs:List Tx→Nat
 | []=>0
 | t::r=>wX t+(2+qs r)
end
mutual
theorem fI(o:Om)(S:Ba→Int):∀(t:Tx)(p:Nat),(zX o S t p).length=wX t
 | .mk k n nm _ kids,p=>by
  have h0:=lQ o S kids;have h1:=xA o S kids;have hs:=nI o S kids;unfold zX wX;split
  ·rfl
  split
  ·rfl
  split
  ·rfl
  split
  ·rw [bO,h0];rfl
  split
  ·rw [bO,h0]
  split
  ·simp only [bO,h0,h1];simp only [eJ,jE,b_,cj];omega
  split
  ·simp only [bO,hs,b_,cj];split<;>rfl
  ·rfl
theorem lQ(o:Om)(S:Ba→Int):∀(l:List Tx)(p:Nat),(vv o S l p).length=iD l
 | [],p=>rfl
 | t::_,p=>fI o S t p
theorem xA(o:Om)(S:Ba→Int):∀(l:List Tx)(p:Nat),(I0 o S l p).length=I7 l
 | [],p=>rfl
 | _::r,p=>lQ o S r p
theorem nI(o:Om)(S:Ba→Int):∀(l:List Tx)(p:Nat),(vF o S l p).length=qs l
 | [],p=>rfl
 | t::r,p=>by
  unfold vF qs;rw [bO,bO,fI o S t,nI o S r];rfl
end
mutual
def zY(o:Om)(S:Ba→Int)(E:Int):Ty→Nat→List Qi
 | .mk k nm _ es _ body _ els,p=>
  if k=1∨k=2 then vv o S es p++ [qi 25 1 13 (bk o nm)]else
  if k=3 then vv o S es p++(eJ 1++(I0 o S es (p+iD es+2)++(jE 2++(qV 2++ [qi 25 1 2 8192]))))else
  if k=7 then vv o S es p++ [⟨48,0,0,0,1⟩]else
  if k=6 then vv o S es p++ [qi 40 0 0 (wU (E-((p+iD es:Nat):Int)))]else
  if k=4 then vv o S es p++([qi 32 1 0 (wU (((jA o S E body (p+iD es+1)).length+(if els.length>0 then 1 else 0)+1:Nat):Int))]++(jA o S E body (p+iD es+1)++
   ((if els.length>0 then [qi 40 0 0 (wU (((jA o S E els (p+iD es+1+(jA o S E body (p+iD es+1)).length+(if els.length>0 then 1 else 0))).length+1:Nat):Int))]else [])++
    jA o S E els (p+iD es+1+(jA o S E body (p+iD es+1)).length+(if els.length>0 then 1 else 0)))))else
  if k=5 then vv o S es p++([qi 32 1 0 (wU (((jA o S E body (p+iD es+1)).length+2:Nat):Int))]++(jA o S E body (p+iD es+1)++
   [qi 40 0 0 (wU (-(((jA o S E body (p+iD es+1)).length+iD es+1:Nat):Int)))]))else vv o S es p
def jA(o:Om)(S:Ba→Int)(E:Int):List Ty→Nat→List Qi
 | [],p=> []
 | t::r,p=>zY o S E t p++jA o S E r (p+(zY o S E t p).length)
end
mutual
def wY:Ty→Nat
 | .mk k _ _ es _ body _ els=>
  if k=1∨k=2 then iD es+1 else if k=3 then iD es+(I7 es+7)else if k=7 then iD es+1 else if k=6 then iD es+1 else
  if k=4 then iD es+(eK body+(eK els+(if els.length>0 then 2 else 1)))else
  if k=5 then iD es+(eK body+2)else iD es
def eK:List Ty→Nat
 | []=>0
 | t::r=>wY t+eK r
end
mutual
theorem vE(o:Om)(S:Ba→Int)(E:Int):∀(t:Ty)(p:Nat),(zY o S E t p).length=wY t
 | .mk k nm _ es _ body _ els,p=>by
  have h0:=lQ o S es;have h1:=xA o S es;have hb:=eB o S E body;have he:=eB o S E els;unfold zY wY;split
  ·simp only [bO,h0];rfl
  split
  ·simp only [bO,h0,h1,eJ,jE,qV,b_,cj];omega
  split
  ·simp only [bO,h0];rfl
  split
  ·simp only [bO,h0];rfl
  split
  ·simp only [bO,h0,hb,he,b_,cj];split
   ·simp only [b_,cj];omega
   ·simp only [b_,cj];omega
  split
  ·simp only [bO,h0,hb,b_,cj];omega
  ·exact h0 p
theorem eB(o:Om)(S:Ba→Int)(E:Int):∀(l:List Ty)(p:Nat),(jA o S E l p).length=eK l
 | [],p=>rfl
 | t::r,p=>by
  unfold jA eK;rw [bO,vE o S E t,eB o S E r]
end
def h_:Nat→List Qi
 | 0=> []
 | n+1=>eJ 0++h_ n
theorem ja:∀n,(h_ n).length=2*n
 | 0=>rfl
 | n+1=>by
  unfold h_;rw [bO,ja n];show 2+2*n=_;omega
def zF(S:Ba→Int)(f:Tf)(p:Nat):List Qi:=
 let ov:=cQ f
 [qi 16 12 12 1,qi 16 2 0 12,qi 35 2 12 2,⟨49,0,0,0,0⟩]++(eJ 15++(eJ 13++([q3 1 13 14 0]++(h_ ov.2.toNat++
  (jA ov.1 S ((p+10+2*ov.2.toNat+eK f.body:Nat):Int) f.body (p+9+2*ov.2.toNat)++
  ([q3 1 1 0 0,q3 1 14 13 0]++(jE 13++(jE 15++ [qi 16 12 12 4294967295,qi 27 0 15 0]))))))))
def wF(f:Tf):Nat:=17+2*(cQ f).2.toNat+eK f.body
theorem vH(S:Ba→Int)(f:Tf)(p:Nat):(zF S f p).length=wF f:=by
 unfold zF wF;simp only [bO,ja,eB,eJ,jE,b_,cj];omega
def AJ(S:Ba→Int):List Tf→Nat→List Qi
 | [],p=> []
 | f::r,p=>zF S f p++AJ S r (p+wF f)
def vM:List Tf→Nat
 | []=>0
 | f::r=>wF f+vM r
theorem nJ(S:Ba→Int):∀(l:List Tf)(p:Nat),(AJ S l p).length=vM l
 | [],p=>rfl
 | f::r,p=>by
  unfold AJ vM;rw [bO,vH,nJ S r]
def gw:List Tf→Nat→Ba→Int
 | [],_,_=>3
 | f::r,p,x=>if f.name=x then(p:Int)else gw r (p+wF f) x
def iC(fs:List Tf):List Qi:= [qi 16 14 0 16384,qi 40 15 0 (wU (gw fs 3 dV-1)),⟨48,0,0,0,0⟩]++AJ (gw fs 3) fs 3
def gR(vp vc vf vl:SV)(ms:Nat)(mo:Option Nat)(mp:Nat)(en:Int):List Value:= [sv vp,sv vc,sv vf,sv vl,.map (some ms),.map mo,.map (some mp),I6 en]
structure Ga where
 g:Nat
 vp:SV
 ms:Nat
 mo:Option Nat
 mp:Nat
 en:Int
def gA(e:Ga)(s:Qg):Asn:=Af (α:=SV×SV×SV) fun x=> [aP e.g 111 (gR e.vp x.1 x.2.1 x.2.2 e.ms e.mo e.mp e.en),own 118 5 gI (sv x.1) s.code,own 171 2 tA (sv x.2.1) s.fixes,own 3 1 eI (sv x.2.2) s.labs]
theorem J3{α:Type}{l:List α}{i:Nat}(h:i<l.length):l[i]?=some (l[i]'h):=bV h
def Qg.sz(s:Qg):Nat:=s.code.length+s.fixes.length+s.labs.length
theorem yr{n:Nat}{vs:List Value}{R0:List Asn}{L L1:List Asn}{X:Type}{φ:X→Prop}{v:X→Value}{e e':Ga}{s s':Qg}(c:SV×SV×SV→X→SV×SV×SV)
  (h:∀vc vf vl,Spec prog n vs ([aP e.g 111 (gR e.vp vc vf vl e.ms e.mo e.mp e.en),own 118 5 gI (sv vc) s.code,own 171 2 tA (sv vf) s.fixes,own 3 1 eI (sv vl) s.labs]++L) R0 φ v
   (fun x=> [aP e'.g 111 (gR e'.vp (c (vc,vf,vl) x).1 (c (vc,vf,vl) x).2.1 (c (vc,vf,vl) x).2.2 e'.ms e'.mo e'.mp e'.en),own 118 5 gI (sv (c (vc,vf,vl) x).1) s'.code,own 171 2 tA (sv (c (vc,vf,vl) x).2.1) s'.fixes,own 3 1 eI (sv (c (vc,vf,vl) x).2.2) s'.labs]++L1) (fun _=> [])):
  Spec prog n vs (gA e s::L) R0 φ v (fun _=>gA e' s'::L1) (fun _=> []):=
 Spec.pack (fun _(x:SV×SV×SV)=> [aP e'.g 111 (gR e'.vp x.1 x.2.1 x.2.2 e'.ms e'.mo e'.mp e'.en),own 118 5 gI (sv x.1) s'.code,own 171 2 tA (sv x.2.1) s'.fixes,own 3 1 eI (sv x.2.2) s'.labs]) c (fun x=>h x.1 x.2.1 x.2.2)
theorem pT(g:Nat)(vp vc vf vl:SV)(ms:Nat)(mo:Option Nat)(mp:Nat)(en:Int)(s:Qg)(hz:s.sz≤950000)(w:SV)(l:List Qi)(hl:l.length≤1000):
  Spec prog 53 [Pt g,sv w] [aP g 111 (gR vp vc vf vl ms mo mp en),own 118 5 gI (sv vc) s.code,own 171 2 tA (sv vf) s.fixes,own 3 1 eI (sv vl) s.labs] [sl 5 gI (sv w) l] (X:=SV) (fun _=>True) (fun _=> .tuple #[]) (fun v=> [aP g 111 (gR vp v vf vl ms mo mp en),own 118 5 gI (sv v) (s.emit l).code,own 171 2 tA (sv vf) (s.emit l).fixes,own 3 1 eI (sv vl) (s.emit l).labs]) (fun _=> []):=by
 refine au func53 J ntmps53 J fun w0 M H=> ?_
 unfold Qg.sz at hz;refine aj (ab J (ab J (bp J (ax kD J (aL 0 zq J J J J (ab J (gz 1 underlying106 el J (by decide) (fun _=>J) (fun _=>J) J J J (aQ (k:=0) J) (by first|omega|(simp;done)|(simp;omega)) (by unfold maxLen;first|omega|(simp;done)|(simp;omega)) J fun v10=>bp J (ax kD J (aw (k:=0) zq J J J J J J J J (aa (bN v10 O J fi J [0,1,2,3] [] J J J)))))))))))
theorem gq(e:Ga)(s:Qg)(hz:s.sz≤940000)(w:SV)(l:List Qi)(hl:l.length≤1000):
  aO prog 53 [Pt e.g,sv w] [gA e s] [sl 5 gI (sv w) l] (.tuple #[]) [gA e (s.emit l)]:=by
 exact Spec.map (fun _=>()) (fun _ _=>O) (fun _=>J) (fun _=>J) (fun _=>J) (yr (L:= []) (L1:= []) (fun a(x:SV)=>(x,a.2.1,a.2.2)) fun vc vf vl=>pT e.g e.vp vc vf vl e.ms e.mo e.mp e.en s (by omega) w l hl)
theorem ur(g:Nat)(vp vc vf vl:SV)(ms:Nat)(mo:Option Nat)(mp:Nat)(en:Int)(s:Qg)(hz:s.sz≤950000):
  Spec prog 50 [Pt g] [aP g 111 (gR vp vc vf vl ms mo mp en),own 118 5 gI (sv vc) s.code,own 171 2 tA (sv vf) s.fixes,own 3 1 eI (sv vl) s.labs] [] (X:=SV) (fun _=>True) (fun _=>I6 (s.labs.length:Int)) (fun v=> [aP g 111 (gR vp vc vf v ms mo mp en),own 118 5 gI (sv vc) (s.lab).code,own 171 2 tA (sv vf) (s.lab).fixes,own 3 1 eI (sv v) (s.lab).labs]) (fun _=> []):=by
 refine au func50 J ntmps50 J fun w0 M H=> ?_
 unfold Qg.sz at hz;refine ak (am J (av J (ab J (ab J (bp J (ax mx J (aL 0 DQ J J J J (bD eI 0 underlying22 t3 J (by decide) (by decide) J J J J fun v8=>gz 3 underlying22 t3 J (by decide) (fun _=>J) (fun _=>J) J J J (bl (k:=8) J) (by first|omega|(simp;done)|(simp;omega)) (by unfold maxLen;first|omega|(simp;done)|(simp;omega)) J fun v9=>bp J (ax mx J (aw (k:=0) DQ J J J J J J J J (av J (ab J ?_))))))))))));refine bp J (ax mx J (aL 0 DQ J J J J (aH (aZ underlying22 J (bl (k:=3) J)) (ap J J iz (am J (aa (ar (aG v9 O J (bR (aD J)) (congrArg (Value.int .i64) (by rw [bO,dJ,bC (by omega)];omega)) [0,1,2,3] [] J J J))))))))
theorem eG(e:Ga)(s:Qg)(hz:s.sz≤940000):
  aO prog 50 [Pt e.g] [gA e s] [] (I6 (s.labs.length:Int)) [gA e s.lab]:=by
 exact Spec.map (fun _=>()) (fun _ _=>O) (fun _=>J) (fun _=>J) (fun _=>J) (yr (L:= []) (L1:= []) (fun a(x:SV)=>(a.1,a.2.1,x)) fun vc vf vl=>ur e.g e.vp vc vf vl e.ms e.mo e.mp e.en s (by omega))
theorem t_(g:Nat)(vp vc vf vl:SV)(ms:Nat)(mo:Option Nat)(mp:Nat)(en:Int)(s:Qg)(hz:s.sz≤950000)(l:Int)(hl:0≤l∧l<s.labs.length):
  aO prog 92 [Pt g,I6 l] [aP g 111 (gR vp vc vf vl ms mo mp en),own 118 5 gI (sv vc) s.code,own 171 2 tA (sv vf) s.fixes,own 3 1 eI (sv vl) s.labs] [] (.tuple #[]) [aP g 111 (gR vp vc vf vl ms mo mp en),own 118 5 gI (sv vc) (s.place l).code,own 171 2 tA (sv vf) (s.place l).fixes,own 3 1 eI (sv vl) (s.place l).labs]:=by
 refine au func92 J ntmps92 J fun w0 M H=> ?_
 unfold Qg.sz at hz;refine ce [4,5,6,7,8,9,10,11,12,13,14] _ J (bP (V:= [(0,4,_),(1,5,_),(2,6,_),(3,7,_),(4,8,_),(5,9,_),(6,10,_),(7,11,_),(8,12,_),(9,13,_),(10,14,_)]) [0,1,2,3,4,5,6,7,8,9,10] 11 [11,10,9,8,7,6,5,4,3,2,1,0] [] (fun _=> []) J J (aJ J J (ad J (aA J) (ad J (ai mx J) (ad J (ag DQ J J (aB (k:=0) J J)) (aJ J J (aJ J J (ad J (aA J) (ad J (ai kD J) (ad J (ag zq J J (aB (k:=0) J J)) (ad J (aZ underlying106 J (bl (k:=1) J)) (ad J (aR (j:=l.toNat) underlying22 t3 J J (bl (k:=3) J) (by first|rfl|omega) (by first|omega|(simp;done)|(simp;omega))) ay))))))))))) J J J J J J J J J (fun _ _=>J) J (gB (k:=3) t3 J J J (by intro _;rfl) (J3 (by omega)) J J) (fun _ _=>br [] J J ay J J J (bN () O J fi J [0,1,2,3] [] J J J)))
theorem dP(e:Ga)(s:Qg)(hz:s.sz≤940000)(l:Int)(hl:0≤l∧l<s.labs.length):
  aO prog 92 [Pt e.g,I6 l] [gA e s] [] (.tuple #[]) [gA e (s.place l)]:=by
 exact Spec.map (fun _=>()) (fun _ _=>O) (fun _=>J) (fun _=>J) (fun _=>J) (yr (L:= []) (L1:= []) (fun a(_:Unit)=>a) fun vc vf vl=>t_ e.g e.vp vc vf vl e.ms e.mo e.mp e.en s (by omega) l hl)
theorem wN(g:Nat)(vp vc vf vl:SV)(ms:Nat)(mo:Option Nat)(mp:Nat)(en:Int)(s:Qg)(hz:s.sz≤940000)(op d a l:Int):
  Spec prog 52 [Pt g,I6 op,I6 d,I6 a,I6 l] [aP g 111 (gR vp vc vf vl ms mo mp en),own 118 5 gI (sv vc) s.code,own 171 2 tA (sv vf) s.fixes,own 3 1 eI (sv vl) s.labs] [] (X:=SV×SV) (fun _=>True) (fun _=> .tuple #[]) (fun v=> [aP g 111 (gR vp v.1 v.2 vl ms mo mp en),own 118 5 gI (sv v.1) (s.jump op d a l).code,own 171 2 tA (sv v.2) (s.jump op d a l).fixes,own 3 1 eI (sv vl) (s.jump op d a l).labs]) (fun _=> []):=by
 refine au func52 J ntmps52 J fun w0 M H=> ?_
 unfold Qg.sz at hz;refine aW ?_;refine ce [10,11,12,13,14,15,16,17,18,19,20,21,22,23,24,25] _ J (bn (V:= [(0,10,_),(1,11,_),(2,12,_),(3,13,_),(4,14,_),(5,15,_),(6,16,_),(7,17,_),(8,18,_),(9,19,_),(10,20,_),(11,21,_)]) [0,1,2,3,4,5,6,7,8,9,10,11] 12 [12,11,10,9,8,7,6,5] [] (fun v22=> []) J J (aJ J J (aJ J J (ad J (aA J) (ad J (ai ol J) (ad J (ag DS J J (aB (k:=0) J J)) (aJ J J (ad J (aA J) (ad J (ai kD J) (ad J (ag zq J J (aB (k:=0) J J)) (ad J (aZ underlying106 J (bl (k:=1) J)) (aJ J J (ad J (aT (parts:= [(0,.tmp 19),(1,.tmp 20)]) vU Jz J J) ay)))))))))))) J J J J J J J J J J J (fun _ _=>J) J (gp tA (((s.code.length:Nat):Int),l) underlying107 vU J (by decide) (by decide) J J J) (fun v22 _=>bn [0,1,2,3,4] 13 [13,12,11,10,9,8,7,6,5,4,3,2,1] [14,15] (fun v23=> [(14,24,_),(15,25,_)]) J J (aJ J J (aJ J J (ad J (aA J) (ad J (ai ol J) (ad J (ag DS J J (aB (k:=0) J J)) ay))))) J J J J J J J J J J J (fun _ _=>J) J (ko 2 underlying107 vU J (by decide) (fun _=>J) (fun _=>J) J J J (bl (k:=22) J) (by first|omega|(simp;done)|(simp;omega)) (by unfold maxLen;first|omega|(simp;done)|(simp;omega))) (fun v23 _=>bP [14,15,0] 16 [16,15,14,13,12,11,10,9,8,7,6,5,4,3,2,1,0] [] (fun _=> []) J J (ad J (aA J) (ad J (ai ol J) (aJ J J ay))) J J J J J J J J J (fun _ _=>J) J (da (k:=0) DS J J J J J J J J) (fun _ _=>br [] J J ay J J J ?_))));refine aj (ab J (ab J (ab J (ab J (aH (aT (parts:= [(0,.tmp 27),(1,.tmp 28),(2,.tmp 29)]) el kV J J) (bD gI (qi op d a 0) underlying106 el J (by decide) (by decide) J J J J fun v31=>cr 31 7 J bE (ae (xs:= [.tmp 26,.tmp 31]) (pT g vp vc v23 vl ms mo mp en {s with fixes:=s.fixes++ [((s.code.length:Int),l)]} (by unfold Qg.sz;simp;omega) v31 [qi op d a 0] (by simp)) u0 [0,1,2,3] [(false,7)] [0,1,2,3] (fun vd _=>aa (bN (vd,v23) O J fi J [0,1,2,3] [] J J J)))))))))
theorem eO(e:Ga)(s:Qg)(hz:s.sz≤940000)(op d a l:Int):
  aO prog 52 [Pt e.g,I6 op,I6 d,I6 a,I6 l] [gA e s] [] (.tuple #[]) [gA e (s.jump op d a l)]:=by
 exact Spec.map (fun _=>()) (fun _ _=>O) (fun _=>J) (fun _=>J) (fun _=>J) (yr (L:= []) (L1:= []) (fun a(x:SV×SV)=>(x.1,x.2,a.2.2)) fun vc vf vl=>wN e.g e.vp vc vf vl e.ms e.mo e.mp e.en s (by omega) op d a l)
theorem cJ(e:Ga)(s:Qg)(hz:s.sz≤940000)(op d a n:Int):
  aO prog 51 [Pt e.g,I6 op,I6 d,I6 a,I3 n] [gA e s] [] (.tuple #[]) [gA e (s.emit [qi op d a n])]:=by
 refine au func51 J ntmps51 J fun w0 M H=>aj (ab J (ab J (ab J (ab J (ab J (aH (aT (parts:= [(0,.tmp 11),(1,.tmp 12),(2,.tmp 13),(4,.tmp 14)]) el kV J J) (bD gI (qi op d a n) underlying106 el J (by decide) (by decide) J J J J fun v16=>cr 16 7 J bE (ae (xs:= [.tmp 10,.tmp 16]) (gq e (s) (hz) v16 [qi op d a n] (by simp)) u0 [0] [(false,7)] [0] (fun _ _=>aa (bN () O J fi J [0] [] J J J))))))))))
theorem cS(e:Ga)(s:Qg)(hz:s.sz≤940000)(op d a b:Int):
  aO prog 86 [Pt e.g,I6 op,I6 d,I6 a,I6 b] [gA e s] [] (.tuple #[]) [gA e (s.emit [q3 op d a b])]:=by
 refine au func86 J ntmps86 J fun w0 M H=>aj (ab J (ab J (ab J (ab J (ab J (aH (aT (parts:= [(0,.tmp 11),(1,.tmp 12),(2,.tmp 13),(3,.tmp 14)]) el kV J J) (bD gI (q3 op d a b) underlying106 el J (by decide) (by decide) J J J J fun v16=>cr 16 7 J bE (ae (xs:= [.tmp 10,.tmp 16]) (gq e (s) (hz) v16 [q3 op d a b] (by simp)) u0 [0] [(false,7)] [0] (fun _ _=>aa (bN () O J fi J [0] [] J J J))))))))))
theorem bj(s:Qg)(l:List Qi):(s.emit l).sz=s.sz+l.length:=by
 unfold Qg.sz Qg.emit;simp only [bO];omega
theorem ct(s:Qg)(r:Int):(s.push r).sz=s.sz+2:=by
 unfold Qg.push;rw [bj,bj];rfl
theorem dh(s:Qg)(r:Int):(s.pop r).sz=s.sz+2:=by
 unfold Qg.pop;rw [bj,bj];rfl
theorem cW(s:Qg)(r:Int):(s.elem r).sz=s.sz+2:=by
 unfold Qg.elem;rw [bj,bj];rfl
theorem bT(s:Qg):s.lab.sz=s.sz+1:=by
 unfold Qg.sz Qg.lab;simp only [bO,dJ];omega
theorem bv(s:Qg)(l:Int):(s.place l).sz=s.sz:=by
 unfold Qg.sz Qg.place;rw [List.length_set]
theorem bz(s:Qg)(op d a l:Int):(s.jump op d a l).sz=s.sz+2:=by
 unfold Qg.sz Qg.jump;simp only [bO,dJ];omega
theorem g_(e:Ga)(s:Qg)(hz:s.sz≤800000)(r:Int):
  aO prog 95 [Pt e.g,I6 r] [gA e s] [] (.tuple #[]) [gA e (s.push r)]:=by
 refine au func95 J ntmps95 J fun w0 M H=>ak (ab J (ae (xs:= [.tmp 4,.const (I6 16),.const (I6 14),.const (I6 14),.const (I3 4294967292)]) (cJ e (s) (by omega) 16 14 14 4294967292) iF [0] [] [0] (fun _ _=>aa (aj (ab J (ab J (ae (xs:= [.tmp 6,.const (I6 25),.tmp 7,.const (I6 14),.const (I3 0)]) (cJ e (s.emit [qi 16 14 14 4294967292]) (by rw [bj];simp;omega) 25 r 14 0) iF [0] [] [0] (fun _ _=>aa (bN () O J fi J [0] [] J J J)))))))))
theorem l8(e:Ga)(s:Qg)(hz:s.sz≤800000)(r:Int):
  aO prog 97 [Pt e.g,I6 r] [gA e s] [] (.tuple #[]) [gA e (s.pop r)]:=by
 refine au func97 J ntmps97 J fun w0 M H=>ak (ab J (ab J (ae (xs:= [.tmp 4,.const (I6 23),.tmp 5,.const (I6 14),.const (I3 0)]) (cJ e (s) (by omega) 23 r 14 0) iF [0] [] [0] (fun _ _=>aa (aj (ab J (ae (xs:= [.tmp 7,.const (I6 16),.const (I6 14),.const (I6 14),.const (I3 4)]) (cJ e (s.emit [qi 23 r 14 0]) (by rw [bj];simp;omega) 16 14 14 4) iF [0] [] [0] (fun _ _=>aa (bN () O J fi J [0] [] J J J)))))))))
theorem rN(e:Ga)(s:Qg)(hz:s.sz≤800000)(r:Int):
  aO prog 168 [Pt e.g,I6 r] [gA e s] [] (.tuple #[]) [gA e (s.elem r)]:=by
 refine au func168 J ntmps168 J fun w0 M H=>ak (ab J (ab J (ab J (ae (xs:= [.tmp 4,.const (I6 17),.tmp 5,.tmp 6,.const (I3 255)]) (cJ e (s) (by omega) 17 r r 255) iF [0] [] [0] (fun _ _=>aa (aj (ab J (ab J (ab J (ae (xs:= [.tmp 8,.const (I6 20),.tmp 9,.tmp 10,.const (I3 2)]) (cJ e (s.emit [qi 17 r r 255]) (by rw [bj];simp;omega) 20 r r 2) iF [0] [] [0] (fun _ _=>aa (bN () O J fi J [0] [] J J J))))))))))))
abbrev cf(n:Nat)(l:List Nat):Value:= .func (.func n) #[] (l.map fun b=>Value.pointer (some ⟨b,0,none⟩)).toArray
theorem fF(e:Ga)(s:Qg)(hz:s.sz≤900000)(bg:Nat)(bo:Nat)(op:Int):
  aO prog 85 [Pt bg,Pt bo] [gA e s] [aP bg 104 [Pt e.g],aP bo 3 [I6 op]] (.tuple #[]) [gA e (s.emit [q3 op 1 2 1])]:=by
 refine au func85 J ntmps85 J fun w0 M H=>aj (aH (ag jN J J (cN (k:=0) J J)) (aH (ag t3 J J (cN (k:=1) J J)) (ae (xs:= [.tmp 2,.tmp 3,.const (I6 1),.const (I6 2),.const (I6 1)]) (cS e (s) (by omega) op 1 2 1) lI [0] [] [0] (fun _ _=>aa (bN () O J fi J [0] [] J J J)))))
theorem u7(e:Ga)(s:Qg)(hz:s.sz≤900000)(bg:Nat):
  aO prog 87 [Pt bg] [gA e s] [aP bg 104 [Pt e.g]] (.tuple #[]) [gA e (s.emit [q3 11 1 1 2])]:=by
 refine au func87 J ntmps87 J fun w0 M H=>aj (aH (ag jN J J (cN (k:=0) J J)) (ae (xs:= [.tmp 1,.const (I6 11),.const (I6 1),.const (I6 1),.const (I6 2)]) (cS e (s) (by omega) 11 1 1 2) lI [0] [] [0] (fun _ _=>aa (bN () O J fi J [0] [] J J J))))
theorem u6(e:Ga)(s:Qg)(hz:s.sz≤900000)(bg:Nat):
  aO prog 90 [Pt bg] [gA e s] [aP bg 104 [Pt e.g]] (.tuple #[]) [gA e ((s.emit [q3 5 1 2 1]).emit [q3 11 1 0 1])]:=by
 refine au func90 J ntmps90 J fun w0 M H=>ak (aH (ag jN J J (cN (k:=0) J J)) (ae (xs:= [.tmp 1,.const (I6 5),.const (I6 1),.const (I6 2),.const (I6 1)]) (cS e (s) (by omega) 5 1 2 1) lI [0] [] [0] (fun _ _=>aa (aj (aH (ag jN J J (cN (k:=0) J J)) (ae (xs:= [.tmp 3,.const (I6 11),.const (I6 1),.const (I6 0),.const (I6 1)]) (cS e (s.emit [q3 5 1 2 1]) (by rw [bj];simp;omega) 11 1 0 1) lI [0] [] [0] (fun _ _=>aa (bN () O J fi J [0] [] J J J))))))))
theorem C7(e:Ga)(s:Qg)(hz:s.sz≤900000)(bg:Nat):
  aO prog 91 [Pt bg] [gA e s] [aP bg 104 [Pt e.g]] (.tuple #[]) [gA e (((s.lab.jump 32 1 0 s.labs.length).emit [q3 10 1 2 1]).place s.labs.length)]:=by
 refine au func91 J ntmps91 J fun w0 M H=>ak (aH (ag jN J J (cN (k:=0) J J)) (ae (xs:= [.tmp 2]) (eG e s (by omega)) tt [0] [] [0] (fun _ _=>am J (av J (aH (ag jN J J (cN (k:=0) J J)) (ab J (ae (xs:= [.tmp 4,.const (I6 32),.const (I6 1),.const (I6 0),.tmp 5]) (eO e (s.lab) (by simp only [bj,bT,bz,bv,dJ];omega) 32 1 0 (s.labs.length:Int)) qS [0] [] [0] (fun _ _=>av J (aH (ag jN J J (cN (k:=0) J J)) (ae (xs:= [.tmp 7,.const (I6 10),.const (I6 1),.const (I6 2),.const (I6 1)]) (cS e (s.lab.jump 32 1 0 s.labs.length) (by simp only [bj,bT,bz,bv,dJ];omega) 10 1 2 1) lI [0] [] [0] (fun _ _=>aa (aj (aH (ag jN J J (cN (k:=0) J J)) ?_)))))))))))))
 refine ab J (ae (xs:= [.tmp 9,.tmp 10]) (dP e ((s.lab.jump 32 1 0 s.labs.length).emit [q3 10 1 2 1]) (by simp only [bj,bT,bz,bv,dJ];omega) (s.labs.length:Int) (by simp [Qg.lab,Qg.jump,Qg.emit];omega)) qg [0] [] [0] (fun _ _=>aa (bN () O J fi J [0] [] J J J)))
theorem C6(e:Ga)(s:Qg)(hz:s.sz≤900000)(bg:Nat):
  aO prog 93 [Pt bg] [gA e s] [aP bg 104 [Pt e.g]] (.tuple #[]) [gA e ((((((s.lab.emit [q3 1 3 1 0]).jump 32 1 0 s.labs.length).emit [q3 10 3 2 1]).emit [q3 9 3 3 1]).place s.labs.length).emit [q3 2 1 2 3])]:=by
 refine au func93 J ntmps93 J fun w0 M H=>ak (aH (ag jN J J (cN (k:=0) J J)) (ae (xs:= [.tmp 2]) (eG e s (by omega)) tt [0] [] [0] (fun _ _=>am J (av J (aH (ag jN J J (cN (k:=0) J J)) (ae (xs:= [.tmp 4,.const (I6 1),.const (I6 3),.const (I6 1),.const (I6 0)]) (cS e (s.lab) (by simp only [bj,bT,bz,bv,dJ];omega) 1 3 1 0) lI [0] [] [0] (fun _ _=>av J (aH (ag jN J J (cN (k:=0) J J)) (ab J (ae (xs:= [.tmp 6,.const (I6 32),.const (I6 1),.const (I6 0),.tmp 7]) (eO e (s.lab.emit [q3 1 3 1 0]) (by simp only [bj,bT,bz,bv,dJ];omega) 32 1 0 (s.labs.length:Int)) qS [0] [] [0] (fun _ _=>av J ?_)))))))))))
 refine aH (ag jN J J (cN (k:=0) J J)) (ae (xs:= [.tmp 9,.const (I6 10),.const (I6 3),.const (I6 2),.const (I6 1)]) (cS e ((s.lab.emit [q3 1 3 1 0]).jump 32 1 0 s.labs.length) (by simp only [bj,bT,bz,bv,dJ];omega) 10 3 2 1) lI [0] [] [0] (fun _ _=>av J (aH (ag jN J J (cN (k:=0) J J)) (ae (xs:= [.tmp 11,.const (I6 9),.const (I6 3),.const (I6 3),.const (I6 1)]) (cS e (((s.lab.emit [q3 1 3 1 0]).jump 32 1 0 s.labs.length).emit [q3 10 3 2 1]) (by simp only [bj,bT,bz,bv,dJ];omega) 9 3 3 1) lI [0] [] [0] (fun _ _=>av J (aH (ag jN J J (cN (k:=0) J J)) (ab J (ae (xs:= [.tmp 13,.tmp 14]) (dP e ((((s.lab.emit [q3 1 3 1 0]).jump 32 1 0 s.labs.length).emit [q3 10 3 2 1]).emit [q3 9 3 3 1]) (by simp only [bj,bT,bz,bv,dJ];omega) (s.labs.length:Int) (by simp [Qg.lab,Qg.jump,Qg.emit];omega)) qg [0] [] [0] (fun _ _=>aa (aj (aH (ag jN J J (cN (k:=0) J J)) (ae (xs:= [.tmp 16,.const (I6 2),.const (I6 1),.const (I6 2),.const (I6 3)]) (cS e (((((s.lab.emit [q3 1 3 1 0]).jump 32 1 0 s.labs.length).emit [q3 10 3 2 1]).emit [q3 9 3 3 1]).place s.labs.length) (by simp only [bj,bT,bz,bv,dJ];omega) 2 1 2 3) lI [0] [] [0] (fun _ _=>aa (bN () O J fi J [0] [] J J J))))))))))))))
theorem rZ(e:Ga)(s:Qg)(hz:s.sz≤900000)(bg:Nat)(bf n:Nat)(s1:Qg)(hz1:s1.sz≤910000)(hcb:Cb prog n)(hs:Spec prog n ([bg].map fun b=>Value.pointer (some ⟨b,0,none⟩)) [gA e s] [aP bg 104 [Pt e.g]] (X:=Unit) (fun _=>True) (fun _=> .tuple #[]) (fun _=> [gA e s1]) (fun _=> [])):
  aO prog 89 [Pt bf,Pt bg] [gA e s] [aP bf 1 [cf n [bg]],aP bg 104 [Pt e.g]] (.tuple #[]) [gA e (s1.emit [qi 19 1 1 1])]:=by
 refine au func89 J ntmps89 J fun w0 M H=>ak (aH (ag t1 J J (cN (k:=0) J J)) (ae (xs:= []) hs hcb [0] [(false,1)] [0] (fun _ _=>aa (aj (aH (ag jN J J (cN (k:=1) J J)) (ae (xs:= [.tmp 4,.const (I6 19),.const (I6 1),.const (I6 1),.const (I3 1)]) (cJ e s1 (by omega) 19 1 1 1) iF [0] [] [0] (fun _ _=>aa (bN () O J fi J [0] [] J J J))))))))
theorem Aw(e:Ga)(s:Qg)(hz:s.sz≤900000)(bg:Nat)(bo:Nat)(bf n:Nat)(s1:Qg)(hz1:s1.sz≤910000)(hcb:Cb prog n)(hs:Spec prog n ([bg,bo].map fun b=>Value.pointer (some ⟨b,0,none⟩)) [gA e s] [aP bg 104 [Pt e.g],aP bo 3 [I6 11]] (X:=Unit) (fun _=>True) (fun _=> .tuple #[]) (fun _=> [gA e s1]) (fun _=> [])):
  aO prog 89 [Pt bf,Pt bg] [gA e s] [aP bf 1 [cf n [bg,bo]],aP bg 104 [Pt e.g],aP bo 3 [I6 11]] (.tuple #[]) [gA e (s1.emit [qi 19 1 1 1])]:=by
 refine au func89 J ntmps89 J fun w0 M H=>ak (aH (ag t1 J J (cN (k:=0) J J)) (ae (xs:= []) hs hcb [0] [(false,1),(false,2)] [0] (fun _ _=>aa (aj (aH (ag jN J J (cN (k:=1) J J)) (ae (xs:= [.tmp 4,.const (I6 19),.const (I6 1),.const (I6 1),.const (I3 1)]) (cJ e s1 (by omega) 19 1 1 1) iF [0] [] [0] (fun _ _=>aa (bN () O J fi J [0] [] J J J))))))))
structure Oq where
 m:Nat
 bg:Nat
 b0:Nat
 b1:Nat
 b2:Nat
 b3:Nat
 b4:Nat
 b5:Nat
 b6:Nat
 b7:Nat
 b8:Nat
 b9:Nat
 f0:Nat
 f1:Nat
 f2:Nat
def NG(c:Oq):List (Ba×Value):= [(kM,cf 93 [c.bg]),(jx,cf 91 [c.bg]),(lO,cf 89 [c.f2,c.bg]),(lL,cf 90 [c.bg]),(mU,cf 89 [c.f1,c.bg]),(lM,cf 89 [c.f0,c.bg]),(lN,cf 87 [c.bg]),(kN,cf 85 [c.bg,c.b8]),(fW,cf 85 [c.bg,c.b7]),(fK,cf 85 [c.bg,c.b6]),(ey,cf 85 [c.bg,c.b5]),(iQ,cf 85 [c.bg,c.b4]),(eq,cf 85 [c.bg,c.b3]),(fL,cf 85 [c.bg,c.b2]),(ef,cf 85 [c.bg,c.b1]),(e_,cf 85 [c.bg,c.b0])]
def JI(g:Nat)(c:Oq):List Asn:= [mp fE Prod.fst Prod.snd (some c.m) (NG c),aP c.bg 104 [Pt g],aP c.b0 3 [I6 1],aP c.b1 3 [I6 2],aP c.b2 3 [I6 9],aP c.b3 3 [I6 3],aP c.b4 3 [I6 4],aP c.b5 3 [I6 5],aP c.b6 3 [I6 6],aP c.b7 3 [I6 7],aP c.b8 3 [I6 11],aP c.b9 3 [I6 11],aP c.f0 1 [cf 87 [c.bg]],aP c.f1 1 [cf 85 [c.bg,c.b9]],aP c.f2 1 [cf 90 [c.bg]]]
theorem AllIn.stable{w w':World}{F:Nat→Prop}(hs:∀b,F b→w'.heap[b]?=w.heap[b]?):∀{L:List Asn},AllIn w F L→AllIn w' F L
 | [],_=>trivial
 | A::r,h=>⟨h.1.elim fun G hG=>⟨G,A.stable hG.1 fun b hb=>hs b (hG.2 b hb),hG.2⟩,AllIn.stable hs h.2⟩
theorem AllIn.get{w:World}{F:Nat→Prop}:∀{L:List Asn}{i:Nat}{A:Asn},AllIn w F L→L[i]?=some A→∃G:Nat→Prop,A.pred w G∧∀b,G b→F b
 | [],i,A,_,h=>by simp at h
 | B::r,0,A,h,hi=>by cases hi;exact h.1
 | B::r,i+1,A,h,hi=>AllIn.get h.2 hi
def gW(g:Nat)(c:Oq):Asn:=⟨fun w F=>AllIn w F (JI g c),fun h hs=>h.stable hs⟩
theorem BA{g:Nat}{c:Oq}{A:Asn}(i:Nat)(h:(JI g c)[i]?=some A):∀w G,(gW g c).pred w G→(∀b,G b→b<w.heap.size)→∃G',A.pred w G'∧∀b,G' b→G b:=fun w G h2 _=>h2.get h
theorem Hi{g:Nat}{c:Oq}:∀w F,AllIn w F (JI g c)→(gW g c).pred w F:=fun _ _ h=>h
theorem fG(bg:Nat)(op:Int):
  Spec prog 84 [I6 op,Pt bg] [] [] (X:=Nat) (fun _=>True) (fun b=>cf 85 [bg,b]) (fun b=> [aP b 3 [I6 op]]) (fun _=> []):=by
 refine au func84 J ntmps84 J fun w0 M H=>ak (mP J J J fun b2=>am J (av J (aH (dS (first:= []) (cap:= [.tmp 1,.tmp 2]) J J) (am J (aa (ar (aG b2 O J (bR (aD J)) J [2] [] J J J)))))))
theorem qk(bg:Nat)(n:Nat)(l:List Nat):
  Spec prog 88 [cf n l,Pt bg] [] [] (X:=Nat) (fun _=>True) (fun b=>cf 89 [b,bg]) (fun b=> [aP b 1 [cf n l]]) (fun _=> []):=by
 refine au func88 J ntmps88 J fun w0 M H=>ak (mP J J J fun b2=>am J (av J (aH (dS (first:= []) (cap:= [.tmp 2,.tmp 1]) J J) (am J (aa (ar (aG b2 O J (bR (aD J)) J [2] [] J J J)))))))
theorem Bz(g:Nat):
  Spec prog 49 [Pt g] [] [] (X:=Oq) (fun _=>True) (fun c=> .map (some c.m)) (fun c=> [gW g c]) (fun _=> []):=by
 refine au func49 J ntmps49 J fun w0 M H=>ak (mP J J J fun b1=>am J (av J (aH (dS (first:= []) (cap:= [.tmp 1]) J J) (am J (av J (aH (dS (first:= []) (cap:= [.tmp 1]) J J) (am J (av J (aH (dS (first:= []) (cap:= [.tmp 1]) J J) (am J ?_))))))))))
 refine av J (aH (dS (first:= []) (cap:= [.tmp 1]) J J) (am J (av J (ki (Prod.fst:Ba×Value→Ba) fE Prod.snd J fun b11=>ab J (ae (xs:= [.const (I6 1)]) (fG b1 1) qR [] [] [60] (fun p0 _=>bS (k:=11) (α:=Ba×Value) (kf:=Prod.fst) (vf:=Prod.snd) (e_,cf 85 [b1,p0]) [(e_,cf 85 [b1,p0])] underlying109 ea J J J J (List.Perm.of_eq J) (ab J (ae (xs:= [.const (I6 2)]) (fG b1 2) qR [] [] [61] (fun p1 _=>bS (k:=11) (α:=Ba×Value) (kf:=Prod.fst) (vf:=Prod.snd) (ef,cf 85 [b1,p1]) [(ef,cf 85 [b1,p1]),(e_,cf 85 [b1,p0])] underlying109 ea J J J J (List.Perm.of_eq J) (ab J (ae (xs:= [.const (I6 9)]) (fG b1 9) qR [] [] [62] (fun p2 _=>bS (k:=11) (α:=Ba×Value) (kf:=Prod.fst) (vf:=Prod.snd) (fL,cf 85 [b1,p2]) [(fL,cf 85 [b1,p2]),(ef,cf 85 [b1,p1]),(e_,cf 85 [b1,p0])] underlying109 ea J J J J (List.Perm.of_eq J) (ab J (ae (xs:= [.const (I6 3)]) (fG b1 3) qR [] [] [63] (fun p3 _=> ?_)))))))))))))))
 refine bS (k:=11) (α:=Ba×Value) (kf:=Prod.fst) (vf:=Prod.snd) (eq,cf 85 [b1,p3]) [(eq,cf 85 [b1,p3]),(fL,cf 85 [b1,p2]),(ef,cf 85 [b1,p1]),(e_,cf 85 [b1,p0])] underlying109 ea J J J J (List.Perm.of_eq J) (ab J (ae (xs:= [.const (I6 4)]) (fG b1 4) qR [] [] [64] (fun p4 _=>bS (k:=11) (α:=Ba×Value) (kf:=Prod.fst) (vf:=Prod.snd) (iQ,cf 85 [b1,p4]) [(iQ,cf 85 [b1,p4]),(eq,cf 85 [b1,p3]),(fL,cf 85 [b1,p2]),(ef,cf 85 [b1,p1]),(e_,cf 85 [b1,p0])] underlying109 ea J J J J (List.Perm.of_eq J) (ab J (ae (xs:= [.const (I6 5)]) (fG b1 5) qR [] [] [65] (fun p5 _=>bS (k:=11) (α:=Ba×Value) (kf:=Prod.fst) (vf:=Prod.snd) (ey,cf 85 [b1,p5]) [(ey,cf 85 [b1,p5]),(iQ,cf 85 [b1,p4]),(eq,cf 85 [b1,p3]),(fL,cf 85 [b1,p2]),(ef,cf 85 [b1,p1]),(e_,cf 85 [b1,p0])] underlying109 ea J J J J (List.Perm.of_eq J) (ab J (ae (xs:= [.const (I6 6)]) (fG b1 6) qR [] [] [66] (fun p6 _=>bS (k:=11) (α:=Ba×Value) (kf:=Prod.fst) (vf:=Prod.snd) (fK,cf 85 [b1,p6]) [(fK,cf 85 [b1,p6]),(ey,cf 85 [b1,p5]),(iQ,cf 85 [b1,p4]),(eq,cf 85 [b1,p3]),(fL,cf 85 [b1,p2]),(ef,cf 85 [b1,p1]),(e_,cf 85 [b1,p0])] underlying109 ea J J J J (List.Perm.of_eq J) (ab J (ae (xs:= [.const (I6 7)]) (fG b1 7) qR [] [] [67] (fun p7 _=>bS (k:=11) (α:=Ba×Value) (kf:=Prod.fst) (vf:=Prod.snd) (fW,cf 85 [b1,p7]) [(fW,cf 85 [b1,p7]),(fK,cf 85 [b1,p6]),(ey,cf 85 [b1,p5]),(iQ,cf 85 [b1,p4]),(eq,cf 85 [b1,p3]),(fL,cf 85 [b1,p2]),(ef,cf 85 [b1,p1]),(e_,cf 85 [b1,p0])] underlying109 ea J J J J (List.Perm.of_eq J) (ab J (ae (xs:= [.const (I6 11)]) (fG b1 11) qR [] [] [68] (fun p8 _=>bS (k:=11) (α:=Ba×Value) (kf:=Prod.fst) (vf:=Prod.snd) (kN,cf 85 [b1,p8]) [(kN,cf 85 [b1,p8]),(fW,cf 85 [b1,p7]),(fK,cf 85 [b1,p6]),(ey,cf 85 [b1,p5]),(iQ,cf 85 [b1,p4]),(eq,cf 85 [b1,p3]),(fL,cf 85 [b1,p2]),(ef,cf 85 [b1,p1]),(e_,cf 85 [b1,p0])] underlying109 ea J J J J (List.Perm.of_eq J) ?_)))))))))))))))
 refine ab J (bS (k:=11) (α:=Ba×Value) (kf:=Prod.fst) (vf:=Prod.snd) (lN,cf 87 [b1]) [(lN,cf 87 [b1]),(kN,cf 85 [b1,p8]),(fW,cf 85 [b1,p7]),(fK,cf 85 [b1,p6]),(ey,cf 85 [b1,p5]),(iQ,cf 85 [b1,p4]),(eq,cf 85 [b1,p3]),(fL,cf 85 [b1,p2]),(ef,cf 85 [b1,p1]),(e_,cf 85 [b1,p0])] underlying109 ea J J J J (List.Perm.of_eq J) (ab J (ab J (ae (xs:= [.tmp 32]) (qk b1 87 [b1]) Il [] [] [70] (fun q0 _=>bS (k:=11) (α:=Ba×Value) (kf:=Prod.fst) (vf:=Prod.snd) (lM,cf 89 [q0,b1]) [(lM,cf 89 [q0,b1]),(lN,cf 87 [b1]),(kN,cf 85 [b1,p8]),(fW,cf 85 [b1,p7]),(fK,cf 85 [b1,p6]),(ey,cf 85 [b1,p5]),(iQ,cf 85 [b1,p4]),(eq,cf 85 [b1,p3]),(fL,cf 85 [b1,p2]),(ef,cf 85 [b1,p1]),(e_,cf 85 [b1,p0])] underlying109 ea J J J J (List.Perm.of_eq J) (ab J (ab J (ae (xs:= [.const (I6 11)]) (fG b1 11) qR [] [] [69] (fun p9 _=>ae (xs:= [.tmp 36]) (qk b1 85 [b1,p9]) Il [] [] [71] (fun q1 _=>bS (k:=11) (α:=Ba×Value) (kf:=Prod.fst) (vf:=Prod.snd) (mU,cf 89 [q1,b1]) [(mU,cf 89 [q1,b1]),(lM,cf 89 [q0,b1]),(lN,cf 87 [b1]),(kN,cf 85 [b1,p8]),(fW,cf 85 [b1,p7]),(fK,cf 85 [b1,p6]),(ey,cf 85 [b1,p5]),(iQ,cf 85 [b1,p4]),(eq,cf 85 [b1,p3]),(fL,cf 85 [b1,p2]),(ef,cf 85 [b1,p1]),(e_,cf 85 [b1,p0])] underlying109 ea J J J J (List.Perm.of_eq J) (ab J (bS (k:=11) (α:=Ba×Value) (kf:=Prod.fst) (vf:=Prod.snd) (lL,cf 90 [b1]) [(lL,cf 90 [b1]),(mU,cf 89 [q1,b1]),(lM,cf 89 [q0,b1]),(lN,cf 87 [b1]),(kN,cf 85 [b1,p8]),(fW,cf 85 [b1,p7]),(fK,cf 85 [b1,p6]),(ey,cf 85 [b1,p5]),(iQ,cf 85 [b1,p4]),(eq,cf 85 [b1,p3]),(fL,cf 85 [b1,p2]),(ef,cf 85 [b1,p1]),(e_,cf 85 [b1,p0])] underlying109 ea J J J J (List.Perm.of_eq J) (ab J (ab J (ae (xs:= [.tmp 40]) (qk b1 90 [b1]) Il [] [] [72] (fun q2 _=> ?_))))))))))))))))
 refine bS (k:=11) (α:=Ba×Value) (kf:=Prod.fst) (vf:=Prod.snd) (lO,cf 89 [q2,b1]) [(lO,cf 89 [q2,b1]),(lL,cf 90 [b1]),(mU,cf 89 [q1,b1]),(lM,cf 89 [q0,b1]),(lN,cf 87 [b1]),(kN,cf 85 [b1,p8]),(fW,cf 85 [b1,p7]),(fK,cf 85 [b1,p6]),(ey,cf 85 [b1,p5]),(iQ,cf 85 [b1,p4]),(eq,cf 85 [b1,p3]),(fL,cf 85 [b1,p2]),(ef,cf 85 [b1,p1]),(e_,cf 85 [b1,p0])] underlying109 ea J J J J (List.Perm.of_eq J) (aH (dS (first:= []) (cap:= [.tmp 1]) J J) (bS (k:=11) (α:=Ba×Value) (kf:=Prod.fst) (vf:=Prod.snd) (jx,cf 91 [b1]) [(jx,cf 91 [b1]),(lO,cf 89 [q2,b1]),(lL,cf 90 [b1]),(mU,cf 89 [q1,b1]),(lM,cf 89 [q0,b1]),(lN,cf 87 [b1]),(kN,cf 85 [b1,p8]),(fW,cf 85 [b1,p7]),(fK,cf 85 [b1,p6]),(ey,cf 85 [b1,p5]),(iQ,cf 85 [b1,p4]),(eq,cf 85 [b1,p3]),(fL,cf 85 [b1,p2]),(ef,cf 85 [b1,p1]),(e_,cf 85 [b1,p0])] underlying109 ea J J J J (List.Perm.of_eq J) (aH (dS (first:= []) (cap:= [.tmp 1]) J J) (bS (k:=11) (α:=Ba×Value) (kf:=Prod.fst) (vf:=Prod.snd) (kM,cf 93 [b1]) [(kM,cf 93 [b1]),(jx,cf 91 [b1]),(lO,cf 89 [q2,b1]),(lL,cf 90 [b1]),(mU,cf 89 [q1,b1]),(lM,cf 89 [q0,b1]),(lN,cf 87 [b1]),(kN,cf 85 [b1,p8]),(fW,cf 85 [b1,p7]),(fK,cf 85 [b1,p6]),(ey,cf 85 [b1,p5]),(iQ,cf 85 [b1,p4]),(eq,cf 85 [b1,p3]),(fL,cf 85 [b1,p2]),(ef,cf 85 [b1,p1]),(e_,cf 85 [b1,p0])] underlying109 ea J J J J (List.Perm.of_eq J) (ab J (am J (aa (ar (bH 90 [11,1,60,61,62,63,64,65,66,67,68,69,70,71,72] (L:=JI g ⟨b11,b1,p0,p1,p2,p3,p4,p5,p6,p7,p8,p9,q0,q1,q2⟩) (C:=gW g ⟨b11,b1,p0,p1,p2,p3,p4,p5,p6,p7,p8,p9,q0,q1,q2⟩) J Hi (aG ⟨b11,b1,p0,p1,p2,p3,p4,p5,p6,p7,p8,p9,q0,q1,q2⟩ O J (bR (aD J)) J [90] [] J J J))))))))))
def vw(z n:Int):Int:=IntKind.u32.wrap (IntKind.i32.wrap (wU (n*2^(32-z).toNat))/2^(32-z).toNat)
theorem A8{n:Int}(h:0≤n∧n<4294967296):decide (vw 18 n=n)=gS n:=by
 unfold vw gS wU;rw [show((32:Int)-18).toNat=14 from J,←Bool.decide_or];simp only [IntKind.wrap_u32,IntKind.wrap_i32];refine decide_eq_decide.2 ?_;omega
theorem GN{α:Type}{b o n:Nat}{S:TypeId}{c:List Value}{enc:α→List Value}{s:Nat}{l:List α}(hl:l.length=n)(hn:n≤maxLen)(hc:(c.drop o).take (l.flatMap enc).length=l.flatMap enc):∀w G,(aP b S c).pred w G→(sl s enc (sv ⟨some ⟨b,o,none⟩,n,n⟩) l).pred w G:=fun w G h=>by
 refine⟨n,by omega,hn,.inr ⟨b,o,by rw [hl];rfl,(h.1 b).2 rfl,fun j u hj=> ?_⟩⟩;simp only [World.cell?,h.2];rw [←hc,List.getElem?_take]at hj;split at hj
 ·rw [List.getElem?_drop]at hj;simpa using hj
 ·simp at hj
theorem LE{b:Int}(hb:0≤b∧b<4294967296):bits .and .u32 b 1023=b%1024:=by
 have h1:bits .and .u32 b 1023=IntKind.u32.wrap (((BitVec.ofInt 32 b&&&BitVec.ofInt 32 1023).toNat:Nat):Int):=J;have h2:(BitVec.ofInt 32 b).toNat=b.toNat:=by
  rw [BitVec.toNat_ofInt,Int.emod_eq_of_lt hb.1 (by omega)]
 have h3:(BitVec.ofInt 32 1023).toNat=2^10-1:=by decide
 rw [h1,BitVec.toNat_and,h2,h3,Nat.and_two_pow_sub_one_eq_mod,bx (by omega)];omega
theorem LD{b:Int}(hb:0≤b∧b<4294967296):bits .and .u32 b 262143=b%262144:=by
 have h1:bits .and .u32 b 262143=IntKind.u32.wrap (((BitVec.ofInt 32 b&&&BitVec.ofInt 32 262143).toNat:Nat):Int):=J;have h2:(BitVec.ofInt 32 b).toNat=b.toNat:=by
  rw [BitVec.toNat_ofInt,Int.emod_eq_of_lt hb.1 (by omega)]
 have h3:(BitVec.ofInt 32 262143).toNat=2^18-1:=by decide
 rw [h1,BitVec.toNat_and,h2,h3,Nat.and_two_pow_sub_one_eq_mod,bx (by omega)];omega
theorem LC{b:Int}(hb:0≤b∧b<4294967296):bits .and .u32 b 4194303=b%4194304:=by
 have h1:bits .and .u32 b 4194303=IntKind.u32.wrap (((BitVec.ofInt 32 b&&&BitVec.ofInt 32 4194303).toNat:Nat):Int):=J;have h2:(BitVec.ofInt 32 b).toNat=b.toNat:=by
  rw [BitVec.toNat_ofInt,Int.emod_eq_of_lt hb.1 (by omega)]
 have h3:(BitVec.ofInt 32 4194303).toNat=2^22-1:=by decide
 rw [h1,BitVec.toNat_and,h2,h3,Nat.and_two_pow_sub_one_eq_mod,bx (by omega)];omega
theorem zx(n z:Int)(hn:0≤n∧n<4294967296)(hz:z=18∨z=22):
  aO prog 204 [I3 n,I6 z] [] [] (I3 (vw z n)) []:=by
 refine au func204 J ntmps204 J fun w0 M H=>ak (am J (aa (aW (aC (ak (ab J (ap J J cL (am J (aa (ah J (fun h1=> ?_) (fun h1=> ?_)))))))))))
 ·exact absurd h1 (by simp;omega)
 ·(try simp only [aY]at h1);refine ak (ab J (ap J J eY (am J (aa (ah J (fun h2=> ?_) (fun h2=> ?_))))))
  ·exact absurd h2 (by simp;omega)
  ·(try simp only [aY]at h2);refine az (ak (ab J (ab J (ap J J iz (ap J J (gT (by omega) (by first|decide|(simp [IntKind.bits];omega)) J) (aH (bX underlying41 underlying21 J (by first|exact AM (by omega) (by omega)|rfl)) (ab J (ap J J iz (ap J J (ql (by omega) (by first|decide|(simp [IntKind.bits];omega)) J) (aH (bX underlying21 underlying41 J (by first|exact bx (by omega)|rfl)) (am J (aa (ar (aG () O J (bR (aD J)) J [] [] J J J))))))))))))))
theorem rL(n z:Int)(hn:0≤n∧n<4294967296)(hz:z=18∨z=22):
  aO prog 190 [I3 n,I6 z] [] [] (.bool (decide (vw z n=n))) []:=by
 refine au func190 J ntmps190 J fun w0 M H=>ak (am J (av J (ab J (ab J (ae (xs:= [.tmp 5,.tmp 6]) (zx n z hn hz) KH [] [] [] (fun _ _=>ab J (ap J J bc (am J (aa (ar (aG () O J (bR (aD J)) J [] [] J J J)))))))))))
theorem xn(d n:Int)(hn:0≤n∧n<4294967296):
  aO prog 203 [I6 d,I3 n] [] [] (.agg (gI (qi 41 d 0 (n/1024))++gI (qi 18 d d (n%1024))).toArray) []:=by
 refine au func203 J ntmps203 J fun w0 M H=>ak (aV zm J J fun b4=>av J (ab J (ab J (ap J J (ql (by decide) (by decide) (show n/2^(10:Int).toNat=n/1024 from J)) (aH (aT (parts:= [(0,.const (I6 41)),(1,.tmp 5),(4,.tmp 7)]) el kV J J) (ab J (ab J (ab J (ap J J (u_ (LE hn)) (aH (aT (parts:= [(0,.const (I6 18)),(1,.tmp 9),(2,.tmp 10),(4,.tmp 12)]) el kV J J) (aH (ud (D:= .bool) (vs:= [(0,.agg (gI (qi 41 d 0 (n/1024))).toArray),(1,.agg (gI (qi 18 d d (n%1024))).toArray)]) (cs:=(gI (qi 41 d 0 (n/1024))++gI (qi 18 d d (n%1024))).toArray) (parts:= [(0,.tmp 8),(1,.tmp 13)]) zm el J (by kernel_rfl)) (aq (k:=4) zm J J J J J J (aa (ar ?_))))))))))))))
 refine aG () O J (bR (bh zm J J J (bi (k:=4) J))) J [] [] J J J
theorem BC(e:Ga)(s:Qg)(hz:s.sz≤900000)(n:Int)(hn:0≤n∧n<4294967296):
  aO prog 189 [Pt e.g,I3 n] [gA e s] [] (.tuple #[]) [gA e (pu n s)]:=by
 refine au func189 J ntmps189 J fun w0 M H=>aS (ab J (ae (xs:= [.tmp 5,.const (I6 18)]) (rL n 18 hn (.inl J)) F6 [] [] [] (fun _ _=>aa (ah J (fun h1=> ?_) (fun h1=> ?_)))))
 ·have hf:gS n=true:=by rw [←A8 hn];exact h1
  rw [show pu n s=s.emit [qi 16 1 0 n]from ao hf];refine ak (ab J (ab J (ae (xs:= [.tmp 7,.const (I6 16),.const (I6 1),.const (I6 0),.tmp 8]) (cJ e s (by omega) 16 1 0 n) iF [0] [] [0] (fun _ _=>aa (ar (aG () O J fi J [0] [] J J J))))))
 ·have hf:gS n=false:=by rw [←A8 hn];exact h1
  rw [show pu n s=s.emit [qi 41 1 0 (n/1024),qi 18 1 1 (n%1024)]from ac (by rw [hf];simp)];refine az (ak (ab J (ae (xs:= [.const (I6 1),.tmp 10]) (xn 1 n hn) KI [] [] [] (fun _ _=>aV zm J J fun b4=>aq (k:=4) zm J J J J J J (aa (aj (ab J (aH (jW underlying281 el J (by decide)) (cr 4 7 J (GN (o:=0) (n:=2) (s:=5) (enc:=gI) (l:= [qi 41 1 0 (n/1024),qi 18 1 1 (n%1024)]) J (by decide) J) (ae (xs:= [.tmp 12,.tmp 13]) (gq e s (by omega) ⟨some ⟨b4,0,none⟩,2,2⟩ [qi 41 1 0 (n/1024),qi 18 1 1 (n%1024)] (by simp)) u0 [0] [(false,7)] [0] (fun _ _=>aa (bN () O J fi J [0] [] J J J))))))))))))
structure Sh where
 k:Bool
 d:Bool
 a:Bool
 b:Bool
 kd:Int
 bt:Int
 mo:Int
deriving DecidableEq
def mF:Sh:=⟨false,false,false,false,0,0,0⟩
def m8(s:Sh):List Value:= [.bool s.k,.bool s.d,.bool s.a,.bool s.b,I6 s.kd,I6 s.bt,I3 s.mo]
def lK(l:List Sh):List Value:=l.flatMap m8
theorem sh:∀l:List Sh,(lK l).length=l.length*7
 | []=>rfl
 | a::r=>by
  show(m8 a++lK r).length=_;rw [bO,sh r,b_,show(m8 a).length=7 from J];omega
theorem xP:∀(l:List Sh)(j:Nat)(x:Sh),l[j]?=some x→((lK l).drop (j*7)).take 7=m8 x
 | [],j,x,h=>by simp at h
 | a::r,0,x,h=>by cases h;rfl
 | a::r,j+1,x,h=>by
  show((m8 a++lK r).drop ((j+1)*7)).take 7=_;rw [show(j+1)*7=(m8 a).length+j*7 by rw [show(m8 a).length=7 from J];omega,List.drop_append,List.drop_eq_nil_of_le (by omega),List.nil_append,Nat.add_sub_cancel_left];exact xP r j x h
theorem xO:∀(l:List Sh)(j:Nat)(x:Sh),j<l.length→(lK l).take (j*7)++m8 x++(lK l).drop (j*7+7)=lK (l.set j x)
 | [],j,x,h=>absurd h (Nat.not_lt_zero _)
 | a::r,0,x,h=>by
  show(lK (a::r)).take 0++m8 x++(m8 a++lK r).drop 7=m8 x++lK r;rfl
 | a::r,j+1,x,h=>by
  have ih:=xO r j x (Nat.lt_of_succ_lt_succ h);show(m8 a++lK r).take ((j+1)*7)++m8 x++(m8 a++lK r).drop ((j+1)*7+7)=m8 a++lK (r.set j x);have e7:(m8 a).length=7:=J;rw [show(j+1)*7=(m8 a).length+j*7 by omega,List.take_append,List.take_of_length_le (by omega),Nat.add_sub_cancel_left,show(m8 a).length+j*7+7=(m8 a).length+(j*7+7) by omega,List.drop_append,List.drop_eq_nil_of_le (by omega),List.nil_append,Nat.add_sub_cancel_left,←ih];simp only [List.append_assoc]
def bA(s:Sh):List Sh→List Int→List Sh
 | l,[]=>l
 | l,o::r=>bA s (l.set o.toNat {s with k:=true}) r
theorem di(s:Sh):∀(l:List Sh)(r:List Int),(bA s l r).length=l.length
 | l,[]=>rfl
 | l,o::r=>by unfold bA;rw [di s _ r,List.length_set]
theorem ke(s:Sh):∀(l:List Sh)(a b:List Int),bA s l (a++b)=bA s (bA s l a) b
 | l,[],b=>rfl
 | l,o::a,b=>ke s _ a b
def mg(lo n:Nat):List Int:=(List.range n).map fun i=>((lo+i:Nat):Int)
theorem uv(lo n:Nat):mg lo (n+1)=mg lo n++ [((lo+n:Nat):Int)]:=by
 unfold mg;rw [List.range_succ,List.map_append];rfl
def vZ:Sh:=⟨false,true,true,true,0,0,0⟩
def qt:Sh:=⟨false,true,true,false,1,18,0⟩
def Do:Sh:=⟨false,true,true,false,2,18,0⟩
def shL:List Sh:=
 bA ⟨false,false,true,false,2,18,4⟩ (bA ⟨false,true,false,false,2,18,3⟩ (bA ⟨false,false,true,false,0,0,0⟩ (bA mF (bA ⟨false,false,false,false,2,18,0⟩ (bA ⟨false,true,false,false,2,22,0⟩ (bA ⟨false,true,false,false,1,22,0⟩
  (bA qt (bA Do (bA qt (bA vZ (List.replicate 64 mF) (mg 1 12)) (mg 16 12)) [17,18,19]) [32,33,34,35,36,37]) [40]) [41]) [48]) [49,50,51]) [52]) [53]) [54]
def cE(op:Int):Sh:=if 0≤op∧op<64 then shL.getD op.toNat mF else mF
theorem vT:TI prog 253 (.array 64 219) (.agg (lK (List.replicate 64 mF)).toArray) 448 2048:=⟨underlying253,by kernel_rfl⟩
def fg(n:Int)(u:Bool):Bool:=decide (n=0) || (u&&decide (n>0)&&decide (n<16))
def jf(s:Sh)(n:Int):Bool:=if s.kd=0 then decide (n=0)else if s.kd=1 then decide (vw s.bt n=n)else if s.mo>0 then decide (n≤s.mo)else decide (n/2^s.bt.toNat=0)
def nD(i:Qi):Bool:=(cE i.op).k&&fg i.d (cE i.op).d&&fg i.a (cE i.op).a&&fg i.b (cE i.op).b&&jf (cE i.op) i.imm
theorem dO(ba:Nat)(s:Sh)(v:SV)(ops:List Int)(l:List Sh)(hb:∀o∈ops,0≤o∧o<64)(hl:l.length=64)(hol:ops.length≤100):
  aO prog 191 [.agg (m8 s).toArray,sv v,Pt ba] [aP ba 253 (lK l)] [sl 1 eI (sv v) ops] (.tuple #[]) [aP ba 253 (lK (bA s l ops))]:=by
 refine au func191 J ntmps191 J fun w0 M H=>ak (cz J J fun b3=>av J (ax yL J (aw (k:=3) t4 J J J J J J J J (av J (ab J (aH (aZ underlying22 J (aQ (k:=0) J)) (ab J (aa (aC (bG (X:=Nat) (fun i=>i≤ops.length) (fun i=> [(2,Pt ba),(3,Pt b3),(8,sv v),(9,I6 (ops.length:Int)),(10,I6 (i:Int))]) (fun i=> [(0,aP ba 253 (lK (bA s l (ops.take i)))),(3,aP b3 219 (m8 {s with k:=true}))]) (fun i=> [(0,sl 1 eI (sv v) ops)]) (fun i=>ops.length-i) 0 (bB _) J J J (fun i n1=>ak ?_)))))))))))
 refine ap J J cL (aa (aW (ah J (fun h1=> ?_) (fun h1=> ?_))))
 ·(try simp only [aY]at h1);have hi:i<ops.length:=by omega
  obtain⟨o,hx⟩:∃o,ops[i]?=some o:=⟨_,bV hi⟩
  have ho:=hb o (cO hx);refine az (aW (aC (ak (aH (aR (j:=i) underlying22 t3 J J (aQ (k:=0) J) (by first|rfl|omega) (by first|omega|(simp;done)|(simp;omega))) (aH (ag t3 J J (ci (aQ (k:=0) J) (by intro _;rfl) hx (by rfl))) (am J (aa (aj (ab J (aH (aM gK J J J (bi (k:=3) J)) (aH (cV (j:=o.toNat) underlying253 gK J J (by omega) (by omega)) ?_)))))))))));refine aw (k:=0) (us:=m8 {s with k:=true}) (c':=lK ((bA s l (ops.take i)).set o.toNat {s with k:=true})) gK J J J J J J (by rw [sh,di,hl,show(m8 {s with k:=true}).length=7 from J,Nat.ble_eq];omega) (by rw [show(0:Nat)+o.toNat*7=o.toNat*7 by omega];exact xO _ _ {s with k:=true} (by rw [di,hl];omega)) ?_;refine aa (aj (ap J J a_ (ab J (aa ?_))));refine aI (i+1) ⟨by omega,by omega⟩ J (by rw [cn hx,ke];rfl) J
 ·(try simp only [aY]at h1);have hi:i=ops.length:=by omega
  subst hi;refine bK (bN () O J fi J [0] [] J (by rw [eo];rfl) J)
theorem tN:
  aO prog 171 [] [] [] (.agg (lK shL).toArray) []:=by
 refine au func171 J ntmps171 J fun w0 M H=>ak (aV vT (c:=lK (List.replicate 64 mF)) (by kernel_rfl) J fun b0=>av J (aV vT (c:=lK (List.replicate 64 mF)) (by kernel_rfl) J fun b1=>av J (aH (dS (first:= []) (cap:= [.tmp 1]) J J) (am J (aa (aS (am J (aa (aC ?_)))))))))
 refine bG (X:=Nat) (fun i=>i≤12) (fun i=> [(0,Pt b0),(1,Pt b1),(2,.func (.func 191) #[] #[Pt b1]),(3,I6 ((1+i:Nat):Int))]) (fun i=> [(0,aP b0 253 (lK (List.replicate 64 mF))),(1,aP b1 253 (lK (bA vZ (List.replicate 64 mF) (mg 1 i))))]) (fun i=> []) (fun i=>12-i) 0 (bB _) J J J (fun i n1=>aS (ab J (ap J J jz (aa (ah J (fun h1=> ?_) (fun h1=> ?_))))))
 ·(try simp only [aY]at h1);have hi:i<12:=by omega
  refine az (aW (aC (aj (ab J (aH (aT (parts:= [(1,.const (.bool Bool.true)),(2,.const (.bool Bool.true)),(3,.const (.bool Bool.true))]) gK jr J J) (ab J (bD eI ((1+i:Nat):Int) underlying22 t3 J (by decide) (by decide) J J J J fun v13=>cr 13 9 J bE (ae (xs:= [.tmp 11,.tmp 13]) (dO b1 vZ v13 [((1+i:Nat):Int)] (bA vZ (List.replicate 64 mF) (mg 1 i)) (by intro o ho;rw [List.mem_singleton.1 ho];omega) (by simp only [di,List.length_replicate]) (by simp)) j9 [1] [(false,9)] [1] (fun _ _=>aa (aj (ab J (ap J J (bZ (c:=((1+(i+1):Nat):Int)) (by rw [bC (by omega)];omega)) (am J (aa ?_))))))))))))));refine aI (i+1) ⟨by omega,by omega⟩ J (by rw [uv 1 i,ke];rfl) J
 ·(try simp only [aY]at h1);have hi:i=12:=by omega
  subst hi;refine bK (aS (am J (aa (aC (bG (X:=Nat) (fun i=>i≤12) (fun i=> [(0,Pt b0),(1,Pt b1),(2,.func (.func 191) #[] #[Pt b1]),(4,I6 ((16+i:Nat):Int))]) (fun i=> [(0,aP b0 253 (lK (List.replicate 64 mF))),(1,aP b1 253 (lK (bA qt (bA vZ (List.replicate 64 mF) (mg 1 12)) (mg 16 i))))]) (fun i=> []) (fun i=>12-i) 0 (bB _) J J J (fun i n1=>aS (ab J (ap J J jz (aa (ah J (fun h2=> ?_) (fun h2=> ?_)))))))))))
  ·(try simp only [aY]at h2);have hi:i<12:=by omega
   refine az (aW (aC (aj (ab J (aH (aT (parts:= [(1,.const (.bool Bool.true)),(2,.const (.bool Bool.true)),(4,.const (I6 1)),(5,.const (I6 18))]) gK jr J J) (ab J (bD eI ((16+i:Nat):Int) underlying22 t3 J (by decide) (by decide) J J J J fun v22=>cr 22 9 J bE (ae (xs:= [.tmp 20,.tmp 22]) (dO b1 qt v22 [((16+i:Nat):Int)] (bA qt (bA vZ (List.replicate 64 mF) (mg 1 12)) (mg 16 i)) (by intro o ho;rw [List.mem_singleton.1 ho];omega) (by simp only [di,List.length_replicate]) (by simp)) j9 [1] [(false,9)] [1] (fun _ _=>aa (aj (ab J (ap J J (bZ (c:=((16+(i+1):Nat):Int)) (by rw [bC (by omega)];omega)) (am J (aa ?_))))))))))))));refine aI (i+1) ⟨by omega,by omega⟩ J (by rw [uv 16 i,ke];rfl) J
  ·(try simp only [aY]at h2);have hi:i=12:=by omega
   subst hi;refine bK (ak (ab J (aH (aT (parts:= [(1,.const (.bool Bool.true)),(2,.const (.bool Bool.true)),(4,.const (I6 2)),(5,.const (I6 18))]) gK jr J J) (dB eI [17,18,19] (parts:= [(0,.const (I6 17)),(1,.const (I6 18)),(2,.const (I6 19))]) underlying22 t3 J (by decide) (by intro _;rfl) J (by decide) (by decide) J J J J fun v26=>cr 26 9 J bE (ae (xs:= [.tmp 25,.tmp 26]) (dO b1 Do v26 [17,18,19] (bA qt (bA vZ (List.replicate 64 mF) (mg 1 12)) (mg 16 12)) (by decide) (by simp only [di,List.length_replicate]) (by decide)) j9 [1] [(false,9)] [1] (fun _ _=>av J (ab J (aH (aT (parts:= [(1,.const (.bool Bool.true)),(2,.const (.bool Bool.true)),(4,.const (I6 1)),(5,.const (I6 18))]) gK jr J J) (dB eI [32,33,34,35,36,37] (parts:= [(0,.const (I6 32)),(1,.const (I6 33)),(2,.const (I6 34)),(3,.const (I6 35)),(4,.const (I6 36)),(5,.const (I6 37))]) underlying22 t3 J (by decide) (by intro _;rfl) J (by decide) (by decide) J J J J fun v30=>cr 30 9 J bE (ae (xs:= [.tmp 29,.tmp 30]) (dO b1 qt v30 [32,33,34,35,36,37] (bA Do (bA qt (bA vZ (List.replicate 64 mF) (mg 1 12)) (mg 16 12)) [17,18,19]) (by decide) (by simp only [di,List.length_replicate]) (by decide)) j9 [1] [(false,9)] [1] (fun _ _=>av J (ab J ?_))))))))))))
   refine aH (aT (parts:= [(1,.const (.bool Bool.true)),(4,.const (I6 1)),(5,.const (I6 22))]) gK jr J J) (bD eI 40 underlying22 t3 J (by decide) (by decide) J J J J fun v34=>cr 34 9 J bE (ae (xs:= [.tmp 33,.tmp 34]) (dO b1 ⟨false,true,false,false,1,22,0⟩ v34 [40] (bA qt (bA Do (bA qt (bA vZ (List.replicate 64 mF) (mg 1 12)) (mg 16 12)) [17,18,19]) [32,33,34,35,36,37]) (by decide) (by simp only [di,List.length_replicate]) (by decide)) j9 [1] [(false,9)] [1] (fun _ _=>av J (ab J (aH (aT (parts:= [(1,.const (.bool Bool.true)),(4,.const (I6 2)),(5,.const (I6 22))]) gK jr J J) (bD eI 41 underlying22 t3 J (by decide) (by decide) J J J J fun v38=>cr 38 9 J bE (ae (xs:= [.tmp 37,.tmp 38]) (dO b1 ⟨false,true,false,false,2,22,0⟩ v38 [41] (bA ⟨false,true,false,false,1,22,0⟩ (bA qt (bA Do (bA qt (bA vZ (List.replicate 64 mF) (mg 1 12)) (mg 16 12)) [17,18,19]) [32,33,34,35,36,37]) [40]) (by decide) (by simp only [di,List.length_replicate]) (by decide)) j9 [1] [(false,9)] [1] (fun _ _=>av J (ab J (aH (aT (parts:= [(4,.const (I6 2)),(5,.const (I6 18))]) gK jr J J) (bD eI 48 underlying22 t3 J (by decide) (by decide) J J J J fun v42=>cr 42 9 J bE (ae (xs:= [.tmp 41,.tmp 42]) (dO b1 ⟨false,false,false,false,2,18,0⟩ v42 [48] (bA ⟨false,true,false,false,2,22,0⟩ (bA ⟨false,true,false,false,1,22,0⟩ (bA qt (bA Do (bA qt (bA vZ (List.replicate 64 mF) (mg 1 12)) (mg 16 12)) [17,18,19]) [32,33,34,35,36,37]) [40]) [41]) (by decide) (by simp only [di,List.length_replicate]) (by decide)) j9 [1] [(false,9)] [1] (fun _ _=> ?_)))))))))))))
   refine av J (ab J (aH (aT (parts:= []) gK jr J J) (dB eI [49,50,51] (parts:= [(0,.const (I6 49)),(1,.const (I6 50)),(2,.const (I6 51))]) underlying22 t3 J (by decide) (by intro _;rfl) J (by decide) (by decide) J J J J fun v46=>cr 46 9 J bE (ae (xs:= [.tmp 45,.tmp 46]) (dO b1 mF v46 [49,50,51] (bA ⟨false,false,false,false,2,18,0⟩ (bA ⟨false,true,false,false,2,22,0⟩ (bA ⟨false,true,false,false,1,22,0⟩ (bA qt (bA Do (bA qt (bA vZ (List.replicate 64 mF) (mg 1 12)) (mg 16 12)) [17,18,19]) [32,33,34,35,36,37]) [40]) [41]) [48]) (by decide) (by simp only [di,List.length_replicate]) (by decide)) j9 [1] [(false,9)] [1] (fun _ _=>av J (ab J (aH (aT (parts:= [(2,.const (.bool Bool.true))]) gK jr J J) (bD eI 52 underlying22 t3 J (by decide) (by decide) J J J J fun v50=>cr 50 9 J bE (ae (xs:= [.tmp 49,.tmp 50]) (dO b1 ⟨false,false,true,false,0,0,0⟩ v50 [52] (bA mF (bA ⟨false,false,false,false,2,18,0⟩ (bA ⟨false,true,false,false,2,22,0⟩ (bA ⟨false,true,false,false,1,22,0⟩ (bA qt (bA Do (bA qt (bA vZ (List.replicate 64 mF) (mg 1 12)) (mg 16 12)) [17,18,19]) [32,33,34,35,36,37]) [40]) [41]) [48]) [49,50,51]) (by decide) (by simp only [di,List.length_replicate]) (by decide)) j9 [1] [(false,9)] [1] (fun _ _=>av J (ab J ?_)))))))))))
   refine aH (aT (parts:= [(1,.const (.bool Bool.true)),(4,.const (I6 2)),(5,.const (I6 18)),(6,.const (I3 3))]) gK jr J J) (bD eI 53 underlying22 t3 J (by decide) (by decide) J J J J fun v54=>cr 54 9 J bE (ae (xs:= [.tmp 53,.tmp 54]) (dO b1 ⟨false,true,false,false,2,18,3⟩ v54 [53] (bA ⟨false,false,true,false,0,0,0⟩ (bA mF (bA ⟨false,false,false,false,2,18,0⟩ (bA ⟨false,true,false,false,2,22,0⟩ (bA ⟨false,true,false,false,1,22,0⟩ (bA qt (bA Do (bA qt (bA vZ (List.replicate 64 mF) (mg 1 12)) (mg 16 12)) [17,18,19]) [32,33,34,35,36,37]) [40]) [41]) [48]) [49,50,51]) [52]) (by decide) (by simp only [di,List.length_replicate]) (by decide)) j9 [1] [(false,9)] [1] (fun _ _=>av J (ab J (aH (aT (parts:= [(2,.const (.bool Bool.true)),(4,.const (I6 2)),(5,.const (I6 18)),(6,.const (I3 4))]) gK jr J J) (bD eI 54 underlying22 t3 J (by decide) (by decide) J J J J fun v58=>cr 58 9 J bE (ae (xs:= [.tmp 57,.tmp 58]) (dO b1 ⟨false,false,true,false,2,18,4⟩ v58 [54] (bA ⟨false,true,false,false,2,18,3⟩ (bA ⟨false,false,true,false,0,0,0⟩ (bA mF (bA ⟨false,false,false,false,2,18,0⟩ (bA ⟨false,true,false,false,2,22,0⟩ (bA ⟨false,true,false,false,1,22,0⟩ (bA qt (bA Do (bA qt (bA vZ (List.replicate 64 mF) (mg 1 12)) (mg 16 12)) [17,18,19]) [32,33,34,35,36,37]) [40]) [41]) [48]) [49,50,51]) [52]) [53]) (by decide) (by simp only [di,List.length_replicate]) (by decide)) j9 [1] [(false,9)] [1] (fun _ _=>av J (aH (aM vT J J (by rw [sh];simp only [di,List.length_replicate]) (bi (k:=1) J)) (aw (k:=0) (us:=lK shL) (c':=lK shL) vT J J (by kernel_rfl) (by kernel_rfl) (by kernel_rfl) J (by kernel_rfl) (by kernel_rfl) (aa (ar (aG () O J (bR (bh vT J J (by kernel_rfl) (bi (k:=0) J))) J [] [] J J J)))))))))))))
theorem qZ(op:Int):
  aO prog 132 [I6 op] [] [] (.agg (m8 (cE op)).toArray) []:=by
 refine au func132 J ntmps132 J fun w0 M H=>ak (aV gK J J fun b2=>av J (ae (xs:= []) tN KW [] [] [] (fun _ _=>aV vT (c:=lK (List.replicate 64 mF)) (by kernel_rfl) J fun b3=>aw (k:=3) (us:=lK shL) (c':=lK shL) vT J J (by kernel_rfl) (by kernel_rfl) (by kernel_rfl) J (by kernel_rfl) (by kernel_rfl) (aa (aS (ab J (ap J J cL (ab J (aF [] J J O (fun hg1=>aX J) J (aF [(8,_)] J J ⟨J,O⟩ (fun hg2=>aU J J eY) J (aH (bw J J J) ?_)))))))))))
 refine aa (ah J (fun h3=> ?_) (fun h3=> ?_))
 ·(try simp only [aY]at h3);have hg:cE op=mF:=ac (by omega);rw [hg];refine ak (aH (aT (parts:= []) gK jr J J) (aq (k:=2) gK J J J J J J (aa (ar (aG () O J (bR (bh gK J J J (bi (k:=2) J))) J [] [] J J J)))))
 ·(try simp only [aY]at h3);have hn:0≤op∧op<64:=by omega
  have hg:shL[op.toNat]?=some (cE op):=by
   have hl:shL.length=64:=by decide
   unfold cE;rw [ao hn,List.getD_eq_getElem?_getD,bV (by omega)];rfl
  refine az (ak (ab J (aH (cV (j:=op.toNat) underlying253 gK J J (by omega) (by omega)) ?_)));refine vA (aM gK J J J (k8 (us:=m8 (cE op)) (k:=3) J (by rw [show(0:Nat)+op.toNat*7=op.toNat*7 by omega,show(m8 (cE op)).length=7 from rfl];exact xP shL _ _ hg))) J ?_;refine aq (k:=2) gK J J J J J J (aa (ar (aG () O J (bR (bh gK J J J (bi (k:=2) J))) J [] [] J J J)))
theorem m7(n:Int)(u:Bool):
  aO prog 169 [I6 n,.bool u] [] [] (.bool (fg n u)) []:=by
 refine au func169 J ntmps169 J fun w0 M H=>ak (am J (av J (ab J (ap J J bc (ab J (aF [] J J O (fun hg1=>aX J) J (aF [(8,_)] J J ⟨J,O⟩ (fun hg2=>aX J) J (c_ [] [(8,_),(9,_)] J J O ⟨J,J,O⟩ (fun hg3 hg3'=>aX J) J (c_ [(10,_)] [(8,_),(9,_)] J J ⟨J,O⟩ ⟨J,J,O⟩ (fun hg4 hg4'=>aU J J fU) J (aF [(8,_),(9,_)] J J ⟨J,J,O⟩ (fun hg5=>cq J J J (by first|exact dR|exact eE|exact dj hg5|exact dQ hg5|rfl)) J (aF [(8,_),(9,_),(12,_)] J J ⟨J,J,J,O⟩ (fun hg6=>aX J) J (c_ [] [(8,_),(9,_),(12,_),(13,_)] J J O ⟨J,J,J,J,O⟩ (fun hg7 hg7'=>aX J) J (c_ [(14,_)] [(8,_),(9,_),(12,_),(13,_)] J J ⟨J,O⟩ ⟨J,J,J,J,O⟩ (fun hg8 hg8'=>aU J J cL) J (aF [(8,_),(9,_),(12,_),(13,_)] J J ⟨J,J,J,J,O⟩ (fun hg9=>cq J J J (by first|exact dR|exact eE|exact dj hg9|exact dQ hg9|rfl)) J (aH (bw J J J) ?_)))))))))))))))
 refine am J (aa (ar (aG () O J (bR (aD J)) J [] [] J J J)))
theorem z6(s:Sh)(n:Int)(hn:0≤n∧n<4294967296)(hs:s.kd=1→s.bt=18∨s.bt=22)(hb:0≤s.bt∧s.bt<32):
  aO prog 170 [.agg (m8 s).toArray,I3 n] [] [] (.bool (jf s n)) []:=by
 refine au func170 J ntmps170 J fun w0 M H=>ak (cz J J fun b2=>am J (aa (aW (aC (ak (ax yK J (aL 2 t3 J J J J (ap J J bc (am J (aa (ah J (fun h1=> ?_) (fun h1=> ?_))))))))))))
 ·(try simp only [aY]at h1);have k0:s.kd=0:=h1;refine ak (ab J (ap J J bc (am J (aa (ar (aG () O J (bR (aD J)) (by unfold jf;rw [ao k0]) [] [] J J J))))))
 ·(try simp only [aY]at h1);have k0:¬s.kd=0:=h1;refine ak (ax yK J (aL 2 t3 J J J J (ap J J bc (am J (aa (ah J (fun h2=> ?_) (fun h2=> ?_)))))))
  ·(try simp only [aY]at h2);have k1:s.kd=1:=h2;refine ak (ab J (ax yJ J (aL 2 t3 J J J J (ae (xs:= [.tmp 15,.tmp 17]) (rL n s.bt hn (hs k1)) F6 [] [] [] (fun _ _=>am J (aa (ar (aG () O J (bR (aD J)) (by unfold jf;rw [ac k0,ao k1]) [] [] J J J))))))))
  ·(try simp only [aY]at h2);have k1:¬s.kd=1:=h2;refine ak (ax yI J (aL 2 dt J J J J (ap J J fU (am J (aa (ah J (fun h3=> ?_) (fun h3=> ?_)))))))
   ·(try simp only [aY]at h3);have k2:s.mo>0:=h3;refine ak (ab J (ax yI J (aL 2 dt J J J J (ap J J jz (am J (aa (ar (aG () O J (bR (aD J)) (by unfold jf;rw [ac k0,ac k1,ao k2]) [] [] J J J))))))))
   ·(try simp only [aY]at h3);have k2:¬s.mo>0:=by omega
    refine az (ak (ab J (ax yJ J (aL 2 t3 J J J J (ap J J (ql (by omega) (by first|decide|(simp [IntKind.bits];omega)) J) (ap J J bc (am J (aa (ar (aG () O J (bR (aD J)) (by unfold jf;rw [ac k0,ac k1,ac k2]) [] [] J J J))))))))))
theorem GJ:∀s∈shL,(s.kd=1→s.bt=18∨s.bt=22)∧0≤s.bt∧s.bt<32∧(s.bt=0∨s.bt=18∨s.bt=22)∧(s.bt=18→s.b=false)∧(s.bt=22→s.a=false∧s.b=false):=by decide
theorem ij(op:Int):((cE op).kd=1→(cE op).bt=18∨(cE op).bt=22)∧0≤(cE op).bt∧(cE op).bt<32∧((cE op).bt=0∨(cE op).bt=18∨(cE op).bt=22)∧((cE op).bt=18→(cE op).b=false)∧((cE op).bt=22→(cE op).a=false∧(cE op).b=false):=by
 unfold cE;split
 ·rename_i h;have hl:shL.length=64:=by decide
  rw [List.getD_eq_getElem?_getD,bV (by omega)];exact GJ _ (List.getElem_mem _)
 ·decide
theorem JQ{op:Int}(h:(cE op).k=true):0≤op∧op<64:=by
 unfold cE at h;by_cases hc:0≤op∧op<64
 ·exact hc
 ·rw [ac hc]at h;cases h
theorem tk{n:Int}{u:Bool}(h:fg n u=true):0≤n∧n<16:=by
 unfold fg at h;simp only [Bool.or_eq_true,Bool.and_eq_true,decide_eq_true_eq]at h;omega
theorem r_{i:Qi}(h:nD i=true):(0≤i.op∧i.op<64)∧(0≤i.d∧i.d<16)∧(0≤i.a∧i.a<16)∧(0≤i.b∧i.b<16):=by
 unfold nD at h;simp only [Bool.and_eq_true]at h;obtain⟨⟨⟨⟨h1,h2⟩,h3⟩,h4⟩,h5⟩:=h;exact⟨JQ h1,tk h2,tk h3,tk h4⟩
def k_(i:Qi):Int:=i.op*67108864+i.d*4194304+i.a*262144+i.b*16384+i.imm%2^(cE i.op).bt.toNat
def qO(i:Qi):Int:=if nD i=true then k_ i else 0
theorem IK{x y:Int}(k:Nat)(hx:0≤x∧x<4294967296)(hx2:x%((2^k:Nat):Int)=0)(hy:0≤y∧y<((2^k:Nat):Int))(hy2:y<4294967296):bits .or .u32 x y=x+y:=by
 obtain⟨a,rfl⟩:=Int.eq_ofNat_of_zero_le hx.1;obtain⟨b,rfl⟩:=Int.eq_ofNat_of_zero_le hy.1;rw [u32_or _ _ hx.1 hx.2 hy.1 hy2];simp only [Int.toNat_natCast];rw [nat_join k a b (by exact_mod_cast hx2) (by exact_mod_cast hy.2)];omega
theorem eH{n:Int}(h:fg n false=true):n=0:=by
 unfold fg at h;simp only [Bool.or_eq_true,Bool.and_eq_true,decide_eq_true_eq,Bool.false_and]at h;simpa using h
theorem Kj{i:Qi}(h:nD i=true)(hi:0≤i.imm∧i.imm<4294967296):
  bits .or .u32 (bits .or .u32 (bits .or .u32 (bits .or .u32 (IntKind.u32.wrap (i.op*2^(26:Int).toNat)) (IntKind.u32.wrap (i.d*2^(22:Int).toNat))) (IntKind.u32.wrap (i.a*2^(18:Int).toNat))) (IntKind.u32.wrap (i.b*2^(14:Int).toNat))) (bits .and .u32 i.imm (IntKind.u32.wrap (IntKind.u32.wrap (1*2^(cE i.op).bt.toNat)-1)))=k_ i:=by
 obtain⟨b1,b2,b3,b4⟩:=r_ h;unfold nD at h;simp only [Bool.and_eq_true]at h;obtain⟨⟨⟨⟨h1,h2⟩,h3⟩,h4⟩,h5⟩:=h;obtain⟨_,_,_,k1,k2,k3⟩:=ij i.op;rw [show((2:Int)^(26:Int).toNat)=67108864 from J,show((2:Int)^(22:Int).toNat)=4194304 from J,show((2:Int)^(18:Int).toNat)=262144 from J,show((2:Int)^(14:Int).toNat)=16384 from J];rw [jq (n:=i.op*67108864) (by omega) (by omega),jq (n:=i.d*4194304) (by omega) (by omega),jq (n:=i.a*262144) (by omega) (by omega),jq (n:=i.b*16384) (by omega) (by omega)];rw [IK (x:=i.op*67108864) (y:=i.d*4194304) 26 ⟨by omega,by omega⟩ (by omega) ⟨by omega,by omega⟩ (by omega),IK (x:=i.op*67108864+i.d*4194304) (y:=i.a*262144) 22 ⟨by omega,by omega⟩ (by omega) ⟨by omega,by omega⟩ (by omega),IK (x:=i.op*67108864+i.d*4194304+i.a*262144) (y:=i.b*16384) 18 ⟨by omega,by omega⟩ (by omega) ⟨by omega,by omega⟩ (by omega)];unfold k_;rcases k1 with k|k|k
 ·rw [k,show IntKind.u32.wrap (IntKind.u32.wrap (1*2^(0:Int).toNat)-1)=0 from J,show((2:Int)^(0:Int).toNat)=1 from J];have h0:bits .and .u32 i.imm 0=0:=by
   rw [u32_and _ _ hi.1 hi.2 (by omega) (by omega)];simp
  rw [h0,IK 0 ⟨by omega,by omega⟩ (by omega) ⟨by omega,by omega⟩ (by omega)];omega
 ·have hb:i.b=0:=eH (by rw [←k2 k];exact h4);rw [k,show IntKind.u32.wrap (IntKind.u32.wrap (1*2^(18:Int).toNat)-1)=262143 from J,show((2:Int)^(18:Int).toNat)=262144 from J,LD hi,hb];rw [IK 18 ⟨by omega,by omega⟩ (by omega) ⟨by omega,by omega⟩ (by omega)]
 ·have hb:i.b=0:=eH (by rw [←(k3 k).2];exact h4);have ha:i.a=0:=eH (by rw [←(k3 k).1];exact h3);rw [k,show IntKind.u32.wrap (IntKind.u32.wrap (1*2^(22:Int).toNat)-1)=4194303 from J,show((2:Int)^(22:Int).toNat)=4194304 from J,LC hi,hb,ha];rw [IK 22 ⟨by omega,by omega⟩ (by omega) ⟨by omega,by omega⟩ (by omega)]
theorem xg{i:Qi}(h:nD i=true):0≤k_ i∧k_ i<4294967296:=by
 obtain⟨b1,b2,b3,b4⟩:=r_ h;unfold nD at h;simp only [Bool.and_eq_true]at h;obtain⟨⟨⟨⟨h1,h2⟩,h3⟩,h4⟩,h5⟩:=h;obtain⟨_,_,_,k1,k2,k3⟩:=ij i.op;unfold k_;rcases k1 with k|k|k
 ·rw [k,show((2:Int)^(0:Int).toNat)=1 from J];omega
 ·have hb:i.b=0:=eH (by rw [←k2 k];exact h4);rw [k,show((2:Int)^(18:Int).toNat)=262144 from J];omega
 ·have hb:i.b=0:=eH (by rw [←(k3 k).2];exact h4);have ha:i.a=0:=eH (by rw [←(k3 k).1];exact h3);rw [k,show((2:Int)^(22:Int).toNat)=4194304 from J];omega
theorem Ib(i:Qi):0≤qO i∧qO i<4294967296:=by
 unfold qO;split
 ·rename_i h;exact xg h
 ·omega
def eC(n:Int):List Int:= [n%256,n/256%256,n/65536%256,n/16777216%256]
def H_(i:Qi):Int:=if nD i=true then 0 else 12
theorem vO(i:Qi)(hi:0≤i.imm∧i.imm<4294967296):
  aO prog 131 [.agg (gI i).toArray] [] [] (.bool (nD i)) []:=by
 refine au func131 J ntmps131 J fun w0 M H=>ak (cz J J fun b1=>am J (av J (ax bW J (aL 1 t3 J J J J (ae (xs:= [.tmp 5]) (qZ i.op) Gk [] [] [] (fun _ _=>aV gK J J fun b3=>aq (k:=3) gK J J J J J J (av J (ax yL J (aL 3 t4 J J J J (ab J (aF [] J J O (fun hg1=>ai fH J) J ?_)))))))))))
 refine aF [(10,_)] J J ⟨J,O⟩ (fun hg2=>ag t3 J J (aB (k:=1) J J)) J (aF [(10,_),(11,_)] J J ⟨J,J,O⟩ (fun hg3=>ai E0 J) J (aF [(10,_),(11,_),(12,_)] J J ⟨J,J,J,O⟩ (fun hg4=>ag t4 J J (aB (k:=3) J J)) J (iW [(10,_),(11,_),(12,_),(13,_)] J J ⟨J,J,J,J,O⟩ (fun hg5=>cy (xs:= [.tmp 11,.tmp 13]) (m7 i.d (cE i.op).d) CY [] [] []) J (aH (bw J J J) (ab J (aF [] J J O (fun hg6=>ai kB J) J (aF [(17,_)] J J ⟨J,O⟩ (fun hg7=>ag t3 J J (aB (k:=1) J J)) J (aF [(17,_),(18,_)] J J ⟨J,J,O⟩ (fun hg8=>ai EZ J) J (aF [(17,_),(18,_),(19,_)] J J ⟨J,J,J,O⟩ (fun hg9=>ag t4 J J (aB (k:=3) J J)) J (iW [(17,_),(18,_),(19,_),(20,_)] J J ⟨J,J,J,J,O⟩ (fun hg10=>cy (xs:= [.tmp 18,.tmp 20]) (m7 i.a (cE i.op).a) CY [] [] []) J (aH (bw J J J) (ab J (aF [] J J O (fun hg11=>ai kA J) J (aF [(24,_)] J J ⟨J,O⟩ (fun hg12=>ag t3 J J (aB (k:=1) J J)) J (aF [(24,_),(25,_)] J J ⟨J,J,O⟩ (fun hg13=>ai EY J) J (aF [(24,_),(25,_),(26,_)] J J ⟨J,J,J,O⟩ (fun hg14=>ag t4 J J (aB (k:=3) J J)) J (iW [(24,_),(25,_),(26,_),(27,_)] J J ⟨J,J,J,J,O⟩ (fun hg15=>cy (xs:= [.tmp 25,.tmp 27]) (m7 i.b (cE i.op).b) CY [] [] []) J (aH (bw J J J) (ab J ?_)))))))))))))))))));refine aF [] J J O (fun hg16=>aM gK J J J (bi (k:=3) J)) J (aF [(31,_)] J J ⟨J,O⟩ (fun hg17=>ai dm J) J (aF [(31,_),(32,_)] J J ⟨J,J,O⟩ (fun hg18=>ag dt J J (aB (k:=1) J J)) J (iW [(31,_),(32,_),(33,_)] J J ⟨J,J,J,O⟩ (fun hg19=>cy (xs:= [.tmp 31,.tmp 33]) (z6 (cE i.op) i.imm hi (ij i.op).1 ⟨(ij i.op).2.1,(ij i.op).2.2.1⟩) KX [] [] []) J (aH (bw J J J) (am J (aa (ar (aG () O J (bR (aD J)) J [] [] J J J))))))))
theorem uO(i:Qi)(hi:0≤i.imm∧i.imm<4294967296):
  aO prog 98 [.agg (gI i).toArray] [] [] (.tuple #[I3 (qO i),I6 (H_ i)]) []:=by
 refine au func98 J ntmps98 J fun w0 M H=>ak (cz J J fun b1=>am J (am J (aa (aS (aH (aM el J J J (bi (k:=1) J)) (ae (xs:= [.tmp 5]) (vO i hi) Li [] [] [] (fun _ _=>aH (cZ J) (aa (ah J (fun h1=> ?_) (fun h1=> ?_))))))))))
 ·have hv:nD i=false:=by simpa using h1
  rw [show qO i=0 from ac (by rw [hv];simp),show H_ i=12 from ac (by rw [hv];simp)];refine ak (am J (am J (aa (ar (aG () O J (D4 (aD J) (aD J)) J [] [] J J J)))))
 ·have hv:nD i=true:=by simpa using h1
  rw [show qO i=k_ i from ao hv,show H_ i=0 from ao hv];obtain⟨b1,b2,b3,b4⟩:=r_ hv;obtain⟨_,c1,c2,_⟩:=ij i.op;refine az (ak (ax bW J (aL 1 t3 J J J J (aH (bX underlying3 underlying41 J (by first|exact bx (by omega)|rfl)) (ap J J (gT (by omega) (by first|decide|(simp [IntKind.bits];omega)) J) (ax fH J (aL 1 t3 J J J J (aH (bX underlying3 underlying41 J (by first|exact bx (by omega)|rfl)) (ap J J (gT (by omega) (by first|decide|(simp [IntKind.bits];omega)) J) (ap J J (Dd J) (ax kB J (aL 1 t3 J J J J (aH (bX underlying3 underlying41 J (by first|exact bx (by omega)|rfl)) (ap J J (gT (by omega) (by first|decide|(simp [IntKind.bits];omega)) J) (ap J J (Dd J) (ax kA J (aL 1 t3 J J J J (aH (bX underlying3 underlying41 J (by first|exact bx (by omega)|rfl)) ?_))))))))))))))))));refine ap J J (gT (by omega) (by first|decide|(simp [IntKind.bits];omega)) J) (ap J J (Dd J) (am J (aa (aW ?_))));refine ce [27,28,29,30,31,32,33,34,35,36,37,2,3] _ J (bn (V:= [(0,27,_),(1,28,_),(2,29,_),(3,30,_),(4,31,_)]) [0,1,2,3,4] 5 [5,4,3] [6,7,8,9,10,11,12] (fun _=> [(6,33,_),(7,34,_),(8,35,_),(9,36,_),(10,37,_),(11,2,_),(12,3,_)]) J J (aJ J J (ad J (ai dm J) (ad J (ag dt J J (aB (k:=1) J J)) (ad J (ai bW J) (ad J (ag t3 J J (aB (k:=1) J J)) ay))))) J J J J J J J J J J J (fun _ _=>J) J (cy (xs:= [.tmp 31]) (qZ i.op) Gk [] [] []) (fun _ _=>br [6,7,8,9,10,11,12,0,1,2] J J (ad J (jV EQ t3 J J) (ad J (aU J J (gT (by omega) (by first|decide|(simp [IntKind.bits];omega)) J)) (ad J (aU J J Dc) (ad J (aU J J (u_ J)) (ad J (aU J J (Dd J)) (ad J (dU J) (ad J (dU J) (aJ J J (ad J (ai dm J) (ad J (ag dt J J (aB (k:=1) J J)) ay)))))))))) J J J ?_));refine ar (aG () O J (D4 (aD J) (aD J)) (congrArg (fun z=>Value.tuple #[Value.int .u32 z,Value.int .i64 0]) (Kj hv hi)) [] [] J J J)
theorem Bq(n:Int)(hn:0≤n∧n<4294967296):
  aO prog 100 [I3 n,I6 4] [] [] (Sg (iP (eC n))) []:=by
 refine au func100 J ntmps100 J fun w0 M H=>ak (am J (av J (ab J (aH (bX underlying41 underlying5 J (by first|exact AL (by omega) (by omega)|rfl)) (ab J (ap J J (ql (by omega) (by first|decide|(simp [IntKind.bits];omega)) J) (aH (bX underlying41 underlying5 J (by first|exact AL (by omega) (by omega)|rfl)) (ab J (ap J J (ql (by omega) (by first|decide|(simp [IntKind.bits];omega)) J) (aH (bX underlying41 underlying5 J (by first|exact AL (by omega) (by omega)|rfl)) (ab J (ap J J (ql (by omega) (by first|decide|(simp [IntKind.bits];omega)) J) (aH (bX underlying41 underlying5 J (by first|exact AL (by omega) (by omega)|rfl)) (dB bL (eC n) (parts:= [(0,.tmp 7),(1,.tmp 10),(2,.tmp 13),(3,.tmp 16)]) underlying84 t5 J (by decide) (by intro _;rfl) J (by decide) (by decide) J J J J fun v17=>am J ?_))))))))))))))
 refine av J (ab J (ab J (aH (Bw J J J) (aH (kY J J J) (aH (wt (j:=4) underlying84 t5 J J (bl (k:=17) J) J (bU 4)) (cr 17 17 J bE (L6 17 18 4 J (bU 4) (aH (oS underlying84 underlying5 underlying9 J (aQ (k:=18) J) (by simp [eC])) (am J (aa (ar (aG () O J (bR (aD J)) J [] [] J J J))))))))))))
theorem uV(b:Nat)(p:Option Addr)(hp:p=none∨p=some ⟨b,0,none⟩)(v:SV):
  aO prog 133 [Pt b] [aP b 177 [.pointer p,sv v]] [] (.tuple #[]) [aP b 177 [Pt b,sv v]]:=by
 refine au func133 J ntmps133 J fun w0 M H=>ak (ab J (bp J (ax tg J (aL 0 GB J J J J (ap J J (ka underlying175) (aa (ah J (fun h1=> ?_) (fun h1=> ?_))))))))
 ·obtain rfl:p=none:=by cases p with|none=>rfl|some _=>cases h1
  refine aj (ab J (ab J (aH (JF (k:=0) underlying175 underlying255 DR (by decide) J J (by simp)) (aH (Ea func172 (by kernel_rfl) (by kernel_rfl) (by kernel_rfl) (by kernel_rfl) J) (aH (Ec (k:=0) underlying255 underlying175 DR J J (by kernel_rfl)) (bp J (ax tg J (aw (k:=0) GB J J J J J J J J (aa (bN () O J fi J [0] [] J J J))))))))))
 ·obtain rfl:p=some ⟨b,0,none⟩:=hp.resolve_left (fun e=>by subst e;cases h1);refine ak (ab J (bp J (ax tg J (aL 0 GB J J J J (ab J (aH (Eb underlying175 DR J J) (aa (ah J (fun h2=> ?_) (fun h2=> ?_)))))))))
  ·cases h2
  ·refine az (bN () O J fi J [0] [] J J J)
theorem zh(b:Nat)(p:Option Addr)(hp:p=none∨p=some ⟨b,0,none⟩)(v:SV)(l:List Int)(s:Ba)(hl:l.length+s.size≤1000000):
  Spec prog 99 [Pt b,Sg s] [aP b 177 [.pointer p,sv v],own 5 1 bL (sv v) l] [] (X:=SV) (fun _=>True) (fun _=> .tuple #[I6 (s.size:Int),.nilIface]) (fun v=> [aP b 177 [Pt b,sv v],own 5 1 bL (sv v) (l++aN s)]) (fun _=> []):=by
 refine au func99 J ntmps99 J fun w0 M H=>ak (am J (am J (av J (ab J (ae (xs:= [.tmp 6]) (uV b p hp v) Lh [0] [] [0] (fun _ _=>av J (ab J (ab J (bp J (ax og J (aL 0 vR J J J J (ab J (zM 1 underlying84 underlying9 t5 J J J J (by omega) J fun v14=> ?_)))))))))))))
 refine bp J (ax og J (aw (k:=0) vR J J J J J J J J (av J (ab J (aH (ck underlying9 J) (am J (am J (aa (ar (aG v14 O J (D4 (aD J) (aD J)) J [0,1] [] J J J))))))))))
theorem Ax(b:Nat)(p:Option Addr)(v:SV)(l:List Int)(hl:l≠ [])(hb:∀n∈l,0≤n∧n<256):
  aO prog 101 [Pt b] [aP b 177 [.pointer p,sv v],own 5 1 bL (sv v) l] [] (Sg (iP l)) [aP b 177 [.pointer p,sv v]]:=by
 refine au func101 J ntmps101 J fun w0 M H=>ak (am J (aa (aW (ce [3,4,5,6,7,8,9,10,11,12,13,2] _ J (bn (V:= [(0,3,_),(1,4,_),(2,5,_),(3,6,_),(4,7,_),(5,8,_),(6,9,_),(7,10,_),(8,11,_),(9,12,_)]) [0,1,2,3,4,5,6,7,8,9] 10 [10,9,8,7,6,5,4,3,2,1,0] [11] (fun _=> [(11,2,_)]) J J (aJ J J (ad J (aA J) (ad J (ai og J) (ad J (ag vR J J (aB (k:=0) J J)) (ad J (JE (k:=1) J J hl) (aJ J J (ad J (aA J) (ad J (ai og J) (ad J (ag vR J J (aB (k:=0) J J)) (ad J (aZ underlying84 J (bl (k:=1) J)) ay)))))))))) J J J J J J J J J J J (fun _ _=>J) J (Ep (k:=1) underlying221 (by kernel_rfl) J J J hl hb) (fun _ _=>br [11] J J (ad J (dU J) ay) J J J (ar (aG () O J (bR (aD J)) J [0] [] J J J))))))))
structure Fo where
 is:Bool
 d:Bool
 a:Bool
 b:Bool
 sg:Bool
 bt:Int
 mo:Int
deriving DecidableEq
def IW(f:Fo):List Value:= [.bool f.is,.bool f.d,.bool f.a,.bool f.b,.bool f.sg,I6 f.bt,I3 f.mo]
def w6(op:Int):Fo:=⟨(cE op).k,(cE op).d,(cE op).a,(cE op).b,decide ((cE op).kd=1),(cE op).bt,(cE op).mo⟩
def yg(op:Int):Fo:=
 if 1≤op∧op≤12 then⟨true,true,true,true,false,0,0⟩else if op=17∨op=18∨op=19 then⟨true,true,true,false,false,18,0⟩else if(16≤op∧op≤27)∨(32≤op∧op≤37)then⟨true,true,true,false,true,18,0⟩else if op=40 then⟨true,true,false,false,true,22,0⟩else if op=41 then⟨true,true,false,false,false,22,0⟩else if op=48 then⟨true,false,false,false,false,18,0⟩else if op=49∨op=50∨op=51 then⟨true,false,false,false,false,0,0⟩else if op=52 then⟨true,false,true,false,false,0,0⟩else if op=53 then⟨true,true,false,false,false,18,3⟩else if op=54 then⟨true,false,true,false,false,18,4⟩else⟨false,false,false,false,false,0,0⟩
theorem Ek:∀n,n<64→yg ((n:Nat):Int)=w6 ((n:Nat):Int):=by decide
theorem ww{op:Int}(h:0≤op∧op<64):yg op=w6 op:=by
 have:=Ek op.toNat (by omega)
 rw [show((op.toNat:Nat):Int)=op by omega]at this;exact this
theorem sL(op:Int):
  aO prog 197 [I6 op] [] [] (.agg (IW (yg op)).toArray) []:=by
 refine au func197 J ntmps197 J fun w0 M H=>ak (aV eL J J fun b2=>aa (aW (aC (ak (ab J (ap J J eY (ab J (aF [] J J O (fun hg1=>aX J) J (aF [(7,_)] J J ⟨J,O⟩ (fun hg2=>aU J J jz) J (aH (bw J J J) (am J (aa (ah J (fun h3=> ?_) (fun h3=> ?_))))))))))))))
 ·(try simp only [aY]at h3);have q1:1≤op∧op≤12:=by omega
  refine ak (aH (aT (parts:= [(0,.const (.bool Bool.true)),(1,.const (.bool Bool.true)),(2,.const (.bool Bool.true)),(3,.const (.bool Bool.true))]) eL jT J J) (aq (k:=2) eL J J J J J J (aa (ar (aG () O J (bR (bh eL J J J (bi (k:=2) J))) (by unfold yg;rw [ao q1];rfl) [] [] J J J)))))
 ·(try simp only [aY]at h3);have q1:¬(1≤op∧op≤12):=by omega
  refine ak (ab J (ap J J bc (ab J (aF [] J J O (fun hg4=>aX J) J (aF [(15,_)] J J ⟨J,O⟩ (fun hg5=>aU J J bc) J (aH (bw J J J) (ab J (aF [] J J O (fun hg6=>aX J) J (aF [(19,_)] J J ⟨J,O⟩ (fun hg7=>aU J J bc) J (aH (bw J J J) (am J (aa (ah J (fun h8=> ?_) (fun h8=> ?_))))))))))))))
  ·(try simp only [aY]at h8);have q2:op=17∨op=18∨op=19:=by omega
   refine ak (aH (aT (parts:= [(0,.const (.bool Bool.true)),(1,.const (.bool Bool.true)),(2,.const (.bool Bool.true)),(5,.const (I6 18))]) eL jT J J) (aq (k:=2) eL J J J J J J (aa (ar (aG () O J (bR (bh eL J J J (bi (k:=2) J))) (by unfold yg;rw [ac q1,ao q2];rfl) [] [] J J J)))))
  ·(try simp only [aY]at h8);have q2:¬(op=17∨op=18∨op=19):=by omega
   refine ak (ab J (ap J J eY (ab J (aF [] J J O (fun hg9=>aX J) J (aF [(27,_)] J J ⟨J,O⟩ (fun hg10=>aU J J jz) J (aH (bw J J J) (ab J (aF [] J J O (fun hg11=>aX J) J (aF [(31,_)] J J ⟨J,O⟩ (fun hg12=>aU J J eY) J (aF [(31,_),(32,_)] J J ⟨J,J,O⟩ (fun hg13=>aX J) J (c_ [] [(31,_),(32,_),(33,_)] J J O ⟨J,J,J,O⟩ (fun hg14 hg14'=>aX J) J (c_ [(34,_)] [(31,_),(32,_),(33,_)] J J ⟨J,O⟩ ⟨J,J,J,O⟩ (fun hg15 hg15'=>aU J J jz) J (aF [(31,_),(32,_),(33,_)] J J ⟨J,J,J,O⟩ (fun hg16=>cq J J J (by first|exact dR|exact eE|exact dj hg16|exact dQ hg16|rfl)) J (aH (bw J J J) (am J (aa (ah J (fun h17=> ?_) (fun h17=> ?_))))))))))))))))))
   ·(try simp only [aY]at h17);have q3:(16≤op∧op≤27)∨(32≤op∧op≤37):=by omega
    refine ak (aH (aT (parts:= [(0,.const (.bool Bool.true)),(1,.const (.bool Bool.true)),(2,.const (.bool Bool.true)),(4,.const (.bool Bool.true)),(5,.const (I6 18))]) eL jT J J) (aq (k:=2) eL J J J J J J (aa (ar (aG () O J (bR (bh eL J J J (bi (k:=2) J))) (by unfold yg;rw [ac q1,ac q2,ao q3];rfl) [] [] J J J)))))
   ·(try simp only [aY]at h17);have q3:¬((16≤op∧op≤27)∨(32≤op∧op≤37)):=by omega
    refine ak (ab J (ap J J bc (am J (aa (ah J (fun h18=> ?_) (fun h18=> ?_))))))
    ·(try simp only [aY]at h18);have q4:op=40:=by omega
     refine ak (aH (aT (parts:= [(0,.const (.bool Bool.true)),(1,.const (.bool Bool.true)),(4,.const (.bool Bool.true)),(5,.const (I6 22))]) eL jT J J) (aq (k:=2) eL J J J J J J (aa (ar (aG () O J (bR (bh eL J J J (bi (k:=2) J))) (by unfold yg;rw [ac q1,ac q2,ac q3,ao q4];rfl) [] [] J J J)))))
    ·(try simp only [aY]at h18);have q4:¬(op=40):=by omega
     refine ak (ab J (ap J J bc (am J (aa (ah J (fun h19=> ?_) (fun h19=> ?_))))))
     ·(try simp only [aY]at h19);have q5:op=41:=by omega
      refine ak (aH (aT (parts:= [(0,.const (.bool Bool.true)),(1,.const (.bool Bool.true)),(5,.const (I6 22))]) eL jT J J) (aq (k:=2) eL J J J J J J (aa (ar (aG () O J (bR (bh eL J J J (bi (k:=2) J))) (by unfold yg;rw [ac q1,ac q2,ac q3,ac q4,ao q5];rfl) [] [] J J J)))))
     ·(try simp only [aY]at h19);have q5:¬(op=41):=by omega
      refine ak (ab J (ap J J bc (am J (aa (ah J (fun h20=> ?_) (fun h20=> ?_))))))
      ·(try simp only [aY]at h20);have q6:op=48:=by omega
       refine ak (aH (aT (parts:= [(0,.const (.bool Bool.true)),(5,.const (I6 18))]) eL jT J J) (aq (k:=2) eL J J J J J J (aa (ar (aG () O J (bR (bh eL J J J (bi (k:=2) J))) (by unfold yg;rw [ac q1,ac q2,ac q3,ac q4,ac q5,ao q6];rfl) [] [] J J J)))))
      ·(try simp only [aY]at h20);have q6:¬(op=48):=by omega
       refine ak (ab J (ap J J bc (ab J (aF [] J J O (fun hg21=>aX J) J (aF [(55,_)] J J ⟨J,O⟩ (fun hg22=>aU J J bc) J (aH (bw J J J) (ab J (aF [] J J O (fun hg23=>aX J) J (aF [(59,_)] J J ⟨J,O⟩ (fun hg24=>aU J J bc) J (aH (bw J J J) (am J (aa (ah J (fun h25=> ?_) (fun h25=> ?_))))))))))))))
       ·(try simp only [aY]at h25);have q7:op=49∨op=50∨op=51:=by omega
        refine ak (aH (aT (parts:= [(0,.const (.bool Bool.true))]) eL jT J J) (aq (k:=2) eL J J J J J J (aa (ar (aG () O J (bR (bh eL J J J (bi (k:=2) J))) (by unfold yg;rw [ac q1,ac q2,ac q3,ac q4,ac q5,ac q6,ao q7];rfl) [] [] J J J)))))
       ·(try simp only [aY]at h25);have q7:¬(op=49∨op=50∨op=51):=by omega
        refine ak (ab J (ap J J bc (am J (aa (ah J (fun h26=> ?_) (fun h26=> ?_))))))
        ·(try simp only [aY]at h26);have q8:op=52:=by omega
         refine ak (aH (aT (parts:= [(0,.const (.bool Bool.true)),(2,.const (.bool Bool.true))]) eL jT J J) (aq (k:=2) eL J J J J J J (aa (ar (aG () O J (bR (bh eL J J J (bi (k:=2) J))) (by unfold yg;rw [ac q1,ac q2,ac q3,ac q4,ac q5,ac q6,ac q7,ao q8];rfl) [] [] J J J)))))
        ·(try simp only [aY]at h26);have q8:¬(op=52):=by omega
         refine ak (ab J (ap J J bc (am J (aa (ah J (fun h27=> ?_) (fun h27=> ?_))))))
         ·(try simp only [aY]at h27);have q9:op=53:=by omega
          refine ak (aH (aT (parts:= [(0,.const (.bool Bool.true)),(1,.const (.bool Bool.true)),(5,.const (I6 18)),(6,.const (I3 3))]) eL jT J J) (aq (k:=2) eL J J J J J J (aa (ar (aG () O J (bR (bh eL J J J (bi (k:=2) J))) (by unfold yg;rw [ac q1,ac q2,ac q3,ac q4,ac q5,ac q6,ac q7,ac q8,ao q9];rfl) [] [] J J J)))))
         ·(try simp only [aY]at h27);have q9:¬(op=53):=by omega
          refine ak (ab J (ap J J bc (am J (aa (ah J (fun h28=> ?_) (fun h28=> ?_))))))
          ·(try simp only [aY]at h28);have q10:op=54:=by omega
           refine ak (aH (aT (parts:= [(0,.const (.bool Bool.true)),(2,.const (.bool Bool.true)),(5,.const (I6 18)),(6,.const (I3 4))]) eL jT J J) (aq (k:=2) eL J J J J J J (aa (ar (aG () O J (bR (bh eL J J J (bi (k:=2) J))) (by unfold yg;rw [ac q1,ac q2,ac q3,ac q4,ac q5,ac q6,ac q7,ac q8,ac q9,ao q10];rfl) [] [] J J J)))))
          ·(try simp only [aY]at h28);have q10:¬(op=54):=by omega
           refine az (ak (aH (aT (parts:= []) eL jT J J) (aq (k:=2) eL J J J J J J (aa (ar (aG () O J (bR (bh eL J J J (bi (k:=2) J))) (by unfold yg;rw [ac q1,ac q2,ac q3,ac q4,ac q5,ac q6,ac q7,ac q8,ac q9,ac q10];rfl) [] [] J J J))))))
theorem oP(n:Int)(u:Bool):
  aO prog 212 [I6 n,.bool u] [] [] (.bool (fg n u)) []:=by
 refine au func212 J ntmps212 J fun w0 M H=>ak (am J (av J (ab J (ap J J bc (ab J (aF [] J J O (fun hg1=>aX J) J (aF [(8,_)] J J ⟨J,O⟩ (fun hg2=>aX J) J (c_ [] [(8,_),(9,_)] J J O ⟨J,J,O⟩ (fun hg3 hg3'=>aX J) J (c_ [(10,_)] [(8,_),(9,_)] J J ⟨J,O⟩ ⟨J,J,O⟩ (fun hg4 hg4'=>aU J J fU) J (aF [(8,_),(9,_)] J J ⟨J,J,O⟩ (fun hg5=>cq J J J (by first|exact dR|exact eE|exact dj hg5|exact dQ hg5|rfl)) J (aF [(8,_),(9,_),(12,_)] J J ⟨J,J,J,O⟩ (fun hg6=>aX J) J (c_ [] [(8,_),(9,_),(12,_),(13,_)] J J O ⟨J,J,J,J,O⟩ (fun hg7 hg7'=>aX J) J (c_ [(14,_)] [(8,_),(9,_),(12,_),(13,_)] J J ⟨J,O⟩ ⟨J,J,J,J,O⟩ (fun hg8 hg8'=>aU J J cL) J (aF [(8,_),(9,_),(12,_),(13,_)] J J ⟨J,J,J,J,O⟩ (fun hg9=>cq J J J (by first|exact dR|exact eE|exact dj hg9|exact dQ hg9|rfl)) J (aH (bw J J J) ?_)))))))))))))))
 refine am J (aa (ar (aG () O J (bR (aD J)) J [] [] J J J)))
theorem GK{n:Int}{z:Int}(hn:0≤n∧n<4294967296)(hz:z=18∨z=22):vw z n=if n%2^z.toNat≥2^(z-1).toNat then IntKind.u32.wrap (n%2^z.toNat-2^z.toNat)else n%2^z.toNat:=by
 have e32:∀x:Int,IntKind.u32.wrap x=x%4294967296:=fun x=>IntKind.wrap_u32 x
 unfold vw wU;rcases hz with rfl|rfl
 ·rw [show((32:Int)-18).toNat=14 from J,show(18:Int).toNat=18 from J,show((18:Int)-1).toNat=17 from J,show(2:Int)^14=16384 from J,show(2:Int)^18=262144 from J,show(2:Int)^17=131072 from J];simp only [e32,IntKind.wrap_i32];split<;>omega
 ·rw [show((32:Int)-22).toNat=10 from J,show(22:Int).toNat=22 from J,show((22:Int)-1).toNat=21 from J,show(2:Int)^10=1024 from J,show(2:Int)^22=4194304 from J,show(2:Int)^21=2097152 from J];simp only [e32,IntKind.wrap_i32];split<;>omega
theorem LL{z:Int}(hz:z=18∨z=22):IntKind.u32.wrap (1*2^z.toNat)=2^z.toNat∧IntKind.u32.wrap (1*2^(z-1).toNat)=2^(z-1).toNat∧¬(2:Int)^z.toNat=0:=by
 rcases hz with rfl|rfl<;>exact⟨J,J,by decide⟩
theorem oM(n z:Int)(hn:0≤n∧n<4294967296)(hz:z=18∨z=22):
  aO prog 198 [I3 n,I6 z] [] [] (I3 (vw z n)) []:=by
 refine au func198 J ntmps198 J fun w0 M H=> ?_
 rw [GK hn hz];refine ak (am J (aa (aS (ab J (ap J J cL (aa (ah J (fun h1=> ?_) (fun h1=> ?_))))))))
 ·exact absurd h1 (by simp;omega)
 ·(try simp only [aY]at h1);refine az (aS (ab J (ap J J eY (aa (ah J (fun h2=> ?_) (fun h2=> ?_))))))
  ·exact absurd h2 (by simp;omega)
  ·(try simp only [aY]at h2);refine az (ak (ab J (ab J (ap J J (gT (by omega) (by simp [IntKind.bits];omega) (LL hz).1) (ap J J (iA (LL hz).2.2 (Int.tmod_eq_emod_of_nonneg hn.1)) (am J (aa (aS (ab J (ab J (ap J J (la (bC (by omega))) (ap J J (gT (by omega) (by simp [IntKind.bits];omega) (LL hz).2.1) (ap J J eY (aa (ah J (fun h3=> ?_) (fun h3=> ?_))))))))))))))))
   ·rw [ao (de h3)];refine ak (ab J (ab J (ap J J (gT (by omega) (by simp [IntKind.bits];omega) (LL hz).1) (ap J J (la J) (am J (aa (ar (aG () O J (bR (aD J)) J [] [] J J J))))))))
   ·rw [ac (eW h3)];refine az (ak (ab J (am J (aa (ar (aG () O J (bR (aD J)) J [] [] J J J))))))
theorem wj(n z:Int)(hn:0≤n∧n<4294967296)(hz:z=18∨z=22):
  aO prog 213 [I3 n,I6 z] [] [] (.bool (decide (vw z n=n))) []:=by
 refine au func213 J ntmps213 J fun w0 M H=>ak (am J (av J (ab J (ab J (ae (xs:= [.tmp 5,.tmp 6]) (oM n z hn hz) F3 [] [] [] (fun _ _=>ab J (ap J J bc (am J (aa (ar (aG () O J (bR (aD J)) J [] [] J J J)))))))))))
theorem DV:∀s∈shL,(s.kd=0↔s.bt=0)∧(s.kd=0∨s.kd=1∨s.kd=2)∧0≤s.mo∧s.mo<262144:=by decide
theorem n8(op:Int):((cE op).kd=0↔(cE op).bt=0)∧((cE op).kd=0∨(cE op).kd=1∨(cE op).kd=2)∧0≤(cE op).mo∧(cE op).mo<262144:=by
 unfold cE;split
 ·rename_i h;have hl:shL.length=64:=by decide
  rw [List.getD_eq_getElem?_getD,bV (by omega)];exact DV _ (List.getElem_mem _)
 ·decide
structure VQ(i:Qi):Prop where
 op:0≤i.op∧i.op<64
 d:0≤i.d∧i.d<16
 a:0≤i.a∧i.a<16
 b:0≤i.b∧i.b<16
 k:(cE i.op).k=true
 fd:fg i.d (cE i.op).d=true
 fa:fg i.a (cE i.op).a=true
 fb:fg i.b (cE i.op).b=true
 im:jf (cE i.op) i.imm=true
theorem VQ.of{i:Qi}(h:nD i=true):VQ i:=by
 obtain⟨b1,b2,b3,b4⟩:=r_ h;unfold nD at h;simp only [Bool.and_eq_true]at h;obtain⟨⟨⟨⟨h1,h2⟩,h3⟩,h4⟩,h5⟩:=h;exact⟨b1,b2,b3,b4,h1,h2,h3,h4,h5⟩
theorem np{a b:Int}(ha:0≤a∧a<4294967296)(hb:0<b):IntKind.u32.wrap (a.tdiv b)=a/b:=by
 rw [Int.tdiv_eq_ediv_of_nonneg ha.1];exact jq (Int.ediv_nonneg ha.1 (by omega)) (Int.lt_of_le_of_lt (Int.ediv_le_self _ ha.1) ha.2)
theorem FW{s:Sh}{n:Int}(h:jf s n=true)(hk:s.kd=0):n=0:=by
 unfold jf at h;rw [ao hk]at h;exact de h
theorem FV{s:Sh}{n:Int}(h:jf s n=true)(hk:s.kd=1):vw s.bt n=n:=by
 unfold jf at h;rw [ac (by omega),ao hk]at h;exact de h
theorem FU{s:Sh}{n:Int}(h:jf s n=true)(hk:s.kd=2)(hm:s.mo>0):n≤s.mo:=by
 unfold jf at h;rw [ac (by omega),ac (by omega),ao hm]at h;exact de h
theorem qFS{s:Sh}{n:Int}(h:jf s n=true)(hk:s.kd=2)(hm:¬s.mo>0):n/2^s.bt.toNat=0:=by
 unfold jf at h;rw [ac (by omega),ac (by omega),ac hm]at h;exact de h
theorem GV{z:Int}(hz:z=18∨z=22):IntKind.u32.wrap (1*2^z.toNat)=2^z.toNat∧0<(2:Int)^z.toNat∧(2:Int)^z.toNat≤4194304:=by
 rcases hz with rfl|rfl<;>exact⟨J,by decide,by decide⟩
theorem rA{n m:Int}(hn:0≤n)(hm:0<m)(h:n/m=0):n<m:=by
 have:=Int.emod_lt_of_pos n hm;have h2:=Int.ediv_mul_add_emod n m;rw [h]at h2;omega
theorem tS(i:Qi)(hi:0≤i.imm∧i.imm<4294967296)(hv:VQ i):
  aO prog 209 [.agg (gI i).toArray] [] [] (.bool true) []:=by
 refine au func209 J ntmps209 J fun w0 M H=> ?_
 have hof:=ww hv.op;have k1:=ij i.op;have k2:=n8 i.op;refine ak (cz J J fun b1=>am J (av J (ax bW J (aL 1 t3 J J J J (ae (xs:= [.tmp 8]) (sL i.op) CX [] [] [] (fun _ _=> ?_))))));rw [hof];refine aV eL J J fun b3=>aq (k:=3) eL J J J J J J (aa (aS (ax EV J (aL 3 t4 J J J J (aH (cZ J) (aa (ah J (fun h1=> ?_) (fun h1=> ?_))))))))
 ·exact absurd h1 (by show ¬(!(cE i.op).k)=true;rw [hv.k];decide)
 ·refine az (ak (ax fH J (aL 1 t3 J J J J (ax yH J (aL 3 t4 J J J J (ae (xs:= [.tmp 14,.tmp 16]) (oP i.d (w6 i.op).d) CW [] [] [] (fun _ _=>am J (av J (ax kB J (aL 1 t3 J J J J (ax yG J (aL 3 t4 J J J J (ae (xs:= [.tmp 19,.tmp 21]) (oP i.a (w6 i.op).a) CW [] [] [] (fun _ _=>am J (aa (aW ?_))))))))))))))));refine aj (ax kA J (aL 1 t3 J J J J (ax yF J (aL 3 t4 J J J J (ae (xs:= [.tmp 24,.tmp 26]) (oP i.b (w6 i.op).b) CW [] [] [] (fun _ _=>am J (aa (aS (ab J (aH (cZ J) (ab J (aF [] J J O (fun hg2=>aX J) J (aF [(31,_)] J J ⟨J,O⟩ (fun hg3=>cZ J) J (aH (bw J J J) (ab J (aF [] J J O (fun hg4=>aX J) J (aF [(35,_)] J J ⟨J,O⟩ (fun hg5=>cZ J) J ?_)))))))))))))))));refine aH (bw J J J) (aa (ah J (fun h6=> ?_) (fun h6=> ?_)))
  ·exact absurd h6 (by show ¬((!fg i.d (cE i.op).d) || (!fg i.a (cE i.op).a) || (!fg i.b (cE i.op).b))=true;rw [hv.fd,hv.fa,hv.fb];decide)
  ·refine az (aS (ax kv J (aL 3 t3 J J J J (ap J J bc (aa (ah J (fun h7=> ?_) (fun h7=> ?_)))))))
   ·(try simp only [aY]at h7);have q3:(cE i.op).bt=0:=h7;refine ak (ax dm J (aL 1 dt J J J J (ap J J bc (am J (aa (ar (aG () O J (bR (aD J)) (congrArg Value.bool (by rw [FW hv.im (k2.1.2 q3)];rfl)) [] [] J J J)))))))
   ·(try simp only [aY]at h7);have q3:¬(cE i.op).bt=0:=h7;have hb:(cE i.op).bt=18∨(cE i.op).bt=22:=by have:=k1.2.2.2.1;omega
    refine az (aS (ax yE J (aL 3 t4 J J J J (aa (ah J (fun h8=> ?_) (fun h8=> ?_))))))
    ·have q4:(cE i.op).kd=1:=de h8;refine ak (ax dm J (aL 1 dt J J J J (ax kv J (aL 3 t3 J J J J (ae (xs:= [.tmp 47,.tmp 49]) (wj i.imm (cE i.op).bt hi (by have:=k1.2.2.2.1;omega)) KD [] [] [] (fun _ _=>am J (aa (ar (aG () O J (bR (aD J)) (congrArg Value.bool (decide_eq_true (FV hv.im q4))) [] [] J J J)))))))))
    ·have q4:¬(cE i.op).kd=1:=eW h8;have q5:(cE i.op).kd=2:=by have:=k2.2.1;have:=k2.1;omega
     refine az (aS (ax yD J (aL 3 dt J J J J (ap J J fU (aa (ah J (fun h9=> ?_) (fun h9=> ?_)))))))
     ·(try simp only [aY]at h9);have q6:(cE i.op).mo>0:=h9;refine ak (ax dm J (aL 1 dt J J J J (ax yD J (aL 3 dt J J J J (ap J J jz (am J (aa (ar (aG () O J (bR (aD J)) (congrArg Value.bool (decide_eq_true (FU hv.im q5 q6))) [] [] J J J)))))))))
     ·(try simp only [aY]at h9);have q6:¬(w6 i.op).mo>0:=by omega
      refine az (ak (ax dm J (aL 1 dt J J J J (ax kv J (aL 3 t3 J J J J (aH (bX underlying3 underlying138 J (c:=(cE i.op).bt) (by rcases hb with hb|hb<;>rw [show(w6 i.op).bt=(cE i.op).bt from J,hb]<;>rfl)) (ap J J (gT (by omega) (by simp [IntKind.bits];omega) (GV hb).1) (ap J J cL (am J (aa (ar (aG () O J (bR (aD J)) (congrArg Value.bool (decide_eq_true (rA hi.1 (GV hb).2.1 (qFS hv.im q5 q6)))) [] [] J J J))))))))))))
theorem Ia{i:Qi}(hv:VQ i)(hb:(cE i.op).bt=18∨(cE i.op).bt=22):IntKind.u32.wrap (i.op*67108864+i.d*4194304+i.a*262144+i.b*16384+i.imm%2^(cE i.op).bt.toNat)=k_ i:=by
 have b1:=hv.op;have b2:=hv.d;have b3:=hv.a;have b4:=hv.b;have k:=ij i.op;unfold k_;rcases hb with h|h
 ·have hb0:i.b=0:=eH (by rw [←k.2.2.2.2.1 h];exact hv.fb);rw [h,show((2:Int)^(18:Int).toNat)=262144 from J];exact bx (by omega)
 ·have hb0:i.b=0:=eH (by rw [←(k.2.2.2.2.2 h).2];exact hv.fb);have ha0:i.a=0:=eH (by rw [←(k.2.2.2.2.2 h).1];exact hv.fa);rw [h,show((2:Int)^(22:Int).toNat)=4194304 from J];exact bx (by omega)
theorem sq(i:Qi)(hi:0≤i.imm∧i.imm<4294967296)(hv:VQ i):
  aO prog 199 [.agg (gI i).toArray] [] [] (.tuple #[I3 (k_ i),I6 0]) []:=by
 refine au func199 J ntmps199 J fun w0 M H=> ?_
 have hof:=ww hv.op;have k1:=ij i.op;have k2:=n8 i.op;obtain⟨o1,o2⟩:=hv.op;obtain⟨d1,d2⟩:=hv.d;obtain⟨a1,a2⟩:=hv.a;obtain⟨e1,e2⟩:=hv.b;have hfb:=hv.fb;have hfa:=hv.fa;refine ak (cz J J fun b1=>am J (am J (av J (aH (aM el J J J (bi (k:=1) J)) (ae (xs:= [.tmp 7]) (tS i hi hv) KF [] [] [] (fun _ _=>am J (aa (aS (ab J (aH (cZ J) (aa (ah J (fun h1=> ?_) (fun h1=> ?_)))))))))))))
 ·cases h1
 ·(try simp only [aY]at h1);refine az (ak (ax bW J (aL 1 t3 J J J J (aH (bX underlying3 underlying41 J (by first|exact bx (by omega)|rfl)) (ap J J mC (ax fH J (aL 1 t3 J J J J (aH (bX underlying3 underlying41 J (by first|exact bx (by omega)|rfl)) (ap J J mC (ap J J qm (ax kB J (aL 1 t3 J J J J (aH (bX underlying3 underlying41 J (by first|exact bx (by omega)|rfl)) (ap J J mC (ap J J qm (ax kA J (aL 1 t3 J J J J (aH (bX underlying3 underlying41 J (by first|exact bx (by omega)|rfl)) ?_))))))))))))))))));refine ap J J mC (ap J J qm (am J (av J (ax bW J (aL 1 t3 J J J J (ae (xs:= [.tmp 31]) (sL i.op) CX [] [] [] (fun _ _=> ?_)))))));rw [hof];refine aH (jV EP t3 J J) (am J (aa (aS (ab J (ap J J bc (aa (ah J (fun h2=> ?_) (fun h2=> ?_))))))))
  ·(try simp only [aY]at h2);have q3:(cE i.op).bt=0:=h2;refine ak (ab J (am J (am J (aa (ar (aG () O J (D4 (aD J) (aD J)) (congrArg (fun z=>Value.tuple #[Value.int .u32 z,Value.int .i64 0]) (by unfold k_;rw [q3,show((2:Int)^(0:Int).toNat)=1 from J];omega)) [] [] J J J))))))
  ·(try simp only [aY]at h2);have q3:¬(cE i.op).bt=0:=h2;have hb:(cE i.op).bt=18∨(cE i.op).bt=22:=by have:=k1.2.2.2.1;omega
   have hp:=GV hb;have hrm:=Int.emod_lt_of_pos i.imm hp.2.1;have hrn:=Int.emod_nonneg i.imm (show(2:Int)^(cE i.op).bt.toNat≠0 by omega);refine az (ak (ab J (ax dm J (aL 1 dt J J J J (ab J (aH (bX underlying3 underlying138 J (c:=(cE i.op).bt) (by rcases hb with hb|hb<;>rw [show(w6 i.op).bt=(cE i.op).bt from J,hb]<;>rfl)) (ap J J (gT (by omega) (by simp [IntKind.bits];omega) hp.1) (ap J J (iA (by omega) (Int.tmod_eq_emod_of_nonneg hi.1)) (ap J J (bZ (c:=k_ i) (Ia hv hb)) (am J (am J (aa (ar (aG () O J (D4 (aD J) (aD J)) J [] [] J J J))))))))))))))
theorem Ki{i:Qi}(hv:VQ i):k_ i/67108864=i.op∧k_ i/4194304%16=i.d∧((cE i.op).a=true→k_ i/262144%16=i.a)∧((cE i.op).b=true→k_ i/16384%16=i.b)∧((cE i.op).bt=18∨(cE i.op).bt=22→k_ i%2^(cE i.op).bt.toNat=i.imm%2^(cE i.op).bt.toNat):=by
 have b1:=hv.op;have b2:=hv.d;have b3:=hv.a;have b4:=hv.b;have k:=ij i.op;unfold k_;rcases k.2.2.2.1 with h|h|h
 ·rw [h,show((2:Int)^(0:Int).toNat)=1 from J];refine⟨by omega,by omega,fun _=>by omega,fun _=>by omega,fun h=>by omega⟩
 ·have hb0:i.b=0:=eH (by rw [←k.2.2.2.2.1 h];exact hv.fb);rw [h,show((2:Int)^(18:Int).toNat)=262144 from J];refine⟨by omega,by omega,fun _=>by omega,fun hb=> ?_,fun h=>by omega⟩;rw [k.2.2.2.2.1 h]at hb;cases hb
 ·have hb0:i.b=0:=eH (by rw [←(k.2.2.2.2.2 h).2];exact hv.fb);have ha0:i.a=0:=eH (by rw [←(k.2.2.2.2.2 h).1];exact hv.fa);rw [h,show((2:Int)^(22:Int).toNat)=4194304 from J];refine⟨by omega,by omega,fun ha=> ?_,fun hb=> ?_,fun h=>by omega⟩
  ·rw [(k.2.2.2.2.2 h).1]at ha;cases ha
  ·rw [(k.2.2.2.2.2 h).2]at hb;cases hb
theorem DW{n z:Int}(hn:0≤n∧n<4294967296)(hz:z=18∨z=22):vw z (n%2^z.toNat)=vw z n:=by
 have hp:=GV hz;have h1:=Int.emod_nonneg n (show(2:Int)^z.toNat≠0 by omega);have h2:=Int.emod_lt_of_pos n hp.2.1;rw [GK hn hz,GK ⟨h1,by omega⟩ hz,Int.emod_emod_of_dvd _ (Int.dvd_refl _)]
theorem Hx{i:Qi}(hi:0≤i.imm∧i.imm<4294967296)(hv:VQ i)(hk:(cE i.op).kd=2)(hb:(cE i.op).bt=18∨(cE i.op).bt=22):i.imm<2^(cE i.op).bt.toNat:=by
 have hp:=GV hb;by_cases hm:(cE i.op).mo>0
 ·have h1:=FU hv.im hk hm;have h2:=n8 i.op;have h3:(262144:Int)≤2^(cE i.op).bt.toNat:=by rcases hb with h|h<;>rw [h]<;>decide
  omega
 ·exact rA hi.1 hp.2.1 (qFS hv.im hk hm)
theorem sr(i:Qi)(hi:0≤i.imm∧i.imm<4294967296)(hv:VQ i):
  aO prog 180 [I3 (k_ i)] [] [] (.tuple #[.agg (gI i).toArray,I6 0]) []:=by
 refine au func180 J ntmps180 J fun w0 M H=> ?_
 have hof:=ww hv.op;have k1:=ij i.op;have k2:=n8 i.op;have hwb:=xg (i:=i) (by unfold nD;simp only [Bool.and_eq_true];exact⟨⟨⟨⟨hv.k,hv.fd⟩,hv.fa⟩,hv.fb⟩,hv.im⟩);obtain⟨f0,f1,f2,f3,f4⟩:=Ki hv;refine ak (aV el J J fun b2=>am J (av J (ab J (ap J J (j_ (by decide) (np hwb (by decide))) (aH (bX underlying41 underlying3 J (c:=i.op) (by rw [f0];exact qW (by have:=hv.op;omega) (by have:=hv.op;omega))) (aH (aT (parts:= [(0,.tmp 10)]) el kV J J) (aV el J J fun b4=>aq (k:=4) el J J J J J J (av J (ax bW J (aL 4 t3 J J J J (ae (xs:= [.tmp 13]) (sL i.op) CX [] [] [] (fun _ _=> ?_))))))))))));rw [hof];refine aV eL J J fun b5=>aq (k:=5) eL J J J J J J (aa (bq (X:=Unit) (fun _=>True) (fun _=> [(0,I3 (k_ i)),(2,Pt b2),(3,I6 0),(4,Pt b4),(5,Pt b5)]) (fun _=> [(2,aP b2 118 (gI ⟨0,0,0,0,0⟩)),(4,aP b4 118 (gI ⟨i.op,i.d,0,0,0⟩)),(5,aP b5 275 (IW (w6 i.op)))]) (fun _=> []) ?_ (fun _ _=> ?_)))
 ·refine ak (ax yH J (aL 5 t4 J J J J (aa (ah J (fun h1=> ?_) (fun h1=> ?_)))))
  ·have q1:(cE i.op).d=true:=h1;refine aj (ab J (ap J J (j_ (by decide) (np hwb (by decide))) (ap J J (iA (by decide) (Int.tmod_eq_emod_of_nonneg (Int.ediv_nonneg hwb.1 (by decide)))) (aH (bX underlying41 underlying3 J (c:=i.d) (by rw [f1];exact qW (by have:=hv.d;omega) (by have:=hv.d;omega))) (ax fH J (aw (k:=4) t3 J J J J J J J J (aa (aI () O J (by rfl) J))))))))
  ·have q1:(cE i.op).d=false:=by
    have:=h1;exact this
   have hd0:(0:Int)=i.d:=(eH (by rw [←q1];exact hv.fd)).symm;refine az (aI () O J (by rw [hd0];rfl) J)
 ·refine bq (X:=Unit) (fun _=>True) (fun _=> [(0,I3 (k_ i)),(2,Pt b2),(3,I6 0),(4,Pt b4),(5,Pt b5)]) (fun _=> [(2,aP b2 118 (gI ⟨0,0,0,0,0⟩)),(4,aP b4 118 (gI ⟨i.op,i.d,i.a,0,0⟩)),(5,aP b5 275 (IW (w6 i.op)))]) (fun _=> []) ?_ (fun _ _=> ?_)
  ·refine ak (ax yG J (aL 5 t4 J J J J (aa (ah J (fun h2=> ?_) (fun h2=> ?_)))))
   ·have q2:(cE i.op).a=true:=h2;refine aj (ab J (ap J J (j_ (by decide) (np hwb (by decide))) (ap J J (iA (by decide) (Int.tmod_eq_emod_of_nonneg (Int.ediv_nonneg hwb.1 (by decide)))) (aH (bX underlying41 underlying3 J (c:=i.a) (by rw [f2 q2];exact qW (by have:=hv.a;omega) (by have:=hv.a;omega))) (ax kB J (aw (k:=4) t3 J J J J J J J J (aa (aI () O J (by rfl) J))))))))
   ·have q2:(cE i.op).a=false:=by
     have:=h2;exact this
    have ha0:(0:Int)=i.a:=(eH (by rw [←q2];exact hv.fa)).symm;refine az (aI () O J (by rw [ha0];rfl) J)
  ·refine bq (X:=Unit) (fun _=>True) (fun _=> [(0,I3 (k_ i)),(2,Pt b2),(3,I6 0),(4,Pt b4),(5,Pt b5)]) (fun _=> [(2,aP b2 118 (gI ⟨0,0,0,0,0⟩)),(4,aP b4 118 (gI ⟨i.op,i.d,i.a,i.b,0⟩)),(5,aP b5 275 (IW (w6 i.op)))]) (fun _=> []) ?_ (fun _ _=> ?_)
   ·refine ak (ax yF J (aL 5 t4 J J J J (aa (ah J (fun h3=> ?_) (fun h3=> ?_)))))
    ·have q3:(cE i.op).b=true:=h3;refine aj (ab J (ap J J (j_ (by decide) (np hwb (by decide))) (ap J J (iA (by decide) (Int.tmod_eq_emod_of_nonneg (Int.ediv_nonneg hwb.1 (by decide)))) (aH (bX underlying41 underlying3 J (c:=i.b) (by rw [f3 q3];exact qW (by have:=hv.b;omega) (by have:=hv.b;omega))) (ax kA J (aw (k:=4) t3 J J J J J J J J (aa (aI () O J (by rfl) J))))))))
    ·have q3:(cE i.op).b=false:=by
      have:=h3;exact this
     have hb0:(0:Int)=i.b:=(eH (by rw [←q3];exact hv.fb)).symm;refine az (aI () O J (by rw [hb0];rfl) J)
   ·refine bq (X:=Unit) (fun _=>True) (fun _=> [(0,I3 (k_ i)),(2,Pt b2),(3,I6 0),(4,Pt b4),(5,Pt b5)]) (fun _=> [(2,aP b2 118 (gI ⟨0,0,0,0,0⟩)),(4,aP b4 118 (gI ⟨i.op,i.d,i.a,i.b,i.imm%2^(cE i.op).bt.toNat⟩)),(5,aP b5 275 (IW (w6 i.op)))]) (fun _=> []) ?_ (fun _ _=> ?_)
    ·refine ak (ax kv J (aL 5 t3 J J J J (ap J J fU (aa (ah J (fun h4=> ?_) (fun h4=> ?_))))))
     ·(try simp only [aY]at h4);have q4:(cE i.op).bt>0:=h4;have hb:(cE i.op).bt=18∨(cE i.op).bt=22:=by have:=k1.2.2.2.1;omega
      have hp:=GV hb;refine aj (ab J (ax kv J (aL 5 t3 J J J J (aH (bX underlying3 underlying138 J (c:=(cE i.op).bt) (by rcases hb with hb|hb<;>rw [show(w6 i.op).bt=(cE i.op).bt from J,hb]<;>rfl)) (ap J J (gT (by omega) (by simp [IntKind.bits];omega) hp.1) (ap J J (iA (by omega) ((Int.tmod_eq_emod_of_nonneg hwb.1).trans (f4 hb))) (ax dm J (aw (k:=4) dt J J J J J J J J (aa (aI () O J (by rfl) J))))))))))
     ·(try simp only [aY]at h4);have h4:¬(w6 i.op).bt>0:=by omega
      have h4:¬(cE i.op).bt>0:=h4;have q4:(cE i.op).bt=0:=by have:=k1.2.1;omega
      have hm0:(0:Int)=i.imm%2^(cE i.op).bt.toNat:=by
       rw [q4,show((2:Int)^(0:Int).toNat)=1 from J];omega
      refine az (aI () O J (by rw [hm0];rfl) J)
    ·refine bq (X:=Unit) (fun _=>True) (fun _=> [(0,I3 (k_ i)),(2,Pt b2),(3,I6 0),(4,Pt b4),(5,Pt b5)]) (fun _=> [(2,aP b2 118 (gI ⟨0,0,0,0,0⟩)),(4,aP b4 118 (gI i)),(5,aP b5 275 (IW (w6 i.op)))]) (fun _=> []) ?_ (fun _ _=> ?_)
     ·refine ak (ax yE J (aL 5 t4 J J J J (aa (ah J (fun h5=> ?_) (fun h5=> ?_)))))
      ·have q5:(cE i.op).kd=1:=de h5;have hb:=k1.1 q5;have hp:=GV hb;have h1:=Int.emod_nonneg i.imm (show(2:Int)^(cE i.op).bt.toNat≠0 by omega);have h2:=Int.emod_lt_of_pos i.imm hp.2.1;refine aj (ax dm J (aL 4 dt J J J J (ax kv J (aL 5 t3 J J J J ?_))));refine fj (xs:= [.tmp 49,.tmp 51]) (oM (i.imm%2^(cE i.op).bt.toNat) (cE i.op).bt ⟨h1,by omega⟩ hb) F3 [] [] [] J J J J J J J J (fun _ _=>J) (fun _ _ _=>J) J (fun _ _=> ?_);rw [DW hi hb,FV hv.im q5];refine ax dm J (aw (k:=4) dt J J J J J J J J (aa (aI () O J (by rfl) J)))
      ·have q5:¬(cE i.op).kd=1:=eW h5;have hm1:(⟨i.op,i.d,i.a,i.b,i.imm%2^(cE i.op).bt.toNat⟩:Qi)=i:=by
        have:i.imm%2^(cE i.op).bt.toNat=i.imm:=by
         by_cases h0:(cE i.op).kd=0
         ·rw [FW hv.im h0];simp
         ·have h2:(cE i.op).kd=2:=by have:=k2.2.1;omega
          exact Int.emod_eq_of_lt hi.1 (Hx hi hv h2 (by have:=k1.2.2.2.1;have:=k2.1;omega))
        rw [this]
       refine az (aI () O J (by rw [hm1];rfl) J)
     ·refine ak (aH (aM el J J J (bi (k:=4) J)) (ae (xs:= [.tmp 55]) (sq i hi hv) KM [] [] [] (fun _ _=>ab J (aH (cv J J) (aH (cv J J) (am J (am J (aa (aS (ab J (ap J J ga (ab J (aF [] J J O (fun hg6=>aX J) J (aF [(62,_)] J J ⟨J,O⟩ (fun hg7=>aX J) J (aF [(62,_),(63,_)] J J ⟨J,J,O⟩ (fun hg8=>aU J J ga) J (aH (bw J J J) ?_))))))))))))))));refine aa (ah J (fun h9=> ?_) (fun h9=> ?_))
      ·exfalso;simp at h9
      ·(try simp only [aY]at h9);refine az (ak (aH (aM el J J J (bi (k:=4) J)) (aq (k:=2) el J J J J J J (am J (aa (ar (aG () O J (D4 (bh el J J J (bi (k:=2) J)) (aD J)) J [] [] J J J)))))))
structure Me where
 m:Nat
 vd:SV
 vi:SV
 vo:SV
 vp:SV
 vr:SV
structure Mm where
 d:List Int
 i:List Int
 r:List Int
def mR(e:Me):List Value:= [sv e.vd,sv e.vi,sv e.vo,sv e.vp,sv e.vr,.bool false]
structure MO(s:Mm)(n:Nat):Prop where
 d:s.d.length=n*256
 i:s.i.length=n*256
 r:s.r.length=n
 n:n≤5000
 rb:∀x∈s.r,0≤x∧x<8
def vz(s:Mm)(a r:Int):Bool:=decide (a<s.d.length)&&decide (s.r.getD (a/256).toNat 0/r%2=1)
def pk:List Int→Nat→List Int→List Int
 | d,_,[]=>d
 | d,a,x::l=>pk (d.set a x) (a+1) l
theorem eD:∀(l:List Int)(d:List Int)(a:Nat),(pk d a l).length=d.length
 | [],d,a=>rfl
 | x::l,d,a=>by unfold pk;rw [eD l,List.length_set]
theorem km:∀(l:List Int)(d:List Int)(a:Nat)(x:Int),pk d a (l++ [x])=(pk d a l).set (a+l.length) x
 | [],d,a,x=>rfl
 | y::l,d,a,x=>by
  show pk (d.set a y) (a+1) (l++ [x])=(pk (d.set a y) (a+1) l).set (a+(l.length+1)) x;rw [km l,show a+1+l.length=a+(l.length+1) by omega]
theorem mS:∀(l:List Int)(d:List Int)(a k:Nat),(pk d a l)[k]?=if a≤k∧k<a+l.length∧k<d.length then l[k-a]? else d[k]?
 | [],d,a,k=>by
  rw [ac (by simp only [cj];omega)];rfl
 | x::l,d,a,k=>by
  show(pk (d.set a x) (a+1) l)[k]?=_;rw [mS l,List.length_set,b_];by_cases h:a+1≤k∧k<a+1+l.length∧k<d.length
  ·rw [ao h,ao (by omega),show k-a=(k-(a+1))+1 by omega];rfl
  ·rw [ac h,List.getElem?_set];by_cases h2:a=k
   ·subst h2;rw [ao J];by_cases h3:a<d.length
    ·rw [ao h3,ao (by omega),Nat.sub_self];rfl
    ·rw [ac h3,ac (by omega),List.getElem?_eq_none (by omega)]
   ·rw [ac h2,ac (by omega)]
def BS(d:List Int)(a:Nat):Nat→Int
 | 0=>0
 | m+1=>BS d a m*256+d.getD (a+(3-m)) 0
def yo(d:List Int)(a:Nat):Int:=BS d a 4
def byL(d:List Int):Prop:=∀x∈d,0≤x∧x<256
theorem byL.get{d:List Int}(h:byL d)(k:Nat):0≤d.getD k 0∧d.getD k 0<256:=by
 rw [List.getD_eq_getElem?_getD];cases hk:d[k]? with
 | none=>decide
 | some x=>exact h x (cO hk)
theorem wL{d:List Int}(h:byL d)(a:Nat):∀m,0≤BS d a m∧BS d a m<256^m
 | 0=>⟨Int.le_refl _,by show(0:Int)<1;decide⟩
 | m+1=>by
  have h1:=wL h a m;have h2:=h.get (a+(3-m));show 0≤BS d a m*256+_∧BS d a m*256+_<256^(m+1);rw [Int.pow_succ];omega
theorem Hu{d:List Int}(h:byL d)(a:Nat){m:Nat}(hm:m≤3):0≤BS d a m∧BS d a m<16777216:=by
 have h1:=wL h a m;have h2:(256:Int)^m≤16777216:=by
  have:m=0∨m=1∨m=2∨m=3:=by omega
  rcases this with rfl|rfl|rfl|rfl<;>decide
 omega
theorem Ca{l:List Int}{k:Nat}{x:Int}(h:l[k]?=some x):l.getD k 0=x:=by rw [List.getD_eq_getElem?_getD,h];rfl
theorem mh(e:Me)(s:Mm)(n:Nat)(hs:MO s n)(a:Int)(ha:0≤a∧a<4294967296):
  aO prog 75 [Pt e.m,I3 a] [aP e.m 157 (mR e),own 5 1 bL (sv e.vd) (s).d,own 5 1 bL (sv e.vi) (s).i,own 3 1 eI (sv e.vr) (s).r] [] (.bool (decide (a<s.d.length))) [aP e.m 157 (mR e),own 5 1 bL (sv e.vd) (s).d,own 5 1 bL (sv e.vi) (s).i,own 3 1 eI (sv e.vr) (s).r]:=by
 refine au func75 J ntmps75 J fun w0 M H=>ak (am J (av J (ab J (aH (bX underlying41 underlying3 J (by first|exact bC (by omega)|rfl)) (ab J (bp J (ax kx J (aL 0 vR J J J J (aH (aZ underlying84 J (bl (k:=1) J)) (ap J J cL (am J (aa (ar (aG () O J (bR (aD J)) J [0,1,2,3] [] J J J))))))))))))))
theorem nr(e:Me)(s:Mm)(n:Nat)(hs:MO s n)(a:Int)(ha:0≤a∧a<4294967296)(r:Int)(hr:r=1∨r=2∨r=4):
  aO prog 196 [Pt e.m,I3 a,I6 r] [aP e.m 157 (mR e),own 5 1 bL (sv e.vd) (s).d,own 5 1 bL (sv e.vi) (s).i,own 3 1 eI (sv e.vr) (s).r] [] (.bool (vz s a r)) [aP e.m 157 (mR e),own 5 1 bL (sv e.vd) (s).d,own 5 1 bL (sv e.vi) (s).i,own 3 1 eI (sv e.vr) (s).r]:=by
 refine au func196 J ntmps196 J fun w0 M H=>ak (am J (av J (ab J (ab J (ae (xs:= [.tmp 8,.tmp 9]) (mh e s n hs a ha) CU [0,1,2,3] [] [0,1,2,3] (fun _ _=>am J (av J (ab J (ab J (d7 (t:=12) J (fun h1=> ?_) (fun h1=> ?_)))))))))))
 ·(try simp only [aY]at h1);have hq:a<s.d.length:=by simpa using h1
  have hd:=hs.d;have hrl:=hs.r;obtain⟨x,hx⟩:∃x,s.r[(a/256).toNat]?=some x:=⟨_,bV (by omega)⟩
  have hxb:=hs.rb x (cO hx);have hrt:vz s a r=decide (x/r%2=1):=by
   unfold vz;rw [decide_eq_true hq,Bool.true_and,Ca hx]
  rw [hrt];refine aK J J (ab J (aK J J (bp J (aK J J (ax oi J (aK J J (aL 0 DQ J J J J (aK J J (ab J (aK J J (ap J J (j_ (by decide) (np ha (by decide))) (aK J J (aH (aR (j:=(a/256).toNat) underlying22 t3 J J (bl (k:=3) J) (by omega) (by omega)) (aK J J (aH (ag t3 J J (ci (bl (k:=3) J) (by intro _;rfl) hx (by rfl))) (aK J J (ab J (aK J J ?_))))))))))))))))));refine vA (aU J J (j_ (by omega) (show IntKind.i64.wrap (x.tdiv r)=x/r from(by rw [Int.tdiv_eq_ediv_of_nonneg hxb.1];exact qW (by have:=Int.ediv_nonneg hxb.1 (show 0≤r by omega);omega) (by have:=Int.ediv_le_self r hxb.1;omega))))) J ?_;refine aK J J (ap J J (iA (by decide) (Int.tmod_eq_emod_of_nonneg (Int.ediv_nonneg hxb.1 (by omega)))) (aK J J (ap J J bc (aH (bw J J J) (am J (aa (ar (aG () O J (bR (aD J)) J [0,1,2,3] [] J J J))))))))
 ·(try simp only [aY]at h1);have hrt:vz s a r=false:=by
   unfold vz;rw [decide_eq_false (by omega),Bool.false_and]
  rw [hrt];refine bJ J J J J (bJ J J J J (bJ J J J J (bJ J J J J (bJ J J J J (bJ J J J J (bJ J J J J (bJ J J J J (bJ J J J J (bJ J J J J (bJ J J J J (bJ J J J J (aH (bw J J J) (am J (aa (ar (aG () O J (bR (aD J)) J [0,1,2,3] [] J J J))))))))))))))))
theorem uU(e:Me)(s:Mm)(n:Nat)(hs:MO s n)(a:Int)(ha:0≤a∧a<4294967296)(c r:Int)(hc:1≤c∧c≤4)(hr:r=1∨r=2∨r=4)(hok:∀k:Int,0≤k→k<c→vz s (IntKind.u32.wrap (a+k)) r=true):
  aO prog 183 [Pt e.m,I3 a,I6 c,I6 r] [aP e.m 157 (mR e),own 5 1 bL (sv e.vd) (s).d,own 5 1 bL (sv e.vi) (s).i,own 3 1 eI (sv e.vr) (s).r] [] (.agg #[I3 0,I3 0,.bool true]) [aP e.m 157 (mR e),own 5 1 bL (sv e.vd) (s).d,own 5 1 bL (sv e.vi) (s).i,own 3 1 eI (sv e.vr) (s).r]:=by
 refine au func183 J ntmps183 J fun w0 M H=>ak (aV gx J J fun b8=>aa (aS (ab J (ap J J cL (ab J (aF [] J J O (fun hg1=>aX J) J (aF [(14,_)] J J ⟨J,O⟩ (fun hg2=>aU J J fU) J (aH (bw J J J) (aa (ah J (fun h3=> ?_) (fun h3=> ?_)))))))))))
 ·exact absurd h3 (by simp;omega)
 ·refine az (aS (am J (aa (aC (bG (X:=Nat) (fun i=>(i:Int)≤c) (fun i=> [(0,Pt e.m),(1,I3 a),(2,I6 c),(3,I6 r),(8,Pt b8),(9,I6 (i:Int))]) (fun i=> [(0,aP e.m 157 (mR e)),(1,own 5 1 bL (sv e.vd) s.d),(2,own 5 1 bL (sv e.vi) s.i),(3,own 3 1 eI (sv e.vr) s.r),(8,aP b8 241 [I3 0,I3 0,.bool false])]) (fun i=> []) (fun i=>c.toNat-i) 0 (by omega) J J J (fun i n1=>aS (ab J (ab J (ap J J cL (aa (ah J (fun h4=> ?_) (fun h4=> ?_))))))))))))
  ·(try simp only [aY]at h4);have hi:(i:Int)<c:=by omega
   refine az (aW (aC (ak (ab J (ab J (ab J (aH (bX underlying3 underlying41 J (c:=(i:Int)) (bx (by omega))) (ap J J (bZ J) (ab J (ch (xs:= [.tmp 24,.tmp 28,.tmp 29]) (nr e s n hs (IntKind.u32.wrap (a+i)) (jF _) r hr) F4 [0,1,2,3] [] [0,1,2,3] J J J (fun _ _=> ?_)))))))))));rw [hok i (by omega) (by omega)];refine am J (av J (ab J (aH (cZ J) (aa (ah J (fun h5=> ?_) (fun h5=> ?_))))))
   ·cases h5
   ·(try simp only [aY]at h5);refine az (aj (ab J (ap J J a_ (am J (aa ?_)))));refine aI (i+1) ⟨by omega,by omega⟩ J J J
  ·(try simp only [aY]at h4);have hi:(i:Int)=c:=by omega
   refine bK (ak (aH (aT (parts:= [(2,.const (.bool Bool.true))]) gx FB J J) (aq (k:=8) gx J J J J J J (aa (ar (aG () O J (bR (bh gx J J J (bi (k:=8) J))) J [0,1,2,3] [] J J J))))))
theorem An(e:Me)(s:Mm)(n:Nat)(hs:MO s n)(a:Int)(ha:0≤a∧a<4294967296):
  aO prog 43 [Pt e.m,I3 a] [aP e.m 157 (mR e),own 5 1 bL (sv e.vd) (s).d,own 5 1 bL (sv e.vi) (s).i,own 3 1 eI (sv e.vr) (s).r] [] (.int .u8 (if a<s.d.length then s.i.getD a.toNat 0 else 0)) [aP e.m 157 (mR e),own 5 1 bL (sv e.vd) (s).d,own 5 1 bL (sv e.vi) (s).i,own 3 1 eI (sv e.vr) (s).r]:=by
 refine au func43 J ntmps43 J fun w0 M H=>ak (am J (av J (ab J (ab J (ae (xs:= [.tmp 6,.tmp 7]) (mh e s n hs a ha) CU [0,1,2,3] [] [0,1,2,3] (fun _ _=>am J (aa (aS (ab J (aH (cZ J) (aa (ah J (fun h1=> ?_) (fun h1=> ?_)))))))))))))
 ·(try simp only [aY]at h1);have hq:¬a<s.d.length:=by simpa using h1
  rw [ac hq];refine ak (am J (aa (ar (aG () O J (bR (aD J)) J [0,1,2,3] [] J J J))))
 ·(try simp only [aY]at h1);have hq:a<s.d.length:=by simpa using h1
  have hd:=hs.d;have hil:=hs.i;have hrl:=hs.r;have hnn:=hs.n;obtain⟨x,hx⟩:∃x,s.i[a.toNat]?=some x:=⟨_,bV (by omega)⟩
  rw [ao hq,Ca hx];refine az (aS (ab J (bp J (ax ti J (aL 0 t4 J J J J (aa (ah J (fun h2=> ?_) (fun h2=> ?_))))))))
  ·cases h2
  ·(try simp only [aY]at h2);refine az (ak (ab J (bp J (ax oj J (aL 0 vR J J J J (ab J (aH (aR (j:=a.toNat) underlying84 t5 J J (bl (k:=2) J) (by omega) (by omega)) (aH (ag t5 J J (ci (bl (k:=2) J) (by intro _;rfl) hx (by rfl))) (am J (aa (ar (aG () O J (bR (aD J)) J [0,1,2,3] [] J J J))))))))))))
theorem wE(e:Me)(s:Mm)(n:Nat)(hs:MO s n)(a:Int)(ha:0≤a∧a<4294967296):
  aO prog 41 [Pt e.m,I3 a] [aP e.m 157 (mR e),own 5 1 bL (sv e.vd) (s).d,own 5 1 bL (sv e.vi) (s).i,own 3 1 eI (sv e.vr) (s).r] [] (.int .u8 (if a<s.d.length then s.d.getD a.toNat 0 else 0)) [aP e.m 157 (mR e),own 5 1 bL (sv e.vd) (s).d,own 5 1 bL (sv e.vi) (s).i,own 3 1 eI (sv e.vr) (s).r]:=by
 refine au func41 J ntmps41 J fun w0 M H=>ak (am J (av J (ab J (ab J (ae (xs:= [.tmp 6,.tmp 7]) (mh e s n hs a ha) CU [0,1,2,3] [] [0,1,2,3] (fun _ _=>am J (aa (aS (ab J (aH (cZ J) (aa (ah J (fun h1=> ?_) (fun h1=> ?_)))))))))))))
 ·(try simp only [aY]at h1);have hq:¬a<s.d.length:=by simpa using h1
  rw [ac hq];refine ak (am J (aa (ar (aG () O J (bR (aD J)) J [0,1,2,3] [] J J J))))
 ·(try simp only [aY]at h1);have hq:a<s.d.length:=by simpa using h1
  have hd:=hs.d;have hil:=hs.i;have hrl:=hs.r;have hnn:=hs.n;obtain⟨x,hx⟩:∃x,s.d[a.toNat]?=some x:=⟨_,bV (by omega)⟩
  rw [ao hq,Ca hx];refine az (ak (ab J (bp J (ax kx J (aL 0 vR J J J J (ab J (aH (aR (j:=a.toNat) underlying84 t5 J J (bl (k:=1) J) (by omega) (by omega)) (aH (ag t5 J J (ci (bl (k:=1) J) (by intro _;rfl) hx (by rfl))) (am J (aa (ar (aG () O J (bR (aD J)) J [0,1,2,3] [] J J J))))))))))))
theorem Ae(e:Me)(s:Mm)(n:Nat)(hs:MO s n)(a:Int)(ha:0≤a∧a<4294967296)(hok:vz s a 4=true)(x:Int)(hx:s.i[a.toNat]?=some x)(hxb:0≤x∧x<256):
  aO prog 179 [Pt e.m,I3 a] [aP e.m 157 (mR e),own 5 1 bL (sv e.vd) (s).d,own 5 1 bL (sv e.vi) (s).i,own 3 1 eI (sv e.vr) (s).r] [] (.agg #[I3 x,I3 0,.bool true]) [aP e.m 157 (mR e),own 5 1 bL (sv e.vd) (s).d,own 5 1 bL (sv e.vi) (s).i,own 3 1 eI (sv e.vr) (s).r]:=by
 refine au func179 J ntmps179 J fun w0 M H=> ?_
 have hq:a<s.d.length:=by
  unfold vz at hok;simp only [Bool.and_eq_true,decide_eq_true_eq]at hok;exact hok.1
 refine ak (aV gx J J fun b4=>av J (ab J (ab J (ae (xs:= [.tmp 6,.tmp 7,.const (I6 4)]) (nr e s n hs a ha 4 (by decide)) F4 [0,1,2,3] [] [0,1,2,3] (fun _ _=> ?_)))));rw [hok];refine am J (aa (aS (ab J (aH (cZ J) (aa (ah J (fun h1=> ?_) (fun h1=> ?_)))))))
 ·cases h1
 ·(try simp only [aY]at h1);refine az (ak (ab J (ab J (ae (xs:= [.tmp 13,.tmp 14]) (An e s n hs a ha) Ni [0,1,2,3] [] [0,1,2,3] (fun _ _=> ?_)))));rw [ao hq,Ca hx];refine aH (bX underlying5 underlying41 J (c:=x) (bx (by omega))) (aH (aT (parts:= [(0,.tmp 16),(2,.const (.bool Bool.true))]) gx FB J J) (aq (k:=4) gx J J J J J J (aa (ar (aG () O J (bR (bh gx J J J (bi (k:=4) J))) J [0,1,2,3] [] J J J)))))
theorem BQ(e:Me)(s:Mm)(n:Nat)(hs:MO s n)(a:Int)(ha:0≤a∧a<4294967296)(hb:byL s.d)(h4:a+4≤s.d.length)(hok:∀k:Int,0≤k→k<4→vz s (IntKind.u32.wrap (a+k)) 1=true):
  aO prog 151 [Pt e.m,I3 a,I6 4] [aP e.m 157 (mR e),own 5 1 bL (sv e.vd) (s).d,own 5 1 bL (sv e.vi) (s).i,own 3 1 eI (sv e.vr) (s).r] [] (.agg #[I3 (yo s.d a.toNat),I3 0,.bool true]) [aP e.m 157 (mR e),own 5 1 bL (sv e.vd) (s).d,own 5 1 bL (sv e.vi) (s).i,own 3 1 eI (sv e.vr) (s).r]:=by
 refine au func151 J ntmps151 J fun w0 M H=> ?_
 have hd:=hs.d;have hil:=hs.i;have hrl:=hs.r;have hnn:=hs.n;refine ak (aV gx J J fun b6=>av J (ab J (ab J (ab J (ae (xs:= [.tmp 9,.tmp 10,.tmp 11,.const (I6 1)]) (uU e s n hs a ha 4 1 (by decide) (by decide) hok) F9 [0,1,2,3] [] [0,1,2,3] (fun _ _=>aV gx J J fun b7=>aq (k:=7) gx J J J J J J (aa (aS (ax mn J (aL 7 t4 J J J J (aa (ah J (fun h1=> ?_) (fun h1=> ?_)))))))))))))
 ·(try simp only [aY]at h1);refine ak (ab J (ap J J iz (am J (aa (aC (bG (X:=Nat) (fun m=>m≤4) (fun m=> [(0,Pt e.m),(1,I3 a),(6,Pt b6),(7,Pt b7),(8,I6 (3-(m:Int)))]) (fun m=> [(0,aP e.m 157 (mR e)),(1,own 5 1 bL (sv e.vd) s.d),(2,own 5 1 bL (sv e.vi) s.i),(3,own 3 1 eI (sv e.vr) s.r),(6,aP b6 241 [I3 0,I3 0,.bool false]),(7,aP b7 241 [I3 (BS s.d a.toNat m),I3 0,.bool true])]) (fun m=> []) (fun m=>4-m) 0 (by omega) J J J (fun m n1=>aS (ab J (ap J J eY (aa (ah J (fun h2=> ?_) (fun h2=> ?_))))))))))))
  ·(try simp only [aY]at h2);have hi:m<4:=by omega
   obtain⟨x,hx⟩:∃x,s.d[a.toNat+(3-m)]?=some x:=⟨_,bV (by omega)⟩
   have hxb:=hb x (cO hx);have hlb:=Hu hb a.toNat (m:=m) (by omega)
   refine az (aW (aC ?_));refine ce [21,22,23,24,25,26,27,28,29,30,31,32,33,34,35,36] _ J (bP (V:= [(0,21,_),(1,22,_),(2,23,_),(3,24,_),(4,25,_),(5,26,_),(6,27,_),(7,28,_),(8,29,_),(9,30,_),(10,31,_),(11,32,_),(12,33,_),(13,34,_),(14,35,_),(15,36,_)]) [0,1,2,3,4,5,6,7,8,9,10,11,12,13,14,15] 16 [16,15,14,13,12,11,10,9,8,7,6,5,4,3,2,1,0] [] (fun _=> []) J J (ad J (ai ob J) (ad J (ag dt J J (aB (k:=7) J J)) (ad J (aU J J (ew (bx (by omega)))) (aJ J J (ad J (aA J) (ad J (ai kx J) (ad J (ag vR J J (aB (k:=0) J J)) (aJ J J (aJ J J (ad J (bX underlying3 underlying41 J (c:=3-(m:Int)) (bx (by omega))) (bM (Ma J (aU J J (bZ (c:=((a.toNat+(3-m):Nat):Int)) (by rw [bx (by omega)];omega)))) (ad J (aR (j:=a.toNat+(3-m)) underlying84 t5 J J (bl (k:=1) J) J (by omega)) (ad J (ag t5 J J (ci (bl (k:=1) J) (by intro _;rfl) hx (by rfl))) (ad J (bX underlying5 underlying41 J (c:=x) (bx (by omega))) (ad J (aU J J (bZ (c:=BS s.d a.toNat (m+1)) (by rw [bx (by omega)];show _=BS s.d a.toNat m*256+s.d.getD (a.toNat+(3-m)) 0;rw [Ca hx]))) (ad J (ai ob J) ay)))))))))))))))) J J J J J J J J J (fun _ _=>J) J (da (k:=7) dt J J J J J J J J) (fun _ _=>br [] J J ay J J J ?_));refine aj (ab J (ap J J (la (c:=3-((m+1:Nat):Int)) (by rw [bC (by omega)];omega)) (am J (aa ?_))));refine aI (m+1) ⟨by omega,by omega⟩ J J J
  ·(try simp only [aY]at h2);have hi:m=4:=by omega
   subst hi;refine bK (ak (aH (aM gx J J J (bi (k:=7) J)) (aq (k:=6) gx J J J J J J (aa (ar (aG () O J (bR (bh gx J J J (bi (k:=6) J))) J [0,1,2,3] [] J J J))))))
 ·cases h1
def kL(x:Int):Nat→Int
 | 0=>x
 | k+1=>kL x k/256
theorem xN{x:Int}(hx:0≤x∧x<4294967296):∀k,0≤kL x k∧kL x k<4294967296
 | 0=>hx
 | k+1=>by
  have:=xN hx k;show 0≤kL x k/256∧kL x k/256<_;omega
theorem xY{x:Int}(hx:0≤x∧x<4294967296){k:Nat}(hk:k<4):(eC x)[k]?=some (kL x k%256):=by
 have:k=0∨k=1∨k=2∨k=3:=by omega
 rcases this with rfl|rfl|rfl|rfl
 ·rfl
 ·rfl
 ·show some (x/65536%256)=some (x/256/256%256);rw [Int.ediv_ediv_of_nonneg (by decide)];rfl
 ·show some (x/16777216%256)=some (x/256/256/256%256);rw [Int.ediv_ediv_of_nonneg (by decide),Int.ediv_ediv_of_nonneg (by decide)];rfl
theorem zr(e:Me)(s:Mm)(n:Nat)(hs:MO s n)(a:Int)(ha:0≤a∧a<4294967296)(x:Int)(hx:0≤x∧x<4294967296)(h4:a+4≤s.d.length)(hok:∀k:Int,0≤k→k<4→vz s (IntKind.u32.wrap (a+k)) 2=true):
  aO prog 152 [Pt e.m,I3 a,I6 4,I3 x] [aP e.m 157 (mR e),own 5 1 bL (sv e.vd) (s).d,own 5 1 bL (sv e.vi) (s).i,own 3 1 eI (sv e.vr) (s).r] [] (.agg #[I3 0,I3 0,.bool true]) [aP e.m 157 (mR e),own 5 1 bL (sv e.vd) ({s with d:=pk s.d a.toNat (eC x)}).d,own 5 1 bL (sv e.vi) ({s with d:=pk s.d a.toNat (eC x)}).i,own 3 1 eI (sv e.vr) ({s with d:=pk s.d a.toNat (eC x)}).r]:=by
 refine au func152 J ntmps152 J fun w0 M H=> ?_
 have hd:=hs.d;have hil:=hs.i;have hrl:=hs.r;have hnn:=hs.n;refine ak (aV gx J J fun b8=>av J (ab J (ab J (ab J (ae (xs:= [.tmp 11,.tmp 12,.tmp 13,.const (I6 2)]) (uU e s n hs a ha 4 2 (by decide) (by decide) hok) F9 [0,1,2,3] [] [0,1,2,3] (fun _ _=>aV gx J J fun b9=>aq (k:=9) gx J J J J J J (aa (aS (ax mn J (aL 9 t4 J J J J (aa (ah J (fun h1=> ?_) (fun h1=> ?_)))))))))))))
 ·(try simp only [aY]at h1);refine ak (am J (aa (aC (bG (X:=Nat) (fun i=>i≤4) (fun i=> [(0,Pt e.m),(1,I3 a),(2,I6 4),(3,I3 (kL x i)),(8,Pt b8),(9,Pt b9),(10,I6 (i:Int))]) (fun i=> [(0,aP e.m 157 (mR e)),(1,own 5 1 bL (sv e.vd) (pk s.d a.toNat ((eC x).take i))),(2,own 5 1 bL (sv e.vi) s.i),(3,own 3 1 eI (sv e.vr) s.r),(8,aP b8 241 [I3 0,I3 0,.bool false]),(9,aP b9 241 [I3 0,I3 0,.bool true])]) (fun i=> []) (fun i=>4-i) 0 (by omega) J J J (fun i n1=>aS (ab J (ab J (ap J J cL (aa (ah J (fun h2=> ?_) (fun h2=> ?_)))))))))))
  ·(try simp only [aY]at h2);have hi:i<4:=by omega
   have hpl:=eD ((eC x).take i) s.d a.toNat
   have hsb:=xN hx i;obtain⟨y,hy⟩:∃y,(pk s.d a.toNat ((eC x).take i))[a.toNat+i]?=some y:=⟨_,bV (by omega)⟩
   refine az (aW (aC (ak (ab J (bp J (ax kx J (aL 0 vR J J J J (ab J (ab J (aH (bX underlying3 underlying41 J (c:=(i:Int)) (bx (by omega))) (ap J J (bZ (c:=((a.toNat+i:Nat):Int)) (by rw [bx (by omega)];omega)) (ab J (aH (bX underlying41 underlying5 J (c:=kL x i%256) (IntKind.wrap_u8 _)) (aH (aR (j:=a.toNat+i) underlying84 t5 J J (bl (k:=1) J) J (by omega)) (lq (k:=1) (e':=(kL x i%256)) t5 J J J (by intro _;rfl) hy J J (aa (aj (ab J ?_))))))))))))))))));refine ap J J (j_ (by decide) (np hsb (by decide))) (am J (aa (aj (ab J (ap J J a_ (am J (aa ?_)))))));refine aI (i+1) ⟨by omega,by omega⟩ J (by rw [cn (xY hx hi),km,List.length_take,Nat.min_eq_left (by show i≤4;omega)];rfl) J
  ·(try simp only [aY]at h2);have hi:i=4:=by omega
   subst hi;refine bK (ak (aH (aM gx J J J (bi (k:=9) J)) (aq (k:=8) gx J J J J J J (aa (ar (aG () O J (bR (bh gx J J J (bi (k:=8) J))) J [0,1,2,3] [] J J J))))))
 ·cases h1
theorem Dh{s:Ba}{i:Nat}(h:i<s.size):(aN s)[i]?=some ((aN s).getD i 0):=by
 have hl:=eb s;rw [List.getD_eq_getElem?_getD,bV (by omega)];rfl
theorem G3{d:List Int}{k:Nat}{x:Int}(h:d.length≤k):d.set k x=d:=List.set_eq_of_length_le h
theorem MO.dd{s:Mm}{n:Nat}(h:MO s n){d:List Int}(hd:d.length=s.d.length):MO {s with d:=d} n:=⟨hd.trans h.d,h.i,h.r,h.n,h.rb⟩
theorem MO.ii{s:Mm}{n:Nat}(h:MO s n){d:List Int}(hd:d.length=s.i.length):MO {s with i:=d} n:=⟨h.d,hd.trans h.i,h.r,h.n,h.rb⟩
theorem oN(e:Me)(s:Mm)(n:Nat)(hs:MO s n)(a:Nat)(t:Ba)(ht:a+t.size<4294967296)(ht2:t.size≤1000000):
  aO prog 35 [Pt e.m,I3 (a:Int),Sg t] [aP e.m 157 (mR e),own 5 1 bL (sv e.vd) (s).d,own 5 1 bL (sv e.vi) (s).i,own 3 1 eI (sv e.vr) (s).r] [] (.tuple #[]) [aP e.m 157 (mR e),own 5 1 bL (sv e.vd) ({s with d:=pk s.d a (aN t)}).d,own 5 1 bL (sv e.vi) ({s with d:=pk s.d a (aN t)}).i,own 3 1 eI (sv e.vr) ({s with d:=pk s.d a (aN t)}).r]:=by
 refine au func35 J ntmps35 J fun w0 M H=> ?_
 have hd:=hs.d;have hil:=hs.i;have hrl:=hs.r;have hnn:=hs.n;have hbl:=eb t;refine ak (am J (aa (aC (bG (X:=Nat) (fun i=>i≤t.size) (fun i=> [(0,Pt e.m),(1,I3 (a:Int)),(2,Sg t),(6,I6 (i:Int))]) (fun i=> [(0,aP e.m 157 (mR e)),(1,own 5 1 bL (sv e.vd) (pk s.d a ((aN t).take i))),(2,own 5 1 bL (sv e.vi) s.i),(3,own 3 1 eI (sv e.vr) s.r)]) (fun i=> []) (fun i=>t.size-i) 0 (bB _) J J J (fun i n1=>aS (ab J (ab J (aH (ck underlying9 J) (ap J J cL (aa (ah J (fun h1=> ?_) (fun h1=> ?_))))))))))))
 ·(try simp only [aY]at h1);have hi:i<t.size:=by omega
  have hpl:=eD ((aN t).take i) s.d a;have hxx:=Dh hi;refine az (aW (aC (ak (ab J (ab J (ab J (aH (bX underlying3 underlying41 J (c:=(i:Int)) (bx (by omega))) (ap J J (bZ (c:=((a+i:Nat):Int)) (by rw [bx (by omega)];omega)) (ch (xs:= [.tmp 14,.tmp 18]) (mh e {s with d:=pk s.d a ((aN t).take i)} n (hs.dd (eD _ _ _)) ((a+i:Nat):Int) (by omega)) CU [0,1,2,3] [] [0,1,2,3] J J J (fun _ _=>am J (av J (ab J (aa (ah J (fun h2=> ?_) (fun h2=> ?_)))))))))))))))
  ·(try simp only [aY]at h2);have hq:a+i<s.d.length:=by simp at h2;omega
   obtain⟨y,hy⟩:∃y,(pk s.d a ((aN t).take i))[a+i]?=some y:=⟨_,bV (by omega)⟩
   refine ce [21,22,23,24,25,26,27,28,29,30,31,32] _ J (bP (V:= [(0,21,_),(1,22,_),(2,23,_),(3,24,_),(4,25,_),(5,26,_),(6,27,_),(7,28,_),(8,29,_),(9,30,_),(10,31,_),(11,32,_)]) [0,1,2,3,4,5,6,7,8,9,10,11] 12 [12,11,10,9,8,7,6,5,4,3,2,1,0] [] (fun _=> []) J J (aJ J J (ad J (aA J) (ad J (ai kx J) (ad J (ag vR J J (aB (k:=0) J J)) (aJ J J (aJ J J (ad J (bX underlying3 underlying41 J (c:=(i:Int)) (bx (by omega))) (ad J (aU J J (bZ (c:=((a+i:Nat):Int)) (by rw [bx (by omega)];omega))) (aJ J J (aJ J J (ad J (d6 (j:=i) underlying9 J J J (by omega)) (ad J (aR (j:=a+i) underlying84 t5 J J (bl (k:=1) J) J (by show _<(pk s.d a ((aN t).take i)).length;omega)) ay)))))))))))) J J J J J J J J J (fun _ _=>J) J (gB (k:=1) (e':=((aN t).getD i 0)) t5 J J J (by intro _;rfl) hy J J) (fun _ _=>br [] J J ay J J J ?_));refine aj (ab J (ap J J a_ (am J (aa ?_))));refine aI (i+1) ⟨by omega,by omega⟩ J (by rw [cn hxx,km,List.length_take,Nat.min_eq_left (by omega)];rfl) J
  ·(try simp only [aY]at h2);have hq:¬a+i<s.d.length:=by simp at h2;omega
   refine az (aj (ab J (ap J J a_ (am J (aa ?_)))));refine aI (i+1) ⟨by omega,by omega⟩ J (by rw [cn hxx,km,List.length_take,Nat.min_eq_left (by omega),G3 (by omega)];rfl) J
 ·(try simp only [aY]at h1);have hi:i=t.size:=by omega
  subst hi;refine bK (bN () O J fi J [0,1,2,3] [] J (by rw [List.take_of_length_le (Nat.le_of_eq hbl)];rfl) J)
theorem qB(e:Me)(s:Mm)(n:Nat)(hs:MO s n)(p:Nat)(hp:p<n)(t:Ba)(ht2:t.size≤1000000):
  aO prog 37 [Pt e.m,I6 (p:Int),Sg t] [aP e.m 157 (mR e),own 5 1 bL (sv e.vd) (s).d,own 5 1 bL (sv e.vi) (s).i,own 3 1 eI (sv e.vr) (s).r] [] (.tuple #[]) [aP e.m 157 (mR e),own 5 1 bL (sv e.vd) ({s with i:=pk s.i (256*p) ((aN t).take 256)}).d,own 5 1 bL (sv e.vi) ({s with i:=pk s.i (256*p) ((aN t).take 256)}).i,own 3 1 eI (sv e.vr) ({s with i:=pk s.i (256*p) ((aN t).take 256)}).r]:=by
 refine au func37 J ntmps37 J fun w0 M H=> ?_
 have hd:=hs.d;have hil:=hs.i;have hrl:=hs.r;have hnn:=hs.n;have hbl:=eb t;refine aS (ab J (ap J J cL (ab J (aF [] J J O (fun hg1=>aX J) J (aF [(10,_)] J J ⟨J,O⟩ (fun hg2=>aX J) J (aF [(10,_),(11,_)] J J ⟨J,J,O⟩ (fun hg3=>aA J) J (aF [(10,_),(11,_),(12,_)] J J ⟨J,J,J,O⟩ (fun hg4=>ai oi J) J (aF [(10,_),(11,_),(12,_),(13,_)] J J ⟨J,J,J,J,O⟩ (fun hg5=>ag DQ J J (aB (k:=0) J J)) J (aF [(10,_),(11,_),(12,_),(13,_),(14,_)] J J ⟨J,J,J,J,J,O⟩ (fun hg6=>aZ underlying22 J (bl (k:=3) J)) J (aF [(10,_),(11,_),(12,_),(13,_),(14,_),(15,_)] J J ⟨J,J,J,J,J,J,O⟩ (fun hg7=>aU J J eY) J (aH (bw J J J) (ab J (aF [] J J O (fun hg8=>aX J) J (aF [(19,_)] J J ⟨J,O⟩ (fun hg9=>aA J) J (aF [(19,_),(20,_)] J J ⟨J,J,O⟩ (fun hg10=>ai ti J) J (aF [(19,_),(20,_),(21,_)] J J ⟨J,J,J,O⟩ (fun hg11=>ag t4 J J (aB (k:=0) J J)) J (aH (bw J J J) ?_)))))))))))))))));refine aa (ah J (fun h12=> ?_) (fun h12=> ?_))
 ·exact absurd h12 (by simp;omega)
 ·refine az (ak (am J (aa (aC (bG (X:=Nat) (fun i=>i≤t.size∧i≤256) (fun i=> [(0,Pt e.m),(1,I6 (p:Int)),(2,Sg t),(6,I6 (i:Int))]) (fun i=> [(0,aP e.m 157 (mR e)),(1,own 5 1 bL (sv e.vd) s.d),(2,own 5 1 bL (sv e.vi) (pk s.i (256*p) ((aN t).take i))),(3,own 3 1 eI (sv e.vr) s.r)]) (fun i=> []) (fun i=>t.size-i) 0 ⟨bB _,bB _⟩ J J J (fun i n1=>aS (ab J (ab J (aH (ck underlying9 J) (ap J J cL (ab J (aF [] J J O (fun hg13=>aX J) J (aF [(29,_)] J J ⟨J,O⟩ (fun hg14=>aU J J cL) J (aH (bw J J J) (aa (ah J (fun h15=> ?_) (fun h15=> ?_)))))))))))))))))
  ·(try simp only [aY]at h15);have hi:i<t.size∧i<256:=by omega
   have hpl:=eD ((aN t).take i) s.i (256*p);have hxx:=Dh hi.1;obtain⟨y,hy⟩:∃y,(pk s.i (256*p) ((aN t).take i))[256*p+i]?=some y:=⟨_,bV (by omega)⟩
   refine az (aW (aC ?_));refine ce [34,35,36,37,38,39,40,41,42,43,44,45] _ J (bP (V:= [(0,34,_),(1,35,_),(2,36,_),(3,37,_),(4,38,_),(5,39,_),(6,40,_),(7,41,_),(8,42,_),(9,43,_),(10,44,_),(11,45,_)]) [0,1,2,3,4,5,6,7,8,9,10,11] 12 [12,11,10,9,8,7,6,5,4,3,2,1,0] [] (fun _=> []) J J (aJ J J (ad J (aA J) (ad J (ai oj J) (ad J (ag vR J J (aB (k:=0) J J)) (aJ J J (ad J (aU J J (ew (bC (by omega)))) (aJ J J (ad J (aU J J (bZ (c:=((256*p+i:Nat):Int)) (by rw [bC (by omega)];omega))) (aJ J J (aJ J J (ad J (d6 (j:=i) underlying9 J J J (by omega)) (ad J (aR (j:=256*p+i) underlying84 t5 J J (bl (k:=2) J) J (by omega)) ay)))))))))))) J J J J J J J J J (fun _ _=>J) J (gB (k:=2) (e':=((aN t).getD i 0)) t5 J J J (by intro _;rfl) hy J J) (fun _ _=>br [] J J ay J J J ?_));refine aj (ab J (ap J J a_ (am J (aa ?_))));refine aI (i+1) ⟨by omega,by omega⟩ J (by rw [cn hxx,km,List.length_take,Nat.min_eq_left (by omega)];rfl) J
  ·(try simp only [aY]at h15);have hi:i=min t.size 256:=by omega
   have htk:(aN t).take i=(aN t).take 256:=by
    rw [hi];by_cases h:t.size≤256
    ·rw [Nat.min_eq_left h,List.take_of_length_le (by omega),List.take_of_length_le (by omega)]
    ·rw [Nat.min_eq_right (by omega)]
   refine bK (bN () O J fi J [0,1,2,3] [] J (by rw [htk];rfl) J)
theorem qC(e:Me)(s:Mm)(n:Nat)(hs:MO s n)(p:Nat)(hp:p<n)(z q:Int)(hq:bits .and .i64 z 7=q):
  aO prog 38 [Pt e.m,I6 (p:Int),I6 z] [aP e.m 157 (mR e),own 5 1 bL (sv e.vd) (s).d,own 5 1 bL (sv e.vi) (s).i,own 3 1 eI (sv e.vr) (s).r] [] (.tuple #[]) [aP e.m 157 (mR e),own 5 1 bL (sv e.vd) ({s with r:=s.r.set p q}).d,own 5 1 bL (sv e.vi) ({s with r:=s.r.set p q}).i,own 3 1 eI (sv e.vr) ({s with r:=s.r.set p q}).r]:=by
 refine au func38 J ntmps38 J fun w0 M H=> ?_
 have hd:=hs.d;have hil:=hs.i;have hrl:=hs.r;have hnn:=hs.n;obtain⟨y,hy⟩:∃y,s.r[p]?=some y:=⟨_,bV (by omega)⟩
 refine ak (ab J (ap J J eY (ab J (aF [] J J O (fun hg1=>aX J) J (aF [(9,_)] J J ⟨J,O⟩ (fun hg2=>aX J) J (aF [(9,_),(10,_)] J J ⟨J,J,O⟩ (fun hg3=>aA J) J (aF [(9,_),(10,_),(11,_)] J J ⟨J,J,J,O⟩ (fun hg4=>ai oi J) J (aF [(9,_),(10,_),(11,_),(12,_)] J J ⟨J,J,J,J,O⟩ (fun hg5=>ag DQ J J (aB (k:=0) J J)) J (aF [(9,_),(10,_),(11,_),(12,_),(13,_)] J J ⟨J,J,J,J,J,O⟩ (fun hg6=>aZ underlying22 J (bl (k:=3) J)) J (aF [(9,_),(10,_),(11,_),(12,_),(13,_),(14,_)] J J ⟨J,J,J,J,J,J,O⟩ (fun hg7=>aU J J cL) J (aH (bw J J J) (aa (ah J (fun h8=> ?_) (fun h8=> ?_))))))))))))))
 ·refine aj (ab J (bp J (ax oi J (aL 0 DQ J J J J (ab J (ab J (ap J J (u_ hq) (aH (aR (j:=p) underlying22 t3 J J (bl (k:=3) J) J (by omega)) (lq (k:=3) (e':=q) t3 J J J (by intro _;rfl) hy J J (aa (bN () O J fi J [0,1,2,3] [] J J J)))))))))))
 ·exact absurd h8 (by simp;omega)
theorem wd(e:Me)(s:Mm)(n:Nat)(hs:MO s n)(a:Int)(ha:0≤a∧a<s.d.length):
  aO prog 76 [Pt e.m,I3 a] [aP e.m 157 (mR e),own 5 1 bL (sv e.vd) (s).d,own 5 1 bL (sv e.vi) (s).i,own 3 1 eI (sv e.vr) (s).r] [] (.bool true) [aP e.m 157 (mR e),own 5 1 bL (sv e.vd) ({s with i:=pk s.i (a.toNat/256*256) ((s.d.drop (a.toNat/256*256)).take 256)}).d,own 5 1 bL (sv e.vi) ({s with i:=pk s.i (a.toNat/256*256) ((s.d.drop (a.toNat/256*256)).take 256)}).i,own 3 1 eI (sv e.vr) ({s with i:=pk s.i (a.toNat/256*256) ((s.d.drop (a.toNat/256*256)).take 256)}).r]:=by
 refine au func76 J ntmps76 J fun w0 M H=> ?_
 have hd:=hs.d;have hil:=hs.i;have hrl:=hs.r;have hnn:=hs.n;have hpp:a.toNat/256<n:=by omega
 refine ak (am J (av J (ab J (ab J (ae (xs:= [.tmp 8,.tmp 9]) (mh e s n hs a (by omega)) CU [0,1,2,3] [] [0,1,2,3] (fun _ _=> ?_))))));rw [decide_eq_true ha.2];refine am J (aa (aS (ab J (ab J (aF [] J J O (fun hg1=>aX J) J (aF [(13,_)] J J ⟨J,O⟩ (fun hg2=>aA J) J (aF [(13,_),(14,_)] J J ⟨J,J,O⟩ (fun hg3=>ai ti J) J (aF [(13,_),(14,_),(15,_)] J J ⟨J,J,J,O⟩ (fun hg4=>ag t4 J J (aB (k:=0) J J)) J (aF [(13,_),(14,_),(15,_),(16,_)] J J ⟨J,J,J,J,O⟩ (fun hg5=>cZ J) J (aH (bw J J J) (aa (ah J (fun h6=> ?_) (fun h6=> ?_)))))))))))))
 ·refine ak (ab J (aH (bX underlying41 underlying3 J (c:=a) (bC (by omega))) (ap J J (j_ (by decide) (c:=((a.toNat/256:Nat):Int)) (by rw [Int.tdiv_eq_ediv_of_nonneg ha.1,bC (by omega)];omega)) (ap J J (ew (c:=((a.toNat/256*256:Nat):Int)) (by rw [bC (by omega)];omega)) (am J (av J (ab J (am J (aa (aC ?_))))))))));refine bG (X:=Nat) (fun k=>k≤256) (fun k=> [(0,Pt e.m),(5,.bool true),(6,I6 ((a.toNat/256*256:Nat):Int)),(7,I6 (((a.toNat/256*256:Nat):Int)+(k:Int)))]) (fun k=> [(0,aP e.m 157 (mR e)),(1,own 5 1 bL (sv e.vd) s.d),(2,own 5 1 bL (sv e.vi) (pk s.i (a.toNat/256*256) ((s.d.drop (a.toNat/256*256)).take k))),(3,own 3 1 eI (sv e.vr) s.r)]) (fun k=> []) (fun k=>256-k) 0 (bB _) (by rw [show((a.toNat/256*256:Nat):Int)+((0:Nat):Int)=((a.toNat/256*256:Nat):Int) by omega];rfl) J J (fun k n1=> ?_);refine aS (ab J (ab J (ap J J a_ (ap J J cL (aa (ah J (fun h7=> ?_) (fun h7=> ?_)))))))
  ·(try simp only [aY]at h7);have hi:k<256:=by omega
   have hpl:=eD ((s.d.drop (a.toNat/256*256)).take k) s.i (a.toNat/256*256);obtain⟨x,hxx⟩:∃x,s.d[a.toNat/256*256+k]?=some x:=⟨_,bV (by omega)⟩
   have hxd:(s.d.drop (a.toNat/256*256))[k]?=some x:=by rw [List.getElem?_drop];exact hxx
   obtain⟨y,hy⟩:∃y,(pk s.i (a.toNat/256*256) ((s.d.drop (a.toNat/256*256)).take k))[a.toNat/256*256+k]?=some y:=⟨_,bV (by omega)⟩
   refine az (aW (aC ?_));refine ce [30,31,32,33,34,35,36,37,38,39,40,41,42] _ J (bP (V:= [(0,30,_),(1,31,_),(2,32,_),(3,33,_),(4,34,_),(5,35,_),(6,36,_),(7,37,_),(8,38,_),(9,39,_),(10,40,_),(11,41,_),(12,42,_)]) [0,1,2,3,4,5,6,7,8,9,10,11,12] 13 [13,12,11,10,9,8,7,6,5,4,3,2,1,0] [] (fun _=> []) J J (aJ J J (ad J (aA J) (ad J (ai oj J) (ad J (ag vR J J (aB (k:=0) J J)) (aJ J J (aJ J J (ad J (aA J) (ad J (ai kx J) (ad J (ag vR J J (aB (k:=0) J J)) (aJ J J (ad J (aR (j:=a.toNat/256*256+k) underlying84 t5 J J (bl (k:=1) J) (by omega) (by omega)) (ad J (ag t5 J J (ci (bl (k:=1) J) (by intro _;rfl) hxx (by rfl))) (ad J (aR (j:=a.toNat/256*256+k) underlying84 t5 J J (bl (k:=2) J) (by omega) (by omega)) ay))))))))))))) J J J J J J J J J (fun _ _=>J) J (gB (k:=2) (e':=x) t5 J J J (by intro _;rfl) hy J J) (fun _ _=>br [] J J ay J J J ?_));refine aj (ab J (ap J J (bZ (c:=((a.toNat/256*256:Nat):Int)+((k+1:Nat):Int)) (by rw [bC (by omega)];omega)) (am J (aa ?_))));refine aI (k+1) ⟨by omega,by omega⟩ J (by rw [cn hxd,km,List.length_take,Nat.min_eq_left (by rw [List.length_drop];omega)];rfl) J
  ·(try simp only [aY]at h7);have hi:k=256:=by omega
   subst hi;refine bK (ak (ab J (am J (aa (ar (aG () O J (bR (aD J)) J [0,1,2,3] [] J J J))))))
 ·exact absurd h6 (by simp)
theorem cD{c:Prop} [Decidable c]{a b:Qg}{n:Nat}(h1:a.sz≤n)(h2:b.sz≤n):(if c then a else b).sz≤n:=by
 by_cases h:c
 ·rw [ao h];exact h1
 ·rw [ac h];exact h2
theorem HP(o:Ba)(s:Qg):(nG o s).sz≤s.sz+9:=by
 unfold nG;refine cD ?_ (cD ?_ (cD ?_ (cD ?_ (cD ?_ (cD ?_ (cD ?_ (cD ?_ (cD ?_ (cD ?_ (cD ?_ (cD ?_ (cD ?_ (cD ?_ (cD ?_ (cD ?_ ?_)))))))))))))));all_goals
  (try simp only [bj,bT,bz,bv,dJ,b_,cj])
  omega
theorem HO(o:Ba)(s:Qg):(Ck o s).sz≤s.sz+2:=by
 unfold Ck;refine cD ?_ (cD ?_ (cD ?_ ?_));all_goals
  (try simp only [bj,dJ,b_,cj])
  omega
theorem EM(n:Int)(s:Qg):(pu n s).sz≤s.sz+2:=by
 unfold pu;refine cD ?_ ?_;all_goals
  (try simp only [bj,dJ,b_,cj])
  omega
mutual
theorem k9(o st:Om):∀(t:Tx)(s:Qg),(gX o st t s).sz+2≤s.sz+22*nX t
 | .mk k n nm _ kids,s=>by
  have h0:=wV o st kids;have h1:=fun s=>yw o st kids s
  have hs:=td o st kids;have hu:=HO nm (ku o st kids s);have hn:=EM n s;have ho:=HP nm ((IT o st kids ((ku o st kids s).push 1)).pop 2);have i0:=h0 s;have i1:=h1 s;have is:=hs s;rw [dh]at ho;unfold gX nX
  suffices h:∀x:Qg,x.sz≤s.sz+22*fM kids+20→x.sz+2≤s.sz+22*(fM kids+1)from h _ (by
   refine cD (by omega) (cD ?_ (cD ?_ (cD ?_ (cD (by omega) (cD (by omega) (cD ?_ (by omega)))))))
   ·simp only [bj,dJ];omega
   ·simp only [bj,dJ];omega
   ·simp only [bj,cW,dJ];omega
   ·dsimp only;refine cD ?_ ?_
    ·simp only [bj,bz,dJ];omega
    ·simp only [bz];omega)
  intro x hx;omega
theorem wV(o st:Om):∀(l:List Tx)(s:Qg),(ku o st l s).sz≤s.sz+22*fM l
 | [],s=>Nat.le_add_right _ _
 | t::r,s=>by
  have:=k9 o st t s;unfold ku fM;omega
theorem yw(o st:Om):∀(l:List Tx)(s:Qg),(IT o st l ((ku o st l s).push 1)).sz≤s.sz+22*fM l+2
 | [],s=>by
  show(s.push 1).sz≤_;rw [ct];omega
 | t::r,s=>by
  have h1:=k9 o st t s;have h2:=wV o st r ((gX o st t s).push 1);rw [ct]at h2;show(ku o st r ((gX o st t s).push 1)).sz≤_;unfold fM;omega
theorem td(o st:Om):∀(l:List Tx)(s:Qg),(rH o st l s).sz≤s.sz+22*fM l
 | [],s=>Nat.le_add_right _ _
 | t::r,s=>by
  have h1:=k9 o st t s;have h2:=td o st r ((gX o st t s).push 1);rw [ct]at h2;unfold rH fM;omega
end
theorem Spec.roW{P:Program}{n:Nat}{vs:List Value}{X:Type}{L R:List Asn}{φ:X→Prop}{v:X→Value}{L1:X→List Asn}{B:Asn}(h:∀A∈R,∀w G,B.pred w G→(∀b,G b→b<w.heap.size)→∃G':Nat→Prop,A.pred w G'∧∀b,G' b→G b)
  (hs:Spec P n vs L R φ v L1 (fun _=> [])):Spec P n vs L [B] φ v L1 (fun _=> []):=by
 intro w M H hl;refine hs w M H ?_;obtain⟨F,hF⟩:=hl;refine⟨F,hF.touch,hF.has,hF.lt,hF.mine,hF.apart,fun k A hk=> ?_⟩;obtain⟨G,g1,g2⟩:=hF.ro 0 B J;obtain⟨G',a1,a2⟩:=h A (cO hk) w G g1 fun b hb=>(g2 b hb).1
 exact⟨G',a1,fun b hb=>g2 b (a2 b hb)⟩
def LH(e:Ga)(c:Oq)(o:Ba)(s:Qg):Prop:=
 ∃n l,(NG c).find? (fun x=>decide (Prod.fst x=o))=some (o,cf n l)∧Cb prog n∧aO prog n (l.map fun b=>Value.pointer (some ⟨b,0,none⟩)) [gA e s] [gW e.g c] (.tuple #[]) [gA e (nG o s)]
theorem eg{g:Nat}{c:Oq}{R:List Asn}(h:∀A∈R,∃i:Nat,(JI g c)[i]?=some A):∀A∈R,∀w G,(gW g c).pred w G→(∀b,G b→b<w.heap.size)→∃G':Nat→Prop,A.pred w G'∧∀b,G' b→G b:=fun A hA w G h1 h2=>by
 obtain⟨i,hi⟩:=h A hA;exact BA i hi w G h1 h2
theorem Hj(e:Ga)(c:Oq)(o:Ba)(s:Qg)(hz:s.sz≤890000)(h:iZ o=true):LH e c o s:=by
 by_cases h0:o=e_
 ·subst h0;refine⟨85,[c.bg,c.b0],J,qQ,?_⟩;rw [show nG e_ s=s.emit [q3 1 1 2 1]from J];exact Spec.roW (eg (fun A hA=>by
    simp only [List.mem_cons,List.not_mem_nil,or_false]at hA;rcases hA with rfl|rfl
    ·exact⟨1,J⟩
    ·exact⟨2,J⟩
   )) (fF e s (by omega) c.bg c.b0 1)
 by_cases h1:o=ef
 ·subst h1;refine⟨85,[c.bg,c.b1],J,qQ,?_⟩;rw [show nG ef s=s.emit [q3 2 1 2 1]from J];exact Spec.roW (eg (fun A hA=>by
    simp only [List.mem_cons,List.not_mem_nil,or_false]at hA;rcases hA with rfl|rfl
    ·exact⟨1,J⟩
    ·exact⟨3,J⟩
   )) (fF e s (by omega) c.bg c.b1 2)
 by_cases h2:o=fL
 ·subst h2;refine⟨85,[c.bg,c.b2],J,qQ,?_⟩;rw [show nG fL s=s.emit [q3 9 1 2 1]from J];exact Spec.roW (eg (fun A hA=>by
    simp only [List.mem_cons,List.not_mem_nil,or_false]at hA;rcases hA with rfl|rfl
    ·exact⟨1,J⟩
    ·exact⟨4,J⟩
   )) (fF e s (by omega) c.bg c.b2 9)
 by_cases h3:o=eq
 ·subst h3;refine⟨85,[c.bg,c.b3],J,qQ,?_⟩;rw [show nG eq s=s.emit [q3 3 1 2 1]from J];exact Spec.roW (eg (fun A hA=>by
    simp only [List.mem_cons,List.not_mem_nil,or_false]at hA;rcases hA with rfl|rfl
    ·exact⟨1,J⟩
    ·exact⟨5,J⟩
   )) (fF e s (by omega) c.bg c.b3 3)
 by_cases h4:o=iQ
 ·subst h4;refine⟨85,[c.bg,c.b4],J,qQ,?_⟩;rw [show nG iQ s=s.emit [q3 4 1 2 1]from J];exact Spec.roW (eg (fun A hA=>by
    simp only [List.mem_cons,List.not_mem_nil,or_false]at hA;rcases hA with rfl|rfl
    ·exact⟨1,J⟩
    ·exact⟨6,J⟩
   )) (fF e s (by omega) c.bg c.b4 4)
 by_cases h5:o=ey
 ·subst h5;refine⟨85,[c.bg,c.b5],J,qQ,?_⟩;rw [show nG ey s=s.emit [q3 5 1 2 1]from J];exact Spec.roW (eg (fun A hA=>by
    simp only [List.mem_cons,List.not_mem_nil,or_false]at hA;rcases hA with rfl|rfl
    ·exact⟨1,J⟩
    ·exact⟨7,J⟩
   )) (fF e s (by omega) c.bg c.b5 5)
 by_cases h6:o=fK
 ·subst h6;refine⟨85,[c.bg,c.b6],J,qQ,?_⟩;rw [show nG fK s=s.emit [q3 6 1 2 1]from J];exact Spec.roW (eg (fun A hA=>by
    simp only [List.mem_cons,List.not_mem_nil,or_false]at hA;rcases hA with rfl|rfl
    ·exact⟨1,J⟩
    ·exact⟨8,J⟩
   )) (fF e s (by omega) c.bg c.b6 6)
 by_cases h7:o=fW
 ·subst h7;refine⟨85,[c.bg,c.b7],J,qQ,?_⟩;rw [show nG fW s=s.emit [q3 7 1 2 1]from J];exact Spec.roW (eg (fun A hA=>by
    simp only [List.mem_cons,List.not_mem_nil,or_false]at hA;rcases hA with rfl|rfl
    ·exact⟨1,J⟩
    ·exact⟨9,J⟩
   )) (fF e s (by omega) c.bg c.b7 7)
 by_cases h8:o=kN
 ·subst h8;refine⟨85,[c.bg,c.b8],J,qQ,?_⟩;rw [show nG kN s=s.emit [q3 11 1 2 1]from J];exact Spec.roW (eg (fun A hA=>by
    simp only [List.mem_cons,List.not_mem_nil,or_false]at hA;rcases hA with rfl|rfl
    ·exact⟨1,J⟩
    ·exact⟨10,J⟩
   )) (fF e s (by omega) c.bg c.b8 11)
 by_cases h9:o=lN
 ·subst h9;refine⟨87,[c.bg],J,Ku,?_⟩;rw [show nG lN s=s.emit [q3 11 1 1 2]from J];exact Spec.roW (eg (fun A hA=>by
    simp only [List.mem_cons,List.not_mem_nil,or_false]at hA;rcases hA with rfl
    ·exact⟨1,J⟩
   )) (u7 e s (by omega) c.bg)
 by_cases h10:o=lM
 ·subst h10;refine⟨89,[c.f0,c.bg],J,Ik,?_⟩;rw [show nG lM s=(s.emit [q3 11 1 1 2]).emit [qi 19 1 1 1]from J];exact Spec.roW (eg (fun A hA=>by
    simp only [List.mem_cons,List.not_mem_nil,or_false]at hA;rcases hA with rfl|rfl
    ·exact⟨12,J⟩
    ·exact⟨1,J⟩
   )) (rZ e s (by omega) c.bg c.f0 87 (s.emit [q3 11 1 1 2]) (by rw [bj];simp;omega) Ku (u7 e s (by omega) c.bg))
 by_cases h11:o=mU
 ·subst h11;refine⟨89,[c.f1,c.bg],J,Ik,?_⟩;rw [show nG mU s=(s.emit [q3 11 1 2 1]).emit [qi 19 1 1 1]from J];exact Spec.roW (eg (fun A hA=>by
    simp only [List.mem_cons,List.not_mem_nil,or_false]at hA;rcases hA with rfl|rfl|rfl
    ·exact⟨13,J⟩
    ·exact⟨1,J⟩
    ·exact⟨11,J⟩
   )) (Aw e s (by omega) c.bg c.b9 c.f1 85 (s.emit [q3 11 1 2 1]) (by rw [bj];simp;omega) qQ (fF e s (by omega) c.bg c.b9 11))
 by_cases h12:o=lL
 ·subst h12;refine⟨90,[c.bg],J,Kt,?_⟩;rw [show nG lL s=(s.emit [q3 5 1 2 1]).emit [q3 11 1 0 1]from J];exact Spec.roW (eg (fun A hA=>by
    simp only [List.mem_cons,List.not_mem_nil,or_false]at hA;rcases hA with rfl
    ·exact⟨1,J⟩
   )) (u6 e s (by omega) c.bg)
 by_cases h13:o=lO
 ·subst h13;refine⟨89,[c.f2,c.bg],J,Ik,?_⟩;rw [show nG lO s=((s.emit [q3 5 1 2 1]).emit [q3 11 1 0 1]).emit [qi 19 1 1 1]from J];exact Spec.roW (eg (fun A hA=>by
    simp only [List.mem_cons,List.not_mem_nil,or_false]at hA;rcases hA with rfl|rfl
    ·exact⟨14,J⟩
    ·exact⟨1,J⟩
   )) (rZ e s (by omega) c.bg c.f2 90 ((s.emit [q3 5 1 2 1]).emit [q3 11 1 0 1]) (by rw [bj,bj];simp;omega) Kt (u6 e s (by omega) c.bg))
 by_cases h14:o=jx
 ·subst h14;refine⟨91,[c.bg],J,M1,?_⟩;rw [show nG jx s=((s.lab.jump 32 1 0 s.labs.length).emit [q3 10 1 2 1]).place s.labs.length from J];exact Spec.roW (eg (fun A hA=>by
    simp only [List.mem_cons,List.not_mem_nil,or_false]at hA;rcases hA with rfl
    ·exact⟨1,J⟩
   )) (C7 e s (by omega) c.bg)
 by_cases h15:o=kM
 ·subst h15;refine⟨93,[c.bg],J,M0,?_⟩;rw [show nG kM s=((((((s.lab.emit [q3 1 3 1 0]).jump 32 1 0 s.labs.length).emit [q3 10 3 2 1]).emit [q3 9 3 3 1]).place s.labs.length)).emit [q3 2 1 2 3]from J];exact Spec.roW (eg (fun A hA=>by
    simp only [List.mem_cons,List.not_mem_nil,or_false]at hA;rcases hA with rfl
    ·exact⟨1,J⟩
   )) (C6 e s (by omega) c.bg)
 exfalso;unfold iZ at h;rw [Option.isSome_iff_exists]at h;obtain⟨x,hx⟩:=h;have hm:=List.mem_of_find?_eq_some hx;have he:=List.find?_some hx;simp only [decide_eq_true_eq]at he;simp only [lvL,List.mem_cons,List.not_mem_nil,or_false]at hm;rcases hm with rfl|rfl|rfl|rfl|rfl|rfl|rfl|rfl|rfl|rfl|rfl|rfl|rfl|rfl|rfl|rfl
 ·exact h15 he.symm
 ·exact h14 he.symm
 ·exact h2 he.symm
 ·exact h1 he.symm
 ·exact h0 he.symm
 ·exact h7 he.symm
 ·exact h6 he.symm
 ·exact h11 he.symm
 ·exact h9 he.symm
 ·exact h10 he.symm
 ·exact h8 he.symm
 ·exact h12 he.symm
 ·exact h13 he.symm
 ·exact h3 he.symm
 ·exact h5 he.symm
 ·exact h4 he.symm
section
variable{P:Program}{N:Nat}{w0:World}{M H:Nat→Prop}{E:d_}{Γ R:dF}
theorem mY{k o b:Nat}{e:Ga}{s:Qg}{u:Value}(hk:bF Γ k=some (gA e s))(hu:∀x:SV×SV×SV,(gR e.vp x.1 x.2.1 x.2.2 e.ms e.mo e.mp e.en)[o]?=some u)(hb:e.g=b):Gives w0 M H Γ R b o [u]:=by
 subst hb;intro w hC j u' hj;obtain⟨G,⟨x,Fs,h1,-,-⟩,-⟩:=hC.reads (.inl hk);obtain⟨-,h2⟩:=h1 0 _ J;cases j with
 | zero=>
  simp at hj;subst hj;rw [cell_of_row w e.g (o+0) _ 111 (0,0) h2];simpa using hu x
 | succ j=>simp at hj
def vQ(p:Ba×Int):Value:=I3 p.2
theorem Bx{S kt et:TypeId}{x y:Operand}{o:Option Nat}{k:Ba}{L:Om}{D:TypeDesc}{s bb:Nat}(hS:P.underlying S=some (.map kt et))(hK:KeyLaw P kt fE)(ht:TI P et D (I3 0) s bb)(hx:ev E x=some (.map o))(hy:ev E y=some (fE k))(hm:HasMp Γ R fE Prod.fst vQ o L):
  PR P N w0 M H E Γ R (.lookup S x y false) (I3 (bk L k)):=by
 have:=l9 (w0:=w0) (M:=M) (H:=H) (N:=N) (ok:=false) hS hK ht hx hy hm J;have e:((L.find? (fun a=>decide (Prod.fst a=k))).map vQ).getD (I3 0)=I3 (bk L k):=by
  unfold bk;cases L.find? (fun a=>decide (Prod.fst a=k))<;>rfl
 rw [←e];exact this
theorem By{S kt et:TypeId}{x y:Operand}{o:Option Nat}{k:Ba}{L:Om}{D:TypeDesc}{s bb:Nat}(hS:P.underlying S=some (.map kt et))(hK:KeyLaw P kt fE)(ht:TI P et D (I6 0) s bb)(hx:ev E x=some (.map o))(hy:ev E y=some (fE k))(hm:HasMp Γ R fE Prod.fst vI o L):
  PR P N w0 M H E Γ R (.lookup S x y false) (I6 (bk L k)):=by
 have:=l9 (w0:=w0) (M:=M) (H:=H) (N:=N) (ok:=false) hS hK ht hx hy hm J;have e:((L.find? (fun a=>decide (Prod.fst a=k))).map vI).getD (I6 0)=I6 (bk L k):=by
  unfold bk;cases L.find? (fun a=>decide (Prod.fst a=k))<;>rfl
 rw [←e];exact this
end
theorem MQ{o st:Om}{t:Tx}{s:Qg}(h:t.kind=1):gX o st t s=pu t.n s:=by
 obtain⟨k,n,nm,v,kids⟩:=t;obtain rfl:k=1:=h;rfl
theorem MP{o st:Om}{t:Tx}{s:Qg}(h:t.kind=2):gX o st t s=s.emit [qi 23 1 13 (bk o t.name)]:=by
 obtain⟨k,n,nm,v,kids⟩:=t;obtain rfl:k=2:=h;rfl
theorem ML{o st:Om}{t:Tx}{s:Qg}(h:t.kind=5):gX o st t s=s.emit [⟨48,0,0,0,2⟩]:=by
 obtain⟨k,n,nm,v,kids⟩:=t;obtain rfl:k=5:=h;rfl
theorem MM{o st:Om}{t u:Tx}{s:Qg}(h:t.kind=4)(hk:t.kids= [u]):gX o st t s=((gX o st u s).elem 1).emit [qi 23 1 1 8192]:=by
 obtain⟨k,n,nm,v,kids⟩:=t;obtain rfl:k=4:=h;obtain rfl:kids= [u]:=hk;rfl
theorem MK{o st:Om}{t u:Tx}{s:Qg}(h:t.kind=6)(hk:t.kids= [u]):gX o st t s=Ck t.name (gX o st u s):=by
 obtain⟨k,n,nm,v,kids⟩:=t;obtain rfl:k=6:=h;obtain rfl:kids= [u]:=hk;rfl
theorem MJ{o st:Om}{t a b:Tx}{s:Qg}(h:t.kind=7)(hk:t.kids= [a,b]):gX o st t s=nG t.name ((gX o st b ((gX o st a s).push 1)).pop 2):=by
 obtain⟨k,n,nm,v,kids⟩:=t;obtain rfl:k=7:=h;obtain rfl:kids= [a,b]:=hk;rfl
theorem MN{o st:Om}{t:Tx}{s:Qg}(h:t.kind=3):gX o st t s=if t.kids.length>0 then((rH o st t.kids s).jump 40 15 0 (bk st t.name)).emit [qi 16 14 14 (4*t.kids.length)]else(rH o st t.kids s).jump 40 15 0 (bk st t.name):=by
 obtain⟨k,n,nm,v,kids⟩:=t;obtain rfl:k=3:=h;rfl
theorem uE{o st:Om}:∀{l:List Tx}{i:Nat}{u:Tx}(s:Qg),l[i]?=some u→rH o st (l.take (i+1)) s=(gX o st u (rH o st (l.take i) s)).push 1
 | [],i,u,s,h=>by simp at h
 | x::r,0,u,s,h=>by cases h;rfl
 | x::r,i+1,u,s,h=>uE (l:=r) _ h
structure Wx(t:Tx):Prop where
 one:t.kind=4∨t.kind=6→∃u,t.kids= [u]
 un:t.kind=6→t.name=ef∨t.name=sN∨t.name=uf
 two:t.kind=7→iZ t.name=true∧∃a b,t.kids= [a,b]
 kids:∀u∈t.kids,rX u=true
 kind:t.kind=1∨t.kind=2∨t.kind=3∨t.kind=4∨t.kind=5∨t.kind=6∨t.kind=7
theorem sE:∀{l:List Tx},nW l=true→∀u∈l,rX u=true
 | [],_,_,h=>by simp at h
 | t::r,h,u,hu=>by
  unfold nW at h;rw [Bool.and_eq_true]at h;rcases List.mem_cons.1 hu with rfl|hu
  ·exact h.1
  ·exact sE h.2 u hu
theorem sK{l:List Tx}(h:l.length=1):∃u,l= [u]:=by
 match l,h with
 | [u],_=>exact⟨u,rfl⟩
theorem AU{l:List Tx}(h:l.length=2):∃a b,l= [a,b]:=by
 match l,h with
 | [a,b],_=>exact⟨a,b,rfl⟩
theorem Fq{t:Tx}(h:rX t=true):Wx t:=by
 obtain⟨k,n,nm,v,kids⟩:=t;unfold rX at h;simp only [Bool.and_eq_true]at h;obtain⟨⟨h1,-⟩,h3⟩:=h;unfold rq at h1;refine⟨fun hk=> ?_,fun hk=> ?_,fun hk=> ?_,sE h3,?_⟩
 ·show ∃u,kids= [u];rcases hk with hk|hk
  ·obtain rfl:k=4:=hk;simp at h1;exact sK h1.2
  ·obtain rfl:k=6:=hk;simp at h1;exact sK h1.2
 ·obtain rfl:k=6:=hk;simp [cU,AB]at h1;rcases h1.1 with h|h|h
  ·exact .inl h
  ·exact .inr (.inl h)
  ·exact .inr (.inr h)
 ·obtain rfl:k=7:=hk;simp at h1;exact⟨h1.1,AU h1.2⟩
 ·show k=1∨k=2∨k=3∨k=4∨k=5∨k=6∨k=7;by_cases k1:k=1
  ·exact .inl k1
  by_cases k2:k=2
  ·exact .inr (.inl k2)
  by_cases k3:k=3
  ·exact .inr (.inr (.inl k3))
  by_cases k4:k=4
  ·exact .inr (.inr (.inr (.inl k4)))
  by_cases k5:k=5
  ·exact .inr (.inr (.inr (.inr (.inl k5))))
  by_cases k6:k=6
  ·exact .inr (.inr (.inr (.inr (.inr (.inl k6)))))
  by_cases k7:k=7
  ·exact .inr (.inr (.inr (.inr (.inr (.inr k7)))))
  simp [k1,k2,k3,k4,k5,k6,k7]at h1
end Go.Proofs.YtedmdgbmdplifaaGreat
