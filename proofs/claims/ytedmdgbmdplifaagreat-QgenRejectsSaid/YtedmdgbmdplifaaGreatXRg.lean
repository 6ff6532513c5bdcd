/-
  A part of the proof. Conditions are with the theorems.
-/
import Derived.Test.YtedmdgbmdplifaaGreatXRa
import Derived.Test.YtedmdgbmdplifaaGreatXRb
import Derived.Test.YtedmdgbmdplifaaGreatXRc
import Derived.Test.YtedmdgbmdplifaaGreatXRd
import Derived.Test.YtedmdgbmdplifaaGreatXRe
import Derived.Test.YtedmdgbmdplifaaGreatXRf
set_option maxHeartbeats 32000000
set_option maxRecDepth 100000
set_option linter.unusedSimpArgs false
set_option linter.unusedVariables false
namespace Go.Proofs.YtedmdgbmdplifaaGreat
open Go.RowKit Tryz
mutual
def uX:Px→Tx
 | .mk k n nm kids=> .mk k n nm bQ (LJ kids)
def LJ:List Px→List Tx
 | []=> []
 | t::r=>uX t::LJ r
end
mutual
def uY:Py→Ty
 | .mk k nm es body els=> .mk k nm bQ (LJ es) bQ (Jd body) bQ (Jd els)
def Jd:List Py→List Ty
 | []=> []
 | t::r=>uY t::Jd r
end
def uF(f:Pf):Tf:=⟨f.name,bQ,f.ps,bQ,Jd f.body⟩
abbrev cX(t:Tx):Tx:=uX (qN t)
abbrev lP(l:List Tx):List Tx:=LJ (jy l)
abbrev cY(t:Ty):Ty:=uY (IV t)
abbrev i7(l:List Ty):List Ty:=Jd (kP l)
abbrev cF(f:Tf):Tf:=uF (AD f)
theorem kJ:∀l:List Tx,(lP l).length=l.length
 | []=>rfl
 | t::r=>congrArg (· +1) (kJ r)
theorem kI:∀l:List Ty,(i7 l).length=l.length
 | []=>rfl
 | t::r=>congrArg (· +1) (kI r)
mutual
theorem L8:∀t:Tx,rX (cX t)=rX t
 | .mk k n nm v kids=>by
  show(rq k nm (lP kids).length&&(decide (k=1) || decide (n=0))&&nW (lP kids))=_;rw [kJ,Bo kids];rfl
theorem Bo:∀l:List Tx,nW (lP l)=nW l
 | []=>rfl
 | t::r=>by show(rX (cX t)&&nW (lP r))=(rX t&&nW r);rw [L8 t,Bo r]
end
mutual
theorem L7:∀t:Ty,rY (cY t)=rY t
 | .mk k nm ve es vb body vl els=>by
  show(FE k nm (lP es).length (i7 body).length (i7 els).length&&nW (lP es)&&kU (i7 body)&&kU (i7 els))=_;rw [kJ,kI,kI,Bo es,xW body,xW els];rfl
theorem xW:∀l:List Ty,kU (i7 l)=kU l
 | []=>rfl
 | t::r=>by show(rY (cY t)&&kU (i7 r))=(rY t&&kU r);rw [L7 t,xW r]
end
mutual
theorem Mr:∀t:Tx,nX (cX t)=nX t
 | .mk k n nm v kids=>by show fM (lP kids)+1=_;rw [BH kids];rfl
theorem BH:∀l:List Tx,fM (lP l)=fM l
 | []=>rfl
 | t::r=>by show nX (cX t)+fM (lP r)=nX t+fM r;rw [Mr t,BH r]
end
mutual
theorem MX:∀t:Tx,dX (cX t)=dX t
 | .mk k n nm v kids=>by show gJ (lP kids)+1=_;rw [CI kids];rfl
theorem CI:∀l:List Tx,gJ (lP l)=gJ l
 | []=>rfl
 | t::r=>by show max (dX (cX t)) (gJ (lP r))=max (dX t) (gJ r);rw [MX t,CI r]
end
mutual
theorem Mq:∀t:Ty,nY (cY t)=nY t
 | .mk k nm ve es vb body vl els=>by show 1+fM (lP es)+d9 (i7 body)+d9 (i7 els)=_;rw [BH,rz body,rz els];rfl
theorem rz:∀l:List Ty,d9 (i7 l)=d9 l
 | []=>rfl
 | t::r=>by show nY (cY t)+d9 (i7 r)=nY t+d9 r;rw [Mq t,rz r]
end
mutual
theorem LW:∀t:Ty,vY (cY t)=vY t
 | .mk k nm ve es vb body vl els=>by show(if k=1 then 1 else 0)+dA (i7 body)+dA (i7 els)=_;rw [xH body,xH els];rfl
theorem xH:∀l:List Ty,dA (i7 l)=dA l
 | []=>rfl
 | t::r=>by show vY (cY t)+dA (i7 r)=vY t+dA r;rw [LW t,xH r]
end
mutual
theorem Kl:∀(d:Nat)(t:Ty),Ds d (cY t)=Ds d t
 | d,.mk k nm ve es vb body vl els=>by show(decide (d>8) || decide (gJ (lP es)>8) || db (d+1) (i7 body) || db (d+1) (i7 els))=_;rw [CI,tm _ body,tm _ els];rfl
theorem tm:∀(d:Nat)(l:List Ty),db d (i7 l)=db d l
 | d,[]=>rfl
 | d,t::r=>by show(Ds d (cY t) || db d (i7 r))=(Ds d t || db d r);rw [Kl d t,tm d r]
end
theorem oo(fs:List Tf)(x:Ba):cK (fs.map cF) x=(cK fs x).map cF:=by
 unfold cK;rw [List.find?_map];rfl
theorem Kg(fs:List Tf)(x:Ba):xc (fs.map cF) x=xc fs x:=by
 unfold xc vC;rw [List.findIdx?_map];rfl
mutual
theorem MV(fs:List Tf)(ns:List Ba):∀t:Tx,eX (fs.map cF) ns (cX t)=eX fs ns t
 | .mk k n nm v kids=>by
  rw [show cX (.mk k n nm v kids)= .mk k n nm bQ (lP kids)from J,eX,eX,Cy fs ns kids,oo,kJ];cases cK fs nm<;>rfl
theorem Cy(fs:List Tf)(ns:List Ba):∀l:List Tx,ju (fs.map cF) ns (lP l)=ju fs ns l
 | []=>by show ju _ ns []=_;rw [ju,ju]
 | t::r=>by
  rw [show lP (t::r)=cX t::lP r from J,ju,ju,MV fs ns t,Cy fs ns r]
end
mutual
theorem Ns(fs:List Tf):∀(t:Ty)(ns:List Ba),bY (fs.map cF) ns (cY t)=bY fs ns t
 | .mk k nm ve es vb body vl els,ns=>by
  rw [show cY (.mk k nm ve es vb body vl els)= .mk k nm bQ (lP es) bQ (i7 body) bQ (i7 els)from J,bY,bY];simp only [za fs body,za fs els,Cy]
theorem za(fs:List Tf):∀(l:List Ty)(ns:List Ba),dx (fs.map cF) ns (i7 l)=dx fs ns l
 | [],ns=>by show dx _ ns []=_;rw [dx,dx]
 | t::r,ns=>by
  rw [show i7 (t::r)=cY t::i7 r from J,dx,dx];simp only [Ns fs t,za fs r]
end
theorem Ii(fs:List Tf)(f:Tf):lD (fs.map cF) (cF f)=lD fs f:=by
 unfold lD;show fst (if f.ps.length>4∨f.ps.length+dA (i7 f.body)>12∨d9 (i7 f.body)>400∨db 1 (i7 f.body)=true then 2 else 0) (fst (tB [] f.ps) (dx (fs.map cF) f.ps (i7 f.body)).2)=_;rw [xH,rz,tm,za]
theorem y6(fs:List Tf):∀l:List Tf,gh (fs.map cF) (l.map cF)=gh fs l
 | []=>rfl
 | f::r=>by
  rw [List.map_cons,gh,gh,Ii,y6 fs r]
theorem L9(fs:List Tf):rP (fs.map cF)=rP fs:=by
 unfold rP;rw [List.all_map]
 congr 1
 funext f;show(f.ps.all dz&&dz f.name&&kU (i7 f.body))=_;rw [xW];rfl
theorem Hk(fs:List Tf):once (fs.map cF)=once fs:=by
 unfold once;rw [List.length_map]
 congr 1
 funext i;have:((fs.map cF).getD i ⟨cG,bQ,[],bQ,[]⟩).name=(fs.getD i ⟨cG,bQ,[],bQ,[]⟩).name:=by
  rw [List.getD_eq_getElem?_getD,List.getD_eq_getElem?_getD,List.getElem?_map];cases fs[i]?<;>rfl
 rw [this,Kg]
theorem CQ(fs:List Tf):jn (fs.map cF)=jn fs:=by
 unfold jn;rw [L9,Hk,List.length_map,oo,y6];cases cK fs dV<;>rfl
theorem FK:∀fs:List Tf,uh (fs.map cF)=uh fs
 | []=>rfl
 | f::r=>by
  show d9 (i7 f.body)+uh (r.map cF)=_;rw [rz,FK r];rfl
mutual
theorem NB:∀t:Tx,GX (cX t)→GX t
 | .mk k n nm v kids,h=>⟨h.1,h.2.1,by have:=h.2.2.1;rwa [kJ]at this,Dl kids h.2.2.2⟩
theorem Dl:∀l:List Tx,GXs (lP l)→GXs l
 | [],_=>trivial
 | t::r,h=>⟨NB t h.1,Dl r h.2⟩
end
mutual
theorem Nz:∀t:Ty,GY (cY t)→GY t
 | .mk k nm ve es vb body vl els,h=>⟨h.1,⟨by have:=h.2.1.1;rwa [kJ]at this,Dl es h.2.1.2⟩,⟨by have:=h.2.2.1.1;rwa [kI]at this,zf body h.2.2.1.2⟩,⟨by have:=h.2.2.2.1;rwa [kI]at this,zf els h.2.2.2.2⟩⟩
theorem zf:∀l:List Ty,GYs (i7 l)→GYs l
 | [],_=>trivial
 | t::r,h=>⟨Nz t h.1,zf r h.2⟩
end
theorem NC{fs:List Tf}(h:GP (fs.map cF)):GP fs:=by
 refine⟨by have:=h.1;rwa [List.length_map]at this,fun f hf=> ?_⟩;obtain⟨h1,h2,h3,h4,h5,h6⟩:=h.2 (cF f) (List.mem_map_of_mem hf);refine⟨h1,h2,h3,?_,zf f.body h5,?_⟩
 ·have:(i7 f.body).length≤1000000:=h4
  rwa [kI]at this
 ·have:f.ps.length+d9 (i7 f.body)≤1000000:=h6
  rwa [rz]at this
theorem FN{fs:List Tf}{ps:List Pf}(h:fs.map AD=ps):fs.map cF=ps.map uF:=by
 rw [←h,List.map_map];rfl
def Of(fs:List Tf)(g:Nat):Prop:=
 (∀d vs t s,jl g (fs.map cF) d vs (cX t) s=jl g fs d vs t s)∧(∀d vs acc l s,jC g (fs.map cF) d vs acc (lP l) s=jC g fs d vs acc l s)∧
 (∀d f al s,qM g (fs.map cF) d (cF f) al s=qM g fs d f al s)∧(∀d vs l s,kO g (fs.map cF) d vs (i7 l) s=kO g fs d vs l s)∧
 (∀d vs t s,nH g (fs.map cF) d vs (cY t) s=nH g fs d vs t s)∧(∀d vs t l v s,qL g (fs.map cF) d vs (cX t) (i7 l) v s=qL g fs d vs t l v s)
theorem Kh(fs:List Tf):∀g,Of fs g
 | 0=>⟨fun _ _ _ _=>by rw [jl,jl],fun _ _ _ _ _=>by rw [jC,jC],fun _ _ _ _=>by rw [qM,qM],fun _ _ _ _=>by rw [kO,kO],fun _ _ _ _=>by rw [nH,nH],fun _ _ _ _ _ _=>by rw [qL,qL]⟩
 | g+1=>by
  obtain⟨hX,hK,hC,hB,hS,hW⟩:=Kh fs g;refine⟨fun d vs t s=> ?_,fun d vs acc l s=> ?_,fun d f al s=> ?_,fun d vs l s=> ?_,fun d vs t s=> ?_,fun d vs t l v s=> ?_⟩
  ·cases t with
   | mk k n nm v kids=>
    rw [show cX (.mk k n nm v kids)= .mk k n nm bQ (lP kids)from J,jl,jl];dsimp only [Tx.kids,Tx.kind,Tx.name,Tx.n];rw [hK,oo];split
    ·rfl
    ·cases jC g fs d vs [] kids {s with fuel:=s.fuel-1}with
     | none=>rfl
     | some q=>
      cases q with
      | err e=>rfl
      | ok ks s1=>
       dsimp only
       iterate 6 refine ite_congr rfl (fun _=>rfl) (fun _=> ?_)
       cases cK fs nm with
       | none=>rfl
       | some f=>exact hC _ _ _ _
  ·cases l with
   | nil=>show jC (g+1) _ d vs acc [] s=_;rw [jC,jC]
   | cons t r=>
    rw [show lP (t::r)=cX t::lP r from J,jC,jC,hX];cases jl g fs d vs t s with
    | none=>rfl
    | some r=>
     cases r with
     | err e=>rfl
     | ok v s1=>exact hK _ _ _ _ _
  ·rw [qM,qM];show(if d=12 then some (Re.err 26)else match kO g (fs.map cF) (d+1) (gN [] f.ps al) (i7 f.body) s with|none=>none|some (.err e)=>some (.err e)|some (.ok (_,r) s1)=>some (.ok (r.getD 0) s1))=_;rw [hB];rfl
  ·cases l with
   | nil=>show kO (g+1) _ d vs [] s=_;rw [kO,kO]
   | cons t r=>
    rw [show i7 (t::r)=cY t::i7 r from J,kO,kO,hS];cases nH g fs d vs t s with
    | none=>rfl
    | some q=>
     cases q with
     | err e=>rfl
     | ok v s1=>
      obtain⟨vs1,o⟩:=v;cases o with
      | none=>exact hB _ _ _ _
      | some x=>rfl
  ·cases t with
   | mk k nm ve es vb body vl els=>
    rw [show cY (.mk k nm ve es vb body vl els)= .mk k nm bQ (lP es) bQ (i7 body) bQ (i7 els)from J,nH,nH];dsimp only [Ty.es,Ty.kind,Ty.name,Ty.body,Ty.els];split
    ·rfl
    ·cases es with
     | nil=>rfl
     | cons e es=>
      rw [show lP (e::es)=cX e::lP es from J];dsimp only;rw [hX];cases jl g fs d vs e {s with fuel:=s.fuel-1}with
      | none=>rfl
      | some q=>
       cases q with
       | err e=>rfl
       | ok v s1=>
        dsimp only;refine ite_congr J (fun _=>J) (fun _=>ite_congr J (fun _=> ?_) (fun _=>ite_congr J (fun _=> ?_) (fun _=>ite_congr J (fun _=> ?_) (fun _=>J))))
        ·cases es with
         | nil=>rfl
         | cons e2 es2=>
          rw [show lP (e2::es2)=cX e2::lP es2 from J];dsimp only;rw [hX]
        ·by_cases hv:v=0
         ·rw [ao hv,ao hv];exact hB _ _ _ _
         ·rw [ac hv,ac hv];exact hB _ _ _ _
        ·exact hW _ _ _ _ _ _
  ·rw [qL,qL];split
   ·rfl
   ·rw [hB];cases kO g fs d vs l s with
    | none=>rfl
    | some q=>
     cases q with
     | err e=>rfl
     | ok v s1=>
      obtain⟨vs1,o⟩:=v;cases o with
      | some x=>rfl
      | none=>
       show(match jl g (fs.map cF) d vs1 (cX t) s1 with|none=>none|some (Re.err e)=>some (Re.err e)|some (Re.ok w s2)=>qL g (fs.map cF) d vs1 (cX t) (i7 l) w s2)=(match jl g fs d vs1 t s1 with|none=>none|some (Re.err e)=>some (Re.err e)|some (Re.ok w s2)=>qL g fs d vs1 t l w s2);rw [hX];cases jl g fs d vs1 t s1 with
       | none=>rfl
       | some q=>
        cases q with
        | err e=>rfl
        | ok w s2=>exact hW _ _ _ _ _ _
theorem Jm{fs:List Tf}{ins:List Int}{fuel:Int}{ru:Ru}(h:RunIs (fs.map cF) ins fuel ru):RunIs fs ins fuel ru:=by
 cases h with
 | bad h=>
  rw [CQ]at h ⊢;exact .bad h
 | run f g r h hf he=>
  rw [CQ]at h;rw [oo]at hf;cases hq:cK fs dV with
  | none=>rw [hq]at hf;cases hf
  | some f0=>
   rw [hq]at hf;have hf:cF f0=f:=dr hf;subst hf;rw [(Kh fs g).2.2.1]at he;exact .run f0 g r h hq he
def GH:Ba:=(⟨#[102,110,32,109,97,105,110,40,41,32,123,32,111,117,116,32,105,110,32,45,32,105,110,32,42,32,50,59,32,111,117,116,32,49,32,60,32,50,59,32,125]⟩:Ba)
def ts0:List Tk:=(tz GH 200 0 []).getD []
def pg0:List Pf:=(pP ts0 1000 [] 0).getD []
theorem NZ:tz GH 200 0 []=some ts0:=by kernel_rfl
theorem NT:pP ts0 1000 [] 0=some pg0:=by kernel_rfl
theorem NW:ts0.length≤20000:=Nat.le_of_ble_eq_true (by kernel_rfl)
def GG:Ba:=(⟨#[102,110,32,109,97,105,110,40,41,32,123,32,109,101,109,91,50,53,55,93,32,61,32,57,59,32,111,117,116,32,109,101,109,91,49,93,32,47,32,48,59,32,125]⟩:Ba)
def ts1:List Tk:=(tz GG 200 0 []).getD []
def pg1:List Pf:=(pP ts1 1000 [] 0).getD []
theorem NY:tz GG 200 0 []=some ts1:=by kernel_rfl
theorem NS:pP ts1 1000 [] 0=some pg1:=by kernel_rfl
theorem NV:ts1.length≤20000:=Nat.le_of_ble_eq_true (by kernel_rfl)
def GE:Ba:=(⟨#[102,110,32,109,97,105,110,40,41,32,123,32,111,117,116,32,102,40,51,41,59,32,125,32,102,110,32,102,40,110,41,32,123,32,114,101,116,117,114,110,32,102,40,110,41,59,32,125]⟩:Ba)
def ts2:List Tk:=(tz GE 200 0 []).getD []
def pg2:List Pf:=(pP ts2 1000 [] 0).getD []
theorem NX:tz GE 200 0 []=some ts2:=by kernel_rfl
theorem NR:pP ts2 1000 [] 0=some pg2:=by kernel_rfl
theorem NU:ts2.length≤20000:=Nat.le_of_ble_eq_true (by kernel_rfl)
def IN(s:Ba):Bool:=s.data.toList.all (fun b=>decide (b.toNat<128))&&decide (s.size≤1000000)
theorem sO{s:Ba}(h:IN s=true):FI s:=by
 unfold IN at h;rw [Bool.and_eq_true,decide_eq_true_eq,List.all_eq_true]at h;refine⟨fun i hi=> ?_,h.2⟩;have:=h.1 (s[i]'hi) (by
  have:s[i]'hi=s.data[i]:=J;rw [this];exact Array.getElem_mem_toList ..)
 exact de this
mutual
def My:Tx→Bool
 | .mk k n nm _ kids=>(decide (0≤n)&&decide (n<4294967296))&&(IN nm&&(decide (kids.length≤1000000)&&B5 kids))
def B5:List Tx→Bool
 | []=>true
 | t::r=>My t&&B5 r
end
mutual
def Mx:Ty→Bool
 | .mk k nm _ es _ body _ els=>IN nm&&((decide (es.length≤1000000)&&B5 es)&&((decide (body.length≤1000000)&&z8 body)&&(decide (els.length≤1000000)&&z8 els)))
def z8:List Ty→Bool
 | []=>true
 | t::r=>Mx t&&z8 r
end
def NJ(f:Tf):Bool:=IN f.name&&(f.ps.all IN&&(decide (f.ps.length≤1000000)&&(decide (f.body.length≤1000000)&&(z8 f.body&&decide (f.ps.length+d9 f.body≤1000000)))))
def NI(fs:List Tf):Bool:=decide (fs.length≤1000000)&&fs.all NJ
mutual
theorem HF:∀t:Tx,My t=true→GX t
 | .mk k n nm v kids,h=>by
  unfold My at h;simp only [Bool.and_eq_true,decide_eq_true_eq]at h;exact⟨h.1,sO h.2.1,h.2.2.1,s8 kids h.2.2.2⟩
theorem s8:∀l:List Tx,B5 l=true→GXs l
 | [],_=>trivial
 | t::r,h=>by
  unfold B5 at h;rw [Bool.and_eq_true]at h;exact⟨HF t h.1,s8 r h.2⟩
end
mutual
theorem HE:∀t:Ty,Mx t=true→GY t
 | .mk k nm ve es vb body vl els,h=>by
  unfold Mx at h;simp only [Bool.and_eq_true,decide_eq_true_eq]at h;exact⟨sO h.1,⟨h.2.1.1,s8 es h.2.1.2⟩,⟨h.2.2.1.1,n_ body h.2.2.1.2⟩,h.2.2.2.1,n_ els h.2.2.2.2⟩
theorem n_:∀l:List Ty,z8 l=true→GYs l
 | [],_=>trivial
 | t::r,h=>by
  unfold z8 at h;rw [Bool.and_eq_true]at h;exact⟨HE t h.1,n_ r h.2⟩
end
theorem wQ{fs:List Tf}(h:NI fs=true):GP fs:=by
 unfold NI at h;rw [Bool.and_eq_true,decide_eq_true_eq,List.all_eq_true]at h;refine⟨h.1,fun f hf=> ?_⟩;have:=h.2 f hf;unfold NJ at this;simp only [Bool.and_eq_true,decide_eq_true_eq,List.all_eq_true]at this;exact⟨sO this.1,fun s hs=>sO (this.2.1 s hs),this.2.2.1,this.2.2.2.1,n_ _ this.2.2.2.2.1,this.2.2.2.2.2⟩
def wc(fs:List Tf)(ins:List Int)(fuel:Int):Option (Re Int):=match cK fs dV with
 | none=>none
 | some f=>qM 400 fs 0 f [] (FM ins fuel)
theorem D3{fs:List Tf}{ins:List Int}{fuel:Int}{r:Re Int}(hc:jn fs=0)(h:wc fs ins fuel=some r):RunIs fs ins fuel (GM r):=by
 unfold wc at h;split at h
 ·cases h
 ·rename_i f hf;exact .run f 400 r hc hf h
def yd(o:List Int):Option (Re Int)→Bool
 | some (.ok _ s)=>decide (s.out=o)
 | _=>false
def JP(k:Nat)(v:Int):Option (Re Int)→Bool
 | some (.ok _ s)=>decide (s.mem k=v)
 | _=>false
def BZ(e:Int):Option (Re Int)→Bool
 | some (.err z)=>decide (z=e)
 | _=>false
abbrev LN:List Tf:=pg0.map uF
theorem Oe:GP LN:=wQ (by kernel_rfl)
theorem NN:jn LN=0:=by kernel_rfl
theorem N9:uh LN≤120:=Nat.le_of_ble_eq_true (by kernel_rfl)
abbrev JD:List Tf:=pg1.map uF
theorem Od:GP JD:=wQ (by kernel_rfl)
theorem NM:jn JD=0:=by kernel_rfl
theorem N8:uh JD≤120:=Nat.le_of_ble_eq_true (by kernel_rfl)
abbrev LM:List Tf:=pg2.map uF
theorem Oc:GP LM:=wQ (by kernel_rfl)
theorem NL:jn LM=0:=by kernel_rfl
theorem N7:uh LM≤120:=Nat.le_of_ble_eq_true (by kernel_rfl)
theorem N3:yd [4294967293,1] (wc LN [7,5] 60)=true:=by kernel_rfl
theorem ro1:yd [0] (wc JD [7,5] 60)=true:=by kernel_rfl
theorem N4:JP 1 9 (wc JD [7,5] 60)=true:=by kernel_rfl
theorem N5:BZ 26 (wc LM [7,5] 60)=true:=by kernel_rfl
theorem iS{fs:List Tf}(hg:GP fs)(hc:jn fs=0)(hn:uh fs≤120):(ir fs).length≤1984:=by
 by_cases h:(ir fs).length≤1984
 ·exact h
 ·have:=BP hg hc h;omega
theorem oH{fs:List Tf}(hg:GP fs)(hc:jn fs=0)(hn:uh fs≤120):Fa fs=(2,iP (d5 (ir fs)),0):=by
 have:=iS hg hc hn;unfold Fa;rw [ac (by omega),ac (by omega)]
theorem oG{fs:List Tf}(hg:GP fs)(hc:jn fs=0)(hn:uh fs≤120):(iP (d5 (ir fs))).size≤7936:=by
 have:=iS hg hc hn;rw [e9,fS];omega
structure Kf(fs:List Tf)(ps:List Pf):Prop where
 e:fs.map AD=ps
 g:GP fs
 c:jn fs=0
 n:uh fs≤120
theorem Kf.of{fs:List Tf}{ps:List Pf}(h:fs.map AD=ps)(hg:GP (ps.map uF))(hc:jn (ps.map uF)=0)(hn:uh (ps.map uF)≤120):Kf fs ps:=by
 rw [←FN h]at hg hc hn;rw [CQ]at hc;rw [FK]at hn;exact⟨h,NC hg,hc,hn⟩
theorem Kf.run{fs:List Tf}{ps:List Pf}(h:Kf fs ps){ins:List Int}{fuel:Int}{r:Re Int}(hc:jn (ps.map uF)=0)(hr:wc (ps.map uF) ins fuel=some r):RunIs fs ins fuel (GM r):=by
 have:=D3 hc hr;rw [←FN h.e]at this;exact Jm this
theorem rr{o:List Int}{x:Option (Re Int)}(h:yd o x=true):∃v s,x=some (.ok v s)∧s.out=o:=by
 unfold yd at h;split at h
 ·rename_i v s;exact⟨v,s,J,de h⟩
 ·cases h
theorem z5{e:Int}{x:Option (Re Int)}(h:BZ e x=true):x=some (.err e):=by
 unfold BZ at h;split at h
 ·rename_i z;rw [de h]
 ·cases h
theorem xR(va vb:SV)(a b:List Int)(ha:a.length≤1000000000):Spec prog 44 [sv va,sv vb] [] [sl 1 eU (sv va) a,own 41 1 eU (sv vb) b] (X:=Unit) (fun _=>True) (fun _=> .bool (decide (a=b))) (fun _=> []) (fun _=> []):=
 Spec.roAll (zB va vb a b ha) fun i A hA=>by
  match i,hA with
  | 0,hA=>exact⟨_,rfl,by cases hA;exact fun _ _ h=>h⟩
  | 1,hA=>exact⟨_,rfl,by cases hA;exact bE⟩
theorem Mw:∀x∈([7,5]:List Int),oW x:=fun x hx=>by
 simp only [List.mem_cons,List.not_mem_nil,or_false]at hx;rcases hx with rfl|rfl<;>exact⟨by decide,by decide⟩
theorem Ob{fs:List Tf}(h:fs.map AD=pg0):Kf fs pg0:=Kf.of h Oe NN N9
theorem Oa{fs:List Tf}(h:fs.map AD=pg1):Kf fs pg1:=Kf.of h Od NM N8
theorem N_{fs:List Tf}(h:fs.map AD=pg2):Kf fs pg2:=Kf.of h Oc NL N7
theorem tQ:
  aO prog 12 [] [] [] (.bool true) []:=by
 refine au func12 J ntmps12 J fun w0 M H=> ?_
 obtain⟨v0,s0,hr0,ho0⟩:=rr N3;obtain⟨v1,s1,hr1,ho1⟩:=rr ro1;have hr2:=z5 N5;have hm1:s1.mem 1=9:=by
  have:=N4;rw [hr1]at this;exact de this
 refine ak (am J (av J (ae (xs:= [.const (Sg (ByteArray.mk #[102,110,32,109,97,105,110,40,41,32,123,32,111,117,116,32,105,110,32,45,32,105,110,32,42,32,50,59,32,111,117,116,32,49,32,60,32,50,59,32,125]))]) (jU GH (Nat.le_of_ble_eq_true (by kernel_rfl)) 200 ts0 NZ NW pg0 NT) Ip [] [] [80] (fun x0 hx0=> ?_))));have kk0:=Ob hx0;have hz0:=oG kk0.g kk0.c kk0.n;refine ae (xs:= [.tmp 12]) (lC x0.1 x0.2 kk0.g (oH kk0.g kk0.c kk0.n)) Iq [] [(true,80)] [] (fun _ _=>ab J (aH (cv J J) (aH (cv J J) (aV qY J J fun b1=>aq (k:=1) qY J J J J J J (am J (av J (ae (xs:= [.const (Sg (ByteArray.mk #[102,110,32,109,97,105,110,40,41,32,123,32,109,101,109,91,50,53,55,93,32,61,32,57,59,32,111,117,116,32,109,101,109,91,49,93,32,47,32,48,59,32,125]))]) (jU GG (Nat.le_of_ble_eq_true (by kernel_rfl)) 200 ts1 NY NV pg1 NS) Ip [] [] [81] (fun x1 hx1=> ?_))))))));have kk1:=Oa hx1;have hz1:=oG kk1.g kk1.c kk1.n;refine ae (xs:= [.tmp 17]) (lC x1.1 x1.2 kk1.g (oH kk1.g kk1.c kk1.n)) Iq [] [(true,81)] [] (fun _ _=>ab J (aH (cv J J) (aH (cv J J) (aV qY J J fun b3=>aq (k:=3) qY J J J J J J (am J (av J (ae (xs:= [.const (Sg (ByteArray.mk #[102,110,32,109,97,105,110,40,41,32,123,32,111,117,116,32,102,40,51,41,59,32,125,32,102,110,32,102,40,110,41,32,123,32,114,101,116,117,114,110,32,102,40,110,41,59,32,125]))]) (jU GE (Nat.le_of_ble_eq_true (by kernel_rfl)) 200 ts2 NX NU pg2 NR) Ip [] [] [82] (fun x2 hx2=> ?_))))))));have kk2:=N_ hx2;have hz2:=oG kk2.g kk2.c kk2.n;refine ae (xs:= [.tmp 22]) (lC x2.1 x2.2 kk2.g (oH kk2.g kk2.c kk2.n)) Iq [] [(true,82)] [] (fun _ _=>ab J (aH (cv J J) (aH (cv J J) (aV qY J J fun b5=>aq (k:=5) qY J J J J J J (am J (aa (aS (ab J (ap J J ga (ab J (aF [] J J O (fun hg1=>aX J) J (aF [(29,_)] J J ⟨J,O⟩ (fun hg2=>aU J J ga) J (aH (bw J J J) (ab J (aF [] J J O (fun hg3=>aX J) J (aF [(33,_)] J J ⟨J,O⟩ (fun hg4=>aU J J ga) J ?_))))))))))))))))
 refine aH (bw J J J) (ab J (aF [] J J O (fun hg5=>ai jk J) J (aF [(37,_)] J J ⟨J,O⟩ (fun hg6=>ag t9 J J (aB (k:=1) J J)) J (aF [(37,_),(38,_)] J J ⟨J,J,O⟩ (fun hg7=>ck underlying9 J) J (aF [(37,_),(38,_),(39,_)] J J ⟨J,J,J,O⟩ (fun hg8=>aU J J fU) J (aH (bw J J J) (ab J (aF [] J J O (fun hg9=>ai jk J) J (aF [(43,_)] J J ⟨J,O⟩ (fun hg10=>ag t9 J J (aB (k:=3) J J)) J (aF [(43,_),(44,_)] J J ⟨J,J,O⟩ (fun hg11=>ck underlying9 J) J (aF [(43,_),(44,_),(45,_)] J J ⟨J,J,J,O⟩ (fun hg12=>aU J J fU) J (aH (bw J J J) (ab J (aF [] J J O (fun hg13=>ai jk J) J (aF [(49,_)] J J ⟨J,O⟩ (fun hg14=>ag t9 J J (aB (k:=5) J J)) J (aF [(49,_),(50,_)] J J ⟨J,J,O⟩ (fun hg15=>ck underlying9 J) J (aF [(49,_),(50,_),(51,_)] J J ⟨J,J,J,O⟩ (fun hg16=>aU J J fU) J (aH (bw J J J) (aa ?_)))))))))))))))))));refine ah J (fun h17=> ?_) (fun h17=> ?_)
 ·(exfalso;have q:=h17;simp at q;omega)
 ·(try simp only [aY]at h17);refine az (ak (dB eU [7,5] (parts:= [(0,.const (I3 7)),(1,.const (I3 5))]) underlying48 dt J (by decide) (by intro _;rfl) J (by decide) (by decide) J J J J fun v54=>cr 54 0 (A':=sl 1 eU (sv v54) [7,5]) J bE (am J (av J (ax jk J (aL 1 t9 J J J J (ab J ?_)))))));obtain⟨t0,o0,m0,hs0,⟨hol0,hml0⟩,ha0,hb0⟩:=se kk0.g kk0.c (iS kk0.g kk0.c kk0.n) v54 Mw (fuel:=60) (by decide) (kk0.run NN hr0) (most:=10000) (by decide) (by show(0:Int)≠25;decide);obtain⟨e0a,e0b,e0c⟩:=ha0 J;have e0b:o0=s0.out:=e0b;have e0c:m0=(List.range 256).map s0.mem:=e0c;rw [ho0]at e0b;subst e0a;refine ae (xs:= [.tmp 56,.tmp 57,.const (I6 10000)]) hs0 Io [] [(false,0)] [90,91] (fun z0 _=>eV (k:=90) (A':=sl 1 eU (sv z0.1) o0) J bE (aV zk J J fun b8=>aq (k:=8) zk J J J J J J (av J (ax jk J (aL 3 t9 J J J J (ab J ?_))))));obtain⟨t1,o1,m1,hs1,⟨hol1,hml1⟩,ha1,hb1⟩:=se kk1.g kk1.c (iS kk1.g kk1.c kk1.n) v54 Mw (fuel:=60) (by decide) (kk1.run NM hr1) (most:=10000) (by decide) (by show(0:Int)≠25;decide);obtain⟨e1a,e1b,e1c⟩:=ha1 J;have e1b:o1=s1.out:=e1b;have e1c:m1=(List.range 256).map s1.mem:=e1c;rw [ho1]at e1b;subst e1a;refine ae (xs:= [.tmp 60,.tmp 61,.const (I6 10000)]) hs1 Io [] [(false,0)] [92,93] (fun z1 _=>eV (k:=92) (A':=sl 1 eU (sv z1.1) o1) J bE (aV zk J J fun b9=>aq (k:=9) zk J J J J J J (av J (ax jk J (aL 5 t9 J J J J (ab J ?_))))));obtain⟨t2,o2,m2,hs2,⟨hol2,hml2⟩,ha2,hb2⟩:=se kk2.g kk2.c (iS kk2.g kk2.c kk2.n) v54 Mw (fuel:=60) (by decide) (kk2.run NL hr2) (most:=10000) (by decide) (by show(26:Int)≠25;decide);have e2a:=hb2 J;subst e2a;refine ae (xs:= [.tmp 64,.tmp 65,.const (I6 10000)]) hs2 Io [] [(false,0)] [94,95] (fun z2 _=>eV (k:=94) (A':=sl 1 eU (sv z2.1) o2) J bE (aV zk J J fun b10=>aq (k:=10) zk J J J J J J (av J (ax w9 J (aL 1 t3 J J J J (ap J J bc (ab J (d7 (t:=70) J (fun h18=> ?_) (fun h18=>False.elim (by cases h18))))))))))
  refine aK J J (ax pF J (aK J J (aL 8 Dn J J J J (aK J J (dB eU [4294967293,1] (parts:= [(0,.const (I3 4294967293)),(1,.const (I3 1))]) underlying48 dt J (by decide) (by intro _;rfl) J (by decide) (by decide) J J J J fun v73=>aK J J (ae (xs:= [.tmp 72,.tmp 73]) (xR z0.1 v73 o0 [4294967293,1] hol0) Ky [] [(true,90),(true,73)] [] (fun _ _=>aH (bw J J J) (ab J (d7 (t:=76) J (fun h19=> ?_) (fun h19=>False.elim (by revert h19;rw [e0b];simp)))))))))));refine aK J J (ax w7 J (aK J J (aH (aM (us:= [I6 4,I3 0]) xM J J J (k8 (k:=8) J J)) (aK J J (aH (aT (parts:= [(0,.const (I6 4))]) xM Jv J J) (aK J J (ap J J It (aH (bw J J J) (ab J (d7 (t:=82) J (fun h20=> ?_) (fun h20=>False.elim (by revert h20;simp))))))))))));refine aK J J (ax pF J (aK J J (aL 9 Dn J J J J (aK J J (bD eU 0 underlying48 dt J (by decide) (by decide) J J J J fun v85=>aK J J (ae (xs:= [.tmp 84,.tmp 85]) (xR z1.1 v85 o1 [0] hol1) Ky [] [(true,92),(true,85)] [] (fun _ _=>aH (bw J J J) (ab J (aF [] J J O (fun hg21=>ai pD J) J (aF [(89,_)] J J ⟨J,O⟩ (fun hg22=>ag Dn J J (aB (k:=9) J J)) J (aF [(89,_),(90,_)] J J ⟨J,J,O⟩ (fun hg23=>aR (j:=1) underlying48 dt J J (bl (k:=93) J) J (by rw [e1c,List.length_map,List.length_range];decide)) J ?_)))))))))));refine aF [(89,_),(90,_),(91,_)] J J ⟨J,J,J,O⟩ (fun hg24=>ag dt J J (ci (bl (k:=93) J) (by intro _;rfl) (show m1[1]?=some 9 by rw [e1c];show some (s1.mem 1)=_;rw [hm1]) (by rfl))) J ?_;refine aF [(89,_),(90,_),(91,_),(92,_)] J J ⟨J,J,J,J,O⟩ (fun hg25=>aU J J bc) J (aH (bw J J J) (ab J (aF [] J J O (fun hg26=>ai w7 J) J (aF [(96,_)] J J ⟨J,O⟩ (fun hg27=>cH pG J) J (aF [(96,_),(97,_)] J J ⟨J,J,O⟩ (fun hg28=>ag t3 J J (aB (k:=10) J J)) J (aF [(96,_),(97,_),(98,_)] J J ⟨J,J,J,O⟩ (fun hg29=>aU J J bc) J (aH (bw J J J) (am J (aa (ar (aG () O J (bR (aD J)) (by rw [e1b];simp) [] [] J J J)))))))))))
section
variable{P:Program}{N:Nat}{w0:World}{M H:Nat→Prop}{E:d_}{Γ R:dF}{Q:Exit→Act→World→Prop}
end
structure Sl0 where
 d:Nat
 c:Nat
 od:Bool
 oc:Bool
 cd:Nat
 cc:Nat
 r:Int
def j8(s:Sl0):List Value:= [Pt s.d,Pt s.c,.bool s.od,.bool s.oc,Pt s.cd,Pt s.cc,I6 s.r]
def fR(l:List Int):List Value:=l.map (Value.int .u8)
def iB(L:List Sl0)(D C:List (List Int))(h:Nat→Prop):Asn:=
 ⟨fun w F=>∀(i:Nat)(s:Sl0),L[i]?=some s→(¬h s.d→F s.d∧w.heap[s.d]?=some (.cells (fR (D.getD i [])).toArray 159 (0,0)))∧(¬h s.c→F s.c∧w.heap[s.c]?=some (.cells (fR (C.getD i [])).toArray 159 (0,0))),
  fun hh hs i s hi=>⟨fun hn=>⟨((hh i s hi).1 hn).1,(hs _ ((hh i s hi).1 hn).1).trans ((hh i s hi).1 hn).2⟩,fun hn=>⟨((hh i s hi).2 hn).1,(hs _ ((hh i s hi).2 hn).1).trans ((hh i s hi).2 hn).2⟩⟩⟩
abbrev iR:Nat→Prop:=fun _=>False
structure WfL(L:List Sl0):Prop where
 d:∀(i:Nat)(s:Sl0),L[i]?=some s→s.od=true→∀(j:Nat)(t:Sl0),L[j]?=some t→(t.d=s.d→j=i)∧t.c≠s.d
 c:∀(i:Nat)(s:Sl0),L[i]?=some s→s.oc=true→∀(j:Nat)(t:Sl0),L[j]?=some t→(t.c=s.c→j=i)∧t.d≠s.c
theorem wr{L:List Sl0}{D C:List (List Int)}{i:Nat}{s:Sl0}(hs:L[i]?=some s):∀w G,(iB L D C iR).pred w G→(Af (fun _:Unit=> [aP s.d 159 (fR (D.getD i [])),iB L D C (fun b=>b=s.d)])).pred w G:=fun w G h=>by
 obtain⟨h1,h2⟩:=(h i s hs).1 (fun h=>h);refine⟨(),fun k b=>(k=0∧b=s.d)∨(k=1∧G b∧b≠s.d),fun k A hk=> ?_,fun k b hb=> ?_,fun k m b hb hc=> ?_⟩
 ·match k,hk with
  | 0,hk=>
   cases hk;exact⟨fun x=>⟨fun q=>by rcases q with q|q;exact q.2;exact absurd q.1 (by decide),fun q=> .inl ⟨J,q⟩⟩,h2⟩
  | 1,hk=>
   cases hk;intro j t ht;exact⟨fun hn=>⟨.inr ⟨J,((h j t ht).1 (fun h=>h)).1,hn⟩,((h j t ht).1 (fun h=>h)).2⟩,fun hn=>⟨.inr ⟨J,((h j t ht).2 (fun h=>h)).1,hn⟩,((h j t ht).2 (fun h=>h)).2⟩⟩
  | k+2,hk=>simp at hk
 ·rcases hb with⟨_,rfl⟩|⟨_,hb,_⟩
  ·exact h1
  ·exact hb
 ·rcases hb with⟨rfl,hb⟩|⟨rfl,_,hb⟩<;>rcases hc with⟨rfl,hc⟩|⟨rfl,_,hc⟩
  ·rfl
  ·exact absurd hb hc
  ·exact absurd hc hb
  ·rfl
theorem oR{L:List Sl0}{D C:List (List Int)}{i:Nat}{s:Sl0}(hs:L[i]?=some s):∀w G,(iB L D C iR).pred w G→(Af (fun _:Unit=> [aP s.c 159 (fR (C.getD i [])),iB L D C (fun b=>b=s.c)])).pred w G:=fun w G h=>by
 obtain⟨h1,h2⟩:=(h i s hs).2 (fun h=>h);refine⟨(),fun k b=>(k=0∧b=s.c)∨(k=1∧G b∧b≠s.c),fun k A hk=> ?_,fun k b hb=> ?_,fun k m b hb hc=> ?_⟩
 ·match k,hk with
  | 0,hk=>
   cases hk;exact⟨fun x=>⟨fun q=>by rcases q with q|q;exact q.2;exact absurd q.1 (by decide),fun q=> .inl ⟨J,q⟩⟩,h2⟩
  | 1,hk=>
   cases hk;intro j t ht;exact⟨fun hn=>⟨.inr ⟨J,((h j t ht).1 (fun h=>h)).1,hn⟩,((h j t ht).1 (fun h=>h)).2⟩,fun hn=>⟨.inr ⟨J,((h j t ht).2 (fun h=>h)).1,hn⟩,((h j t ht).2 (fun h=>h)).2⟩⟩
  | k+2,hk=>simp at hk
 ·rcases hb with⟨_,rfl⟩|⟨_,hb,_⟩
  ·exact h1
  ·exact hb
 ·rcases hb with⟨rfl,hb⟩|⟨rfl,_,hb⟩<;>rcases hc with⟨rfl,hc⟩|⟨rfl,_,hc⟩
  ·rfl
  ·exact absurd hb hc
  ·exact absurd hc hb
  ·rfl
theorem gG{D:List (List Int)}{i:Nat}{l:List Int}(hi:i<D.length):(D.set i l).getD i []=l:=by
 rw [List.getD_eq_getElem?_getD,List.getElem?_set_self hi];rfl
theorem gE{D:List (List Int)}{i j:Nat}{l:List Int}(h:i≠j):(D.set i l).getD j []=D.getD j []:=by
 rw [List.getD_eq_getElem?_getD,List.getElem?_set_ne h,List.getD_eq_getElem?_getD]
theorem zO{L:List Sl0}{D C:List (List Int)}{i:Nat}{s:Sl0}{l:List Int}(hw:WfL L)(hs:L[i]?=some s)(ho:s.od=true)(hi:i<D.length)(w:World)(F:Nat→Prop)(h:AllIn w F [aP s.d 159 (fR l),iB L D C (fun b=>b=s.d)]):(iB L (D.set i l) C iR).pred w F:=by
 obtain⟨⟨G0,a0,b0⟩,⟨G1,a1,b1⟩,_⟩:=h;intro j t ht;obtain⟨e1,e2⟩:=hw.d i s hs ho j t ht;refine⟨fun _=> ?_,fun _=> ?_⟩
 ·by_cases hj:t.d=s.d
  ·obtain rfl:=e1 hj;rw [hj,gG hi];exact⟨b0 _ ((a0.1 _).2 J),a0.2⟩
  ·rw [gE (fun hij=>hj (by subst hij;rw [hs]at ht;cases ht;rfl))];obtain⟨q1,q2⟩:=(a1 j t ht).1 hj;exact⟨b1 _ q1,q2⟩
 ·obtain⟨q1,q2⟩:=(a1 j t ht).2 e2;exact⟨b1 _ q1,q2⟩
theorem rh{L:List Sl0}{D C:List (List Int)}{i:Nat}{s:Sl0}{l:List Int}(hw:WfL L)(hs:L[i]?=some s)(ho:s.oc=true)(hi:i<C.length)(w:World)(F:Nat→Prop)(h:AllIn w F [aP s.c 159 (fR l),iB L D C (fun b=>b=s.c)]):(iB L D (C.set i l) iR).pred w F:=by
 obtain⟨⟨G0,a0,b0⟩,⟨G1,a1,b1⟩,_⟩:=h;intro j t ht;obtain⟨e1,e2⟩:=hw.c i s hs ho j t ht;refine⟨fun _=> ?_,fun _=> ?_⟩
 ·obtain⟨q1,q2⟩:=(a1 j t ht).1 e2;exact⟨b1 _ q1,q2⟩
 ·by_cases hj:t.c=s.c
  ·obtain rfl:=e1 hj;rw [hj,gG hi];exact⟨b0 _ ((a0.1 _).2 J),a0.2⟩
  ·rw [gE (fun hij=>hj (by subst hij;rw [hs]at ht;cases ht;rfl))];obtain⟨q1,q2⟩:=(a1 j t ht).2 hj;exact⟨b1 _ q1,q2⟩
theorem cg{L:List Sl0}{i j:Nat}{x t:Sl0}(h:(L.set i x)[j]?=some t):(j=i∧t=x)∨(j≠i∧L[j]?=some t):=by
 by_cases hj:i=j
 ·subst hj;rw [List.getElem?_set]at h;simp at h;exact .inl ⟨J,h.2.symm⟩
 ·rw [List.getElem?_set_ne hj]at h;exact .inr ⟨fun e=>hj e.symm,h⟩
theorem Bu{L:List Sl0}{D C:List (List Int)}{i nb:Nat}{s:Sl0}{l:List Int}(hs:L[i]?=some s)(hi:i<D.length)(w:World)(F:Nat→Prop)(h:AllIn w F [iB L D C iR,aP nb 159 (fR l)]):(iB (L.set i {s with d:=nb,od:=true}) (D.set i l) C iR).pred w F:=by
 obtain⟨⟨G0,a0,b0⟩,⟨G1,a1,b1⟩,_⟩:=h;intro j t ht;rcases cg ht with⟨rfl,rfl⟩|⟨hj,ht⟩
 ·refine⟨fun _=> ?_,fun _=> ?_⟩
  ·rw [gG hi];exact⟨b1 _ ((a1.1 _).2 J),a1.2⟩
  ·obtain⟨q1,q2⟩:=(a0 j s hs).2 (fun h=>h);exact⟨b0 _ q1,q2⟩
 ·refine⟨fun _=> ?_,fun _=> ?_⟩
  ·rw [gE (fun e=>hj e.symm)];obtain⟨q1,q2⟩:=(a0 j t ht).1 (fun h=>h);exact⟨b0 _ q1,q2⟩
  ·obtain⟨q1,q2⟩:=(a0 j t ht).2 (fun h=>h);exact⟨b0 _ q1,q2⟩
theorem Bv{L:List Sl0}{D C:List (List Int)}{i nb:Nat}{s:Sl0}{l:List Int}(hs:L[i]?=some s)(hi:i<C.length)(w:World)(F:Nat→Prop)(h:AllIn w F [iB L D C iR,aP nb 159 (fR l)]):(iB (L.set i {s with c:=nb,oc:=true}) D (C.set i l) iR).pred w F:=by
 obtain⟨⟨G0,a0,b0⟩,⟨G1,a1,b1⟩,_⟩:=h;intro j t ht;rcases cg ht with⟨rfl,rfl⟩|⟨hj,ht⟩
 ·refine⟨fun _=> ?_,fun _=> ?_⟩
  ·obtain⟨q1,q2⟩:=(a0 j s hs).1 (fun h=>h);exact⟨b0 _ q1,q2⟩
  ·rw [gG hi];exact⟨b1 _ ((a1.1 _).2 J),a1.2⟩
 ·refine⟨fun _=> ?_,fun _=> ?_⟩
  ·obtain⟨q1,q2⟩:=(a0 j t ht).1 (fun h=>h);exact⟨b0 _ q1,q2⟩
  ·rw [gE (fun e=>hj e.symm)];obtain⟨q1,q2⟩:=(a0 j t ht).2 (fun h=>h);exact⟨b0 _ q1,q2⟩
def ND(L:List Sl0)(nb:Nat):Prop:=∀(j:Nat)(t:Sl0),L[j]?=some t→t.d≠nb∧t.c≠nb
theorem WfL.new_d{L:List Sl0}{i nb:Nat}{s:Sl0}(hw:WfL L)(hs:L[i]?=some s)(hf:ND L nb):WfL (L.set i {s with d:=nb,od:=true}):=by
 refine⟨fun a x hx ho j t ht=> ?_,fun a x hx ho j t ht=> ?_⟩
 ·rcases cg hx with⟨e1,e2⟩|⟨ha,hx2⟩<;>rcases cg ht with⟨e3,e4⟩|⟨hj,ht2⟩
  ·rw [e2]at ho ⊢;rw [e4,e1,e3];exact⟨fun _=>J,(hf _ _ hs).2⟩
  ·rw [e2]at ho ⊢;rw [e1];exact⟨fun e=>absurd e (hf _ _ ht2).1,(hf _ _ ht2).2⟩
  ·rw [e4,e3];exact⟨fun e=>absurd e.symm (hf _ _ hx2).1,(hw.d a x hx2 ho _ _ hs).2⟩
  ·skip;exact hw.d a x hx2 ho j t ht2
 ·rcases cg hx with⟨e1,e2⟩|⟨ha,hx2⟩<;>rcases cg ht with⟨e3,e4⟩|⟨hj,ht2⟩
  ·rw [e2]at ho ⊢;rw [e4,e1,e3];exact⟨fun _=>J,fun e=>(hf _ _ hs).2 e.symm⟩
  ·rw [e2]at ho ⊢;rw [e1];exact hw.c _ s hs ho j t ht2
  ·rw [e4,e3];exact⟨(hw.c a x hx2 ho _ _ hs).1,fun e=>(hf _ _ hx2).2 e.symm⟩
  ·skip;exact hw.c a x hx2 ho j t ht2
theorem WfL.new_c{L:List Sl0}{i nb:Nat}{s:Sl0}(hw:WfL L)(hs:L[i]?=some s)(hf:ND L nb):WfL (L.set i {s with c:=nb,oc:=true}):=by
 refine⟨fun a x hx ho j t ht=> ?_,fun a x hx ho j t ht=> ?_⟩
 ·rcases cg hx with⟨e1,e2⟩|⟨ha,hx2⟩<;>rcases cg ht with⟨e3,e4⟩|⟨hj,ht2⟩
  ·rw [e2]at ho ⊢;rw [e4,e1,e3];exact⟨fun _=>J,fun e=>(hf _ _ hs).1 e.symm⟩
  ·rw [e2]at ho ⊢;rw [e1];exact hw.d _ s hs ho j t ht2
  ·rw [e4,e3];exact⟨(hw.d a x hx2 ho _ _ hs).1,fun e=>(hf _ _ hx2).1 e.symm⟩
  ·skip;exact hw.d a x hx2 ho j t ht2
 ·rcases cg hx with⟨e1,e2⟩|⟨ha,hx2⟩<;>rcases cg ht with⟨e3,e4⟩|⟨hj,ht2⟩
  ·rw [e2]at ho ⊢;rw [e4,e1,e3];exact⟨fun _=>J,(hf _ _ hs).1⟩
  ·rw [e2]at ho ⊢;rw [e1];exact⟨fun e=>absurd e (hf _ _ ht2).2,(hf _ _ ht2).1⟩
  ·rw [e4,e3];exact⟨fun e=>absurd e.symm (hf _ _ hx2).2,(hw.c a x hx2 ho _ _ hs).2⟩
  ·skip;exact hw.c a x hx2 ho j t ht2
theorem WfL.rights{L:List Sl0}{i:Nat}{s:Sl0}{z:Int}(hw:WfL L)(hs:L[i]?=some s):WfL (L.set i {s with r:=z}):=by
 refine⟨fun a x hx ho j t ht=> ?_,fun a x hx ho j t ht=> ?_⟩
 ·rcases cg hx with⟨e1,e2⟩|⟨ha,hx2⟩<;>rcases cg ht with⟨e3,e4⟩|⟨hj,ht2⟩
  ·rw [e2]at ho ⊢;rw [e4,e1,e3];exact hw.d _ s hs ho _ s hs
  ·rw [e2]at ho ⊢;rw [e1];exact hw.d _ s hs ho j t ht2
  ·rw [e4,e3];exact hw.d a x hx2 ho _ s hs
  ·skip;exact hw.d a x hx2 ho j t ht2
 ·rcases cg hx with⟨e1,e2⟩|⟨ha,hx2⟩<;>rcases cg ht with⟨e3,e4⟩|⟨hj,ht2⟩
  ·rw [e2]at ho ⊢;rw [e4,e1,e3];exact hw.c _ s hs ho _ s hs
  ·rw [e2]at ho ⊢;rw [e1];exact hw.c _ s hs ho j t ht2
  ·rw [e4,e3];exact hw.c a x hx2 ho _ s hs
  ·skip;exact hw.c a x hx2 ho j t ht2
section
variable{N:Nat}{w0:World}{M H:Nat→Prop}{E:d_}{Γ R:dF}
theorem Bn{Rel:Act→World→Prop}{φ:Prop}(h:∀w,COk w0 M H Γ R w→φ)(k:φ→At N w0 M H E Γ R Rel):At N w0 M H E Γ R Rel:=fun a w h1 h2=>k (h w h2) a w h1 h2
theorem ua{k1 k2 nb:Nat}{S:TypeId}{c:List Value}{L:List Sl0}{D C:List (List Int)}(h1:bF Γ k1=some (aP nb S c))(h2:bF Γ k2=some (iB L D C iR))(hk:k1≠k2):∀w,COk w0 M H Γ R w→ND L nb:=fun w ⟨F,hF⟩ j t ht=>by
 have a:=hF.has k1 _ h1;have b:=hF.has k2 _ h2 j t ht;have an:=(a.1 nb).2 J;refine⟨fun e=>hk (hF.apart k1 k2 nb an ?_),fun e=>hk (hF.apart k1 k2 nb an ?_)⟩
 ·rw [←e];exact(b.1 (fun h=>h)).1
 ·rw [←e];exact(b.2 (fun h=>h)).1
theorem MA{k i o:Nat}{L:List Sl0}{D C:List (List Int)}{s:Sl0}{v:Value}(hk:bF Γ k=some (iB L D C iR))(hs:L[i]?=some s)(hu:(fR (D.getD i []))[o]?=some v):Gives w0 M H Γ R s.d o [v]:=by
 intro w hC j u hj;obtain⟨G,h,_⟩:=hC.reads (.inl hk);rw [cell_of_row w s.d (o+j) _ 159 (0,0) ((h i s hs).1 (fun h=>h)).2];cases j with
 | zero=>
  cases hj;simpa using hu
 | succ j=>simp at hj
theorem J6{k i:Nat}{L:List Sl0}{D C:List (List Int)}{s:Sl0}(hk:bF Γ k=some (iB L D C iR))(hs:L[i]?=some s):Gives w0 M H Γ R s.d 0 (fR (D.getD i [])):=by
 intro w hC j u hj;obtain⟨G,h,_⟩:=hC.reads (.inl hk);rw [cell_of_row w s.d (0+j) _ 159 (0,0) ((h i s hs).1 (fun h=>h)).2,Nat.zero_add];simpa using hj
theorem J7{k i:Nat}{L:List Sl0}{D C:List (List Int)}{s:Sl0}(hk:bF Γ k=some (iB L D C iR))(hs:L[i]?=some s):Gives w0 M H Γ R s.c 0 (fR (C.getD i [])):=by
 intro w hC j u hj;obtain⟨G,h,_⟩:=hC.reads (.inl hk);rw [cell_of_row w s.c (0+j) _ 159 (0,0) ((h i s hs).2 (fun h=>h)).2,Nat.zero_add];simpa using hj
end
def Pg8(D:List (List Int)):Prop:=∀l∈D,l.length=256∧∀x∈l,0≤x∧x<256
structure PgOk(L:List Sl0)(D C:List (List Int)):Prop where
 wf:WfL L
 dl:D.length=L.length
 cl:C.length=L.length
 d8:Pg8 D
 c8:Pg8 C
theorem Pg8.at{D:List (List Int)}(h:Pg8 D){i:Nat}(hi:i<D.length):(D.getD i []).length=256∧∀x∈D.getD i [],0≤x∧x<256:=by
 rw [List.getD_eq_getElem?_getD,bV hi];exact h _ (List.getElem_mem hi)
theorem Pg8.set{D:List (List Int)}(h:Pg8 D){i:Nat}{l:List Int}(h1:l.length=256)(h2:∀x∈l,0≤x∧x<256):Pg8 (D.set i l):=fun m hm=>by
 rcases List.mem_or_eq_of_mem_set hm with hm|rfl
 ·exact h m hm
 ·exact⟨h1,h2⟩
theorem xZ{l:List Int}{o:Nat}(h:o<l.length):(fR l)[o]?=some (.int .u8 (l.getD o 0)):=by
 unfold fR;rw [List.getElem?_map,List.getD_eq_getElem?_getD,bV h];rfl
section
variable{N:Nat}{w0:World}{M H:Nat→Prop}{E:d_}{Γ R:dF}
theorem J5{k i o:Nat}{L:List Sl0}{D C:List (List Int)}{s:Sl0}{v:Value}(hk:bF R k=some (iB L D C iR))(hs:L[i]?=some s)(hu:(fR (D.getD i []))[o]?=some v):Gives w0 M H Γ R s.d o [v]:=by
 intro w hC j u hj;obtain⟨G,h,_⟩:=hC.reads (.inr hk);rw [cell_of_row w s.d (o+j) _ 159 (0,0) ((h i s hs).1 (fun h=>h)).2];cases j with
 | zero=>
  cases hj;simpa using hu
 | succ j=>simp at hj
end
def JW(vs:SV)(L:List Sl0)(i:Nat):Value:= .pointer (if i<L.length then some ⟨gm (sv vs),ia (sv vs)+i*7,none⟩else none)
theorem wG{vs:SV}{L:List Sl0}{i:Nat}(h:i<L.length):JW vs L i= .pointer (some ⟨gm (sv vs),ia (sv vs)+i*7,none⟩):=by unfold JW;rw [ao h]
theorem sY{vs:SV}{L:List Sl0}{i:Nat}(h:¬i<L.length):JW vs L i= .pointer none:=by unfold JW;rw [ac h]
def BK(D:List (List Int))(a:Int):Int:=if(a/256).toNat<D.length then(D.getD (a/256).toNat []).getD (a%256).toNat 0 else 0
theorem gn(c:Nat)(vs:SV)(stv:List Value)(L:List Sl0):
  aO prog 71 [Pt c] [] [aP c 80 (sv vs:: .bool false::stv),sl 7 j8 (sv vs) L] (I6 (L.length:Int)) []:=by
 refine au func71 J ntmps71 J fun w0 M H=>ak (am J (aa (aS (ab J (ap J J (ka underlying141) (aa (ah J (fun h1=> ?_) (fun h1=> ?_))))))))
 ·cases h1
 ·(try simp only [aY]at h1);refine az (ak (ab J (bp J (ax jh J (aH (ag DP J J (cN (k:=0) J J)) (aH (aZ underlying72 J (aQ (k:=1) J)) (am J (aa (ar (aG () O J (bR (aD J)) J [] [] J J J))))))))))
theorem zd(c:Nat)(vs:SV)(stv:List Value)(L:List Sl0)(hL:L.length≤65536)(a:Int)(ha:0≤a∧a<4294967296):
  aO prog 73 [Pt c,I3 a] [] [aP c 80 (sv vs:: .bool false::stv),sl 7 j8 (sv vs) L] (JW vs L (a/256).toNat) []:=by
 refine au func73 J ntmps73 J fun w0 M H=> ?_
 have hq:a.tdiv 256=a/256:=Int.tdiv_eq_ediv_of_nonneg ha.1;obtain⟨i,hi⟩:∃i:Nat,a/256=(i:Int):=⟨_,(Int.toNat_of_nonneg (by omega)).symm⟩
 have hti:(a/256).toNat=i:=by omega
 rw [hti];refine ak (am J (av J (ab J (ap J J (j_ (c:=(i:Int)) (by decide) (by rw [hq,bx (by omega),hi])) (aH (bX underlying41 underlying3 J (by first|exact bC (by omega)|rfl)) (am J (aa (aS (ab J (ab J (ae (xs:= [.tmp 10]) (gn c vs stv L) As [] [(false,0),(false,1)] [] (fun _ _=>ap J J eY (aa (ah J (fun h1=> ?_) (fun h1=> ?_)))))))))))))))
 ·(try simp only [aY]at h1);rw [sY (by omega)];refine ak (am J (aa (ar (aG () O J (bR (aD J)) J [] [] J J J))))
 ·(try simp only [aY]at h1);rw [wG (by omega)];refine az (ak (ab J (bp J (ax jh J (aH (ag DP J J (cN (k:=0) J J)) (ab J (aH (aR (j:=i) underlying72 qx J J (aQ (k:=1) J) J (by omega)) (am J (aa (ar (aG () O J (bR (aD J)) J [] [] J J J)))))))))))
theorem zP(c:Nat)(vs:SV)(stv:List Value)(L:List Sl0)(D C:List (List Int))(hP:PgOk L D C)(hL:L.length≤65536)(a:Int)(ha:0≤a∧a<4294967296):
  aO prog 33 [Pt c,I3 a] [] [aP c 80 (sv vs:: .bool false::stv),sl 7 j8 (sv vs) L,iB L D C iR] (.int .u8 (BK D a)) []:=by
 refine au func33 J ntmps33 J fun w0 M H=>ak (am J (av J (ab J (ab J (ae (xs:= [.tmp 6,.tmp 7]) (zd c vs stv L hL a ha) Kw [] [(false,0),(false,1)] [] (fun _ _=>am J (aa (aW (aW ?_)))))))))
 by_cases hi:(a/256).toNat<L.length
 ·rw [wG hi];obtain⟨s,hs⟩:∃s,L[(a/256).toNat]?=some s:=⟨_,bV hi⟩
  have hDi:=hP.d8.at (show(a/256).toNat<_ by rw [hP.dl];exact hi)
  have hm:a.tmod 256=a%256:=jM ha.1;refine aj (ab J (ap J J (ka underlying152) (aa (ah J (fun h1=> ?_) (fun h1=> ?_)))))
  ·cases h1
  ·(try simp only [aY]at h1);refine az (ak (ab J (bp J (aH (cH kz J) (aH (ag mM J J (gQ (aQ (k:=1) J) (by intro _;rfl) hs J)) (ab J (ap J J (iA (c:=a%256) (by decide) (by exact hm)) (bp J (aH (lu (j:=(a%256).toNat) underlying159 t5 J J (by omega) (by omega)) (aH (ag t5 J J (J5 (k:=2) J hs (xZ (by rw [hDi.1];omega)))) (am J (aa (ar (aG () O J (bR (aD J)) (by unfold BK;rw [ao (by rw [hP.dl];exact hi)]) [] [] J J J))))))))))))))
 ·rw [sY hi];refine aj (ab J (ap J J (ka underlying152) (aa (ah J (fun h2=> ?_) (fun h2=> ?_)))))
  ·(try simp only [aY]at h2);refine ak (am J (aa (ar (aG () O J (bR (aD J)) (by unfold BK;rw [ac (by rw [hP.dl];exact hi)]) [] [] J J J))))
  ·cases h2
def qIO(L:List Sl0)(p:Nat):Int:=match L[p]? with
 | some s=>s.r
 | none=>0
theorem nn(c:Nat)(vs:SV)(stv:List Value)(L:List Sl0)(hL:L.length≤65536)(p:Nat)(hp:p≤65536):
  aO prog 32 [Pt c,I6 (p:Int)] [] [aP c 80 (sv vs:: .bool false::stv),sl 7 j8 (sv vs) L] (I6 (qIO L p)) []:=by
 refine au func32 J ntmps32 J fun w0 M H=>ak (am J (aa (aS (ab J (ap J J cL (ab J (d7 (t:=7) J (fun h1=>False.elim (by revert h1;simp)) (fun h1=>aK J J (ab J (aK J J (ab J (aK J J (ae (xs:= [.tmp 9]) (gn c vs stv L) As [] [(false,0),(false,1)] [] (fun _ _=>aK J J (ap J J eY ?_)))))))))))))))
 refine aH (bw J J J) (aa (ah J (fun h2=> ?_) (fun h2=> ?_)))
 ·(try simp only [aY]at h2);have hi:¬p<L.length:=by simp at h2;omega
  refine ak (am J (aa (ar (aG () O J (bR (aD J)) (by unfold qIO;rw [List.getElem?_eq_none (by omega)]) [] [] J J J))))
 ·(try simp only [aY]at h2);have hi:p<L.length:=by simp at h2;omega
  obtain⟨s,hs⟩:∃s,L[p]?=some s:=⟨_,bV hi⟩
  refine az (ak (ab J (bp J (ax jh J (aH (ag DP J J (cN (k:=0) J J)) (ab J (aH (aR (j:=p) underlying72 qx J J (aQ (k:=1) J) J (by omega)) (aH (cH yR J) (aH (ag t3 J J (gQ (aQ (k:=1) J) (by intro _;rfl) hs J)) (am J (aa (ar (aG () O J (bR (aD J)) (by unfold qIO;rw [hs]) [] [] J J J)))))))))))))
theorem ic{A:Asn}{vs:SV}{L:List Sl0}:∀(i:Nat)(X:Asn),([A,sl 7 j8 (sv vs) L]:List Asn)[i]?=some X→∃Y,([A,own 148 7 j8 (sv vs) L]:List Asn)[i]?=some Y∧∀w G,Y.pred w G→X.pred w G
 | 0,X,hX=>⟨A,rfl,by cases hX;exact fun _ _ h=>h⟩
 | 1,X,hX=>⟨_,rfl,by cases hX;exact bE⟩
 | i+2,X,hX=>by simp at hX
def qD(L:List Sl0)(p:Nat)(z:Int):List Sl0:=match L[p]? with
 | some s=>L.set p {s with r:=z}
 | none=>L
theorem zS{L:List Sl0}{D C:List (List Int)}{p:Nat}{s:Sl0}{z:Int}(hs:L[p]?=some s):∀w G,(iB L D C iR).pred w G→(iB (L.set p {s with r:=z}) D C iR).pred w G:=fun w G h j t ht=>by
 rcases cg ht with⟨rfl,rfl⟩|⟨hj,ht⟩
 ·exact h _ s hs
 ·exact h j t ht
theorem PgOk.rights{L:List Sl0}{D C:List (List Int)}(h:PgOk L D C)(p:Nat)(z:Int):PgOk (qD L p z) D C:=by
 unfold qD;split
 ·rename_i s hs;exact⟨h.wf.rights hs,by rw [List.length_set];exact h.dl,by rw [List.length_set];exact h.cl,h.d8,h.c8⟩
 ·exact h
theorem gV(c:Nat)(vs:SV)(stv:List Value)(L:List Sl0)(D C:List (List Int))(hL:L.length≤65536)(p:Nat)(hp:p≤65536)(z:Int):
  aO prog 28 [Pt c,I6 (p:Int),I6 z] [aP c 80 (sv vs:: .bool false::stv),own 148 7 j8 (sv vs) L,iB L D C iR] [] (.tuple #[]) [aP c 80 (sv vs:: .bool false::stv),own 148 7 j8 (sv vs) (qD L p (bits .and .i64 z 7)),iB (qD L p (bits .and .i64 z 7)) D C iR]:=by
 refine au func28 J ntmps28 J fun w0 M H=>ak (ab J (ap J J eY (ab J (d7 (t:=8) J (fun h1=> ?_) (fun h1=>False.elim (by revert h1;simp))))))
 refine aK J J (ab J (aK J J (ab J (aK J J (ch (xs:= [.tmp 10]) (Spec.roAll (gn c vs stv L) (ic (A:=aP c 80 _))) As [] [(true,0),(true,1)] [] J J J (fun _ _=>aK J J (ap J J cL (aH (bw J J J) (aa (ah J (fun h2=> ?_) (fun h2=> ?_)))))))))))
 ·(try simp only [aY]at h2);have hi:p<L.length:=by simp at h2;omega
  obtain⟨s,hs⟩:∃s,L[p]?=some s:=⟨_,bV hi⟩
  have hpr:qD L p (bits .and .i64 z 7)=L.set p {s with r:=bits .and .i64 z 7}:=by unfold qD;rw [hs]
  rw [hpr];refine aj (ab J (bp J (ax jh J (aL 0 DP J J J J (ab J (ab J (ap J J (u_ J) (aH (aR (j:=p) underlying72 qx J J (bl (k:=1) J) J (by omega)) (aH (cH yR J) (gy (k:=1) (o:=6) (e':={s with r:=bits .and .i64 z 7}) t3 J J J J J J (by intro _;rfl) hs (by show _+1≤_;decide) J (aa (eV (k:=2) (A':=iB (L.set p {s with r:=bits .and .i64 z 7}) D C iR) J (zS hs) (bN () O J fi J [0,1,2] [] J J J)))))))))))))
 ·(try simp only [aY]at h2);have hi:¬p<L.length:=by simp at h2;omega
  have hpr:qD L p (bits .and .i64 z 7)=L:=by unfold qD;rw [List.getElem?_eq_none (by omega)]
  rw [hpr];refine az (bN () O J fi J [0,1,2] [] J J J)
theorem iT{α:Type}{L:List α}{i:Nat}{s:α}(hs:L[i]?=some s):L.set i s=L:=by
 apply List.ext_getElem?;intro j;by_cases h:i=j
 ·subst h;obtain⟨hi,_⟩:=cC.1 hs;rw [List.getElem?_set_self hi,hs]
 ·rw [List.getElem?_set_ne h]
theorem xz{D:List (List Int)}{i:Nat}(hi:i<D.length):D.set i (D.getD i [])=D:=iT (by rw [List.getD_eq_getElem?_getD,bV hi];rfl)
structure OwD(L:List Sl0)(i:Nat)(s x:Sl0):Prop where
 od:x.od=true
 wf:WfL (L.set i x)
 c:x.c=s.c
 oc:x.oc=s.oc
 r:x.r=s.r
theorem md{l:List Int}(h:l.length=256):(fR l).length=256:=by
 unfold fR;rw [List.length_map];exact h
theorem sX(l:List Int):(fR l).all (fun x=>x.oneCell')=true:=by
 rw [List.all_eq_true];intro v hv;obtain⟨x,-,rfl⟩:=List.mem_map.1 hv;rfl
theorem qv(vs:SV)(L:List Sl0)(D C:List (List Int))(hP:PgOk L D C)(i:Nat)(s:Sl0)(hs:L[i]?=some s):
  Spec prog 116 [.pointer (some ⟨gm (sv vs),ia (sv vs)+i*7,none⟩)] [own 148 7 j8 (sv vs) L,iB L D C iR] [] (X:=Sl0) (fun x=>OwD L i s x) (fun x=>Pt x.d) (fun x=> [own 148 7 j8 (sv vs) (L.set i x),iB (L.set i x) D C iR]) (fun _=> []):=by
 refine au func116 J ntmps116 J fun w0 M H=> ?_
 obtain⟨hi,-⟩:=cC.1 hs;have hDi:=hP.d8.at (show i<D.length by rw [hP.dl];exact hi)
 refine ak (am J (aa (aS (ab J (bp J (aH (cH yT J) (aH (ag t4 J J (gQ (bl (k:=0) J) (by intro _;rfl) hs J)) (aH (cZ J) (aa (ah J (fun h1=> ?_) (fun h1=> ?_)))))))))))
 ·(try simp only [aY]at h1);have hod:s.od=false:=by simpa using h1
  refine ak (ab J (bp J (aH (cH kz J) (aH (ag mM J J (gQ (bl (k:=0) J) (by intro _;rfl) hs J)) (bp J (aH (aM (us:=fR (D.getD i [])) vV J J (md hDi.1) (J6 (k:=1) J hs)) (aV vV J J fun b3=>aq (k:=3) vV J J (md hDi.1) (sX _) J J (Bn (ua (k1:=3) (k2:=1) J J (by decide)) fun hfr=>aa (aj (ab J (ab J (bp J (aH (cH kz J) (gy (k:=0) (o:=0) (e':={s with d:=b3}) mM J J J J J J (by intro _;rfl) hs (by show _+1≤_;decide) J ?_))))))))))))));have hs2:(L.set i {s with d:=b3})[i]?=some {s with d:=b3}:=List.getElem?_set_self hi;refine bp J (aH (cH yT J) (gy (k:=0) (o:=2) (e':={s with d:=b3,od:=true}) t4 J J J J J J (by intro _;rfl) hs2 (by show _+1≤_;decide) J ?_));have hs3:((L.set i {s with d:=b3}).set i {s with d:=b3,od:=true})[i]?=some {s with d:=b3,od:=true}:=List.getElem?_set_self (by rw [List.length_set];exact hi);refine bH 1 [1,3] (C:=iB (L.set i {s with d:=b3,od:=true}) D C iR) J (fun w F h=>by have q:=Bu (C:=C) (l:=D.getD i []) (i:=i) (nb:=b3) hs (by rw [hP.dl];exact hi) w F h;rw [xz (by rw [hP.dl];exact hi)]at q;exact q) ?_;refine av J (ab J (bp J (aH (cH kz J) (aH (ag mM J J (gQ (bl (k:=0) J) (by intro _;rfl) hs3 J)) (am J (aa (ar ?_)))))));refine eV (k:=0) (A':=own 148 7 j8 (sv vs) (L.set i {s with d:=b3,od:=true})) J (fun w G h=>by rw [List.set_set]at h;exact h) ?_;refine aG ({s with d:=b3,od:=true}:Sl0) ⟨J,hP.wf.new_d hs hfr,J,J,J⟩ J (bR (aD J)) J [0,1] [] J J J
 ·(try simp only [aY]at h1);have hod:s.od=true:=by simpa using h1
  refine az (ak (ab J (bp J (aH (cH kz J) (aH (ag mM J J (gQ (bl (k:=0) J) (by intro _;rfl) hs J)) (am J (aa (ar ?_))))))));refine eV (k:=0) (A':=own 148 7 j8 (sv vs) (L.set i s)) J (fun w G h=>by rw [iT hs];exact h) ?_;refine eV (k:=1) (A':=iB (L.set i s) D C iR) J (fun w G h=>by rw [iT hs];exact h) ?_;refine aG s ⟨hod,by rw [iT hs];exact hP.wf,J,J,J⟩ J (bR (aD J)) J [0,1] [] J J J
section
variable{P:Program}
theorem lY(w:World)(dT sT ty elem:TypeId)(g o dLen dCap:Nat)(s:Ba)(cur:Array Value)(t:TypeId)(hu:P.underlying dT=some (.slice elem))(hs:(P.info? elem).map (·.size)=some 1)
  (hg:w.heap[g]?=some (.cells cur t (0,0))) (hfit:o+(fR ((aN s).take (Nat.min s.size dLen))).length≤cur.size):
  (Builtin.copy_ #[dT,sT] ty #[.slice (some ⟨g,o,none⟩) dLen dCap,Sg s]).run P w=
   .ok (goInt (Nat.min s.size dLen)) (w.setRow g (cur.toList.take o++fR ((aN s).take (Nat.min s.size dLen))++cur.toList.drop (o+(fR ((aN s).take (Nat.min s.size dLen))).length)).toArray):=by
 have hst:=run_storeCells_at P g o t (fR ((aN s).take (Nat.min s.size dLen))) 0 cur w hg (by simpa using hfit) (fun v hv=>List.all_eq_true.1 (sX _) v hv);simp only [Nat.add_zero]at hst;cases hq:P.info? elem with
 | none=>simp [hq]at hs
 | some i=>
  have hi:i.size=1:=by simpa [hq]using hs
  simp [Builtin.copy_,run_underlying hu,Builtin.lenOf,Builtin.firstCells,sizeOf,typeInfo,hq,hi,List.map_take];have e:List.take (s.size.min dLen) (List.map (fun b:UInt8=>Value.int .u8 (b.toNat:Int)) s.data.toList)=fR ((aN s).take (s.size.min dLen)):=by
   unfold fR aN;rw [List.map_take,List.map_map];rfl
  rw [e,hst];simp [Result.andThen]
end
section
variable{P:Program}{N:Nat}{w0:World}{M H:Nat→Prop}{E:d_}{Γ R:dF}{Q:Exit→Act→World→Prop}
variable{ops:Array Oper}{rest:List Oper}{T:TypeId}{ps:String}{af:Array Edge}{d:Nat}{op:Op}
def Aj(s:Ba)(l:List Int):List Int:=(aN s).take l.length++l.drop (min s.size l.length)
theorem kF(s:Ba)(l:List Int):(Aj s l).length=l.length:=by
 unfold Aj;have:=eb s;simp;omega
theorem mb{S T2 U:TypeId}{DU:TypeDesc}{z:Value}{bb n:Nat}{x y:Operand}{b c:Nat}{s:Ba}{k:Nat}{S':TypeId}{l:List Int}(hS:P.underlying S=some (.slice U))(hU:TI P U DU z 1 bb)
  (hx:ev E x=some (sv ⟨some ⟨b,0,none⟩,n,c⟩)) (hn:n=l.length) (hy:ev E y=some (Sg s)) (hk:bF Γ k=some (aP b S' (fR l))) {dst:Option Nat}:
  MS P N w0 M H E Γ R ⟨dst,.call {callee:= .builtin .copy,args:= #[x,y],argTypes:= #[S,T2]},T,ps,af,none⟩ (X:=Unit) (fun _=>True) (fun _=>goInt ((Nat.min s.size l.length:Nat):Int)) (fun _=>(k,aP b S' (fR (Aj s l)))::Γ) (fun _=>R):=by
 subst hn;refine fY fun a w hE hC=> ?_
 obtain⟨G0,hp,hlt⟩:=hC.reads (.inl hk);obtain⟨i,i1,i2,i3,i4⟩:=hU.info;have hbl:=eb s;have hml:∀m:List Int,(fR m).length=m.length:=fun m=>by unfold fR;rw [List.length_map]
 have hr:=lY (P:=P) w S T2 T U b 0 l.length c s (fR l).toArray S' hS (by rw [i1];simpa using i3) hp.2 (by rw [hml,List.size_toArray,hml,List.length_take];have:=Nat.min_le_right s.size l.length;have e:Nat.min s.size l.length=min s.size l.length:=J;omega);have hnew:(fR l).take 0++fR ((aN s).take (Nat.min s.size l.length))++(fR l).drop (0+(fR ((aN s).take (Nat.min s.size l.length))).length)=fR (Aj s l):=by
  rw [hml,List.length_take,hbl];unfold Aj fR;rw [List.take_zero,List.nil_append,Nat.zero_add,List.map_append,List.map_drop];have e:Nat.min s.size l.length=min s.size l.length:=J;rw [e,show min (min s.size l.length) s.size=min s.size l.length by omega]
  congr 2
  by_cases h:s.size≤l.length
  ·rw [List.take_of_length_le (by omega),List.take_of_length_le (by omega)]
  ·rw [show min s.size l.length=l.length by omega]
 refine⟨(),w.setRow b (fR (Aj s l)).toArray,O,?_,?_⟩
 rotate_left
 ·refine hC.upd hk fun G hG hGlt=> ?_
  exact⟨G,⟨hG.1,setRow_heap w b _ _ S' (0,0) hG.2⟩,fun x hx=>⟨by simpa using hGlt x hx,fun _=>hx⟩,⟨J,J,J,by simp,fun i _ hi=>setRow_other w b i _ (fun e=>hi (e▸(hG.1 b).2 rfl))⟩⟩
 ·rw [show(fR l).toArray.toList=fR l from J,hnew]at hr;simp only [execOp,resolve,invoke,builtin,sv,hE.ev hy]at hx ⊢;have hx':=hE.ev hx;simp [hx',hE.ev hy,hr]
theorem sW{S T2 U:TypeId}{DU:TypeDesc}{z:Value}{bb:Nat}{x y:Operand}{s:Ba}{k:Nat}{v:SV}{l:List Int}(hS:P.underlying S=some (.slice U))(hU:TI P U DU z 1 bb)
  (hx:ev E x=some (sv v)) (hy:ev E y=some (Sg s)) (hk:bF Γ k=some (own U 1 bL (sv v) l)) (hl:0<l.length) {dst:Option Nat}:
  MS P N w0 M H E Γ R ⟨dst,.call {callee:= .builtin .copy,args:= #[x,y],argTypes:= #[S,T2]},T,ps,af,none⟩ (X:=Unit) (fun _=>True) (fun _=>goInt ((Nat.min s.size l.length:Nat):Int)) (fun _=>(k,own U 1 bL (sv v) (Aj s l))::Γ) (fun _=>R):=by
 refine fY fun a w hE hC=> ?_
 obtain⟨G0,hp,hlt⟩:=hC.reads (.inl hk);obtain⟨i,i1,i2,i3,i4⟩:=hU.info;have hbl:=eb s;have hml:∀m:List Int,(fR m).length=m.length:=fun m=>by unfold fR;rw [List.length_map]
 have hfl:∀m:List Int,m.flatMap bL=fR m:=fun m=>by
  induction m with
  | nil=>rfl
  | cons q m ih=>show bL q++m.flatMap bL=_;rw [ih];rfl
 have hme:Nat.min s.size l.length=min s.size l.length:=J;obtain⟨hp1,hp2⟩:=hp;obtain⟨g,cap,cur,hv,hbg,hg,hnc,hcm,hcs,htake⟩:∃g cap cur,sv v= .slice (some ⟨g,0,none⟩) l.length cap∧0≤g∧w.heap[g]?=some (.cells cur U (0,0))∧l.length≤cap∧cap≤maxLen∧cur.size=cap*1∧cur.toList.take (l.length*1)=l.flatMap bL:=by
  rcases hp2.2 with⟨_,h0⟩|h
  ·omega
  ·exact h
 have hr:=lY (P:=P) w S T2 T U g 0 l.length cap s cur U hS (by rw [i1];simpa using i3) hg (by rw [hml,List.length_take];omega);have hnew:∀cu:Array Value,cap*1=cu.size→cu.toList.take (l.length*1)=l.flatMap bL→((cu.toList.take 0++fR ((aN s).take (Nat.min s.size l.length))++cu.toList.drop (0+(fR ((aN s).take (Nat.min s.size l.length))).length)).take (l.length*1)=(Aj s l).flatMap bL)∧(cu.toList.take 0++fR ((aN s).take (Nat.min s.size l.length))++cu.toList.drop (0+(fR ((aN s).take (Nat.min s.size l.length))).length)).length=cap*1:=fun cu h1 h2=>by
  rw [hml,List.length_take,hbl,List.take_zero,List.nil_append,Nat.zero_add,hme,show min (min s.size l.length) s.size=min s.size l.length by omega];have hq:(fR ((aN s).take (min s.size l.length))).length=min s.size l.length:=by rw [hml,List.length_take];omega
  refine⟨?_,?_⟩
  ·rw [hfl]at h2 ⊢;rw [List.take_append,hq,Nat.mul_one,List.take_of_length_le (by rw [hq];omega)];unfold Aj;have ed:(cu.toList.drop (min s.size l.length)).take (l.length-min s.size l.length)=(fR l).drop (min s.size l.length):=by
    rw [←h2,List.drop_take,Nat.mul_one]
   rw [ed];unfold fR;rw [List.map_append,List.map_drop]
   congr 2
   by_cases h:s.size≤l.length
   ·rw [List.take_of_length_le (by omega),List.take_of_length_le (by omega)]
   ·rw [show min s.size l.length=l.length by omega]
  ·rw [bO,hq,List.length_drop];have e:cu.toList.length=cu.size:=by simp
   omega
 refine⟨(),w.setRow g (cur.toList.take 0++fR ((aN s).take (Nat.min s.size l.length))++cur.toList.drop (0+(fR ((aN s).take (Nat.min s.size l.length))).length)).toArray,O,?_,?_⟩
 rotate_left
 ·refine hC.upd hk fun G hG hGlt=> ?_
  exact⟨G,⟨hG.1,by rw [hfl,hml,Nat.mul_one],.inr ⟨g,cap,_,by rw [kF];exact hv,hbg,setRow_heap w g _ (cur.toList.take 0++fR ((aN s).take (Nat.min s.size l.length))++cur.toList.drop (0+(fR ((aN s).take (Nat.min s.size l.length))).length)).toArray U (0,0) hg,by rw [kF];exact hnc,hcm,by rw [List.size_toArray];exact(hnew cur hcs.symm htake).2,by rw [kF];exact(hnew cur hcs.symm htake).1⟩⟩,fun x hx=>⟨by simpa using hGlt x hx,fun _=>hx⟩,⟨J,J,J,by simp,fun i _ hi=>setRow_other w g i _ (fun e=>hi (e▸(hG.1 g).2 (by rw [hv];rfl)))⟩⟩
 ·simp only [execOp,resolve,invoke,builtin,hE.ev hy]at hx ⊢;have hx':=hE.ev hx;rw [hv]at hx';simp [hx',hE.ev hy,hr]
/-! ### Lists of zeros of larger things -/
theorem zL(zs:List Value):(List.range zs.length).map (fun i=>zs.toArray[i]!)=zs:=by
 apply List.ext_getElem?;intro i;rw [List.getElem?_map];by_cases h:i<zs.length
 ·rw [List.getElem?_range h];simp [h]
 ·rw [List.getElem?_eq_none (by simp;omega),List.getElem?_eq_none (by omega)];rfl
theorem kZ(zs:List Value):∀n,(madeCells zs.toArray (n*zs.length)).toList=(List.replicate n zs).flatten
 | 0=>by simp [madeCells]
 | n+1=>by
  have ih:=kZ zs n;unfold madeCells at ih ⊢;rw [Array.toList_map,Array.toList_range]at ih ⊢;rw [Nat.succ_mul,List.range_add,List.map_append,ih,List.replicate_succ',List.flatten_append,List.map_map]
  congr 1
  rw [show [zs].flatten=zs by simp]
  conv=>rhs;rw [←zL zs]
  refine List.map_congr_left fun i hi=> ?_
  have hi':=List.mem_range.1 hi;show (zs.toArray[(n*zs.length+i)%zs.toArray.size]!)=_;rw [List.size_toArray,Nat.add_comm,Nat.add_mul_mod_self_right,Nat.mod_eq_of_lt hi']
theorem Ab{α:Type}(enc:α→List Value)(x0:α)(zs:List Value)(he:enc x0=zs)(n:Nat):(List.replicate n x0).flatMap enc=(List.replicate n zs).flatten:=by
 subst he;rw [List.flatMap_def,List.map_replicate]
theorem BI{α:Type}{S U:TypeId}{D:TypeDesc}{z:Value}{s bb c:Nat}(enc:α→List Value)(x0:α){zs:List Value}{x y:Operand}{k k':IntKind}{i j:Int}(hS:P.underlying S=some (.slice U))(hU:TI P U D z s bb)(h1:z.cells=zs.toArray)(h2:zs.length=s)(he:enc x0=zs)(hx:ev E x=some (.int k i))(hy:ev E y=some (.int k' j))(hi:i=(c:Int))(hj:j=(c:Int))(hc:bb*c≤281474976710656)(hc2:c≤maxLen):
  MS P N w0 M H E Γ R ⟨some d,.makeSlice S x y,T,ps,af,none⟩ (X:=SV) (fun _=>True) (fun v'=>sv v') (fun v'=>(d,own U s enc (sv v') (List.replicate c x0))::Γ) (fun _=>R):=by
 subst hi;subst hj;refine fY fun a w hE hC=> ?_
 obtain⟨i,i1,i2,i3,i4⟩:=hU.info;have h63':(c:Int)≤9223372036854775807:=by
  have h:=hc2;simp [maxLen]at h;omega
 have hb':(i.bytes:Int)*(c:Int)≤281474976710656:=by
  have h:((i.bytes*c:Nat):Int)≤281474976710656:=by rw [i4];omega
  rwa [Int.natCast_mul]at h
 have hr:=run_make (P:=P) w S U i z hS i1 i2 k k' c c (by omega) (Int.le_refl _) hb' h63';simp only [Int.toNat_natCast,i3,h1]at hr;have hmc:(madeCells zs.toArray (c*s)).toList=(List.replicate c x0).flatMap enc:=by rw [←h2,kZ,Ab enc x0 zs he]
 have ho:(w.alloc (.cells (madeCells zs.toArray (c*s)) U)).ownsRow 0 U s (.slice (some ⟨w.heap.size,0,none⟩) c c) (List.replicate c x0).length ((List.replicate c x0).flatMap enc):=by
  refine⟨by rw [←hmc,List.length_replicate,Array.length_toList,size_madeCells],.inr ⟨w.heap.size,c,madeCells zs.toArray (c*s),by rw [List.length_replicate],bB _,heap_alloc_new w _,by rw [List.length_replicate];exact bU _,hc2,by rw [size_madeCells],?_⟩⟩;rw [hmc,List.take_of_length_le];rw [←hmc,Array.length_toList,size_madeCells,List.length_replicate];exact bU _
 have hg:=World.grownBy_alloc w (.cells (madeCells zs.toArray (c*s)) U) none;refine⟨⟨some ⟨w.heap.size,0,none⟩,c,c⟩,w.alloc (.cells (madeCells zs.toArray (c*s)) U),O,by simp [execOp,hE.ev hx,hE.ev hy,hr,sv],?_⟩;refine hC.new ⟨hg.os,hg.tape,hg.output,hg.size,fun k hk _=>hg.block k hk (by simp)⟩ ⟨fun b=>b=w.heap.size,⟨fun x=>by simp [sv,Value.ownBlock,eq_comm],ho⟩,fun b hb=> ?_⟩;subst hb;exact⟨(ho.lt _ J).2,bU _⟩
/-! ### Methods that an interface reaches -/
def MF(P:Program)(t:TypeId)(v:Value)(name:String)(n:Nat)(v':Value):Prop:=∀(d:Nat)(w:World),(method (d+1) t v name).run P w= .ok (n,v') w
theorem fD{dst:Option Nat}{n t:Nat}{nm:String}{f:Operand}{fv v1:Value}{xs:List Operand}{us vs:List Value}{at_:Array TypeId}{L R0:List Asn}{X:Type}{φ:X→Prop}{v:X→Value}{L' R':X→List Asn}(hm:MF P t fv nm n v1)(hs:Spec P n vs L R0 φ v L' R')(hcb:Cb P n)
  (ks:List Nat) (rs:List (Bool×Nat)) (ns:List Nat) (hf:ev E f=some (.iface t fv)) (hx:evs E xs=some us) (hu:v1::us=vs)
  (hnd:mG ks=true) (hL:dK Γ ks=cB L) (hR:gd Γ R rs=cB R0) (hl:fN ks rs=true) (hns:mG ns=true) (hnl:∀x,φ x→ns.length=(L' x).length) (hrl:∀x,φ x→df rs=true→0=(R' x).length):
  MS P N w0 M H E Γ R ⟨dst,.call {callee:= .invoke f nm,args:=xs.toArray,argTypes:=at_},T,ps,af,none⟩ φ v (fun x=>ez ns (L' x) (eA ks Γ)) (fun _=>R):=by
 intro a w hE hC next Q hnext
 unfold Oper.wp;have hev:=hE.evs hx;have hrun:(execOp a.eval ⟨dst,.call {callee:= .invoke f nm,args:=xs.toArray,argTypes:=at_},T,ps,af,none⟩).run P w= .ok (.enter n vs.toArray) w:=by
  subst hu;have hm':=hm (P.types.size+Made.depth-1) w;have:P.types.size+Made.depth-1+1=P.types.size+Made.depth:=by unfold Made.depth;omega
  rw [this]at hm';simp [execOp,resolve,hE.ev hf,invoke,callMethod,hev,hm',jc hcb]
 rw [hrun];refine(nf hs hC ks hnd hL rs hR hl ns hns hnl [] hrl).mono ?_;rintro e w' ⟨x,h1,rfl,h2⟩;rw [wz]at h2;exact hnext x w' h1 h2
end
theorem BM{P:Program}{t:TypeId}{v:Value}{nm:String}{n sg:Nat}{S:TypeId}(hS:P.underlying t=some (.pointer S))(h:((P.info? t).bind fun i=>i.methods.find? (·.name==nm))=some ⟨nm,sg,#[],some (n,true)⟩):MF P t v nm n v:=fun d w=>by
 cases hi:P.info? t with
 | none=>simp [hi]at h
 | some i=>
  rw [hi]at h;have h':i.methods.find? (·.name==nm)=some ⟨nm,sg,#[],some (n,true)⟩:=h;unfold method;simp [typeInfo,hi,h',follow,receiverAt,run_underlying hS,Place.get]
theorem s4{P:Program}{t:TypeId}{c:Nat}{nm:String}{n sg S F:Nat}{fs:Array Field}{f:Field}{D:TypeDesc}{z:Value}{s bb:Nat}(hS:P.underlying S=some (.struct fs))(hf:fs[0]?=some f)(h0:f.offset=0)(hF:f.type=F)(hT:TI P F D z s bb)(hs:0<s)(hD:∀e,D≠ .pointer e)
  (h:((P.info? t).bind fun i=>i.methods.find? (·.name==nm))=some ⟨nm,sg,#[⟨S,0,true⟩],some (n,true)⟩):MF P t (Pt c) nm n (Pt c):=fun d w=>by
 cases hi:P.info? t with
 | none=>simp [hi]at h
 | some i=>
  rw [hi]at h;have h':i.methods.find? (·.name==nm)=some ⟨nm,sg,#[⟨S,0,true⟩],some (n,true)⟩:=h;unfold method;have hne:s≠0:=by omega
  simp [typeInfo,hi,h',follow,run_underlying hS,hf,Place.get,asAddr,fieldPlace,hF,hT.sizeOf,hne,h0];unfold receiverAt;simp [run_underlying hT.und];rfl
theorem yj(c:Nat):MF prog 69 (Pt c) "Kind" 232 (Pt c):=BM underlying69 (sg:=113) (by kernel_rfl)
theorem ul(c:Nat):MF prog 69 (Pt c) "SetState" 29 (Pt c):=BM underlying69 (sg:=82) (by kernel_rfl)
theorem um(c:Nat):MF prog 69 (Pt c) "Pages" 71 (Pt c):=s4 underlying80 rfl rfl rfl IJ (by decide) (fun _ h=>by cases h) (sg:=113) (by kernel_rfl)
theorem Ev(c:Nat):MF prog 69 (Pt c) "Poke" 27 (Pt c):=s4 underlying80 rfl rfl rfl IJ (by decide) (fun _ h=>by cases h) (sg:=71) (by kernel_rfl)
theorem lx(c:Nat):MF prog 69 (Pt c) "Protect" 28 (Pt c):=s4 underlying80 rfl rfl rfl IJ (by decide) (fun _ h=>by cases h) (sg:=81) (by kernel_rfl)
theorem wI(c:Nat):MF prog 69 (Pt c) "SetCode" 36 (Pt c):=s4 underlying80 rfl rfl rfl IJ (by decide) (fun _ h=>by cases h) (sg:=94) (by kernel_rfl)
def KpR(L L':List Sl0):Prop:=L'.map (·.r)=L.map (·.r)
theorem KpR.len{L L':List Sl0}(h:KpR L L'):L'.length=L.length:=by simpa using congrArg List.length h
theorem KpR.set{L:List Sl0}{i:Nat}{s x:Sl0}(hs:L[i]?=some s)(h:x.r=s.r):KpR L (L.set i x):=by
 unfold KpR;rw [List.map_set];exact iT (by rw [List.getElem?_map,hs,h];rfl)
def gM(D:List (List Int))(a x:Int):List (List Int):=D.set (a/256).toNat ((D.getD (a/256).toNat []).set (a%256).toNat x)
theorem mB{D:List (List Int)}{a x:Int}(h:¬(a/256).toNat<D.length):gM D a x=D:=List.set_eq_of_length_le (by omega)
theorem Ai{D:List (List Int)}{a x:Int}(hi:(a/256).toNat<D.length)(ho:(a%256).toNat<(D.getD (a/256).toNat []).length)(h:(D.getD (a/256).toNat []).getD (a%256).toNat 0=x):gM D a x=D:=by
 unfold gM;rw [iT (L:=D.getD (a/256).toNat [])]
 ·exact xz hi
 ·generalize D.getD (a/256).toNat []=q at ho h ⊢;rw [←h,List.getD_eq_getElem?_getD,bV ho];rfl
theorem E_{L L':List Sl0}{D C:List (List Int)}{a x:Int}(h:PgOk L D C)(hw:WfL L')(hn:L'.length=L.length)(hx:0≤x∧x<256):PgOk L' (gM D a x) C:=by
 refine⟨hw,by unfold gM;rw [List.length_set,hn];exact h.dl,by rw [hn];exact h.cl,?_,h.c8⟩;by_cases hi:(a/256).toNat<D.length
 ·unfold gM;have hd:=h.d8.at hi;refine h.d8.set (by rw [List.length_set];exact hd.1) fun y hy=> ?_
  rcases List.mem_or_eq_of_mem_set hy with hy|rfl
  ·exact hd.2 y hy
  ·exact hx
 ·rw [mB hi];exact h.d8
theorem Es{l:List Int}{o:Nat}{x:Int}(h:o<l.length):(fR l).take o++ [.int .u8 x]++(fR l).drop (o+1)=fR (l.set o x):=by
 unfold fR;rw [List.map_set,List.set_eq_take_append_cons_drop,ao (by rw [List.length_map];exact h)];simp
theorem A9(c:Nat)(vs:SV)(stv:List Value)(L:List Sl0)(D C:List (List Int))(hP:PgOk L D C)(hL:L.length≤65536)(a:Int)(ha:0≤a∧a<4294967296)(x:Int)(hx:0≤x∧x<256):
  Spec prog 70 [Pt c,I3 a,.int .u8 x] [aP c 80 (sv vs:: .bool false::stv),own 148 7 j8 (sv vs) L,iB L D C iR] [] (X:=List Sl0) (fun L'=>KpR L L'∧PgOk L' (gM D a x) C) (fun _=> .tuple #[]) (fun L'=> [aP c 80 (sv vs:: .bool false::stv),own 148 7 j8 (sv vs) L',iB L' (gM D a x) C iR]) (fun _=> []):=by
 refine au func70 J ntmps70 J fun w0 M H=>ak (ab J (ab J (ch (xs:= [.tmp 7,.tmp 8]) (Spec.roAll (zd c vs stv L hL a ha) (ic (A:=aP c 80 _))) Kw [] [(true,0),(true,1)] [] J J J (fun _ _=>am J (aa (aW (aW ?_)))))))
 by_cases hi:(a/256).toNat<L.length
 ·rw [wG hi];obtain⟨s,hs⟩:∃s,L[(a/256).toNat]?=some s:=⟨_,bV hi⟩
  have hDi:=hP.d8.at (show(a/256).toNat<D.length by rw [hP.dl];exact hi)
  have hm:a.tmod 256=a%256:=jM ha.1;refine aj (ab J (ap J J (ka underlying152) (ab J (aK J J (ab J (aK J J (bp J (aK J J (aH (cH kz J) (aK J J (aH (ag mM J J (gQ (bl (k:=1) J) (by intro _;rfl) hs J)) (aK J J (ab J (aK J J (ap J J (iA (c:=a%256) (by decide) (by exact hm)) (aK J J (bp J (aK J J (aH (lu (j:=(a%256).toNat) underlying159 t5 J J (by omega) (by omega)) ?_)))))))))))))))))));refine aK J J (aH (ag t5 J J (MA (k:=2) J hs (xZ (by rw [hDi.1];omega)))) (aK J J (ab J (aK J J (ap J J bc (aH (cq J J J (mT J)) (aa (ah J (fun h1=> ?_) (fun h1=> ?_)))))))))
  ·(try simp only [aY]at h1);refine ar ?_;have hbx:(D.getD (a/256).toNat []).getD (a%256).toNat 0=x:=by simpa using h1
   rw [Ai (by rw [hP.dl];exact hi) (by rw [hDi.1];omega) hbx];refine bN L ⟨J,hP⟩ J fi J [0,1,2] [] J J J
  ·(try simp only [aY]at h1);refine az (aj (ab J (ae (xs:= [.tmp 25]) (qv vs L D C hP (a/256).toNat s hs) Ls [1,2] [] [1,2] (fun x0 hx0=>ab J (ap J J (iA (c:=a%256) (by decide) (by exact hm)) (ab J (bp J (aH (lu (j:=(a%256).toNat) underlying159 t5 J J (by omega) (by omega)) ?_))))))));have hs2:(L.set (a/256).toNat x0)[(a/256).toNat]?=some x0:=List.getElem?_set_self hi;refine eV (k:=2) J (wr hs2) (lZ 2 [2,32] J (by decide) (fun _=>J) fun _=>aw (k:=2) (o:=(a%256).toNat) t5 J J J J J J (by rw [Nat.ble_eq,md hDi.1];show(a%256).toNat+1≤256;omega) (Es (by rw [hDi.1];omega)) (bH 2 [2,32] J (zO hx0.wf hs2 hx0.od (by rw [hP.dl];exact hi)) (aa (bN (L.set (a/256).toNat x0) ⟨KpR.set hs hx0.r,E_ hP hx0.wf (by rw [List.length_set]) hx⟩ J fi J [0,1,2] [] J J J))))
 ·rw [sY hi];refine aj (ab J (ap J J (ka underlying152) (ab J (bJ J J J J (bJ J J J J (bJ J J J J (bJ J J J J (bJ J J J J (bJ J J J J (bJ J J J J (bJ J J J J (bJ J J J J (bJ J J J J (bJ J J J J (aH (cq J J J (eR J)) (aa (ah J (fun h2=> ?_) (fun h2=> ?_))))))))))))))))))
  ·(try simp only [aY]at h2);refine ar ?_;rw [mB (by rw [hP.dl];exact hi)];refine bN L ⟨J,hP⟩ J fi J [0,1,2] [] J J J
  ·cases h2
def qP:List (List Int)→Int→List Int→List (List Int)
 | D,_,[]=>D
 | D,a,x::l=>qP (gM D a x) (a+1) l
theorem uR:∀(l:List Int)(D:List (List Int))(a x:Int),qP D a (l++ [x])=gM (qP D a l) (a+l.length) x
 | [],D,a,x=>by simp [qP]
 | y::l,D,a,x=>by
  show qP (gM D a y) (a+1) (l++ [x])=gM (qP (gM D a y) (a+1) l) (a+((l.length+1:Nat):Int)) x;rw [uR l,show a+1+(l.length:Int)=a+((l.length+1:Nat):Int) by omega]
theorem zz(c:Nat)(vs:SV)(stv:List Value)(L:List Sl0)(D C:List (List Int))(hP:PgOk L D C)(hL:L.length≤65536)(b3 b4:Nat)(a:Int)(i:Nat)(ha:0≤a∧a+i<4294967296)(x:Int)(hx:0≤x∧x<256):
  Spec prog 69 [I6 (i:Int),.int .u8 x,Pt b3,Pt b4] [aP c 80 (sv vs:: .bool false::stv),own 148 7 j8 (sv vs) L,iB L D C iR] [aP b3 141 [Pt c],aP b4 41 [I3 a]] (X:=List Sl0) (fun L'=>KpR L L'∧PgOk L' (gM D (a+i) x) C) (fun _=> .tuple #[]) (fun L'=> [aP c 80 (sv vs:: .bool false::stv),own 148 7 j8 (sv vs) L',iB L' (gM D (a+i) x) C iR]) (fun _=> []):=by
 refine au func69 J ntmps69 J fun w0 M H=>aj (aH (ag LZ J J (cN (k:=0) J J)) (aH (ag dt J J (cN (k:=1) J J)) (ab J (aH (bX underlying3 underlying41 J (by first|exact bx (by omega)|rfl)) (ap J J (bZ (c:=a+i) (bx (by omega))) (ab J (ae (xs:= [.tmp 6,.tmp 10,.tmp 11]) (A9 c vs stv L D C hP hL (a+i) (by omega) x hx) M8 [0,1,2] [] [0,1,2] (fun L' hL'=>aa (bN L' hL' J fi J [0,1,2] [] J J J)))))))))
theorem PgOk.kd{L:List Sl0}{D D' C:List (List Int)}(h:PgOk L D C)(e:D=D'):PgOk L D' C:=e▸h
theorem KpR.trans{L L' L2:List Sl0}(h:KpR L L')(h2:KpR L' L2):KpR L L2:=Eq.trans h2 h
theorem LB{t:Ba}{i:Nat}:0≤(aN t).getD i 0∧(aN t).getD i 0<256:=hZ t i
theorem Ag(c:Nat)(vs:SV)(stv:List Value)(L:List Sl0)(D C:List (List Int))(hP:PgOk L D C)(hL:L.length≤65536)(b3 b4:Nat)(a:Int)(t:Ba)(ha:0≤a∧a+t.size<4294967296):
  Spec prog 68 [Sg t,.func (.func 69) #[] #[Pt b3,Pt b4]] [aP c 80 (sv vs:: .bool false::stv),own 148 7 j8 (sv vs) L,iB L D C iR] [aP b3 141 [Pt c],aP b4 41 [I3 a]] (X:=List Sl0) (fun L'=>KpR L L'∧PgOk L' (qP D a (aN t)) C) (fun _=> .tuple #[]) (fun L'=> [aP c 80 (sv vs:: .bool false::stv),own 148 7 j8 (sv vs) L',iB L' (qP D a (aN t)) C iR]) (fun _=> []):=by
 refine au func68 J ntmps68 J fun w0 M H=> ?_
 have hbl:=eb t;refine ak (ab J (aH (ck underlying9 J) (ab J (aa (aC (bG (X:=List Sl0×Nat) (fun x=>x.2≤t.size∧KpR L x.1∧PgOk x.1 (qP D a ((aN t).take x.2)) C) (fun x=> [(0,Sg t),(1,.func (.func 69) #[] #[Pt b3,Pt b4]),(6,I6 (t.size:Int)),(7,I6 (x.2:Int))]) (fun x=> [(0,aP c 80 (sv vs:: .bool false::stv)),(1,own 148 7 j8 (sv vs) x.1),(2,iB x.1 (qP D a ((aN t).take x.2)) C iR)]) (fun x=> [(0,aP b3 141 [Pt c]),(1,aP b4 41 [I3 a])]) (fun x=>t.size-x.2) (L,0) ⟨bB _,J,hP⟩ J J J (fun x hI=> ?_)))))));obtain⟨L',i⟩:=x;obtain⟨hiI,hK,hP'⟩:=hI;refine ak (ap J J cL (aa (aW (ah J (fun h1=> ?_) (fun h1=> ?_)))))
 ·(try simp only [aY]at h1);have hi:i<t.size:=by omega
  have hxx:=Dh hi;refine az (aW (aC (ak (ab J (am J (aa (aj (ab J (ab J (ab J (ab J (aH (d6 (j:=i) underlying9 J J J (by omega)) (ae (xs:= [.tmp 11,.tmp 14]) (zz c vs stv L' (qP D a ((aN t).take i)) C hP' (by rw [hK.len];exact hL) b3 b4 a i (by omega) ((aN t).getD i 0) LB) M9 [0,1,2] [(false,0),(false,1)] [0,1,2] (fun L2 hL2=> ?_))))))))))))));have he:gM (qP D a ((aN t).take i)) (a+i) ((aN t).getD i 0)=qP D a ((aN t).take (i+1)):=by rw [cn hxx,uR,List.length_take,Nat.min_eq_left (by omega)]
  rw [he]at hL2 ⊢;refine aa (aj (ap J J a_ (ab J (aa ?_))));refine aI (L2,i+1) ⟨⟨by show i+1≤_;omega,hK.trans hL2.1,hL2.2⟩,by show t.size-(i+1)<t.size-i;omega⟩ J J J
 ·(try simp only [aY]at h1);have hi:i=t.size:=by omega
  subst hi;have hT:(aN t).take t.size=aN t:=List.take_of_length_le (Nat.le_of_eq hbl);refine bK (bN L' ⟨hK,hP'.kd (by show qP D a ((aN t).take t.size)=_;rw [hT])⟩ J fi J [0,1,2] [] J (by(conv=>rhs;rw [←hT]);rfl) J)
theorem re(c:Nat)(vs:SV)(stv:List Value)(L:List Sl0)(D C:List (List Int))(hP:PgOk L D C)(hL:L.length≤65536)(a:Int)(t:Ba)(ha:0≤a∧a+t.size<4294967296):
  Spec prog 27 [Pt c,I3 a,Sg t] [aP c 80 (sv vs:: .bool false::stv),own 148 7 j8 (sv vs) L,iB L D C iR] [] (X:=List Sl0) (fun L'=>KpR L L'∧PgOk L' (qP D a (aN t)) C) (fun _=> .tuple #[]) (fun L'=> [aP c 80 (sv vs:: .bool false::stv),own 148 7 j8 (sv vs) L',iB L' (qP D a (aN t)) C iR]) (fun _=> []):=by
 refine au func27 J ntmps27 J fun w0 M H=>ak (mP J J J fun b3=>mP J J J fun b4=>aa (aj (ab J (aH (dS (first:= []) (cap:= [.tmp 3,.tmp 4]) J J) (ae (xs:= [.tmp 6,.tmp 7]) (Ag c vs stv L D C hP hL b3 b4 a t ha) M_ [0,1,2] [(true,3),(true,4)] [0,1,2] (fun L' hL'=>aa (bN L' hL' J fi J [0,1,2] [] J J J)))))))
def xw(C:List (List Int))(p:Nat)(t:Ba):List (List Int):=C.set p (Aj t (C.getD p []))
theorem CO{t:Ba}{l:List Int}(h:∀x∈l,0≤x∧x<256):∀x∈Aj t l,0≤x∧x<256:=fun x hx=>by
 unfold Aj at hx;rcases List.mem_append.1 hx with hx|hx
 ·obtain⟨b,-,rfl⟩:=List.mem_map.1 (List.mem_of_mem_take hx);exact⟨by omega,by have:=b.toNat_lt;omega⟩
 ·exact h x (List.mem_of_mem_drop hx)
theorem C5{C:List (List Int)}{p:Nat}{t:Ba}(h:¬p<C.length):xw C p t=C:=List.set_eq_of_length_le (by omega)
theorem y9{L L':List Sl0}{D C:List (List Int)}{p:Nat}{t:Ba}(h:PgOk L D C)(hw:WfL L')(hn:L'.length=L.length)(hp:p<L.length):PgOk L' D (xw C p t):=by
 have hd:=h.c8.at (show p<C.length by rw [h.cl];exact hp)
 refine⟨hw,by rw [hn];exact h.dl,by unfold xw;rw [List.length_set,hn];exact h.cl,h.d8,?_⟩;unfold xw;exact h.c8.set (by rw [kF];exact hd.1) (CO hd.2)
theorem si(c:Nat)(vs:SV)(stv:List Value)(L:List Sl0)(D C:List (List Int))(hP:PgOk L D C)(hL:L.length≤65536)(p:Nat)(hp:p≤65536)(t:Ba):
  Spec prog 36 [Pt c,I6 (p:Int),Sg t] [aP c 80 (sv vs:: .bool false::stv),own 148 7 j8 (sv vs) L,iB L D C iR] [] (X:=List Sl0) (fun L'=>KpR L L'∧PgOk L' D (xw C p t)) (fun _=> .tuple #[]) (fun L'=> [aP c 80 (sv vs:: .bool false::stv),own 148 7 j8 (sv vs) L',iB L' D (xw C p t) iR]) (fun _=> []):=by
 refine au func36 J ntmps36 J fun w0 M H=>aS (ab J (ap J J cL (ab J (d7 (t:=10) J (fun h1=>False.elim (by revert h1;simp)) (fun h1=>aK J J (ab J (aK J J (ab J (aK J J (ch (xs:= [.tmp 12]) (Spec.roAll (gn c vs stv L) (ic (A:=aP c 80 _))) As [] [(true,0),(true,1)] [] J J J (fun _ _=>aK J J (ap J J eY (aH (bw J J J) (ab J (d7 (t:=16) J (fun h2=> ?_) (fun h2=> ?_))))))))))))))))
 ·(try simp only [aY]at h2);have hi:¬p<L.length:=by simp at h2;omega
  refine bJ J J J J (bJ J J J J (bJ J J J J (bJ J J J J (aH (bw J J J) (aa (ah J (fun h3=> ?_) (fun h3=> ?_)))))))
  ·refine ar ?_;rw [C5 (by rw [hP.cl];exact hi)];refine bN L ⟨J,hP⟩ J fi J [0,1,2] [] J J J
  ·revert h3;simp
 ·(try simp only [aY]at h2);have hi:p<L.length:=by simp at h2;omega
  obtain⟨s,hs⟩:∃s,L[p]?=some s:=⟨_,bV hi⟩
  have hDi:=hP.c8.at (show p<C.length by rw [hP.cl];exact hi)
  refine aK J J (ab J (aK J J (bp J (aK J J (ax HV J (aK J J (aL 0 t4 J J J J (aH (bw J J J) (aa (ah J (fun h4=> ?_) (fun h4=> ?_)))))))))))
  ·revert h4;simp
  ·refine az (ak (ab J (bp J (ax jh J (aL 0 DP J J J J (ab J (aH (aR (j:=p) underlying72 qx J J (bl (k:=1) J) J (by omega)) (am J (aa (aS (ab J (bp J (aH (cH ky J) (aH (ag mM J J (gQ (bl (k:=1) J) (by intro _;rfl) hs J)) (ap J J (ka underlying146) (aa ?_))))))))))))))));refine ah J (fun h5=> ?_) (fun h5=> ?_)
   ·cases h5
   ·(try simp only [aY]at h5);refine az (aS (ab J (bp J (aH (cH yS J) (aH (ag t4 J J (gQ (bl (k:=1) J) (by intro _;rfl) hs J)) (aH (cZ J) (aa (ah J (fun h6=> ?_) (fun h6=> ?_)))))))))
    ·(try simp only [aY]at h6);have hod:s.oc=false:=by simpa using h6
     refine ak (ab J (bp J (aH (cH ky J) (aH (ag mM J J (gQ (bl (k:=1) J) (by intro _;rfl) hs J)) (bp J (aH (aM (us:=fR (C.getD p [])) vV J J (md hDi.1) (J7 (k:=2) J hs)) (aV vV J J fun b7=>aq (k:=7) vV J J (md hDi.1) (sX _) J J (Bn (ua (k1:=7) (k2:=2) J J (by decide)) fun hfr=>aa (aj (ab J (ab J (bp J (aH (cH ky J) (gy (k:=1) (o:=1) (e':={s with c:=b7}) mM J J J J J J (by intro _;rfl) hs (by show _+1≤_;decide) J ?_))))))))))))));have hs2:(L.set p {s with c:=b7})[p]?=some {s with c:=b7}:=List.getElem?_set_self hi;refine bp J (aH (cH yS J) (gy (k:=1) (o:=3) (e':={s with c:=b7,oc:=true}) t4 J J J J J J (by intro _;rfl) hs2 (by show _+1≤_;decide) J ?_));have hs3:(L.set p {s with c:=b7,oc:=true})[p]?=some {s with c:=b7,oc:=true}:=List.getElem?_set_self hi;refine bH 2 [2,7] (C:=iB (L.set p {s with c:=b7,oc:=true}) D C iR) J (fun w F h=>by have q:=Bv (D:=D) (l:=C.getD p []) (i:=p) (nb:=b7) hs (by rw [hP.cl];exact hi) w F h;rw [xz (by rw [hP.cl];exact hi)]at q;exact q) ?_;refine eV (k:=1) (A':=own 148 7 j8 (sv vs) (L.set p {s with c:=b7,oc:=true})) J (fun w G h=>by rw [List.set_set]at h;exact h) ?_;refine aa (aj (ab J (bp J (aH (cH ky J) (aH (ag mM J J (gQ (bl (k:=1) J) (by intro _;rfl) hs3 J)) (bp J (aH (jW underlying159 t5 J (by decide)) (ab J (eV (k:=2) J (oR hs3) (lZ 2 [2,58] J (by decide) (fun _=>J) fun _=>iV (mb (k:=2) underlying84 t5 J hDi.1.symm J J) J fun _ _=>bH 2 [2,58] J (rh (hP.wf.new_c hs hfr) hs3 J (by rw [hP.cl];exact hi)) (aa (bN (L.set p {s with c:=b7,oc:=true}) ⟨KpR.set hs J,y9 hP (hP.wf.new_c hs hfr) (by rw [List.length_set]) hi⟩ J fi J [0,1,2] [] J J J))))))))))))
    ·(try simp only [aY]at h6);have hoc:s.oc=true:=by simpa using h6
     refine az (aj (ab J (bp J (aH (cH ky J) (aH (ag mM J J (gQ (bl (k:=1) J) (by intro _;rfl) hs J)) (bp J (aH (jW underlying159 t5 J (by decide)) (ab J (eV (k:=2) J (oR hs) (lZ 2 [2,58] J (by decide) (fun _=>J) fun _=>iV (mb (k:=2) underlying84 t5 J hDi.1.symm J J) J fun _ _=>bH 2 [2,58] J (rh hP.wf hs hoc (by rw [hP.cl];exact hi)) (aa (bN L ⟨J,y9 hP hP.wf J hi⟩ J fi J [0,1,2] [] J J J))))))))))))
def x6(code:Ba)(p:Nat):List Int:=if 1≤p∧(p-1)*256<code.size then Aj (code.extract ((p-1)*256) code.size) zer else zer
theorem r6:∀x∈zer,0≤x∧x<256:=fun x hx=>by rw [jD]at hx;rw [List.eq_of_mem_replicate hx];decide
theorem D9(code:Ba)(p:Nat):(x6 code p).length=256:=by
 unfold x6;split
 ·rw [kF,gU]
 ·exact gU
theorem G4(code:Ba)(p:Nat):∀x∈x6 code p,0≤x∧x<256:=by
 unfold x6;split
 ·exact CO r6
 ·exact r6
theorem BF{l:List Int}(h:l.length=256):l≠ []:=fun e=>by rw [e]at h;cases h
theorem tn(code:Ba)(hc:code.size≤7936)(p:Nat)(hp:p≤4096):
  aO prog 72 [Sg code,I6 (p:Int)] [] [] (Sg (iP (x6 code p))) []:=by
 refine au func72 J ntmps72 J fun w0 M H=>ak (am J (av J (kg bL 0 underlying84 t5 J J J J (c:=256) J J (by omega) (by simp only [maxLen];omega) J fun v7=> ?_)))
 rw [←jD];refine am J (aa (aS (ab J (ap J J (ew (c:=(p:Int)*256) (bC (by omega))) (ap J J (la (c:=(p:Int)*256-256) (bC (by omega))) (am J (av J (ab J (ap J J eY (ab J (aF [] J J O (fun hg1=>aX J) J (aF [(14,_)] J J ⟨J,O⟩ (fun hg2=>aX J) J (aF [(14,_),(15,_)] J J ⟨J,J,O⟩ (fun hg3=>ck underlying9 J) J (aF [(14,_),(15,_),(16,_)] J J ⟨J,J,J,O⟩ (fun hg4=>aU J J cL) J (aH (bw J J J) ?_)))))))))))))));refine aa (ah J (fun h5=> ?_) (fun h5=> ?_))
 ·(try simp only [aY]at h5);have hi:1≤p∧(p-1)*256<code.size:=by simp at h5;omega
  refine aj (ab J (ab J (ab J (aH (kX underlying9 J J (by omega) (by omega)) (iV (sW (k:=7) underlying84 t5 J J J (by rw [gU];decide)) J fun _ _=>av J (ab J (aH (oS underlying84 underlying5 underlying9 J (bl (k:=7) J) (BF (by rw [kF,gU]))) (am J (aa (ar ?_))))))))));refine aG () O J (bR (aD J)) (by unfold x6;rw [ao hi,show((p:Int)*256-256).toNat=(p-1)*256 by omega]) [] [] J J J
 ·(try simp only [aY]at h5);have hi:¬(1≤p∧(p-1)*256<code.size):=by simp at h5;omega
  refine az (ak (ab J (aH (oS underlying84 underlying5 underlying9 J (bl (k:=7) J) (BF gU)) (am J (aa (ar (aG () O J (bR (aD J)) (by unfold x6;rw [ac hi]) [] [] J J J)))))))
def sS(pc r4 c1 st du:Int):List Value:= [I3 pc,I3 0,I3 0,I3 0,I3 0,I3 r4,I3 0,I3 0,I3 0,I3 0,I3 0,I3 0,I3 0,I3 0,I3 0,I3 0,I3 0,I3 0,I3 0,I3 c1,I3 0,I3 0,I6 st,I6 du]
theorem kR(c:Nat)(vs:SV)(p0 r0 c0 t0 d0 pc r4 c1 st du:Int)(hst:0≤st)(hdu:0≤du):
  aO prog 29 [Pt c,.agg (sS pc r4 c1 st du).toArray] [aP c 80 (sv vs:: .bool false::sS p0 r0 c0 t0 d0)] [] (.tuple #[]) [aP c 80 (sv vs:: .bool false::sS pc r4 c1 st du)]:=by
 refine au func29 J ntmps29 J fun w0 M H=> ?_
 have m1:max st 0=st:=Int.max_eq_left hst;have m2:max du 0=du:=Int.max_eq_left hdu;refine ak (cz J J fun b3=>av J (ax fw J (aH (cV (j:=0) underlying75 dt J J (by rfl) (by decide)) (aw (k:=3) dt J J J J J J J J (ax Ct J (aw (k:=3) dt J J J J J J J J (av J (ax f_ J (aL 3 t3 J J J J (aH (kY (c:=st) J J m1) (ax mZ J (aL 3 t3 J J J J (aH (kY (c:=du) J J m2) ?_)))))))))))));refine ax f_ J (aw (k:=3) t3 J J J J J J J J (ax mZ J (aw (k:=3) t3 J J J J J J J J (aa (aj (ab J (aH (aM nO J J J (bi (k:=3) J)) (bp J (ax Cs J (aw (k:=0) nO J J J J J J J J (aa (bN () O J fi J [0] [] J J J))))))))))))
theorem ld(c:Nat)(vs:SV)(pc r4 c1 st du:Int):
  aO prog 31 [Pt c] [] [aP c 80 (sv vs:: .bool false::sS pc r4 c1 st du)] (.agg (sS pc r4 c1 st du).toArray) []:=by
 refine au func31 J ntmps31 J fun w0 M H=>ak (aV nO J J fun b2=>av J (ab J (bp J (ax Cs J (aH (aM (us:=sS pc r4 c1 st du) nO J J J (HM (k:=0) J J)) (aq (k:=2) nO J J J J J J (aa (ar (aG () O J (bR (bh nO J J J (bi (k:=2) J))) J [] [] J J J)))))))))
theorem rD(c:Nat):
  aO prog 232 [Pt c] [] [] (I6 2) []:=by
 refine au func232 J ntmps232 J fun w0 M H=>ak (am J (av J (am J (aa (ar (aG () O J (bR (aD J)) J [] [] J J J))))))
def pz(z:Nat)(a:Bool):Value:= .pointer (if a then some ⟨z,0,none⟩else none)
def LS(z:Nat)(q:Bool×Bool×Bool):List Value:= [pz z q.1,pz z q.2.1,.bool false,.bool false,pz z q.1,pz z q.2.2,I6 0]
def nS(_:Unit):List Value:= [.pointer none,.pointer none,.bool false,.bool false,.pointer none,.pointer none,I6 0]
def FL(n i:Nat):List (Bool×Bool×Bool):=List.replicate i (true,true,true)++List.replicate (n-i) (false,false,false)
theorem lJ{n i:Nat}(h:i≤n):(FL n i).length=n:=by unfold FL;simp;omega
theorem IB{n i:Nat}(h:i<n):(FL n i).set i (true,true,true)=FL n (i+1):=by
 unfold FL;rw [List.set_append_right _ _ (by simp),List.length_replicate,Nat.sub_self,show n-i=(n-(i+1))+1 by omega,List.replicate_succ,List.set_cons_zero,List.replicate_succ',List.append_assoc];rfl
theorem Fj(n:Nat):FL n n=List.replicate n (true,true,true):=by unfold FL;rw [Nat.sub_self];simp
theorem B7{α:Type}{l:List α}{i:Nat}{x:α}(h:i<l.length):(l.set i x)[i]?=some x:=List.getElem?_set_self h
def s0(z:Nat):Sl0:=⟨z,z,false,false,z,z,0⟩
theorem Ac{α β:Type}{f:α→List Value}{g:β→List Value}{x:α}{y:β}(h:f x=g y)(n:Nat):(List.replicate n x).flatMap f=(List.replicate n y).flatMap g:=by
 rw [List.flatMap_def,List.map_replicate,h,←List.map_replicate,←List.flatMap_def]
theorem x8{α β:Type}{T:TypeId}{s:Nat}{f:α→List Value}{g:β→List Value}{x:α}{y:β}{v:Value}{n:Nat}(h:f x=g y):∀w G,(own T s f v (List.replicate n x)).pred w G→(own T s g v (List.replicate n y)).pred w G:=fun w G h1=>by
 refine⟨h1.1,?_⟩;have h2:=h1.2;rw [List.length_replicate]at h2 ⊢;rw [←Ac h];exact h2
theorem Eu(n z:Nat):∀w F,AllIn w F [aP z 159 (fR zer)]→(iB (List.replicate n (s0 z)) (List.replicate n zer) (List.replicate n zer) iR).pred w F:=fun w F h i s hs=>by
 obtain⟨⟨G,a,b⟩,_⟩:=h;have hi:i<n:=by
  have:=(cC.1 hs).1;simpa using this
 have e:(List.replicate n zer).getD i []=zer:=by
  rw [List.getD_eq_getElem?_getD,List.getElem?_replicate,ao hi];rfl
 rw [List.getElem?_replicate,ao hi]at hs;cases hs;rw [e];exact⟨fun _=>⟨b _ ((a.1 _).2 J),a.2⟩,fun _=>⟨b _ ((a.1 _).2 J),a.2⟩⟩
theorem Ho(n z:Nat):PgOk (List.replicate n (s0 z)) (List.replicate n zer) (List.replicate n zer):=by
 have h8:Pg8 (List.replicate n zer):=fun l hl=>by rw [List.eq_of_mem_replicate hl];exact⟨gU,r6⟩
 refine⟨⟨fun i s hs ho=> ?_,fun i s hs ho=> ?_⟩,by simp,by simp,h8,h8⟩
 ·rw [List.eq_of_mem_replicate (cO hs)]at ho;cases ho
 ·rw [List.eq_of_mem_replicate (cO hs)]at ho;cases ho
theorem Er:(fR zer).toArray=Array.replicate 256 (Value.int .u8 0):=by
 rw [jD];unfold fR;rw [List.map_replicate];exact List.toArray_replicate ..
theorem zN(n:Nat)(hn:n≤4096):
  Spec prog 67 [I6 (n:Int),.bool false] [] [] (X:=Nat×SV×Nat) (fun _=>True) (fun x=>Pt x.1) (fun x=> [aP x.1 74 [sv x.2.1,.bool false],own 148 7 j8 (sv x.2.1) (List.replicate n (s0 x.2.2)),iB (List.replicate n (s0 x.2.2)) (List.replicate n zer) (List.replicate n zer) iR]) (fun _=> []):=by
 refine au func67 J ntmps67 J fun w0 M H=> ?_
 have m1:max (n:Int) 0=n:=by omega
 have m2:min (n:Int) 4096=n:=by omega
 refine ak (am J (av J (ab J (aH (kY (c:=(n:Int)) J J m1) (aH (Bw (c:=(n:Int)) J J m2) (iV (BI (c:=n) nS () underlying72 qx J J J J J J J (by omega) (by simp only [maxLen];omega)) J fun v11 _=>ab J (aH (aT (cs:= #[sv v11,.bool false]) (parts:= [(0,.tmp 11),(1,.tmp 12)]) IJ Md J (by kernel_rfl)) (cz J J fun b14=>am J (av J (aH (ud (D:= .bool) (cs:=(fR zer).toArray) (parts:= []) vV t5 J (by rw [Er];kernel_rfl)) (cz J J fun b16=>am J ?_)))))))))));refine eV (k:=11) (A':=own 148 7 (LS b16) (sv v11) (FL n 0)) J (x8 J) (aa (aS (ab J (bp J (ax jh J (aL 14 DP J J J J (aH (aZ underlying72 J (bl (k:=11) J)) ?_)))))));rw [lJ (bB n)];refine ab J (aa (aC (bG (X:=Nat) (fun i=>i≤n) (fun i=> [(5,Pt b14),(1,.bool false),(6,Pt b16),(21,I6 (n:Int)),(22,I6 (i:Int))]) (fun i=> [(14,aP b14 74 [sv v11,.bool false]),(11,own 148 7 (LS b16) (sv v11) (FL n i)),(16,aP b16 159 (fR zer))]) (fun i=> []) (fun i=>n-i) 0 (bB _) J J J (fun i n1=>ak (ap J J cL (aa (aW (ah J (fun h1=> ?_) (fun h1=> ?_)))))))))
 ·(try simp only [aY]at h1);have hi:i<n:=by omega
  obtain⟨q,hs⟩:∃q,(FL n i)[i]?=some q:=⟨_,bV (by rw [lJ (by omega)];omega)⟩
  refine az (aW (aC (ak (ab J (am J (av J (ab J (bp J (ax jh J (aL 14 DP J J J J (ab J (ab J (ab J (aH (aT (cs:=(LS b16 (true,false,false)).toArray) (parts:= [(0,.tmp 30),(4,.tmp 31)]) qx JB J (by kernel_rfl)) (aH (aR (j:=i) underlying72 qx J J (bl (k:=11) J) J (by rw [lJ (by omega)];omega)) (lq (k:=11) (e':=(true,false,false)) qx J J J (by intro _;rfl) hs J J ?_))))))))))))))));refine av J (ab J (aH (cZ J) (aa (ah J (fun h2=> ?_) (fun h2=> ?_)))))
  ·refine sy [0,1,2,3,4,5,6,7,8,9,10,11,12,13,14,15,16,17] [0,1,2,3,4,5,6,7,8,13,9,14,10,11,12,15,16,17] [36,37,38,39,40,41,42,43,44,45,46,47,48,49,50,51] _ J J J (bP (V:= [(0,36,_),(1,37,_),(2,38,_),(3,39,_),(4,40,_),(5,41,_),(6,42,_),(7,43,_),(8,44,_),(9,45,_),(10,46,_),(11,47,_),(12,48,_),(13,49,_)]) [0,1,2,3,4,5,6,7,8,9,10,11,12,13] 14 [14,13,12,10,8,7,6,5,4,3,2,1,0] [15,16] (fun _=> [(15,50,_),(16,51,_)]) J J (aJ J J (ad J (aA J) (ad J (ai jh J) (ad J (ag DP J J (aB (k:=14) J J)) (aJ J J (aJ J J (ad J (aA J) (ad J (ai jh J) (ad J (ag DP J J (aB (k:=14) J J)) (aJ J J (aJ J J (aJ J J (ad J (aR (j:=i) underlying72 qx J J (bl (k:=11) J) J (by simp [lJ (show i≤n by omega)];omega)) (ad J (cH ky J) ay)))))))))))))) J J J J J J J J J (fun _ _=>J) J (gZ (k:=11) (o:=1) (e':=(true,true,false)) mM J J J J J J (by intro _;rfl) (B7 (by simp [lJ (show i≤n by omega)];omega)) (by show _+1≤_;decide) J) (fun _ _=>bP [15,16,9,11] 17 [17,16,15,14,13,12,11,10,9,8,7,6,5,4,3,2,1,0] [] (fun _=> []) J J (ad J (aR (j:=i) underlying72 qx J J (bl (k:=11) J) J (by simp [lJ (show i≤n by omega)];omega)) (ad J (cH E4 J) (aJ J J (aJ J J ay)))) J J J J J J J J J (fun _ _=>J) J (gZ (k:=11) (o:=5) (e':=(true,true,true)) mM J J J J J J (by intro _;rfl) (B7 (by simp [lJ (show i≤n by omega)];omega)) (by show _+1≤_;decide) J) (fun _ _=>br [] J J ay J J J ?_)));refine aj (ap J J a_ (ab J (aa ?_)));refine aI (i+1) ⟨by omega,by omega⟩ J (by rw [List.set_set,List.set_set,IB hi];rfl) J
  ·exact absurd h2 (by simp)
 ·(try simp only [aY]at h1);have hi:i=n:=by omega
  subst hi;refine bK (ak (ab J (am J (aa (ar (bH 16 [16] (C:=iB (List.replicate i (s0 b16)) (List.replicate i zer) (List.replicate i zer) iR) J (Eu _ _) (eV (k:=11) (A':=own 148 7 j8 (sv v11) (List.replicate i (s0 b16))) J (fun w G h=>x8 (f:=LS b16) (g:=j8) (x:=(true,true,true)) (y:=s0 b16) J w G (by rw [Fj]at h;exact h)) (aG (b14,v11,b16) O J (bR (aD J)) J [14,11,16] [] J J J))))))))
theorem Ao(n:Nat)(hn:n≤4096):
  Spec prog 26 [I6 (n:Int)] [] [] (X:=Nat×SV×Nat) (fun _=>True) (fun x=>Pt x.1) (fun x=> [aP x.1 80 (sv x.2.1:: .bool false::sS 0 0 0 0 0),own 148 7 j8 (sv x.2.1) (List.replicate n (s0 x.2.2)),iB (List.replicate n (s0 x.2.2)) (List.replicate n zer) (List.replicate n zer) iR]) (fun _=> []):=by
 refine au func26 J ntmps26 J fun w0 M H=>ak (am J (av J (ab J (ae (xs:= [.tmp 3,.const (.bool Bool.false)]) (zN n hn) Na [] [] [10,11,12] (fun e _=>bp J (aH (aM IJ J J J (bi (k:=10) J)) (aH (aT (cs:=(sv e.2.1:: .bool false::sS 0 0 0 0 0).toArray) (parts:= [(0,.tmp 6)]) N1 Mc J (by kernel_rfl)) (cz J J fun b8=>am J (aa (ar (aG (b8,e.2) O J (bR (aD J)) J [8,11,12] [] J J J)))))))))))
section
variable{P:Program}{N:Nat}{w0:World}{M H:Nat→Prop}{E:d_}{Γ R:dF}
theorem De{S t:TypeId}{v:Value}{ms:Array (String×TypeId)}(hS:P.underlying S=some (.interface ms)):dc P .eql S (.iface t v) .nilIface (.bool false):=fun x y w=>by
 have:(Op.equalIn (9999+1) S (.iface t v) .nilIface).run P w= .ok false w:=by
  unfold Op.equalIn;simp [run_underlying hS]
 have h2:(Op.equal S (.iface t v) .nilIface).run P w= .ok false w:=this;simp [Sem.run_bind,eqGuard,binOp,h2]
theorem G5{S S':TypeId}{x:Operand}{ms:Array (String×TypeId)}(hS:P.underlying S=some (.interface ms))(hx:ev E x=some .nilIface):PR P N w0 M H E Γ R (.binOp .eql S x (.const .nilIface) S') (.bool true):=fun _ _ _ a w hE _ _ _=>by
 have:(Op.equalIn (9999+1) S .nilIface .nilIface).run P w= .ok true w:=by
  unfold Op.equalIn;simp [run_underlying hS]
 have h2:(Op.equal S .nilIface .nilIface).run P w= .ok true w:=this;have hc:a.eval (.const .nilIface)= .nilIface:=J;simp [execOp,hE.ev hx,hc,eqGuard_nil_constR,binOp,h2]
end
def Dq(D:List (List Int))(code:Ba):Nat→List (List Int)
 | 0=>D
 | p+1=>qP (Dq D code p) ((256*p:Nat):Int) (x6 code p)
def Dr(C:List (List Int))(code:Ba):Nat→List (List Int)
 | 0=>C
 | p+1=>xw (Dr C code p) p (iP (x6 code p))
def LR(r:List Int):Nat→List Int
 | 0=>r
 | p+1=>(LR r p).set p (oO p)
theorem Bs(L:List Sl0)(p:Nat)(z:Int):(qD L p z).map (·.r)=(L.map (·.r)).set p z:=by
 unfold qD;cases h:L[p]? with
 | some s=>rw [List.map_set]
 | none=>
  have:=List.getElem?_eq_none_iff.1 h;rw [List.set_eq_of_length_le (by rw [List.length_map];exact this)]
theorem jd(L:List Sl0)(p:Nat)(z:Int):(qD L p z).length=L.length:=by simpa using congrArg List.length (Bs L p z)
theorem LA(code:Ba)(p:Nat):aN (iP (x6 code p))=x6 code p:=iy _ (G4 code p)
theorem D8(code:Ba)(p:Nat):(iP (x6 code p)).size=256:=by rw [e9,D9]
theorem me:
  aO prog 30 [.nilIface,.agg #[I6 2,Sg ⟨#[]⟩]] [] [] (I6 1) []:=by
 refine au func30 J ntmps30 J fun w0 M H=>ak (cz J J fun b3=>am J (aa (aS (ab J (aH (G5 underlying150 J) (ab J (bJ J J J J (bJ J J J J (bJ J J J J (aH (cq J J J (eR J)) (ab J (bJ J J J J (bJ J J J J (bJ J J J J ?_))))))))))))))
 refine aH (cq J J J (eR J)) (ab J (bJ J J J J (bJ J J J J (bJ J J J J (aH (cq J J J (eR J)) (ab J (bJ J J J J (bJ J J J J (bJ J J J J (bJ J J J J (aH (cq J J J (eR J)) (aa (ah J (fun h1=> ?_) (fun h1=> ?_))))))))))))))
 ·refine ak (am J (aa (ar (aG () O J (bR (aD J)) J [] [] J J J))))
 ·exact absurd h1 (by decide)
theorem s5(c:Nat)(vs:SV)(stv:List Value)(L:List Sl0)(k:Int)(code:Ba)(hz:code.size≤1000000)(hL:L.length≤65536)(hr:L.length<64∨k≠2∨7936<code.size):
  aO prog 30 [.iface 69 (Pt c),.agg #[I6 k,Sg code]] [aP c 80 (sv vs:: .bool false::stv),own 148 7 j8 (sv vs) L] [] (I6 1) [aP c 80 (sv vs:: .bool false::stv),own 148 7 j8 (sv vs) L]:=by
 refine au func30 J ntmps30 J fun w0 M H=>ak (cz J J fun b3=>am J (aa (aS (ab J (ap J J (De underlying150) (ab J (aK J J (ab J (aK J J (iV (fD (xs:= []) (yj c) (rD c) F2 [] [] [] J J J J J J J J (fun _ _=>J) (fun _ _ _=>J)) J fun _ _=>aK J J (ap J J ga (aH (cq J J J (mT J)) (ab J ?_)))))))))))))
 refine aK J J (ab J (aK J J (iV (fD (xs:= []) (um c) (Spec.roAll (gn c vs stv L) (ic (A:=aP c 80 _))) As [] [(true,0),(true,1)] [] J J J J J J J J (fun _ _=>J) (fun _ _ _=>J)) J fun _ _=>aK J J (ap J J cL (aH (cq J J J (mT J)) (ab J (d7 (t:=19) J (fun h1=> ?_) (fun h1=> ?_))))))))
 ·(try simp only [aY]at h1);refine bJ J J J J (bJ J J J J (bJ J J J J (aH (bw J J J) (ab J (d7 (t:=24) J (fun h2=> ?_) (fun h2=> ?_))))))
  ·(try simp only [aY]at h2);refine bJ J J J J (bJ J J J J (bJ J J J J (bJ J J J J (aH (bw J J J) (aa (ah J (fun h3=> ?_) (fun h3=> ?_)))))))
   ·refine ak (am J (aa (ar (aG () O J (bR (aD J)) J [0,1] [] J J J))))
   ·exact absurd h3 (by simp)
  ·(try simp only [aY]at h2);have q2:(w_:Unit)→k=2:=fun _=>by simp at h2
   exact absurd h2 (by simp)
 ·(try simp only [aY]at h1);have q1:64≤L.length:=by simp at h1;omega
  refine aK J J (ax w9 J (aK J J (aL 3 t3 J J J J (aK J J (ap J J ga (aH (bw J J J) (ab J (d7 (t:=24) J (fun h4=> ?_) (fun h4=> ?_)))))))))
  ·(try simp only [aY]at h4);refine bJ J J J J (bJ J J J J (bJ J J J J (bJ J J J J (aH (bw J J J) (aa (ah J (fun h5=> ?_) (fun h5=> ?_)))))))
   ·refine ak (am J (aa (ar (aG () O J (bR (aD J)) J [0,1] [] J J J))))
   ·exact absurd h5 (by simp)
  ·(try simp only [aY]at h4);have q2:(w_:Unit)→k=2:=fun _=>by simpa using h4
   refine aK J J (ax jk J (aK J J (aL 3 t9 J J J J (aK J J (aH (ck underlying9 J) (aK J J (ap J J fU (aH (bw J J J) (aa (ah J (fun h6=> ?_) (fun h6=> ?_)))))))))))
   ·refine ak (am J (aa (ar (aG () O J (bR (aD J)) J [0,1] [] J J J))))
   ·have q3:=q2 ();simp at h6;omega
theorem yn(r:List Int):∀p,(LR r p).length=r.length
 | 0=>rfl
 | p+1=>by unfold LR;rw [List.length_set,yn r p]
structure LdI(L:List Sl0)(D C:List (List Int))(code:Ba)(p:Nat)(L':List Sl0):Prop where
 r:L'.map (·.r)=LR (L.map (·.r)) p
 ok:PgOk L' (Dq D code p) (Dr C code p)
theorem LdI.len{L L':List Sl0}{D C:List (List Int)}{code:Ba}{p:Nat}(h:LdI L D C code p L'):L'.length=L.length:=by
 have:=congrArg List.length h.r;rw [yn]at this;simpa using this
theorem LdI.next{L L1 L2 L3:List Sl0}{D C:List (List Int)}{code:Ba}{p:Nat}{z:Int}(h:LdI L D C code p L1)(k1:KpR L1 L2)(k2:KpR L2 L3)(ok:PgOk L3 (Dq D code (p+1)) (Dr C code (p+1)))(hz:bits .and .i64 z 7=oO p):LdI L D C code (p+1) (qD L3 p (bits .and .i64 z 7)):=by
 refine⟨?_,ok.rights p _⟩;rw [Bs,k2,k1,h.r,hz];rfl
theorem z4(c:Nat)(vs:SV)(p0 r0 c0 t0 d0:Int)(L:List Sl0)(D C:List (List Int))(hP:PgOk L D C)(hL:L.length≤4096)(h64:64≤L.length)(code:Ba)(hz:code.size≤7936):
  Spec prog 30 [.iface 69 (Pt c),.agg #[I6 2,Sg code]] [aP c 80 (sv vs:: .bool false::sS p0 r0 c0 t0 d0),own 148 7 j8 (sv vs) L,iB L D C iR] [] (X:=List Sl0) (fun L'=>LdI L D C code 64 L') (fun _=>I6 0) (fun L'=> [aP c 80 (sv vs:: .bool false::sS 256 0 0 0 0),own 148 7 j8 (sv vs) L',iB L' (Dq D code 64) (Dr C code 64) iR]) (fun _=> []):=by
 refine au func30 J ntmps30 J fun w0 M H=>ak (cz J J fun b3=>am J (aa (aS (ab J (ap J J (De underlying150) (ab J (aK J J (ab J (aK J J (iV (fD (xs:= []) (yj c) (rD c) F2 [] [] [] J J J J J J J J (fun _ _=>J) (fun _ _ _=>J)) J fun _ _=>aK J J (ap J J ga (aH (cq J J J (mT J)) (ab J ?_)))))))))))))
 refine aK J J (ab J (aK J J (iV (fD (xs:= []) (um c) (Spec.roAll (gn c vs (sS p0 r0 c0 t0 d0) L) (ic (A:=aP c 80 _))) As [] [(true,0),(true,1)] [] J J J J J J J J (fun _ _=>J) (fun _ _ _=>J)) J fun _ _=>aK J J (ap J J cL (aH (cq J J J (mT J)) (ab J (d7 (t:=19) J (fun h1=>False.elim (by revert h1;simp;omega)) (fun h1=>aK J J (ax w9 J (aK J J (aL 3 t3 J J J J (aK J J (ap J J ga (aH (bw J J J) (ab J (d7 (t:=24) J (fun h2=>False.elim (by revert h2;simp)) (fun h2=>aK J J (ax jk J ?_))))))))))))))))));refine aK J J (aL 3 t9 J J J J (aK J J (aH (ck underlying9 J) (aK J J (ap J J fU (aH (bw J J J) (aa (ah J (fun h3=> ?_) (fun h3=> ?_)))))))))
 ·revert h3;simp;omega
 ·refine az (aS (ab J (aa (aC (bG (X:=List Sl0×Nat) (fun x=>x.2≤64∧LdI L D C code x.2 x.1) (fun x=> [(0,.iface 69 (Pt c)),(3,Pt b3),(30,I6 (x.2:Int))]) (fun x=> [(0,aP c 80 (sv vs:: .bool false::sS p0 r0 c0 t0 d0)),(1,own 148 7 j8 (sv vs) x.1),(2,iB x.1 (Dq D code x.2) (Dr C code x.2) iR),(3,aP b3 31 [I6 2,Sg code])]) (fun x=> []) (fun x=>64-x.2) (L,0) ⟨bB _,J,hP⟩ J J J (fun x hI0=> ?_))))));obtain⟨L',p⟩:=x;obtain⟨hpI,hI⟩:=hI0;have hpI':p≤64:=hpI;replace hI:LdI L D C code p L':=hI;refine ak (ap J J cL (aa (aW (ah J (fun h4=> ?_) (fun h4=> ?_)))))
  ·(try simp only [aY]at h4);have hi:p<64:=by omega
   refine az (aW (aC (ak (ab J (am J (av J (ax jk J (aL 3 t9 J J J J (ab J (ae (xs:= [.tmp 34,.tmp 35]) (tn code (by omega) p (by omega)) M7 [] [] [] (fun _ _=>am J (av J (ab J (ab J ?_))))))))))))));refine ap J J (ew (c:=((256*p:Nat):Int)) (by rw [bC (by omega)];omega)) (aH (bX underlying3 underlying41 J (c:=((256*p:Nat):Int)) (bx (by omega))) (ab J (iV (fD (xs:= [.tmp 40,.tmp 41]) (Ev c) (re c vs (sS p0 r0 c0 t0 d0) L' (Dq D code p) (Dr C code p) hI.ok (by rw [hI.len];omega) ((256*p:Nat):Int) (iP (x6 code p)) (by rw [D8];omega)) KC [0,1,2] [] [0,1,2] J J J J J J J J (fun _ _=>J) (fun _ _ _=>J)) J fun L1 hL1=> ?_)));rw [LA]at hL1 ⊢;refine av J (ab J (ab J (ab J (iV (fD (xs:= [.tmp 44,.tmp 45]) (wI c) (si c vs (sS p0 r0 c0 t0 d0) L1 (Dq D code (p+1)) (Dr C code p) hL1.2 (by rw [hL1.1.len,hI.len];omega) p (by omega) (iP (x6 code p))) Nm [0,1,2] [] [0,1,2] J J J J J J J J (fun _ _=>J) (fun _ _ _=>J)) J fun L2 hL2=>aa (aC (ak (ab J (ap J J bc (am J (aa (ah J (fun h5=> ?_) (fun h5=> ?_))))))))))))
   ·(try simp only [aY]at h5);have hq:p=0:=by first|omega|(simp at h5;omega)
    refine aj (ab J (ab J (iV (fD (xs:= [.tmp 54,.const (I6 0)]) (lx c) (gV c vs (sS p0 r0 c0 t0 d0) L2 (Dq D code (p+1)) (Dr C code (p+1)) (by rw [hL2.1.len,hL1.1.len,hI.len];omega) p (by omega) 0) Fe [0,1,2] [] [0,1,2] J J J J J J J J (fun _ _=>J) (fun _ _ _=>J)) J fun _ _=>aa (aj (ap J J a_ (ab J (aa ?_)))))));refine aI (qD L2 p (bits .and .i64 0 7),p+1) ⟨⟨by show p+1≤64;omega,hI.next hL1.1 hL2.1 hL2.2 (by show(0:Int)=_;unfold oO;rw [ac (by omega),ac (by omega)])⟩,by show 64-(p+1)<64-p;omega⟩ J J J
   ·(try simp only [aY]at h5);have hq:¬p=0:=by first|omega|(simp at h5;omega)
    refine ak (ab J (ap J J cL (am J (aa (ah J (fun h6=> ?_) (fun h6=> ?_))))))
    ·(try simp only [aY]at h6);have hq2:p<32:=by first|omega|(simp at h6;omega)
     refine aj (ab J (ab J (iV (fD (xs:= [.tmp 60,.const (I6 5)]) (lx c) (gV c vs (sS p0 r0 c0 t0 d0) L2 (Dq D code (p+1)) (Dr C code (p+1)) (by rw [hL2.1.len,hL1.1.len,hI.len];omega) p (by omega) 5) Fe [0,1,2] [] [0,1,2] J J J J J J J J (fun _ _=>J) (fun _ _ _=>J)) J fun _ _=>aa (aj (ap J J a_ (ab J (aa ?_)))))));refine aI (qD L2 p (bits .and .i64 5 7),p+1) ⟨⟨by show p+1≤64;omega,hI.next hL1.1 hL2.1 hL2.2 (by show(5:Int)=_;unfold oO;rw [ac (by omega),ao (by omega)])⟩,by show 64-(p+1)<64-p;omega⟩ J J J
    ·(try simp only [aY]at h6);have hq2:¬p<32:=by first|omega|(simp at h6;omega)
     refine aj (ab J (ab J (iV (fD (xs:= [.tmp 48,.const (I6 3)]) (lx c) (gV c vs (sS p0 r0 c0 t0 d0) L2 (Dq D code (p+1)) (Dr C code (p+1)) (by rw [hL2.1.len,hL1.1.len,hI.len];omega) p (by omega) 3) Fe [0,1,2] [] [0,1,2] J J J J J J J J (fun _ _=>J) (fun _ _ _=>J)) J fun _ _=>aa (aj (ap J J a_ (ab J (aa ?_)))))));refine aI (qD L2 p (bits .and .i64 3 7),p+1) ⟨⟨by show p+1≤64;omega,hI.next hL1.1 hL2.1 hL2.2 (by show(3:Int)=_;unfold oO;rw [ao (by omega)])⟩,by show 64-(p+1)<64-p;omega⟩ J J J
  ·(try simp only [aY]at h4);have hi:p=64:=by omega
   subst hi;refine bK (ak (ab J (aH (aT (cs:=(sS 256 0 0 0 0).toArray) (parts:= [(0,.const (I3 256))]) nO GZ J (by kernel_rfl)) (iV (fD (xs:= [.tmp 64]) (ul c) (kR c vs p0 r0 c0 t0 d0 256 0 0 0 0 (by decide) (by decide)) KB [0] [] [0] J J J J J J J J (fun _ _=>J) (fun _ _ _=>J)) J fun _ _=>av J (am J (aa (ar (aG L' hI J (bR (aD J)) J [0,1,2] [] J J J))))))))
theorem JV(L:List Sl0)(p:Nat):qIO L p=(L.map (·.r)).getD p 0:=by
 unfold qIO;rw [List.getD_eq_getElem?_getD,List.getElem?_map];cases L[p]?<;>rfl
theorem rG{l:List Int}{o j:Nat}{x:Int}:(l.set o x).getD j 0=if o=j∧o<l.length then x else l.getD j 0:=by
 rw [List.getD_eq_getElem?_getD,List.getD_eq_getElem?_getD,List.getElem?_set];by_cases h:o=j
 ·subst h;by_cases h2:o<l.length
  ·rw [ao J,ao h2,ao ⟨J,h2⟩];rfl
  ·rw [ao J,ac h2,ac (fun e=>h2 e.2),List.getElem?_eq_none (by omega)]
 ·rw [ac h,ac (fun e=>h e.1)]
theorem Et{D:List (List Int)}{i:Nat}{l:List Int}{b:Int}(hi:i<D.length):BK (D.set i l) b=if(b/256).toNat=i then l.getD (b%256).toNat 0 else BK D b:=by
 unfold BK;rw [List.length_set];by_cases h:(b/256).toNat=i
 ·rw [ao h,h,ao hi,gG hi]
 ·rw [ac h,gE (fun e=>h e.symm)]
theorem uk{D:List (List Int)}(h8:Pg8 D){a x b:Int}(ha:0≤a)(hb:0≤b):BK (gM D a x) b=if a=b∧(a/256).toNat<D.length then x else BK D b:=by
 by_cases hi:(a/256).toNat<D.length
 ·have hd:=(h8.at hi).1;unfold gM;rw [Et hi,rG,hd];by_cases e:a=b
  ·subst e;rw [ao J,ao ⟨J,by omega⟩,ao ⟨J,hi⟩]
  ·rw [ac (show ¬(a=b∧(a/256).toNat<D.length)from fun q=>e q.1)];by_cases h:(b/256).toNat=(a/256).toNat
   ·rw [ao h,ac (fun q=>e (by have:=q.1;omega))];unfold BK;rw [h,ao hi]
   ·rw [ac h]
 ·rw [mB hi,ac (fun q=>hi q.2)]
theorem CK(D:List (List Int))(a x:Int):(gM D a x).length=D.length:=by unfold gM;rw [List.length_set]
theorem CL{D:List (List Int)}(h8:Pg8 D){a x:Int}(hx:0≤x∧x<256):Pg8 (gM D a x):=by
 by_cases hi:(a/256).toNat<D.length
 ·have hd:=h8.at hi;unfold gM;refine h8.set (by rw [List.length_set];exact hd.1) fun y hy=> ?_
  rcases List.mem_or_eq_of_mem_set hy with hy|rfl
  ·exact hd.2 y hy
  ·exact hx
 ·rw [mB hi];exact h8
end Go.Proofs.YtedmdgbmdplifaaGreat
