import Derived.Test.YtkbnjgogjccmfaaGreatSD
import Derived.Test.YtkbnjgogjccmfaaGreatSC
set_option linter.all false
set_option maxRecDepth 100000
set_option maxHeartbeats 4000000
namespace Go.Con
open Go.Ab Go.Proofs Tryz Go.Hy Go.Gat Go.Nam Go.Hos
def xc (f:Nat->Int) (n:Nat):Int × Int:=match (List.range n).find? fun i=>f i != 0 with
 | some i=>(f i,i)
 | none=>(0,0)
def j6 {f:Nat->Int} {n k:Nat} {e:Int} (hk:k < n) (hr:∀ j,j < k->f j=0) (h:f k=e) (he:e≠0):xc f n=(e,(k:Int)):=by
 unfold xc
 have:(List.range n).find? (fun i=>f i != 0)=some k:=by
  rw [List.find?_range_eq_some];exact ⟨by simp [h,he],aq hk,fun j hj=>by simp [hr j hj]⟩
 rw [this];simp [h]
def FC {f:Nat->Int} {n:Nat} (hr:∀ j,j < n->f j=0):xc f n=(0,0):=by
 unfold xc
 have:(List.range n).find? (fun i=>f i != 0)=none:=by
  rw [List.find?_range_eq_none];intro i hi;simp [hr i hi]
 rw [this]
def oC (l:List ec) (i:Nat):Int:=match l[i]? with
 | none=>0
 | some s=>if xJ s=false then 3 else if (l.take i).any (fun x=>x == s) then 4 else 0
def mu (l:List eV) (i:Nat):Int:=match l[i]? with
 | none=>0
 | some c=>if xJ c.name=false then 3 else if n9 (l.take i) c.name then 4 else if c.xL≠1∧c.xL≠2 then 9 else if (decide (1<=c.xP) && decide (c.xP<=4))=false then 10
   else if (decide (1<=(c.zL.length:Int)) && decide ((c.zL.length:Int)<=4))=false then 6 else 0
def nP (a b:l8):Bool:=a.listen == b.listen && a.host == b.host && a.path == b.path
def nz (c:fb) (i:Nat):Int:=match c.zR[i]? with
 | none=>0
 | some r=>if c.zd.any (fun x=>x == r.listen)=false then 5 else if mV r.host=false then 7 else if mJ r.path=false then 8 else if n9 c.zk r.zi=false then 5
   else if (c.zR.take i).any (fun q=>nP q r) then 4 else 0
def vy (c:fb):Int × Int:=
 if ((decide (1<=(c.zd.length:Int)) && decide ((c.zd.length:Int)<=4))=false∨(decide (1<=(c.zR.length:Int)) && decide ((c.zR.length:Int)<=8))=false)∨(decide (1<=(c.zk.length:Int)) && decide ((c.zk.length:Int)<=4))=false then (6,0) else (0,0)
def jg (c:fb):Int × Int:=
 if (vy c).1≠0 then vy c else if (xc (oC c.zd) c.zd.length).1≠0 then xc (oC c.zd) c.zd.length
 else if (xc (mu c.zk) c.zk.length).1≠0 then xc (mu c.zk) c.zk.length
 else if (xc (nz c) c.zR.length).1≠0 then xc (nz c) c.zR.length else (0,0)
abbrev t2 (r:Int × Int):C:=.u7 [I r.1,I r.2]
abbrev Cf (c:fb):C:=.agg (mw c)
structure xD (c:fb):Prop where
 zd:c.zd.length < 1000000000000∧∀ s ∈ c.zd,s.length < 4000000000000000000
 zR:c.zR.length < 1000000000000∧∀ r ∈ c.zR,r.listen.length < 4000000000000000000∧r.host.length < 1000000000000∧r.path.length < 1000000000000∧r.zi.length < 4000000000000000000
 zk:c.zk.length < 1000000000000∧∀ x ∈ c.zk,x.name.length < 4000000000000000000∧x.zL.length < 4000000000000000000
structure wb (c:fb):Prop where
 zd:c.zd.length < 1000000000000000∧∀ s ∈ c.zd,s.length < 4000000000000000000
 zR:c.zR.length < 1000000000000000∧∀ r ∈ c.zR,r.listen.length < 4000000000000000000∧r.host.length < 1000000000000000∧r.path.length < 1000000000000000∧r.zi.length < 4000000000000000000
 zk:c.zk.length < 1000000000000000∧∀ x ∈ c.zk,x.name.length < 4000000000000000000∧x.zL.length < 4000000000000000000
def xD.k {c:fb} (h:xD c):wb c:=
 ⟨⟨by have:=h.zd.1;omega,h.zd.2⟩,⟨by have:=h.zR.1;omega,fun r hr=>by have:=h.zR.2 r hr;omega⟩,⟨by have:=h.zk.1;omega,h.zk.2⟩⟩
def Qw (c:fb) (hc:wb c):to 74 [] [Cf c] (t2 (vy c)) []:=by
 have m1:(c.zd.map qm).length=c.zd.length:=dV ..;have m2:(c.zR.map wi).length=c.zR.length:=dV ..;have m3:(c.zk.map xa).length=c.zk.length:=dV ..;refine ab func74 ?_;rw [m1];refine ah (yi _ _ _) ?_;refine ⟨fun h1=>?_,fun h1=>?_⟩
 ·refine dd ?_;refine td ?_
  rw [m2];refine ah (yi _ _ _) ?_;refine ⟨fun h2=>?_,fun h2=>?_⟩
  ·refine dd ?_;refine td ?_
   rw [m3];refine ah (yi _ _ _) ?_;refine ⟨fun h3=>?_,fun h3=>?_⟩
   ·refine dd ?_;refine td ?_
    have e:vy c=(0,0):=by unfold vy;rw [dR];simp only [h1,h2,h3];simp
    rw [e];exact uI
   ·refine dd ?_;refine td ?_
    have e:vy c=(6,0):=by unfold vy;rw [dU (.inr h3)]
    rw [e];exact uI
  ·refine dd ?_;refine td ?_
   have e:vy c=(6,0):=by unfold vy;rw [dU (.inl (.inr h2))]
   rw [e];exact uI
 ·refine dd ?_;refine td ?_
  have e:vy c=(6,0):=by unfold vy;rw [dU (.inl (.inl h1))]
  rw [e];exact uI
def N2 (c:fb) (hc:wb c):to 75 [] [Cf c] (t2 (xc (oC c.zd) c.zd.length)) []:=by
 have m1:(c.zd.map qm).length=c.zd.length:=dV ..;have hl:=hc.zd.1;refine ab func75 ?_;rw [m1];refine zW.seq c.zd.length (fun k=>((Cf c)::.ref 0 [] 3 0 0::I 0::I 0::.za::.za::.za::.za::(lT c.zd)::I c.zd.length::I k::hZ (hZ ([.za,.za,.za])))) (fun k=>[⟨1,176,3,[mw c],0⟩]) (fun k=>∀ j,j < k->oC c.zd j=0) ?_ aj (fun k hk hr=>?_) (fun hr=>?_)
 ·exact cC
 ·have hg:(c.zd.map qm)[k]?= some (qm c.zd[k]):=by rw [dT,dQ hk];rfl
  have hs:=hc.zd.2 _ (gS hk)
  have he:oC c.zd k=if xJ c.zd[k]=false then 3 else if (c.zd.take k).any (fun x=>x == c.zd[k]) then 4 else 0:=by
   unfold oC;rw [dQ hk]
  conv=>whnf
  refine ⟨fun _=>dd ?_,fun h=>absurd h aA⟩;refine tf hg ?_;refine ah (yF c.zd[k] aw) ?_;refine ⟨fun h2=>?_,fun h2=>?_⟩
  ·refine dd ?_;refine td ?_
   (refine ⟨.inr rfl,dd ?_⟩);(refine ⟨aw,gF _,by rw [m1];omega,dd ?_⟩);(rw [sr,rh,toNat_cast,<- sW])
   refine ah (De (c.zd.take k) c.zd[k] aA) ?_;refine ⟨fun h3=>?_,fun h3=>?_⟩
   ·refine dd ?_;rw [j6 hk hr (by rw [he,dR bF,dU h3]) ar];refine .inr ⟨aj,uH ?_⟩;exact uI
   ·refine dd ?_;refine .inl ⟨rfl,?_,(fun j hj=>by (by_cases e:j=k);(subst e;exact (by rw [he,dR bF,dR bM]));(exact hr j aw))⟩;exact dg
  ·refine dd ?_;refine td ?_
   rw [j6 hk hr (by rw [he,dU h2]) ar];refine .inr ⟨aj,uH ?_⟩;exact uI
 ·rw [FC hr];refine uD ?_;exact uI
def N1 (c:fb) (hc:wb c):to 76 [] [Cf c] (t2 (xc (mu c.zk) c.zk.length)) []:=by
 have m1:(c.zk.map xa).length=c.zk.length:=dV ..;have hl:=hc.zk.1;refine ab func76 ?_;rw [m1];refine zW.seq c.zk.length (fun k=>((Cf c)::.ref 0 [] 3 0 0::I 0::I 0::.za::.za::.za::.za::(lC c.zk)::I c.zk.length::I k::hZ (hZ (hZ (hZ (hZ ([.za,.za,.za,.za]))))))) (fun k=>[⟨1,176,3,[mw c],0⟩]) (fun k=>∀ j,j < k->mu c.zk j=0) ?_ aj (fun k hk hr=>?_) (fun hr=>?_)
 ·exact cC
 ·obtain ⟨x,hx⟩:∃ x,x=c.zk[k]:=⟨_,rfl⟩;have hg:(c.zk.map xa)[k]?= some (xa x):=by rw [dT,dQ hk,hx];rfl
  have hs:=hc.zk.2 x tE
  have he:mu c.zk k=if xJ x.name=false then 3 else if n9 (c.zk.take k) x.name then 4 else if x.xL≠1∧x.xL≠2 then 9 else if (decide (1<=x.xP) && decide (x.xP<=4))=false then 10
    else if (decide (1<=(x.zL.length:Int)) && decide ((x.zL.length:Int)<=4))=false then 6 else 0:=by
   unfold mu;rw [dQ hk,hx]
  have mh:(x.zL.map vr).length=x.zL.length:=dV ..;conv=>whnf
  refine ⟨fun _=>dd ?_,fun h=>absurd h aA⟩;refine tf hg ?_;refine ah (yF x.name aw) ?_;refine ⟨fun h2=>?_,fun h2=>?_⟩
  ·refine dd ?_;refine td ?_
   refine .inl ⟨⟨false,[2,6,7],[0,1],[]⟩,au,uH ?_⟩;(refine ⟨.inr rfl,dd ?_⟩);(refine ⟨aw,gF _,by rw [m1];omega,dd ?_⟩);(rw [sr,rh,toNat_cast,<- sW])
   refine ⟨Bo (n9 (c.zk.take k) x.name),fun H2=>(Jo (c.zk.take k) x.name aA).frame rfl H2,dd ?_⟩;refine ⟨fun h3=>?_,fun h3=>?_⟩
   ·refine dd ?_;rw [j6 hk hr (by rw [he,dR bF,dU h3]) ar];(refine .inr ⟨aj,uH ?_⟩)
    exact uI
   ·have he:=he.trans ((dR bF).trans (dR bM));refine dd ?_;refine ⟨fun h4=>?_,fun h4=>?_⟩
    ·have h4:x.xL≠1:=by simpa using h4
     refine dd ?_;refine ⟨fun h5=>?_,fun h5=>?_⟩
     ·have h5:x.xL≠2:=by simpa using h5
      refine dd ?_;rw [j6 hk hr (by rw [he,dU ⟨h4,h5⟩]) ar];(refine .inr ⟨aj,uH ?_⟩)
      exact uI
     ·have h5:x.xL=2:=by simpa using h5
      have he:=he.trans (dR (fun h=>h.2 h5));refine dd ?_;refine ah (yi _ _ _) ?_;(refine ⟨fun h6=>?_,fun h6=>?_⟩);rotate_left;(focus (refine dd ?_;refine td ?_;(rw [j6 hk hr (by rw [he,dU h6]) ar]);(refine .inr ⟨aj,uH ?_⟩);exact uI));(have he:=he.trans (dR (by simp only [h6];decide)));refine dd ?_;refine td ?_;(rw [mh]);refine ah (yi _ _ _) ?_;(refine ⟨fun h7=>?_,fun h7=>?_⟩);rotate_left;(focus (refine dd ?_;refine td ?_;(rw [j6 hk hr (by rw [he,dU h7]) ar]);(refine .inr ⟨aj,uH ?_⟩);exact uI));(have he:=he.trans (dR (by simp only [h7];decide)));refine dd ?_;refine td ?_;(refine .inl ⟨rfl,?_,(fun j hj=>by (by_cases e:j=k);(subst e;exact he);(exact hr j aw))⟩);(rw [zu aw]);exact cE 1
    ·have h4:x.xL=1:=by simpa using h4
     have he:=he.trans (dR (fun h=>h.1 h4));refine dd ?_;refine ah (yi _ _ _) ?_;(refine ⟨fun h6=>?_,fun h6=>?_⟩);rotate_left;(focus (refine dd ?_;refine td ?_;(rw [j6 hk hr (by rw [he,dU h6]) ar]);(refine .inr ⟨aj,uH ?_⟩);exact uI));(have he:=he.trans (dR (by simp only [h6];decide)));refine dd ?_;refine td ?_;(rw [mh]);refine ah (yi _ _ _) ?_;(refine ⟨fun h7=>?_,fun h7=>?_⟩);rotate_left;(focus (refine dd ?_;refine td ?_;(rw [j6 hk hr (by rw [he,dU h7]) ar]);(refine .inr ⟨aj,uH ?_⟩);exact uI));(have he:=he.trans (dR (by simp only [h7];decide)));refine dd ?_;refine td ?_;(refine .inl ⟨rfl,?_,(fun j hj=>by (by_cases e:j=k);(subst e;exact he);(exact hr j aw))⟩);(rw [zu aw]);exact cE 1
  ·refine dd ?_;refine td ?_
   rw [j6 hk hr (by rw [he,dU h2]) ar];refine .inr ⟨aj,uH ?_⟩;exact uI
 ·rw [FC hr];refine uD ?_;exact uI
def O9 (c:fb) (hc:wb c):to 77 [] [Cf c] (t2 (xc (nz c) c.zR.length)) []:=by
 have m1:(c.zR.map wi).length=c.zR.length:=dV ..;have hl:=hc.zR.1;have hl1:=hc.zd.1;have hl2:=hc.zk.1;refine ab func77 ?_;rw [m1];refine zW.seq c.zR.length (fun k=>(Cf c:: .ref 0 [] 3 0 0::I 0::I 0:: .za::.za::.za::.za::.za::.za::lO c.zR::I c.zR.length::I k:: .za::.za::.za::.za::hZ (hZ (hZ (hZ (hZ (hZ ([])))))))) (fun k=>[⟨1,176,3,[mw c],0⟩]) (fun k=>∀ j,j < k->nz c j=0) ?_ aj (fun k hk hr=>?_) (fun hr=>?_)
 ·exact cC
 ·obtain ⟨r,hx⟩:∃ r,r=c.zR[k]:=⟨_,rfl⟩;have hg:(c.zR.map wi)[k]?= some (wi r):=by rw [dT,dQ hk,hx];rfl
  have hs:=hc.zR.2 r tE
  have he:nz c k=if c.zd.any (fun x=>x == r.listen)=false then 5 else if mV r.host=false then 7 else if mJ r.path=false then 8 else if n9 c.zk r.zi=false then 5
    else if (c.zR.take k).any (fun q=>nP q r) then 4 else 0:=by
   unfold nz;rw [dQ hk,hx]
  have m2:((c.zR.take k).map wi).length=k:=aA
  have hlk:(c.zR.take k).length=k:=aA
  conv=>whnf
  refine uF ?_;(refine tf hg ?_)
  refine ah (De c.zd r.listen aw) ?_;refine ⟨fun h2=>?_,fun h2=>?_⟩
  rotate_left
  ·refine dd ?_;refine td ?_
   rw [j6 hk hr (by rw [he,dU h2]) ar];(refine .inr ⟨aj,uH ?_⟩)
   exact uI
  have he:=he.trans (dR bF);refine dd ?_;refine td ?_
  refine ah (EZ r.host aw) ?_;refine ⟨fun h3=>?_,fun h3=>?_⟩
  rotate_left
  ·refine dd ?_;refine td ?_
   rw [j6 hk hr (by rw [he,dU h3]) ar];(refine .inr ⟨aj,uH ?_⟩)
   exact uI
  have he:=he.trans (dR bM);refine dd ?_;refine td ?_
  refine ah (Ft r.path aw) ?_;refine ⟨fun h4=>?_,fun h4=>?_⟩
  rotate_left
  ·refine dd ?_;refine td ?_
   rw [j6 hk hr (by rw [he,dU h4]) ar];(refine .inr ⟨aj,uH ?_⟩)
   exact uI
  have he:=he.trans (dR (by simp [h4]));refine dd ?_;refine td ?_
  refine ah (Jo c.zk r.zi aw) ?_;refine ⟨fun h5=>?_,fun h5=>?_⟩
  rotate_left
  ·refine dd ?_;refine td ?_
   rw [j6 hk hr (by rw [he,dU h5]) ar];(refine .inr ⟨aj,uH ?_⟩)
   exact uI
  have he:=he.trans (dR ax);refine dd ?_;refine td ?_
  (refine ⟨.inr rfl,dd ?_⟩);(refine ⟨aw,gF _,by rw [m1];omega,dd ?_⟩);(rw [sr,rh,toNat_cast,<- sW])
  rw [m2];refine zW.seq k (fun j=>(Cf c:: .ref 0 [] 3 0 0::I 0::I 0::I k:: .ref 1 [] 4 0 0:: .za::.za::.za::.za::lO c.zR::I c.zR.length::I k:: .za::.za::.za::.za::.za::.za::.za::hZ (hZ (hZ (hZ (lO (c.zR.take k)::I k::I j:: .za::.za::hZ ([]))))))) (fun j=>[⟨1,176,3,[mw c],0⟩,⟨1,131,4,[[Tx r.listen,Tx r.host,Tx r.path,Tx []]],0⟩]) (fun j=>∀ i,(h:i < c.zR.length)->i < j->nP c.zR[i] r=false) ?_ aj (fun j hj hrj=>?_) (fun hrj=>?_)
  ·exact cC
  ·obtain ⟨q,hq⟩:∃ q,q=c.zR[j]:=⟨_,rfl⟩;have hgq:((c.zR.take k).map wi)[j]?= some (wi q):=by rw [dT,dQ aw,hq,um];rfl
   conv=>whnf
   refine uF ?_;(refine tf hgq ?_)
   refine ⟨au,dd ?_⟩;refine ⟨fun h6=>?_,fun h6=>?_⟩
   ·have h6:nP q r=true:=by simp at h6;simp [nP,h6]
    have ha:(c.zR.take k).any (fun q=>nP q r)=true:=by
     rw [pQ];exact ⟨q,by rw [hq,pt];exact ⟨j,aw,um⟩,h6⟩
    refine dd ?_;rw [j6 hk hr (by rw [he,dU ha]) ar];(refine .inr ⟨aj,uH ?_⟩)
    refine .inr ⟨aj,uH ?_⟩;exact uI
   ·have h6:nP q r=false:=by
     cases hs:nP q r with
     | false=>rfl
     | true=>simp [nP] at hs;simp [hs] at h6
    refine dd ?_;refine .inl ⟨rfl,?_,fun i hi hij=>?_⟩
    ·rw [zu aw];exact cE 2
    ·by_cases e:i=j
     ·subst e;rw [<- hq];exact h6
     ·exact hrj i hi aw
  ·have ha:(c.zR.take k).any (fun q=>nP q r)=false:=by
    rw [gU];intro q hq;obtain ⟨i,hi,rfl⟩:=pt.1 hq;rw [um];simp [hrj i aw aw]
   have he:=he.trans (dR (by simp [ha]));refine uD ?_;refine .inl ⟨rfl,?_,(fun j hj=>by (by_cases e:j=k);(subst e;exact he);(exact hr j aw))⟩;exact dg
 ·rw [FC hr];refine uD ?_;exact uI
def IC (c:fb) (hc:wb c):to 50 [] [Cf c] (t2 (jg c)) []:=by
 refine ab func50 ?_;refine .AM 5 (.step ?_);conv=>whnf
 (refine ya (dd ?_))
 refine ⟨ar,_,rfl,dd ?_⟩;refine ah (Qw c hc) ?_;refine ⟨fun h1=>?_,fun h1=>?_⟩
 ·have e:jg c=vy c:=by unfold jg;rw [dU tH]
  rw [e];refine dd ?_;(refine .inr ⟨aj,uH ?_⟩)
  exact uI
 have h1:(vy c).1=0:=aq h1
 refine dd ?_;refine .inl ⟨rfl,.step (uH ?_)⟩;(refine ya (dd ?_))
 refine ⟨ar,_,rfl,dd ?_⟩;refine ah (N2 c hc) ?_;refine ⟨fun h2=>?_,fun h2=>?_⟩
 ·have e:jg c=xc (oC c.zd) c.zd.length:=by unfold jg;rw [dR aD,dU tU]
  rw [e];refine dd ?_;(refine .inr ⟨aj,uH ?_⟩)
  exact uI
 have h2:(xc (oC c.zd) c.zd.length).1=0:=aq h2
 refine dd ?_;refine .inl ⟨rfl,.step (uH ?_)⟩;(refine ya (dd ?_))
 refine ⟨ar,_,rfl,dd ?_⟩;refine ah (N1 c hc) ?_;refine ⟨fun h3=>?_,fun h3=>?_⟩
 ·have e:jg c=xc (mu c.zk) c.zk.length:=by unfold jg;rw [dR aD,dR bF,dU (aq h3)]
  rw [e];refine dd ?_;(refine .inr ⟨aj,uH ?_⟩)
  exact uI
 have h3:(xc (mu c.zk) c.zk.length).1=0:=aq h3
 refine dd ?_;refine .inl ⟨rfl,.step (uH ?_)⟩;(refine ya (dd ?_))
 refine ⟨ar,_,rfl,dd ?_⟩;refine ah (O9 c hc) ?_;refine ⟨fun h4=>?_,fun h4=>?_⟩
 ·have e:jg c=xc (nz c) c.zR.length:=by unfold jg;rw [dR aD,dR bF,dR bM,dU (aq h4)]
  rw [e];refine dd ?_;(refine .inr ⟨aj,uH ?_⟩)
  exact uI
 have h4:(xc (nz c) c.zR.length).1=0:=aq h4
 refine dd ?_;refine .inl ⟨rfl,.step (uH ?_)⟩;(refine yb (dd ?_))
 (refine .inr ⟨aj,uH ?_⟩)
 have e:jg c=(0,0):=by unfold jg;rw [dR aD,dR bF,dR bM,dR (by simp [h4])]
 rw [e];exact uI
def check_sound (c:fb) (hc:xD c):to 50 [] [Cf c] (t2 (jg c)) []:=IC c hc.k
def nY (l:List eV) (s:ec):Int:=match l.findIdx? (fun x=>x.name == s) with | some i=>(i:Int) | none=> -1
def nu (c:eV):Bool:=decide (50 < c.zL.length) || decide (100 < c.name.length)
def ny (r:l8):Bool:=decide (100 < r.host.length) || decide (100 < r.path.length)
def iv (c:fb):Bool:=decide (50 < c.zd.length) || decide (50 < c.zR.length) || decide (50 < c.zk.length) || c.zk.any nu || c.zR.any ny
def Kz (c:fb) (h1:c.zd.length < 4000000000000000000) (h2:c.zR.length < 4000000000000000000) (h3:c.zk.length < 4000000000000000000):to 20 [] [Cf c] (Bo (iv c)) []:=by
 have m1:(c.zd.map qm).length=c.zd.length:=dV ..;have m2:(c.zR.map wi).length=c.zR.length:=dV ..;have m3:(c.zk.map xa).length=c.zk.length:=dV ..;refine ab func20 ?_;rw [m1];(refine ⟨fun a1=>?_,fun a1=>?_⟩);(focus ((have e:iv c=true:=by (simp at a1;simp [iv];omega));(rw [e]);refine dd ?_;refine td ?_;exact uI));refine dd ?_
 rw [m2];(refine ⟨fun a2=>?_,fun a2=>?_⟩);(focus ((have e:iv c=true:=by (simp at a2;simp [iv];omega));(rw [e]);refine dd ?_;refine td ?_;exact uI));refine dd ?_
 rw [m3];(refine ⟨fun a3=>?_,fun a3=>?_⟩);(focus ((have e:iv c=true:=by (simp at a3;simp [iv];omega));(rw [e]);refine dd ?_;refine td ?_;exact uI));refine dd ?_
 simp at a1 a2 a3;refine zW.seq c.zk.length (fun k=>(Cf c:: .ref 0 [] 3 0 0::Bo false::I k:: .za::.za::.za::hZ (hZ (hZ (hZ (hZ (hZ (hZ (hZ ([])))))))))) (fun k=>[⟨1,26,3,[mw c],0⟩]) (fun k=>∀ j,(h:j < c.zk.length)->j < k->nu c.zk[j]=false) ?_ aj (fun k hk hr=>?_) (fun hr=>?_)
 ·exact cC
 ·obtain ⟨x,hx⟩:∃ x,x=c.zk[k]:=⟨_,rfl⟩;have hg:(c.zk.map xa)[k]?= some (xa x):=by rw [dT,dQ hk,hx];rfl
  have mh:(x.zL.map vr).length=x.zL.length:=dV ..
  have bad:nu x=true->iv c=true:=fun h=>by
   have:c.zk.any nu=true:=pQ.2 ⟨x,bN,h⟩;simp [iv,this]
  have no:nu x=false->∀ i,(h:i < c.zk.length)->i < k+1->nu c.zk[i]=false:=fun h6 i hi hij=>by
   by_cases e:i=k
   ·subst e;rw [<- hx];exact h6
   ·exact hr i hi aw
  conv=>whnf
  rw [m3];refine uF ?_;(refine tf hg ?_)
  rw [mh];refine ⟨fun b1=>?_,fun b1=>?_⟩
  ·rw [bad (by simp at b1;simp [nu];omega)];refine dd ?_;refine td ?_
   (refine .inr ⟨aj,uH ?_⟩)
   exact uI
  refine dd ?_;(refine tf hg ?_)
  refine ⟨fun b2=>?_,fun b2=>?_⟩
  ·rw [bad (by simp at b2;simp [nu];omega)];refine dd ?_;(refine .inr ⟨aj,uH ?_⟩)
   exact uI
  refine dd ?_;refine .inl ⟨rfl,?_,no (by simp at b1 b2;simp [nu];omega)⟩;exact dg
 ·have hno:c.zk.any nu=false:=by
   rw [gU];intro x hx;obtain ⟨i,hi,rfl⟩:=pt.1 hx;simp [hr i hi hi]
  conv=>whnf
  rw [m3];refine ⟨fun h=>absurd h aj,fun _=>dd ?_⟩;refine ⟨aj,uH ?_⟩;refine zW.seq c.zR.length (fun k=>(Cf c:: .ref 0 [] 3 0 0::Bo false:: .za::I k:: .za::.za::hZ (hZ (hZ (hZ (hZ (hZ (hZ (hZ ([])))))))))) (fun k=>[⟨1,26,3,[mw c],0⟩]) (fun k=>∀ j,(h:j < c.zR.length)->j < k->ny c.zR[j]=false) ?_ aj (fun k hk hr=>?_) (fun hr=>?_)
  ·exact cC
  ·obtain ⟨x,hx⟩:∃ x,x=c.zR[k]:=⟨_,rfl⟩;have hg:(c.zR.map wi)[k]?= some (wi x):=by rw [dT,dQ hk,hx];rfl
   have bad:ny x=true->iv c=true:=fun h=>by
    have:c.zR.any ny=true:=pQ.2 ⟨x,bN,h⟩;simp [iv,this]
   have no:ny x=false->∀ i,(h:i < c.zR.length)->i < k+1->ny c.zR[i]=false:=fun h6 i hi hij=>by
    by_cases e:i=k
    ·subst e;rw [<- hx];exact h6
    ·exact hr i hi aw
   conv=>whnf
   rw [m2];refine uF ?_;(refine tf hg ?_)
   refine ⟨fun b1=>?_,fun b1=>?_⟩
   ·rw [bad (by simp at b1;simp [ny];omega)];refine dd ?_;refine td ?_
    (refine .inr ⟨aj,uH ?_⟩)
    exact uI
   refine dd ?_;(refine tf hg ?_)
   refine ⟨fun b2=>?_,fun b2=>?_⟩
   ·rw [bad (by simp at b2;simp [ny];omega)];refine dd ?_;(refine .inr ⟨aj,uH ?_⟩)
    exact uI
   refine dd ?_;refine .inl ⟨rfl,?_,no (by simp at b1 b2;simp [ny];omega)⟩;exact dg
  ·have hno2:c.zR.any ny=false:=by
    rw [gU];intro x hx;obtain ⟨i,hi,rfl⟩:=pt.1 hx;simp [hr i hi hi]
   conv=>whnf
   rw [m2];refine ⟨fun h=>absurd h aj,fun _=>dd ?_⟩;refine ⟨aj,uH ?_⟩;have e:iv c=false:=by simp [iv,hno,hno2];omega
   rw [e];exact uI
end Go.Con
