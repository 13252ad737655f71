import Derived.Test.YtkbnjgogjccmfaaGreatRD
import Derived.Test.YtkbnjgogjccmfaaGreatRC
set_option linter.all false
set_option maxRecDepth 100000
set_option maxHeartbeats 4000000
namespace Go.Con
open Go.Ab Go.Proofs Tryz Go.Hy Go.Gat Go.Nam Go.Hos
def jW (f:Nat->Int) (n:Nat):Int × Int:=match (List.range n).find? fun i=>f i != 0 with
 | some i=>(f i,i)
 | none=>(0,0)
def jR {f:Nat->Int} {n k:Nat} {e:Int} (hk:k < n) (hr:∀ j,j < k->f j=0) (h:f k=e) (he:e≠0):jW f n=(e,(k:Int)):=by
 unfold jW
 have:(List.range n).find? (fun i=>f i != 0)=some k:=by
  rw [List.find?_range_eq_some];exact ⟨by simp [h,he],aq hk,fun j hj=>by simp [hr j hj]⟩
 rw [this];simp [h]
def Em {f:Nat->Int} {n:Nat} (hr:∀ j,j < n->f j=0):jW f n=(0,0):=by
 unfold jW
 have:(List.range n).find? (fun i=>f i != 0)=none:=by
  rw [List.find?_range_eq_none];intro i hi;simp [hr i hi]
 rw [this]
def nO (l:List uu) (i:Nat):Int:=match l[i]? with
 | none=>0
 | some s=>if xv s=false then 3 else if (l.take i).any (fun x=>x == s) then 4 else 0
def lF (l:List eC) (i:Nat):Int:=match l[i]? with
 | none=>0
 | some c=>if xv c.name=false then 3 else if ns (l.take i) c.name then 4 else if c.xx≠1∧c.xx≠2 then 9 else if (decide (1<=c.xB) && decide (c.xB<=4))=false then 10
   else if (decide (1<=(c.zL.length:Int)) && decide ((c.zL.length:Int)<=4))=false then 6 else 0
def mZ (a b:lf):Bool:=a.listen == b.listen && a.host == b.host && a.path == b.path
def mN (c:eG) (i:Nat):Int:=match c.zQ[i]? with
 | none=>0
 | some r=>if c.zd.any (fun x=>x == r.listen)=false then 5 else if mn r.host=false then 7 else if lY r.path=false then 8 else if ns c.zk r.zg=false then 5
   else if (c.zQ.take i).any (fun q=>mZ q r) then 4 else 0
def ve (c:eG):Int × Int:=
 if ((decide (1<=(c.zd.length:Int)) && decide ((c.zd.length:Int)<=4))=false∨(decide (1<=(c.zQ.length:Int)) && decide ((c.zQ.length:Int)<=8))=false)∨(decide (1<=(c.zk.length:Int)) && decide ((c.zk.length:Int)<=4))=false then (6,0) else (0,0)
def q8 (c:eG):Int × Int:=
 if (ve c).1≠0 then ve c else if (jW (nO c.zd) c.zd.length).1≠0 then jW (nO c.zd) c.zd.length
 else if (jW (lF c.zk) c.zk.length).1≠0 then jW (lF c.zk) c.zk.length
 else if (jW (mN c) c.zQ.length).1≠0 then jW (mN c) c.zQ.length else (0,0)
abbrev t2 (r:Int × Int):C:=.uo [I r.1,I r.2]
abbrev Cf (c:eG):C:=.agg (lH c)
structure xp (c:eG):Prop where
 zd:c.zd.length < 1000000000000∧∀ s ∈ c.zd,s.length < 4000000000000000000
 zQ:c.zQ.length < 1000000000000∧∀ r ∈ c.zQ,r.listen.length < 4000000000000000000∧r.host.length < 1000000000000∧r.path.length < 1000000000000∧r.zg.length < 4000000000000000000
 zk:c.zk.length < 1000000000000∧∀ x ∈ c.zk,x.name.length < 4000000000000000000∧x.zL.length < 4000000000000000000
structure kG (c:eG):Prop where
 zd:c.zd.length < 1000000000000000∧∀ s ∈ c.zd,s.length < 4000000000000000000
 zQ:c.zQ.length < 1000000000000000∧∀ r ∈ c.zQ,r.listen.length < 4000000000000000000∧r.host.length < 1000000000000000∧r.path.length < 1000000000000000∧r.zg.length < 4000000000000000000
 zk:c.zk.length < 1000000000000000∧∀ x ∈ c.zk,x.name.length < 4000000000000000000∧x.zL.length < 4000000000000000000
def xp.k {c:eG} (h:xp c):kG c:=
 ⟨⟨by have:=h.zd.1;omega,h.zd.2⟩,⟨by have:=h.zQ.1;omega,fun r hr=>by have:=h.zQ.2 r hr;omega⟩,⟨by have:=h.zk.1;omega,h.zk.2⟩⟩
def PK (c:eG) (hc:kG c):tn 74 [] [Cf c] (t2 (ve c)) []:=by
 have m1:(c.zd.map qj).length=c.zd.length:=dP ..;have m2:(c.zQ.map kJ).length=c.zQ.length:=dP ..;have m3:(c.zk.map jV).length=c.zk.length:=dP ..;refine ab func74 ?_;rw [m1];refine ah (xR _ _ _) ?_;refine ⟨fun h1=>?_,fun h1=>?_⟩
 ·refine dd ?_;refine tc ?_
  rw [m2];refine ah (xR _ _ _) ?_;refine ⟨fun h2=>?_,fun h2=>?_⟩
  ·refine dd ?_;refine tc ?_
   rw [m3];refine ah (xR _ _ _) ?_;refine ⟨fun h3=>?_,fun h3=>?_⟩
   ·refine dd ?_;refine tc ?_
    have e:ve c=(0,0):=by unfold ve;rw [dL];simp only [h1,h2,h3];simp
    rw [e];exact uI
   ·refine dd ?_;refine tc ?_
    have e:ve c=(6,0):=by unfold ve;rw [dO (.inr h3)]
    rw [e];exact uI
  ·refine dd ?_;refine tc ?_
   have e:ve c=(6,0):=by unfold ve;rw [dO (.inl (.inr h2))]
   rw [e];exact uI
 ·refine dd ?_;refine tc ?_
  have e:ve c=(6,0):=by unfold ve;rw [dO (.inl (.inl h1))]
  rw [e];exact uI
def MI (c:eG) (hc:kG c):tn 75 [] [Cf c] (t2 (jW (nO c.zd) c.zd.length)) []:=by
 have m1:(c.zd.map qj).length=c.zd.length:=dP ..;have hl:=hc.zd.1;refine ab func75 ?_;rw [m1];refine z5.seq c.zd.length (fun k=>((Cf c)::.ref 0 [] 3 0 0::I 0::I 0::.za::.za::.za::.za::(lT c.zd)::I c.zd.length::I k::tZ (tZ ([.za,.za,.za])))) (fun k=>[⟨1,176,3,[lH c],0⟩]) (fun k=>∀ j,j < k->nO c.zd j=0) ?_ aj (fun k hk hr=>?_) (fun hr=>?_)
 ·exact cC
 ·have hg:(c.zd.map qj)[k]?= some (qj c.zd[k]):=by rw [dN,dK hk];rfl
  have hs:=hc.zd.2 _ (gH hk)
  have he:nO c.zd k=if xv c.zd[k]=false then 3 else if (c.zd.take k).any (fun x=>x == c.zd[k]) then 4 else 0:=by
   unfold nO;rw [dK hk]
  conv=>whnf
  refine ⟨fun _=>dd ?_,fun h=>absurd h aA⟩;refine td hg ?_;refine ah (ym c.zd[k] aw) ?_;refine ⟨fun h2=>?_,fun h2=>?_⟩
  ·refine dd ?_;refine tc ?_
   (refine ⟨.inr rfl,dd ?_⟩);(refine ⟨aw,gu _,by rw [m1];omega,dd ?_⟩);(rw [r7,pU,toNat_cast,<- sJ])
   refine ah (Ch (c.zd.take k) c.zd[k] aA) ?_;refine ⟨fun h3=>?_,fun h3=>?_⟩
   ·refine dd ?_;rw [jR hk hr (by rw [he,dL bD,dO h3]) ar];refine .inr ⟨aj,uH ?_⟩;exact uI
   ·refine dd ?_;refine .inl ⟨rfl,?_,(fun j hj=>by (by_cases e:j=k);(subst e;exact (by rw [he,dL bD,dL bJ]));(exact hr j aw))⟩;exact dp
  ·refine dd ?_;refine tc ?_
   rw [jR hk hr (by rw [he,dO h2]) ar];refine .inr ⟨aj,uH ?_⟩;exact uI
 ·rw [Em hr];refine uD ?_;exact uI
def Mg (c:eG) (hc:kG c):tn 76 [] [Cf c] (t2 (jW (lF c.zk) c.zk.length)) []:=by
 have m1:(c.zk.map jV).length=c.zk.length:=dP ..;have hl:=hc.zk.1;refine ab func76 ?_;rw [m1];refine z5.seq c.zk.length (fun k=>((Cf c)::.ref 0 [] 3 0 0::I 0::I 0::.za::.za::.za::.za::(lC c.zk)::I c.zk.length::I k::tZ (tZ (tZ (tZ (tZ ([.za,.za,.za,.za]))))))) (fun k=>[⟨1,176,3,[lH c],0⟩]) (fun k=>∀ j,j < k->lF c.zk j=0) ?_ aj (fun k hk hr=>?_) (fun hr=>?_)
 ·exact cC
 ·obtain ⟨x,hx⟩:∃ x,x=c.zk[k]:=⟨_,rfl⟩;have hg:(c.zk.map jV)[k]?= some (jV x):=by rw [dN,dK hk,hx];rfl
  have hs:=hc.zk.2 x tE
  have he:lF c.zk k=if xv x.name=false then 3 else if ns (c.zk.take k) x.name then 4 else if x.xx≠1∧x.xx≠2 then 9 else if (decide (1<=x.xB) && decide (x.xB<=4))=false then 10
    else if (decide (1<=(x.zL.length:Int)) && decide ((x.zL.length:Int)<=4))=false then 6 else 0:=by
   unfold lF;rw [dK hk,hx]
  have mh:(x.zL.map y7).length=x.zL.length:=dP ..;conv=>whnf
  refine ⟨fun _=>dd ?_,fun h=>absurd h aA⟩;refine td hg ?_;refine ah (ym x.name aw) ?_;refine ⟨fun h2=>?_,fun h2=>?_⟩
  ·refine dd ?_;refine tc ?_
   refine .inl ⟨⟨false,[2,6,7],[0,1],[]⟩,au,uH ?_⟩;(refine ⟨.inr rfl,dd ?_⟩);(refine ⟨aw,gu _,by rw [m1];omega,dd ?_⟩);(rw [r7,pU,toNat_cast,<- sJ])
   refine ⟨Bo (ns (c.zk.take k) x.name),fun H2=>(HV (c.zk.take k) x.name aA).frame rfl H2,dd ?_⟩;refine ⟨fun h3=>?_,fun h3=>?_⟩
   ·refine dd ?_;rw [jR hk hr (by rw [he,dL bD,dO h3]) ar];(refine .inr ⟨aj,uH ?_⟩)
    exact uI
   ·have he:=he.trans ((dL bD).trans (dL bJ));refine dd ?_;refine ⟨fun h4=>?_,fun h4=>?_⟩
    ·have h4:x.xx≠1:=by simpa using h4
     refine dd ?_;refine ⟨fun h5=>?_,fun h5=>?_⟩
     ·have h5:x.xx≠2:=by simpa using h5
      refine dd ?_;rw [jR hk hr (by rw [he,dO ⟨h4,h5⟩]) ar];(refine .inr ⟨aj,uH ?_⟩)
      exact uI
     ·have h5:x.xx=2:=by simpa using h5
      have he:=he.trans (dL (fun h=>h.2 h5));refine dd ?_;refine ah (xR _ _ _) ?_;(refine ⟨fun h6=>?_,fun h6=>?_⟩);rotate_left;(focus (refine dd ?_;refine tc ?_;(rw [jR hk hr (by rw [he,dO h6]) ar]);(refine .inr ⟨aj,uH ?_⟩);exact uI));(have he:=he.trans (dL (by simp only [h6];decide)));refine dd ?_;refine tc ?_;(rw [mh]);refine ah (xR _ _ _) ?_;(refine ⟨fun h7=>?_,fun h7=>?_⟩);rotate_left;(focus (refine dd ?_;refine tc ?_;(rw [jR hk hr (by rw [he,dO h7]) ar]);(refine .inr ⟨aj,uH ?_⟩);exact uI));(have he:=he.trans (dL (by simp only [h7];decide)));refine dd ?_;refine tc ?_;(refine .inl ⟨rfl,?_,(fun j hj=>by (by_cases e:j=k);(subst e;exact he);(exact hr j aw))⟩);(rw [zu aw]);exact cE 1
    ·have h4:x.xx=1:=by simpa using h4
     have he:=he.trans (dL (fun h=>h.1 h4));refine dd ?_;refine ah (xR _ _ _) ?_;(refine ⟨fun h6=>?_,fun h6=>?_⟩);rotate_left;(focus (refine dd ?_;refine tc ?_;(rw [jR hk hr (by rw [he,dO h6]) ar]);(refine .inr ⟨aj,uH ?_⟩);exact uI));(have he:=he.trans (dL (by simp only [h6];decide)));refine dd ?_;refine tc ?_;(rw [mh]);refine ah (xR _ _ _) ?_;(refine ⟨fun h7=>?_,fun h7=>?_⟩);rotate_left;(focus (refine dd ?_;refine tc ?_;(rw [jR hk hr (by rw [he,dO h7]) ar]);(refine .inr ⟨aj,uH ?_⟩);exact uI));(have he:=he.trans (dL (by simp only [h7];decide)));refine dd ?_;refine tc ?_;(refine .inl ⟨rfl,?_,(fun j hj=>by (by_cases e:j=k);(subst e;exact he);(exact hr j aw))⟩);(rw [zu aw]);exact cE 1
  ·refine dd ?_;refine tc ?_
   rw [jR hk hr (by rw [he,dO h2]) ar];refine .inr ⟨aj,uH ?_⟩;exact uI
 ·rw [Em hr];refine uD ?_;exact uI
def NA (c:eG) (hc:kG c):tn 77 [] [Cf c] (t2 (jW (mN c) c.zQ.length)) []:=by
 have m1:(c.zQ.map kJ).length=c.zQ.length:=dP ..;have hl:=hc.zQ.1;have hl1:=hc.zd.1;have hl2:=hc.zk.1;refine ab func77 ?_;rw [m1];refine z5.seq c.zQ.length (fun k=>(Cf c:: .ref 0 [] 3 0 0::I 0::I 0:: .za::.za::.za::.za::.za::.za::lO c.zQ::I c.zQ.length::I k:: .za::.za::.za::.za::tZ (tZ (tZ (tZ (tZ (tZ ([])))))))) (fun k=>[⟨1,176,3,[lH c],0⟩]) (fun k=>∀ j,j < k->mN c j=0) ?_ aj (fun k hk hr=>?_) (fun hr=>?_)
 ·exact cC
 ·obtain ⟨r,hx⟩:∃ r,r=c.zQ[k]:=⟨_,rfl⟩;have hg:(c.zQ.map kJ)[k]?= some (kJ r):=by rw [dN,dK hk,hx];rfl
  have hs:=hc.zQ.2 r tE
  have he:mN c k=if c.zd.any (fun x=>x == r.listen)=false then 5 else if mn r.host=false then 7 else if lY r.path=false then 8 else if ns c.zk r.zg=false then 5
    else if (c.zQ.take k).any (fun q=>mZ q r) then 4 else 0:=by
   unfold mN;rw [dK hk,hx]
  have m2:((c.zQ.take k).map kJ).length=k:=aA
  have hlk:(c.zQ.take k).length=k:=aA
  conv=>whnf
  refine uF ?_;(refine td hg ?_)
  refine ah (Ch c.zd r.listen aw) ?_;refine ⟨fun h2=>?_,fun h2=>?_⟩
  rotate_left
  ·refine dd ?_;refine tc ?_
   rw [jR hk hr (by rw [he,dO h2]) ar];(refine .inr ⟨aj,uH ?_⟩)
   exact uI
  have he:=he.trans (dL bD);refine dd ?_;refine tc ?_
  refine ah (wF r.host aw) ?_;refine ⟨fun h3=>?_,fun h3=>?_⟩
  rotate_left
  ·refine dd ?_;refine tc ?_
   rw [jR hk hr (by rw [he,dO h3]) ar];(refine .inr ⟨aj,uH ?_⟩)
   exact uI
  have he:=he.trans (dL bJ);refine dd ?_;refine tc ?_
  refine ah (D9 r.path aw) ?_;refine ⟨fun h4=>?_,fun h4=>?_⟩
  rotate_left
  ·refine dd ?_;refine tc ?_
   rw [jR hk hr (by rw [he,dO h4]) ar];(refine .inr ⟨aj,uH ?_⟩)
   exact uI
  have he:=he.trans (dL (by simp [h4]));refine dd ?_;refine tc ?_
  refine ah (HV c.zk r.zg aw) ?_;refine ⟨fun h5=>?_,fun h5=>?_⟩
  rotate_left
  ·refine dd ?_;refine tc ?_
   rw [jR hk hr (by rw [he,dO h5]) ar];(refine .inr ⟨aj,uH ?_⟩)
   exact uI
  have he:=he.trans (dL ax);refine dd ?_;refine tc ?_
  (refine ⟨.inr rfl,dd ?_⟩);(refine ⟨aw,gu _,by rw [m1];omega,dd ?_⟩);(rw [r7,pU,toNat_cast,<- sJ])
  rw [m2];refine z5.seq k (fun j=>(Cf c:: .ref 0 [] 3 0 0::I 0::I 0::I k:: .ref 1 [] 4 0 0:: .za::.za::.za::.za::lO c.zQ::I c.zQ.length::I k:: .za::.za::.za::.za::.za::.za::.za::tZ (tZ (tZ (tZ (lO (c.zQ.take k)::I k::I j:: .za::.za::tZ ([]))))))) (fun j=>[⟨1,176,3,[lH c],0⟩,⟨1,131,4,[[Tx r.listen,Tx r.host,Tx r.path,Tx []]],0⟩]) (fun j=>∀ i,(h:i < c.zQ.length)->i < j->mZ c.zQ[i] r=false) ?_ aj (fun j hj hrj=>?_) (fun hrj=>?_)
  ·exact cC
  ·obtain ⟨q,hq⟩:∃ q,q=c.zQ[j]:=⟨_,rfl⟩;have hgq:((c.zQ.take k).map kJ)[j]?= some (kJ q):=by rw [dN,dK aw,hq,tX];rfl
   conv=>whnf
   refine uF ?_;(refine td hgq ?_)
   refine ⟨au,dd ?_⟩;refine ⟨fun h6=>?_,fun h6=>?_⟩
   ·have h6:mZ q r=true:=by simp at h6;simp [mZ,h6]
    have ha:(c.zQ.take k).any (fun q=>mZ q r)=true:=by
     rw [pI];exact ⟨q,by rw [hq,gX];exact ⟨j,aw,tX⟩,h6⟩
    refine dd ?_;rw [jR hk hr (by rw [he,dO ha]) ar];(refine .inr ⟨aj,uH ?_⟩)
    refine .inr ⟨aj,uH ?_⟩;exact uI
   ·have h6:mZ q r=false:=by
     cases hs:mZ q r with
     | false=>rfl
     | true=>simp [mZ] at hs;simp [hs] at h6
    refine dd ?_;refine .inl ⟨rfl,?_,fun i hi hij=>?_⟩
    ·rw [zu aw];exact cE 2
    ·by_cases e:i=j
     ·subst e;rw [<- hq];exact h6
     ·exact hrj i hi aw
  ·have ha:(c.zQ.take k).any (fun q=>mZ q r)=false:=by
    rw [gI];intro q hq;obtain ⟨i,hi,rfl⟩:=gX.1 hq;rw [tX];simp [hrj i aw aw]
   have he:=he.trans (dL (by simp [ha]));refine uD ?_;refine .inl ⟨rfl,?_,(fun j hj=>by (by_cases e:j=k);(subst e;exact he);(exact hr j aw))⟩;exact dp
 ·rw [Em hr];refine uD ?_;exact uI
def Hc (c:eG) (hc:kG c):tn 50 [] [Cf c] (t2 (q8 c)) []:=by
 refine ab func50 ?_;refine .B8 5 (.step ?_);conv=>whnf
 (refine ya (dd ?_))
 refine ⟨ar,_,rfl,dd ?_⟩;refine ah (PK c hc) ?_;refine ⟨fun h1=>?_,fun h1=>?_⟩
 ·have e:q8 c=ve c:=by unfold q8;rw [dO tG]
  rw [e];refine dd ?_;(refine .inr ⟨aj,uH ?_⟩)
  exact uI
 have h1:(ve c).1=0:=aq h1
 refine dd ?_;refine .inl ⟨rfl,.step (uH ?_)⟩;(refine ya (dd ?_))
 refine ⟨ar,_,rfl,dd ?_⟩;refine ah (MI c hc) ?_;refine ⟨fun h2=>?_,fun h2=>?_⟩
 ·have e:q8 c=jW (nO c.zd) c.zd.length:=by unfold q8;rw [dL aD,dO tT]
  rw [e];refine dd ?_;(refine .inr ⟨aj,uH ?_⟩)
  exact uI
 have h2:(jW (nO c.zd) c.zd.length).1=0:=aq h2
 refine dd ?_;refine .inl ⟨rfl,.step (uH ?_)⟩;(refine ya (dd ?_))
 refine ⟨ar,_,rfl,dd ?_⟩;refine ah (Mg c hc) ?_;refine ⟨fun h3=>?_,fun h3=>?_⟩
 ·have e:q8 c=jW (lF c.zk) c.zk.length:=by unfold q8;rw [dL aD,dL bD,dO (aq h3)]
  rw [e];refine dd ?_;(refine .inr ⟨aj,uH ?_⟩)
  exact uI
 have h3:(jW (lF c.zk) c.zk.length).1=0:=aq h3
 refine dd ?_;refine .inl ⟨rfl,.step (uH ?_)⟩;(refine ya (dd ?_))
 refine ⟨ar,_,rfl,dd ?_⟩;refine ah (NA c hc) ?_;refine ⟨fun h4=>?_,fun h4=>?_⟩
 ·have e:q8 c=jW (mN c) c.zQ.length:=by unfold q8;rw [dL aD,dL bD,dL bJ,dO (aq h4)]
  rw [e];refine dd ?_;(refine .inr ⟨aj,uH ?_⟩)
  exact uI
 have h4:(jW (mN c) c.zQ.length).1=0:=aq h4
 refine dd ?_;refine .inl ⟨rfl,.step (uH ?_)⟩;(refine yb (dd ?_))
 (refine .inr ⟨aj,uH ?_⟩)
 have e:q8 c=(0,0):=by unfold q8;rw [dL aD,dL bD,dL bJ,dL (by simp [h4])]
 rw [e];exact uI
def check_sound (c:eG) (hc:xp c):tn 50 [] [Cf c] (t2 (q8 c)) []:=Hc c hc.k
def ng (l:List eC) (s:uu):Int:=match l.findIdx? (fun x=>x.name == s) with | some i=>(i:Int) | none=> -1
def mK (c:eC):Bool:=decide (50 < c.zL.length) || decide (100 < c.name.length)
def mM (r:lf):Bool:=decide (100 < r.host.length) || decide (100 < r.path.length)
def fO (c:eG):Bool:=decide (50 < c.zd.length) || decide (50 < c.zQ.length) || decide (50 < c.zk.length) || c.zk.any mK || c.zQ.any mM
def I2 (c:eG) (h1:c.zd.length < 4000000000000000000) (h2:c.zQ.length < 4000000000000000000) (h3:c.zk.length < 4000000000000000000):tn 20 [] [Cf c] (Bo (fO c)) []:=by
 have m1:(c.zd.map qj).length=c.zd.length:=dP ..;have m2:(c.zQ.map kJ).length=c.zQ.length:=dP ..;have m3:(c.zk.map jV).length=c.zk.length:=dP ..;refine ab func20 ?_;rw [m1];(refine ⟨fun a1=>?_,fun a1=>?_⟩);(focus ((have e:fO c=true:=by (simp at a1;simp [fO];omega));(rw [e]);refine dd ?_;refine tc ?_;exact uI));refine dd ?_
 rw [m2];(refine ⟨fun a2=>?_,fun a2=>?_⟩);(focus ((have e:fO c=true:=by (simp at a2;simp [fO];omega));(rw [e]);refine dd ?_;refine tc ?_;exact uI));refine dd ?_
 rw [m3];(refine ⟨fun a3=>?_,fun a3=>?_⟩);(focus ((have e:fO c=true:=by (simp at a3;simp [fO];omega));(rw [e]);refine dd ?_;refine tc ?_;exact uI));refine dd ?_
 simp at a1 a2 a3;refine z5.seq c.zk.length (fun k=>(Cf c:: .ref 0 [] 3 0 0::Bo false::I k:: .za::.za::.za::tZ (tZ (tZ (tZ (tZ (tZ (tZ (tZ ([])))))))))) (fun k=>[⟨1,26,3,[lH c],0⟩]) (fun k=>∀ j,(h:j < c.zk.length)->j < k->mK c.zk[j]=false) ?_ aj (fun k hk hr=>?_) (fun hr=>?_)
 ·exact cC
 ·obtain ⟨x,hx⟩:∃ x,x=c.zk[k]:=⟨_,rfl⟩;have hg:(c.zk.map jV)[k]?= some (jV x):=by rw [dN,dK hk,hx];rfl
  have mh:(x.zL.map y7).length=x.zL.length:=dP ..
  have bad:mK x=true->fO c=true:=fun h=>by
   have:c.zk.any mK=true:=pI.2 ⟨x,bL,h⟩;simp [fO,this]
  have no:mK x=false->∀ i,(h:i < c.zk.length)->i < k+1->mK c.zk[i]=false:=fun h6 i hi hij=>by
   by_cases e:i=k
   ·subst e;rw [<- hx];exact h6
   ·exact hr i hi aw
  conv=>whnf
  rw [m3];refine uF ?_;(refine td hg ?_)
  rw [mh];refine ⟨fun b1=>?_,fun b1=>?_⟩
  ·rw [bad (by simp at b1;simp [mK];omega)];refine dd ?_;refine tc ?_
   (refine .inr ⟨aj,uH ?_⟩)
   exact uI
  refine dd ?_;(refine td hg ?_)
  refine ⟨fun b2=>?_,fun b2=>?_⟩
  ·rw [bad (by simp at b2;simp [mK];omega)];refine dd ?_;(refine .inr ⟨aj,uH ?_⟩)
   exact uI
  refine dd ?_;refine .inl ⟨rfl,?_,no (by simp at b1 b2;simp [mK];omega)⟩;exact dp
 ·have hno:c.zk.any mK=false:=by
   rw [gI];intro x hx;obtain ⟨i,hi,rfl⟩:=gX.1 hx;simp [hr i hi hi]
  conv=>whnf
  rw [m3];refine ⟨fun h=>absurd h aj,fun _=>dd ?_⟩;refine ⟨aj,uH ?_⟩;refine z5.seq c.zQ.length (fun k=>(Cf c:: .ref 0 [] 3 0 0::Bo false:: .za::I k:: .za::.za::tZ (tZ (tZ (tZ (tZ (tZ (tZ (tZ ([])))))))))) (fun k=>[⟨1,26,3,[lH c],0⟩]) (fun k=>∀ j,(h:j < c.zQ.length)->j < k->mM c.zQ[j]=false) ?_ aj (fun k hk hr=>?_) (fun hr=>?_)
  ·exact cC
  ·obtain ⟨x,hx⟩:∃ x,x=c.zQ[k]:=⟨_,rfl⟩;have hg:(c.zQ.map kJ)[k]?= some (kJ x):=by rw [dN,dK hk,hx];rfl
   have bad:mM x=true->fO c=true:=fun h=>by
    have:c.zQ.any mM=true:=pI.2 ⟨x,bL,h⟩;simp [fO,this]
   have no:mM x=false->∀ i,(h:i < c.zQ.length)->i < k+1->mM c.zQ[i]=false:=fun h6 i hi hij=>by
    by_cases e:i=k
    ·subst e;rw [<- hx];exact h6
    ·exact hr i hi aw
   conv=>whnf
   rw [m2];refine uF ?_;(refine td hg ?_)
   refine ⟨fun b1=>?_,fun b1=>?_⟩
   ·rw [bad (by simp at b1;simp [mM];omega)];refine dd ?_;refine tc ?_
    (refine .inr ⟨aj,uH ?_⟩)
    exact uI
   refine dd ?_;(refine td hg ?_)
   refine ⟨fun b2=>?_,fun b2=>?_⟩
   ·rw [bad (by simp at b2;simp [mM];omega)];refine dd ?_;(refine .inr ⟨aj,uH ?_⟩)
    exact uI
   refine dd ?_;refine .inl ⟨rfl,?_,no (by simp at b1 b2;simp [mM];omega)⟩;exact dp
  ·have hno2:c.zQ.any mM=false:=by
    rw [gI];intro x hx;obtain ⟨i,hi,rfl⟩:=gX.1 hx;simp [hr i hi hi]
   conv=>whnf
   rw [m2];refine ⟨fun h=>absurd h aj,fun _=>dd ?_⟩;refine ⟨aj,uH ?_⟩;have e:fO c=false:=by simp [fO,hno,hno2];omega
   rw [e];exact uI
end Go.Con
