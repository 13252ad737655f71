import Derived.Test.YtkbnjgogjccmfaaGreatTD
import Derived.Test.YtkbnjgogjccmfaaGreatTC
set_option linter.all false
set_option maxRecDepth 100000
set_option maxHeartbeats 4000000
namespace Go.Con
open Go.Ab Go.Proofs Tryz Go.Hy Go.Gat Go.Nam Go.Hos
def j7 (f:Nat->Int) (n:Nat):Int × Int:=match (List.range n).find? fun i=>f i != 0 with
 | some i=>(f i,i)
 | none=>(0,0)
def jX {f:Nat->Int} {n k:Nat} {e:Int} (hk:k < n) (hr:∀ j,j < k->f j=0) (h:f k=e) (he:e≠0):j7 f n=(e,(k:Int)):=by
 unfold j7
 have:(List.range n).find? (fun i=>f i != 0)=some k:=by
  rw [List.find?_range_eq_some];exact ⟨by simp [h,he],aq hk,fun j hj=>by simp [hr j hj]⟩
 rw [this];simp [h]
def Fz {f:Nat->Int} {n:Nat} (hr:∀ j,j < n->f j=0):j7 f n=(0,0):=by
 unfold j7
 have:(List.range n).find? (fun i=>f i != 0)=none:=by
  rw [List.find?_range_eq_none];intro i hi;simp [hr i hi]
 rw [this]
def m9 (l:List u4) (i:Nat):Int:=match l[i]? with
 | none=>0
 | some s=>if xh s=false then 3 else if (l.take i).any (fun x=>x == s) then 4 else 0
def ma (l:List eM) (i:Nat):Int:=match l[i]? with
 | none=>0
 | some c=>if xh c.name=false then 3 else if nT (l.take i) c.name then 4 else if c.xH≠1∧c.xH≠2 then 9 else if (decide (1<=c.xL) && decide (c.xL<=4))=false then 10
   else if (decide (1<=(c.zL.length:Int)) && decide ((c.zL.length:Int)<=4))=false then 6 else 0
def nB (a b:lb):Bool:=a.listen == b.listen && a.host == b.host && a.path == b.path
def nr (c:eP) (i:Nat):Int:=match c.zP[i]? with
 | none=>0
 | some r=>if c.zd.any (fun x=>x == r.listen)=false then 5 else if mK r.host=false then 7 else if my r.path=false then 8 else if nT c.zk r.zi=false then 5
   else if (c.zP.take i).any (fun q=>nB q r) then 4 else 0
def yZ (c:eP):Int × Int:=
 if ((decide (1<=(c.zd.length:Int)) && decide ((c.zd.length:Int)<=4))=false∨(decide (1<=(c.zP.length:Int)) && decide ((c.zP.length:Int)<=8))=false)∨(decide (1<=(c.zk.length:Int)) && decide ((c.zk.length:Int)<=4))=false then (6,0) else (0,0)
def qN (c:eP):Int × Int:=
 if (yZ c).1≠0 then yZ c else if (j7 (m9 c.zd) c.zd.length).1≠0 then j7 (m9 c.zd) c.zd.length
 else if (j7 (ma c.zk) c.zk.length).1≠0 then j7 (ma c.zk) c.zk.length
 else if (j7 (nr c) c.zP.length).1≠0 then j7 (nr c) c.zP.length else (0,0)
abbrev t2 (r:Int × Int):C:=.u1 [I r.1,I r.2]
abbrev Cf (c:eP):C:=.agg (mf c)
structure y8 (c:eP):Prop where
 zd:c.zd.length < 1000000000000∧∀ s ∈ c.zd,s.length < 4000000000000000000
 zP:c.zP.length < 1000000000000∧∀ r ∈ c.zP,r.listen.length < 4000000000000000000∧r.host.length < 1000000000000000∧r.path.length < 1000000000000000∧r.zi.length < 4000000000000000000
 zk:c.zk.length < 1000000000000∧∀ x ∈ c.zk,x.name.length < 4000000000000000000∧x.zL.length < 4000000000000000000
structure xB (c:eP):Prop where
 zd:c.zd.length < 1000000000000000∧∀ s ∈ c.zd,s.length < 4000000000000000000
 zP:c.zP.length < 1000000000000000∧∀ r ∈ c.zP,r.listen.length < 4000000000000000000∧r.host.length < 1000000000000000∧r.path.length < 1000000000000000∧r.zi.length < 4000000000000000000
 zk:c.zk.length < 1000000000000000∧∀ x ∈ c.zk,x.name.length < 4000000000000000000∧x.zL.length < 4000000000000000000
def y8.k {c:eP} (h:y8 c):xB c:=
 ⟨⟨by have:=h.zd.1;omega,h.zd.2⟩,⟨by have:=h.zP.1;omega,fun r hr=>by have:=h.zP.2 r hr;omega⟩,⟨by have:=h.zk.1;omega,h.zk.2⟩⟩
def QF (c:eP) (hc:xB c):tn 74 [] [Cf c] (t2 (yZ c)) []:=by
 have m1:(c.zd.map ql).length=c.zd.length:=dR ..;have m2:(c.zP.map wb).length=c.zP.length:=dR ..;have m3:(c.zk.map j6).length=c.zk.length:=dR ..;refine ab func74 ?_;rw [m1];refine ah (ye _ _ _) ?_;refine ⟨fun h1=>?_,fun h1=>?_⟩
 ·refine dd ?_;refine tc ?_
  rw [m2];refine ah (ye _ _ _) ?_;refine ⟨fun h2=>?_,fun h2=>?_⟩
  ·refine dd ?_;refine tc ?_
   rw [m3];refine ah (ye _ _ _) ?_;refine ⟨fun h3=>?_,fun h3=>?_⟩
   ·refine dd ?_;refine tc ?_
    have e:yZ c=(0,0):=by unfold yZ;rw [dN];simp only [h1,h2,h3];simp
    rw [e];exact uI
   ·refine dd ?_;refine tc ?_
    have e:yZ c=(6,0):=by unfold yZ;rw [dQ (.inr h3)]
    rw [e];exact uI
  ·refine dd ?_;refine tc ?_
   have e:yZ c=(6,0):=by unfold yZ;rw [dQ (.inl (.inr h2))]
   rw [e];exact uI
 ·refine dd ?_;refine tc ?_
  have e:yZ c=(6,0):=by unfold yZ;rw [dQ (.inl (.inl h1))]
  rw [e];exact uI
def NU (c:eP) (hc:xB c):tn 75 [] [Cf c] (t2 (j7 (m9 c.zd) c.zd.length)) []:=by
 have m1:(c.zd.map ql).length=c.zd.length:=dR ..;have hl:=hc.zd.1;refine ab func75 ?_;rw [m1];refine zZ.seq c.zd.length (fun k=>((Cf c)::.ref 0 [] 3 0 0::I 0::I 0::.za::.za::.za::.za::(lT c.zd)::I c.zd.length::I k::tZ (tZ ([.za,.za,.za])))) (fun k=>[⟨1,176,3,[mf c],0⟩]) (fun k=>∀ j,j < k->m9 c.zd j=0) ?_ aj (fun k hk hr=>?_) (fun hr=>?_)
 ·exact cC
 ·have hg:(c.zd.map ql)[k]?= some (ql c.zd[k]):=by rw [dP,dM hk];rfl
  have hs:=hc.zd.2 _ (gQ hk)
  have he:m9 c.zd k=if xh c.zd[k]=false then 3 else if (c.zd.take k).any (fun x=>x == c.zd[k]) then 4 else 0:=by
   unfold m9;rw [dM hk]
  conv=>whnf
  refine ⟨fun _=>dd ?_,fun h=>absurd h aA⟩;refine td hg ?_;refine ah (yy c.zd[k] aw) ?_;refine ⟨fun h2=>?_,fun h2=>?_⟩
  ·refine dd ?_;refine tc ?_
   (refine ⟨.inr rfl,dd ?_⟩);(refine ⟨aw,gA _,by rw [m1];omega,dd ?_⟩);(rw [sf,pY,toNat_cast,<- sS])
   refine ah (C5 (c.zd.take k) c.zd[k] aA) ?_;refine ⟨fun h3=>?_,fun h3=>?_⟩
   ·refine dd ?_;rw [jX hk hr (by rw [he,dN bF,dQ h3]) ar];refine .inr ⟨aj,uH ?_⟩;exact uI
   ·refine dd ?_;refine .inl ⟨rfl,?_,(fun j hj=>by (by_cases e:j=k);(subst e;exact (by rw [he,dN bF,dN bM]));(exact hr j aw))⟩;exact dt
  ·refine dd ?_;refine tc ?_
   rw [jX hk hr (by rw [he,dQ h2]) ar];refine .inr ⟨aj,uH ?_⟩;exact uI
 ·rw [Fz hr];refine uD ?_;exact uI
def Ny (c:eP) (hc:xB c):tn 76 [] [Cf c] (t2 (j7 (ma c.zk) c.zk.length)) []:=by
 have m1:(c.zk.map j6).length=c.zk.length:=dR ..;have hl:=hc.zk.1;refine ab func76 ?_;rw [m1];refine zZ.seq c.zk.length (fun k=>((Cf c)::.ref 0 [] 3 0 0::I 0::I 0::.za::.za::.za::.za::(lC c.zk)::I c.zk.length::I k::tZ (tZ (tZ (tZ (tZ ([.za,.za,.za,.za]))))))) (fun k=>[⟨1,176,3,[mf c],0⟩]) (fun k=>∀ j,j < k->ma c.zk j=0) ?_ aj (fun k hk hr=>?_) (fun hr=>?_)
 ·exact cC
 ·obtain ⟨x,hx⟩:∃ x,x=c.zk[k]:=⟨_,rfl⟩;have hg:(c.zk.map j6)[k]?= some (j6 x):=by rw [dP,dM hk,hx];rfl
  have hs:=hc.zk.2 x tD
  have he:ma c.zk k=if xh x.name=false then 3 else if nT (c.zk.take k) x.name then 4 else if x.xH≠1∧x.xH≠2 then 9 else if (decide (1<=x.xL) && decide (x.xL<=4))=false then 10
    else if (decide (1<=(x.zL.length:Int)) && decide ((x.zL.length:Int)<=4))=false then 6 else 0:=by
   unfold ma;rw [dM hk,hx]
  have mh:(x.zL.map vq).length=x.zL.length:=dR ..;conv=>whnf
  refine ⟨fun _=>dd ?_,fun h=>absurd h aA⟩;refine td hg ?_;refine ah (yy x.name aw) ?_;refine ⟨fun h2=>?_,fun h2=>?_⟩
  ·refine dd ?_;refine tc ?_
   refine .inl ⟨⟨false,[2,6,7],[0,1],[]⟩,au,uH ?_⟩;(refine ⟨.inr rfl,dd ?_⟩);(refine ⟨aw,gA _,by rw [m1];omega,dd ?_⟩);(rw [sf,pY,toNat_cast,<- sS])
   refine ⟨Bo (nT (c.zk.take k) x.name),fun H2=>(I0 (c.zk.take k) x.name aA).frame rfl H2,dd ?_⟩;refine ⟨fun h3=>?_,fun h3=>?_⟩
   ·refine dd ?_;rw [jX hk hr (by rw [he,dN bF,dQ h3]) ar];(refine .inr ⟨aj,uH ?_⟩)
    exact uI
   ·have he:=he.trans ((dN bF).trans (dN bM));refine dd ?_;refine ⟨fun h4=>?_,fun h4=>?_⟩
    ·have h4:x.xH≠1:=by simpa using h4
     refine dd ?_;refine ⟨fun h5=>?_,fun h5=>?_⟩
     ·have h5:x.xH≠2:=by simpa using h5
      refine dd ?_;rw [jX hk hr (by rw [he,dQ ⟨h4,h5⟩]) ar];(refine .inr ⟨aj,uH ?_⟩)
      exact uI
     ·have h5:x.xH=2:=by simpa using h5
      have he:=he.trans (dN (fun h=>h.2 h5));refine dd ?_;refine ah (ye _ _ _) ?_;(refine ⟨fun h6=>?_,fun h6=>?_⟩);rotate_left;(focus (refine dd ?_;refine tc ?_;(rw [jX hk hr (by rw [he,dQ h6]) ar]);(refine .inr ⟨aj,uH ?_⟩);exact uI));(have he:=he.trans (dN (by simp only [h6];decide)));refine dd ?_;refine tc ?_;(rw [mh]);refine ah (ye _ _ _) ?_;(refine ⟨fun h7=>?_,fun h7=>?_⟩);rotate_left;(focus (refine dd ?_;refine tc ?_;(rw [jX hk hr (by rw [he,dQ h7]) ar]);(refine .inr ⟨aj,uH ?_⟩);exact uI));(have he:=he.trans (dN (by simp only [h7];decide)));refine dd ?_;refine tc ?_;(refine .inl ⟨rfl,?_,(fun j hj=>by (by_cases e:j=k);(subst e;exact he);(exact hr j aw))⟩);(rw [zu aw]);exact cE 1
    ·have h4:x.xH=1:=by simpa using h4
     have he:=he.trans (dN (fun h=>h.1 h4));refine dd ?_;refine ah (ye _ _ _) ?_;(refine ⟨fun h6=>?_,fun h6=>?_⟩);rotate_left;(focus (refine dd ?_;refine tc ?_;(rw [jX hk hr (by rw [he,dQ h6]) ar]);(refine .inr ⟨aj,uH ?_⟩);exact uI));(have he:=he.trans (dN (by simp only [h6];decide)));refine dd ?_;refine tc ?_;(rw [mh]);refine ah (ye _ _ _) ?_;(refine ⟨fun h7=>?_,fun h7=>?_⟩);rotate_left;(focus (refine dd ?_;refine tc ?_;(rw [jX hk hr (by rw [he,dQ h7]) ar]);(refine .inr ⟨aj,uH ?_⟩);exact uI));(have he:=he.trans (dN (by simp only [h7];decide)));refine dd ?_;refine tc ?_;(refine .inl ⟨rfl,?_,(fun j hj=>by (by_cases e:j=k);(subst e;exact he);(exact hr j aw))⟩);(rw [zu aw]);exact cE 1
  ·refine dd ?_;refine tc ?_
   rw [jX hk hr (by rw [he,dQ h2]) ar];refine .inr ⟨aj,uH ?_⟩;exact uI
 ·rw [Fz hr];refine uD ?_;exact uI
def N1 (c:eP) (hc:xB c):tn 77 [] [Cf c] (t2 (j7 (nr c) c.zP.length)) []:=by
 have m1:(c.zP.map wb).length=c.zP.length:=dR ..;have hl:=hc.zP.1;have hl1:=hc.zd.1;have hl2:=hc.zk.1;refine ab func77 ?_;rw [m1];refine zZ.seq c.zP.length (fun k=>(Cf c:: .ref 0 [] 3 0 0::I 0::I 0:: .za::.za::.za::.za::.za::.za::lO c.zP::I c.zP.length::I k:: .za::.za::.za::.za::tZ (tZ (tZ (tZ (tZ (tZ ([])))))))) (fun k=>[⟨1,176,3,[mf c],0⟩]) (fun k=>∀ j,j < k->nr c j=0) ?_ aj (fun k hk hr=>?_) (fun hr=>?_)
 ·exact cC
 ·obtain ⟨r,hx⟩:∃ r,r=c.zP[k]:=⟨_,rfl⟩;have hg:(c.zP.map wb)[k]?= some (wb r):=by rw [dP,dM hk,hx];rfl
  have hs:=hc.zP.2 r tD
  have he:nr c k=if c.zd.any (fun x=>x == r.listen)=false then 5 else if mK r.host=false then 7 else if my r.path=false then 8 else if nT c.zk r.zi=false then 5
    else if (c.zP.take k).any (fun q=>nB q r) then 4 else 0:=by
   unfold nr;rw [dM hk,hx]
  have m2:((c.zP.take k).map wb).length=k:=aA
  have hlk:(c.zP.take k).length=k:=aA
  conv=>whnf
  refine uF ?_;(refine td hg ?_)
  refine ah (C5 c.zd r.listen aw) ?_;refine ⟨fun h2=>?_,fun h2=>?_⟩
  rotate_left
  ·refine dd ?_;refine tc ?_
   rw [jX hk hr (by rw [he,dQ h2]) ar];(refine .inr ⟨aj,uH ?_⟩)
   exact uI
  have he:=he.trans (dN bF);refine dd ?_;refine tc ?_
  refine ah (w9 r.host aw) ?_;refine ⟨fun h3=>?_,fun h3=>?_⟩
  rotate_left
  ·refine dd ?_;refine tc ?_
   rw [jX hk hr (by rw [he,dQ h3]) ar];(refine .inr ⟨aj,uH ?_⟩)
   exact uI
  have he:=he.trans (dN bM);refine dd ?_;refine tc ?_
  refine ah (E4 r.path aw) ?_;refine ⟨fun h4=>?_,fun h4=>?_⟩
  rotate_left
  ·refine dd ?_;refine tc ?_
   rw [jX hk hr (by rw [he,dQ h4]) ar];(refine .inr ⟨aj,uH ?_⟩)
   exact uI
  have he:=he.trans (dN (by simp [h4]));refine dd ?_;refine tc ?_
  refine ah (I0 c.zk r.zi aw) ?_;refine ⟨fun h5=>?_,fun h5=>?_⟩
  rotate_left
  ·refine dd ?_;refine tc ?_
   rw [jX hk hr (by rw [he,dQ h5]) ar];(refine .inr ⟨aj,uH ?_⟩)
   exact uI
  have he:=he.trans (dN ax);refine dd ?_;refine tc ?_
  (refine ⟨.inr rfl,dd ?_⟩);(refine ⟨aw,gA _,by rw [m1];omega,dd ?_⟩);(rw [sf,pY,toNat_cast,<- sS])
  rw [m2];refine zZ.seq k (fun j=>(Cf c:: .ref 0 [] 3 0 0::I 0::I 0::I k:: .ref 1 [] 4 0 0:: .za::.za::.za::.za::lO c.zP::I c.zP.length::I k:: .za::.za::.za::.za::.za::.za::.za::tZ (tZ (tZ (tZ (lO (c.zP.take k)::I k::I j:: .za::.za::tZ ([]))))))) (fun j=>[⟨1,176,3,[mf c],0⟩,⟨1,131,4,[[Tx r.listen,Tx r.host,Tx r.path,Tx []]],0⟩]) (fun j=>∀ i,(h:i < c.zP.length)->i < j->nB c.zP[i] r=false) ?_ aj (fun j hj hrj=>?_) (fun hrj=>?_)
  ·exact cC
  ·obtain ⟨q,hq⟩:∃ q,q=c.zP[j]:=⟨_,rfl⟩;have hgq:((c.zP.take k).map wb)[j]?= some (wb q):=by rw [dP,dM aw,hq,uf];rfl
   conv=>whnf
   refine uF ?_;(refine td hgq ?_)
   refine ⟨au,dd ?_⟩;refine ⟨fun h6=>?_,fun h6=>?_⟩
   ·have h6:nB q r=true:=by simp at h6;simp [nB,h6]
    have ha:(c.zP.take k).any (fun q=>nB q r)=true:=by
     rw [pH];exact ⟨q,by rw [hq,pa];exact ⟨j,aw,uf⟩,h6⟩
    refine dd ?_;rw [jX hk hr (by rw [he,dQ ha]) ar];(refine .inr ⟨aj,uH ?_⟩)
    refine .inr ⟨aj,uH ?_⟩;exact uI
   ·have h6:nB q r=false:=by
     cases hs:nB q r with
     | false=>rfl
     | true=>simp [nB] at hs;simp [hs] at h6
    refine dd ?_;refine .inl ⟨rfl,?_,fun i hi hij=>?_⟩
    ·rw [zu aw];exact cE 2
    ·by_cases e:i=j
     ·subst e;rw [<- hq];exact h6
     ·exact hrj i hi aw
  ·have ha:(c.zP.take k).any (fun q=>nB q r)=false:=by
    rw [gP];intro q hq;obtain ⟨i,hi,rfl⟩:=pa.1 hq;rw [uf];simp [hrj i aw aw]
   have he:=he.trans (dN (by simp [ha]));refine uD ?_;refine .inl ⟨rfl,?_,(fun j hj=>by (by_cases e:j=k);(subst e;exact he);(exact hr j aw))⟩;exact dt
 ·rw [Fz hr];refine uD ?_;exact uI
def EK (c:eP) (hc:xB c):tn 50 [] [Cf c] (t2 (qN c)) []:=by
 refine ab func50 ?_;refine .CX 5 (.step ?_);conv=>whnf
 (refine ya (dd ?_))
 refine ⟨ar,_,rfl,dd ?_⟩;refine ah (QF c hc) ?_;refine ⟨fun h1=>?_,fun h1=>?_⟩
 ·have e:qN c=yZ c:=by unfold qN;rw [dQ tG]
  rw [e];refine dd ?_;(refine .inr ⟨aj,uH ?_⟩)
  exact uI
 have h1:(yZ c).1=0:=aq h1
 refine dd ?_;refine .inl ⟨rfl,.step (uH ?_)⟩;(refine ya (dd ?_))
 refine ⟨ar,_,rfl,dd ?_⟩;refine ah (NU c hc) ?_;refine ⟨fun h2=>?_,fun h2=>?_⟩
 ·have e:qN c=j7 (m9 c.zd) c.zd.length:=by unfold qN;rw [dN aD,dQ tT]
  rw [e];refine dd ?_;(refine .inr ⟨aj,uH ?_⟩)
  exact uI
 have h2:(j7 (m9 c.zd) c.zd.length).1=0:=aq h2
 refine dd ?_;refine .inl ⟨rfl,.step (uH ?_)⟩;(refine ya (dd ?_))
 refine ⟨ar,_,rfl,dd ?_⟩;refine ah (Ny c hc) ?_;refine ⟨fun h3=>?_,fun h3=>?_⟩
 ·have e:qN c=j7 (ma c.zk) c.zk.length:=by unfold qN;rw [dN aD,dN bF,dQ (aq h3)]
  rw [e];refine dd ?_;(refine .inr ⟨aj,uH ?_⟩)
  exact uI
 have h3:(j7 (ma c.zk) c.zk.length).1=0:=aq h3
 refine dd ?_;refine .inl ⟨rfl,.step (uH ?_)⟩;(refine ya (dd ?_))
 refine ⟨ar,_,rfl,dd ?_⟩;refine ah (N1 c hc) ?_;refine ⟨fun h4=>?_,fun h4=>?_⟩
 ·have e:qN c=j7 (nr c) c.zP.length:=by unfold qN;rw [dN aD,dN bF,dN bM,dQ (aq h4)]
  rw [e];refine dd ?_;(refine .inr ⟨aj,uH ?_⟩)
  exact uI
 have h4:(j7 (nr c) c.zP.length).1=0:=aq h4
 refine dd ?_;refine .inl ⟨rfl,.step (uH ?_)⟩;(refine yb (dd ?_))
 (refine .inr ⟨aj,uH ?_⟩)
 have e:qN c=(0,0):=by unfold qN;rw [dN aD,dN bF,dN bM,dN (by simp [h4])]
 rw [e];exact uI
def check_sound (c:eP) (hc:y8 c):tn 50 [] [Cf c] (t2 (qN c)) []:=EK c hc.k
def nN (l:List eM) (s:u4):Int:=match l.findIdx? (fun x=>x.name == s) with | some i=>(i:Int) | none=> -1
def nh (c:eM):Bool:=decide (50 < c.zL.length) || decide (100 < c.name.length)
def np (r:lb):Bool:=decide (100 < r.host.length) || decide (100 < r.path.length)
def ia (c:eP):Bool:=decide (50 < c.zd.length) || decide (50 < c.zP.length) || decide (50 < c.zk.length) || c.zk.any nh || c.zP.any np
def Kb (c:eP) (h1:c.zd.length < 4000000000000000000) (h2:c.zP.length < 4000000000000000000) (h3:c.zk.length < 4000000000000000000):tn 20 [] [Cf c] (Bo (ia c)) []:=by
 have m1:(c.zd.map ql).length=c.zd.length:=dR ..;have m2:(c.zP.map wb).length=c.zP.length:=dR ..;have m3:(c.zk.map j6).length=c.zk.length:=dR ..;refine ab func20 ?_;rw [m1];(refine ⟨fun a1=>?_,fun a1=>?_⟩);(focus ((have e:ia c=true:=by (simp at a1;simp [ia];omega));(rw [e]);refine dd ?_;refine tc ?_;exact uI));refine dd ?_
 rw [m2];(refine ⟨fun a2=>?_,fun a2=>?_⟩);(focus ((have e:ia c=true:=by (simp at a2;simp [ia];omega));(rw [e]);refine dd ?_;refine tc ?_;exact uI));refine dd ?_
 rw [m3];(refine ⟨fun a3=>?_,fun a3=>?_⟩);(focus ((have e:ia c=true:=by (simp at a3;simp [ia];omega));(rw [e]);refine dd ?_;refine tc ?_;exact uI));refine dd ?_
 simp at a1 a2 a3;refine zZ.seq c.zk.length (fun k=>(Cf c:: .ref 0 [] 3 0 0::Bo false::I k:: .za::.za::.za::tZ (tZ (tZ (tZ (tZ (tZ (tZ (tZ ([])))))))))) (fun k=>[⟨1,26,3,[mf c],0⟩]) (fun k=>∀ j,(h:j < c.zk.length)->j < k->nh c.zk[j]=false) ?_ aj (fun k hk hr=>?_) (fun hr=>?_)
 ·exact cC
 ·obtain ⟨x,hx⟩:∃ x,x=c.zk[k]:=⟨_,rfl⟩;have hg:(c.zk.map j6)[k]?= some (j6 x):=by rw [dP,dM hk,hx];rfl
  have mh:(x.zL.map vq).length=x.zL.length:=dR ..
  have bad:nh x=true->ia c=true:=fun h=>by
   have:c.zk.any nh=true:=pH.2 ⟨x,bN,h⟩;simp [ia,this]
  have no:nh x=false->∀ i,(h:i < c.zk.length)->i < k+1->nh c.zk[i]=false:=fun h6 i hi hij=>by
   by_cases e:i=k
   ·subst e;rw [<- hx];exact h6
   ·exact hr i hi aw
  conv=>whnf
  rw [m3];refine uF ?_;(refine td hg ?_)
  rw [mh];refine ⟨fun b1=>?_,fun b1=>?_⟩
  ·rw [bad (by simp at b1;simp [nh];omega)];refine dd ?_;refine tc ?_
   (refine .inr ⟨aj,uH ?_⟩)
   exact uI
  refine dd ?_;(refine td hg ?_)
  refine ⟨fun b2=>?_,fun b2=>?_⟩
  ·rw [bad (by simp at b2;simp [nh];omega)];refine dd ?_;(refine .inr ⟨aj,uH ?_⟩)
   exact uI
  refine dd ?_;refine .inl ⟨rfl,?_,no (by simp at b1 b2;simp [nh];omega)⟩;exact dt
 ·have hno:c.zk.any nh=false:=by
   rw [gP];intro x hx;obtain ⟨i,hi,rfl⟩:=pa.1 hx;simp [hr i hi hi]
  conv=>whnf
  rw [m3];refine ⟨fun h=>absurd h aj,fun _=>dd ?_⟩;refine ⟨aj,uH ?_⟩;refine zZ.seq c.zP.length (fun k=>(Cf c:: .ref 0 [] 3 0 0::Bo false:: .za::I k:: .za::.za::tZ (tZ (tZ (tZ (tZ (tZ (tZ (tZ ([])))))))))) (fun k=>[⟨1,26,3,[mf c],0⟩]) (fun k=>∀ j,(h:j < c.zP.length)->j < k->np c.zP[j]=false) ?_ aj (fun k hk hr=>?_) (fun hr=>?_)
  ·exact cC
  ·obtain ⟨x,hx⟩:∃ x,x=c.zP[k]:=⟨_,rfl⟩;have hg:(c.zP.map wb)[k]?= some (wb x):=by rw [dP,dM hk,hx];rfl
   have bad:np x=true->ia c=true:=fun h=>by
    have:c.zP.any np=true:=pH.2 ⟨x,bN,h⟩;simp [ia,this]
   have no:np x=false->∀ i,(h:i < c.zP.length)->i < k+1->np c.zP[i]=false:=fun h6 i hi hij=>by
    by_cases e:i=k
    ·subst e;rw [<- hx];exact h6
    ·exact hr i hi aw
   conv=>whnf
   rw [m2];refine uF ?_;(refine td hg ?_)
   refine ⟨fun b1=>?_,fun b1=>?_⟩
   ·rw [bad (by simp at b1;simp [np];omega)];refine dd ?_;refine tc ?_
    (refine .inr ⟨aj,uH ?_⟩)
    exact uI
   refine dd ?_;(refine td hg ?_)
   refine ⟨fun b2=>?_,fun b2=>?_⟩
   ·rw [bad (by simp at b2;simp [np];omega)];refine dd ?_;(refine .inr ⟨aj,uH ?_⟩)
    exact uI
   refine dd ?_;refine .inl ⟨rfl,?_,no (by simp at b1 b2;simp [np];omega)⟩;exact dt
  ·have hno2:c.zP.any np=false:=by
    rw [gP];intro x hx;obtain ⟨i,hi,rfl⟩:=pa.1 hx;simp [hr i hi hi]
   conv=>whnf
   rw [m2];refine ⟨fun h=>absurd h aj,fun _=>dd ?_⟩;refine ⟨aj,uH ?_⟩;have e:ia c=false:=by simp [ia,hno,hno2];omega
   rw [e];exact uI
end Go.Con
