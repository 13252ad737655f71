import Derived.Test.YtgllekalddijbaaGreatTD
import Derived.Test.YtgllekalddijbaaGreatTC
set_option linter.unusedVariables false
set_option linter.unusedSimpArgs false
set_option linter.unusedSectionVars false
set_option maxRecDepth 100000
set_option maxHeartbeats 4000000
namespace Go.Con
open Go.Ab Go.Proofs Go.Hy Go.Gat Go.Nam Go.Hos
def qI (f:Nat->Int) (n:Nat):Int × Int:=match (List.range n).find? fun i=>f i != 0 with
 | some i=>(f i,i)
 | none=>(0,0)
theorem qE {f:Nat->Int} {n k:Nat} {e:Int} (hk:k < n) (hr:∀ j,j < k->f j=0) (h:f k=e) (he:e≠0):qI f n=(e,(k:Int)):=by
 unfold qI
 have:(List.range n).find? (fun i=>f i != 0)=some k:=by
  rw [List.find?_range_eq_some]
  exact ⟨by simp [h,he],by simpa using hk,fun j hj=>by simp [hr j hj]⟩
 rw [this]
 simp [h]
theorem za0 {f:Nat->Int} {n:Nat} (hr:∀ j,j < n->f j=0):qI f n=(0,0):=by
 unfold qI
 have:(List.range n).find? (fun i=>f i != 0)=none:=by
  rw [List.find?_range_eq_none]
  intro i hi
  simp [hr i hi]
 rw [this]
def ze0 (l:List Str) (i:Nat):Int:=match l[i]? with
 | none=>0
 | some s=>if jG s=false then 3 else if (l.take i).any (fun x=>x == s) then 4 else 0
def zcs (l:List Clu) (i:Nat):Int:=match l[i]? with
 | none=>0
 | some c=>if jG c.name=false then 3 else if vM (l.take i) c.name then 4 else if c.j6≠1∧c.j6≠2 then 9 else if (decide (1<=c.jR) && decide (c.jR<=4))=false then 10
   else if (decide (1<=(c.zV.length:Int)) && decide ((c.zV.length:Int)<=4))=false then 6 else 0
def wE (a b:Rou):Bool:=a.listen == b.listen && a.host == b.host && a.path == b.path
def zb3 (c:Cfg) (i:Nat):Int:=match c.zp[i]? with
 | none=>0
 | some r=>if c.zc.any (fun x=>x == r.listen)=false then 5 else if zb2 r.host=false then 7 else if vr r.path=false then 8 else if vM c.zf r.zl=false then 5
   else if (c.zp.take i).any (fun q=>wE q r) then 4 else 0
def xg (c:Cfg):Int × Int:=
 if ((decide (1<=(c.zc.length:Int)) && decide ((c.zc.length:Int)<=4))=false∨(decide (1<=(c.zp.length:Int)) && decide ((c.zp.length:Int)<=8))=false)∨(decide (1<=(c.zf.length:Int)) && decide ((c.zf.length:Int)<=4))=false then (6,0) else (0,0)
def zY (c:Cfg):Int × Int:=
 if (xg c).1≠0 then xg c else if (qI (ze0 c.zc) c.zc.length).1≠0 then qI (ze0 c.zc) c.zc.length
 else if (qI (zcs c.zf) c.zf.length).1≠0 then qI (zcs c.zf) c.zf.length
 else if (qI (zb3 c) c.zp.length).1≠0 then qI (zb3 c) c.zp.length else (0,0)
abbrev t2 (r:Int × Int):C:=.tup [I r.1,I r.2]
abbrev Cf (c:Cfg):C:=.agg (vB c)
structure jF (c:Cfg):Prop where
 zc:c.zc.length < 1000000000000∧∀ s ∈ c.zc,s.length < 4000000000000000000
 zp:c.zp.length < 1000000000000∧∀ r ∈ c.zp,r.listen.length < 4000000000000000000∧r.host.length < 1000000000000∧r.path.length < 1000000000000∧r.zl.length < 4000000000000000000
 zf:c.zf.length < 1000000000000∧∀ x ∈ c.zf,x.name.length < 4000000000000000000∧x.zV.length < 4000000000000000000
structure xU (c:Cfg):Prop where
 zc:c.zc.length < 1000000000000000∧∀ s ∈ c.zc,s.length < 4000000000000000000
 zp:c.zp.length < 1000000000000000∧∀ r ∈ c.zp,r.listen.length < 4000000000000000000∧r.host.length < 1000000000000000∧r.path.length < 1000000000000000∧r.zl.length < 4000000000000000000
 zf:c.zf.length < 1000000000000000∧∀ x ∈ c.zf,x.name.length < 4000000000000000000∧x.zV.length < 4000000000000000000
theorem jF.k {c:Cfg} (h:jF c):xU c:=
 ⟨⟨by have:=h.zc.1;omega,h.zc.2⟩,⟨by have:=h.zp.1;omega,fun r hr=>by have:=h.zp.2 r hr;omega⟩,⟨by have:=h.zf.1;omega,h.zf.2⟩⟩
theorem zhR (c:Cfg) (hc:xU c):zb Tryz.prog 175 [] [Cf c] (t2 (xg c)) []:=by
 have m1:(c.zc.map qA).length=c.zc.length:=List.length_map ..
 have m2:(c.zp.map yp).length=c.zp.length:=List.length_map ..
 have m3:(c.zf.map jJ).length=c.zf.length:=List.length_map ..
 refine zb.zk (fn:=Tryz.f175) Tryz.func175 rfl ?_
 conv=>whnf
 rw [m1]
 refine ⟨_,_,(jw _ _ _).frame rfl _,?_⟩;refine dd ?_
 refine ⟨fun h1=>?_,fun h1=>?_⟩
 ·refine dd ?_
  (repeat ((first | apply ya | apply yb);refine dd ?_))
  rw [m2]
  refine ⟨_,_,(jw _ _ _).frame rfl _,?_⟩;refine dd ?_
  refine ⟨fun h2=>?_,fun h2=>?_⟩
  ·refine dd ?_
   (repeat ((first | apply ya | apply yb);refine dd ?_))
   rw [m3]
   refine ⟨_,_,(jw _ _ _).frame rfl _,?_⟩;refine dd ?_
   refine ⟨fun h3=>?_,fun h3=>?_⟩
   ·refine dd ?_
    (repeat ((first | apply ya | apply yb);refine dd ?_))
    have e:xg c=(0,0):=by unfold xg;rw [if_neg];simp only [h1,h2,h3];simp
    rw [e]
    exact ⟨.inl rfl,_,.refl _,rfl⟩
   ·refine dd ?_
    (repeat ((first | apply ya | apply yb);refine dd ?_))
    have e:xg c=(6,0):=by unfold xg;rw [if_pos (.inr h3)]
    rw [e]
    exact ⟨.inl rfl,_,.refl _,rfl⟩
  ·refine dd ?_
   (repeat ((first | apply ya | apply yb);refine dd ?_))
   have e:xg c=(6,0):=by unfold xg;rw [if_pos (.inl (.inr h2))]
   rw [e]
   exact ⟨.inl rfl,_,.refl _,rfl⟩
 ·refine dd ?_
  (repeat ((first | apply ya | apply yb);refine dd ?_))
  have e:xg c=(6,0):=by unfold xg;rw [if_pos (.inl (.inl h1))]
  rw [e]
  exact ⟨.inl rfl,_,.refl _,rfl⟩
theorem zdz (c:Cfg) (hc:xU c):zb Tryz.prog 176 [] [Cf c] (t2 (qI (ze0 c.zc) c.zc.length)) []:=by
 have m1:(c.zc.map qA).length=c.zc.length:=List.length_map ..
 have hl:=hc.zc.1
 refine zb.zk (fn:=Tryz.f176) Tryz.func176 rfl ?_
 conv=>whnf
 rw [m1]
 refine zH.seq c.zc.length (fun k=>[Cf c,.ref 0 [] 3 0 0,I 0,I 0,.za,.za,.za,.za,lT c.zc,I c.zc.length,I k,.za,.za,.za,.za,.za,.za,.za,.za,.za,.za,.za,.za,.za,.za,.za,.za,.za,.za,.za]) (fun k=>[⟨1,221,3,[vB c],0⟩]) (fun k=>∀ j,j < k->ze0 c.zc j=0) ?_ (by simp) (fun k hk hr=>?_) (fun hr=>?_)
 ·exact cC
 ·have hg:(c.zc.map qA)[k]?= some (qA c.zc[k]):=by rw [List.getElem?_map,List.getElem?_eq_getElem hk];rfl
  have hs:=hc.zc.2 _ (List.getElem_mem hk)
  have he:ze0 c.zc k=if jG c.zc[k]=false then 3 else if (c.zc.take k).any (fun x=>x == c.zc[k]) then 4 else 0:=by
   unfold ze0;rw [List.getElem?_eq_getElem hk]
  conv=>whnf
  refine ⟨fun _=>?_,fun h=>absurd h (by simp;omega)⟩
  refine dd ?_
  refine ⟨by omega,_,by rw [toNat_cast];exact hg,?_⟩
  refine dd ?_
  refine ⟨_,_,(ju c.zc[k] (by omega)).frame rfl _,?_⟩;refine dd ?_
  refine ⟨fun h2=>?_,fun h2=>?_⟩
  ·refine dd ?_
   (repeat ((first | apply ya | apply yb);refine dd ?_))
   (refine ⟨.inr rfl,?_⟩);refine dd ?_;(refine ⟨by omega,Nat.zero_le _,by rw [m1];omega,?_⟩);refine dd ?_;(rw [List.drop_zero,Nat.sub_zero,toNat_cast,<- List.map_take])
   refine ⟨_,_,(vA (c.zc.take k) c.zc[k] (by simp;omega)).frame rfl _,?_⟩;refine dd ?_
   refine ⟨fun h3=>?_,fun h3=>?_⟩
   ·refine dd ?_
    rw [qE hk hr (by rw [he,if_neg (by simp [h2]),if_pos h3]) (by decide)]
    refine .inr ⟨by simp,?_⟩
    conv=>whnf
    exact ⟨.inl rfl,_,.refl _,rfl⟩
   ·refine dd ?_
    refine .inl ⟨rfl,?_,(fun j hj=>by (by_cases e:j=k);(subst e;exact (by rw [he,if_neg (by simp [h2]),if_neg (by simp [h3])]));(exact hr j (by omega)))⟩
    rw [zo (by omega)]
    exact cE 1
  ·refine dd ?_
   (repeat ((first | apply ya | apply yb);refine dd ?_))
   rw [qE hk hr (by rw [he,if_pos h2]) (by decide)]
   refine .inr ⟨by simp,?_⟩
   conv=>whnf
   exact ⟨.inl rfl,_,.refl _,rfl⟩
 ·rw [za0 hr]
  (conv=>whnf);(refine ⟨fun h=>absurd h (by simp),fun _=>?_⟩);refine dd ?_;(refine ⟨by simp,?_⟩);(conv=>whnf)
  exact ⟨.inl rfl,_,.refl _,rfl⟩
theorem zct (c:Cfg) (hc:xU c):zb Tryz.prog 177 [] [Cf c] (t2 (qI (zcs c.zf) c.zf.length)) []:=by
 have m1:(c.zf.map jJ).length=c.zf.length:=List.length_map ..
 have hl:=hc.zf.1
 refine zb.zk (fn:=Tryz.f177) Tryz.func177 rfl ?_
 conv=>whnf
 rw [m1]
 refine zH.seq c.zf.length (fun k=>[Cf c,.ref 0 [] 3 0 0,I 0,I 0,.za,.za,.za,.za,lC c.zf,I c.zf.length,I k,.za,.za,.za,.za,.za,.za,.za,.za,.za,.za,.za,.za,.za,.za,.za,.za,.za,.za,.za,.za,.za,.za,.za,.za,.za,.za,.za,.za,.za,.za,.za,.za,.za,.za,.za,.za,.za,.za,.za,.za,.za,.za,.za,.za]) (fun k=>[⟨1,221,3,[vB c],0⟩]) (fun k=>∀ j,j < k->zcs c.zf j=0) ?_ (by simp) (fun k hk hr=>?_) (fun hr=>?_)
 ·exact cC
 ·obtain ⟨x,hx⟩:∃ x,x=c.zf[k]:=⟨_,rfl⟩
  have hg:(c.zf.map jJ)[k]?= some (jJ x):=by rw [List.getElem?_map,List.getElem?_eq_getElem hk,hx];rfl
  have hs:=hc.zf.2 x (by rw [hx];exact List.getElem_mem hk)
  have he:zcs c.zf k=if jG x.name=false then 3 else if vM (c.zf.take k) x.name then 4 else if x.j6≠1∧x.j6≠2 then 9 else if (decide (1<=x.jR) && decide (x.jR<=4))=false then 10
    else if (decide (1<=(x.zV.length:Int)) && decide ((x.zV.length:Int)<=4))=false then 6 else 0:=by
   unfold zcs;rw [List.getElem?_eq_getElem hk,hx]
  have mh:(x.zV.map yK).length=x.zV.length:=List.length_map ..
  conv=>whnf
  refine ⟨fun _=>?_,fun h=>absurd h (by simp;omega)⟩
  refine dd ?_
  refine ⟨by omega,_,by rw [toNat_cast];exact hg,?_⟩
  refine dd ?_
  refine ⟨_,_,(ju x.name (by omega)).frame rfl _,?_⟩;refine dd ?_
  refine ⟨fun h2=>?_,fun h2=>?_⟩
  ·refine dd ?_
   (repeat ((first | apply ya | apply yb);refine dd ?_))
   refine .inl ⟨⟨false,[2,6,7],[0,1],[]⟩,by kernel_rfl,?_⟩;(conv=>whnf)
   (refine ⟨.inr rfl,?_⟩);refine dd ?_;(refine ⟨by omega,Nat.zero_le _,by rw [m1];omega,?_⟩);refine dd ?_;(rw [List.drop_zero,Nat.sub_zero,toNat_cast,<- List.map_take])
   refine ⟨Bo (vM (c.zf.take k) x.name),fun H2=>(zbE (c.zf.take k) x.name (by simp;omega)).frame rfl H2,?_⟩
   refine dd ?_
   refine ⟨fun h3=>?_,fun h3=>?_⟩
   ·refine dd ?_
    rw [qE hk hr (by rw [he,if_neg (by simp [h2]),if_pos h3]) (by decide)]
    (refine .inr ⟨by simp,?_⟩);(conv=>whnf)
    exact ⟨.inl rfl,_,.refl _,rfl⟩
   ·have he:=he.trans ((if_neg (by simp [h2])).trans (if_neg (by simp [h3])))
    refine dd ?_
    refine ⟨fun h4=>?_,fun h4=>?_⟩
    ·have h4:x.j6≠1:=by simpa using h4
     refine dd ?_
     refine ⟨fun h5=>?_,fun h5=>?_⟩
     ·have h5:x.j6≠2:=by simpa using h5
      refine dd ?_
      rw [qE hk hr (by rw [he,if_pos ⟨h4,h5⟩]) (by decide)]
      (refine .inr ⟨by simp,?_⟩);(conv=>whnf)
      exact ⟨.inl rfl,_,.refl _,rfl⟩
     ·have h5:x.j6=2:=by simpa using h5
      have he:=he.trans (if_neg (fun h=>h.2 h5))
      refine dd ?_
      refine ⟨_,_,(jw _ _ _).frame rfl _,?_⟩;refine dd ?_;(refine ⟨fun h6=>?_,fun h6=>?_⟩);rotate_left;(focus (refine dd ?_;(repeat ((first | apply ya | apply yb);refine dd ?_));(rw [qE hk hr (by rw [he,if_pos h6]) (by decide)]);(refine .inr ⟨by simp,?_⟩);(conv=>whnf);exact ⟨.inl rfl,_,.refl _,rfl⟩));(have he:=he.trans (if_neg (by simp only [h6];decide)));refine dd ?_;(repeat ((first | apply ya | apply yb);refine dd ?_));(rw [mh]);refine ⟨_,_,(jw _ _ _).frame rfl _,?_⟩;refine dd ?_;(refine ⟨fun h7=>?_,fun h7=>?_⟩);rotate_left;(focus (refine dd ?_;(repeat ((first | apply ya | apply yb);refine dd ?_));(rw [qE hk hr (by rw [he,if_pos h7]) (by decide)]);(refine .inr ⟨by simp,?_⟩);(conv=>whnf);exact ⟨.inl rfl,_,.refl _,rfl⟩));(have he:=he.trans (if_neg (by simp only [h7];decide)));refine dd ?_;(repeat ((first | apply ya | apply yb);refine dd ?_));(refine .inl ⟨rfl,?_,(fun j hj=>by (by_cases e:j=k);(subst e;exact he);(exact hr j (by omega)))⟩);(rw [zo (by omega)]);exact cE 1
    ·have h4:x.j6=1:=by simpa using h4
     have he:=he.trans (if_neg (fun h=>h.1 h4))
     refine dd ?_
     refine ⟨_,_,(jw _ _ _).frame rfl _,?_⟩;refine dd ?_;(refine ⟨fun h6=>?_,fun h6=>?_⟩);rotate_left;(focus (refine dd ?_;(repeat ((first | apply ya | apply yb);refine dd ?_));(rw [qE hk hr (by rw [he,if_pos h6]) (by decide)]);(refine .inr ⟨by simp,?_⟩);(conv=>whnf);exact ⟨.inl rfl,_,.refl _,rfl⟩));(have he:=he.trans (if_neg (by simp only [h6];decide)));refine dd ?_;(repeat ((first | apply ya | apply yb);refine dd ?_));(rw [mh]);refine ⟨_,_,(jw _ _ _).frame rfl _,?_⟩;refine dd ?_;(refine ⟨fun h7=>?_,fun h7=>?_⟩);rotate_left;(focus (refine dd ?_;(repeat ((first | apply ya | apply yb);refine dd ?_));(rw [qE hk hr (by rw [he,if_pos h7]) (by decide)]);(refine .inr ⟨by simp,?_⟩);(conv=>whnf);exact ⟨.inl rfl,_,.refl _,rfl⟩));(have he:=he.trans (if_neg (by simp only [h7];decide)));refine dd ?_;(repeat ((first | apply ya | apply yb);refine dd ?_));(refine .inl ⟨rfl,?_,(fun j hj=>by (by_cases e:j=k);(subst e;exact he);(exact hr j (by omega)))⟩);(rw [zo (by omega)]);exact cE 1
  ·refine dd ?_
   (repeat ((first | apply ya | apply yb);refine dd ?_))
   rw [qE hk hr (by rw [he,if_pos h2]) (by decide)]
   refine .inr ⟨by simp,?_⟩
   conv=>whnf
   exact ⟨.inl rfl,_,.refl _,rfl⟩
 ·rw [za0 hr]
  (conv=>whnf);(refine ⟨fun h=>absurd h (by simp),fun _=>?_⟩);refine dd ?_;(refine ⟨by simp,?_⟩);(conv=>whnf)
  exact ⟨.inl rfl,_,.refl _,rfl⟩
theorem zfm (c:Cfg) (hc:xU c):zb Tryz.prog 178 [] [Cf c] (t2 (qI (zb3 c) c.zp.length)) []:=by
 have m1:(c.zp.map yp).length=c.zp.length:=List.length_map ..
 have hl:=hc.zp.1
 have hl1:=hc.zc.1
 have hl2:=hc.zf.1
 refine zb.zk (fn:=Tryz.f178) Tryz.func178 rfl ?_
 conv=>whnf
 rw [m1]
 refine zH.seq c.zp.length (fun k=>(Cf c:: .ref 0 [] 3 0 0::I 0::I 0:: .za::.za::.za::.za::.za::.za::lO c.zp::I c.zp.length::I k:: .za::.za::.za::.za::.za::.za::.za::.za::.za::.za::.za::.za::.za::.za::.za::.za::.za::.za::.za::.za::.za::.za::.za::.za::.za::.za::.za::.za::.za::.za::.za::.za::.za::.za::.za::.za::.za::.za::.za::.za::.za::.za::.za::.za::.za::.za::.za::.za::.za::.za::.za::.za::[])) (fun k=>[⟨1,221,3,[vB c],0⟩]) (fun k=>∀ j,j < k->zb3 c j=0) ?_ (by simp) (fun k hk hr=>?_) (fun hr=>?_)
 ·exact cC
 ·obtain ⟨r,hx⟩:∃ r,r=c.zp[k]:=⟨_,rfl⟩
  have hg:(c.zp.map yp)[k]?= some (yp r):=by rw [List.getElem?_map,List.getElem?_eq_getElem hk,hx];rfl
  have hs:=hc.zp.2 r (by rw [hx];exact List.getElem_mem hk)
  have he:zb3 c k=if c.zc.any (fun x=>x == r.listen)=false then 5 else if zb2 r.host=false then 7 else if vr r.path=false then 8 else if vM c.zf r.zl=false then 5
    else if (c.zp.take k).any (fun q=>wE q r) then 4 else 0:=by
   unfold zb3;rw [List.getElem?_eq_getElem hk,hx]
  have m2:((c.zp.take k).map yp).length=k:=by simp;omega
  have hlk:(c.zp.take k).length=k:=by simp;omega
  conv=>whnf
  (refine ⟨fun _=>?_,fun h=>absurd h (by simp;omega)⟩);refine dd ?_
  (refine ⟨by omega,_,by rw [toNat_cast];exact hg,?_⟩);refine dd ?_
  refine ⟨_,_,(vA c.zc r.listen (by omega)).frame rfl _,?_⟩;refine dd ?_
  refine ⟨fun h2=>?_,fun h2=>?_⟩
  rotate_left
  ·refine dd ?_
   (repeat ((first | apply ya | apply yb);refine dd ?_))
   rw [qE hk hr (by rw [he,if_pos h2]) (by decide)]
   (refine .inr ⟨by simp,?_⟩);(conv=>whnf)
   exact ⟨.inl rfl,_,.refl _,rfl⟩
  have he:=he.trans (if_neg (by simp [h2]))
  refine dd ?_
  (repeat ((first | apply ya | apply yb);refine dd ?_))
  refine ⟨_,_,(zdC r.host (by omega)).frame rfl _,?_⟩;refine dd ?_
  refine ⟨fun h3=>?_,fun h3=>?_⟩
  rotate_left
  ·refine dd ?_
   (repeat ((first | apply ya | apply yb);refine dd ?_))
   rw [qE hk hr (by rw [he,if_pos h3]) (by decide)]
   (refine .inr ⟨by simp,?_⟩);(conv=>whnf)
   exact ⟨.inl rfl,_,.refl _,rfl⟩
  have he:=he.trans (if_neg (by simp [h3]))
  refine dd ?_
  (repeat ((first | apply ya | apply yb);refine dd ?_))
  refine ⟨_,_,(zhF r.path (by omega)).frame rfl _,?_⟩;refine dd ?_
  refine ⟨fun h4=>?_,fun h4=>?_⟩
  rotate_left
  ·refine dd ?_
   (repeat ((first | apply ya | apply yb);refine dd ?_))
   rw [qE hk hr (by rw [he,if_pos h4]) (by decide)]
   (refine .inr ⟨by simp,?_⟩);(conv=>whnf)
   exact ⟨.inl rfl,_,.refl _,rfl⟩
  have he:=he.trans (if_neg (by simp [h4]))
  refine dd ?_
  (repeat ((first | apply ya | apply yb);refine dd ?_))
  refine ⟨_,_,(zbE c.zf r.zl (by omega)).frame rfl _,?_⟩;refine dd ?_
  refine ⟨fun h5=>?_,fun h5=>?_⟩
  rotate_left
  ·refine dd ?_
   (repeat ((first | apply ya | apply yb);refine dd ?_))
   rw [qE hk hr (by rw [he,if_pos h5]) (by decide)]
   (refine .inr ⟨by simp,?_⟩);(conv=>whnf)
   exact ⟨.inl rfl,_,.refl _,rfl⟩
  have he:=he.trans (if_neg (by simp [h5]))
  refine dd ?_
  (repeat ((first | apply ya | apply yb);refine dd ?_))
  (refine ⟨.inr rfl,?_⟩);refine dd ?_;(refine ⟨by omega,Nat.zero_le _,by rw [m1];omega,?_⟩);refine dd ?_;(rw [List.drop_zero,Nat.sub_zero,toNat_cast,<- List.map_take])
  rw [m2]
  refine zH.seq k (fun j=>(Cf c:: .ref 0 [] 3 0 0::I 0::I 0::I k:: .ref 1 [] 4 0 0:: .za::.za::.za::.za::lO c.zp::I c.zp.length::I k:: .za::.za::.za::.za::.za::.za::.za::.za::.za::.za::.za::.za::.za::.za::.za::.za::.za::.za::.za::.za::.za::.za::.za::.za::.za::.za::.za::.za::.za::.za::.za::.za::.za::.za::.za::.za::.za::.za::.za::lO (c.zp.take k)::I k::I j:: .za::.za::.za::.za::.za::.za::.za::.za::.za::.za::[])) (fun j=>[⟨1,221,3,[vB c],0⟩,⟨1,150,4,[[Tx r.listen,Tx r.host,Tx r.path,Tx []]],0⟩]) (fun j=>∀ i,(h:i < c.zp.length)->i < j->wE c.zp[i] r=false) ?_ (by simp) (fun j hj hrj=>?_) (fun hrj=>?_)
  ·exact cC
  ·obtain ⟨q,hq⟩:∃ q,q=c.zp[j]:=⟨_,rfl⟩
   have hgq:((c.zp.take k).map yp)[j]?= some (yp q):=by rw [List.getElem?_map,List.getElem?_eq_getElem (by omega),hq,List.getElem_take];rfl
   conv=>whnf
   (refine ⟨fun _=>?_,fun h=>absurd h (by simp;omega)⟩);refine dd ?_
   (refine ⟨by omega,_,by rw [toNat_cast];exact hgq,?_⟩);refine dd ?_
   refine ⟨by kernel_rfl,?_⟩
   refine dd ?_
   refine ⟨fun h6=>?_,fun h6=>?_⟩
   ·have h6:wE q r=true:=by simp at h6;simp [wE,h6]
    have ha:(c.zp.take k).any (fun q=>wE q r)=true:=by
     rw [List.any_eq_true]
     exact ⟨q,by rw [hq,List.mem_iff_getElem];exact ⟨j,by omega,List.getElem_take⟩,h6⟩
    refine dd ?_
    rw [qE hk hr (by rw [he,if_pos ha]) (by decide)]
    (refine .inr ⟨by simp,?_⟩);(conv=>whnf)
    refine .inr ⟨by simp,?_⟩
    conv=>whnf
    exact ⟨.inl rfl,_,.refl _,rfl⟩
   ·have h6:wE q r=false:=by
     cases hs:wE q r with
     | false=>rfl
     | true=>simp [wE] at hs;simp [hs] at h6
    refine dd ?_
    refine .inl ⟨rfl,?_,fun i hi hij=>?_⟩
    ·rw [zo (by omega)]
     exact cE 2
    ·by_cases e:i=j
     ·subst e;rw [<- hq];exact h6
     ·exact hrj i hi (by omega)
  ·have ha:(c.zp.take k).any (fun q=>wE q r)=false:=by
    rw [List.any_eq_false]
    intro q hq
    obtain ⟨i,hi,rfl⟩:=List.mem_iff_getElem.1 hq
    rw [List.getElem_take]
    simp [hrj i (by omega) (by omega)]
   have he:=he.trans (if_neg (by simp [ha]))
   (conv=>whnf);(refine ⟨fun h=>absurd h (by simp),fun _=>?_⟩);refine dd ?_;(refine ⟨by simp,?_⟩);(conv=>whnf)
   refine .inl ⟨rfl,?_,(fun j hj=>by (by_cases e:j=k);(subst e;exact he);(exact hr j (by omega)))⟩
   rw [zo (by omega)]
   exact cE 1
 ·rw [za0 hr]
  (conv=>whnf);(refine ⟨fun h=>absurd h (by simp),fun _=>?_⟩);refine dd ?_;(refine ⟨by simp,?_⟩);(conv=>whnf)
  exact ⟨.inl rfl,_,.refl _,rfl⟩
theorem zak (c:Cfg) (hc:xU c):zb Tryz.prog 126 [] [Cf c] (t2 (zY c)) []:=by
 refine zb.zk (fn:=Tryz.f126) Tryz.func126 rfl ?_
 conv=>whnf
 refine .ofN 5 (.step ?_)
 conv=>whnf
 (refine ⟨fun _=>?_,fun h=>absurd (h.symm.trans rfl:false=true) (by decide)⟩);refine dd ?_
 refine ⟨by decide,_,rfl,?_⟩
 refine dd ?_
 refine ⟨_,_,(zhR c hc).frame rfl _,?_⟩;refine dd ?_
 refine ⟨fun h1=>?_,fun h1=>?_⟩
 ·have e:zY c=xg c:=by unfold zY;rw [if_pos (by simpa using h1)]
  rw [e]
  refine dd ?_
  (refine .inr ⟨by simp,?_⟩);(conv=>whnf)
  exact ⟨.inl rfl,_,.refl _,rfl⟩
 have h1:(xg c).1=0:=by simpa using h1
 refine dd ?_
 refine .inl ⟨rfl,.step ?_⟩
 conv=>whnf
 (refine ⟨fun _=>?_,fun h=>absurd (h.symm.trans rfl:false=true) (by decide)⟩);refine dd ?_
 refine ⟨by decide,_,rfl,?_⟩
 refine dd ?_
 refine ⟨_,_,(zdz c hc).frame rfl _,?_⟩;refine dd ?_
 refine ⟨fun h2=>?_,fun h2=>?_⟩
 ·have e:zY c=qI (ze0 c.zc) c.zc.length:=by unfold zY;rw [if_neg (by simp [h1]),if_pos (by simpa using h2)]
  rw [e]
  refine dd ?_
  (refine .inr ⟨by simp,?_⟩);(conv=>whnf)
  exact ⟨.inl rfl,_,.refl _,rfl⟩
 have h2:(qI (ze0 c.zc) c.zc.length).1=0:=by simpa using h2
 refine dd ?_
 refine .inl ⟨rfl,.step ?_⟩
 conv=>whnf
 (refine ⟨fun _=>?_,fun h=>absurd (h.symm.trans rfl:false=true) (by decide)⟩);refine dd ?_
 refine ⟨by decide,_,rfl,?_⟩
 refine dd ?_
 refine ⟨_,_,(zct c hc).frame rfl _,?_⟩;refine dd ?_
 refine ⟨fun h3=>?_,fun h3=>?_⟩
 ·have e:zY c=qI (zcs c.zf) c.zf.length:=by unfold zY;rw [if_neg (by simp [h1]),if_neg (by simp [h2]),if_pos (by simpa using h3)]
  rw [e]
  refine dd ?_
  (refine .inr ⟨by simp,?_⟩);(conv=>whnf)
  exact ⟨.inl rfl,_,.refl _,rfl⟩
 have h3:(qI (zcs c.zf) c.zf.length).1=0:=by simpa using h3
 refine dd ?_
 refine .inl ⟨rfl,.step ?_⟩
 conv=>whnf
 (refine ⟨fun _=>?_,fun h=>absurd (h.symm.trans rfl:false=true) (by decide)⟩);refine dd ?_
 refine ⟨by decide,_,rfl,?_⟩
 refine dd ?_
 refine ⟨_,_,(zfm c hc).frame rfl _,?_⟩;refine dd ?_
 refine ⟨fun h4=>?_,fun h4=>?_⟩
 ·have e:zY c=qI (zb3 c) c.zp.length:=by unfold zY;rw [if_neg (by simp [h1]),if_neg (by simp [h2]),if_neg (by simp [h3]),if_pos (by simpa using h4)]
  rw [e]
  refine dd ?_
  (refine .inr ⟨by simp,?_⟩);(conv=>whnf)
  exact ⟨.inl rfl,_,.refl _,rfl⟩
 have h4:(qI (zb3 c) c.zp.length).1=0:=by simpa using h4
 refine dd ?_
 refine .inl ⟨rfl,.step ?_⟩
 conv=>whnf
 (refine ⟨fun h=>absurd (h.symm.trans rfl:true=false) (by decide),fun _=>?_⟩);refine dd ?_
 (refine .inr ⟨by simp,?_⟩);(conv=>whnf)
 have e:zY c=(0,0):=by unfold zY;rw [if_neg (by simp [h1]),if_neg (by simp [h2]),if_neg (by simp [h3]),if_neg (by simp [h4])]
 rw [e]
 exact ⟨.inl rfl,_,.refl _,rfl⟩
theorem check_sound (c:Cfg) (hc:jF c):zb Tryz.prog 126 [] [Cf c] (t2 (zY c)) []:=zak c hc.k
end Go.Con
namespace Go.Con
open Go.Ab Go.Proofs Go.Hy Go.Gat Go.Nam Go.Hos
def zdy (l:List Clu) (s:Str):Int:=match l.findIdx? (fun x=>x.name == s) with | some i=>(i:Int) | none=> -1
def zds (c:Clu):Bool:=decide (50 < c.zV.length) || decide (100 < c.name.length)
def zdE (r:Rou):Bool:=decide (100 < r.host.length) || decide (100 < r.path.length)
def wK (c:Cfg):Bool:=decide (50 < c.zc.length) || decide (50 < c.zp.length) || decide (50 < c.zf.length) || c.zf.any zds || c.zp.any zdE
theorem zdO (c:Cfg) (h1:c.zc.length < 4000000000000000000) (h2:c.zp.length < 4000000000000000000) (h3:c.zf.length < 4000000000000000000):zb Tryz.prog 43 [] [Cf c] (Bo (wK c)) []:=by
 have m1:(c.zc.map qA).length=c.zc.length:=List.length_map ..
 have m2:(c.zp.map yp).length=c.zp.length:=List.length_map ..
 have m3:(c.zf.map jJ).length=c.zf.length:=List.length_map ..
 refine zb.zk (fn:=Tryz.f43) Tryz.func43 rfl ?_
 conv=>whnf
 rw [m1]
 (refine ⟨fun a1=>?_,fun a1=>?_⟩);(focus ((have e:wK c=true:=by (simp at a1;simp [wK];omega));(rw [e]);refine dd ?_;(try (repeat ((first | apply ya | apply yb);refine dd ?_)));exact ⟨.inl rfl,_,.refl _,rfl⟩));refine dd ?_
 rw [m2]
 (refine ⟨fun a2=>?_,fun a2=>?_⟩);(focus ((have e:wK c=true:=by (simp at a2;simp [wK];omega));(rw [e]);refine dd ?_;(try (repeat ((first | apply ya | apply yb);refine dd ?_)));exact ⟨.inl rfl,_,.refl _,rfl⟩));refine dd ?_
 rw [m3]
 (refine ⟨fun a3=>?_,fun a3=>?_⟩);(focus ((have e:wK c=true:=by (simp at a3;simp [wK];omega));(rw [e]);refine dd ?_;(try (repeat ((first | apply ya | apply yb);refine dd ?_)));exact ⟨.inl rfl,_,.refl _,rfl⟩));refine dd ?_
 simp at a1 a2 a3
 refine zH.seq c.zf.length (fun k=>(Cf c:: .ref 0 [] 3 0 0::Bo false::I k:: .za::.za::.za::.za::.za::.za::.za::.za::.za::.za::.za::.za::.za::.za::.za::.za::.za::.za::.za::.za::.za::.za::.za::.za::.za::.za::.za::.za::.za::.za::.za::.za::.za::.za::.za::.za::.za::.za::.za::.za::.za::.za::.za::.za::.za::.za::.za::.za::.za::.za::.za::.za::.za::.za::.za::.za::.za::.za::.za::.za::.za::.za::.za::.za::.za::.za::.za::[])) (fun k=>[⟨1,33,3,[vB c],0⟩]) (fun k=>∀ j,(h:j < c.zf.length)->j < k->zds c.zf[j]=false) ?_ (by simp) (fun k hk hr=>?_) (fun hr=>?_)
 ·exact cC
 ·obtain ⟨x,hx⟩:∃ x,x=c.zf[k]:=⟨_,rfl⟩
  have hg:(c.zf.map jJ)[k]?= some (jJ x):=by rw [List.getElem?_map,List.getElem?_eq_getElem hk,hx];rfl
  have mh:(x.zV.map yK).length=x.zV.length:=List.length_map ..
  have bad:zds x=true->wK c=true:=fun h=>by
   have:c.zf.any zds=true:=List.any_eq_true.2 ⟨x,by rw [hx];exact List.getElem_mem hk,h⟩
   simp [wK,this]
  have no:zds x=false->∀ i,(h:i < c.zf.length)->i < k+1->zds c.zf[i]=false:=fun h6 i hi hij=>by
   by_cases e:i=k
   ·subst e;rw [<- hx];exact h6
   ·exact hr i hi (by omega)
  conv=>whnf
  rw [m3]
  (refine ⟨fun _=>?_,fun h=>absurd h (by simp;omega)⟩);refine dd ?_
  (refine ⟨by omega,_,by rw [toNat_cast];exact hg,?_⟩);refine dd ?_
  rw [mh]
  refine ⟨fun b1=>?_,fun b1=>?_⟩
  ·rw [bad (by simp at b1;simp [zds];omega)]
   refine dd ?_
   (repeat ((first | apply ya | apply yb);refine dd ?_))
   (refine .inr ⟨by simp,?_⟩);(conv=>whnf)
   exact ⟨.inl rfl,_,.refl _,rfl⟩
  refine dd ?_
  (refine ⟨by omega,_,by rw [toNat_cast];exact hg,?_⟩);refine dd ?_
  refine ⟨fun b2=>?_,fun b2=>?_⟩
  ·rw [bad (by simp at b2;simp [zds];omega)]
   refine dd ?_
   (refine .inr ⟨by simp,?_⟩);(conv=>whnf)
   exact ⟨.inl rfl,_,.refl _,rfl⟩
  refine dd ?_
  refine .inl ⟨rfl,?_,no (by simp at b1 b2;simp [zds];omega)⟩
  rw [zo (by omega)]
  exact cE 1
 ·have hno:c.zf.any zds=false:=by
   rw [List.any_eq_false]
   intro x hx
   obtain ⟨i,hi,rfl⟩:=List.mem_iff_getElem.1 hx
   simp [hr i hi hi]
  conv=>whnf
  rw [m3]
  refine ⟨fun h=>absurd h (by simp),fun _=>?_⟩
  refine dd ?_
  refine ⟨by simp,?_⟩
  conv=>whnf
  refine zH.seq c.zp.length (fun k=>(Cf c:: .ref 0 [] 3 0 0::Bo false:: .za::I k:: .za::.za::.za::.za::.za::.za::.za::.za::.za::.za::.za::.za::.za::.za::.za::.za::.za::.za::.za::.za::.za::.za::.za::.za::.za::.za::.za::.za::.za::.za::.za::.za::.za::.za::.za::.za::.za::.za::.za::.za::.za::.za::.za::.za::.za::.za::.za::.za::.za::.za::.za::.za::.za::.za::.za::.za::.za::.za::.za::.za::.za::.za::.za::.za::.za::.za::[])) (fun k=>[⟨1,33,3,[vB c],0⟩]) (fun k=>∀ j,(h:j < c.zp.length)->j < k->zdE c.zp[j]=false) ?_ (by simp) (fun k hk hr=>?_) (fun hr=>?_)
  ·exact cC
  ·obtain ⟨x,hx⟩:∃ x,x=c.zp[k]:=⟨_,rfl⟩
   have hg:(c.zp.map yp)[k]?= some (yp x):=by rw [List.getElem?_map,List.getElem?_eq_getElem hk,hx];rfl
   have bad:zdE x=true->wK c=true:=fun h=>by
    have:c.zp.any zdE=true:=List.any_eq_true.2 ⟨x,by rw [hx];exact List.getElem_mem hk,h⟩
    simp [wK,this]
   have no:zdE x=false->∀ i,(h:i < c.zp.length)->i < k+1->zdE c.zp[i]=false:=fun h6 i hi hij=>by
    by_cases e:i=k
    ·subst e;rw [<- hx];exact h6
    ·exact hr i hi (by omega)
   conv=>whnf
   rw [m2]
   (refine ⟨fun _=>?_,fun h=>absurd h (by simp;omega)⟩);refine dd ?_
   (refine ⟨by omega,_,by rw [toNat_cast];exact hg,?_⟩);refine dd ?_
   refine ⟨fun b1=>?_,fun b1=>?_⟩
   ·rw [bad (by simp at b1;simp [zdE];omega)]
    refine dd ?_
    (repeat ((first | apply ya | apply yb);refine dd ?_))
    (refine .inr ⟨by simp,?_⟩);(conv=>whnf)
    exact ⟨.inl rfl,_,.refl _,rfl⟩
   refine dd ?_
   (refine ⟨by omega,_,by rw [toNat_cast];exact hg,?_⟩);refine dd ?_
   refine ⟨fun b2=>?_,fun b2=>?_⟩
   ·rw [bad (by simp at b2;simp [zdE];omega)]
    refine dd ?_
    (refine .inr ⟨by simp,?_⟩);(conv=>whnf)
    exact ⟨.inl rfl,_,.refl _,rfl⟩
   refine dd ?_
   refine .inl ⟨rfl,?_,no (by simp at b1 b2;simp [zdE];omega)⟩
   rw [zo (by omega)]
   exact cE 1
  ·have hno2:c.zp.any zdE=false:=by
    rw [List.any_eq_false]
    intro x hx
    obtain ⟨i,hi,rfl⟩:=List.mem_iff_getElem.1 hx
    simp [hr i hi hi]
   conv=>whnf
   rw [m2]
   refine ⟨fun h=>absurd h (by simp),fun _=>?_⟩
   refine dd ?_
   refine ⟨by simp,?_⟩
   conv=>whnf
   have e:wK c=false:=by simp [wK,hno,hno2];omega
   rw [e]
   exact ⟨.inl rfl,_,.refl _,rfl⟩
end Go.Con
