import Derived.Test.YtdbcjcnfaajpjaaGreatRD
import Derived.Test.YtdbcjcnfaajpjaaGreatRC
set_option linter.unusedVariables false
set_option linter.unusedSimpArgs false
set_option linter.unusedSectionVars false
set_option maxRecDepth 100000
set_option maxHeartbeats 4000000
namespace Go.Con
open Go.Ab Go.Proofs Go.Hy Go.Gat Go.Nam Go.Hos
def jo (f:Nat->Int) (n:Nat):Int × Int:=match (List.range n).find? fun i=>f i != 0 with
 | some i=>(f i,i)
 | none=>(0,0)
theorem jk {f:Nat->Int} {n k:Nat} {e:Int} (hk:k < n) (hr:∀ j,j < k->f j=0) (h:f k=e) (he:e≠0):jo f n=(e,(k:Int)):=by
 unfold jo
 have:(List.range n).find? (fun i=>f i != 0)=some k:=by
  rw [List.find?_range_eq_some]
  exact ⟨by simp [h,he],by simpa using hk,fun j hj=>by simp [hr j hj]⟩
 rw [this]
 simp [h]
theorem zbP {f:Nat->Int} {n:Nat} (hr:∀ j,j < n->f j=0):jo f n=(0,0):=by
 unfold jo
 have:(List.range n).find? (fun i=>f i != 0)=none:=by
  rw [List.find?_range_eq_none]
  intro i hi
  simp [hr i hi]
 rw [this]
def zgm (l:List Str) (i:Nat):Int:=match l[i]? with
 | none=>0
 | some s=>if j0 s=false then 3 else if (l.take i).any (fun x=>x == s) then 4 else 0
def zbK (l:List Clu) (i:Nat):Int:=match l[i]? with
 | none=>0
 | some c=>if j0 c.name=false then 3 else if kH (l.take i) c.name then 4 else if c.jT≠1∧c.jT≠2 then 9 else if (decide (1<=c.xy) && decide (c.xy<=4))=false then 10
   else if (decide (1<=(c.zI.length:Int)) && decide ((c.zI.length:Int)<=4))=false then 6 else 0
def zaj (a b:Rou):Bool:=a.listen == b.listen && a.host == b.host && a.path == b.path
def zei (c:Cfg) (i:Nat):Int:=match c.zP[i]? with
 | none=>0
 | some r=>if c.ze.any (fun x=>x == r.listen)=false then 5 else if zc1 r.host=false then 7 else if kP r.path=false then 8 else if kH c.zk r.zg=false then 5
   else if (c.zP.take i).any (fun q=>zaj q r) then 4 else 0
def yQ (c:Cfg):Int × Int:=
 if ((decide (1<=(c.ze.length:Int)) && decide ((c.ze.length:Int)<=4))=false∨(decide (1<=(c.zP.length:Int)) && decide ((c.zP.length:Int)<=8))=false)∨(decide (1<=(c.zk.length:Int)) && decide ((c.zk.length:Int)<=4))=false then (6,0) else (0,0)
def jf (c:Cfg):Int × Int:=
 if (yQ c).1≠0 then yQ c else if (jo (zgm c.ze) c.ze.length).1≠0 then jo (zgm c.ze) c.ze.length
 else if (jo (zbK c.zk) c.zk.length).1≠0 then jo (zbK c.zk) c.zk.length
 else if (jo (zei c) c.zP.length).1≠0 then jo (zei c) c.zP.length else (0,0)
abbrev t2 (r:Int × Int):C:=.tup [I r.1,I r.2]
abbrev Cf (c:Cfg):C:=.agg (zdw c)
structure xF (c:Cfg):Prop where
 ze:c.ze.length < 1000000000000∧∀ s ∈ c.ze,s.length < 4000000000000000000
 zP:c.zP.length < 1000000000000∧∀ r ∈ c.zP,r.listen.length < 4000000000000000000∧r.host.length < 1000000000000∧r.path.length < 1000000000000∧r.zg.length < 4000000000000000000
 zk:c.zk.length < 1000000000000∧∀ x ∈ c.zk,x.name.length < 4000000000000000000∧x.zI.length < 4000000000000000000
theorem zjy (c:Cfg) (hc:xF c):zb Tryz.prog 105 [] [Cf c] (t2 (yQ c)) []:=by
 have m1:(c.ze.map yT).length=c.ze.length:=List.length_map ..
 have m2:(c.zP.map ve).length=c.zP.length:=List.length_map ..
 have m3:(c.zk.map jj).length=c.zk.length:=List.length_map ..
 refine zb.zp (fn:=Tryz.f105) Tryz.func105 rfl ?_
 conv=>whnf
 rw [m1]
 refine ⟨_,_,(j8 _ _ _).frame rfl _,?_⟩;refine dd ?_
 refine ⟨fun h1=>?_,fun h1=>?_⟩
 ·refine dd ?_
  (repeat ((first | apply ya | apply yb);refine dd ?_))
  rw [m2]
  refine ⟨_,_,(j8 _ _ _).frame rfl _,?_⟩;refine dd ?_
  refine ⟨fun h2=>?_,fun h2=>?_⟩
  ·refine dd ?_
   (repeat ((first | apply ya | apply yb);refine dd ?_))
   rw [m3]
   refine ⟨_,_,(j8 _ _ _).frame rfl _,?_⟩;refine dd ?_
   refine ⟨fun h3=>?_,fun h3=>?_⟩
   ·refine dd ?_
    (repeat ((first | apply ya | apply yb);refine dd ?_))
    have e:yQ c=(0,0):=by unfold yQ;rw [if_neg];simp only [h1,h2,h3];simp
    rw [e]
    exact ⟨.inl rfl,_,.refl _,rfl⟩
   ·refine dd ?_
    (repeat ((first | apply ya | apply yb);refine dd ?_))
    have e:yQ c=(6,0):=by unfold yQ;rw [if_pos (.inr h3)]
    rw [e]
    exact ⟨.inl rfl,_,.refl _,rfl⟩
  ·refine dd ?_
   (repeat ((first | apply ya | apply yb);refine dd ?_))
   have e:yQ c=(6,0):=by unfold yQ;rw [if_pos (.inl (.inr h2))]
   rw [e]
   exact ⟨.inl rfl,_,.refl _,rfl⟩
 ·refine dd ?_
  (repeat ((first | apply ya | apply yb);refine dd ?_))
  have e:yQ c=(6,0):=by unfold yQ;rw [if_pos (.inl (.inl h1))]
  rw [e]
  exact ⟨.inl rfl,_,.refl _,rfl⟩
theorem zeU (c:Cfg) (hc:xF c):zb Tryz.prog 106 [] [Cf c] (t2 (jo (zgm c.ze) c.ze.length)) []:=by
 have m1:(c.ze.map yT).length=c.ze.length:=List.length_map ..
 have hl:=hc.ze.1
 refine zb.zp (fn:=Tryz.f106) Tryz.func106 rfl ?_
 conv=>whnf
 rw [m1]
 refine qa.seq c.ze.length (fun k=>[Cf c,.ref 0 [] 3 0 0,I 0,I 0,.za,.za,.za,.za,lT c.ze,I c.ze.length,I k,.za,.za,.za,.za,.za,.za,.za,.za,.za,.za,.za,.za,.za,.za,.za,.za,.za,.za,.za]) (fun k=>[⟨1,176,3,[zdw c],0⟩]) (fun k=>∀ j,j < k->zgm c.ze j=0) ?_ (by simp) (fun k hk hr=>?_) (fun hr=>?_)
 ·exact cC
 ·have hg:(c.ze.map yT)[k]?= some (yT c.ze[k]):=by rw [List.getElem?_map,List.getElem?_eq_getElem hk];rfl
  have hs:=hc.ze.2 _ (List.getElem_mem hk)
  have he:zgm c.ze k=if j0 c.ze[k]=false then 3 else if (c.ze.take k).any (fun x=>x == c.ze[k]) then 4 else 0:=by
   unfold zgm;rw [List.getElem?_eq_getElem hk]
  conv=>whnf
  refine ⟨fun _=>?_,fun h=>absurd h (by simp;omega)⟩
  refine dd ?_
  refine ⟨by omega,_,by rw [toNat_cast];exact hg,?_⟩
  refine dd ?_
  refine ⟨_,_,(xm c.ze[k] (by omega)).frame rfl _,?_⟩;refine dd ?_
  refine ⟨fun h2=>?_,fun h2=>?_⟩
  ·refine dd ?_
   (repeat ((first | apply ya | apply yb);refine dd ?_))
   (refine ⟨.inr rfl,?_⟩);refine dd ?_;(refine ⟨by omega,Nat.zero_le _,by rw [m1];omega,?_⟩);refine dd ?_;(rw [List.drop_zero,Nat.sub_zero,toNat_cast,<- List.map_take])
   refine ⟨_,_,(zdq (c.ze.take k) c.ze[k] (by simp;omega)).frame rfl _,?_⟩;refine dd ?_
   refine ⟨fun h3=>?_,fun h3=>?_⟩
   ·refine dd ?_
    rw [jk hk hr (by rw [he,if_neg (by simp [h2]),if_pos h3]) (by decide)]
    refine .inr ⟨by simp,?_⟩
    conv=>whnf
    exact ⟨.inl rfl,_,.refl _,rfl⟩
   ·refine dd ?_
    refine .inl ⟨rfl,?_,(fun j hj=>by (by_cases e:j=k);(subst e;exact (by rw [he,if_neg (by simp [h2]),if_neg (by simp [h3])]));(exact hr j (by omega)))⟩
    rw [zC (by omega)]
    exact cE 1
  ·refine dd ?_
   (repeat ((first | apply ya | apply yb);refine dd ?_))
   rw [jk hk hr (by rw [he,if_pos h2]) (by decide)]
   refine .inr ⟨by simp,?_⟩
   conv=>whnf
   exact ⟨.inl rfl,_,.refl _,rfl⟩
 ·rw [zbP hr]
  (conv=>whnf);(refine ⟨fun h=>absurd h (by simp),fun _=>?_⟩);refine dd ?_;(refine ⟨by simp,?_⟩);(conv=>whnf)
  exact ⟨.inl rfl,_,.refl _,rfl⟩
theorem zdp (c:Cfg) (hc:xF c):zb Tryz.prog 107 [] [Cf c] (t2 (jo (zbK c.zk) c.zk.length)) []:=by
 have m1:(c.zk.map jj).length=c.zk.length:=List.length_map ..
 have hl:=hc.zk.1
 refine zb.zp (fn:=Tryz.f107) Tryz.func107 rfl ?_
 conv=>whnf
 rw [m1]
 refine qa.seq c.zk.length (fun k=>[Cf c,.ref 0 [] 3 0 0,I 0,I 0,.za,.za,.za,.za,lC c.zk,I c.zk.length,I k,.za,.za,.za,.za,.za,.za,.za,.za,.za,.za,.za,.za,.za,.za,.za,.za,.za,.za,.za,.za,.za,.za,.za,.za,.za,.za,.za,.za,.za,.za,.za,.za,.za,.za,.za,.za,.za,.za,.za,.za,.za,.za,.za,.za]) (fun k=>[⟨1,176,3,[zdw c],0⟩]) (fun k=>∀ j,j < k->zbK c.zk j=0) ?_ (by simp) (fun k hk hr=>?_) (fun hr=>?_)
 ·exact cC
 ·obtain ⟨x,hx⟩:∃ x,x=c.zk[k]:=⟨_,rfl⟩
  have hg:(c.zk.map jj)[k]?= some (jj x):=by rw [List.getElem?_map,List.getElem?_eq_getElem hk,hx];rfl
  have hs:=hc.zk.2 x (by rw [hx];exact List.getElem_mem hk)
  have he:zbK c.zk k=if j0 x.name=false then 3 else if kH (c.zk.take k) x.name then 4 else if x.jT≠1∧x.jT≠2 then 9 else if (decide (1<=x.xy) && decide (x.xy<=4))=false then 10
    else if (decide (1<=(x.zI.length:Int)) && decide ((x.zI.length:Int)<=4))=false then 6 else 0:=by
   unfold zbK;rw [List.getElem?_eq_getElem hk,hx]
  have mh:(x.zI.map xZ).length=x.zI.length:=List.length_map ..
  conv=>whnf
  refine ⟨fun _=>?_,fun h=>absurd h (by simp;omega)⟩
  refine dd ?_
  refine ⟨by omega,_,by rw [toNat_cast];exact hg,?_⟩
  refine dd ?_
  refine ⟨_,_,(xm x.name (by omega)).frame rfl _,?_⟩;refine dd ?_
  refine ⟨fun h2=>?_,fun h2=>?_⟩
  ·refine dd ?_
   (repeat ((first | apply ya | apply yb);refine dd ?_))
   refine .inl ⟨⟨false,[2,6,7],[0,1],[]⟩,by kernel_rfl,?_⟩;(conv=>whnf)
   (refine ⟨.inr rfl,?_⟩);refine dd ?_;(refine ⟨by omega,Nat.zero_le _,by rw [m1];omega,?_⟩);refine dd ?_;(rw [List.drop_zero,Nat.sub_zero,toNat_cast,<- List.map_take])
   refine ⟨Bo (kH (c.zk.take k) x.name),fun H2=>(zcD (c.zk.take k) x.name (by simp;omega)).frame rfl H2,?_⟩
   refine dd ?_
   refine ⟨fun h3=>?_,fun h3=>?_⟩
   ·refine dd ?_
    rw [jk hk hr (by rw [he,if_neg (by simp [h2]),if_pos h3]) (by decide)]
    (refine .inr ⟨by simp,?_⟩);(conv=>whnf)
    exact ⟨.inl rfl,_,.refl _,rfl⟩
   ·have he:=he.trans ((if_neg (by simp [h2])).trans (if_neg (by simp [h3])))
    refine dd ?_
    refine ⟨fun h4=>?_,fun h4=>?_⟩
    ·have h4:x.jT≠1:=by simpa using h4
     refine dd ?_
     refine ⟨fun h5=>?_,fun h5=>?_⟩
     ·have h5:x.jT≠2:=by simpa using h5
      refine dd ?_
      rw [jk hk hr (by rw [he,if_pos ⟨h4,h5⟩]) (by decide)]
      (refine .inr ⟨by simp,?_⟩);(conv=>whnf)
      exact ⟨.inl rfl,_,.refl _,rfl⟩
     ·have h5:x.jT=2:=by simpa using h5
      have he:=he.trans (if_neg (fun h=>h.2 h5))
      refine dd ?_
      refine ⟨_,_,(j8 _ _ _).frame rfl _,?_⟩;refine dd ?_;(refine ⟨fun h6=>?_,fun h6=>?_⟩);rotate_left;(focus (refine dd ?_;(repeat ((first | apply ya | apply yb);refine dd ?_));(rw [jk hk hr (by rw [he,if_pos h6]) (by decide)]);(refine .inr ⟨by simp,?_⟩);(conv=>whnf);exact ⟨.inl rfl,_,.refl _,rfl⟩));(have he:=he.trans (if_neg (by simp only [h6];decide)));refine dd ?_;(repeat ((first | apply ya | apply yb);refine dd ?_));(rw [mh]);refine ⟨_,_,(j8 _ _ _).frame rfl _,?_⟩;refine dd ?_;(refine ⟨fun h7=>?_,fun h7=>?_⟩);rotate_left;(focus (refine dd ?_;(repeat ((first | apply ya | apply yb);refine dd ?_));(rw [jk hk hr (by rw [he,if_pos h7]) (by decide)]);(refine .inr ⟨by simp,?_⟩);(conv=>whnf);exact ⟨.inl rfl,_,.refl _,rfl⟩));(have he:=he.trans (if_neg (by simp only [h7];decide)));refine dd ?_;(repeat ((first | apply ya | apply yb);refine dd ?_));(refine .inl ⟨rfl,?_,(fun j hj=>by (by_cases e:j=k);(subst e;exact he);(exact hr j (by omega)))⟩);(rw [zC (by omega)]);exact cE 1
    ·have h4:x.jT=1:=by simpa using h4
     have he:=he.trans (if_neg (fun h=>h.1 h4))
     refine dd ?_
     refine ⟨_,_,(j8 _ _ _).frame rfl _,?_⟩;refine dd ?_;(refine ⟨fun h6=>?_,fun h6=>?_⟩);rotate_left;(focus (refine dd ?_;(repeat ((first | apply ya | apply yb);refine dd ?_));(rw [jk hk hr (by rw [he,if_pos h6]) (by decide)]);(refine .inr ⟨by simp,?_⟩);(conv=>whnf);exact ⟨.inl rfl,_,.refl _,rfl⟩));(have he:=he.trans (if_neg (by simp only [h6];decide)));refine dd ?_;(repeat ((first | apply ya | apply yb);refine dd ?_));(rw [mh]);refine ⟨_,_,(j8 _ _ _).frame rfl _,?_⟩;refine dd ?_;(refine ⟨fun h7=>?_,fun h7=>?_⟩);rotate_left;(focus (refine dd ?_;(repeat ((first | apply ya | apply yb);refine dd ?_));(rw [jk hk hr (by rw [he,if_pos h7]) (by decide)]);(refine .inr ⟨by simp,?_⟩);(conv=>whnf);exact ⟨.inl rfl,_,.refl _,rfl⟩));(have he:=he.trans (if_neg (by simp only [h7];decide)));refine dd ?_;(repeat ((first | apply ya | apply yb);refine dd ?_));(refine .inl ⟨rfl,?_,(fun j hj=>by (by_cases e:j=k);(subst e;exact he);(exact hr j (by omega)))⟩);(rw [zC (by omega)]);exact cE 1
  ·refine dd ?_
   (repeat ((first | apply ya | apply yb);refine dd ?_))
   rw [jk hk hr (by rw [he,if_pos h2]) (by decide)]
   refine .inr ⟨by simp,?_⟩
   conv=>whnf
   exact ⟨.inl rfl,_,.refl _,rfl⟩
 ·rw [zbP hr]
  (conv=>whnf);(refine ⟨fun h=>absurd h (by simp),fun _=>?_⟩);refine dd ?_;(refine ⟨by simp,?_⟩);(conv=>whnf)
  exact ⟨.inl rfl,_,.refl _,rfl⟩
theorem zgE (c:Cfg) (hc:xF c):zb Tryz.prog 108 [] [Cf c] (t2 (jo (zei c) c.zP.length)) []:=by
 have m1:(c.zP.map ve).length=c.zP.length:=List.length_map ..
 have hl:=hc.zP.1
 have hl1:=hc.ze.1
 have hl2:=hc.zk.1
 refine zb.zp (fn:=Tryz.f108) Tryz.func108 rfl ?_
 conv=>whnf
 rw [m1]
 refine qa.seq c.zP.length (fun k=>[Cf c,.ref 0 [] 3 0 0,I 0,I 0,.za,.za,.za,.za,.za,.za,lO c.zP,I c.zP.length,I k,.za,.za,.za,.za,.za,.za,.za,.za,.za,.za,.za,.za,.za,.za,.za,.za,.za,.za,.za,.za,.za,.za,.za,.za,.za,.za,.za,.za,.za,.za,.za,.za,.za,.za,.za,.za,.za,.za,.za,.za,.za,.za,.za,.za,.za,.za,.za,.za,.za,.za,.za,.za]) (fun k=>[⟨1,176,3,[zdw c],0⟩]) (fun k=>∀ j,j < k->zei c j=0) ?_ (by simp) (fun k hk hr=>?_) (fun hr=>?_)
 ·exact cC
 ·obtain ⟨r,hx⟩:∃ r,r=c.zP[k]:=⟨_,rfl⟩
  have hg:(c.zP.map ve)[k]?= some (ve r):=by rw [List.getElem?_map,List.getElem?_eq_getElem hk,hx];rfl
  have hs:=hc.zP.2 r (by rw [hx];exact List.getElem_mem hk)
  have he:zei c k=if c.ze.any (fun x=>x == r.listen)=false then 5 else if zc1 r.host=false then 7 else if kP r.path=false then 8 else if kH c.zk r.zg=false then 5
    else if (c.zP.take k).any (fun q=>zaj q r) then 4 else 0:=by
   unfold zei;rw [List.getElem?_eq_getElem hk,hx]
  have m2:((c.zP.take k).map ve).length=k:=by simp;omega
  have hlk:(c.zP.take k).length=k:=by simp;omega
  conv=>whnf
  (refine ⟨fun _=>?_,fun h=>absurd h (by simp;omega)⟩);refine dd ?_
  (refine ⟨by omega,_,by rw [toNat_cast];exact hg,?_⟩);refine dd ?_
  refine ⟨_,_,(zdq c.ze r.listen (by omega)).frame rfl _,?_⟩;refine dd ?_
  refine ⟨fun h2=>?_,fun h2=>?_⟩
  rotate_left
  ·refine dd ?_
   (repeat ((first | apply ya | apply yb);refine dd ?_))
   rw [jk hk hr (by rw [he,if_pos h2]) (by decide)]
   (refine .inr ⟨by simp,?_⟩);(conv=>whnf)
   exact ⟨.inl rfl,_,.refl _,rfl⟩
  have he:=he.trans (if_neg (by simp [h2]))
  refine dd ?_
  (repeat ((first | apply ya | apply yb);refine dd ?_))
  refine ⟨_,_,(vL r.host (by omega)).frame rfl _,?_⟩;refine dd ?_
  refine ⟨fun h3=>?_,fun h3=>?_⟩
  rotate_left
  ·refine dd ?_
   (repeat ((first | apply ya | apply yb);refine dd ?_))
   rw [jk hk hr (by rw [he,if_pos h3]) (by decide)]
   (refine .inr ⟨by simp,?_⟩);(conv=>whnf)
   exact ⟨.inl rfl,_,.refl _,rfl⟩
  have he:=he.trans (if_neg (by simp [h3]))
  refine dd ?_
  (repeat ((first | apply ya | apply yb);refine dd ?_))
  refine ⟨_,_,(zaF r.path (by omega)).frame rfl _,?_⟩;refine dd ?_
  refine ⟨fun h4=>?_,fun h4=>?_⟩
  rotate_left
  ·refine dd ?_
   (repeat ((first | apply ya | apply yb);refine dd ?_))
   rw [jk hk hr (by rw [he,if_pos h4]) (by decide)]
   (refine .inr ⟨by simp,?_⟩);(conv=>whnf)
   exact ⟨.inl rfl,_,.refl _,rfl⟩
  have he:=he.trans (if_neg (by simp [h4]))
  refine dd ?_
  (repeat ((first | apply ya | apply yb);refine dd ?_))
  refine ⟨_,_,(zcD c.zk r.zg (by omega)).frame rfl _,?_⟩;refine dd ?_
  refine ⟨fun h5=>?_,fun h5=>?_⟩
  rotate_left
  ·refine dd ?_
   (repeat ((first | apply ya | apply yb);refine dd ?_))
   rw [jk hk hr (by rw [he,if_pos h5]) (by decide)]
   (refine .inr ⟨by simp,?_⟩);(conv=>whnf)
   exact ⟨.inl rfl,_,.refl _,rfl⟩
  have he:=he.trans (if_neg (by simp [h5]))
  refine dd ?_
  (repeat ((first | apply ya | apply yb);refine dd ?_))
  (refine ⟨.inr rfl,?_⟩);refine dd ?_;(refine ⟨by omega,Nat.zero_le _,by rw [m1];omega,?_⟩);refine dd ?_;(rw [List.drop_zero,Nat.sub_zero,toNat_cast,<- List.map_take])
  rw [m2]
  refine qa.seq k (fun j=>[Cf c,.ref 0 [] 3 0 0,I 0,I 0,I k,.ref 1 [] 4 0 0,.za,.za,.za,.za,lO c.zP,I c.zP.length,I k,.za,.za,.za,.za,.za,.za,.za,.za,.za,.za,.za,.za,.za,.za,.za,.za,.za,.za,.za,.za,.za,.za,.za,.za,.za,.za,.za,.za,.za,.za,.za,.za,.za,.za,.za,.za,.za,.za,.za,lO (c.zP.take k),I k,I j,.za,.za,.za,.za,.za,.za,.za,.za,.za,.za]) (fun j=>[⟨1,176,3,[zdw c],0⟩,⟨1,84,4,[[Tx r.listen,Tx r.host,Tx r.path,Tx []]],0⟩]) (fun j=>∀ i,(h:i < c.zP.length)->i < j->zaj c.zP[i] r=false) ?_ (by simp) (fun j hj hrj=>?_) (fun hrj=>?_)
  ·exact cC
  ·obtain ⟨q,hq⟩:∃ q,q=c.zP[j]:=⟨_,rfl⟩
   have hgq:((c.zP.take k).map ve)[j]?= some (ve q):=by rw [List.getElem?_map,List.getElem?_eq_getElem (by omega),hq,List.getElem_take];rfl
   conv=>whnf
   (refine ⟨fun _=>?_,fun h=>absurd h (by simp;omega)⟩);refine dd ?_
   (refine ⟨by omega,_,by rw [toNat_cast];exact hgq,?_⟩);refine dd ?_
   refine ⟨by kernel_rfl,?_⟩
   refine dd ?_
   refine ⟨fun h6=>?_,fun h6=>?_⟩
   ·have h6:zaj q r=true:=by simp at h6;simp [zaj,h6]
    have ha:(c.zP.take k).any (fun q=>zaj q r)=true:=by
     rw [List.any_eq_true]
     exact ⟨q,by rw [hq,List.mem_iff_getElem];exact ⟨j,by omega,List.getElem_take⟩,h6⟩
    refine dd ?_
    rw [jk hk hr (by rw [he,if_pos ha]) (by decide)]
    (refine .inr ⟨by simp,?_⟩);(conv=>whnf)
    refine .inr ⟨by simp,?_⟩
    conv=>whnf
    exact ⟨.inl rfl,_,.refl _,rfl⟩
   ·have h6:zaj q r=false:=by
     cases hs:zaj q r with
     | false=>rfl
     | true=>simp [zaj] at hs;simp [hs] at h6
    refine dd ?_
    refine .inl ⟨rfl,?_,fun i hi hij=>?_⟩
    ·rw [zC (by omega)]
     exact cE 2
    ·by_cases e:i=j
     ·subst e;rw [<- hq];exact h6
     ·exact hrj i hi (by omega)
  ·have ha:(c.zP.take k).any (fun q=>zaj q r)=false:=by
    rw [List.any_eq_false]
    intro q hq
    obtain ⟨i,hi,rfl⟩:=List.mem_iff_getElem.1 hq
    rw [List.getElem_take]
    simp [hrj i (by omega) (by omega)]
   have he:=he.trans (if_neg (by simp [ha]))
   (conv=>whnf);(refine ⟨fun h=>absurd h (by simp),fun _=>?_⟩);refine dd ?_;(refine ⟨by simp,?_⟩);(conv=>whnf)
   refine .inl ⟨rfl,?_,(fun j hj=>by (by_cases e:j=k);(subst e;exact he);(exact hr j (by omega)))⟩
   rw [zC (by omega)]
   exact cE 1
 ·rw [zbP hr]
  (conv=>whnf);(refine ⟨fun h=>absurd h (by simp),fun _=>?_⟩);refine dd ?_;(refine ⟨by simp,?_⟩);(conv=>whnf)
  exact ⟨.inl rfl,_,.refl _,rfl⟩
theorem check_sound (c:Cfg) (hc:xF c):zb Tryz.prog 72 [] [Cf c] (t2 (jf c)) []:=by
 refine zb.zp (fn:=Tryz.f72) Tryz.func72 rfl ?_
 conv=>whnf
 refine .ofN 5 (.step ?_)
 conv=>whnf
 (refine ⟨fun _=>?_,fun h=>absurd (h.symm.trans rfl:false=true) (by decide)⟩);refine dd ?_
 refine ⟨by decide,_,rfl,?_⟩
 refine dd ?_
 refine ⟨_,_,(zjy c hc).frame rfl _,?_⟩;refine dd ?_
 refine ⟨fun h1=>?_,fun h1=>?_⟩
 ·have e:jf c=yQ c:=by unfold jf;rw [if_pos (by simpa using h1)]
  rw [e]
  refine dd ?_
  (refine .inr ⟨by simp,?_⟩);(conv=>whnf)
  exact ⟨.inl rfl,_,.refl _,rfl⟩
 have h1:(yQ c).1=0:=by simpa using h1
 refine dd ?_
 refine .inl ⟨rfl,.step ?_⟩
 conv=>whnf
 (refine ⟨fun _=>?_,fun h=>absurd (h.symm.trans rfl:false=true) (by decide)⟩);refine dd ?_
 refine ⟨by decide,_,rfl,?_⟩
 refine dd ?_
 refine ⟨_,_,(zeU c hc).frame rfl _,?_⟩;refine dd ?_
 refine ⟨fun h2=>?_,fun h2=>?_⟩
 ·have e:jf c=jo (zgm c.ze) c.ze.length:=by unfold jf;rw [if_neg (by simp [h1]),if_pos (by simpa using h2)]
  rw [e]
  refine dd ?_
  (refine .inr ⟨by simp,?_⟩);(conv=>whnf)
  exact ⟨.inl rfl,_,.refl _,rfl⟩
 have h2:(jo (zgm c.ze) c.ze.length).1=0:=by simpa using h2
 refine dd ?_
 refine .inl ⟨rfl,.step ?_⟩
 conv=>whnf
 (refine ⟨fun _=>?_,fun h=>absurd (h.symm.trans rfl:false=true) (by decide)⟩);refine dd ?_
 refine ⟨by decide,_,rfl,?_⟩
 refine dd ?_
 refine ⟨_,_,(zdp c hc).frame rfl _,?_⟩;refine dd ?_
 refine ⟨fun h3=>?_,fun h3=>?_⟩
 ·have e:jf c=jo (zbK c.zk) c.zk.length:=by unfold jf;rw [if_neg (by simp [h1]),if_neg (by simp [h2]),if_pos (by simpa using h3)]
  rw [e]
  refine dd ?_
  (refine .inr ⟨by simp,?_⟩);(conv=>whnf)
  exact ⟨.inl rfl,_,.refl _,rfl⟩
 have h3:(jo (zbK c.zk) c.zk.length).1=0:=by simpa using h3
 refine dd ?_
 refine .inl ⟨rfl,.step ?_⟩
 conv=>whnf
 (refine ⟨fun _=>?_,fun h=>absurd (h.symm.trans rfl:false=true) (by decide)⟩);refine dd ?_
 refine ⟨by decide,_,rfl,?_⟩
 refine dd ?_
 refine ⟨_,_,(zgE c hc).frame rfl _,?_⟩;refine dd ?_
 refine ⟨fun h4=>?_,fun h4=>?_⟩
 ·have e:jf c=jo (zei c) c.zP.length:=by unfold jf;rw [if_neg (by simp [h1]),if_neg (by simp [h2]),if_neg (by simp [h3]),if_pos (by simpa using h4)]
  rw [e]
  refine dd ?_
  (refine .inr ⟨by simp,?_⟩);(conv=>whnf)
  exact ⟨.inl rfl,_,.refl _,rfl⟩
 have h4:(jo (zei c) c.zP.length).1=0:=by simpa using h4
 refine dd ?_
 refine .inl ⟨rfl,.step ?_⟩
 conv=>whnf
 (refine ⟨fun h=>absurd (h.symm.trans rfl:true=false) (by decide),fun _=>?_⟩);refine dd ?_
 (refine .inr ⟨by simp,?_⟩);(conv=>whnf)
 have e:jf c=(0,0):=by unfold jf;rw [if_neg (by simp [h1]),if_neg (by simp [h2]),if_neg (by simp [h3]),if_neg (by simp [h4])]
 rw [e]
 exact ⟨.inl rfl,_,.refl _,rfl⟩
end Go.Con
namespace Go.Con
open Go.Ab Go.Proofs Go.Hy Go.Gat Go.Nam Go.Hos
def zeT (l:List Clu) (s:Str):Int:=match l.findIdx? (fun x=>x.name == s) with | some i=>(i:Int) | none=> -1
def zeJ (c:Clu):Bool:=decide (50 < c.zI.length) || decide (100 < c.name.length)
def zeh (r:Rou):Bool:=decide (100 < r.host.length) || decide (100 < r.path.length)
def wa (c:Cfg):Bool:=decide (50 < c.ze.length) || decide (50 < c.zP.length) || decide (50 < c.zk.length) || c.zk.any zeJ || c.zP.any zeh
theorem zkq (c:Cfg) (h1:c.ze.length < 4000000000000000000) (h2:c.zP.length < 4000000000000000000) (h3:c.zk.length < 4000000000000000000):zb Tryz.prog 15 [] [Cf c] (Bo (wa c)) []:=by
 have m1:(c.ze.map yT).length=c.ze.length:=List.length_map ..
 have m2:(c.zP.map ve).length=c.zP.length:=List.length_map ..
 have m3:(c.zk.map jj).length=c.zk.length:=List.length_map ..
 refine zb.zp (fn:=Tryz.f15) Tryz.func15 rfl ?_
 conv=>whnf
 rw [m1]
 (refine ⟨fun a1=>?_,fun a1=>?_⟩);(focus ((have e:wa c=true:=by (simp at a1;simp [wa];omega));(rw [e]);refine dd ?_;(try (repeat ((first | apply ya | apply yb);refine dd ?_)));exact ⟨.inl rfl,_,.refl _,rfl⟩));refine dd ?_
 rw [m2]
 (refine ⟨fun a2=>?_,fun a2=>?_⟩);(focus ((have e:wa c=true:=by (simp at a2;simp [wa];omega));(rw [e]);refine dd ?_;(try (repeat ((first | apply ya | apply yb);refine dd ?_)));exact ⟨.inl rfl,_,.refl _,rfl⟩));refine dd ?_
 rw [m3]
 (refine ⟨fun a3=>?_,fun a3=>?_⟩);(focus ((have e:wa c=true:=by (simp at a3;simp [wa];omega));(rw [e]);refine dd ?_;(try (repeat ((first | apply ya | apply yb);refine dd ?_)));exact ⟨.inl rfl,_,.refl _,rfl⟩));refine dd ?_
 simp at a1 a2 a3
 refine qa.seq c.zk.length (fun k=>[Cf c,.ref 0 [] 3 0 0,Bo false,I k,.za,.za,.za,.za,.za,.za,.za,.za,.za,.za,.za,.za,.za,.za,.za,.za,.za,.za,.za,.za,.za,.za,.za,.za,.za,.za,.za,.za,.za,.za,.za,.za,.za,.za,.za,.za,.za,.za,.za,.za,.za,.za,.za,.za,.za,.za,.za,.za,.za,.za,.za,.za,.za,.za,.za,.za,.za,.za,.za,.za,.za,.za,.za,.za,.za,.za,.za]) (fun k=>[⟨1,26,3,[zdw c],0⟩]) (fun k=>∀ j,(h:j < c.zk.length)->j < k->zeJ c.zk[j]=false) ?_ (by simp) (fun k hk hr=>?_) (fun hr=>?_)
 ·exact cC
 ·obtain ⟨x,hx⟩:∃ x,x=c.zk[k]:=⟨_,rfl⟩
  have hg:(c.zk.map jj)[k]?= some (jj x):=by rw [List.getElem?_map,List.getElem?_eq_getElem hk,hx];rfl
  have mh:(x.zI.map xZ).length=x.zI.length:=List.length_map ..
  have bad:zeJ x=true->wa c=true:=fun h=>by
   have:c.zk.any zeJ=true:=List.any_eq_true.2 ⟨x,by rw [hx];exact List.getElem_mem hk,h⟩
   simp [wa,this]
  have no:zeJ x=false->∀ i,(h:i < c.zk.length)->i < k+1->zeJ c.zk[i]=false:=fun h6 i hi hij=>by
   by_cases e:i=k
   ·subst e;rw [<- hx];exact h6
   ·exact hr i hi (by omega)
  conv=>whnf
  rw [m3]
  (refine ⟨fun _=>?_,fun h=>absurd h (by simp;omega)⟩);refine dd ?_
  (refine ⟨by omega,_,by rw [toNat_cast];exact hg,?_⟩);refine dd ?_
  rw [mh]
  refine ⟨fun b1=>?_,fun b1=>?_⟩
  ·rw [bad (by simp at b1;simp [zeJ];omega)]
   refine dd ?_
   (repeat ((first | apply ya | apply yb);refine dd ?_))
   (refine .inr ⟨by simp,?_⟩);(conv=>whnf)
   exact ⟨.inl rfl,_,.refl _,rfl⟩
  refine dd ?_
  (refine ⟨by omega,_,by rw [toNat_cast];exact hg,?_⟩);refine dd ?_
  refine ⟨fun b2=>?_,fun b2=>?_⟩
  ·rw [bad (by simp at b2;simp [zeJ];omega)]
   refine dd ?_
   (refine .inr ⟨by simp,?_⟩);(conv=>whnf)
   exact ⟨.inl rfl,_,.refl _,rfl⟩
  refine dd ?_
  refine .inl ⟨rfl,?_,no (by simp at b1 b2;simp [zeJ];omega)⟩
  rw [zC (by omega)]
  exact cE 1
 ·have hno:c.zk.any zeJ=false:=by
   rw [List.any_eq_false]
   intro x hx
   obtain ⟨i,hi,rfl⟩:=List.mem_iff_getElem.1 hx
   simp [hr i hi hi]
  conv=>whnf
  rw [m3]
  refine ⟨fun h=>absurd h (by simp),fun _=>?_⟩
  refine dd ?_
  refine ⟨by simp,?_⟩
  conv=>whnf
  refine qa.seq c.zP.length (fun k=>[Cf c,.ref 0 [] 3 0 0,Bo false,.za,I k,.za,.za,.za,.za,.za,.za,.za,.za,.za,.za,.za,.za,.za,.za,.za,.za,.za,.za,.za,.za,.za,.za,.za,.za,.za,.za,.za,.za,.za,.za,.za,.za,.za,.za,.za,.za,.za,.za,.za,.za,.za,.za,.za,.za,.za,.za,.za,.za,.za,.za,.za,.za,.za,.za,.za,.za,.za,.za,.za,.za,.za,.za,.za,.za,.za,.za]) (fun k=>[⟨1,26,3,[zdw c],0⟩]) (fun k=>∀ j,(h:j < c.zP.length)->j < k->zeh c.zP[j]=false) ?_ (by simp) (fun k hk hr=>?_) (fun hr=>?_)
  ·exact cC
  ·obtain ⟨x,hx⟩:∃ x,x=c.zP[k]:=⟨_,rfl⟩
   have hg:(c.zP.map ve)[k]?= some (ve x):=by rw [List.getElem?_map,List.getElem?_eq_getElem hk,hx];rfl
   have bad:zeh x=true->wa c=true:=fun h=>by
    have:c.zP.any zeh=true:=List.any_eq_true.2 ⟨x,by rw [hx];exact List.getElem_mem hk,h⟩
    simp [wa,this]
   have no:zeh x=false->∀ i,(h:i < c.zP.length)->i < k+1->zeh c.zP[i]=false:=fun h6 i hi hij=>by
    by_cases e:i=k
    ·subst e;rw [<- hx];exact h6
    ·exact hr i hi (by omega)
   conv=>whnf
   rw [m2]
   (refine ⟨fun _=>?_,fun h=>absurd h (by simp;omega)⟩);refine dd ?_
   (refine ⟨by omega,_,by rw [toNat_cast];exact hg,?_⟩);refine dd ?_
   refine ⟨fun b1=>?_,fun b1=>?_⟩
   ·rw [bad (by simp at b1;simp [zeh];omega)]
    refine dd ?_
    (repeat ((first | apply ya | apply yb);refine dd ?_))
    (refine .inr ⟨by simp,?_⟩);(conv=>whnf)
    exact ⟨.inl rfl,_,.refl _,rfl⟩
   refine dd ?_
   (refine ⟨by omega,_,by rw [toNat_cast];exact hg,?_⟩);refine dd ?_
   refine ⟨fun b2=>?_,fun b2=>?_⟩
   ·rw [bad (by simp at b2;simp [zeh];omega)]
    refine dd ?_
    (refine .inr ⟨by simp,?_⟩);(conv=>whnf)
    exact ⟨.inl rfl,_,.refl _,rfl⟩
   refine dd ?_
   refine .inl ⟨rfl,?_,no (by simp at b1 b2;simp [zeh];omega)⟩
   rw [zC (by omega)]
   exact cE 1
  ·have hno2:c.zP.any zeh=false:=by
    rw [List.any_eq_false]
    intro x hx
    obtain ⟨i,hi,rfl⟩:=List.mem_iff_getElem.1 hx
    simp [hr i hi hi]
   conv=>whnf
   rw [m2]
   refine ⟨fun h=>absurd h (by simp),fun _=>?_⟩
   refine dd ?_
   refine ⟨by simp,?_⟩
   conv=>whnf
   have e:wa c=false:=by simp [wa,hno,hno2];omega
   rw [e]
   exact ⟨.inl rfl,_,.refl _,rfl⟩
end Go.Con
