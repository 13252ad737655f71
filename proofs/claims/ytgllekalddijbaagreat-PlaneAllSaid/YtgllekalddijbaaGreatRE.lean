import Derived.Test.YtgllekalddijbaaGreatRD
import Derived.Test.YtgllekalddijbaaGreatRC
set_option linter.unusedVariables false
set_option linter.unusedSimpArgs false
set_option linter.unusedSectionVars false
set_option maxRecDepth 100000
set_option maxHeartbeats 4000000
namespace Go.Con
open Go.Ab Go.Proofs Go.Hy Go.Gat Go.Nam Go.Hos
def jj (f:Nat->Int) (n:Nat):Int × Int:=match (List.range n).find? fun i=>f i != 0 with
 | some i=>(f i,i)
 | none=>(0,0)
theorem je {f:Nat->Int} {n k:Nat} {e:Int} (hk:k < n) (hr:∀ j,j < k->f j=0) (h:f k=e) (he:e≠0):jj f n=(e,(k:Int)):=by
 unfold jj
 have:(List.range n).find? (fun i=>f i != 0)=some k:=by
  rw [List.find?_range_eq_some]
  exact ⟨by simp [h,he],by simpa using hk,fun j hj=>by simp [hr j hj]⟩
 rw [this]
 simp [h]
theorem zbn {f:Nat->Int} {n:Nat} (hr:∀ j,j < n->f j=0):jj f n=(0,0):=by
 unfold jj
 have:(List.range n).find? (fun i=>f i != 0)=none:=by
  rw [List.find?_range_eq_none]
  intro i hi
  simp [hr i hi]
 rw [this]
def zfx (l:List Str) (i:Nat):Int:=match l[i]? with
 | none=>0
 | some s=>if jR s=false then 3 else if (l.take i).any (fun x=>x == s) then 4 else 0
def zbj (l:List Clu) (i:Nat):Int:=match l[i]? with
 | none=>0
 | some c=>if jR c.name=false then 3 else if zae (l.take i) c.name then 4 else if c.jJ≠1∧c.jJ≠2 then 9 else if (decide (1<=c.yA) && decide (c.yA<=4))=false then 10
   else if (decide (1<=(c.zM.length:Int)) && decide ((c.zM.length:Int)<=4))=false then 6 else 0
def wU (a b:Rou):Bool:=a.listen == b.listen && a.host == b.host && a.path == b.path
def zdN (c:Cfg) (i:Nat):Int:=match c.qf[i]? with
 | none=>0
 | some r=>if c.ze.any (fun x=>x == r.listen)=false then 5 else if zcs r.host=false then 7 else if kq r.path=false then 8 else if zae c.zm r.zg=false then 5
   else if (c.qf.take i).any (fun q=>wU q r) then 4 else 0
def yz (c:Cfg):Int × Int:=
 if ((decide (1<=(c.ze.length:Int)) && decide ((c.ze.length:Int)<=4))=false∨(decide (1<=(c.qf.length:Int)) && decide ((c.qf.length:Int)<=8))=false)∨(decide (1<=(c.zm.length:Int)) && decide ((c.zm.length:Int)<=4))=false then (6,0) else (0,0)
def xb (c:Cfg):Int × Int:=
 if (yz c).1≠0 then yz c else if (jj (zfx c.ze) c.ze.length).1≠0 then jj (zfx c.ze) c.ze.length
 else if (jj (zbj c.zm) c.zm.length).1≠0 then jj (zbj c.zm) c.zm.length
 else if (jj (zdN c) c.qf.length).1≠0 then jj (zdN c) c.qf.length else (0,0)
abbrev t2 (r:Int × Int):C:=.tup [I r.1,I r.2]
abbrev Cf (c:Cfg):C:=.agg (zhr c)
structure w5 (c:Cfg):Prop where
 ze:c.ze.length < 1000000000000∧∀ s ∈ c.ze,s.length < 4000000000000000000
 qf:c.qf.length < 1000000000000∧∀ r ∈ c.qf,r.listen.length < 4000000000000000000∧r.host.length < 1000000000000∧r.path.length < 1000000000000∧r.zg.length < 4000000000000000000
 zm:c.zm.length < 1000000000000∧∀ x ∈ c.zm,x.name.length < 4000000000000000000∧x.zM.length < 4000000000000000000
theorem zii (c:Cfg) (hc:w5 c):zc Tryz.prog 175 [] [Cf c] (t2 (yz c)) []:=by
 have m1:(c.ze.map v7).length=c.ze.length:=List.length_map ..
 have m2:(c.qf.map kQ).length=c.qf.length:=List.length_map ..
 have m3:(c.zm.map jn).length=c.zm.length:=List.length_map ..
 refine zc.zr (fn:=Tryz.f175) Tryz.func175 rfl ?_
 conv=>whnf
 rw [m1]
 refine ⟨_,_,(jX _ _ _).frame rfl _,?_⟩;refine dd ?_
 refine ⟨fun h1=>?_,fun h1=>?_⟩
 ·refine dd ?_
  (repeat ((first | apply ya | apply yb);refine dd ?_))
  rw [m2]
  refine ⟨_,_,(jX _ _ _).frame rfl _,?_⟩;refine dd ?_
  refine ⟨fun h2=>?_,fun h2=>?_⟩
  ·refine dd ?_
   (repeat ((first | apply ya | apply yb);refine dd ?_))
   rw [m3]
   refine ⟨_,_,(jX _ _ _).frame rfl _,?_⟩;refine dd ?_
   refine ⟨fun h3=>?_,fun h3=>?_⟩
   ·refine dd ?_
    (repeat ((first | apply ya | apply yb);refine dd ?_))
    have e:yz c=(0,0):=by unfold yz;rw [if_neg];simp only [h1,h2,h3];simp
    rw [e]
    exact ⟨.inl rfl,_,.refl _,rfl⟩
   ·refine dd ?_
    (repeat ((first | apply ya | apply yb);refine dd ?_))
    have e:yz c=(6,0):=by unfold yz;rw [if_pos (.inr h3)]
    rw [e]
    exact ⟨.inl rfl,_,.refl _,rfl⟩
  ·refine dd ?_
   (repeat ((first | apply ya | apply yb);refine dd ?_))
   have e:yz c=(6,0):=by unfold yz;rw [if_pos (.inl (.inr h2))]
   rw [e]
   exact ⟨.inl rfl,_,.refl _,rfl⟩
 ·refine dd ?_
  (repeat ((first | apply ya | apply yb);refine dd ?_))
  have e:yz c=(6,0):=by unfold yz;rw [if_pos (.inl (.inl h1))]
  rw [e]
  exact ⟨.inl rfl,_,.refl _,rfl⟩
theorem zei (c:Cfg) (hc:w5 c):zc Tryz.prog 176 [] [Cf c] (t2 (jj (zfx c.ze) c.ze.length)) []:=by
 have m1:(c.ze.map v7).length=c.ze.length:=List.length_map ..
 have hl:=hc.ze.1
 refine zc.zr (fn:=Tryz.f176) Tryz.func176 rfl ?_
 conv=>whnf
 rw [m1]
 refine qb.seq c.ze.length (fun k=>[Cf c,.ref 0 [] 3 0 0,I 0,I 0,.za,.za,.za,.za,lT c.ze,I c.ze.length,I k,.za,.za,.za,.za,.za,.za,.za,.za,.za,.za,.za,.za,.za,.za,.za,.za,.za,.za,.za]) (fun k=>[⟨1,221,3,[zhr c],0⟩]) (fun k=>∀ j,j < k->zfx c.ze j=0) ?_ (by simp) (fun k hk hr=>?_) (fun hr=>?_)
 ·exact cC
 ·have hg:(c.ze.map v7)[k]?= some (v7 c.ze[k]):=by rw [List.getElem?_map,List.getElem?_eq_getElem hk];rfl
  have hs:=hc.ze.2 _ (List.getElem_mem hk)
  have he:zfx c.ze k=if jR c.ze[k]=false then 3 else if (c.ze.take k).any (fun x=>x == c.ze[k]) then 4 else 0:=by
   unfold zfx;rw [List.getElem?_eq_getElem hk]
  conv=>whnf
  refine ⟨fun _=>?_,fun h=>absurd h (by simp;omega)⟩
  refine dd ?_
  refine ⟨by omega,_,by rw [toNat_cast];exact hg,?_⟩
  refine dd ?_
  refine ⟨_,_,(xf c.ze[k] (by omega)).frame rfl _,?_⟩;refine dd ?_
  refine ⟨fun h2=>?_,fun h2=>?_⟩
  ·refine dd ?_
   (repeat ((first | apply ya | apply yb);refine dd ?_))
   (refine ⟨.inr rfl,?_⟩);refine dd ?_;(refine ⟨by omega,Nat.zero_le _,by rw [m1];omega,?_⟩);refine dd ?_;(rw [List.drop_zero,Nat.sub_zero,toNat_cast,<- List.map_take])
   refine ⟨_,_,(zcY (c.ze.take k) c.ze[k] (by simp;omega)).frame rfl _,?_⟩;refine dd ?_
   refine ⟨fun h3=>?_,fun h3=>?_⟩
   ·refine dd ?_
    rw [je hk hr (by rw [he,if_neg (by simp [h2]),if_pos h3]) (by decide)]
    refine .inr ⟨by simp,?_⟩
    conv=>whnf
    exact ⟨.inl rfl,_,.refl _,rfl⟩
   ·refine dd ?_
    refine .inl ⟨rfl,?_,(fun j hj=>by (by_cases e:j=k);(subst e;exact (by rw [he,if_neg (by simp [h2]),if_neg (by simp [h3])]));(exact hr j (by omega)))⟩
    rw [zD (by omega)]
    exact cE 1
  ·refine dd ?_
   (repeat ((first | apply ya | apply yb);refine dd ?_))
   rw [je hk hr (by rw [he,if_pos h2]) (by decide)]
   refine .inr ⟨by simp,?_⟩
   conv=>whnf
   exact ⟨.inl rfl,_,.refl _,rfl⟩
 ·rw [zbn hr]
  (conv=>whnf);(refine ⟨fun h=>absurd h (by simp),fun _=>?_⟩);refine dd ?_;(refine ⟨by simp,?_⟩);(conv=>whnf)
  exact ⟨.inl rfl,_,.refl _,rfl⟩
theorem zcW (c:Cfg) (hc:w5 c):zc Tryz.prog 177 [] [Cf c] (t2 (jj (zbj c.zm) c.zm.length)) []:=by
 have m1:(c.zm.map jn).length=c.zm.length:=List.length_map ..
 have hl:=hc.zm.1
 refine zc.zr (fn:=Tryz.f177) Tryz.func177 rfl ?_
 conv=>whnf
 rw [m1]
 refine qb.seq c.zm.length (fun k=>[Cf c,.ref 0 [] 3 0 0,I 0,I 0,.za,.za,.za,.za,lC c.zm,I c.zm.length,I k,.za,.za,.za,.za,.za,.za,.za,.za,.za,.za,.za,.za,.za,.za,.za,.za,.za,.za,.za,.za,.za,.za,.za,.za,.za,.za,.za,.za,.za,.za,.za,.za,.za,.za,.za,.za,.za,.za,.za,.za,.za,.za,.za,.za]) (fun k=>[⟨1,221,3,[zhr c],0⟩]) (fun k=>∀ j,j < k->zbj c.zm j=0) ?_ (by simp) (fun k hk hr=>?_) (fun hr=>?_)
 ·exact cC
 ·obtain ⟨x,hx⟩:∃ x,x=c.zm[k]:=⟨_,rfl⟩
  have hg:(c.zm.map jn)[k]?= some (jn x):=by rw [List.getElem?_map,List.getElem?_eq_getElem hk,hx];rfl
  have hs:=hc.zm.2 x (by rw [hx];exact List.getElem_mem hk)
  have he:zbj c.zm k=if jR x.name=false then 3 else if zae (c.zm.take k) x.name then 4 else if x.jJ≠1∧x.jJ≠2 then 9 else if (decide (1<=x.yA) && decide (x.yA<=4))=false then 10
    else if (decide (1<=(x.zM.length:Int)) && decide ((x.zM.length:Int)<=4))=false then 6 else 0:=by
   unfold zbj;rw [List.getElem?_eq_getElem hk,hx]
  have mh:(x.zM.map yu).length=x.zM.length:=List.length_map ..
  conv=>whnf
  refine ⟨fun _=>?_,fun h=>absurd h (by simp;omega)⟩
  refine dd ?_
  refine ⟨by omega,_,by rw [toNat_cast];exact hg,?_⟩
  refine dd ?_
  refine ⟨_,_,(xf x.name (by omega)).frame rfl _,?_⟩;refine dd ?_
  refine ⟨fun h2=>?_,fun h2=>?_⟩
  ·refine dd ?_
   (repeat ((first | apply ya | apply yb);refine dd ?_))
   refine .inl ⟨⟨false,[2,6,7],[0,1],[]⟩,by kernel_rfl,?_⟩;(conv=>whnf)
   (refine ⟨.inr rfl,?_⟩);refine dd ?_;(refine ⟨by omega,Nat.zero_le _,by rw [m1];omega,?_⟩);refine dd ?_;(rw [List.drop_zero,Nat.sub_zero,toNat_cast,<- List.map_take])
   refine ⟨Bo (zae (c.zm.take k) x.name),fun H2=>(zb9 (c.zm.take k) x.name (by simp;omega)).frame rfl H2,?_⟩
   refine dd ?_
   refine ⟨fun h3=>?_,fun h3=>?_⟩
   ·refine dd ?_
    rw [je hk hr (by rw [he,if_neg (by simp [h2]),if_pos h3]) (by decide)]
    (refine .inr ⟨by simp,?_⟩);(conv=>whnf)
    exact ⟨.inl rfl,_,.refl _,rfl⟩
   ·have he:=he.trans ((if_neg (by simp [h2])).trans (if_neg (by simp [h3])))
    refine dd ?_
    refine ⟨fun h4=>?_,fun h4=>?_⟩
    ·have h4:x.jJ≠1:=by simpa using h4
     refine dd ?_
     refine ⟨fun h5=>?_,fun h5=>?_⟩
     ·have h5:x.jJ≠2:=by simpa using h5
      refine dd ?_
      rw [je hk hr (by rw [he,if_pos ⟨h4,h5⟩]) (by decide)]
      (refine .inr ⟨by simp,?_⟩);(conv=>whnf)
      exact ⟨.inl rfl,_,.refl _,rfl⟩
     ·have h5:x.jJ=2:=by simpa using h5
      have he:=he.trans (if_neg (fun h=>h.2 h5))
      refine dd ?_
      refine ⟨_,_,(jX _ _ _).frame rfl _,?_⟩;refine dd ?_;(refine ⟨fun h6=>?_,fun h6=>?_⟩);rotate_left;(focus (refine dd ?_;(repeat ((first | apply ya | apply yb);refine dd ?_));(rw [je hk hr (by rw [he,if_pos h6]) (by decide)]);(refine .inr ⟨by simp,?_⟩);(conv=>whnf);exact ⟨.inl rfl,_,.refl _,rfl⟩));(have he:=he.trans (if_neg (by simp only [h6];decide)));refine dd ?_;(repeat ((first | apply ya | apply yb);refine dd ?_));(rw [mh]);refine ⟨_,_,(jX _ _ _).frame rfl _,?_⟩;refine dd ?_;(refine ⟨fun h7=>?_,fun h7=>?_⟩);rotate_left;(focus (refine dd ?_;(repeat ((first | apply ya | apply yb);refine dd ?_));(rw [je hk hr (by rw [he,if_pos h7]) (by decide)]);(refine .inr ⟨by simp,?_⟩);(conv=>whnf);exact ⟨.inl rfl,_,.refl _,rfl⟩));(have he:=he.trans (if_neg (by simp only [h7];decide)));refine dd ?_;(repeat ((first | apply ya | apply yb);refine dd ?_));(refine .inl ⟨rfl,?_,(fun j hj=>by (by_cases e:j=k);(subst e;exact he);(exact hr j (by omega)))⟩);(rw [zD (by omega)]);exact cE 1
    ·have h4:x.jJ=1:=by simpa using h4
     have he:=he.trans (if_neg (fun h=>h.1 h4))
     refine dd ?_
     refine ⟨_,_,(jX _ _ _).frame rfl _,?_⟩;refine dd ?_;(refine ⟨fun h6=>?_,fun h6=>?_⟩);rotate_left;(focus (refine dd ?_;(repeat ((first | apply ya | apply yb);refine dd ?_));(rw [je hk hr (by rw [he,if_pos h6]) (by decide)]);(refine .inr ⟨by simp,?_⟩);(conv=>whnf);exact ⟨.inl rfl,_,.refl _,rfl⟩));(have he:=he.trans (if_neg (by simp only [h6];decide)));refine dd ?_;(repeat ((first | apply ya | apply yb);refine dd ?_));(rw [mh]);refine ⟨_,_,(jX _ _ _).frame rfl _,?_⟩;refine dd ?_;(refine ⟨fun h7=>?_,fun h7=>?_⟩);rotate_left;(focus (refine dd ?_;(repeat ((first | apply ya | apply yb);refine dd ?_));(rw [je hk hr (by rw [he,if_pos h7]) (by decide)]);(refine .inr ⟨by simp,?_⟩);(conv=>whnf);exact ⟨.inl rfl,_,.refl _,rfl⟩));(have he:=he.trans (if_neg (by simp only [h7];decide)));refine dd ?_;(repeat ((first | apply ya | apply yb);refine dd ?_));(refine .inl ⟨rfl,?_,(fun j hj=>by (by_cases e:j=k);(subst e;exact he);(exact hr j (by omega)))⟩);(rw [zD (by omega)]);exact cE 1
  ·refine dd ?_
   (repeat ((first | apply ya | apply yb);refine dd ?_))
   rw [je hk hr (by rw [he,if_pos h2]) (by decide)]
   refine .inr ⟨by simp,?_⟩
   conv=>whnf
   exact ⟨.inl rfl,_,.refl _,rfl⟩
 ·rw [zbn hr]
  (conv=>whnf);(refine ⟨fun h=>absurd h (by simp),fun _=>?_⟩);refine dd ?_;(refine ⟨by simp,?_⟩);(conv=>whnf)
  exact ⟨.inl rfl,_,.refl _,rfl⟩
theorem zfN (c:Cfg) (hc:w5 c):zc Tryz.prog 178 [] [Cf c] (t2 (jj (zdN c) c.qf.length)) []:=by
 have m1:(c.qf.map kQ).length=c.qf.length:=List.length_map ..
 have hl:=hc.qf.1
 have hl1:=hc.ze.1
 have hl2:=hc.zm.1
 refine zc.zr (fn:=Tryz.f178) Tryz.func178 rfl ?_
 conv=>whnf
 rw [m1]
 refine qb.seq c.qf.length (fun k=>(Cf c:: .ref 0 [] 3 0 0::I 0::I 0:: .za::.za::.za::.za::.za::.za::lO c.qf::I c.qf.length::I k:: .za::.za::.za::.za::.za::.za::.za::.za::.za::.za::.za::.za::.za::.za::.za::.za::.za::.za::.za::.za::.za::.za::.za::.za::.za::.za::.za::.za::.za::.za::.za::.za::.za::.za::.za::.za::.za::.za::.za::.za::.za::.za::.za::.za::.za::.za::.za::.za::.za::.za::.za::.za::[])) (fun k=>[⟨1,221,3,[zhr c],0⟩]) (fun k=>∀ j,j < k->zdN c j=0) ?_ (by simp) (fun k hk hr=>?_) (fun hr=>?_)
 ·exact cC
 ·obtain ⟨r,hx⟩:∃ r,r=c.qf[k]:=⟨_,rfl⟩
  have hg:(c.qf.map kQ)[k]?= some (kQ r):=by rw [List.getElem?_map,List.getElem?_eq_getElem hk,hx];rfl
  have hs:=hc.qf.2 r (by rw [hx];exact List.getElem_mem hk)
  have he:zdN c k=if c.ze.any (fun x=>x == r.listen)=false then 5 else if zcs r.host=false then 7 else if kq r.path=false then 8 else if zae c.zm r.zg=false then 5
    else if (c.qf.take k).any (fun q=>wU q r) then 4 else 0:=by
   unfold zdN;rw [List.getElem?_eq_getElem hk,hx]
  have m2:((c.qf.take k).map kQ).length=k:=by simp;omega
  have hlk:(c.qf.take k).length=k:=by simp;omega
  conv=>whnf
  (refine ⟨fun _=>?_,fun h=>absurd h (by simp;omega)⟩);refine dd ?_
  (refine ⟨by omega,_,by rw [toNat_cast];exact hg,?_⟩);refine dd ?_
  refine ⟨_,_,(zcY c.ze r.listen (by omega)).frame rfl _,?_⟩;refine dd ?_
  refine ⟨fun h2=>?_,fun h2=>?_⟩
  rotate_left
  ·refine dd ?_
   (repeat ((first | apply ya | apply yb);refine dd ?_))
   rw [je hk hr (by rw [he,if_pos h2]) (by decide)]
   (refine .inr ⟨by simp,?_⟩);(conv=>whnf)
   exact ⟨.inl rfl,_,.refl _,rfl⟩
  have he:=he.trans (if_neg (by simp [h2]))
  refine dd ?_
  (repeat ((first | apply ya | apply yb);refine dd ?_))
  refine ⟨_,_,(vu r.host (by omega)).frame rfl _,?_⟩;refine dd ?_
  refine ⟨fun h3=>?_,fun h3=>?_⟩
  rotate_left
  ·refine dd ?_
   (repeat ((first | apply ya | apply yb);refine dd ?_))
   rw [je hk hr (by rw [he,if_pos h3]) (by decide)]
   (refine .inr ⟨by simp,?_⟩);(conv=>whnf)
   exact ⟨.inl rfl,_,.refl _,rfl⟩
  have he:=he.trans (if_neg (by simp [h3]))
  refine dd ?_
  (repeat ((first | apply ya | apply yb);refine dd ?_))
  refine ⟨_,_,(zai r.path (by omega)).frame rfl _,?_⟩;refine dd ?_
  refine ⟨fun h4=>?_,fun h4=>?_⟩
  rotate_left
  ·refine dd ?_
   (repeat ((first | apply ya | apply yb);refine dd ?_))
   rw [je hk hr (by rw [he,if_pos h4]) (by decide)]
   (refine .inr ⟨by simp,?_⟩);(conv=>whnf)
   exact ⟨.inl rfl,_,.refl _,rfl⟩
  have he:=he.trans (if_neg (by simp [h4]))
  refine dd ?_
  (repeat ((first | apply ya | apply yb);refine dd ?_))
  refine ⟨_,_,(zb9 c.zm r.zg (by omega)).frame rfl _,?_⟩;refine dd ?_
  refine ⟨fun h5=>?_,fun h5=>?_⟩
  rotate_left
  ·refine dd ?_
   (repeat ((first | apply ya | apply yb);refine dd ?_))
   rw [je hk hr (by rw [he,if_pos h5]) (by decide)]
   (refine .inr ⟨by simp,?_⟩);(conv=>whnf)
   exact ⟨.inl rfl,_,.refl _,rfl⟩
  have he:=he.trans (if_neg (by simp [h5]))
  refine dd ?_
  (repeat ((first | apply ya | apply yb);refine dd ?_))
  (refine ⟨.inr rfl,?_⟩);refine dd ?_;(refine ⟨by omega,Nat.zero_le _,by rw [m1];omega,?_⟩);refine dd ?_;(rw [List.drop_zero,Nat.sub_zero,toNat_cast,<- List.map_take])
  rw [m2]
  refine qb.seq k (fun j=>(Cf c:: .ref 0 [] 3 0 0::I 0::I 0::I k:: .ref 1 [] 4 0 0:: .za::.za::.za::.za::lO c.qf::I c.qf.length::I k:: .za::.za::.za::.za::.za::.za::.za::.za::.za::.za::.za::.za::.za::.za::.za::.za::.za::.za::.za::.za::.za::.za::.za::.za::.za::.za::.za::.za::.za::.za::.za::.za::.za::.za::.za::.za::.za::.za::.za::lO (c.qf.take k)::I k::I j:: .za::.za::.za::.za::.za::.za::.za::.za::.za::.za::[])) (fun j=>[⟨1,221,3,[zhr c],0⟩,⟨1,150,4,[[Tx r.listen,Tx r.host,Tx r.path,Tx []]],0⟩]) (fun j=>∀ i,(h:i < c.qf.length)->i < j->wU c.qf[i] r=false) ?_ (by simp) (fun j hj hrj=>?_) (fun hrj=>?_)
  ·exact cC
  ·obtain ⟨q,hq⟩:∃ q,q=c.qf[j]:=⟨_,rfl⟩
   have hgq:((c.qf.take k).map kQ)[j]?= some (kQ q):=by rw [List.getElem?_map,List.getElem?_eq_getElem (by omega),hq,List.getElem_take];rfl
   conv=>whnf
   (refine ⟨fun _=>?_,fun h=>absurd h (by simp;omega)⟩);refine dd ?_
   (refine ⟨by omega,_,by rw [toNat_cast];exact hgq,?_⟩);refine dd ?_
   refine ⟨by kernel_rfl,?_⟩
   refine dd ?_
   refine ⟨fun h6=>?_,fun h6=>?_⟩
   ·have h6:wU q r=true:=by simp at h6;simp [wU,h6]
    have ha:(c.qf.take k).any (fun q=>wU q r)=true:=by
     rw [List.any_eq_true]
     exact ⟨q,by rw [hq,List.mem_iff_getElem];exact ⟨j,by omega,List.getElem_take⟩,h6⟩
    refine dd ?_
    rw [je hk hr (by rw [he,if_pos ha]) (by decide)]
    (refine .inr ⟨by simp,?_⟩);(conv=>whnf)
    refine .inr ⟨by simp,?_⟩
    conv=>whnf
    exact ⟨.inl rfl,_,.refl _,rfl⟩
   ·have h6:wU q r=false:=by
     cases hs:wU q r with
     | false=>rfl
     | true=>simp [wU] at hs;simp [hs] at h6
    refine dd ?_
    refine .inl ⟨rfl,?_,fun i hi hij=>?_⟩
    ·rw [zD (by omega)]
     exact cE 2
    ·by_cases e:i=j
     ·subst e;rw [<- hq];exact h6
     ·exact hrj i hi (by omega)
  ·have ha:(c.qf.take k).any (fun q=>wU q r)=false:=by
    rw [List.any_eq_false]
    intro q hq
    obtain ⟨i,hi,rfl⟩:=List.mem_iff_getElem.1 hq
    rw [List.getElem_take]
    simp [hrj i (by omega) (by omega)]
   have he:=he.trans (if_neg (by simp [ha]))
   (conv=>whnf);(refine ⟨fun h=>absurd h (by simp),fun _=>?_⟩);refine dd ?_;(refine ⟨by simp,?_⟩);(conv=>whnf)
   refine .inl ⟨rfl,?_,(fun j hj=>by (by_cases e:j=k);(subst e;exact he);(exact hr j (by omega)))⟩
   rw [zD (by omega)]
   exact cE 1
 ·rw [zbn hr]
  (conv=>whnf);(refine ⟨fun h=>absurd h (by simp),fun _=>?_⟩);refine dd ?_;(refine ⟨by simp,?_⟩);(conv=>whnf)
  exact ⟨.inl rfl,_,.refl _,rfl⟩
theorem check_sound (c:Cfg) (hc:w5 c):zc Tryz.prog 126 [] [Cf c] (t2 (xb c)) []:=by
 refine zc.zr (fn:=Tryz.f126) Tryz.func126 rfl ?_
 conv=>whnf
 refine .ofN 5 (.step ?_)
 conv=>whnf
 (refine ⟨fun _=>?_,fun h=>absurd (h.symm.trans rfl:false=true) (by decide)⟩);refine dd ?_
 refine ⟨by decide,_,rfl,?_⟩
 refine dd ?_
 refine ⟨_,_,(zii c hc).frame rfl _,?_⟩;refine dd ?_
 refine ⟨fun h1=>?_,fun h1=>?_⟩
 ·have e:xb c=yz c:=by unfold xb;rw [if_pos (by simpa using h1)]
  rw [e]
  refine dd ?_
  (refine .inr ⟨by simp,?_⟩);(conv=>whnf)
  exact ⟨.inl rfl,_,.refl _,rfl⟩
 have h1:(yz c).1=0:=by simpa using h1
 refine dd ?_
 refine .inl ⟨rfl,.step ?_⟩
 conv=>whnf
 (refine ⟨fun _=>?_,fun h=>absurd (h.symm.trans rfl:false=true) (by decide)⟩);refine dd ?_
 refine ⟨by decide,_,rfl,?_⟩
 refine dd ?_
 refine ⟨_,_,(zei c hc).frame rfl _,?_⟩;refine dd ?_
 refine ⟨fun h2=>?_,fun h2=>?_⟩
 ·have e:xb c=jj (zfx c.ze) c.ze.length:=by unfold xb;rw [if_neg (by simp [h1]),if_pos (by simpa using h2)]
  rw [e]
  refine dd ?_
  (refine .inr ⟨by simp,?_⟩);(conv=>whnf)
  exact ⟨.inl rfl,_,.refl _,rfl⟩
 have h2:(jj (zfx c.ze) c.ze.length).1=0:=by simpa using h2
 refine dd ?_
 refine .inl ⟨rfl,.step ?_⟩
 conv=>whnf
 (refine ⟨fun _=>?_,fun h=>absurd (h.symm.trans rfl:false=true) (by decide)⟩);refine dd ?_
 refine ⟨by decide,_,rfl,?_⟩
 refine dd ?_
 refine ⟨_,_,(zcW c hc).frame rfl _,?_⟩;refine dd ?_
 refine ⟨fun h3=>?_,fun h3=>?_⟩
 ·have e:xb c=jj (zbj c.zm) c.zm.length:=by unfold xb;rw [if_neg (by simp [h1]),if_neg (by simp [h2]),if_pos (by simpa using h3)]
  rw [e]
  refine dd ?_
  (refine .inr ⟨by simp,?_⟩);(conv=>whnf)
  exact ⟨.inl rfl,_,.refl _,rfl⟩
 have h3:(jj (zbj c.zm) c.zm.length).1=0:=by simpa using h3
 refine dd ?_
 refine .inl ⟨rfl,.step ?_⟩
 conv=>whnf
 (refine ⟨fun _=>?_,fun h=>absurd (h.symm.trans rfl:false=true) (by decide)⟩);refine dd ?_
 refine ⟨by decide,_,rfl,?_⟩
 refine dd ?_
 refine ⟨_,_,(zfN c hc).frame rfl _,?_⟩;refine dd ?_
 refine ⟨fun h4=>?_,fun h4=>?_⟩
 ·have e:xb c=jj (zdN c) c.qf.length:=by unfold xb;rw [if_neg (by simp [h1]),if_neg (by simp [h2]),if_neg (by simp [h3]),if_pos (by simpa using h4)]
  rw [e]
  refine dd ?_
  (refine .inr ⟨by simp,?_⟩);(conv=>whnf)
  exact ⟨.inl rfl,_,.refl _,rfl⟩
 have h4:(jj (zdN c) c.qf.length).1=0:=by simpa using h4
 refine dd ?_
 refine .inl ⟨rfl,.step ?_⟩
 conv=>whnf
 (refine ⟨fun h=>absurd (h.symm.trans rfl:true=false) (by decide),fun _=>?_⟩);refine dd ?_
 (refine .inr ⟨by simp,?_⟩);(conv=>whnf)
 have e:xb c=(0,0):=by unfold xb;rw [if_neg (by simp [h1]),if_neg (by simp [h2]),if_neg (by simp [h3]),if_neg (by simp [h4])]
 rw [e]
 exact ⟨.inl rfl,_,.refl _,rfl⟩
end Go.Con
namespace Go.Con
open Go.Ab Go.Proofs Go.Hy Go.Gat Go.Nam Go.Hos
def zjE (l:List Clu) (s:Str):Int:=match l.findIdx? (fun x=>x.name == s) with | some i=>(i:Int) | none=> -1
end Go.Con
