import Derived.Test.YtgllekalddijbaaGreatUD
import Derived.Test.YtgllekalddijbaaGreatUC
set_option linter.unusedVariables false
set_option linter.unusedSimpArgs false
set_option linter.unusedSectionVars false
set_option maxRecDepth 100000
set_option maxHeartbeats 4000000
namespace Go.Con
open Go.Ab Go.Proofs Go.Hy Go.Gat Go.Nam Go.Hos
def qN (f:Nat->Int) (n:Nat):Int × Int:=match (List.range n).find? fun i=>f i != 0 with
 | some i=>(f i,i)
 | none=>(0,0)
theorem qw {f:Nat->Int} {n k:Nat} {e:Int} (hk:k < n) (hr:∀ j,j < k->f j=0) (h:f k=e) (he:e≠0):qN f n=(e,(k:Int)):=by
 unfold qN
 have:(List.range n).find? (fun i=>f i != 0)=some k:=by
  rw [List.find?_range_eq_some]
  exact ⟨by simp [h,he],by simpa using hk,fun j hj=>by simp [hr j hj]⟩
 rw [this]
 simp [h]
theorem zab {f:Nat->Int} {n:Nat} (hr:∀ j,j < n->f j=0):qN f n=(0,0):=by
 unfold qN
 have:(List.range n).find? (fun i=>f i != 0)=none:=by
  rw [List.find?_range_eq_none]
  intro i hi
  simp [hr i hi]
 rw [this]
def ze7 (l:List Str) (i:Nat):Int:=match l[i]? with
 | none=>0
 | some s=>if jH s=false then 3 else if (l.take i).any (fun x=>x == s) then 4 else 0
def zcA (l:List Clu) (i:Nat):Int:=match l[i]? with
 | none=>0
 | some c=>if jH c.name=false then 3 else if zak (l.take i) c.name then 4 else if c.jQ≠1∧c.jQ≠2 then 9 else if (decide (1<=c.xG) && decide (c.xG<=4))=false then 10
   else if (decide (1<=(c.zT.length:Int)) && decide ((c.zT.length:Int)<=4))=false then 6 else 0
def kj (a b:Rou):Bool:=a.listen == b.listen && a.host == b.host && a.path == b.path
def zfn (c:Cfg) (i:Nat):Int:=match c.zI[i]? with
 | none=>0
 | some r=>if c.zc.any (fun x=>x == r.listen)=false then 5 else if zfg r.host=false then 7 else if wu r.path=false then 8 else if zak c.zf r.zn=false then 5
   else if (c.zI.take i).any (fun q=>kj q r) then 4 else 0
def x8 (c:Cfg):Int × Int:=
 if ((decide (1<=(c.zc.length:Int)) && decide ((c.zc.length:Int)<=4))=false∨(decide (1<=(c.zI.length:Int)) && decide ((c.zI.length:Int)<=8))=false)∨(decide (1<=(c.zf.length:Int)) && decide ((c.zf.length:Int)<=4))=false then (6,0) else (0,0)
def jN (c:Cfg):Int × Int:=
 if (x8 c).1≠0 then x8 c else if (qN (ze7 c.zc) c.zc.length).1≠0 then qN (ze7 c.zc) c.zc.length
 else if (qN (zcA c.zf) c.zf.length).1≠0 then qN (zcA c.zf) c.zf.length
 else if (qN (zfn c) c.zI.length).1≠0 then qN (zfn c) c.zI.length else (0,0)
abbrev t2 (r:Int × Int):C:=.tup [I r.1,I r.2]
abbrev Cf (c:Cfg):C:=.agg (zf0 c)
structure zbw (c:Cfg):Prop where
 zc:c.zc.length < 1000000000000∧∀ s ∈ c.zc,s.length < 4000000000000000000
 zI:c.zI.length < 1000000000000∧∀ r ∈ c.zI,r.listen.length < 4000000000000000000∧r.host.length < 1000000000000∧r.path.length < 1000000000000∧r.zn.length < 4000000000000000000
 zf:c.zf.length < 1000000000000∧∀ x ∈ c.zf,x.name.length < 4000000000000000000∧x.zT.length < 4000000000000000000
structure wS (c:Cfg):Prop where
 zc:c.zc.length < 1000000000000000∧∀ s ∈ c.zc,s.length < 4000000000000000000
 zI:c.zI.length < 1000000000000000∧∀ r ∈ c.zI,r.listen.length < 4000000000000000000∧r.host.length < 1000000000000000∧r.path.length < 1000000000000000∧r.zn.length < 4000000000000000000
 zf:c.zf.length < 1000000000000000∧∀ x ∈ c.zf,x.name.length < 4000000000000000000∧x.zT.length < 4000000000000000000
theorem zbw.k {c:Cfg} (h:zbw c):wS c:=
 ⟨⟨by have:=h.zc.1;omega,h.zc.2⟩,⟨by have:=h.zI.1;omega,fun r hr=>by have:=h.zI.2 r hr;omega⟩,⟨by have:=h.zf.1;omega,h.zf.2⟩⟩
theorem zgT (c:Cfg) (hc:wS c):zb Tryz.prog 175 [] [Cf c] (t2 (x8 c)) []:=by
 have m1:(c.zc.map w8).length=c.zc.length:=List.length_map ..
 have m2:(c.zI.map vY).length=c.zI.length:=List.length_map ..
 have m3:(c.zf.map jW).length=c.zf.length:=List.length_map ..
 refine zb.zm (fn:=Tryz.f175) Tryz.func175 rfl ?_
 conv=>whnf
 rw [m1]
 refine ⟨_,_,(jb _ _ _).frame rfl _,?_⟩;refine dd ?_
 refine ⟨fun h1=>?_,fun h1=>?_⟩
 ·refine dd ?_
  (repeat ((first | apply ya | apply yb);refine dd ?_))
  rw [m2]
  refine ⟨_,_,(jb _ _ _).frame rfl _,?_⟩;refine dd ?_
  refine ⟨fun h2=>?_,fun h2=>?_⟩
  ·refine dd ?_
   (repeat ((first | apply ya | apply yb);refine dd ?_))
   rw [m3]
   refine ⟨_,_,(jb _ _ _).frame rfl _,?_⟩;refine dd ?_
   refine ⟨fun h3=>?_,fun h3=>?_⟩
   ·refine dd ?_
    (repeat ((first | apply ya | apply yb);refine dd ?_))
    have e:x8 c=(0,0):=by unfold x8;rw [if_neg];simp only [h1,h2,h3];simp
    rw [e]
    exact ⟨.inl rfl,_,.refl _,rfl⟩
   ·refine dd ?_
    (repeat ((first | apply ya | apply yb);refine dd ?_))
    have e:x8 c=(6,0):=by unfold x8;rw [if_pos (.inr h3)]
    rw [e]
    exact ⟨.inl rfl,_,.refl _,rfl⟩
  ·refine dd ?_
   (repeat ((first | apply ya | apply yb);refine dd ?_))
   have e:x8 c=(6,0):=by unfold x8;rw [if_pos (.inl (.inr h2))]
   rw [e]
   exact ⟨.inl rfl,_,.refl _,rfl⟩
 ·refine dd ?_
  (repeat ((first | apply ya | apply yb);refine dd ?_))
  have e:x8 c=(6,0):=by unfold x8;rw [if_pos (.inl (.inl h1))]
  rw [e]
  exact ⟨.inl rfl,_,.refl _,rfl⟩
theorem zcF (c:Cfg) (hc:wS c):zb Tryz.prog 176 [] [Cf c] (t2 (qN (ze7 c.zc) c.zc.length)) []:=by
 have m1:(c.zc.map w8).length=c.zc.length:=List.length_map ..
 have hl:=hc.zc.1
 refine zb.zm (fn:=Tryz.f176) Tryz.func176 rfl ?_
 conv=>whnf
 rw [m1]
 refine zM.seq c.zc.length (fun k=>[Cf c,.ref 0 [] 3 0 0,I 0,I 0,.za,.za,.za,.za,lT c.zc,I c.zc.length,I k,.za,.za,.za,.za,.za,.za,.za,.za,.za,.za,.za,.za,.za,.za,.za,.za,.za,.za,.za]) (fun k=>[⟨1,221,3,[zf0 c],0⟩]) (fun k=>∀ j,j < k->ze7 c.zc j=0) ?_ (by simp) (fun k hk hr=>?_) (fun hr=>?_)
 ·exact cC
 ·have hg:(c.zc.map w8)[k]?= some (w8 c.zc[k]):=by rw [List.getElem?_map,List.getElem?_eq_getElem hk];rfl
  have hs:=hc.zc.2 _ (List.getElem_mem hk)
  have he:ze7 c.zc k=if jH c.zc[k]=false then 3 else if (c.zc.take k).any (fun x=>x == c.zc[k]) then 4 else 0:=by
   unfold ze7;rw [List.getElem?_eq_getElem hk]
  conv=>whnf
  refine ⟨fun _=>?_,fun h=>absurd h (by simp;omega)⟩
  refine dd ?_
  refine ⟨by omega,_,by rw [toNat_cast];exact hg,?_⟩
  refine dd ?_
  refine ⟨_,_,(ju c.zc[k] (by omega)).frame rfl _,?_⟩;refine dd ?_
  refine ⟨fun h2=>?_,fun h2=>?_⟩
  ·refine dd ?_
   (repeat ((first | apply ya | apply yb);refine dd ?_))
   (refine ⟨.inr rfl,?_⟩);refine dd ?_;(refine ⟨by omega,Nat.zero_le _,by rw [m1];omega,?_⟩);refine dd ?_;(rw [List.drop_zero,Nat.sub_zero,toNat_cast,<- List.map_take])
   refine ⟨_,_,(zbG (c.zc.take k) c.zc[k] (by simp;omega)).frame rfl _,?_⟩;refine dd ?_
   refine ⟨fun h3=>?_,fun h3=>?_⟩
   ·refine dd ?_
    rw [qw hk hr (by rw [he,if_neg (by simp [h2]),if_pos h3]) (by decide)]
    refine .inr ⟨by simp,?_⟩
    conv=>whnf
    exact ⟨.inl rfl,_,.refl _,rfl⟩
   ·refine dd ?_
    refine .inl ⟨rfl,?_,(fun j hj=>by (by_cases e:j=k);(subst e;exact (by rw [he,if_neg (by simp [h2]),if_neg (by simp [h3])]));(exact hr j (by omega)))⟩
    rw [zp (by omega)]
    exact cE 1
  ·refine dd ?_
   (repeat ((first | apply ya | apply yb);refine dd ?_))
   rw [qw hk hr (by rw [he,if_pos h2]) (by decide)]
   refine .inr ⟨by simp,?_⟩
   conv=>whnf
   exact ⟨.inl rfl,_,.refl _,rfl⟩
 ·rw [zab hr]
  (conv=>whnf);(refine ⟨fun h=>absurd h (by simp),fun _=>?_⟩);refine dd ?_;(refine ⟨by simp,?_⟩);(conv=>whnf)
  exact ⟨.inl rfl,_,.refl _,rfl⟩
theorem zbD (c:Cfg) (hc:wS c):zb Tryz.prog 177 [] [Cf c] (t2 (qN (zcA c.zf) c.zf.length)) []:=by
 have m1:(c.zf.map jW).length=c.zf.length:=List.length_map ..
 have hl:=hc.zf.1
 refine zb.zm (fn:=Tryz.f177) Tryz.func177 rfl ?_
 conv=>whnf
 rw [m1]
 refine zM.seq c.zf.length (fun k=>[Cf c,.ref 0 [] 3 0 0,I 0,I 0,.za,.za,.za,.za,lC c.zf,I c.zf.length,I k,.za,.za,.za,.za,.za,.za,.za,.za,.za,.za,.za,.za,.za,.za,.za,.za,.za,.za,.za,.za,.za,.za,.za,.za,.za,.za,.za,.za,.za,.za,.za,.za,.za,.za,.za,.za,.za,.za,.za,.za,.za,.za,.za,.za]) (fun k=>[⟨1,221,3,[zf0 c],0⟩]) (fun k=>∀ j,j < k->zcA c.zf j=0) ?_ (by simp) (fun k hk hr=>?_) (fun hr=>?_)
 ·exact cC
 ·obtain ⟨x,hx⟩:∃ x,x=c.zf[k]:=⟨_,rfl⟩
  have hg:(c.zf.map jW)[k]?= some (jW x):=by rw [List.getElem?_map,List.getElem?_eq_getElem hk,hx];rfl
  have hs:=hc.zf.2 x (by rw [hx];exact List.getElem_mem hk)
  have he:zcA c.zf k=if jH x.name=false then 3 else if zak (c.zf.take k) x.name then 4 else if x.jQ≠1∧x.jQ≠2 then 9 else if (decide (1<=x.xG) && decide (x.xG<=4))=false then 10
    else if (decide (1<=(x.zT.length:Int)) && decide ((x.zT.length:Int)<=4))=false then 6 else 0:=by
   unfold zcA;rw [List.getElem?_eq_getElem hk,hx]
  have mh:(x.zT.map xV).length=x.zT.length:=List.length_map ..
  conv=>whnf
  refine ⟨fun _=>?_,fun h=>absurd h (by simp;omega)⟩
  refine dd ?_
  refine ⟨by omega,_,by rw [toNat_cast];exact hg,?_⟩
  refine dd ?_
  refine ⟨_,_,(ju x.name (by omega)).frame rfl _,?_⟩;refine dd ?_
  refine ⟨fun h2=>?_,fun h2=>?_⟩
  ·refine dd ?_
   (repeat ((first | apply ya | apply yb);refine dd ?_))
   refine .inl ⟨⟨false,[2,6,7],[0,1],[]⟩,by kernel_rfl,?_⟩;(conv=>whnf)
   (refine ⟨.inr rfl,?_⟩);refine dd ?_;(refine ⟨by omega,Nat.zero_le _,by rw [m1];omega,?_⟩);refine dd ?_;(rw [List.drop_zero,Nat.sub_zero,toNat_cast,<- List.map_take])
   refine ⟨Bo (zak (c.zf.take k) x.name),fun H2=>(zaS (c.zf.take k) x.name (by simp;omega)).frame rfl H2,?_⟩
   refine dd ?_
   refine ⟨fun h3=>?_,fun h3=>?_⟩
   ·refine dd ?_
    rw [qw hk hr (by rw [he,if_neg (by simp [h2]),if_pos h3]) (by decide)]
    (refine .inr ⟨by simp,?_⟩);(conv=>whnf)
    exact ⟨.inl rfl,_,.refl _,rfl⟩
   ·have he:=he.trans ((if_neg (by simp [h2])).trans (if_neg (by simp [h3])))
    refine dd ?_
    refine ⟨fun h4=>?_,fun h4=>?_⟩
    ·have h4:x.jQ≠1:=by simpa using h4
     refine dd ?_
     refine ⟨fun h5=>?_,fun h5=>?_⟩
     ·have h5:x.jQ≠2:=by simpa using h5
      refine dd ?_
      rw [qw hk hr (by rw [he,if_pos ⟨h4,h5⟩]) (by decide)]
      (refine .inr ⟨by simp,?_⟩);(conv=>whnf)
      exact ⟨.inl rfl,_,.refl _,rfl⟩
     ·have h5:x.jQ=2:=by simpa using h5
      have he:=he.trans (if_neg (fun h=>h.2 h5))
      refine dd ?_
      refine ⟨_,_,(jb _ _ _).frame rfl _,?_⟩;refine dd ?_;(refine ⟨fun h6=>?_,fun h6=>?_⟩);rotate_left;(focus (refine dd ?_;(repeat ((first | apply ya | apply yb);refine dd ?_));(rw [qw hk hr (by rw [he,if_pos h6]) (by decide)]);(refine .inr ⟨by simp,?_⟩);(conv=>whnf);exact ⟨.inl rfl,_,.refl _,rfl⟩));(have he:=he.trans (if_neg (by simp only [h6];decide)));refine dd ?_;(repeat ((first | apply ya | apply yb);refine dd ?_));(rw [mh]);refine ⟨_,_,(jb _ _ _).frame rfl _,?_⟩;refine dd ?_;(refine ⟨fun h7=>?_,fun h7=>?_⟩);rotate_left;(focus (refine dd ?_;(repeat ((first | apply ya | apply yb);refine dd ?_));(rw [qw hk hr (by rw [he,if_pos h7]) (by decide)]);(refine .inr ⟨by simp,?_⟩);(conv=>whnf);exact ⟨.inl rfl,_,.refl _,rfl⟩));(have he:=he.trans (if_neg (by simp only [h7];decide)));refine dd ?_;(repeat ((first | apply ya | apply yb);refine dd ?_));(refine .inl ⟨rfl,?_,(fun j hj=>by (by_cases e:j=k);(subst e;exact he);(exact hr j (by omega)))⟩);(rw [zp (by omega)]);exact cE 1
    ·have h4:x.jQ=1:=by simpa using h4
     have he:=he.trans (if_neg (fun h=>h.1 h4))
     refine dd ?_
     refine ⟨_,_,(jb _ _ _).frame rfl _,?_⟩;refine dd ?_;(refine ⟨fun h6=>?_,fun h6=>?_⟩);rotate_left;(focus (refine dd ?_;(repeat ((first | apply ya | apply yb);refine dd ?_));(rw [qw hk hr (by rw [he,if_pos h6]) (by decide)]);(refine .inr ⟨by simp,?_⟩);(conv=>whnf);exact ⟨.inl rfl,_,.refl _,rfl⟩));(have he:=he.trans (if_neg (by simp only [h6];decide)));refine dd ?_;(repeat ((first | apply ya | apply yb);refine dd ?_));(rw [mh]);refine ⟨_,_,(jb _ _ _).frame rfl _,?_⟩;refine dd ?_;(refine ⟨fun h7=>?_,fun h7=>?_⟩);rotate_left;(focus (refine dd ?_;(repeat ((first | apply ya | apply yb);refine dd ?_));(rw [qw hk hr (by rw [he,if_pos h7]) (by decide)]);(refine .inr ⟨by simp,?_⟩);(conv=>whnf);exact ⟨.inl rfl,_,.refl _,rfl⟩));(have he:=he.trans (if_neg (by simp only [h7];decide)));refine dd ?_;(repeat ((first | apply ya | apply yb);refine dd ?_));(refine .inl ⟨rfl,?_,(fun j hj=>by (by_cases e:j=k);(subst e;exact he);(exact hr j (by omega)))⟩);(rw [zp (by omega)]);exact cE 1
  ·refine dd ?_
   (repeat ((first | apply ya | apply yb);refine dd ?_))
   rw [qw hk hr (by rw [he,if_pos h2]) (by decide)]
   refine .inr ⟨by simp,?_⟩
   conv=>whnf
   exact ⟨.inl rfl,_,.refl _,rfl⟩
 ·rw [zab hr]
  (conv=>whnf);(refine ⟨fun h=>absurd h (by simp),fun _=>?_⟩);refine dd ?_;(refine ⟨by simp,?_⟩);(conv=>whnf)
  exact ⟨.inl rfl,_,.refl _,rfl⟩
theorem zei (c:Cfg) (hc:wS c):zb Tryz.prog 178 [] [Cf c] (t2 (qN (zfn c) c.zI.length)) []:=by
 have m1:(c.zI.map vY).length=c.zI.length:=List.length_map ..
 have hl:=hc.zI.1
 have hl1:=hc.zc.1
 have hl2:=hc.zf.1
 refine zb.zm (fn:=Tryz.f178) Tryz.func178 rfl ?_
 conv=>whnf
 rw [m1]
 refine zM.seq c.zI.length (fun k=>(Cf c:: .ref 0 [] 3 0 0::I 0::I 0:: .za::.za::.za::.za::.za::.za::lO c.zI::I c.zI.length::I k:: .za::.za::.za::.za::.za::.za::.za::.za::.za::.za::.za::.za::.za::.za::.za::.za::.za::.za::.za::.za::.za::.za::.za::.za::.za::.za::.za::.za::.za::.za::.za::.za::.za::.za::.za::.za::.za::.za::.za::.za::.za::.za::.za::.za::.za::.za::.za::.za::.za::.za::.za::.za::[])) (fun k=>[⟨1,221,3,[zf0 c],0⟩]) (fun k=>∀ j,j < k->zfn c j=0) ?_ (by simp) (fun k hk hr=>?_) (fun hr=>?_)
 ·exact cC
 ·obtain ⟨r,hx⟩:∃ r,r=c.zI[k]:=⟨_,rfl⟩
  have hg:(c.zI.map vY)[k]?= some (vY r):=by rw [List.getElem?_map,List.getElem?_eq_getElem hk,hx];rfl
  have hs:=hc.zI.2 r (by rw [hx];exact List.getElem_mem hk)
  have he:zfn c k=if c.zc.any (fun x=>x == r.listen)=false then 5 else if zfg r.host=false then 7 else if wu r.path=false then 8 else if zak c.zf r.zn=false then 5
    else if (c.zI.take k).any (fun q=>kj q r) then 4 else 0:=by
   unfold zfn;rw [List.getElem?_eq_getElem hk,hx]
  have m2:((c.zI.take k).map vY).length=k:=by simp;omega
  have hlk:(c.zI.take k).length=k:=by simp;omega
  conv=>whnf
  (refine ⟨fun _=>?_,fun h=>absurd h (by simp;omega)⟩);refine dd ?_
  (refine ⟨by omega,_,by rw [toNat_cast];exact hg,?_⟩);refine dd ?_
  refine ⟨_,_,(zbG c.zc r.listen (by omega)).frame rfl _,?_⟩;refine dd ?_
  refine ⟨fun h2=>?_,fun h2=>?_⟩
  rotate_left
  ·refine dd ?_
   (repeat ((first | apply ya | apply yb);refine dd ?_))
   rw [qw hk hr (by rw [he,if_pos h2]) (by decide)]
   (refine .inr ⟨by simp,?_⟩);(conv=>whnf)
   exact ⟨.inl rfl,_,.refl _,rfl⟩
  have he:=he.trans (if_neg (by simp [h2]))
  refine dd ?_
  (repeat ((first | apply ya | apply yb);refine dd ?_))
  refine ⟨_,_,(zcI r.host (by omega)).frame rfl _,?_⟩;refine dd ?_
  refine ⟨fun h3=>?_,fun h3=>?_⟩
  rotate_left
  ·refine dd ?_
   (repeat ((first | apply ya | apply yb);refine dd ?_))
   rw [qw hk hr (by rw [he,if_pos h3]) (by decide)]
   (refine .inr ⟨by simp,?_⟩);(conv=>whnf)
   exact ⟨.inl rfl,_,.refl _,rfl⟩
  have he:=he.trans (if_neg (by simp [h3]))
  refine dd ?_
  (repeat ((first | apply ya | apply yb);refine dd ?_))
  refine ⟨_,_,(zgK r.path (by omega)).frame rfl _,?_⟩;refine dd ?_
  refine ⟨fun h4=>?_,fun h4=>?_⟩
  rotate_left
  ·refine dd ?_
   (repeat ((first | apply ya | apply yb);refine dd ?_))
   rw [qw hk hr (by rw [he,if_pos h4]) (by decide)]
   (refine .inr ⟨by simp,?_⟩);(conv=>whnf)
   exact ⟨.inl rfl,_,.refl _,rfl⟩
  have he:=he.trans (if_neg (by simp [h4]))
  refine dd ?_
  (repeat ((first | apply ya | apply yb);refine dd ?_))
  refine ⟨_,_,(zaS c.zf r.zn (by omega)).frame rfl _,?_⟩;refine dd ?_
  refine ⟨fun h5=>?_,fun h5=>?_⟩
  rotate_left
  ·refine dd ?_
   (repeat ((first | apply ya | apply yb);refine dd ?_))
   rw [qw hk hr (by rw [he,if_pos h5]) (by decide)]
   (refine .inr ⟨by simp,?_⟩);(conv=>whnf)
   exact ⟨.inl rfl,_,.refl _,rfl⟩
  have he:=he.trans (if_neg (by simp [h5]))
  refine dd ?_
  (repeat ((first | apply ya | apply yb);refine dd ?_))
  (refine ⟨.inr rfl,?_⟩);refine dd ?_;(refine ⟨by omega,Nat.zero_le _,by rw [m1];omega,?_⟩);refine dd ?_;(rw [List.drop_zero,Nat.sub_zero,toNat_cast,<- List.map_take])
  rw [m2]
  refine zM.seq k (fun j=>(Cf c:: .ref 0 [] 3 0 0::I 0::I 0::I k:: .ref 1 [] 4 0 0:: .za::.za::.za::.za::lO c.zI::I c.zI.length::I k:: .za::.za::.za::.za::.za::.za::.za::.za::.za::.za::.za::.za::.za::.za::.za::.za::.za::.za::.za::.za::.za::.za::.za::.za::.za::.za::.za::.za::.za::.za::.za::.za::.za::.za::.za::.za::.za::.za::.za::lO (c.zI.take k)::I k::I j:: .za::.za::.za::.za::.za::.za::.za::.za::.za::.za::[])) (fun j=>[⟨1,221,3,[zf0 c],0⟩,⟨1,150,4,[[Tx r.listen,Tx r.host,Tx r.path,Tx []]],0⟩]) (fun j=>∀ i,(h:i < c.zI.length)->i < j->kj c.zI[i] r=false) ?_ (by simp) (fun j hj hrj=>?_) (fun hrj=>?_)
  ·exact cC
  ·obtain ⟨q,hq⟩:∃ q,q=c.zI[j]:=⟨_,rfl⟩
   have hgq:((c.zI.take k).map vY)[j]?= some (vY q):=by rw [List.getElem?_map,List.getElem?_eq_getElem (by omega),hq,List.getElem_take];rfl
   conv=>whnf
   (refine ⟨fun _=>?_,fun h=>absurd h (by simp;omega)⟩);refine dd ?_
   (refine ⟨by omega,_,by rw [toNat_cast];exact hgq,?_⟩);refine dd ?_
   refine ⟨by kernel_rfl,?_⟩
   refine dd ?_
   refine ⟨fun h6=>?_,fun h6=>?_⟩
   ·have h6:kj q r=true:=by simp at h6;simp [kj,h6]
    have ha:(c.zI.take k).any (fun q=>kj q r)=true:=by
     rw [List.any_eq_true]
     exact ⟨q,by rw [hq,List.mem_iff_getElem];exact ⟨j,by omega,List.getElem_take⟩,h6⟩
    refine dd ?_
    rw [qw hk hr (by rw [he,if_pos ha]) (by decide)]
    (refine .inr ⟨by simp,?_⟩);(conv=>whnf)
    refine .inr ⟨by simp,?_⟩
    conv=>whnf
    exact ⟨.inl rfl,_,.refl _,rfl⟩
   ·have h6:kj q r=false:=by
     cases hs:kj q r with
     | false=>rfl
     | true=>simp [kj] at hs;simp [hs] at h6
    refine dd ?_
    refine .inl ⟨rfl,?_,fun i hi hij=>?_⟩
    ·rw [zp (by omega)]
     exact cE 2
    ·by_cases e:i=j
     ·subst e;rw [<- hq];exact h6
     ·exact hrj i hi (by omega)
  ·have ha:(c.zI.take k).any (fun q=>kj q r)=false:=by
    rw [List.any_eq_false]
    intro q hq
    obtain ⟨i,hi,rfl⟩:=List.mem_iff_getElem.1 hq
    rw [List.getElem_take]
    simp [hrj i (by omega) (by omega)]
   have he:=he.trans (if_neg (by simp [ha]))
   (conv=>whnf);(refine ⟨fun h=>absurd h (by simp),fun _=>?_⟩);refine dd ?_;(refine ⟨by simp,?_⟩);(conv=>whnf)
   refine .inl ⟨rfl,?_,(fun j hj=>by (by_cases e:j=k);(subst e;exact he);(exact hr j (by omega)))⟩
   rw [zp (by omega)]
   exact cE 1
 ·rw [zab hr]
  (conv=>whnf);(refine ⟨fun h=>absurd h (by simp),fun _=>?_⟩);refine dd ?_;(refine ⟨by simp,?_⟩);(conv=>whnf)
  exact ⟨.inl rfl,_,.refl _,rfl⟩
theorem zdA (c:Cfg) (hc:wS c):zb Tryz.prog 126 [] [Cf c] (t2 (jN c)) []:=by
 refine zb.zm (fn:=Tryz.f126) Tryz.func126 rfl ?_
 conv=>whnf
 refine .ofN 5 (.step ?_)
 conv=>whnf
 (refine ⟨fun _=>?_,fun h=>absurd (h.symm.trans rfl:false=true) (by decide)⟩);refine dd ?_
 refine ⟨by decide,_,rfl,?_⟩
 refine dd ?_
 refine ⟨_,_,(zgT c hc).frame rfl _,?_⟩;refine dd ?_
 refine ⟨fun h1=>?_,fun h1=>?_⟩
 ·have e:jN c=x8 c:=by unfold jN;rw [if_pos (by simpa using h1)]
  rw [e]
  refine dd ?_
  (refine .inr ⟨by simp,?_⟩);(conv=>whnf)
  exact ⟨.inl rfl,_,.refl _,rfl⟩
 have h1:(x8 c).1=0:=by simpa using h1
 refine dd ?_
 refine .inl ⟨rfl,.step ?_⟩
 conv=>whnf
 (refine ⟨fun _=>?_,fun h=>absurd (h.symm.trans rfl:false=true) (by decide)⟩);refine dd ?_
 refine ⟨by decide,_,rfl,?_⟩
 refine dd ?_
 refine ⟨_,_,(zcF c hc).frame rfl _,?_⟩;refine dd ?_
 refine ⟨fun h2=>?_,fun h2=>?_⟩
 ·have e:jN c=qN (ze7 c.zc) c.zc.length:=by unfold jN;rw [if_neg (by simp [h1]),if_pos (by simpa using h2)]
  rw [e]
  refine dd ?_
  (refine .inr ⟨by simp,?_⟩);(conv=>whnf)
  exact ⟨.inl rfl,_,.refl _,rfl⟩
 have h2:(qN (ze7 c.zc) c.zc.length).1=0:=by simpa using h2
 refine dd ?_
 refine .inl ⟨rfl,.step ?_⟩
 conv=>whnf
 (refine ⟨fun _=>?_,fun h=>absurd (h.symm.trans rfl:false=true) (by decide)⟩);refine dd ?_
 refine ⟨by decide,_,rfl,?_⟩
 refine dd ?_
 refine ⟨_,_,(zbD c hc).frame rfl _,?_⟩;refine dd ?_
 refine ⟨fun h3=>?_,fun h3=>?_⟩
 ·have e:jN c=qN (zcA c.zf) c.zf.length:=by unfold jN;rw [if_neg (by simp [h1]),if_neg (by simp [h2]),if_pos (by simpa using h3)]
  rw [e]
  refine dd ?_
  (refine .inr ⟨by simp,?_⟩);(conv=>whnf)
  exact ⟨.inl rfl,_,.refl _,rfl⟩
 have h3:(qN (zcA c.zf) c.zf.length).1=0:=by simpa using h3
 refine dd ?_
 refine .inl ⟨rfl,.step ?_⟩
 conv=>whnf
 (refine ⟨fun _=>?_,fun h=>absurd (h.symm.trans rfl:false=true) (by decide)⟩);refine dd ?_
 refine ⟨by decide,_,rfl,?_⟩
 refine dd ?_
 refine ⟨_,_,(zei c hc).frame rfl _,?_⟩;refine dd ?_
 refine ⟨fun h4=>?_,fun h4=>?_⟩
 ·have e:jN c=qN (zfn c) c.zI.length:=by unfold jN;rw [if_neg (by simp [h1]),if_neg (by simp [h2]),if_neg (by simp [h3]),if_pos (by simpa using h4)]
  rw [e]
  refine dd ?_
  (refine .inr ⟨by simp,?_⟩);(conv=>whnf)
  exact ⟨.inl rfl,_,.refl _,rfl⟩
 have h4:(qN (zfn c) c.zI.length).1=0:=by simpa using h4
 refine dd ?_
 refine .inl ⟨rfl,.step ?_⟩
 conv=>whnf
 (refine ⟨fun h=>absurd (h.symm.trans rfl:true=false) (by decide),fun _=>?_⟩);refine dd ?_
 (refine .inr ⟨by simp,?_⟩);(conv=>whnf)
 have e:jN c=(0,0):=by unfold jN;rw [if_neg (by simp [h1]),if_neg (by simp [h2]),if_neg (by simp [h3]),if_neg (by simp [h4])]
 rw [e]
 exact ⟨.inl rfl,_,.refl _,rfl⟩
theorem check_sound (c:Cfg) (hc:zbw c):zb Tryz.prog 126 [] [Cf c] (t2 (jN c)) []:=zdA c hc.k
end Go.Con
namespace Go.Con
open Go.Ab Go.Proofs Go.Hy Go.Gat Go.Nam Go.Hos
end Go.Con
