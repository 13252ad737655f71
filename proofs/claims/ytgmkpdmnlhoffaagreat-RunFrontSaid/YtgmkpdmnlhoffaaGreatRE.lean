import Derived.Test.YtgmkpdmnlhoffaaGreatRD
import Derived.Test.YtgmkpdmnlhoffaaGreatRC
set_option linter.all false
set_option maxRecDepth 100000
set_option maxHeartbeats 4000000
namespace Go.Con
open Go.Ab Go.Proofs Go.Hy Go.Gat Go.Nam Go.Hos
def jO (f:Nat->Int) (n:Nat):Int × Int:=match (List.range n).find? fun i=>f i != 0 with
 | some i=>(f i,i)
 | none=>(0,0)
theorem jL {f:Nat->Int} {n k:Nat} {e:Int} (hk:k < n) (hr:∀ j,j < k->f j=0) (h:f k=e) (he:e≠0):jO f n=(e,(k:Int)):=by
 unfold jO
 have:(List.range n).find? (fun i=>f i != 0)=some k:=by
  rw [List.find?_range_eq_some];exact ⟨by simp [h,he],by simpa using hk,fun j hj=>by simp [hr j hj]⟩
 rw [this];simp [h]
theorem zdO {f:Nat->Int} {n:Nat} (hr:∀ j,j < n->f j=0):jO f n=(0,0):=by
 unfold jO
 have:(List.range n).find? (fun i=>f i != 0)=none:=by
  rw [List.find?_range_eq_none];intro i hi;simp [hr i hi]
 rw [this]
def ziA (l:List Str) (i:Nat):Int:=match l[i]? with
 | none=>0
 | some s=>if xm s=false then 3 else if (l.take i).any (fun x=>x == s) then 4 else 0
def zdH (l:List Clu) (i:Nat):Int:=match l[i]? with
 | none=>0
 | some c=>if xm c.name=false then 3 else if zaj (l.take i) c.name then 4 else if c.xp≠1∧c.xp≠2 then 9 else if (decide (1<=c.xv) && decide (c.xv<=4))=false then 10
   else if (decide (1<=(c.zR.length:Int)) && decide ((c.zR.length:Int)<=4))=false then 6 else 0
def zbX (a b:Rou):Bool:=a.listen == b.listen && a.host == b.host && a.path == b.path
def zgn (c:Cfg) (i:Nat):Int:=match c.zP[i]? with
 | none=>0
 | some r=>if c.zd.any (fun x=>x == r.listen)=false then 5 else if ze5 r.host=false then 7 else if zat r.path=false then 8 else if zaj c.zl r.zf=false then 5
   else if (c.zP.take i).any (fun q=>zbX q r) then 4 else 0
def y4 (c:Cfg):Int × Int:=
 if ((decide (1<=(c.zd.length:Int)) && decide ((c.zd.length:Int)<=4))=false∨(decide (1<=(c.zP.length:Int)) && decide ((c.zP.length:Int)<=8))=false)∨(decide (1<=(c.zl.length:Int)) && decide ((c.zl.length:Int)<=4))=false then (6,0) else (0,0)
def qY (c:Cfg):Int × Int:=
 if (y4 c).1≠0 then y4 c else if (jO (ziA c.zd) c.zd.length).1≠0 then jO (ziA c.zd) c.zd.length
 else if (jO (zdH c.zl) c.zl.length).1≠0 then jO (zdH c.zl) c.zl.length
 else if (jO (zgn c) c.zP.length).1≠0 then jO (zgn c) c.zP.length else (0,0)
abbrev t2 (r:Int × Int):C:=.tup [I r.1,I r.2]
abbrev Cf (c:Cfg):C:=.agg (zdJ c)
structure xf (c:Cfg):Prop where
 zd:c.zd.length < 1000000000000∧∀ s ∈ c.zd,s.length < 4000000000000000000
 zP:c.zP.length < 1000000000000∧∀ r ∈ c.zP,r.listen.length < 4000000000000000000∧r.host.length < 1000000000000∧r.path.length < 1000000000000∧r.zf.length < 4000000000000000000
 zl:c.zl.length < 1000000000000∧∀ x ∈ c.zl,x.name.length < 4000000000000000000∧x.zR.length < 4000000000000000000
structure ko (c:Cfg):Prop where
 zd:c.zd.length < 1000000000000000∧∀ s ∈ c.zd,s.length < 4000000000000000000
 zP:c.zP.length < 1000000000000000∧∀ r ∈ c.zP,r.listen.length < 4000000000000000000∧r.host.length < 1000000000000000∧r.path.length < 1000000000000000∧r.zf.length < 4000000000000000000
 zl:c.zl.length < 1000000000000000∧∀ x ∈ c.zl,x.name.length < 4000000000000000000∧x.zR.length < 4000000000000000000
theorem xf.k {c:Cfg} (h:xf c):ko c:=
 ⟨⟨by have:=h.zd.1;omega,h.zd.2⟩,⟨by have:=h.zP.1;omega,fun r hr=>by have:=h.zP.2 r hr;omega⟩,⟨by have:=h.zl.1;omega,h.zl.2⟩⟩
theorem zmp (c:Cfg) (hc:ko c):zb Tryz.prog 160 [] [Cf c] (t2 (y4 c)) []:=by
 have m1:(c.zd.map ql).length=c.zd.length:=List.length_map ..;have m2:(c.zP.map ky).length=c.zP.length:=List.length_map ..;have m3:(c.zl.map jU).length=c.zl.length:=List.length_map ..;refine zb.zp (fn:=Tryz.f160) Tryz.func160 rfl (uH ?_);rw [m1];refine ⟨_,_,(xK _ _ _).frame rfl _,dd ?_⟩;refine ⟨fun h1=>?_,fun h1=>?_⟩
 ·refine dd ?_;(repeat refine uC ?_)
  rw [m2];refine ⟨_,_,(xK _ _ _).frame rfl _,dd ?_⟩;refine ⟨fun h2=>?_,fun h2=>?_⟩
  ·refine dd ?_;(repeat refine uC ?_)
   rw [m3];refine ⟨_,_,(xK _ _ _).frame rfl _,dd ?_⟩;refine ⟨fun h3=>?_,fun h3=>?_⟩
   ·refine dd ?_;(repeat refine uC ?_)
    have e:y4 c=(0,0):=by unfold y4;rw [if_neg];simp only [h1,h2,h3];simp
    rw [e];exact uI
   ·refine dd ?_;(repeat refine uC ?_)
    have e:y4 c=(6,0):=by unfold y4;rw [if_pos (.inr h3)]
    rw [e];exact uI
  ·refine dd ?_;(repeat refine uC ?_)
   have e:y4 c=(6,0):=by unfold y4;rw [if_pos (.inl (.inr h2))]
   rw [e];exact uI
 ·refine dd ?_;(repeat refine uC ?_)
  have e:y4 c=(6,0):=by unfold y4;rw [if_pos (.inl (.inl h1))]
  rw [e];exact uI
theorem zgX (c:Cfg) (hc:ko c):zb Tryz.prog 161 [] [Cf c] (t2 (jO (ziA c.zd) c.zd.length)) []:=by
 have m1:(c.zd.map ql).length=c.zd.length:=List.length_map ..;have hl:=hc.zd.1;refine zb.zp (fn:=Tryz.f161) Tryz.func161 rfl (uH ?_);rw [m1];refine qf.seq c.zd.length (fun k=>((Cf c)::.ref 0 [] 3 0 0::I 0::I 0::.za::.za::.za::.za::(lT c.zd)::I c.zd.length::I k::tY (tY ([.za,.za,.za])))) (fun k=>[⟨1,215,3,[zdJ c],0⟩]) (fun k=>∀ j,j < k->ziA c.zd j=0) ?_ (by simp) (fun k hk hr=>?_) (fun hr=>?_)
 ·exact cC
 ·have hg:(c.zd.map ql)[k]?= some (ql c.zd[k]):=by rw [List.getElem?_map,List.getElem?_eq_getElem hk];rfl
  have hs:=hc.zd.2 _ (List.getElem_mem hk)
  have he:ziA c.zd k=if xm c.zd[k]=false then 3 else if (c.zd.take k).any (fun x=>x == c.zd[k]) then 4 else 0:=by
   unfold ziA;rw [List.getElem?_eq_getElem hk]
  conv=>whnf
  refine ⟨fun _=>dd ?_,fun h=>absurd h (by simp;omega)⟩;refine ⟨by omega,_,by rw [toNat_cast];exact hg,dd ?_⟩;refine ⟨_,_,(yd c.zd[k] (by omega)).frame rfl _,dd ?_⟩;refine ⟨fun h2=>?_,fun h2=>?_⟩
  ·refine dd ?_;(repeat refine uC ?_)
   (refine ⟨.inr rfl,dd ?_⟩);(refine ⟨by omega,Nat.zero_le _,by rw [m1];omega,dd ?_⟩);(rw [List.drop_zero,Nat.sub_zero,toNat_cast,<- List.map_take])
   refine ⟨_,_,(wV (c.zd.take k) c.zd[k] (by simp;omega)).frame rfl _,dd ?_⟩;refine ⟨fun h3=>?_,fun h3=>?_⟩
   ·refine dd ?_;rw [jL hk hr (by rw [he,if_neg (by simp [h2]),if_pos h3]) (by decide)];refine .inr ⟨by simp,uH ?_⟩;exact uI
   ·refine dd ?_;refine .inl ⟨rfl,?_,(fun j hj=>by (by_cases e:j=k);(subst e;exact (by rw [he,if_neg (by simp [h2]),if_neg (by simp [h3])]));(exact hr j (by omega)))⟩;rw [zA (by omega)];exact cE 1
  ·refine dd ?_;(repeat refine uC ?_)
   rw [jL hk hr (by rw [he,if_pos h2]) (by decide)];refine .inr ⟨by simp,uH ?_⟩;exact uI
 ·rw [zdO hr];refine uD ?_;exact uI
theorem zfw (c:Cfg) (hc:ko c):zb Tryz.prog 162 [] [Cf c] (t2 (jO (zdH c.zl) c.zl.length)) []:=by
 have m1:(c.zl.map jU).length=c.zl.length:=List.length_map ..;have hl:=hc.zl.1;refine zb.zp (fn:=Tryz.f162) Tryz.func162 rfl (uH ?_);rw [m1];refine qf.seq c.zl.length (fun k=>((Cf c)::.ref 0 [] 3 0 0::I 0::I 0::.za::.za::.za::.za::(lC c.zl)::I c.zl.length::I k::tY (tY (tY (tY (tY ([.za,.za,.za,.za]))))))) (fun k=>[⟨1,215,3,[zdJ c],0⟩]) (fun k=>∀ j,j < k->zdH c.zl j=0) ?_ (by simp) (fun k hk hr=>?_) (fun hr=>?_)
 ·exact cC
 ·obtain ⟨x,hx⟩:∃ x,x=c.zl[k]:=⟨_,rfl⟩;have hg:(c.zl.map jU)[k]?= some (jU x):=by rw [List.getElem?_map,List.getElem?_eq_getElem hk,hx];rfl
  have hs:=hc.zl.2 x tG
  have he:zdH c.zl k=if xm x.name=false then 3 else if zaj (c.zl.take k) x.name then 4 else if x.xp≠1∧x.xp≠2 then 9 else if (decide (1<=x.xv) && decide (x.xv<=4))=false then 10
    else if (decide (1<=(x.zR.length:Int)) && decide ((x.zR.length:Int)<=4))=false then 6 else 0:=by
   unfold zdH;rw [List.getElem?_eq_getElem hk,hx]
  have mh:(x.zR.map vH).length=x.zR.length:=List.length_map ..;conv=>whnf
  refine ⟨fun _=>dd ?_,fun h=>absurd h (by simp;omega)⟩;refine ⟨by omega,_,by rw [toNat_cast];exact hg,dd ?_⟩;refine ⟨_,_,(yd x.name (by omega)).frame rfl _,dd ?_⟩;refine ⟨fun h2=>?_,fun h2=>?_⟩
  ·refine dd ?_;(repeat refine uC ?_)
   refine .inl ⟨⟨false,[2,6,7],[0,1],[]⟩,by kernel_rfl,uH ?_⟩;(refine ⟨.inr rfl,dd ?_⟩);(refine ⟨by omega,Nat.zero_le _,by rw [m1];omega,dd ?_⟩);(rw [List.drop_zero,Nat.sub_zero,toNat_cast,<- List.map_take])
   refine ⟨Bo (zaj (c.zl.take k) x.name),fun H2=>(zey (c.zl.take k) x.name (by simp;omega)).frame rfl H2,dd ?_⟩;refine ⟨fun h3=>?_,fun h3=>?_⟩
   ·refine dd ?_;rw [jL hk hr (by rw [he,if_neg (by simp [h2]),if_pos h3]) (by decide)];(refine .inr ⟨by simp,uH ?_⟩)
    exact uI
   ·have he:=he.trans ((if_neg (by simp [h2])).trans (if_neg (by simp [h3])));refine dd ?_;refine ⟨fun h4=>?_,fun h4=>?_⟩
    ·have h4:x.xp≠1:=by simpa using h4
     refine dd ?_;refine ⟨fun h5=>?_,fun h5=>?_⟩
     ·have h5:x.xp≠2:=by simpa using h5
      refine dd ?_;rw [jL hk hr (by rw [he,if_pos ⟨h4,h5⟩]) (by decide)];(refine .inr ⟨by simp,uH ?_⟩)
      exact uI
     ·have h5:x.xp=2:=by simpa using h5
      have he:=he.trans (if_neg (fun h=>h.2 h5));refine dd ?_;refine ⟨_,_,(xK _ _ _).frame rfl _,dd ?_⟩;(refine ⟨fun h6=>?_,fun h6=>?_⟩);rotate_left;(focus (refine dd ?_;(repeat refine uC ?_);(rw [jL hk hr (by rw [he,if_pos h6]) (by decide)]);(refine .inr ⟨by simp,uH ?_⟩);exact uI));(have he:=he.trans (if_neg (by simp only [h6];decide)));refine dd ?_;(repeat refine uC ?_);(rw [mh]);refine ⟨_,_,(xK _ _ _).frame rfl _,dd ?_⟩;(refine ⟨fun h7=>?_,fun h7=>?_⟩);rotate_left;(focus (refine dd ?_;(repeat refine uC ?_);(rw [jL hk hr (by rw [he,if_pos h7]) (by decide)]);(refine .inr ⟨by simp,uH ?_⟩);exact uI));(have he:=he.trans (if_neg (by simp only [h7];decide)));refine dd ?_;(repeat refine uC ?_);(refine .inl ⟨rfl,?_,(fun j hj=>by (by_cases e:j=k);(subst e;exact he);(exact hr j (by omega)))⟩);(rw [zA (by omega)]);exact cE 1
    ·have h4:x.xp=1:=by simpa using h4
     have he:=he.trans (if_neg (fun h=>h.1 h4));refine dd ?_;refine ⟨_,_,(xK _ _ _).frame rfl _,dd ?_⟩;(refine ⟨fun h6=>?_,fun h6=>?_⟩);rotate_left;(focus (refine dd ?_;(repeat refine uC ?_);(rw [jL hk hr (by rw [he,if_pos h6]) (by decide)]);(refine .inr ⟨by simp,uH ?_⟩);exact uI));(have he:=he.trans (if_neg (by simp only [h6];decide)));refine dd ?_;(repeat refine uC ?_);(rw [mh]);refine ⟨_,_,(xK _ _ _).frame rfl _,dd ?_⟩;(refine ⟨fun h7=>?_,fun h7=>?_⟩);rotate_left;(focus (refine dd ?_;(repeat refine uC ?_);(rw [jL hk hr (by rw [he,if_pos h7]) (by decide)]);(refine .inr ⟨by simp,uH ?_⟩);exact uI));(have he:=he.trans (if_neg (by simp only [h7];decide)));refine dd ?_;(repeat refine uC ?_);(refine .inl ⟨rfl,?_,(fun j hj=>by (by_cases e:j=k);(subst e;exact he);(exact hr j (by omega)))⟩);(rw [zA (by omega)]);exact cE 1
  ·refine dd ?_;(repeat refine uC ?_)
   rw [jL hk hr (by rw [he,if_pos h2]) (by decide)];refine .inr ⟨by simp,uH ?_⟩;exact uI
 ·rw [zdO hr];refine uD ?_;exact uI
theorem ziT (c:Cfg) (hc:ko c):zb Tryz.prog 163 [] [Cf c] (t2 (jO (zgn c) c.zP.length)) []:=by
 have m1:(c.zP.map ky).length=c.zP.length:=List.length_map ..;have hl:=hc.zP.1;have hl1:=hc.zd.1;have hl2:=hc.zl.1;refine zb.zp (fn:=Tryz.f163) Tryz.func163 rfl (uH ?_);rw [m1];refine qf.seq c.zP.length (fun k=>(Cf c:: .ref 0 [] 3 0 0::I 0::I 0:: .za::.za::.za::.za::.za::.za::lO c.zP::I c.zP.length::I k:: .za::.za::.za::.za::tY (tY (tY (tY (tY (tY ([])))))))) (fun k=>[⟨1,215,3,[zdJ c],0⟩]) (fun k=>∀ j,j < k->zgn c j=0) ?_ (by simp) (fun k hk hr=>?_) (fun hr=>?_)
 ·exact cC
 ·obtain ⟨r,hx⟩:∃ r,r=c.zP[k]:=⟨_,rfl⟩;have hg:(c.zP.map ky)[k]?= some (ky r):=by rw [List.getElem?_map,List.getElem?_eq_getElem hk,hx];rfl
  have hs:=hc.zP.2 r tG
  have he:zgn c k=if c.zd.any (fun x=>x == r.listen)=false then 5 else if ze5 r.host=false then 7 else if zat r.path=false then 8 else if zaj c.zl r.zf=false then 5
    else if (c.zP.take k).any (fun q=>zbX q r) then 4 else 0:=by
   unfold zgn;rw [List.getElem?_eq_getElem hk,hx]
  have m2:((c.zP.take k).map ky).length=k:=by simp;omega
  have hlk:(c.zP.take k).length=k:=by simp;omega
  conv=>whnf
  refine uF ?_;(refine ⟨by omega,_,by rw [toNat_cast];exact hg,dd ?_⟩)
  refine ⟨_,_,(wV c.zd r.listen (by omega)).frame rfl _,dd ?_⟩;refine ⟨fun h2=>?_,fun h2=>?_⟩
  rotate_left
  ·refine dd ?_;(repeat refine uC ?_)
   rw [jL hk hr (by rw [he,if_pos h2]) (by decide)];(refine .inr ⟨by simp,uH ?_⟩)
   exact uI
  have he:=he.trans (if_neg (by simp [h2]));refine dd ?_;(repeat refine uC ?_)
  refine ⟨_,_,(wi r.host (by omega)).frame rfl _,dd ?_⟩;refine ⟨fun h3=>?_,fun h3=>?_⟩
  rotate_left
  ·refine dd ?_;(repeat refine uC ?_)
   rw [jL hk hr (by rw [he,if_pos h3]) (by decide)];(refine .inr ⟨by simp,uH ?_⟩)
   exact uI
  have he:=he.trans (if_neg (by simp [h3]));refine dd ?_;(repeat refine uC ?_)
  refine ⟨_,_,(zcp r.path (by omega)).frame rfl _,dd ?_⟩;refine ⟨fun h4=>?_,fun h4=>?_⟩
  rotate_left
  ·refine dd ?_;(repeat refine uC ?_)
   rw [jL hk hr (by rw [he,if_pos h4]) (by decide)];(refine .inr ⟨by simp,uH ?_⟩)
   exact uI
  have he:=he.trans (if_neg (by simp [h4]));refine dd ?_;(repeat refine uC ?_)
  refine ⟨_,_,(zey c.zl r.zf (by omega)).frame rfl _,dd ?_⟩;refine ⟨fun h5=>?_,fun h5=>?_⟩
  rotate_left
  ·refine dd ?_;(repeat refine uC ?_)
   rw [jL hk hr (by rw [he,if_pos h5]) (by decide)];(refine .inr ⟨by simp,uH ?_⟩)
   exact uI
  have he:=he.trans (if_neg (by simp [h5]));refine dd ?_;(repeat refine uC ?_)
  (refine ⟨.inr rfl,dd ?_⟩);(refine ⟨by omega,Nat.zero_le _,by rw [m1];omega,dd ?_⟩);(rw [List.drop_zero,Nat.sub_zero,toNat_cast,<- List.map_take])
  rw [m2];refine qf.seq k (fun j=>(Cf c:: .ref 0 [] 3 0 0::I 0::I 0::I k:: .ref 1 [] 4 0 0:: .za::.za::.za::.za::lO c.zP::I c.zP.length::I k:: .za::.za::.za::.za::.za::.za::.za::tY (tY (tY (tY (lO (c.zP.take k)::I k::I j:: .za::.za::tY ([]))))))) (fun j=>[⟨1,215,3,[zdJ c],0⟩,⟨1,124,4,[[Tx r.listen,Tx r.host,Tx r.path,Tx []]],0⟩]) (fun j=>∀ i,(h:i < c.zP.length)->i < j->zbX c.zP[i] r=false) ?_ (by simp) (fun j hj hrj=>?_) (fun hrj=>?_)
  ·exact cC
  ·obtain ⟨q,hq⟩:∃ q,q=c.zP[j]:=⟨_,rfl⟩;have hgq:((c.zP.take k).map ky)[j]?= some (ky q):=by rw [List.getElem?_map,List.getElem?_eq_getElem (by omega),hq,List.getElem_take];rfl
   conv=>whnf
   refine uF ?_;(refine ⟨by omega,_,by rw [toNat_cast];exact hgq,dd ?_⟩)
   refine ⟨by kernel_rfl,dd ?_⟩;refine ⟨fun h6=>?_,fun h6=>?_⟩
   ·have h6:zbX q r=true:=by simp at h6;simp [zbX,h6]
    have ha:(c.zP.take k).any (fun q=>zbX q r)=true:=by
     rw [List.any_eq_true];exact ⟨q,by rw [hq,List.mem_iff_getElem];exact ⟨j,by omega,List.getElem_take⟩,h6⟩
    refine dd ?_;rw [jL hk hr (by rw [he,if_pos ha]) (by decide)];(refine .inr ⟨by simp,uH ?_⟩)
    refine .inr ⟨by simp,uH ?_⟩;exact uI
   ·have h6:zbX q r=false:=by
     cases hs:zbX q r with
     | false=>rfl
     | true=>simp [zbX] at hs;simp [hs] at h6
    refine dd ?_;refine .inl ⟨rfl,?_,fun i hi hij=>?_⟩
    ·rw [zA (by omega)];exact cE 2
    ·by_cases e:i=j
     ·subst e;rw [<- hq];exact h6
     ·exact hrj i hi (by omega)
  ·have ha:(c.zP.take k).any (fun q=>zbX q r)=false:=by
    rw [List.any_eq_false];intro q hq;obtain ⟨i,hi,rfl⟩:=List.mem_iff_getElem.1 hq;rw [List.getElem_take];simp [hrj i (by omega) (by omega)]
   have he:=he.trans (if_neg (by simp [ha]));refine uD ?_;refine .inl ⟨rfl,?_,(fun j hj=>by (by_cases e:j=k);(subst e;exact he);(exact hr j (by omega)))⟩;rw [zA (by omega)];exact cE 1
 ·rw [zdO hr];refine uD ?_;exact uI
theorem zcM (c:Cfg) (hc:ko c):zb Tryz.prog 94 [] [Cf c] (t2 (qY c)) []:=by
 refine zb.zp (fn:=Tryz.f94) Tryz.func94 rfl (uH ?_);refine .ofN 5 (.step ?_);conv=>whnf
 (refine ⟨fun _=>dd ?_,fun h=>absurd (h.symm.trans rfl:false=true) (by decide)⟩)
 refine ⟨by decide,_,rfl,dd ?_⟩;refine ⟨_,_,(zmp c hc).frame rfl _,dd ?_⟩;refine ⟨fun h1=>?_,fun h1=>?_⟩
 ·have e:qY c=y4 c:=by unfold qY;rw [if_pos tE]
  rw [e];refine dd ?_;(refine .inr ⟨by simp,uH ?_⟩)
  exact uI
 have h1:(y4 c).1=0:=by simpa using h1
 refine dd ?_;refine .inl ⟨rfl,.step (uH ?_)⟩;(refine ⟨fun _=>dd ?_,fun h=>absurd (h.symm.trans rfl:false=true) (by decide)⟩)
 refine ⟨by decide,_,rfl,dd ?_⟩;refine ⟨_,_,(zgX c hc).frame rfl _,dd ?_⟩;refine ⟨fun h2=>?_,fun h2=>?_⟩
 ·have e:qY c=jO (ziA c.zd) c.zd.length:=by unfold qY;rw [if_neg (by simp [h1]),if_pos tS]
  rw [e];refine dd ?_;(refine .inr ⟨by simp,uH ?_⟩)
  exact uI
 have h2:(jO (ziA c.zd) c.zd.length).1=0:=by simpa using h2
 refine dd ?_;refine .inl ⟨rfl,.step (uH ?_)⟩;(refine ⟨fun _=>dd ?_,fun h=>absurd (h.symm.trans rfl:false=true) (by decide)⟩)
 refine ⟨by decide,_,rfl,dd ?_⟩;refine ⟨_,_,(zfw c hc).frame rfl _,dd ?_⟩;refine ⟨fun h3=>?_,fun h3=>?_⟩
 ·have e:qY c=jO (zdH c.zl) c.zl.length:=by unfold qY;rw [if_neg (by simp [h1]),if_neg (by simp [h2]),if_pos (by simpa using h3)]
  rw [e];refine dd ?_;(refine .inr ⟨by simp,uH ?_⟩)
  exact uI
 have h3:(jO (zdH c.zl) c.zl.length).1=0:=by simpa using h3
 refine dd ?_;refine .inl ⟨rfl,.step (uH ?_)⟩;(refine ⟨fun _=>dd ?_,fun h=>absurd (h.symm.trans rfl:false=true) (by decide)⟩)
 refine ⟨by decide,_,rfl,dd ?_⟩;refine ⟨_,_,(ziT c hc).frame rfl _,dd ?_⟩;refine ⟨fun h4=>?_,fun h4=>?_⟩
 ·have e:qY c=jO (zgn c) c.zP.length:=by unfold qY;rw [if_neg (by simp [h1]),if_neg (by simp [h2]),if_neg (by simp [h3]),if_pos (by simpa using h4)]
  rw [e];refine dd ?_;(refine .inr ⟨by simp,uH ?_⟩)
  exact uI
 have h4:(jO (zgn c) c.zP.length).1=0:=by simpa using h4
 refine dd ?_;refine .inl ⟨rfl,.step (uH ?_)⟩;(refine ⟨fun h=>absurd (h.symm.trans rfl:true=false) (by decide),fun _=>dd ?_⟩)
 (refine .inr ⟨by simp,uH ?_⟩)
 have e:qY c=(0,0):=by unfold qY;rw [if_neg (by simp [h1]),if_neg (by simp [h2]),if_neg (by simp [h3]),if_neg (by simp [h4])]
 rw [e];exact uI
theorem check_sound (c:Cfg) (hc:xf c):zb Tryz.prog 94 [] [Cf c] (t2 (qY c)) []:=zcM c hc.k
def zgW (l:List Clu) (s:Str):Int:=match l.findIdx? (fun x=>x.name == s) with | some i=>(i:Int) | none=> -1
def zfu (c:Clu):Bool:=decide (50 < c.zR.length) || decide (100 < c.name.length)
def zgm (r:Rou):Bool:=decide (100 < r.host.length) || decide (100 < r.path.length)
def wU (c:Cfg):Bool:=decide (50 < c.zd.length) || decide (50 < c.zP.length) || decide (50 < c.zl.length) || c.zl.any zfu || c.zP.any zgm
theorem zhe (c:Cfg) (h1:c.zd.length < 4000000000000000000) (h2:c.zP.length < 4000000000000000000) (h3:c.zl.length < 4000000000000000000):zb Tryz.prog 23 [] [Cf c] (Bo (wU c)) []:=by
 have m1:(c.zd.map ql).length=c.zd.length:=List.length_map ..;have m2:(c.zP.map ky).length=c.zP.length:=List.length_map ..;have m3:(c.zl.map jU).length=c.zl.length:=List.length_map ..;refine zb.zp (fn:=Tryz.f23) Tryz.func23 rfl (uH ?_);rw [m1];(refine ⟨fun a1=>?_,fun a1=>?_⟩);(focus ((have e:wU c=true:=by (simp at a1;simp [wU];omega));(rw [e]);refine dd ?_;(repeat refine uC ?_);exact uI));refine dd ?_
 rw [m2];(refine ⟨fun a2=>?_,fun a2=>?_⟩);(focus ((have e:wU c=true:=by (simp at a2;simp [wU];omega));(rw [e]);refine dd ?_;(repeat refine uC ?_);exact uI));refine dd ?_
 rw [m3];(refine ⟨fun a3=>?_,fun a3=>?_⟩);(focus ((have e:wU c=true:=by (simp at a3;simp [wU];omega));(rw [e]);refine dd ?_;(repeat refine uC ?_);exact uI));refine dd ?_
 simp at a1 a2 a3;refine qf.seq c.zl.length (fun k=>(Cf c:: .ref 0 [] 3 0 0::Bo false::I k:: .za::.za::.za::tY (tY (tY (tY (tY (tY (tY (tY ([])))))))))) (fun k=>[⟨1,40,3,[zdJ c],0⟩]) (fun k=>∀ j,(h:j < c.zl.length)->j < k->zfu c.zl[j]=false) ?_ (by simp) (fun k hk hr=>?_) (fun hr=>?_)
 ·exact cC
 ·obtain ⟨x,hx⟩:∃ x,x=c.zl[k]:=⟨_,rfl⟩;have hg:(c.zl.map jU)[k]?= some (jU x):=by rw [List.getElem?_map,List.getElem?_eq_getElem hk,hx];rfl
  have mh:(x.zR.map vH).length=x.zR.length:=List.length_map ..
  have bad:zfu x=true->wU c=true:=fun h=>by
   have:c.zl.any zfu=true:=List.any_eq_true.2 ⟨x,by rw [hx];exact List.getElem_mem hk,h⟩;simp [wU,this]
  have no:zfu x=false->∀ i,(h:i < c.zl.length)->i < k+1->zfu c.zl[i]=false:=fun h6 i hi hij=>by
   by_cases e:i=k
   ·subst e;rw [<- hx];exact h6
   ·exact hr i hi (by omega)
  conv=>whnf
  rw [m3];refine uF ?_;(refine ⟨by omega,_,by rw [toNat_cast];exact hg,dd ?_⟩)
  rw [mh];refine ⟨fun b1=>?_,fun b1=>?_⟩
  ·rw [bad (by simp at b1;simp [zfu];omega)];refine dd ?_;(repeat refine uC ?_)
   (refine .inr ⟨by simp,uH ?_⟩)
   exact uI
  refine dd ?_;(refine ⟨by omega,_,by rw [toNat_cast];exact hg,dd ?_⟩)
  refine ⟨fun b2=>?_,fun b2=>?_⟩
  ·rw [bad (by simp at b2;simp [zfu];omega)];refine dd ?_;(refine .inr ⟨by simp,uH ?_⟩)
   exact uI
  refine dd ?_;refine .inl ⟨rfl,?_,no (by simp at b1 b2;simp [zfu];omega)⟩;rw [zA (by omega)];exact cE 1
 ·have hno:c.zl.any zfu=false:=by
   rw [List.any_eq_false];intro x hx;obtain ⟨i,hi,rfl⟩:=List.mem_iff_getElem.1 hx;simp [hr i hi hi]
  conv=>whnf
  rw [m3];refine ⟨fun h=>absurd h (by simp),fun _=>dd ?_⟩;refine ⟨by simp,uH ?_⟩;refine qf.seq c.zP.length (fun k=>(Cf c:: .ref 0 [] 3 0 0::Bo false:: .za::I k:: .za::.za::tY (tY (tY (tY (tY (tY (tY (tY ([])))))))))) (fun k=>[⟨1,40,3,[zdJ c],0⟩]) (fun k=>∀ j,(h:j < c.zP.length)->j < k->zgm c.zP[j]=false) ?_ (by simp) (fun k hk hr=>?_) (fun hr=>?_)
  ·exact cC
  ·obtain ⟨x,hx⟩:∃ x,x=c.zP[k]:=⟨_,rfl⟩;have hg:(c.zP.map ky)[k]?= some (ky x):=by rw [List.getElem?_map,List.getElem?_eq_getElem hk,hx];rfl
   have bad:zgm x=true->wU c=true:=fun h=>by
    have:c.zP.any zgm=true:=List.any_eq_true.2 ⟨x,by rw [hx];exact List.getElem_mem hk,h⟩;simp [wU,this]
   have no:zgm x=false->∀ i,(h:i < c.zP.length)->i < k+1->zgm c.zP[i]=false:=fun h6 i hi hij=>by
    by_cases e:i=k
    ·subst e;rw [<- hx];exact h6
    ·exact hr i hi (by omega)
   conv=>whnf
   rw [m2];refine uF ?_;(refine ⟨by omega,_,by rw [toNat_cast];exact hg,dd ?_⟩)
   refine ⟨fun b1=>?_,fun b1=>?_⟩
   ·rw [bad (by simp at b1;simp [zgm];omega)];refine dd ?_;(repeat refine uC ?_)
    (refine .inr ⟨by simp,uH ?_⟩)
    exact uI
   refine dd ?_;(refine ⟨by omega,_,by rw [toNat_cast];exact hg,dd ?_⟩)
   refine ⟨fun b2=>?_,fun b2=>?_⟩
   ·rw [bad (by simp at b2;simp [zgm];omega)];refine dd ?_;(refine .inr ⟨by simp,uH ?_⟩)
    exact uI
   refine dd ?_;refine .inl ⟨rfl,?_,no (by simp at b1 b2;simp [zgm];omega)⟩;rw [zA (by omega)];exact cE 1
  ·have hno2:c.zP.any zgm=false:=by
    rw [List.any_eq_false];intro x hx;obtain ⟨i,hi,rfl⟩:=List.mem_iff_getElem.1 hx;simp [hr i hi hi]
   conv=>whnf
   rw [m2];refine ⟨fun h=>absurd h (by simp),fun _=>dd ?_⟩;refine ⟨by simp,uH ?_⟩;have e:wU c=false:=by simp [wU,hno,hno2];omega
   rw [e];exact uI
end Go.Con
