import Derived.Test.YtgllekalddijbaaGreatRF
import Derived.Test.YtgllekalddijbaaGreatRS
import Derived.Test.YtgllekalddijbaaGreatRT
set_option linter.unusedVariables false
set_option linter.unusedSimpArgs false
set_option linter.unusedSectionVars false
set_option maxRecDepth 100000
set_option maxHeartbeats 4000000
namespace Go.Wor
open Go.Ab Go.Proofs Go.Hy Go.Gat Go.Nam Go.Hos Go.Con Go.Sna
def vN (l:List Str) (n:Int):Str:=if 0<=n∧n < l.length then (l[n.toNat]?).getD [] else []
def y3 (l:List Clu) (n:Int):Str:=if 0<=n∧n < l.length then ((l[n.toNat]?).map (·.name)).getD [] else []
def zfM (s:Sna) (r:Rul):Rou:=⟨vN s.ze r.listen,r.host,r.path,y3 s.zm r.zg⟩
def w7 (s:Sna):Cfg:=⟨s.ze,s.rules.map (zfM s),s.zm⟩
def vR (s:Sna):Bool:=(xb (w7 s)).1 == 0
structure vm (s:Sna):Prop where
 ze:s.ze.length < 1000000000000∧∀ x ∈ s.ze,x.length < 4000000000000000000
 rules:s.rules.length < 1000000000000∧∀ r ∈ s.rules,r.host.length < 1000000000000∧r.path.length < 1000000000000
 zm:s.zm.length < 1000000000000∧∀ x ∈ s.zm,x.name.length < 4000000000000000000∧x.zM.length < 4000000000000000000
theorem vm.cfg {s:Sna} (h:vm s):w5 (w7 s):=by
 refine ⟨h.ze,⟨by simpa [w7] using h.rules.1,fun r hr=>?_⟩,h.zm⟩
 simp only [w7,List.mem_map] at hr
 obtain ⟨q,hq,rfl⟩:=hr
 refine ⟨?_,(h.rules.2 q hq).1,(h.rules.2 q hq).2,?_⟩
 ·show (vN s.ze q.listen).length < _
  unfold vN
  split
  ·cases hx:s.ze[q.listen.toNat]? with
   | none=>simp
   | some x=>exact h.ze.2 x (List.mem_of_getElem? hx)
  ·simp
 ·show (y3 s.zm q.zg).length < _
  unfold y3
  split
  ·cases hx:s.zm[q.zg.toNat]? with
   | none=>simp
   | some x=>exact (h.zm.2 x (List.mem_of_getElem? hx)).1
  ·simp
theorem zfi (s:Sna) (hs:vm s):zc Tryz.prog 161 [] [Cs s] (Cf (w7 s)) []:=by
 have m1:(s.rules.map xU).length=s.rules.length:=List.length_map ..
 have m2:(s.ze.map v7).length=s.ze.length:=List.length_map ..
 have m3:(s.zm.map jn).length=s.zm.length:=List.length_map ..
 have hl:=hs.rules.1
 refine zc.zr (fn:=Tryz.f161) Tryz.func161 rfl ?_
 conv=>whnf
 rw [m1]
 refine qb.seq s.rules.length (fun k=>(.za::.ref 0 [] 3 0 0:: .ref 1 [] 3 0 0:: .ref 2 [] 3 0 0:: .za::.za::.za::.za::.za::.za::.za::.za::.za::vd s.rules::I s.rules.length::I k:: .za::.za::.za::.za::.za::.za::.za::.za::.za::.za::.za::.za::.za::.za::.za::.za::.za::.za::.za::.za::.za::.za::.za::.za::.za::.za::.za::.za::.za::.za::.za::.za::.za::.za::.za::.za::.za::.za::.za::.za::.za::.za::.za::.za::.za::.za::.za::.za::.za::.za::.za::.za::.za::[])) (fun k=>[⟨1,69,3,[zJ s],0⟩,⟨1,33,3,[[.lst 1 0 [],.lst 1 0 [],.lst 1 0 []]],0⟩,⟨1,33,3,[[lT s.ze,.gl 3 4 (((s.rules.take k).map (zfM s)).map kQ),lC s.zm]],0⟩,⟨4,150,4,((s.rules.take k).map (zfM s)).map kQ,0⟩]) (fun k=>True) ?_ trivial (fun k hk hr=>?_) (fun hr=>?_)
 ·refine zq.trans (zq.zeG 2 1 150 4 rfl rfl (.inl rfl) rfl rfl) ?_
  exact cC
 ·obtain ⟨r,hx⟩:∃ r,r=s.rules[k]:=⟨_,rfl⟩
  have hg:(s.rules.map xU)[k]?= some (xU r):=by rw [List.getElem?_map,List.getElem?_eq_getElem hk,hx];rfl
  have hlg:(((s.rules.take k).map (zfM s)).map kQ).length=k:=by simp;omega
  have eg:((s.rules.take (k+1)).map (zfM s)).map kQ=((s.rules.take k).map (zfM s)).map kQ++[kQ (zfM s r)]:=by rw [List.take_succ_eq_append_getElem hk,<- hx];simp
  have hv:∀ a b,a=vN s.ze r.listen->b=y3 s.zm r.zg->kQ ⟨a,r.host,r.path,b⟩=kQ (zfM s r):=fun a b h1 h2=>by rw [h1,h2];rfl
  conv=>whnf
  (refine ⟨fun _=>?_,fun h=>absurd h (by simp;omega)⟩);refine dd ?_
  (refine ⟨by omega,_,by rw [toNat_cast];exact hg,?_⟩);refine dd ?_
  refine ⟨fun h1=>?_,fun h1=>?_⟩
  rotate_left
  ·refine dd ?_
   (repeat ((first | apply ya | apply yb);refine dd ?_))
   refine ⟨fun q1=>?_,fun q1=>?_⟩;rotate_left;(focus (refine dd ?_;(repeat ((first | apply ya | apply yb);refine dd ?_));(refine ⟨rfl,.inr rfl,by rw [hlg];simp [maxLen];omega,by rw [hlg];show (k+1) * 64<=_;omega,?_⟩);refine dd ?_;(refine .inl ⟨rfl,?_,trivial⟩);(rw [zD (by omega),eg,<- hv _ _ (by unfold vN;rw [if_neg (by simp at h1;omega)]) (by unfold y3;rw [if_neg (by simp at q1;omega)])]);exact cE 4));refine dd ?_;(rw [m3]);refine ⟨fun q2=>?_,fun q2=>?_⟩;rotate_left;(focus (refine dd ?_;(repeat ((first | apply ya | apply yb);refine dd ?_));(refine ⟨rfl,.inr rfl,by rw [hlg];simp [maxLen];omega,by rw [hlg];show (k+1) * 64<=_;omega,?_⟩);refine dd ?_;(refine .inl ⟨rfl,?_,trivial⟩);(rw [zD (by omega),eg,<- hv _ _ (by unfold vN;rw [if_neg (by simp at h1;omega)]) (by unfold y3;rw [if_neg (by simp at q2;omega)])]);exact cE 4));(have q3:r.zg.toNat < s.zm.length:=by simp at q1 q2;omega);(have gq:(s.zm.map jn)[r.zg.toNat]?= some (jn s.zm[r.zg.toNat]):=by rw [List.getElem?_map,List.getElem?_eq_getElem q3];rfl);refine dd ?_;(repeat ((first | apply ya | apply yb);refine dd ?_));(refine ⟨by simp at q1;omega,_,gq,?_⟩);refine dd ?_;(refine ⟨rfl,.inr rfl,by rw [hlg];simp [maxLen];omega,by rw [hlg];show (k+1) * 64<=_;omega,?_⟩);refine dd ?_;(refine .inl ⟨rfl,?_,trivial⟩);(rw [zD (by omega),eg,<- hv _ _ (by unfold vN;rw [if_neg (by simp at h1;omega)]) (by unfold y3;rw [if_pos (by simp at q1 q2;omega),List.getElem?_eq_getElem q3])]);exact cE 4
  refine dd ?_
  rw [m2]
  refine ⟨fun h2=>?_,fun h2=>?_⟩
  rotate_left
  ·refine dd ?_
   (repeat ((first | apply ya | apply yb);refine dd ?_))
   refine ⟨fun q1=>?_,fun q1=>?_⟩;rotate_left;(focus (refine dd ?_;(repeat ((first | apply ya | apply yb);refine dd ?_));(refine ⟨rfl,.inr rfl,by rw [hlg];simp [maxLen];omega,by rw [hlg];show (k+1) * 64<=_;omega,?_⟩);refine dd ?_;(refine .inl ⟨rfl,?_,trivial⟩);(rw [zD (by omega),eg,<- hv _ _ (by unfold vN;rw [if_neg (by simp at h2;omega)]) (by unfold y3;rw [if_neg (by simp at q1;omega)])]);exact cE 4));refine dd ?_;(rw [m3]);refine ⟨fun q2=>?_,fun q2=>?_⟩;rotate_left;(focus (refine dd ?_;(repeat ((first | apply ya | apply yb);refine dd ?_));(refine ⟨rfl,.inr rfl,by rw [hlg];simp [maxLen];omega,by rw [hlg];show (k+1) * 64<=_;omega,?_⟩);refine dd ?_;(refine .inl ⟨rfl,?_,trivial⟩);(rw [zD (by omega),eg,<- hv _ _ (by unfold vN;rw [if_neg (by simp at h2;omega)]) (by unfold y3;rw [if_neg (by simp at q2;omega)])]);exact cE 4));(have q3:r.zg.toNat < s.zm.length:=by simp at q1 q2;omega);(have gq:(s.zm.map jn)[r.zg.toNat]?= some (jn s.zm[r.zg.toNat]):=by rw [List.getElem?_map,List.getElem?_eq_getElem q3];rfl);refine dd ?_;(repeat ((first | apply ya | apply yb);refine dd ?_));(refine ⟨by simp at q1;omega,_,gq,?_⟩);refine dd ?_;(refine ⟨rfl,.inr rfl,by rw [hlg];simp [maxLen];omega,by rw [hlg];show (k+1) * 64<=_;omega,?_⟩);refine dd ?_;(refine .inl ⟨rfl,?_,trivial⟩);(rw [zD (by omega),eg,<- hv _ _ (by unfold vN;rw [if_neg (by simp at h2;omega)]) (by unfold y3;rw [if_pos (by simp at q1 q2;omega),List.getElem?_eq_getElem q3])]);exact cE 4
  have h3:r.listen.toNat < s.ze.length:=by simp at h1 h2;omega
  have gl:(s.ze.map v7)[r.listen.toNat]?= some (v7 s.ze[r.listen.toNat]):=by rw [List.getElem?_map,List.getElem?_eq_getElem h3];rfl
  refine dd ?_
  (repeat ((first | apply ya | apply yb);refine dd ?_))
  refine ⟨by simp at h1;omega,_,gl,?_⟩
  refine dd ?_
  refine ⟨fun q1=>?_,fun q1=>?_⟩;rotate_left;(focus (refine dd ?_;(repeat ((first | apply ya | apply yb);refine dd ?_));(refine ⟨rfl,.inr rfl,by rw [hlg];simp [maxLen];omega,by rw [hlg];show (k+1) * 64<=_;omega,?_⟩);refine dd ?_;(refine .inl ⟨rfl,?_,trivial⟩);(rw [zD (by omega),eg,<- hv _ _ (by unfold vN;rw [if_pos (by simp at h1 h2;omega),List.getElem?_eq_getElem h3]) (by unfold y3;rw [if_neg (by simp at q1;omega)])]);exact cE 4));refine dd ?_;(rw [m3]);refine ⟨fun q2=>?_,fun q2=>?_⟩;rotate_left;(focus (refine dd ?_;(repeat ((first | apply ya | apply yb);refine dd ?_));(refine ⟨rfl,.inr rfl,by rw [hlg];simp [maxLen];omega,by rw [hlg];show (k+1) * 64<=_;omega,?_⟩);refine dd ?_;(refine .inl ⟨rfl,?_,trivial⟩);(rw [zD (by omega),eg,<- hv _ _ (by unfold vN;rw [if_pos (by simp at h1 h2;omega),List.getElem?_eq_getElem h3]) (by unfold y3;rw [if_neg (by simp at q2;omega)])]);exact cE 4));(have q3:r.zg.toNat < s.zm.length:=by simp at q1 q2;omega);(have gq:(s.zm.map jn)[r.zg.toNat]?= some (jn s.zm[r.zg.toNat]):=by rw [List.getElem?_map,List.getElem?_eq_getElem q3];rfl);refine dd ?_;(repeat ((first | apply ya | apply yb);refine dd ?_));(refine ⟨by simp at q1;omega,_,gq,?_⟩);refine dd ?_;(refine ⟨rfl,.inr rfl,by rw [hlg];simp [maxLen];omega,by rw [hlg];show (k+1) * 64<=_;omega,?_⟩);refine dd ?_;(refine .inl ⟨rfl,?_,trivial⟩);(rw [zD (by omega),eg,<- hv _ _ (by unfold vN;rw [if_pos (by simp at h1 h2;omega),List.getElem?_eq_getElem h3]) (by unfold y3;rw [if_pos (by simp at q1 q2;omega),List.getElem?_eq_getElem q3])]);exact cE 4
 ·(conv=>whnf);(refine ⟨fun h=>absurd h (by simp),fun _=>?_⟩);refine dd ?_;(refine ⟨by simp,?_⟩);(conv=>whnf)
  rw [List.take_length]
  exact ⟨.inl rfl,_,.refl _,rfl⟩
theorem za8 (s:Sna) (hs:vm s):zc Tryz.prog 106 [] [Cs s] (Bo (vR s)) []:=by
 refine zc.zr (fn:=Tryz.f106) Tryz.func106 rfl ?_
 conv=>whnf
 refine ⟨_,_,(zfi s hs).frame rfl _,?_⟩;refine dd ?_
 refine ⟨_,_,(check_sound (w7 s) hs.cfg).frame rfl _,?_⟩;refine dd ?_
 refine ⟨fun h=>?_,fun h=>?_⟩
 ·refine dd ?_
  (exact ⟨.inl rfl,_,.refl _,congrArg (fun b=>some (C.v (Value.bool b))) (by unfold vR;exact h.symm)⟩)
 ·refine dd ?_
  (exact ⟨.inl rfl,_,.refl _,congrArg (fun b=>some (C.v (Value.bool b))) (by unfold vR;exact h.symm)⟩)
end Go.Wor
namespace Go.Wor
open Go.Ab Go.Proofs Go.Hy Go.Gat Go.Nam Go.Hos Go.Con Go.Sna
open Go.Slp (vr kT)
theorem zhz {f:Nat->Int} {n:Nat} (h:(jj f n).1=0):∀ j,j < n->f j=0:=fun j hj=>by
 unfold jj at h
 split at h
 ·rename_i i hi
  rw [List.find?_range_eq_some] at hi
  exact absurd h (by simpa using hi.1)
 ·rename_i hn
  rw [List.find?_range_eq_none] at hn
  simpa using hn j hj
structure zmN (x:Clu):Prop where
 name:jR x.name=true
 jJ:x.jJ=1∨x.jJ=2
 yA:1<=x.yA∧x.yA<=4
 zM:1<=x.zM.length∧x.zM.length<=4
structure znS (s:Sna):Prop where
 ze:1<=s.ze.length∧s.ze.length<=4
 rules:1<=s.rules.length∧s.rules.length<=8
 zm:1<=s.zm.length∧s.zm.length<=4
 all:∀ x ∈ s.zm,zmN x
theorem yd {s:Sna} (h:vR s=true):znS s:=by
 unfold vR at h
 have h:(xb (w7 s)).1=0:=by simpa using h
 unfold xb at h
 split at h
 ·contradiction
 rename_i h1
 split at h
 ·contradiction
 rename_i h2
 split at h
 ·contradiction
 rename_i h3
 have h1:(yz (w7 s)).1=0:=by simpa using h1
 unfold yz at h1
 split at h1
 ·cases h1
 rename_i h4
 have e:(w7 s).qf.length=s.rules.length:=by simp [w7]
 rw [e] at h4
 simp only [show (w7 s).ze=s.ze from rfl,show (w7 s).zm=s.zm from rfl] at h4
 have b:∀ n:Nat,∀ m:Int,¬(decide (1<=(n:Int)) && decide ((n:Int)<=m))=false->1<=n∧(n:Int)<=m:=fun n m hh=>by simp at hh;omega
 have q1:=b s.ze.length 4 fun hh=>h4 (.inl (.inl hh))
 have q2:=b s.rules.length 8 fun hh=>h4 (.inl (.inr hh))
 have q3:=b s.zm.length 4 fun hh=>h4 (.inr hh)
 refine ⟨by omega,by omega,by omega,fun x hx=>?_⟩
 obtain ⟨i,hi,rfl⟩:=List.mem_iff_getElem.1 hx
 have h5:=zhz (f:=zbj s.zm) (n:=s.zm.length) (Decidable.of_not_not h3) i hi
 unfold zbj at h5
 rw [List.getElem?_eq_getElem hi] at h5
 dsimp only at h5
 split at h5
 ·cases h5
 rename_i p1
 split at h5
 ·cases h5
 split at h5
 ·cases h5
 rename_i p2
 split at h5
 ·cases h5
 rename_i p3
 split at h5
 ·cases h5
 rename_i p4
 refine ⟨by simpa using p1,?_,?_,?_⟩
 ·by_cases a:s.zm[i].jJ=1
  ·exact .inl a
  ·by_cases a2:s.zm[i].jJ=2
   ·exact .inr a2
   ·exact absurd ⟨a,a2⟩ p2
 ·simp at p3;omega
 ·simp at p4;omega
abbrev vq (x:Clu):En:=(vr x.yA).1
theorem zkZ {x:Clu} (h:zmN x):vr x.yA=(vq x,0):=by
 have:=h.yA
 unfold vq vr
 rw [if_neg (by omega)]
def zeg (x:Clu):Gr:=⟨0,List.replicate x.zM.length (vq x)⟩
abbrev zoi:Sna:=⟨[],[],[]⟩
abbrev ziS:Ver:=⟨zoi,[],false⟩
def j5 (s:Sna):Ver × Int:=if vR s then (⟨s,s.zm.map zeg,false⟩,0) else (ziS,1)
abbrev Cv (v:Ver):C:=.agg (zw v)
abbrev tV (r:Ver × Int):C:=.tup [Cv r.1,I r.2]
theorem zf7 (s:Sna) (hs:vm s):zc Tryz.prog 112 [] [Cs s] (tV (j5 s)) []:=by
 have m1:(s.zm.map jn).length=s.zm.length:=List.length_map ..
 refine zc.zr (fn:=Tryz.f112) Tryz.func112 rfl ?_
 conv=>whnf
 refine ⟨_,_,(za8 s hs).frame rfl _,?_⟩;refine dd ?_
 refine ⟨fun h1=>?_,fun h1=>?_⟩
 rotate_left
 ·have e:j5 s=(ziS,1):=by unfold j5;rw [if_neg (by rw [h1];decide)]
  rw [e]
  refine dd ?_
  (repeat ((first | apply ya | apply yb);refine dd ?_))
  exact ⟨.inl rfl,_,zq.var 1 rfl rfl rfl (.cons (WC.nil 0 1) (.cons (WC.nil 0 4) (.cons (WC.nil 0 4) (.cons (WC.nil 0 2) (.cons (.refl _) .nil))))),rfl⟩
 have e:j5 s=(⟨s,s.zm.map zeg,false⟩,0):=by unfold j5;rw [if_pos h1]
 have hg:=yd h1
 rw [e]
 refine dd ?_
 (repeat ((first | apply ya | apply yb);refine dd ?_))
 rw [m1]
 refine qb.seq s.zm.length (fun k=>[.za,.ref 0 [] 3 0 0,.ref 1 [] 5 0 0,I 0,.ref 2 [] 5 0 0,.za,.za,.za,.za,.za,.za,.za,.za,.za,.za,.za,.za,lC s.zm,I s.zm.length,I k,.za,.za,.za,.za,.za,.za,.za,.za,.za,.za,.za,.za,.za,.za,.za,.za,.za,.za,.za,.za,.za,.za,.za,.za,.za,.za,.za,.za,.za,.za,.za,.za,.za]) (fun k=>[⟨1,69,3,[zJ s],0⟩,⟨1,72,5,[[.lst 1 0 [],.lst 1 0 [],.lst 1 0 [],.lst 1 0 [],Bo false]],0⟩,⟨1,72,5,[zJ s++[.gl 3 2 (((s.zm.take k).map zeg).map zp),Bo false]],0⟩,⟨4,93,2,((s.zm.take k).map zeg).map zp,0⟩]) (fun k=>True) ?_ trivial (fun k hk hr=>?_) (fun hr=>?_)
 ·refine zq.trans (zq.zeG 2 3 93 2 rfl rfl (.inl rfl) rfl rfl) ?_
  exact cC
 ·obtain ⟨x,hx⟩:∃ x,x=s.zm[k]:=⟨_,rfl⟩
  have hgx:(s.zm.map jn)[k]?= some (jn x):=by rw [List.getElem?_map,List.getElem?_eq_getElem hk,hx];rfl
  have hgood:=hg.all x (by rw [hx];exact List.getElem_mem hk)
  have hc4:=hg.zm.2
  have h4:=hgood.zM.2
  have hlg:(((s.zm.take k).map zeg).map zp).length=k:=by simp;omega
  have eg:((s.zm.take (k+1)).map zeg).map zp=((s.zm.take k).map zeg).map zp++[zp (zeg x)]:=by rw [List.take_succ_eq_append_getElem hk,<- hx];simp
  have mh:(x.zM.map yu).length=x.zM.length:=List.length_map ..
  have fs:zc Tryz.prog 166 [] [I x.yA] (.tup [.agg (zn (vq x)),I 0]) []:=by
   have:=kT x.yA
   rw [zkZ hgood] at this
   exact this
  conv=>whnf
  (refine ⟨fun _=>?_,fun h=>absurd h (by simp;omega)⟩);refine dd ?_
  (refine ⟨by omega,_,by rw [toNat_cast];exact hgx,?_⟩);refine dd ?_
  rw [mh]
  refine qb.seq x.zM.length (fun j=>[.za,.ref 0 [] 3 0 0,.ref 1 [] 5 0 0,I 0,.ref 2 [] 5 0 0,.za,.ref 4 [] 4 0 0,.ref 5 [] 2 0 0,.za,.za,.za,.za,.za,.za,.za,.za,.za,lC s.zm,I s.zm.length,I k,.za,.za,.za,.za,.za,I x.zM.length,I j,.za,.za,.za,.za,.za,.za,.za,.za,.za,.za,.za,.za,.za,.za,.za,.za,.za,.za,.za,.za,.za,.za,.za,.za,.za,.za]) (fun j=>[⟨1,69,3,[zJ s],0⟩,⟨1,72,5,[[.lst 1 0 [],.lst 1 0 [],.lst 1 0 [],.lst 1 0 [],Bo false]],0⟩,⟨1,72,5,[zJ s++[.gl 3 2 (((s.zm.take k).map zeg).map zp),Bo false]],0⟩,⟨4,93,2,((s.zm.take k).map zeg).map zp,0⟩,⟨1,148,4,[jn x],0⟩,⟨1,93,2,[[U 0,.gl 6 3 ((List.replicate j (vq x)).map zn)]],0⟩,⟨4,97,3,((List.replicate j (vq x)).map zn),0⟩]) (fun k=>True) ?_ trivial (fun j hj hr=>?_) (fun hr=>?_)
  ·refine zq.trans (zq.zeG 5 1 97 3 rfl rfl (.inl rfl) rfl rfl) ?_
   exact cC
  ·have hle:(((List.replicate j (vq x)).map zn)).length=j:=by simp
   have ee:((List.replicate (j+1) (vq x)).map zn)=((List.replicate j (vq x)).map zn)++[zn (vq x)]:=by rw [List.replicate_succ',List.map_append];rfl
   conv=>whnf
   (refine ⟨fun _=>?_,fun h=>absurd h (by simp;omega)⟩);refine dd ?_
   refine ⟨_,_,(fs).frame rfl _,?_⟩;refine dd ?_
   (repeat ((first | apply ya | apply yb);refine dd ?_))
   refine ⟨rfl,.inr rfl,by rw [hle];simp [maxLen];omega,by rw [hle];show (j+1) * 40<=_;omega,?_⟩
   refine dd ?_
   refine .inl ⟨rfl,?_,trivial⟩
   rw [zD (by omega),ee]
   exact cE 7
  ·(conv=>whnf);(refine ⟨fun h=>absurd h (by simp),fun _=>?_⟩);refine dd ?_;(refine ⟨by simp,?_⟩);(conv=>whnf)
   refine ⟨rfl,.inr rfl,by rw [hlg];simp [maxLen];omega,by rw [hlg];show (k+1) * 32<=_;omega,?_⟩
   refine dd ?_
   refine .inl ⟨rfl,?_,trivial⟩
   rw [zD (by omega),eg]
   exact cE 4
 ·(conv=>whnf);(refine ⟨fun h=>absurd h (by simp),fun _=>?_⟩);refine dd ?_;(refine ⟨by simp,?_⟩);(conv=>whnf)
  rw [List.take_length]
  exact ⟨.inl rfl,_,.refl _,rfl⟩
def y7 (n:Int):List (List Int) × Int:=if n < 1∨8 < n then ([],1) else (List.replicate n.toNat [0,0,0,0,0,0],0)
abbrev tC0 (r:List (List Int) × Int):C:=.tup [lCo r.1,I r.2]
def km (c:List (List Int)):Bool:=c.all (fun r=>r.length == 6) && decide (1<=c.length) && decide (c.length<=8)
theorem zgM {rows:List (List C)} (h:(rows.all fun r=>r.all fun c=>qF c && zy c)=true):∀ r ∈ rows,∀ c ∈ r,qF c=true∧zy c=true:=fun r hr c hc=>by
 have:=List.all_eq_true.1 (List.all_eq_true.1 h r hr) c hc
 simpa using this
theorem shut_map {α:Type} {enc:α->List C} (h:∀ x,(enc x).all (fun c=>qF c && zy c)=true) (l:List α):∀ r ∈ l.map enc,∀ c ∈ r,qF c=true∧zy c=true:=
 zgM (by rw [List.all_map];exact List.all_eq_true.2 fun x _=>h x)
theorem jY {n ty sz fz:Nat} {rows:List (List C)} (h:∀ r ∈ rows,∀ c ∈ r,qH n 9 c=true):qw n [⟨1,ty,sz,rows,fz⟩]=true:=by
 unfold qw
 simp only [List.all_cons,List.all_nil,Bool.and_true]
 simp
 exact h
theorem zmF {α:Type} (a b:α) {k n:Nat} (h:k < n):(List.replicate k a++List.replicate (n - k) b).set k a=List.replicate (k+1) a++List.replicate (n - (k+1)) b:=by
 rw [List.set_append_right _ _ (by simp)]
 have e:n - k=(n - (k+1))+1:=by omega
 simp only [List.length_replicate,Nat.sub_self]
 rw [e,List.replicate_succ,List.set_cons_zero,List.replicate_succ',List.append_assoc]
 rfl
theorem zmE {α:Type} (a b:α) {k n:Nat} (h:k < n):(List.replicate k a++List.replicate (n - k) b)[k]?= some b:=by
 rw [List.getElem?_append_right (by simp)]
 simp only [List.length_replicate,Nat.sub_self]
 have e:n - k=(n - (k+1))+1:=by omega
 rw [e,List.replicate_succ]
 rfl
theorem zdU (n:Int):zc Tryz.prog 129 [] [I n] (tC0 (y7 n)) []:=by
 refine zc.zr (fn:=Tryz.f129) Tryz.func129 rfl ?_
 conv=>whnf
 refine ⟨fun h1=>?_,fun h1=>?_⟩
 ·have e:y7 n=([],1):=by unfold y7;rw [if_pos (by simp at h1;omega)]
  rw [e]
  refine dd ?_
  (repeat ((first | apply ya | apply yb);refine dd ?_))
  exact ⟨.inl rfl,_,zq.cell 2 rfl (WC.nil 0 1),rfl⟩
 refine dd ?_
 refine ⟨fun h2=>?_,fun h2=>?_⟩
 ·have e:y7 n=([],1):=by unfold y7;rw [if_pos (by simp at h2;omega)]
  rw [e]
  refine dd ?_
  (repeat ((first | apply ya | apply yb);refine dd ?_))
  exact ⟨.inl rfl,_,zq.cell 2 rfl (WC.nil 0 1),rfl⟩
 have b1:1<=n∧n<=8:=by simp at h1 h2;omega
 have e:y7 n=(List.replicate n.toNat [0,0,0,0,0,0],0):=by unfold y7;rw [if_neg (by omega)]
 rw [e]
 refine dd ?_
 refine ⟨rfl,by omega,by show (24:Int) * n<=_;omega,by omega,?_⟩
 refine dd ?_
 refine qb.seq n.toNat (fun k=>[I n,.za,.lst 1 0 [],I 0,.sl 0 [] 1 0 n.toNat false,.za,.za,.za,.za,.za,.za,.za,.za,.za,.za,I n.toNat,I k,.za,.za,.za,.za,.za,.za,.za,.za]) (fun k=>[⟨1,0,1,(List.replicate k [lU [0,0,0,0,0,0]]++List.replicate (n.toNat - k) [C.lst 1 0 []]),0⟩]) (fun k=>True) ?_ trivial (fun k hk hr=>?_) (fun hr=>?_)
 ·refine zq.trans (zq.zgn 0 rfl (by intro r hr c hc;rw [List.eq_of_mem_replicate hr] at hc;rw [List.mem_singleton.1 hc];rfl)) ?_
  exact cC
 ·conv=>whnf
  (refine ⟨fun _=>?_,fun h=>absurd h (by simp;omega)⟩);refine dd ?_
  refine ⟨rfl,by decide,by show (8:Int) * 6<=_;decide,by decide,?_⟩
  refine dd ?_
  refine ⟨by omega,by simp;omega,?_⟩
  refine dd ?_
  have e1:0+(k:Int).toNat=k:=by simp
  rw [e1]
  refine ⟨_,zmE _ _ hk,rfl,?_⟩
  refine dd ?_
  refine .inl ⟨rfl,?_,trivial⟩
  refine zq.trans (zq.zZ 0 k 0 (r:=[.sl 1 [] 1 0 6 false]) rfl (by rw [List.getElem?_set,if_pos rfl,if_pos (by simp;omega)];rfl) rfl rfl (.inr rfl) rfl rfl ?_ ?_) ?_
  ·exact zgM (rows:=List.replicate 6 [U 0]) rfl
  ·intro r hr c hc
   rcases List.mem_or_eq_of_mem_set hr with hr | rfl
   ·rcases List.mem_append.1 hr with hr | hr <;> (rw [List.eq_of_mem_replicate hr] at hc;rw [List.mem_singleton.1 hc];rfl)
   ·rw [List.mem_singleton.1 hc];rfl
  ·have e3:(List.replicate k [lU [0,0,0,0,0,0]]++List.replicate (n.toNat - k) [C.lst 1 0 []]).set k [lU [0,0,0,0,0,0]]=(List.replicate (k+1) [lU [0,0,0,0,0,0]]++List.replicate (n.toNat - (k+1)) [C.lst 1 0 []]):=zmF _ _ hk
   rw [List.set_set,<- e3,zD (by omega)]
   refine zq.xW 1 (by (conv=>whnf);(repeat (refine ⟨rfl,?_⟩;(conv=>whnf)));exact trivial) rfl rfl rfl (jY (rows:=(List.replicate k [lU [0,0,0,0,0,0]]++List.replicate (n.toNat - k) [C.lst 1 0 []]).set k [lU [0,0,0,0,0,0]]) fun r hr c hc=>?_) rfl
   rw [e3] at hr
   rcases List.mem_append.1 hr with hr | hr <;> (rw [List.eq_of_mem_replicate hr] at hc;rw [List.mem_singleton.1 hc];rfl)
 ·(conv=>whnf);(refine ⟨fun h=>absurd h (by simp),fun _=>?_⟩);refine dd ?_;(refine ⟨by simp,?_⟩);(conv=>whnf)
  have e4:(List.replicate n.toNat [(0:Int),0,0,0,0,0]).map zL=(List.replicate n.toNat [lU [0,0,0,0,0,0]]++List.replicate (n.toNat - n.toNat) [C.lst 1 0 []]):=by rw [List.map_replicate,Nat.sub_self,List.replicate_zero,List.append_nil];rfl
  have sh:∀ r ∈ (List.replicate n.toNat [lU [0,0,0,0,0,0]]++List.replicate (n.toNat - n.toNat) [C.lst 1 0 []]),∀ c ∈ r,qF c=true∧zy c=true:=by
   rw [Nat.sub_self,List.replicate_zero,List.append_nil]
   intro r hr c hc
   rw [List.eq_of_mem_replicate hr] at hc
   rw [List.mem_singleton.1 hc]
   exact ⟨rfl,rfl⟩
  refine ⟨.inl rfl,_,zq.zaO 2 rfl rfl (.inl rfl) (by simp) sh,?_⟩
  rw [<- e4]
  rfl
theorem zej (c:List (List Int)) (hc:c.length < 4000000000000000000):zc Tryz.prog 103 [] [lCo c] (Bo (km c)) []:=by
 have m1:(c.map zL).length=c.length:=List.length_map ..
 refine zc.zr (fn:=Tryz.f103) Tryz.func103 rfl ?_
 conv=>whnf
 rw [m1]
 refine qb.seq c.length (fun k=>[lCo c,.za,Bo false,.za,.za,lCo c,I c.length,I k,.za,.za,.za,.za,.za,.za,.za,.za,.za,.za,.za,.za,.za,.za,.za]) (fun k=>[]) (fun k=>∀ j,(h:j < c.length)->j < k->(c[j].length == 6)=true) ?_ (by simp) (fun k hk hr=>?_) (fun hr=>?_)
 ·exact cC
 ·obtain ⟨x,hx⟩:∃ x,x=c[k]:=⟨_,rfl⟩
  have hg:(c.map zL)[k]?= some (zL x):=by rw [List.getElem?_map,List.getElem?_eq_getElem hk,hx];rfl
  have mx:(x.map qY).length=x.length:=List.length_map ..
  conv=>whnf
  (refine ⟨fun _=>?_,fun h=>absurd h (by simp;omega)⟩);refine dd ?_
  (refine ⟨by omega,_,by rw [toNat_cast];exact hg,?_⟩);refine dd ?_
  rw [mx]
  refine ⟨fun h1=>?_,fun h1=>?_⟩
  ·have hf:c.all (fun r=>r.length == 6)=false:=by
    rw [List.all_eq_false]
    exact ⟨x,by rw [hx];exact List.getElem_mem hk,by simp at h1 ⊢;omega⟩
   have e:km c=false:=by unfold km;rw [hf];rfl
   rw [e]
   refine dd ?_
   (refine .inr ⟨by simp,?_⟩);(conv=>whnf)
   exact ⟨.inl rfl,_,.refl _,rfl⟩
  ·refine dd ?_
   refine .inl ⟨rfl,?_,fun j hj hjk=>?_⟩
   ·rw [zD (by omega)]
    exact cE 0
   ·by_cases e:j=k
    ·subst e;rw [<- hx];simp at h1 ⊢;omega
    ·exact hr j hj (by omega)
 ·have ht:c.all (fun r=>r.length == 6)=true:=by
   rw [List.all_eq_true]
   intro r hr'
   obtain ⟨j,hj,rfl⟩:=List.mem_iff_getElem.1 hr'
   exact hr j hj hj
  have e:km c=(decide (1<=c.length) && decide (c.length<=8)):=by unfold km;rw [ht];rfl
  rw [e]
  (conv=>whnf);(refine ⟨fun h=>absurd h (by simp),fun _=>?_⟩);refine dd ?_;(refine ⟨by simp,?_⟩);(conv=>whnf)
  rw [m1]
  refine ⟨fun h1=>?_,fun h1=>?_⟩
  ·refine dd ?_
   rw [m1]
   refine ⟨fun h2=>?_,fun h2=>?_⟩
   ·refine dd ?_
    (repeat ((first | apply ya | apply yb);refine dd ?_))
    (exact ⟨.inl rfl,_,.refl _,congrArg (fun b=>some (C.v (Value.bool b))) (by symm;simp at h1 h2 ⊢;omega)⟩)
   ·refine dd ?_
    (repeat ((first | apply ya | apply yb);refine dd ?_))
    (exact ⟨.inl rfl,_,.refl _,congrArg (fun b=>some (C.v (Value.bool b))) (by symm;simp at h1 h2 ⊢;omega)⟩)
  ·refine dd ?_
   (repeat ((first | apply ya | apply yb);refine dd ?_))
   (exact ⟨.inl rfl,_,.refl _,congrArg (fun b=>some (C.v (Value.bool b))) (by symm;simp at h1 ⊢;omega)⟩)
end Go.Wor
namespace Go.Wor
open Go.Ab Go.Proofs Go.Hy Go.Gat Go.Nam Go.Hos Go.Con Go.Sna
open Go.Slp (vr kT)
abbrev Cw (w:Wor):C:=.agg (z5 w)
abbrev tW (r:Wor × Int):C:=.tup [Cw r.1,I r.2]
abbrev zgx:Wor:=⟨0,0,0,[],[],[],[],[]⟩
def zac (s:Str):Lis:=⟨s,false,0,false⟩
def zdy (l:List Str) (i:Nat):Bool:=match l[i]? with
 | some s=>jR s && decide (jd ((l.take i).map zac) s < 0)
 | none=>true
def zaT (l:List Str):Bool:=(List.range l.length).all (zdy l)
def zdz (s:Sna) (l:List Str) (n:Int):Wor × Int:=
 if vR s=false∨n < 1∨8 < n∨zaT l=false then (zgx,1)
 else (⟨0,0,0,List.replicate n.toNat 0,[(j5 s).1],l.map zac,List.replicate n.toNat [0,0,0,0,0,0],[]⟩,0)
theorem zjP (s:Sna) (l:List Str) (n:Int) (hs:vm s) (hl:l.length < 1000000000∧∀ x ∈ l,x.length < 4000000000000000000):zc Tryz.prog 80 [] [Cs s,lT l,I n] (tW (zdz s l n)) []:=by
 have m1:(l.map v7).length=l.length:=List.length_map ..
 have cs:=zf7 s hs
 refine zc.zr (fn:=Tryz.f80) Tryz.func80 rfl ?_
 conv=>whnf
 by_cases h0:vR s=true
 rotate_left
 ·have e:zdz s l n=(zgx,1):=by unfold zdz;rw [if_pos (.inl (by simpa using h0))]
  have e2:j5 s=(ziS,1):=by unfold j5;rw [if_neg h0]
  rw [e2] at cs
  have cs:zc Tryz.prog 112 [] [Cs s] (.tup [Cv ziS,I 1]) []:=cs
  rw [e]
  refine ⟨_,_,(cs).frame rfl _,?_⟩;refine dd ?_
  (repeat ((first | apply ya | apply yb);refine dd ?_))
  exact ⟨.inl rfl,_,zq.var 1 rfl rfl rfl (.cons (.refl _) (.cons (.refl _) (.cons (.refl _) (.cons (WC.nil 0 1) (.cons (WC.nil 0 5) (.cons (WC.nil 0 4) (.cons (WC.nil 0 1) (.cons (WC.nil 0 3) .nil)))))))),rfl⟩
 have e2:j5 s=((j5 s).1,0):=by unfold j5;rw [if_pos h0]
 rw [e2] at cs
 have cs:zc Tryz.prog 112 [] [Cs s] (.tup [Cv (j5 s).1,I 0]) []:=cs
 have hn:=zdU n
 refine ⟨_,_,(cs).frame rfl _,?_⟩;refine dd ?_
 (repeat ((first | apply ya | apply yb);refine dd ?_))
 by_cases h1:n < 1∨8 < n
 ·have e:zdz s l n=(zgx,1):=by unfold zdz;rw [if_pos (by omega)]
  have e3:y7 n=([],1):=by unfold y7;rw [if_pos h1]
  rw [e3] at hn
  have hn:zc Tryz.prog 129 [] [I n] (.tup [lCo [],I 1]) []:=hn
  rw [e]
  refine ⟨_,_,(hn).frame rfl _,?_⟩;refine dd ?_
  (repeat ((first | apply ya | apply yb);refine dd ?_))
  exact ⟨.inl rfl,_,zq.var 1 rfl rfl rfl (.cons (.refl _) (.cons (.refl _) (.cons (.refl _) (.cons (WC.nil 0 1) (.cons (WC.nil 0 5) (.cons (WC.nil 0 4) (.cons (WC.nil 0 1) (.cons (WC.nil 0 3) .nil)))))))),rfl⟩
 have e3:y7 n=(List.replicate n.toNat [0,0,0,0,0,0],0):=by unfold y7;rw [if_neg h1]
 rw [e3] at hn
 have hn:zc Tryz.prog 129 [] [I n] (.tup [lCo (List.replicate n.toNat [0,0,0,0,0,0]),I 0]) []:=hn
 refine ⟨_,_,(hn).frame rfl _,?_⟩;refine dd ?_
 (repeat ((first | apply ya | apply yb);refine dd ?_))
 refine .inl ⟨⟨false,[0,3],[2],[]⟩,by kernel_rfl,?_⟩;(conv=>whnf)
 refine ⟨rfl,by omega,by show (8:Int) * n<=_;omega,by omega,?_⟩
 refine dd ?_
 repeat (refine ⟨rfl,?_⟩;conv=>whnf)
 rw [m1]
 have hb:zaT l=false->zdz s l n=(zgx,1):=fun h=>by unfold zdz;rw [if_pos (.inr (.inr (.inr h)))]
 refine qb.seq l.length (fun k=>(.za::.za::.za::.ref 0 [] 3 0 0:: .za::.za::.ref 1 [] 8 0 0::I 0:: .za::.za::.za::.ref 3 [] 8 0 0:: .za::.za::.za::.za::.za::.za::.za::.za::.za::.za::.za::.za::.za::.za::.za::.za::.za::.za::.za::.za::.za::.za::.za::.za::.za::.za::lT l::I l.length::I k:: .za::.za::.za::.za::.za::.za::.za::.za::.za::.za::.za::.za::.za::.za::.za::.za::.za::.za::.za::.za::.za::.za::.za::[])) (fun k=>[⟨1,69,3,[zJ s],0⟩,⟨1,28,8,[[I 0,I 0,I 0,.lst 1 0 [],.lst 1 0 [],.lst 1 0 [],.lst 1 0 [],.lst 1 0 []]],0⟩,⟨1,72,5,[zw (j5 s).1],0⟩,⟨1,28,8,[[I 0,I 0,I 0,.lst 0 1 (List.replicate n.toNat [I 0]),.lst 1 5 [zw (j5 s).1],.gl 4 4 (((l.take k).map zac).map jc),lCo (List.replicate n.toNat [0,0,0,0,0,0]),.lst 1 0 []]],0⟩,⟨4,95,4,((l.take k).map zac).map jc,0⟩]) (fun k=>∀ j,j < k->zdy l j=true) ?_ (by simp) (fun k hk hr=>?_) (fun hr=>?_)
 ·refine zq.trans (zq.zeG 3 5 95 4 rfl rfl (.inl rfl) rfl rfl) ?_
  exact cC
 ·obtain ⟨x,hx⟩:∃ x,x=l[k]:=⟨_,rfl⟩
  have hx2:l[k]?= some x:=by rw [List.getElem?_eq_getElem hk,hx]
  have hg:(l.map v7)[k]?= some (v7 x):=by rw [List.getElem?_map,hx2];rfl
  have hxm:x ∈ l:=by rw [hx];exact List.getElem_mem hk
  have hno:zdy l k=(jR x && decide (jd ((l.take k).map zac) x < 0)):=by unfold zdy;rw [hx2]
  have bad:zdy l k=false->zdz s l n=(zgx,1):=fun h=>hb (by unfold zaT;rw [List.all_eq_false];exact ⟨k,by simpa using hk,by simp [h]⟩)
  have hlg:(((l.take k).map zac).map jc).length=k:=by simp;omega
  have eg:((l.take (k+1)).map zac).map jc=((l.take k).map zac).map jc++[jc (zac x)]:=by rw [List.take_succ_eq_append_getElem hk,<- hx];simp
  conv=>whnf
  (refine ⟨fun _=>?_,fun h=>absurd h (by simp;omega)⟩);refine dd ?_
  (refine ⟨by omega,_,by rw [toNat_cast];exact hg,?_⟩);refine dd ?_
  refine ⟨_,_,(xf x (by have:=hl.2 x hxm;omega)).frame rfl _,?_⟩;refine dd ?_
  refine ⟨fun h2=>?_,fun h2=>?_⟩
  rotate_left
  ·rw [bad (by rw [hno,h2];rfl)]
   refine dd ?_
   (repeat ((first | apply ya | apply yb);refine dd ?_))
   (refine .inr ⟨by simp,?_⟩);(conv=>whnf)
   exact ⟨.inl rfl,_,zq.var 1 rfl rfl rfl (.cons (.refl _) (.cons (.refl _) (.cons (.refl _) (.cons (WC.nil 0 1) (.cons (WC.nil 0 5) (.cons (WC.nil 0 4) (.cons (WC.nil 0 1) (.cons (WC.nil 0 3) .nil)))))))),rfl⟩
  refine dd ?_
  refine ⟨_,_,(k9 ((l.take k).map zac) x (by simp;omega)).frame rfl _,?_⟩;refine dd ?_
  refine ⟨fun h3=>?_,fun h3=>?_⟩
  ·rw [bad (by rw [hno,show decide (jd ((l.take k).map zac) x < 0)=false from by simp at h3 ⊢;omega,Bool.and_false])]
   refine dd ?_
   (repeat ((first | apply ya | apply yb);refine dd ?_))
   (refine .inr ⟨by simp,?_⟩);(conv=>whnf)
   exact ⟨.inl rfl,_,zq.var 1 rfl rfl rfl (.cons (.refl _) (.cons (.refl _) (.cons (.refl _) (.cons (WC.nil 0 1) (.cons (WC.nil 0 5) (.cons (WC.nil 0 4) (.cons (WC.nil 0 1) (.cons (WC.nil 0 3) .nil)))))))),rfl⟩
  refine dd ?_
  (repeat ((first | apply ya | apply yb);refine dd ?_))
  refine ⟨rfl,.inr rfl,by rw [hlg];simp [maxLen];omega,by rw [hlg];show (k+1) * 40<=_;omega,?_⟩
  refine dd ?_
  refine .inl ⟨rfl,?_,fun j hj=>?_⟩
  ·rw [zD (by omega),eg]
   exact cE 5
  ·by_cases e:j=k
   ·subst e
    rw [hno,h2]
    simp at h3 ⊢
    omega
   ·exact hr j (by omega)
 ·have zX:zaT l=true:=by
   unfold zaT
   rw [List.all_eq_true]
   intro i hi
   exact hr i (by simpa using hi)
  have e:zdz s l n=(⟨0,0,0,List.replicate n.toNat 0,[(j5 s).1],l.map zac,List.replicate n.toNat [0,0,0,0,0,0],[]⟩,0):=by unfold zdz;rw [if_neg (by simp only [h0,zX];simp;omega)]
  rw [e]
  (conv=>whnf);(refine ⟨fun h=>absurd h (by simp),fun _=>?_⟩);refine dd ?_;(refine ⟨by simp,?_⟩);(conv=>whnf)
  rw [List.take_length]
  refine ⟨.inl rfl,_,zq.var 1 rfl rfl rfl (.cons (.refl _) (.cons (.refl _) (.cons (.refl _) (.cons (.refl _) (.cons (WC.share 1 5 _) (.cons (.refl _) (.cons (.refl _) (.cons (WC.nil 0 3) .nil)))))))),?_⟩
  have e9:z5 ⟨0,0,0,List.replicate n.toNat 0,[(j5 s).1],l.map zac,List.replicate n.toNat [0,0,0,0,0,0],[]⟩=[I 0,I 0,I 0,.lst 0 1 (List.replicate n.toNat [I 0]),.lst 0 5 [zw (j5 s).1],lL (l.map zac),lCo (List.replicate n.toNat [0,0,0,0,0,0]),.lst 0 3 []]:=by
   have e8:(List.replicate n.toNat (0:Int)).map encI=List.replicate n.toNat [I 0]:=List.map_replicate
   show [I 0,I 0,I 0,C.lst 0 1 ((List.replicate n.toNat (0:Int)).map encI),_,_,_,_]=_
   rw [e8]
   rfl
  show _=some (C.tup [C.agg (z5 ⟨0,0,0,List.replicate n.toNat 0,[(j5 s).1],l.map zac,List.replicate n.toNat [0,0,0,0,0,0],[]⟩),I 0])
  rw [e9]
  rfl
end Go.Wor
namespace Go.Wor
open Go.Ab Go.Proofs Go.Hy Go.Gat Go.Nam Go.Hos Go.Con Go.Sna
theorem jh {F:List (List C)} {z:List C} {k n:Nat} (hF:F.length=n) (h:k < n):(F.take k++(List.replicate n z).drop k)[k]?= some z:=by
 rw [List.getElem?_append_right (by simp;omega),List.length_take,List.getElem?_drop,List.getElem?_replicate,if_pos (by omega)]
theorem qu {F:List (List C)} {x z:List C} {k n:Nat} (hx:F[k]?= some x) (hn:k < n):(F.take k++(List.replicate n z).drop k).set k x=F.take (k+1)++(List.replicate n z).drop (k+1):=by
 obtain ⟨hk,rfl⟩:=List.getElem?_eq_some_iff.1 hx
 have e1:(F.take k).length=k:=by simp;omega
 rw [List.set_append_right _ _ (by omega),e1,Nat.sub_self,List.drop_replicate,List.drop_replicate,List.take_succ_eq_append_getElem hk,List.append_assoc]
 have e2:n - k=(n - (k+1))+1:=by omega
 rw [e2,List.replicate_succ]
 rfl
theorem xF {F:List (List C)} {z:List C} {n:Nat} (hF:F.length=n):F.take n++(List.replicate n z).drop n=F:=by
 rw [List.take_of_length_le (by omega),List.drop_of_length_le (by simp),List.append_nil]
theorem zga (x:Int) (l:List Int) (hl:l.length < 1000000000):zc Tryz.prog 275 [] [lI (x::l)] (.sl 0 [] 1 0 (x::l).length false) [⟨2,3,1,(x::l).map encI,0⟩]:=by
 have e:0+((l.map encI).length+1)=(x::l).length:=by simp
 rw [<- e]
 refine zc.zW (fn:=Tryz.f275) Tryz.func275 rfl ?_
 conv=>whnf
 refine ⟨by simp,?_⟩
 conv=>whnf
 refine .inr ⟨.inl rfl,by simp [maxLen];omega,by show _ * 8<=_;simp;omega,?_⟩
 conv=>whnf
 exact ⟨.inl rfl,_,.refl _,rfl,rfl⟩
theorem kO (l:List Int) (hl:l.length < 1000000000):zc Tryz.prog 275 [] [lI l] (lI l) []:=by
 cases l with
 | nil=>
  refine zc.zr (fn:=Tryz.f275) Tryz.func275 rfl ?_
  conv=>whnf
  refine ⟨?_,?_⟩
  ·refine dd ?_
   exact ⟨.inl rfl,_,zq.cell 2 rfl (WC.nil 0 1),rfl⟩
  ·refine dd ?_
   refine .inr ⟨rfl,?_⟩
   refine dd ?_
   exact ⟨.inl rfl,_,zq.cell 2 rfl ((WC.none 1 1 1).trans (WC.share 1 1 [])),rfl⟩
 | cons x l=>
  have hl3:l.length+1 < 1000000000:=by simpa using hl
  refine zc.zr (fn:=Tryz.f275) Tryz.func275 rfl ?_
  conv=>whnf
  refine ⟨by simp,?_⟩
  conv=>whnf
  refine .inr ⟨.inl rfl,by simp [maxLen];omega,by show _ * 8<=_;simp;omega,?_⟩
  conv=>whnf
  exact ⟨.inl rfl,_,zq.zaO 2 rfl rfl (.inr rfl) (by simp) (shut_map (fun _=>rfl) (x::l)),rfl⟩
theorem zkI (x:Int) (l:List Int) (hl:l.length < 1000000000):zc Tryz.prog 316 [] [lU (x::l)] (.sl 0 [] 1 0 (x::l).length false) [⟨2,38,1,(x::l).map qY,0⟩]:=by
 have e:0+((l.map qY).length+1)=(x::l).length:=by simp
 rw [<- e]
 refine zc.zW (fn:=Tryz.f316) Tryz.func316 rfl ?_
 conv=>whnf
 refine ⟨by simp,?_⟩
 conv=>whnf
 refine .inr ⟨.inl rfl,by simp [maxLen];omega,by show _ * 8<=_;simp;omega,?_⟩
 conv=>whnf
 exact ⟨.inl rfl,_,.refl _,rfl,rfl⟩
theorem zkJ (l:List Int) (hl:l.length < 1000000000):zc Tryz.prog 316 [] [lU l] (lU l) []:=by
 cases l with
 | nil=>
  refine zc.zr (fn:=Tryz.f316) Tryz.func316 rfl ?_
  conv=>whnf
  refine ⟨?_,?_⟩
  ·refine dd ?_
   exact ⟨.inl rfl,_,zq.cell 2 rfl (WC.nil 0 1),rfl⟩
  ·refine dd ?_
   refine .inr ⟨rfl,?_⟩
   refine dd ?_
   exact ⟨.inl rfl,_,zq.cell 2 rfl ((WC.none 1 1 1).trans (WC.share 1 1 [])),rfl⟩
 | cons x l=>
  have hl3:l.length+1 < 1000000000:=by simpa using hl
  refine zc.zr (fn:=Tryz.f316) Tryz.func316 rfl ?_
  conv=>whnf
  refine ⟨by simp,?_⟩
  conv=>whnf
  refine .inr ⟨.inl rfl,by simp [maxLen];omega,by show _ * 8<=_;simp;omega,?_⟩
  conv=>whnf
  exact ⟨.inl rfl,_,zq.zaO 2 rfl rfl (.inr rfl) (by simp) (shut_map (fun _=>rfl) (x::l)),rfl⟩
theorem zkH (x:Lis) (l:List Lis) (hl:l.length < 1000000000):zc Tryz.prog 278 [] [lL (x::l)] (.sl 0 [] 4 0 (x::l).length false) [⟨2,95,4,(x::l).map jc,0⟩]:=by
 have e:0+((l.map jc).length+1)=(x::l).length:=by simp
 rw [<- e]
 refine zc.zW (fn:=Tryz.f278) Tryz.func278 rfl ?_
 conv=>whnf
 refine ⟨by simp,?_⟩
 conv=>whnf
 refine .inr ⟨.inl rfl,by simp [maxLen];omega,by show _ * 40<=_;simp;omega,?_⟩
 conv=>whnf
 exact ⟨.inl rfl,_,.refl _,rfl,rfl⟩
theorem zaD (l:List Lis) (hl:l.length < 1000000000):zc Tryz.prog 278 [] [lL l] (lL l) []:=by
 cases l with
 | nil=>
  refine zc.zr (fn:=Tryz.f278) Tryz.func278 rfl ?_
  conv=>whnf
  refine ⟨?_,?_⟩
  ·refine dd ?_
   exact ⟨.inl rfl,_,zq.cell 2 rfl (WC.nil 0 4),rfl⟩
  ·refine dd ?_
   refine .inr ⟨rfl,?_⟩
   refine dd ?_
   exact ⟨.inl rfl,_,zq.cell 2 rfl ((WC.none 1 4 4).trans (WC.share 1 4 [])),rfl⟩
 | cons x l=>
  have hl3:l.length+1 < 1000000000:=by simpa using hl
  refine zc.zr (fn:=Tryz.f278) Tryz.func278 rfl ?_
  conv=>whnf
  refine ⟨by simp,?_⟩
  conv=>whnf
  refine .inr ⟨.inl rfl,by simp [maxLen];omega,by show _ * 40<=_;simp;omega,?_⟩
  conv=>whnf
  exact ⟨.inl rfl,_,zq.zaO 2 rfl rfl (.inr rfl) (by simp) (shut_map (fun _=>rfl) (x::l)),rfl⟩
theorem kP (l:List Ret) (hl:l.length < 1000000000):zc Tryz.prog 281 [] [lR l] (lR l) []:=by
 cases l with
 | nil=>
  refine zc.zr (fn:=Tryz.f281) Tryz.func281 rfl ?_
  conv=>whnf
  refine ⟨?_,?_⟩
  ·refine dd ?_
   exact ⟨.inl rfl,_,zq.cell 2 rfl (WC.nil 0 3),rfl⟩
  ·refine dd ?_
   refine .inr ⟨rfl,?_⟩
   refine dd ?_
   exact ⟨.inl rfl,_,zq.cell 2 rfl ((WC.none 1 3 3).trans (WC.share 1 3 [])),rfl⟩
 | cons x l=>
  have hl3:l.length+1 < 1000000000:=by simpa using hl
  refine zc.zr (fn:=Tryz.f281) Tryz.func281 rfl ?_
  conv=>whnf
  refine ⟨by simp,?_⟩
  conv=>whnf
  refine .inr ⟨.inl rfl,by simp [maxLen];omega,by show _ * 24<=_;simp;omega,?_⟩
  conv=>whnf
  exact ⟨.inl rfl,_,zq.zaO 2 rfl rfl (.inr rfl) (by simp) (shut_map (fun _=>rfl) (x::l)),rfl⟩
theorem zc3 (e:En) (he:e.next.length < 1000000000):zc Tryz.prog 328 [] [.agg [],.agg (zn e)] (.agg (zn e)) []:=by
 refine zc.zr (fn:=Tryz.f328) Tryz.func328 rfl ?_
 conv=>whnf
 refine ⟨_,_,(kO e.next he).frame rfl _,?_⟩;refine dd ?_
 exact ⟨.inl rfl,_,.refl _,rfl⟩
theorem zl4 (l:List En) (hl:l.length < 1000000000) (hp:∀ x ∈ l,zc Tryz.prog 328 [] [.agg [],.agg (zn x)] (.agg (zn x)) []):zc Tryz.prog 327 [] [lE l,.fn 328 [] [],.agg []] (.sl 0 [] 3 0 l.length false) [⟨2,97,3,l.map zn,0⟩]:=by
 have m1:(l.map zn).length=l.length:=List.length_map ..
 refine zc.zW (fn:=Tryz.f327) Tryz.func327 rfl ?_
 conv=>whnf
 rw [m1]
 refine ⟨rfl,by omega,by show (40:Int) * _<=_;omega,by omega,?_⟩
 refine dd ?_
 rw [m1,toNat_cast]
 refine qb.seq l.length (fun k=>[lE l,.fn 328 [] [],.za,.za,.za,.ref 0 [] 0 0 0,.lst 1 0 [],.sl 1 [] 3 0 l.length false,.za,.za,.za,.za,.za,lE l,I l.length,I k,.za,.za,.za,.za,.za,.za,.za,.za,.za,.za,.za,.za,.za]) (fun k=>[⟨1,281,0,[[]],0⟩,⟨2,97,3,(l.map zn).take k++(List.replicate l.length [U 0,.lst 1 0 [],I 0]).drop k,0⟩]) (fun k=>True) ?_ trivial (fun k hk hr=>?_) (fun hr=>?_)
 ·exact cC
 ·obtain ⟨x,hx⟩:∃ x,x=l[k]:=⟨_,rfl⟩
  have hx2:l[k]?= some x:=by rw [List.getElem?_eq_getElem hk,hx]
  have hg:(l.map zn)[k]?= some (zn x):=by rw [List.getElem?_map,hx2];rfl
  conv=>whnf
  (refine ⟨fun _=>?_,fun h=>absurd h (by simp;omega)⟩);refine dd ?_
  (refine ⟨by omega,_,by rw [toNat_cast];exact hg,?_⟩);refine dd ?_
  refine ⟨_,_,(hp x (by rw [hx];exact List.getElem_mem hk)).frame rfl _,?_⟩;refine dd ?_
  refine ⟨by omega,by simp;omega,?_⟩
  refine dd ?_
  have e1:0+(k:Int).toNat=k:=by simp
  rw [e1]
  refine ⟨_,jh (by simp) hk,rfl,?_⟩
  refine dd ?_
  refine .inl ⟨rfl,?_,trivial⟩
  have e2:=qu (z:=[U 0,.lst 1 0 [],I 0]) (n:=l.length) hg hk
  rw [zD (by omega),<- e2]
  exact cE 2
 ·(conv=>whnf);(refine ⟨fun h=>absurd h (by simp),fun _=>?_⟩);refine dd ?_;(refine ⟨by simp,?_⟩);(conv=>whnf)
  rw [xF (by simp)]
  exact ⟨.inl rfl,_,zq.ren [1] [6] _ _ rfl rfl rfl rfl,rfl,rfl⟩
theorem qm {r:List C} (h:r.all zy=true):∀ q ∈ [r],∀ c ∈ q,zy c=true:=fun q hq c hc=>by
 rw [List.mem_singleton.1 hq] at hc
 exact List.all_eq_true.1 h c hc
def zm3 (g:Gr):Prop:=g.ends.length < 1000000000∧∀ e ∈ g.ends,e.next.length < 1000000000
def ziD (v:Ver):Prop:=v.zf.length < 1000000000∧∀ g ∈ v.zf,zm3 g
structure ja (w:Wor):Prop where
 pins:w.pins.length < 1000000000
 zd:w.zd.length < 1000000000∧∀ v ∈ w.zd,ziD v
 ze:w.ze.length < 1000000000
 counts:w.counts.length < 1000000000∧∀ r ∈ w.counts,r.length < 1000000000
 zt:w.zt.length < 1000000000
theorem zaP (g:Gr) (hg:zm3 g):zc Tryz.prog 315 [] [.agg [],.agg (zp g)] (.agg (zp g)) []:=by
 refine zc.zr (fn:=Tryz.f315) Tryz.func315 rfl ?_
 conv=>whnf
 refine zG [] (zl4 g.ends hg.1 fun e he=>zc3 e (hg.2 e he)) rfl rfl rfl rfl rfl rfl ?_;refine dd ?_
 exact ⟨.inl rfl,_,zq.zZ 2 0 1 rfl rfl rfl rfl (.inr rfl) rfl (by simp) (shut_map (enc:=zn) (fun _=>rfl) g.ends) (qm rfl),rfl⟩
theorem zl6 (l:List Gr) (hl:l.length < 1000000000) (hp:∀ x ∈ l,zc Tryz.prog 315 [] [.agg [],.agg (zp x)] (.agg (zp x)) []):zc Tryz.prog 314 [] [lG l,.fn 315 [] [],.agg []] (.sl 0 [] 2 0 l.length false) [⟨2,93,2,l.map zp,0⟩]:=by
 have m1:(l.map zp).length=l.length:=List.length_map ..
 refine zc.zW (fn:=Tryz.f314) Tryz.func314 rfl ?_
 conv=>whnf
 rw [m1]
 refine ⟨rfl,by omega,by show (32:Int) * _<=_;omega,by omega,?_⟩
 refine dd ?_
 rw [m1,toNat_cast]
 refine qb.seq l.length (fun k=>[lG l,.fn 315 [] [],.za,.za,.za,.ref 0 [] 0 0 0,.lst 1 0 [],.sl 1 [] 2 0 l.length false,.za,.za,.za,.za,.za,lG l,I l.length,I k,.za,.za,.za,.za,.za,.za,.za,.za,.za,.za,.za,.za,.za]) (fun k=>[⟨1,281,0,[[]],0⟩,⟨2,93,2,(l.map zp).take k++(List.replicate l.length ([U 0,.lst 1 0 []]:List C)).drop k,0⟩]) (fun k=>True) ?_ trivial (fun k hk hr=>?_) (fun hr=>?_)
 ·exact cC
 ·obtain ⟨x,hx⟩:∃ x,x=l[k]:=⟨_,rfl⟩
  have hx2:l[k]?= some x:=by rw [List.getElem?_eq_getElem hk,hx]
  have hg:(l.map zp)[k]?= some (zp x):=by rw [List.getElem?_map,hx2];rfl
  conv=>whnf
  (refine ⟨fun _=>?_,fun h=>absurd h (by simp;omega)⟩);refine dd ?_
  (refine ⟨by omega,_,by rw [toNat_cast];exact hg,?_⟩);refine dd ?_
  refine ⟨_,_,(hp x (by rw [hx];exact List.getElem_mem hk)).frame rfl _,?_⟩;refine dd ?_
  refine ⟨by omega,by simp;omega,?_⟩
  refine dd ?_
  have e1:0+(k:Int).toNat=k:=by simp
  rw [e1]
  refine ⟨_,jh (by simp) hk,rfl,?_⟩
  refine dd ?_
  refine .inl ⟨rfl,?_,trivial⟩
  have e2:=qu (z:=([U 0,.lst 1 0 []]:List C)) (n:=l.length) hg hk
  rw [zD (by omega),<- e2]
  exact cE 2
 ·(conv=>whnf);(refine ⟨fun h=>absurd h (by simp),fun _=>?_⟩);refine dd ?_;(refine ⟨by simp,?_⟩);(conv=>whnf)
  rw [xF (by simp)]
  exact ⟨.inl rfl,_,zq.ren [1] [6] _ _ rfl rfl rfl rfl,rfl,rfl⟩
theorem xk (v:Ver) (hv:ziD v):zc Tryz.prog 277 [] [.agg [],.agg (zw v)] (.agg (zw v)) []:=by
 refine zc.zr (fn:=Tryz.f277) Tryz.func277 rfl ?_
 conv=>whnf
 refine zG [] (zl6 v.zf hv.1 fun g hg=>zaP g (hv.2 g hg)) rfl rfl rfl rfl rfl rfl ?_;refine dd ?_
 exact ⟨.inl rfl,_,zq.zZ 2 0 3 rfl rfl rfl rfl (.inr rfl) rfl (by simp) (shut_map (enc:=zp) (fun _=>rfl) v.zf) (qm rfl),rfl⟩
theorem zcz (l:List Ver) (hl:l.length < 1000000000) (hp:∀ x ∈ l,zc Tryz.prog 277 [] [.agg [],.agg (zw x)] (.agg (zw x)) []):zc Tryz.prog 276 [] [lV l,.fn 277 [] [],.agg []] (.sl 0 [] 5 0 l.length false) [⟨2,72,5,l.map zw,0⟩]:=by
 have m1:(l.map zw).length=l.length:=List.length_map ..
 refine zc.zW (fn:=Tryz.f276) Tryz.func276 rfl ?_
 conv=>whnf
 rw [m1]
 refine ⟨rfl,by omega,by show (104:Int) * _<=_;omega,by omega,?_⟩
 refine dd ?_
 rw [m1,toNat_cast]
 refine qb.seq l.length (fun k=>[lV l,.fn 277 [] [],.za,.za,.za,.ref 0 [] 0 0 0,.lst 1 0 [],.sl 1 [] 5 0 l.length false,.za,.za,.za,.za,.za,lV l,I l.length,I k,.za,.za,.za,.za,.za,.za,.za,.za,.za,.za,.za,.za,.za]) (fun k=>[⟨1,281,0,[[]],0⟩,⟨2,72,5,(l.map zw).take k++(List.replicate l.length ([.lst 1 0 [],.lst 1 0 [],.lst 1 0 [],.lst 1 0 [],Bo false]:List C)).drop k,0⟩]) (fun k=>True) ?_ trivial (fun k hk hr=>?_) (fun hr=>?_)
 ·exact cC
 ·obtain ⟨x,hx⟩:∃ x,x=l[k]:=⟨_,rfl⟩
  have hx2:l[k]?= some x:=by rw [List.getElem?_eq_getElem hk,hx]
  have hg:(l.map zw)[k]?= some (zw x):=by rw [List.getElem?_map,hx2];rfl
  conv=>whnf
  (refine ⟨fun _=>?_,fun h=>absurd h (by simp;omega)⟩);refine dd ?_
  (refine ⟨by omega,_,by rw [toNat_cast];exact hg,?_⟩);refine dd ?_
  refine ⟨_,_,(hp x (by rw [hx];exact List.getElem_mem hk)).frame rfl _,?_⟩;refine dd ?_
  refine ⟨by omega,by simp;omega,?_⟩
  refine dd ?_
  have e1:0+(k:Int).toNat=k:=by simp
  rw [e1]
  refine ⟨_,jh (by simp) hk,rfl,?_⟩
  refine dd ?_
  refine .inl ⟨rfl,?_,trivial⟩
  have e2:=qu (z:=([.lst 1 0 [],.lst 1 0 [],.lst 1 0 [],.lst 1 0 [],Bo false]:List C)) (n:=l.length) hg hk
  rw [zD (by omega),<- e2]
  exact cE 2
 ·(conv=>whnf);(refine ⟨fun h=>absurd h (by simp),fun _=>?_⟩);refine dd ?_;(refine ⟨by simp,?_⟩);(conv=>whnf)
  rw [xF (by simp)]
  exact ⟨.inl rfl,_,zq.ren [1] [6] _ _ rfl rfl rfl rfl,rfl,rfl⟩
theorem y6 (r:List Int) (hr:r.length < 1000000000):zc Tryz.prog 280 [] [.agg [],lU r] (lU r) []:=by
 refine zc.zr (fn:=Tryz.f280) Tryz.func280 rfl ?_
 conv=>whnf
 refine ⟨_,_,(zkJ r hr).frame rfl _,?_⟩;refine dd ?_
 exact ⟨.inl rfl,_,.refl _,rfl⟩
end Go.Wor
namespace Go.Wor
open Go.Ab Go.Proofs Go.Hy Go.Gat Go.Nam Go.Hos Go.Con Go.Sna
theorem zdI (H':zk) (ρ:Nat->Nat):∀ (i:Nat) (K:zk),ks [] H' ρ i K=K
 | _,[]=>rfl
 | i,ob::K=>by unfold ks;rw [zdI H' ρ (i+1) K];rfl
theorem vX {P:Program} {f:FuncId} {args:List C} {r:C} {H':zk} (h:zc P f [] args r H') (hR:qo H'=true) (ha:args.map (j7 [] 9)=args) (H:zk) (hf:qo H=true):
  zc P f H args (xO (qI [] H.length) 9 r) (H++H'.map (zF (qI [] H.length))):=by
 have:=h.part [] hR (K:=H) rfl ha rfl rfl hf
 have e:y5 [] H H'=H++H'.map (zF (qI [] H.length)):=by unfold y5;rw [zdI];rfl
 rwa [e] at this
theorem zgu {α:Type} {enc:α->List C} {f:C->C} (hf:∀ x,(enc x).map f=enc x) (l:List α) (v:Nat) (row:List C):(((l.map enc).set v row).map fun r=>r.map f)=(l.map enc).set v (row.map f):=by
 rw [List.map_set,List.map_map]
 congr 1
 exact List.map_congr_left fun x _=>hf x
theorem qZ {n:Nat} {x:Ob} {H:zk} (h1:qw n [x]=true) (h2:qw n H=true):qw n (x::H)=true:=by
 unfold qw at *
 simp only [List.all_cons,List.all_nil,Bool.and_true] at *
 rw [h1,h2];rfl
theorem zb {x:Ob} {H:zk} (h1:qo [x]=true) (h2:qo H=true):qo (x::H)=true:=by
 unfold qo at *
 simp only [List.all_cons,List.all_nil,Bool.and_true] at *
 rw [h1,h2];rfl
theorem zi {ty sz fz:Nat} {rows:List (List C)} (h:∀ r ∈ rows,∀ c ∈ r,zy c=true):qo [⟨1,ty,sz,rows,fz⟩]=true:=by
 unfold qo
 simp only [List.all_cons,List.all_nil,Bool.and_true]
 rw [List.all_eq_true]
 exact fun r hr=>List.all_eq_true.2 fun c hc=>h r hr c hc
theorem zx {α:Type} {enc:α->List C} {p:C->Bool} (h:∀ x,(enc x).all p=true) {row:List C} (hr:row.all p=true) (l:List α) (v:Nat):∀ r ∈ (l.map enc).set v row,∀ c ∈ r,p c=true:=fun r hm c hc=>by
 rcases List.mem_or_eq_of_mem_set hm with hm | rfl
 ·obtain ⟨x,_,rfl⟩:=List.mem_map.1 hm
  exact List.all_eq_true.1 (h x) c hc
 ·exact List.all_eq_true.1 hr c hc
theorem yk {α:Type} {enc:α->List C} {p:C->Bool} (h:∀ x,(enc x).all p=true) {row z:List C} (hz:z.all p=true) (l:List α) {v k:Nat} (n:Nat) (hr:k<=v∨row.all p=true):∀ r ∈ ((l.map enc).set v row).take k++(List.replicate n z).drop k,∀ c ∈ r,p c=true:=fun r hm c hc=>by
 rcases List.mem_append.1 hm with hm | hm
 ·rcases hr with hr | hr
  ·rw [List.take_set_of_le hr] at hm
   obtain ⟨x,_,rfl⟩:=List.mem_map.1 (List.mem_of_mem_take hm)
   exact List.all_eq_true.1 (h x) c hc
  ·exact zx h hr l v r (List.mem_of_mem_take hm) c hc
 ·rw [List.eq_of_mem_replicate (List.mem_of_mem_drop hm)] at hc
  exact List.all_eq_true.1 hz c hc
theorem zhs (e0:En) (x:Int) (l:List Int) (he:e0.next=x::l) (hl:l.length < 1000000000):zc Tryz.prog 328 [] [.agg [],.agg (zn e0)] (.agg [U e0.head,C.sl 0 [] 1 0 e0.next.length false,I e0.zj]) [⟨2,3,1,e0.next.map encI,0⟩]:=by
 have h1:zc Tryz.prog 328 [] [.agg [],.agg (zn e0)] (.agg [U e0.head,C.sl 3 [] 1 0 e0.next.length false,I e0.zj]) [⟨1,281,0,[[]],0⟩,⟨1,97,3,[[U e0.head,C.sl 3 [] 1 0 e0.next.length false,I e0.zj]],0⟩,⟨1,97,3,[[U e0.head,C.sl 3 [] 1 0 e0.next.length false,I e0.zj]],0⟩,⟨2,3,1,e0.next.map encI,0⟩]:=by
  have hc:=zga x l hl
  rw [<- he] at hc
  refine zc.zW (fn:=Tryz.f328) Tryz.func328 rfl ?_
  conv=>whnf
  refine zG [] (hc) rfl rfl rfl rfl rfl rfl ?_;refine dd ?_
  exact ⟨.inl rfl,_,.refl _,rfl,rfl⟩
 exact h1.zct (fun B h _=>zq.ren [3] [0] _ _ (by rw [show B=0 from by simpa using h];rfl) rfl rfl rfl) (Nat.zero_le _)
theorem zkR (e0:En) (x:Int) (l:List Int) (he:e0.next=x::l) (hl:l.length < 1000000000) (H:zk) (hf:qo H=true):zc Tryz.prog 328 H [.agg [],.agg (zn e0)] (.agg ([U e0.head,C.sl H.length [] 1 0 e0.next.length false,I e0.zj])) (H++[⟨2,3,1,e0.next.map encI,0⟩]):=
 vX (zhs e0 x l he hl) rfl rfl H hf
theorem zE {α:Type} {enc:α->List C} {sel:List Nat} (hf:∀ x,(enc x).map (j7 sel 9)=enc x) (l:List α) (v:Nat) (row:List C) (ty sz fz:Nat):zI sel ⟨1,ty,sz,(l.map enc).set v row,fz⟩=⟨1,ty,sz,(l.map enc).set v (row.map (j7 sel 9)),fz⟩:=by
 show (⟨1,ty,sz,((l.map enc).set v row).map (fun r=>r.map (j7 sel 9)),fz⟩:Ob)=_
 rw [zgu hf]
theorem zA {α:Type} {enc:α->List C} {ρ:Nat->Nat} (hf:∀ x,(enc x).map (xO ρ 9)=enc x) (l:List α) (v:Nat) (row:List C) (ty sz fz:Nat):zF ρ ⟨1,ty,sz,(l.map enc).set v row,fz⟩=⟨1,ty,sz,(l.map enc).set v (row.map (xO ρ 9)),fz⟩:=by
 show (⟨1,ty,sz,((l.map enc).set v row).map (fun r=>r.map (xO ρ 9)),fz⟩:Ob)=_
 rw [zgu hf]
theorem zkN (l:List En) (e:Nat) (e0:En) (hv:l[e]?= some e0) (hl:l.length < 1000000000) (hp:∀ x ∈ l,zc Tryz.prog 328 [] [.agg [],.agg (zn x)] (.agg (zn x)) [])
  (hA:∀ H,qo H=true->zc Tryz.prog 328 H [.agg [],.agg (zn e0)] (.agg ([U e0.head,C.sl H.length [] 1 0 e0.next.length false,I e0.zj])) (H++[⟨2,3,1,e0.next.map encI,0⟩])):
  zc Tryz.prog 327 [] [lE l,.fn 328 [] [],.agg []] (.sl 0 [] 3 0 l.length false) [⟨1,0,3,(l.map zn).set e ([U e0.head,C.sl 1 [] 1 0 e0.next.length false,I e0.zj]),0⟩,⟨2,3,1,e0.next.map encI,0⟩]:=by
 have m1:(l.map zn).length=l.length:=List.length_map ..
 have hvl:=(List.getElem?_eq_some_iff.1 hv).1
 have h1:zc Tryz.prog 327 [] [lE l,.fn 328 [] [],.agg []] (.sl 1 [] 3 0 l.length false) [⟨1,281,0,[[]],0⟩,⟨1,0,3,(l.map zn).set e ([U e0.head,C.sl 3 [] 1 0 e0.next.length false,I e0.zj]),0⟩,⟨1,97,3,[zn e0],0⟩,⟨2,3,1,e0.next.map encI,0⟩]:=by
  refine zc.zW (fn:=Tryz.f327) Tryz.func327 rfl ?_
  conv=>whnf
  rw [m1]
  refine ⟨rfl,by omega,by show (40:Int) * _<=_;omega,by omega,?_⟩
  refine dd ?_
  rw [m1,toNat_cast]
  have ZZ:List C:=([U 0,.lst 1 0 [],I 0]:List C)
  refine qb.seq l.length (fun k=>[lE l,.fn 328 [] [],.za,.za,.za,.ref 0 [] 0 0 0,.lst 1 0 [],.sl 1 [] 3 0 l.length false,.za,.za,.za,.za,.za,lE l,I l.length,I k,.za,.za,.za,.za,.za,.za,.za,.za,.za,.za,.za,.za,.za]) (fun k=>if k<=e then [⟨1,281,0,[[]],0⟩,⟨1,0,3,((l.map zn).set e ([U e0.head,C.sl 3 [] 1 0 e0.next.length false,I e0.zj])).take k++(List.replicate l.length ([U 0,.lst 1 0 [],I 0]:List C)).drop k,0⟩] else [⟨1,281,0,[[]],0⟩,⟨1,0,3,((l.map zn).set e ([U e0.head,C.sl 3 [] 1 0 e0.next.length false,I e0.zj])).take k++(List.replicate l.length ([U 0,.lst 1 0 [],I 0]:List C)).drop k,0⟩,⟨1,97,3,[zn e0],0⟩,⟨2,3,1,e0.next.map encI,0⟩]) (fun k=>True) ?_ trivial (fun k hk hr=>?_) (fun hr=>?_)
  ·rw [if_pos (Nat.zero_le _)]
   refine zq.trans (zq.zgn 1 rfl fun r hr c hc=>?_) (cC)
   rw [List.eq_of_mem_replicate hr] at hc
   exact List.all_eq_true.1 (rfl:([U 0,.lst 1 0 [],I 0]:List C).all zy=true) c hc
  ·obtain ⟨x,hx⟩:∃ x,x=l[k]:=⟨_,rfl⟩
   have hx2:l[k]?= some x:=by rw [List.getElem?_eq_getElem hk,hx]
   have hxm:x ∈ l:=by rw [hx];exact List.getElem_mem hk
   have hg:(l.map zn)[k]?= some (zn x):=by rw [List.getElem?_map,hx2];rfl
   have e1:0+(k:Int).toNat=k:=by simp
   have low:∀ n j,j<=e∨3 < n->∀ r ∈ ((l.map zn).set e ([U e0.head,C.sl 3 [] 1 0 e0.next.length false,I e0.zj])).take j++(List.replicate l.length ([U 0,.lst 1 0 [],I 0]:List C)).drop j,∀ c ∈ r,qH n 9 c=true:=fun n j h=>yk (enc:=zn) (fun _=>rfl) rfl l l.length (h.imp_right fun h=>by simp [qH,zJ];omega)
   have own:∀ j,∀ r ∈ ((l.map zn).set e ([U e0.head,C.sl 3 [] 1 0 e0.next.length false,I e0.zj])).take j++(List.replicate l.length ([U 0,.lst 1 0 [],I 0]:List C)).drop j,∀ c ∈ r,zy c=true:=fun j=>yk (enc:=zn) (fun _=>rfl) rfl l l.length (.inr rfl)
   by_cases hkv:k=e
   ·subst hkv
    obtain rfl:e0=x:=by rw [hv] at hx2;exact Option.some.inj hx2
    have hF:((l.map zn).set k ([U e0.head,C.sl 3 [] 1 0 e0.next.length false,I e0.zj]))[k]?= some ([U e0.head,C.sl 3 [] 1 0 e0.next.length false,I e0.zj]):=by rw [List.getElem?_set,if_pos rfl,if_pos (by simpa using hk)]
    rw [if_pos (Nat.le_refl _),if_neg (by omega)]
    conv=>whnf
    (refine ⟨fun _=>?_,fun h=>absurd h (by simp;omega)⟩);refine dd ?_
    (refine ⟨by omega,_,by rw [toNat_cast];exact hg,?_⟩);refine dd ?_
    refine ⟨_,_,hA _ (zb rfl (zb (zi (own k)) rfl)),?_⟩
    refine dd ?_
    refine ⟨by omega,by simp;omega,?_⟩
    refine dd ?_
    rw [e1]
    refine ⟨_,jh (by simp) hk,rfl,?_⟩
    refine dd ?_
    refine .inl ⟨rfl,?_,trivial⟩
    rw [zD (by omega),<- qu hF hk]
    exact cC
   ·have hF:((l.map zn).set e ([U e0.head,C.sl 3 [] 1 0 e0.next.length false,I e0.zj]))[k]?= some (zn x):=by rw [List.getElem?_set_ne (fun h=>hkv h.symm)];exact hg
    by_cases hlt:k < e
    ·rw [if_pos (by omega),if_pos (by omega)]
     conv=>whnf
     (refine ⟨fun _=>?_,fun h=>absurd h (by simp;omega)⟩);refine dd ?_
     (refine ⟨by omega,_,by rw [toNat_cast];exact hg,?_⟩);refine dd ?_
     refine ⟨_,_,(hp x hxm).frame rfl _,?_⟩;refine dd ?_
     refine ⟨by omega,by simp;omega,?_⟩
     refine dd ?_
     rw [e1]
     refine ⟨_,jh (by simp) hk,rfl,?_⟩
     refine dd ?_
     refine .inl ⟨rfl,?_,trivial⟩
     rw [zD (by omega),<- qu hF hk]
     refine zq.xW 2 (by (conv=>whnf);(repeat (refine ⟨rfl,?_⟩;(conv=>whnf)));exact trivial) rfl rfl rfl (qZ rfl (jY ?_)) rfl
     have lw:=low 2 (k+1) (.inl (by omega))
     rw [<- qu (z:=([U 0,.lst 1 0 [],I 0]:List C)) (n:=l.length) hF hk] at lw
     exact lw
    ·rw [if_neg (by omega),if_neg (by omega)]
     conv=>whnf
     (refine ⟨fun _=>?_,fun h=>absurd h (by simp;omega)⟩);refine dd ?_
     (refine ⟨by omega,_,by rw [toNat_cast];exact hg,?_⟩);refine dd ?_
     refine ⟨_,_,(hp x hxm).frame rfl _,?_⟩;refine dd ?_
     refine ⟨by omega,by simp;omega,?_⟩
     refine dd ?_
     rw [e1]
     refine ⟨_,jh (by simp) hk,rfl,?_⟩
     refine dd ?_
     refine .inl ⟨rfl,?_,trivial⟩
     rw [zD (by omega),<- qu hF hk]
     refine zq.xW 4 (by (conv=>whnf);(repeat (refine ⟨rfl,?_⟩;(conv=>whnf)));exact trivial) rfl rfl rfl (qZ rfl (qZ (jY ?_) (qZ rfl rfl))) rfl
     have lw:=low 4 (k+1) (.inr (by omega))
     rw [<- qu (z:=([U 0,.lst 1 0 [],I 0]:List C)) (n:=l.length) hF hk] at lw
     exact lw
  ·rw [if_neg (by omega)]
   (conv=>whnf);(refine ⟨fun h=>absurd h (by simp),fun _=>?_⟩);refine dd ?_;(refine ⟨by simp,?_⟩);(conv=>whnf)
   rw [xF (by simp)]
   exact ⟨.inl rfl,_,.refl _,rfl,rfl⟩
 refine h1.zct (fun B h _=>?_) (Nat.zero_le _)
 have hw:=zq.ren (B:=B) [1,3] [0] [.sl 1 [] 3 0 l.length false] [⟨1,281,0,[[]],0⟩,⟨1,0,3,(l.map zn).set e ([U e0.head,C.sl 3 [] 1 0 e0.next.length false,I e0.zj]),0⟩,⟨1,97,3,[zn e0],0⟩,⟨2,3,1,e0.next.map encI,0⟩] (by rw [show B=0 from by simpa using h];rfl) rfl rfl (zb rfl (zb (zi (zx (enc:=zn) (fun _=>rfl) rfl l e)) (zb rfl rfl)))
 have e:jC [1,3] [⟨1,281,0,[[]],0⟩,⟨1,0,3,(l.map zn).set e ([U e0.head,C.sl 3 [] 1 0 e0.next.length false,I e0.zj]),0⟩,⟨1,97,3,[zn e0],0⟩,⟨2,3,1,e0.next.map encI,0⟩]=[⟨1,0,3,(l.map zn).set e ([U e0.head,C.sl 1 [] 1 0 e0.next.length false,I e0.zj]),0⟩,⟨2,3,1,e0.next.map encI,0⟩]:=by
  show zI [1,3] ⟨1,0,3,(l.map zn).set e ([U e0.head,C.sl 3 [] 1 0 e0.next.length false,I e0.zj]),0⟩::_=_
  rw [zE (enc:=zn) (fun _=>rfl)]
  rfl
 rw [e] at hw
 exact hw
structure ziB (g0:Gr) (e:Nat) (e0:En):Prop where
 sm:zm3 g0
 at_:g0.ends[e]?= some e0
 ne:e0.next≠[]
theorem zl3 {g0:Gr} {e:Nat} {e0:En} (h:ziB g0 e e0) (H:zk) (hf:qo H=true):zc Tryz.prog 327 H [lE g0.ends,.fn 328 [] [],.agg []] (.sl H.length [] 3 0 g0.ends.length false) (H++[⟨1,0,3,(g0.ends.map zn).set e ([U e0.head,C.sl (H.length+1) [] 1 0 e0.next.length false,I e0.zj]),0⟩,⟨2,3,1,e0.next.map encI,0⟩]):=by
 obtain ⟨x,l,hx⟩:∃ x l,e0.next=x::l:=by
  cases hh:e0.next with
  | nil=>exact absurd hh h.ne
  | cons x l=>exact ⟨x,l,rfl⟩
 have hlen:l.length < 1000000000:=by
  have:=h.sm.2 e0 (List.mem_of_getElem? h.at_)
  rw [hx] at this
  simp at this
  omega
 have:=vX (zkN g0.ends e e0 h.at_ h.sm.1 (fun y hy=>zc3 y (h.sm.2 y hy)) (zkR e0 x l hx hlen)) (zb (zi (zx (enc:=zn) (fun _=>rfl) rfl _ _)) rfl) rfl H hf
 have e9:[(⟨1,0,3,(g0.ends.map zn).set e ([U e0.head,C.sl 1 [] 1 0 e0.next.length false,I e0.zj]),0⟩:Ob),⟨2,3,1,e0.next.map encI,0⟩].map (zF (qI [] H.length))=[⟨1,0,3,(g0.ends.map zn).set e ([U e0.head,C.sl (H.length+1) [] 1 0 e0.next.length false,I e0.zj]),0⟩,⟨2,3,1,e0.next.map encI,0⟩]:=by
  show zF _ ⟨1,0,3,_,0⟩::_=_
  rw [zA (enc:=zn) (fun _=>rfl)]
  rfl
 rw [e9] at this
 exact this
theorem zfr {g0:Gr} {e:Nat} {e0:En} (h:ziB g0 e e0):zc Tryz.prog 315 [] [.agg [],.agg (zp g0)] (.agg [U g0.zl,C.sl 0 [] 3 0 g0.ends.length false]) [⟨1,0,3,(g0.ends.map zn).set e ([U e0.head,C.sl 1 [] 1 0 e0.next.length false,I e0.zj]),0⟩,⟨2,3,1,e0.next.map encI,0⟩]:=by
 have own:∀ i,∀ r ∈ (g0.ends.map zn).set e ([U e0.head,C.sl i [] 1 0 e0.next.length false,I e0.zj]),∀ c ∈ r,zy c=true:=fun i=>zx (enc:=zn) (fun _=>rfl) rfl _ _
 have h1:zc Tryz.prog 315 [] [.agg [],.agg (zp g0)] (.agg [U g0.zl,C.sl 3 [] 3 0 g0.ends.length false]) [⟨1,281,0,[[]],0⟩,⟨1,93,2,[[U g0.zl,C.sl 3 [] 3 0 g0.ends.length false]],0⟩,⟨1,93,2,[[U g0.zl,C.sl 3 [] 3 0 g0.ends.length false]],0⟩,⟨1,0,3,(g0.ends.map zn).set e ([U e0.head,C.sl 4 [] 1 0 e0.next.length false,I e0.zj]),0⟩,⟨2,3,1,e0.next.map encI,0⟩]:=by
  refine zc.zW (fn:=Tryz.f315) Tryz.func315 rfl ?_
  conv=>whnf
  refine ⟨_,_,zl3 h _ rfl,?_⟩
  refine dd ?_
  exact ⟨.inl rfl,_,.refl _,rfl,rfl⟩
 refine h1.zct (fun B hB _=>?_) (Nat.zero_le _)
 have hw:=zq.ren (B:=B) [3,4] [0] [.agg [U g0.zl,C.sl 3 [] 3 0 g0.ends.length false]] [⟨1,281,0,[[]],0⟩,⟨1,93,2,[[U g0.zl,C.sl 3 [] 3 0 g0.ends.length false]],0⟩,⟨1,93,2,[[U g0.zl,C.sl 3 [] 3 0 g0.ends.length false]],0⟩,⟨1,0,3,(g0.ends.map zn).set e ([U e0.head,C.sl 4 [] 1 0 e0.next.length false,I e0.zj]),0⟩,⟨2,3,1,e0.next.map encI,0⟩] (by rw [show B=0 from by simpa using hB];rfl) rfl rfl (zb rfl (zb rfl (zb rfl (zb (zi (own 4)) rfl))))
 have e:jC [3,4] [⟨1,281,0,[[]],0⟩,⟨1,93,2,[[U g0.zl,C.sl 3 [] 3 0 g0.ends.length false]],0⟩,⟨1,93,2,[[U g0.zl,C.sl 3 [] 3 0 g0.ends.length false]],0⟩,⟨1,0,3,(g0.ends.map zn).set e ([U e0.head,C.sl 4 [] 1 0 e0.next.length false,I e0.zj]),0⟩,⟨2,3,1,e0.next.map encI,0⟩]=[⟨1,0,3,(g0.ends.map zn).set e ([U e0.head,C.sl 1 [] 1 0 e0.next.length false,I e0.zj]),0⟩,⟨2,3,1,e0.next.map encI,0⟩]:=by
  show zI [3,4] ⟨1,0,3,(g0.ends.map zn).set e ([U e0.head,C.sl 4 [] 1 0 e0.next.length false,I e0.zj]),0⟩::_=_
  rw [zE (enc:=zn) (fun _=>rfl)]
  rfl
 rw [e] at hw
 exact hw
theorem zhH {g0:Gr} {e:Nat} {e0:En} (h:ziB g0 e e0) (H:zk) (hf:qo H=true):zc Tryz.prog 315 H [.agg [],.agg (zp g0)] (.agg ([U g0.zl,C.sl H.length [] 3 0 g0.ends.length false])) (H++[⟨1,0,3,(g0.ends.map zn).set e ([U e0.head,C.sl (H.length+1) [] 1 0 e0.next.length false,I e0.zj]),0⟩,⟨2,3,1,e0.next.map encI,0⟩]):=by
 have:=vX (zfr h) (zb (zi (zx (enc:=zn) (fun _=>rfl) rfl _ _)) rfl) rfl H hf
 have e9:[(⟨1,0,3,(g0.ends.map zn).set e ([U e0.head,C.sl 1 [] 1 0 e0.next.length false,I e0.zj]),0⟩:Ob),⟨2,3,1,e0.next.map encI,0⟩].map (zF (qI [] H.length))=[⟨1,0,3,(g0.ends.map zn).set e ([U e0.head,C.sl (H.length+1) [] 1 0 e0.next.length false,I e0.zj]),0⟩,⟨2,3,1,e0.next.map encI,0⟩]:=by
  show zF _ ⟨1,0,3,_,0⟩::_=_
  rw [zA (enc:=zn) (fun _=>rfl)]
  rfl
 rw [e9] at this
 exact this
end Go.Wor
namespace Go.Wor
open Go.Ab Go.Proofs Go.Hy Go.Gat Go.Nam Go.Hos Go.Con Go.Sna
theorem zkO (e0:En) (e:Nat) (l:List Gr) (g:Nat) (g0:Gr) (hv:l[g]?= some g0) (hl:l.length < 1000000000) (hp:∀ x ∈ l,zc Tryz.prog 315 [] [.agg [],.agg (zp x)] (.agg (zp x)) [])
  (hA:∀ H,qo H=true->zc Tryz.prog 315 H [.agg [],.agg (zp g0)] (.agg ([U g0.zl,C.sl H.length [] 3 0 g0.ends.length false])) (H++[⟨1,0,3,(g0.ends.map zn).set e ([U e0.head,C.sl (H.length+1) [] 1 0 e0.next.length false,I e0.zj]),0⟩,⟨2,3,1,e0.next.map encI,0⟩])):
  zc Tryz.prog 314 [] [lG l,.fn 315 [] [],.agg []] (.sl 0 [] 2 0 l.length false) [⟨1,0,2,(l.map zp).set g ([U g0.zl,C.sl 1 [] 3 0 g0.ends.length false]),0⟩,⟨1,0,3,(g0.ends.map zn).set e ([U e0.head,C.sl 2 [] 1 0 e0.next.length false,I e0.zj]),0⟩,⟨2,3,1,e0.next.map encI,0⟩]:=by
 have m1:(l.map zp).length=l.length:=List.length_map ..
 have hvl:=(List.getElem?_eq_some_iff.1 hv).1
 have h1:zc Tryz.prog 314 [] [lG l,.fn 315 [] [],.agg []] (.sl 1 [] 2 0 l.length false) [⟨1,281,0,[[]],0⟩,⟨1,0,2,(l.map zp).set g ([U g0.zl,C.sl 3 [] 3 0 g0.ends.length false]),0⟩,⟨1,93,2,[zp g0],0⟩,⟨1,0,3,(g0.ends.map zn).set e ([U e0.head,C.sl 4 [] 1 0 e0.next.length false,I e0.zj]),0⟩,⟨2,3,1,e0.next.map encI,0⟩]:=by
  refine zc.zW (fn:=Tryz.f314) Tryz.func314 rfl ?_
  conv=>whnf
  rw [m1]
  refine ⟨rfl,by omega,by show (32:Int) * _<=_;omega,by omega,?_⟩
  refine dd ?_
  rw [m1,toNat_cast]
  have ZZ:List C:=([U 0,.lst 1 0 []]:List C)
  refine qb.seq l.length (fun k=>[lG l,.fn 315 [] [],.za,.za,.za,.ref 0 [] 0 0 0,.lst 1 0 [],.sl 1 [] 2 0 l.length false,.za,.za,.za,.za,.za,lG l,I l.length,I k,.za,.za,.za,.za,.za,.za,.za,.za,.za,.za,.za,.za,.za]) (fun k=>if k<=g then [⟨1,281,0,[[]],0⟩,⟨1,0,2,((l.map zp).set g ([U g0.zl,C.sl 3 [] 3 0 g0.ends.length false])).take k++(List.replicate l.length ([U 0,.lst 1 0 []]:List C)).drop k,0⟩] else [⟨1,281,0,[[]],0⟩,⟨1,0,2,((l.map zp).set g ([U g0.zl,C.sl 3 [] 3 0 g0.ends.length false])).take k++(List.replicate l.length ([U 0,.lst 1 0 []]:List C)).drop k,0⟩,⟨1,93,2,[zp g0],0⟩,⟨1,0,3,(g0.ends.map zn).set e ([U e0.head,C.sl 4 [] 1 0 e0.next.length false,I e0.zj]),0⟩,⟨2,3,1,e0.next.map encI,0⟩]) (fun k=>True) ?_ trivial (fun k hk hr=>?_) (fun hr=>?_)
  ·rw [if_pos (Nat.zero_le _)]
   refine zq.trans (zq.zgn 1 rfl fun r hr c hc=>?_) (cC)
   rw [List.eq_of_mem_replicate hr] at hc
   exact List.all_eq_true.1 (rfl:([U 0,.lst 1 0 []]:List C).all zy=true) c hc
  ·obtain ⟨x,hx⟩:∃ x,x=l[k]:=⟨_,rfl⟩
   have hx2:l[k]?= some x:=by rw [List.getElem?_eq_getElem hk,hx]
   have hxm:x ∈ l:=by rw [hx];exact List.getElem_mem hk
   have hg:(l.map zp)[k]?= some (zp x):=by rw [List.getElem?_map,hx2];rfl
   have e1:0+(k:Int).toNat=k:=by simp
   have low:∀ n j,j<=g∨3 < n->∀ r ∈ ((l.map zp).set g ([U g0.zl,C.sl 3 [] 3 0 g0.ends.length false])).take j++(List.replicate l.length ([U 0,.lst 1 0 []]:List C)).drop j,∀ c ∈ r,qH n 9 c=true:=fun n j h=>yk (enc:=zp) (fun _=>rfl) rfl l l.length (h.imp_right fun h=>by simp [qH,zJ];omega)
   have own:∀ j,∀ r ∈ ((l.map zp).set g ([U g0.zl,C.sl 3 [] 3 0 g0.ends.length false])).take j++(List.replicate l.length ([U 0,.lst 1 0 []]:List C)).drop j,∀ c ∈ r,zy c=true:=fun j=>yk (enc:=zp) (fun _=>rfl) rfl l l.length (.inr rfl)
   by_cases hkv:k=g
   ·subst hkv
    obtain rfl:g0=x:=by rw [hv] at hx2;exact Option.some.inj hx2
    have hF:((l.map zp).set k ([U g0.zl,C.sl 3 [] 3 0 g0.ends.length false]))[k]?= some ([U g0.zl,C.sl 3 [] 3 0 g0.ends.length false]):=by rw [List.getElem?_set,if_pos rfl,if_pos (by simpa using hk)]
    rw [if_pos (Nat.le_refl _),if_neg (by omega)]
    conv=>whnf
    (refine ⟨fun _=>?_,fun h=>absurd h (by simp;omega)⟩);refine dd ?_
    (refine ⟨by omega,_,by rw [toNat_cast];exact hg,?_⟩);refine dd ?_
    refine ⟨_,_,hA _ (zb rfl (zb (zi (own k)) rfl)),?_⟩
    refine dd ?_
    refine ⟨by omega,by simp;omega,?_⟩
    refine dd ?_
    rw [e1]
    refine ⟨_,jh (by simp) hk,rfl,?_⟩
    refine dd ?_
    refine .inl ⟨rfl,?_,trivial⟩
    rw [zD (by omega),<- qu hF hk]
    exact cC
   ·have hF:((l.map zp).set g ([U g0.zl,C.sl 3 [] 3 0 g0.ends.length false]))[k]?= some (zp x):=by rw [List.getElem?_set_ne (fun h=>hkv h.symm)];exact hg
    by_cases hlt:k < g
    ·rw [if_pos (by omega),if_pos (by omega)]
     conv=>whnf
     (refine ⟨fun _=>?_,fun h=>absurd h (by simp;omega)⟩);refine dd ?_
     (refine ⟨by omega,_,by rw [toNat_cast];exact hg,?_⟩);refine dd ?_
     refine ⟨_,_,(hp x hxm).frame rfl _,?_⟩;refine dd ?_
     refine ⟨by omega,by simp;omega,?_⟩
     refine dd ?_
     rw [e1]
     refine ⟨_,jh (by simp) hk,rfl,?_⟩
     refine dd ?_
     refine .inl ⟨rfl,?_,trivial⟩
     rw [zD (by omega),<- qu hF hk]
     refine zq.xW 2 (by (conv=>whnf);(repeat (refine ⟨rfl,?_⟩;(conv=>whnf)));exact trivial) rfl rfl rfl (qZ rfl (jY ?_)) rfl
     have lw:=low 2 (k+1) (.inl (by omega))
     rw [<- qu (z:=([U 0,.lst 1 0 []]:List C)) (n:=l.length) hF hk] at lw
     exact lw
    ·rw [if_neg (by omega),if_neg (by omega)]
     conv=>whnf
     (refine ⟨fun _=>?_,fun h=>absurd h (by simp;omega)⟩);refine dd ?_
     (refine ⟨by omega,_,by rw [toNat_cast];exact hg,?_⟩);refine dd ?_
     refine ⟨_,_,(hp x hxm).frame rfl _,?_⟩;refine dd ?_
     refine ⟨by omega,by simp;omega,?_⟩
     refine dd ?_
     rw [e1]
     refine ⟨_,jh (by simp) hk,rfl,?_⟩
     refine dd ?_
     refine .inl ⟨rfl,?_,trivial⟩
     rw [zD (by omega),<- qu hF hk]
     refine zq.xW 5 (by (conv=>whnf);(repeat (refine ⟨rfl,?_⟩;(conv=>whnf)));exact trivial) rfl rfl rfl (qZ rfl (qZ (jY ?_) (qZ rfl (qZ (jY (zx (enc:=zn) (fun _=>rfl) rfl _ _)) rfl)))) rfl
     have lw:=low 5 (k+1) (.inr (by omega))
     rw [<- qu (z:=([U 0,.lst 1 0 []]:List C)) (n:=l.length) hF hk] at lw
     exact lw
  ·rw [if_neg (by omega)]
   (conv=>whnf);(refine ⟨fun h=>absurd h (by simp),fun _=>?_⟩);refine dd ?_;(refine ⟨by simp,?_⟩);(conv=>whnf)
   rw [xF (by simp)]
   exact ⟨.inl rfl,_,.refl _,rfl,rfl⟩
 refine h1.zct (fun B h _=>?_) (Nat.zero_le _)
 have hw:=zq.ren (B:=B) [1,3,4] [0] [.sl 1 [] 2 0 l.length false] [⟨1,281,0,[[]],0⟩,⟨1,0,2,(l.map zp).set g ([U g0.zl,C.sl 3 [] 3 0 g0.ends.length false]),0⟩,⟨1,93,2,[zp g0],0⟩,⟨1,0,3,(g0.ends.map zn).set e ([U e0.head,C.sl 4 [] 1 0 e0.next.length false,I e0.zj]),0⟩,⟨2,3,1,e0.next.map encI,0⟩] (by rw [show B=0 from by simpa using h];rfl) rfl rfl (zb rfl (zb (zi (zx (enc:=zp) (fun _=>rfl) rfl l g)) (zb rfl (zb (zi (zx (enc:=zn) (fun _=>rfl) rfl _ _)) rfl))))
 have e:jC [1,3,4] [⟨1,281,0,[[]],0⟩,⟨1,0,2,(l.map zp).set g ([U g0.zl,C.sl 3 [] 3 0 g0.ends.length false]),0⟩,⟨1,93,2,[zp g0],0⟩,⟨1,0,3,(g0.ends.map zn).set e ([U e0.head,C.sl 4 [] 1 0 e0.next.length false,I e0.zj]),0⟩,⟨2,3,1,e0.next.map encI,0⟩]=[⟨1,0,2,(l.map zp).set g ([U g0.zl,C.sl 1 [] 3 0 g0.ends.length false]),0⟩,⟨1,0,3,(g0.ends.map zn).set e ([U e0.head,C.sl 2 [] 1 0 e0.next.length false,I e0.zj]),0⟩,⟨2,3,1,e0.next.map encI,0⟩]:=by
  show zI [1,3,4] ⟨1,0,2,(l.map zp).set g ([U g0.zl,C.sl 3 [] 3 0 g0.ends.length false]),0⟩::_=_
  rw [zE (enc:=zp) (fun _=>rfl)]
  show _::zI [1,3,4] ⟨1,0,3,(g0.ends.map zn).set e ([U e0.head,C.sl 4 [] 1 0 e0.next.length false,I e0.zj]),0⟩::_=_;rw [zE (enc:=zn) (fun _=>rfl)];rfl
 rw [e] at hw
 exact hw
structure ziC (v0:Ver) (g:Nat) (g0:Gr) (e:Nat) (e0:En):Prop extends ziB g0 e e0 where
 smv:ziD v0
 atg:v0.zf[g]?= some g0
theorem zl5 {v0:Ver} {g:Nat} {g0:Gr} {e:Nat} {e0:En} (h:ziC v0 g g0 e e0) (H:zk) (hf:qo H=true):zc Tryz.prog 314 H [lG v0.zf,.fn 315 [] [],.agg []] (.sl H.length [] 2 0 v0.zf.length false) (H++[⟨1,0,2,(v0.zf.map zp).set g ([U g0.zl,C.sl (H.length+1) [] 3 0 g0.ends.length false]),0⟩,⟨1,0,3,(g0.ends.map zn).set e ([U e0.head,C.sl (H.length+2) [] 1 0 e0.next.length false,I e0.zj]),0⟩,⟨2,3,1,e0.next.map encI,0⟩]):=by
 have:=vX (zkO e0 e v0.zf g g0 h.atg h.smv.1 (fun y hy=>zaP y (h.smv.2 y hy)) (zhH h.toziB)) (zb (zi (zx (enc:=zp) (fun _=>rfl) rfl _ _)) (zb (zi (zx (enc:=zn) (fun _=>rfl) rfl _ _)) rfl)) rfl H hf
 have e9:[(⟨1,0,2,(v0.zf.map zp).set g ([U g0.zl,C.sl 1 [] 3 0 g0.ends.length false]),0⟩:Ob),⟨1,0,3,(g0.ends.map zn).set e ([U e0.head,C.sl 2 [] 1 0 e0.next.length false,I e0.zj]),0⟩,⟨2,3,1,e0.next.map encI,0⟩].map (zF (qI [] H.length))=[⟨1,0,2,(v0.zf.map zp).set g ([U g0.zl,C.sl (H.length+1) [] 3 0 g0.ends.length false]),0⟩,⟨1,0,3,(g0.ends.map zn).set e ([U e0.head,C.sl (H.length+2) [] 1 0 e0.next.length false,I e0.zj]),0⟩,⟨2,3,1,e0.next.map encI,0⟩]:=by
  show zF _ ⟨1,0,2,_,0⟩::zF _ ⟨1,0,3,_,0⟩::_=_
  rw [zA (enc:=zp) (fun _=>rfl),zA (enc:=zn) (fun _=>rfl)]
  rfl
 rw [e9] at this
 exact this
theorem zd4 {v0:Ver} {g:Nat} {g0:Gr} {e:Nat} {e0:En} (h:ziC v0 g g0 e e0):zc Tryz.prog 277 [] [.agg [],.agg (zw v0)] (.agg (zJ v0.snap++[C.sl 0 [] 2 0 v0.zf.length false,Bo v0.zC])) [⟨1,0,2,(v0.zf.map zp).set g ([U g0.zl,C.sl 1 [] 3 0 g0.ends.length false]),0⟩,⟨1,0,3,(g0.ends.map zn).set e ([U e0.head,C.sl 2 [] 1 0 e0.next.length false,I e0.zj]),0⟩,⟨2,3,1,e0.next.map encI,0⟩]:=by
 have h1:zc Tryz.prog 277 [] [.agg [],.agg (zw v0)] (.agg (zJ v0.snap++[C.sl 3 [] 2 0 v0.zf.length false,Bo v0.zC])) [⟨1,281,0,[[]],0⟩,⟨1,72,5,[(zJ v0.snap++[C.sl 3 [] 2 0 v0.zf.length false,Bo v0.zC])],0⟩,⟨1,72,5,[(zJ v0.snap++[C.sl 3 [] 2 0 v0.zf.length false,Bo v0.zC])],0⟩,⟨1,0,2,(v0.zf.map zp).set g ([U g0.zl,C.sl 4 [] 3 0 g0.ends.length false]),0⟩,⟨1,0,3,(g0.ends.map zn).set e ([U e0.head,C.sl 5 [] 1 0 e0.next.length false,I e0.zj]),0⟩,⟨2,3,1,e0.next.map encI,0⟩]:=by
  refine zc.zW (fn:=Tryz.f277) Tryz.func277 rfl ?_
  conv=>whnf
  refine ⟨_,_,zl5 h _ rfl,?_⟩
  refine dd ?_
  exact ⟨.inl rfl,_,.refl _,rfl,rfl⟩
 refine h1.zct (fun B hB _=>?_) (Nat.zero_le _)
 have hw:=zq.ren (B:=B) [3,4,5] [0] [.agg (zJ v0.snap++[C.sl 3 [] 2 0 v0.zf.length false,Bo v0.zC])] [⟨1,281,0,[[]],0⟩,⟨1,72,5,[(zJ v0.snap++[C.sl 3 [] 2 0 v0.zf.length false,Bo v0.zC])],0⟩,⟨1,72,5,[(zJ v0.snap++[C.sl 3 [] 2 0 v0.zf.length false,Bo v0.zC])],0⟩,⟨1,0,2,(v0.zf.map zp).set g ([U g0.zl,C.sl 4 [] 3 0 g0.ends.length false]),0⟩,⟨1,0,3,(g0.ends.map zn).set e ([U e0.head,C.sl 5 [] 1 0 e0.next.length false,I e0.zj]),0⟩,⟨2,3,1,e0.next.map encI,0⟩] (by rw [show B=0 from by simpa using hB];rfl) rfl rfl (zb rfl (zb rfl (zb rfl (zb (zi (zx (enc:=zp) (fun _=>rfl) rfl _ _)) (zb (zi (zx (enc:=zn) (fun _=>rfl) rfl _ _)) rfl)))))
 have e:jC [3,4,5] [⟨1,281,0,[[]],0⟩,⟨1,72,5,[(zJ v0.snap++[C.sl 3 [] 2 0 v0.zf.length false,Bo v0.zC])],0⟩,⟨1,72,5,[(zJ v0.snap++[C.sl 3 [] 2 0 v0.zf.length false,Bo v0.zC])],0⟩,⟨1,0,2,(v0.zf.map zp).set g ([U g0.zl,C.sl 4 [] 3 0 g0.ends.length false]),0⟩,⟨1,0,3,(g0.ends.map zn).set e ([U e0.head,C.sl 5 [] 1 0 e0.next.length false,I e0.zj]),0⟩,⟨2,3,1,e0.next.map encI,0⟩]=[⟨1,0,2,(v0.zf.map zp).set g ([U g0.zl,C.sl 1 [] 3 0 g0.ends.length false]),0⟩,⟨1,0,3,(g0.ends.map zn).set e ([U e0.head,C.sl 2 [] 1 0 e0.next.length false,I e0.zj]),0⟩,⟨2,3,1,e0.next.map encI,0⟩]:=by
  show zI [3,4,5] ⟨1,0,2,(v0.zf.map zp).set g ([U g0.zl,C.sl 4 [] 3 0 g0.ends.length false]),0⟩::zI [3,4,5] ⟨1,0,3,(g0.ends.map zn).set e ([U e0.head,C.sl 5 [] 1 0 e0.next.length false,I e0.zj]),0⟩::_=_
  rw [zE (enc:=zp) (fun _=>rfl),zE (enc:=zn) (fun _=>rfl)]
  rfl
 rw [e] at hw
 exact hw
theorem zfV {v0:Ver} {g:Nat} {g0:Gr} {e:Nat} {e0:En} (h:ziC v0 g g0 e e0) (H:zk) (hf:qo H=true):zc Tryz.prog 277 H [.agg [],.agg (zw v0)] (.agg ((zJ v0.snap++[C.sl H.length [] 2 0 v0.zf.length false,Bo v0.zC]))) (H++[⟨1,0,2,(v0.zf.map zp).set g ([U g0.zl,C.sl (H.length+1) [] 3 0 g0.ends.length false]),0⟩,⟨1,0,3,(g0.ends.map zn).set e ([U e0.head,C.sl (H.length+2) [] 1 0 e0.next.length false,I e0.zj]),0⟩,⟨2,3,1,e0.next.map encI,0⟩]):=by
 have:=vX (zd4 h) (zb (zi (zx (enc:=zp) (fun _=>rfl) rfl _ _)) (zb (zi (zx (enc:=zn) (fun _=>rfl) rfl _ _)) rfl)) rfl H hf
 have e9:[(⟨1,0,2,(v0.zf.map zp).set g ([U g0.zl,C.sl 1 [] 3 0 g0.ends.length false]),0⟩:Ob),⟨1,0,3,(g0.ends.map zn).set e ([U e0.head,C.sl 2 [] 1 0 e0.next.length false,I e0.zj]),0⟩,⟨2,3,1,e0.next.map encI,0⟩].map (zF (qI [] H.length))=[⟨1,0,2,(v0.zf.map zp).set g ([U g0.zl,C.sl (H.length+1) [] 3 0 g0.ends.length false]),0⟩,⟨1,0,3,(g0.ends.map zn).set e ([U e0.head,C.sl (H.length+2) [] 1 0 e0.next.length false,I e0.zj]),0⟩,⟨2,3,1,e0.next.map encI,0⟩]:=by
  show zF _ ⟨1,0,2,_,0⟩::zF _ ⟨1,0,3,_,0⟩::_=_
  rw [zA (enc:=zp) (fun _=>rfl),zA (enc:=zn) (fun _=>rfl)]
  rfl
 rw [e9] at this
 exact this
theorem zkQ (g0:Gr) (g:Nat) (e0:En) (e:Nat) (l:List Ver) (v:Nat) (v0:Ver) (hv:l[v]?= some v0) (hl:l.length < 1000000000) (hp:∀ x ∈ l,zc Tryz.prog 277 [] [.agg [],.agg (zw x)] (.agg (zw x)) [])
  (hA:∀ H,qo H=true->zc Tryz.prog 277 H [.agg [],.agg (zw v0)] (.agg ((zJ v0.snap++[C.sl H.length [] 2 0 v0.zf.length false,Bo v0.zC]))) (H++[⟨1,0,2,(v0.zf.map zp).set g ([U g0.zl,C.sl (H.length+1) [] 3 0 g0.ends.length false]),0⟩,⟨1,0,3,(g0.ends.map zn).set e ([U e0.head,C.sl (H.length+2) [] 1 0 e0.next.length false,I e0.zj]),0⟩,⟨2,3,1,e0.next.map encI,0⟩])):
  zc Tryz.prog 276 [] [lV l,.fn 277 [] [],.agg []] (.sl 0 [] 5 0 l.length false) [⟨1,0,5,(l.map zw).set v ((zJ v0.snap++[C.sl 1 [] 2 0 v0.zf.length false,Bo v0.zC])),0⟩,⟨1,0,2,(v0.zf.map zp).set g ([U g0.zl,C.sl 2 [] 3 0 g0.ends.length false]),0⟩,⟨1,0,3,(g0.ends.map zn).set e ([U e0.head,C.sl 3 [] 1 0 e0.next.length false,I e0.zj]),0⟩,⟨2,3,1,e0.next.map encI,0⟩]:=by
 have m1:(l.map zw).length=l.length:=List.length_map ..
 have hvl:=(List.getElem?_eq_some_iff.1 hv).1
 have h1:zc Tryz.prog 276 [] [lV l,.fn 277 [] [],.agg []] (.sl 1 [] 5 0 l.length false) [⟨1,281,0,[[]],0⟩,⟨1,0,5,(l.map zw).set v ((zJ v0.snap++[C.sl 3 [] 2 0 v0.zf.length false,Bo v0.zC])),0⟩,⟨1,72,5,[zw v0],0⟩,⟨1,0,2,(v0.zf.map zp).set g ([U g0.zl,C.sl 4 [] 3 0 g0.ends.length false]),0⟩,⟨1,0,3,(g0.ends.map zn).set e ([U e0.head,C.sl 5 [] 1 0 e0.next.length false,I e0.zj]),0⟩,⟨2,3,1,e0.next.map encI,0⟩]:=by
  refine zc.zW (fn:=Tryz.f276) Tryz.func276 rfl ?_
  conv=>whnf
  rw [m1]
  refine ⟨rfl,by omega,by show (104:Int) * _<=_;omega,by omega,?_⟩
  refine dd ?_
  rw [m1,toNat_cast]
  have ZZ:List C:=([.lst 1 0 [],.lst 1 0 [],.lst 1 0 [],.lst 1 0 [],Bo false]:List C)
  refine qb.seq l.length (fun k=>[lV l,.fn 277 [] [],.za,.za,.za,.ref 0 [] 0 0 0,.lst 1 0 [],.sl 1 [] 5 0 l.length false,.za,.za,.za,.za,.za,lV l,I l.length,I k,.za,.za,.za,.za,.za,.za,.za,.za,.za,.za,.za,.za,.za]) (fun k=>if k<=v then [⟨1,281,0,[[]],0⟩,⟨1,0,5,((l.map zw).set v ((zJ v0.snap++[C.sl 3 [] 2 0 v0.zf.length false,Bo v0.zC]))).take k++(List.replicate l.length ([.lst 1 0 [],.lst 1 0 [],.lst 1 0 [],.lst 1 0 [],Bo false]:List C)).drop k,0⟩] else [⟨1,281,0,[[]],0⟩,⟨1,0,5,((l.map zw).set v ((zJ v0.snap++[C.sl 3 [] 2 0 v0.zf.length false,Bo v0.zC]))).take k++(List.replicate l.length ([.lst 1 0 [],.lst 1 0 [],.lst 1 0 [],.lst 1 0 [],Bo false]:List C)).drop k,0⟩,⟨1,72,5,[zw v0],0⟩,⟨1,0,2,(v0.zf.map zp).set g ([U g0.zl,C.sl 4 [] 3 0 g0.ends.length false]),0⟩,⟨1,0,3,(g0.ends.map zn).set e ([U e0.head,C.sl 5 [] 1 0 e0.next.length false,I e0.zj]),0⟩,⟨2,3,1,e0.next.map encI,0⟩]) (fun k=>True) ?_ trivial (fun k hk hr=>?_) (fun hr=>?_)
  ·rw [if_pos (Nat.zero_le _)]
   refine zq.trans (zq.zgn 1 rfl fun r hr c hc=>?_) (cC)
   rw [List.eq_of_mem_replicate hr] at hc
   exact List.all_eq_true.1 (rfl:([.lst 1 0 [],.lst 1 0 [],.lst 1 0 [],.lst 1 0 [],Bo false]:List C).all zy=true) c hc
  ·obtain ⟨x,hx⟩:∃ x,x=l[k]:=⟨_,rfl⟩
   have hx2:l[k]?= some x:=by rw [List.getElem?_eq_getElem hk,hx]
   have hxm:x ∈ l:=by rw [hx];exact List.getElem_mem hk
   have hg:(l.map zw)[k]?= some (zw x):=by rw [List.getElem?_map,hx2];rfl
   have e1:0+(k:Int).toNat=k:=by simp
   have low:∀ n j,j<=v∨3 < n->∀ r ∈ ((l.map zw).set v ((zJ v0.snap++[C.sl 3 [] 2 0 v0.zf.length false,Bo v0.zC]))).take j++(List.replicate l.length ([.lst 1 0 [],.lst 1 0 [],.lst 1 0 [],.lst 1 0 [],Bo false]:List C)).drop j,∀ c ∈ r,qH n 9 c=true:=fun n j h=>yk (enc:=zw) (fun _=>rfl) rfl l l.length (h.imp_right fun h=>by simp [qH,zJ];omega)
   have own:∀ j,∀ r ∈ ((l.map zw).set v ((zJ v0.snap++[C.sl 3 [] 2 0 v0.zf.length false,Bo v0.zC]))).take j++(List.replicate l.length ([.lst 1 0 [],.lst 1 0 [],.lst 1 0 [],.lst 1 0 [],Bo false]:List C)).drop j,∀ c ∈ r,zy c=true:=fun j=>yk (enc:=zw) (fun _=>rfl) rfl l l.length (.inr rfl)
   by_cases hkv:k=v
   ·subst hkv
    obtain rfl:v0=x:=by rw [hv] at hx2;exact Option.some.inj hx2
    have hF:((l.map zw).set k ((zJ v0.snap++[C.sl 3 [] 2 0 v0.zf.length false,Bo v0.zC])))[k]?= some ((zJ v0.snap++[C.sl 3 [] 2 0 v0.zf.length false,Bo v0.zC])):=by rw [List.getElem?_set,if_pos rfl,if_pos (by simpa using hk)]
    rw [if_pos (Nat.le_refl _),if_neg (by omega)]
    conv=>whnf
    (refine ⟨fun _=>?_,fun h=>absurd h (by simp;omega)⟩);refine dd ?_
    (refine ⟨by omega,_,by rw [toNat_cast];exact hg,?_⟩);refine dd ?_
    refine ⟨_,_,hA _ (zb rfl (zb (zi (own k)) rfl)),?_⟩
    refine dd ?_
    refine ⟨by omega,by simp;omega,?_⟩
    refine dd ?_
    rw [e1]
    refine ⟨_,jh (by simp) hk,rfl,?_⟩
    refine dd ?_
    refine .inl ⟨rfl,?_,trivial⟩
    rw [zD (by omega),<- qu hF hk]
    exact cC
   ·have hF:((l.map zw).set v ((zJ v0.snap++[C.sl 3 [] 2 0 v0.zf.length false,Bo v0.zC])))[k]?= some (zw x):=by rw [List.getElem?_set_ne (fun h=>hkv h.symm)];exact hg
    by_cases hlt:k < v
    ·rw [if_pos (by omega),if_pos (by omega)]
     conv=>whnf
     (refine ⟨fun _=>?_,fun h=>absurd h (by simp;omega)⟩);refine dd ?_
     (refine ⟨by omega,_,by rw [toNat_cast];exact hg,?_⟩);refine dd ?_
     refine ⟨_,_,(hp x hxm).frame rfl _,?_⟩;refine dd ?_
     refine ⟨by omega,by simp;omega,?_⟩
     refine dd ?_
     rw [e1]
     refine ⟨_,jh (by simp) hk,rfl,?_⟩
     refine dd ?_
     refine .inl ⟨rfl,?_,trivial⟩
     rw [zD (by omega),<- qu hF hk]
     refine zq.xW 2 (by (conv=>whnf);(repeat (refine ⟨rfl,?_⟩;(conv=>whnf)));exact trivial) rfl rfl rfl (qZ rfl (jY ?_)) rfl
     have lw:=low 2 (k+1) (.inl (by omega))
     rw [<- qu (z:=([.lst 1 0 [],.lst 1 0 [],.lst 1 0 [],.lst 1 0 [],Bo false]:List C)) (n:=l.length) hF hk] at lw
     exact lw
    ·rw [if_neg (by omega),if_neg (by omega)]
     conv=>whnf
     (refine ⟨fun _=>?_,fun h=>absurd h (by simp;omega)⟩);refine dd ?_
     (refine ⟨by omega,_,by rw [toNat_cast];exact hg,?_⟩);refine dd ?_
     refine ⟨_,_,(hp x hxm).frame rfl _,?_⟩;refine dd ?_
     refine ⟨by omega,by simp;omega,?_⟩
     refine dd ?_
     rw [e1]
     refine ⟨_,jh (by simp) hk,rfl,?_⟩
     refine dd ?_
     refine .inl ⟨rfl,?_,trivial⟩
     rw [zD (by omega),<- qu hF hk]
     refine zq.xW 6 (by (conv=>whnf);(repeat (refine ⟨rfl,?_⟩;(conv=>whnf)));exact trivial) rfl rfl rfl (qZ rfl (qZ (jY ?_) (qZ rfl (qZ (jY (zx (enc:=zp) (fun _=>rfl) rfl _ _)) (qZ (jY (zx (enc:=zn) (fun _=>rfl) rfl _ _)) rfl))))) rfl
     have lw:=low 6 (k+1) (.inr (by omega))
     rw [<- qu (z:=([.lst 1 0 [],.lst 1 0 [],.lst 1 0 [],.lst 1 0 [],Bo false]:List C)) (n:=l.length) hF hk] at lw
     exact lw
  ·rw [if_neg (by omega)]
   (conv=>whnf);(refine ⟨fun h=>absurd h (by simp),fun _=>?_⟩);refine dd ?_;(refine ⟨by simp,?_⟩);(conv=>whnf)
   rw [xF (by simp)]
   exact ⟨.inl rfl,_,.refl _,rfl,rfl⟩
 refine h1.zct (fun B h _=>?_) (Nat.zero_le _)
 have hw:=zq.ren (B:=B) [1,3,4,5] [0] [.sl 1 [] 5 0 l.length false] [⟨1,281,0,[[]],0⟩,⟨1,0,5,(l.map zw).set v ((zJ v0.snap++[C.sl 3 [] 2 0 v0.zf.length false,Bo v0.zC])),0⟩,⟨1,72,5,[zw v0],0⟩,⟨1,0,2,(v0.zf.map zp).set g ([U g0.zl,C.sl 4 [] 3 0 g0.ends.length false]),0⟩,⟨1,0,3,(g0.ends.map zn).set e ([U e0.head,C.sl 5 [] 1 0 e0.next.length false,I e0.zj]),0⟩,⟨2,3,1,e0.next.map encI,0⟩] (by rw [show B=0 from by simpa using h];rfl) rfl rfl (zb rfl (zb (zi (zx (enc:=zw) (fun _=>rfl) rfl l v)) (zb rfl (zb (zi (zx (enc:=zp) (fun _=>rfl) rfl _ _)) (zb (zi (zx (enc:=zn) (fun _=>rfl) rfl _ _)) rfl)))))
 have e:jC [1,3,4,5] [⟨1,281,0,[[]],0⟩,⟨1,0,5,(l.map zw).set v ((zJ v0.snap++[C.sl 3 [] 2 0 v0.zf.length false,Bo v0.zC])),0⟩,⟨1,72,5,[zw v0],0⟩,⟨1,0,2,(v0.zf.map zp).set g ([U g0.zl,C.sl 4 [] 3 0 g0.ends.length false]),0⟩,⟨1,0,3,(g0.ends.map zn).set e ([U e0.head,C.sl 5 [] 1 0 e0.next.length false,I e0.zj]),0⟩,⟨2,3,1,e0.next.map encI,0⟩]=[⟨1,0,5,(l.map zw).set v ((zJ v0.snap++[C.sl 1 [] 2 0 v0.zf.length false,Bo v0.zC])),0⟩,⟨1,0,2,(v0.zf.map zp).set g ([U g0.zl,C.sl 2 [] 3 0 g0.ends.length false]),0⟩,⟨1,0,3,(g0.ends.map zn).set e ([U e0.head,C.sl 3 [] 1 0 e0.next.length false,I e0.zj]),0⟩,⟨2,3,1,e0.next.map encI,0⟩]:=by
  show zI [1,3,4,5] ⟨1,0,5,(l.map zw).set v ((zJ v0.snap++[C.sl 3 [] 2 0 v0.zf.length false,Bo v0.zC])),0⟩::_=_
  rw [zE (enc:=zw) (fun _=>rfl)]
  show _::zI [1,3,4,5] ⟨1,0,2,(v0.zf.map zp).set g ([U g0.zl,C.sl 4 [] 3 0 g0.ends.length false]),0⟩::zI [1,3,4,5] ⟨1,0,3,(g0.ends.map zn).set e ([U e0.head,C.sl 5 [] 1 0 e0.next.length false,I e0.zj]),0⟩::_=_;rw [zE (enc:=zp) (fun _=>rfl),zE (enc:=zn) (fun _=>rfl)];rfl
 rw [e] at hw
 exact hw
structure zbO (vs:List Ver) (v:Nat) (v0:Ver) (g:Nat) (g0:Gr) (e:Nat) (e0:En):Prop extends ziC v0 g g0 e e0 where
 zoq:vs.length < 1000000000∧∀ v ∈ vs,ziD v
 atv:vs[v]?= some v0
theorem zl8 {vs:List Ver} {v:Nat} {v0:Ver} {g:Nat} {g0:Gr} {e:Nat} {e0:En} (h:zbO vs v v0 g g0 e e0) (H:zk) (hf:qo H=true):zc Tryz.prog 276 H [lV vs,.fn 277 [] [],.agg []] (.sl H.length [] 5 0 vs.length false) (H++[⟨1,0,5,(vs.map zw).set v ((zJ v0.snap++[C.sl (H.length+1) [] 2 0 v0.zf.length false,Bo v0.zC])),0⟩,⟨1,0,2,(v0.zf.map zp).set g ([U g0.zl,C.sl (H.length+2) [] 3 0 g0.ends.length false]),0⟩,⟨1,0,3,(g0.ends.map zn).set e ([U e0.head,C.sl (H.length+3) [] 1 0 e0.next.length false,I e0.zj]),0⟩,⟨2,3,1,e0.next.map encI,0⟩]):=by
 have:=vX (zkQ g0 g e0 e vs v v0 h.atv h.zoq.1 (fun y hy=>xk y (h.zoq.2 y hy)) (zfV h.toziC)) (zb (zi (zx (enc:=zw) (fun _=>rfl) rfl _ _)) (zb (zi (zx (enc:=zp) (fun _=>rfl) rfl _ _)) (zb (zi (zx (enc:=zn) (fun _=>rfl) rfl _ _)) rfl))) rfl H hf
 have e9:[(⟨1,0,5,(vs.map zw).set v ((zJ v0.snap++[C.sl 1 [] 2 0 v0.zf.length false,Bo v0.zC])),0⟩:Ob),⟨1,0,2,(v0.zf.map zp).set g ([U g0.zl,C.sl 2 [] 3 0 g0.ends.length false]),0⟩,⟨1,0,3,(g0.ends.map zn).set e ([U e0.head,C.sl 3 [] 1 0 e0.next.length false,I e0.zj]),0⟩,⟨2,3,1,e0.next.map encI,0⟩].map (zF (qI [] H.length))=[⟨1,0,5,(vs.map zw).set v ((zJ v0.snap++[C.sl (H.length+1) [] 2 0 v0.zf.length false,Bo v0.zC])),0⟩,⟨1,0,2,(v0.zf.map zp).set g ([U g0.zl,C.sl (H.length+2) [] 3 0 g0.ends.length false]),0⟩,⟨1,0,3,(g0.ends.map zn).set e ([U e0.head,C.sl (H.length+3) [] 1 0 e0.next.length false,I e0.zj]),0⟩,⟨2,3,1,e0.next.map encI,0⟩]:=by
  show zF _ ⟨1,0,5,_,0⟩::zF _ ⟨1,0,2,_,0⟩::zF _ ⟨1,0,3,_,0⟩::_=_
  rw [zA (enc:=zw) (fun _=>rfl),zA (enc:=zp) (fun _=>rfl),zA (enc:=zn) (fun _=>rfl)]
  rfl
 rw [e9] at this
 exact this
end Go.Wor
namespace Go.Wor
open Go.Ab Go.Proofs Go.Hy Go.Gat Go.Nam Go.Hos Go.Con Go.Sna
theorem zcy (l:List (List Int)) (hl:l.length < 1000000000) (hp:∀ x ∈ l,zc Tryz.prog 280 [] [.agg [],lU x] (lU x) []):zc Tryz.prog 279 [] [lCo l,.fn 280 [] [],.agg []] (.sl 0 [] 1 0 l.length false) [⟨2,161,1,l.map zL,0⟩]:=by
 have m1:(l.map zL).length=l.length:=List.length_map ..
 refine zc.zW (fn:=Tryz.f279) Tryz.func279 rfl ?_
 conv=>whnf
 rw [m1]
 refine ⟨rfl,by omega,by show (24:Int) * _<=_;omega,by omega,?_⟩
 refine dd ?_
 rw [m1,toNat_cast]
 refine qb.seq l.length (fun k=>[lCo l,.fn 280 [] [],.za,.za,.za,.ref 0 [] 0 0 0,.lst 1 0 [],.sl 1 [] 1 0 l.length false,.za,.za,.za,.za,.za,lCo l,I l.length,I k,.za,.za,.za,.za,.za,.za,.za,.za,.za,.za,.za,.za,.za]) (fun k=>[⟨1,281,0,[[]],0⟩,⟨2,161,1,(l.map zL).take k++(List.replicate l.length ([.lst 1 0 []]:List C)).drop k,0⟩]) (fun k=>True) ?_ trivial (fun k hk hr=>?_) (fun hr=>?_)
 ·exact cC
 ·obtain ⟨x,hx⟩:∃ x,x=l[k]:=⟨_,rfl⟩
  have hx2:l[k]?= some x:=by rw [List.getElem?_eq_getElem hk,hx]
  have hg:(l.map zL)[k]?= some (zL x):=by rw [List.getElem?_map,hx2];rfl
  conv=>whnf
  (refine ⟨fun _=>?_,fun h=>absurd h (by simp;omega)⟩);refine dd ?_
  (refine ⟨by omega,_,by rw [toNat_cast];exact hg,?_⟩);refine dd ?_
  refine ⟨_,_,(hp x (by rw [hx];exact List.getElem_mem hk)).frame rfl _,?_⟩;refine dd ?_
  refine ⟨by omega,by simp;omega,?_⟩
  refine dd ?_
  have e1:0+(k:Int).toNat=k:=by simp
  rw [e1]
  refine ⟨_,jh (by simp) hk,rfl,?_⟩
  refine dd ?_
  refine .inl ⟨rfl,?_,trivial⟩
  have e2:=qu (z:=([.lst 1 0 []]:List C)) (n:=l.length) hg hk
  rw [zD (by omega),<- e2]
  exact cE 2
 ·(conv=>whnf);(refine ⟨fun h=>absurd h (by simp),fun _=>?_⟩);refine dd ?_;(refine ⟨by simp,?_⟩);(conv=>whnf)
  rw [xF (by simp)]
  exact ⟨.inl rfl,_,zq.ren [1] [6] _ _ rfl rfl rfl rfl,rfl,rfl⟩
theorem zig (r0:List Int) (x:Int) (l:List Int) (he:r0=x::l) (hl:l.length < 1000000000):zc Tryz.prog 280 [] [.agg [],lU r0] (.sl 0 [] 1 0 r0.length false) [⟨2,38,1,r0.map qY,0⟩]:=by
 have h1:zc Tryz.prog 280 [] [.agg [],lU r0] (.sl 1 [] 1 0 r0.length false) [⟨1,281,0,[[]],0⟩,⟨2,38,1,r0.map qY,0⟩]:=by
  have hc:=zkI x l hl
  rw [<- he] at hc
  refine zc.zW (fn:=Tryz.f280) Tryz.func280 rfl ?_
  conv=>whnf
  refine zG [] (hc) rfl rfl rfl rfl rfl rfl ?_;refine dd ?_
  exact ⟨.inl rfl,_,.refl _,rfl,rfl⟩
 exact h1.zct (fun B h _=>zq.ren [1] [0] _ _ (by rw [show B=0 from by simpa using h];rfl) rfl rfl rfl) (Nat.zero_le _)
theorem zlD (r0:List Int) (x:Int) (l:List Int) (he:r0=x::l) (hl:l.length < 1000000000) (H:zk) (hf:qo H=true):zc Tryz.prog 280 H [.agg [],lU r0] (.sl H.length [] 1 0 r0.length false) (H++[⟨2,38,1,r0.map qY,0⟩]):=
 vX (zig r0 x l he hl) rfl rfl H hf
theorem zfE {P:Program} {f:FuncId} {fn:Func} {c:Code} {H2:zk} {args:List C} {r:C} (hf:P.funcs[f]?= some fn) (hb:fn.body=some c)
  (h:wpA P 0 c (entry fn args) [] fun ex t1 H1=>(ex=.ret∨ex=.normal)∧∃ s2 r1,zq 0 ⟨t1,H1⟩ s2∧vw P fn s2=some r1∧zq 0 ⟨[r1],s2.H⟩ ⟨[r],H2⟩):zc P f [] args r H2:=fun w E vs hh hl=>by
 have h1:qt P f [] args fun r1 H1=>zq 0 ⟨[r1],H1⟩ ⟨[r],H2⟩:=qt.zW hf hb h
 refine (h1 w E vs hh hl).mono ?_
 rintro e w' ⟨r1,H1,v,E',hw,h0,h2,h3,g⟩
 obtain ⟨E2,hs,g2⟩:=hw 0 w' E' ⟨#[v],[]⟩ ⟨h2,LL.one h3,Nat.zero_le _,Nat.zero_le _⟩
 have hn2:=hs.heap.n
 have hn0:E.n=0:=hh.n
 refine ⟨v,E2,h0,hs.heap,hs.tmps.cons_inv.1,⟨⟨by rw [hn0];exact Nat.zero_le _,fun id hops hi=>by rw [hn0] at hi;omega,fun id hops hi=>by rw [hn0] at hi;omega,fun b o u hu=>g2.le.St _ _ _ (g.le.St _ _ _ hu),fun id k u hi hu=>by rw [hn0] at hi;omega⟩,g2.os.trans g.os,g2.tape.trans g.tape,g2.output.trans g.output,Nat.le_trans g.size g2.size,?_,?_,?_⟩⟩
 ·intro k hk ho
  exact (g2.frame k (Nat.lt_of_lt_of_le hk g.size) fun hc=>(g.own k hc).elim (fun h=>by omega) ho).trans (g.frame k hk ho)
 ·intro b o u hu
  rcases g2.q8 b o u hu with h1 | h1 | h1
  ·exact g.q8 b o u h1
  ·exact .inr (.inl (Nat.le_trans g.size h1))
  ·rcases g.own b h1 with h4 | h4
   ·exact .inr (.inl h4)
   ·exact .inr (.inr h4)
 ·intro b hb
  rcases g2.own b hb with h1 | h1
  ·exact .inl (Nat.le_trans g.size h1)
  ·exact g.own b h1
theorem qs (w:Wor) (h:ja w):zc Tryz.prog 215 [] [Cw w] (Cw w) []:=by
 refine zc.zr (fn:=Tryz.f215) Tryz.func215 rfl ?_
 conv=>whnf
 refine ⟨_,_,(kO w.pins h.pins).frame rfl _,?_⟩;refine dd ?_
 refine zG [] (zcz w.zd h.zd.1 fun v hv=>xk v (h.zd.2 v hv)) rfl rfl rfl rfl rfl rfl ?_;refine dd ?_
 refine ⟨_,_,(zaD w.ze h.ze).frame rfl _,?_⟩;refine dd ?_
 refine zG [] (zcy w.counts h.counts.1 fun r hr=>y6 r (h.counts.2 r hr)) rfl rfl rfl rfl rfl rfl ?_;refine dd ?_
 refine ⟨_,_,(kP w.zt h.zt).frame rfl _,?_⟩;refine dd ?_
 exact ⟨.inl rfl,_,(zq.zZ 1 0 4 rfl rfl rfl rfl (.inr rfl) rfl (by simp) (shut_map (enc:=zw) (fun _=>rfl) w.zd) (qm rfl)).trans (zq.zZ 1 0 6 rfl rfl rfl rfl (.inr rfl) rfl (by simp) (shut_map (enc:=zL) (fun _=>rfl) w.counts) (qm rfl)),rfl⟩
theorem zkP (l:List (List Int)) (t:Nat) (r0:(List Int)) (hv:l[t]?= some r0) (hl:l.length < 1000000000) (hp:∀ x ∈ l,zc Tryz.prog 280 [] [.agg [],lU x] (lU x) [])
  (hA:∀ H,qo H=true->zc Tryz.prog 280 H [.agg [],lU r0] (.sl H.length [] 1 0 r0.length false) (H++[⟨2,38,1,r0.map qY,0⟩])):
  zc Tryz.prog 279 [] [lCo l,.fn 280 [] [],.agg []] (.sl 0 [] 1 0 l.length false) [⟨1,0,1,(l.map zL).set t ([C.sl 1 [] 1 0 r0.length false]),0⟩,⟨2,38,1,r0.map qY,0⟩]:=by
 have m1:(l.map zL).length=l.length:=List.length_map ..
 have hvl:=(List.getElem?_eq_some_iff.1 hv).1
 have h1:zc Tryz.prog 279 [] [lCo l,.fn 280 [] [],.agg []] (.sl 1 [] 1 0 l.length false) [⟨1,281,0,[[]],0⟩,⟨1,0,1,(l.map zL).set t ([C.sl 2 [] 1 0 r0.length false]),0⟩,⟨2,38,1,r0.map qY,0⟩]:=by
  refine zc.zW (fn:=Tryz.f279) Tryz.func279 rfl ?_
  conv=>whnf
  rw [m1]
  refine ⟨rfl,by omega,by show (24:Int) * _<=_;omega,by omega,?_⟩
  refine dd ?_
  rw [m1,toNat_cast]
  have ZZ:List C:=([.lst 1 0 []]:List C)
  refine qb.seq l.length (fun k=>[lCo l,.fn 280 [] [],.za,.za,.za,.ref 0 [] 0 0 0,.lst 1 0 [],.sl 1 [] 1 0 l.length false,.za,.za,.za,.za,.za,lCo l,I l.length,I k,.za,.za,.za,.za,.za,.za,.za,.za,.za,.za,.za,.za,.za]) (fun k=>if k<=t then [⟨1,281,0,[[]],0⟩,⟨1,0,1,((l.map zL).set t ([C.sl 2 [] 1 0 r0.length false])).take k++(List.replicate l.length ([.lst 1 0 []]:List C)).drop k,0⟩] else [⟨1,281,0,[[]],0⟩,⟨1,0,1,((l.map zL).set t ([C.sl 2 [] 1 0 r0.length false])).take k++(List.replicate l.length ([.lst 1 0 []]:List C)).drop k,0⟩,⟨2,38,1,r0.map qY,0⟩]) (fun k=>True) ?_ trivial (fun k hk hr=>?_) (fun hr=>?_)
  ·rw [if_pos (Nat.zero_le _)]
   refine zq.trans (zq.zgn 1 rfl fun r hr c hc=>?_) (cC)
   rw [List.eq_of_mem_replicate hr] at hc
   exact List.all_eq_true.1 (rfl:([.lst 1 0 []]:List C).all zy=true) c hc
  ·obtain ⟨x,hx⟩:∃ x,x=l[k]:=⟨_,rfl⟩
   have hx2:l[k]?= some x:=by rw [List.getElem?_eq_getElem hk,hx]
   have hxm:x ∈ l:=by rw [hx];exact List.getElem_mem hk
   have hg:(l.map zL)[k]?= some (zL x):=by rw [List.getElem?_map,hx2];rfl
   have e1:0+(k:Int).toNat=k:=by simp
   have low:∀ n j,j<=t∨2 < n->∀ r ∈ ((l.map zL).set t ([C.sl 2 [] 1 0 r0.length false])).take j++(List.replicate l.length ([.lst 1 0 []]:List C)).drop j,∀ c ∈ r,qH n 9 c=true:=fun n j h=>yk (enc:=zL) (fun _=>rfl) rfl l l.length (h.imp_right fun h=>by simp [qH,zJ];omega)
   have own:∀ j,∀ r ∈ ((l.map zL).set t ([C.sl 2 [] 1 0 r0.length false])).take j++(List.replicate l.length ([.lst 1 0 []]:List C)).drop j,∀ c ∈ r,zy c=true:=fun j=>yk (enc:=zL) (fun _=>rfl) rfl l l.length (.inr rfl)
   by_cases hkv:k=t
   ·subst hkv
    obtain rfl:r0=x:=by rw [hv] at hx2;exact Option.some.inj hx2
    have hF:((l.map zL).set k ([C.sl 2 [] 1 0 r0.length false]))[k]?= some ([C.sl 2 [] 1 0 r0.length false]):=by rw [List.getElem?_set,if_pos rfl,if_pos (by simpa using hk)]
    rw [if_pos (Nat.le_refl _),if_neg (by omega)]
    conv=>whnf
    (refine ⟨fun _=>?_,fun h=>absurd h (by simp;omega)⟩);refine dd ?_
    (refine ⟨by omega,_,by rw [toNat_cast];exact hg,?_⟩);refine dd ?_
    refine ⟨_,_,hA _ (zb rfl (zi (own k))),?_⟩
    refine dd ?_
    refine ⟨by omega,by simp;omega,?_⟩
    refine dd ?_
    rw [e1]
    refine ⟨_,jh (by simp) hk,rfl,?_⟩
    refine dd ?_
    refine .inl ⟨rfl,?_,trivial⟩
    rw [zD (by omega),<- qu hF hk]
    exact cC
   ·have hF:((l.map zL).set t ([C.sl 2 [] 1 0 r0.length false]))[k]?= some (zL x):=by rw [List.getElem?_set_ne (fun h=>hkv h.symm)];exact hg
    by_cases hlt:k < t
    ·rw [if_pos (by omega),if_pos (by omega)]
     conv=>whnf
     (refine ⟨fun _=>?_,fun h=>absurd h (by simp;omega)⟩);refine dd ?_
     (refine ⟨by omega,_,by rw [toNat_cast];exact hg,?_⟩);refine dd ?_
     refine ⟨_,_,(hp x hxm).frame rfl _,?_⟩;refine dd ?_
     refine ⟨by omega,by simp;omega,?_⟩
     refine dd ?_
     rw [e1]
     refine ⟨_,jh (by simp) hk,rfl,?_⟩
     refine dd ?_
     refine .inl ⟨rfl,?_,trivial⟩
     rw [zD (by omega),<- qu hF hk]
     refine zq.xW 2 (by (conv=>whnf);(repeat (refine ⟨rfl,?_⟩;(conv=>whnf)));exact trivial) rfl rfl rfl (qZ rfl (jY ?_)) rfl
     have lw:=low 2 (k+1) (.inl (by omega))
     rw [<- qu (z:=([.lst 1 0 []]:List C)) (n:=l.length) hF hk] at lw
     exact lw
    ·rw [if_neg (by omega),if_neg (by omega)]
     conv=>whnf
     (refine ⟨fun _=>?_,fun h=>absurd h (by simp;omega)⟩);refine dd ?_
     (refine ⟨by omega,_,by rw [toNat_cast];exact hg,?_⟩);refine dd ?_
     refine ⟨_,_,(hp x hxm).frame rfl _,?_⟩;refine dd ?_
     refine ⟨by omega,by simp;omega,?_⟩
     refine dd ?_
     rw [e1]
     refine ⟨_,jh (by simp) hk,rfl,?_⟩
     refine dd ?_
     refine .inl ⟨rfl,?_,trivial⟩
     rw [zD (by omega),<- qu hF hk]
     refine zq.xW 3 (by (conv=>whnf);(repeat (refine ⟨rfl,?_⟩;(conv=>whnf)));exact trivial) rfl rfl rfl (qZ rfl (qZ (jY ?_) rfl)) rfl
     have lw:=low 3 (k+1) (.inr (by omega))
     rw [<- qu (z:=([.lst 1 0 []]:List C)) (n:=l.length) hF hk] at lw
     exact lw
  ·rw [if_neg (by omega)]
   (conv=>whnf);(refine ⟨fun h=>absurd h (by simp),fun _=>?_⟩);refine dd ?_;(refine ⟨by simp,?_⟩);(conv=>whnf)
   rw [xF (by simp)]
   exact ⟨.inl rfl,_,.refl _,rfl,rfl⟩
 refine h1.zct (fun B h _=>?_) (Nat.zero_le _)
 have hw:=zq.ren (B:=B) [1,2] [0] [.sl 1 [] 1 0 l.length false] [⟨1,281,0,[[]],0⟩,⟨1,0,1,(l.map zL).set t ([C.sl 2 [] 1 0 r0.length false]),0⟩,⟨2,38,1,r0.map qY,0⟩] (by rw [show B=0 from by simpa using h];rfl) rfl rfl (zb rfl (zb (zi (zx (enc:=zL) (fun _=>rfl) rfl l t)) rfl))
 have e:jC [1,2] [⟨1,281,0,[[]],0⟩,⟨1,0,1,(l.map zL).set t ([C.sl 2 [] 1 0 r0.length false]),0⟩,⟨2,38,1,r0.map qY,0⟩]=[⟨1,0,1,(l.map zL).set t ([C.sl 1 [] 1 0 r0.length false]),0⟩,⟨2,38,1,r0.map qY,0⟩]:=by
  show zI [1,2] ⟨1,0,1,(l.map zL).set t ([C.sl 2 [] 1 0 r0.length false]),0⟩::_=_
  rw [zE (enc:=zL) (fun _=>rfl)]
  rfl
 rw [e] at hw
 exact hw
structure ziA (cs:List (List Int)) (t:Nat) (r0:List Int):Prop where
 sm:cs.length < 1000000000∧∀ r ∈ cs,r.length < 1000000000
 at_:cs[t]?= some r0
 ne:r0≠[]
theorem zl7 {cs:List (List Int)} {t:Nat} {r0:List Int} (h:ziA cs t r0) (H:zk) (hf:qo H=true):zc Tryz.prog 279 H [lCo cs,.fn 280 [] [],.agg []] (.sl H.length [] 1 0 cs.length false) (H++[⟨1,0,1,(cs.map zL).set t ([C.sl (H.length+1) [] 1 0 r0.length false]),0⟩,⟨2,38,1,r0.map qY,0⟩]):=by
 obtain ⟨x,l,hx⟩:∃ x l,r0=x::l:=by
  cases hh:r0 with
  | nil=>exact absurd hh h.ne
  | cons x l=>exact ⟨x,l,rfl⟩
 have hlen:l.length < 1000000000:=by
  have:=h.sm.2 r0 (List.mem_of_getElem? h.at_)
  rw [hx] at this
  simp at this
  omega
 have:=vX (zkP cs t r0 h.at_ h.sm.1 (fun y hy=>y6 y (h.sm.2 y hy)) (zlD r0 x l hx hlen)) (zb (zi (zx (enc:=zL) (fun _=>rfl) rfl _ _)) rfl) rfl H hf
 have e9:[(⟨1,0,1,(cs.map zL).set t ([C.sl 1 [] 1 0 r0.length false]),0⟩:Ob),⟨2,38,1,r0.map qY,0⟩].map (zF (qI [] H.length))=[⟨1,0,1,(cs.map zL).set t ([C.sl (H.length+1) [] 1 0 r0.length false]),0⟩,⟨2,38,1,r0.map qY,0⟩]:=by
  show zF _ ⟨1,0,1,_,0⟩::_=_
  rw [zA (enc:=zL) (fun _=>rfl)]
  rfl
 rw [e9] at this
 exact this
theorem zaF (w:Wor) (h:ja w) (x:Int) (l:List Int) (hx:w.pins=x::l):zc Tryz.prog 215 [] [Cw w] (.agg [I w.zu,I w.current,I w.lock,.sl 0 [] 1 0 w.pins.length false,lV w.zd,lL w.ze,lCo w.counts,lR w.zt]) [⟨2,3,1,w.pins.map encI,0⟩]:=by
 have hl:l.length < 1000000000:=by have:=h.pins;rw [hx] at this;simp at this;omega
 have hc:=zga x l hl
 rw [<- hx] at hc
 refine zfE (fn:=Tryz.f215) Tryz.func215 rfl ?_;conv=>whnf
 refine zG [] (hc) rfl rfl rfl rfl rfl rfl ?_;refine dd ?_
 refine zG [] (zcz w.zd h.zd.1 fun v hv=>xk v (h.zd.2 v hv)) rfl rfl rfl rfl rfl rfl ?_;refine dd ?_
 refine ⟨_,_,(zaD w.ze h.ze).frame rfl _,?_⟩;refine dd ?_
 refine zG [] (zcy w.counts h.counts.1 fun r hr=>y6 r (h.counts.2 r hr)) rfl rfl rfl rfl rfl rfl ?_;refine dd ?_
 refine ⟨_,_,(kP w.zt h.zt).frame rfl _,?_⟩;refine dd ?_
 refine ⟨.inl rfl,_,_,(zq.zZ 1 0 4 rfl rfl rfl rfl (.inr rfl) rfl (by simp) (shut_map (enc:=zw) (fun _=>rfl) w.zd) (qm rfl)).trans (zq.zZ 1 0 6 rfl rfl rfl rfl (.inr rfl) rfl (by simp) (shut_map (enc:=zL) (fun _=>rfl) w.counts) (qm rfl)),rfl,?_⟩
 exact zq.ren [3] [0] _ _ rfl rfl rfl (zb rfl (zb rfl (zb rfl (zb rfl (zb (zi fun r hr c hc=>((shut_map (enc:=zw) (fun _=>rfl) w.zd) r hr c hc).2) (zi fun r hr c hc=>((shut_map (enc:=zL) (fun _=>rfl) w.counts) r hr c hc).2))))))
theorem zgX {B:Nat} (sel m:List Nat) {t t2:List C} {H H2:zk} (hB:zeI B 0 sel=true) (zX:sel.all (fun id=>Nat.blt id H.length)=true) (hnd:j6 sel=true) (hfl:qo H=true) (et:(zb8 m 0 t).map (j7 sel 9)=t2) (e:jC sel H=H2):zq B ⟨t,H⟩ ⟨t2,H2⟩:=by
 subst et e
 exact zq.ren sel m t H hB zX hnd hfl
theorem vZ (w:Wor) (h:ja w) (x:Lis) (l:List Lis) (hx:w.ze=x::l):zc Tryz.prog 215 [] [Cw w] (.agg [I w.zu,I w.current,I w.lock,lI w.pins,lV w.zd,.sl 0 [] 4 0 w.ze.length false,lCo w.counts,lR w.zt]) [⟨2,95,4,w.ze.map jc,0⟩]:=by
 have hl:l.length < 1000000000:=by have:=h.ze;rw [hx] at this;simp at this;omega
 have hc:=zkH x l hl
 rw [<- hx] at hc
 refine zfE (fn:=Tryz.f215) Tryz.func215 rfl ?_;conv=>whnf
 refine ⟨_,_,(kO w.pins h.pins).frame rfl _,?_⟩;refine dd ?_
 refine zG [] (zcz w.zd h.zd.1 fun v hv=>xk v (h.zd.2 v hv)) rfl rfl rfl rfl rfl rfl ?_;refine dd ?_
 refine zG [] (hc) rfl rfl rfl rfl rfl rfl ?_;refine dd ?_
 refine zG [] (zcy w.counts h.counts.1 fun r hr=>y6 r (h.counts.2 r hr)) rfl rfl rfl rfl rfl rfl ?_;refine dd ?_
 refine ⟨_,_,(kP w.zt h.zt).frame rfl _,?_⟩;refine dd ?_
 refine ⟨.inl rfl,_,_,(zq.zZ 1 0 4 rfl rfl rfl rfl (.inr rfl) rfl (by simp) (shut_map (enc:=zw) (fun _=>rfl) w.zd) (qm rfl)).trans (zq.zZ 1 0 6 rfl rfl rfl rfl (.inr rfl) rfl (by simp) (shut_map (enc:=zL) (fun _=>rfl) w.counts) (qm rfl)),rfl,?_⟩
 exact zq.ren [4] [0] _ _ rfl rfl rfl (zb rfl (zb rfl (zb rfl (zb (zi fun r hr c hc=>((shut_map (enc:=zw) (fun _=>rfl) w.zd) r hr c hc).2) (zb rfl (zi fun r hr c hc=>((shut_map (enc:=zL) (fun _=>rfl) w.counts) r hr c hc).2))))))
theorem zaE (w:Wor) (h:ja w) (cs:List (List Int)) (hcs:w.counts=cs) {t:Nat} {r0:List Int} (hp:ziA cs t r0):zc Tryz.prog 215 [] [Cw w] (.agg [I w.zu,I w.current,I w.lock,lI w.pins,lV w.zd,lL w.ze,.sl 0 [] 1 0 cs.length false,lR w.zt]) [⟨1,0,1,(cs.map zL).set t ([C.sl 1 [] 1 0 r0.length false]),0⟩,⟨2,38,1,r0.map qY,0⟩]:=by
 subst hcs
 have own:∀ i,∀ r ∈ (w.counts.map zL).set t ([C.sl i [] 1 0 r0.length false]),∀ c ∈ r,zy c=true:=fun i=>zx (enc:=zL) (fun _=>rfl) rfl _ _
 refine zfE (fn:=Tryz.f215) Tryz.func215 rfl ?_;conv=>whnf
 refine ⟨_,_,(kO w.pins h.pins).frame rfl _,?_⟩;refine dd ?_
 refine zG [] (zcz w.zd h.zd.1 fun v hv=>xk v (h.zd.2 v hv)) rfl rfl rfl rfl rfl rfl ?_;refine dd ?_
 refine ⟨_,_,(zaD w.ze h.ze).frame rfl _,?_⟩;refine dd ?_
 refine ⟨_,_,zl7 hp _ (zb rfl (zb rfl (zb rfl rfl))),?_⟩
 refine dd ?_
 refine ⟨_,_,(kP w.zt h.zt).frame rfl _,?_⟩;refine dd ?_
 refine ⟨.inl rfl,_,_,zq.zZ 1 0 4 rfl rfl rfl rfl (.inr rfl) rfl (by simp) (shut_map (enc:=zw) (fun _=>rfl) w.zd) (qm rfl),rfl,?_⟩
 refine zgX [4,5] [0] rfl rfl rfl (zb rfl (zb rfl (zb rfl (zb (zi fun r hr c hc=>((shut_map (enc:=zw) (fun _=>rfl) w.zd) r hr c hc).2) (zb (zi (own 5)) rfl))))) rfl ?_
 show zI [4,5] ⟨1,0,1,(w.counts.map zL).set t ([C.sl 5 [] 1 0 r0.length false]),0⟩::_=_
 rw [zE (enc:=zL) (fun _=>rfl)]
 rfl
theorem zl2 (w:Wor) (h:ja w) (H:zk) (hf:qo H=true):zc Tryz.prog 279 H [lCo w.counts,.fn 280 [] [],.agg []] (.sl H.length [] 1 0 w.counts.length false) (H++[⟨2,161,1,w.counts.map zL,0⟩]):=
 vX (zcy w.counts h.counts.1 fun r hr=>y6 r (h.counts.2 r hr)) rfl rfl H hf
theorem xl (w:Wor) (h:ja w) (vs:List Ver) (hvs:w.zd=vs) {v:Nat} {v0:Ver} {g:Nat} {g0:Gr} {e:Nat} {e0:En} (hp:zbO vs v v0 g g0 e e0):zc Tryz.prog 215 [] [Cw w] (.agg [I w.zu,I w.current,I w.lock,lI w.pins,.sl 0 [] 5 0 vs.length false,lL w.ze,lCo w.counts,lR w.zt]) [⟨1,0,5,(vs.map zw).set v ((zJ v0.snap++[C.sl 1 [] 2 0 v0.zf.length false,Bo v0.zC])),0⟩,⟨1,0,2,(v0.zf.map zp).set g ([U g0.zl,C.sl 2 [] 3 0 g0.ends.length false]),0⟩,⟨1,0,3,(g0.ends.map zn).set e ([U e0.head,C.sl 3 [] 1 0 e0.next.length false,I e0.zj]),0⟩,⟨2,3,1,e0.next.map encI,0⟩]:=by
 subst hvs
 have own:∀ i,∀ r ∈ (w.zd.map zw).set v ((zJ v0.snap++[C.sl i [] 2 0 v0.zf.length false,Bo v0.zC])),∀ c ∈ r,zy c=true:=fun i=>zx (enc:=zw) (fun _=>rfl) rfl _ _
 refine zfE (fn:=Tryz.f215) Tryz.func215 rfl ?_;conv=>whnf
 refine ⟨_,_,(kO w.pins h.pins).frame rfl _,?_⟩;refine dd ?_
 refine ⟨_,_,zl8 hp _ rfl,?_⟩
 refine dd ?_
 refine ⟨_,_,(zaD w.ze h.ze).frame rfl _,?_⟩;refine dd ?_
 refine ⟨_,_,zl2 w h _ (zb rfl (zb rfl (zb rfl (zb (zi (own 4)) (zb (zi (zx (enc:=zp) (fun _=>rfl) rfl _ _)) (zb (zi (zx (enc:=zn) (fun _=>rfl) rfl _ _)) rfl)))))),?_⟩
 refine dd ?_
 refine ⟨_,_,(kP w.zt h.zt).frame rfl _,?_⟩;refine dd ?_
 refine ⟨.inl rfl,_,_,zq.zZ 1 0 6 rfl rfl rfl rfl (.inr rfl) rfl (by simp) (shut_map (enc:=zL) (fun _=>rfl) w.counts) (qm rfl),rfl,?_⟩
 refine zgX [3,4,5,6] [0] rfl rfl rfl (zb rfl (zb rfl (zb rfl (zb (zi (own 4)) (zb (zi (zx (enc:=zp) (fun _=>rfl) rfl _ _)) (zb (zi (zx (enc:=zn) (fun _=>rfl) rfl _ _)) (zb rfl (zi fun r hr c hc=>((shut_map (enc:=zL) (fun _=>rfl) w.counts) r hr c hc).2)))))))) rfl ?_
 show zI [3,4,5,6] ⟨1,0,5,(w.zd.map zw).set v ((zJ v0.snap++[C.sl 4 [] 2 0 v0.zf.length false,Bo v0.zC])),0⟩::zI [3,4,5,6] ⟨1,0,2,(v0.zf.map zp).set g ([U g0.zl,C.sl 5 [] 3 0 g0.ends.length false]),0⟩::zI [3,4,5,6] ⟨1,0,3,(g0.ends.map zn).set e ([U e0.head,C.sl 6 [] 1 0 e0.next.length false,I e0.zj]),0⟩::_=_
 rw [zE (enc:=zw) (fun _=>rfl),zE (enc:=zp) (fun _=>rfl),zE (enc:=zn) (fun _=>rfl)]
 rfl
end Go.Wor
namespace Go.Wor
open Go.Ab Go.Proofs Go.Hy Go.Gat Go.Nam Go.Hos Go.Con Go.Sna
def inV (i n:Int):Bool:=decide (0<=i) && decide (i < n)
theorem yW (i n:Int):zc Tryz.prog 49 [] [I i,I n] (Bo (inV i n)) []:=by
 refine zc.zr (fn:=Tryz.f49) Tryz.func49 rfl ?_
 conv=>whnf
 refine ⟨fun h1=>?_,fun h1=>?_⟩
 ·refine dd ?_
  refine ⟨fun h2=>?_,fun h2=>?_⟩
  ·refine dd ?_
   (exact ⟨.inl rfl,_,.refl _,congrArg (fun b=>some (C.v (Value.bool b))) (by unfold inV;simp at h1 h2 ⊢;omega)⟩)
  ·refine dd ?_
   (exact ⟨.inl rfl,_,.refl _,congrArg (fun b=>some (C.v (Value.bool b))) (by unfold inV;simp at h1 h2 ⊢;omega)⟩)
 ·refine dd ?_
  (exact ⟨.inl rfl,_,.refl _,congrArg (fun b=>some (C.v (Value.bool b))) (by unfold inV;simp at h1 ⊢;omega)⟩)
theorem zhO {H:zk} {f:FuncId} {caps:List C} {l:List Int} (p:Int->Bool) (hcb:qj Tryz.prog f=true) (hp:∀ r ∈ l,zc Tryz.prog f H ([I r]++caps) (Bo (p r)) H) (hl:l.length < 4611686018427387904):
  zc Tryz.prog 56 H [lI l,.fn f [] caps] (I (match l.findIdx? p with | some i=>(i:Int) | none=> -1)) H:=by
 refine zc.zW (fn:=Tryz.f56) Tryz.func56 rfl ?_
 conv=>whnf
 refine qb.inv (fun n t1 H1=>∃ k,k+n=l.length∧H1=H∧(∀ j,j < k->∀ r,l[j]?= some r->p r=false)∧
   t1=[lI l,.fn f [] caps,.za,.za,I 0,.za,.za,I (l.map encI).length,I k,.za,.za,.za,.za,.za,.za,.za,.za,.za,.za]) l.length ?_ ?_
 ·exact ⟨_,_,zq.mask [0,1,4,7,8] _ _,0,by simp,rfl,by simp,rfl⟩
 rintro n _ _ ⟨k,hk,rfl,hno,rfl⟩
 conv=>whnf
 refine ⟨fun h=>?_,fun h=>?_⟩
 ·conv=>whnf
  have hlt:k < l.length:=by simpa using h
  refine ⟨by omega,encI l[k],by simp [hlt],?_⟩
  conv=>whnf
  rw [hcb]
  refine ⟨_,_,hp _ (List.getElem_mem hlt),?_⟩
  conv=>whnf
  refine ⟨fun h2=>?_,fun h2=>?_⟩
  ·conv=>whnf
   refine .inr ⟨by simp,?_⟩
   conv=>whnf
   refine ⟨.inl rfl,_,.refl _,rfl,?_⟩
   have:l.findIdx? p=some k:=by
    rw [List.findIdx?_eq_some_iff_getElem]
    refine ⟨hlt,h2,fun j hj=>?_⟩
    simp [hno j hj _ (List.getElem?_eq_getElem (by omega))]
   rw [this]
   rfl
  ·conv=>whnf
   refine .inl ⟨rfl,n - 1,_,_,by omega,zq.mask [0,1,4,7,8] _ _,k+1,by omega,rfl,?_,?_⟩
   ·intro j hj r hr
    by_cases hjk:j=k
    ·subst hjk
     rw [List.getElem?_eq_getElem hlt] at hr
     cases hr
     exact h2
    ·exact hno j (by omega) r hr
   ·rw [zD (by omega)];rfl
 ·conv=>whnf
  refine .inr ⟨by simp,?_⟩
  conv=>whnf
  refine ⟨.inl rfl,_,.refl _,rfl,?_⟩
  have:l.findIdx? p=none:=by
   rw [List.findIdx?_eq_none_iff]
   intro x hx
   obtain ⟨j,hj⟩:=List.mem_iff_getElem?.1 hx
   have hjl:=(List.getElem?_eq_some_iff.1 hj).1
   have:¬k < l.length:=by simpa using h
   exact hno j (by omega) x hj
  rw [this]
  rfl
theorem zhn {H:zk} {f:FuncId} {caps:List C} {l:List Int} (p:Int->Bool) (hcb:qj Tryz.prog f=true) (hp:∀ r ∈ l,zc Tryz.prog f H ([I r]++caps) (Bo (p r)) H) (hl:l.length < 4611686018427387904):
  zc Tryz.prog 97 H [lI l,.fn f [] caps] (Bo (l.any p)) H:=by
 refine zc.zW (fn:=Tryz.f97) Tryz.func97 rfl ?_
 conv=>whnf
 refine ⟨_,_,zhO p hcb hp hl,?_⟩
 refine dd ?_
 rw [show decide ((match l.findIdx? p with | some i=>((i:Nat):Int) | none=>(-1:Int))≥(0:Int))=l.any p from zcC l p]
 refine ⟨fun h=>?_,fun h=>?_⟩ <;> rw [h]
 ·refine dd ?_
  exact ⟨.inl rfl,_,.refl _,rfl,rfl⟩
 ·refine dd ?_
  exact ⟨.inl rfl,_,.refl _,rfl,rfl⟩
theorem zhN {H:zk} {f:FuncId} {caps:List C} {l:List En} (p:En->Bool) (hcb:qj Tryz.prog f=true) (hp:∀ r ∈ l,zc Tryz.prog f H ([Go.Slp.Ev r]++caps) (Bo (p r)) H) (hl:l.length < 4611686018427387904):
  zc Tryz.prog 162 H [lE l,.fn f [] caps] (I (match l.findIdx? p with | some i=>(i:Int) | none=> -1)) H:=by
 refine zc.zW (fn:=Tryz.f162) Tryz.func162 rfl ?_
 conv=>whnf
 refine qb.inv (fun n t1 H1=>∃ k,k+n=l.length∧H1=H∧(∀ j,j < k->∀ r,l[j]?= some r->p r=false)∧
   t1=[lE l,.fn f [] caps,.za,.za,I 0,.za,.za,I (l.map zn).length,I k,.za,.za,.za,.za,.za,.za,.za,.za,.za,.za]) l.length ?_ ?_
 ·exact ⟨_,_,zq.mask [0,1,4,7,8] _ _,0,by simp,rfl,by simp,rfl⟩
 rintro n _ _ ⟨k,hk,rfl,hno,rfl⟩
 conv=>whnf
 refine ⟨fun h=>?_,fun h=>?_⟩
 ·conv=>whnf
  have hlt:k < l.length:=by simpa using h
  refine ⟨by omega,zn l[k],by simp [hlt],?_⟩
  conv=>whnf
  rw [hcb]
  refine ⟨_,_,hp _ (List.getElem_mem hlt),?_⟩
  conv=>whnf
  refine ⟨fun h2=>?_,fun h2=>?_⟩
  ·conv=>whnf
   refine .inr ⟨by simp,?_⟩
   conv=>whnf
   refine ⟨.inl rfl,_,.refl _,rfl,?_⟩
   have:l.findIdx? p=some k:=by
    rw [List.findIdx?_eq_some_iff_getElem]
    refine ⟨hlt,h2,fun j hj=>?_⟩
    simp [hno j hj _ (List.getElem?_eq_getElem (by omega))]
   rw [this]
   rfl
  ·conv=>whnf
   refine .inl ⟨rfl,n - 1,_,_,by omega,zq.mask [0,1,4,7,8] _ _,k+1,by omega,rfl,?_,?_⟩
   ·intro j hj r hr
    by_cases hjk:j=k
    ·subst hjk
     rw [List.getElem?_eq_getElem hlt] at hr
     cases hr
     exact h2
    ·exact hno j (by omega) r hr
   ·rw [zD (by omega)];rfl
 ·conv=>whnf
  refine .inr ⟨by simp,?_⟩
  conv=>whnf
  refine ⟨.inl rfl,_,.refl _,rfl,?_⟩
  have:l.findIdx? p=none:=by
   rw [List.findIdx?_eq_none_iff]
   intro x hx
   obtain ⟨j,hj⟩:=List.mem_iff_getElem?.1 hx
   have hjl:=(List.getElem?_eq_some_iff.1 hj).1
   have:¬k < l.length:=by simpa using h
   exact hno j (by omega) x hj
  rw [this]
  rfl
theorem zhm {H:zk} {f:FuncId} {caps:List C} {l:List En} (p:En->Bool) (hcb:qj Tryz.prog f=true) (hp:∀ r ∈ l,zc Tryz.prog f H ([Go.Slp.Ev r]++caps) (Bo (p r)) H) (hl:l.length < 4611686018427387904):
  zc Tryz.prog 108 H [lE l,.fn f [] caps] (Bo (l.any p)) H:=by
 refine zc.zW (fn:=Tryz.f108) Tryz.func108 rfl ?_
 conv=>whnf
 refine ⟨_,_,zhN p hcb hp hl,?_⟩
 refine dd ?_
 rw [show decide ((match l.findIdx? p with | some i=>((i:Nat):Int) | none=>(-1:Int))≥(0:Int))=l.any p from zcC l p]
 refine ⟨fun h=>?_,fun h=>?_⟩ <;> rw [h]
 ·refine dd ?_
  exact ⟨.inl rfl,_,.refl _,rfl,rfl⟩
 ·refine dd ?_
  exact ⟨.inl rfl,_,.refl _,rfl,rfl⟩
def vv (ep p:Int):Bool:=decide (p < 0) || decide (p > ep+1)
theorem zef (w:Wor) (p:Int) (h0:0<=w.zu) (h1:w.zu<=1000000000000):zc Tryz.prog 104 [⟨1,28,8,[z5 w],0⟩] ([I p]++[.ref 0 [] 8 0 0]) (Bo (vv w.zu p)) [⟨1,28,8,[z5 w],0⟩]:=by
 have e:IntKind.i64.wrap (w.zu+1)=w.zu+1:=jz (by omega) (by omega)
 refine zc.zW (fn:=Tryz.f104) Tryz.func104 rfl ?_
 conv=>whnf
 refine ⟨fun h2=>?_,fun h2=>?_⟩
 ·refine dd ?_
  exact ⟨.inl rfl,_,.refl _,rfl,congrArg (fun b=>some (C.v (Value.bool b))) (by unfold vv;rw [h2];rfl)⟩
 ·refine dd ?_
  rw [e]
  refine ⟨fun h3=>?_,fun h3=>?_⟩
  ·refine dd ?_
   exact ⟨.inl rfl,_,.refl _,rfl,congrArg (fun b=>some (C.v (Value.bool b))) (by unfold vv;rw [h2,h3];rfl)⟩
  ·refine dd ?_
   exact ⟨.inl rfl,_,.refl _,rfl,congrArg (fun b=>some (C.v (Value.bool b))) (by unfold vv;rw [h2,h3];rfl)⟩
def q9 (w:Wor):Bool:=decide (1<=w.pins.length) && decide (w.pins.length<=8) && decide (w.counts.length=w.pins.length) && km w.counts && decide (0<=w.zu) && decide (w.zu<=1000000000000) && (decide (w.lock=0) || decide (w.lock=1)) && !w.pins.any (vv w.zu)
theorem zfq (w:Wor) (hp:w.pins.length < 4000000000000000000) (hc:w.counts.length < 4000000000000000000):zc Tryz.prog 59 [] [Cw w] (Bo (q9 w)) []:=by
 have m1:(w.pins.map encI).length=w.pins.length:=List.length_map ..
 have m2:(w.counts.map zL).length=w.counts.length:=List.length_map ..
 refine zc.zr (fn:=Tryz.f59) Tryz.func59 rfl ?_
 conv=>whnf
 rw [m1]
 refine ⟨fun h1=>?_,fun h1=>?_⟩
 ·(have e:q9 w=false:=by (unfold q9;(rw [show decide (1<=w.pins.length)=false from by rw [decide_eq_false_iff_not];have:=of_decide_eq_true h1;omega]);simp));rw [e];refine dd ?_;(repeat ((first | apply ya | apply yb);refine dd ?_));exact ⟨.inl rfl,_,.refl _,rfl⟩
 refine dd ?_
 refine ⟨fun h2=>?_,fun h2=>?_⟩
 ·(have e:q9 w=false:=by (unfold q9;(rw [show decide (w.pins.length<=8)=false from by simp at h2 ⊢;omega]);simp));rw [e];refine dd ?_;(repeat ((first | apply ya | apply yb);refine dd ?_));exact ⟨.inl rfl,_,.refl _,rfl⟩
 refine dd ?_
 rw [m2]
 refine ⟨fun h3=>?_,fun h3=>?_⟩
 ·(have e:q9 w=false:=by (unfold q9;(rw [show decide (w.counts.length=w.pins.length)=false from by rw [decide_eq_false_iff_not];intro hh;simp [hh] at h3]);simp));rw [e];refine dd ?_;(repeat ((first | apply ya | apply yb);refine dd ?_));exact ⟨.inl rfl,_,.refl _,rfl⟩
 refine dd ?_
 refine ⟨_,_,(zej w.counts hc).frame rfl _,?_⟩;refine dd ?_
 refine ⟨fun h4=>?_,fun h4=>?_⟩
 rotate_left
 ·(have e:q9 w=false:=by (unfold q9;(rw [h4]);simp));rw [e];refine dd ?_;(repeat ((first | apply ya | apply yb);refine dd ?_));exact ⟨.inl rfl,_,.refl _,rfl⟩
 refine dd ?_
 refine ⟨fun h5=>?_,fun h5=>?_⟩
 ·(have e:q9 w=false:=by (unfold q9;(rw [show decide (0<=w.zu)=false from by simp at h5 ⊢;omega]);simp));rw [e];refine dd ?_;(repeat ((first | apply ya | apply yb);refine dd ?_));exact ⟨.inl rfl,_,.refl _,rfl⟩
 refine dd ?_
 refine ⟨fun h6=>?_,fun h6=>?_⟩
 ·(have e:q9 w=false:=by (unfold q9;(rw [show decide (w.zu<=1000000000000)=false from by simp at h6 ⊢;omega]);simp));rw [e];refine dd ?_;(repeat ((first | apply ya | apply yb);refine dd ?_));exact ⟨.inl rfl,_,.refl _,rfl⟩
 refine dd ?_
 have b0:0<=w.zu:=by simp at h5;omega
 have b1:w.zu<=1000000000000:=by simp at h6;omega
 have hcon:=zhn (H:=[⟨1,28,8,[z5 w],0⟩]) (f:=104) (l:=w.pins) (caps:=[.ref 0 [] 8 0 0]) (vv w.zu) (by kernel_rfl) (fun r _=>zef w r b0 b1) (by omega)
 have g0:q9 w=((decide (w.lock=0) || decide (w.lock=1)) && !w.pins.any (vv w.zu)):=by
  have h3':w.counts.length=w.pins.length:=by simp at h3;omega
  unfold q9
  rw [show decide (1<=w.pins.length)=true from by rw [decide_eq_true_iff];have:=of_decide_eq_false h1;omega,show decide (w.pins.length<=8)=true from by simp at h2 ⊢;omega,show decide (w.counts.length=w.pins.length)=true from by simpa using h3',h4,show decide (0<=w.zu)=true from by simpa using b0,show decide (w.zu<=1000000000000)=true from by simpa using b1]
  rfl
 have fin:∀ hl:(decide (w.lock=0) || decide (w.lock=1))=true,q9 w=!w.pins.any (vv w.zu):=fun hl=>by rw [g0,hl];rfl
 refine ⟨fun h7=>?_,fun h7=>?_⟩
 ·refine dd ?_
  refine ⟨fun h8=>?_,fun h8=>?_⟩
  ·have e:q9 w=false:=by rw [g0,show (decide (w.lock=0) || decide (w.lock=1))=false from by simp at h7 h8 ⊢;omega];rfl
   rw [e]
   refine dd ?_
   (repeat ((first | apply ya | apply yb);refine dd ?_))
   exact ⟨.inl rfl,_,.refl _,rfl⟩
  rw [fin (by simp at h8 ⊢;omega)]
  refine dd ?_
  (repeat ((first | apply ya | apply yb);refine dd ?_))
  refine zG [0] (hcon) rfl rfl rfl rfl rfl rfl ?_;refine dd ?_
  refine ⟨fun h9=>?_,fun h9=>?_⟩
  ·refine dd ?_
   (exact ⟨.inl rfl,_,.refl _,congrArg (fun b=>some (C.v (Value.bool b))) (by rw [h9];rfl)⟩)
  ·refine dd ?_
   (exact ⟨.inl rfl,_,.refl _,congrArg (fun b=>some (C.v (Value.bool b))) (by rw [h9];rfl)⟩)
 ·rw [fin (by simp at h7 ⊢;omega)]
  refine dd ?_
  (repeat ((first | apply ya | apply yb);refine dd ?_))
  refine zG [0] (hcon) rfl rfl rfl rfl rfl rfl ?_;refine dd ?_
  refine ⟨fun h9=>?_,fun h9=>?_⟩
  ·refine dd ?_
   (exact ⟨.inl rfl,_,.refl _,congrArg (fun b=>some (C.v (Value.bool b))) (by rw [h9];rfl)⟩)
  ·refine dd ?_
   (exact ⟨.inl rfl,_,.refl _,congrArg (fun b=>some (C.v (Value.bool b))) (by rw [h9];rfl)⟩)
def v8 (x:Clu) (e:En):Bool:=!Go.Slp.isV e || (e.next.length:Int) != x.yA
theorem zd3 (x:Clu) (e:En) (he:e.ok):zc Tryz.prog 107 [⟨1,148,4,[jn x],0⟩] ([Go.Slp.Ev e]++[.ref 0 [] 4 0 0]) (Bo (v8 x e)) [⟨1,148,4,[jn x],0⟩]:=by
 have m1:(e.next.map encI).length=e.next.length:=List.length_map ..
 refine zc.zW (fn:=Tryz.f107) Tryz.func107 rfl ?_
 conv=>whnf
 refine ⟨_,_,(Go.Slp.yX e he).frame rfl _,?_⟩;refine dd ?_
 refine ⟨fun h1=>?_,fun h1=>?_⟩
 rotate_left
 ·refine dd ?_
  exact ⟨.inl rfl,_,zq.keep [3] 1 _ _ rfl rfl rfl rfl,rfl,congrArg (fun b=>some (C.v (Value.bool b))) (by unfold v8;rw [h1];rfl)⟩
 ·refine dd ?_
  rw [m1]
  refine ⟨fun h2=>?_,fun h2=>?_⟩
  ·refine dd ?_
   exact ⟨.inl rfl,_,zq.keep [3] 1 _ _ rfl rfl rfl rfl,rfl,congrArg (fun b=>some (C.v (Value.bool b))) (by unfold v8;rw [h1,h2];rfl)⟩
  ·refine dd ?_
   exact ⟨.inl rfl,_,zq.keep [3] 1 _ _ rfl rfl rfl rfl,rfl,congrArg (fun b=>some (C.v (Value.bool b))) (by unfold v8;rw [h1,h2];rfl)⟩
structure OkV (v:Ver):Prop where
 snap:vm v.snap
 zf:v.zf.length < 1000000000000
 ends : ∀ g ∈ v.zf, g.ends.length < 1000000000000 ∧ ∀ e ∈ g.ends, e.ok
def zb1 (v:Ver) (i:Nat):Bool:=match v.zf[i]?,v.snap.zm[i]? with
 | some g,some x=>decide (g.ends.length=x.zM.length) && !g.ends.any (v8 x)
 | _,_=>true
def zbM (v:Ver):Bool:=vR v.snap && decide (v.zf.length=v.snap.zm.length) && (List.range v.zf.length).all (zb1 v)
theorem zem (v:Ver) (hv:OkV v):zc Tryz.prog 61 [] [Cv v] (Bo (zbM v)) []:=by
 have m1:(v.zf.map zp).length=v.zf.length:=List.length_map ..
 have m2:(v.snap.zm.map jn).length=v.snap.zm.length:=List.length_map ..
 have hgl:=hv.zf
 refine zc.zr (fn:=Tryz.f61) Tryz.func61 rfl ?_
 conv=>whnf
 refine ⟨_,_,(za8 v.snap hv.snap).frame rfl _,?_⟩;refine dd ?_
 refine ⟨fun h1=>?_,fun h1=>?_⟩
 rotate_left
 ·have e:zbM v=false:=by unfold zbM;rw [h1];rfl
  rw [e]
  refine dd ?_
  (repeat ((first | apply ya | apply yb);refine dd ?_))
  exact ⟨.inl rfl,_,.refl _,rfl⟩
 refine dd ?_
 rw [m1,m2]
 refine ⟨fun h2=>?_,fun h2=>?_⟩
 ·have e:zbM v=false:=by unfold zbM;rw [show decide (v.zf.length=v.snap.zm.length)=false from by rw [decide_eq_false_iff_not];intro hh;simp [hh] at h2,Bool.and_false];rfl
  rw [e]
  refine dd ?_
  (repeat ((first | apply ya | apply yb);refine dd ?_))
  exact ⟨.inl rfl,_,.refl _,rfl⟩
 have h2':v.zf.length=v.snap.zm.length:=by simp at h2;omega
 refine dd ?_
 (repeat ((first | apply ya | apply yb);refine dd ?_))
 rw [m1]
 refine qb.seq v.zf.length (fun k=>[.za,.ref 0 [] 5 0 0,Bo false,.za,.za,.za,.za,.za,.za,.za,.za,.za,.za,.za,.za,.za,.za,.za,.za,.za,.za,.za,lG v.zf,I v.zf.length,I k,.za,.za,.za,.za,.za,.za,.za,.za,.za,.za,.za,.za,.za,.za,.za,.za,.za,.za,.za,.za,.za,.za,.za,.za,.za]) (fun k=>[⟨1,72,5,[zw v],0⟩]) (fun k=>∀ j,j < k->zb1 v j=true) ?_ (by simp) (fun k hk hr=>?_) (fun hr=>?_)
 ·exact cC
 ·obtain ⟨g,hg⟩:∃ g,g=v.zf[k]:=⟨_,rfl⟩
  obtain ⟨x,hx⟩:∃ x,x=v.snap.zm[k]'(by omega):=⟨_,rfl⟩
  have gg:(v.zf.map zp)[k]?= some (zp g):=by rw [List.getElem?_map,List.getElem?_eq_getElem hk,hg];rfl
  have gx:(v.snap.zm.map jn)[k]?= some (jn x):=by rw [List.getElem?_map,List.getElem?_eq_getElem (by omega),hx];rfl
  have hgm:g ∈ v.zf:=by rw [hg];exact List.getElem_mem hk
  have me:(g.ends.map zn).length=g.ends.length:=List.length_map ..
  have mh:(x.zM.map yu).length=x.zM.length:=List.length_map ..
  have hd:zb1 v k=(decide (g.ends.length=x.zM.length) && !g.ends.any (v8 x)):=by
   unfold zb1
   rw [List.getElem?_eq_getElem hk,List.getElem?_eq_getElem (by omega),<- hg,<- hx]
  have bad:zb1 v k=false->zbM v=false:=fun h=>by
   have:(List.range v.zf.length).all (zb1 v)=false:=by rw [List.all_eq_false];exact ⟨k,by simpa using hk,by simp [h]⟩
   unfold zbM
   rw [this,Bool.and_false]
  have hcon:=zhm (H:=[⟨1,148,4,[jn x],0⟩]) (f:=107) (l:=g.ends) (caps:=[.ref 0 [] 4 0 0]) (v8 x) (by kernel_rfl) (fun r hr=>zd3 x r ((hv.ends g hgm).2 r hr)) (by have:=(hv.ends g hgm).1;omega)
  conv=>whnf
  (refine ⟨fun _=>?_,fun h=>absurd h (by simp;omega)⟩);refine dd ?_
  (refine ⟨by omega,_,by rw [toNat_cast];exact gg,?_⟩);refine dd ?_
  (refine ⟨by omega,_,by rw [toNat_cast];exact gx,?_⟩);refine dd ?_
  rw [me,mh]
  refine ⟨fun h3=>?_,fun h3=>?_⟩
  ·rw [bad (by rw [hd,show decide (g.ends.length=x.zM.length)=false from by rw [decide_eq_false_iff_not];intro hh;simp [hh] at h3];rfl)]
   refine dd ?_
   (repeat ((first | apply ya | apply yb);refine dd ?_))
   (refine .inr ⟨by simp,?_⟩);(conv=>whnf)
   exact ⟨.inl rfl,_,.refl _,rfl⟩
  refine dd ?_
  refine zG [2] (hcon) rfl rfl rfl rfl rfl rfl ?_;refine dd ?_
  refine ⟨fun h4=>?_,fun h4=>?_⟩
  ·rw [bad (by rw [hd,h4,Bool.not_true,Bool.and_false])]
   refine dd ?_
   (repeat ((first | apply ya | apply yb);refine dd ?_))
   (refine .inr ⟨by simp,?_⟩);(conv=>whnf)
   exact ⟨.inl rfl,_,.refl _,rfl⟩
  refine dd ?_
  (repeat ((first | apply ya | apply yb);refine dd ?_))
  refine .inl ⟨rfl,?_,fun j hj=>?_⟩
  ·rw [zD (by omega)]
   exact cE 1
  ·by_cases e:j=k
   ·subst e
    rw [hd,h4]
    simp at h3 ⊢
    omega
   ·exact hr j (by omega)
 ·have e:zbM v=true:=by
   unfold zbM
   rw [h1,show decide (v.zf.length=v.snap.zm.length)=true from by simpa using h2',Bool.true_and,Bool.true_and,List.all_eq_true]
   exact fun i hi=>hr i (by simpa using hi)
  rw [e]
  (conv=>whnf);(refine ⟨fun h=>absurd h (by simp),fun _=>?_⟩);refine dd ?_;(refine ⟨by simp,?_⟩);(conv=>whnf)
  exact ⟨.inl rfl,_,.refl _,rfl⟩
end Go.Wor
namespace Go.Wor
open Go.Ab Go.Proofs Go.Hy Go.Gat Go.Nam Go.Hos Go.Con Go.Sna
def xu (l:List Ret):List (Int × Value):=l.foldl (fun m r=>kG m r.version (Value.bool r.gone)) []
def vl (l:List Ret) (i:Int):Bool:=match ((jq (xu l) i).bind fun j=>((xu l)[j]?).map (·.2):Option Value) with
 | some (.bool b)=>b
 | _=>false
theorem zj9 {m:List (Int × Value)} (h:∀ kv ∈ m,∃ b,kv.2=Value.bool b) (k:Int) (b:Bool):∀ kv ∈ kG m k (Value.bool b),∃ b,kv.2=Value.bool b:=fun kv hm=>by
 unfold kG at hm
 split at hm
 ·rcases List.mem_or_eq_of_mem_set hm with hm | rfl
  ·exact h kv hm
  ·exact ⟨b,rfl⟩
 ·rcases List.mem_append.1 hm with hm | hm
  ·exact h kv hm
  ·rw [List.mem_singleton.1 hm];exact ⟨b,rfl⟩
theorem zhG (l:List Ret):∀ kv ∈ xu l,∃ b,kv.2=Value.bool b:=by
 unfold xu
 suffices key:∀ (l:List Ret) (m:List (Int × Value)),(∀ kv ∈ m,∃ b,kv.2=Value.bool b)->∀ kv ∈ l.foldl (fun m r=>kG m r.version (Value.bool r.gone)) m,∃ b,kv.2=Value.bool b from key l [] (by simp)
 intro l
 induction l with
 | nil=>intro m h;exact h
 | cons r l ih=>intro m h;exact ih _ (zj9 h _ _)
theorem zk2 (l:List Ret) (i:Int):(((jq (xu l) i).bind fun j=>((xu l)[j]?).map (·.2)).getD (Value.bool false))=Value.bool (vl l i):=by
 unfold vl
 cases h:(jq (xu l) i).bind fun j=>((xu l)[j]?).map (·.2) with
 | none=>rfl
 | some v=>
  obtain ⟨j,_,hj⟩:=Option.bind_eq_some_iff.1 h
  obtain ⟨kv,h1,rfl⟩:=Option.map_eq_some_iff.1 hj
  obtain ⟨b,hb⟩:=zhG l kv (List.mem_of_getElem? h1)
  simp only [Option.getD_some]
  rw [hb]
theorem zjz (l:List Ret) {k:Nat} {r:Ret} (h:l[k]?= some r):xu (l.take (k+1))=kG (xu (l.take k)) r.version (Value.bool r.gone):=by
 obtain ⟨hk,rfl⟩:=List.getElem?_eq_some_iff.1 h
 unfold xu
 rw [List.take_succ_eq_append_getElem hk,List.foldl_append]
 rfl
structure OkW (w:Wor):Prop where
 pins:w.pins.length < 1000000000000
 zd:w.zd.length < 1000000000000∧∀ v ∈ w.zd,OkV v
 ze:w.ze.length < 1000000000000∧∀ l ∈ w.ze,l.ok
 counts:w.counts.length < 1000000000000∧∀ r ∈ w.counts,r.length < 1000000000000
 zt:w.zt.length < 1000000000000
def xM (w:Wor) (r:Ret):Bool:=decide (r.version≥(w.zd.length:Int)) || r.version == w.current || decide (r.at_ > w.zu)
def wq (w:Wor) (i:Nat):Bool:=match w.zd[i]? with
 | some v=>zbM v && (v.zC == vl w.zt i)
 | none=>true
def kp (w:Wor) (i:Nat):Bool:=match w.ze[i]? with
 | some l=>Go.Gat.isV l && decide (jd w.ze l.name=i)
 | none=>true
def jN (w:Wor):Bool:=q9 w && (decide (0<=w.current) && decide (w.current < w.zd.length)) && Go.Lim.isV w.zt && !w.zt.any (xM w) && (List.range w.zd.length).all (wq w) && (List.range w.ze.length).all (kp w)
theorem wY (w:Wor) (hw:OkW w):zc Tryz.prog 23 [] [Cw w] (Bo (jN w)) []:=by
 have m1:(w.zd.map zw).length=w.zd.length:=List.length_map ..
 have m2:(w.zt.map vo).length=w.zt.length:=List.length_map ..
 have m3:(w.ze.map jc).length=w.ze.length:=List.length_map ..
 have b1:=hw.pins
 have b2:=hw.zd.1
 have b3:=hw.ze.1
 have b4:=hw.counts.1
 have b5:=hw.zt
 refine zc.zr (fn:=Tryz.f23) Tryz.func23 rfl ?_
 conv=>whnf
 refine ⟨_,_,(zfq w (by omega) (by omega)).frame rfl _,?_⟩;refine dd ?_
 refine ⟨fun h1=>?_,fun h1=>?_⟩
 rotate_left
 ·(have e:jN w=false:=by (unfold jN;(rw [h1]);simp));rw [e];refine dd ?_;(repeat ((first | apply ya | apply yb);refine dd ?_));exact ⟨.inl rfl,_,.refl _,rfl⟩
 refine dd ?_
 refine ⟨fun h2=>?_,fun h2=>?_⟩
 ·(have e:jN w=false:=by (unfold jN;(rw [show decide (0<=w.current)=false from by simp at h2 ⊢;omega]);simp));rw [e];refine dd ?_;(repeat ((first | apply ya | apply yb);refine dd ?_));exact ⟨.inl rfl,_,.refl _,rfl⟩
 refine dd ?_
 rw [m1]
 refine ⟨fun h3=>?_,fun h3=>?_⟩
 ·(have e:jN w=false:=by (unfold jN;(rw [show decide (w.current < w.zd.length)=false from by simp at h3 ⊢;omega]);simp));rw [e];refine dd ?_;(repeat ((first | apply ya | apply yb);refine dd ?_));exact ⟨.inl rfl,_,.refl _,rfl⟩
 refine dd ?_
 refine ⟨_,_,(Go.Lim.yX (l:=w.zt) (by omega)).frame rfl _,?_⟩;refine dd ?_
 refine ⟨fun h4=>?_,fun h4=>?_⟩
 rotate_left
 ·(have e:jN w=false:=by (unfold jN;(rw [h4]);simp));rw [e];refine dd ?_;(repeat ((first | apply ya | apply yb);refine dd ?_));exact ⟨.inl rfl,_,.refl _,rfl⟩
 refine dd ?_
 (repeat ((first | apply ya | apply yb);refine dd ?_))
 intro b
 refine dd ?_
 rw [m2]
 have g0:jN w=(!w.zt.any (xM w) && (List.range w.zd.length).all (wq w) && (List.range w.ze.length).all (kp w)):=by
  unfold jN
  rw [h1,show decide (0<=w.current)=true from by simp at h2 ⊢;omega,show decide (w.current < w.zd.length)=true from by simp at h3 ⊢;omega,h4]
  rfl
 refine qb.seq w.zt.length (fun k=>(.za::.ref 0 [] 8 0 0::Bo false:: .v (.map (some b)):: .za::.za::.za::.za::.za::.za::.za::.za::.za::.za::.za::.za::.za::.za::.za::.za::.za::.za::.za::.za::.za::.za::.za::.za::.za::.za::.za::.za::.za::.za::lR w.zt::I w.zt.length::I k:: .za::.za::.za::.za::.za::.za::.za::.za::.za::.za::.za::.za::.za::.za::.za::.za::.za::.za::.za::.za::.za::.za::.za::.za::.za::.za::.za::.za::.za::.za::.za::.za::.za::.za::.za::.za::.za::.za::.za::.za::.za::.za::.za::.za::.za::.za::.za::.za::.za::.za::.za::.za::.za::.za::.za::.za::.za::.za::.za::.za::.za::.za::.za::.za::.za::.za::.za::.za::.za::.za::[])) (fun k=>[⟨1,28,8,[z5 w],0⟩,obM b (xp xo (xu (w.zt.take k))) (xu (w.zt.take k)).length]) (fun k=>∀ j,(h:j < w.zt.length)->j < k->xM w w.zt[j]=false) ?_ (by simp) (fun k hk hr=>?_) (fun hr=>?_)
 ·exact cC
 ·obtain ⟨r,hx⟩:∃ r,r=w.zt[k]:=⟨_,rfl⟩
  have hx2:w.zt[k]?= some r:=by rw [List.getElem?_eq_getElem hk,hx]
  have hg:(w.zt.map vo)[k]?= some (vo r):=by rw [List.getElem?_map,hx2];rfl
  have bad:xM w r=true->jN w=false:=fun h=>by
   have:w.zt.any (xM w)=true:=List.any_eq_true.2 ⟨r,List.mem_of_getElem? hx2,h⟩
   rw [g0,this];rfl
  conv=>whnf
  (refine ⟨fun _=>?_,fun h=>absurd h (by simp;omega)⟩);refine dd ?_
  (refine ⟨by omega,_,by rw [toNat_cast];exact hg,?_⟩);refine dd ?_
  rw [m1]
  refine ⟨fun h5=>?_,fun h5=>?_⟩
  ·(rw [bad (by unfold xM;rw [h5];rfl)]);refine dd ?_;(repeat ((first | apply ya | apply yb);refine dd ?_));(refine .inr ⟨by simp,?_⟩);(conv=>whnf);exact ⟨.inl rfl,_,.refl _,rfl⟩
  refine dd ?_
  refine ⟨fun h6=>?_,fun h6=>?_⟩
  ·(rw [bad (by unfold xM;rw [h6,Bool.or_true];rfl)]);refine dd ?_;(repeat ((first | apply ya | apply yb);refine dd ?_));(refine .inr ⟨by simp,?_⟩);(conv=>whnf);exact ⟨.inl rfl,_,.refl _,rfl⟩
  refine dd ?_
  refine ⟨fun h7=>?_,fun h7=>?_⟩
  ·(rw [bad (by unfold xM;rw [h7,Bool.or_true])]);refine dd ?_;(repeat ((first | apply ya | apply yb);refine dd ?_));(refine .inr ⟨by simp,?_⟩);(conv=>whnf);exact ⟨.inl rfl,_,.refl _,rfl⟩
  refine dd ?_
  (repeat ((first | apply ya | apply yb);refine dd ?_))
  refine ⟨fun q=>?_,fun q=>?_⟩
  all_goals
   refine dd ?_
   refine ⟨_,_,OpV.mapUpdate (id:=1) _ _ _ _ (.inl rfl) Tryz.underlying111 (ze7.int Tryz.underlying3) rfl rfl r.version (fun E u h=>va h) (.bool r.gone) (fun E u h=>by rw [q];exact va h),?_⟩
   refine dd ?_
   refine .inl ⟨rfl,?_,fun j hj hjk=>?_⟩
   ·rw [zD (by omega),<- zjz w.zt hx2]
    exact cE 2
   ·by_cases e:j=k
    ·subst e;rw [<- hx];unfold xM;rw [h5,h6,h7];rfl
    ·exact hr j hj (by omega)
 have hl0:w.zt.any (xM w)=false:=by
  rw [List.any_eq_false]
  intro x hx
  obtain ⟨j,hj,rfl⟩:=List.mem_iff_getElem.1 hx
  simp [hr j hj hj]
 rw [List.take_length]
 (conv=>whnf);(refine ⟨fun h=>absurd h (by simp),fun _=>?_⟩);refine dd ?_;(refine ⟨by simp,?_⟩);(conv=>whnf)
 rw [m1]
 have g1:jN w=((List.range w.zd.length).all (wq w) && (List.range w.ze.length).all (kp w)):=by rw [g0,hl0];rfl
 refine qb.seq w.zd.length (fun k=>(.za::.ref 0 [] 8 0 0::Bo false:: .v (.map (some b)):: .za::.za::.za::.za::.za::.za::.za::.za::.za::.za::.za::.za::.za::.za::.za::.za::.za::.za::.za::.za::.za::.za::.za::.za::.za::.za::.za::.za::.za::.za::.za::.za::.za::.za::.za::.za::.za::.za::.za::.za::.za::.za::.za::.za::.za::.za::.za::.za::.za::.za::.za::.za::.za::.za::.za::.za::.za::.za::.za::.za::.za::.za::.za::lV w.zd::I w.zd.length::I k:: .za::.za::.za::.za::.za::.za::.za::.za::.za::.za::.za::.za::.za::.za::.za::.za::.za::.za::.za::.za::.za::.za::.za::.za::.za::.za::.za::.za::.za::.za::.za::.za::.za::.za::.za::.za::.za::[])) (fun k=>[⟨1,28,8,[z5 w],0⟩,obM b (xp xo (xu (w.zt))) (xu (w.zt)).length]) (fun k=>∀ j,j < k->wq w j=true) ?_ (by simp) (fun k hk hr=>?_) (fun hr=>?_)
 ·exact cC
 ·obtain ⟨v,hx⟩:∃ v,v=w.zd[k]:=⟨_,rfl⟩
  have hx2:w.zd[k]?= some v:=by rw [List.getElem?_eq_getElem hk,hx]
  have hg:(w.zd.map zw)[k]?= some (zw v):=by rw [List.getElem?_map,hx2];rfl
  have hd:wq w k=(zbM v && (v.zC == vl w.zt k)):=by unfold wq;rw [hx2]
  have bad:wq w k=false->jN w=false:=fun h=>by
   have:(List.range w.zd.length).all (wq w)=false:=by rw [List.all_eq_false];exact ⟨k,by simpa using hk,by simp [h]⟩
   rw [g1,this];rfl
  conv=>whnf
  (refine ⟨fun _=>?_,fun h=>absurd h (by simp;omega)⟩);refine dd ?_
  (refine ⟨by omega,_,by rw [toNat_cast];exact hg,?_⟩);refine dd ?_
  refine ⟨_,_,(zem v (hw.zd.2 v (List.mem_of_getElem? hx2))).frame rfl _,?_⟩;refine dd ?_
  refine ⟨fun h5=>?_,fun h5=>?_⟩
  rotate_left
  ·(rw [bad (by rw [hd,h5];rfl)]);refine dd ?_;(repeat ((first | apply ya | apply yb);refine dd ?_));(refine .inr ⟨by simp,?_⟩);(conv=>whnf);exact ⟨.inl rfl,_,.refl _,rfl⟩
  refine dd ?_
  refine ⟨fun q=>?_,fun q=>?_⟩
  all_goals
   refine dd ?_
   refine ⟨_,_,OpV.lookup (id:=1) _ _ _ rfl Tryz.underlying111 (ze7.int Tryz.underlying3) rfl rfl (k:Int) (fun E u h=>va h) (c:=Bo (vl w.zt k)) rfl rfl (fun E=>by rw [zk2];exact .v _ rfl),?_⟩
   refine dd ?_
   refine ⟨fun q2=>?_,fun q2=>?_⟩
   ·(rw [bad (by rw [hd,q];simp at q2;simp [q2])]);refine dd ?_;(repeat ((first | apply ya | apply yb);refine dd ?_));(refine .inr ⟨by simp,?_⟩);(conv=>whnf);exact ⟨.inl rfl,_,.refl _,rfl⟩
   refine dd ?_
   (repeat ((first | apply ya | apply yb);refine dd ?_))
   refine .inl ⟨rfl,?_,fun j hj=>?_⟩
   ·rw [zD (by omega)]
    exact cE 2
   ·by_cases e:j=k
    ·subst e;rw [hd,h5,q];simp at q2;simp [q2]
    ·exact hr j (by omega)
 have hv0:(List.range w.zd.length).all (wq w)=true:=by
  rw [List.all_eq_true]
  exact fun i hi=>hr i (by simpa using hi)
 have g2:jN w=(List.range w.ze.length).all (kp w):=by rw [g1,hv0];rfl
 (conv=>whnf);(refine ⟨fun h=>absurd h (by simp),fun _=>?_⟩);refine dd ?_;(refine ⟨by simp,?_⟩);(conv=>whnf)
 rw [m3]
 refine qb.seq w.ze.length (fun k=>(.za::.ref 0 [] 8 0 0::Bo false:: .v (.map (some b)):: .za::.za::.za::.za::.za::.za::.za::.za::.za::.za::.za::.za::.za::.za::.za::.za::.za::.za::.za::.za::.za::.za::.za::.za::.za::.za::.za::.za::.za::.za::.za::.za::.za::.za::.za::.za::.za::.za::.za::.za::.za::.za::.za::.za::.za::.za::.za::.za::.za::.za::.za::.za::.za::.za::.za::.za::.za::.za::.za::.za::.za::.za::.za::.za::.za::.za::.za::.za::.za::.za::.za::.za::.za::.za::.za::.za::.za::.za::.za::.za::.za::.za::.za::lL w.ze::I w.ze.length::I k:: .za::.za::.za::.za::.za::.za::.za::.za::.za::.za::.za::.za::.za::.za::.za::.za::.za::[])) (fun k=>[⟨1,28,8,[z5 w],0⟩,obM b (xp xo (xu (w.zt))) (xu (w.zt)).length]) (fun k=>∀ j,j < k->kp w j=true) ?_ (by simp) (fun k hk hr=>?_) (fun hr=>?_)
 ·exact cC
 ·obtain ⟨l,hx⟩:∃ l,l=w.ze[k]:=⟨_,rfl⟩
  have hx2:w.ze[k]?= some l:=by rw [List.getElem?_eq_getElem hk,hx]
  have hg:(w.ze.map jc)[k]?= some (jc l):=by rw [List.getElem?_map,hx2];rfl
  have hd:kp w k=(Go.Gat.isV l && decide (jd w.ze l.name=k)):=by unfold kp;rw [hx2]
  have bad:kp w k=false->jN w=false:=fun h=>by
   have:(List.range w.ze.length).all (kp w)=false:=by rw [List.all_eq_false];exact ⟨k,by simpa using hk,by simp [h]⟩
   rw [g2,this]
  conv=>whnf
  (refine ⟨fun _=>?_,fun h=>absurd h (by simp;omega)⟩);refine dd ?_
  (refine ⟨by omega,_,by rw [toNat_cast];exact hg,?_⟩);refine dd ?_
  refine ⟨_,_,(Go.Gat.yX l (hw.ze.2 l (List.mem_of_getElem? hx2))).frame rfl _,?_⟩;refine dd ?_
  refine ⟨fun h5=>?_,fun h5=>?_⟩
  rotate_left
  ·(rw [bad (by rw [hd,h5];rfl)]);refine dd ?_;(repeat ((first | apply ya | apply yb);refine dd ?_));(refine .inr ⟨by simp,?_⟩);(conv=>whnf);exact ⟨.inl rfl,_,.refl _,rfl⟩
  refine dd ?_
  refine ⟨_,_,(k9 w.ze l.name (by omega)).frame rfl _,?_⟩;refine dd ?_
  refine ⟨fun h6=>?_,fun h6=>?_⟩
  ·(rw [bad (by rw [hd,show decide (jd w.ze l.name=(k:Int))=false from by rw [decide_eq_false_iff_not];intro hh;simp [hh] at h6,Bool.and_false])]);refine dd ?_;(repeat ((first | apply ya | apply yb);refine dd ?_));(refine .inr ⟨by simp,?_⟩);(conv=>whnf);exact ⟨.inl rfl,_,.refl _,rfl⟩
  refine dd ?_
  (repeat ((first | apply ya | apply yb);refine dd ?_))
  refine .inl ⟨rfl,?_,fun j hj=>?_⟩
  ·rw [zD (by omega)]
   exact cE 2
  ·by_cases e:j=k
   ·subst e;rw [hd,h5];simp at h6;simp [h6]
   ·exact hr j (by omega)
 ·have hl1:(List.range w.ze.length).all (kp w)=true:=by
   rw [List.all_eq_true]
   exact fun i hi=>hr i (by simpa using hi)
  rw [g2,hl1]
  (conv=>whnf);(refine ⟨fun h=>absurd h (by simp),fun _=>?_⟩);refine dd ?_;(refine ⟨by simp,?_⟩);(conv=>whnf)
  exact ⟨.inl rfl,_,.refl _,rfl⟩
end Go.Wor
