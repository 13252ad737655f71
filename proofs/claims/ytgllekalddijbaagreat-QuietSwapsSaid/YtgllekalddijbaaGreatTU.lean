import Derived.Test.YtgllekalddijbaaGreatTF
import Derived.Test.YtgllekalddijbaaGreatTS
import Derived.Test.YtgllekalddijbaaGreatTT
set_option linter.unusedVariables false
set_option linter.unusedSimpArgs false
set_option linter.unusedSectionVars false
set_option maxRecDepth 100000
set_option maxHeartbeats 4000000
namespace Go.Wor
open Go.Ab Go.Proofs Go.Hy Go.Gat Go.Nam Go.Hos Go.Con Go.Sna
def x5 (l:List Str) (n:Int):Str:=if 0<=n∧n < l.length then (l[n.toNat]?).getD [] else []
def x4 (l:List Clu) (n:Int):Str:=if 0<=n∧n < l.length then ((l[n.toNat]?).map (·.name)).getD [] else []
def zfl (s:Sna) (r:Rul):Rou:=⟨x5 s.zc r.listen,r.host,r.path,x4 s.zf r.zl⟩
def zai (s:Sna):Cfg:=⟨s.zc,s.rules.map (zfl s),s.zf⟩
def yE (s:Sna):Bool:=(zY (zai s)).1 == 0
structure yn (s:Sna):Prop where
 zc:s.zc.length < 1000000000000∧∀ x ∈ s.zc,x.length < 4000000000000000000
 rules:s.rules.length < 1000000000000∧∀ r ∈ s.rules,r.host.length < 1000000000000∧r.path.length < 1000000000000
 zf:s.zf.length < 1000000000000∧∀ x ∈ s.zf,x.name.length < 4000000000000000000∧x.zV.length < 4000000000000000000
theorem yn.cfg {s:Sna} (h:yn s):jF (zai s):=by
 refine ⟨h.zc,⟨by simpa [zai] using h.rules.1,fun r hr=>?_⟩,h.zf⟩
 simp only [zai,List.mem_map] at hr
 obtain ⟨q,hq,rfl⟩:=hr
 refine ⟨?_,(h.rules.2 q hq).1,(h.rules.2 q hq).2,?_⟩
 ·show (x5 s.zc q.listen).length < _
  unfold x5
  split
  ·cases hx:s.zc[q.listen.toNat]? with
   | none=>simp
   | some x=>exact h.zc.2 x (List.mem_of_getElem? hx)
  ·simp
 ·show (x4 s.zf q.zl).length < _
  unfold x4
  split
  ·cases hx:s.zf[q.zl.toNat]? with
   | none=>simp
   | some x=>exact (h.zf.2 x (List.mem_of_getElem? hx)).1
  ·simp
theorem zeH (s:Sna) (hs:yn s):zb Tryz.prog 161 [] [Cs s] (Cf (zai s)) []:=by
 have m1:(s.rules.map wz).length=s.rules.length:=List.length_map ..
 have m2:(s.zc.map qA).length=s.zc.length:=List.length_map ..
 have m3:(s.zf.map jJ).length=s.zf.length:=List.length_map ..
 have hl:=hs.rules.1
 refine zb.zk (fn:=Tryz.f161) Tryz.func161 rfl ?_
 conv=>whnf
 rw [m1]
 refine zH.seq s.rules.length (fun k=>(.za::.ref 0 [] 3 0 0:: .ref 1 [] 3 0 0:: .ref 2 [] 3 0 0:: .za::.za::.za::.za::.za::.za::.za::.za::.za::zmi s.rules::I s.rules.length::I k:: .za::.za::.za::.za::.za::.za::.za::.za::.za::.za::.za::.za::.za::.za::.za::.za::.za::.za::.za::.za::.za::.za::.za::.za::.za::.za::.za::.za::.za::.za::.za::.za::.za::.za::.za::.za::.za::.za::.za::.za::.za::.za::.za::.za::.za::.za::.za::.za::.za::.za::.za::.za::.za::[])) (fun k=>[⟨1,69,3,[zdv s],0⟩,⟨1,33,3,[[.lst 1 0 [],.lst 1 0 [],.lst 1 0 []]],0⟩,⟨1,33,3,[[lT s.zc,.gl 3 4 (((s.rules.take k).map (zfl s)).map yp),lC s.zf]],0⟩,⟨4,150,4,((s.rules.take k).map (zfl s)).map yp,0⟩]) (fun k=>True) ?_ trivial (fun k hk hr=>?_) (fun hr=>?_)
 ·refine zj.trans (zj.zcG 2 1 150 4 rfl rfl (.inl rfl) rfl rfl) ?_
  exact cC
 ·obtain ⟨r,hx⟩:∃ r,r=s.rules[k]:=⟨_,rfl⟩
  have hg:(s.rules.map wz)[k]?= some (wz r):=by rw [List.getElem?_map,List.getElem?_eq_getElem hk,hx];rfl
  have hlg:(((s.rules.take k).map (zfl s)).map yp).length=k:=by simp;omega
  have eg:((s.rules.take (k+1)).map (zfl s)).map yp=((s.rules.take k).map (zfl s)).map yp++[yp (zfl s r)]:=by rw [List.take_succ_eq_append_getElem hk,<- hx];simp
  have hv:∀ a b,a=x5 s.zc r.listen->b=x4 s.zf r.zl->yp ⟨a,r.host,r.path,b⟩=yp (zfl s r):=fun a b h1 h2=>by rw [h1,h2];rfl
  conv=>whnf
  (refine ⟨fun _=>?_,fun h=>absurd h (by simp;omega)⟩);refine dd ?_
  (refine ⟨by omega,_,by rw [toNat_cast];exact hg,?_⟩);refine dd ?_
  refine ⟨fun h1=>?_,fun h1=>?_⟩
  rotate_left
  ·refine dd ?_
   (repeat ((first | apply ya | apply yb);refine dd ?_))
   refine ⟨fun q1=>?_,fun q1=>?_⟩;rotate_left;(focus (refine dd ?_;(repeat ((first | apply ya | apply yb);refine dd ?_));(refine ⟨rfl,.inr rfl,by rw [hlg];simp [maxLen];omega,by rw [hlg];show (k+1) * 64<=_;omega,?_⟩);refine dd ?_;(refine .inl ⟨rfl,?_,trivial⟩);(rw [zo (by omega),eg,<- hv _ _ (by unfold x5;rw [if_neg (by simp at h1;omega)]) (by unfold x4;rw [if_neg (by simp at q1;omega)])]);exact cE 4));refine dd ?_;(rw [m3]);refine ⟨fun q2=>?_,fun q2=>?_⟩;rotate_left;(focus (refine dd ?_;(repeat ((first | apply ya | apply yb);refine dd ?_));(refine ⟨rfl,.inr rfl,by rw [hlg];simp [maxLen];omega,by rw [hlg];show (k+1) * 64<=_;omega,?_⟩);refine dd ?_;(refine .inl ⟨rfl,?_,trivial⟩);(rw [zo (by omega),eg,<- hv _ _ (by unfold x5;rw [if_neg (by simp at h1;omega)]) (by unfold x4;rw [if_neg (by simp at q2;omega)])]);exact cE 4));(have q3:r.zl.toNat < s.zf.length:=by simp at q1 q2;omega);(have gq:(s.zf.map jJ)[r.zl.toNat]?= some (jJ s.zf[r.zl.toNat]):=by rw [List.getElem?_map,List.getElem?_eq_getElem q3];rfl);refine dd ?_;(repeat ((first | apply ya | apply yb);refine dd ?_));(refine ⟨by simp at q1;omega,_,gq,?_⟩);refine dd ?_;(refine ⟨rfl,.inr rfl,by rw [hlg];simp [maxLen];omega,by rw [hlg];show (k+1) * 64<=_;omega,?_⟩);refine dd ?_;(refine .inl ⟨rfl,?_,trivial⟩);(rw [zo (by omega),eg,<- hv _ _ (by unfold x5;rw [if_neg (by simp at h1;omega)]) (by unfold x4;rw [if_pos (by simp at q1 q2;omega),List.getElem?_eq_getElem q3])]);exact cE 4
  refine dd ?_
  rw [m2]
  refine ⟨fun h2=>?_,fun h2=>?_⟩
  rotate_left
  ·refine dd ?_
   (repeat ((first | apply ya | apply yb);refine dd ?_))
   refine ⟨fun q1=>?_,fun q1=>?_⟩;rotate_left;(focus (refine dd ?_;(repeat ((first | apply ya | apply yb);refine dd ?_));(refine ⟨rfl,.inr rfl,by rw [hlg];simp [maxLen];omega,by rw [hlg];show (k+1) * 64<=_;omega,?_⟩);refine dd ?_;(refine .inl ⟨rfl,?_,trivial⟩);(rw [zo (by omega),eg,<- hv _ _ (by unfold x5;rw [if_neg (by simp at h2;omega)]) (by unfold x4;rw [if_neg (by simp at q1;omega)])]);exact cE 4));refine dd ?_;(rw [m3]);refine ⟨fun q2=>?_,fun q2=>?_⟩;rotate_left;(focus (refine dd ?_;(repeat ((first | apply ya | apply yb);refine dd ?_));(refine ⟨rfl,.inr rfl,by rw [hlg];simp [maxLen];omega,by rw [hlg];show (k+1) * 64<=_;omega,?_⟩);refine dd ?_;(refine .inl ⟨rfl,?_,trivial⟩);(rw [zo (by omega),eg,<- hv _ _ (by unfold x5;rw [if_neg (by simp at h2;omega)]) (by unfold x4;rw [if_neg (by simp at q2;omega)])]);exact cE 4));(have q3:r.zl.toNat < s.zf.length:=by simp at q1 q2;omega);(have gq:(s.zf.map jJ)[r.zl.toNat]?= some (jJ s.zf[r.zl.toNat]):=by rw [List.getElem?_map,List.getElem?_eq_getElem q3];rfl);refine dd ?_;(repeat ((first | apply ya | apply yb);refine dd ?_));(refine ⟨by simp at q1;omega,_,gq,?_⟩);refine dd ?_;(refine ⟨rfl,.inr rfl,by rw [hlg];simp [maxLen];omega,by rw [hlg];show (k+1) * 64<=_;omega,?_⟩);refine dd ?_;(refine .inl ⟨rfl,?_,trivial⟩);(rw [zo (by omega),eg,<- hv _ _ (by unfold x5;rw [if_neg (by simp at h2;omega)]) (by unfold x4;rw [if_pos (by simp at q1 q2;omega),List.getElem?_eq_getElem q3])]);exact cE 4
  have h3:r.listen.toNat < s.zc.length:=by simp at h1 h2;omega
  have gl:(s.zc.map qA)[r.listen.toNat]?= some (qA s.zc[r.listen.toNat]):=by rw [List.getElem?_map,List.getElem?_eq_getElem h3];rfl
  refine dd ?_
  (repeat ((first | apply ya | apply yb);refine dd ?_))
  refine ⟨by simp at h1;omega,_,gl,?_⟩
  refine dd ?_
  refine ⟨fun q1=>?_,fun q1=>?_⟩;rotate_left;(focus (refine dd ?_;(repeat ((first | apply ya | apply yb);refine dd ?_));(refine ⟨rfl,.inr rfl,by rw [hlg];simp [maxLen];omega,by rw [hlg];show (k+1) * 64<=_;omega,?_⟩);refine dd ?_;(refine .inl ⟨rfl,?_,trivial⟩);(rw [zo (by omega),eg,<- hv _ _ (by unfold x5;rw [if_pos (by simp at h1 h2;omega),List.getElem?_eq_getElem h3]) (by unfold x4;rw [if_neg (by simp at q1;omega)])]);exact cE 4));refine dd ?_;(rw [m3]);refine ⟨fun q2=>?_,fun q2=>?_⟩;rotate_left;(focus (refine dd ?_;(repeat ((first | apply ya | apply yb);refine dd ?_));(refine ⟨rfl,.inr rfl,by rw [hlg];simp [maxLen];omega,by rw [hlg];show (k+1) * 64<=_;omega,?_⟩);refine dd ?_;(refine .inl ⟨rfl,?_,trivial⟩);(rw [zo (by omega),eg,<- hv _ _ (by unfold x5;rw [if_pos (by simp at h1 h2;omega),List.getElem?_eq_getElem h3]) (by unfold x4;rw [if_neg (by simp at q2;omega)])]);exact cE 4));(have q3:r.zl.toNat < s.zf.length:=by simp at q1 q2;omega);(have gq:(s.zf.map jJ)[r.zl.toNat]?= some (jJ s.zf[r.zl.toNat]):=by rw [List.getElem?_map,List.getElem?_eq_getElem q3];rfl);refine dd ?_;(repeat ((first | apply ya | apply yb);refine dd ?_));(refine ⟨by simp at q1;omega,_,gq,?_⟩);refine dd ?_;(refine ⟨rfl,.inr rfl,by rw [hlg];simp [maxLen];omega,by rw [hlg];show (k+1) * 64<=_;omega,?_⟩);refine dd ?_;(refine .inl ⟨rfl,?_,trivial⟩);(rw [zo (by omega),eg,<- hv _ _ (by unfold x5;rw [if_pos (by simp at h1 h2;omega),List.getElem?_eq_getElem h3]) (by unfold x4;rw [if_pos (by simp at q1 q2;omega),List.getElem?_eq_getElem q3])]);exact cE 4
 ·(conv=>whnf);(refine ⟨fun h=>absurd h (by simp),fun _=>?_⟩);refine dd ?_;(refine ⟨by simp,?_⟩);(conv=>whnf)
  rw [List.take_length]
  exact ⟨.inl rfl,_,.refl _,rfl⟩
theorem zaL (s:Sna) (hs:yn s):zb Tryz.prog 106 [] [Cs s] (Bo (yE s)) []:=by
 refine zb.zk (fn:=Tryz.f106) Tryz.func106 rfl ?_
 conv=>whnf
 refine ⟨_,_,(zeH s hs).frame rfl _,?_⟩;refine dd ?_
 refine ⟨_,_,(check_sound (zai s) hs.cfg).frame rfl _,?_⟩;refine dd ?_
 refine ⟨fun h=>?_,fun h=>?_⟩
 ·refine dd ?_
  (exact ⟨.inl rfl,_,.refl _,congrArg (fun b=>some (C.v (Value.bool b))) (by unfold yE;exact h.symm)⟩)
 ·refine dd ?_
  (exact ⟨.inl rfl,_,.refl _,congrArg (fun b=>some (C.v (Value.bool b))) (by unfold yE;exact h.symm)⟩)
end Go.Wor
namespace Go.Wor
open Go.Ab Go.Proofs Go.Hy Go.Gat Go.Nam Go.Hos Go.Con Go.Sna
open Go.Slp (xV kr)
theorem zg6 {f:Nat->Int} {n:Nat} (h:(qI f n).1=0):∀ j,j < n->f j=0:=fun j hj=>by
 unfold qI at h
 split at h
 ·rename_i i hi
  rw [List.find?_range_eq_some] at hi
  exact absurd h (by simpa using hi.1)
 ·rename_i hn
  rw [List.find?_range_eq_none] at hn
  simpa using hn j hj
structure zjv (x:Clu):Prop where
 name:jG x.name=true
 j6:x.j6=1∨x.j6=2
 jR:1<=x.jR∧x.jR<=4
 zV:1<=x.zV.length∧x.zV.length<=4
structure zmV (s:Sna):Prop where
 zc:1<=s.zc.length∧s.zc.length<=4
 rules:1<=s.rules.length∧s.rules.length<=8
 zf:1<=s.zf.length∧s.zf.length<=4
 all:∀ x ∈ s.zf,zjv x
theorem qY {s:Sna} (h:yE s=true):zmV s:=by
 unfold yE at h
 have h:(zY (zai s)).1=0:=by simpa using h
 unfold zY at h
 split at h
 ·contradiction
 rename_i h1
 split at h
 ·contradiction
 rename_i h2
 split at h
 ·contradiction
 rename_i h3
 have h1:(xg (zai s)).1=0:=by simpa using h1
 unfold xg at h1
 split at h1
 ·cases h1
 rename_i h4
 have e:(zai s).zp.length=s.rules.length:=by simp [zai]
 rw [e] at h4
 simp only [show (zai s).zc=s.zc from rfl,show (zai s).zf=s.zf from rfl] at h4
 have b:∀ n:Nat,∀ m:Int,¬(decide (1<=(n:Int)) && decide ((n:Int)<=m))=false->1<=n∧(n:Int)<=m:=fun n m hh=>by simp at hh;omega
 have q1:=b s.zc.length 4 fun hh=>h4 (.inl (.inl hh))
 have q2:=b s.rules.length 8 fun hh=>h4 (.inl (.inr hh))
 have q3:=b s.zf.length 4 fun hh=>h4 (.inr hh)
 refine ⟨by omega,by omega,by omega,fun x hx=>?_⟩
 obtain ⟨i,hi,rfl⟩:=List.mem_iff_getElem.1 hx
 have h5:=zg6 (f:=zcs s.zf) (n:=s.zf.length) (Decidable.of_not_not h3) i hi
 unfold zcs at h5
 rw [List.getElem?_eq_getElem hi] at h5
 dsimp only at h5
 split at h5
 ·cases h5
 rename_i p1
 split at h5
 ·cases h5
 split at h5
 ·cases h5
 rename_i p2
 split at h5
 ·cases h5
 rename_i p3
 split at h5
 ·cases h5
 rename_i p4
 refine ⟨by simpa using p1,?_,?_,?_⟩
 ·by_cases a:s.zf[i].j6=1
  ·exact .inl a
  ·by_cases a2:s.zf[i].j6=2
   ·exact .inr a2
   ·exact absurd ⟨a,a2⟩ p2
 ·simp at p3;omega
 ·simp at p4;omega
abbrev jL (x:Clu):En:=(xV x.jR).1
theorem zj3 {x:Clu} (h:zjv x):xV x.jR=(jL x,0):=by
 have:=h.jR
 unfold jL xV
 rw [if_neg (by omega)]
def vH (x:Clu):Gr:=⟨0,List.replicate x.zV.length (jL x)⟩
abbrev znj:Sna:=⟨[],[],[]⟩
abbrev zil:Ver:=⟨znj,[],false⟩
def zS (s:Sna):Ver × Int:=if yE s then (⟨s,s.zf.map vH,false⟩,0) else (zil,1)
abbrev Cv (v:Ver):C:=.agg (qm v)
abbrev tV (r:Ver × Int):C:=.tup [Cv r.1,I r.2]
theorem yQ (s:Sna) (hs:yn s):zb Tryz.prog 112 [] [Cs s] (tV (zS s)) []:=by
 have m1:(s.zf.map jJ).length=s.zf.length:=List.length_map ..
 refine zb.zk (fn:=Tryz.f112) Tryz.func112 rfl ?_
 conv=>whnf
 refine ⟨_,_,(zaL s hs).frame rfl _,?_⟩;refine dd ?_
 refine ⟨fun h1=>?_,fun h1=>?_⟩
 rotate_left
 ·have e:zS s=(zil,1):=by unfold zS;rw [if_neg (by rw [h1];decide)]
  rw [e]
  refine dd ?_
  (repeat ((first | apply ya | apply yb);refine dd ?_))
  exact ⟨.inl rfl,_,zj.var 1 rfl rfl rfl (.cons (WC.nil 0 1) (.cons (WC.nil 0 4) (.cons (WC.nil 0 4) (.cons (WC.nil 0 2) (.cons (.refl _) .nil))))),rfl⟩
 have e:zS s=(⟨s,s.zf.map vH,false⟩,0):=by unfold zS;rw [if_pos h1]
 have hg:=qY h1
 rw [e]
 refine dd ?_
 (repeat ((first | apply ya | apply yb);refine dd ?_))
 rw [m1]
 refine zH.seq s.zf.length (fun k=>[.za,.ref 0 [] 3 0 0,.ref 1 [] 5 0 0,I 0,.ref 2 [] 5 0 0,.za,.za,.za,.za,.za,.za,.za,.za,.za,.za,.za,.za,lC s.zf,I s.zf.length,I k,.za,.za,.za,.za,.za,.za,.za,.za,.za,.za,.za,.za,.za,.za,.za,.za,.za,.za,.za,.za,.za,.za,.za,.za,.za,.za,.za,.za,.za,.za,.za,.za,.za]) (fun k=>[⟨1,69,3,[zdv s],0⟩,⟨1,72,5,[[.lst 1 0 [],.lst 1 0 [],.lst 1 0 [],.lst 1 0 [],Bo false]],0⟩,⟨1,72,5,[zdv s++[.gl 3 2 (((s.zf.take k).map vH).map j3),Bo false]],0⟩,⟨4,93,2,((s.zf.take k).map vH).map j3,0⟩]) (fun k=>True) ?_ trivial (fun k hk hr=>?_) (fun hr=>?_)
 ·refine zj.trans (zj.zcG 2 3 93 2 rfl rfl (.inl rfl) rfl rfl) ?_
  exact cC
 ·obtain ⟨x,hx⟩:∃ x,x=s.zf[k]:=⟨_,rfl⟩
  have hgx:(s.zf.map jJ)[k]?= some (jJ x):=by rw [List.getElem?_map,List.getElem?_eq_getElem hk,hx];rfl
  have hgood:=hg.all x (by rw [hx];exact List.getElem_mem hk)
  have hc4:=hg.zf.2
  have h4:=hgood.zV.2
  have hlg:(((s.zf.take k).map vH).map j3).length=k:=by simp;omega
  have eg:((s.zf.take (k+1)).map vH).map j3=((s.zf.take k).map vH).map j3++[j3 (vH x)]:=by rw [List.take_succ_eq_append_getElem hk,<- hx];simp
  have mh:(x.zV.map yK).length=x.zV.length:=List.length_map ..
  have fs:zb Tryz.prog 166 [] [I x.jR] (.tup [.agg (qh (jL x)),I 0]) []:=by
   have:=kr x.jR
   rw [zj3 hgood] at this
   exact this
  conv=>whnf
  (refine ⟨fun _=>?_,fun h=>absurd h (by simp;omega)⟩);refine dd ?_
  (refine ⟨by omega,_,by rw [toNat_cast];exact hgx,?_⟩);refine dd ?_
  rw [mh]
  refine zH.seq x.zV.length (fun j=>[.za,.ref 0 [] 3 0 0,.ref 1 [] 5 0 0,I 0,.ref 2 [] 5 0 0,.za,.ref 4 [] 4 0 0,.ref 5 [] 2 0 0,.za,.za,.za,.za,.za,.za,.za,.za,.za,lC s.zf,I s.zf.length,I k,.za,.za,.za,.za,.za,I x.zV.length,I j,.za,.za,.za,.za,.za,.za,.za,.za,.za,.za,.za,.za,.za,.za,.za,.za,.za,.za,.za,.za,.za,.za,.za,.za,.za,.za]) (fun j=>[⟨1,69,3,[zdv s],0⟩,⟨1,72,5,[[.lst 1 0 [],.lst 1 0 [],.lst 1 0 [],.lst 1 0 [],Bo false]],0⟩,⟨1,72,5,[zdv s++[.gl 3 2 (((s.zf.take k).map vH).map j3),Bo false]],0⟩,⟨4,93,2,((s.zf.take k).map vH).map j3,0⟩,⟨1,148,4,[jJ x],0⟩,⟨1,93,2,[[U 0,.gl 6 3 ((List.replicate j (jL x)).map qh)]],0⟩,⟨4,97,3,((List.replicate j (jL x)).map qh),0⟩]) (fun k=>True) ?_ trivial (fun j hj hr=>?_) (fun hr=>?_)
  ·refine zj.trans (zj.zcG 5 1 97 3 rfl rfl (.inl rfl) rfl rfl) ?_
   exact cC
  ·have hle:(((List.replicate j (jL x)).map qh)).length=j:=by simp
   have ee:((List.replicate (j+1) (jL x)).map qh)=((List.replicate j (jL x)).map qh)++[qh (jL x)]:=by rw [List.replicate_succ',List.map_append];rfl
   conv=>whnf
   (refine ⟨fun _=>?_,fun h=>absurd h (by simp;omega)⟩);refine dd ?_
   refine ⟨_,_,(fs).frame rfl _,?_⟩;refine dd ?_
   (repeat ((first | apply ya | apply yb);refine dd ?_))
   refine ⟨rfl,.inr rfl,by rw [hle];simp [maxLen];omega,by rw [hle];show (j+1) * 40<=_;omega,?_⟩
   refine dd ?_
   refine .inl ⟨rfl,?_,trivial⟩
   rw [zo (by omega),ee]
   exact cE 7
  ·(conv=>whnf);(refine ⟨fun h=>absurd h (by simp),fun _=>?_⟩);refine dd ?_;(refine ⟨by simp,?_⟩);(conv=>whnf)
   refine ⟨rfl,.inr rfl,by rw [hlg];simp [maxLen];omega,by rw [hlg];show (k+1) * 32<=_;omega,?_⟩
   refine dd ?_
   refine .inl ⟨rfl,?_,trivial⟩
   rw [zo (by omega),eg]
   exact cE 4
 ·(conv=>whnf);(refine ⟨fun h=>absurd h (by simp),fun _=>?_⟩);refine dd ?_;(refine ⟨by simp,?_⟩);(conv=>whnf)
  rw [List.take_length]
  exact ⟨.inl rfl,_,.refl _,rfl⟩
def yB (n:Int):List (List Int) × Int:=if n < 1∨8 < n then ([],1) else (List.replicate n.toNat [0,0,0,0,0,0],0)
abbrev tC0 (r:List (List Int) × Int):C:=.tup [lCo r.1,I r.2]
def vP (c:List (List Int)):Bool:=c.all (fun r=>r.length == 6) && decide (1<=c.length) && decide (c.length<=8)
theorem zgs {rows:List (List C)} (h:(rows.all fun r=>r.all fun c=>jQ c && zu c)=true):∀ r ∈ rows,∀ c ∈ r,jQ c=true∧zu c=true:=fun r hr c hc=>by
 have:=List.all_eq_true.1 (List.all_eq_true.1 h r hr) c hc
 simpa using this
theorem shut_map {α:Type} {enc:α->List C} (h:∀ x,(enc x).all (fun c=>jQ c && zu c)=true) (l:List α):∀ r ∈ l.map enc,∀ c ∈ r,jQ c=true∧zu c=true:=
 zgs (by rw [List.all_map];exact List.all_eq_true.2 fun x _=>h x)
theorem zkb {n ty sz fz:Nat} {rows:List (List C)} (h:∀ r ∈ rows,∀ c ∈ r,xl n 9 c=true):ja n [⟨1,ty,sz,rows,fz⟩]=true:=by
 unfold ja
 simp only [List.all_cons,List.all_nil,Bool.and_true]
 simp
 exact h
theorem zly {α:Type} (a b:α) {k n:Nat} (h:k < n):(List.replicate k a++List.replicate (n - k) b).set k a=List.replicate (k+1) a++List.replicate (n - (k+1)) b:=by
 rw [List.set_append_right _ _ (by simp)]
 have e:n - k=(n - (k+1))+1:=by omega
 simp only [List.length_replicate,Nat.sub_self]
 rw [e,List.replicate_succ,List.set_cons_zero,List.replicate_succ',List.append_assoc]
 rfl
theorem zlx {α:Type} (a b:α) {k n:Nat} (h:k < n):(List.replicate k a++List.replicate (n - k) b)[k]?= some b:=by
 rw [List.getElem?_append_right (by simp)]
 simp only [List.length_replicate,Nat.sub_self]
 have e:n - k=(n - (k+1))+1:=by omega
 rw [e,List.replicate_succ]
 rfl
theorem kL (n:Int):zb Tryz.prog 129 [] [I n] (tC0 (yB n)) []:=by
 refine zb.zk (fn:=Tryz.f129) Tryz.func129 rfl ?_
 conv=>whnf
 refine ⟨fun h1=>?_,fun h1=>?_⟩
 ·have e:yB n=([],1):=by unfold yB;rw [if_pos (by simp at h1;omega)]
  rw [e]
  refine dd ?_
  (repeat ((first | apply ya | apply yb);refine dd ?_))
  exact ⟨.inl rfl,_,zj.cell 2 rfl (WC.nil 0 1),rfl⟩
 refine dd ?_
 refine ⟨fun h2=>?_,fun h2=>?_⟩
 ·have e:yB n=([],1):=by unfold yB;rw [if_pos (by simp at h2;omega)]
  rw [e]
  refine dd ?_
  (repeat ((first | apply ya | apply yb);refine dd ?_))
  exact ⟨.inl rfl,_,zj.cell 2 rfl (WC.nil 0 1),rfl⟩
 have b1:1<=n∧n<=8:=by simp at h1 h2;omega
 have e:yB n=(List.replicate n.toNat [0,0,0,0,0,0],0):=by unfold yB;rw [if_neg (by omega)]
 rw [e]
 refine dd ?_
 refine ⟨rfl,by omega,by show (24:Int) * n<=_;omega,by omega,?_⟩
 refine dd ?_
 refine zH.seq n.toNat (fun k=>[I n,.za,.lst 1 0 [],I 0,.sl 0 [] 1 0 n.toNat false,.za,.za,.za,.za,.za,.za,.za,.za,.za,.za,I n.toNat,I k,.za,.za,.za,.za,.za,.za,.za,.za]) (fun k=>[⟨1,0,1,(List.replicate k [lU [0,0,0,0,0,0]]++List.replicate (n.toNat - k) [C.lst 1 0 []]),0⟩]) (fun k=>True) ?_ trivial (fun k hk hr=>?_) (fun hr=>?_)
 ·refine zj.trans (zj.znb 0 rfl (by intro r hr c hc;rw [List.eq_of_mem_replicate hr] at hc;rw [List.mem_singleton.1 hc];rfl)) ?_
  exact cC
 ·conv=>whnf
  (refine ⟨fun _=>?_,fun h=>absurd h (by simp;omega)⟩);refine dd ?_
  refine ⟨rfl,by decide,by show (8:Int) * 6<=_;decide,by decide,?_⟩
  refine dd ?_
  refine ⟨by omega,by simp;omega,?_⟩
  refine dd ?_
  have e1:0+(k:Int).toNat=k:=by simp
  rw [e1]
  refine ⟨_,zlx _ _ hk,rfl,?_⟩
  refine dd ?_
  refine .inl ⟨rfl,?_,trivial⟩
  refine zj.trans (zj.qJ 0 k 0 (r:=[.sl 1 [] 1 0 6 false]) rfl (by rw [List.getElem?_set,if_pos rfl,if_pos (by simp;omega)];rfl) rfl rfl (.inr rfl) rfl rfl ?_ ?_) ?_
  ·exact zgs (rows:=List.replicate 6 [U 0]) rfl
  ·intro r hr c hc
   rcases List.mem_or_eq_of_mem_set hr with hr | rfl
   ·rcases List.mem_append.1 hr with hr | hr <;> (rw [List.eq_of_mem_replicate hr] at hc;rw [List.mem_singleton.1 hc];rfl)
   ·rw [List.mem_singleton.1 hc];rfl
  ·have e3:(List.replicate k [lU [0,0,0,0,0,0]]++List.replicate (n.toNat - k) [C.lst 1 0 []]).set k [lU [0,0,0,0,0,0]]=(List.replicate (k+1) [lU [0,0,0,0,0,0]]++List.replicate (n.toNat - (k+1)) [C.lst 1 0 []]):=zly _ _ hk
   rw [List.set_set,<- e3,zo (by omega)]
   refine zj.zeI 1 (by (conv=>whnf);(repeat (refine ⟨rfl,?_⟩;(conv=>whnf)));exact trivial) rfl rfl rfl (zkb (rows:=(List.replicate k [lU [0,0,0,0,0,0]]++List.replicate (n.toNat - k) [C.lst 1 0 []]).set k [lU [0,0,0,0,0,0]]) fun r hr c hc=>?_) rfl
   rw [e3] at hr
   rcases List.mem_append.1 hr with hr | hr <;> (rw [List.eq_of_mem_replicate hr] at hc;rw [List.mem_singleton.1 hc];rfl)
 ·(conv=>whnf);(refine ⟨fun h=>absurd h (by simp),fun _=>?_⟩);refine dd ?_;(refine ⟨by simp,?_⟩);(conv=>whnf)
  have e4:(List.replicate n.toNat [(0:Int),0,0,0,0,0]).map jW=(List.replicate n.toNat [lU [0,0,0,0,0,0]]++List.replicate (n.toNat - n.toNat) [C.lst 1 0 []]):=by rw [List.map_replicate,Nat.sub_self,List.replicate_zero,List.append_nil];rfl
  have sh:∀ r ∈ (List.replicate n.toNat [lU [0,0,0,0,0,0]]++List.replicate (n.toNat - n.toNat) [C.lst 1 0 []]),∀ c ∈ r,jQ c=true∧zu c=true:=by
   rw [Nat.sub_self,List.replicate_zero,List.append_nil]
   intro r hr c hc
   rw [List.eq_of_mem_replicate hr] at hc
   rw [List.mem_singleton.1 hc]
   exact ⟨rfl,rfl⟩
  refine ⟨.inl rfl,_,zj.zau 2 rfl rfl (.inl rfl) (by simp) sh,?_⟩
  rw [<- e4]
  rfl
theorem zdF (c:List (List Int)) (hc:c.length < 4000000000000000000):zb Tryz.prog 103 [] [lCo c] (Bo (vP c)) []:=by
 have m1:(c.map jW).length=c.length:=List.length_map ..
 refine zb.zk (fn:=Tryz.f103) Tryz.func103 rfl ?_
 conv=>whnf
 rw [m1]
 refine zH.seq c.length (fun k=>[lCo c,.za,Bo false,.za,.za,lCo c,I c.length,I k,.za,.za,.za,.za,.za,.za,.za,.za,.za,.za,.za,.za,.za,.za,.za]) (fun k=>[]) (fun k=>∀ j,(h:j < c.length)->j < k->(c[j].length == 6)=true) ?_ (by simp) (fun k hk hr=>?_) (fun hr=>?_)
 ·exact cC
 ·obtain ⟨x,hx⟩:∃ x,x=c[k]:=⟨_,rfl⟩
  have hg:(c.map jW)[k]?= some (jW x):=by rw [List.getElem?_map,List.getElem?_eq_getElem hk,hx];rfl
  have mx:(x.map zm6).length=x.length:=List.length_map ..
  conv=>whnf
  (refine ⟨fun _=>?_,fun h=>absurd h (by simp;omega)⟩);refine dd ?_
  (refine ⟨by omega,_,by rw [toNat_cast];exact hg,?_⟩);refine dd ?_
  rw [mx]
  refine ⟨fun h1=>?_,fun h1=>?_⟩
  ·have hf:c.all (fun r=>r.length == 6)=false:=by
    rw [List.all_eq_false]
    exact ⟨x,by rw [hx];exact List.getElem_mem hk,by simp at h1 ⊢;omega⟩
   have e:vP c=false:=by unfold vP;rw [hf];rfl
   rw [e]
   refine dd ?_
   (refine .inr ⟨by simp,?_⟩);(conv=>whnf)
   exact ⟨.inl rfl,_,.refl _,rfl⟩
  ·refine dd ?_
   refine .inl ⟨rfl,?_,fun j hj hjk=>?_⟩
   ·rw [zo (by omega)]
    exact cE 0
   ·by_cases e:j=k
    ·subst e;rw [<- hx];simp at h1 ⊢;omega
    ·exact hr j hj (by omega)
 ·have ht:c.all (fun r=>r.length == 6)=true:=by
   rw [List.all_eq_true]
   intro r hr'
   obtain ⟨j,hj,rfl⟩:=List.mem_iff_getElem.1 hr'
   exact hr j hj hj
  have e:vP c=(decide (1<=c.length) && decide (c.length<=8)):=by unfold vP;rw [ht];rfl
  rw [e]
  (conv=>whnf);(refine ⟨fun h=>absurd h (by simp),fun _=>?_⟩);refine dd ?_;(refine ⟨by simp,?_⟩);(conv=>whnf)
  rw [m1]
  refine ⟨fun h1=>?_,fun h1=>?_⟩
  ·refine dd ?_
   rw [m1]
   refine ⟨fun h2=>?_,fun h2=>?_⟩
   ·refine dd ?_
    (repeat ((first | apply ya | apply yb);refine dd ?_))
    (exact ⟨.inl rfl,_,.refl _,congrArg (fun b=>some (C.v (Value.bool b))) (by symm;simp at h1 h2 ⊢;omega)⟩)
   ·refine dd ?_
    (repeat ((first | apply ya | apply yb);refine dd ?_))
    (exact ⟨.inl rfl,_,.refl _,congrArg (fun b=>some (C.v (Value.bool b))) (by symm;simp at h1 h2 ⊢;omega)⟩)
  ·refine dd ?_
   (repeat ((first | apply ya | apply yb);refine dd ?_))
   (exact ⟨.inl rfl,_,.refl _,congrArg (fun b=>some (C.v (Value.bool b))) (by symm;simp at h1 ⊢;omega)⟩)
end Go.Wor
namespace Go.Wor
open Go.Ab Go.Proofs Go.Hy Go.Gat Go.Nam Go.Hos Go.Con Go.Sna
open Go.Slp (xV kr)
abbrev Cw (w:Wor):C:=.agg (z7 w)
abbrev tW (r:Wor × Int):C:=.tup [Cw r.1,I r.2]
abbrev yx:Wor:=⟨0,0,0,[],[],[],[],[]⟩
def xN (s:Str):Lis:=⟨s,false,0,false⟩
def za7 (l:List Str) (i:Nat):Bool:=match l[i]? with
 | some s=>jG s && decide (zZ ((l.take i).map xN) s < 0)
 | none=>true
def vN (l:List Str):Bool:=(List.range l.length).all (za7 l)
def wV (s:Sna) (l:List Str) (n:Int):Wor × Int:=
 if yE s=false∨n < 1∨8 < n∨vN l=false then (yx,1)
 else (⟨0,0,0,List.replicate n.toNat 0,[(zS s).1],l.map xN,List.replicate n.toNat [0,0,0,0,0,0],[]⟩,0)
theorem zi7 (s:Sna) (l:List Str) (n:Int) (hs:yn s) (hl:l.length < 1000000000∧∀ x ∈ l,x.length < 4000000000000000000):zb Tryz.prog 80 [] [Cs s,lT l,I n] (tW (wV s l n)) []:=by
 have m1:(l.map qA).length=l.length:=List.length_map ..
 have cs:=yQ s hs
 refine zb.zk (fn:=Tryz.f80) Tryz.func80 rfl ?_
 conv=>whnf
 by_cases h0:yE s=true
 rotate_left
 ·have e:wV s l n=(yx,1):=by unfold wV;rw [if_pos (.inl (by simpa using h0))]
  have e2:zS s=(zil,1):=by unfold zS;rw [if_neg h0]
  rw [e2] at cs
  have cs:zb Tryz.prog 112 [] [Cs s] (.tup [Cv zil,I 1]) []:=cs
  rw [e]
  refine ⟨_,_,(cs).frame rfl _,?_⟩;refine dd ?_
  (repeat ((first | apply ya | apply yb);refine dd ?_))
  exact ⟨.inl rfl,_,zj.var 1 rfl rfl rfl (.cons (.refl _) (.cons (.refl _) (.cons (.refl _) (.cons (WC.nil 0 1) (.cons (WC.nil 0 5) (.cons (WC.nil 0 4) (.cons (WC.nil 0 1) (.cons (WC.nil 0 3) .nil)))))))),rfl⟩
 have e2:zS s=((zS s).1,0):=by unfold zS;rw [if_pos h0]
 rw [e2] at cs
 have cs:zb Tryz.prog 112 [] [Cs s] (.tup [Cv (zS s).1,I 0]) []:=cs
 have hn:=kL n
 refine ⟨_,_,(cs).frame rfl _,?_⟩;refine dd ?_
 (repeat ((first | apply ya | apply yb);refine dd ?_))
 by_cases h1:n < 1∨8 < n
 ·have e:wV s l n=(yx,1):=by unfold wV;rw [if_pos (by omega)]
  have e3:yB n=([],1):=by unfold yB;rw [if_pos h1]
  rw [e3] at hn
  have hn:zb Tryz.prog 129 [] [I n] (.tup [lCo [],I 1]) []:=hn
  rw [e]
  refine ⟨_,_,(hn).frame rfl _,?_⟩;refine dd ?_
  (repeat ((first | apply ya | apply yb);refine dd ?_))
  exact ⟨.inl rfl,_,zj.var 1 rfl rfl rfl (.cons (.refl _) (.cons (.refl _) (.cons (.refl _) (.cons (WC.nil 0 1) (.cons (WC.nil 0 5) (.cons (WC.nil 0 4) (.cons (WC.nil 0 1) (.cons (WC.nil 0 3) .nil)))))))),rfl⟩
 have e3:yB n=(List.replicate n.toNat [0,0,0,0,0,0],0):=by unfold yB;rw [if_neg h1]
 rw [e3] at hn
 have hn:zb Tryz.prog 129 [] [I n] (.tup [lCo (List.replicate n.toNat [0,0,0,0,0,0]),I 0]) []:=hn
 refine ⟨_,_,(hn).frame rfl _,?_⟩;refine dd ?_
 (repeat ((first | apply ya | apply yb);refine dd ?_))
 refine .inl ⟨⟨false,[0,3],[2],[]⟩,by kernel_rfl,?_⟩;(conv=>whnf)
 refine ⟨rfl,by omega,by show (8:Int) * n<=_;omega,by omega,?_⟩
 refine dd ?_
 repeat (refine ⟨rfl,?_⟩;conv=>whnf)
 rw [m1]
 have hb:vN l=false->wV s l n=(yx,1):=fun h=>by unfold wV;rw [if_pos (.inr (.inr (.inr h)))]
 refine zH.seq l.length (fun k=>(.za::.za::.za::.ref 0 [] 3 0 0:: .za::.za::.ref 1 [] 8 0 0::I 0:: .za::.za::.za::.ref 3 [] 8 0 0:: .za::.za::.za::.za::.za::.za::.za::.za::.za::.za::.za::.za::.za::.za::.za::.za::.za::.za::.za::.za::.za::.za::.za::.za::.za::.za::lT l::I l.length::I k:: .za::.za::.za::.za::.za::.za::.za::.za::.za::.za::.za::.za::.za::.za::.za::.za::.za::.za::.za::.za::.za::.za::.za::[])) (fun k=>[⟨1,69,3,[zdv s],0⟩,⟨1,28,8,[[I 0,I 0,I 0,.lst 1 0 [],.lst 1 0 [],.lst 1 0 [],.lst 1 0 [],.lst 1 0 []]],0⟩,⟨1,72,5,[qm (zS s).1],0⟩,⟨1,28,8,[[I 0,I 0,I 0,.lst 0 1 (List.replicate n.toNat [I 0]),.lst 1 5 [qm (zS s).1],.gl 4 4 (((l.take k).map xN).map q8),lCo (List.replicate n.toNat [0,0,0,0,0,0]),.lst 1 0 []]],0⟩,⟨4,95,4,((l.take k).map xN).map q8,0⟩]) (fun k=>∀ j,j < k->za7 l j=true) ?_ (by simp) (fun k hk hr=>?_) (fun hr=>?_)
 ·refine zj.trans (zj.zcG 3 5 95 4 rfl rfl (.inl rfl) rfl rfl) ?_
  exact cC
 ·obtain ⟨x,hx⟩:∃ x,x=l[k]:=⟨_,rfl⟩
  have hx2:l[k]?= some x:=by rw [List.getElem?_eq_getElem hk,hx]
  have hg:(l.map qA)[k]?= some (qA x):=by rw [List.getElem?_map,hx2];rfl
  have hxm:x ∈ l:=by rw [hx];exact List.getElem_mem hk
  have hno:za7 l k=(jG x && decide (zZ ((l.take k).map xN) x < 0)):=by unfold za7;rw [hx2]
  have bad:za7 l k=false->wV s l n=(yx,1):=fun h=>hb (by unfold vN;rw [List.all_eq_false];exact ⟨k,by simpa using hk,by simp [h]⟩)
  have hlg:(((l.take k).map xN).map q8).length=k:=by simp;omega
  have eg:((l.take (k+1)).map xN).map q8=((l.take k).map xN).map q8++[q8 (xN x)]:=by rw [List.take_succ_eq_append_getElem hk,<- hx];simp
  conv=>whnf
  (refine ⟨fun _=>?_,fun h=>absurd h (by simp;omega)⟩);refine dd ?_
  (refine ⟨by omega,_,by rw [toNat_cast];exact hg,?_⟩);refine dd ?_
  refine ⟨_,_,(ju x (by have:=hl.2 x hxm;omega)).frame rfl _,?_⟩;refine dd ?_
  refine ⟨fun h2=>?_,fun h2=>?_⟩
  rotate_left
  ·rw [bad (by rw [hno,h2];rfl)]
   refine dd ?_
   (repeat ((first | apply ya | apply yb);refine dd ?_))
   (refine .inr ⟨by simp,?_⟩);(conv=>whnf)
   exact ⟨.inl rfl,_,zj.var 1 rfl rfl rfl (.cons (.refl _) (.cons (.refl _) (.cons (.refl _) (.cons (WC.nil 0 1) (.cons (WC.nil 0 5) (.cons (WC.nil 0 4) (.cons (WC.nil 0 1) (.cons (WC.nil 0 3) .nil)))))))),rfl⟩
  refine dd ?_
  refine ⟨_,_,(kD ((l.take k).map xN) x (by simp;omega)).frame rfl _,?_⟩;refine dd ?_
  refine ⟨fun h3=>?_,fun h3=>?_⟩
  ·rw [bad (by rw [hno,show decide (zZ ((l.take k).map xN) x < 0)=false from by simp at h3 ⊢;omega,Bool.and_false])]
   refine dd ?_
   (repeat ((first | apply ya | apply yb);refine dd ?_))
   (refine .inr ⟨by simp,?_⟩);(conv=>whnf)
   exact ⟨.inl rfl,_,zj.var 1 rfl rfl rfl (.cons (.refl _) (.cons (.refl _) (.cons (.refl _) (.cons (WC.nil 0 1) (.cons (WC.nil 0 5) (.cons (WC.nil 0 4) (.cons (WC.nil 0 1) (.cons (WC.nil 0 3) .nil)))))))),rfl⟩
  refine dd ?_
  (repeat ((first | apply ya | apply yb);refine dd ?_))
  refine ⟨rfl,.inr rfl,by rw [hlg];simp [maxLen];omega,by rw [hlg];show (k+1) * 40<=_;omega,?_⟩
  refine dd ?_
  refine .inl ⟨rfl,?_,fun j hj=>?_⟩
  ·rw [zo (by omega),eg]
   exact cE 5
  ·by_cases e:j=k
   ·subst e
    rw [hno,h2]
    simp at h3 ⊢
    omega
   ·exact hr j (by omega)
 ·have zD:vN l=true:=by
   unfold vN
   rw [List.all_eq_true]
   intro i hi
   exact hr i (by simpa using hi)
  have e:wV s l n=(⟨0,0,0,List.replicate n.toNat 0,[(zS s).1],l.map xN,List.replicate n.toNat [0,0,0,0,0,0],[]⟩,0):=by unfold wV;rw [if_neg (by simp only [h0,zD];simp;omega)]
  rw [e]
  (conv=>whnf);(refine ⟨fun h=>absurd h (by simp),fun _=>?_⟩);refine dd ?_;(refine ⟨by simp,?_⟩);(conv=>whnf)
  rw [List.take_length]
  refine ⟨.inl rfl,_,zj.var 1 rfl rfl rfl (.cons (.refl _) (.cons (.refl _) (.cons (.refl _) (.cons (.refl _) (.cons (WC.share 1 5 _) (.cons (.refl _) (.cons (.refl _) (.cons (WC.nil 0 3) .nil)))))))),?_⟩
  have e9:z7 ⟨0,0,0,List.replicate n.toNat 0,[(zS s).1],l.map xN,List.replicate n.toNat [0,0,0,0,0,0],[]⟩=[I 0,I 0,I 0,.lst 0 1 (List.replicate n.toNat [I 0]),.lst 0 5 [qm (zS s).1],lL (l.map xN),lCo (List.replicate n.toNat [0,0,0,0,0,0]),.lst 0 3 []]:=by
   have e8:(List.replicate n.toNat (0:Int)).map encI=List.replicate n.toNat [I 0]:=List.map_replicate
   show [I 0,I 0,I 0,C.lst 0 1 ((List.replicate n.toNat (0:Int)).map encI),_,_,_,_]=_
   rw [e8]
   rfl
  show _=some (C.tup [C.agg (z7 ⟨0,0,0,List.replicate n.toNat 0,[(zS s).1],l.map xN,List.replicate n.toNat [0,0,0,0,0,0],[]⟩),I 0])
  rw [e9]
  rfl
end Go.Wor
namespace Go.Wor
open Go.Ab Go.Proofs Go.Hy Go.Gat Go.Nam Go.Hos Go.Con Go.Sna
theorem zaq {F:List (List C)} {z:List C} {k n:Nat} (hF:F.length=n) (h:k < n):(F.take k++(List.replicate n z).drop k)[k]?= some z:=by
 rw [List.getElem?_append_right (by simp;omega),List.length_take,List.getElem?_drop,List.getElem?_replicate,if_pos (by omega)]
theorem zar {F:List (List C)} {x z:List C} {k n:Nat} (hx:F[k]?= some x) (hn:k < n):(F.take k++(List.replicate n z).drop k).set k x=F.take (k+1)++(List.replicate n z).drop (k+1):=by
 obtain ⟨hk,rfl⟩:=List.getElem?_eq_some_iff.1 hx
 have e1:(F.take k).length=k:=by simp;omega
 rw [List.set_append_right _ _ (by omega),e1,Nat.sub_self,List.drop_replicate,List.drop_replicate,List.take_succ_eq_append_getElem hk,List.append_assoc]
 have e2:n - k=(n - (k+1))+1:=by omega
 rw [e2,List.replicate_succ]
 rfl
theorem k9 {F:List (List C)} {z:List C} {n:Nat} (hF:F.length=n):F.take n++(List.replicate n z).drop n=F:=by
 rw [List.take_of_length_le (by omega),List.drop_of_length_le (by simp),List.append_nil]
theorem yo (l:List Int) (hl:l.length < 1000000000):zb Tryz.prog 275 [] [lI l] (lI l) []:=by
 cases l with
 | nil=>
  refine zb.zk (fn:=Tryz.f275) Tryz.func275 rfl ?_
  conv=>whnf
  refine ⟨?_,?_⟩
  ·refine dd ?_
   exact ⟨.inl rfl,_,zj.cell 2 rfl (WC.nil 0 1),rfl⟩
  ·refine dd ?_
   refine .inr ⟨rfl,?_⟩
   refine dd ?_
   exact ⟨.inl rfl,_,zj.cell 2 rfl ((WC.none 1 1 1).trans (WC.share 1 1 [])),rfl⟩
 | cons x l=>
  have hl3:l.length+1 < 1000000000:=by simpa using hl
  refine zb.zk (fn:=Tryz.f275) Tryz.func275 rfl ?_
  conv=>whnf
  refine ⟨by simp,?_⟩
  conv=>whnf
  refine .inr ⟨.inl rfl,by simp [maxLen];omega,by show _ * 8<=_;simp;omega,?_⟩
  conv=>whnf
  exact ⟨.inl rfl,_,zj.zau 2 rfl rfl (.inr rfl) (by simp) (shut_map (fun _=>rfl) (x::l)),rfl⟩
theorem zjP (l:List Int) (hl:l.length < 1000000000):zb Tryz.prog 316 [] [lU l] (lU l) []:=by
 cases l with
 | nil=>
  refine zb.zk (fn:=Tryz.f316) Tryz.func316 rfl ?_
  conv=>whnf
  refine ⟨?_,?_⟩
  ·refine dd ?_
   exact ⟨.inl rfl,_,zj.cell 2 rfl (WC.nil 0 1),rfl⟩
  ·refine dd ?_
   refine .inr ⟨rfl,?_⟩
   refine dd ?_
   exact ⟨.inl rfl,_,zj.cell 2 rfl ((WC.none 1 1 1).trans (WC.share 1 1 [])),rfl⟩
 | cons x l=>
  have hl3:l.length+1 < 1000000000:=by simpa using hl
  refine zb.zk (fn:=Tryz.f316) Tryz.func316 rfl ?_
  conv=>whnf
  refine ⟨by simp,?_⟩
  conv=>whnf
  refine .inr ⟨.inl rfl,by simp [maxLen];omega,by show _ * 8<=_;simp;omega,?_⟩
  conv=>whnf
  exact ⟨.inl rfl,_,zj.zau 2 rfl rfl (.inr rfl) (by simp) (shut_map (fun _=>rfl) (x::l)),rfl⟩
theorem zjO (x:Lis) (l:List Lis) (hl:l.length < 1000000000):zb Tryz.prog 278 [] [lL (x::l)] (.sl 0 [] 4 0 (x::l).length false) [⟨2,95,4,(x::l).map q8,0⟩]:=by
 have e:0+((l.map q8).length+1)=(x::l).length:=by simp
 rw [<- e]
 refine zb.zA (fn:=Tryz.f278) Tryz.func278 rfl ?_
 conv=>whnf
 refine ⟨by simp,?_⟩
 conv=>whnf
 refine .inr ⟨.inl rfl,by simp [maxLen];omega,by show _ * 40<=_;simp;omega,?_⟩
 conv=>whnf
 exact ⟨.inl rfl,_,.refl _,rfl,rfl⟩
theorem kl (l:List Lis) (hl:l.length < 1000000000):zb Tryz.prog 278 [] [lL l] (lL l) []:=by
 cases l with
 | nil=>
  refine zb.zk (fn:=Tryz.f278) Tryz.func278 rfl ?_
  conv=>whnf
  refine ⟨?_,?_⟩
  ·refine dd ?_
   exact ⟨.inl rfl,_,zj.cell 2 rfl (WC.nil 0 4),rfl⟩
  ·refine dd ?_
   refine .inr ⟨rfl,?_⟩
   refine dd ?_
   exact ⟨.inl rfl,_,zj.cell 2 rfl ((WC.none 1 4 4).trans (WC.share 1 4 [])),rfl⟩
 | cons x l=>
  have hl3:l.length+1 < 1000000000:=by simpa using hl
  refine zb.zk (fn:=Tryz.f278) Tryz.func278 rfl ?_
  conv=>whnf
  refine ⟨by simp,?_⟩
  conv=>whnf
  refine .inr ⟨.inl rfl,by simp [maxLen];omega,by show _ * 40<=_;simp;omega,?_⟩
  conv=>whnf
  exact ⟨.inl rfl,_,zj.zau 2 rfl rfl (.inr rfl) (by simp) (shut_map (fun _=>rfl) (x::l)),rfl⟩
theorem zfJ (x:Ret) (l:List Ret) (hl:l.length < 1000000000):zb Tryz.prog 281 [] [lR (x::l)] (.sl 0 [] 3 0 (x::l).length false) [⟨2,113,3,(x::l).map qL,0⟩]:=by
 have e:0+((l.map qL).length+1)=(x::l).length:=by simp
 rw [<- e]
 refine zb.zA (fn:=Tryz.f281) Tryz.func281 rfl ?_
 conv=>whnf
 refine ⟨by simp,?_⟩
 conv=>whnf
 refine .inr ⟨.inl rfl,by simp [maxLen];omega,by show _ * 24<=_;simp;omega,?_⟩
 conv=>whnf
 exact ⟨.inl rfl,_,.refl _,rfl,rfl⟩
theorem zcr (l:List Ret) (hl:l.length < 1000000000):zb Tryz.prog 281 [] [lR l] (lR l) []:=by
 cases l with
 | nil=>
  refine zb.zk (fn:=Tryz.f281) Tryz.func281 rfl ?_
  conv=>whnf
  refine ⟨?_,?_⟩
  ·refine dd ?_
   exact ⟨.inl rfl,_,zj.cell 2 rfl (WC.nil 0 3),rfl⟩
  ·refine dd ?_
   refine .inr ⟨rfl,?_⟩
   refine dd ?_
   exact ⟨.inl rfl,_,zj.cell 2 rfl ((WC.none 1 3 3).trans (WC.share 1 3 [])),rfl⟩
 | cons x l=>
  have hl3:l.length+1 < 1000000000:=by simpa using hl
  refine zb.zk (fn:=Tryz.f281) Tryz.func281 rfl ?_
  conv=>whnf
  refine ⟨by simp,?_⟩
  conv=>whnf
  refine .inr ⟨.inl rfl,by simp [maxLen];omega,by show _ * 24<=_;simp;omega,?_⟩
  conv=>whnf
  exact ⟨.inl rfl,_,zj.zau 2 rfl rfl (.inr rfl) (by simp) (shut_map (fun _=>rfl) (x::l)),rfl⟩
theorem zg0 (e:En) (he:e.next.length < 1000000000):zb Tryz.prog 328 [] [.agg [],.agg (qh e)] (.agg (qh e)) []:=by
 refine zb.zk (fn:=Tryz.f328) Tryz.func328 rfl ?_
 conv=>whnf
 refine ⟨_,_,(yo e.next he).frame rfl _,?_⟩;refine dd ?_
 exact ⟨.inl rfl,_,.refl _,rfl⟩
theorem zk4 (l:List En) (hl:l.length < 1000000000) (hp:∀ x ∈ l,zb Tryz.prog 328 [] [.agg [],.agg (qh x)] (.agg (qh x)) []):zb Tryz.prog 327 [] [lE l,.fn 328 [] [],.agg []] (.sl 0 [] 3 0 l.length false) [⟨2,97,3,l.map qh,0⟩]:=by
 have m1:(l.map qh).length=l.length:=List.length_map ..
 refine zb.zA (fn:=Tryz.f327) Tryz.func327 rfl ?_
 conv=>whnf
 rw [m1]
 refine ⟨rfl,by omega,by show (40:Int) * _<=_;omega,by omega,?_⟩
 refine dd ?_
 rw [m1,toNat_cast]
 refine zH.seq l.length (fun k=>[lE l,.fn 328 [] [],.za,.za,.za,.ref 0 [] 0 0 0,.lst 1 0 [],.sl 1 [] 3 0 l.length false,.za,.za,.za,.za,.za,lE l,I l.length,I k,.za,.za,.za,.za,.za,.za,.za,.za,.za,.za,.za,.za,.za]) (fun k=>[⟨1,281,0,[[]],0⟩,⟨2,97,3,(l.map qh).take k++(List.replicate l.length [U 0,.lst 1 0 [],I 0]).drop k,0⟩]) (fun k=>True) ?_ trivial (fun k hk hr=>?_) (fun hr=>?_)
 ·exact cC
 ·obtain ⟨x,hx⟩:∃ x,x=l[k]:=⟨_,rfl⟩
  have hx2:l[k]?= some x:=by rw [List.getElem?_eq_getElem hk,hx]
  have hg:(l.map qh)[k]?= some (qh x):=by rw [List.getElem?_map,hx2];rfl
  conv=>whnf
  (refine ⟨fun _=>?_,fun h=>absurd h (by simp;omega)⟩);refine dd ?_
  (refine ⟨by omega,_,by rw [toNat_cast];exact hg,?_⟩);refine dd ?_
  refine ⟨_,_,(hp x (by rw [hx];exact List.getElem_mem hk)).frame rfl _,?_⟩;refine dd ?_
  refine ⟨by omega,by simp;omega,?_⟩
  refine dd ?_
  have e1:0+(k:Int).toNat=k:=by simp
  rw [e1]
  refine ⟨_,zaq (by simp) hk,rfl,?_⟩
  refine dd ?_
  refine .inl ⟨rfl,?_,trivial⟩
  have e2:=zar (z:=[U 0,.lst 1 0 [],I 0]) (n:=l.length) hg hk
  rw [zo (by omega),<- e2]
  exact cE 2
 ·(conv=>whnf);(refine ⟨fun h=>absurd h (by simp),fun _=>?_⟩);refine dd ?_;(refine ⟨by simp,?_⟩);(conv=>whnf)
  rw [k9 (by simp)]
  exact ⟨.inl rfl,_,zj.ren [1] [6] _ _ rfl rfl rfl rfl,rfl,rfl⟩
theorem qi {r:List C} (h:r.all zu=true):∀ q ∈ [r],∀ c ∈ q,zu c=true:=fun q hq c hc=>by
 rw [List.mem_singleton.1 hq] at hc
 exact List.all_eq_true.1 h c hc
def zl4 (g:Gr):Prop:=g.ends.length < 1000000000∧∀ e ∈ g.ends,e.next.length < 1000000000
def zh3 (v:Ver):Prop:=v.zm.length < 1000000000∧∀ g ∈ v.zm,zl4 g
structure ym (w:Wor):Prop where
 pins:w.pins.length < 1000000000
 zd:w.zd.length < 1000000000∧∀ v ∈ w.zd,zh3 v
 zc:w.zc.length < 1000000000
 counts:w.counts.length < 1000000000∧∀ r ∈ w.counts,r.length < 1000000000
 zg:w.zg.length < 1000000000
theorem zeU (g:Gr) (hg:zl4 g):zb Tryz.prog 315 [] [.agg [],.agg (j3 g)] (.agg (j3 g)) []:=by
 refine zb.zk (fn:=Tryz.f315) Tryz.func315 rfl ?_
 conv=>whnf
 refine zn [] (zk4 g.ends hg.1 fun e he=>zg0 e (hg.2 e he)) rfl rfl rfl rfl rfl rfl ?_;refine dd ?_
 exact ⟨.inl rfl,_,zj.qJ 2 0 1 rfl rfl rfl rfl (.inr rfl) rfl (by simp) (shut_map (enc:=qh) (fun _=>rfl) g.ends) (qi rfl),rfl⟩
theorem zk5 (l:List Gr) (hl:l.length < 1000000000) (hp:∀ x ∈ l,zb Tryz.prog 315 [] [.agg [],.agg (j3 x)] (.agg (j3 x)) []):zb Tryz.prog 314 [] [lG l,.fn 315 [] [],.agg []] (.sl 0 [] 2 0 l.length false) [⟨2,93,2,l.map j3,0⟩]:=by
 have m1:(l.map j3).length=l.length:=List.length_map ..
 refine zb.zA (fn:=Tryz.f314) Tryz.func314 rfl ?_
 conv=>whnf
 rw [m1]
 refine ⟨rfl,by omega,by show (32:Int) * _<=_;omega,by omega,?_⟩
 refine dd ?_
 rw [m1,toNat_cast]
 refine zH.seq l.length (fun k=>[lG l,.fn 315 [] [],.za,.za,.za,.ref 0 [] 0 0 0,.lst 1 0 [],.sl 1 [] 2 0 l.length false,.za,.za,.za,.za,.za,lG l,I l.length,I k,.za,.za,.za,.za,.za,.za,.za,.za,.za,.za,.za,.za,.za]) (fun k=>[⟨1,281,0,[[]],0⟩,⟨2,93,2,(l.map j3).take k++(List.replicate l.length ([U 0,.lst 1 0 []]:List C)).drop k,0⟩]) (fun k=>True) ?_ trivial (fun k hk hr=>?_) (fun hr=>?_)
 ·exact cC
 ·obtain ⟨x,hx⟩:∃ x,x=l[k]:=⟨_,rfl⟩
  have hx2:l[k]?= some x:=by rw [List.getElem?_eq_getElem hk,hx]
  have hg:(l.map j3)[k]?= some (j3 x):=by rw [List.getElem?_map,hx2];rfl
  conv=>whnf
  (refine ⟨fun _=>?_,fun h=>absurd h (by simp;omega)⟩);refine dd ?_
  (refine ⟨by omega,_,by rw [toNat_cast];exact hg,?_⟩);refine dd ?_
  refine ⟨_,_,(hp x (by rw [hx];exact List.getElem_mem hk)).frame rfl _,?_⟩;refine dd ?_
  refine ⟨by omega,by simp;omega,?_⟩
  refine dd ?_
  have e1:0+(k:Int).toNat=k:=by simp
  rw [e1]
  refine ⟨_,zaq (by simp) hk,rfl,?_⟩
  refine dd ?_
  refine .inl ⟨rfl,?_,trivial⟩
  have e2:=zar (z:=([U 0,.lst 1 0 []]:List C)) (n:=l.length) hg hk
  rw [zo (by omega),<- e2]
  exact cE 2
 ·(conv=>whnf);(refine ⟨fun h=>absurd h (by simp),fun _=>?_⟩);refine dd ?_;(refine ⟨by simp,?_⟩);(conv=>whnf)
  rw [k9 (by simp)]
  exact ⟨.inl rfl,_,zj.ren [1] [6] _ _ rfl rfl rfl rfl,rfl,rfl⟩
theorem jk (v:Ver) (hv:zh3 v):zb Tryz.prog 277 [] [.agg [],.agg (qm v)] (.agg (qm v)) []:=by
 refine zb.zk (fn:=Tryz.f277) Tryz.func277 rfl ?_
 conv=>whnf
 refine zn [] (zk5 v.zm hv.1 fun g hg=>zeU g (hv.2 g hg)) rfl rfl rfl rfl rfl rfl ?_;refine dd ?_
 exact ⟨.inl rfl,_,zj.qJ 2 0 3 rfl rfl rfl rfl (.inr rfl) rfl (by simp) (shut_map (enc:=j3) (fun _=>rfl) v.zm) (qi rfl),rfl⟩
theorem k8 (l:List Ver) (hl:l.length < 1000000000) (hp:∀ x ∈ l,zb Tryz.prog 277 [] [.agg [],.agg (qm x)] (.agg (qm x)) []):zb Tryz.prog 276 [] [lV l,.fn 277 [] [],.agg []] (.sl 0 [] 5 0 l.length false) [⟨2,72,5,l.map qm,0⟩]:=by
 have m1:(l.map qm).length=l.length:=List.length_map ..
 refine zb.zA (fn:=Tryz.f276) Tryz.func276 rfl ?_
 conv=>whnf
 rw [m1]
 refine ⟨rfl,by omega,by show (104:Int) * _<=_;omega,by omega,?_⟩
 refine dd ?_
 rw [m1,toNat_cast]
 refine zH.seq l.length (fun k=>[lV l,.fn 277 [] [],.za,.za,.za,.ref 0 [] 0 0 0,.lst 1 0 [],.sl 1 [] 5 0 l.length false,.za,.za,.za,.za,.za,lV l,I l.length,I k,.za,.za,.za,.za,.za,.za,.za,.za,.za,.za,.za,.za,.za]) (fun k=>[⟨1,281,0,[[]],0⟩,⟨2,72,5,(l.map qm).take k++(List.replicate l.length ([.lst 1 0 [],.lst 1 0 [],.lst 1 0 [],.lst 1 0 [],Bo false]:List C)).drop k,0⟩]) (fun k=>True) ?_ trivial (fun k hk hr=>?_) (fun hr=>?_)
 ·exact cC
 ·obtain ⟨x,hx⟩:∃ x,x=l[k]:=⟨_,rfl⟩
  have hx2:l[k]?= some x:=by rw [List.getElem?_eq_getElem hk,hx]
  have hg:(l.map qm)[k]?= some (qm x):=by rw [List.getElem?_map,hx2];rfl
  conv=>whnf
  (refine ⟨fun _=>?_,fun h=>absurd h (by simp;omega)⟩);refine dd ?_
  (refine ⟨by omega,_,by rw [toNat_cast];exact hg,?_⟩);refine dd ?_
  refine ⟨_,_,(hp x (by rw [hx];exact List.getElem_mem hk)).frame rfl _,?_⟩;refine dd ?_
  refine ⟨by omega,by simp;omega,?_⟩
  refine dd ?_
  have e1:0+(k:Int).toNat=k:=by simp
  rw [e1]
  refine ⟨_,zaq (by simp) hk,rfl,?_⟩
  refine dd ?_
  refine .inl ⟨rfl,?_,trivial⟩
  have e2:=zar (z:=([.lst 1 0 [],.lst 1 0 [],.lst 1 0 [],.lst 1 0 [],Bo false]:List C)) (n:=l.length) hg hk
  rw [zo (by omega),<- e2]
  exact cE 2
 ·(conv=>whnf);(refine ⟨fun h=>absurd h (by simp),fun _=>?_⟩);refine dd ?_;(refine ⟨by simp,?_⟩);(conv=>whnf)
  rw [k9 (by simp)]
  exact ⟨.inl rfl,_,zj.ren [1] [6] _ _ rfl rfl rfl rfl,rfl,rfl⟩
theorem xz (r:List Int) (hr:r.length < 1000000000):zb Tryz.prog 280 [] [.agg [],lU r] (lU r) []:=by
 refine zb.zk (fn:=Tryz.f280) Tryz.func280 rfl ?_
 conv=>whnf
 refine ⟨_,_,(zjP r hr).frame rfl _,?_⟩;refine dd ?_
 exact ⟨.inl rfl,_,.refl _,rfl⟩
end Go.Wor
namespace Go.Wor
open Go.Ab Go.Proofs Go.Hy Go.Gat Go.Nam Go.Hos Go.Con Go.Sna
theorem z5 {x:Ob} {H:ze} (h1:jy [x]=true) (h2:jy H=true):jy (x::H)=true:=by
 unfold jy at *
 simp only [List.all_cons,List.all_nil,Bool.and_true] at *
 rw [h1,h2];rfl
theorem yc {ty sz fz:Nat} {rows:List (List C)} (h:∀ r ∈ rows,∀ c ∈ r,zu c=true):jy [⟨1,ty,sz,rows,fz⟩]=true:=by
 unfold jy
 simp only [List.all_cons,List.all_nil,Bool.and_true]
 rw [List.all_eq_true]
 exact fun r hr=>List.all_eq_true.2 fun c hc=>h r hr c hc
structure zmX (g0:Gr) (e:Nat) (e0:En):Prop where
 sm:zl4 g0
 at_:g0.ends[e]?= some e0
 ne:e0.next≠[]
end Go.Wor
namespace Go.Wor
open Go.Ab Go.Proofs Go.Hy Go.Gat Go.Nam Go.Hos Go.Con Go.Sna
structure zmY (v0:Ver) (g:Nat) (g0:Gr) (e:Nat) (e0:En):Prop extends zmX g0 e e0 where
 smv:zh3 v0
 atg:v0.zm[g]?= some g0
structure znR (vs:List Ver) (v:Nat) (v0:Ver) (g:Nat) (g0:Gr) (e:Nat) (e0:En):Prop extends zmY v0 g g0 e e0 where
 znT:vs.length < 1000000000∧∀ v ∈ vs,zh3 v
 atv:vs[v]?= some v0
end Go.Wor
namespace Go.Wor
open Go.Ab Go.Proofs Go.Hy Go.Gat Go.Nam Go.Hos Go.Con Go.Sna
theorem kZ (l:List (List Int)) (hl:l.length < 1000000000) (hp:∀ x ∈ l,zb Tryz.prog 280 [] [.agg [],lU x] (lU x) []):zb Tryz.prog 279 [] [lCo l,.fn 280 [] [],.agg []] (.sl 0 [] 1 0 l.length false) [⟨2,161,1,l.map jW,0⟩]:=by
 have m1:(l.map jW).length=l.length:=List.length_map ..
 refine zb.zA (fn:=Tryz.f279) Tryz.func279 rfl ?_
 conv=>whnf
 rw [m1]
 refine ⟨rfl,by omega,by show (24:Int) * _<=_;omega,by omega,?_⟩
 refine dd ?_
 rw [m1,toNat_cast]
 refine zH.seq l.length (fun k=>[lCo l,.fn 280 [] [],.za,.za,.za,.ref 0 [] 0 0 0,.lst 1 0 [],.sl 1 [] 1 0 l.length false,.za,.za,.za,.za,.za,lCo l,I l.length,I k,.za,.za,.za,.za,.za,.za,.za,.za,.za,.za,.za,.za,.za]) (fun k=>[⟨1,281,0,[[]],0⟩,⟨2,161,1,(l.map jW).take k++(List.replicate l.length ([.lst 1 0 []]:List C)).drop k,0⟩]) (fun k=>True) ?_ trivial (fun k hk hr=>?_) (fun hr=>?_)
 ·exact cC
 ·obtain ⟨x,hx⟩:∃ x,x=l[k]:=⟨_,rfl⟩
  have hx2:l[k]?= some x:=by rw [List.getElem?_eq_getElem hk,hx]
  have hg:(l.map jW)[k]?= some (jW x):=by rw [List.getElem?_map,hx2];rfl
  conv=>whnf
  (refine ⟨fun _=>?_,fun h=>absurd h (by simp;omega)⟩);refine dd ?_
  (refine ⟨by omega,_,by rw [toNat_cast];exact hg,?_⟩);refine dd ?_
  refine ⟨_,_,(hp x (by rw [hx];exact List.getElem_mem hk)).frame rfl _,?_⟩;refine dd ?_
  refine ⟨by omega,by simp;omega,?_⟩
  refine dd ?_
  have e1:0+(k:Int).toNat=k:=by simp
  rw [e1]
  refine ⟨_,zaq (by simp) hk,rfl,?_⟩
  refine dd ?_
  refine .inl ⟨rfl,?_,trivial⟩
  have e2:=zar (z:=([.lst 1 0 []]:List C)) (n:=l.length) hg hk
  rw [zo (by omega),<- e2]
  exact cE 2
 ·(conv=>whnf);(refine ⟨fun h=>absurd h (by simp),fun _=>?_⟩);refine dd ?_;(refine ⟨by simp,?_⟩);(conv=>whnf)
  rw [k9 (by simp)]
  exact ⟨.inl rfl,_,zj.ren [1] [6] _ _ rfl rfl rfl rfl,rfl,rfl⟩
theorem zfa {P:Program} {f:FuncId} {fn:Func} {c:Code} {H2:ze} {args:List C} {r:C} (hf:P.funcs[f]?= some fn) (hb:fn.body=some c)
  (h:wpA P 0 c (entry fn args) [] fun ex t1 H1=>(ex=.ret∨ex=.normal)∧∃ s2 r1,zj 0 ⟨t1,H1⟩ s2∧y5 P fn s2=some r1∧zj 0 ⟨[r1],s2.H⟩ ⟨[r],H2⟩):zb P f [] args r H2:=fun w E vs hh hl=>by
 have h1:zW P f [] args fun r1 H1=>zj 0 ⟨[r1],H1⟩ ⟨[r],H2⟩:=zW.zA hf hb h
 refine (h1 w E vs hh hl).mono ?_
 rintro e w' ⟨r1,H1,v,E',hw,h0,h2,h3,g⟩
 obtain ⟨E2,hs,g2⟩:=hw 0 w' E' ⟨#[v],[]⟩ ⟨h2,LL.one h3,Nat.zero_le _,Nat.zero_le _⟩
 have hn2:=hs.heap.n
 have hn0:E.n=0:=hh.n
 refine ⟨v,E2,h0,hs.heap,hs.tmps.cons_inv.1,⟨⟨by rw [hn0];exact Nat.zero_le _,fun id hops hi=>by rw [hn0] at hi;omega,fun id hops hi=>by rw [hn0] at hi;omega,fun b o u hu=>g2.le.St _ _ _ (g.le.St _ _ _ hu),fun id k u hi hu=>by rw [hn0] at hi;omega⟩,g2.os.trans g.os,g2.tape.trans g.tape,g2.output.trans g.output,Nat.le_trans g.size g2.size,?_,?_,?_⟩⟩
 ·intro k hk ho
  exact (g2.frame k (Nat.lt_of_lt_of_le hk g.size) fun hc=>(g.own k hc).elim (fun h=>by omega) ho).trans (g.frame k hk ho)
 ·intro b o u hu
  rcases g2.qv b o u hu with h1 | h1 | h1
  ·exact g.qv b o u h1
  ·exact .inr (.inl (Nat.le_trans g.size h1))
  ·rcases g.own b h1 with h4 | h4
   ·exact .inr (.inl h4)
   ·exact .inr (.inr h4)
 ·intro b hb
  rcases g2.own b hb with h1 | h1
  ·exact .inl (Nat.le_trans g.size h1)
  ·exact g.own b h1
theorem yR (w:Wor) (h:ym w):zb Tryz.prog 215 [] [Cw w] (Cw w) []:=by
 refine zb.zk (fn:=Tryz.f215) Tryz.func215 rfl ?_
 conv=>whnf
 refine ⟨_,_,(yo w.pins h.pins).frame rfl _,?_⟩;refine dd ?_
 refine zn [] (k8 w.zd h.zd.1 fun v hv=>jk v (h.zd.2 v hv)) rfl rfl rfl rfl rfl rfl ?_;refine dd ?_
 refine ⟨_,_,(kl w.zc h.zc).frame rfl _,?_⟩;refine dd ?_
 refine zn [] (kZ w.counts h.counts.1 fun r hr=>xz r (h.counts.2 r hr)) rfl rfl rfl rfl rfl rfl ?_;refine dd ?_
 refine ⟨_,_,(zcr w.zg h.zg).frame rfl _,?_⟩;refine dd ?_
 exact ⟨.inl rfl,_,(zj.qJ 1 0 4 rfl rfl rfl rfl (.inr rfl) rfl (by simp) (shut_map (enc:=qm) (fun _=>rfl) w.zd) (qi rfl)).trans (zj.qJ 1 0 6 rfl rfl rfl rfl (.inr rfl) rfl (by simp) (shut_map (enc:=jW) (fun _=>rfl) w.counts) (qi rfl)),rfl⟩
structure znQ (cs:List (List Int)) (t:Nat) (r0:List Int):Prop where
 sm:cs.length < 1000000000∧∀ r ∈ cs,r.length < 1000000000
 at_:cs[t]?= some r0
 ne:r0≠[]
theorem zeC (w:Wor) (h:ym w) (x:Lis) (l:List Lis) (hx:w.zc=x::l):zb Tryz.prog 215 [] [Cw w] (.agg [I w.zi,I w.current,I w.lock,lI w.pins,lV w.zd,.sl 0 [] 4 0 w.zc.length false,lCo w.counts,lR w.zg]) [⟨2,95,4,w.zc.map q8,0⟩]:=by
 have hl:l.length < 1000000000:=by have:=h.zc;rw [hx] at this;simp at this;omega
 have hc:=zjO x l hl
 rw [<- hx] at hc
 refine zfa (fn:=Tryz.f215) Tryz.func215 rfl ?_;conv=>whnf
 refine ⟨_,_,(yo w.pins h.pins).frame rfl _,?_⟩;refine dd ?_
 refine zn [] (k8 w.zd h.zd.1 fun v hv=>jk v (h.zd.2 v hv)) rfl rfl rfl rfl rfl rfl ?_;refine dd ?_
 refine zn [] (hc) rfl rfl rfl rfl rfl rfl ?_;refine dd ?_
 refine zn [] (kZ w.counts h.counts.1 fun r hr=>xz r (h.counts.2 r hr)) rfl rfl rfl rfl rfl rfl ?_;refine dd ?_
 refine ⟨_,_,(zcr w.zg h.zg).frame rfl _,?_⟩;refine dd ?_
 refine ⟨.inl rfl,_,_,(zj.qJ 1 0 4 rfl rfl rfl rfl (.inr rfl) rfl (by simp) (shut_map (enc:=qm) (fun _=>rfl) w.zd) (qi rfl)).trans (zj.qJ 1 0 6 rfl rfl rfl rfl (.inr rfl) rfl (by simp) (shut_map (enc:=jW) (fun _=>rfl) w.counts) (qi rfl)),rfl,?_⟩
 exact zj.ren [4] [0] _ _ rfl rfl rfl (z5 rfl (z5 rfl (z5 rfl (z5 (yc fun r hr c hc=>((shut_map (enc:=qm) (fun _=>rfl) w.zd) r hr c hc).2) (z5 rfl (yc fun r hr c hc=>((shut_map (enc:=jW) (fun _=>rfl) w.counts) r hr c hc).2))))))
end Go.Wor
namespace Go.Wor
open Go.Ab Go.Proofs Go.Hy Go.Gat Go.Nam Go.Hos Go.Con Go.Sna
def inV (i n:Int):Bool:=decide (0<=i) && decide (i < n)
theorem yu (i n:Int):zb Tryz.prog 49 [] [I i,I n] (Bo (inV i n)) []:=by
 refine zb.zk (fn:=Tryz.f49) Tryz.func49 rfl ?_
 conv=>whnf
 refine ⟨fun h1=>?_,fun h1=>?_⟩
 ·refine dd ?_
  refine ⟨fun h2=>?_,fun h2=>?_⟩
  ·refine dd ?_
   (exact ⟨.inl rfl,_,.refl _,congrArg (fun b=>some (C.v (Value.bool b))) (by unfold inV;simp at h1 h2 ⊢;omega)⟩)
  ·refine dd ?_
   (exact ⟨.inl rfl,_,.refl _,congrArg (fun b=>some (C.v (Value.bool b))) (by unfold inV;simp at h1 h2 ⊢;omega)⟩)
 ·refine dd ?_
  (exact ⟨.inl rfl,_,.refl _,congrArg (fun b=>some (C.v (Value.bool b))) (by unfold inV;simp at h1 ⊢;omega)⟩)
theorem zhf {H:ze} {f:FuncId} {caps:List C} {l:List Int} (p:Int->Bool) (hcb:zy Tryz.prog f=true) (hp:∀ r ∈ l,zb Tryz.prog f H ([I r]++caps) (Bo (p r)) H) (hl:l.length < 4611686018427387904):
  zb Tryz.prog 56 H [lI l,.fn f [] caps] (I (match l.findIdx? p with | some i=>(i:Int) | none=> -1)) H:=by
 refine zb.zA (fn:=Tryz.f56) Tryz.func56 rfl ?_
 conv=>whnf
 refine zH.inv (fun n t1 H1=>∃ k,k+n=l.length∧H1=H∧(∀ j,j < k->∀ r,l[j]?= some r->p r=false)∧
   t1=[lI l,.fn f [] caps,.za,.za,I 0,.za,.za,I (l.map encI).length,I k,.za,.za,.za,.za,.za,.za,.za,.za,.za,.za]) l.length ?_ ?_
 ·exact ⟨_,_,zj.mask [0,1,4,7,8] _ _,0,by simp,rfl,by simp,rfl⟩
 rintro n _ _ ⟨k,hk,rfl,hno,rfl⟩
 conv=>whnf
 refine ⟨fun h=>?_,fun h=>?_⟩
 ·conv=>whnf
  have hlt:k < l.length:=by simpa using h
  refine ⟨by omega,encI l[k],by simp [hlt],?_⟩
  conv=>whnf
  rw [hcb]
  refine ⟨_,_,hp _ (List.getElem_mem hlt),?_⟩
  conv=>whnf
  refine ⟨fun h2=>?_,fun h2=>?_⟩
  ·conv=>whnf
   refine .inr ⟨by simp,?_⟩
   conv=>whnf
   refine ⟨.inl rfl,_,.refl _,rfl,?_⟩
   have:l.findIdx? p=some k:=by
    rw [List.findIdx?_eq_some_iff_getElem]
    refine ⟨hlt,h2,fun j hj=>?_⟩
    simp [hno j hj _ (List.getElem?_eq_getElem (by omega))]
   rw [this]
   rfl
  ·conv=>whnf
   refine .inl ⟨rfl,n - 1,_,_,by omega,zj.mask [0,1,4,7,8] _ _,k+1,by omega,rfl,?_,?_⟩
   ·intro j hj r hr
    by_cases hjk:j=k
    ·subst hjk
     rw [List.getElem?_eq_getElem hlt] at hr
     cases hr
     exact h2
    ·exact hno j (by omega) r hr
   ·rw [zo (by omega)];rfl
 ·conv=>whnf
  refine .inr ⟨by simp,?_⟩
  conv=>whnf
  refine ⟨.inl rfl,_,.refl _,rfl,?_⟩
  have:l.findIdx? p=none:=by
   rw [List.findIdx?_eq_none_iff]
   intro x hx
   obtain ⟨j,hj⟩:=List.mem_iff_getElem?.1 hx
   have hjl:=(List.getElem?_eq_some_iff.1 hj).1
   have:¬k < l.length:=by simpa using h
   exact hno j (by omega) x hj
  rw [this]
  rfl
theorem wN {H:ze} {f:FuncId} {caps:List C} {l:List Int} (p:Int->Bool) (hcb:zy Tryz.prog f=true) (hp:∀ r ∈ l,zb Tryz.prog f H ([I r]++caps) (Bo (p r)) H) (hl:l.length < 4611686018427387904):
  zb Tryz.prog 97 H [lI l,.fn f [] caps] (Bo (l.any p)) H:=by
 refine zb.zA (fn:=Tryz.f97) Tryz.func97 rfl ?_
 conv=>whnf
 refine ⟨_,_,zhf p hcb hp hl,?_⟩
 refine dd ?_
 rw [show decide ((match l.findIdx? p with | some i=>((i:Nat):Int) | none=>(-1:Int))≥(0:Int))=l.any p from yX l p]
 refine ⟨fun h=>?_,fun h=>?_⟩ <;> rw [h]
 ·refine dd ?_
  exact ⟨.inl rfl,_,.refl _,rfl,rfl⟩
 ·refine dd ?_
  exact ⟨.inl rfl,_,.refl _,rfl,rfl⟩
theorem zhe {H:ze} {f:FuncId} {caps:List C} {l:List En} (p:En->Bool) (hcb:zy Tryz.prog f=true) (hp:∀ r ∈ l,zb Tryz.prog f H ([Go.Slp.Ev r]++caps) (Bo (p r)) H) (hl:l.length < 4611686018427387904):
  zb Tryz.prog 162 H [lE l,.fn f [] caps] (I (match l.findIdx? p with | some i=>(i:Int) | none=> -1)) H:=by
 refine zb.zA (fn:=Tryz.f162) Tryz.func162 rfl ?_
 conv=>whnf
 refine zH.inv (fun n t1 H1=>∃ k,k+n=l.length∧H1=H∧(∀ j,j < k->∀ r,l[j]?= some r->p r=false)∧
   t1=[lE l,.fn f [] caps,.za,.za,I 0,.za,.za,I (l.map qh).length,I k,.za,.za,.za,.za,.za,.za,.za,.za,.za,.za]) l.length ?_ ?_
 ·exact ⟨_,_,zj.mask [0,1,4,7,8] _ _,0,by simp,rfl,by simp,rfl⟩
 rintro n _ _ ⟨k,hk,rfl,hno,rfl⟩
 conv=>whnf
 refine ⟨fun h=>?_,fun h=>?_⟩
 ·conv=>whnf
  have hlt:k < l.length:=by simpa using h
  refine ⟨by omega,qh l[k],by simp [hlt],?_⟩
  conv=>whnf
  rw [hcb]
  refine ⟨_,_,hp _ (List.getElem_mem hlt),?_⟩
  conv=>whnf
  refine ⟨fun h2=>?_,fun h2=>?_⟩
  ·conv=>whnf
   refine .inr ⟨by simp,?_⟩
   conv=>whnf
   refine ⟨.inl rfl,_,.refl _,rfl,?_⟩
   have:l.findIdx? p=some k:=by
    rw [List.findIdx?_eq_some_iff_getElem]
    refine ⟨hlt,h2,fun j hj=>?_⟩
    simp [hno j hj _ (List.getElem?_eq_getElem (by omega))]
   rw [this]
   rfl
  ·conv=>whnf
   refine .inl ⟨rfl,n - 1,_,_,by omega,zj.mask [0,1,4,7,8] _ _,k+1,by omega,rfl,?_,?_⟩
   ·intro j hj r hr
    by_cases hjk:j=k
    ·subst hjk
     rw [List.getElem?_eq_getElem hlt] at hr
     cases hr
     exact h2
    ·exact hno j (by omega) r hr
   ·rw [zo (by omega)];rfl
 ·conv=>whnf
  refine .inr ⟨by simp,?_⟩
  conv=>whnf
  refine ⟨.inl rfl,_,.refl _,rfl,?_⟩
  have:l.findIdx? p=none:=by
   rw [List.findIdx?_eq_none_iff]
   intro x hx
   obtain ⟨j,hj⟩:=List.mem_iff_getElem?.1 hx
   have hjl:=(List.getElem?_eq_some_iff.1 hj).1
   have:¬k < l.length:=by simpa using h
   exact hno j (by omega) x hj
  rw [this]
  rfl
theorem zcu {H:ze} {f:FuncId} {caps:List C} {l:List En} (p:En->Bool) (hcb:zy Tryz.prog f=true) (hp:∀ r ∈ l,zb Tryz.prog f H ([Go.Slp.Ev r]++caps) (Bo (p r)) H) (hl:l.length < 4611686018427387904):
  zb Tryz.prog 108 H [lE l,.fn f [] caps] (Bo (l.any p)) H:=by
 refine zb.zA (fn:=Tryz.f108) Tryz.func108 rfl ?_
 conv=>whnf
 refine ⟨_,_,zhe p hcb hp hl,?_⟩
 refine dd ?_
 rw [show decide ((match l.findIdx? p with | some i=>((i:Nat):Int) | none=>(-1:Int))≥(0:Int))=l.any p from yX l p]
 refine ⟨fun h=>?_,fun h=>?_⟩ <;> rw [h]
 ·refine dd ?_
  exact ⟨.inl rfl,_,.refl _,rfl,rfl⟩
 ·refine dd ?_
  exact ⟨.inl rfl,_,.refl _,rfl,rfl⟩
def y4 (ep p:Int):Bool:=decide (p < 0) || decide (p > ep+1)
theorem zdx (w:Wor) (p:Int) (h0:0<=w.zi) (h1:w.zi<=1000000000000):zb Tryz.prog 104 [⟨1,28,8,[z7 w],0⟩] ([I p]++[.ref 0 [] 8 0 0]) (Bo (y4 w.zi p)) [⟨1,28,8,[z7 w],0⟩]:=by
 have e:IntKind.i64.wrap (w.zi+1)=w.zi+1:=ql (by omega) (by omega)
 refine zb.zA (fn:=Tryz.f104) Tryz.func104 rfl ?_
 conv=>whnf
 refine ⟨fun h2=>?_,fun h2=>?_⟩
 ·refine dd ?_
  exact ⟨.inl rfl,_,.refl _,rfl,congrArg (fun b=>some (C.v (Value.bool b))) (by unfold y4;rw [h2];rfl)⟩
 ·refine dd ?_
  rw [e]
  refine ⟨fun h3=>?_,fun h3=>?_⟩
  ·refine dd ?_
   exact ⟨.inl rfl,_,.refl _,rfl,congrArg (fun b=>some (C.v (Value.bool b))) (by unfold y4;rw [h2,h3];rfl)⟩
  ·refine dd ?_
   exact ⟨.inl rfl,_,.refl _,rfl,congrArg (fun b=>some (C.v (Value.bool b))) (by unfold y4;rw [h2,h3];rfl)⟩
def qB (w:Wor):Bool:=decide (1<=w.pins.length) && decide (w.pins.length<=8) && decide (w.counts.length=w.pins.length) && vP w.counts && decide (0<=w.zi) && decide (w.zi<=1000000000000) && (decide (w.lock=0) || decide (w.lock=1)) && !w.pins.any (y4 w.zi)
theorem zeT (w:Wor) (hp:w.pins.length < 4000000000000000000) (hc:w.counts.length < 4000000000000000000):zb Tryz.prog 59 [] [Cw w] (Bo (qB w)) []:=by
 have m1:(w.pins.map encI).length=w.pins.length:=List.length_map ..
 have m2:(w.counts.map jW).length=w.counts.length:=List.length_map ..
 refine zb.zk (fn:=Tryz.f59) Tryz.func59 rfl ?_
 conv=>whnf
 rw [m1]
 refine ⟨fun h1=>?_,fun h1=>?_⟩
 ·(have e:qB w=false:=by (unfold qB;(rw [show decide (1<=w.pins.length)=false from by rw [decide_eq_false_iff_not];have:=of_decide_eq_true h1;omega]);simp));rw [e];refine dd ?_;(repeat ((first | apply ya | apply yb);refine dd ?_));exact ⟨.inl rfl,_,.refl _,rfl⟩
 refine dd ?_
 refine ⟨fun h2=>?_,fun h2=>?_⟩
 ·(have e:qB w=false:=by (unfold qB;(rw [show decide (w.pins.length<=8)=false from by simp at h2 ⊢;omega]);simp));rw [e];refine dd ?_;(repeat ((first | apply ya | apply yb);refine dd ?_));exact ⟨.inl rfl,_,.refl _,rfl⟩
 refine dd ?_
 rw [m2]
 refine ⟨fun h3=>?_,fun h3=>?_⟩
 ·(have e:qB w=false:=by (unfold qB;(rw [show decide (w.counts.length=w.pins.length)=false from by rw [decide_eq_false_iff_not];intro hh;simp [hh] at h3]);simp));rw [e];refine dd ?_;(repeat ((first | apply ya | apply yb);refine dd ?_));exact ⟨.inl rfl,_,.refl _,rfl⟩
 refine dd ?_
 refine ⟨_,_,(zdF w.counts hc).frame rfl _,?_⟩;refine dd ?_
 refine ⟨fun h4=>?_,fun h4=>?_⟩
 rotate_left
 ·(have e:qB w=false:=by (unfold qB;(rw [h4]);simp));rw [e];refine dd ?_;(repeat ((first | apply ya | apply yb);refine dd ?_));exact ⟨.inl rfl,_,.refl _,rfl⟩
 refine dd ?_
 refine ⟨fun h5=>?_,fun h5=>?_⟩
 ·(have e:qB w=false:=by (unfold qB;(rw [show decide (0<=w.zi)=false from by simp at h5 ⊢;omega]);simp));rw [e];refine dd ?_;(repeat ((first | apply ya | apply yb);refine dd ?_));exact ⟨.inl rfl,_,.refl _,rfl⟩
 refine dd ?_
 refine ⟨fun h6=>?_,fun h6=>?_⟩
 ·(have e:qB w=false:=by (unfold qB;(rw [show decide (w.zi<=1000000000000)=false from by simp at h6 ⊢;omega]);simp));rw [e];refine dd ?_;(repeat ((first | apply ya | apply yb);refine dd ?_));exact ⟨.inl rfl,_,.refl _,rfl⟩
 refine dd ?_
 have b0:0<=w.zi:=by simp at h5;omega
 have b1:w.zi<=1000000000000:=by simp at h6;omega
 have hcon:=wN (H:=[⟨1,28,8,[z7 w],0⟩]) (f:=104) (l:=w.pins) (caps:=[.ref 0 [] 8 0 0]) (y4 w.zi) (by kernel_rfl) (fun r _=>zdx w r b0 b1) (by omega)
 have g0:qB w=((decide (w.lock=0) || decide (w.lock=1)) && !w.pins.any (y4 w.zi)):=by
  have h3':w.counts.length=w.pins.length:=by simp at h3;omega
  unfold qB
  rw [show decide (1<=w.pins.length)=true from by rw [decide_eq_true_iff];have:=of_decide_eq_false h1;omega,show decide (w.pins.length<=8)=true from by simp at h2 ⊢;omega,show decide (w.counts.length=w.pins.length)=true from by simpa using h3',h4,show decide (0<=w.zi)=true from by simpa using b0,show decide (w.zi<=1000000000000)=true from by simpa using b1]
  rfl
 have fin:∀ hl:(decide (w.lock=0) || decide (w.lock=1))=true,qB w=!w.pins.any (y4 w.zi):=fun hl=>by rw [g0,hl];rfl
 refine ⟨fun h7=>?_,fun h7=>?_⟩
 ·refine dd ?_
  refine ⟨fun h8=>?_,fun h8=>?_⟩
  ·have e:qB w=false:=by rw [g0,show (decide (w.lock=0) || decide (w.lock=1))=false from by simp at h7 h8 ⊢;omega];rfl
   rw [e]
   refine dd ?_
   (repeat ((first | apply ya | apply yb);refine dd ?_))
   exact ⟨.inl rfl,_,.refl _,rfl⟩
  rw [fin (by simp at h8 ⊢;omega)]
  refine dd ?_
  (repeat ((first | apply ya | apply yb);refine dd ?_))
  refine zn [0] (hcon) rfl rfl rfl rfl rfl rfl ?_;refine dd ?_
  refine ⟨fun h9=>?_,fun h9=>?_⟩
  ·refine dd ?_
   (exact ⟨.inl rfl,_,.refl _,congrArg (fun b=>some (C.v (Value.bool b))) (by rw [h9];rfl)⟩)
  ·refine dd ?_
   (exact ⟨.inl rfl,_,.refl _,congrArg (fun b=>some (C.v (Value.bool b))) (by rw [h9];rfl)⟩)
 ·rw [fin (by simp at h7 ⊢;omega)]
  refine dd ?_
  (repeat ((first | apply ya | apply yb);refine dd ?_))
  refine zn [0] (hcon) rfl rfl rfl rfl rfl rfl ?_;refine dd ?_
  refine ⟨fun h9=>?_,fun h9=>?_⟩
  ·refine dd ?_
   (exact ⟨.inl rfl,_,.refl _,congrArg (fun b=>some (C.v (Value.bool b))) (by rw [h9];rfl)⟩)
  ·refine dd ?_
   (exact ⟨.inl rfl,_,.refl _,congrArg (fun b=>some (C.v (Value.bool b))) (by rw [h9];rfl)⟩)
def vC (x:Clu) (e:En):Bool:=!Go.Slp.isV e || (e.next.length:Int) != x.jR
theorem zdl (x:Clu) (e:En) (he:e.ok):zb Tryz.prog 107 [⟨1,148,4,[jJ x],0⟩] ([Go.Slp.Ev e]++[.ref 0 [] 4 0 0]) (Bo (vC x e)) [⟨1,148,4,[jJ x],0⟩]:=by
 have m1:(e.next.map encI).length=e.next.length:=List.length_map ..
 refine zb.zA (fn:=Tryz.f107) Tryz.func107 rfl ?_
 conv=>whnf
 refine ⟨_,_,(Go.Slp.kz e he).frame rfl _,?_⟩;refine dd ?_
 refine ⟨fun h1=>?_,fun h1=>?_⟩
 rotate_left
 ·refine dd ?_
  exact ⟨.inl rfl,_,zj.keep [3] 1 _ _ rfl rfl rfl rfl,rfl,congrArg (fun b=>some (C.v (Value.bool b))) (by unfold vC;rw [h1];rfl)⟩
 ·refine dd ?_
  rw [m1]
  refine ⟨fun h2=>?_,fun h2=>?_⟩
  ·refine dd ?_
   exact ⟨.inl rfl,_,zj.keep [3] 1 _ _ rfl rfl rfl rfl,rfl,congrArg (fun b=>some (C.v (Value.bool b))) (by unfold vC;rw [h1,h2];rfl)⟩
  ·refine dd ?_
   exact ⟨.inl rfl,_,zj.keep [3] 1 _ _ rfl rfl rfl rfl,rfl,congrArg (fun b=>some (C.v (Value.bool b))) (by unfold vC;rw [h1,h2];rfl)⟩
structure OkV (v:Ver):Prop where
 snap:yn v.snap
 zm:v.zm.length < 1000000000000
 ends : ∀ g ∈ v.zm, g.ends.length < 1000000000000 ∧ ∀ e ∈ g.ends, e.ok
def zbx (v:Ver) (i:Nat):Bool:=match v.zm[i]?,v.snap.zf[i]? with
 | some g,some x=>decide (g.ends.length=x.zV.length) && !g.ends.any (vC x)
 | _,_=>true
def zbh (v:Ver):Bool:=yE v.snap && decide (v.zm.length=v.snap.zf.length) && (List.range v.zm.length).all (zbx v)
theorem zdJ (v:Ver) (hv:OkV v):zb Tryz.prog 61 [] [Cv v] (Bo (zbh v)) []:=by
 have m1:(v.zm.map j3).length=v.zm.length:=List.length_map ..
 have m2:(v.snap.zf.map jJ).length=v.snap.zf.length:=List.length_map ..
 have hgl:=hv.zm
 refine zb.zk (fn:=Tryz.f61) Tryz.func61 rfl ?_
 conv=>whnf
 refine ⟨_,_,(zaL v.snap hv.snap).frame rfl _,?_⟩;refine dd ?_
 refine ⟨fun h1=>?_,fun h1=>?_⟩
 rotate_left
 ·have e:zbh v=false:=by unfold zbh;rw [h1];rfl
  rw [e]
  refine dd ?_
  (repeat ((first | apply ya | apply yb);refine dd ?_))
  exact ⟨.inl rfl,_,.refl _,rfl⟩
 refine dd ?_
 rw [m1,m2]
 refine ⟨fun h2=>?_,fun h2=>?_⟩
 ·have e:zbh v=false:=by unfold zbh;rw [show decide (v.zm.length=v.snap.zf.length)=false from by rw [decide_eq_false_iff_not];intro hh;simp [hh] at h2,Bool.and_false];rfl
  rw [e]
  refine dd ?_
  (repeat ((first | apply ya | apply yb);refine dd ?_))
  exact ⟨.inl rfl,_,.refl _,rfl⟩
 have h2':v.zm.length=v.snap.zf.length:=by simp at h2;omega
 refine dd ?_
 (repeat ((first | apply ya | apply yb);refine dd ?_))
 rw [m1]
 refine zH.seq v.zm.length (fun k=>[.za,.ref 0 [] 5 0 0,Bo false,.za,.za,.za,.za,.za,.za,.za,.za,.za,.za,.za,.za,.za,.za,.za,.za,.za,.za,.za,lG v.zm,I v.zm.length,I k,.za,.za,.za,.za,.za,.za,.za,.za,.za,.za,.za,.za,.za,.za,.za,.za,.za,.za,.za,.za,.za,.za,.za,.za,.za]) (fun k=>[⟨1,72,5,[qm v],0⟩]) (fun k=>∀ j,j < k->zbx v j=true) ?_ (by simp) (fun k hk hr=>?_) (fun hr=>?_)
 ·exact cC
 ·obtain ⟨g,hg⟩:∃ g,g=v.zm[k]:=⟨_,rfl⟩
  obtain ⟨x,hx⟩:∃ x,x=v.snap.zf[k]'(by omega):=⟨_,rfl⟩
  have gg:(v.zm.map j3)[k]?= some (j3 g):=by rw [List.getElem?_map,List.getElem?_eq_getElem hk,hg];rfl
  have gx:(v.snap.zf.map jJ)[k]?= some (jJ x):=by rw [List.getElem?_map,List.getElem?_eq_getElem (by omega),hx];rfl
  have hgm:g ∈ v.zm:=by rw [hg];exact List.getElem_mem hk
  have me:(g.ends.map qh).length=g.ends.length:=List.length_map ..
  have mh:(x.zV.map yK).length=x.zV.length:=List.length_map ..
  have hd:zbx v k=(decide (g.ends.length=x.zV.length) && !g.ends.any (vC x)):=by
   unfold zbx
   rw [List.getElem?_eq_getElem hk,List.getElem?_eq_getElem (by omega),<- hg,<- hx]
  have bad:zbx v k=false->zbh v=false:=fun h=>by
   have:(List.range v.zm.length).all (zbx v)=false:=by rw [List.all_eq_false];exact ⟨k,by simpa using hk,by simp [h]⟩
   unfold zbh
   rw [this,Bool.and_false]
  have hcon:=zcu (H:=[⟨1,148,4,[jJ x],0⟩]) (f:=107) (l:=g.ends) (caps:=[.ref 0 [] 4 0 0]) (vC x) (by kernel_rfl) (fun r hr=>zdl x r ((hv.ends g hgm).2 r hr)) (by have:=(hv.ends g hgm).1;omega)
  conv=>whnf
  (refine ⟨fun _=>?_,fun h=>absurd h (by simp;omega)⟩);refine dd ?_
  (refine ⟨by omega,_,by rw [toNat_cast];exact gg,?_⟩);refine dd ?_
  (refine ⟨by omega,_,by rw [toNat_cast];exact gx,?_⟩);refine dd ?_
  rw [me,mh]
  refine ⟨fun h3=>?_,fun h3=>?_⟩
  ·rw [bad (by rw [hd,show decide (g.ends.length=x.zV.length)=false from by rw [decide_eq_false_iff_not];intro hh;simp [hh] at h3];rfl)]
   refine dd ?_
   (repeat ((first | apply ya | apply yb);refine dd ?_))
   (refine .inr ⟨by simp,?_⟩);(conv=>whnf)
   exact ⟨.inl rfl,_,.refl _,rfl⟩
  refine dd ?_
  refine zn [2] (hcon) rfl rfl rfl rfl rfl rfl ?_;refine dd ?_
  refine ⟨fun h4=>?_,fun h4=>?_⟩
  ·rw [bad (by rw [hd,h4,Bool.not_true,Bool.and_false])]
   refine dd ?_
   (repeat ((first | apply ya | apply yb);refine dd ?_))
   (refine .inr ⟨by simp,?_⟩);(conv=>whnf)
   exact ⟨.inl rfl,_,.refl _,rfl⟩
  refine dd ?_
  (repeat ((first | apply ya | apply yb);refine dd ?_))
  refine .inl ⟨rfl,?_,fun j hj=>?_⟩
  ·rw [zo (by omega)]
   exact cE 1
  ·by_cases e:j=k
   ·subst e
    rw [hd,h4]
    simp at h3 ⊢
    omega
   ·exact hr j (by omega)
 ·have e:zbh v=true:=by
   unfold zbh
   rw [h1,show decide (v.zm.length=v.snap.zf.length)=true from by simpa using h2',Bool.true_and,Bool.true_and,List.all_eq_true]
   exact fun i hi=>hr i (by simpa using hi)
  rw [e]
  (conv=>whnf);(refine ⟨fun h=>absurd h (by simp),fun _=>?_⟩);refine dd ?_;(refine ⟨by simp,?_⟩);(conv=>whnf)
  exact ⟨.inl rfl,_,.refl _,rfl⟩
end Go.Wor
namespace Go.Wor
open Go.Ab Go.Proofs Go.Hy Go.Gat Go.Nam Go.Hos Go.Con Go.Sna
def jX (l:List Ret):List (Int × Value):=l.foldl (fun m r=>kb m r.version (Value.bool r.gone)) []
def jM (l:List Ret) (i:Int):Bool:=match ((qT (jX l) i).bind fun j=>((jX l)[j]?).map (·.2):Option Value) with
 | some (.bool b)=>b
 | _=>false
theorem zjf {m:List (Int × Value)} (h:∀ kv ∈ m,∃ b,kv.2=Value.bool b) (k:Int) (b:Bool):∀ kv ∈ kb m k (Value.bool b),∃ b,kv.2=Value.bool b:=fun kv hm=>by
 unfold kb at hm
 split at hm
 ·rcases List.mem_or_eq_of_mem_set hm with hm | rfl
  ·exact h kv hm
  ·exact ⟨b,rfl⟩
 ·rcases List.mem_append.1 hm with hm | hm
  ·exact h kv hm
  ·rw [List.mem_singleton.1 hm];exact ⟨b,rfl⟩
theorem zha (l:List Ret):∀ kv ∈ jX l,∃ b,kv.2=Value.bool b:=by
 unfold jX
 suffices key:∀ (l:List Ret) (m:List (Int × Value)),(∀ kv ∈ m,∃ b,kv.2=Value.bool b)->∀ kv ∈ l.foldl (fun m r=>kb m r.version (Value.bool r.gone)) m,∃ b,kv.2=Value.bool b from key l [] (by simp)
 intro l
 induction l with
 | nil=>intro m h;exact h
 | cons r l ih=>intro m h;exact ih _ (zjf h _ _)
theorem zj5 (l:List Ret) (i:Int):(((qT (jX l) i).bind fun j=>((jX l)[j]?).map (·.2)).getD (Value.bool false))=Value.bool (jM l i):=by
 unfold jM
 cases h:(qT (jX l) i).bind fun j=>((jX l)[j]?).map (·.2) with
 | none=>rfl
 | some v=>
  obtain ⟨j,_,hj⟩:=Option.bind_eq_some_iff.1 h
  obtain ⟨kv,h1,rfl⟩:=Option.map_eq_some_iff.1 hj
  obtain ⟨b,hb⟩:=zha l kv (List.mem_of_getElem? h1)
  simp only [Option.getD_some]
  rw [hb]
theorem ziV (l:List Ret) {k:Nat} {r:Ret} (h:l[k]?= some r):jX (l.take (k+1))=kb (jX (l.take k)) r.version (Value.bool r.gone):=by
 obtain ⟨hk,rfl⟩:=List.getElem?_eq_some_iff.1 h
 unfold jX
 rw [List.take_succ_eq_append_getElem hk,List.foldl_append]
 rfl
structure OkW (w:Wor):Prop where
 pins:w.pins.length < 1000000000000
 zd:w.zd.length < 1000000000000∧∀ v ∈ w.zd,OkV v
 zc:w.zc.length < 1000000000000∧∀ l ∈ w.zc,l.ok
 counts:w.counts.length < 1000000000000∧∀ r ∈ w.counts,r.length < 1000000000000
 zg:w.zg.length < 1000000000000
def jN (w:Wor) (r:Ret):Bool:=decide (r.version≥(w.zd.length:Int)) || r.version == w.current || decide (r.at_ > w.zi)
def kP (w:Wor) (i:Nat):Bool:=match w.zd[i]? with
 | some v=>zbh v && (v.jn == jM w.zg i)
 | none=>true
def vS (w:Wor) (i:Nat):Bool:=match w.zc[i]? with
 | some l=>Go.Gat.isV l && decide (zZ w.zc l.name=i)
 | none=>true
def qw (w:Wor):Bool:=qB w && (decide (0<=w.current) && decide (w.current < w.zd.length)) && Go.Lim.isV w.zg && !w.zg.any (jN w) && (List.range w.zd.length).all (kP w) && (List.range w.zc.length).all (vS w)
theorem y6 (w:Wor) (hw:OkW w):zb Tryz.prog 23 [] [Cw w] (Bo (qw w)) []:=by
 have m1:(w.zd.map qm).length=w.zd.length:=List.length_map ..
 have m2:(w.zg.map qL).length=w.zg.length:=List.length_map ..
 have m3:(w.zc.map q8).length=w.zc.length:=List.length_map ..
 have b1:=hw.pins
 have b2:=hw.zd.1
 have b3:=hw.zc.1
 have b4:=hw.counts.1
 have b5:=hw.zg
 refine zb.zk (fn:=Tryz.f23) Tryz.func23 rfl ?_
 conv=>whnf
 refine ⟨_,_,(zeT w (by omega) (by omega)).frame rfl _,?_⟩;refine dd ?_
 refine ⟨fun h1=>?_,fun h1=>?_⟩
 rotate_left
 ·(have e:qw w=false:=by (unfold qw;(rw [h1]);simp));rw [e];refine dd ?_;(repeat ((first | apply ya | apply yb);refine dd ?_));exact ⟨.inl rfl,_,.refl _,rfl⟩
 refine dd ?_
 refine ⟨fun h2=>?_,fun h2=>?_⟩
 ·(have e:qw w=false:=by (unfold qw;(rw [show decide (0<=w.current)=false from by simp at h2 ⊢;omega]);simp));rw [e];refine dd ?_;(repeat ((first | apply ya | apply yb);refine dd ?_));exact ⟨.inl rfl,_,.refl _,rfl⟩
 refine dd ?_
 rw [m1]
 refine ⟨fun h3=>?_,fun h3=>?_⟩
 ·(have e:qw w=false:=by (unfold qw;(rw [show decide (w.current < w.zd.length)=false from by simp at h3 ⊢;omega]);simp));rw [e];refine dd ?_;(repeat ((first | apply ya | apply yb);refine dd ?_));exact ⟨.inl rfl,_,.refl _,rfl⟩
 refine dd ?_
 refine ⟨_,_,(Go.Lim.kz (l:=w.zg) (by omega)).frame rfl _,?_⟩;refine dd ?_
 refine ⟨fun h4=>?_,fun h4=>?_⟩
 rotate_left
 ·(have e:qw w=false:=by (unfold qw;(rw [h4]);simp));rw [e];refine dd ?_;(repeat ((first | apply ya | apply yb);refine dd ?_));exact ⟨.inl rfl,_,.refl _,rfl⟩
 refine dd ?_
 (repeat ((first | apply ya | apply yb);refine dd ?_))
 intro b
 refine dd ?_
 rw [m2]
 have g0:qw w=(!w.zg.any (jN w) && (List.range w.zd.length).all (kP w) && (List.range w.zc.length).all (vS w)):=by
  unfold qw
  rw [h1,show decide (0<=w.current)=true from by simp at h2 ⊢;omega,show decide (w.current < w.zd.length)=true from by simp at h3 ⊢;omega,h4]
  rfl
 refine zH.seq w.zg.length (fun k=>(.za::.ref 0 [] 8 0 0::Bo false:: .v (.map (some b)):: .za::.za::.za::.za::.za::.za::.za::.za::.za::.za::.za::.za::.za::.za::.za::.za::.za::.za::.za::.za::.za::.za::.za::.za::.za::.za::.za::.za::.za::.za::lR w.zg::I w.zg.length::I k:: .za::.za::.za::.za::.za::.za::.za::.za::.za::.za::.za::.za::.za::.za::.za::.za::.za::.za::.za::.za::.za::.za::.za::.za::.za::.za::.za::.za::.za::.za::.za::.za::.za::.za::.za::.za::.za::.za::.za::.za::.za::.za::.za::.za::.za::.za::.za::.za::.za::.za::.za::.za::.za::.za::.za::.za::.za::.za::.za::.za::.za::.za::.za::.za::.za::.za::.za::.za::.za::.za::[])) (fun k=>[⟨1,28,8,[z7 w],0⟩,obM b (jU jT (jX (w.zg.take k))) (jX (w.zg.take k)).length]) (fun k=>∀ j,(h:j < w.zg.length)->j < k->jN w w.zg[j]=false) ?_ (by simp) (fun k hk hr=>?_) (fun hr=>?_)
 ·exact cC
 ·obtain ⟨r,hx⟩:∃ r,r=w.zg[k]:=⟨_,rfl⟩
  have hx2:w.zg[k]?= some r:=by rw [List.getElem?_eq_getElem hk,hx]
  have hg:(w.zg.map qL)[k]?= some (qL r):=by rw [List.getElem?_map,hx2];rfl
  have bad:jN w r=true->qw w=false:=fun h=>by
   have:w.zg.any (jN w)=true:=List.any_eq_true.2 ⟨r,List.mem_of_getElem? hx2,h⟩
   rw [g0,this];rfl
  conv=>whnf
  (refine ⟨fun _=>?_,fun h=>absurd h (by simp;omega)⟩);refine dd ?_
  (refine ⟨by omega,_,by rw [toNat_cast];exact hg,?_⟩);refine dd ?_
  rw [m1]
  refine ⟨fun h5=>?_,fun h5=>?_⟩
  ·(rw [bad (by unfold jN;rw [h5];rfl)]);refine dd ?_;(repeat ((first | apply ya | apply yb);refine dd ?_));(refine .inr ⟨by simp,?_⟩);(conv=>whnf);exact ⟨.inl rfl,_,.refl _,rfl⟩
  refine dd ?_
  refine ⟨fun h6=>?_,fun h6=>?_⟩
  ·(rw [bad (by unfold jN;rw [h6,Bool.or_true];rfl)]);refine dd ?_;(repeat ((first | apply ya | apply yb);refine dd ?_));(refine .inr ⟨by simp,?_⟩);(conv=>whnf);exact ⟨.inl rfl,_,.refl _,rfl⟩
  refine dd ?_
  refine ⟨fun h7=>?_,fun h7=>?_⟩
  ·(rw [bad (by unfold jN;rw [h7,Bool.or_true])]);refine dd ?_;(repeat ((first | apply ya | apply yb);refine dd ?_));(refine .inr ⟨by simp,?_⟩);(conv=>whnf);exact ⟨.inl rfl,_,.refl _,rfl⟩
  refine dd ?_
  (repeat ((first | apply ya | apply yb);refine dd ?_))
  refine ⟨fun q=>?_,fun q=>?_⟩
  all_goals
   refine dd ?_
   refine ⟨_,_,OpV.mapUpdate (id:=1) _ _ _ _ (.inl rfl) Tryz.underlying111 (zeq.int Tryz.underlying3) rfl rfl r.version (fun E u h=>yF h) (.bool r.gone) (fun E u h=>by rw [q];exact yF h),?_⟩
   refine dd ?_
   refine .inl ⟨rfl,?_,fun j hj hjk=>?_⟩
   ·rw [zo (by omega),<- ziV w.zg hx2]
    exact cE 2
   ·by_cases e:j=k
    ·subst e;rw [<- hx];unfold jN;rw [h5,h6,h7];rfl
    ·exact hr j hj (by omega)
 have hl0:w.zg.any (jN w)=false:=by
  rw [List.any_eq_false]
  intro x hx
  obtain ⟨j,hj,rfl⟩:=List.mem_iff_getElem.1 hx
  simp [hr j hj hj]
 rw [List.take_length]
 (conv=>whnf);(refine ⟨fun h=>absurd h (by simp),fun _=>?_⟩);refine dd ?_;(refine ⟨by simp,?_⟩);(conv=>whnf)
 rw [m1]
 have g1:qw w=((List.range w.zd.length).all (kP w) && (List.range w.zc.length).all (vS w)):=by rw [g0,hl0];rfl
 refine zH.seq w.zd.length (fun k=>(.za::.ref 0 [] 8 0 0::Bo false:: .v (.map (some b)):: .za::.za::.za::.za::.za::.za::.za::.za::.za::.za::.za::.za::.za::.za::.za::.za::.za::.za::.za::.za::.za::.za::.za::.za::.za::.za::.za::.za::.za::.za::.za::.za::.za::.za::.za::.za::.za::.za::.za::.za::.za::.za::.za::.za::.za::.za::.za::.za::.za::.za::.za::.za::.za::.za::.za::.za::.za::.za::.za::.za::.za::.za::.za::lV w.zd::I w.zd.length::I k:: .za::.za::.za::.za::.za::.za::.za::.za::.za::.za::.za::.za::.za::.za::.za::.za::.za::.za::.za::.za::.za::.za::.za::.za::.za::.za::.za::.za::.za::.za::.za::.za::.za::.za::.za::.za::.za::[])) (fun k=>[⟨1,28,8,[z7 w],0⟩,obM b (jU jT (jX (w.zg))) (jX (w.zg)).length]) (fun k=>∀ j,j < k->kP w j=true) ?_ (by simp) (fun k hk hr=>?_) (fun hr=>?_)
 ·exact cC
 ·obtain ⟨v,hx⟩:∃ v,v=w.zd[k]:=⟨_,rfl⟩
  have hx2:w.zd[k]?= some v:=by rw [List.getElem?_eq_getElem hk,hx]
  have hg:(w.zd.map qm)[k]?= some (qm v):=by rw [List.getElem?_map,hx2];rfl
  have hd:kP w k=(zbh v && (v.jn == jM w.zg k)):=by unfold kP;rw [hx2]
  have bad:kP w k=false->qw w=false:=fun h=>by
   have:(List.range w.zd.length).all (kP w)=false:=by rw [List.all_eq_false];exact ⟨k,by simpa using hk,by simp [h]⟩
   rw [g1,this];rfl
  conv=>whnf
  (refine ⟨fun _=>?_,fun h=>absurd h (by simp;omega)⟩);refine dd ?_
  (refine ⟨by omega,_,by rw [toNat_cast];exact hg,?_⟩);refine dd ?_
  refine ⟨_,_,(zdJ v (hw.zd.2 v (List.mem_of_getElem? hx2))).frame rfl _,?_⟩;refine dd ?_
  refine ⟨fun h5=>?_,fun h5=>?_⟩
  rotate_left
  ·(rw [bad (by rw [hd,h5];rfl)]);refine dd ?_;(repeat ((first | apply ya | apply yb);refine dd ?_));(refine .inr ⟨by simp,?_⟩);(conv=>whnf);exact ⟨.inl rfl,_,.refl _,rfl⟩
  refine dd ?_
  refine ⟨fun q=>?_,fun q=>?_⟩
  all_goals
   refine dd ?_
   refine ⟨_,_,OpV.lookup (id:=1) _ _ _ rfl Tryz.underlying111 (zeq.int Tryz.underlying3) rfl rfl (k:Int) (fun E u h=>yF h) (c:=Bo (jM w.zg k)) rfl rfl (fun E=>by rw [zj5];exact .v _ rfl),?_⟩
   refine dd ?_
   refine ⟨fun q2=>?_,fun q2=>?_⟩
   ·(rw [bad (by rw [hd,q];simp at q2;simp [q2])]);refine dd ?_;(repeat ((first | apply ya | apply yb);refine dd ?_));(refine .inr ⟨by simp,?_⟩);(conv=>whnf);exact ⟨.inl rfl,_,.refl _,rfl⟩
   refine dd ?_
   (repeat ((first | apply ya | apply yb);refine dd ?_))
   refine .inl ⟨rfl,?_,fun j hj=>?_⟩
   ·rw [zo (by omega)]
    exact cE 2
   ·by_cases e:j=k
    ·subst e;rw [hd,h5,q];simp at q2;simp [q2]
    ·exact hr j (by omega)
 have hv0:(List.range w.zd.length).all (kP w)=true:=by
  rw [List.all_eq_true]
  exact fun i hi=>hr i (by simpa using hi)
 have g2:qw w=(List.range w.zc.length).all (vS w):=by rw [g1,hv0];rfl
 (conv=>whnf);(refine ⟨fun h=>absurd h (by simp),fun _=>?_⟩);refine dd ?_;(refine ⟨by simp,?_⟩);(conv=>whnf)
 rw [m3]
 refine zH.seq w.zc.length (fun k=>(.za::.ref 0 [] 8 0 0::Bo false:: .v (.map (some b)):: .za::.za::.za::.za::.za::.za::.za::.za::.za::.za::.za::.za::.za::.za::.za::.za::.za::.za::.za::.za::.za::.za::.za::.za::.za::.za::.za::.za::.za::.za::.za::.za::.za::.za::.za::.za::.za::.za::.za::.za::.za::.za::.za::.za::.za::.za::.za::.za::.za::.za::.za::.za::.za::.za::.za::.za::.za::.za::.za::.za::.za::.za::.za::.za::.za::.za::.za::.za::.za::.za::.za::.za::.za::.za::.za::.za::.za::.za::.za::.za::.za::.za::.za::lL w.zc::I w.zc.length::I k:: .za::.za::.za::.za::.za::.za::.za::.za::.za::.za::.za::.za::.za::.za::.za::.za::.za::[])) (fun k=>[⟨1,28,8,[z7 w],0⟩,obM b (jU jT (jX (w.zg))) (jX (w.zg)).length]) (fun k=>∀ j,j < k->vS w j=true) ?_ (by simp) (fun k hk hr=>?_) (fun hr=>?_)
 ·exact cC
 ·obtain ⟨l,hx⟩:∃ l,l=w.zc[k]:=⟨_,rfl⟩
  have hx2:w.zc[k]?= some l:=by rw [List.getElem?_eq_getElem hk,hx]
  have hg:(w.zc.map q8)[k]?= some (q8 l):=by rw [List.getElem?_map,hx2];rfl
  have hd:vS w k=(Go.Gat.isV l && decide (zZ w.zc l.name=k)):=by unfold vS;rw [hx2]
  have bad:vS w k=false->qw w=false:=fun h=>by
   have:(List.range w.zc.length).all (vS w)=false:=by rw [List.all_eq_false];exact ⟨k,by simpa using hk,by simp [h]⟩
   rw [g2,this]
  conv=>whnf
  (refine ⟨fun _=>?_,fun h=>absurd h (by simp;omega)⟩);refine dd ?_
  (refine ⟨by omega,_,by rw [toNat_cast];exact hg,?_⟩);refine dd ?_
  refine ⟨_,_,(Go.Gat.kz l (hw.zc.2 l (List.mem_of_getElem? hx2))).frame rfl _,?_⟩;refine dd ?_
  refine ⟨fun h5=>?_,fun h5=>?_⟩
  rotate_left
  ·(rw [bad (by rw [hd,h5];rfl)]);refine dd ?_;(repeat ((first | apply ya | apply yb);refine dd ?_));(refine .inr ⟨by simp,?_⟩);(conv=>whnf);exact ⟨.inl rfl,_,.refl _,rfl⟩
  refine dd ?_
  refine ⟨_,_,(kD w.zc l.name (by omega)).frame rfl _,?_⟩;refine dd ?_
  refine ⟨fun h6=>?_,fun h6=>?_⟩
  ·(rw [bad (by rw [hd,show decide (zZ w.zc l.name=(k:Int))=false from by rw [decide_eq_false_iff_not];intro hh;simp [hh] at h6,Bool.and_false])]);refine dd ?_;(repeat ((first | apply ya | apply yb);refine dd ?_));(refine .inr ⟨by simp,?_⟩);(conv=>whnf);exact ⟨.inl rfl,_,.refl _,rfl⟩
  refine dd ?_
  (repeat ((first | apply ya | apply yb);refine dd ?_))
  refine .inl ⟨rfl,?_,fun j hj=>?_⟩
  ·rw [zo (by omega)]
   exact cE 2
  ·by_cases e:j=k
   ·subst e;rw [hd,h5];simp at h6;simp [h6]
   ·exact hr j (by omega)
 ·have hl1:(List.range w.zc.length).all (vS w)=true:=by
   rw [List.all_eq_true]
   exact fun i hi=>hr i (by simpa using hi)
  rw [g2,hl1]
  (conv=>whnf);(refine ⟨fun h=>absurd h (by simp),fun _=>?_⟩);refine dd ?_;(refine ⟨by simp,?_⟩);(conv=>whnf)
  exact ⟨.inl rfl,_,.refl _,rfl⟩
end Go.Wor
