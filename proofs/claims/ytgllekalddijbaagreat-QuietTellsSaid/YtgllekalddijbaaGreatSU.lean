import Derived.Test.YtgllekalddijbaaGreatSF
import Derived.Test.YtgllekalddijbaaGreatSS
import Derived.Test.YtgllekalddijbaaGreatST
set_option linter.unusedVariables false
set_option linter.unusedSimpArgs false
set_option linter.unusedSectionVars false
set_option maxRecDepth 100000
set_option maxHeartbeats 4000000
namespace Go.Wor
open Go.Ab Go.Proofs Go.Hy Go.Gat Go.Nam Go.Hos Go.Con Go.Sna
def yR (l:List Str) (n:Int):Str:=if 0<=n∧n < l.length then (l[n.toNat]?).getD [] else []
def yQ (l:List Clu) (n:Int):Str:=if 0<=n∧n < l.length then ((l[n.toNat]?).map (·.name)).getD [] else []
def zft (s:Sna) (r:Rul):Rou:=⟨yR s.zc r.listen,r.host,r.path,yQ s.zf r.zm⟩
def zbc (s:Sna):Cfg:=⟨s.zc,s.rules.map (zft s),s.zf⟩
def za5 (s:Sna):Bool:=(jU (zbc s)).1 == 0
structure yX (s:Sna):Prop where
 zc:s.zc.length < 1000000000000∧∀ x ∈ s.zc,x.length < 4000000000000000000
 rules:s.rules.length < 1000000000000∧∀ r ∈ s.rules,r.host.length < 1000000000000∧r.path.length < 1000000000000
 zf:s.zf.length < 1000000000000∧∀ x ∈ s.zf,x.name.length < 4000000000000000000∧x.zQ.length < 4000000000000000000
theorem yX.cfg {s:Sna} (h:yX s):kz (zbc s):=by
 refine ⟨h.zc,⟨by simpa [zbc] using h.rules.1,fun r hr=>?_⟩,h.zf⟩
 simp only [zbc,List.mem_map] at hr
 obtain ⟨q,hq,rfl⟩:=hr
 refine ⟨?_,(h.rules.2 q hq).1,(h.rules.2 q hq).2,?_⟩
 ·show (yR s.zc q.listen).length < _
  unfold yR
  split
  ·cases hx:s.zc[q.listen.toNat]? with
   | none=>simp
   | some x=>exact h.zc.2 x (List.mem_of_getElem? hx)
  ·simp
 ·show (yQ s.zf q.zm).length < _
  unfold yQ
  split
  ·cases hx:s.zf[q.zm.toNat]? with
   | none=>simp
   | some x=>exact (h.zf.2 x (List.mem_of_getElem? hx)).1
  ·simp
theorem zdH (s:Sna) (hs:yX s):zb Tryz.prog 161 [] [Cs s] (Cf (zbc s)) []:=by
 have m1:(s.rules.map zaG).length=s.rules.length:=List.length_map ..
 have m2:(s.zc.map wc).length=s.zc.length:=List.length_map ..
 have m3:(s.zf.map jA).length=s.zf.length:=List.length_map ..
 have hl:=hs.rules.1
 refine zb.zl (fn:=Tryz.f161) Tryz.func161 rfl ?_
 conv=>whnf
 rw [m1]
 refine zE.seq s.rules.length (fun k=>(.za::.ref 0 [] 3 0 0:: .ref 1 [] 3 0 0:: .ref 2 [] 3 0 0:: .za::.za::.za::.za::.za::.za::.za::.za::.za::zh3 s.rules::I s.rules.length::I k:: .za::.za::.za::.za::.za::.za::.za::.za::.za::.za::.za::.za::.za::.za::.za::.za::.za::.za::.za::.za::.za::.za::.za::.za::.za::.za::.za::.za::.za::.za::.za::.za::.za::.za::.za::.za::.za::.za::.za::.za::.za::.za::.za::.za::.za::.za::.za::.za::.za::.za::.za::.za::.za::[])) (fun k=>[⟨1,69,3,[zbJ s],0⟩,⟨1,33,3,[[.lst 1 0 [],.lst 1 0 [],.lst 1 0 []]],0⟩,⟨1,33,3,[[lT s.zc,.gl 3 4 (((s.rules.take k).map (zft s)).map yE),lC s.zf]],0⟩,⟨4,150,4,((s.rules.take k).map (zft s)).map yE,0⟩]) (fun k=>True) ?_ trivial (fun k hk hr=>?_) (fun hr=>?_)
 ·refine zk.trans (zk.zhh 2 1 150 4 rfl rfl (.inl rfl) rfl rfl) ?_
  exact cC
 ·obtain ⟨r,hx⟩:∃ r,r=s.rules[k]:=⟨_,rfl⟩
  have hg:(s.rules.map zaG)[k]?= some (zaG r):=by rw [List.getElem?_map,List.getElem?_eq_getElem hk,hx];rfl
  have hlg:(((s.rules.take k).map (zft s)).map yE).length=k:=by simp;omega
  have eg:((s.rules.take (k+1)).map (zft s)).map yE=((s.rules.take k).map (zft s)).map yE++[yE (zft s r)]:=by rw [List.take_succ_eq_append_getElem hk,<- hx];simp
  have hv:∀ a b,a=yR s.zc r.listen->b=yQ s.zf r.zm->yE ⟨a,r.host,r.path,b⟩=yE (zft s r):=fun a b h1 h2=>by rw [h1,h2];rfl
  conv=>whnf
  (refine ⟨fun _=>?_,fun h=>absurd h (by simp;omega)⟩);refine dd ?_
  (refine ⟨by omega,_,by rw [toNat_cast];exact hg,?_⟩);refine dd ?_
  refine ⟨fun h1=>?_,fun h1=>?_⟩
  rotate_left
  ·refine dd ?_
   (repeat ((first | apply ya | apply yb);refine dd ?_))
   refine ⟨fun q1=>?_,fun q1=>?_⟩;rotate_left;(focus (refine dd ?_;(repeat ((first | apply ya | apply yb);refine dd ?_));(refine ⟨rfl,.inr rfl,by rw [hlg];simp [maxLen];omega,by rw [hlg];show (k+1) * 64<=_;omega,?_⟩);refine dd ?_;(refine .inl ⟨rfl,?_,trivial⟩);(rw [zn (by omega),eg,<- hv _ _ (by unfold yR;rw [if_neg (by simp at h1;omega)]) (by unfold yQ;rw [if_neg (by simp at q1;omega)])]);exact cE 4));refine dd ?_;(rw [m3]);refine ⟨fun q2=>?_,fun q2=>?_⟩;rotate_left;(focus (refine dd ?_;(repeat ((first | apply ya | apply yb);refine dd ?_));(refine ⟨rfl,.inr rfl,by rw [hlg];simp [maxLen];omega,by rw [hlg];show (k+1) * 64<=_;omega,?_⟩);refine dd ?_;(refine .inl ⟨rfl,?_,trivial⟩);(rw [zn (by omega),eg,<- hv _ _ (by unfold yR;rw [if_neg (by simp at h1;omega)]) (by unfold yQ;rw [if_neg (by simp at q2;omega)])]);exact cE 4));(have q3:r.zm.toNat < s.zf.length:=by simp at q1 q2;omega);(have gq:(s.zf.map jA)[r.zm.toNat]?= some (jA s.zf[r.zm.toNat]):=by rw [List.getElem?_map,List.getElem?_eq_getElem q3];rfl);refine dd ?_;(repeat ((first | apply ya | apply yb);refine dd ?_));(refine ⟨by simp at q1;omega,_,gq,?_⟩);refine dd ?_;(refine ⟨rfl,.inr rfl,by rw [hlg];simp [maxLen];omega,by rw [hlg];show (k+1) * 64<=_;omega,?_⟩);refine dd ?_;(refine .inl ⟨rfl,?_,trivial⟩);(rw [zn (by omega),eg,<- hv _ _ (by unfold yR;rw [if_neg (by simp at h1;omega)]) (by unfold yQ;rw [if_pos (by simp at q1 q2;omega),List.getElem?_eq_getElem q3])]);exact cE 4
  refine dd ?_
  rw [m2]
  refine ⟨fun h2=>?_,fun h2=>?_⟩
  rotate_left
  ·refine dd ?_
   (repeat ((first | apply ya | apply yb);refine dd ?_))
   refine ⟨fun q1=>?_,fun q1=>?_⟩;rotate_left;(focus (refine dd ?_;(repeat ((first | apply ya | apply yb);refine dd ?_));(refine ⟨rfl,.inr rfl,by rw [hlg];simp [maxLen];omega,by rw [hlg];show (k+1) * 64<=_;omega,?_⟩);refine dd ?_;(refine .inl ⟨rfl,?_,trivial⟩);(rw [zn (by omega),eg,<- hv _ _ (by unfold yR;rw [if_neg (by simp at h2;omega)]) (by unfold yQ;rw [if_neg (by simp at q1;omega)])]);exact cE 4));refine dd ?_;(rw [m3]);refine ⟨fun q2=>?_,fun q2=>?_⟩;rotate_left;(focus (refine dd ?_;(repeat ((first | apply ya | apply yb);refine dd ?_));(refine ⟨rfl,.inr rfl,by rw [hlg];simp [maxLen];omega,by rw [hlg];show (k+1) * 64<=_;omega,?_⟩);refine dd ?_;(refine .inl ⟨rfl,?_,trivial⟩);(rw [zn (by omega),eg,<- hv _ _ (by unfold yR;rw [if_neg (by simp at h2;omega)]) (by unfold yQ;rw [if_neg (by simp at q2;omega)])]);exact cE 4));(have q3:r.zm.toNat < s.zf.length:=by simp at q1 q2;omega);(have gq:(s.zf.map jA)[r.zm.toNat]?= some (jA s.zf[r.zm.toNat]):=by rw [List.getElem?_map,List.getElem?_eq_getElem q3];rfl);refine dd ?_;(repeat ((first | apply ya | apply yb);refine dd ?_));(refine ⟨by simp at q1;omega,_,gq,?_⟩);refine dd ?_;(refine ⟨rfl,.inr rfl,by rw [hlg];simp [maxLen];omega,by rw [hlg];show (k+1) * 64<=_;omega,?_⟩);refine dd ?_;(refine .inl ⟨rfl,?_,trivial⟩);(rw [zn (by omega),eg,<- hv _ _ (by unfold yR;rw [if_neg (by simp at h2;omega)]) (by unfold yQ;rw [if_pos (by simp at q1 q2;omega),List.getElem?_eq_getElem q3])]);exact cE 4
  have h3:r.listen.toNat < s.zc.length:=by simp at h1 h2;omega
  have gl:(s.zc.map wc)[r.listen.toNat]?= some (wc s.zc[r.listen.toNat]):=by rw [List.getElem?_map,List.getElem?_eq_getElem h3];rfl
  refine dd ?_
  (repeat ((first | apply ya | apply yb);refine dd ?_))
  refine ⟨by simp at h1;omega,_,gl,?_⟩
  refine dd ?_
  refine ⟨fun q1=>?_,fun q1=>?_⟩;rotate_left;(focus (refine dd ?_;(repeat ((first | apply ya | apply yb);refine dd ?_));(refine ⟨rfl,.inr rfl,by rw [hlg];simp [maxLen];omega,by rw [hlg];show (k+1) * 64<=_;omega,?_⟩);refine dd ?_;(refine .inl ⟨rfl,?_,trivial⟩);(rw [zn (by omega),eg,<- hv _ _ (by unfold yR;rw [if_pos (by simp at h1 h2;omega),List.getElem?_eq_getElem h3]) (by unfold yQ;rw [if_neg (by simp at q1;omega)])]);exact cE 4));refine dd ?_;(rw [m3]);refine ⟨fun q2=>?_,fun q2=>?_⟩;rotate_left;(focus (refine dd ?_;(repeat ((first | apply ya | apply yb);refine dd ?_));(refine ⟨rfl,.inr rfl,by rw [hlg];simp [maxLen];omega,by rw [hlg];show (k+1) * 64<=_;omega,?_⟩);refine dd ?_;(refine .inl ⟨rfl,?_,trivial⟩);(rw [zn (by omega),eg,<- hv _ _ (by unfold yR;rw [if_pos (by simp at h1 h2;omega),List.getElem?_eq_getElem h3]) (by unfold yQ;rw [if_neg (by simp at q2;omega)])]);exact cE 4));(have q3:r.zm.toNat < s.zf.length:=by simp at q1 q2;omega);(have gq:(s.zf.map jA)[r.zm.toNat]?= some (jA s.zf[r.zm.toNat]):=by rw [List.getElem?_map,List.getElem?_eq_getElem q3];rfl);refine dd ?_;(repeat ((first | apply ya | apply yb);refine dd ?_));(refine ⟨by simp at q1;omega,_,gq,?_⟩);refine dd ?_;(refine ⟨rfl,.inr rfl,by rw [hlg];simp [maxLen];omega,by rw [hlg];show (k+1) * 64<=_;omega,?_⟩);refine dd ?_;(refine .inl ⟨rfl,?_,trivial⟩);(rw [zn (by omega),eg,<- hv _ _ (by unfold yR;rw [if_pos (by simp at h1 h2;omega),List.getElem?_eq_getElem h3]) (by unfold yQ;rw [if_pos (by simp at q1 q2;omega),List.getElem?_eq_getElem q3])]);exact cE 4
 ·(conv=>whnf);(refine ⟨fun h=>absurd h (by simp),fun _=>?_⟩);refine dd ?_;(refine ⟨by simp,?_⟩);(conv=>whnf)
  rw [List.take_length]
  exact ⟨.inl rfl,_,.refl _,rfl⟩
theorem wM (s:Sna) (hs:yX s):zb Tryz.prog 106 [] [Cs s] (Bo (za5 s)) []:=by
 refine zb.zl (fn:=Tryz.f106) Tryz.func106 rfl ?_
 conv=>whnf
 refine ⟨_,_,(zdH s hs).frame rfl _,?_⟩;refine dd ?_
 refine ⟨_,_,(check_sound (zbc s) hs.cfg).frame rfl _,?_⟩;refine dd ?_
 refine ⟨fun h=>?_,fun h=>?_⟩
 ·refine dd ?_
  (exact ⟨.inl rfl,_,.refl _,congrArg (fun b=>some (C.v (Value.bool b))) (by unfold za5;exact h.symm)⟩)
 ·refine dd ?_
  (exact ⟨.inl rfl,_,.refl _,congrArg (fun b=>some (C.v (Value.bool b))) (by unfold za5;exact h.symm)⟩)
end Go.Wor
namespace Go.Wor
open Go.Ab Go.Proofs Go.Hy Go.Gat Go.Nam Go.Hos Go.Con Go.Sna
open Go.Slp (yx vB)
theorem zlf {f:Nat->Int} {n:Nat} (h:(qM f n).1=0):∀ j,j < n->f j=0:=fun j hj=>by
 unfold qM at h
 split at h
 ·rename_i i hi
  rw [List.find?_range_eq_some] at hi
  exact absurd h (by simpa using hi.1)
 ·rename_i hn
  rw [List.find?_range_eq_none] at hn
  simpa using hn j hj
structure zkJ (x:Clu):Prop where
 name:jD x.name=true
 jL:x.jL=1∨x.jL=2
 xG:1<=x.xG∧x.xG<=4
 zQ:1<=x.zQ.length∧x.zQ.length<=4
structure zlV (s:Sna):Prop where
 zc:1<=s.zc.length∧s.zc.length<=4
 rules:1<=s.rules.length∧s.rules.length<=8
 zf:1<=s.zf.length∧s.zf.length<=4
 all:∀ x ∈ s.zf,zkJ x
theorem xS {s:Sna} (h:za5 s=true):zlV s:=by
 unfold za5 at h
 have h:(jU (zbc s)).1=0:=by simpa using h
 unfold jU at h
 split at h
 ·contradiction
 rename_i h1
 split at h
 ·contradiction
 rename_i h2
 split at h
 ·contradiction
 rename_i h3
 have h1:(ye (zbc s)).1=0:=by simpa using h1
 unfold ye at h1
 split at h1
 ·cases h1
 rename_i h4
 have e:(zbc s).zC.length=s.rules.length:=by simp [zbc]
 rw [e] at h4
 simp only [show (zbc s).zc=s.zc from rfl,show (zbc s).zf=s.zf from rfl] at h4
 have b:∀ n:Nat,∀ m:Int,¬(decide (1<=(n:Int)) && decide ((n:Int)<=m))=false->1<=n∧(n:Int)<=m:=fun n m hh=>by simp at hh;omega
 have q1:=b s.zc.length 4 fun hh=>h4 (.inl (.inl hh))
 have q2:=b s.rules.length 8 fun hh=>h4 (.inl (.inr hh))
 have q3:=b s.zf.length 4 fun hh=>h4 (.inr hh)
 refine ⟨by omega,by omega,by omega,fun x hx=>?_⟩
 obtain ⟨i,hi,rfl⟩:=List.mem_iff_getElem.1 hx
 have h5:=zlf (f:=zcA s.zf) (n:=s.zf.length) (Decidable.of_not_not h3) i hi
 unfold zcA at h5
 rw [List.getElem?_eq_getElem hi] at h5
 dsimp only at h5
 split at h5
 ·cases h5
 rename_i p1
 split at h5
 ·cases h5
 split at h5
 ·cases h5
 rename_i p2
 split at h5
 ·cases h5
 rename_i p3
 split at h5
 ·cases h5
 rename_i p4
 refine ⟨by simpa using p1,?_,?_,?_⟩
 ·by_cases a:s.zf[i].jL=1
  ·exact .inl a
  ·by_cases a2:s.zf[i].jL=2
   ·exact .inr a2
   ·exact absurd ⟨a,a2⟩ p2
 ·simp at p3;omega
 ·simp at p4;omega
abbrev yw (x:Clu):En:=(yx x.xG).1
theorem zi6 {x:Clu} (h:zkJ x):yx x.xG=(yw x,0):=by
 have:=h.xG
 unfold yw yx
 rw [if_neg (by omega)]
def zcE (x:Clu):Gr:=⟨0,List.replicate x.zQ.length (yw x)⟩
abbrev zmf:Sna:=⟨[],[],[]⟩
abbrev zkU:Ver:=⟨zmf,[],false⟩
def w6 (s:Sna):Ver × Int:=if za5 s then (⟨s,s.zf.map zcE,false⟩,0) else (zkU,1)
abbrev Cv (v:Ver):C:=.agg (qm v)
abbrev tV (r:Ver × Int):C:=.tup [Cv r.1,I r.2]
theorem zaD (s:Sna) (hs:yX s):zb Tryz.prog 112 [] [Cs s] (tV (w6 s)) []:=by
 have m1:(s.zf.map jA).length=s.zf.length:=List.length_map ..
 refine zb.zl (fn:=Tryz.f112) Tryz.func112 rfl ?_
 conv=>whnf
 refine ⟨_,_,(wM s hs).frame rfl _,?_⟩;refine dd ?_
 refine ⟨fun h1=>?_,fun h1=>?_⟩
 rotate_left
 ·have e:w6 s=(zkU,1):=by unfold w6;rw [if_neg (by rw [h1];decide)]
  rw [e]
  refine dd ?_
  (repeat ((first | apply ya | apply yb);refine dd ?_))
  exact ⟨.inl rfl,_,zk.var 1 rfl rfl rfl (.cons (WC.nil 0 1) (.cons (WC.nil 0 4) (.cons (WC.nil 0 4) (.cons (WC.nil 0 2) (.cons (.refl _) .nil))))),rfl⟩
 have e:w6 s=(⟨s,s.zf.map zcE,false⟩,0):=by unfold w6;rw [if_pos h1]
 have hg:=xS h1
 rw [e]
 refine dd ?_
 (repeat ((first | apply ya | apply yb);refine dd ?_))
 rw [m1]
 refine zE.seq s.zf.length (fun k=>[.za,.ref 0 [] 3 0 0,.ref 1 [] 5 0 0,I 0,.ref 2 [] 5 0 0,.za,.za,.za,.za,.za,.za,.za,.za,.za,.za,.za,.za,lC s.zf,I s.zf.length,I k,.za,.za,.za,.za,.za,.za,.za,.za,.za,.za,.za,.za,.za,.za,.za,.za,.za,.za,.za,.za,.za,.za,.za,.za,.za,.za,.za,.za,.za,.za,.za,.za,.za]) (fun k=>[⟨1,69,3,[zbJ s],0⟩,⟨1,72,5,[[.lst 1 0 [],.lst 1 0 [],.lst 1 0 [],.lst 1 0 [],Bo false]],0⟩,⟨1,72,5,[zbJ s++[.gl 3 2 (((s.zf.take k).map zcE).map qJ),Bo false]],0⟩,⟨4,93,2,((s.zf.take k).map zcE).map qJ,0⟩]) (fun k=>True) ?_ trivial (fun k hk hr=>?_) (fun hr=>?_)
 ·refine zk.trans (zk.zhh 2 3 93 2 rfl rfl (.inl rfl) rfl rfl) ?_
  exact cC
 ·obtain ⟨x,hx⟩:∃ x,x=s.zf[k]:=⟨_,rfl⟩
  have hgx:(s.zf.map jA)[k]?= some (jA x):=by rw [List.getElem?_map,List.getElem?_eq_getElem hk,hx];rfl
  have hgood:=hg.all x (by rw [hx];exact List.getElem_mem hk)
  have hc4:=hg.zf.2
  have h4:=hgood.zQ.2
  have hlg:(((s.zf.take k).map zcE).map qJ).length=k:=by simp;omega
  have eg:((s.zf.take (k+1)).map zcE).map qJ=((s.zf.take k).map zcE).map qJ++[qJ (zcE x)]:=by rw [List.take_succ_eq_append_getElem hk,<- hx];simp
  have mh:(x.zQ.map xW).length=x.zQ.length:=List.length_map ..
  have fs:zb Tryz.prog 166 [] [I x.xG] (.tup [.agg (zU (yw x)),I 0]) []:=by
   have:=vB x.xG
   rw [zi6 hgood] at this
   exact this
  conv=>whnf
  (refine ⟨fun _=>?_,fun h=>absurd h (by simp;omega)⟩);refine dd ?_
  (refine ⟨by omega,_,by rw [toNat_cast];exact hgx,?_⟩);refine dd ?_
  rw [mh]
  refine zE.seq x.zQ.length (fun j=>[.za,.ref 0 [] 3 0 0,.ref 1 [] 5 0 0,I 0,.ref 2 [] 5 0 0,.za,.ref 4 [] 4 0 0,.ref 5 [] 2 0 0,.za,.za,.za,.za,.za,.za,.za,.za,.za,lC s.zf,I s.zf.length,I k,.za,.za,.za,.za,.za,I x.zQ.length,I j,.za,.za,.za,.za,.za,.za,.za,.za,.za,.za,.za,.za,.za,.za,.za,.za,.za,.za,.za,.za,.za,.za,.za,.za,.za,.za]) (fun j=>[⟨1,69,3,[zbJ s],0⟩,⟨1,72,5,[[.lst 1 0 [],.lst 1 0 [],.lst 1 0 [],.lst 1 0 [],Bo false]],0⟩,⟨1,72,5,[zbJ s++[.gl 3 2 (((s.zf.take k).map zcE).map qJ),Bo false]],0⟩,⟨4,93,2,((s.zf.take k).map zcE).map qJ,0⟩,⟨1,148,4,[jA x],0⟩,⟨1,93,2,[[U 0,.gl 6 3 ((List.replicate j (yw x)).map zU)]],0⟩,⟨4,97,3,((List.replicate j (yw x)).map zU),0⟩]) (fun k=>True) ?_ trivial (fun j hj hr=>?_) (fun hr=>?_)
  ·refine zk.trans (zk.zhh 5 1 97 3 rfl rfl (.inl rfl) rfl rfl) ?_
   exact cC
  ·have hle:(((List.replicate j (yw x)).map zU)).length=j:=by simp
   have ee:((List.replicate (j+1) (yw x)).map zU)=((List.replicate j (yw x)).map zU)++[zU (yw x)]:=by rw [List.replicate_succ',List.map_append];rfl
   conv=>whnf
   (refine ⟨fun _=>?_,fun h=>absurd h (by simp;omega)⟩);refine dd ?_
   refine ⟨_,_,(fs).frame rfl _,?_⟩;refine dd ?_
   (repeat ((first | apply ya | apply yb);refine dd ?_))
   refine ⟨rfl,.inr rfl,by rw [hle];simp [maxLen];omega,by rw [hle];show (j+1) * 40<=_;omega,?_⟩
   refine dd ?_
   refine .inl ⟨rfl,?_,trivial⟩
   rw [zn (by omega),ee]
   exact cE 7
  ·(conv=>whnf);(refine ⟨fun h=>absurd h (by simp),fun _=>?_⟩);refine dd ?_;(refine ⟨by simp,?_⟩);(conv=>whnf)
   refine ⟨rfl,.inr rfl,by rw [hlg];simp [maxLen];omega,by rw [hlg];show (k+1) * 32<=_;omega,?_⟩
   refine dd ?_
   refine .inl ⟨rfl,?_,trivial⟩
   rw [zn (by omega),eg]
   exact cE 4
 ·(conv=>whnf);(refine ⟨fun h=>absurd h (by simp),fun _=>?_⟩);refine dd ?_;(refine ⟨by simp,?_⟩);(conv=>whnf)
  rw [List.take_length]
  exact ⟨.inl rfl,_,.refl _,rfl⟩
def kL (n:Int):List (List Int) × Int:=if n < 1∨8 < n then ([],1) else (List.replicate n.toNat [0,0,0,0,0,0],0)
abbrev tC0 (r:List (List Int) × Int):C:=.tup [lCo r.1,I r.2]
def vb (c:List (List Int)):Bool:=c.all (fun r=>r.length == 6) && decide (1<=c.length) && decide (c.length<=8)
theorem zfA {rows:List (List C)} (h:(rows.all fun r=>r.all fun c=>jx c && zw c)=true):∀ r ∈ rows,∀ c ∈ r,jx c=true∧zw c=true:=fun r hr c hc=>by
 have:=List.all_eq_true.1 (List.all_eq_true.1 h r hr) c hc
 simpa using this
theorem shut_map {α:Type} {enc:α->List C} (h:∀ x,(enc x).all (fun c=>jx c && zw c)=true) (l:List α):∀ r ∈ l.map enc,∀ c ∈ r,jx c=true∧zw c=true:=
 zfA (by rw [List.all_map];exact List.all_eq_true.2 fun x _=>h x)
theorem zjd {n ty sz fz:Nat} {rows:List (List C)} (h:∀ r ∈ rows,∀ c ∈ r,j3 n 9 c=true):q8 n [⟨1,ty,sz,rows,fz⟩]=true:=by
 unfold q8
 simp only [List.all_cons,List.all_nil,Bool.and_true]
 simp
 exact h
theorem zkz {α:Type} (a b:α) {k n:Nat} (h:k < n):(List.replicate k a++List.replicate (n - k) b).set k a=List.replicate (k+1) a++List.replicate (n - (k+1)) b:=by
 rw [List.set_append_right _ _ (by simp)]
 have e:n - k=(n - (k+1))+1:=by omega
 simp only [List.length_replicate,Nat.sub_self]
 rw [e,List.replicate_succ,List.set_cons_zero,List.replicate_succ',List.append_assoc]
 rfl
theorem zky {α:Type} (a b:α) {k n:Nat} (h:k < n):(List.replicate k a++List.replicate (n - k) b)[k]?= some b:=by
 rw [List.getElem?_append_right (by simp)]
 simp only [List.length_replicate,Nat.sub_self]
 have e:n - k=(n - (k+1))+1:=by omega
 rw [e,List.replicate_succ]
 rfl
theorem zcj (n:Int):zb Tryz.prog 129 [] [I n] (tC0 (kL n)) []:=by
 refine zb.zl (fn:=Tryz.f129) Tryz.func129 rfl ?_
 conv=>whnf
 refine ⟨fun h1=>?_,fun h1=>?_⟩
 ·have e:kL n=([],1):=by unfold kL;rw [if_pos (by simp at h1;omega)]
  rw [e]
  refine dd ?_
  (repeat ((first | apply ya | apply yb);refine dd ?_))
  exact ⟨.inl rfl,_,zk.cell 2 rfl (WC.nil 0 1),rfl⟩
 refine dd ?_
 refine ⟨fun h2=>?_,fun h2=>?_⟩
 ·have e:kL n=([],1):=by unfold kL;rw [if_pos (by simp at h2;omega)]
  rw [e]
  refine dd ?_
  (repeat ((first | apply ya | apply yb);refine dd ?_))
  exact ⟨.inl rfl,_,zk.cell 2 rfl (WC.nil 0 1),rfl⟩
 have b1:1<=n∧n<=8:=by simp at h1 h2;omega
 have e:kL n=(List.replicate n.toNat [0,0,0,0,0,0],0):=by unfold kL;rw [if_neg (by omega)]
 rw [e]
 refine dd ?_
 refine ⟨rfl,by omega,by show (24:Int) * n<=_;omega,by omega,?_⟩
 refine dd ?_
 refine zE.seq n.toNat (fun k=>[I n,.za,.lst 1 0 [],I 0,.sl 0 [] 1 0 n.toNat false,.za,.za,.za,.za,.za,.za,.za,.za,.za,.za,I n.toNat,I k,.za,.za,.za,.za,.za,.za,.za,.za]) (fun k=>[⟨1,0,1,(List.replicate k [lU [0,0,0,0,0,0]]++List.replicate (n.toNat - k) [C.lst 1 0 []]),0⟩]) (fun k=>True) ?_ trivial (fun k hk hr=>?_) (fun hr=>?_)
 ·refine zk.trans (zk.zl8 0 rfl (by intro r hr c hc;rw [List.eq_of_mem_replicate hr] at hc;rw [List.mem_singleton.1 hc];rfl)) ?_
  exact cC
 ·conv=>whnf
  (refine ⟨fun _=>?_,fun h=>absurd h (by simp;omega)⟩);refine dd ?_
  refine ⟨rfl,by decide,by show (8:Int) * 6<=_;decide,by decide,?_⟩
  refine dd ?_
  refine ⟨by omega,by simp;omega,?_⟩
  refine dd ?_
  have e1:0+(k:Int).toNat=k:=by simp
  rw [e1]
  refine ⟨_,zky _ _ hk,rfl,?_⟩
  refine dd ?_
  refine .inl ⟨rfl,?_,trivial⟩
  refine zk.trans (zk.jV 0 k 0 (r:=[.sl 1 [] 1 0 6 false]) rfl (by rw [List.getElem?_set,if_pos rfl,if_pos (by simp;omega)];rfl) rfl rfl (.inr rfl) rfl rfl ?_ ?_) ?_
  ·exact zfA (rows:=List.replicate 6 [U 0]) rfl
  ·intro r hr c hc
   rcases List.mem_or_eq_of_mem_set hr with hr | rfl
   ·rcases List.mem_append.1 hr with hr | hr <;> (rw [List.eq_of_mem_replicate hr] at hc;rw [List.mem_singleton.1 hc];rfl)
   ·rw [List.mem_singleton.1 hc];rfl
  ·have e3:(List.replicate k [lU [0,0,0,0,0,0]]++List.replicate (n.toNat - k) [C.lst 1 0 []]).set k [lU [0,0,0,0,0,0]]=(List.replicate (k+1) [lU [0,0,0,0,0,0]]++List.replicate (n.toNat - (k+1)) [C.lst 1 0 []]):=zkz _ _ hk
   rw [List.set_set,<- e3,zn (by omega)]
   refine zk.ziX 1 (by (conv=>whnf);(repeat (refine ⟨rfl,?_⟩;(conv=>whnf)));exact trivial) rfl rfl rfl (zjd (rows:=(List.replicate k [lU [0,0,0,0,0,0]]++List.replicate (n.toNat - k) [C.lst 1 0 []]).set k [lU [0,0,0,0,0,0]]) fun r hr c hc=>?_) rfl
   rw [e3] at hr
   rcases List.mem_append.1 hr with hr | hr <;> (rw [List.eq_of_mem_replicate hr] at hc;rw [List.mem_singleton.1 hc];rfl)
 ·(conv=>whnf);(refine ⟨fun h=>absurd h (by simp),fun _=>?_⟩);refine dd ?_;(refine ⟨by simp,?_⟩);(conv=>whnf)
  have e4:(List.replicate n.toNat [(0:Int),0,0,0,0,0]).map jP=(List.replicate n.toNat [lU [0,0,0,0,0,0]]++List.replicate (n.toNat - n.toNat) [C.lst 1 0 []]):=by rw [List.map_replicate,Nat.sub_self,List.replicate_zero,List.append_nil];rfl
  have sh:∀ r ∈ (List.replicate n.toNat [lU [0,0,0,0,0,0]]++List.replicate (n.toNat - n.toNat) [C.lst 1 0 []]),∀ c ∈ r,jx c=true∧zw c=true:=by
   rw [Nat.sub_self,List.replicate_zero,List.append_nil]
   intro r hr c hc
   rw [List.eq_of_mem_replicate hr] at hc
   rw [List.mem_singleton.1 hc]
   exact ⟨rfl,rfl⟩
  refine ⟨.inl rfl,_,zk.wu 2 rfl rfl (.inl rfl) (by simp) sh,?_⟩
  rw [<- e4]
  rfl
theorem zcL (c:List (List Int)) (hc:c.length < 4000000000000000000):zb Tryz.prog 103 [] [lCo c] (Bo (vb c)) []:=by
 have m1:(c.map jP).length=c.length:=List.length_map ..
 refine zb.zl (fn:=Tryz.f103) Tryz.func103 rfl ?_
 conv=>whnf
 rw [m1]
 refine zE.seq c.length (fun k=>[lCo c,.za,Bo false,.za,.za,lCo c,I c.length,I k,.za,.za,.za,.za,.za,.za,.za,.za,.za,.za,.za,.za,.za,.za,.za]) (fun k=>[]) (fun k=>∀ j,(h:j < c.length)->j < k->(c[j].length == 6)=true) ?_ (by simp) (fun k hk hr=>?_) (fun hr=>?_)
 ·exact cC
 ·obtain ⟨x,hx⟩:∃ x,x=c[k]:=⟨_,rfl⟩
  have hg:(c.map jP)[k]?= some (jP x):=by rw [List.getElem?_map,List.getElem?_eq_getElem hk,hx];rfl
  have mx:(x.map zle).length=x.length:=List.length_map ..
  conv=>whnf
  (refine ⟨fun _=>?_,fun h=>absurd h (by simp;omega)⟩);refine dd ?_
  (refine ⟨by omega,_,by rw [toNat_cast];exact hg,?_⟩);refine dd ?_
  rw [mx]
  refine ⟨fun h1=>?_,fun h1=>?_⟩
  ·have hf:c.all (fun r=>r.length == 6)=false:=by
    rw [List.all_eq_false]
    exact ⟨x,by rw [hx];exact List.getElem_mem hk,by simp at h1 ⊢;omega⟩
   have e:vb c=false:=by unfold vb;rw [hf];rfl
   rw [e]
   refine dd ?_
   (refine .inr ⟨by simp,?_⟩);(conv=>whnf)
   exact ⟨.inl rfl,_,.refl _,rfl⟩
  ·refine dd ?_
   refine .inl ⟨rfl,?_,fun j hj hjk=>?_⟩
   ·rw [zn (by omega)]
    exact cE 0
   ·by_cases e:j=k
    ·subst e;rw [<- hx];simp at h1 ⊢;omega
    ·exact hr j hj (by omega)
 ·have ht:c.all (fun r=>r.length == 6)=true:=by
   rw [List.all_eq_true]
   intro r hr'
   obtain ⟨j,hj,rfl⟩:=List.mem_iff_getElem.1 hr'
   exact hr j hj hj
  have e:vb c=(decide (1<=c.length) && decide (c.length<=8)):=by unfold vb;rw [ht];rfl
  rw [e]
  (conv=>whnf);(refine ⟨fun h=>absurd h (by simp),fun _=>?_⟩);refine dd ?_;(refine ⟨by simp,?_⟩);(conv=>whnf)
  rw [m1]
  refine ⟨fun h1=>?_,fun h1=>?_⟩
  ·refine dd ?_
   rw [m1]
   refine ⟨fun h2=>?_,fun h2=>?_⟩
   ·refine dd ?_
    (repeat ((first | apply ya | apply yb);refine dd ?_))
    (exact ⟨.inl rfl,_,.refl _,congrArg (fun b=>some (C.v (Value.bool b))) (by symm;simp at h1 h2 ⊢;omega)⟩)
   ·refine dd ?_
    (repeat ((first | apply ya | apply yb);refine dd ?_))
    (exact ⟨.inl rfl,_,.refl _,congrArg (fun b=>some (C.v (Value.bool b))) (by symm;simp at h1 h2 ⊢;omega)⟩)
  ·refine dd ?_
   (repeat ((first | apply ya | apply yb);refine dd ?_))
   (exact ⟨.inl rfl,_,.refl _,congrArg (fun b=>some (C.v (Value.bool b))) (by symm;simp at h1 ⊢;omega)⟩)
end Go.Wor
namespace Go.Wor
open Go.Ab Go.Proofs Go.Hy Go.Gat Go.Nam Go.Hos Go.Con Go.Sna
open Go.Slp (yx vB)
abbrev Cw (w:Wor):C:=.agg (zR w)
abbrev zb3:Wor:=⟨0,0,0,[],[],[],[],[]⟩
def zmD (s:Str):Lis:=⟨s,false,0,false⟩
end Go.Wor
namespace Go.Wor
open Go.Ab Go.Proofs Go.Hy Go.Gat Go.Nam Go.Hos Go.Con Go.Sna
theorem wm {F:List (List C)} {z:List C} {k n:Nat} (hF:F.length=n) (h:k < n):(F.take k++(List.replicate n z).drop k)[k]?= some z:=by
 rw [List.getElem?_append_right (by simp;omega),List.length_take,List.getElem?_drop,List.getElem?_replicate,if_pos (by omega)]
theorem wo {F:List (List C)} {x z:List C} {k n:Nat} (hx:F[k]?= some x) (hn:k < n):(F.take k++(List.replicate n z).drop k).set k x=F.take (k+1)++(List.replicate n z).drop (k+1):=by
 obtain ⟨hk,rfl⟩:=List.getElem?_eq_some_iff.1 hx
 have e1:(F.take k).length=k:=by simp;omega
 rw [List.set_append_right _ _ (by omega),e1,Nat.sub_self,List.drop_replicate,List.drop_replicate,List.take_succ_eq_append_getElem hk,List.append_assoc]
 have e2:n - k=(n - (k+1))+1:=by omega
 rw [e2,List.replicate_succ]
 rfl
theorem vX {F:List (List C)} {z:List C} {n:Nat} (hF:F.length=n):F.take n++(List.replicate n z).drop n=F:=by
 rw [List.take_of_length_le (by omega),List.drop_of_length_le (by simp),List.append_nil]
theorem k9 (l:List Int) (hl:l.length < 1000000000):zb Tryz.prog 275 [] [lI l] (lI l) []:=by
 cases l with
 | nil=>
  refine zb.zl (fn:=Tryz.f275) Tryz.func275 rfl ?_
  conv=>whnf
  refine ⟨?_,?_⟩
  ·refine dd ?_
   exact ⟨.inl rfl,_,zk.cell 2 rfl (WC.nil 0 1),rfl⟩
  ·refine dd ?_
   refine .inr ⟨rfl,?_⟩
   refine dd ?_
   exact ⟨.inl rfl,_,zk.cell 2 rfl ((WC.none 1 1 1).trans (WC.share 1 1 [])),rfl⟩
 | cons x l=>
  have hl3:l.length+1 < 1000000000:=by simpa using hl
  refine zb.zl (fn:=Tryz.f275) Tryz.func275 rfl ?_
  conv=>whnf
  refine ⟨by simp,?_⟩
  conv=>whnf
  refine .inr ⟨.inl rfl,by simp [maxLen];omega,by show _ * 8<=_;simp;omega,?_⟩
  conv=>whnf
  exact ⟨.inl rfl,_,zk.wu 2 rfl rfl (.inr rfl) (by simp) (shut_map (fun _=>rfl) (x::l)),rfl⟩
theorem ziR (l:List Int) (hl:l.length < 1000000000):zb Tryz.prog 316 [] [lU l] (lU l) []:=by
 cases l with
 | nil=>
  refine zb.zl (fn:=Tryz.f316) Tryz.func316 rfl ?_
  conv=>whnf
  refine ⟨?_,?_⟩
  ·refine dd ?_
   exact ⟨.inl rfl,_,zk.cell 2 rfl (WC.nil 0 1),rfl⟩
  ·refine dd ?_
   refine .inr ⟨rfl,?_⟩
   refine dd ?_
   exact ⟨.inl rfl,_,zk.cell 2 rfl ((WC.none 1 1 1).trans (WC.share 1 1 [])),rfl⟩
 | cons x l=>
  have hl3:l.length+1 < 1000000000:=by simpa using hl
  refine zb.zl (fn:=Tryz.f316) Tryz.func316 rfl ?_
  conv=>whnf
  refine ⟨by simp,?_⟩
  conv=>whnf
  refine .inr ⟨.inl rfl,by simp [maxLen];omega,by show _ * 8<=_;simp;omega,?_⟩
  conv=>whnf
  exact ⟨.inl rfl,_,zk.wu 2 rfl rfl (.inr rfl) (by simp) (shut_map (fun _=>rfl) (x::l)),rfl⟩
theorem ziP (x:Lis) (l:List Lis) (hl:l.length < 1000000000):zb Tryz.prog 278 [] [lL (x::l)] (.sl 0 [] 4 0 (x::l).length false) [⟨2,95,4,(x::l).map qy,0⟩]:=by
 have e:0+((l.map qy).length+1)=(x::l).length:=by simp
 rw [<- e]
 refine zb.zH (fn:=Tryz.f278) Tryz.func278 rfl ?_
 conv=>whnf
 refine ⟨by simp,?_⟩
 conv=>whnf
 refine .inr ⟨.inl rfl,by simp [maxLen];omega,by show _ * 40<=_;simp;omega,?_⟩
 conv=>whnf
 exact ⟨.inl rfl,_,.refl _,rfl,rfl⟩
theorem zeH (l:List Lis) (hl:l.length < 1000000000):zb Tryz.prog 278 [] [lL l] (lL l) []:=by
 cases l with
 | nil=>
  refine zb.zl (fn:=Tryz.f278) Tryz.func278 rfl ?_
  conv=>whnf
  refine ⟨?_,?_⟩
  ·refine dd ?_
   exact ⟨.inl rfl,_,zk.cell 2 rfl (WC.nil 0 4),rfl⟩
  ·refine dd ?_
   refine .inr ⟨rfl,?_⟩
   refine dd ?_
   exact ⟨.inl rfl,_,zk.cell 2 rfl ((WC.none 1 4 4).trans (WC.share 1 4 [])),rfl⟩
 | cons x l=>
  have hl3:l.length+1 < 1000000000:=by simpa using hl
  refine zb.zl (fn:=Tryz.f278) Tryz.func278 rfl ?_
  conv=>whnf
  refine ⟨by simp,?_⟩
  conv=>whnf
  refine .inr ⟨.inl rfl,by simp [maxLen];omega,by show _ * 40<=_;simp;omega,?_⟩
  conv=>whnf
  exact ⟨.inl rfl,_,zk.wu 2 rfl rfl (.inr rfl) (by simp) (shut_map (fun _=>rfl) (x::l)),rfl⟩
theorem ziQ (x:Ret) (l:List Ret) (hl:l.length < 1000000000):zb Tryz.prog 281 [] [lR (x::l)] (.sl 0 [] 3 0 (x::l).length false) [⟨2,113,3,(x::l).map qz,0⟩]:=by
 have e:0+((l.map qz).length+1)=(x::l).length:=by simp
 rw [<- e]
 refine zb.zH (fn:=Tryz.f281) Tryz.func281 rfl ?_
 conv=>whnf
 refine ⟨by simp,?_⟩
 conv=>whnf
 refine .inr ⟨.inl rfl,by simp [maxLen];omega,by show _ * 24<=_;simp;omega,?_⟩
 conv=>whnf
 exact ⟨.inl rfl,_,.refl _,rfl,rfl⟩
theorem zeI (l:List Ret) (hl:l.length < 1000000000):zb Tryz.prog 281 [] [lR l] (lR l) []:=by
 cases l with
 | nil=>
  refine zb.zl (fn:=Tryz.f281) Tryz.func281 rfl ?_
  conv=>whnf
  refine ⟨?_,?_⟩
  ·refine dd ?_
   exact ⟨.inl rfl,_,zk.cell 2 rfl (WC.nil 0 3),rfl⟩
  ·refine dd ?_
   refine .inr ⟨rfl,?_⟩
   refine dd ?_
   exact ⟨.inl rfl,_,zk.cell 2 rfl ((WC.none 1 3 3).trans (WC.share 1 3 [])),rfl⟩
 | cons x l=>
  have hl3:l.length+1 < 1000000000:=by simpa using hl
  refine zb.zl (fn:=Tryz.f281) Tryz.func281 rfl ?_
  conv=>whnf
  refine ⟨by simp,?_⟩
  conv=>whnf
  refine .inr ⟨.inl rfl,by simp [maxLen];omega,by show _ * 24<=_;simp;omega,?_⟩
  conv=>whnf
  exact ⟨.inl rfl,_,zk.wu 2 rfl rfl (.inr rfl) (by simp) (shut_map (fun _=>rfl) (x::l)),rfl⟩
theorem zf5 (e:En) (he:e.next.length < 1000000000):zb Tryz.prog 328 [] [.agg [],.agg (zU e)] (.agg (zU e)) []:=by
 refine zb.zl (fn:=Tryz.f328) Tryz.func328 rfl ?_
 conv=>whnf
 refine ⟨_,_,(k9 e.next he).frame rfl _,?_⟩;refine dd ?_
 exact ⟨.inl rfl,_,.refl _,rfl⟩
theorem zkb (l:List En) (hl:l.length < 1000000000) (hp:∀ x ∈ l,zb Tryz.prog 328 [] [.agg [],.agg (zU x)] (.agg (zU x)) []):zb Tryz.prog 327 [] [lE l,.fn 328 [] [],.agg []] (.sl 0 [] 3 0 l.length false) [⟨2,97,3,l.map zU,0⟩]:=by
 have m1:(l.map zU).length=l.length:=List.length_map ..
 refine zb.zH (fn:=Tryz.f327) Tryz.func327 rfl ?_
 conv=>whnf
 rw [m1]
 refine ⟨rfl,by omega,by show (40:Int) * _<=_;omega,by omega,?_⟩
 refine dd ?_
 rw [m1,toNat_cast]
 refine zE.seq l.length (fun k=>[lE l,.fn 328 [] [],.za,.za,.za,.ref 0 [] 0 0 0,.lst 1 0 [],.sl 1 [] 3 0 l.length false,.za,.za,.za,.za,.za,lE l,I l.length,I k,.za,.za,.za,.za,.za,.za,.za,.za,.za,.za,.za,.za,.za]) (fun k=>[⟨1,281,0,[[]],0⟩,⟨2,97,3,(l.map zU).take k++(List.replicate l.length [U 0,.lst 1 0 [],I 0]).drop k,0⟩]) (fun k=>True) ?_ trivial (fun k hk hr=>?_) (fun hr=>?_)
 ·exact cC
 ·obtain ⟨x,hx⟩:∃ x,x=l[k]:=⟨_,rfl⟩
  have hx2:l[k]?= some x:=by rw [List.getElem?_eq_getElem hk,hx]
  have hg:(l.map zU)[k]?= some (zU x):=by rw [List.getElem?_map,hx2];rfl
  conv=>whnf
  (refine ⟨fun _=>?_,fun h=>absurd h (by simp;omega)⟩);refine dd ?_
  (refine ⟨by omega,_,by rw [toNat_cast];exact hg,?_⟩);refine dd ?_
  refine ⟨_,_,(hp x (by rw [hx];exact List.getElem_mem hk)).frame rfl _,?_⟩;refine dd ?_
  refine ⟨by omega,by simp;omega,?_⟩
  refine dd ?_
  have e1:0+(k:Int).toNat=k:=by simp
  rw [e1]
  refine ⟨_,wm (by simp) hk,rfl,?_⟩
  refine dd ?_
  refine .inl ⟨rfl,?_,trivial⟩
  have e2:=wo (z:=[U 0,.lst 1 0 [],I 0]) (n:=l.length) hg hk
  rw [zn (by omega),<- e2]
  exact cE 2
 ·(conv=>whnf);(refine ⟨fun h=>absurd h (by simp),fun _=>?_⟩);refine dd ?_;(refine ⟨by simp,?_⟩);(conv=>whnf)
  rw [vX (by simp)]
  exact ⟨.inl rfl,_,zk.ren [1] [6] _ _ rfl rfl rfl rfl,rfl,rfl⟩
theorem ji {r:List C} (h:r.all zw=true):∀ q ∈ [r],∀ c ∈ q,zw c=true:=fun q hq c hc=>by
 rw [List.mem_singleton.1 hq] at hc
 exact List.all_eq_true.1 h c hc
def zk6 (g:Gr):Prop:=g.ends.length < 1000000000∧∀ e ∈ g.ends,e.next.length < 1000000000
def zg6 (v:Ver):Prop:=v.zi.length < 1000000000∧∀ g ∈ v.zi,zk6 g
structure zbx (w:Wor):Prop where
 pins:w.pins.length < 1000000000
 zd:w.zd.length < 1000000000∧∀ v ∈ w.zd,zg6 v
 zc:w.zc.length < 1000000000
 counts:w.counts.length < 1000000000∧∀ r ∈ w.counts,r.length < 1000000000
 zg:w.zg.length < 1000000000
theorem zdS (g:Gr) (hg:zk6 g):zb Tryz.prog 315 [] [.agg [],.agg (qJ g)] (.agg (qJ g)) []:=by
 refine zb.zl (fn:=Tryz.f315) Tryz.func315 rfl ?_
 conv=>whnf
 refine zp [] (zkb g.ends hg.1 fun e he=>zf5 e (hg.2 e he)) rfl rfl rfl rfl rfl rfl ?_;refine dd ?_
 exact ⟨.inl rfl,_,zk.jV 2 0 1 rfl rfl rfl rfl (.inr rfl) rfl (by simp) (shut_map (enc:=zU) (fun _=>rfl) g.ends) (ji rfl),rfl⟩
theorem zkc (l:List Gr) (hl:l.length < 1000000000) (hp:∀ x ∈ l,zb Tryz.prog 315 [] [.agg [],.agg (qJ x)] (.agg (qJ x)) []):zb Tryz.prog 314 [] [lG l,.fn 315 [] [],.agg []] (.sl 0 [] 2 0 l.length false) [⟨2,93,2,l.map qJ,0⟩]:=by
 have m1:(l.map qJ).length=l.length:=List.length_map ..
 refine zb.zH (fn:=Tryz.f314) Tryz.func314 rfl ?_
 conv=>whnf
 rw [m1]
 refine ⟨rfl,by omega,by show (32:Int) * _<=_;omega,by omega,?_⟩
 refine dd ?_
 rw [m1,toNat_cast]
 refine zE.seq l.length (fun k=>[lG l,.fn 315 [] [],.za,.za,.za,.ref 0 [] 0 0 0,.lst 1 0 [],.sl 1 [] 2 0 l.length false,.za,.za,.za,.za,.za,lG l,I l.length,I k,.za,.za,.za,.za,.za,.za,.za,.za,.za,.za,.za,.za,.za]) (fun k=>[⟨1,281,0,[[]],0⟩,⟨2,93,2,(l.map qJ).take k++(List.replicate l.length ([U 0,.lst 1 0 []]:List C)).drop k,0⟩]) (fun k=>True) ?_ trivial (fun k hk hr=>?_) (fun hr=>?_)
 ·exact cC
 ·obtain ⟨x,hx⟩:∃ x,x=l[k]:=⟨_,rfl⟩
  have hx2:l[k]?= some x:=by rw [List.getElem?_eq_getElem hk,hx]
  have hg:(l.map qJ)[k]?= some (qJ x):=by rw [List.getElem?_map,hx2];rfl
  conv=>whnf
  (refine ⟨fun _=>?_,fun h=>absurd h (by simp;omega)⟩);refine dd ?_
  (refine ⟨by omega,_,by rw [toNat_cast];exact hg,?_⟩);refine dd ?_
  refine ⟨_,_,(hp x (by rw [hx];exact List.getElem_mem hk)).frame rfl _,?_⟩;refine dd ?_
  refine ⟨by omega,by simp;omega,?_⟩
  refine dd ?_
  have e1:0+(k:Int).toNat=k:=by simp
  rw [e1]
  refine ⟨_,wm (by simp) hk,rfl,?_⟩
  refine dd ?_
  refine .inl ⟨rfl,?_,trivial⟩
  have e2:=wo (z:=([U 0,.lst 1 0 []]:List C)) (n:=l.length) hg hk
  rw [zn (by omega),<- e2]
  exact cE 2
 ·(conv=>whnf);(refine ⟨fun h=>absurd h (by simp),fun _=>?_⟩);refine dd ?_;(refine ⟨by simp,?_⟩);(conv=>whnf)
  rw [vX (by simp)]
  exact ⟨.inl rfl,_,zk.ren [1] [6] _ _ rfl rfl rfl rfl,rfl,rfl⟩
theorem yg (v:Ver) (hv:zg6 v):zb Tryz.prog 277 [] [.agg [],.agg (qm v)] (.agg (qm v)) []:=by
 refine zb.zl (fn:=Tryz.f277) Tryz.func277 rfl ?_
 conv=>whnf
 refine zp [] (zkc v.zi hv.1 fun g hg=>zdS g (hv.2 g hg)) rfl rfl rfl rfl rfl rfl ?_;refine dd ?_
 exact ⟨.inl rfl,_,zk.jV 2 0 3 rfl rfl rfl rfl (.inr rfl) rfl (by simp) (shut_map (enc:=qJ) (fun _=>rfl) v.zi) (ji rfl),rfl⟩
theorem zdO (l:List Ver) (hl:l.length < 1000000000) (hp:∀ x ∈ l,zb Tryz.prog 277 [] [.agg [],.agg (qm x)] (.agg (qm x)) []):zb Tryz.prog 276 [] [lV l,.fn 277 [] [],.agg []] (.sl 0 [] 5 0 l.length false) [⟨2,72,5,l.map qm,0⟩]:=by
 have m1:(l.map qm).length=l.length:=List.length_map ..
 refine zb.zH (fn:=Tryz.f276) Tryz.func276 rfl ?_
 conv=>whnf
 rw [m1]
 refine ⟨rfl,by omega,by show (104:Int) * _<=_;omega,by omega,?_⟩
 refine dd ?_
 rw [m1,toNat_cast]
 refine zE.seq l.length (fun k=>[lV l,.fn 277 [] [],.za,.za,.za,.ref 0 [] 0 0 0,.lst 1 0 [],.sl 1 [] 5 0 l.length false,.za,.za,.za,.za,.za,lV l,I l.length,I k,.za,.za,.za,.za,.za,.za,.za,.za,.za,.za,.za,.za,.za]) (fun k=>[⟨1,281,0,[[]],0⟩,⟨2,72,5,(l.map qm).take k++(List.replicate l.length ([.lst 1 0 [],.lst 1 0 [],.lst 1 0 [],.lst 1 0 [],Bo false]:List C)).drop k,0⟩]) (fun k=>True) ?_ trivial (fun k hk hr=>?_) (fun hr=>?_)
 ·exact cC
 ·obtain ⟨x,hx⟩:∃ x,x=l[k]:=⟨_,rfl⟩
  have hx2:l[k]?= some x:=by rw [List.getElem?_eq_getElem hk,hx]
  have hg:(l.map qm)[k]?= some (qm x):=by rw [List.getElem?_map,hx2];rfl
  conv=>whnf
  (refine ⟨fun _=>?_,fun h=>absurd h (by simp;omega)⟩);refine dd ?_
  (refine ⟨by omega,_,by rw [toNat_cast];exact hg,?_⟩);refine dd ?_
  refine ⟨_,_,(hp x (by rw [hx];exact List.getElem_mem hk)).frame rfl _,?_⟩;refine dd ?_
  refine ⟨by omega,by simp;omega,?_⟩
  refine dd ?_
  have e1:0+(k:Int).toNat=k:=by simp
  rw [e1]
  refine ⟨_,wm (by simp) hk,rfl,?_⟩
  refine dd ?_
  refine .inl ⟨rfl,?_,trivial⟩
  have e2:=wo (z:=([.lst 1 0 [],.lst 1 0 [],.lst 1 0 [],.lst 1 0 [],Bo false]:List C)) (n:=l.length) hg hk
  rw [zn (by omega),<- e2]
  exact cE 2
 ·(conv=>whnf);(refine ⟨fun h=>absurd h (by simp),fun _=>?_⟩);refine dd ?_;(refine ⟨by simp,?_⟩);(conv=>whnf)
  rw [vX (by simp)]
  exact ⟨.inl rfl,_,zk.ren [1] [6] _ _ rfl rfl rfl rfl,rfl,rfl⟩
theorem kK (r:List Int) (hr:r.length < 1000000000):zb Tryz.prog 280 [] [.agg [],lU r] (lU r) []:=by
 refine zb.zl (fn:=Tryz.f280) Tryz.func280 rfl ?_
 conv=>whnf
 refine ⟨_,_,(ziR r hr).frame rfl _,?_⟩;refine dd ?_
 exact ⟨.inl rfl,_,.refl _,rfl⟩
end Go.Wor
namespace Go.Wor
open Go.Ab Go.Proofs Go.Hy Go.Gat Go.Nam Go.Hos Go.Con Go.Sna
theorem jg {x:Ob} {H:ze} (h1:jb [x]=true) (h2:jb H=true):jb (x::H)=true:=by
 unfold jb at *
 simp only [List.all_cons,List.all_nil,Bool.and_true] at *
 rw [h1,h2];rfl
theorem zad {ty sz fz:Nat} {rows:List (List C)} (h:∀ r ∈ rows,∀ c ∈ r,zw c=true):jb [⟨1,ty,sz,rows,fz⟩]=true:=by
 unfold jb
 simp only [List.all_cons,List.all_nil,Bool.and_true]
 rw [List.all_eq_true]
 exact fun r hr=>List.all_eq_true.2 fun c hc=>h r hr c hc
structure zlX (g0:Gr) (e:Nat) (e0:En):Prop where
 sm:zk6 g0
 at_:g0.ends[e]?= some e0
 ne:e0.next≠[]
end Go.Wor
namespace Go.Wor
open Go.Ab Go.Proofs Go.Hy Go.Gat Go.Nam Go.Hos Go.Con Go.Sna
structure zlY (v0:Ver) (g:Nat) (g0:Gr) (e:Nat) (e0:En):Prop extends zlX g0 e e0 where
 smv:zg6 v0
 atg:v0.zi[g]?= some g0
structure zmN (vs:List Ver) (v:Nat) (v0:Ver) (g:Nat) (g0:Gr) (e:Nat) (e0:En):Prop extends zlY v0 g g0 e e0 where
 zmP:vs.length < 1000000000∧∀ v ∈ vs,zg6 v
 atv:vs[v]?= some v0
end Go.Wor
namespace Go.Wor
open Go.Ab Go.Proofs Go.Hy Go.Gat Go.Nam Go.Hos Go.Con Go.Sna
theorem zdN (l:List (List Int)) (hl:l.length < 1000000000) (hp:∀ x ∈ l,zb Tryz.prog 280 [] [.agg [],lU x] (lU x) []):zb Tryz.prog 279 [] [lCo l,.fn 280 [] [],.agg []] (.sl 0 [] 1 0 l.length false) [⟨2,161,1,l.map jP,0⟩]:=by
 have m1:(l.map jP).length=l.length:=List.length_map ..
 refine zb.zH (fn:=Tryz.f279) Tryz.func279 rfl ?_
 conv=>whnf
 rw [m1]
 refine ⟨rfl,by omega,by show (24:Int) * _<=_;omega,by omega,?_⟩
 refine dd ?_
 rw [m1,toNat_cast]
 refine zE.seq l.length (fun k=>[lCo l,.fn 280 [] [],.za,.za,.za,.ref 0 [] 0 0 0,.lst 1 0 [],.sl 1 [] 1 0 l.length false,.za,.za,.za,.za,.za,lCo l,I l.length,I k,.za,.za,.za,.za,.za,.za,.za,.za,.za,.za,.za,.za,.za]) (fun k=>[⟨1,281,0,[[]],0⟩,⟨2,161,1,(l.map jP).take k++(List.replicate l.length ([.lst 1 0 []]:List C)).drop k,0⟩]) (fun k=>True) ?_ trivial (fun k hk hr=>?_) (fun hr=>?_)
 ·exact cC
 ·obtain ⟨x,hx⟩:∃ x,x=l[k]:=⟨_,rfl⟩
  have hx2:l[k]?= some x:=by rw [List.getElem?_eq_getElem hk,hx]
  have hg:(l.map jP)[k]?= some (jP x):=by rw [List.getElem?_map,hx2];rfl
  conv=>whnf
  (refine ⟨fun _=>?_,fun h=>absurd h (by simp;omega)⟩);refine dd ?_
  (refine ⟨by omega,_,by rw [toNat_cast];exact hg,?_⟩);refine dd ?_
  refine ⟨_,_,(hp x (by rw [hx];exact List.getElem_mem hk)).frame rfl _,?_⟩;refine dd ?_
  refine ⟨by omega,by simp;omega,?_⟩
  refine dd ?_
  have e1:0+(k:Int).toNat=k:=by simp
  rw [e1]
  refine ⟨_,wm (by simp) hk,rfl,?_⟩
  refine dd ?_
  refine .inl ⟨rfl,?_,trivial⟩
  have e2:=wo (z:=([.lst 1 0 []]:List C)) (n:=l.length) hg hk
  rw [zn (by omega),<- e2]
  exact cE 2
 ·(conv=>whnf);(refine ⟨fun h=>absurd h (by simp),fun _=>?_⟩);refine dd ?_;(refine ⟨by simp,?_⟩);(conv=>whnf)
  rw [vX (by simp)]
  exact ⟨.inl rfl,_,zk.ren [1] [6] _ _ rfl rfl rfl rfl,rfl,rfl⟩
theorem zjn {P:Program} {f:FuncId} {fn:Func} {c:Code} {H2:ze} {args:List C} {r:C} (hf:P.funcs[f]?= some fn) (hb:fn.body=some c)
  (h:wpA P 0 c (entry fn args) [] fun ex t1 H1=>(ex=.ret∨ex=.normal)∧∃ s2 r1,zk 0 ⟨t1,H1⟩ s2∧yz P fn s2=some r1∧zk 0 ⟨[r1],s2.H⟩ ⟨[r],H2⟩):zb P f [] args r H2:=fun w E vs hh hl=>by
 have h1:qc P f [] args fun r1 H1=>zk 0 ⟨[r1],H1⟩ ⟨[r],H2⟩:=qc.zH hf hb h
 refine (h1 w E vs hh hl).mono ?_
 rintro e w' ⟨r1,H1,v,E',hw,h0,h2,h3,g⟩
 obtain ⟨E2,hs,g2⟩:=hw 0 w' E' ⟨#[v],[]⟩ ⟨h2,LL.one h3,Nat.zero_le _,Nat.zero_le _⟩
 have hn2:=hs.heap.n
 have hn0:E.n=0:=hh.n
 refine ⟨v,E2,h0,hs.heap,hs.tmps.cons_inv.1,⟨⟨by rw [hn0];exact Nat.zero_le _,fun id hops hi=>by rw [hn0] at hi;omega,fun id hops hi=>by rw [hn0] at hi;omega,fun b o u hu=>g2.le.St _ _ _ (g.le.St _ _ _ hu),fun id k u hi hu=>by rw [hn0] at hi;omega⟩,g2.os.trans g.os,g2.tape.trans g.tape,g2.output.trans g.output,Nat.le_trans g.size g2.size,?_,?_,?_⟩⟩
 ·intro k hk ho
  exact (g2.frame k (Nat.lt_of_lt_of_le hk g.size) fun hc=>(g.own k hc).elim (fun h=>by omega) ho).trans (g.frame k hk ho)
 ·intro b o u hu
  rcases g2.qs b o u hu with h1 | h1 | h1
  ·exact g.qs b o u h1
  ·exact .inr (.inl (Nat.le_trans g.size h1))
  ·rcases g.own b h1 with h4 | h4
   ·exact .inr (.inl h4)
   ·exact .inr (.inr h4)
 ·intro b hb
  rcases g2.own b hb with h1 | h1
  ·exact .inl (Nat.le_trans g.size h1)
  ·exact g.own b h1
theorem zaE (w:Wor) (h:zbx w):zb Tryz.prog 215 [] [Cw w] (Cw w) []:=by
 refine zb.zl (fn:=Tryz.f215) Tryz.func215 rfl ?_
 conv=>whnf
 refine ⟨_,_,(k9 w.pins h.pins).frame rfl _,?_⟩;refine dd ?_
 refine zp [] (zdO w.zd h.zd.1 fun v hv=>yg v (h.zd.2 v hv)) rfl rfl rfl rfl rfl rfl ?_;refine dd ?_
 refine ⟨_,_,(zeH w.zc h.zc).frame rfl _,?_⟩;refine dd ?_
 refine zp [] (zdN w.counts h.counts.1 fun r hr=>kK r (h.counts.2 r hr)) rfl rfl rfl rfl rfl rfl ?_;refine dd ?_
 refine ⟨_,_,(zeI w.zg h.zg).frame rfl _,?_⟩;refine dd ?_
 exact ⟨.inl rfl,_,(zk.jV 1 0 4 rfl rfl rfl rfl (.inr rfl) rfl (by simp) (shut_map (enc:=qm) (fun _=>rfl) w.zd) (ji rfl)).trans (zk.jV 1 0 6 rfl rfl rfl rfl (.inr rfl) rfl (by simp) (shut_map (enc:=jP) (fun _=>rfl) w.counts) (ji rfl)),rfl⟩
structure zmM (cs:List (List Int)) (t:Nat) (r0:List Int):Prop where
 sm:cs.length < 1000000000∧∀ r ∈ cs,r.length < 1000000000
 at_:cs[t]?= some r0
 ne:r0≠[]
theorem zdE (w:Wor) (h:zbx w) (x:Lis) (l:List Lis) (hx:w.zc=x::l):zb Tryz.prog 215 [] [Cw w] (.agg [I w.zj,I w.current,I w.lock,lI w.pins,lV w.zd,.sl 0 [] 4 0 w.zc.length false,lCo w.counts,lR w.zg]) [⟨2,95,4,w.zc.map qy,0⟩]:=by
 have hl:l.length < 1000000000:=by have:=h.zc;rw [hx] at this;simp at this;omega
 have hc:=ziP x l hl
 rw [<- hx] at hc
 refine zjn (fn:=Tryz.f215) Tryz.func215 rfl ?_;conv=>whnf
 refine ⟨_,_,(k9 w.pins h.pins).frame rfl _,?_⟩;refine dd ?_
 refine zp [] (zdO w.zd h.zd.1 fun v hv=>yg v (h.zd.2 v hv)) rfl rfl rfl rfl rfl rfl ?_;refine dd ?_
 refine zp [] (hc) rfl rfl rfl rfl rfl rfl ?_;refine dd ?_
 refine zp [] (zdN w.counts h.counts.1 fun r hr=>kK r (h.counts.2 r hr)) rfl rfl rfl rfl rfl rfl ?_;refine dd ?_
 refine ⟨_,_,(zeI w.zg h.zg).frame rfl _,?_⟩;refine dd ?_
 refine ⟨.inl rfl,_,_,(zk.jV 1 0 4 rfl rfl rfl rfl (.inr rfl) rfl (by simp) (shut_map (enc:=qm) (fun _=>rfl) w.zd) (ji rfl)).trans (zk.jV 1 0 6 rfl rfl rfl rfl (.inr rfl) rfl (by simp) (shut_map (enc:=jP) (fun _=>rfl) w.counts) (ji rfl)),rfl,?_⟩
 exact zk.ren [4] [0] _ _ rfl rfl rfl (jg rfl (jg rfl (jg rfl (jg (zad fun r hr c hc=>((shut_map (enc:=qm) (fun _=>rfl) w.zd) r hr c hc).2) (jg rfl (zad fun r hr c hc=>((shut_map (enc:=jP) (fun _=>rfl) w.counts) r hr c hc).2))))))
end Go.Wor
namespace Go.Wor
open Go.Ab Go.Proofs Go.Hy Go.Gat Go.Nam Go.Hos Go.Con Go.Sna
def inV (i n:Int):Bool:=decide (0<=i) && decide (i < n)
theorem x3 (i n:Int):zb Tryz.prog 49 [] [I i,I n] (Bo (inV i n)) []:=by
 refine zb.zl (fn:=Tryz.f49) Tryz.func49 rfl ?_
 conv=>whnf
 refine ⟨fun h1=>?_,fun h1=>?_⟩
 ·refine dd ?_
  refine ⟨fun h2=>?_,fun h2=>?_⟩
  ·refine dd ?_
   (exact ⟨.inl rfl,_,.refl _,congrArg (fun b=>some (C.v (Value.bool b))) (by unfold inV;simp at h1 h2 ⊢;omega)⟩)
  ·refine dd ?_
   (exact ⟨.inl rfl,_,.refl _,congrArg (fun b=>some (C.v (Value.bool b))) (by unfold inV;simp at h1 h2 ⊢;omega)⟩)
 ·refine dd ?_
  (exact ⟨.inl rfl,_,.refl _,congrArg (fun b=>some (C.v (Value.bool b))) (by unfold inV;simp at h1 ⊢;omega)⟩)
theorem zgj {H:ze} {f:FuncId} {caps:List C} {l:List Int} (p:Int->Bool) (hcb:zA Tryz.prog f=true) (hp:∀ r ∈ l,zb Tryz.prog f H ([I r]++caps) (Bo (p r)) H) (hl:l.length < 4611686018427387904):
  zb Tryz.prog 56 H [lI l,.fn f [] caps] (I (match l.findIdx? p with | some i=>(i:Int) | none=> -1)) H:=by
 refine zb.zH (fn:=Tryz.f56) Tryz.func56 rfl ?_
 conv=>whnf
 refine zE.inv (fun n t1 H1=>∃ k,k+n=l.length∧H1=H∧(∀ j,j < k->∀ r,l[j]?= some r->p r=false)∧
   t1=[lI l,.fn f [] caps,.za,.za,I 0,.za,.za,I (l.map encI).length,I k,.za,.za,.za,.za,.za,.za,.za,.za,.za,.za]) l.length ?_ ?_
 ·exact ⟨_,_,zk.mask [0,1,4,7,8] _ _,0,by simp,rfl,by simp,rfl⟩
 rintro n _ _ ⟨k,hk,rfl,hno,rfl⟩
 conv=>whnf
 refine ⟨fun h=>?_,fun h=>?_⟩
 ·conv=>whnf
  have hlt:k < l.length:=by simpa using h
  refine ⟨by omega,encI l[k],by simp [hlt],?_⟩
  conv=>whnf
  rw [hcb]
  refine ⟨_,_,hp _ (List.getElem_mem hlt),?_⟩
  conv=>whnf
  refine ⟨fun h2=>?_,fun h2=>?_⟩
  ·conv=>whnf
   refine .inr ⟨by simp,?_⟩
   conv=>whnf
   refine ⟨.inl rfl,_,.refl _,rfl,?_⟩
   have:l.findIdx? p=some k:=by
    rw [List.findIdx?_eq_some_iff_getElem]
    refine ⟨hlt,h2,fun j hj=>?_⟩
    simp [hno j hj _ (List.getElem?_eq_getElem (by omega))]
   rw [this]
   rfl
  ·conv=>whnf
   refine .inl ⟨rfl,n - 1,_,_,by omega,zk.mask [0,1,4,7,8] _ _,k+1,by omega,rfl,?_,?_⟩
   ·intro j hj r hr
    by_cases hjk:j=k
    ·subst hjk
     rw [List.getElem?_eq_getElem hlt] at hr
     cases hr
     exact h2
    ·exact hno j (by omega) r hr
   ·rw [zn (by omega)];rfl
 ·conv=>whnf
  refine .inr ⟨by simp,?_⟩
  conv=>whnf
  refine ⟨.inl rfl,_,.refl _,rfl,?_⟩
  have:l.findIdx? p=none:=by
   rw [List.findIdx?_eq_none_iff]
   intro x hx
   obtain ⟨j,hj⟩:=List.mem_iff_getElem?.1 hx
   have hjl:=(List.getElem?_eq_some_iff.1 hj).1
   have:¬k < l.length:=by simpa using h
   exact hno j (by omega) x hj
  rw [this]
  rfl
theorem zbF {H:ze} {f:FuncId} {caps:List C} {l:List Int} (p:Int->Bool) (hcb:zA Tryz.prog f=true) (hp:∀ r ∈ l,zb Tryz.prog f H ([I r]++caps) (Bo (p r)) H) (hl:l.length < 4611686018427387904):
  zb Tryz.prog 97 H [lI l,.fn f [] caps] (Bo (l.any p)) H:=by
 refine zb.zH (fn:=Tryz.f97) Tryz.func97 rfl ?_
 conv=>whnf
 refine ⟨_,_,zgj p hcb hp hl,?_⟩
 refine dd ?_
 rw [show decide ((match l.findIdx? p with | some i=>((i:Nat):Int) | none=>(-1:Int))≥(0:Int))=l.any p from y4 l p]
 refine ⟨fun h=>?_,fun h=>?_⟩ <;> rw [h]
 ·refine dd ?_
  exact ⟨.inl rfl,_,.refl _,rfl,rfl⟩
 ·refine dd ?_
  exact ⟨.inl rfl,_,.refl _,rfl,rfl⟩
theorem zgi {H:ze} {f:FuncId} {caps:List C} {l:List En} (p:En->Bool) (hcb:zA Tryz.prog f=true) (hp:∀ r ∈ l,zb Tryz.prog f H ([Go.Slp.Ev r]++caps) (Bo (p r)) H) (hl:l.length < 4611686018427387904):
  zb Tryz.prog 162 H [lE l,.fn f [] caps] (I (match l.findIdx? p with | some i=>(i:Int) | none=> -1)) H:=by
 refine zb.zH (fn:=Tryz.f162) Tryz.func162 rfl ?_
 conv=>whnf
 refine zE.inv (fun n t1 H1=>∃ k,k+n=l.length∧H1=H∧(∀ j,j < k->∀ r,l[j]?= some r->p r=false)∧
   t1=[lE l,.fn f [] caps,.za,.za,I 0,.za,.za,I (l.map zU).length,I k,.za,.za,.za,.za,.za,.za,.za,.za,.za,.za]) l.length ?_ ?_
 ·exact ⟨_,_,zk.mask [0,1,4,7,8] _ _,0,by simp,rfl,by simp,rfl⟩
 rintro n _ _ ⟨k,hk,rfl,hno,rfl⟩
 conv=>whnf
 refine ⟨fun h=>?_,fun h=>?_⟩
 ·conv=>whnf
  have hlt:k < l.length:=by simpa using h
  refine ⟨by omega,zU l[k],by simp [hlt],?_⟩
  conv=>whnf
  rw [hcb]
  refine ⟨_,_,hp _ (List.getElem_mem hlt),?_⟩
  conv=>whnf
  refine ⟨fun h2=>?_,fun h2=>?_⟩
  ·conv=>whnf
   refine .inr ⟨by simp,?_⟩
   conv=>whnf
   refine ⟨.inl rfl,_,.refl _,rfl,?_⟩
   have:l.findIdx? p=some k:=by
    rw [List.findIdx?_eq_some_iff_getElem]
    refine ⟨hlt,h2,fun j hj=>?_⟩
    simp [hno j hj _ (List.getElem?_eq_getElem (by omega))]
   rw [this]
   rfl
  ·conv=>whnf
   refine .inl ⟨rfl,n - 1,_,_,by omega,zk.mask [0,1,4,7,8] _ _,k+1,by omega,rfl,?_,?_⟩
   ·intro j hj r hr
    by_cases hjk:j=k
    ·subst hjk
     rw [List.getElem?_eq_getElem hlt] at hr
     cases hr
     exact h2
    ·exact hno j (by omega) r hr
   ·rw [zn (by omega)];rfl
 ·conv=>whnf
  refine .inr ⟨by simp,?_⟩
  conv=>whnf
  refine ⟨.inl rfl,_,.refl _,rfl,?_⟩
  have:l.findIdx? p=none:=by
   rw [List.findIdx?_eq_none_iff]
   intro x hx
   obtain ⟨j,hj⟩:=List.mem_iff_getElem?.1 hx
   have hjl:=(List.getElem?_eq_some_iff.1 hj).1
   have:¬k < l.length:=by simpa using h
   exact hno j (by omega) x hj
  rw [this]
  rfl
theorem zbE {H:ze} {f:FuncId} {caps:List C} {l:List En} (p:En->Bool) (hcb:zA Tryz.prog f=true) (hp:∀ r ∈ l,zb Tryz.prog f H ([Go.Slp.Ev r]++caps) (Bo (p r)) H) (hl:l.length < 4611686018427387904):
  zb Tryz.prog 108 H [lE l,.fn f [] caps] (Bo (l.any p)) H:=by
 refine zb.zH (fn:=Tryz.f108) Tryz.func108 rfl ?_
 conv=>whnf
 refine ⟨_,_,zgi p hcb hp hl,?_⟩
 refine dd ?_
 rw [show decide ((match l.findIdx? p with | some i=>((i:Nat):Int) | none=>(-1:Int))≥(0:Int))=l.any p from y4 l p]
 refine ⟨fun h=>?_,fun h=>?_⟩ <;> rw [h]
 ·refine dd ?_
  exact ⟨.inl rfl,_,.refl _,rfl,rfl⟩
 ·refine dd ?_
  exact ⟨.inl rfl,_,.refl _,rfl,rfl⟩
def yy (ep p:Int):Bool:=decide (p < 0) || decide (p > ep+1)
theorem zcD (w:Wor) (p:Int) (h0:0<=w.zj) (h1:w.zj<=1000000000000):zb Tryz.prog 104 [⟨1,28,8,[zR w],0⟩] ([I p]++[.ref 0 [] 8 0 0]) (Bo (yy w.zj p)) [⟨1,28,8,[zR w],0⟩]:=by
 have e:IntKind.i64.wrap (w.zj+1)=w.zj+1:=zV (by omega) (by omega)
 refine zb.zH (fn:=Tryz.f104) Tryz.func104 rfl ?_
 conv=>whnf
 refine ⟨fun h2=>?_,fun h2=>?_⟩
 ·refine dd ?_
  exact ⟨.inl rfl,_,.refl _,rfl,congrArg (fun b=>some (C.v (Value.bool b))) (by unfold yy;rw [h2];rfl)⟩
 ·refine dd ?_
  rw [e]
  refine ⟨fun h3=>?_,fun h3=>?_⟩
  ·refine dd ?_
   exact ⟨.inl rfl,_,.refl _,rfl,congrArg (fun b=>some (C.v (Value.bool b))) (by unfold yy;rw [h2,h3];rfl)⟩
  ·refine dd ?_
   exact ⟨.inl rfl,_,.refl _,rfl,congrArg (fun b=>some (C.v (Value.bool b))) (by unfold yy;rw [h2,h3];rfl)⟩
def qt (w:Wor):Bool:=decide (1<=w.pins.length) && decide (w.pins.length<=8) && decide (w.counts.length=w.pins.length) && vb w.counts && decide (0<=w.zj) && decide (w.zj<=1000000000000) && (decide (w.lock=0) || decide (w.lock=1)) && !w.pins.any (yy w.zj)
theorem zdR (w:Wor) (hp:w.pins.length < 4000000000000000000) (hc:w.counts.length < 4000000000000000000):zb Tryz.prog 59 [] [Cw w] (Bo (qt w)) []:=by
 have m1:(w.pins.map encI).length=w.pins.length:=List.length_map ..
 have m2:(w.counts.map jP).length=w.counts.length:=List.length_map ..
 refine zb.zl (fn:=Tryz.f59) Tryz.func59 rfl ?_
 conv=>whnf
 rw [m1]
 refine ⟨fun h1=>?_,fun h1=>?_⟩
 ·(have e:qt w=false:=by (unfold qt;(rw [show decide (1<=w.pins.length)=false from by rw [decide_eq_false_iff_not];have:=of_decide_eq_true h1;omega]);simp));rw [e];refine dd ?_;(repeat ((first | apply ya | apply yb);refine dd ?_));exact ⟨.inl rfl,_,.refl _,rfl⟩
 refine dd ?_
 refine ⟨fun h2=>?_,fun h2=>?_⟩
 ·(have e:qt w=false:=by (unfold qt;(rw [show decide (w.pins.length<=8)=false from by simp at h2 ⊢;omega]);simp));rw [e];refine dd ?_;(repeat ((first | apply ya | apply yb);refine dd ?_));exact ⟨.inl rfl,_,.refl _,rfl⟩
 refine dd ?_
 rw [m2]
 refine ⟨fun h3=>?_,fun h3=>?_⟩
 ·(have e:qt w=false:=by (unfold qt;(rw [show decide (w.counts.length=w.pins.length)=false from by rw [decide_eq_false_iff_not];intro hh;simp [hh] at h3]);simp));rw [e];refine dd ?_;(repeat ((first | apply ya | apply yb);refine dd ?_));exact ⟨.inl rfl,_,.refl _,rfl⟩
 refine dd ?_
 refine ⟨_,_,(zcL w.counts hc).frame rfl _,?_⟩;refine dd ?_
 refine ⟨fun h4=>?_,fun h4=>?_⟩
 rotate_left
 ·(have e:qt w=false:=by (unfold qt;(rw [h4]);simp));rw [e];refine dd ?_;(repeat ((first | apply ya | apply yb);refine dd ?_));exact ⟨.inl rfl,_,.refl _,rfl⟩
 refine dd ?_
 refine ⟨fun h5=>?_,fun h5=>?_⟩
 ·(have e:qt w=false:=by (unfold qt;(rw [show decide (0<=w.zj)=false from by simp at h5 ⊢;omega]);simp));rw [e];refine dd ?_;(repeat ((first | apply ya | apply yb);refine dd ?_));exact ⟨.inl rfl,_,.refl _,rfl⟩
 refine dd ?_
 refine ⟨fun h6=>?_,fun h6=>?_⟩
 ·(have e:qt w=false:=by (unfold qt;(rw [show decide (w.zj<=1000000000000)=false from by simp at h6 ⊢;omega]);simp));rw [e];refine dd ?_;(repeat ((first | apply ya | apply yb);refine dd ?_));exact ⟨.inl rfl,_,.refl _,rfl⟩
 refine dd ?_
 have b0:0<=w.zj:=by simp at h5;omega
 have b1:w.zj<=1000000000000:=by simp at h6;omega
 have hcon:=zbF (H:=[⟨1,28,8,[zR w],0⟩]) (f:=104) (l:=w.pins) (caps:=[.ref 0 [] 8 0 0]) (yy w.zj) (by kernel_rfl) (fun r _=>zcD w r b0 b1) (by omega)
 have g0:qt w=((decide (w.lock=0) || decide (w.lock=1)) && !w.pins.any (yy w.zj)):=by
  have h3':w.counts.length=w.pins.length:=by simp at h3;omega
  unfold qt
  rw [show decide (1<=w.pins.length)=true from by rw [decide_eq_true_iff];have:=of_decide_eq_false h1;omega,show decide (w.pins.length<=8)=true from by simp at h2 ⊢;omega,show decide (w.counts.length=w.pins.length)=true from by simpa using h3',h4,show decide (0<=w.zj)=true from by simpa using b0,show decide (w.zj<=1000000000000)=true from by simpa using b1]
  rfl
 have fin:∀ hl:(decide (w.lock=0) || decide (w.lock=1))=true,qt w=!w.pins.any (yy w.zj):=fun hl=>by rw [g0,hl];rfl
 refine ⟨fun h7=>?_,fun h7=>?_⟩
 ·refine dd ?_
  refine ⟨fun h8=>?_,fun h8=>?_⟩
  ·have e:qt w=false:=by rw [g0,show (decide (w.lock=0) || decide (w.lock=1))=false from by simp at h7 h8 ⊢;omega];rfl
   rw [e]
   refine dd ?_
   (repeat ((first | apply ya | apply yb);refine dd ?_))
   exact ⟨.inl rfl,_,.refl _,rfl⟩
  rw [fin (by simp at h8 ⊢;omega)]
  refine dd ?_
  (repeat ((first | apply ya | apply yb);refine dd ?_))
  refine zp [0] (hcon) rfl rfl rfl rfl rfl rfl ?_;refine dd ?_
  refine ⟨fun h9=>?_,fun h9=>?_⟩
  ·refine dd ?_
   (exact ⟨.inl rfl,_,.refl _,congrArg (fun b=>some (C.v (Value.bool b))) (by rw [h9];rfl)⟩)
  ·refine dd ?_
   (exact ⟨.inl rfl,_,.refl _,congrArg (fun b=>some (C.v (Value.bool b))) (by rw [h9];rfl)⟩)
 ·rw [fin (by simp at h7 ⊢;omega)]
  refine dd ?_
  (repeat ((first | apply ya | apply yb);refine dd ?_))
  refine zp [0] (hcon) rfl rfl rfl rfl rfl rfl ?_;refine dd ?_
  refine ⟨fun h9=>?_,fun h9=>?_⟩
  ·refine dd ?_
   (exact ⟨.inl rfl,_,.refl _,congrArg (fun b=>some (C.v (Value.bool b))) (by rw [h9];rfl)⟩)
  ·refine dd ?_
   (exact ⟨.inl rfl,_,.refl _,congrArg (fun b=>some (C.v (Value.bool b))) (by rw [h9];rfl)⟩)
def yZ (x:Clu) (e:En):Bool:=!Go.Slp.isV e || (e.next.length:Int) != x.xG
theorem zcq (x:Clu) (e:En) (he:e.ok):zb Tryz.prog 107 [⟨1,148,4,[jA x],0⟩] ([Go.Slp.Ev e]++[.ref 0 [] 4 0 0]) (Bo (yZ x e)) [⟨1,148,4,[jA x],0⟩]:=by
 have m1:(e.next.map encI).length=e.next.length:=List.length_map ..
 refine zb.zH (fn:=Tryz.f107) Tryz.func107 rfl ?_
 conv=>whnf
 refine ⟨_,_,(Go.Slp.vF e he).frame rfl _,?_⟩;refine dd ?_
 refine ⟨fun h1=>?_,fun h1=>?_⟩
 rotate_left
 ·refine dd ?_
  exact ⟨.inl rfl,_,zk.keep [3] 1 _ _ rfl rfl rfl rfl,rfl,congrArg (fun b=>some (C.v (Value.bool b))) (by unfold yZ;rw [h1];rfl)⟩
 ·refine dd ?_
  rw [m1]
  refine ⟨fun h2=>?_,fun h2=>?_⟩
  ·refine dd ?_
   exact ⟨.inl rfl,_,zk.keep [3] 1 _ _ rfl rfl rfl rfl,rfl,congrArg (fun b=>some (C.v (Value.bool b))) (by unfold yZ;rw [h1,h2];rfl)⟩
  ·refine dd ?_
   exact ⟨.inl rfl,_,zk.keep [3] 1 _ _ rfl rfl rfl rfl,rfl,congrArg (fun b=>some (C.v (Value.bool b))) (by unfold yZ;rw [h1,h2];rfl)⟩
structure OkV (v:Ver):Prop where
 snap:yX v.snap
 zi:v.zi.length < 1000000000000
 ends : ∀ g ∈ v.zi, g.ends.length < 1000000000000 ∧ ∀ e ∈ g.ends, e.ok
def zaO (v:Ver) (i:Nat):Bool:=match v.zi[i]?,v.snap.zf[i]? with
 | some g,some x=>decide (g.ends.length=x.zQ.length) && !g.ends.any (yZ x)
 | _,_=>true
def zav (v:Ver):Bool:=za5 v.snap && decide (v.zi.length=v.snap.zf.length) && (List.range v.zi.length).all (zaO v)
theorem zcN (v:Ver) (hv:OkV v):zb Tryz.prog 61 [] [Cv v] (Bo (zav v)) []:=by
 have m1:(v.zi.map qJ).length=v.zi.length:=List.length_map ..
 have m2:(v.snap.zf.map jA).length=v.snap.zf.length:=List.length_map ..
 have hgl:=hv.zi
 refine zb.zl (fn:=Tryz.f61) Tryz.func61 rfl ?_
 conv=>whnf
 refine ⟨_,_,(wM v.snap hv.snap).frame rfl _,?_⟩;refine dd ?_
 refine ⟨fun h1=>?_,fun h1=>?_⟩
 rotate_left
 ·have e:zav v=false:=by unfold zav;rw [h1];rfl
  rw [e]
  refine dd ?_
  (repeat ((first | apply ya | apply yb);refine dd ?_))
  exact ⟨.inl rfl,_,.refl _,rfl⟩
 refine dd ?_
 rw [m1,m2]
 refine ⟨fun h2=>?_,fun h2=>?_⟩
 ·have e:zav v=false:=by unfold zav;rw [show decide (v.zi.length=v.snap.zf.length)=false from by rw [decide_eq_false_iff_not];intro hh;simp [hh] at h2,Bool.and_false];rfl
  rw [e]
  refine dd ?_
  (repeat ((first | apply ya | apply yb);refine dd ?_))
  exact ⟨.inl rfl,_,.refl _,rfl⟩
 have h2':v.zi.length=v.snap.zf.length:=by simp at h2;omega
 refine dd ?_
 (repeat ((first | apply ya | apply yb);refine dd ?_))
 rw [m1]
 refine zE.seq v.zi.length (fun k=>[.za,.ref 0 [] 5 0 0,Bo false,.za,.za,.za,.za,.za,.za,.za,.za,.za,.za,.za,.za,.za,.za,.za,.za,.za,.za,.za,lG v.zi,I v.zi.length,I k,.za,.za,.za,.za,.za,.za,.za,.za,.za,.za,.za,.za,.za,.za,.za,.za,.za,.za,.za,.za,.za,.za,.za,.za,.za]) (fun k=>[⟨1,72,5,[qm v],0⟩]) (fun k=>∀ j,j < k->zaO v j=true) ?_ (by simp) (fun k hk hr=>?_) (fun hr=>?_)
 ·exact cC
 ·obtain ⟨g,hg⟩:∃ g,g=v.zi[k]:=⟨_,rfl⟩
  obtain ⟨x,hx⟩:∃ x,x=v.snap.zf[k]'(by omega):=⟨_,rfl⟩
  have gg:(v.zi.map qJ)[k]?= some (qJ g):=by rw [List.getElem?_map,List.getElem?_eq_getElem hk,hg];rfl
  have gx:(v.snap.zf.map jA)[k]?= some (jA x):=by rw [List.getElem?_map,List.getElem?_eq_getElem (by omega),hx];rfl
  have hgm:g ∈ v.zi:=by rw [hg];exact List.getElem_mem hk
  have me:(g.ends.map zU).length=g.ends.length:=List.length_map ..
  have mh:(x.zQ.map xW).length=x.zQ.length:=List.length_map ..
  have hd:zaO v k=(decide (g.ends.length=x.zQ.length) && !g.ends.any (yZ x)):=by
   unfold zaO
   rw [List.getElem?_eq_getElem hk,List.getElem?_eq_getElem (by omega),<- hg,<- hx]
  have bad:zaO v k=false->zav v=false:=fun h=>by
   have:(List.range v.zi.length).all (zaO v)=false:=by rw [List.all_eq_false];exact ⟨k,by simpa using hk,by simp [h]⟩
   unfold zav
   rw [this,Bool.and_false]
  have hcon:=zbE (H:=[⟨1,148,4,[jA x],0⟩]) (f:=107) (l:=g.ends) (caps:=[.ref 0 [] 4 0 0]) (yZ x) (by kernel_rfl) (fun r hr=>zcq x r ((hv.ends g hgm).2 r hr)) (by have:=(hv.ends g hgm).1;omega)
  conv=>whnf
  (refine ⟨fun _=>?_,fun h=>absurd h (by simp;omega)⟩);refine dd ?_
  (refine ⟨by omega,_,by rw [toNat_cast];exact gg,?_⟩);refine dd ?_
  (refine ⟨by omega,_,by rw [toNat_cast];exact gx,?_⟩);refine dd ?_
  rw [me,mh]
  refine ⟨fun h3=>?_,fun h3=>?_⟩
  ·rw [bad (by rw [hd,show decide (g.ends.length=x.zQ.length)=false from by rw [decide_eq_false_iff_not];intro hh;simp [hh] at h3];rfl)]
   refine dd ?_
   (repeat ((first | apply ya | apply yb);refine dd ?_))
   (refine .inr ⟨by simp,?_⟩);(conv=>whnf)
   exact ⟨.inl rfl,_,.refl _,rfl⟩
  refine dd ?_
  refine zp [2] (hcon) rfl rfl rfl rfl rfl rfl ?_;refine dd ?_
  refine ⟨fun h4=>?_,fun h4=>?_⟩
  ·rw [bad (by rw [hd,h4,Bool.not_true,Bool.and_false])]
   refine dd ?_
   (repeat ((first | apply ya | apply yb);refine dd ?_))
   (refine .inr ⟨by simp,?_⟩);(conv=>whnf)
   exact ⟨.inl rfl,_,.refl _,rfl⟩
  refine dd ?_
  (repeat ((first | apply ya | apply yb);refine dd ?_))
  refine .inl ⟨rfl,?_,fun j hj=>?_⟩
  ·rw [zn (by omega)]
   exact cE 1
  ·by_cases e:j=k
   ·subst e
    rw [hd,h4]
    simp at h3 ⊢
    omega
   ·exact hr j (by omega)
 ·have e:zav v=true:=by
   unfold zav
   rw [h1,show decide (v.zi.length=v.snap.zf.length)=true from by simpa using h2',Bool.true_and,Bool.true_and,List.all_eq_true]
   exact fun i hi=>hr i (by simpa using hi)
  rw [e]
  (conv=>whnf);(refine ⟨fun h=>absurd h (by simp),fun _=>?_⟩);refine dd ?_;(refine ⟨by simp,?_⟩);(conv=>whnf)
  exact ⟨.inl rfl,_,.refl _,rfl⟩
end Go.Wor
namespace Go.Wor
open Go.Ab Go.Proofs Go.Hy Go.Gat Go.Nam Go.Hos Go.Con Go.Sna
def jB (l:List Ret):List (Int × Value):=l.foldl (fun m r=>vp m r.version (Value.bool r.gone)) []
def jW (l:List Ret) (i:Int):Bool:=match ((qE (jB l) i).bind fun j=>((jB l)[j]?).map (·.2):Option Value) with
 | some (.bool b)=>b
 | _=>false
theorem zim {m:List (Int × Value)} (h:∀ kv ∈ m,∃ b,kv.2=Value.bool b) (k:Int) (b:Bool):∀ kv ∈ vp m k (Value.bool b),∃ b,kv.2=Value.bool b:=fun kv hm=>by
 unfold vp at hm
 split at hm
 ·rcases List.mem_or_eq_of_mem_set hm with hm | rfl
  ·exact h kv hm
  ·exact ⟨b,rfl⟩
 ·rcases List.mem_append.1 hm with hm | hm
  ·exact h kv hm
  ·rw [List.mem_singleton.1 hm];exact ⟨b,rfl⟩
theorem zge (l:List Ret):∀ kv ∈ jB l,∃ b,kv.2=Value.bool b:=by
 unfold jB
 suffices key:∀ (l:List Ret) (m:List (Int × Value)),(∀ kv ∈ m,∃ b,kv.2=Value.bool b)->∀ kv ∈ l.foldl (fun m r=>vp m r.version (Value.bool r.gone)) m,∃ b,kv.2=Value.bool b from key l [] (by simp)
 intro l
 induction l with
 | nil=>intro m h;exact h
 | cons r l ih=>intro m h;exact ih _ (zim h _ _)
theorem zi8 (l:List Ret) (i:Int):(((qE (jB l) i).bind fun j=>((jB l)[j]?).map (·.2)).getD (Value.bool false))=Value.bool (jW l i):=by
 unfold jW
 cases h:(qE (jB l) i).bind fun j=>((jB l)[j]?).map (·.2) with
 | none=>rfl
 | some v=>
  obtain ⟨j,_,hj⟩:=Option.bind_eq_some_iff.1 h
  obtain ⟨kv,h1,rfl⟩:=Option.map_eq_some_iff.1 hj
  obtain ⟨b,hb⟩:=zge l kv (List.mem_of_getElem? h1)
  simp only [Option.getD_some]
  rw [hb]
theorem zhW (l:List Ret) {k:Nat} {r:Ret} (h:l[k]?= some r):jB (l.take (k+1))=vp (jB (l.take k)) r.version (Value.bool r.gone):=by
 obtain ⟨hk,rfl⟩:=List.getElem?_eq_some_iff.1 h
 unfold jB
 rw [List.take_succ_eq_append_getElem hk,List.foldl_append]
 rfl
structure OkW (w:Wor):Prop where
 pins:w.pins.length < 1000000000000
 zd:w.zd.length < 1000000000000∧∀ v ∈ w.zd,OkV v
 zc:w.zc.length < 1000000000000∧∀ l ∈ w.zc,l.ok
 counts:w.counts.length < 1000000000000∧∀ r ∈ w.counts,r.length < 1000000000000
 zg:w.zg.length < 1000000000000
def jK (w:Wor) (r:Ret):Bool:=decide (r.version≥(w.zd.length:Int)) || r.version == w.current || decide (r.at_ > w.zj)
def vO (w:Wor) (i:Nat):Bool:=match w.zd[i]? with
 | some v=>zav v && (v.j5 == jW w.zg i)
 | none=>true
def vd (w:Wor) (i:Nat):Bool:=match w.zc[i]? with
 | some l=>Go.Gat.isV l && decide (qo w.zc l.name=i)
 | none=>true
def qf (w:Wor):Bool:=qt w && (decide (0<=w.current) && decide (w.current < w.zd.length)) && Go.Lim.isV w.zg && !w.zg.any (jK w) && (List.range w.zd.length).all (vO w) && (List.range w.zc.length).all (vd w)
theorem jG (w:Wor) (hw:OkW w):zb Tryz.prog 23 [] [Cw w] (Bo (qf w)) []:=by
 have m1:(w.zd.map qm).length=w.zd.length:=List.length_map ..
 have m2:(w.zg.map qz).length=w.zg.length:=List.length_map ..
 have m3:(w.zc.map qy).length=w.zc.length:=List.length_map ..
 have b1:=hw.pins
 have b2:=hw.zd.1
 have b3:=hw.zc.1
 have b4:=hw.counts.1
 have b5:=hw.zg
 refine zb.zl (fn:=Tryz.f23) Tryz.func23 rfl ?_
 conv=>whnf
 refine ⟨_,_,(zdR w (by omega) (by omega)).frame rfl _,?_⟩;refine dd ?_
 refine ⟨fun h1=>?_,fun h1=>?_⟩
 rotate_left
 ·(have e:qf w=false:=by (unfold qf;(rw [h1]);simp));rw [e];refine dd ?_;(repeat ((first | apply ya | apply yb);refine dd ?_));exact ⟨.inl rfl,_,.refl _,rfl⟩
 refine dd ?_
 refine ⟨fun h2=>?_,fun h2=>?_⟩
 ·(have e:qf w=false:=by (unfold qf;(rw [show decide (0<=w.current)=false from by simp at h2 ⊢;omega]);simp));rw [e];refine dd ?_;(repeat ((first | apply ya | apply yb);refine dd ?_));exact ⟨.inl rfl,_,.refl _,rfl⟩
 refine dd ?_
 rw [m1]
 refine ⟨fun h3=>?_,fun h3=>?_⟩
 ·(have e:qf w=false:=by (unfold qf;(rw [show decide (w.current < w.zd.length)=false from by simp at h3 ⊢;omega]);simp));rw [e];refine dd ?_;(repeat ((first | apply ya | apply yb);refine dd ?_));exact ⟨.inl rfl,_,.refl _,rfl⟩
 refine dd ?_
 refine ⟨_,_,(Go.Lim.vF (l:=w.zg) (by omega)).frame rfl _,?_⟩;refine dd ?_
 refine ⟨fun h4=>?_,fun h4=>?_⟩
 rotate_left
 ·(have e:qf w=false:=by (unfold qf;(rw [h4]);simp));rw [e];refine dd ?_;(repeat ((first | apply ya | apply yb);refine dd ?_));exact ⟨.inl rfl,_,.refl _,rfl⟩
 refine dd ?_
 (repeat ((first | apply ya | apply yb);refine dd ?_))
 intro b
 refine dd ?_
 rw [m2]
 have g0:qf w=(!w.zg.any (jK w) && (List.range w.zd.length).all (vO w) && (List.range w.zc.length).all (vd w)):=by
  unfold qf
  rw [h1,show decide (0<=w.current)=true from by simp at h2 ⊢;omega,show decide (w.current < w.zd.length)=true from by simp at h3 ⊢;omega,h4]
  rfl
 refine zE.seq w.zg.length (fun k=>(.za::.ref 0 [] 8 0 0::Bo false:: .v (.map (some b)):: .za::.za::.za::.za::.za::.za::.za::.za::.za::.za::.za::.za::.za::.za::.za::.za::.za::.za::.za::.za::.za::.za::.za::.za::.za::.za::.za::.za::.za::.za::lR w.zg::I w.zg.length::I k:: .za::.za::.za::.za::.za::.za::.za::.za::.za::.za::.za::.za::.za::.za::.za::.za::.za::.za::.za::.za::.za::.za::.za::.za::.za::.za::.za::.za::.za::.za::.za::.za::.za::.za::.za::.za::.za::.za::.za::.za::.za::.za::.za::.za::.za::.za::.za::.za::.za::.za::.za::.za::.za::.za::.za::.za::.za::.za::.za::.za::.za::.za::.za::.za::.za::.za::.za::.za::.za::.za::[])) (fun k=>[⟨1,28,8,[zR w],0⟩,obM b (jz jy (jB (w.zg.take k))) (jB (w.zg.take k)).length]) (fun k=>∀ j,(h:j < w.zg.length)->j < k->jK w w.zg[j]=false) ?_ (by simp) (fun k hk hr=>?_) (fun hr=>?_)
 ·exact cC
 ·obtain ⟨r,hx⟩:∃ r,r=w.zg[k]:=⟨_,rfl⟩
  have hx2:w.zg[k]?= some r:=by rw [List.getElem?_eq_getElem hk,hx]
  have hg:(w.zg.map qz)[k]?= some (qz r):=by rw [List.getElem?_map,hx2];rfl
  have bad:jK w r=true->qf w=false:=fun h=>by
   have:w.zg.any (jK w)=true:=List.any_eq_true.2 ⟨r,List.mem_of_getElem? hx2,h⟩
   rw [g0,this];rfl
  conv=>whnf
  (refine ⟨fun _=>?_,fun h=>absurd h (by simp;omega)⟩);refine dd ?_
  (refine ⟨by omega,_,by rw [toNat_cast];exact hg,?_⟩);refine dd ?_
  rw [m1]
  refine ⟨fun h5=>?_,fun h5=>?_⟩
  ·(rw [bad (by unfold jK;rw [h5];rfl)]);refine dd ?_;(repeat ((first | apply ya | apply yb);refine dd ?_));(refine .inr ⟨by simp,?_⟩);(conv=>whnf);exact ⟨.inl rfl,_,.refl _,rfl⟩
  refine dd ?_
  refine ⟨fun h6=>?_,fun h6=>?_⟩
  ·(rw [bad (by unfold jK;rw [h6,Bool.or_true];rfl)]);refine dd ?_;(repeat ((first | apply ya | apply yb);refine dd ?_));(refine .inr ⟨by simp,?_⟩);(conv=>whnf);exact ⟨.inl rfl,_,.refl _,rfl⟩
  refine dd ?_
  refine ⟨fun h7=>?_,fun h7=>?_⟩
  ·(rw [bad (by unfold jK;rw [h7,Bool.or_true])]);refine dd ?_;(repeat ((first | apply ya | apply yb);refine dd ?_));(refine .inr ⟨by simp,?_⟩);(conv=>whnf);exact ⟨.inl rfl,_,.refl _,rfl⟩
  refine dd ?_
  (repeat ((first | apply ya | apply yb);refine dd ?_))
  refine ⟨fun q=>?_,fun q=>?_⟩
  all_goals
   refine dd ?_
   refine ⟨_,_,OpV.mapUpdate (id:=1) _ _ _ _ (.inl rfl) Tryz.underlying111 (zdv.int Tryz.underlying3) rfl rfl r.version (fun E u h=>yf h) (.bool r.gone) (fun E u h=>by rw [q];exact yf h),?_⟩
   refine dd ?_
   refine .inl ⟨rfl,?_,fun j hj hjk=>?_⟩
   ·rw [zn (by omega),<- zhW w.zg hx2]
    exact cE 2
   ·by_cases e:j=k
    ·subst e;rw [<- hx];unfold jK;rw [h5,h6,h7];rfl
    ·exact hr j hj (by omega)
 have hl0:w.zg.any (jK w)=false:=by
  rw [List.any_eq_false]
  intro x hx
  obtain ⟨j,hj,rfl⟩:=List.mem_iff_getElem.1 hx
  simp [hr j hj hj]
 rw [List.take_length]
 (conv=>whnf);(refine ⟨fun h=>absurd h (by simp),fun _=>?_⟩);refine dd ?_;(refine ⟨by simp,?_⟩);(conv=>whnf)
 rw [m1]
 have g1:qf w=((List.range w.zd.length).all (vO w) && (List.range w.zc.length).all (vd w)):=by rw [g0,hl0];rfl
 refine zE.seq w.zd.length (fun k=>(.za::.ref 0 [] 8 0 0::Bo false:: .v (.map (some b)):: .za::.za::.za::.za::.za::.za::.za::.za::.za::.za::.za::.za::.za::.za::.za::.za::.za::.za::.za::.za::.za::.za::.za::.za::.za::.za::.za::.za::.za::.za::.za::.za::.za::.za::.za::.za::.za::.za::.za::.za::.za::.za::.za::.za::.za::.za::.za::.za::.za::.za::.za::.za::.za::.za::.za::.za::.za::.za::.za::.za::.za::.za::.za::lV w.zd::I w.zd.length::I k:: .za::.za::.za::.za::.za::.za::.za::.za::.za::.za::.za::.za::.za::.za::.za::.za::.za::.za::.za::.za::.za::.za::.za::.za::.za::.za::.za::.za::.za::.za::.za::.za::.za::.za::.za::.za::.za::[])) (fun k=>[⟨1,28,8,[zR w],0⟩,obM b (jz jy (jB (w.zg))) (jB (w.zg)).length]) (fun k=>∀ j,j < k->vO w j=true) ?_ (by simp) (fun k hk hr=>?_) (fun hr=>?_)
 ·exact cC
 ·obtain ⟨v,hx⟩:∃ v,v=w.zd[k]:=⟨_,rfl⟩
  have hx2:w.zd[k]?= some v:=by rw [List.getElem?_eq_getElem hk,hx]
  have hg:(w.zd.map qm)[k]?= some (qm v):=by rw [List.getElem?_map,hx2];rfl
  have hd:vO w k=(zav v && (v.j5 == jW w.zg k)):=by unfold vO;rw [hx2]
  have bad:vO w k=false->qf w=false:=fun h=>by
   have:(List.range w.zd.length).all (vO w)=false:=by rw [List.all_eq_false];exact ⟨k,by simpa using hk,by simp [h]⟩
   rw [g1,this];rfl
  conv=>whnf
  (refine ⟨fun _=>?_,fun h=>absurd h (by simp;omega)⟩);refine dd ?_
  (refine ⟨by omega,_,by rw [toNat_cast];exact hg,?_⟩);refine dd ?_
  refine ⟨_,_,(zcN v (hw.zd.2 v (List.mem_of_getElem? hx2))).frame rfl _,?_⟩;refine dd ?_
  refine ⟨fun h5=>?_,fun h5=>?_⟩
  rotate_left
  ·(rw [bad (by rw [hd,h5];rfl)]);refine dd ?_;(repeat ((first | apply ya | apply yb);refine dd ?_));(refine .inr ⟨by simp,?_⟩);(conv=>whnf);exact ⟨.inl rfl,_,.refl _,rfl⟩
  refine dd ?_
  refine ⟨fun q=>?_,fun q=>?_⟩
  all_goals
   refine dd ?_
   refine ⟨_,_,OpV.lookup (id:=1) _ _ _ rfl Tryz.underlying111 (zdv.int Tryz.underlying3) rfl rfl (k:Int) (fun E u h=>yf h) (c:=Bo (jW w.zg k)) rfl rfl (fun E=>by rw [zi8];exact .v _ rfl),?_⟩
   refine dd ?_
   refine ⟨fun q2=>?_,fun q2=>?_⟩
   ·(rw [bad (by rw [hd,q];simp at q2;simp [q2])]);refine dd ?_;(repeat ((first | apply ya | apply yb);refine dd ?_));(refine .inr ⟨by simp,?_⟩);(conv=>whnf);exact ⟨.inl rfl,_,.refl _,rfl⟩
   refine dd ?_
   (repeat ((first | apply ya | apply yb);refine dd ?_))
   refine .inl ⟨rfl,?_,fun j hj=>?_⟩
   ·rw [zn (by omega)]
    exact cE 2
   ·by_cases e:j=k
    ·subst e;rw [hd,h5,q];simp at q2;simp [q2]
    ·exact hr j (by omega)
 have hv0:(List.range w.zd.length).all (vO w)=true:=by
  rw [List.all_eq_true]
  exact fun i hi=>hr i (by simpa using hi)
 have g2:qf w=(List.range w.zc.length).all (vd w):=by rw [g1,hv0];rfl
 (conv=>whnf);(refine ⟨fun h=>absurd h (by simp),fun _=>?_⟩);refine dd ?_;(refine ⟨by simp,?_⟩);(conv=>whnf)
 rw [m3]
 refine zE.seq w.zc.length (fun k=>(.za::.ref 0 [] 8 0 0::Bo false:: .v (.map (some b)):: .za::.za::.za::.za::.za::.za::.za::.za::.za::.za::.za::.za::.za::.za::.za::.za::.za::.za::.za::.za::.za::.za::.za::.za::.za::.za::.za::.za::.za::.za::.za::.za::.za::.za::.za::.za::.za::.za::.za::.za::.za::.za::.za::.za::.za::.za::.za::.za::.za::.za::.za::.za::.za::.za::.za::.za::.za::.za::.za::.za::.za::.za::.za::.za::.za::.za::.za::.za::.za::.za::.za::.za::.za::.za::.za::.za::.za::.za::.za::.za::.za::.za::.za::lL w.zc::I w.zc.length::I k:: .za::.za::.za::.za::.za::.za::.za::.za::.za::.za::.za::.za::.za::.za::.za::.za::.za::[])) (fun k=>[⟨1,28,8,[zR w],0⟩,obM b (jz jy (jB (w.zg))) (jB (w.zg)).length]) (fun k=>∀ j,j < k->vd w j=true) ?_ (by simp) (fun k hk hr=>?_) (fun hr=>?_)
 ·exact cC
 ·obtain ⟨l,hx⟩:∃ l,l=w.zc[k]:=⟨_,rfl⟩
  have hx2:w.zc[k]?= some l:=by rw [List.getElem?_eq_getElem hk,hx]
  have hg:(w.zc.map qy)[k]?= some (qy l):=by rw [List.getElem?_map,hx2];rfl
  have hd:vd w k=(Go.Gat.isV l && decide (qo w.zc l.name=k)):=by unfold vd;rw [hx2]
  have bad:vd w k=false->qf w=false:=fun h=>by
   have:(List.range w.zc.length).all (vd w)=false:=by rw [List.all_eq_false];exact ⟨k,by simpa using hk,by simp [h]⟩
   rw [g2,this]
  conv=>whnf
  (refine ⟨fun _=>?_,fun h=>absurd h (by simp;omega)⟩);refine dd ?_
  (refine ⟨by omega,_,by rw [toNat_cast];exact hg,?_⟩);refine dd ?_
  refine ⟨_,_,(Go.Gat.vF l (hw.zc.2 l (List.mem_of_getElem? hx2))).frame rfl _,?_⟩;refine dd ?_
  refine ⟨fun h5=>?_,fun h5=>?_⟩
  rotate_left
  ·(rw [bad (by rw [hd,h5];rfl)]);refine dd ?_;(repeat ((first | apply ya | apply yb);refine dd ?_));(refine .inr ⟨by simp,?_⟩);(conv=>whnf);exact ⟨.inl rfl,_,.refl _,rfl⟩
  refine dd ?_
  refine ⟨_,_,(zaZ w.zc l.name (by omega)).frame rfl _,?_⟩;refine dd ?_
  refine ⟨fun h6=>?_,fun h6=>?_⟩
  ·(rw [bad (by rw [hd,show decide (qo w.zc l.name=(k:Int))=false from by rw [decide_eq_false_iff_not];intro hh;simp [hh] at h6,Bool.and_false])]);refine dd ?_;(repeat ((first | apply ya | apply yb);refine dd ?_));(refine .inr ⟨by simp,?_⟩);(conv=>whnf);exact ⟨.inl rfl,_,.refl _,rfl⟩
  refine dd ?_
  (repeat ((first | apply ya | apply yb);refine dd ?_))
  refine .inl ⟨rfl,?_,fun j hj=>?_⟩
  ·rw [zn (by omega)]
   exact cE 2
  ·by_cases e:j=k
   ·subst e;rw [hd,h5];simp at h6;simp [h6]
   ·exact hr j (by omega)
 ·have hl1:(List.range w.zc.length).all (vd w)=true:=by
   rw [List.all_eq_true]
   exact fun i hi=>hr i (by simpa using hi)
  rw [g2,hl1]
  (conv=>whnf);(refine ⟨fun h=>absurd h (by simp),fun _=>?_⟩);refine dd ?_;(refine ⟨by simp,?_⟩);(conv=>whnf)
  exact ⟨.inl rfl,_,.refl _,rfl⟩
end Go.Wor
