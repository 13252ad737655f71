import Derived.Test.YtgllekalddijbaaGreatUF
import Derived.Test.YtgllekalddijbaaGreatUS
import Derived.Test.YtgllekalddijbaaGreatUT
set_option linter.unusedVariables false
set_option linter.unusedSimpArgs false
set_option linter.unusedSectionVars false
set_option maxRecDepth 100000
set_option maxHeartbeats 4000000
namespace Go.Wor
open Go.Ab Go.Proofs Go.Hy Go.Gat Go.Nam Go.Hos Go.Con Go.Sna
def yM (l:List Str) (n:Int):Str:=if 0<=n∧n < l.length then (l[n.toNat]?).getD [] else []
def yL (l:List Clu) (n:Int):Str:=if 0<=n∧n < l.length then ((l[n.toNat]?).map (·.name)).getD [] else []
def zfo (s:Sna) (r:Rul):Rou:=⟨yM s.zc r.listen,r.host,r.path,yL s.zf r.zn⟩
def za8 (s:Sna):Cfg:=⟨s.zc,s.rules.map (zfo s),s.zf⟩
def za1 (s:Sna):Bool:=(jN (za8 s)).1 == 0
structure yr (s:Sna):Prop where
 zc:s.zc.length < 1000000000000∧∀ x ∈ s.zc,x.length < 4000000000000000000
 rules:s.rules.length < 1000000000000∧∀ r ∈ s.rules,r.host.length < 1000000000000∧r.path.length < 1000000000000
 zf:s.zf.length < 1000000000000∧∀ x ∈ s.zf,x.name.length < 4000000000000000000∧x.zT.length < 4000000000000000000
theorem yr.cfg {s:Sna} (h:yr s):zbw (za8 s):=by
 refine ⟨h.zc,⟨by simpa [za8] using h.rules.1,fun r hr=>?_⟩,h.zf⟩
 simp only [za8,List.mem_map] at hr
 obtain ⟨q,hq,rfl⟩:=hr
 refine ⟨?_,(h.rules.2 q hq).1,(h.rules.2 q hq).2,?_⟩
 ·show (yM s.zc q.listen).length < _
  unfold yM
  split
  ·cases hx:s.zc[q.listen.toNat]? with
   | none=>simp
   | some x=>exact h.zc.2 x (List.mem_of_getElem? hx)
  ·simp
 ·show (yL s.zf q.zn).length < _
  unfold yL
  split
  ·cases hx:s.zf[q.zn.toNat]? with
   | none=>simp
   | some x=>exact (h.zf.2 x (List.mem_of_getElem? hx)).1
  ·simp
theorem zdF (s:Sna) (hs:yr s):zb Tryz.prog 161 [] [Cs s] (Cf (za8 s)) []:=by
 have m1:(s.rules.map kY).length=s.rules.length:=List.length_map ..
 have m2:(s.zc.map w8).length=s.zc.length:=List.length_map ..
 have m3:(s.zf.map jW).length=s.zf.length:=List.length_map ..
 have hl:=hs.rules.1
 refine zb.zm (fn:=Tryz.f161) Tryz.func161 rfl ?_
 conv=>whnf
 rw [m1]
 refine zM.seq s.rules.length (fun k=>(.za::.ref 0 [] 3 0 0:: .ref 1 [] 3 0 0:: .ref 2 [] 3 0 0:: .za::.za::.za::.za::.za::.za::.za::.za::.za::zgo s.rules::I s.rules.length::I k:: .za::.za::.za::.za::.za::.za::.za::.za::.za::.za::.za::.za::.za::.za::.za::.za::.za::.za::.za::.za::.za::.za::.za::.za::.za::.za::.za::.za::.za::.za::.za::.za::.za::.za::.za::.za::.za::.za::.za::.za::.za::.za::.za::.za::.za::.za::.za::.za::.za::.za::.za::.za::.za::[])) (fun k=>[⟨1,69,3,[zba s],0⟩,⟨1,33,3,[[.lst 1 0 [],.lst 1 0 [],.lst 1 0 []]],0⟩,⟨1,33,3,[[lT s.zc,.gl 3 4 (((s.rules.take k).map (zfo s)).map vY),lC s.zf]],0⟩,⟨4,150,4,((s.rules.take k).map (zfo s)).map vY,0⟩]) (fun k=>True) ?_ trivial (fun k hk hr=>?_) (fun hr=>?_)
 ·refine zl.trans (zl.zhk 2 1 150 4 rfl rfl (.inl rfl) rfl rfl) ?_
  exact cC
 ·obtain ⟨r,hx⟩:∃ r,r=s.rules[k]:=⟨_,rfl⟩
  have hg:(s.rules.map kY)[k]?= some (kY r):=by rw [List.getElem?_map,List.getElem?_eq_getElem hk,hx];rfl
  have hlg:(((s.rules.take k).map (zfo s)).map vY).length=k:=by simp;omega
  have eg:((s.rules.take (k+1)).map (zfo s)).map vY=((s.rules.take k).map (zfo s)).map vY++[vY (zfo s r)]:=by rw [List.take_succ_eq_append_getElem hk,<- hx];simp
  have hv:∀ a b,a=yM s.zc r.listen->b=yL s.zf r.zn->vY ⟨a,r.host,r.path,b⟩=vY (zfo s r):=fun a b h1 h2=>by rw [h1,h2];rfl
  conv=>whnf
  (refine ⟨fun _=>?_,fun h=>absurd h (by simp;omega)⟩);refine dd ?_
  (refine ⟨by omega,_,by rw [toNat_cast];exact hg,?_⟩);refine dd ?_
  refine ⟨fun h1=>?_,fun h1=>?_⟩
  rotate_left
  ·refine dd ?_
   (repeat ((first | apply ya | apply yb);refine dd ?_))
   refine ⟨fun q1=>?_,fun q1=>?_⟩;rotate_left;(focus (refine dd ?_;(repeat ((first | apply ya | apply yb);refine dd ?_));(refine ⟨rfl,.inr rfl,by rw [hlg];simp [maxLen];omega,by rw [hlg];show (k+1) * 64<=_;omega,?_⟩);refine dd ?_;(refine .inl ⟨rfl,?_,trivial⟩);(rw [zp (by omega),eg,<- hv _ _ (by unfold yM;rw [if_neg (by simp at h1;omega)]) (by unfold yL;rw [if_neg (by simp at q1;omega)])]);exact cE 4));refine dd ?_;(rw [m3]);refine ⟨fun q2=>?_,fun q2=>?_⟩;rotate_left;(focus (refine dd ?_;(repeat ((first | apply ya | apply yb);refine dd ?_));(refine ⟨rfl,.inr rfl,by rw [hlg];simp [maxLen];omega,by rw [hlg];show (k+1) * 64<=_;omega,?_⟩);refine dd ?_;(refine .inl ⟨rfl,?_,trivial⟩);(rw [zp (by omega),eg,<- hv _ _ (by unfold yM;rw [if_neg (by simp at h1;omega)]) (by unfold yL;rw [if_neg (by simp at q2;omega)])]);exact cE 4));(have q3:r.zn.toNat < s.zf.length:=by simp at q1 q2;omega);(have gq:(s.zf.map jW)[r.zn.toNat]?= some (jW s.zf[r.zn.toNat]):=by rw [List.getElem?_map,List.getElem?_eq_getElem q3];rfl);refine dd ?_;(repeat ((first | apply ya | apply yb);refine dd ?_));(refine ⟨by simp at q1;omega,_,gq,?_⟩);refine dd ?_;(refine ⟨rfl,.inr rfl,by rw [hlg];simp [maxLen];omega,by rw [hlg];show (k+1) * 64<=_;omega,?_⟩);refine dd ?_;(refine .inl ⟨rfl,?_,trivial⟩);(rw [zp (by omega),eg,<- hv _ _ (by unfold yM;rw [if_neg (by simp at h1;omega)]) (by unfold yL;rw [if_pos (by simp at q1 q2;omega),List.getElem?_eq_getElem q3])]);exact cE 4
  refine dd ?_
  rw [m2]
  refine ⟨fun h2=>?_,fun h2=>?_⟩
  rotate_left
  ·refine dd ?_
   (repeat ((first | apply ya | apply yb);refine dd ?_))
   refine ⟨fun q1=>?_,fun q1=>?_⟩;rotate_left;(focus (refine dd ?_;(repeat ((first | apply ya | apply yb);refine dd ?_));(refine ⟨rfl,.inr rfl,by rw [hlg];simp [maxLen];omega,by rw [hlg];show (k+1) * 64<=_;omega,?_⟩);refine dd ?_;(refine .inl ⟨rfl,?_,trivial⟩);(rw [zp (by omega),eg,<- hv _ _ (by unfold yM;rw [if_neg (by simp at h2;omega)]) (by unfold yL;rw [if_neg (by simp at q1;omega)])]);exact cE 4));refine dd ?_;(rw [m3]);refine ⟨fun q2=>?_,fun q2=>?_⟩;rotate_left;(focus (refine dd ?_;(repeat ((first | apply ya | apply yb);refine dd ?_));(refine ⟨rfl,.inr rfl,by rw [hlg];simp [maxLen];omega,by rw [hlg];show (k+1) * 64<=_;omega,?_⟩);refine dd ?_;(refine .inl ⟨rfl,?_,trivial⟩);(rw [zp (by omega),eg,<- hv _ _ (by unfold yM;rw [if_neg (by simp at h2;omega)]) (by unfold yL;rw [if_neg (by simp at q2;omega)])]);exact cE 4));(have q3:r.zn.toNat < s.zf.length:=by simp at q1 q2;omega);(have gq:(s.zf.map jW)[r.zn.toNat]?= some (jW s.zf[r.zn.toNat]):=by rw [List.getElem?_map,List.getElem?_eq_getElem q3];rfl);refine dd ?_;(repeat ((first | apply ya | apply yb);refine dd ?_));(refine ⟨by simp at q1;omega,_,gq,?_⟩);refine dd ?_;(refine ⟨rfl,.inr rfl,by rw [hlg];simp [maxLen];omega,by rw [hlg];show (k+1) * 64<=_;omega,?_⟩);refine dd ?_;(refine .inl ⟨rfl,?_,trivial⟩);(rw [zp (by omega),eg,<- hv _ _ (by unfold yM;rw [if_neg (by simp at h2;omega)]) (by unfold yL;rw [if_pos (by simp at q1 q2;omega),List.getElem?_eq_getElem q3])]);exact cE 4
  have h3:r.listen.toNat < s.zc.length:=by simp at h1 h2;omega
  have gl:(s.zc.map w8)[r.listen.toNat]?= some (w8 s.zc[r.listen.toNat]):=by rw [List.getElem?_map,List.getElem?_eq_getElem h3];rfl
  refine dd ?_
  (repeat ((first | apply ya | apply yb);refine dd ?_))
  refine ⟨by simp at h1;omega,_,gl,?_⟩
  refine dd ?_
  refine ⟨fun q1=>?_,fun q1=>?_⟩;rotate_left;(focus (refine dd ?_;(repeat ((first | apply ya | apply yb);refine dd ?_));(refine ⟨rfl,.inr rfl,by rw [hlg];simp [maxLen];omega,by rw [hlg];show (k+1) * 64<=_;omega,?_⟩);refine dd ?_;(refine .inl ⟨rfl,?_,trivial⟩);(rw [zp (by omega),eg,<- hv _ _ (by unfold yM;rw [if_pos (by simp at h1 h2;omega),List.getElem?_eq_getElem h3]) (by unfold yL;rw [if_neg (by simp at q1;omega)])]);exact cE 4));refine dd ?_;(rw [m3]);refine ⟨fun q2=>?_,fun q2=>?_⟩;rotate_left;(focus (refine dd ?_;(repeat ((first | apply ya | apply yb);refine dd ?_));(refine ⟨rfl,.inr rfl,by rw [hlg];simp [maxLen];omega,by rw [hlg];show (k+1) * 64<=_;omega,?_⟩);refine dd ?_;(refine .inl ⟨rfl,?_,trivial⟩);(rw [zp (by omega),eg,<- hv _ _ (by unfold yM;rw [if_pos (by simp at h1 h2;omega),List.getElem?_eq_getElem h3]) (by unfold yL;rw [if_neg (by simp at q2;omega)])]);exact cE 4));(have q3:r.zn.toNat < s.zf.length:=by simp at q1 q2;omega);(have gq:(s.zf.map jW)[r.zn.toNat]?= some (jW s.zf[r.zn.toNat]):=by rw [List.getElem?_map,List.getElem?_eq_getElem q3];rfl);refine dd ?_;(repeat ((first | apply ya | apply yb);refine dd ?_));(refine ⟨by simp at q1;omega,_,gq,?_⟩);refine dd ?_;(refine ⟨rfl,.inr rfl,by rw [hlg];simp [maxLen];omega,by rw [hlg];show (k+1) * 64<=_;omega,?_⟩);refine dd ?_;(refine .inl ⟨rfl,?_,trivial⟩);(rw [zp (by omega),eg,<- hv _ _ (by unfold yM;rw [if_pos (by simp at h1 h2;omega),List.getElem?_eq_getElem h3]) (by unfold yL;rw [if_pos (by simp at q1 q2;omega),List.getElem?_eq_getElem q3])]);exact cE 4
 ·(conv=>whnf);(refine ⟨fun h=>absurd h (by simp),fun _=>?_⟩);refine dd ?_;(refine ⟨by simp,?_⟩);(conv=>whnf)
  rw [List.take_length]
  exact ⟨.inl rfl,_,.refl _,rfl⟩
theorem wJ (s:Sna) (hs:yr s):zb Tryz.prog 106 [] [Cs s] (Bo (za1 s)) []:=by
 refine zb.zm (fn:=Tryz.f106) Tryz.func106 rfl ?_
 conv=>whnf
 refine ⟨_,_,(zdF s hs).frame rfl _,?_⟩;refine dd ?_
 refine ⟨_,_,(check_sound (za8 s) hs.cfg).frame rfl _,?_⟩;refine dd ?_
 refine ⟨fun h=>?_,fun h=>?_⟩
 ·refine dd ?_
  (exact ⟨.inl rfl,_,.refl _,congrArg (fun b=>some (C.v (Value.bool b))) (by unfold za1;exact h.symm)⟩)
 ·refine dd ?_
  (exact ⟨.inl rfl,_,.refl _,congrArg (fun b=>some (C.v (Value.bool b))) (by unfold za1;exact h.symm)⟩)
end Go.Wor
namespace Go.Wor
open Go.Ab Go.Proofs Go.Hy Go.Gat Go.Nam Go.Hos Go.Con Go.Sna
open Go.Slp (yv vr)
theorem zlt {f:Nat->Int} {n:Nat} (h:(qN f n).1=0):∀ j,j < n->f j=0:=fun j hj=>by
 unfold qN at h
 split at h
 ·rename_i i hi
  rw [List.find?_range_eq_some] at hi
  exact absurd h (by simpa using hi.1)
 ·rename_i hn
  rw [List.find?_range_eq_none] at hn
  simpa using hn j hj
structure zkT (x:Clu):Prop where
 name:jH x.name=true
 jQ:x.jQ=1∨x.jQ=2
 xG:1<=x.xG∧x.xG<=4
 zT:1<=x.zT.length∧x.zT.length<=4
structure zl7 (s:Sna):Prop where
 zc:1<=s.zc.length∧s.zc.length<=4
 rules:1<=s.rules.length∧s.rules.length<=8
 zf:1<=s.zf.length∧s.zf.length<=4
 all:∀ x ∈ s.zf,zkT x
theorem xR {s:Sna} (h:za1 s=true):zl7 s:=by
 unfold za1 at h
 have h:(jN (za8 s)).1=0:=by simpa using h
 unfold jN at h
 split at h
 ·contradiction
 rename_i h1
 split at h
 ·contradiction
 rename_i h2
 split at h
 ·contradiction
 rename_i h3
 have h1:(x8 (za8 s)).1=0:=by simpa using h1
 unfold x8 at h1
 split at h1
 ·cases h1
 rename_i h4
 have e:(za8 s).zI.length=s.rules.length:=by simp [za8]
 rw [e] at h4
 simp only [show (za8 s).zc=s.zc from rfl,show (za8 s).zf=s.zf from rfl] at h4
 have b:∀ n:Nat,∀ m:Int,¬(decide (1<=(n:Int)) && decide ((n:Int)<=m))=false->1<=n∧(n:Int)<=m:=fun n m hh=>by simp at hh;omega
 have q1:=b s.zc.length 4 fun hh=>h4 (.inl (.inl hh))
 have q2:=b s.rules.length 8 fun hh=>h4 (.inl (.inr hh))
 have q3:=b s.zf.length 4 fun hh=>h4 (.inr hh)
 refine ⟨by omega,by omega,by omega,fun x hx=>?_⟩
 obtain ⟨i,hi,rfl⟩:=List.mem_iff_getElem.1 hx
 have h5:=zlt (f:=zcA s.zf) (n:=s.zf.length) (Decidable.of_not_not h3) i hi
 unfold zcA at h5
 rw [List.getElem?_eq_getElem hi] at h5
 dsimp only at h5
 split at h5
 ·cases h5
 rename_i p1
 split at h5
 ·cases h5
 split at h5
 ·cases h5
 rename_i p2
 split at h5
 ·cases h5
 rename_i p3
 split at h5
 ·cases h5
 rename_i p4
 refine ⟨by simpa using p1,?_,?_,?_⟩
 ·by_cases a:s.zf[i].jQ=1
  ·exact .inl a
  ·by_cases a2:s.zf[i].jQ=2
   ·exact .inr a2
   ·exact absurd ⟨a,a2⟩ p2
 ·simp at p3;omega
 ·simp at p4;omega
abbrev yu (x:Clu):En:=(yv x.xG).1
theorem zjg {x:Clu} (h:zkT x):yv x.xG=(yu x,0):=by
 have:=h.xG
 unfold yu yv
 rw [if_neg (by omega)]
def zcD (x:Clu):Gr:=⟨0,List.replicate x.zT.length (yu x)⟩
abbrev zmv:Sna:=⟨[],[],[]⟩
abbrev zk6:Ver:=⟨zmv,[],false⟩
def w5 (s:Sna):Ver × Int:=if za1 s then (⟨s,s.zf.map zcD,false⟩,0) else (zk6,1)
abbrev Cv (v:Ver):C:=.agg (qu v)
abbrev tV (r:Ver × Int):C:=.tup [Cv r.1,I r.2]
theorem zaC (s:Sna) (hs:yr s):zb Tryz.prog 112 [] [Cs s] (tV (w5 s)) []:=by
 have m1:(s.zf.map jW).length=s.zf.length:=List.length_map ..
 refine zb.zm (fn:=Tryz.f112) Tryz.func112 rfl ?_
 conv=>whnf
 refine ⟨_,_,(wJ s hs).frame rfl _,?_⟩;refine dd ?_
 refine ⟨fun h1=>?_,fun h1=>?_⟩
 rotate_left
 ·have e:w5 s=(zk6,1):=by unfold w5;rw [if_neg (by rw [h1];decide)]
  rw [e]
  refine dd ?_
  (repeat ((first | apply ya | apply yb);refine dd ?_))
  exact ⟨.inl rfl,_,zl.var 1 rfl rfl rfl (.cons (WC.nil 0 1) (.cons (WC.nil 0 4) (.cons (WC.nil 0 4) (.cons (WC.nil 0 2) (.cons (.refl _) .nil))))),rfl⟩
 have e:w5 s=(⟨s,s.zf.map zcD,false⟩,0):=by unfold w5;rw [if_pos h1]
 have hg:=xR h1
 rw [e]
 refine dd ?_
 (repeat ((first | apply ya | apply yb);refine dd ?_))
 rw [m1]
 refine zM.seq s.zf.length (fun k=>[.za,.ref 0 [] 3 0 0,.ref 1 [] 5 0 0,I 0,.ref 2 [] 5 0 0,.za,.za,.za,.za,.za,.za,.za,.za,.za,.za,.za,.za,lC s.zf,I s.zf.length,I k,.za,.za,.za,.za,.za,.za,.za,.za,.za,.za,.za,.za,.za,.za,.za,.za,.za,.za,.za,.za,.za,.za,.za,.za,.za,.za,.za,.za,.za,.za,.za,.za,.za]) (fun k=>[⟨1,69,3,[zba s],0⟩,⟨1,72,5,[[.lst 1 0 [],.lst 1 0 [],.lst 1 0 [],.lst 1 0 [],Bo false]],0⟩,⟨1,72,5,[zba s++[.gl 3 2 (((s.zf.take k).map zcD).map q7),Bo false]],0⟩,⟨4,93,2,((s.zf.take k).map zcD).map q7,0⟩]) (fun k=>True) ?_ trivial (fun k hk hr=>?_) (fun hr=>?_)
 ·refine zl.trans (zl.zhk 2 3 93 2 rfl rfl (.inl rfl) rfl rfl) ?_
  exact cC
 ·obtain ⟨x,hx⟩:∃ x,x=s.zf[k]:=⟨_,rfl⟩
  have hgx:(s.zf.map jW)[k]?= some (jW x):=by rw [List.getElem?_map,List.getElem?_eq_getElem hk,hx];rfl
  have hgood:=hg.all x (by rw [hx];exact List.getElem_mem hk)
  have hc4:=hg.zf.2
  have h4:=hgood.zT.2
  have hlg:(((s.zf.take k).map zcD).map q7).length=k:=by simp;omega
  have eg:((s.zf.take (k+1)).map zcD).map q7=((s.zf.take k).map zcD).map q7++[q7 (zcD x)]:=by rw [List.take_succ_eq_append_getElem hk,<- hx];simp
  have mh:(x.zT.map xV).length=x.zT.length:=List.length_map ..
  have fs:zb Tryz.prog 166 [] [I x.xG] (.tup [.agg (zX (yu x)),I 0]) []:=by
   have:=vr x.xG
   rw [zjg hgood] at this
   exact this
  conv=>whnf
  (refine ⟨fun _=>?_,fun h=>absurd h (by simp;omega)⟩);refine dd ?_
  (refine ⟨by omega,_,by rw [toNat_cast];exact hgx,?_⟩);refine dd ?_
  rw [mh]
  refine zM.seq x.zT.length (fun j=>[.za,.ref 0 [] 3 0 0,.ref 1 [] 5 0 0,I 0,.ref 2 [] 5 0 0,.za,.ref 4 [] 4 0 0,.ref 5 [] 2 0 0,.za,.za,.za,.za,.za,.za,.za,.za,.za,lC s.zf,I s.zf.length,I k,.za,.za,.za,.za,.za,I x.zT.length,I j,.za,.za,.za,.za,.za,.za,.za,.za,.za,.za,.za,.za,.za,.za,.za,.za,.za,.za,.za,.za,.za,.za,.za,.za,.za,.za]) (fun j=>[⟨1,69,3,[zba s],0⟩,⟨1,72,5,[[.lst 1 0 [],.lst 1 0 [],.lst 1 0 [],.lst 1 0 [],Bo false]],0⟩,⟨1,72,5,[zba s++[.gl 3 2 (((s.zf.take k).map zcD).map q7),Bo false]],0⟩,⟨4,93,2,((s.zf.take k).map zcD).map q7,0⟩,⟨1,148,4,[jW x],0⟩,⟨1,93,2,[[U 0,.gl 6 3 ((List.replicate j (yu x)).map zX)]],0⟩,⟨4,97,3,((List.replicate j (yu x)).map zX),0⟩]) (fun k=>True) ?_ trivial (fun j hj hr=>?_) (fun hr=>?_)
  ·refine zl.trans (zl.zhk 5 1 97 3 rfl rfl (.inl rfl) rfl rfl) ?_
   exact cC
  ·have hle:(((List.replicate j (yu x)).map zX)).length=j:=by simp
   have ee:((List.replicate (j+1) (yu x)).map zX)=((List.replicate j (yu x)).map zX)++[zX (yu x)]:=by rw [List.replicate_succ',List.map_append];rfl
   conv=>whnf
   (refine ⟨fun _=>?_,fun h=>absurd h (by simp;omega)⟩);refine dd ?_
   refine ⟨_,_,(fs).frame rfl _,?_⟩;refine dd ?_
   (repeat ((first | apply ya | apply yb);refine dd ?_))
   refine ⟨rfl,.inr rfl,by rw [hle];simp [maxLen];omega,by rw [hle];show (j+1) * 40<=_;omega,?_⟩
   refine dd ?_
   refine .inl ⟨rfl,?_,trivial⟩
   rw [zp (by omega),ee]
   exact cE 7
  ·(conv=>whnf);(refine ⟨fun h=>absurd h (by simp),fun _=>?_⟩);refine dd ?_;(refine ⟨by simp,?_⟩);(conv=>whnf)
   refine ⟨rfl,.inr rfl,by rw [hlg];simp [maxLen];omega,by rw [hlg];show (k+1) * 32<=_;omega,?_⟩
   refine dd ?_
   refine .inl ⟨rfl,?_,trivial⟩
   rw [zp (by omega),eg]
   exact cE 4
 ·(conv=>whnf);(refine ⟨fun h=>absurd h (by simp),fun _=>?_⟩);refine dd ?_;(refine ⟨by simp,?_⟩);(conv=>whnf)
  rw [List.take_length]
  exact ⟨.inl rfl,_,.refl _,rfl⟩
def kE (n:Int):List (List Int) × Int:=if n < 1∨8 < n then ([],1) else (List.replicate n.toNat [0,0,0,0,0,0],0)
abbrev tC0 (r:List (List Int) × Int):C:=.tup [lCo r.1,I r.2]
def y0 (c:List (List Int)):Bool:=c.all (fun r=>r.length == 6) && decide (1<=c.length) && decide (c.length<=8)
theorem zfv {rows:List (List C)} (h:(rows.all fun r=>r.all fun c=>jz c && zw c)=true):∀ r ∈ rows,∀ c ∈ r,jz c=true∧zw c=true:=fun r hr c hc=>by
 have:=List.all_eq_true.1 (List.all_eq_true.1 h r hr) c hc
 simpa using this
theorem shut_map {α:Type} {enc:α->List C} (h:∀ x,(enc x).all (fun c=>jz c && zw c)=true) (l:List α):∀ r ∈ l.map enc,∀ c ∈ r,jz c=true∧zw c=true:=
 zfv (by rw [List.all_map];exact List.all_eq_true.2 fun x _=>h x)
theorem zjn {n ty sz fz:Nat} {rows:List (List C)} (h:∀ r ∈ rows,∀ c ∈ r,j5 n 9 c=true):ja n [⟨1,ty,sz,rows,fz⟩]=true:=by
 unfold ja
 simp only [List.all_cons,List.all_nil,Bool.and_true]
 simp
 exact h
theorem zkK {α:Type} (a b:α) {k n:Nat} (h:k < n):(List.replicate k a++List.replicate (n - k) b).set k a=List.replicate (k+1) a++List.replicate (n - (k+1)) b:=by
 rw [List.set_append_right _ _ (by simp)]
 have e:n - k=(n - (k+1))+1:=by omega
 simp only [List.length_replicate,Nat.sub_self]
 rw [e,List.replicate_succ,List.set_cons_zero,List.replicate_succ',List.append_assoc]
 rfl
theorem zkJ {α:Type} (a b:α) {k n:Nat} (h:k < n):(List.replicate k a++List.replicate (n - k) b)[k]?= some b:=by
 rw [List.getElem?_append_right (by simp)]
 simp only [List.length_replicate,Nat.sub_self]
 have e:n - k=(n - (k+1))+1:=by omega
 rw [e,List.replicate_succ]
 rfl
theorem zcl (n:Int):zb Tryz.prog 129 [] [I n] (tC0 (kE n)) []:=by
 refine zb.zm (fn:=Tryz.f129) Tryz.func129 rfl ?_
 conv=>whnf
 refine ⟨fun h1=>?_,fun h1=>?_⟩
 ·have e:kE n=([],1):=by unfold kE;rw [if_pos (by simp at h1;omega)]
  rw [e]
  refine dd ?_
  (repeat ((first | apply ya | apply yb);refine dd ?_))
  exact ⟨.inl rfl,_,zl.cell 2 rfl (WC.nil 0 1),rfl⟩
 refine dd ?_
 refine ⟨fun h2=>?_,fun h2=>?_⟩
 ·have e:kE n=([],1):=by unfold kE;rw [if_pos (by simp at h2;omega)]
  rw [e]
  refine dd ?_
  (repeat ((first | apply ya | apply yb);refine dd ?_))
  exact ⟨.inl rfl,_,zl.cell 2 rfl (WC.nil 0 1),rfl⟩
 have b1:1<=n∧n<=8:=by simp at h1 h2;omega
 have e:kE n=(List.replicate n.toNat [0,0,0,0,0,0],0):=by unfold kE;rw [if_neg (by omega)]
 rw [e]
 refine dd ?_
 refine ⟨rfl,by omega,by show (24:Int) * n<=_;omega,by omega,?_⟩
 refine dd ?_
 refine zM.seq n.toNat (fun k=>[I n,.za,.lst 1 0 [],I 0,.sl 0 [] 1 0 n.toNat false,.za,.za,.za,.za,.za,.za,.za,.za,.za,.za,I n.toNat,I k,.za,.za,.za,.za,.za,.za,.za,.za]) (fun k=>[⟨1,0,1,(List.replicate k [lU [0,0,0,0,0,0]]++List.replicate (n.toNat - k) [C.lst 1 0 []]),0⟩]) (fun k=>True) ?_ trivial (fun k hk hr=>?_) (fun hr=>?_)
 ·refine zl.trans (zl.zmm 0 rfl (by intro r hr c hc;rw [List.eq_of_mem_replicate hr] at hc;rw [List.mem_singleton.1 hc];rfl)) ?_
  exact cC
 ·conv=>whnf
  (refine ⟨fun _=>?_,fun h=>absurd h (by simp;omega)⟩);refine dd ?_
  refine ⟨rfl,by decide,by show (8:Int) * 6<=_;decide,by decide,?_⟩
  refine dd ?_
  refine ⟨by omega,by simp;omega,?_⟩
  refine dd ?_
  have e1:0+(k:Int).toNat=k:=by simp
  rw [e1]
  refine ⟨_,zkJ _ _ hk,rfl,?_⟩
  refine dd ?_
  refine .inl ⟨rfl,?_,trivial⟩
  refine zl.trans (zl.jY 0 k 0 (r:=[.sl 1 [] 1 0 6 false]) rfl (by rw [List.getElem?_set,if_pos rfl,if_pos (by simp;omega)];rfl) rfl rfl (.inr rfl) rfl rfl ?_ ?_) ?_
  ·exact zfv (rows:=List.replicate 6 [U 0]) rfl
  ·intro r hr c hc
   rcases List.mem_or_eq_of_mem_set hr with hr | rfl
   ·rcases List.mem_append.1 hr with hr | hr <;> (rw [List.eq_of_mem_replicate hr] at hc;rw [List.mem_singleton.1 hc];rfl)
   ·rw [List.mem_singleton.1 hc];rfl
  ·have e3:(List.replicate k [lU [0,0,0,0,0,0]]++List.replicate (n.toNat - k) [C.lst 1 0 []]).set k [lU [0,0,0,0,0,0]]=(List.replicate (k+1) [lU [0,0,0,0,0,0]]++List.replicate (n.toNat - (k+1)) [C.lst 1 0 []]):=zkK _ _ hk
   rw [List.set_set,<- e3,zp (by omega)]
   refine zl.zi4 1 (by (conv=>whnf);(repeat (refine ⟨rfl,?_⟩;(conv=>whnf)));exact trivial) rfl rfl rfl (zjn (rows:=(List.replicate k [lU [0,0,0,0,0,0]]++List.replicate (n.toNat - k) [C.lst 1 0 []]).set k [lU [0,0,0,0,0,0]]) fun r hr c hc=>?_) rfl
   rw [e3] at hr
   rcases List.mem_append.1 hr with hr | hr <;> (rw [List.eq_of_mem_replicate hr] at hc;rw [List.mem_singleton.1 hc];rfl)
 ·(conv=>whnf);(refine ⟨fun h=>absurd h (by simp),fun _=>?_⟩);refine dd ?_;(refine ⟨by simp,?_⟩);(conv=>whnf)
  have e4:(List.replicate n.toNat [(0:Int),0,0,0,0,0]).map jT=(List.replicate n.toNat [lU [0,0,0,0,0,0]]++List.replicate (n.toNat - n.toNat) [C.lst 1 0 []]):=by rw [List.map_replicate,Nat.sub_self,List.replicate_zero,List.append_nil];rfl
  have sh:∀ r ∈ (List.replicate n.toNat [lU [0,0,0,0,0,0]]++List.replicate (n.toNat - n.toNat) [C.lst 1 0 []]),∀ c ∈ r,jz c=true∧zw c=true:=by
   rw [Nat.sub_self,List.replicate_zero,List.append_nil]
   intro r hr c hc
   rw [List.eq_of_mem_replicate hr] at hc
   rw [List.mem_singleton.1 hc]
   exact ⟨rfl,rfl⟩
  refine ⟨.inl rfl,_,zl.wi 2 rfl rfl (.inl rfl) (by simp) sh,?_⟩
  rw [<- e4]
  rfl
theorem zcK (c:List (List Int)) (hc:c.length < 4000000000000000000):zb Tryz.prog 103 [] [lCo c] (Bo (y0 c)) []:=by
 have m1:(c.map jT).length=c.length:=List.length_map ..
 refine zb.zm (fn:=Tryz.f103) Tryz.func103 rfl ?_
 conv=>whnf
 rw [m1]
 refine zM.seq c.length (fun k=>[lCo c,.za,Bo false,.za,.za,lCo c,I c.length,I k,.za,.za,.za,.za,.za,.za,.za,.za,.za,.za,.za,.za,.za,.za,.za]) (fun k=>[]) (fun k=>∀ j,(h:j < c.length)->j < k->(c[j].length == 6)=true) ?_ (by simp) (fun k hk hr=>?_) (fun hr=>?_)
 ·exact cC
 ·obtain ⟨x,hx⟩:∃ x,x=c[k]:=⟨_,rfl⟩
  have hg:(c.map jT)[k]?= some (jT x):=by rw [List.getElem?_map,List.getElem?_eq_getElem hk,hx];rfl
  have mx:(x.map zls).length=x.length:=List.length_map ..
  conv=>whnf
  (refine ⟨fun _=>?_,fun h=>absurd h (by simp;omega)⟩);refine dd ?_
  (refine ⟨by omega,_,by rw [toNat_cast];exact hg,?_⟩);refine dd ?_
  rw [mx]
  refine ⟨fun h1=>?_,fun h1=>?_⟩
  ·have hf:c.all (fun r=>r.length == 6)=false:=by
    rw [List.all_eq_false]
    exact ⟨x,by rw [hx];exact List.getElem_mem hk,by simp at h1 ⊢;omega⟩
   have e:y0 c=false:=by unfold y0;rw [hf];rfl
   rw [e]
   refine dd ?_
   (refine .inr ⟨by simp,?_⟩);(conv=>whnf)
   exact ⟨.inl rfl,_,.refl _,rfl⟩
  ·refine dd ?_
   refine .inl ⟨rfl,?_,fun j hj hjk=>?_⟩
   ·rw [zp (by omega)]
    exact cE 0
   ·by_cases e:j=k
    ·subst e;rw [<- hx];simp at h1 ⊢;omega
    ·exact hr j hj (by omega)
 ·have ht:c.all (fun r=>r.length == 6)=true:=by
   rw [List.all_eq_true]
   intro r hr'
   obtain ⟨j,hj,rfl⟩:=List.mem_iff_getElem.1 hr'
   exact hr j hj hj
  have e:y0 c=(decide (1<=c.length) && decide (c.length<=8)):=by unfold y0;rw [ht];rfl
  rw [e]
  (conv=>whnf);(refine ⟨fun h=>absurd h (by simp),fun _=>?_⟩);refine dd ?_;(refine ⟨by simp,?_⟩);(conv=>whnf)
  rw [m1]
  refine ⟨fun h1=>?_,fun h1=>?_⟩
  ·refine dd ?_
   rw [m1]
   refine ⟨fun h2=>?_,fun h2=>?_⟩
   ·refine dd ?_
    (repeat ((first | apply ya | apply yb);refine dd ?_))
    (exact ⟨.inl rfl,_,.refl _,congrArg (fun b=>some (C.v (Value.bool b))) (by symm;simp at h1 h2 ⊢;omega)⟩)
   ·refine dd ?_
    (repeat ((first | apply ya | apply yb);refine dd ?_))
    (exact ⟨.inl rfl,_,.refl _,congrArg (fun b=>some (C.v (Value.bool b))) (by symm;simp at h1 h2 ⊢;omega)⟩)
  ·refine dd ?_
   (repeat ((first | apply ya | apply yb);refine dd ?_))
   (exact ⟨.inl rfl,_,.refl _,congrArg (fun b=>some (C.v (Value.bool b))) (by symm;simp at h1 ⊢;omega)⟩)
end Go.Wor
namespace Go.Wor
open Go.Ab Go.Proofs Go.Hy Go.Gat Go.Nam Go.Hos Go.Con Go.Sna
open Go.Slp (yv vr)
abbrev Cw (w:Wor):C:=.agg (zU w)
abbrev y4:Wor:=⟨0,0,0,[],[],[],[],[]⟩
def zmV (s:Str):Lis:=⟨s,false,0,false⟩
end Go.Wor
namespace Go.Wor
open Go.Ab Go.Proofs Go.Hy Go.Gat Go.Nam Go.Hos Go.Con Go.Sna
theorem wb {F:List (List C)} {z:List C} {k n:Nat} (hF:F.length=n) (h:k < n):(F.take k++(List.replicate n z).drop k)[k]?= some z:=by
 rw [List.getElem?_append_right (by simp;omega),List.length_take,List.getElem?_drop,List.getElem?_replicate,if_pos (by omega)]
theorem wc {F:List (List C)} {x z:List C} {k n:Nat} (hx:F[k]?= some x) (hn:k < n):(F.take k++(List.replicate n z).drop k).set k x=F.take (k+1)++(List.replicate n z).drop (k+1):=by
 obtain ⟨hk,rfl⟩:=List.getElem?_eq_some_iff.1 hx
 have e1:(F.take k).length=k:=by simp;omega
 rw [List.set_append_right _ _ (by omega),e1,Nat.sub_self,List.drop_replicate,List.drop_replicate,List.take_succ_eq_append_getElem hk,List.append_assoc]
 have e2:n - k=(n - (k+1))+1:=by omega
 rw [e2,List.replicate_succ]
 rfl
theorem vQ {F:List (List C)} {z:List C} {n:Nat} (hF:F.length=n):F.take n++(List.replicate n z).drop n=F:=by
 rw [List.take_of_length_le (by omega),List.drop_of_length_le (by simp),List.append_nil]
theorem kW (l:List Int) (hl:l.length < 1000000000):zb Tryz.prog 275 [] [lI l] (lI l) []:=by
 cases l with
 | nil=>
  refine zb.zm (fn:=Tryz.f275) Tryz.func275 rfl ?_
  conv=>whnf
  refine ⟨?_,?_⟩
  ·refine dd ?_
   exact ⟨.inl rfl,_,zl.cell 2 rfl (WC.nil 0 1),rfl⟩
  ·refine dd ?_
   refine .inr ⟨rfl,?_⟩
   refine dd ?_
   exact ⟨.inl rfl,_,zl.cell 2 rfl ((WC.none 1 1 1).trans (WC.share 1 1 [])),rfl⟩
 | cons x l=>
  have hl3:l.length+1 < 1000000000:=by simpa using hl
  refine zb.zm (fn:=Tryz.f275) Tryz.func275 rfl ?_
  conv=>whnf
  refine ⟨by simp,?_⟩
  conv=>whnf
  refine .inr ⟨.inl rfl,by simp [maxLen];omega,by show _ * 8<=_;simp;omega,?_⟩
  conv=>whnf
  exact ⟨.inl rfl,_,zl.wi 2 rfl rfl (.inr rfl) (by simp) (shut_map (fun _=>rfl) (x::l)),rfl⟩
theorem ziX (l:List Int) (hl:l.length < 1000000000):zb Tryz.prog 316 [] [lU l] (lU l) []:=by
 cases l with
 | nil=>
  refine zb.zm (fn:=Tryz.f316) Tryz.func316 rfl ?_
  conv=>whnf
  refine ⟨?_,?_⟩
  ·refine dd ?_
   exact ⟨.inl rfl,_,zl.cell 2 rfl (WC.nil 0 1),rfl⟩
  ·refine dd ?_
   refine .inr ⟨rfl,?_⟩
   refine dd ?_
   exact ⟨.inl rfl,_,zl.cell 2 rfl ((WC.none 1 1 1).trans (WC.share 1 1 [])),rfl⟩
 | cons x l=>
  have hl3:l.length+1 < 1000000000:=by simpa using hl
  refine zb.zm (fn:=Tryz.f316) Tryz.func316 rfl ?_
  conv=>whnf
  refine ⟨by simp,?_⟩
  conv=>whnf
  refine .inr ⟨.inl rfl,by simp [maxLen];omega,by show _ * 8<=_;simp;omega,?_⟩
  conv=>whnf
  exact ⟨.inl rfl,_,zl.wi 2 rfl rfl (.inr rfl) (by simp) (shut_map (fun _=>rfl) (x::l)),rfl⟩
theorem ziV (x:Lis) (l:List Lis) (hl:l.length < 1000000000):zb Tryz.prog 278 [] [lL (x::l)] (.sl 0 [] 4 0 (x::l).length false) [⟨2,95,4,(x::l).map qL,0⟩]:=by
 have e:0+((l.map qL).length+1)=(x::l).length:=by simp
 rw [<- e]
 refine zb.zF (fn:=Tryz.f278) Tryz.func278 rfl ?_
 conv=>whnf
 refine ⟨by simp,?_⟩
 conv=>whnf
 refine .inr ⟨.inl rfl,by simp [maxLen];omega,by show _ * 40<=_;simp;omega,?_⟩
 conv=>whnf
 exact ⟨.inl rfl,_,.refl _,rfl,rfl⟩
theorem zeF (l:List Lis) (hl:l.length < 1000000000):zb Tryz.prog 278 [] [lL l] (lL l) []:=by
 cases l with
 | nil=>
  refine zb.zm (fn:=Tryz.f278) Tryz.func278 rfl ?_
  conv=>whnf
  refine ⟨?_,?_⟩
  ·refine dd ?_
   exact ⟨.inl rfl,_,zl.cell 2 rfl (WC.nil 0 4),rfl⟩
  ·refine dd ?_
   refine .inr ⟨rfl,?_⟩
   refine dd ?_
   exact ⟨.inl rfl,_,zl.cell 2 rfl ((WC.none 1 4 4).trans (WC.share 1 4 [])),rfl⟩
 | cons x l=>
  have hl3:l.length+1 < 1000000000:=by simpa using hl
  refine zb.zm (fn:=Tryz.f278) Tryz.func278 rfl ?_
  conv=>whnf
  refine ⟨by simp,?_⟩
  conv=>whnf
  refine .inr ⟨.inl rfl,by simp [maxLen];omega,by show _ * 40<=_;simp;omega,?_⟩
  conv=>whnf
  exact ⟨.inl rfl,_,zl.wi 2 rfl rfl (.inr rfl) (by simp) (shut_map (fun _=>rfl) (x::l)),rfl⟩
theorem ziW (x:Ret) (l:List Ret) (hl:l.length < 1000000000):zb Tryz.prog 281 [] [lR (x::l)] (.sl 0 [] 3 0 (x::l).length false) [⟨2,113,3,(x::l).map qM,0⟩]:=by
 have e:0+((l.map qM).length+1)=(x::l).length:=by simp
 rw [<- e]
 refine zb.zF (fn:=Tryz.f281) Tryz.func281 rfl ?_
 conv=>whnf
 refine ⟨by simp,?_⟩
 conv=>whnf
 refine .inr ⟨.inl rfl,by simp [maxLen];omega,by show _ * 24<=_;simp;omega,?_⟩
 conv=>whnf
 exact ⟨.inl rfl,_,.refl _,rfl,rfl⟩
theorem zeG (l:List Ret) (hl:l.length < 1000000000):zb Tryz.prog 281 [] [lR l] (lR l) []:=by
 cases l with
 | nil=>
  refine zb.zm (fn:=Tryz.f281) Tryz.func281 rfl ?_
  conv=>whnf
  refine ⟨?_,?_⟩
  ·refine dd ?_
   exact ⟨.inl rfl,_,zl.cell 2 rfl (WC.nil 0 3),rfl⟩
  ·refine dd ?_
   refine .inr ⟨rfl,?_⟩
   refine dd ?_
   exact ⟨.inl rfl,_,zl.cell 2 rfl ((WC.none 1 3 3).trans (WC.share 1 3 [])),rfl⟩
 | cons x l=>
  have hl3:l.length+1 < 1000000000:=by simpa using hl
  refine zb.zm (fn:=Tryz.f281) Tryz.func281 rfl ?_
  conv=>whnf
  refine ⟨by simp,?_⟩
  conv=>whnf
  refine .inr ⟨.inl rfl,by simp [maxLen];omega,by show _ * 24<=_;simp;omega,?_⟩
  conv=>whnf
  exact ⟨.inl rfl,_,zl.wi 2 rfl rfl (.inr rfl) (by simp) (shut_map (fun _=>rfl) (x::l)),rfl⟩
theorem zf1 (e:En) (he:e.next.length < 1000000000):zb Tryz.prog 328 [] [.agg [],.agg (zX e)] (.agg (zX e)) []:=by
 refine zb.zm (fn:=Tryz.f328) Tryz.func328 rfl ?_
 conv=>whnf
 refine ⟨_,_,(kW e.next he).frame rfl _,?_⟩;refine dd ?_
 exact ⟨.inl rfl,_,.refl _,rfl⟩
theorem zkk (l:List En) (hl:l.length < 1000000000) (hp:∀ x ∈ l,zb Tryz.prog 328 [] [.agg [],.agg (zX x)] (.agg (zX x)) []):zb Tryz.prog 327 [] [lE l,.fn 328 [] [],.agg []] (.sl 0 [] 3 0 l.length false) [⟨2,97,3,l.map zX,0⟩]:=by
 have m1:(l.map zX).length=l.length:=List.length_map ..
 refine zb.zF (fn:=Tryz.f327) Tryz.func327 rfl ?_
 conv=>whnf
 rw [m1]
 refine ⟨rfl,by omega,by show (40:Int) * _<=_;omega,by omega,?_⟩
 refine dd ?_
 rw [m1,toNat_cast]
 refine zM.seq l.length (fun k=>[lE l,.fn 328 [] [],.za,.za,.za,.ref 0 [] 0 0 0,.lst 1 0 [],.sl 1 [] 3 0 l.length false,.za,.za,.za,.za,.za,lE l,I l.length,I k,.za,.za,.za,.za,.za,.za,.za,.za,.za,.za,.za,.za,.za]) (fun k=>[⟨1,281,0,[[]],0⟩,⟨2,97,3,(l.map zX).take k++(List.replicate l.length [U 0,.lst 1 0 [],I 0]).drop k,0⟩]) (fun k=>True) ?_ trivial (fun k hk hr=>?_) (fun hr=>?_)
 ·exact cC
 ·obtain ⟨x,hx⟩:∃ x,x=l[k]:=⟨_,rfl⟩
  have hx2:l[k]?= some x:=by rw [List.getElem?_eq_getElem hk,hx]
  have hg:(l.map zX)[k]?= some (zX x):=by rw [List.getElem?_map,hx2];rfl
  conv=>whnf
  (refine ⟨fun _=>?_,fun h=>absurd h (by simp;omega)⟩);refine dd ?_
  (refine ⟨by omega,_,by rw [toNat_cast];exact hg,?_⟩);refine dd ?_
  refine ⟨_,_,(hp x (by rw [hx];exact List.getElem_mem hk)).frame rfl _,?_⟩;refine dd ?_
  refine ⟨by omega,by simp;omega,?_⟩
  refine dd ?_
  have e1:0+(k:Int).toNat=k:=by simp
  rw [e1]
  refine ⟨_,wb (by simp) hk,rfl,?_⟩
  refine dd ?_
  refine .inl ⟨rfl,?_,trivial⟩
  have e2:=wc (z:=[U 0,.lst 1 0 [],I 0]) (n:=l.length) hg hk
  rw [zp (by omega),<- e2]
  exact cE 2
 ·(conv=>whnf);(refine ⟨fun h=>absurd h (by simp),fun _=>?_⟩);refine dd ?_;(refine ⟨by simp,?_⟩);(conv=>whnf)
  rw [vQ (by simp)]
  exact ⟨.inl rfl,_,zl.ren [1] [6] _ _ rfl rfl rfl rfl,rfl,rfl⟩
theorem jk {r:List C} (h:r.all zw=true):∀ q ∈ [r],∀ c ∈ q,zw c=true:=fun q hq c hc=>by
 rw [List.mem_singleton.1 hq] at hc
 exact List.all_eq_true.1 h c hc
def zlj (g:Gr):Prop:=g.ends.length < 1000000000∧∀ e ∈ g.ends,e.next.length < 1000000000
def zg7 (v:Ver):Prop:=v.zk.length < 1000000000∧∀ g ∈ v.zk,zlj g
structure zbv (w:Wor):Prop where
 pins:w.pins.length < 1000000000
 zd:w.zd.length < 1000000000∧∀ v ∈ w.zd,zg7 v
 zc:w.zc.length < 1000000000
 counts:w.counts.length < 1000000000∧∀ r ∈ w.counts,r.length < 1000000000
 zg:w.zg.length < 1000000000
theorem zdR (g:Gr) (hg:zlj g):zb Tryz.prog 315 [] [.agg [],.agg (q7 g)] (.agg (q7 g)) []:=by
 refine zb.zm (fn:=Tryz.f315) Tryz.func315 rfl ?_
 conv=>whnf
 refine zq [] (zkk g.ends hg.1 fun e he=>zf1 e (hg.2 e he)) rfl rfl rfl rfl rfl rfl ?_;refine dd ?_
 exact ⟨.inl rfl,_,zl.jY 2 0 1 rfl rfl rfl rfl (.inr rfl) rfl (by simp) (shut_map (enc:=zX) (fun _=>rfl) g.ends) (jk rfl),rfl⟩
theorem zkl (l:List Gr) (hl:l.length < 1000000000) (hp:∀ x ∈ l,zb Tryz.prog 315 [] [.agg [],.agg (q7 x)] (.agg (q7 x)) []):zb Tryz.prog 314 [] [lG l,.fn 315 [] [],.agg []] (.sl 0 [] 2 0 l.length false) [⟨2,93,2,l.map q7,0⟩]:=by
 have m1:(l.map q7).length=l.length:=List.length_map ..
 refine zb.zF (fn:=Tryz.f314) Tryz.func314 rfl ?_
 conv=>whnf
 rw [m1]
 refine ⟨rfl,by omega,by show (32:Int) * _<=_;omega,by omega,?_⟩
 refine dd ?_
 rw [m1,toNat_cast]
 refine zM.seq l.length (fun k=>[lG l,.fn 315 [] [],.za,.za,.za,.ref 0 [] 0 0 0,.lst 1 0 [],.sl 1 [] 2 0 l.length false,.za,.za,.za,.za,.za,lG l,I l.length,I k,.za,.za,.za,.za,.za,.za,.za,.za,.za,.za,.za,.za,.za]) (fun k=>[⟨1,281,0,[[]],0⟩,⟨2,93,2,(l.map q7).take k++(List.replicate l.length ([U 0,.lst 1 0 []]:List C)).drop k,0⟩]) (fun k=>True) ?_ trivial (fun k hk hr=>?_) (fun hr=>?_)
 ·exact cC
 ·obtain ⟨x,hx⟩:∃ x,x=l[k]:=⟨_,rfl⟩
  have hx2:l[k]?= some x:=by rw [List.getElem?_eq_getElem hk,hx]
  have hg:(l.map q7)[k]?= some (q7 x):=by rw [List.getElem?_map,hx2];rfl
  conv=>whnf
  (refine ⟨fun _=>?_,fun h=>absurd h (by simp;omega)⟩);refine dd ?_
  (refine ⟨by omega,_,by rw [toNat_cast];exact hg,?_⟩);refine dd ?_
  refine ⟨_,_,(hp x (by rw [hx];exact List.getElem_mem hk)).frame rfl _,?_⟩;refine dd ?_
  refine ⟨by omega,by simp;omega,?_⟩
  refine dd ?_
  have e1:0+(k:Int).toNat=k:=by simp
  rw [e1]
  refine ⟨_,wb (by simp) hk,rfl,?_⟩
  refine dd ?_
  refine .inl ⟨rfl,?_,trivial⟩
  have e2:=wc (z:=([U 0,.lst 1 0 []]:List C)) (n:=l.length) hg hk
  rw [zp (by omega),<- e2]
  exact cE 2
 ·(conv=>whnf);(refine ⟨fun h=>absurd h (by simp),fun _=>?_⟩);refine dd ?_;(refine ⟨by simp,?_⟩);(conv=>whnf)
  rw [vQ (by simp)]
  exact ⟨.inl rfl,_,zl.ren [1] [6] _ _ rfl rfl rfl rfl,rfl,rfl⟩
theorem yd (v:Ver) (hv:zg7 v):zb Tryz.prog 277 [] [.agg [],.agg (qu v)] (.agg (qu v)) []:=by
 refine zb.zm (fn:=Tryz.f277) Tryz.func277 rfl ?_
 conv=>whnf
 refine zq [] (zkl v.zk hv.1 fun g hg=>zdR g (hv.2 g hg)) rfl rfl rfl rfl rfl rfl ?_;refine dd ?_
 exact ⟨.inl rfl,_,zl.jY 2 0 3 rfl rfl rfl rfl (.inr rfl) rfl (by simp) (shut_map (enc:=q7) (fun _=>rfl) v.zk) (jk rfl),rfl⟩
theorem zdM (l:List Ver) (hl:l.length < 1000000000) (hp:∀ x ∈ l,zb Tryz.prog 277 [] [.agg [],.agg (qu x)] (.agg (qu x)) []):zb Tryz.prog 276 [] [lV l,.fn 277 [] [],.agg []] (.sl 0 [] 5 0 l.length false) [⟨2,72,5,l.map qu,0⟩]:=by
 have m1:(l.map qu).length=l.length:=List.length_map ..
 refine zb.zF (fn:=Tryz.f276) Tryz.func276 rfl ?_
 conv=>whnf
 rw [m1]
 refine ⟨rfl,by omega,by show (104:Int) * _<=_;omega,by omega,?_⟩
 refine dd ?_
 rw [m1,toNat_cast]
 refine zM.seq l.length (fun k=>[lV l,.fn 277 [] [],.za,.za,.za,.ref 0 [] 0 0 0,.lst 1 0 [],.sl 1 [] 5 0 l.length false,.za,.za,.za,.za,.za,lV l,I l.length,I k,.za,.za,.za,.za,.za,.za,.za,.za,.za,.za,.za,.za,.za]) (fun k=>[⟨1,281,0,[[]],0⟩,⟨2,72,5,(l.map qu).take k++(List.replicate l.length ([.lst 1 0 [],.lst 1 0 [],.lst 1 0 [],.lst 1 0 [],Bo false]:List C)).drop k,0⟩]) (fun k=>True) ?_ trivial (fun k hk hr=>?_) (fun hr=>?_)
 ·exact cC
 ·obtain ⟨x,hx⟩:∃ x,x=l[k]:=⟨_,rfl⟩
  have hx2:l[k]?= some x:=by rw [List.getElem?_eq_getElem hk,hx]
  have hg:(l.map qu)[k]?= some (qu x):=by rw [List.getElem?_map,hx2];rfl
  conv=>whnf
  (refine ⟨fun _=>?_,fun h=>absurd h (by simp;omega)⟩);refine dd ?_
  (refine ⟨by omega,_,by rw [toNat_cast];exact hg,?_⟩);refine dd ?_
  refine ⟨_,_,(hp x (by rw [hx];exact List.getElem_mem hk)).frame rfl _,?_⟩;refine dd ?_
  refine ⟨by omega,by simp;omega,?_⟩
  refine dd ?_
  have e1:0+(k:Int).toNat=k:=by simp
  rw [e1]
  refine ⟨_,wb (by simp) hk,rfl,?_⟩
  refine dd ?_
  refine .inl ⟨rfl,?_,trivial⟩
  have e2:=wc (z:=([.lst 1 0 [],.lst 1 0 [],.lst 1 0 [],.lst 1 0 [],Bo false]:List C)) (n:=l.length) hg hk
  rw [zp (by omega),<- e2]
  exact cE 2
 ·(conv=>whnf);(refine ⟨fun h=>absurd h (by simp),fun _=>?_⟩);refine dd ?_;(refine ⟨by simp,?_⟩);(conv=>whnf)
  rw [vQ (by simp)]
  exact ⟨.inl rfl,_,zl.ren [1] [6] _ _ rfl rfl rfl rfl,rfl,rfl⟩
theorem kD (r:List Int) (hr:r.length < 1000000000):zb Tryz.prog 280 [] [.agg [],lU r] (lU r) []:=by
 refine zb.zm (fn:=Tryz.f280) Tryz.func280 rfl ?_
 conv=>whnf
 refine ⟨_,_,(ziX r hr).frame rfl _,?_⟩;refine dd ?_
 exact ⟨.inl rfl,_,.refl _,rfl⟩
end Go.Wor
namespace Go.Wor
open Go.Ab Go.Proofs Go.Hy Go.Gat Go.Nam Go.Hos Go.Con Go.Sna
theorem ji {x:Ob} {H:ze} (h1:jd [x]=true) (h2:jd H=true):jd (x::H)=true:=by
 unfold jd at *
 simp only [List.all_cons,List.all_nil,Bool.and_true] at *
 rw [h1,h2];rfl
theorem zac {ty sz fz:Nat} {rows:List (List C)} (h:∀ r ∈ rows,∀ c ∈ r,zw c=true):jd [⟨1,ty,sz,rows,fz⟩]=true:=by
 unfold jd
 simp only [List.all_cons,List.all_nil,Bool.and_true]
 rw [List.all_eq_true]
 exact fun r hr=>List.all_eq_true.2 fun c hc=>h r hr c hc
structure zl9 (g0:Gr) (e:Nat) (e0:En):Prop where
 sm:zlj g0
 at_:g0.ends[e]?= some e0
 ne:e0.next≠[]
end Go.Wor
namespace Go.Wor
open Go.Ab Go.Proofs Go.Hy Go.Gat Go.Nam Go.Hos Go.Con Go.Sna
structure zma (v0:Ver) (g:Nat) (g0:Gr) (e:Nat) (e0:En):Prop extends zl9 g0 e e0 where
 smv:zg7 v0
 atg:v0.zk[g]?= some g0
structure zm6 (vs:List Ver) (v:Nat) (v0:Ver) (g:Nat) (g0:Gr) (e:Nat) (e0:En):Prop extends zma v0 g g0 e e0 where
 zm8:vs.length < 1000000000∧∀ v ∈ vs,zg7 v
 atv:vs[v]?= some v0
end Go.Wor
namespace Go.Wor
open Go.Ab Go.Proofs Go.Hy Go.Gat Go.Nam Go.Hos Go.Con Go.Sna
theorem zdL (l:List (List Int)) (hl:l.length < 1000000000) (hp:∀ x ∈ l,zb Tryz.prog 280 [] [.agg [],lU x] (lU x) []):zb Tryz.prog 279 [] [lCo l,.fn 280 [] [],.agg []] (.sl 0 [] 1 0 l.length false) [⟨2,161,1,l.map jT,0⟩]:=by
 have m1:(l.map jT).length=l.length:=List.length_map ..
 refine zb.zF (fn:=Tryz.f279) Tryz.func279 rfl ?_
 conv=>whnf
 rw [m1]
 refine ⟨rfl,by omega,by show (24:Int) * _<=_;omega,by omega,?_⟩
 refine dd ?_
 rw [m1,toNat_cast]
 refine zM.seq l.length (fun k=>[lCo l,.fn 280 [] [],.za,.za,.za,.ref 0 [] 0 0 0,.lst 1 0 [],.sl 1 [] 1 0 l.length false,.za,.za,.za,.za,.za,lCo l,I l.length,I k,.za,.za,.za,.za,.za,.za,.za,.za,.za,.za,.za,.za,.za]) (fun k=>[⟨1,281,0,[[]],0⟩,⟨2,161,1,(l.map jT).take k++(List.replicate l.length ([.lst 1 0 []]:List C)).drop k,0⟩]) (fun k=>True) ?_ trivial (fun k hk hr=>?_) (fun hr=>?_)
 ·exact cC
 ·obtain ⟨x,hx⟩:∃ x,x=l[k]:=⟨_,rfl⟩
  have hx2:l[k]?= some x:=by rw [List.getElem?_eq_getElem hk,hx]
  have hg:(l.map jT)[k]?= some (jT x):=by rw [List.getElem?_map,hx2];rfl
  conv=>whnf
  (refine ⟨fun _=>?_,fun h=>absurd h (by simp;omega)⟩);refine dd ?_
  (refine ⟨by omega,_,by rw [toNat_cast];exact hg,?_⟩);refine dd ?_
  refine ⟨_,_,(hp x (by rw [hx];exact List.getElem_mem hk)).frame rfl _,?_⟩;refine dd ?_
  refine ⟨by omega,by simp;omega,?_⟩
  refine dd ?_
  have e1:0+(k:Int).toNat=k:=by simp
  rw [e1]
  refine ⟨_,wb (by simp) hk,rfl,?_⟩
  refine dd ?_
  refine .inl ⟨rfl,?_,trivial⟩
  have e2:=wc (z:=([.lst 1 0 []]:List C)) (n:=l.length) hg hk
  rw [zp (by omega),<- e2]
  exact cE 2
 ·(conv=>whnf);(refine ⟨fun h=>absurd h (by simp),fun _=>?_⟩);refine dd ?_;(refine ⟨by simp,?_⟩);(conv=>whnf)
  rw [vQ (by simp)]
  exact ⟨.inl rfl,_,zl.ren [1] [6] _ _ rfl rfl rfl rfl,rfl,rfl⟩
theorem zjx {P:Program} {f:FuncId} {fn:Func} {c:Code} {H2:ze} {args:List C} {r:C} (hf:P.funcs[f]?= some fn) (hb:fn.body=some c)
  (h:wpA P 0 c (entry fn args) [] fun ex t1 H1=>(ex=.ret∨ex=.normal)∧∃ s2 r1,zl 0 ⟨t1,H1⟩ s2∧yx P fn s2=some r1∧zl 0 ⟨[r1],s2.H⟩ ⟨[r],H2⟩):zb P f [] args r H2:=fun w E vs hh hl=>by
 have h1:qe P f [] args fun r1 H1=>zl 0 ⟨[r1],H1⟩ ⟨[r],H2⟩:=qe.zF hf hb h
 refine (h1 w E vs hh hl).mono ?_
 rintro e w' ⟨r1,H1,v,E',hw,h0,h2,h3,g⟩
 obtain ⟨E2,hs,g2⟩:=hw 0 w' E' ⟨#[v],[]⟩ ⟨h2,LL.one h3,Nat.zero_le _,Nat.zero_le _⟩
 have hn2:=hs.heap.n
 have hn0:E.n=0:=hh.n
 refine ⟨v,E2,h0,hs.heap,hs.tmps.cons_inv.1,⟨⟨by rw [hn0];exact Nat.zero_le _,fun id hops hi=>by rw [hn0] at hi;omega,fun id hops hi=>by rw [hn0] at hi;omega,fun b o u hu=>g2.le.St _ _ _ (g.le.St _ _ _ hu),fun id k u hi hu=>by rw [hn0] at hi;omega⟩,g2.os.trans g.os,g2.tape.trans g.tape,g2.output.trans g.output,Nat.le_trans g.size g2.size,?_,?_,?_⟩⟩
 ·intro k hk ho
  exact (g2.frame k (Nat.lt_of_lt_of_le hk g.size) fun hc=>(g.own k hc).elim (fun h=>by omega) ho).trans (g.frame k hk ho)
 ·intro b o u hu
  rcases g2.qs b o u hu with h1 | h1 | h1
  ·exact g.qs b o u h1
  ·exact .inr (.inl (Nat.le_trans g.size h1))
  ·rcases g.own b h1 with h4 | h4
   ·exact .inr (.inl h4)
   ·exact .inr (.inr h4)
 ·intro b hb
  rcases g2.own b hb with h1 | h1
  ·exact .inl (Nat.le_trans g.size h1)
  ·exact g.own b h1
theorem zaD (w:Wor) (h:zbv w):zb Tryz.prog 215 [] [Cw w] (Cw w) []:=by
 refine zb.zm (fn:=Tryz.f215) Tryz.func215 rfl ?_
 conv=>whnf
 refine ⟨_,_,(kW w.pins h.pins).frame rfl _,?_⟩;refine dd ?_
 refine zq [] (zdM w.zd h.zd.1 fun v hv=>yd v (h.zd.2 v hv)) rfl rfl rfl rfl rfl rfl ?_;refine dd ?_
 refine ⟨_,_,(zeF w.zc h.zc).frame rfl _,?_⟩;refine dd ?_
 refine zq [] (zdL w.counts h.counts.1 fun r hr=>kD r (h.counts.2 r hr)) rfl rfl rfl rfl rfl rfl ?_;refine dd ?_
 refine ⟨_,_,(zeG w.zg h.zg).frame rfl _,?_⟩;refine dd ?_
 exact ⟨.inl rfl,_,(zl.jY 1 0 4 rfl rfl rfl rfl (.inr rfl) rfl (by simp) (shut_map (enc:=qu) (fun _=>rfl) w.zd) (jk rfl)).trans (zl.jY 1 0 6 rfl rfl rfl rfl (.inr rfl) rfl (by simp) (shut_map (enc:=jT) (fun _=>rfl) w.counts) (jk rfl)),rfl⟩
structure zm5 (cs:List (List Int)) (t:Nat) (r0:List Int):Prop where
 sm:cs.length < 1000000000∧∀ r ∈ cs,r.length < 1000000000
 at_:cs[t]?= some r0
 ne:r0≠[]
theorem zdC (w:Wor) (h:zbv w) (x:Lis) (l:List Lis) (hx:w.zc=x::l):zb Tryz.prog 215 [] [Cw w] (.agg [I w.zj,I w.current,I w.lock,lI w.pins,lV w.zd,.sl 0 [] 4 0 w.zc.length false,lCo w.counts,lR w.zg]) [⟨2,95,4,w.zc.map qL,0⟩]:=by
 have hl:l.length < 1000000000:=by have:=h.zc;rw [hx] at this;simp at this;omega
 have hc:=ziV x l hl
 rw [<- hx] at hc
 refine zjx (fn:=Tryz.f215) Tryz.func215 rfl ?_;conv=>whnf
 refine ⟨_,_,(kW w.pins h.pins).frame rfl _,?_⟩;refine dd ?_
 refine zq [] (zdM w.zd h.zd.1 fun v hv=>yd v (h.zd.2 v hv)) rfl rfl rfl rfl rfl rfl ?_;refine dd ?_
 refine zq [] (hc) rfl rfl rfl rfl rfl rfl ?_;refine dd ?_
 refine zq [] (zdL w.counts h.counts.1 fun r hr=>kD r (h.counts.2 r hr)) rfl rfl rfl rfl rfl rfl ?_;refine dd ?_
 refine ⟨_,_,(zeG w.zg h.zg).frame rfl _,?_⟩;refine dd ?_
 refine ⟨.inl rfl,_,_,(zl.jY 1 0 4 rfl rfl rfl rfl (.inr rfl) rfl (by simp) (shut_map (enc:=qu) (fun _=>rfl) w.zd) (jk rfl)).trans (zl.jY 1 0 6 rfl rfl rfl rfl (.inr rfl) rfl (by simp) (shut_map (enc:=jT) (fun _=>rfl) w.counts) (jk rfl)),rfl,?_⟩
 exact zl.ren [4] [0] _ _ rfl rfl rfl (ji rfl (ji rfl (ji rfl (ji (zac fun r hr c hc=>((shut_map (enc:=qu) (fun _=>rfl) w.zd) r hr c hc).2) (ji rfl (zac fun r hr c hc=>((shut_map (enc:=jT) (fun _=>rfl) w.counts) r hr c hc).2))))))
end Go.Wor
namespace Go.Wor
open Go.Ab Go.Proofs Go.Hy Go.Gat Go.Nam Go.Hos Go.Con Go.Sna
def inV (i n:Int):Bool:=decide (0<=i) && decide (i < n)
theorem xZ (i n:Int):zb Tryz.prog 49 [] [I i,I n] (Bo (inV i n)) []:=by
 refine zb.zm (fn:=Tryz.f49) Tryz.func49 rfl ?_
 conv=>whnf
 refine ⟨fun h1=>?_,fun h1=>?_⟩
 ·refine dd ?_
  refine ⟨fun h2=>?_,fun h2=>?_⟩
  ·refine dd ?_
   (exact ⟨.inl rfl,_,.refl _,congrArg (fun b=>some (C.v (Value.bool b))) (by unfold inV;simp at h1 h2 ⊢;omega)⟩)
  ·refine dd ?_
   (exact ⟨.inl rfl,_,.refl _,congrArg (fun b=>some (C.v (Value.bool b))) (by unfold inV;simp at h1 h2 ⊢;omega)⟩)
 ·refine dd ?_
  (exact ⟨.inl rfl,_,.refl _,congrArg (fun b=>some (C.v (Value.bool b))) (by unfold inV;simp at h1 ⊢;omega)⟩)
theorem zgf {H:ze} {f:FuncId} {caps:List C} {l:List Int} (p:Int->Bool) (hcb:zA Tryz.prog f=true) (hp:∀ r ∈ l,zb Tryz.prog f H ([I r]++caps) (Bo (p r)) H) (hl:l.length < 4611686018427387904):
  zb Tryz.prog 56 H [lI l,.fn f [] caps] (I (match l.findIdx? p with | some i=>(i:Int) | none=> -1)) H:=by
 refine zb.zF (fn:=Tryz.f56) Tryz.func56 rfl ?_
 conv=>whnf
 refine zM.inv (fun n t1 H1=>∃ k,k+n=l.length∧H1=H∧(∀ j,j < k->∀ r,l[j]?= some r->p r=false)∧
   t1=[lI l,.fn f [] caps,.za,.za,I 0,.za,.za,I (l.map encI).length,I k,.za,.za,.za,.za,.za,.za,.za,.za,.za,.za]) l.length ?_ ?_
 ·exact ⟨_,_,zl.mask [0,1,4,7,8] _ _,0,by simp,rfl,by simp,rfl⟩
 rintro n _ _ ⟨k,hk,rfl,hno,rfl⟩
 conv=>whnf
 refine ⟨fun h=>?_,fun h=>?_⟩
 ·conv=>whnf
  have hlt:k < l.length:=by simpa using h
  refine ⟨by omega,encI l[k],by simp [hlt],?_⟩
  conv=>whnf
  rw [hcb]
  refine ⟨_,_,hp _ (List.getElem_mem hlt),?_⟩
  conv=>whnf
  refine ⟨fun h2=>?_,fun h2=>?_⟩
  ·conv=>whnf
   refine .inr ⟨by simp,?_⟩
   conv=>whnf
   refine ⟨.inl rfl,_,.refl _,rfl,?_⟩
   have:l.findIdx? p=some k:=by
    rw [List.findIdx?_eq_some_iff_getElem]
    refine ⟨hlt,h2,fun j hj=>?_⟩
    simp [hno j hj _ (List.getElem?_eq_getElem (by omega))]
   rw [this]
   rfl
  ·conv=>whnf
   refine .inl ⟨rfl,n - 1,_,_,by omega,zl.mask [0,1,4,7,8] _ _,k+1,by omega,rfl,?_,?_⟩
   ·intro j hj r hr
    by_cases hjk:j=k
    ·subst hjk
     rw [List.getElem?_eq_getElem hlt] at hr
     cases hr
     exact h2
    ·exact hno j (by omega) r hr
   ·rw [zp (by omega)];rfl
 ·conv=>whnf
  refine .inr ⟨by simp,?_⟩
  conv=>whnf
  refine ⟨.inl rfl,_,.refl _,rfl,?_⟩
  have:l.findIdx? p=none:=by
   rw [List.findIdx?_eq_none_iff]
   intro x hx
   obtain ⟨j,hj⟩:=List.mem_iff_getElem?.1 hx
   have hjl:=(List.getElem?_eq_some_iff.1 hj).1
   have:¬k < l.length:=by simpa using h
   exact hno j (by omega) x hj
  rw [this]
  rfl
theorem zbF {H:ze} {f:FuncId} {caps:List C} {l:List Int} (p:Int->Bool) (hcb:zA Tryz.prog f=true) (hp:∀ r ∈ l,zb Tryz.prog f H ([I r]++caps) (Bo (p r)) H) (hl:l.length < 4611686018427387904):
  zb Tryz.prog 97 H [lI l,.fn f [] caps] (Bo (l.any p)) H:=by
 refine zb.zF (fn:=Tryz.f97) Tryz.func97 rfl ?_
 conv=>whnf
 refine ⟨_,_,zgf p hcb hp hl,?_⟩
 refine dd ?_
 rw [show decide ((match l.findIdx? p with | some i=>((i:Nat):Int) | none=>(-1:Int))≥(0:Int))=l.any p from yV l p]
 refine ⟨fun h=>?_,fun h=>?_⟩ <;> rw [h]
 ·refine dd ?_
  exact ⟨.inl rfl,_,.refl _,rfl,rfl⟩
 ·refine dd ?_
  exact ⟨.inl rfl,_,.refl _,rfl,rfl⟩
theorem zge {H:ze} {f:FuncId} {caps:List C} {l:List En} (p:En->Bool) (hcb:zA Tryz.prog f=true) (hp:∀ r ∈ l,zb Tryz.prog f H ([Go.Slp.Ev r]++caps) (Bo (p r)) H) (hl:l.length < 4611686018427387904):
  zb Tryz.prog 162 H [lE l,.fn f [] caps] (I (match l.findIdx? p with | some i=>(i:Int) | none=> -1)) H:=by
 refine zb.zF (fn:=Tryz.f162) Tryz.func162 rfl ?_
 conv=>whnf
 refine zM.inv (fun n t1 H1=>∃ k,k+n=l.length∧H1=H∧(∀ j,j < k->∀ r,l[j]?= some r->p r=false)∧
   t1=[lE l,.fn f [] caps,.za,.za,I 0,.za,.za,I (l.map zX).length,I k,.za,.za,.za,.za,.za,.za,.za,.za,.za,.za]) l.length ?_ ?_
 ·exact ⟨_,_,zl.mask [0,1,4,7,8] _ _,0,by simp,rfl,by simp,rfl⟩
 rintro n _ _ ⟨k,hk,rfl,hno,rfl⟩
 conv=>whnf
 refine ⟨fun h=>?_,fun h=>?_⟩
 ·conv=>whnf
  have hlt:k < l.length:=by simpa using h
  refine ⟨by omega,zX l[k],by simp [hlt],?_⟩
  conv=>whnf
  rw [hcb]
  refine ⟨_,_,hp _ (List.getElem_mem hlt),?_⟩
  conv=>whnf
  refine ⟨fun h2=>?_,fun h2=>?_⟩
  ·conv=>whnf
   refine .inr ⟨by simp,?_⟩
   conv=>whnf
   refine ⟨.inl rfl,_,.refl _,rfl,?_⟩
   have:l.findIdx? p=some k:=by
    rw [List.findIdx?_eq_some_iff_getElem]
    refine ⟨hlt,h2,fun j hj=>?_⟩
    simp [hno j hj _ (List.getElem?_eq_getElem (by omega))]
   rw [this]
   rfl
  ·conv=>whnf
   refine .inl ⟨rfl,n - 1,_,_,by omega,zl.mask [0,1,4,7,8] _ _,k+1,by omega,rfl,?_,?_⟩
   ·intro j hj r hr
    by_cases hjk:j=k
    ·subst hjk
     rw [List.getElem?_eq_getElem hlt] at hr
     cases hr
     exact h2
    ·exact hno j (by omega) r hr
   ·rw [zp (by omega)];rfl
 ·conv=>whnf
  refine .inr ⟨by simp,?_⟩
  conv=>whnf
  refine ⟨.inl rfl,_,.refl _,rfl,?_⟩
  have:l.findIdx? p=none:=by
   rw [List.findIdx?_eq_none_iff]
   intro x hx
   obtain ⟨j,hj⟩:=List.mem_iff_getElem?.1 hx
   have hjl:=(List.getElem?_eq_some_iff.1 hj).1
   have:¬k < l.length:=by simpa using h
   exact hno j (by omega) x hj
  rw [this]
  rfl
theorem zbE {H:ze} {f:FuncId} {caps:List C} {l:List En} (p:En->Bool) (hcb:zA Tryz.prog f=true) (hp:∀ r ∈ l,zb Tryz.prog f H ([Go.Slp.Ev r]++caps) (Bo (p r)) H) (hl:l.length < 4611686018427387904):
  zb Tryz.prog 108 H [lE l,.fn f [] caps] (Bo (l.any p)) H:=by
 refine zb.zF (fn:=Tryz.f108) Tryz.func108 rfl ?_
 conv=>whnf
 refine ⟨_,_,zge p hcb hp hl,?_⟩
 refine dd ?_
 rw [show decide ((match l.findIdx? p with | some i=>((i:Nat):Int) | none=>(-1:Int))≥(0:Int))=l.any p from yV l p]
 refine ⟨fun h=>?_,fun h=>?_⟩ <;> rw [h]
 ·refine dd ?_
  exact ⟨.inl rfl,_,.refl _,rfl,rfl⟩
 ·refine dd ?_
  exact ⟨.inl rfl,_,.refl _,rfl,rfl⟩
def yw (ep p:Int):Bool:=decide (p < 0) || decide (p > ep+1)
theorem zcC (w:Wor) (p:Int) (h0:0<=w.zj) (h1:w.zj<=1000000000000):zb Tryz.prog 104 [⟨1,28,8,[zU w],0⟩] ([I p]++[.ref 0 [] 8 0 0]) (Bo (yw w.zj p)) [⟨1,28,8,[zU w],0⟩]:=by
 have e:IntKind.i64.wrap (w.zj+1)=w.zj+1:=qf (by omega) (by omega)
 refine zb.zF (fn:=Tryz.f104) Tryz.func104 rfl ?_
 conv=>whnf
 refine ⟨fun h2=>?_,fun h2=>?_⟩
 ·refine dd ?_
  exact ⟨.inl rfl,_,.refl _,rfl,congrArg (fun b=>some (C.v (Value.bool b))) (by unfold yw;rw [h2];rfl)⟩
 ·refine dd ?_
  rw [e]
  refine ⟨fun h3=>?_,fun h3=>?_⟩
  ·refine dd ?_
   exact ⟨.inl rfl,_,.refl _,rfl,congrArg (fun b=>some (C.v (Value.bool b))) (by unfold yw;rw [h2,h3];rfl)⟩
  ·refine dd ?_
   exact ⟨.inl rfl,_,.refl _,rfl,congrArg (fun b=>some (C.v (Value.bool b))) (by unfold yw;rw [h2,h3];rfl)⟩
def qt (w:Wor):Bool:=decide (1<=w.pins.length) && decide (w.pins.length<=8) && decide (w.counts.length=w.pins.length) && y0 w.counts && decide (0<=w.zj) && decide (w.zj<=1000000000000) && (decide (w.lock=0) || decide (w.lock=1)) && !w.pins.any (yw w.zj)
theorem zdQ (w:Wor) (hp:w.pins.length < 4000000000000000000) (hc:w.counts.length < 4000000000000000000):zb Tryz.prog 59 [] [Cw w] (Bo (qt w)) []:=by
 have m1:(w.pins.map encI).length=w.pins.length:=List.length_map ..
 have m2:(w.counts.map jT).length=w.counts.length:=List.length_map ..
 refine zb.zm (fn:=Tryz.f59) Tryz.func59 rfl ?_
 conv=>whnf
 rw [m1]
 refine ⟨fun h1=>?_,fun h1=>?_⟩
 ·(have e:qt w=false:=by (unfold qt;(rw [show decide (1<=w.pins.length)=false from by rw [decide_eq_false_iff_not];have:=of_decide_eq_true h1;omega]);simp));rw [e];refine dd ?_;(repeat ((first | apply ya | apply yb);refine dd ?_));exact ⟨.inl rfl,_,.refl _,rfl⟩
 refine dd ?_
 refine ⟨fun h2=>?_,fun h2=>?_⟩
 ·(have e:qt w=false:=by (unfold qt;(rw [show decide (w.pins.length<=8)=false from by simp at h2 ⊢;omega]);simp));rw [e];refine dd ?_;(repeat ((first | apply ya | apply yb);refine dd ?_));exact ⟨.inl rfl,_,.refl _,rfl⟩
 refine dd ?_
 rw [m2]
 refine ⟨fun h3=>?_,fun h3=>?_⟩
 ·(have e:qt w=false:=by (unfold qt;(rw [show decide (w.counts.length=w.pins.length)=false from by rw [decide_eq_false_iff_not];intro hh;simp [hh] at h3]);simp));rw [e];refine dd ?_;(repeat ((first | apply ya | apply yb);refine dd ?_));exact ⟨.inl rfl,_,.refl _,rfl⟩
 refine dd ?_
 refine ⟨_,_,(zcK w.counts hc).frame rfl _,?_⟩;refine dd ?_
 refine ⟨fun h4=>?_,fun h4=>?_⟩
 rotate_left
 ·(have e:qt w=false:=by (unfold qt;(rw [h4]);simp));rw [e];refine dd ?_;(repeat ((first | apply ya | apply yb);refine dd ?_));exact ⟨.inl rfl,_,.refl _,rfl⟩
 refine dd ?_
 refine ⟨fun h5=>?_,fun h5=>?_⟩
 ·(have e:qt w=false:=by (unfold qt;(rw [show decide (0<=w.zj)=false from by simp at h5 ⊢;omega]);simp));rw [e];refine dd ?_;(repeat ((first | apply ya | apply yb);refine dd ?_));exact ⟨.inl rfl,_,.refl _,rfl⟩
 refine dd ?_
 refine ⟨fun h6=>?_,fun h6=>?_⟩
 ·(have e:qt w=false:=by (unfold qt;(rw [show decide (w.zj<=1000000000000)=false from by simp at h6 ⊢;omega]);simp));rw [e];refine dd ?_;(repeat ((first | apply ya | apply yb);refine dd ?_));exact ⟨.inl rfl,_,.refl _,rfl⟩
 refine dd ?_
 have b0:0<=w.zj:=by simp at h5;omega
 have b1:w.zj<=1000000000000:=by simp at h6;omega
 have hcon:=zbF (H:=[⟨1,28,8,[zU w],0⟩]) (f:=104) (l:=w.pins) (caps:=[.ref 0 [] 8 0 0]) (yw w.zj) (by kernel_rfl) (fun r _=>zcC w r b0 b1) (by omega)
 have g0:qt w=((decide (w.lock=0) || decide (w.lock=1)) && !w.pins.any (yw w.zj)):=by
  have h3':w.counts.length=w.pins.length:=by simp at h3;omega
  unfold qt
  rw [show decide (1<=w.pins.length)=true from by rw [decide_eq_true_iff];have:=of_decide_eq_false h1;omega,show decide (w.pins.length<=8)=true from by simp at h2 ⊢;omega,show decide (w.counts.length=w.pins.length)=true from by simpa using h3',h4,show decide (0<=w.zj)=true from by simpa using b0,show decide (w.zj<=1000000000000)=true from by simpa using b1]
  rfl
 have fin:∀ hl:(decide (w.lock=0) || decide (w.lock=1))=true,qt w=!w.pins.any (yw w.zj):=fun hl=>by rw [g0,hl];rfl
 refine ⟨fun h7=>?_,fun h7=>?_⟩
 ·refine dd ?_
  refine ⟨fun h8=>?_,fun h8=>?_⟩
  ·have e:qt w=false:=by rw [g0,show (decide (w.lock=0) || decide (w.lock=1))=false from by simp at h7 h8 ⊢;omega];rfl
   rw [e]
   refine dd ?_
   (repeat ((first | apply ya | apply yb);refine dd ?_))
   exact ⟨.inl rfl,_,.refl _,rfl⟩
  rw [fin (by simp at h8 ⊢;omega)]
  refine dd ?_
  (repeat ((first | apply ya | apply yb);refine dd ?_))
  refine zq [0] (hcon) rfl rfl rfl rfl rfl rfl ?_;refine dd ?_
  refine ⟨fun h9=>?_,fun h9=>?_⟩
  ·refine dd ?_
   (exact ⟨.inl rfl,_,.refl _,congrArg (fun b=>some (C.v (Value.bool b))) (by rw [h9];rfl)⟩)
  ·refine dd ?_
   (exact ⟨.inl rfl,_,.refl _,congrArg (fun b=>some (C.v (Value.bool b))) (by rw [h9];rfl)⟩)
 ·rw [fin (by simp at h7 ⊢;omega)]
  refine dd ?_
  (repeat ((first | apply ya | apply yb);refine dd ?_))
  refine zq [0] (hcon) rfl rfl rfl rfl rfl rfl ?_;refine dd ?_
  refine ⟨fun h9=>?_,fun h9=>?_⟩
  ·refine dd ?_
   (exact ⟨.inl rfl,_,.refl _,congrArg (fun b=>some (C.v (Value.bool b))) (by rw [h9];rfl)⟩)
  ·refine dd ?_
   (exact ⟨.inl rfl,_,.refl _,congrArg (fun b=>some (C.v (Value.bool b))) (by rw [h9];rfl)⟩)
def yR (x:Clu) (e:En):Bool:=!Go.Slp.isV e || (e.next.length:Int) != x.xG
theorem zcs (x:Clu) (e:En) (he:e.ok):zb Tryz.prog 107 [⟨1,148,4,[jW x],0⟩] ([Go.Slp.Ev e]++[.ref 0 [] 4 0 0]) (Bo (yR x e)) [⟨1,148,4,[jW x],0⟩]:=by
 have m1:(e.next.map encI).length=e.next.length:=List.length_map ..
 refine zb.zF (fn:=Tryz.f107) Tryz.func107 rfl ?_
 conv=>whnf
 refine ⟨_,_,(Go.Slp.vw e he).frame rfl _,?_⟩;refine dd ?_
 refine ⟨fun h1=>?_,fun h1=>?_⟩
 rotate_left
 ·refine dd ?_
  exact ⟨.inl rfl,_,zl.keep [3] 1 _ _ rfl rfl rfl rfl,rfl,congrArg (fun b=>some (C.v (Value.bool b))) (by unfold yR;rw [h1];rfl)⟩
 ·refine dd ?_
  rw [m1]
  refine ⟨fun h2=>?_,fun h2=>?_⟩
  ·refine dd ?_
   exact ⟨.inl rfl,_,zl.keep [3] 1 _ _ rfl rfl rfl rfl,rfl,congrArg (fun b=>some (C.v (Value.bool b))) (by unfold yR;rw [h1,h2];rfl)⟩
  ·refine dd ?_
   exact ⟨.inl rfl,_,zl.keep [3] 1 _ _ rfl rfl rfl rfl,rfl,congrArg (fun b=>some (C.v (Value.bool b))) (by unfold yR;rw [h1,h2];rfl)⟩
structure OkV (v:Ver):Prop where
 snap:yr v.snap
 zk:v.zk.length < 1000000000000
 ends : ∀ g ∈ v.zk, g.ends.length < 1000000000000 ∧ ∀ e ∈ g.ends, e.ok
def zaM (v:Ver) (i:Nat):Bool:=match v.zk[i]?,v.snap.zf[i]? with
 | some g,some x=>decide (g.ends.length=x.zT.length) && !g.ends.any (yR x)
 | _,_=>true
def zav (v:Ver):Bool:=za1 v.snap && decide (v.zk.length=v.snap.zf.length) && (List.range v.zk.length).all (zaM v)
theorem zcM (v:Ver) (hv:OkV v):zb Tryz.prog 61 [] [Cv v] (Bo (zav v)) []:=by
 have m1:(v.zk.map q7).length=v.zk.length:=List.length_map ..
 have m2:(v.snap.zf.map jW).length=v.snap.zf.length:=List.length_map ..
 have hgl:=hv.zk
 refine zb.zm (fn:=Tryz.f61) Tryz.func61 rfl ?_
 conv=>whnf
 refine ⟨_,_,(wJ v.snap hv.snap).frame rfl _,?_⟩;refine dd ?_
 refine ⟨fun h1=>?_,fun h1=>?_⟩
 rotate_left
 ·have e:zav v=false:=by unfold zav;rw [h1];rfl
  rw [e]
  refine dd ?_
  (repeat ((first | apply ya | apply yb);refine dd ?_))
  exact ⟨.inl rfl,_,.refl _,rfl⟩
 refine dd ?_
 rw [m1,m2]
 refine ⟨fun h2=>?_,fun h2=>?_⟩
 ·have e:zav v=false:=by unfold zav;rw [show decide (v.zk.length=v.snap.zf.length)=false from by rw [decide_eq_false_iff_not];intro hh;simp [hh] at h2,Bool.and_false];rfl
  rw [e]
  refine dd ?_
  (repeat ((first | apply ya | apply yb);refine dd ?_))
  exact ⟨.inl rfl,_,.refl _,rfl⟩
 have h2':v.zk.length=v.snap.zf.length:=by simp at h2;omega
 refine dd ?_
 (repeat ((first | apply ya | apply yb);refine dd ?_))
 rw [m1]
 refine zM.seq v.zk.length (fun k=>[.za,.ref 0 [] 5 0 0,Bo false,.za,.za,.za,.za,.za,.za,.za,.za,.za,.za,.za,.za,.za,.za,.za,.za,.za,.za,.za,lG v.zk,I v.zk.length,I k,.za,.za,.za,.za,.za,.za,.za,.za,.za,.za,.za,.za,.za,.za,.za,.za,.za,.za,.za,.za,.za,.za,.za,.za,.za]) (fun k=>[⟨1,72,5,[qu v],0⟩]) (fun k=>∀ j,j < k->zaM v j=true) ?_ (by simp) (fun k hk hr=>?_) (fun hr=>?_)
 ·exact cC
 ·obtain ⟨g,hg⟩:∃ g,g=v.zk[k]:=⟨_,rfl⟩
  obtain ⟨x,hx⟩:∃ x,x=v.snap.zf[k]'(by omega):=⟨_,rfl⟩
  have gg:(v.zk.map q7)[k]?= some (q7 g):=by rw [List.getElem?_map,List.getElem?_eq_getElem hk,hg];rfl
  have gx:(v.snap.zf.map jW)[k]?= some (jW x):=by rw [List.getElem?_map,List.getElem?_eq_getElem (by omega),hx];rfl
  have hgm:g ∈ v.zk:=by rw [hg];exact List.getElem_mem hk
  have me:(g.ends.map zX).length=g.ends.length:=List.length_map ..
  have mh:(x.zT.map xV).length=x.zT.length:=List.length_map ..
  have hd:zaM v k=(decide (g.ends.length=x.zT.length) && !g.ends.any (yR x)):=by
   unfold zaM
   rw [List.getElem?_eq_getElem hk,List.getElem?_eq_getElem (by omega),<- hg,<- hx]
  have bad:zaM v k=false->zav v=false:=fun h=>by
   have:(List.range v.zk.length).all (zaM v)=false:=by rw [List.all_eq_false];exact ⟨k,by simpa using hk,by simp [h]⟩
   unfold zav
   rw [this,Bool.and_false]
  have hcon:=zbE (H:=[⟨1,148,4,[jW x],0⟩]) (f:=107) (l:=g.ends) (caps:=[.ref 0 [] 4 0 0]) (yR x) (by kernel_rfl) (fun r hr=>zcs x r ((hv.ends g hgm).2 r hr)) (by have:=(hv.ends g hgm).1;omega)
  conv=>whnf
  (refine ⟨fun _=>?_,fun h=>absurd h (by simp;omega)⟩);refine dd ?_
  (refine ⟨by omega,_,by rw [toNat_cast];exact gg,?_⟩);refine dd ?_
  (refine ⟨by omega,_,by rw [toNat_cast];exact gx,?_⟩);refine dd ?_
  rw [me,mh]
  refine ⟨fun h3=>?_,fun h3=>?_⟩
  ·rw [bad (by rw [hd,show decide (g.ends.length=x.zT.length)=false from by rw [decide_eq_false_iff_not];intro hh;simp [hh] at h3];rfl)]
   refine dd ?_
   (repeat ((first | apply ya | apply yb);refine dd ?_))
   (refine .inr ⟨by simp,?_⟩);(conv=>whnf)
   exact ⟨.inl rfl,_,.refl _,rfl⟩
  refine dd ?_
  refine zq [2] (hcon) rfl rfl rfl rfl rfl rfl ?_;refine dd ?_
  refine ⟨fun h4=>?_,fun h4=>?_⟩
  ·rw [bad (by rw [hd,h4,Bool.not_true,Bool.and_false])]
   refine dd ?_
   (repeat ((first | apply ya | apply yb);refine dd ?_))
   (refine .inr ⟨by simp,?_⟩);(conv=>whnf)
   exact ⟨.inl rfl,_,.refl _,rfl⟩
  refine dd ?_
  (repeat ((first | apply ya | apply yb);refine dd ?_))
  refine .inl ⟨rfl,?_,fun j hj=>?_⟩
  ·rw [zp (by omega)]
   exact cE 1
  ·by_cases e:j=k
   ·subst e
    rw [hd,h4]
    simp at h3 ⊢
    omega
   ·exact hr j (by omega)
 ·have e:zav v=true:=by
   unfold zav
   rw [h1,show decide (v.zk.length=v.snap.zf.length)=true from by simpa using h2',Bool.true_and,Bool.true_and,List.all_eq_true]
   exact fun i hi=>hr i (by simpa using hi)
  rw [e]
  (conv=>whnf);(refine ⟨fun h=>absurd h (by simp),fun _=>?_⟩);refine dd ?_;(refine ⟨by simp,?_⟩);(conv=>whnf)
  exact ⟨.inl rfl,_,.refl _,rfl⟩
end Go.Wor
namespace Go.Wor
open Go.Ab Go.Proofs Go.Hy Go.Gat Go.Nam Go.Hos Go.Con Go.Sna
def jE (l:List Ret):List (Int × Value):=l.foldl (fun m r=>vg m r.version (Value.bool r.gone)) []
def jZ (l:List Ret) (i:Int):Bool:=match ((qC (jE l) i).bind fun j=>((jE l)[j]?).map (·.2):Option Value) with
 | some (.bool b)=>b
 | _=>false
theorem ziq {m:List (Int × Value)} (h:∀ kv ∈ m,∃ b,kv.2=Value.bool b) (k:Int) (b:Bool):∀ kv ∈ vg m k (Value.bool b),∃ b,kv.2=Value.bool b:=fun kv hm=>by
 unfold vg at hm
 split at hm
 ·rcases List.mem_or_eq_of_mem_set hm with hm | rfl
  ·exact h kv hm
  ·exact ⟨b,rfl⟩
 ·rcases List.mem_append.1 hm with hm | hm
  ·exact h kv hm
  ·rw [List.mem_singleton.1 hm];exact ⟨b,rfl⟩
theorem zga (l:List Ret):∀ kv ∈ jE l,∃ b,kv.2=Value.bool b:=by
 unfold jE
 suffices key:∀ (l:List Ret) (m:List (Int × Value)),(∀ kv ∈ m,∃ b,kv.2=Value.bool b)->∀ kv ∈ l.foldl (fun m r=>vg m r.version (Value.bool r.gone)) m,∃ b,kv.2=Value.bool b from key l [] (by simp)
 intro l
 induction l with
 | nil=>intro m h;exact h
 | cons r l ih=>intro m h;exact ih _ (ziq h _ _)
theorem zji (l:List Ret) (i:Int):(((qC (jE l) i).bind fun j=>((jE l)[j]?).map (·.2)).getD (Value.bool false))=Value.bool (jZ l i):=by
 unfold jZ
 cases h:(qC (jE l) i).bind fun j=>((jE l)[j]?).map (·.2) with
 | none=>rfl
 | some v=>
  obtain ⟨j,_,hj⟩:=Option.bind_eq_some_iff.1 h
  obtain ⟨kv,h1,rfl⟩:=Option.map_eq_some_iff.1 hj
  obtain ⟨b,hb⟩:=zga l kv (List.mem_of_getElem? h1)
  simp only [Option.getD_some]
  rw [hb]
theorem zhY (l:List Ret) {k:Nat} {r:Ret} (h:l[k]?= some r):jE (l.take (k+1))=vg (jE (l.take k)) r.version (Value.bool r.gone):=by
 obtain ⟨hk,rfl⟩:=List.getElem?_eq_some_iff.1 h
 unfold jE
 rw [List.take_succ_eq_append_getElem hk,List.foldl_append]
 rfl
structure OkW (w:Wor):Prop where
 pins:w.pins.length < 1000000000000
 zd:w.zd.length < 1000000000000∧∀ v ∈ w.zd,OkV v
 zc:w.zc.length < 1000000000000∧∀ l ∈ w.zc,l.ok
 counts:w.counts.length < 1000000000000∧∀ r ∈ w.counts,r.length < 1000000000000
 zg:w.zg.length < 1000000000000
def jP (w:Wor) (r:Ret):Bool:=decide (r.version≥(w.zd.length:Int)) || r.version == w.current || decide (r.at_ > w.zj)
def vH (w:Wor) (i:Nat):Bool:=match w.zd[i]? with
 | some v=>zav v && (v.j7 == jZ w.zg i)
 | none=>true
def y3 (w:Wor) (i:Nat):Bool:=match w.zc[i]? with
 | some l=>Go.Gat.isV l && decide (qo w.zc l.name=i)
 | none=>true
def qa (w:Wor):Bool:=qt w && (decide (0<=w.current) && decide (w.current < w.zd.length)) && Go.Lim.isV w.zg && !w.zg.any (jP w) && (List.range w.zd.length).all (vH w) && (List.range w.zc.length).all (y3 w)
theorem jK (w:Wor) (hw:OkW w):zb Tryz.prog 23 [] [Cw w] (Bo (qa w)) []:=by
 have m1:(w.zd.map qu).length=w.zd.length:=List.length_map ..
 have m2:(w.zg.map qM).length=w.zg.length:=List.length_map ..
 have m3:(w.zc.map qL).length=w.zc.length:=List.length_map ..
 have b1:=hw.pins
 have b2:=hw.zd.1
 have b3:=hw.zc.1
 have b4:=hw.counts.1
 have b5:=hw.zg
 refine zb.zm (fn:=Tryz.f23) Tryz.func23 rfl ?_
 conv=>whnf
 refine ⟨_,_,(zdQ w (by omega) (by omega)).frame rfl _,?_⟩;refine dd ?_
 refine ⟨fun h1=>?_,fun h1=>?_⟩
 rotate_left
 ·(have e:qa w=false:=by (unfold qa;(rw [h1]);simp));rw [e];refine dd ?_;(repeat ((first | apply ya | apply yb);refine dd ?_));exact ⟨.inl rfl,_,.refl _,rfl⟩
 refine dd ?_
 refine ⟨fun h2=>?_,fun h2=>?_⟩
 ·(have e:qa w=false:=by (unfold qa;(rw [show decide (0<=w.current)=false from by simp at h2 ⊢;omega]);simp));rw [e];refine dd ?_;(repeat ((first | apply ya | apply yb);refine dd ?_));exact ⟨.inl rfl,_,.refl _,rfl⟩
 refine dd ?_
 rw [m1]
 refine ⟨fun h3=>?_,fun h3=>?_⟩
 ·(have e:qa w=false:=by (unfold qa;(rw [show decide (w.current < w.zd.length)=false from by simp at h3 ⊢;omega]);simp));rw [e];refine dd ?_;(repeat ((first | apply ya | apply yb);refine dd ?_));exact ⟨.inl rfl,_,.refl _,rfl⟩
 refine dd ?_
 refine ⟨_,_,(Go.Lim.vw (l:=w.zg) (by omega)).frame rfl _,?_⟩;refine dd ?_
 refine ⟨fun h4=>?_,fun h4=>?_⟩
 rotate_left
 ·(have e:qa w=false:=by (unfold qa;(rw [h4]);simp));rw [e];refine dd ?_;(repeat ((first | apply ya | apply yb);refine dd ?_));exact ⟨.inl rfl,_,.refl _,rfl⟩
 refine dd ?_
 (repeat ((first | apply ya | apply yb);refine dd ?_))
 intro b
 refine dd ?_
 rw [m2]
 have g0:qa w=(!w.zg.any (jP w) && (List.range w.zd.length).all (vH w) && (List.range w.zc.length).all (y3 w)):=by
  unfold qa
  rw [h1,show decide (0<=w.current)=true from by simp at h2 ⊢;omega,show decide (w.current < w.zd.length)=true from by simp at h3 ⊢;omega,h4]
  rfl
 refine zM.seq w.zg.length (fun k=>(.za::.ref 0 [] 8 0 0::Bo false:: .v (.map (some b)):: .za::.za::.za::.za::.za::.za::.za::.za::.za::.za::.za::.za::.za::.za::.za::.za::.za::.za::.za::.za::.za::.za::.za::.za::.za::.za::.za::.za::.za::.za::lR w.zg::I w.zg.length::I k:: .za::.za::.za::.za::.za::.za::.za::.za::.za::.za::.za::.za::.za::.za::.za::.za::.za::.za::.za::.za::.za::.za::.za::.za::.za::.za::.za::.za::.za::.za::.za::.za::.za::.za::.za::.za::.za::.za::.za::.za::.za::.za::.za::.za::.za::.za::.za::.za::.za::.za::.za::.za::.za::.za::.za::.za::.za::.za::.za::.za::.za::.za::.za::.za::.za::.za::.za::.za::.za::.za::[])) (fun k=>[⟨1,28,8,[zU w],0⟩,obM b (jB jA (jE (w.zg.take k))) (jE (w.zg.take k)).length]) (fun k=>∀ j,(h:j < w.zg.length)->j < k->jP w w.zg[j]=false) ?_ (by simp) (fun k hk hr=>?_) (fun hr=>?_)
 ·exact cC
 ·obtain ⟨r,hx⟩:∃ r,r=w.zg[k]:=⟨_,rfl⟩
  have hx2:w.zg[k]?= some r:=by rw [List.getElem?_eq_getElem hk,hx]
  have hg:(w.zg.map qM)[k]?= some (qM r):=by rw [List.getElem?_map,hx2];rfl
  have bad:jP w r=true->qa w=false:=fun h=>by
   have:w.zg.any (jP w)=true:=List.any_eq_true.2 ⟨r,List.mem_of_getElem? hx2,h⟩
   rw [g0,this];rfl
  conv=>whnf
  (refine ⟨fun _=>?_,fun h=>absurd h (by simp;omega)⟩);refine dd ?_
  (refine ⟨by omega,_,by rw [toNat_cast];exact hg,?_⟩);refine dd ?_
  rw [m1]
  refine ⟨fun h5=>?_,fun h5=>?_⟩
  ·(rw [bad (by unfold jP;rw [h5];rfl)]);refine dd ?_;(repeat ((first | apply ya | apply yb);refine dd ?_));(refine .inr ⟨by simp,?_⟩);(conv=>whnf);exact ⟨.inl rfl,_,.refl _,rfl⟩
  refine dd ?_
  refine ⟨fun h6=>?_,fun h6=>?_⟩
  ·(rw [bad (by unfold jP;rw [h6,Bool.or_true];rfl)]);refine dd ?_;(repeat ((first | apply ya | apply yb);refine dd ?_));(refine .inr ⟨by simp,?_⟩);(conv=>whnf);exact ⟨.inl rfl,_,.refl _,rfl⟩
  refine dd ?_
  refine ⟨fun h7=>?_,fun h7=>?_⟩
  ·(rw [bad (by unfold jP;rw [h7,Bool.or_true])]);refine dd ?_;(repeat ((first | apply ya | apply yb);refine dd ?_));(refine .inr ⟨by simp,?_⟩);(conv=>whnf);exact ⟨.inl rfl,_,.refl _,rfl⟩
  refine dd ?_
  (repeat ((first | apply ya | apply yb);refine dd ?_))
  refine ⟨fun q=>?_,fun q=>?_⟩
  all_goals
   refine dd ?_
   refine ⟨_,_,OpV.mapUpdate (id:=1) _ _ _ _ (.inl rfl) Tryz.underlying111 (zds.int Tryz.underlying3) rfl rfl r.version (fun E u h=>x9 h) (.bool r.gone) (fun E u h=>by rw [q];exact x9 h),?_⟩
   refine dd ?_
   refine .inl ⟨rfl,?_,fun j hj hjk=>?_⟩
   ·rw [zp (by omega),<- zhY w.zg hx2]
    exact cE 2
   ·by_cases e:j=k
    ·subst e;rw [<- hx];unfold jP;rw [h5,h6,h7];rfl
    ·exact hr j hj (by omega)
 have hl0:w.zg.any (jP w)=false:=by
  rw [List.any_eq_false]
  intro x hx
  obtain ⟨j,hj,rfl⟩:=List.mem_iff_getElem.1 hx
  simp [hr j hj hj]
 rw [List.take_length]
 (conv=>whnf);(refine ⟨fun h=>absurd h (by simp),fun _=>?_⟩);refine dd ?_;(refine ⟨by simp,?_⟩);(conv=>whnf)
 rw [m1]
 have g1:qa w=((List.range w.zd.length).all (vH w) && (List.range w.zc.length).all (y3 w)):=by rw [g0,hl0];rfl
 refine zM.seq w.zd.length (fun k=>(.za::.ref 0 [] 8 0 0::Bo false:: .v (.map (some b)):: .za::.za::.za::.za::.za::.za::.za::.za::.za::.za::.za::.za::.za::.za::.za::.za::.za::.za::.za::.za::.za::.za::.za::.za::.za::.za::.za::.za::.za::.za::.za::.za::.za::.za::.za::.za::.za::.za::.za::.za::.za::.za::.za::.za::.za::.za::.za::.za::.za::.za::.za::.za::.za::.za::.za::.za::.za::.za::.za::.za::.za::.za::.za::lV w.zd::I w.zd.length::I k:: .za::.za::.za::.za::.za::.za::.za::.za::.za::.za::.za::.za::.za::.za::.za::.za::.za::.za::.za::.za::.za::.za::.za::.za::.za::.za::.za::.za::.za::.za::.za::.za::.za::.za::.za::.za::.za::[])) (fun k=>[⟨1,28,8,[zU w],0⟩,obM b (jB jA (jE (w.zg))) (jE (w.zg)).length]) (fun k=>∀ j,j < k->vH w j=true) ?_ (by simp) (fun k hk hr=>?_) (fun hr=>?_)
 ·exact cC
 ·obtain ⟨v,hx⟩:∃ v,v=w.zd[k]:=⟨_,rfl⟩
  have hx2:w.zd[k]?= some v:=by rw [List.getElem?_eq_getElem hk,hx]
  have hg:(w.zd.map qu)[k]?= some (qu v):=by rw [List.getElem?_map,hx2];rfl
  have hd:vH w k=(zav v && (v.j7 == jZ w.zg k)):=by unfold vH;rw [hx2]
  have bad:vH w k=false->qa w=false:=fun h=>by
   have:(List.range w.zd.length).all (vH w)=false:=by rw [List.all_eq_false];exact ⟨k,by simpa using hk,by simp [h]⟩
   rw [g1,this];rfl
  conv=>whnf
  (refine ⟨fun _=>?_,fun h=>absurd h (by simp;omega)⟩);refine dd ?_
  (refine ⟨by omega,_,by rw [toNat_cast];exact hg,?_⟩);refine dd ?_
  refine ⟨_,_,(zcM v (hw.zd.2 v (List.mem_of_getElem? hx2))).frame rfl _,?_⟩;refine dd ?_
  refine ⟨fun h5=>?_,fun h5=>?_⟩
  rotate_left
  ·(rw [bad (by rw [hd,h5];rfl)]);refine dd ?_;(repeat ((first | apply ya | apply yb);refine dd ?_));(refine .inr ⟨by simp,?_⟩);(conv=>whnf);exact ⟨.inl rfl,_,.refl _,rfl⟩
  refine dd ?_
  refine ⟨fun q=>?_,fun q=>?_⟩
  all_goals
   refine dd ?_
   refine ⟨_,_,OpV.lookup (id:=1) _ _ _ rfl Tryz.underlying111 (zds.int Tryz.underlying3) rfl rfl (k:Int) (fun E u h=>x9 h) (c:=Bo (jZ w.zg k)) rfl rfl (fun E=>by rw [zji];exact .v _ rfl),?_⟩
   refine dd ?_
   refine ⟨fun q2=>?_,fun q2=>?_⟩
   ·(rw [bad (by rw [hd,q];simp at q2;simp [q2])]);refine dd ?_;(repeat ((first | apply ya | apply yb);refine dd ?_));(refine .inr ⟨by simp,?_⟩);(conv=>whnf);exact ⟨.inl rfl,_,.refl _,rfl⟩
   refine dd ?_
   (repeat ((first | apply ya | apply yb);refine dd ?_))
   refine .inl ⟨rfl,?_,fun j hj=>?_⟩
   ·rw [zp (by omega)]
    exact cE 2
   ·by_cases e:j=k
    ·subst e;rw [hd,h5,q];simp at q2;simp [q2]
    ·exact hr j (by omega)
 have hv0:(List.range w.zd.length).all (vH w)=true:=by
  rw [List.all_eq_true]
  exact fun i hi=>hr i (by simpa using hi)
 have g2:qa w=(List.range w.zc.length).all (y3 w):=by rw [g1,hv0];rfl
 (conv=>whnf);(refine ⟨fun h=>absurd h (by simp),fun _=>?_⟩);refine dd ?_;(refine ⟨by simp,?_⟩);(conv=>whnf)
 rw [m3]
 refine zM.seq w.zc.length (fun k=>(.za::.ref 0 [] 8 0 0::Bo false:: .v (.map (some b)):: .za::.za::.za::.za::.za::.za::.za::.za::.za::.za::.za::.za::.za::.za::.za::.za::.za::.za::.za::.za::.za::.za::.za::.za::.za::.za::.za::.za::.za::.za::.za::.za::.za::.za::.za::.za::.za::.za::.za::.za::.za::.za::.za::.za::.za::.za::.za::.za::.za::.za::.za::.za::.za::.za::.za::.za::.za::.za::.za::.za::.za::.za::.za::.za::.za::.za::.za::.za::.za::.za::.za::.za::.za::.za::.za::.za::.za::.za::.za::.za::.za::.za::.za::lL w.zc::I w.zc.length::I k:: .za::.za::.za::.za::.za::.za::.za::.za::.za::.za::.za::.za::.za::.za::.za::.za::.za::[])) (fun k=>[⟨1,28,8,[zU w],0⟩,obM b (jB jA (jE (w.zg))) (jE (w.zg)).length]) (fun k=>∀ j,j < k->y3 w j=true) ?_ (by simp) (fun k hk hr=>?_) (fun hr=>?_)
 ·exact cC
 ·obtain ⟨l,hx⟩:∃ l,l=w.zc[k]:=⟨_,rfl⟩
  have hx2:w.zc[k]?= some l:=by rw [List.getElem?_eq_getElem hk,hx]
  have hg:(w.zc.map qL)[k]?= some (qL l):=by rw [List.getElem?_map,hx2];rfl
  have hd:y3 w k=(Go.Gat.isV l && decide (qo w.zc l.name=k)):=by unfold y3;rw [hx2]
  have bad:y3 w k=false->qa w=false:=fun h=>by
   have:(List.range w.zc.length).all (y3 w)=false:=by rw [List.all_eq_false];exact ⟨k,by simpa using hk,by simp [h]⟩
   rw [g2,this]
  conv=>whnf
  (refine ⟨fun _=>?_,fun h=>absurd h (by simp;omega)⟩);refine dd ?_
  (refine ⟨by omega,_,by rw [toNat_cast];exact hg,?_⟩);refine dd ?_
  refine ⟨_,_,(Go.Gat.vw l (hw.zc.2 l (List.mem_of_getElem? hx2))).frame rfl _,?_⟩;refine dd ?_
  refine ⟨fun h5=>?_,fun h5=>?_⟩
  rotate_left
  ·(rw [bad (by rw [hd,h5];rfl)]);refine dd ?_;(repeat ((first | apply ya | apply yb);refine dd ?_));(refine .inr ⟨by simp,?_⟩);(conv=>whnf);exact ⟨.inl rfl,_,.refl _,rfl⟩
  refine dd ?_
  refine ⟨_,_,(zaW w.zc l.name (by omega)).frame rfl _,?_⟩;refine dd ?_
  refine ⟨fun h6=>?_,fun h6=>?_⟩
  ·(rw [bad (by rw [hd,show decide (qo w.zc l.name=(k:Int))=false from by rw [decide_eq_false_iff_not];intro hh;simp [hh] at h6,Bool.and_false])]);refine dd ?_;(repeat ((first | apply ya | apply yb);refine dd ?_));(refine .inr ⟨by simp,?_⟩);(conv=>whnf);exact ⟨.inl rfl,_,.refl _,rfl⟩
  refine dd ?_
  (repeat ((first | apply ya | apply yb);refine dd ?_))
  refine .inl ⟨rfl,?_,fun j hj=>?_⟩
  ·rw [zp (by omega)]
   exact cE 2
  ·by_cases e:j=k
   ·subst e;rw [hd,h5];simp at h6;simp [h6]
   ·exact hr j (by omega)
 ·have hl1:(List.range w.zc.length).all (y3 w)=true:=by
   rw [List.all_eq_true]
   exact fun i hi=>hr i (by simpa using hi)
  rw [g2,hl1]
  (conv=>whnf);(refine ⟨fun h=>absurd h (by simp),fun _=>?_⟩);refine dd ?_;(refine ⟨by simp,?_⟩);(conv=>whnf)
  exact ⟨.inl rfl,_,.refl _,rfl⟩
end Go.Wor
