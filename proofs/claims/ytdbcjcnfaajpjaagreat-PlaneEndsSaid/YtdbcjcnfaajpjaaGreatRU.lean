import Derived.Test.YtdbcjcnfaajpjaaGreatRF
import Derived.Test.YtdbcjcnfaajpjaaGreatRS
import Derived.Test.YtdbcjcnfaajpjaaGreatRT
set_option linter.unusedVariables false
set_option linter.unusedSimpArgs false
set_option linter.unusedSectionVars false
set_option maxRecDepth 100000
set_option maxHeartbeats 4000000
namespace Go.Wor
open Go.Ab Go.Proofs Go.Hy Go.Gat Go.Nam Go.Hos Go.Con Go.Sna
def yP (l:List Str) (n:Int):Str:=if 0<=n∧n < l.length then (l[n.toNat]?).getD [] else []
def yd (l:List Clu) (n:Int):Str:=if 0<=n∧n < l.length then ((l[n.toNat]?).map (·.name)).getD [] else []
def zeZ (s:Sna) (r:Rul):Rou:=⟨yP s.ze r.listen,r.host,r.path,yd s.zk r.zg⟩
def wg (s:Sna):Cfg:=⟨s.ze,s.rules.map (zeZ s),s.zk⟩
def yR (s:Sna):Bool:=(jf (wg s)).1 == 0
structure vb (s:Sna):Prop where
 ze:s.ze.length < 1000000000000∧∀ x ∈ s.ze,x.length < 4000000000000000000
 rules:s.rules.length < 1000000000000∧∀ r ∈ s.rules,r.host.length < 1000000000000∧r.path.length < 1000000000000
 zk:s.zk.length < 1000000000000∧∀ x ∈ s.zk,x.name.length < 4000000000000000000∧x.zI.length < 4000000000000000000
theorem vb.cfg {s:Sna} (h:vb s):xF (wg s):=by
 refine ⟨h.ze,⟨by simpa [wg] using h.rules.1,fun r hr=>?_⟩,h.zk⟩
 simp only [wg,List.mem_map] at hr
 obtain ⟨q,hq,rfl⟩:=hr
 refine ⟨?_,(h.rules.2 q hq).1,(h.rules.2 q hq).2,?_⟩
 ·show (yP s.ze q.listen).length < _
  unfold yP
  split
  ·cases hx:s.ze[q.listen.toNat]? with
   | none=>simp
   | some x=>exact h.ze.2 x (List.mem_of_getElem? hx)
  ·simp
 ·show (yd s.zk q.zg).length < _
  unfold yd
  split
  ·cases hx:s.zk[q.zg.toNat]? with
   | none=>simp
   | some x=>exact (h.zk.2 x (List.mem_of_getElem? hx)).1
  ·simp
theorem zf5 (s:Sna) (hs:vb s):zb Tryz.prog 73 [] [Cs s] (Cf (wg s)) []:=by
 have m1:(s.rules.map jP).length=s.rules.length:=List.length_map ..
 have m2:(s.ze.map yT).length=s.ze.length:=List.length_map ..
 have m3:(s.zk.map jj).length=s.zk.length:=List.length_map ..
 have hl:=hs.rules.1
 refine zb.zp (fn:=Tryz.f73) Tryz.func73 rfl ?_
 conv=>whnf
 rw [m1]
 refine qa.seq s.rules.length (fun k=>[.za,.ref 0 [] 3 0 0,.ref 1 [] 3 0 0,.ref 2 [] 3 0 0,.za,.za,.za,.za,.za,.za,.za,.za,.za,vx s.rules,I s.rules.length,I k,.za,.za,.za,.za,.za,.za,.za,.za,.za,.za,.za,.za,.za,.za,.za,.za,.za,.za,.za,.za,.za,.za,.za,.za,.za,.za,.za,.za,.za,.za,.za,.za,.za,.za,.za,.za,.za,.za,.za,.za,.za,.za,.za,.za,.za,.za,.za,.za,.za,.za,.za,.za,.za]) (fun k=>[⟨1,68,3,[zL s],0⟩,⟨1,26,3,[[.lst 1 0 [],.lst 1 0 [],.lst 1 0 []]],0⟩,⟨1,26,3,[[lT s.ze,.gl 3 4 (((s.rules.take k).map (zeZ s)).map ve),lC s.zk]],0⟩,⟨4,84,4,((s.rules.take k).map (zeZ s)).map ve,0⟩]) (fun k=>True) ?_ trivial (fun k hk hr=>?_) (fun hr=>?_)
 ·refine zt.trans (zt.zdL 2 1 84 4 rfl rfl (.inl rfl) rfl rfl) ?_
  exact cC
 ·obtain ⟨r,hx⟩:∃ r,r=s.rules[k]:=⟨_,rfl⟩
  have hg:(s.rules.map jP)[k]?= some (jP r):=by rw [List.getElem?_map,List.getElem?_eq_getElem hk,hx];rfl
  have hlg:(((s.rules.take k).map (zeZ s)).map ve).length=k:=by simp;omega
  have eg:((s.rules.take (k+1)).map (zeZ s)).map ve=((s.rules.take k).map (zeZ s)).map ve++[ve (zeZ s r)]:=by rw [List.take_succ_eq_append_getElem hk,<- hx];simp
  have hv:∀ a b,a=yP s.ze r.listen->b=yd s.zk r.zg->ve ⟨a,r.host,r.path,b⟩=ve (zeZ s r):=fun a b h1 h2=>by rw [h1,h2];rfl
  conv=>whnf
  (refine ⟨fun _=>?_,fun h=>absurd h (by simp;omega)⟩);refine dd ?_
  (refine ⟨by omega,_,by rw [toNat_cast];exact hg,?_⟩);refine dd ?_
  refine ⟨fun h1=>?_,fun h1=>?_⟩
  rotate_left
  ·refine dd ?_
   (repeat ((first | apply ya | apply yb);refine dd ?_))
   refine ⟨fun q1=>?_,fun q1=>?_⟩;rotate_left;(focus (refine dd ?_;(repeat ((first | apply ya | apply yb);refine dd ?_));(refine ⟨rfl,.inr rfl,by rw [hlg];simp [maxLen];omega,by rw [hlg];show (k+1) * 64<=_;omega,?_⟩);refine dd ?_;(refine .inl ⟨rfl,?_,trivial⟩);(rw [zC (by omega),eg,<- hv _ _ (by unfold yP;rw [if_neg (by simp at h1;omega)]) (by unfold yd;rw [if_neg (by simp at q1;omega)])]);exact cE 4));refine dd ?_;(rw [m3]);refine ⟨fun q2=>?_,fun q2=>?_⟩;rotate_left;(focus (refine dd ?_;(repeat ((first | apply ya | apply yb);refine dd ?_));(refine ⟨rfl,.inr rfl,by rw [hlg];simp [maxLen];omega,by rw [hlg];show (k+1) * 64<=_;omega,?_⟩);refine dd ?_;(refine .inl ⟨rfl,?_,trivial⟩);(rw [zC (by omega),eg,<- hv _ _ (by unfold yP;rw [if_neg (by simp at h1;omega)]) (by unfold yd;rw [if_neg (by simp at q2;omega)])]);exact cE 4));(have q3:r.zg.toNat < s.zk.length:=by simp at q1 q2;omega);(have gq:(s.zk.map jj)[r.zg.toNat]?= some (jj s.zk[r.zg.toNat]):=by rw [List.getElem?_map,List.getElem?_eq_getElem q3];rfl);refine dd ?_;(repeat ((first | apply ya | apply yb);refine dd ?_));(refine ⟨by simp at q1;omega,_,gq,?_⟩);refine dd ?_;(refine ⟨rfl,.inr rfl,by rw [hlg];simp [maxLen];omega,by rw [hlg];show (k+1) * 64<=_;omega,?_⟩);refine dd ?_;(refine .inl ⟨rfl,?_,trivial⟩);(rw [zC (by omega),eg,<- hv _ _ (by unfold yP;rw [if_neg (by simp at h1;omega)]) (by unfold yd;rw [if_pos (by simp at q1 q2;omega),List.getElem?_eq_getElem q3])]);exact cE 4
  refine dd ?_
  rw [m2]
  refine ⟨fun h2=>?_,fun h2=>?_⟩
  rotate_left
  ·refine dd ?_
   (repeat ((first | apply ya | apply yb);refine dd ?_))
   refine ⟨fun q1=>?_,fun q1=>?_⟩;rotate_left;(focus (refine dd ?_;(repeat ((first | apply ya | apply yb);refine dd ?_));(refine ⟨rfl,.inr rfl,by rw [hlg];simp [maxLen];omega,by rw [hlg];show (k+1) * 64<=_;omega,?_⟩);refine dd ?_;(refine .inl ⟨rfl,?_,trivial⟩);(rw [zC (by omega),eg,<- hv _ _ (by unfold yP;rw [if_neg (by simp at h2;omega)]) (by unfold yd;rw [if_neg (by simp at q1;omega)])]);exact cE 4));refine dd ?_;(rw [m3]);refine ⟨fun q2=>?_,fun q2=>?_⟩;rotate_left;(focus (refine dd ?_;(repeat ((first | apply ya | apply yb);refine dd ?_));(refine ⟨rfl,.inr rfl,by rw [hlg];simp [maxLen];omega,by rw [hlg];show (k+1) * 64<=_;omega,?_⟩);refine dd ?_;(refine .inl ⟨rfl,?_,trivial⟩);(rw [zC (by omega),eg,<- hv _ _ (by unfold yP;rw [if_neg (by simp at h2;omega)]) (by unfold yd;rw [if_neg (by simp at q2;omega)])]);exact cE 4));(have q3:r.zg.toNat < s.zk.length:=by simp at q1 q2;omega);(have gq:(s.zk.map jj)[r.zg.toNat]?= some (jj s.zk[r.zg.toNat]):=by rw [List.getElem?_map,List.getElem?_eq_getElem q3];rfl);refine dd ?_;(repeat ((first | apply ya | apply yb);refine dd ?_));(refine ⟨by simp at q1;omega,_,gq,?_⟩);refine dd ?_;(refine ⟨rfl,.inr rfl,by rw [hlg];simp [maxLen];omega,by rw [hlg];show (k+1) * 64<=_;omega,?_⟩);refine dd ?_;(refine .inl ⟨rfl,?_,trivial⟩);(rw [zC (by omega),eg,<- hv _ _ (by unfold yP;rw [if_neg (by simp at h2;omega)]) (by unfold yd;rw [if_pos (by simp at q1 q2;omega),List.getElem?_eq_getElem q3])]);exact cE 4
  have h3:r.listen.toNat < s.ze.length:=by simp at h1 h2;omega
  have gl:(s.ze.map yT)[r.listen.toNat]?= some (yT s.ze[r.listen.toNat]):=by rw [List.getElem?_map,List.getElem?_eq_getElem h3];rfl
  refine dd ?_
  (repeat ((first | apply ya | apply yb);refine dd ?_))
  refine ⟨by simp at h1;omega,_,gl,?_⟩
  refine dd ?_
  refine ⟨fun q1=>?_,fun q1=>?_⟩;rotate_left;(focus (refine dd ?_;(repeat ((first | apply ya | apply yb);refine dd ?_));(refine ⟨rfl,.inr rfl,by rw [hlg];simp [maxLen];omega,by rw [hlg];show (k+1) * 64<=_;omega,?_⟩);refine dd ?_;(refine .inl ⟨rfl,?_,trivial⟩);(rw [zC (by omega),eg,<- hv _ _ (by unfold yP;rw [if_pos (by simp at h1 h2;omega),List.getElem?_eq_getElem h3]) (by unfold yd;rw [if_neg (by simp at q1;omega)])]);exact cE 4));refine dd ?_;(rw [m3]);refine ⟨fun q2=>?_,fun q2=>?_⟩;rotate_left;(focus (refine dd ?_;(repeat ((first | apply ya | apply yb);refine dd ?_));(refine ⟨rfl,.inr rfl,by rw [hlg];simp [maxLen];omega,by rw [hlg];show (k+1) * 64<=_;omega,?_⟩);refine dd ?_;(refine .inl ⟨rfl,?_,trivial⟩);(rw [zC (by omega),eg,<- hv _ _ (by unfold yP;rw [if_pos (by simp at h1 h2;omega),List.getElem?_eq_getElem h3]) (by unfold yd;rw [if_neg (by simp at q2;omega)])]);exact cE 4));(have q3:r.zg.toNat < s.zk.length:=by simp at q1 q2;omega);(have gq:(s.zk.map jj)[r.zg.toNat]?= some (jj s.zk[r.zg.toNat]):=by rw [List.getElem?_map,List.getElem?_eq_getElem q3];rfl);refine dd ?_;(repeat ((first | apply ya | apply yb);refine dd ?_));(refine ⟨by simp at q1;omega,_,gq,?_⟩);refine dd ?_;(refine ⟨rfl,.inr rfl,by rw [hlg];simp [maxLen];omega,by rw [hlg];show (k+1) * 64<=_;omega,?_⟩);refine dd ?_;(refine .inl ⟨rfl,?_,trivial⟩);(rw [zC (by omega),eg,<- hv _ _ (by unfold yP;rw [if_pos (by simp at h1 h2;omega),List.getElem?_eq_getElem h3]) (by unfold yd;rw [if_pos (by simp at q1 q2;omega),List.getElem?_eq_getElem q3])]);exact cE 4
 ·(conv=>whnf);(refine ⟨fun h=>absurd h (by simp),fun _=>?_⟩);refine dd ?_;(refine ⟨by simp,?_⟩);(conv=>whnf)
  rw [List.take_length]
  exact ⟨.inl rfl,_,.refl _,rfl⟩
theorem zbx (s:Sna) (hs:vb s):zb Tryz.prog 53 [] [Cs s] (Bo (yR s)) []:=by
 refine zb.zp (fn:=Tryz.f53) Tryz.func53 rfl ?_
 conv=>whnf
 refine ⟨_,_,(zf5 s hs).frame rfl _,?_⟩;refine dd ?_
 refine ⟨_,_,(check_sound (wg s) hs.cfg).frame rfl _,?_⟩;refine dd ?_
 refine ⟨fun h=>?_,fun h=>?_⟩
 ·refine dd ?_
  (exact ⟨.inl rfl,_,.refl _,congrArg (fun b=>some (C.v (Value.bool b))) (by unfold yR;exact h.symm)⟩)
 ·refine dd ?_
  (exact ⟨.inl rfl,_,.refl _,congrArg (fun b=>some (C.v (Value.bool b))) (by unfold yR;exact h.symm)⟩)
end Go.Wor
namespace Go.Wor
open Go.Ab Go.Proofs Go.Hy Go.Gat Go.Nam Go.Hos Go.Con Go.Sna
open Go.Slp (yJ wt)
theorem zgc {f:Nat->Int} {n:Nat} (h:(jo f n).1=0):∀ j,j < n->f j=0:=fun j hj=>by
 unfold jo at h
 split at h
 ·rename_i i hi
  rw [List.find?_range_eq_some] at hi
  exact absurd h (by simpa using hi.1)
 ·rename_i hn
  rw [List.find?_range_eq_none] at hn
  simpa using hn j hj
structure zlE (x:Clu):Prop where
 name:j0 x.name=true
 jT:x.jT=1∨x.jT=2
 xy:1<=x.xy∧x.xy<=4
 zI:1<=x.zI.length∧x.zI.length<=4
structure zpd (s:Sna):Prop where
 ze:1<=s.ze.length∧s.ze.length<=4
 rules:1<=s.rules.length∧s.rules.length<=8
 zk:1<=s.zk.length∧s.zk.length<=4
 all:∀ x ∈ s.zk,zlE x
theorem jE {s:Sna} (h:yR s=true):zpd s:=by
 unfold yR at h
 have h:(jf (wg s)).1=0:=by simpa using h
 unfold jf at h
 split at h
 ·contradiction
 rename_i h1
 split at h
 ·contradiction
 rename_i h2
 split at h
 ·contradiction
 rename_i h3
 have h1:(yQ (wg s)).1=0:=by simpa using h1
 unfold yQ at h1
 split at h1
 ·cases h1
 rename_i h4
 have e:(wg s).zP.length=s.rules.length:=by simp [wg]
 rw [e] at h4
 simp only [show (wg s).ze=s.ze from rfl,show (wg s).zk=s.zk from rfl] at h4
 have b:∀ n:Nat,∀ m:Int,¬(decide (1<=(n:Int)) && decide ((n:Int)<=m))=false->1<=n∧(n:Int)<=m:=fun n m hh=>by simp at hh;omega
 have q1:=b s.ze.length 4 fun hh=>h4 (.inl (.inl hh))
 have q2:=b s.rules.length 8 fun hh=>h4 (.inl (.inr hh))
 have q3:=b s.zk.length 4 fun hh=>h4 (.inr hh)
 refine ⟨by omega,by omega,by omega,fun x hx=>?_⟩
 obtain ⟨i,hi,rfl⟩:=List.mem_iff_getElem.1 hx
 have h5:=zgc (f:=zbK s.zk) (n:=s.zk.length) (Decidable.of_not_not h3) i hi
 unfold zbK at h5
 rw [List.getElem?_eq_getElem hi] at h5
 dsimp only at h5
 split at h5
 ·cases h5
 rename_i p1
 split at h5
 ·cases h5
 split at h5
 ·cases h5
 rename_i p2
 split at h5
 ·cases h5
 rename_i p3
 split at h5
 ·cases h5
 rename_i p4
 refine ⟨by simpa using p1,?_,?_,?_⟩
 ·by_cases a:s.zk[i].jT=1
  ·exact .inl a
  ·by_cases a2:s.zk[i].jT=2
   ·exact .inr a2
   ·exact absurd ⟨a,a2⟩ p2
 ·simp at p3;omega
 ·simp at p4;omega
abbrev xJ (x:Clu):En:=(yJ x.xy).1
theorem zmc {x:Clu} (h:zlE x):yJ x.xy=(xJ x,0):=by
 have:=h.xy
 unfold xJ yJ
 rw [if_neg (by omega)]
def zaw (x:Clu):Gr:=⟨0,List.replicate x.zI.length (xJ x)⟩
abbrev zpx:Sna:=⟨[],[],[]⟩
abbrev zj3:Ver:=⟨zpx,[],false⟩
def q7 (s:Sna):Ver × Int:=if yR s then (⟨s,s.zk.map zaw,false⟩,0) else (zj3,1)
abbrev Cv (v:Ver):C:=.agg (zx v)
abbrev tV (r:Ver × Int):C:=.tup [Cv r.1,I r.2]
theorem zcl (s:Sna) (hs:vb s):zb Tryz.prog 60 [] [Cs s] (tV (q7 s)) []:=by
 have m1:(s.zk.map jj).length=s.zk.length:=List.length_map ..
 refine zb.zp (fn:=Tryz.f60) Tryz.func60 rfl ?_
 conv=>whnf
 refine ⟨_,_,(zbx s hs).frame rfl _,?_⟩;refine dd ?_
 refine ⟨fun h1=>?_,fun h1=>?_⟩
 rotate_left
 ·have e:q7 s=(zj3,1):=by unfold q7;rw [if_neg (by rw [h1];decide)]
  rw [e]
  refine dd ?_
  (repeat ((first | apply ya | apply yb);refine dd ?_))
  exact ⟨.inl rfl,_,zt.var 1 rfl rfl rfl (.cons (WC.nil 0 1) (.cons (WC.nil 0 4) (.cons (WC.nil 0 4) (.cons (WC.nil 0 2) (.cons (.refl _) .nil))))),rfl⟩
 have e:q7 s=(⟨s,s.zk.map zaw,false⟩,0):=by unfold q7;rw [if_pos h1]
 have hg:=jE h1
 rw [e]
 refine dd ?_
 (repeat ((first | apply ya | apply yb);refine dd ?_))
 rw [m1]
 refine qa.seq s.zk.length (fun k=>[.za,.ref 0 [] 3 0 0,.ref 1 [] 5 0 0,I 0,.ref 2 [] 5 0 0,.za,.za,.za,.za,.za,.za,.za,.za,.za,.za,.za,.za,lC s.zk,I s.zk.length,I k,.za,.za,.za,.za,.za,.za,.za,.za,.za,.za,.za,.za,.za,.za,.za,.za,.za,.za,.za,.za,.za,.za,.za,.za,.za,.za,.za,.za,.za,.za,.za,.za,.za]) (fun k=>[⟨1,68,3,[zL s],0⟩,⟨1,71,5,[[.lst 1 0 [],.lst 1 0 [],.lst 1 0 [],.lst 1 0 [],Bo false]],0⟩,⟨1,71,5,[zL s++[.gl 3 2 (((s.zk.take k).map zaw).map zw),Bo false]],0⟩,⟨4,75,2,((s.zk.take k).map zaw).map zw,0⟩]) (fun k=>True) ?_ trivial (fun k hk hr=>?_) (fun hr=>?_)
 ·refine zt.trans (zt.zdL 2 3 75 2 rfl rfl (.inl rfl) rfl rfl) ?_
  exact cC
 ·obtain ⟨x,hx⟩:∃ x,x=s.zk[k]:=⟨_,rfl⟩
  have hgx:(s.zk.map jj)[k]?= some (jj x):=by rw [List.getElem?_map,List.getElem?_eq_getElem hk,hx];rfl
  have hgood:=hg.all x (by rw [hx];exact List.getElem_mem hk)
  have hc4:=hg.zk.2
  have h4:=hgood.zI.2
  have hlg:(((s.zk.take k).map zaw).map zw).length=k:=by simp;omega
  have eg:((s.zk.take (k+1)).map zaw).map zw=((s.zk.take k).map zaw).map zw++[zw (zaw x)]:=by rw [List.take_succ_eq_append_getElem hk,<- hx];simp
  have mh:(x.zI.map xZ).length=x.zI.length:=List.length_map ..
  have fs:zb Tryz.prog 80 [] [I x.xy] (.tup [.agg (zo (xJ x)),I 0]) []:=by
   have:=wt x.xy
   rw [zmc hgood] at this
   exact this
  conv=>whnf
  (refine ⟨fun _=>?_,fun h=>absurd h (by simp;omega)⟩);refine dd ?_
  (refine ⟨by omega,_,by rw [toNat_cast];exact hgx,?_⟩);refine dd ?_
  rw [mh]
  refine qa.seq x.zI.length (fun j=>[.za,.ref 0 [] 3 0 0,.ref 1 [] 5 0 0,I 0,.ref 2 [] 5 0 0,.za,.ref 4 [] 4 0 0,.ref 5 [] 2 0 0,.za,.za,.za,.za,.za,.za,.za,.za,.za,lC s.zk,I s.zk.length,I k,.za,.za,.za,.za,.za,I x.zI.length,I j,.za,.za,.za,.za,.za,.za,.za,.za,.za,.za,.za,.za,.za,.za,.za,.za,.za,.za,.za,.za,.za,.za,.za,.za,.za,.za]) (fun j=>[⟨1,68,3,[zL s],0⟩,⟨1,71,5,[[.lst 1 0 [],.lst 1 0 [],.lst 1 0 [],.lst 1 0 [],Bo false]],0⟩,⟨1,71,5,[zL s++[.gl 3 2 (((s.zk.take k).map zaw).map zw),Bo false]],0⟩,⟨4,75,2,((s.zk.take k).map zaw).map zw,0⟩,⟨1,82,4,[jj x],0⟩,⟨1,75,2,[[U 0,.gl 6 3 ((List.replicate j (xJ x)).map zo)]],0⟩,⟨4,79,3,((List.replicate j (xJ x)).map zo),0⟩]) (fun k=>True) ?_ trivial (fun j hj hr=>?_) (fun hr=>?_)
  ·refine zt.trans (zt.zdL 5 1 79 3 rfl rfl (.inl rfl) rfl rfl) ?_
   exact cC
  ·have hle:(((List.replicate j (xJ x)).map zo)).length=j:=by simp
   have ee:((List.replicate (j+1) (xJ x)).map zo)=((List.replicate j (xJ x)).map zo)++[zo (xJ x)]:=by rw [List.replicate_succ',List.map_append];rfl
   conv=>whnf
   (refine ⟨fun _=>?_,fun h=>absurd h (by simp;omega)⟩);refine dd ?_
   refine ⟨_,_,(fs).frame rfl _,?_⟩;refine dd ?_
   (repeat ((first | apply ya | apply yb);refine dd ?_))
   refine ⟨rfl,.inr rfl,by rw [hle];simp [maxLen];omega,by rw [hle];show (j+1) * 40<=_;omega,?_⟩
   refine dd ?_
   refine .inl ⟨rfl,?_,trivial⟩
   rw [zC (by omega),ee]
   exact cE 7
  ·(conv=>whnf);(refine ⟨fun h=>absurd h (by simp),fun _=>?_⟩);refine dd ?_;(refine ⟨by simp,?_⟩);(conv=>whnf)
   refine ⟨rfl,.inr rfl,by rw [hlg];simp [maxLen];omega,by rw [hlg];show (k+1) * 32<=_;omega,?_⟩
   refine dd ?_
   refine .inl ⟨rfl,?_,trivial⟩
   rw [zC (by omega),eg]
   exact cE 4
 ·(conv=>whnf);(refine ⟨fun h=>absurd h (by simp),fun _=>?_⟩);refine dd ?_;(refine ⟨by simp,?_⟩);(conv=>whnf)
  rw [List.take_length]
  exact ⟨.inl rfl,_,.refl _,rfl⟩
def vr (n:Int):List (List Int) × Int:=if n < 1∨8 < n then ([],1) else (List.replicate n.toNat [0,0,0,0,0,0],0)
abbrev tC0 (r:List (List Int) × Int):C:=.tup [lCo r.1,I r.2]
def kK (c:List (List Int)):Bool:=c.all (fun r=>r.length == 6) && decide (1<=c.length) && decide (c.length<=8)
theorem zhP {rows:List (List C)} (h:(rows.all fun r=>r.all fun c=>qM c && zA c)=true):∀ r ∈ rows,∀ c ∈ r,qM c=true∧zA c=true:=fun r hr c hc=>by
 have:=List.all_eq_true.1 (List.all_eq_true.1 h r hr) c hc
 simpa using this
theorem shut_map {α:Type} {enc:α->List C} (h:∀ x,(enc x).all (fun c=>qM c && zA c)=true) (l:List α):∀ r ∈ l.map enc,∀ c ∈ r,qM c=true∧zA c=true:=
 zhP (by rw [List.all_map];exact List.all_eq_true.2 fun x _=>h x)
theorem j9 {n ty sz fz:Nat} {rows:List (List C)} (h:∀ r ∈ rows,∀ c ∈ r,qO n 9 c=true):qz n [⟨1,ty,sz,rows,fz⟩]=true:=by
 unfold qz
 simp only [List.all_cons,List.all_nil,Bool.and_true]
 simp
 exact h
theorem znT {α:Type} (a b:α) {k n:Nat} (h:k < n):(List.replicate k a++List.replicate (n - k) b).set k a=List.replicate (k+1) a++List.replicate (n - (k+1)) b:=by
 rw [List.set_append_right _ _ (by simp)]
 have e:n - k=(n - (k+1))+1:=by omega
 simp only [List.length_replicate,Nat.sub_self]
 rw [e,List.replicate_succ,List.set_cons_zero,List.replicate_succ',List.append_assoc]
 rfl
theorem znS {α:Type} (a b:α) {k n:Nat} (h:k < n):(List.replicate k a++List.replicate (n - k) b)[k]?= some b:=by
 rw [List.getElem?_append_right (by simp)]
 simp only [List.length_replicate,Nat.sub_self]
 have e:n - k=(n - (k+1))+1:=by omega
 rw [e,List.replicate_succ]
 rfl
theorem zep (n:Int):zb Tryz.prog 61 [] [I n] (tC0 (vr n)) []:=by
 refine zb.zp (fn:=Tryz.f61) Tryz.func61 rfl ?_
 conv=>whnf
 refine ⟨fun h1=>?_,fun h1=>?_⟩
 ·have e:vr n=([],1):=by unfold vr;rw [if_pos (by simp at h1;omega)]
  rw [e]
  refine dd ?_
  (repeat ((first | apply ya | apply yb);refine dd ?_))
  exact ⟨.inl rfl,_,zt.cell 2 rfl (WC.nil 0 1),rfl⟩
 refine dd ?_
 refine ⟨fun h2=>?_,fun h2=>?_⟩
 ·have e:vr n=([],1):=by unfold vr;rw [if_pos (by simp at h2;omega)]
  rw [e]
  refine dd ?_
  (repeat ((first | apply ya | apply yb);refine dd ?_))
  exact ⟨.inl rfl,_,zt.cell 2 rfl (WC.nil 0 1),rfl⟩
 have b1:1<=n∧n<=8:=by simp at h1 h2;omega
 have e:vr n=(List.replicate n.toNat [0,0,0,0,0,0],0):=by unfold vr;rw [if_neg (by omega)]
 rw [e]
 refine dd ?_
 refine ⟨rfl,by omega,by show (24:Int) * n<=_;omega,by omega,?_⟩
 refine dd ?_
 refine qa.seq n.toNat (fun k=>[I n,.za,.lst 1 0 [],I 0,.sl 0 [] 1 0 n.toNat false,.za,.za,.za,.za,.za,.za,.za,.za,.za,.za,I n.toNat,I k,.za,.za,.za,.za,.za,.za,.za,.za]) (fun k=>[⟨1,0,1,(List.replicate k [lU [0,0,0,0,0,0]]++List.replicate (n.toNat - k) [C.lst 1 0 []]),0⟩]) (fun k=>True) ?_ trivial (fun k hk hr=>?_) (fun hr=>?_)
 ·refine zt.trans (zt.zhn 0 rfl (by intro r hr c hc;rw [List.eq_of_mem_replicate hr] at hc;rw [List.mem_singleton.1 hc];rfl)) ?_
  exact cC
 ·conv=>whnf
  (refine ⟨fun _=>?_,fun h=>absurd h (by simp;omega)⟩);refine dd ?_
  refine ⟨rfl,by decide,by show (8:Int) * 6<=_;decide,by decide,?_⟩
  refine dd ?_
  refine ⟨by omega,by simp;omega,?_⟩
  refine dd ?_
  have e1:0+(k:Int).toNat=k:=by simp
  rw [e1]
  refine ⟨_,znS _ _ hk,rfl,?_⟩
  refine dd ?_
  refine .inl ⟨rfl,?_,trivial⟩
  refine zt.trans (zt.zS 0 k 0 (r:=[.sl 1 [] 1 0 6 false]) rfl (by rw [List.getElem?_set,if_pos rfl,if_pos (by simp;omega)];rfl) rfl rfl (.inr rfl) rfl rfl ?_ ?_) ?_
  ·exact zhP (rows:=List.replicate 6 [U 0]) rfl
  ·intro r hr c hc
   rcases List.mem_or_eq_of_mem_set hr with hr | rfl
   ·rcases List.mem_append.1 hr with hr | hr <;> (rw [List.eq_of_mem_replicate hr] at hc;rw [List.mem_singleton.1 hc];rfl)
   ·rw [List.mem_singleton.1 hc];rfl
  ·have e3:(List.replicate k [lU [0,0,0,0,0,0]]++List.replicate (n.toNat - k) [C.lst 1 0 []]).set k [lU [0,0,0,0,0,0]]=(List.replicate (k+1) [lU [0,0,0,0,0,0]]++List.replicate (n.toNat - (k+1)) [C.lst 1 0 []]):=znT _ _ hk
   rw [List.set_set,<- e3,zC (by omega)]
   refine zt.xW 1 (by (conv=>whnf);(repeat (refine ⟨rfl,?_⟩;(conv=>whnf)));exact trivial) rfl rfl rfl (j9 (rows:=(List.replicate k [lU [0,0,0,0,0,0]]++List.replicate (n.toNat - k) [C.lst 1 0 []]).set k [lU [0,0,0,0,0,0]]) fun r hr c hc=>?_) rfl
   rw [e3] at hr
   rcases List.mem_append.1 hr with hr | hr <;> (rw [List.eq_of_mem_replicate hr] at hc;rw [List.mem_singleton.1 hc];rfl)
 ·(conv=>whnf);(refine ⟨fun h=>absurd h (by simp),fun _=>?_⟩);refine dd ?_;(refine ⟨by simp,?_⟩);(conv=>whnf)
  have e4:(List.replicate n.toNat [(0:Int),0,0,0,0,0]).map zJ=(List.replicate n.toNat [lU [0,0,0,0,0,0]]++List.replicate (n.toNat - n.toNat) [C.lst 1 0 []]):=by rw [List.map_replicate,Nat.sub_self,List.replicate_zero,List.append_nil];rfl
  have sh:∀ r ∈ (List.replicate n.toNat [lU [0,0,0,0,0,0]]++List.replicate (n.toNat - n.toNat) [C.lst 1 0 []]),∀ c ∈ r,qM c=true∧zA c=true:=by
   rw [Nat.sub_self,List.replicate_zero,List.append_nil]
   intro r hr c hc
   rw [List.eq_of_mem_replicate hr] at hc
   rw [List.mem_singleton.1 hc]
   exact ⟨rfl,rfl⟩
  refine ⟨.inl rfl,_,zt.za9 2 rfl rfl (.inl rfl) (by simp) sh,?_⟩
  rw [<- e4]
  rfl
theorem ze0 (c:List (List Int)) (hc:c.length < 4000000000000000000):zb Tryz.prog 49 [] [lCo c] (Bo (kK c)) []:=by
 have m1:(c.map zJ).length=c.length:=List.length_map ..
 refine zb.zp (fn:=Tryz.f49) Tryz.func49 rfl ?_
 conv=>whnf
 rw [m1]
 refine qa.seq c.length (fun k=>[lCo c,.za,Bo false,.za,.za,lCo c,I c.length,I k,.za,.za,.za,.za,.za,.za,.za,.za,.za,.za,.za,.za,.za,.za,.za]) (fun k=>[]) (fun k=>∀ j,(h:j < c.length)->j < k->(c[j].length == 6)=true) ?_ (by simp) (fun k hk hr=>?_) (fun hr=>?_)
 ·exact cC
 ·obtain ⟨x,hx⟩:∃ x,x=c[k]:=⟨_,rfl⟩
  have hg:(c.map zJ)[k]?= some (zJ x):=by rw [List.getElem?_map,List.getElem?_eq_getElem hk,hx];rfl
  have mx:(x.map qY).length=x.length:=List.length_map ..
  conv=>whnf
  (refine ⟨fun _=>?_,fun h=>absurd h (by simp;omega)⟩);refine dd ?_
  (refine ⟨by omega,_,by rw [toNat_cast];exact hg,?_⟩);refine dd ?_
  rw [mx]
  refine ⟨fun h1=>?_,fun h1=>?_⟩
  ·have hf:c.all (fun r=>r.length == 6)=false:=by
    rw [List.all_eq_false]
    exact ⟨x,by rw [hx];exact List.getElem_mem hk,by simp at h1 ⊢;omega⟩
   have e:kK c=false:=by unfold kK;rw [hf];rfl
   rw [e]
   refine dd ?_
   (refine .inr ⟨by simp,?_⟩);(conv=>whnf)
   exact ⟨.inl rfl,_,.refl _,rfl⟩
  ·refine dd ?_
   refine .inl ⟨rfl,?_,fun j hj hjk=>?_⟩
   ·rw [zC (by omega)]
    exact cE 0
   ·by_cases e:j=k
    ·subst e;rw [<- hx];simp at h1 ⊢;omega
    ·exact hr j hj (by omega)
 ·have ht:c.all (fun r=>r.length == 6)=true:=by
   rw [List.all_eq_true]
   intro r hr'
   obtain ⟨j,hj,rfl⟩:=List.mem_iff_getElem.1 hr'
   exact hr j hj hj
  have e:kK c=(decide (1<=c.length) && decide (c.length<=8)):=by unfold kK;rw [ht];rfl
  rw [e]
  (conv=>whnf);(refine ⟨fun h=>absurd h (by simp),fun _=>?_⟩);refine dd ?_;(refine ⟨by simp,?_⟩);(conv=>whnf)
  rw [m1]
  refine ⟨fun h1=>?_,fun h1=>?_⟩
  ·refine dd ?_
   rw [m1]
   refine ⟨fun h2=>?_,fun h2=>?_⟩
   ·refine dd ?_
    (repeat ((first | apply ya | apply yb);refine dd ?_))
    (exact ⟨.inl rfl,_,.refl _,congrArg (fun b=>some (C.v (Value.bool b))) (by symm;simp at h1 h2 ⊢;omega)⟩)
   ·refine dd ?_
    (repeat ((first | apply ya | apply yb);refine dd ?_))
    (exact ⟨.inl rfl,_,.refl _,congrArg (fun b=>some (C.v (Value.bool b))) (by symm;simp at h1 h2 ⊢;omega)⟩)
  ·refine dd ?_
   (repeat ((first | apply ya | apply yb);refine dd ?_))
   (exact ⟨.inl rfl,_,.refl _,congrArg (fun b=>some (C.v (Value.bool b))) (by symm;simp at h1 ⊢;omega)⟩)
end Go.Wor
namespace Go.Wor
open Go.Ab Go.Proofs Go.Hy Go.Gat Go.Nam Go.Hos Go.Con Go.Sna
open Go.Slp (yJ wt)
abbrev Cw (w:Wor):C:=.agg (zQ w)
abbrev tW (r:Wor × Int):C:=.tup [Cw r.1,I r.2]
abbrev zhx:Wor:=⟨0,0,0,[],[],[],[],[]⟩
def zay (s:Str):Lis:=⟨s,false,0,false⟩
def zd3 (l:List Str) (i:Nat):Bool:=match l[i]? with
 | some s=>j0 s && decide (qd ((l.take i).map zay) s < 0)
 | none=>true
def zbg (l:List Str):Bool:=(List.range l.length).all (zd3 l)
def zd4 (s:Sna) (l:List Str) (n:Int):Wor × Int:=
 if yR s=false∨n < 1∨8 < n∨zbg l=false then (zhx,1)
 else (⟨0,0,0,List.replicate n.toNat 0,[(q7 s).1],l.map zay,List.replicate n.toNat [0,0,0,0,0,0],[]⟩,0)
theorem zkW (s:Sna) (l:List Str) (n:Int) (hs:vb s) (hl:l.length < 1000000000∧∀ x ∈ l,x.length < 4000000000000000000):zb Tryz.prog 44 [] [Cs s,lT l,I n] (tW (zd4 s l n)) []:=by
 have m1:(l.map yT).length=l.length:=List.length_map ..
 have cs:=zcl s hs
 refine zb.zp (fn:=Tryz.f44) Tryz.func44 rfl ?_
 conv=>whnf
 by_cases h0:yR s=true
 rotate_left
 ·have e:zd4 s l n=(zhx,1):=by unfold zd4;rw [if_pos (.inl (by simpa using h0))]
  have e2:q7 s=(zj3,1):=by unfold q7;rw [if_neg h0]
  rw [e2] at cs
  have cs:zb Tryz.prog 60 [] [Cs s] (.tup [Cv zj3,I 1]) []:=cs
  rw [e]
  refine ⟨_,_,(cs).frame rfl _,?_⟩;refine dd ?_
  (repeat ((first | apply ya | apply yb);refine dd ?_))
  exact ⟨.inl rfl,_,zt.var 1 rfl rfl rfl (.cons (.refl _) (.cons (.refl _) (.cons (.refl _) (.cons (WC.nil 0 1) (.cons (WC.nil 0 5) (.cons (WC.nil 0 4) (.cons (WC.nil 0 1) (.cons (WC.nil 0 3) .nil)))))))),rfl⟩
 have e2:q7 s=((q7 s).1,0):=by unfold q7;rw [if_pos h0]
 rw [e2] at cs
 have cs:zb Tryz.prog 60 [] [Cs s] (.tup [Cv (q7 s).1,I 0]) []:=cs
 have hn:=zep n
 refine ⟨_,_,(cs).frame rfl _,?_⟩;refine dd ?_
 (repeat ((first | apply ya | apply yb);refine dd ?_))
 by_cases h1:n < 1∨8 < n
 ·have e:zd4 s l n=(zhx,1):=by unfold zd4;rw [if_pos (by omega)]
  have e3:vr n=([],1):=by unfold vr;rw [if_pos h1]
  rw [e3] at hn
  have hn:zb Tryz.prog 61 [] [I n] (.tup [lCo [],I 1]) []:=hn
  rw [e]
  refine ⟨_,_,(hn).frame rfl _,?_⟩;refine dd ?_
  (repeat ((first | apply ya | apply yb);refine dd ?_))
  exact ⟨.inl rfl,_,zt.var 1 rfl rfl rfl (.cons (.refl _) (.cons (.refl _) (.cons (.refl _) (.cons (WC.nil 0 1) (.cons (WC.nil 0 5) (.cons (WC.nil 0 4) (.cons (WC.nil 0 1) (.cons (WC.nil 0 3) .nil)))))))),rfl⟩
 have e3:vr n=(List.replicate n.toNat [0,0,0,0,0,0],0):=by unfold vr;rw [if_neg h1]
 rw [e3] at hn
 have hn:zb Tryz.prog 61 [] [I n] (.tup [lCo (List.replicate n.toNat [0,0,0,0,0,0]),I 0]) []:=hn
 refine ⟨_,_,(hn).frame rfl _,?_⟩;refine dd ?_
 (repeat ((first | apply ya | apply yb);refine dd ?_))
 refine .inl ⟨⟨false,[0,3],[2],[]⟩,by kernel_rfl,?_⟩;(conv=>whnf)
 refine ⟨rfl,by omega,by show (8:Int) * n<=_;omega,by omega,?_⟩
 refine dd ?_
 repeat (refine ⟨rfl,?_⟩;conv=>whnf)
 rw [m1]
 have hb:zbg l=false->zd4 s l n=(zhx,1):=fun h=>by unfold zd4;rw [if_pos (.inr (.inr (.inr h)))]
 refine qa.seq l.length (fun k=>[.za,.za,.za,.ref 0 [] 3 0 0,.za,.za,.ref 1 [] 8 0 0,I 0,.za,.za,.za,.ref 3 [] 8 0 0,.za,.za,.za,.za,.za,.za,.za,.za,.za,.za,.za,.za,.za,.za,.za,.za,.za,.za,.za,.za,.za,.za,.za,.za,.za,.za,lT l,I l.length,I k,.za,.za,.za,.za,.za,.za,.za,.za,.za,.za,.za,.za,.za,.za,.za,.za,.za,.za,.za,.za,.za,.za,.za]) (fun k=>[⟨1,68,3,[zL s],0⟩,⟨1,48,8,[[I 0,I 0,I 0,.lst 1 0 [],.lst 1 0 [],.lst 1 0 [],.lst 1 0 [],.lst 1 0 []]],0⟩,⟨1,71,5,[zx (q7 s).1],0⟩,⟨1,48,8,[[I 0,I 0,I 0,.lst 0 1 (List.replicate n.toNat [I 0]),.lst 1 5 [zx (q7 s).1],.gl 4 4 (((l.take k).map zay).map ql),lCo (List.replicate n.toNat [0,0,0,0,0,0]),.lst 1 0 []]],0⟩,⟨4,77,4,((l.take k).map zay).map ql,0⟩]) (fun k=>∀ j,j < k->zd3 l j=true) ?_ (by simp) (fun k hk hr=>?_) (fun hr=>?_)
 ·refine zt.trans (zt.zdL 3 5 77 4 rfl rfl (.inl rfl) rfl rfl) ?_
  exact cC
 ·obtain ⟨x,hx⟩:∃ x,x=l[k]:=⟨_,rfl⟩
  have hx2:l[k]?= some x:=by rw [List.getElem?_eq_getElem hk,hx]
  have hg:(l.map yT)[k]?= some (yT x):=by rw [List.getElem?_map,hx2];rfl
  have hxm:x ∈ l:=by rw [hx];exact List.getElem_mem hk
  have hno:zd3 l k=(j0 x && decide (qd ((l.take k).map zay) x < 0)):=by unfold zd3;rw [hx2]
  have bad:zd3 l k=false->zd4 s l n=(zhx,1):=fun h=>hb (by unfold zbg;rw [List.all_eq_false];exact ⟨k,by simpa using hk,by simp [h]⟩)
  have hlg:(((l.take k).map zay).map ql).length=k:=by simp;omega
  have eg:((l.take (k+1)).map zay).map ql=((l.take k).map zay).map ql++[ql (zay x)]:=by rw [List.take_succ_eq_append_getElem hk,<- hx];simp
  conv=>whnf
  (refine ⟨fun _=>?_,fun h=>absurd h (by simp;omega)⟩);refine dd ?_
  (refine ⟨by omega,_,by rw [toNat_cast];exact hg,?_⟩);refine dd ?_
  refine ⟨_,_,(xm x (by have:=hl.2 x hxm;omega)).frame rfl _,?_⟩;refine dd ?_
  refine ⟨fun h2=>?_,fun h2=>?_⟩
  rotate_left
  ·rw [bad (by rw [hno,h2];rfl)]
   refine dd ?_
   (repeat ((first | apply ya | apply yb);refine dd ?_))
   (refine .inr ⟨by simp,?_⟩);(conv=>whnf)
   exact ⟨.inl rfl,_,zt.var 1 rfl rfl rfl (.cons (.refl _) (.cons (.refl _) (.cons (.refl _) (.cons (WC.nil 0 1) (.cons (WC.nil 0 5) (.cons (WC.nil 0 4) (.cons (WC.nil 0 1) (.cons (WC.nil 0 3) .nil)))))))),rfl⟩
  refine dd ?_
  refine ⟨_,_,(vG ((l.take k).map zay) x (by simp;omega)).frame rfl _,?_⟩;refine dd ?_
  refine ⟨fun h3=>?_,fun h3=>?_⟩
  ·rw [bad (by rw [hno,show decide (qd ((l.take k).map zay) x < 0)=false from by simp at h3 ⊢;omega,Bool.and_false])]
   refine dd ?_
   (repeat ((first | apply ya | apply yb);refine dd ?_))
   (refine .inr ⟨by simp,?_⟩);(conv=>whnf)
   exact ⟨.inl rfl,_,zt.var 1 rfl rfl rfl (.cons (.refl _) (.cons (.refl _) (.cons (.refl _) (.cons (WC.nil 0 1) (.cons (WC.nil 0 5) (.cons (WC.nil 0 4) (.cons (WC.nil 0 1) (.cons (WC.nil 0 3) .nil)))))))),rfl⟩
  refine dd ?_
  (repeat ((first | apply ya | apply yb);refine dd ?_))
  refine ⟨rfl,.inr rfl,by rw [hlg];simp [maxLen];omega,by rw [hlg];show (k+1) * 40<=_;omega,?_⟩
  refine dd ?_
  refine .inl ⟨rfl,?_,fun j hj=>?_⟩
  ·rw [zC (by omega),eg]
   exact cE 5
  ·by_cases e:j=k
   ·subst e
    rw [hno,h2]
    simp at h3 ⊢
    omega
   ·exact hr j (by omega)
 ·have z7:zbg l=true:=by
   unfold zbg
   rw [List.all_eq_true]
   intro i hi
   exact hr i (by simpa using hi)
  have e:zd4 s l n=(⟨0,0,0,List.replicate n.toNat 0,[(q7 s).1],l.map zay,List.replicate n.toNat [0,0,0,0,0,0],[]⟩,0):=by unfold zd4;rw [if_neg (by simp only [h0,z7];simp;omega)]
  rw [e]
  (conv=>whnf);(refine ⟨fun h=>absurd h (by simp),fun _=>?_⟩);refine dd ?_;(refine ⟨by simp,?_⟩);(conv=>whnf)
  rw [List.take_length]
  refine ⟨.inl rfl,_,zt.var 1 rfl rfl rfl (.cons (.refl _) (.cons (.refl _) (.cons (.refl _) (.cons (.refl _) (.cons (WC.share 1 5 _) (.cons (.refl _) (.cons (.refl _) (.cons (WC.nil 0 3) .nil)))))))),?_⟩
  have e9:zQ ⟨0,0,0,List.replicate n.toNat 0,[(q7 s).1],l.map zay,List.replicate n.toNat [0,0,0,0,0,0],[]⟩=[I 0,I 0,I 0,.lst 0 1 (List.replicate n.toNat [I 0]),.lst 0 5 [zx (q7 s).1],lL (l.map zay),lCo (List.replicate n.toNat [0,0,0,0,0,0]),.lst 0 3 []]:=by
   have e8:(List.replicate n.toNat (0:Int)).map encI=List.replicate n.toNat [I 0]:=List.map_replicate
   show [I 0,I 0,I 0,C.lst 0 1 ((List.replicate n.toNat (0:Int)).map encI),_,_,_,_]=_
   rw [e8]
   rfl
  show _=some (C.tup [C.agg (zQ ⟨0,0,0,List.replicate n.toNat 0,[(q7 s).1],l.map zay,List.replicate n.toNat [0,0,0,0,0,0],[]⟩),I 0])
  rw [e9]
  rfl
end Go.Wor
namespace Go.Wor
open Go.Ab Go.Proofs Go.Hy Go.Gat Go.Nam Go.Hos Go.Con Go.Sna
theorem jn {F:List (List C)} {z:List C} {k n:Nat} (hF:F.length=n) (h:k < n):(F.take k++(List.replicate n z).drop k)[k]?= some z:=by
 rw [List.getElem?_append_right (by simp;omega),List.length_take,List.getElem?_drop,List.getElem?_replicate,if_pos (by omega)]
theorem qD {F:List (List C)} {x z:List C} {k n:Nat} (hx:F[k]?= some x) (hn:k < n):(F.take k++(List.replicate n z).drop k).set k x=F.take (k+1)++(List.replicate n z).drop (k+1):=by
 obtain ⟨hk,rfl⟩:=List.getElem?_eq_some_iff.1 hx
 have e1:(F.take k).length=k:=by simp;omega
 rw [List.set_append_right _ _ (by omega),e1,Nat.sub_self,List.drop_replicate,List.drop_replicate,List.take_succ_eq_append_getElem hk,List.append_assoc]
 have e2:n - k=(n - (k+1))+1:=by omega
 rw [e2,List.replicate_succ]
 rfl
theorem xS {F:List (List C)} {z:List C} {n:Nat} (hF:F.length=n):F.take n++(List.replicate n z).drop n=F:=by
 rw [List.take_of_length_le (by omega),List.drop_of_length_le (by simp),List.append_nil]
theorem zg3 (x:Int) (l:List Int) (hl:l.length < 1000000000):zb Tryz.prog 126 [] [lI (x::l)] (.sl 0 [] 1 0 (x::l).length false) [⟨2,3,1,(x::l).map encI,0⟩]:=by
 have e:0+((l.map encI).length+1)=(x::l).length:=by simp
 rw [<- e]
 refine zb.zZ (fn:=Tryz.f126) Tryz.func126 rfl ?_
 conv=>whnf
 refine ⟨by simp,?_⟩
 conv=>whnf
 refine .inr ⟨.inl rfl,by simp [maxLen];omega,by show _ * 8<=_;simp;omega,?_⟩
 conv=>whnf
 exact ⟨.inl rfl,_,.refl _,rfl,rfl⟩
theorem xX (l:List Int) (hl:l.length < 1000000000):zb Tryz.prog 126 [] [lI l] (lI l) []:=by
 cases l with
 | nil=>
  refine zb.zp (fn:=Tryz.f126) Tryz.func126 rfl ?_
  conv=>whnf
  refine ⟨?_,?_⟩
  ·refine dd ?_
   exact ⟨.inl rfl,_,zt.cell 2 rfl (WC.nil 0 1),rfl⟩
  ·refine dd ?_
   refine .inr ⟨rfl,?_⟩
   refine dd ?_
   exact ⟨.inl rfl,_,zt.cell 2 rfl ((WC.none 1 1 1).trans (WC.share 1 1 [])),rfl⟩
 | cons x l=>
  have hl3:l.length+1 < 1000000000:=by simpa using hl
  refine zb.zp (fn:=Tryz.f126) Tryz.func126 rfl ?_
  conv=>whnf
  refine ⟨by simp,?_⟩
  conv=>whnf
  refine .inr ⟨.inl rfl,by simp [maxLen];omega,by show _ * 8<=_;simp;omega,?_⟩
  conv=>whnf
  exact ⟨.inl rfl,_,zt.za9 2 rfl rfl (.inr rfl) (by simp) (shut_map (fun _=>rfl) (x::l)),rfl⟩
theorem zlV (x:Int) (l:List Int) (hl:l.length < 1000000000):zb Tryz.prog 164 [] [lU (x::l)] (.sl 0 [] 1 0 (x::l).length false) [⟨2,32,1,(x::l).map qY,0⟩]:=by
 have e:0+((l.map qY).length+1)=(x::l).length:=by simp
 rw [<- e]
 refine zb.zZ (fn:=Tryz.f164) Tryz.func164 rfl ?_
 conv=>whnf
 refine ⟨by simp,?_⟩
 conv=>whnf
 refine .inr ⟨.inl rfl,by simp [maxLen];omega,by show _ * 8<=_;simp;omega,?_⟩
 conv=>whnf
 exact ⟨.inl rfl,_,.refl _,rfl,rfl⟩
theorem zlW (l:List Int) (hl:l.length < 1000000000):zb Tryz.prog 164 [] [lU l] (lU l) []:=by
 cases l with
 | nil=>
  refine zb.zp (fn:=Tryz.f164) Tryz.func164 rfl ?_
  conv=>whnf
  refine ⟨?_,?_⟩
  ·refine dd ?_
   exact ⟨.inl rfl,_,zt.cell 2 rfl (WC.nil 0 1),rfl⟩
  ·refine dd ?_
   refine .inr ⟨rfl,?_⟩
   refine dd ?_
   exact ⟨.inl rfl,_,zt.cell 2 rfl ((WC.none 1 1 1).trans (WC.share 1 1 [])),rfl⟩
 | cons x l=>
  have hl3:l.length+1 < 1000000000:=by simpa using hl
  refine zb.zp (fn:=Tryz.f164) Tryz.func164 rfl ?_
  conv=>whnf
  refine ⟨by simp,?_⟩
  conv=>whnf
  refine .inr ⟨.inl rfl,by simp [maxLen];omega,by show _ * 8<=_;simp;omega,?_⟩
  conv=>whnf
  exact ⟨.inl rfl,_,zt.za9 2 rfl rfl (.inr rfl) (by simp) (shut_map (fun _=>rfl) (x::l)),rfl⟩
theorem zlU (x:Lis) (l:List Lis) (hl:l.length < 1000000000):zb Tryz.prog 129 [] [lL (x::l)] (.sl 0 [] 4 0 (x::l).length false) [⟨2,77,4,(x::l).map ql,0⟩]:=by
 have e:0+((l.map ql).length+1)=(x::l).length:=by simp
 rw [<- e]
 refine zb.zZ (fn:=Tryz.f129) Tryz.func129 rfl ?_
 conv=>whnf
 refine ⟨by simp,?_⟩
 conv=>whnf
 refine .inr ⟨.inl rfl,by simp [maxLen];omega,by show _ * 40<=_;simp;omega,?_⟩
 conv=>whnf
 exact ⟨.inl rfl,_,.refl _,rfl,rfl⟩
theorem yy (l:List Lis) (hl:l.length < 1000000000):zb Tryz.prog 129 [] [lL l] (lL l) []:=by
 cases l with
 | nil=>
  refine zb.zp (fn:=Tryz.f129) Tryz.func129 rfl ?_
  conv=>whnf
  refine ⟨?_,?_⟩
  ·refine dd ?_
   exact ⟨.inl rfl,_,zt.cell 2 rfl (WC.nil 0 4),rfl⟩
  ·refine dd ?_
   refine .inr ⟨rfl,?_⟩
   refine dd ?_
   exact ⟨.inl rfl,_,zt.cell 2 rfl ((WC.none 1 4 4).trans (WC.share 1 4 [])),rfl⟩
 | cons x l=>
  have hl3:l.length+1 < 1000000000:=by simpa using hl
  refine zb.zp (fn:=Tryz.f129) Tryz.func129 rfl ?_
  conv=>whnf
  refine ⟨by simp,?_⟩
  conv=>whnf
  refine .inr ⟨.inl rfl,by simp [maxLen];omega,by show _ * 40<=_;simp;omega,?_⟩
  conv=>whnf
  exact ⟨.inl rfl,_,zt.za9 2 rfl rfl (.inr rfl) (by simp) (shut_map (fun _=>rfl) (x::l)),rfl⟩
theorem zg4 (x:Ret) (l:List Ret) (hl:l.length < 1000000000):zb Tryz.prog 132 [] [lR (x::l)] (.sl 0 [] 3 0 (x::l).length false) [⟨2,96,3,(x::l).map jx,0⟩]:=by
 have e:0+((l.map jx).length+1)=(x::l).length:=by simp
 rw [<- e]
 refine zb.zZ (fn:=Tryz.f132) Tryz.func132 rfl ?_
 conv=>whnf
 refine ⟨by simp,?_⟩
 conv=>whnf
 refine .inr ⟨.inl rfl,by simp [maxLen];omega,by show _ * 24<=_;simp;omega,?_⟩
 conv=>whnf
 exact ⟨.inl rfl,_,.refl _,rfl,rfl⟩
theorem vR (l:List Ret) (hl:l.length < 1000000000):zb Tryz.prog 132 [] [lR l] (lR l) []:=by
 cases l with
 | nil=>
  refine zb.zp (fn:=Tryz.f132) Tryz.func132 rfl ?_
  conv=>whnf
  refine ⟨?_,?_⟩
  ·refine dd ?_
   exact ⟨.inl rfl,_,zt.cell 2 rfl (WC.nil 0 3),rfl⟩
  ·refine dd ?_
   refine .inr ⟨rfl,?_⟩
   refine dd ?_
   exact ⟨.inl rfl,_,zt.cell 2 rfl ((WC.none 1 3 3).trans (WC.share 1 3 [])),rfl⟩
 | cons x l=>
  have hl3:l.length+1 < 1000000000:=by simpa using hl
  refine zb.zp (fn:=Tryz.f132) Tryz.func132 rfl ?_
  conv=>whnf
  refine ⟨by simp,?_⟩
  conv=>whnf
  refine .inr ⟨.inl rfl,by simp [maxLen];omega,by show _ * 24<=_;simp;omega,?_⟩
  conv=>whnf
  exact ⟨.inl rfl,_,zt.za9 2 rfl rfl (.inr rfl) (by simp) (shut_map (fun _=>rfl) (x::l)),rfl⟩
theorem zdx (e:En) (he:e.next.length < 1000000000):zb Tryz.prog 176 [] [.agg [],.agg (zo e)] (.agg (zo e)) []:=by
 refine zb.zp (fn:=Tryz.f176) Tryz.func176 rfl ?_
 conv=>whnf
 refine ⟨_,_,(xX e.next he).frame rfl _,?_⟩;refine dd ?_
 exact ⟨.inl rfl,_,.refl _,rfl⟩
theorem znj (l:List En) (hl:l.length < 1000000000) (hp:∀ x ∈ l,zb Tryz.prog 176 [] [.agg [],.agg (zo x)] (.agg (zo x)) []):zb Tryz.prog 175 [] [lE l,.fn 176 [] [],.agg []] (.sl 0 [] 3 0 l.length false) [⟨2,79,3,l.map zo,0⟩]:=by
 have m1:(l.map zo).length=l.length:=List.length_map ..
 refine zb.zZ (fn:=Tryz.f175) Tryz.func175 rfl ?_
 conv=>whnf
 rw [m1]
 refine ⟨rfl,by omega,by show (40:Int) * _<=_;omega,by omega,?_⟩
 refine dd ?_
 rw [m1,toNat_cast]
 refine qa.seq l.length (fun k=>[lE l,.fn 176 [] [],.za,.za,.za,.ref 0 [] 0 0 0,.lst 1 0 [],.sl 1 [] 3 0 l.length false,.za,.za,.za,.za,.za,lE l,I l.length,I k,.za,.za,.za,.za,.za,.za,.za,.za,.za,.za,.za,.za,.za]) (fun k=>[⟨1,187,0,[[]],0⟩,⟨2,79,3,(l.map zo).take k++(List.replicate l.length [U 0,.lst 1 0 [],I 0]).drop k,0⟩]) (fun k=>True) ?_ trivial (fun k hk hr=>?_) (fun hr=>?_)
 ·exact cC
 ·obtain ⟨x,hx⟩:∃ x,x=l[k]:=⟨_,rfl⟩
  have hx2:l[k]?= some x:=by rw [List.getElem?_eq_getElem hk,hx]
  have hg:(l.map zo)[k]?= some (zo x):=by rw [List.getElem?_map,hx2];rfl
  conv=>whnf
  (refine ⟨fun _=>?_,fun h=>absurd h (by simp;omega)⟩);refine dd ?_
  (refine ⟨by omega,_,by rw [toNat_cast];exact hg,?_⟩);refine dd ?_
  refine ⟨_,_,(hp x (by rw [hx];exact List.getElem_mem hk)).frame rfl _,?_⟩;refine dd ?_
  refine ⟨by omega,by simp;omega,?_⟩
  refine dd ?_
  have e1:0+(k:Int).toNat=k:=by simp
  rw [e1]
  refine ⟨_,jn (by simp) hk,rfl,?_⟩
  refine dd ?_
  refine .inl ⟨rfl,?_,trivial⟩
  have e2:=qD (z:=[U 0,.lst 1 0 [],I 0]) (n:=l.length) hg hk
  rw [zC (by omega),<- e2]
  exact cE 2
 ·(conv=>whnf);(refine ⟨fun h=>absurd h (by simp),fun _=>?_⟩);refine dd ?_;(refine ⟨by simp,?_⟩);(conv=>whnf)
  rw [xS (by simp)]
  exact ⟨.inl rfl,_,zt.ren [1] [6] _ _ rfl rfl rfl rfl,rfl,rfl⟩
theorem zY {r:List C} (h:r.all zA=true):∀ q ∈ [r],∀ c ∈ q,zA c=true:=fun q hq c hc=>by
 rw [List.mem_singleton.1 hq] at hc
 exact List.all_eq_true.1 h c hc
def zok (g:Gr):Prop:=g.ends.length < 1000000000∧∀ e ∈ g.ends,e.next.length < 1000000000
def zjT (v:Ver):Prop:=v.zf.length < 1000000000∧∀ g ∈ v.zf,zok g
structure qC (w:Wor):Prop where
 pins:w.pins.length < 1000000000
 zd:w.zd.length < 1000000000∧∀ v ∈ w.zd,zjT v
 ze:w.ze.length < 1000000000
 counts:w.counts.length < 1000000000∧∀ r ∈ w.counts,r.length < 1000000000
 zm:w.zm.length < 1000000000
theorem zbb (g:Gr) (hg:zok g):zb Tryz.prog 163 [] [.agg [],.agg (zw g)] (.agg (zw g)) []:=by
 refine zb.zp (fn:=Tryz.f163) Tryz.func163 rfl ?_
 conv=>whnf
 refine zr [] (znj g.ends hg.1 fun e he=>zdx e (hg.2 e he)) rfl rfl rfl rfl rfl rfl ?_;refine dd ?_
 exact ⟨.inl rfl,_,zt.zS 2 0 1 rfl rfl rfl rfl (.inr rfl) rfl (by simp) (shut_map (enc:=zo) (fun _=>rfl) g.ends) (zY rfl),rfl⟩
theorem znl (l:List Gr) (hl:l.length < 1000000000) (hp:∀ x ∈ l,zb Tryz.prog 163 [] [.agg [],.agg (zw x)] (.agg (zw x)) []):zb Tryz.prog 162 [] [lG l,.fn 163 [] [],.agg []] (.sl 0 [] 2 0 l.length false) [⟨2,75,2,l.map zw,0⟩]:=by
 have m1:(l.map zw).length=l.length:=List.length_map ..
 refine zb.zZ (fn:=Tryz.f162) Tryz.func162 rfl ?_
 conv=>whnf
 rw [m1]
 refine ⟨rfl,by omega,by show (32:Int) * _<=_;omega,by omega,?_⟩
 refine dd ?_
 rw [m1,toNat_cast]
 refine qa.seq l.length (fun k=>[lG l,.fn 163 [] [],.za,.za,.za,.ref 0 [] 0 0 0,.lst 1 0 [],.sl 1 [] 2 0 l.length false,.za,.za,.za,.za,.za,lG l,I l.length,I k,.za,.za,.za,.za,.za,.za,.za,.za,.za,.za,.za,.za,.za]) (fun k=>[⟨1,187,0,[[]],0⟩,⟨2,75,2,(l.map zw).take k++(List.replicate l.length ([U 0,.lst 1 0 []]:List C)).drop k,0⟩]) (fun k=>True) ?_ trivial (fun k hk hr=>?_) (fun hr=>?_)
 ·exact cC
 ·obtain ⟨x,hx⟩:∃ x,x=l[k]:=⟨_,rfl⟩
  have hx2:l[k]?= some x:=by rw [List.getElem?_eq_getElem hk,hx]
  have hg:(l.map zw)[k]?= some (zw x):=by rw [List.getElem?_map,hx2];rfl
  conv=>whnf
  (refine ⟨fun _=>?_,fun h=>absurd h (by simp;omega)⟩);refine dd ?_
  (refine ⟨by omega,_,by rw [toNat_cast];exact hg,?_⟩);refine dd ?_
  refine ⟨_,_,(hp x (by rw [hx];exact List.getElem_mem hk)).frame rfl _,?_⟩;refine dd ?_
  refine ⟨by omega,by simp;omega,?_⟩
  refine dd ?_
  have e1:0+(k:Int).toNat=k:=by simp
  rw [e1]
  refine ⟨_,jn (by simp) hk,rfl,?_⟩
  refine dd ?_
  refine .inl ⟨rfl,?_,trivial⟩
  have e2:=qD (z:=([U 0,.lst 1 0 []]:List C)) (n:=l.length) hg hk
  rw [zC (by omega),<- e2]
  exact cE 2
 ·(conv=>whnf);(refine ⟨fun h=>absurd h (by simp),fun _=>?_⟩);refine dd ?_;(refine ⟨by simp,?_⟩);(conv=>whnf)
  rw [xS (by simp)]
  exact ⟨.inl rfl,_,zt.ren [1] [6] _ _ rfl rfl rfl rfl,rfl,rfl⟩
theorem ja (v:Ver) (hv:zjT v):zb Tryz.prog 128 [] [.agg [],.agg (zx v)] (.agg (zx v)) []:=by
 refine zb.zp (fn:=Tryz.f128) Tryz.func128 rfl ?_
 conv=>whnf
 refine zr [] (znl v.zf hv.1 fun g hg=>zbb g (hv.2 g hg)) rfl rfl rfl rfl rfl rfl ?_;refine dd ?_
 exact ⟨.inl rfl,_,zt.zS 2 0 3 rfl rfl rfl rfl (.inr rfl) rfl (by simp) (shut_map (enc:=zw) (fun _=>rfl) v.zf) (zY rfl),rfl⟩
theorem vC (l:List Ver) (hl:l.length < 1000000000) (hp:∀ x ∈ l,zb Tryz.prog 128 [] [.agg [],.agg (zx x)] (.agg (zx x)) []):zb Tryz.prog 127 [] [lV l,.fn 128 [] [],.agg []] (.sl 0 [] 5 0 l.length false) [⟨2,71,5,l.map zx,0⟩]:=by
 have m1:(l.map zx).length=l.length:=List.length_map ..
 refine zb.zZ (fn:=Tryz.f127) Tryz.func127 rfl ?_
 conv=>whnf
 rw [m1]
 refine ⟨rfl,by omega,by show (104:Int) * _<=_;omega,by omega,?_⟩
 refine dd ?_
 rw [m1,toNat_cast]
 refine qa.seq l.length (fun k=>[lV l,.fn 128 [] [],.za,.za,.za,.ref 0 [] 0 0 0,.lst 1 0 [],.sl 1 [] 5 0 l.length false,.za,.za,.za,.za,.za,lV l,I l.length,I k,.za,.za,.za,.za,.za,.za,.za,.za,.za,.za,.za,.za,.za]) (fun k=>[⟨1,187,0,[[]],0⟩,⟨2,71,5,(l.map zx).take k++(List.replicate l.length ([.lst 1 0 [],.lst 1 0 [],.lst 1 0 [],.lst 1 0 [],Bo false]:List C)).drop k,0⟩]) (fun k=>True) ?_ trivial (fun k hk hr=>?_) (fun hr=>?_)
 ·exact cC
 ·obtain ⟨x,hx⟩:∃ x,x=l[k]:=⟨_,rfl⟩
  have hx2:l[k]?= some x:=by rw [List.getElem?_eq_getElem hk,hx]
  have hg:(l.map zx)[k]?= some (zx x):=by rw [List.getElem?_map,hx2];rfl
  conv=>whnf
  (refine ⟨fun _=>?_,fun h=>absurd h (by simp;omega)⟩);refine dd ?_
  (refine ⟨by omega,_,by rw [toNat_cast];exact hg,?_⟩);refine dd ?_
  refine ⟨_,_,(hp x (by rw [hx];exact List.getElem_mem hk)).frame rfl _,?_⟩;refine dd ?_
  refine ⟨by omega,by simp;omega,?_⟩
  refine dd ?_
  have e1:0+(k:Int).toNat=k:=by simp
  rw [e1]
  refine ⟨_,jn (by simp) hk,rfl,?_⟩
  refine dd ?_
  refine .inl ⟨rfl,?_,trivial⟩
  have e2:=qD (z:=([.lst 1 0 [],.lst 1 0 [],.lst 1 0 [],.lst 1 0 [],Bo false]:List C)) (n:=l.length) hg hk
  rw [zC (by omega),<- e2]
  exact cE 2
 ·(conv=>whnf);(refine ⟨fun h=>absurd h (by simp),fun _=>?_⟩);refine dd ?_;(refine ⟨by simp,?_⟩);(conv=>whnf)
  rw [xS (by simp)]
  exact ⟨.inl rfl,_,zt.ren [1] [6] _ _ rfl rfl rfl rfl,rfl,rfl⟩
theorem j7 (r:List Int) (hr:r.length < 1000000000):zb Tryz.prog 131 [] [.agg [],lU r] (lU r) []:=by
 refine zb.zp (fn:=Tryz.f131) Tryz.func131 rfl ?_
 conv=>whnf
 refine ⟨_,_,(zlW r hr).frame rfl _,?_⟩;refine dd ?_
 exact ⟨.inl rfl,_,.refl _,rfl⟩
end Go.Wor
namespace Go.Wor
open Go.Ab Go.Proofs Go.Hy Go.Gat Go.Nam Go.Hos Go.Con Go.Sna
theorem zec (H':zl) (ρ:Nat->Nat):∀ (i:Nat) (K:zl),kQ [] H' ρ i K=K
 | _,[]=>rfl
 | i,ob::K=>by unfold kQ;rw [zec H' ρ (i+1) K];rfl
theorem ku {P:Program} {f:FuncId} {args:List C} {r:C} {H':zl} (h:zb P f [] args r H') (hR:qA H'=true) (ha:args.map (xg [] 9)=args) (H:zl) (hf:qA H=true):
  zb P f H args (x4 (qP [] H.length) 9 r) (H++H'.map (zG (qP [] H.length))):=by
 have:=h.part [] hR (K:=H) rfl ha rfl rfl hf
 have e:vq [] H H'=H++H'.map (zG (qP [] H.length)):=by unfold vq;rw [zec];rfl
 rwa [e] at this
theorem zht {α:Type} {enc:α->List C} {f:C->C} (hf:∀ x,(enc x).map f=enc x) (l:List α) (v:Nat) (row:List C):(((l.map enc).set v row).map fun r=>r.map f)=(l.map enc).set v (row.map f):=by
 rw [List.map_set,List.map_map]
 congr 1
 exact List.map_congr_left fun x _=>hf x
theorem jd {n:Nat} {x:Ob} {H:zl} (h1:qz n [x]=true) (h2:qz n H=true):qz n (x::H)=true:=by
 unfold qz at *
 simp only [List.all_cons,List.all_nil,Bool.and_true] at *
 rw [h1,h2];rfl
theorem zc {x:Ob} {H:zl} (h1:qA [x]=true) (h2:qA H=true):qA (x::H)=true:=by
 unfold qA at *
 simp only [List.all_cons,List.all_nil,Bool.and_true] at *
 rw [h1,h2];rfl
theorem zi {ty sz fz:Nat} {rows:List (List C)} (h:∀ r ∈ rows,∀ c ∈ r,zA c=true):qA [⟨1,ty,sz,rows,fz⟩]=true:=by
 unfold qA
 simp only [List.all_cons,List.all_nil,Bool.and_true]
 rw [List.all_eq_true]
 exact fun r hr=>List.all_eq_true.2 fun c hc=>h r hr c hc
theorem zy {α:Type} {enc:α->List C} {p:C->Bool} (h:∀ x,(enc x).all p=true) {row:List C} (hr:row.all p=true) (l:List α) (v:Nat):∀ r ∈ (l.map enc).set v row,∀ c ∈ r,p c=true:=fun r hm c hc=>by
 rcases List.mem_or_eq_of_mem_set hm with hm | rfl
 ·obtain ⟨x,_,rfl⟩:=List.mem_map.1 hm
  exact List.all_eq_true.1 (h x) c hc
 ·exact List.all_eq_true.1 hr c hc
theorem yB {α:Type} {enc:α->List C} {p:C->Bool} (h:∀ x,(enc x).all p=true) {row z:List C} (hz:z.all p=true) (l:List α) {v k:Nat} (n:Nat) (hr:k<=v∨row.all p=true):∀ r ∈ ((l.map enc).set v row).take k++(List.replicate n z).drop k,∀ c ∈ r,p c=true:=fun r hm c hc=>by
 rcases List.mem_append.1 hm with hm | hm
 ·rcases hr with hr | hr
  ·rw [List.take_set_of_le hr] at hm
   obtain ⟨x,_,rfl⟩:=List.mem_map.1 (List.mem_of_mem_take hm)
   exact List.all_eq_true.1 (h x) c hc
  ·exact zy h hr l v r (List.mem_of_mem_take hm) c hc
 ·rw [List.eq_of_mem_replicate (List.mem_of_mem_drop hm)] at hc
  exact List.all_eq_true.1 hz c hc
theorem ziD (e0:En) (x:Int) (l:List Int) (he:e0.next=x::l) (hl:l.length < 1000000000):zb Tryz.prog 176 [] [.agg [],.agg (zo e0)] (.agg [U e0.head,C.sl 0 [] 1 0 e0.next.length false,I e0.zj]) [⟨2,3,1,e0.next.map encI,0⟩]:=by
 have h1:zb Tryz.prog 176 [] [.agg [],.agg (zo e0)] (.agg [U e0.head,C.sl 3 [] 1 0 e0.next.length false,I e0.zj]) [⟨1,187,0,[[]],0⟩,⟨1,79,3,[[U e0.head,C.sl 3 [] 1 0 e0.next.length false,I e0.zj]],0⟩,⟨1,79,3,[[U e0.head,C.sl 3 [] 1 0 e0.next.length false,I e0.zj]],0⟩,⟨2,3,1,e0.next.map encI,0⟩]:=by
  have hc:=zg3 x l hl
  rw [<- he] at hc
  refine zb.zZ (fn:=Tryz.f176) Tryz.func176 rfl ?_
  conv=>whnf
  refine zr [] (hc) rfl rfl rfl rfl rfl rfl ?_;refine dd ?_
  exact ⟨.inl rfl,_,.refl _,rfl,rfl⟩
 exact h1.zc3 (fun B h _=>zt.ren [3] [0] _ _ (by rw [show B=0 from by simpa using h];rfl) rfl rfl rfl) (Nat.zero_le _)
theorem zl5 (e0:En) (x:Int) (l:List Int) (he:e0.next=x::l) (hl:l.length < 1000000000) (H:zl) (hf:qA H=true):zb Tryz.prog 176 H [.agg [],.agg (zo e0)] (.agg ([U e0.head,C.sl H.length [] 1 0 e0.next.length false,I e0.zj])) (H++[⟨2,3,1,e0.next.map encI,0⟩]):=
 ku (ziD e0 x l he hl) rfl rfl H hf
theorem zF {α:Type} {enc:α->List C} {sel:List Nat} (hf:∀ x,(enc x).map (xg sel 9)=enc x) (l:List α) (v:Nat) (row:List C) (ty sz fz:Nat):zK sel ⟨1,ty,sz,(l.map enc).set v row,fz⟩=⟨1,ty,sz,(l.map enc).set v (row.map (xg sel 9)),fz⟩:=by
 show (⟨1,ty,sz,((l.map enc).set v row).map (fun r=>r.map (xg sel 9)),fz⟩:Ob)=_
 rw [zht hf]
theorem zB {α:Type} {enc:α->List C} {ρ:Nat->Nat} (hf:∀ x,(enc x).map (x4 ρ 9)=enc x) (l:List α) (v:Nat) (row:List C) (ty sz fz:Nat):zG ρ ⟨1,ty,sz,(l.map enc).set v row,fz⟩=⟨1,ty,sz,(l.map enc).set v (row.map (x4 ρ 9)),fz⟩:=by
 show (⟨1,ty,sz,((l.map enc).set v row).map (fun r=>r.map (x4 ρ 9)),fz⟩:Ob)=_
 rw [zht hf]
theorem zl1 (l:List En) (e:Nat) (e0:En) (hv:l[e]?= some e0) (hl:l.length < 1000000000) (hp:∀ x ∈ l,zb Tryz.prog 176 [] [.agg [],.agg (zo x)] (.agg (zo x)) [])
  (hA:∀ H,qA H=true->zb Tryz.prog 176 H [.agg [],.agg (zo e0)] (.agg ([U e0.head,C.sl H.length [] 1 0 e0.next.length false,I e0.zj])) (H++[⟨2,3,1,e0.next.map encI,0⟩])):
  zb Tryz.prog 175 [] [lE l,.fn 176 [] [],.agg []] (.sl 0 [] 3 0 l.length false) [⟨1,0,3,(l.map zo).set e ([U e0.head,C.sl 1 [] 1 0 e0.next.length false,I e0.zj]),0⟩,⟨2,3,1,e0.next.map encI,0⟩]:=by
 have m1:(l.map zo).length=l.length:=List.length_map ..
 have hvl:=(List.getElem?_eq_some_iff.1 hv).1
 have h1:zb Tryz.prog 175 [] [lE l,.fn 176 [] [],.agg []] (.sl 1 [] 3 0 l.length false) [⟨1,187,0,[[]],0⟩,⟨1,0,3,(l.map zo).set e ([U e0.head,C.sl 3 [] 1 0 e0.next.length false,I e0.zj]),0⟩,⟨1,79,3,[zo e0],0⟩,⟨2,3,1,e0.next.map encI,0⟩]:=by
  refine zb.zZ (fn:=Tryz.f175) Tryz.func175 rfl ?_
  conv=>whnf
  rw [m1]
  refine ⟨rfl,by omega,by show (40:Int) * _<=_;omega,by omega,?_⟩
  refine dd ?_
  rw [m1,toNat_cast]
  have ZZ:List C:=([U 0,.lst 1 0 [],I 0]:List C)
  refine qa.seq l.length (fun k=>[lE l,.fn 176 [] [],.za,.za,.za,.ref 0 [] 0 0 0,.lst 1 0 [],.sl 1 [] 3 0 l.length false,.za,.za,.za,.za,.za,lE l,I l.length,I k,.za,.za,.za,.za,.za,.za,.za,.za,.za,.za,.za,.za,.za]) (fun k=>if k<=e then [⟨1,187,0,[[]],0⟩,⟨1,0,3,((l.map zo).set e ([U e0.head,C.sl 3 [] 1 0 e0.next.length false,I e0.zj])).take k++(List.replicate l.length ([U 0,.lst 1 0 [],I 0]:List C)).drop k,0⟩] else [⟨1,187,0,[[]],0⟩,⟨1,0,3,((l.map zo).set e ([U e0.head,C.sl 3 [] 1 0 e0.next.length false,I e0.zj])).take k++(List.replicate l.length ([U 0,.lst 1 0 [],I 0]:List C)).drop k,0⟩,⟨1,79,3,[zo e0],0⟩,⟨2,3,1,e0.next.map encI,0⟩]) (fun k=>True) ?_ trivial (fun k hk hr=>?_) (fun hr=>?_)
  ·rw [if_pos (Nat.zero_le _)]
   refine zt.trans (zt.zhn 1 rfl fun r hr c hc=>?_) (cC)
   rw [List.eq_of_mem_replicate hr] at hc
   exact List.all_eq_true.1 (rfl:([U 0,.lst 1 0 [],I 0]:List C).all zA=true) c hc
  ·obtain ⟨x,hx⟩:∃ x,x=l[k]:=⟨_,rfl⟩
   have hx2:l[k]?= some x:=by rw [List.getElem?_eq_getElem hk,hx]
   have hxm:x ∈ l:=by rw [hx];exact List.getElem_mem hk
   have hg:(l.map zo)[k]?= some (zo x):=by rw [List.getElem?_map,hx2];rfl
   have e1:0+(k:Int).toNat=k:=by simp
   have low:∀ n j,j<=e∨3 < n->∀ r ∈ ((l.map zo).set e ([U e0.head,C.sl 3 [] 1 0 e0.next.length false,I e0.zj])).take j++(List.replicate l.length ([U 0,.lst 1 0 [],I 0]:List C)).drop j,∀ c ∈ r,qO n 9 c=true:=fun n j h=>yB (enc:=zo) (fun _=>rfl) rfl l l.length (h.imp_right fun h=>by simp [qO,zL];omega)
   have own:∀ j,∀ r ∈ ((l.map zo).set e ([U e0.head,C.sl 3 [] 1 0 e0.next.length false,I e0.zj])).take j++(List.replicate l.length ([U 0,.lst 1 0 [],I 0]:List C)).drop j,∀ c ∈ r,zA c=true:=fun j=>yB (enc:=zo) (fun _=>rfl) rfl l l.length (.inr rfl)
   by_cases hkv:k=e
   ·subst hkv
    obtain rfl:e0=x:=by rw [hv] at hx2;exact Option.some.inj hx2
    have hF:((l.map zo).set k ([U e0.head,C.sl 3 [] 1 0 e0.next.length false,I e0.zj]))[k]?= some ([U e0.head,C.sl 3 [] 1 0 e0.next.length false,I e0.zj]):=by rw [List.getElem?_set,if_pos rfl,if_pos (by simpa using hk)]
    rw [if_pos (Nat.le_refl _),if_neg (by omega)]
    conv=>whnf
    (refine ⟨fun _=>?_,fun h=>absurd h (by simp;omega)⟩);refine dd ?_
    (refine ⟨by omega,_,by rw [toNat_cast];exact hg,?_⟩);refine dd ?_
    refine ⟨_,_,hA _ (zc rfl (zc (zi (own k)) rfl)),?_⟩
    refine dd ?_
    refine ⟨by omega,by simp;omega,?_⟩
    refine dd ?_
    rw [e1]
    refine ⟨_,jn (by simp) hk,rfl,?_⟩
    refine dd ?_
    refine .inl ⟨rfl,?_,trivial⟩
    rw [zC (by omega),<- qD hF hk]
    exact cC
   ·have hF:((l.map zo).set e ([U e0.head,C.sl 3 [] 1 0 e0.next.length false,I e0.zj]))[k]?= some (zo x):=by rw [List.getElem?_set_ne (fun h=>hkv h.symm)];exact hg
    by_cases hlt:k < e
    ·rw [if_pos (by omega),if_pos (by omega)]
     conv=>whnf
     (refine ⟨fun _=>?_,fun h=>absurd h (by simp;omega)⟩);refine dd ?_
     (refine ⟨by omega,_,by rw [toNat_cast];exact hg,?_⟩);refine dd ?_
     refine ⟨_,_,(hp x hxm).frame rfl _,?_⟩;refine dd ?_
     refine ⟨by omega,by simp;omega,?_⟩
     refine dd ?_
     rw [e1]
     refine ⟨_,jn (by simp) hk,rfl,?_⟩
     refine dd ?_
     refine .inl ⟨rfl,?_,trivial⟩
     rw [zC (by omega),<- qD hF hk]
     refine zt.xW 2 (by (conv=>whnf);(repeat (refine ⟨rfl,?_⟩;(conv=>whnf)));exact trivial) rfl rfl rfl (jd rfl (j9 ?_)) rfl
     have lw:=low 2 (k+1) (.inl (by omega))
     rw [<- qD (z:=([U 0,.lst 1 0 [],I 0]:List C)) (n:=l.length) hF hk] at lw
     exact lw
    ·rw [if_neg (by omega),if_neg (by omega)]
     conv=>whnf
     (refine ⟨fun _=>?_,fun h=>absurd h (by simp;omega)⟩);refine dd ?_
     (refine ⟨by omega,_,by rw [toNat_cast];exact hg,?_⟩);refine dd ?_
     refine ⟨_,_,(hp x hxm).frame rfl _,?_⟩;refine dd ?_
     refine ⟨by omega,by simp;omega,?_⟩
     refine dd ?_
     rw [e1]
     refine ⟨_,jn (by simp) hk,rfl,?_⟩
     refine dd ?_
     refine .inl ⟨rfl,?_,trivial⟩
     rw [zC (by omega),<- qD hF hk]
     refine zt.xW 4 (by (conv=>whnf);(repeat (refine ⟨rfl,?_⟩;(conv=>whnf)));exact trivial) rfl rfl rfl (jd rfl (jd (j9 ?_) (jd rfl rfl))) rfl
     have lw:=low 4 (k+1) (.inr (by omega))
     rw [<- qD (z:=([U 0,.lst 1 0 [],I 0]:List C)) (n:=l.length) hF hk] at lw
     exact lw
  ·rw [if_neg (by omega)]
   (conv=>whnf);(refine ⟨fun h=>absurd h (by simp),fun _=>?_⟩);refine dd ?_;(refine ⟨by simp,?_⟩);(conv=>whnf)
   rw [xS (by simp)]
   exact ⟨.inl rfl,_,.refl _,rfl,rfl⟩
 refine h1.zc3 (fun B h _=>?_) (Nat.zero_le _)
 have hw:=zt.ren (B:=B) [1,3] [0] [.sl 1 [] 3 0 l.length false] [⟨1,187,0,[[]],0⟩,⟨1,0,3,(l.map zo).set e ([U e0.head,C.sl 3 [] 1 0 e0.next.length false,I e0.zj]),0⟩,⟨1,79,3,[zo e0],0⟩,⟨2,3,1,e0.next.map encI,0⟩] (by rw [show B=0 from by simpa using h];rfl) rfl rfl (zc rfl (zc (zi (zy (enc:=zo) (fun _=>rfl) rfl l e)) (zc rfl rfl)))
 have e:jM [1,3] [⟨1,187,0,[[]],0⟩,⟨1,0,3,(l.map zo).set e ([U e0.head,C.sl 3 [] 1 0 e0.next.length false,I e0.zj]),0⟩,⟨1,79,3,[zo e0],0⟩,⟨2,3,1,e0.next.map encI,0⟩]=[⟨1,0,3,(l.map zo).set e ([U e0.head,C.sl 1 [] 1 0 e0.next.length false,I e0.zj]),0⟩,⟨2,3,1,e0.next.map encI,0⟩]:=by
  show zK [1,3] ⟨1,0,3,(l.map zo).set e ([U e0.head,C.sl 3 [] 1 0 e0.next.length false,I e0.zj]),0⟩::_=_
  rw [zF (enc:=zo) (fun _=>rfl)]
  rfl
 rw [e] at hw
 exact hw
structure zjR (g0:Gr) (e:Nat) (e0:En):Prop where
 sm:zok g0
 at_:g0.ends[e]?= some e0
 ne:e0.next≠[]
theorem zni {g0:Gr} {e:Nat} {e0:En} (h:zjR g0 e e0) (H:zl) (hf:qA H=true):zb Tryz.prog 175 H [lE g0.ends,.fn 176 [] [],.agg []] (.sl H.length [] 3 0 g0.ends.length false) (H++[⟨1,0,3,(g0.ends.map zo).set e ([U e0.head,C.sl (H.length+1) [] 1 0 e0.next.length false,I e0.zj]),0⟩,⟨2,3,1,e0.next.map encI,0⟩]):=by
 obtain ⟨x,l,hx⟩:∃ x l,e0.next=x::l:=by
  cases hh:e0.next with
  | nil=>exact absurd hh h.ne
  | cons x l=>exact ⟨x,l,rfl⟩
 have hlen:l.length < 1000000000:=by
  have:=h.sm.2 e0 (List.mem_of_getElem? h.at_)
  rw [hx] at this
  simp at this
  omega
 have:=ku (zl1 g0.ends e e0 h.at_ h.sm.1 (fun y hy=>zdx y (h.sm.2 y hy)) (zl5 e0 x l hx hlen)) (zc (zi (zy (enc:=zo) (fun _=>rfl) rfl _ _)) rfl) rfl H hf
 have e9:[(⟨1,0,3,(g0.ends.map zo).set e ([U e0.head,C.sl 1 [] 1 0 e0.next.length false,I e0.zj]),0⟩:Ob),⟨2,3,1,e0.next.map encI,0⟩].map (zG (qP [] H.length))=[⟨1,0,3,(g0.ends.map zo).set e ([U e0.head,C.sl (H.length+1) [] 1 0 e0.next.length false,I e0.zj]),0⟩,⟨2,3,1,e0.next.map encI,0⟩]:=by
  show zG _ ⟨1,0,3,_,0⟩::_=_
  rw [zB (enc:=zo) (fun _=>rfl)]
  rfl
 rw [e9] at this
 exact this
theorem zgg {g0:Gr} {e:Nat} {e0:En} (h:zjR g0 e e0):zb Tryz.prog 163 [] [.agg [],.agg (zw g0)] (.agg [U g0.zu,C.sl 0 [] 3 0 g0.ends.length false]) [⟨1,0,3,(g0.ends.map zo).set e ([U e0.head,C.sl 1 [] 1 0 e0.next.length false,I e0.zj]),0⟩,⟨2,3,1,e0.next.map encI,0⟩]:=by
 have own:∀ i,∀ r ∈ (g0.ends.map zo).set e ([U e0.head,C.sl i [] 1 0 e0.next.length false,I e0.zj]),∀ c ∈ r,zA c=true:=fun i=>zy (enc:=zo) (fun _=>rfl) rfl _ _
 have h1:zb Tryz.prog 163 [] [.agg [],.agg (zw g0)] (.agg [U g0.zu,C.sl 3 [] 3 0 g0.ends.length false]) [⟨1,187,0,[[]],0⟩,⟨1,75,2,[[U g0.zu,C.sl 3 [] 3 0 g0.ends.length false]],0⟩,⟨1,75,2,[[U g0.zu,C.sl 3 [] 3 0 g0.ends.length false]],0⟩,⟨1,0,3,(g0.ends.map zo).set e ([U e0.head,C.sl 4 [] 1 0 e0.next.length false,I e0.zj]),0⟩,⟨2,3,1,e0.next.map encI,0⟩]:=by
  refine zb.zZ (fn:=Tryz.f163) Tryz.func163 rfl ?_
  conv=>whnf
  refine ⟨_,_,zni h _ rfl,?_⟩
  refine dd ?_
  exact ⟨.inl rfl,_,.refl _,rfl,rfl⟩
 refine h1.zc3 (fun B hB _=>?_) (Nat.zero_le _)
 have hw:=zt.ren (B:=B) [3,4] [0] [.agg [U g0.zu,C.sl 3 [] 3 0 g0.ends.length false]] [⟨1,187,0,[[]],0⟩,⟨1,75,2,[[U g0.zu,C.sl 3 [] 3 0 g0.ends.length false]],0⟩,⟨1,75,2,[[U g0.zu,C.sl 3 [] 3 0 g0.ends.length false]],0⟩,⟨1,0,3,(g0.ends.map zo).set e ([U e0.head,C.sl 4 [] 1 0 e0.next.length false,I e0.zj]),0⟩,⟨2,3,1,e0.next.map encI,0⟩] (by rw [show B=0 from by simpa using hB];rfl) rfl rfl (zc rfl (zc rfl (zc rfl (zc (zi (own 4)) rfl))))
 have e:jM [3,4] [⟨1,187,0,[[]],0⟩,⟨1,75,2,[[U g0.zu,C.sl 3 [] 3 0 g0.ends.length false]],0⟩,⟨1,75,2,[[U g0.zu,C.sl 3 [] 3 0 g0.ends.length false]],0⟩,⟨1,0,3,(g0.ends.map zo).set e ([U e0.head,C.sl 4 [] 1 0 e0.next.length false,I e0.zj]),0⟩,⟨2,3,1,e0.next.map encI,0⟩]=[⟨1,0,3,(g0.ends.map zo).set e ([U e0.head,C.sl 1 [] 1 0 e0.next.length false,I e0.zj]),0⟩,⟨2,3,1,e0.next.map encI,0⟩]:=by
  show zK [3,4] ⟨1,0,3,(g0.ends.map zo).set e ([U e0.head,C.sl 4 [] 1 0 e0.next.length false,I e0.zj]),0⟩::_=_
  rw [zF (enc:=zo) (fun _=>rfl)]
  rfl
 rw [e] at hw
 exact hw
theorem ziP {g0:Gr} {e:Nat} {e0:En} (h:zjR g0 e e0) (H:zl) (hf:qA H=true):zb Tryz.prog 163 H [.agg [],.agg (zw g0)] (.agg ([U g0.zu,C.sl H.length [] 3 0 g0.ends.length false])) (H++[⟨1,0,3,(g0.ends.map zo).set e ([U e0.head,C.sl (H.length+1) [] 1 0 e0.next.length false,I e0.zj]),0⟩,⟨2,3,1,e0.next.map encI,0⟩]):=by
 have:=ku (zgg h) (zc (zi (zy (enc:=zo) (fun _=>rfl) rfl _ _)) rfl) rfl H hf
 have e9:[(⟨1,0,3,(g0.ends.map zo).set e ([U e0.head,C.sl 1 [] 1 0 e0.next.length false,I e0.zj]),0⟩:Ob),⟨2,3,1,e0.next.map encI,0⟩].map (zG (qP [] H.length))=[⟨1,0,3,(g0.ends.map zo).set e ([U e0.head,C.sl (H.length+1) [] 1 0 e0.next.length false,I e0.zj]),0⟩,⟨2,3,1,e0.next.map encI,0⟩]:=by
  show zG _ ⟨1,0,3,_,0⟩::_=_
  rw [zB (enc:=zo) (fun _=>rfl)]
  rfl
 rw [e9] at this
 exact this
end Go.Wor
namespace Go.Wor
open Go.Ab Go.Proofs Go.Hy Go.Gat Go.Nam Go.Hos Go.Con Go.Sna
theorem zl2 (e0:En) (e:Nat) (l:List Gr) (g:Nat) (g0:Gr) (hv:l[g]?= some g0) (hl:l.length < 1000000000) (hp:∀ x ∈ l,zb Tryz.prog 163 [] [.agg [],.agg (zw x)] (.agg (zw x)) [])
  (hA:∀ H,qA H=true->zb Tryz.prog 163 H [.agg [],.agg (zw g0)] (.agg ([U g0.zu,C.sl H.length [] 3 0 g0.ends.length false])) (H++[⟨1,0,3,(g0.ends.map zo).set e ([U e0.head,C.sl (H.length+1) [] 1 0 e0.next.length false,I e0.zj]),0⟩,⟨2,3,1,e0.next.map encI,0⟩])):
  zb Tryz.prog 162 [] [lG l,.fn 163 [] [],.agg []] (.sl 0 [] 2 0 l.length false) [⟨1,0,2,(l.map zw).set g ([U g0.zu,C.sl 1 [] 3 0 g0.ends.length false]),0⟩,⟨1,0,3,(g0.ends.map zo).set e ([U e0.head,C.sl 2 [] 1 0 e0.next.length false,I e0.zj]),0⟩,⟨2,3,1,e0.next.map encI,0⟩]:=by
 have m1:(l.map zw).length=l.length:=List.length_map ..
 have hvl:=(List.getElem?_eq_some_iff.1 hv).1
 have h1:zb Tryz.prog 162 [] [lG l,.fn 163 [] [],.agg []] (.sl 1 [] 2 0 l.length false) [⟨1,187,0,[[]],0⟩,⟨1,0,2,(l.map zw).set g ([U g0.zu,C.sl 3 [] 3 0 g0.ends.length false]),0⟩,⟨1,75,2,[zw g0],0⟩,⟨1,0,3,(g0.ends.map zo).set e ([U e0.head,C.sl 4 [] 1 0 e0.next.length false,I e0.zj]),0⟩,⟨2,3,1,e0.next.map encI,0⟩]:=by
  refine zb.zZ (fn:=Tryz.f162) Tryz.func162 rfl ?_
  conv=>whnf
  rw [m1]
  refine ⟨rfl,by omega,by show (32:Int) * _<=_;omega,by omega,?_⟩
  refine dd ?_
  rw [m1,toNat_cast]
  have ZZ:List C:=([U 0,.lst 1 0 []]:List C)
  refine qa.seq l.length (fun k=>[lG l,.fn 163 [] [],.za,.za,.za,.ref 0 [] 0 0 0,.lst 1 0 [],.sl 1 [] 2 0 l.length false,.za,.za,.za,.za,.za,lG l,I l.length,I k,.za,.za,.za,.za,.za,.za,.za,.za,.za,.za,.za,.za,.za]) (fun k=>if k<=g then [⟨1,187,0,[[]],0⟩,⟨1,0,2,((l.map zw).set g ([U g0.zu,C.sl 3 [] 3 0 g0.ends.length false])).take k++(List.replicate l.length ([U 0,.lst 1 0 []]:List C)).drop k,0⟩] else [⟨1,187,0,[[]],0⟩,⟨1,0,2,((l.map zw).set g ([U g0.zu,C.sl 3 [] 3 0 g0.ends.length false])).take k++(List.replicate l.length ([U 0,.lst 1 0 []]:List C)).drop k,0⟩,⟨1,75,2,[zw g0],0⟩,⟨1,0,3,(g0.ends.map zo).set e ([U e0.head,C.sl 4 [] 1 0 e0.next.length false,I e0.zj]),0⟩,⟨2,3,1,e0.next.map encI,0⟩]) (fun k=>True) ?_ trivial (fun k hk hr=>?_) (fun hr=>?_)
  ·rw [if_pos (Nat.zero_le _)]
   refine zt.trans (zt.zhn 1 rfl fun r hr c hc=>?_) (cC)
   rw [List.eq_of_mem_replicate hr] at hc
   exact List.all_eq_true.1 (rfl:([U 0,.lst 1 0 []]:List C).all zA=true) c hc
  ·obtain ⟨x,hx⟩:∃ x,x=l[k]:=⟨_,rfl⟩
   have hx2:l[k]?= some x:=by rw [List.getElem?_eq_getElem hk,hx]
   have hxm:x ∈ l:=by rw [hx];exact List.getElem_mem hk
   have hg:(l.map zw)[k]?= some (zw x):=by rw [List.getElem?_map,hx2];rfl
   have e1:0+(k:Int).toNat=k:=by simp
   have low:∀ n j,j<=g∨3 < n->∀ r ∈ ((l.map zw).set g ([U g0.zu,C.sl 3 [] 3 0 g0.ends.length false])).take j++(List.replicate l.length ([U 0,.lst 1 0 []]:List C)).drop j,∀ c ∈ r,qO n 9 c=true:=fun n j h=>yB (enc:=zw) (fun _=>rfl) rfl l l.length (h.imp_right fun h=>by simp [qO,zL];omega)
   have own:∀ j,∀ r ∈ ((l.map zw).set g ([U g0.zu,C.sl 3 [] 3 0 g0.ends.length false])).take j++(List.replicate l.length ([U 0,.lst 1 0 []]:List C)).drop j,∀ c ∈ r,zA c=true:=fun j=>yB (enc:=zw) (fun _=>rfl) rfl l l.length (.inr rfl)
   by_cases hkv:k=g
   ·subst hkv
    obtain rfl:g0=x:=by rw [hv] at hx2;exact Option.some.inj hx2
    have hF:((l.map zw).set k ([U g0.zu,C.sl 3 [] 3 0 g0.ends.length false]))[k]?= some ([U g0.zu,C.sl 3 [] 3 0 g0.ends.length false]):=by rw [List.getElem?_set,if_pos rfl,if_pos (by simpa using hk)]
    rw [if_pos (Nat.le_refl _),if_neg (by omega)]
    conv=>whnf
    (refine ⟨fun _=>?_,fun h=>absurd h (by simp;omega)⟩);refine dd ?_
    (refine ⟨by omega,_,by rw [toNat_cast];exact hg,?_⟩);refine dd ?_
    refine ⟨_,_,hA _ (zc rfl (zc (zi (own k)) rfl)),?_⟩
    refine dd ?_
    refine ⟨by omega,by simp;omega,?_⟩
    refine dd ?_
    rw [e1]
    refine ⟨_,jn (by simp) hk,rfl,?_⟩
    refine dd ?_
    refine .inl ⟨rfl,?_,trivial⟩
    rw [zC (by omega),<- qD hF hk]
    exact cC
   ·have hF:((l.map zw).set g ([U g0.zu,C.sl 3 [] 3 0 g0.ends.length false]))[k]?= some (zw x):=by rw [List.getElem?_set_ne (fun h=>hkv h.symm)];exact hg
    by_cases hlt:k < g
    ·rw [if_pos (by omega),if_pos (by omega)]
     conv=>whnf
     (refine ⟨fun _=>?_,fun h=>absurd h (by simp;omega)⟩);refine dd ?_
     (refine ⟨by omega,_,by rw [toNat_cast];exact hg,?_⟩);refine dd ?_
     refine ⟨_,_,(hp x hxm).frame rfl _,?_⟩;refine dd ?_
     refine ⟨by omega,by simp;omega,?_⟩
     refine dd ?_
     rw [e1]
     refine ⟨_,jn (by simp) hk,rfl,?_⟩
     refine dd ?_
     refine .inl ⟨rfl,?_,trivial⟩
     rw [zC (by omega),<- qD hF hk]
     refine zt.xW 2 (by (conv=>whnf);(repeat (refine ⟨rfl,?_⟩;(conv=>whnf)));exact trivial) rfl rfl rfl (jd rfl (j9 ?_)) rfl
     have lw:=low 2 (k+1) (.inl (by omega))
     rw [<- qD (z:=([U 0,.lst 1 0 []]:List C)) (n:=l.length) hF hk] at lw
     exact lw
    ·rw [if_neg (by omega),if_neg (by omega)]
     conv=>whnf
     (refine ⟨fun _=>?_,fun h=>absurd h (by simp;omega)⟩);refine dd ?_
     (refine ⟨by omega,_,by rw [toNat_cast];exact hg,?_⟩);refine dd ?_
     refine ⟨_,_,(hp x hxm).frame rfl _,?_⟩;refine dd ?_
     refine ⟨by omega,by simp;omega,?_⟩
     refine dd ?_
     rw [e1]
     refine ⟨_,jn (by simp) hk,rfl,?_⟩
     refine dd ?_
     refine .inl ⟨rfl,?_,trivial⟩
     rw [zC (by omega),<- qD hF hk]
     refine zt.xW 5 (by (conv=>whnf);(repeat (refine ⟨rfl,?_⟩;(conv=>whnf)));exact trivial) rfl rfl rfl (jd rfl (jd (j9 ?_) (jd rfl (jd (j9 (zy (enc:=zo) (fun _=>rfl) rfl _ _)) rfl)))) rfl
     have lw:=low 5 (k+1) (.inr (by omega))
     rw [<- qD (z:=([U 0,.lst 1 0 []]:List C)) (n:=l.length) hF hk] at lw
     exact lw
  ·rw [if_neg (by omega)]
   (conv=>whnf);(refine ⟨fun h=>absurd h (by simp),fun _=>?_⟩);refine dd ?_;(refine ⟨by simp,?_⟩);(conv=>whnf)
   rw [xS (by simp)]
   exact ⟨.inl rfl,_,.refl _,rfl,rfl⟩
 refine h1.zc3 (fun B h _=>?_) (Nat.zero_le _)
 have hw:=zt.ren (B:=B) [1,3,4] [0] [.sl 1 [] 2 0 l.length false] [⟨1,187,0,[[]],0⟩,⟨1,0,2,(l.map zw).set g ([U g0.zu,C.sl 3 [] 3 0 g0.ends.length false]),0⟩,⟨1,75,2,[zw g0],0⟩,⟨1,0,3,(g0.ends.map zo).set e ([U e0.head,C.sl 4 [] 1 0 e0.next.length false,I e0.zj]),0⟩,⟨2,3,1,e0.next.map encI,0⟩] (by rw [show B=0 from by simpa using h];rfl) rfl rfl (zc rfl (zc (zi (zy (enc:=zw) (fun _=>rfl) rfl l g)) (zc rfl (zc (zi (zy (enc:=zo) (fun _=>rfl) rfl _ _)) rfl))))
 have e:jM [1,3,4] [⟨1,187,0,[[]],0⟩,⟨1,0,2,(l.map zw).set g ([U g0.zu,C.sl 3 [] 3 0 g0.ends.length false]),0⟩,⟨1,75,2,[zw g0],0⟩,⟨1,0,3,(g0.ends.map zo).set e ([U e0.head,C.sl 4 [] 1 0 e0.next.length false,I e0.zj]),0⟩,⟨2,3,1,e0.next.map encI,0⟩]=[⟨1,0,2,(l.map zw).set g ([U g0.zu,C.sl 1 [] 3 0 g0.ends.length false]),0⟩,⟨1,0,3,(g0.ends.map zo).set e ([U e0.head,C.sl 2 [] 1 0 e0.next.length false,I e0.zj]),0⟩,⟨2,3,1,e0.next.map encI,0⟩]:=by
  show zK [1,3,4] ⟨1,0,2,(l.map zw).set g ([U g0.zu,C.sl 3 [] 3 0 g0.ends.length false]),0⟩::_=_
  rw [zF (enc:=zw) (fun _=>rfl)]
  show _::zK [1,3,4] ⟨1,0,3,(g0.ends.map zo).set e ([U e0.head,C.sl 4 [] 1 0 e0.next.length false,I e0.zj]),0⟩::_=_;rw [zF (enc:=zo) (fun _=>rfl)];rfl
 rw [e] at hw
 exact hw
structure zjS (v0:Ver) (g:Nat) (g0:Gr) (e:Nat) (e0:En):Prop extends zjR g0 e e0 where
 smv:zjT v0
 atg:v0.zf[g]?= some g0
theorem znk {v0:Ver} {g:Nat} {g0:Gr} {e:Nat} {e0:En} (h:zjS v0 g g0 e e0) (H:zl) (hf:qA H=true):zb Tryz.prog 162 H [lG v0.zf,.fn 163 [] [],.agg []] (.sl H.length [] 2 0 v0.zf.length false) (H++[⟨1,0,2,(v0.zf.map zw).set g ([U g0.zu,C.sl (H.length+1) [] 3 0 g0.ends.length false]),0⟩,⟨1,0,3,(g0.ends.map zo).set e ([U e0.head,C.sl (H.length+2) [] 1 0 e0.next.length false,I e0.zj]),0⟩,⟨2,3,1,e0.next.map encI,0⟩]):=by
 have:=ku (zl2 e0 e v0.zf g g0 h.atg h.smv.1 (fun y hy=>zbb y (h.smv.2 y hy)) (ziP h.tozjR)) (zc (zi (zy (enc:=zw) (fun _=>rfl) rfl _ _)) (zc (zi (zy (enc:=zo) (fun _=>rfl) rfl _ _)) rfl)) rfl H hf
 have e9:[(⟨1,0,2,(v0.zf.map zw).set g ([U g0.zu,C.sl 1 [] 3 0 g0.ends.length false]),0⟩:Ob),⟨1,0,3,(g0.ends.map zo).set e ([U e0.head,C.sl 2 [] 1 0 e0.next.length false,I e0.zj]),0⟩,⟨2,3,1,e0.next.map encI,0⟩].map (zG (qP [] H.length))=[⟨1,0,2,(v0.zf.map zw).set g ([U g0.zu,C.sl (H.length+1) [] 3 0 g0.ends.length false]),0⟩,⟨1,0,3,(g0.ends.map zo).set e ([U e0.head,C.sl (H.length+2) [] 1 0 e0.next.length false,I e0.zj]),0⟩,⟨2,3,1,e0.next.map encI,0⟩]:=by
  show zG _ ⟨1,0,2,_,0⟩::zG _ ⟨1,0,3,_,0⟩::_=_
  rw [zB (enc:=zw) (fun _=>rfl),zB (enc:=zo) (fun _=>rfl)]
  rfl
 rw [e9] at this
 exact this
theorem zeB {v0:Ver} {g:Nat} {g0:Gr} {e:Nat} {e0:En} (h:zjS v0 g g0 e e0):zb Tryz.prog 128 [] [.agg [],.agg (zx v0)] (.agg (zL v0.snap++[C.sl 0 [] 2 0 v0.zf.length false,Bo v0.zD])) [⟨1,0,2,(v0.zf.map zw).set g ([U g0.zu,C.sl 1 [] 3 0 g0.ends.length false]),0⟩,⟨1,0,3,(g0.ends.map zo).set e ([U e0.head,C.sl 2 [] 1 0 e0.next.length false,I e0.zj]),0⟩,⟨2,3,1,e0.next.map encI,0⟩]:=by
 have h1:zb Tryz.prog 128 [] [.agg [],.agg (zx v0)] (.agg (zL v0.snap++[C.sl 3 [] 2 0 v0.zf.length false,Bo v0.zD])) [⟨1,187,0,[[]],0⟩,⟨1,71,5,[(zL v0.snap++[C.sl 3 [] 2 0 v0.zf.length false,Bo v0.zD])],0⟩,⟨1,71,5,[(zL v0.snap++[C.sl 3 [] 2 0 v0.zf.length false,Bo v0.zD])],0⟩,⟨1,0,2,(v0.zf.map zw).set g ([U g0.zu,C.sl 4 [] 3 0 g0.ends.length false]),0⟩,⟨1,0,3,(g0.ends.map zo).set e ([U e0.head,C.sl 5 [] 1 0 e0.next.length false,I e0.zj]),0⟩,⟨2,3,1,e0.next.map encI,0⟩]:=by
  refine zb.zZ (fn:=Tryz.f128) Tryz.func128 rfl ?_
  conv=>whnf
  refine ⟨_,_,znk h _ rfl,?_⟩
  refine dd ?_
  exact ⟨.inl rfl,_,.refl _,rfl,rfl⟩
 refine h1.zc3 (fun B hB _=>?_) (Nat.zero_le _)
 have hw:=zt.ren (B:=B) [3,4,5] [0] [.agg (zL v0.snap++[C.sl 3 [] 2 0 v0.zf.length false,Bo v0.zD])] [⟨1,187,0,[[]],0⟩,⟨1,71,5,[(zL v0.snap++[C.sl 3 [] 2 0 v0.zf.length false,Bo v0.zD])],0⟩,⟨1,71,5,[(zL v0.snap++[C.sl 3 [] 2 0 v0.zf.length false,Bo v0.zD])],0⟩,⟨1,0,2,(v0.zf.map zw).set g ([U g0.zu,C.sl 4 [] 3 0 g0.ends.length false]),0⟩,⟨1,0,3,(g0.ends.map zo).set e ([U e0.head,C.sl 5 [] 1 0 e0.next.length false,I e0.zj]),0⟩,⟨2,3,1,e0.next.map encI,0⟩] (by rw [show B=0 from by simpa using hB];rfl) rfl rfl (zc rfl (zc rfl (zc rfl (zc (zi (zy (enc:=zw) (fun _=>rfl) rfl _ _)) (zc (zi (zy (enc:=zo) (fun _=>rfl) rfl _ _)) rfl)))))
 have e:jM [3,4,5] [⟨1,187,0,[[]],0⟩,⟨1,71,5,[(zL v0.snap++[C.sl 3 [] 2 0 v0.zf.length false,Bo v0.zD])],0⟩,⟨1,71,5,[(zL v0.snap++[C.sl 3 [] 2 0 v0.zf.length false,Bo v0.zD])],0⟩,⟨1,0,2,(v0.zf.map zw).set g ([U g0.zu,C.sl 4 [] 3 0 g0.ends.length false]),0⟩,⟨1,0,3,(g0.ends.map zo).set e ([U e0.head,C.sl 5 [] 1 0 e0.next.length false,I e0.zj]),0⟩,⟨2,3,1,e0.next.map encI,0⟩]=[⟨1,0,2,(v0.zf.map zw).set g ([U g0.zu,C.sl 1 [] 3 0 g0.ends.length false]),0⟩,⟨1,0,3,(g0.ends.map zo).set e ([U e0.head,C.sl 2 [] 1 0 e0.next.length false,I e0.zj]),0⟩,⟨2,3,1,e0.next.map encI,0⟩]:=by
  show zK [3,4,5] ⟨1,0,2,(v0.zf.map zw).set g ([U g0.zu,C.sl 4 [] 3 0 g0.ends.length false]),0⟩::zK [3,4,5] ⟨1,0,3,(g0.ends.map zo).set e ([U e0.head,C.sl 5 [] 1 0 e0.next.length false,I e0.zj]),0⟩::_=_
  rw [zF (enc:=zw) (fun _=>rfl),zF (enc:=zo) (fun _=>rfl)]
  rfl
 rw [e] at hw
 exact hw
theorem zgQ {v0:Ver} {g:Nat} {g0:Gr} {e:Nat} {e0:En} (h:zjS v0 g g0 e e0) (H:zl) (hf:qA H=true):zb Tryz.prog 128 H [.agg [],.agg (zx v0)] (.agg ((zL v0.snap++[C.sl H.length [] 2 0 v0.zf.length false,Bo v0.zD]))) (H++[⟨1,0,2,(v0.zf.map zw).set g ([U g0.zu,C.sl (H.length+1) [] 3 0 g0.ends.length false]),0⟩,⟨1,0,3,(g0.ends.map zo).set e ([U e0.head,C.sl (H.length+2) [] 1 0 e0.next.length false,I e0.zj]),0⟩,⟨2,3,1,e0.next.map encI,0⟩]):=by
 have:=ku (zeB h) (zc (zi (zy (enc:=zw) (fun _=>rfl) rfl _ _)) (zc (zi (zy (enc:=zo) (fun _=>rfl) rfl _ _)) rfl)) rfl H hf
 have e9:[(⟨1,0,2,(v0.zf.map zw).set g ([U g0.zu,C.sl 1 [] 3 0 g0.ends.length false]),0⟩:Ob),⟨1,0,3,(g0.ends.map zo).set e ([U e0.head,C.sl 2 [] 1 0 e0.next.length false,I e0.zj]),0⟩,⟨2,3,1,e0.next.map encI,0⟩].map (zG (qP [] H.length))=[⟨1,0,2,(v0.zf.map zw).set g ([U g0.zu,C.sl (H.length+1) [] 3 0 g0.ends.length false]),0⟩,⟨1,0,3,(g0.ends.map zo).set e ([U e0.head,C.sl (H.length+2) [] 1 0 e0.next.length false,I e0.zj]),0⟩,⟨2,3,1,e0.next.map encI,0⟩]:=by
  show zG _ ⟨1,0,2,_,0⟩::zG _ ⟨1,0,3,_,0⟩::_=_
  rw [zB (enc:=zw) (fun _=>rfl),zB (enc:=zo) (fun _=>rfl)]
  rfl
 rw [e9] at this
 exact this
theorem zl4 (g0:Gr) (g:Nat) (e0:En) (e:Nat) (l:List Ver) (v:Nat) (v0:Ver) (hv:l[v]?= some v0) (hl:l.length < 1000000000) (hp:∀ x ∈ l,zb Tryz.prog 128 [] [.agg [],.agg (zx x)] (.agg (zx x)) [])
  (hA:∀ H,qA H=true->zb Tryz.prog 128 H [.agg [],.agg (zx v0)] (.agg ((zL v0.snap++[C.sl H.length [] 2 0 v0.zf.length false,Bo v0.zD]))) (H++[⟨1,0,2,(v0.zf.map zw).set g ([U g0.zu,C.sl (H.length+1) [] 3 0 g0.ends.length false]),0⟩,⟨1,0,3,(g0.ends.map zo).set e ([U e0.head,C.sl (H.length+2) [] 1 0 e0.next.length false,I e0.zj]),0⟩,⟨2,3,1,e0.next.map encI,0⟩])):
  zb Tryz.prog 127 [] [lV l,.fn 128 [] [],.agg []] (.sl 0 [] 5 0 l.length false) [⟨1,0,5,(l.map zx).set v ((zL v0.snap++[C.sl 1 [] 2 0 v0.zf.length false,Bo v0.zD])),0⟩,⟨1,0,2,(v0.zf.map zw).set g ([U g0.zu,C.sl 2 [] 3 0 g0.ends.length false]),0⟩,⟨1,0,3,(g0.ends.map zo).set e ([U e0.head,C.sl 3 [] 1 0 e0.next.length false,I e0.zj]),0⟩,⟨2,3,1,e0.next.map encI,0⟩]:=by
 have m1:(l.map zx).length=l.length:=List.length_map ..
 have hvl:=(List.getElem?_eq_some_iff.1 hv).1
 have h1:zb Tryz.prog 127 [] [lV l,.fn 128 [] [],.agg []] (.sl 1 [] 5 0 l.length false) [⟨1,187,0,[[]],0⟩,⟨1,0,5,(l.map zx).set v ((zL v0.snap++[C.sl 3 [] 2 0 v0.zf.length false,Bo v0.zD])),0⟩,⟨1,71,5,[zx v0],0⟩,⟨1,0,2,(v0.zf.map zw).set g ([U g0.zu,C.sl 4 [] 3 0 g0.ends.length false]),0⟩,⟨1,0,3,(g0.ends.map zo).set e ([U e0.head,C.sl 5 [] 1 0 e0.next.length false,I e0.zj]),0⟩,⟨2,3,1,e0.next.map encI,0⟩]:=by
  refine zb.zZ (fn:=Tryz.f127) Tryz.func127 rfl ?_
  conv=>whnf
  rw [m1]
  refine ⟨rfl,by omega,by show (104:Int) * _<=_;omega,by omega,?_⟩
  refine dd ?_
  rw [m1,toNat_cast]
  have ZZ:List C:=([.lst 1 0 [],.lst 1 0 [],.lst 1 0 [],.lst 1 0 [],Bo false]:List C)
  refine qa.seq l.length (fun k=>[lV l,.fn 128 [] [],.za,.za,.za,.ref 0 [] 0 0 0,.lst 1 0 [],.sl 1 [] 5 0 l.length false,.za,.za,.za,.za,.za,lV l,I l.length,I k,.za,.za,.za,.za,.za,.za,.za,.za,.za,.za,.za,.za,.za]) (fun k=>if k<=v then [⟨1,187,0,[[]],0⟩,⟨1,0,5,((l.map zx).set v ((zL v0.snap++[C.sl 3 [] 2 0 v0.zf.length false,Bo v0.zD]))).take k++(List.replicate l.length ([.lst 1 0 [],.lst 1 0 [],.lst 1 0 [],.lst 1 0 [],Bo false]:List C)).drop k,0⟩] else [⟨1,187,0,[[]],0⟩,⟨1,0,5,((l.map zx).set v ((zL v0.snap++[C.sl 3 [] 2 0 v0.zf.length false,Bo v0.zD]))).take k++(List.replicate l.length ([.lst 1 0 [],.lst 1 0 [],.lst 1 0 [],.lst 1 0 [],Bo false]:List C)).drop k,0⟩,⟨1,71,5,[zx v0],0⟩,⟨1,0,2,(v0.zf.map zw).set g ([U g0.zu,C.sl 4 [] 3 0 g0.ends.length false]),0⟩,⟨1,0,3,(g0.ends.map zo).set e ([U e0.head,C.sl 5 [] 1 0 e0.next.length false,I e0.zj]),0⟩,⟨2,3,1,e0.next.map encI,0⟩]) (fun k=>True) ?_ trivial (fun k hk hr=>?_) (fun hr=>?_)
  ·rw [if_pos (Nat.zero_le _)]
   refine zt.trans (zt.zhn 1 rfl fun r hr c hc=>?_) (cC)
   rw [List.eq_of_mem_replicate hr] at hc
   exact List.all_eq_true.1 (rfl:([.lst 1 0 [],.lst 1 0 [],.lst 1 0 [],.lst 1 0 [],Bo false]:List C).all zA=true) c hc
  ·obtain ⟨x,hx⟩:∃ x,x=l[k]:=⟨_,rfl⟩
   have hx2:l[k]?= some x:=by rw [List.getElem?_eq_getElem hk,hx]
   have hxm:x ∈ l:=by rw [hx];exact List.getElem_mem hk
   have hg:(l.map zx)[k]?= some (zx x):=by rw [List.getElem?_map,hx2];rfl
   have e1:0+(k:Int).toNat=k:=by simp
   have low:∀ n j,j<=v∨3 < n->∀ r ∈ ((l.map zx).set v ((zL v0.snap++[C.sl 3 [] 2 0 v0.zf.length false,Bo v0.zD]))).take j++(List.replicate l.length ([.lst 1 0 [],.lst 1 0 [],.lst 1 0 [],.lst 1 0 [],Bo false]:List C)).drop j,∀ c ∈ r,qO n 9 c=true:=fun n j h=>yB (enc:=zx) (fun _=>rfl) rfl l l.length (h.imp_right fun h=>by simp [qO,zL];omega)
   have own:∀ j,∀ r ∈ ((l.map zx).set v ((zL v0.snap++[C.sl 3 [] 2 0 v0.zf.length false,Bo v0.zD]))).take j++(List.replicate l.length ([.lst 1 0 [],.lst 1 0 [],.lst 1 0 [],.lst 1 0 [],Bo false]:List C)).drop j,∀ c ∈ r,zA c=true:=fun j=>yB (enc:=zx) (fun _=>rfl) rfl l l.length (.inr rfl)
   by_cases hkv:k=v
   ·subst hkv
    obtain rfl:v0=x:=by rw [hv] at hx2;exact Option.some.inj hx2
    have hF:((l.map zx).set k ((zL v0.snap++[C.sl 3 [] 2 0 v0.zf.length false,Bo v0.zD])))[k]?= some ((zL v0.snap++[C.sl 3 [] 2 0 v0.zf.length false,Bo v0.zD])):=by rw [List.getElem?_set,if_pos rfl,if_pos (by simpa using hk)]
    rw [if_pos (Nat.le_refl _),if_neg (by omega)]
    conv=>whnf
    (refine ⟨fun _=>?_,fun h=>absurd h (by simp;omega)⟩);refine dd ?_
    (refine ⟨by omega,_,by rw [toNat_cast];exact hg,?_⟩);refine dd ?_
    refine ⟨_,_,hA _ (zc rfl (zc (zi (own k)) rfl)),?_⟩
    refine dd ?_
    refine ⟨by omega,by simp;omega,?_⟩
    refine dd ?_
    rw [e1]
    refine ⟨_,jn (by simp) hk,rfl,?_⟩
    refine dd ?_
    refine .inl ⟨rfl,?_,trivial⟩
    rw [zC (by omega),<- qD hF hk]
    exact cC
   ·have hF:((l.map zx).set v ((zL v0.snap++[C.sl 3 [] 2 0 v0.zf.length false,Bo v0.zD])))[k]?= some (zx x):=by rw [List.getElem?_set_ne (fun h=>hkv h.symm)];exact hg
    by_cases hlt:k < v
    ·rw [if_pos (by omega),if_pos (by omega)]
     conv=>whnf
     (refine ⟨fun _=>?_,fun h=>absurd h (by simp;omega)⟩);refine dd ?_
     (refine ⟨by omega,_,by rw [toNat_cast];exact hg,?_⟩);refine dd ?_
     refine ⟨_,_,(hp x hxm).frame rfl _,?_⟩;refine dd ?_
     refine ⟨by omega,by simp;omega,?_⟩
     refine dd ?_
     rw [e1]
     refine ⟨_,jn (by simp) hk,rfl,?_⟩
     refine dd ?_
     refine .inl ⟨rfl,?_,trivial⟩
     rw [zC (by omega),<- qD hF hk]
     refine zt.xW 2 (by (conv=>whnf);(repeat (refine ⟨rfl,?_⟩;(conv=>whnf)));exact trivial) rfl rfl rfl (jd rfl (j9 ?_)) rfl
     have lw:=low 2 (k+1) (.inl (by omega))
     rw [<- qD (z:=([.lst 1 0 [],.lst 1 0 [],.lst 1 0 [],.lst 1 0 [],Bo false]:List C)) (n:=l.length) hF hk] at lw
     exact lw
    ·rw [if_neg (by omega),if_neg (by omega)]
     conv=>whnf
     (refine ⟨fun _=>?_,fun h=>absurd h (by simp;omega)⟩);refine dd ?_
     (refine ⟨by omega,_,by rw [toNat_cast];exact hg,?_⟩);refine dd ?_
     refine ⟨_,_,(hp x hxm).frame rfl _,?_⟩;refine dd ?_
     refine ⟨by omega,by simp;omega,?_⟩
     refine dd ?_
     rw [e1]
     refine ⟨_,jn (by simp) hk,rfl,?_⟩
     refine dd ?_
     refine .inl ⟨rfl,?_,trivial⟩
     rw [zC (by omega),<- qD hF hk]
     refine zt.xW 6 (by (conv=>whnf);(repeat (refine ⟨rfl,?_⟩;(conv=>whnf)));exact trivial) rfl rfl rfl (jd rfl (jd (j9 ?_) (jd rfl (jd (j9 (zy (enc:=zw) (fun _=>rfl) rfl _ _)) (jd (j9 (zy (enc:=zo) (fun _=>rfl) rfl _ _)) rfl))))) rfl
     have lw:=low 6 (k+1) (.inr (by omega))
     rw [<- qD (z:=([.lst 1 0 [],.lst 1 0 [],.lst 1 0 [],.lst 1 0 [],Bo false]:List C)) (n:=l.length) hF hk] at lw
     exact lw
  ·rw [if_neg (by omega)]
   (conv=>whnf);(refine ⟨fun h=>absurd h (by simp),fun _=>?_⟩);refine dd ?_;(refine ⟨by simp,?_⟩);(conv=>whnf)
   rw [xS (by simp)]
   exact ⟨.inl rfl,_,.refl _,rfl,rfl⟩
 refine h1.zc3 (fun B h _=>?_) (Nat.zero_le _)
 have hw:=zt.ren (B:=B) [1,3,4,5] [0] [.sl 1 [] 5 0 l.length false] [⟨1,187,0,[[]],0⟩,⟨1,0,5,(l.map zx).set v ((zL v0.snap++[C.sl 3 [] 2 0 v0.zf.length false,Bo v0.zD])),0⟩,⟨1,71,5,[zx v0],0⟩,⟨1,0,2,(v0.zf.map zw).set g ([U g0.zu,C.sl 4 [] 3 0 g0.ends.length false]),0⟩,⟨1,0,3,(g0.ends.map zo).set e ([U e0.head,C.sl 5 [] 1 0 e0.next.length false,I e0.zj]),0⟩,⟨2,3,1,e0.next.map encI,0⟩] (by rw [show B=0 from by simpa using h];rfl) rfl rfl (zc rfl (zc (zi (zy (enc:=zx) (fun _=>rfl) rfl l v)) (zc rfl (zc (zi (zy (enc:=zw) (fun _=>rfl) rfl _ _)) (zc (zi (zy (enc:=zo) (fun _=>rfl) rfl _ _)) rfl)))))
 have e:jM [1,3,4,5] [⟨1,187,0,[[]],0⟩,⟨1,0,5,(l.map zx).set v ((zL v0.snap++[C.sl 3 [] 2 0 v0.zf.length false,Bo v0.zD])),0⟩,⟨1,71,5,[zx v0],0⟩,⟨1,0,2,(v0.zf.map zw).set g ([U g0.zu,C.sl 4 [] 3 0 g0.ends.length false]),0⟩,⟨1,0,3,(g0.ends.map zo).set e ([U e0.head,C.sl 5 [] 1 0 e0.next.length false,I e0.zj]),0⟩,⟨2,3,1,e0.next.map encI,0⟩]=[⟨1,0,5,(l.map zx).set v ((zL v0.snap++[C.sl 1 [] 2 0 v0.zf.length false,Bo v0.zD])),0⟩,⟨1,0,2,(v0.zf.map zw).set g ([U g0.zu,C.sl 2 [] 3 0 g0.ends.length false]),0⟩,⟨1,0,3,(g0.ends.map zo).set e ([U e0.head,C.sl 3 [] 1 0 e0.next.length false,I e0.zj]),0⟩,⟨2,3,1,e0.next.map encI,0⟩]:=by
  show zK [1,3,4,5] ⟨1,0,5,(l.map zx).set v ((zL v0.snap++[C.sl 3 [] 2 0 v0.zf.length false,Bo v0.zD])),0⟩::_=_
  rw [zF (enc:=zx) (fun _=>rfl)]
  show _::zK [1,3,4,5] ⟨1,0,2,(v0.zf.map zw).set g ([U g0.zu,C.sl 4 [] 3 0 g0.ends.length false]),0⟩::zK [1,3,4,5] ⟨1,0,3,(g0.ends.map zo).set e ([U e0.head,C.sl 5 [] 1 0 e0.next.length false,I e0.zj]),0⟩::_=_;rw [zF (enc:=zw) (fun _=>rfl),zF (enc:=zo) (fun _=>rfl)];rfl
 rw [e] at hw
 exact hw
structure zcf (vs:List Ver) (v:Nat) (v0:Ver) (g:Nat) (g0:Gr) (e:Nat) (e0:En):Prop extends zjS v0 g g0 e e0 where
 zpP:vs.length < 1000000000∧∀ v ∈ vs,zjT v
 atv:vs[v]?= some v0
theorem znn {vs:List Ver} {v:Nat} {v0:Ver} {g:Nat} {g0:Gr} {e:Nat} {e0:En} (h:zcf vs v v0 g g0 e e0) (H:zl) (hf:qA H=true):zb Tryz.prog 127 H [lV vs,.fn 128 [] [],.agg []] (.sl H.length [] 5 0 vs.length false) (H++[⟨1,0,5,(vs.map zx).set v ((zL v0.snap++[C.sl (H.length+1) [] 2 0 v0.zf.length false,Bo v0.zD])),0⟩,⟨1,0,2,(v0.zf.map zw).set g ([U g0.zu,C.sl (H.length+2) [] 3 0 g0.ends.length false]),0⟩,⟨1,0,3,(g0.ends.map zo).set e ([U e0.head,C.sl (H.length+3) [] 1 0 e0.next.length false,I e0.zj]),0⟩,⟨2,3,1,e0.next.map encI,0⟩]):=by
 have:=ku (zl4 g0 g e0 e vs v v0 h.atv h.zpP.1 (fun y hy=>ja y (h.zpP.2 y hy)) (zgQ h.tozjS)) (zc (zi (zy (enc:=zx) (fun _=>rfl) rfl _ _)) (zc (zi (zy (enc:=zw) (fun _=>rfl) rfl _ _)) (zc (zi (zy (enc:=zo) (fun _=>rfl) rfl _ _)) rfl))) rfl H hf
 have e9:[(⟨1,0,5,(vs.map zx).set v ((zL v0.snap++[C.sl 1 [] 2 0 v0.zf.length false,Bo v0.zD])),0⟩:Ob),⟨1,0,2,(v0.zf.map zw).set g ([U g0.zu,C.sl 2 [] 3 0 g0.ends.length false]),0⟩,⟨1,0,3,(g0.ends.map zo).set e ([U e0.head,C.sl 3 [] 1 0 e0.next.length false,I e0.zj]),0⟩,⟨2,3,1,e0.next.map encI,0⟩].map (zG (qP [] H.length))=[⟨1,0,5,(vs.map zx).set v ((zL v0.snap++[C.sl (H.length+1) [] 2 0 v0.zf.length false,Bo v0.zD])),0⟩,⟨1,0,2,(v0.zf.map zw).set g ([U g0.zu,C.sl (H.length+2) [] 3 0 g0.ends.length false]),0⟩,⟨1,0,3,(g0.ends.map zo).set e ([U e0.head,C.sl (H.length+3) [] 1 0 e0.next.length false,I e0.zj]),0⟩,⟨2,3,1,e0.next.map encI,0⟩]:=by
  show zG _ ⟨1,0,5,_,0⟩::zG _ ⟨1,0,2,_,0⟩::zG _ ⟨1,0,3,_,0⟩::_=_
  rw [zB (enc:=zx) (fun _=>rfl),zB (enc:=zw) (fun _=>rfl),zB (enc:=zo) (fun _=>rfl)]
  rfl
 rw [e9] at this
 exact this
end Go.Wor
namespace Go.Wor
open Go.Ab Go.Proofs Go.Hy Go.Gat Go.Nam Go.Hos Go.Con Go.Sna
theorem vB (l:List (List Int)) (hl:l.length < 1000000000) (hp:∀ x ∈ l,zb Tryz.prog 131 [] [.agg [],lU x] (lU x) []):zb Tryz.prog 130 [] [lCo l,.fn 131 [] [],.agg []] (.sl 0 [] 1 0 l.length false) [⟨2,108,1,l.map zJ,0⟩]:=by
 have m1:(l.map zJ).length=l.length:=List.length_map ..
 refine zb.zZ (fn:=Tryz.f130) Tryz.func130 rfl ?_
 conv=>whnf
 rw [m1]
 refine ⟨rfl,by omega,by show (24:Int) * _<=_;omega,by omega,?_⟩
 refine dd ?_
 rw [m1,toNat_cast]
 refine qa.seq l.length (fun k=>[lCo l,.fn 131 [] [],.za,.za,.za,.ref 0 [] 0 0 0,.lst 1 0 [],.sl 1 [] 1 0 l.length false,.za,.za,.za,.za,.za,lCo l,I l.length,I k,.za,.za,.za,.za,.za,.za,.za,.za,.za,.za,.za,.za,.za]) (fun k=>[⟨1,187,0,[[]],0⟩,⟨2,108,1,(l.map zJ).take k++(List.replicate l.length ([.lst 1 0 []]:List C)).drop k,0⟩]) (fun k=>True) ?_ trivial (fun k hk hr=>?_) (fun hr=>?_)
 ·exact cC
 ·obtain ⟨x,hx⟩:∃ x,x=l[k]:=⟨_,rfl⟩
  have hx2:l[k]?= some x:=by rw [List.getElem?_eq_getElem hk,hx]
  have hg:(l.map zJ)[k]?= some (zJ x):=by rw [List.getElem?_map,hx2];rfl
  conv=>whnf
  (refine ⟨fun _=>?_,fun h=>absurd h (by simp;omega)⟩);refine dd ?_
  (refine ⟨by omega,_,by rw [toNat_cast];exact hg,?_⟩);refine dd ?_
  refine ⟨_,_,(hp x (by rw [hx];exact List.getElem_mem hk)).frame rfl _,?_⟩;refine dd ?_
  refine ⟨by omega,by simp;omega,?_⟩
  refine dd ?_
  have e1:0+(k:Int).toNat=k:=by simp
  rw [e1]
  refine ⟨_,jn (by simp) hk,rfl,?_⟩
  refine dd ?_
  refine .inl ⟨rfl,?_,trivial⟩
  have e2:=qD (z:=([.lst 1 0 []]:List C)) (n:=l.length) hg hk
  rw [zC (by omega),<- e2]
  exact cE 2
 ·(conv=>whnf);(refine ⟨fun h=>absurd h (by simp),fun _=>?_⟩);refine dd ?_;(refine ⟨by simp,?_⟩);(conv=>whnf)
  rw [xS (by simp)]
  exact ⟨.inl rfl,_,zt.ren [1] [6] _ _ rfl rfl rfl rfl,rfl,rfl⟩
theorem zju (r0:List Int) (x:Int) (l:List Int) (he:r0=x::l) (hl:l.length < 1000000000):zb Tryz.prog 131 [] [.agg [],lU r0] (.sl 0 [] 1 0 r0.length false) [⟨2,32,1,r0.map qY,0⟩]:=by
 have h1:zb Tryz.prog 131 [] [.agg [],lU r0] (.sl 1 [] 1 0 r0.length false) [⟨1,187,0,[[]],0⟩,⟨2,32,1,r0.map qY,0⟩]:=by
  have hc:=zlV x l hl
  rw [<- he] at hc
  refine zb.zZ (fn:=Tryz.f131) Tryz.func131 rfl ?_
  conv=>whnf
  refine zr [] (hc) rfl rfl rfl rfl rfl rfl ?_;refine dd ?_
  exact ⟨.inl rfl,_,.refl _,rfl,rfl⟩
 exact h1.zc3 (fun B h _=>zt.ren [1] [0] _ _ (by rw [show B=0 from by simpa using h];rfl) rfl rfl rfl) (Nat.zero_le _)
theorem zmM (r0:List Int) (x:Int) (l:List Int) (he:r0=x::l) (hl:l.length < 1000000000) (H:zl) (hf:qA H=true):zb Tryz.prog 131 H [.agg [],lU r0] (.sl H.length [] 1 0 r0.length false) (H++[⟨2,32,1,r0.map qY,0⟩]):=
 ku (zju r0 x l he hl) rfl rfl H hf
theorem zaD {P:Program} {f:FuncId} {fn:Func} {c:Code} {H2:zl} {args:List C} {r:C} (hf:P.funcs[f]?= some fn) (hb:fn.body=some c)
  (h:wpA P 0 c (entry fn args) [] fun ex t1 H1=>(ex=.ret∨ex=.normal)∧∃ s2 r1,zt 0 ⟨t1,H1⟩ s2∧yU P fn s2=some r1∧zt 0 ⟨[r1],s2.H⟩ ⟨[r],H2⟩):zb P f [] args r H2:=fun w E vs hh hl=>by
 have h1:qq P f [] args fun r1 H1=>zt 0 ⟨[r1],H1⟩ ⟨[r],H2⟩:=qq.zZ hf hb h
 refine (h1 w E vs hh hl).mono ?_
 rintro e w' ⟨r1,H1,v,E',hw,h0,h2,h3,g⟩
 obtain ⟨E2,hs,g2⟩:=hw 0 w' E' ⟨#[v],[]⟩ ⟨h2,LL.one h3,Nat.zero_le _,Nat.zero_le _⟩
 have hn2:=hs.heap.n
 have hn0:E.n=0:=hh.n
 refine ⟨v,E2,h0,hs.heap,hs.tmps.cons_inv.1,⟨⟨by rw [hn0];exact Nat.zero_le _,fun id hops hi=>by rw [hn0] at hi;omega,fun id hops hi=>by rw [hn0] at hi;omega,fun b o u hu=>g2.le.St _ _ _ (g.le.St _ _ _ hu),fun id k u hi hu=>by rw [hn0] at hi;omega⟩,g2.os.trans g.os,g2.tape.trans g.tape,g2.output.trans g.output,Nat.le_trans g.size g2.size,?_,?_,?_⟩⟩
 ·intro k hk ho
  exact (g2.frame k (Nat.lt_of_lt_of_le hk g.size) fun hc=>(g.own k hc).elim (fun h=>by omega) ho).trans (g.frame k hk ho)
 ·intro b o u hu
  rcases g2.jc b o u hu with h1 | h1 | h1
  ·exact g.jc b o u h1
  ·exact .inr (.inl (Nat.le_trans g.size h1))
  ·rcases g.own b h1 with h4 | h4
   ·exact .inr (.inl h4)
   ·exact .inr (.inr h4)
 ·intro b hb
  rcases g2.own b hb with h1 | h1
  ·exact .inl (Nat.le_trans g.size h1)
  ·exact g.own b h1
theorem qi (w:Wor) (h:qC w):zb Tryz.prog 83 [] [Cw w] (Cw w) []:=by
 refine zb.zp (fn:=Tryz.f83) Tryz.func83 rfl ?_
 conv=>whnf
 refine ⟨_,_,(xX w.pins h.pins).frame rfl _,?_⟩;refine dd ?_
 refine zr [] (vC w.zd h.zd.1 fun v hv=>ja v (h.zd.2 v hv)) rfl rfl rfl rfl rfl rfl ?_;refine dd ?_
 refine ⟨_,_,(yy w.ze h.ze).frame rfl _,?_⟩;refine dd ?_
 refine zr [] (vB w.counts h.counts.1 fun r hr=>j7 r (h.counts.2 r hr)) rfl rfl rfl rfl rfl rfl ?_;refine dd ?_
 refine ⟨_,_,(vR w.zm h.zm).frame rfl _,?_⟩;refine dd ?_
 exact ⟨.inl rfl,_,(zt.zS 1 0 4 rfl rfl rfl rfl (.inr rfl) rfl (by simp) (shut_map (enc:=zx) (fun _=>rfl) w.zd) (zY rfl)).trans (zt.zS 1 0 6 rfl rfl rfl rfl (.inr rfl) rfl (by simp) (shut_map (enc:=zJ) (fun _=>rfl) w.counts) (zY rfl)),rfl⟩
theorem zl3 (l:List (List Int)) (t:Nat) (r0:(List Int)) (hv:l[t]?= some r0) (hl:l.length < 1000000000) (hp:∀ x ∈ l,zb Tryz.prog 131 [] [.agg [],lU x] (lU x) [])
  (hA:∀ H,qA H=true->zb Tryz.prog 131 H [.agg [],lU r0] (.sl H.length [] 1 0 r0.length false) (H++[⟨2,32,1,r0.map qY,0⟩])):
  zb Tryz.prog 130 [] [lCo l,.fn 131 [] [],.agg []] (.sl 0 [] 1 0 l.length false) [⟨1,0,1,(l.map zJ).set t ([C.sl 1 [] 1 0 r0.length false]),0⟩,⟨2,32,1,r0.map qY,0⟩]:=by
 have m1:(l.map zJ).length=l.length:=List.length_map ..
 have hvl:=(List.getElem?_eq_some_iff.1 hv).1
 have h1:zb Tryz.prog 130 [] [lCo l,.fn 131 [] [],.agg []] (.sl 1 [] 1 0 l.length false) [⟨1,187,0,[[]],0⟩,⟨1,0,1,(l.map zJ).set t ([C.sl 2 [] 1 0 r0.length false]),0⟩,⟨2,32,1,r0.map qY,0⟩]:=by
  refine zb.zZ (fn:=Tryz.f130) Tryz.func130 rfl ?_
  conv=>whnf
  rw [m1]
  refine ⟨rfl,by omega,by show (24:Int) * _<=_;omega,by omega,?_⟩
  refine dd ?_
  rw [m1,toNat_cast]
  have ZZ:List C:=([.lst 1 0 []]:List C)
  refine qa.seq l.length (fun k=>[lCo l,.fn 131 [] [],.za,.za,.za,.ref 0 [] 0 0 0,.lst 1 0 [],.sl 1 [] 1 0 l.length false,.za,.za,.za,.za,.za,lCo l,I l.length,I k,.za,.za,.za,.za,.za,.za,.za,.za,.za,.za,.za,.za,.za]) (fun k=>if k<=t then [⟨1,187,0,[[]],0⟩,⟨1,0,1,((l.map zJ).set t ([C.sl 2 [] 1 0 r0.length false])).take k++(List.replicate l.length ([.lst 1 0 []]:List C)).drop k,0⟩] else [⟨1,187,0,[[]],0⟩,⟨1,0,1,((l.map zJ).set t ([C.sl 2 [] 1 0 r0.length false])).take k++(List.replicate l.length ([.lst 1 0 []]:List C)).drop k,0⟩,⟨2,32,1,r0.map qY,0⟩]) (fun k=>True) ?_ trivial (fun k hk hr=>?_) (fun hr=>?_)
  ·rw [if_pos (Nat.zero_le _)]
   refine zt.trans (zt.zhn 1 rfl fun r hr c hc=>?_) (cC)
   rw [List.eq_of_mem_replicate hr] at hc
   exact List.all_eq_true.1 (rfl:([.lst 1 0 []]:List C).all zA=true) c hc
  ·obtain ⟨x,hx⟩:∃ x,x=l[k]:=⟨_,rfl⟩
   have hx2:l[k]?= some x:=by rw [List.getElem?_eq_getElem hk,hx]
   have hxm:x ∈ l:=by rw [hx];exact List.getElem_mem hk
   have hg:(l.map zJ)[k]?= some (zJ x):=by rw [List.getElem?_map,hx2];rfl
   have e1:0+(k:Int).toNat=k:=by simp
   have low:∀ n j,j<=t∨2 < n->∀ r ∈ ((l.map zJ).set t ([C.sl 2 [] 1 0 r0.length false])).take j++(List.replicate l.length ([.lst 1 0 []]:List C)).drop j,∀ c ∈ r,qO n 9 c=true:=fun n j h=>yB (enc:=zJ) (fun _=>rfl) rfl l l.length (h.imp_right fun h=>by simp [qO,zL];omega)
   have own:∀ j,∀ r ∈ ((l.map zJ).set t ([C.sl 2 [] 1 0 r0.length false])).take j++(List.replicate l.length ([.lst 1 0 []]:List C)).drop j,∀ c ∈ r,zA c=true:=fun j=>yB (enc:=zJ) (fun _=>rfl) rfl l l.length (.inr rfl)
   by_cases hkv:k=t
   ·subst hkv
    obtain rfl:r0=x:=by rw [hv] at hx2;exact Option.some.inj hx2
    have hF:((l.map zJ).set k ([C.sl 2 [] 1 0 r0.length false]))[k]?= some ([C.sl 2 [] 1 0 r0.length false]):=by rw [List.getElem?_set,if_pos rfl,if_pos (by simpa using hk)]
    rw [if_pos (Nat.le_refl _),if_neg (by omega)]
    conv=>whnf
    (refine ⟨fun _=>?_,fun h=>absurd h (by simp;omega)⟩);refine dd ?_
    (refine ⟨by omega,_,by rw [toNat_cast];exact hg,?_⟩);refine dd ?_
    refine ⟨_,_,hA _ (zc rfl (zi (own k))),?_⟩
    refine dd ?_
    refine ⟨by omega,by simp;omega,?_⟩
    refine dd ?_
    rw [e1]
    refine ⟨_,jn (by simp) hk,rfl,?_⟩
    refine dd ?_
    refine .inl ⟨rfl,?_,trivial⟩
    rw [zC (by omega),<- qD hF hk]
    exact cC
   ·have hF:((l.map zJ).set t ([C.sl 2 [] 1 0 r0.length false]))[k]?= some (zJ x):=by rw [List.getElem?_set_ne (fun h=>hkv h.symm)];exact hg
    by_cases hlt:k < t
    ·rw [if_pos (by omega),if_pos (by omega)]
     conv=>whnf
     (refine ⟨fun _=>?_,fun h=>absurd h (by simp;omega)⟩);refine dd ?_
     (refine ⟨by omega,_,by rw [toNat_cast];exact hg,?_⟩);refine dd ?_
     refine ⟨_,_,(hp x hxm).frame rfl _,?_⟩;refine dd ?_
     refine ⟨by omega,by simp;omega,?_⟩
     refine dd ?_
     rw [e1]
     refine ⟨_,jn (by simp) hk,rfl,?_⟩
     refine dd ?_
     refine .inl ⟨rfl,?_,trivial⟩
     rw [zC (by omega),<- qD hF hk]
     refine zt.xW 2 (by (conv=>whnf);(repeat (refine ⟨rfl,?_⟩;(conv=>whnf)));exact trivial) rfl rfl rfl (jd rfl (j9 ?_)) rfl
     have lw:=low 2 (k+1) (.inl (by omega))
     rw [<- qD (z:=([.lst 1 0 []]:List C)) (n:=l.length) hF hk] at lw
     exact lw
    ·rw [if_neg (by omega),if_neg (by omega)]
     conv=>whnf
     (refine ⟨fun _=>?_,fun h=>absurd h (by simp;omega)⟩);refine dd ?_
     (refine ⟨by omega,_,by rw [toNat_cast];exact hg,?_⟩);refine dd ?_
     refine ⟨_,_,(hp x hxm).frame rfl _,?_⟩;refine dd ?_
     refine ⟨by omega,by simp;omega,?_⟩
     refine dd ?_
     rw [e1]
     refine ⟨_,jn (by simp) hk,rfl,?_⟩
     refine dd ?_
     refine .inl ⟨rfl,?_,trivial⟩
     rw [zC (by omega),<- qD hF hk]
     refine zt.xW 3 (by (conv=>whnf);(repeat (refine ⟨rfl,?_⟩;(conv=>whnf)));exact trivial) rfl rfl rfl (jd rfl (jd (j9 ?_) rfl)) rfl
     have lw:=low 3 (k+1) (.inr (by omega))
     rw [<- qD (z:=([.lst 1 0 []]:List C)) (n:=l.length) hF hk] at lw
     exact lw
  ·rw [if_neg (by omega)]
   (conv=>whnf);(refine ⟨fun h=>absurd h (by simp),fun _=>?_⟩);refine dd ?_;(refine ⟨by simp,?_⟩);(conv=>whnf)
   rw [xS (by simp)]
   exact ⟨.inl rfl,_,.refl _,rfl,rfl⟩
 refine h1.zc3 (fun B h _=>?_) (Nat.zero_le _)
 have hw:=zt.ren (B:=B) [1,2] [0] [.sl 1 [] 1 0 l.length false] [⟨1,187,0,[[]],0⟩,⟨1,0,1,(l.map zJ).set t ([C.sl 2 [] 1 0 r0.length false]),0⟩,⟨2,32,1,r0.map qY,0⟩] (by rw [show B=0 from by simpa using h];rfl) rfl rfl (zc rfl (zc (zi (zy (enc:=zJ) (fun _=>rfl) rfl l t)) rfl))
 have e:jM [1,2] [⟨1,187,0,[[]],0⟩,⟨1,0,1,(l.map zJ).set t ([C.sl 2 [] 1 0 r0.length false]),0⟩,⟨2,32,1,r0.map qY,0⟩]=[⟨1,0,1,(l.map zJ).set t ([C.sl 1 [] 1 0 r0.length false]),0⟩,⟨2,32,1,r0.map qY,0⟩]:=by
  show zK [1,2] ⟨1,0,1,(l.map zJ).set t ([C.sl 2 [] 1 0 r0.length false]),0⟩::_=_
  rw [zF (enc:=zJ) (fun _=>rfl)]
  rfl
 rw [e] at hw
 exact hw
structure zjQ (cs:List (List Int)) (t:Nat) (r0:List Int):Prop where
 sm:cs.length < 1000000000∧∀ r ∈ cs,r.length < 1000000000
 at_:cs[t]?= some r0
 ne:r0≠[]
theorem znm {cs:List (List Int)} {t:Nat} {r0:List Int} (h:zjQ cs t r0) (H:zl) (hf:qA H=true):zb Tryz.prog 130 H [lCo cs,.fn 131 [] [],.agg []] (.sl H.length [] 1 0 cs.length false) (H++[⟨1,0,1,(cs.map zJ).set t ([C.sl (H.length+1) [] 1 0 r0.length false]),0⟩,⟨2,32,1,r0.map qY,0⟩]):=by
 obtain ⟨x,l,hx⟩:∃ x l,r0=x::l:=by
  cases hh:r0 with
  | nil=>exact absurd hh h.ne
  | cons x l=>exact ⟨x,l,rfl⟩
 have hlen:l.length < 1000000000:=by
  have:=h.sm.2 r0 (List.mem_of_getElem? h.at_)
  rw [hx] at this
  simp at this
  omega
 have:=ku (zl3 cs t r0 h.at_ h.sm.1 (fun y hy=>j7 y (h.sm.2 y hy)) (zmM r0 x l hx hlen)) (zc (zi (zy (enc:=zJ) (fun _=>rfl) rfl _ _)) rfl) rfl H hf
 have e9:[(⟨1,0,1,(cs.map zJ).set t ([C.sl 1 [] 1 0 r0.length false]),0⟩:Ob),⟨2,32,1,r0.map qY,0⟩].map (zG (qP [] H.length))=[⟨1,0,1,(cs.map zJ).set t ([C.sl (H.length+1) [] 1 0 r0.length false]),0⟩,⟨2,32,1,r0.map qY,0⟩]:=by
  show zG _ ⟨1,0,1,_,0⟩::_=_
  rw [zB (enc:=zJ) (fun _=>rfl)]
  rfl
 rw [e9] at this
 exact this
theorem za2 (w:Wor) (h:qC w) (x:Int) (l:List Int) (hx:w.pins=x::l):zb Tryz.prog 83 [] [Cw w] (.agg [I w.zn,I w.current,I w.lock,.sl 0 [] 1 0 w.pins.length false,lV w.zd,lL w.ze,lCo w.counts,lR w.zm]) [⟨2,3,1,w.pins.map encI,0⟩]:=by
 have hl:l.length < 1000000000:=by have:=h.pins;rw [hx] at this;simp at this;omega
 have hc:=zg3 x l hl
 rw [<- hx] at hc
 refine zaD (fn:=Tryz.f83) Tryz.func83 rfl ?_;conv=>whnf
 refine zr [] (hc) rfl rfl rfl rfl rfl rfl ?_;refine dd ?_
 refine zr [] (vC w.zd h.zd.1 fun v hv=>ja v (h.zd.2 v hv)) rfl rfl rfl rfl rfl rfl ?_;refine dd ?_
 refine ⟨_,_,(yy w.ze h.ze).frame rfl _,?_⟩;refine dd ?_
 refine zr [] (vB w.counts h.counts.1 fun r hr=>j7 r (h.counts.2 r hr)) rfl rfl rfl rfl rfl rfl ?_;refine dd ?_
 refine ⟨_,_,(vR w.zm h.zm).frame rfl _,?_⟩;refine dd ?_
 refine ⟨.inl rfl,_,_,(zt.zS 1 0 4 rfl rfl rfl rfl (.inr rfl) rfl (by simp) (shut_map (enc:=zx) (fun _=>rfl) w.zd) (zY rfl)).trans (zt.zS 1 0 6 rfl rfl rfl rfl (.inr rfl) rfl (by simp) (shut_map (enc:=zJ) (fun _=>rfl) w.counts) (zY rfl)),rfl,?_⟩
 exact zt.ren [3] [0] _ _ rfl rfl rfl (zc rfl (zc rfl (zc rfl (zc rfl (zc (zi fun r hr c hc=>((shut_map (enc:=zx) (fun _=>rfl) w.zd) r hr c hc).2) (zi fun r hr c hc=>((shut_map (enc:=zJ) (fun _=>rfl) w.counts) r hr c hc).2))))))
theorem zh7 {B:Nat} (sel m:List Nat) {t t2:List C} {H H2:zl} (hB:zfq B 0 sel=true) (z7:sel.all (fun id=>Nat.blt id H.length)=true) (hnd:xf sel=true) (hfl:qA H=true) (et:(zcC m 0 t).map (xg sel 9)=t2) (e:jM sel H=H2):zt B ⟨t,H⟩ ⟨t2,H2⟩:=by
 subst et e
 exact zt.ren sel m t H hB z7 hnd hfl
theorem xY (w:Wor) (h:qC w) (x:Lis) (l:List Lis) (hx:w.ze=x::l):zb Tryz.prog 83 [] [Cw w] (.agg [I w.zn,I w.current,I w.lock,lI w.pins,lV w.zd,.sl 0 [] 4 0 w.ze.length false,lCo w.counts,lR w.zm]) [⟨2,77,4,w.ze.map ql,0⟩]:=by
 have hl:l.length < 1000000000:=by have:=h.ze;rw [hx] at this;simp at this;omega
 have hc:=zlU x l hl
 rw [<- hx] at hc
 refine zaD (fn:=Tryz.f83) Tryz.func83 rfl ?_;conv=>whnf
 refine ⟨_,_,(xX w.pins h.pins).frame rfl _,?_⟩;refine dd ?_
 refine zr [] (vC w.zd h.zd.1 fun v hv=>ja v (h.zd.2 v hv)) rfl rfl rfl rfl rfl rfl ?_;refine dd ?_
 refine zr [] (hc) rfl rfl rfl rfl rfl rfl ?_;refine dd ?_
 refine zr [] (vB w.counts h.counts.1 fun r hr=>j7 r (h.counts.2 r hr)) rfl rfl rfl rfl rfl rfl ?_;refine dd ?_
 refine ⟨_,_,(vR w.zm h.zm).frame rfl _,?_⟩;refine dd ?_
 refine ⟨.inl rfl,_,_,(zt.zS 1 0 4 rfl rfl rfl rfl (.inr rfl) rfl (by simp) (shut_map (enc:=zx) (fun _=>rfl) w.zd) (zY rfl)).trans (zt.zS 1 0 6 rfl rfl rfl rfl (.inr rfl) rfl (by simp) (shut_map (enc:=zJ) (fun _=>rfl) w.counts) (zY rfl)),rfl,?_⟩
 exact zt.ren [4] [0] _ _ rfl rfl rfl (zc rfl (zc rfl (zc rfl (zc (zi fun r hr c hc=>((shut_map (enc:=zx) (fun _=>rfl) w.zd) r hr c hc).2) (zc rfl (zi fun r hr c hc=>((shut_map (enc:=zJ) (fun _=>rfl) w.counts) r hr c hc).2))))))
theorem za1 (w:Wor) (h:qC w) (cs:List (List Int)) (hcs:w.counts=cs) {t:Nat} {r0:List Int} (hp:zjQ cs t r0):zb Tryz.prog 83 [] [Cw w] (.agg [I w.zn,I w.current,I w.lock,lI w.pins,lV w.zd,lL w.ze,.sl 0 [] 1 0 cs.length false,lR w.zm]) [⟨1,0,1,(cs.map zJ).set t ([C.sl 1 [] 1 0 r0.length false]),0⟩,⟨2,32,1,r0.map qY,0⟩]:=by
 subst hcs
 have own:∀ i,∀ r ∈ (w.counts.map zJ).set t ([C.sl i [] 1 0 r0.length false]),∀ c ∈ r,zA c=true:=fun i=>zy (enc:=zJ) (fun _=>rfl) rfl _ _
 refine zaD (fn:=Tryz.f83) Tryz.func83 rfl ?_;conv=>whnf
 refine ⟨_,_,(xX w.pins h.pins).frame rfl _,?_⟩;refine dd ?_
 refine zr [] (vC w.zd h.zd.1 fun v hv=>ja v (h.zd.2 v hv)) rfl rfl rfl rfl rfl rfl ?_;refine dd ?_
 refine ⟨_,_,(yy w.ze h.ze).frame rfl _,?_⟩;refine dd ?_
 refine ⟨_,_,znm hp _ (zc rfl (zc rfl (zc rfl rfl))),?_⟩
 refine dd ?_
 refine ⟨_,_,(vR w.zm h.zm).frame rfl _,?_⟩;refine dd ?_
 refine ⟨.inl rfl,_,_,zt.zS 1 0 4 rfl rfl rfl rfl (.inr rfl) rfl (by simp) (shut_map (enc:=zx) (fun _=>rfl) w.zd) (zY rfl),rfl,?_⟩
 refine zh7 [4,5] [0] rfl rfl rfl (zc rfl (zc rfl (zc rfl (zc (zi fun r hr c hc=>((shut_map (enc:=zx) (fun _=>rfl) w.zd) r hr c hc).2) (zc (zi (own 5)) rfl))))) rfl ?_
 show zK [4,5] ⟨1,0,1,(w.counts.map zJ).set t ([C.sl 5 [] 1 0 r0.length false]),0⟩::_=_
 rw [zF (enc:=zJ) (fun _=>rfl)]
 rfl
theorem znh (w:Wor) (h:qC w) (H:zl) (hf:qA H=true):zb Tryz.prog 130 H [lCo w.counts,.fn 131 [] [],.agg []] (.sl H.length [] 1 0 w.counts.length false) (H++[⟨2,108,1,w.counts.map zJ,0⟩]):=
 ku (vB w.counts h.counts.1 fun r hr=>j7 r (h.counts.2 r hr)) rfl rfl H hf
theorem xu (w:Wor) (h:qC w) (vs:List Ver) (hvs:w.zd=vs) {v:Nat} {v0:Ver} {g:Nat} {g0:Gr} {e:Nat} {e0:En} (hp:zcf vs v v0 g g0 e e0):zb Tryz.prog 83 [] [Cw w] (.agg [I w.zn,I w.current,I w.lock,lI w.pins,.sl 0 [] 5 0 vs.length false,lL w.ze,lCo w.counts,lR w.zm]) [⟨1,0,5,(vs.map zx).set v ((zL v0.snap++[C.sl 1 [] 2 0 v0.zf.length false,Bo v0.zD])),0⟩,⟨1,0,2,(v0.zf.map zw).set g ([U g0.zu,C.sl 2 [] 3 0 g0.ends.length false]),0⟩,⟨1,0,3,(g0.ends.map zo).set e ([U e0.head,C.sl 3 [] 1 0 e0.next.length false,I e0.zj]),0⟩,⟨2,3,1,e0.next.map encI,0⟩]:=by
 subst hvs
 have own:∀ i,∀ r ∈ (w.zd.map zx).set v ((zL v0.snap++[C.sl i [] 2 0 v0.zf.length false,Bo v0.zD])),∀ c ∈ r,zA c=true:=fun i=>zy (enc:=zx) (fun _=>rfl) rfl _ _
 refine zaD (fn:=Tryz.f83) Tryz.func83 rfl ?_;conv=>whnf
 refine ⟨_,_,(xX w.pins h.pins).frame rfl _,?_⟩;refine dd ?_
 refine ⟨_,_,znn hp _ rfl,?_⟩
 refine dd ?_
 refine ⟨_,_,(yy w.ze h.ze).frame rfl _,?_⟩;refine dd ?_
 refine ⟨_,_,znh w h _ (zc rfl (zc rfl (zc rfl (zc (zi (own 4)) (zc (zi (zy (enc:=zw) (fun _=>rfl) rfl _ _)) (zc (zi (zy (enc:=zo) (fun _=>rfl) rfl _ _)) rfl)))))),?_⟩
 refine dd ?_
 refine ⟨_,_,(vR w.zm h.zm).frame rfl _,?_⟩;refine dd ?_
 refine ⟨.inl rfl,_,_,zt.zS 1 0 6 rfl rfl rfl rfl (.inr rfl) rfl (by simp) (shut_map (enc:=zJ) (fun _=>rfl) w.counts) (zY rfl),rfl,?_⟩
 refine zh7 [3,4,5,6] [0] rfl rfl rfl (zc rfl (zc rfl (zc rfl (zc (zi (own 4)) (zc (zi (zy (enc:=zw) (fun _=>rfl) rfl _ _)) (zc (zi (zy (enc:=zo) (fun _=>rfl) rfl _ _)) (zc rfl (zi fun r hr c hc=>((shut_map (enc:=zJ) (fun _=>rfl) w.counts) r hr c hc).2)))))))) rfl ?_
 show zK [3,4,5,6] ⟨1,0,5,(w.zd.map zx).set v ((zL v0.snap++[C.sl 4 [] 2 0 v0.zf.length false,Bo v0.zD])),0⟩::zK [3,4,5,6] ⟨1,0,2,(v0.zf.map zw).set g ([U g0.zu,C.sl 5 [] 3 0 g0.ends.length false]),0⟩::zK [3,4,5,6] ⟨1,0,3,(g0.ends.map zo).set e ([U e0.head,C.sl 6 [] 1 0 e0.next.length false,I e0.zj]),0⟩::_=_
 rw [zF (enc:=zx) (fun _=>rfl),zF (enc:=zw) (fun _=>rfl),zF (enc:=zo) (fun _=>rfl)]
 rfl
end Go.Wor
namespace Go.Wor
open Go.Ab Go.Proofs Go.Hy Go.Gat Go.Nam Go.Hos Go.Con Go.Sna
def inV (i n:Int):Bool:=decide (0<=i) && decide (i < n)
theorem vi (i n:Int):zb Tryz.prog 31 [] [I i,I n] (Bo (inV i n)) []:=by
 refine zb.zp (fn:=Tryz.f31) Tryz.func31 rfl ?_
 conv=>whnf
 refine ⟨fun h1=>?_,fun h1=>?_⟩
 ·refine dd ?_
  refine ⟨fun h2=>?_,fun h2=>?_⟩
  ·refine dd ?_
   (exact ⟨.inl rfl,_,.refl _,congrArg (fun b=>some (C.v (Value.bool b))) (by unfold inV;simp at h1 h2 ⊢;omega)⟩)
  ·refine dd ?_
   (exact ⟨.inl rfl,_,.refl _,congrArg (fun b=>some (C.v (Value.bool b))) (by unfold inV;simp at h1 h2 ⊢;omega)⟩)
 ·refine dd ?_
  (exact ⟨.inl rfl,_,.refl _,congrArg (fun b=>some (C.v (Value.bool b))) (by unfold inV;simp at h1 ⊢;omega)⟩)
theorem ziW {H:zl} {f:FuncId} {caps:List C} {l:List Int} (p:Int->Bool) (hcb:qk Tryz.prog f=true) (hp:∀ r ∈ l,zb Tryz.prog f H ([I r]++caps) (Bo (p r)) H) (hl:l.length < 4611686018427387904):
  zb Tryz.prog 25 H [lI l,.fn f [] caps] (I (match l.findIdx? p with | some i=>(i:Int) | none=> -1)) H:=by
 refine zb.zZ (fn:=Tryz.f25) Tryz.func25 rfl ?_
 conv=>whnf
 refine qa.inv (fun n t1 H1=>∃ k,k+n=l.length∧H1=H∧(∀ j,j < k->∀ r,l[j]?= some r->p r=false)∧
   t1=[lI l,.fn f [] caps,.za,.za,I 0,.za,.za,I (l.map encI).length,I k,.za,.za,.za,.za,.za,.za,.za,.za,.za,.za]) l.length ?_ ?_
 ·exact ⟨_,_,zt.mask [0,1,4,7,8] _ _,0,by simp,rfl,by simp,rfl⟩
 rintro n _ _ ⟨k,hk,rfl,hno,rfl⟩
 conv=>whnf
 refine ⟨fun h=>?_,fun h=>?_⟩
 ·conv=>whnf
  have hlt:k < l.length:=by simpa using h
  refine ⟨by omega,encI l[k],by simp [hlt],?_⟩
  conv=>whnf
  rw [hcb]
  refine ⟨_,_,hp _ (List.getElem_mem hlt),?_⟩
  conv=>whnf
  refine ⟨fun h2=>?_,fun h2=>?_⟩
  ·conv=>whnf
   refine .inr ⟨by simp,?_⟩
   conv=>whnf
   refine ⟨.inl rfl,_,.refl _,rfl,?_⟩
   have:l.findIdx? p=some k:=by
    rw [List.findIdx?_eq_some_iff_getElem]
    refine ⟨hlt,h2,fun j hj=>?_⟩
    simp [hno j hj _ (List.getElem?_eq_getElem (by omega))]
   rw [this]
   rfl
  ·conv=>whnf
   refine .inl ⟨rfl,n - 1,_,_,by omega,zt.mask [0,1,4,7,8] _ _,k+1,by omega,rfl,?_,?_⟩
   ·intro j hj r hr
    by_cases hjk:j=k
    ·subst hjk
     rw [List.getElem?_eq_getElem hlt] at hr
     cases hr
     exact h2
    ·exact hno j (by omega) r hr
   ·rw [zC (by omega)];rfl
 ·conv=>whnf
  refine .inr ⟨by simp,?_⟩
  conv=>whnf
  refine ⟨.inl rfl,_,.refl _,rfl,?_⟩
  have:l.findIdx? p=none:=by
   rw [List.findIdx?_eq_none_iff]
   intro x hx
   obtain ⟨j,hj⟩:=List.mem_iff_getElem?.1 hx
   have hjl:=(List.getElem?_eq_some_iff.1 hj).1
   have:¬k < l.length:=by simpa using h
   exact hno j (by omega) x hj
  rw [this]
  rfl
theorem ziz {H:zl} {f:FuncId} {caps:List C} {l:List Int} (p:Int->Bool) (hcb:qk Tryz.prog f=true) (hp:∀ r ∈ l,zb Tryz.prog f H ([I r]++caps) (Bo (p r)) H) (hl:l.length < 4611686018427387904):
  zb Tryz.prog 50 H [lI l,.fn f [] caps] (Bo (l.any p)) H:=by
 refine zb.zZ (fn:=Tryz.f50) Tryz.func50 rfl ?_
 conv=>whnf
 refine ⟨_,_,ziW p hcb hp hl,?_⟩
 refine dd ?_
 rw [show decide ((match l.findIdx? p with | some i=>((i:Nat):Int) | none=>(-1:Int))≥(0:Int))=l.any p from zc9 l p]
 refine ⟨fun h=>?_,fun h=>?_⟩ <;> rw [h]
 ·refine dd ?_
  exact ⟨.inl rfl,_,.refl _,rfl,rfl⟩
 ·refine dd ?_
  exact ⟨.inl rfl,_,.refl _,rfl,rfl⟩
theorem ziV {H:zl} {f:FuncId} {caps:List C} {l:List En} (p:En->Bool) (hcb:qk Tryz.prog f=true) (hp:∀ r ∈ l,zb Tryz.prog f H ([Go.Slp.Ev r]++caps) (Bo (p r)) H) (hl:l.length < 4611686018427387904):
  zb Tryz.prog 74 H [lE l,.fn f [] caps] (I (match l.findIdx? p with | some i=>(i:Int) | none=> -1)) H:=by
 refine zb.zZ (fn:=Tryz.f74) Tryz.func74 rfl ?_
 conv=>whnf
 refine qa.inv (fun n t1 H1=>∃ k,k+n=l.length∧H1=H∧(∀ j,j < k->∀ r,l[j]?= some r->p r=false)∧
   t1=[lE l,.fn f [] caps,.za,.za,I 0,.za,.za,I (l.map zo).length,I k,.za,.za,.za,.za,.za,.za,.za,.za,.za,.za]) l.length ?_ ?_
 ·exact ⟨_,_,zt.mask [0,1,4,7,8] _ _,0,by simp,rfl,by simp,rfl⟩
 rintro n _ _ ⟨k,hk,rfl,hno,rfl⟩
 conv=>whnf
 refine ⟨fun h=>?_,fun h=>?_⟩
 ·conv=>whnf
  have hlt:k < l.length:=by simpa using h
  refine ⟨by omega,zo l[k],by simp [hlt],?_⟩
  conv=>whnf
  rw [hcb]
  refine ⟨_,_,hp _ (List.getElem_mem hlt),?_⟩
  conv=>whnf
  refine ⟨fun h2=>?_,fun h2=>?_⟩
  ·conv=>whnf
   refine .inr ⟨by simp,?_⟩
   conv=>whnf
   refine ⟨.inl rfl,_,.refl _,rfl,?_⟩
   have:l.findIdx? p=some k:=by
    rw [List.findIdx?_eq_some_iff_getElem]
    refine ⟨hlt,h2,fun j hj=>?_⟩
    simp [hno j hj _ (List.getElem?_eq_getElem (by omega))]
   rw [this]
   rfl
  ·conv=>whnf
   refine .inl ⟨rfl,n - 1,_,_,by omega,zt.mask [0,1,4,7,8] _ _,k+1,by omega,rfl,?_,?_⟩
   ·intro j hj r hr
    by_cases hjk:j=k
    ·subst hjk
     rw [List.getElem?_eq_getElem hlt] at hr
     cases hr
     exact h2
    ·exact hno j (by omega) r hr
   ·rw [zC (by omega)];rfl
 ·conv=>whnf
  refine .inr ⟨by simp,?_⟩
  conv=>whnf
  refine ⟨.inl rfl,_,.refl _,rfl,?_⟩
  have:l.findIdx? p=none:=by
   rw [List.findIdx?_eq_none_iff]
   intro x hx
   obtain ⟨j,hj⟩:=List.mem_iff_getElem?.1 hx
   have hjl:=(List.getElem?_eq_some_iff.1 hj).1
   have:¬k < l.length:=by simpa using h
   exact hno j (by omega) x hj
  rw [this]
  rfl
theorem ziy {H:zl} {f:FuncId} {caps:List C} {l:List En} (p:En->Bool) (hcb:qk Tryz.prog f=true) (hp:∀ r ∈ l,zb Tryz.prog f H ([Go.Slp.Ev r]++caps) (Bo (p r)) H) (hl:l.length < 4611686018427387904):
  zb Tryz.prog 55 H [lE l,.fn f [] caps] (Bo (l.any p)) H:=by
 refine zb.zZ (fn:=Tryz.f55) Tryz.func55 rfl ?_
 conv=>whnf
 refine ⟨_,_,ziV p hcb hp hl,?_⟩
 refine dd ?_
 rw [show decide ((match l.findIdx? p with | some i=>((i:Nat):Int) | none=>(-1:Int))≥(0:Int))=l.any p from zc9 l p]
 refine ⟨fun h=>?_,fun h=>?_⟩ <;> rw [h]
 ·refine dd ?_
  exact ⟨.inl rfl,_,.refl _,rfl,rfl⟩
 ·refine dd ?_
  exact ⟨.inl rfl,_,.refl _,rfl,rfl⟩
def vM (ep p:Int):Bool:=decide (p < 0) || decide (p > ep+1)
theorem zeR (w:Wor) (p:Int) (h0:0<=w.zn) (h1:w.zn<=1000000000000):zb Tryz.prog 51 [⟨1,48,8,[zQ w],0⟩] ([I p]++[.ref 0 [] 8 0 0]) (Bo (vM w.zn p)) [⟨1,48,8,[zQ w],0⟩]:=by
 have e:IntKind.i64.wrap (w.zn+1)=w.zn+1:=jw (by omega) (by omega)
 refine zb.zZ (fn:=Tryz.f51) Tryz.func51 rfl ?_
 conv=>whnf
 refine ⟨fun h2=>?_,fun h2=>?_⟩
 ·refine dd ?_
  exact ⟨.inl rfl,_,.refl _,rfl,congrArg (fun b=>some (C.v (Value.bool b))) (by unfold vM;rw [h2];rfl)⟩
 ·refine dd ?_
  rw [e]
  refine ⟨fun h3=>?_,fun h3=>?_⟩
  ·refine dd ?_
   exact ⟨.inl rfl,_,.refl _,rfl,congrArg (fun b=>some (C.v (Value.bool b))) (by unfold vM;rw [h2,h3];rfl)⟩
  ·refine dd ?_
   exact ⟨.inl rfl,_,.refl _,rfl,congrArg (fun b=>some (C.v (Value.bool b))) (by unfold vM;rw [h2,h3];rfl)⟩
def jh (w:Wor):Bool:=decide (1<=w.pins.length) && decide (w.pins.length<=8) && decide (w.counts.length=w.pins.length) && kK w.counts && decide (0<=w.zn) && decide (w.zn<=1000000000000) && (decide (w.lock=0) || decide (w.lock=1)) && !w.pins.any (vM w.zn)
theorem zgf (w:Wor) (hp:w.pins.length < 4000000000000000000) (hc:w.counts.length < 4000000000000000000):zb Tryz.prog 37 [] [Cw w] (Bo (jh w)) []:=by
 have m1:(w.pins.map encI).length=w.pins.length:=List.length_map ..
 have m2:(w.counts.map zJ).length=w.counts.length:=List.length_map ..
 refine zb.zp (fn:=Tryz.f37) Tryz.func37 rfl ?_
 conv=>whnf
 rw [m1]
 refine ⟨fun h1=>?_,fun h1=>?_⟩
 ·(have e:jh w=false:=by (unfold jh;(rw [show decide (1<=w.pins.length)=false from by rw [decide_eq_false_iff_not];have:=of_decide_eq_true h1;omega]);simp));rw [e];refine dd ?_;(repeat ((first | apply ya | apply yb);refine dd ?_));exact ⟨.inl rfl,_,.refl _,rfl⟩
 refine dd ?_
 refine ⟨fun h2=>?_,fun h2=>?_⟩
 ·(have e:jh w=false:=by (unfold jh;(rw [show decide (w.pins.length<=8)=false from by simp at h2 ⊢;omega]);simp));rw [e];refine dd ?_;(repeat ((first | apply ya | apply yb);refine dd ?_));exact ⟨.inl rfl,_,.refl _,rfl⟩
 refine dd ?_
 rw [m2]
 refine ⟨fun h3=>?_,fun h3=>?_⟩
 ·(have e:jh w=false:=by (unfold jh;(rw [show decide (w.counts.length=w.pins.length)=false from by rw [decide_eq_false_iff_not];intro hh;simp [hh] at h3]);simp));rw [e];refine dd ?_;(repeat ((first | apply ya | apply yb);refine dd ?_));exact ⟨.inl rfl,_,.refl _,rfl⟩
 refine dd ?_
 refine ⟨_,_,(ze0 w.counts hc).frame rfl _,?_⟩;refine dd ?_
 refine ⟨fun h4=>?_,fun h4=>?_⟩
 rotate_left
 ·(have e:jh w=false:=by (unfold jh;(rw [h4]);simp));rw [e];refine dd ?_;(repeat ((first | apply ya | apply yb);refine dd ?_));exact ⟨.inl rfl,_,.refl _,rfl⟩
 refine dd ?_
 refine ⟨fun h5=>?_,fun h5=>?_⟩
 ·(have e:jh w=false:=by (unfold jh;(rw [show decide (0<=w.zn)=false from by simp at h5 ⊢;omega]);simp));rw [e];refine dd ?_;(repeat ((first | apply ya | apply yb);refine dd ?_));exact ⟨.inl rfl,_,.refl _,rfl⟩
 refine dd ?_
 refine ⟨fun h6=>?_,fun h6=>?_⟩
 ·(have e:jh w=false:=by (unfold jh;(rw [show decide (w.zn<=1000000000000)=false from by simp at h6 ⊢;omega]);simp));rw [e];refine dd ?_;(repeat ((first | apply ya | apply yb);refine dd ?_));exact ⟨.inl rfl,_,.refl _,rfl⟩
 refine dd ?_
 have b0:0<=w.zn:=by simp at h5;omega
 have b1:w.zn<=1000000000000:=by simp at h6;omega
 have hcon:=ziz (H:=[⟨1,48,8,[zQ w],0⟩]) (f:=51) (l:=w.pins) (caps:=[.ref 0 [] 8 0 0]) (vM w.zn) (by kernel_rfl) (fun r _=>zeR w r b0 b1) (by omega)
 have g0:jh w=((decide (w.lock=0) || decide (w.lock=1)) && !w.pins.any (vM w.zn)):=by
  have h3':w.counts.length=w.pins.length:=by simp at h3;omega
  unfold jh
  rw [show decide (1<=w.pins.length)=true from by rw [decide_eq_true_iff];have:=of_decide_eq_false h1;omega,show decide (w.pins.length<=8)=true from by simp at h2 ⊢;omega,show decide (w.counts.length=w.pins.length)=true from by simpa using h3',h4,show decide (0<=w.zn)=true from by simpa using b0,show decide (w.zn<=1000000000000)=true from by simpa using b1]
  rfl
 have fin:∀ hl:(decide (w.lock=0) || decide (w.lock=1))=true,jh w=!w.pins.any (vM w.zn):=fun hl=>by rw [g0,hl];rfl
 refine ⟨fun h7=>?_,fun h7=>?_⟩
 ·refine dd ?_
  refine ⟨fun h8=>?_,fun h8=>?_⟩
  ·have e:jh w=false:=by rw [g0,show (decide (w.lock=0) || decide (w.lock=1))=false from by simp at h7 h8 ⊢;omega];rfl
   rw [e]
   refine dd ?_
   (repeat ((first | apply ya | apply yb);refine dd ?_))
   exact ⟨.inl rfl,_,.refl _,rfl⟩
  rw [fin (by simp at h8 ⊢;omega)]
  refine dd ?_
  (repeat ((first | apply ya | apply yb);refine dd ?_))
  refine zr [0] (hcon) rfl rfl rfl rfl rfl rfl ?_;refine dd ?_
  refine ⟨fun h9=>?_,fun h9=>?_⟩
  ·refine dd ?_
   (exact ⟨.inl rfl,_,.refl _,congrArg (fun b=>some (C.v (Value.bool b))) (by rw [h9];rfl)⟩)
  ·refine dd ?_
   (exact ⟨.inl rfl,_,.refl _,congrArg (fun b=>some (C.v (Value.bool b))) (by rw [h9];rfl)⟩)
 ·rw [fin (by simp at h7 ⊢;omega)]
  refine dd ?_
  (repeat ((first | apply ya | apply yb);refine dd ?_))
  refine zr [0] (hcon) rfl rfl rfl rfl rfl rfl ?_;refine dd ?_
  refine ⟨fun h9=>?_,fun h9=>?_⟩
  ·refine dd ?_
   (exact ⟨.inl rfl,_,.refl _,congrArg (fun b=>some (C.v (Value.bool b))) (by rw [h9];rfl)⟩)
  ·refine dd ?_
   (exact ⟨.inl rfl,_,.refl _,congrArg (fun b=>some (C.v (Value.bool b))) (by rw [h9];rfl)⟩)
def kz (x:Clu) (e:En):Bool:=!Go.Slp.isV e || (e.next.length:Int) != x.xy
theorem zeA (x:Clu) (e:En) (he:e.ok):zb Tryz.prog 54 [⟨1,82,4,[jj x],0⟩] ([Go.Slp.Ev e]++[.ref 0 [] 4 0 0]) (Bo (kz x e)) [⟨1,82,4,[jj x],0⟩]:=by
 have m1:(e.next.map encI).length=e.next.length:=List.length_map ..
 refine zb.zZ (fn:=Tryz.f54) Tryz.func54 rfl ?_
 conv=>whnf
 refine ⟨_,_,(Go.Slp.kf e he).frame rfl _,?_⟩;refine dd ?_
 refine ⟨fun h1=>?_,fun h1=>?_⟩
 rotate_left
 ·refine dd ?_
  exact ⟨.inl rfl,_,zt.keep [3] 1 _ _ rfl rfl rfl rfl,rfl,congrArg (fun b=>some (C.v (Value.bool b))) (by unfold kz;rw [h1];rfl)⟩
 ·refine dd ?_
  rw [m1]
  refine ⟨fun h2=>?_,fun h2=>?_⟩
  ·refine dd ?_
   exact ⟨.inl rfl,_,zt.keep [3] 1 _ _ rfl rfl rfl rfl,rfl,congrArg (fun b=>some (C.v (Value.bool b))) (by unfold kz;rw [h1,h2];rfl)⟩
  ·refine dd ?_
   exact ⟨.inl rfl,_,zt.keep [3] 1 _ _ rfl rfl rfl rfl,rfl,congrArg (fun b=>some (C.v (Value.bool b))) (by unfold kz;rw [h1,h2];rfl)⟩
structure OkV (v:Ver):Prop where
 snap:vb v.snap
 zf:v.zf.length < 1000000000000
 ends : ∀ g ∈ v.zf, g.ends.length < 1000000000000 ∧ ∀ e ∈ g.ends, e.ok
def zcw (v:Ver) (i:Nat):Bool:=match v.zf[i]?,v.snap.zk[i]? with
 | some g,some x=>decide (g.ends.length=x.zI.length) && !g.ends.any (kz x)
 | _,_=>true
def zcd (v:Ver):Bool:=yR v.snap && decide (v.zf.length=v.snap.zk.length) && (List.range v.zf.length).all (zcw v)
theorem ze4 (v:Ver) (hv:OkV v):zb Tryz.prog 39 [] [Cv v] (Bo (zcd v)) []:=by
 have m1:(v.zf.map zw).length=v.zf.length:=List.length_map ..
 have m2:(v.snap.zk.map jj).length=v.snap.zk.length:=List.length_map ..
 have hgl:=hv.zf
 refine zb.zp (fn:=Tryz.f39) Tryz.func39 rfl ?_
 conv=>whnf
 refine ⟨_,_,(zbx v.snap hv.snap).frame rfl _,?_⟩;refine dd ?_
 refine ⟨fun h1=>?_,fun h1=>?_⟩
 rotate_left
 ·have e:zcd v=false:=by unfold zcd;rw [h1];rfl
  rw [e]
  refine dd ?_
  (repeat ((first | apply ya | apply yb);refine dd ?_))
  exact ⟨.inl rfl,_,.refl _,rfl⟩
 refine dd ?_
 rw [m1,m2]
 refine ⟨fun h2=>?_,fun h2=>?_⟩
 ·have e:zcd v=false:=by unfold zcd;rw [show decide (v.zf.length=v.snap.zk.length)=false from by rw [decide_eq_false_iff_not];intro hh;simp [hh] at h2,Bool.and_false];rfl
  rw [e]
  refine dd ?_
  (repeat ((first | apply ya | apply yb);refine dd ?_))
  exact ⟨.inl rfl,_,.refl _,rfl⟩
 have h2':v.zf.length=v.snap.zk.length:=by simp at h2;omega
 refine dd ?_
 (repeat ((first | apply ya | apply yb);refine dd ?_))
 rw [m1]
 refine qa.seq v.zf.length (fun k=>[.za,.ref 0 [] 5 0 0,Bo false,.za,.za,.za,.za,.za,.za,.za,.za,.za,.za,.za,.za,.za,.za,.za,.za,.za,.za,.za,lG v.zf,I v.zf.length,I k,.za,.za,.za,.za,.za,.za,.za,.za,.za,.za,.za,.za,.za,.za,.za,.za,.za,.za,.za,.za,.za,.za,.za,.za,.za]) (fun k=>[⟨1,71,5,[zx v],0⟩]) (fun k=>∀ j,j < k->zcw v j=true) ?_ (by simp) (fun k hk hr=>?_) (fun hr=>?_)
 ·exact cC
 ·obtain ⟨g,hg⟩:∃ g,g=v.zf[k]:=⟨_,rfl⟩
  obtain ⟨x,hx⟩:∃ x,x=v.snap.zk[k]'(by omega):=⟨_,rfl⟩
  have gg:(v.zf.map zw)[k]?= some (zw g):=by rw [List.getElem?_map,List.getElem?_eq_getElem hk,hg];rfl
  have gx:(v.snap.zk.map jj)[k]?= some (jj x):=by rw [List.getElem?_map,List.getElem?_eq_getElem (by omega),hx];rfl
  have hgm:g ∈ v.zf:=by rw [hg];exact List.getElem_mem hk
  have me:(g.ends.map zo).length=g.ends.length:=List.length_map ..
  have mh:(x.zI.map xZ).length=x.zI.length:=List.length_map ..
  have hd:zcw v k=(decide (g.ends.length=x.zI.length) && !g.ends.any (kz x)):=by
   unfold zcw
   rw [List.getElem?_eq_getElem hk,List.getElem?_eq_getElem (by omega),<- hg,<- hx]
  have bad:zcw v k=false->zcd v=false:=fun h=>by
   have:(List.range v.zf.length).all (zcw v)=false:=by rw [List.all_eq_false];exact ⟨k,by simpa using hk,by simp [h]⟩
   unfold zcd
   rw [this,Bool.and_false]
  have hcon:=ziy (H:=[⟨1,82,4,[jj x],0⟩]) (f:=54) (l:=g.ends) (caps:=[.ref 0 [] 4 0 0]) (kz x) (by kernel_rfl) (fun r hr=>zeA x r ((hv.ends g hgm).2 r hr)) (by have:=(hv.ends g hgm).1;omega)
  conv=>whnf
  (refine ⟨fun _=>?_,fun h=>absurd h (by simp;omega)⟩);refine dd ?_
  (refine ⟨by omega,_,by rw [toNat_cast];exact gg,?_⟩);refine dd ?_
  (refine ⟨by omega,_,by rw [toNat_cast];exact gx,?_⟩);refine dd ?_
  rw [me,mh]
  refine ⟨fun h3=>?_,fun h3=>?_⟩
  ·rw [bad (by rw [hd,show decide (g.ends.length=x.zI.length)=false from by rw [decide_eq_false_iff_not];intro hh;simp [hh] at h3];rfl)]
   refine dd ?_
   (repeat ((first | apply ya | apply yb);refine dd ?_))
   (refine .inr ⟨by simp,?_⟩);(conv=>whnf)
   exact ⟨.inl rfl,_,.refl _,rfl⟩
  refine dd ?_
  refine zr [2] (hcon) rfl rfl rfl rfl rfl rfl ?_;refine dd ?_
  refine ⟨fun h4=>?_,fun h4=>?_⟩
  ·rw [bad (by rw [hd,h4,Bool.not_true,Bool.and_false])]
   refine dd ?_
   (repeat ((first | apply ya | apply yb);refine dd ?_))
   (refine .inr ⟨by simp,?_⟩);(conv=>whnf)
   exact ⟨.inl rfl,_,.refl _,rfl⟩
  refine dd ?_
  (repeat ((first | apply ya | apply yb);refine dd ?_))
  refine .inl ⟨rfl,?_,fun j hj=>?_⟩
  ·rw [zC (by omega)]
   exact cE 1
  ·by_cases e:j=k
   ·subst e
    rw [hd,h4]
    simp at h3 ⊢
    omega
   ·exact hr j (by omega)
 ·have e:zcd v=true:=by
   unfold zcd
   rw [h1,show decide (v.zf.length=v.snap.zk.length)=true from by simpa using h2',Bool.true_and,Bool.true_and,List.all_eq_true]
   exact fun i hi=>hr i (by simpa using hi)
  rw [e]
  (conv=>whnf);(refine ⟨fun h=>absurd h (by simp),fun _=>?_⟩);refine dd ?_;(refine ⟨by simp,?_⟩);(conv=>whnf)
  exact ⟨.inl rfl,_,.refl _,rfl⟩
end Go.Wor
namespace Go.Wor
open Go.Ab Go.Proofs Go.Hy Go.Gat Go.Nam Go.Hos Go.Con Go.Sna
def xD (l:List Ret):List (Int × Value):=l.foldl (fun m r=>k4 m r.version (Value.bool r.gone)) []
def yc (l:List Ret) (i:Int):Bool:=match ((jz (xD l) i).bind fun j=>((xD l)[j]?).map (·.2):Option Value) with
 | some (.bool b)=>b
 | _=>false
theorem zlk {m:List (Int × Value)} (h:∀ kv ∈ m,∃ b,kv.2=Value.bool b) (k:Int) (b:Bool):∀ kv ∈ k4 m k (Value.bool b),∃ b,kv.2=Value.bool b:=fun kv hm=>by
 unfold k4 at hm
 split at hm
 ·rcases List.mem_or_eq_of_mem_set hm with hm | rfl
  ·exact h kv hm
  ·exact ⟨b,rfl⟩
 ·rcases List.mem_append.1 hm with hm | hm
  ·exact h kv hm
  ·rw [List.mem_singleton.1 hm];exact ⟨b,rfl⟩
theorem ziO (l:List Ret):∀ kv ∈ xD l,∃ b,kv.2=Value.bool b:=by
 unfold xD
 suffices key:∀ (l:List Ret) (m:List (Int × Value)),(∀ kv ∈ m,∃ b,kv.2=Value.bool b)->∀ kv ∈ l.foldl (fun m r=>k4 m r.version (Value.bool r.gone)) m,∃ b,kv.2=Value.bool b from key l [] (by simp)
 intro l
 induction l with
 | nil=>intro m h;exact h
 | cons r l ih=>intro m h;exact ih _ (zlk h _ _)
theorem zme (l:List Ret) (i:Int):(((jz (xD l) i).bind fun j=>((xD l)[j]?).map (·.2)).getD (Value.bool false))=Value.bool (yc l i):=by
 unfold yc
 cases h:(jz (xD l) i).bind fun j=>((xD l)[j]?).map (·.2) with
 | none=>rfl
 | some v=>
  obtain ⟨j,_,hj⟩:=Option.bind_eq_some_iff.1 h
  obtain ⟨kv,h1,rfl⟩:=Option.map_eq_some_iff.1 hj
  obtain ⟨b,hb⟩:=ziO l kv (List.mem_of_getElem? h1)
  simp only [Option.getD_some]
  rw [hb]
theorem zkF (l:List Ret) {k:Nat} {r:Ret} (h:l[k]?= some r):xD (l.take (k+1))=k4 (xD (l.take k)) r.version (Value.bool r.gone):=by
 obtain ⟨hk,rfl⟩:=List.getElem?_eq_some_iff.1 h
 unfold xD
 rw [List.take_succ_eq_append_getElem hk,List.foldl_append]
 rfl
structure OkW (w:Wor):Prop where
 pins:w.pins.length < 1000000000000
 zd:w.zd.length < 1000000000000∧∀ v ∈ w.zd,OkV v
 ze:w.ze.length < 1000000000000∧∀ l ∈ w.ze,l.ok
 counts:w.counts.length < 1000000000000∧∀ r ∈ w.counts,r.length < 1000000000000
 zm:w.zm.length < 1000000000000
def xl (w:Wor) (r:Ret):Bool:=decide (r.version≥(w.zd.length:Int)) || r.version == w.current || decide (r.at_ > w.zn)
def wQ (w:Wor) (i:Nat):Bool:=match w.zd[i]? with
 | some v=>zcd v && (v.zD == yc w.zm i)
 | none=>true
def kO (w:Wor) (i:Nat):Bool:=match w.ze[i]? with
 | some l=>Go.Gat.isV l && decide (qd w.ze l.name=i)
 | none=>true
def jJ (w:Wor):Bool:=jh w && (decide (0<=w.current) && decide (w.current < w.zd.length)) && Go.Lim.isV w.zm && !w.zm.any (xl w) && (List.range w.zd.length).all (wQ w) && (List.range w.ze.length).all (kO w)
theorem zan (w:Wor) (hw:OkW w):zb Tryz.prog 19 [] [Cw w] (Bo (jJ w)) []:=by
 have m1:(w.zd.map zx).length=w.zd.length:=List.length_map ..
 have m2:(w.zm.map jx).length=w.zm.length:=List.length_map ..
 have m3:(w.ze.map ql).length=w.ze.length:=List.length_map ..
 have b1:=hw.pins
 have b2:=hw.zd.1
 have b3:=hw.ze.1
 have b4:=hw.counts.1
 have b5:=hw.zm
 refine zb.zp (fn:=Tryz.f19) Tryz.func19 rfl ?_
 conv=>whnf
 refine ⟨_,_,(zgf w (by omega) (by omega)).frame rfl _,?_⟩;refine dd ?_
 refine ⟨fun h1=>?_,fun h1=>?_⟩
 rotate_left
 ·(have e:jJ w=false:=by (unfold jJ;(rw [h1]);simp));rw [e];refine dd ?_;(repeat ((first | apply ya | apply yb);refine dd ?_));exact ⟨.inl rfl,_,.refl _,rfl⟩
 refine dd ?_
 refine ⟨fun h2=>?_,fun h2=>?_⟩
 ·(have e:jJ w=false:=by (unfold jJ;(rw [show decide (0<=w.current)=false from by simp at h2 ⊢;omega]);simp));rw [e];refine dd ?_;(repeat ((first | apply ya | apply yb);refine dd ?_));exact ⟨.inl rfl,_,.refl _,rfl⟩
 refine dd ?_
 rw [m1]
 refine ⟨fun h3=>?_,fun h3=>?_⟩
 ·(have e:jJ w=false:=by (unfold jJ;(rw [show decide (w.current < w.zd.length)=false from by simp at h3 ⊢;omega]);simp));rw [e];refine dd ?_;(repeat ((first | apply ya | apply yb);refine dd ?_));exact ⟨.inl rfl,_,.refl _,rfl⟩
 refine dd ?_
 refine ⟨_,_,(Go.Lim.kf (l:=w.zm) (by omega)).frame rfl _,?_⟩;refine dd ?_
 refine ⟨fun h4=>?_,fun h4=>?_⟩
 rotate_left
 ·(have e:jJ w=false:=by (unfold jJ;(rw [h4]);simp));rw [e];refine dd ?_;(repeat ((first | apply ya | apply yb);refine dd ?_));exact ⟨.inl rfl,_,.refl _,rfl⟩
 refine dd ?_
 (repeat ((first | apply ya | apply yb);refine dd ?_))
 intro b
 refine dd ?_
 rw [m2]
 have g0:jJ w=(!w.zm.any (xl w) && (List.range w.zd.length).all (wQ w) && (List.range w.ze.length).all (kO w)):=by
  unfold jJ
  rw [h1,show decide (0<=w.current)=true from by simp at h2 ⊢;omega,show decide (w.current < w.zd.length)=true from by simp at h3 ⊢;omega,h4]
  rfl
 refine qa.seq w.zm.length (fun k=>[.za,.ref 0 [] 8 0 0,Bo false,.v (.map (some b)),.za,.za,.za,.za,.za,.za,.za,.za,.za,.za,.za,.za,.za,.za,.za,.za,.za,.za,.za,.za,.za,.za,.za,.za,.za,.za,.za,.za,.za,.za,lR w.zm,I w.zm.length,I k,.za,.za,.za,.za,.za,.za,.za,.za,.za,.za,.za,.za,.za,.za,.za,.za,.za,.za,.za,.za,.za,.za,.za,.za,.za,.za,.za,.za,.za,.za,.za,.za,.za,.za,.za,.za,.za,.za,.za,.za,.za,.za,.za,.za,.za,.za,.za,.za,.za,.za,.za,.za,.za,.za,.za,.za,.za,.za,.za,.za,.za,.za,.za,.za,.za,.za,.za,.za,.za,.za]) (fun k=>[⟨1,48,8,[zQ w],0⟩,obM b (xB xA (xD (w.zm.take k))) (xD (w.zm.take k)).length]) (fun k=>∀ j,(h:j < w.zm.length)->j < k->xl w w.zm[j]=false) ?_ (by simp) (fun k hk hr=>?_) (fun hr=>?_)
 ·exact cC
 ·obtain ⟨r,hx⟩:∃ r,r=w.zm[k]:=⟨_,rfl⟩
  have hx2:w.zm[k]?= some r:=by rw [List.getElem?_eq_getElem hk,hx]
  have hg:(w.zm.map jx)[k]?= some (jx r):=by rw [List.getElem?_map,hx2];rfl
  have bad:xl w r=true->jJ w=false:=fun h=>by
   have:w.zm.any (xl w)=true:=List.any_eq_true.2 ⟨r,List.mem_of_getElem? hx2,h⟩
   rw [g0,this];rfl
  conv=>whnf
  (refine ⟨fun _=>?_,fun h=>absurd h (by simp;omega)⟩);refine dd ?_
  (refine ⟨by omega,_,by rw [toNat_cast];exact hg,?_⟩);refine dd ?_
  rw [m1]
  refine ⟨fun h5=>?_,fun h5=>?_⟩
  ·(rw [bad (by unfold xl;rw [h5];rfl)]);refine dd ?_;(repeat ((first | apply ya | apply yb);refine dd ?_));(refine .inr ⟨by simp,?_⟩);(conv=>whnf);exact ⟨.inl rfl,_,.refl _,rfl⟩
  refine dd ?_
  refine ⟨fun h6=>?_,fun h6=>?_⟩
  ·(rw [bad (by unfold xl;rw [h6,Bool.or_true];rfl)]);refine dd ?_;(repeat ((first | apply ya | apply yb);refine dd ?_));(refine .inr ⟨by simp,?_⟩);(conv=>whnf);exact ⟨.inl rfl,_,.refl _,rfl⟩
  refine dd ?_
  refine ⟨fun h7=>?_,fun h7=>?_⟩
  ·(rw [bad (by unfold xl;rw [h7,Bool.or_true])]);refine dd ?_;(repeat ((first | apply ya | apply yb);refine dd ?_));(refine .inr ⟨by simp,?_⟩);(conv=>whnf);exact ⟨.inl rfl,_,.refl _,rfl⟩
  refine dd ?_
  (repeat ((first | apply ya | apply yb);refine dd ?_))
  refine ⟨fun q=>?_,fun q=>?_⟩
  all_goals
   refine dd ?_
   refine ⟨_,_,OpV.mapUpdate (id:=1) _ _ _ _ (.inl rfl) Tryz.underlying94 (zfP.int Tryz.underlying3) rfl rfl r.version (fun E u h=>vu h) (.bool r.gone) (fun E u h=>by rw [q];exact vu h),?_⟩
   refine dd ?_
   refine .inl ⟨rfl,?_,fun j hj hjk=>?_⟩
   ·rw [zC (by omega),<- zkF w.zm hx2]
    exact cE 2
   ·by_cases e:j=k
    ·subst e;rw [<- hx];unfold xl;rw [h5,h6,h7];rfl
    ·exact hr j hj (by omega)
 have hl0:w.zm.any (xl w)=false:=by
  rw [List.any_eq_false]
  intro x hx
  obtain ⟨j,hj,rfl⟩:=List.mem_iff_getElem.1 hx
  simp [hr j hj hj]
 rw [List.take_length]
 (conv=>whnf);(refine ⟨fun h=>absurd h (by simp),fun _=>?_⟩);refine dd ?_;(refine ⟨by simp,?_⟩);(conv=>whnf)
 rw [m1]
 have g1:jJ w=((List.range w.zd.length).all (wQ w) && (List.range w.ze.length).all (kO w)):=by rw [g0,hl0];rfl
 refine qa.seq w.zd.length (fun k=>[.za,.ref 0 [] 8 0 0,Bo false,.v (.map (some b)),.za,.za,.za,.za,.za,.za,.za,.za,.za,.za,.za,.za,.za,.za,.za,.za,.za,.za,.za,.za,.za,.za,.za,.za,.za,.za,.za,.za,.za,.za,.za,.za,.za,.za,.za,.za,.za,.za,.za,.za,.za,.za,.za,.za,.za,.za,.za,.za,.za,.za,.za,.za,.za,.za,.za,.za,.za,.za,.za,.za,.za,.za,.za,lV w.zd,I w.zd.length,I k,.za,.za,.za,.za,.za,.za,.za,.za,.za,.za,.za,.za,.za,.za,.za,.za,.za,.za,.za,.za,.za,.za,.za,.za,.za,.za,.za,.za,.za,.za,.za,.za,.za,.za,.za,.za,.za]) (fun k=>[⟨1,48,8,[zQ w],0⟩,obM b (xB xA (xD (w.zm))) (xD (w.zm)).length]) (fun k=>∀ j,j < k->wQ w j=true) ?_ (by simp) (fun k hk hr=>?_) (fun hr=>?_)
 ·exact cC
 ·obtain ⟨v,hx⟩:∃ v,v=w.zd[k]:=⟨_,rfl⟩
  have hx2:w.zd[k]?= some v:=by rw [List.getElem?_eq_getElem hk,hx]
  have hg:(w.zd.map zx)[k]?= some (zx v):=by rw [List.getElem?_map,hx2];rfl
  have hd:wQ w k=(zcd v && (v.zD == yc w.zm k)):=by unfold wQ;rw [hx2]
  have bad:wQ w k=false->jJ w=false:=fun h=>by
   have:(List.range w.zd.length).all (wQ w)=false:=by rw [List.all_eq_false];exact ⟨k,by simpa using hk,by simp [h]⟩
   rw [g1,this];rfl
  conv=>whnf
  (refine ⟨fun _=>?_,fun h=>absurd h (by simp;omega)⟩);refine dd ?_
  (refine ⟨by omega,_,by rw [toNat_cast];exact hg,?_⟩);refine dd ?_
  refine ⟨_,_,(ze4 v (hw.zd.2 v (List.mem_of_getElem? hx2))).frame rfl _,?_⟩;refine dd ?_
  refine ⟨fun h5=>?_,fun h5=>?_⟩
  rotate_left
  ·(rw [bad (by rw [hd,h5];rfl)]);refine dd ?_;(repeat ((first | apply ya | apply yb);refine dd ?_));(refine .inr ⟨by simp,?_⟩);(conv=>whnf);exact ⟨.inl rfl,_,.refl _,rfl⟩
  refine dd ?_
  refine ⟨fun q=>?_,fun q=>?_⟩
  all_goals
   refine dd ?_
   refine ⟨_,_,OpV.lookup (id:=1) _ _ _ rfl Tryz.underlying94 (zfP.int Tryz.underlying3) rfl rfl (k:Int) (fun E u h=>vu h) (c:=Bo (yc w.zm k)) rfl rfl (fun E=>by rw [zme];exact .v _ rfl),?_⟩
   refine dd ?_
   refine ⟨fun q2=>?_,fun q2=>?_⟩
   ·(rw [bad (by rw [hd,q];simp at q2;simp [q2])]);refine dd ?_;(repeat ((first | apply ya | apply yb);refine dd ?_));(refine .inr ⟨by simp,?_⟩);(conv=>whnf);exact ⟨.inl rfl,_,.refl _,rfl⟩
   refine dd ?_
   (repeat ((first | apply ya | apply yb);refine dd ?_))
   refine .inl ⟨rfl,?_,fun j hj=>?_⟩
   ·rw [zC (by omega)]
    exact cE 2
   ·by_cases e:j=k
    ·subst e;rw [hd,h5,q];simp at q2;simp [q2]
    ·exact hr j (by omega)
 have hv0:(List.range w.zd.length).all (wQ w)=true:=by
  rw [List.all_eq_true]
  exact fun i hi=>hr i (by simpa using hi)
 have g2:jJ w=(List.range w.ze.length).all (kO w):=by rw [g1,hv0];rfl
 (conv=>whnf);(refine ⟨fun h=>absurd h (by simp),fun _=>?_⟩);refine dd ?_;(refine ⟨by simp,?_⟩);(conv=>whnf)
 rw [m3]
 refine qa.seq w.ze.length (fun k=>[.za,.ref 0 [] 8 0 0,Bo false,.v (.map (some b)),.za,.za,.za,.za,.za,.za,.za,.za,.za,.za,.za,.za,.za,.za,.za,.za,.za,.za,.za,.za,.za,.za,.za,.za,.za,.za,.za,.za,.za,.za,.za,.za,.za,.za,.za,.za,.za,.za,.za,.za,.za,.za,.za,.za,.za,.za,.za,.za,.za,.za,.za,.za,.za,.za,.za,.za,.za,.za,.za,.za,.za,.za,.za,.za,.za,.za,.za,.za,.za,.za,.za,.za,.za,.za,.za,.za,.za,.za,.za,.za,.za,.za,.za,lL w.ze,I w.ze.length,I k,.za,.za,.za,.za,.za,.za,.za,.za,.za,.za,.za,.za,.za,.za,.za,.za,.za]) (fun k=>[⟨1,48,8,[zQ w],0⟩,obM b (xB xA (xD (w.zm))) (xD (w.zm)).length]) (fun k=>∀ j,j < k->kO w j=true) ?_ (by simp) (fun k hk hr=>?_) (fun hr=>?_)
 ·exact cC
 ·obtain ⟨l,hx⟩:∃ l,l=w.ze[k]:=⟨_,rfl⟩
  have hx2:w.ze[k]?= some l:=by rw [List.getElem?_eq_getElem hk,hx]
  have hg:(w.ze.map ql)[k]?= some (ql l):=by rw [List.getElem?_map,hx2];rfl
  have hd:kO w k=(Go.Gat.isV l && decide (qd w.ze l.name=k)):=by unfold kO;rw [hx2]
  have bad:kO w k=false->jJ w=false:=fun h=>by
   have:(List.range w.ze.length).all (kO w)=false:=by rw [List.all_eq_false];exact ⟨k,by simpa using hk,by simp [h]⟩
   rw [g2,this]
  conv=>whnf
  (refine ⟨fun _=>?_,fun h=>absurd h (by simp;omega)⟩);refine dd ?_
  (refine ⟨by omega,_,by rw [toNat_cast];exact hg,?_⟩);refine dd ?_
  refine ⟨_,_,(Go.Gat.kf l (hw.ze.2 l (List.mem_of_getElem? hx2))).frame rfl _,?_⟩;refine dd ?_
  refine ⟨fun h5=>?_,fun h5=>?_⟩
  rotate_left
  ·(rw [bad (by rw [hd,h5];rfl)]);refine dd ?_;(repeat ((first | apply ya | apply yb);refine dd ?_));(refine .inr ⟨by simp,?_⟩);(conv=>whnf);exact ⟨.inl rfl,_,.refl _,rfl⟩
  refine dd ?_
  refine ⟨_,_,(vG w.ze l.name (by omega)).frame rfl _,?_⟩;refine dd ?_
  refine ⟨fun h6=>?_,fun h6=>?_⟩
  ·(rw [bad (by rw [hd,show decide (qd w.ze l.name=(k:Int))=false from by rw [decide_eq_false_iff_not];intro hh;simp [hh] at h6,Bool.and_false])]);refine dd ?_;(repeat ((first | apply ya | apply yb);refine dd ?_));(refine .inr ⟨by simp,?_⟩);(conv=>whnf);exact ⟨.inl rfl,_,.refl _,rfl⟩
  refine dd ?_
  (repeat ((first | apply ya | apply yb);refine dd ?_))
  refine .inl ⟨rfl,?_,fun j hj=>?_⟩
  ·rw [zC (by omega)]
   exact cE 2
  ·by_cases e:j=k
   ·subst e;rw [hd,h5];simp at h6;simp [h6]
   ·exact hr j (by omega)
 ·have hl1:(List.range w.ze.length).all (kO w)=true:=by
   rw [List.all_eq_true]
   exact fun i hi=>hr i (by simpa using hi)
  rw [g2,hl1]
  (conv=>whnf);(refine ⟨fun h=>absurd h (by simp),fun _=>?_⟩);refine dd ?_;(refine ⟨by simp,?_⟩);(conv=>whnf)
  exact ⟨.inl rfl,_,.refl _,rfl⟩
end Go.Wor
