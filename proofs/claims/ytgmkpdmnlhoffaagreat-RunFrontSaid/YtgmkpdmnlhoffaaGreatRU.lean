import Derived.Test.YtgmkpdmnlhoffaaGreatRF
import Derived.Test.YtgmkpdmnlhoffaaGreatRS
import Derived.Test.YtgmkpdmnlhoffaaGreatRT
set_option linter.all false
set_option maxRecDepth 100000
set_option maxHeartbeats 4000000
namespace Go.Wor
open Go.Ab Go.Proofs Go.Hy Go.Gat Go.Nam Go.Hos Go.Con Go.Sna
def vO (l:List Str) (n:Int):Str:=if 0<=n∧n < l.length then (l[n.toNat]?).getD [] else []
def y3 (l:List Clu) (n:Int):Str:=if 0<=n∧n < l.length then ((l[n.toNat]?).map (·.name)).getD [] else []
def zg2 (s:Sna) (r:Rul):Rou:=⟨vO s.zd r.listen,r.host,r.path,y3 s.zl r.zf⟩
def zaN (s:Sna):Cfg:=⟨s.zd,s.rules.map (zg2 s),s.zl⟩
def yT (s:Sna):Bool:=(qY (zaN s)).1 == 0
structure wc (s:Sna):Prop where
 zd:s.zd.length < 1000000000000∧∀ x ∈ s.zd,x.length < 4000000000000000000
 rules:s.rules.length < 1000000000000∧∀ r ∈ s.rules,r.host.length < 1000000000000∧r.path.length < 1000000000000
 zl:s.zl.length < 1000000000000∧∀ x ∈ s.zl,x.name.length < 4000000000000000000∧x.zR.length < 4000000000000000000
theorem wc.cfg {s:Sna} (h:wc s):xf (zaN s):=by
 refine ⟨h.zd,⟨by simpa [zaN] using h.rules.1,fun r hr=>?_⟩,h.zl⟩;simp only [zaN,List.mem_map] at hr;obtain ⟨q,hq,rfl⟩:=hr;refine ⟨?_,(h.rules.2 q hq).1,(h.rules.2 q hq).2,?_⟩
 ·show (vO s.zd q.listen).length < _;unfold vO;split
  ·cases hx:s.zd[q.listen.toNat]? with
   | none=>simp
   | some x=>exact h.zd.2 x (List.mem_of_getElem? hx)
  ·simp
 ·show (y3 s.zl q.zf).length < _;unfold y3;split
  ·cases hx:s.zl[q.zf.toNat]? with
   | none=>simp
   | some x=>exact (h.zl.2 x (List.mem_of_getElem? hx)).1
  ·simp
theorem zig (s:Sna) (hs:wc s):zb Tryz.prog 190 [] [Cs s] (Cf (zaN s)) []:=by
 have m1:(s.rules.map yD).length=s.rules.length:=List.length_map ..;have m2:(s.zd.map ql).length=s.zd.length:=List.length_map ..;have m3:(s.zl.map jU).length=s.zl.length:=List.length_map ..;have hl:=hs.rules.1;refine zb.zp (fn:=Tryz.f190) Tryz.func190 rfl (uH ?_);rw [m1];refine qf.seq s.rules.length (fun k=>(.za::.ref 0 [] 3 0 0:: .ref 1 [] 3 0 0:: .ref 2 [] 3 0 0:: .za::tY (zag s.rules::I s.rules.length::I k:: .za::.za::.za::.za::.za::tY (tY (tY (tY (tY (tY ([]))))))))) (fun k=>[⟨1,76,3,[qJ s],0⟩,⟨1,40,3,[[.lst 1 0 [],.lst 1 0 [],.lst 1 0 []]],0⟩,⟨1,40,3,[[lT s.zd,.gl 3 4 (((s.rules.take k).map (zg2 s)).map ky),lC s.zl]],0⟩,⟨4,124,4,((s.rules.take k).map (zg2 s)).map ky,0⟩]) (fun k=>True) ?_ trivial (fun k hk hr=>?_) (fun hr=>?_)
 ·refine zo.trans (zo.zbS 2 1 124 4 rfl rfl (.inl rfl) rfl rfl) ?_;exact cC
 ·obtain ⟨r,hx⟩:∃ r,r=s.rules[k]:=⟨_,rfl⟩;have hg:(s.rules.map yD)[k]?= some (yD r):=by rw [List.getElem?_map,List.getElem?_eq_getElem hk,hx];rfl
  have hlg:(((s.rules.take k).map (zg2 s)).map ky).length=k:=by simp;omega
  have eg:((s.rules.take (k+1)).map (zg2 s)).map ky=((s.rules.take k).map (zg2 s)).map ky++[ky (zg2 s r)]:=by rw [List.take_succ_eq_append_getElem hk,<- hx];simp
  have hv:∀ a b,a=vO s.zd r.listen->b=y3 s.zl r.zf->ky ⟨a,r.host,r.path,b⟩=ky (zg2 s r):=fun a b h1 h2=>by rw [h1,h2];rfl
  conv=>whnf
  refine uF ?_;(refine ⟨by omega,_,by rw [toNat_cast];exact hg,dd ?_⟩)
  refine ⟨fun h1=>?_,fun h1=>?_⟩
  rotate_left
  ·refine dd ?_;(repeat refine uC ?_)
   refine ⟨fun q1=>?_,fun q1=>?_⟩;rotate_left;(focus (refine dd ?_;(repeat refine uC ?_);(refine ⟨rfl,.inr rfl,by rw [hlg];simp [maxLen];omega,by rw [hlg];show (k+1) * 64<=_;omega,dd ?_⟩);(refine .inl ⟨rfl,?_,trivial⟩);(rw [zA (by omega),eg,<- hv _ _ (by unfold vO;rw [if_neg (by simp at h1;omega)]) (by unfold y3;rw [if_neg (by simp at q1;omega)])]);exact cE 4));refine dd ?_;(rw [m3]);refine ⟨fun q2=>?_,fun q2=>?_⟩;rotate_left;(focus (refine dd ?_;(repeat refine uC ?_);(refine ⟨rfl,.inr rfl,by rw [hlg];simp [maxLen];omega,by rw [hlg];show (k+1) * 64<=_;omega,dd ?_⟩);(refine .inl ⟨rfl,?_,trivial⟩);(rw [zA (by omega),eg,<- hv _ _ (by unfold vO;rw [if_neg (by simp at h1;omega)]) (by unfold y3;rw [if_neg (by simp at q2;omega)])]);exact cE 4));(have q3:r.zf.toNat < s.zl.length:=by simp at q1 q2;omega);(have gq:(s.zl.map jU)[r.zf.toNat]?= some (jU s.zl[r.zf.toNat]):=by rw [List.getElem?_map,List.getElem?_eq_getElem q3];rfl);refine dd ?_;(repeat refine uC ?_);(refine ⟨by simp at q1;omega,_,gq,dd ?_⟩);(refine ⟨rfl,.inr rfl,by rw [hlg];simp [maxLen];omega,by rw [hlg];show (k+1) * 64<=_;omega,dd ?_⟩);(refine .inl ⟨rfl,?_,trivial⟩);(rw [zA (by omega),eg,<- hv _ _ (by unfold vO;rw [if_neg (by simp at h1;omega)]) (by unfold y3;rw [if_pos (by simp at q1 q2;omega),List.getElem?_eq_getElem q3])]);exact cE 4
  refine dd ?_;rw [m2];refine ⟨fun h2=>?_,fun h2=>?_⟩
  rotate_left
  ·refine dd ?_;(repeat refine uC ?_)
   refine ⟨fun q1=>?_,fun q1=>?_⟩;rotate_left;(focus (refine dd ?_;(repeat refine uC ?_);(refine ⟨rfl,.inr rfl,by rw [hlg];simp [maxLen];omega,by rw [hlg];show (k+1) * 64<=_;omega,dd ?_⟩);(refine .inl ⟨rfl,?_,trivial⟩);(rw [zA (by omega),eg,<- hv _ _ (by unfold vO;rw [if_neg (by simp at h2;omega)]) (by unfold y3;rw [if_neg (by simp at q1;omega)])]);exact cE 4));refine dd ?_;(rw [m3]);refine ⟨fun q2=>?_,fun q2=>?_⟩;rotate_left;(focus (refine dd ?_;(repeat refine uC ?_);(refine ⟨rfl,.inr rfl,by rw [hlg];simp [maxLen];omega,by rw [hlg];show (k+1) * 64<=_;omega,dd ?_⟩);(refine .inl ⟨rfl,?_,trivial⟩);(rw [zA (by omega),eg,<- hv _ _ (by unfold vO;rw [if_neg (by simp at h2;omega)]) (by unfold y3;rw [if_neg (by simp at q2;omega)])]);exact cE 4));(have q3:r.zf.toNat < s.zl.length:=by simp at q1 q2;omega);(have gq:(s.zl.map jU)[r.zf.toNat]?= some (jU s.zl[r.zf.toNat]):=by rw [List.getElem?_map,List.getElem?_eq_getElem q3];rfl);refine dd ?_;(repeat refine uC ?_);(refine ⟨by simp at q1;omega,_,gq,dd ?_⟩);(refine ⟨rfl,.inr rfl,by rw [hlg];simp [maxLen];omega,by rw [hlg];show (k+1) * 64<=_;omega,dd ?_⟩);(refine .inl ⟨rfl,?_,trivial⟩);(rw [zA (by omega),eg,<- hv _ _ (by unfold vO;rw [if_neg (by simp at h2;omega)]) (by unfold y3;rw [if_pos (by simp at q1 q2;omega),List.getElem?_eq_getElem q3])]);exact cE 4
  have h3:r.listen.toNat < s.zd.length:=by simp at h1 h2;omega
  have gl:(s.zd.map ql)[r.listen.toNat]?= some (ql s.zd[r.listen.toNat]):=by rw [List.getElem?_map,List.getElem?_eq_getElem h3];rfl
  refine dd ?_;(repeat refine uC ?_)
  refine ⟨by simp at h1;omega,_,gl,dd ?_⟩;refine ⟨fun q1=>?_,fun q1=>?_⟩;rotate_left;(focus (refine dd ?_;(repeat refine uC ?_);(refine ⟨rfl,.inr rfl,by rw [hlg];simp [maxLen];omega,by rw [hlg];show (k+1) * 64<=_;omega,dd ?_⟩);(refine .inl ⟨rfl,?_,trivial⟩);(rw [zA (by omega),eg,<- hv _ _ (by unfold vO;rw [if_pos (by simp at h1 h2;omega),List.getElem?_eq_getElem h3]) (by unfold y3;rw [if_neg (by simp at q1;omega)])]);exact cE 4));refine dd ?_;(rw [m3]);refine ⟨fun q2=>?_,fun q2=>?_⟩;rotate_left;(focus (refine dd ?_;(repeat refine uC ?_);(refine ⟨rfl,.inr rfl,by rw [hlg];simp [maxLen];omega,by rw [hlg];show (k+1) * 64<=_;omega,dd ?_⟩);(refine .inl ⟨rfl,?_,trivial⟩);(rw [zA (by omega),eg,<- hv _ _ (by unfold vO;rw [if_pos (by simp at h1 h2;omega),List.getElem?_eq_getElem h3]) (by unfold y3;rw [if_neg (by simp at q2;omega)])]);exact cE 4));(have q3:r.zf.toNat < s.zl.length:=by simp at q1 q2;omega);(have gq:(s.zl.map jU)[r.zf.toNat]?= some (jU s.zl[r.zf.toNat]):=by rw [List.getElem?_map,List.getElem?_eq_getElem q3];rfl);refine dd ?_;(repeat refine uC ?_);(refine ⟨by simp at q1;omega,_,gq,dd ?_⟩);(refine ⟨rfl,.inr rfl,by rw [hlg];simp [maxLen];omega,by rw [hlg];show (k+1) * 64<=_;omega,dd ?_⟩);(refine .inl ⟨rfl,?_,trivial⟩);(rw [zA (by omega),eg,<- hv _ _ (by unfold vO;rw [if_pos (by simp at h1 h2;omega),List.getElem?_eq_getElem h3]) (by unfold y3;rw [if_pos (by simp at q1 q2;omega),List.getElem?_eq_getElem q3])]);exact cE 4
 ·refine uD ?_;rw [List.take_length];exact uI
theorem zds (s:Sna) (hs:wc s):zb Tryz.prog 118 [] [Cs s] (Bo (yT s)) []:=by
 refine zb.zp (fn:=Tryz.f118) Tryz.func118 rfl (uH ?_);refine ⟨_,_,(zig s hs).frame rfl _,dd ?_⟩;refine ⟨_,_,(check_sound (zaN s) hs.cfg).frame rfl _,dd ?_⟩;refine ⟨fun h=>?_,fun h=>?_⟩
 ·refine dd ?_
  (exact ⟨.inl rfl,_,.refl _,uN (by unfold yT;exact h.symm)⟩)
 ·refine dd ?_
  (exact ⟨.inl rfl,_,.refl _,uN (by unfold yT;exact h.symm)⟩)
end Go.Wor
namespace Go.Wor
open Go.Ab Go.Proofs Go.Hy Go.Gat Go.Nam Go.Hos Go.Con Go.Sna
open Go.Slp (vJ zaT)
theorem zin {f:Nat->Int} {n:Nat} (h:(jO f n).1=0):∀ j,j < n->f j=0:=fun j hj=>by
 unfold jO at h;split at h
 ·rename_i i hi;rw [List.find?_range_eq_some] at hi;exact absurd h (by simpa using hi.1)
 ·rename_i hn;rw [List.find?_range_eq_none] at hn;simpa using hn j hj
structure zmI (x:Clu):Prop where
 name:xm x.name=true
 xp:x.xp=1∨x.xp=2
 xv:1<=x.xv∧x.xv<=4
 zR:1<=x.zR.length∧x.zR.length<=4
structure ztF (s:Sna):Prop where
 zd:1<=s.zd.length∧s.zd.length<=4
 rules:1<=s.rules.length∧s.rules.length<=8
 zl:1<=s.zl.length∧s.zl.length<=4
 all:∀ x ∈ s.zl,zmI x
theorem jk {s:Sna} (h:yT s=true):ztF s:=by
 unfold yT at h;have h:(qY (zaN s)).1=0:=by simpa using h
 unfold qY at h;split at h
 ·contradiction
 rename_i h1;split at h
 ·contradiction
 rename_i h2;split at h
 ·contradiction
 rename_i h3;have h1:(y4 (zaN s)).1=0:=by simpa using h1
 unfold y4 at h1;split at h1
 ·cases h1
 rename_i h4;have e:(zaN s).zP.length=s.rules.length:=by simp [zaN]
 rw [e] at h4;simp only [show (zaN s).zd=s.zd from rfl,show (zaN s).zl=s.zl from rfl] at h4;have b:∀ n:Nat,∀ m:Int,¬(decide (1<=(n:Int)) && decide ((n:Int)<=m))=false->1<=n∧(n:Int)<=m:=fun n m hh=>by simp at hh;omega
 have q1:=b s.zd.length 4 fun hh=>h4 (.inl (.inl hh))
 have q2:=b s.rules.length 8 fun hh=>h4 (.inl (.inr hh))
 have q3:=b s.zl.length 4 fun hh=>h4 (.inr hh)
 refine ⟨by omega,by omega,by omega,fun x hx=>?_⟩;obtain ⟨i,hi,rfl⟩:=List.mem_iff_getElem.1 hx;have h5:=zin (f:=zdH s.zl) (n:=s.zl.length) (Decidable.of_not_not h3) i hi;unfold zdH at h5;rw [List.getElem?_eq_getElem hi] at h5;dsimp only at h5;split at h5
 ·cases h5
 rename_i p1;split at h5
 ·cases h5
 split at h5
 ·cases h5
 rename_i p2;split at h5
 ·cases h5
 rename_i p3;split at h5
 ·cases h5
 rename_i p4;refine ⟨by simpa using p1,?_,?_,?_⟩
 ·by_cases a:s.zl[i].xp=1
  ·exact .inl a
  ·by_cases a2:s.zl[i].xp=2
   ·exact .inr a2
   ·exact absurd ⟨a,a2⟩ p2
 ·simp at p3;omega
 ·simp at p4;omega
abbrev xj (x:Clu):En:=(vJ x.xv).1
theorem zpL {x:Clu} (h:zmI x):vJ x.xv=(xj x,0):=by
 have:=h.xv;unfold xj vJ;rw [if_neg (by omega)]
def zaD (x:Clu):Gr:=⟨0,List.replicate x.zR.length (xj x)⟩
abbrev ztV:Sna:=⟨[],[],[]⟩
abbrev zm9:Ver:=⟨ztV,[],false⟩
def qI (s:Sna):Ver × Int:=if yT s then (⟨s,s.zl.map zaD,false⟩,0) else (zm9,1)
abbrev Cv (v:Ver):C:=.agg (zI v)
abbrev tV (r:Ver × Int):C:=.tup [Cv r.1,I r.2]
theorem zee (s:Sna) (hs:wc s):zb Tryz.prog 74 [] [Cs s] (tV (qI s)) []:=by
 have m1:(s.zl.map jU).length=s.zl.length:=List.length_map ..;refine zb.zp (fn:=Tryz.f74) Tryz.func74 rfl (uH ?_);refine ⟨_,_,(zds s hs).frame rfl _,dd ?_⟩;refine ⟨fun h1=>?_,fun h1=>?_⟩
 rotate_left
 ·have e:qI s=(zm9,1):=by unfold qI;rw [if_neg (by rw [h1];decide)]
  rw [e];refine dd ?_;(repeat refine uC ?_)
  exact ⟨.inl rfl,_,zo.var 1 rfl rfl rfl (.cons (WC.nil 0 1) (.cons (WC.nil 0 4) (.cons (WC.nil 0 4) (.cons (WC.nil 0 2) (.cons (.refl _) .nil))))),rfl⟩
 have e:qI s=(⟨s,s.zl.map zaD,false⟩,0):=by unfold qI;rw [if_pos h1]
 have hg:=jk h1;rw [e];refine dd ?_;(repeat refine uC ?_)
 rw [m1];refine qf.seq s.zl.length (fun k=>(.za::.ref 0 [] 3 0 0::.ref 1 [] 5 0 0::I 0::.ref 2 [] 5 0 0::tY (.za::.za::.za::.za::(lC s.zl)::I s.zl.length::I k::tY (tY (tY (tY ([.za]))))))) (fun k=>[⟨1,76,3,[qJ s],0⟩,⟨1,79,5,[[.lst 1 0 [],.lst 1 0 [],.lst 1 0 [],.lst 1 0 [],Bo false]],0⟩,⟨1,79,5,[qJ s++[.gl 3 2 (((s.zl.take k).map zaD).map zE),Bo false]],0⟩,⟨4,83,2,((s.zl.take k).map zaD).map zE,0⟩]) (fun k=>True) ?_ trivial (fun k hk hr=>?_) (fun hr=>?_)
 ·refine zo.trans (zo.zbS 2 3 83 2 rfl rfl (.inl rfl) rfl rfl) ?_;exact cC
 ·obtain ⟨x,hx⟩:∃ x,x=s.zl[k]:=⟨_,rfl⟩;have hgx:(s.zl.map jU)[k]?= some (jU x):=by rw [List.getElem?_map,List.getElem?_eq_getElem hk,hx];rfl
  have hgood:=hg.all x tG;have hc4:=hg.zl.2;have h4:=hgood.zR.2;have hlg:(((s.zl.take k).map zaD).map zE).length=k:=by simp;omega
  have eg:((s.zl.take (k+1)).map zaD).map zE=((s.zl.take k).map zaD).map zE++[zE (zaD x)]:=by rw [List.take_succ_eq_append_getElem hk,<- hx];simp
  have mh:(x.zR.map vH).length=x.zR.length:=List.length_map ..
  have fs:zb Tryz.prog 127 [] [I x.xv] (.tup [.agg (zu (xj x)),I 0]) []:=by
   have:=zaT x.xv;rw [zpL hgood] at this;exact this
  conv=>whnf
  refine uF ?_;(refine ⟨by omega,_,by rw [toNat_cast];exact hgx,dd ?_⟩)
  rw [mh];refine qf.seq x.zR.length (fun j=>(.za::.ref 0 [] 3 0 0::.ref 1 [] 5 0 0::I 0::.ref 2 [] 5 0 0::.za::.ref 4 [] 4 0 0::.ref 5 [] 2 0 0::tY (.za::(lC s.zl)::I s.zl.length::I k::.za::.za::.za::.za::.za::I x.zR.length::I j::tY (tY (tY ([.za,.za])))))) (fun j=>[⟨1,76,3,[qJ s],0⟩,⟨1,79,5,[[.lst 1 0 [],.lst 1 0 [],.lst 1 0 [],.lst 1 0 [],Bo false]],0⟩,⟨1,79,5,[qJ s++[.gl 3 2 (((s.zl.take k).map zaD).map zE),Bo false]],0⟩,⟨4,83,2,((s.zl.take k).map zaD).map zE,0⟩,⟨1,122,4,[jU x],0⟩,⟨1,83,2,[[U 0,.gl 6 3 ((List.replicate j (xj x)).map zu)]],0⟩,⟨4,156,3,((List.replicate j (xj x)).map zu),0⟩]) (fun k=>True) ?_ trivial (fun j hj hr=>?_) (fun hr=>?_)
  ·refine zo.trans (zo.zbS 5 1 156 3 rfl rfl (.inl rfl) rfl rfl) ?_;exact cC
  ·have hle:(((List.replicate j (xj x)).map zu)).length=j:=by simp
   have ee:((List.replicate (j+1) (xj x)).map zu)=((List.replicate j (xj x)).map zu)++[zu (xj x)]:=by rw [List.replicate_succ',List.map_append];rfl
   conv=>whnf
   refine uF ?_;refine ⟨_,_,(fs).frame rfl _,dd ?_⟩;(repeat refine uC ?_)
   refine ⟨rfl,.inr rfl,by rw [hle];simp [maxLen];omega,by rw [hle];show (j+1) * 40<=_;omega,dd ?_⟩;refine .inl ⟨rfl,?_,trivial⟩;rw [zA (by omega),ee];exact cE 7
  ·refine uD ?_;refine ⟨rfl,.inr rfl,by rw [hlg];simp [maxLen];omega,by rw [hlg];show (k+1) * 32<=_;omega,dd ?_⟩;refine .inl ⟨rfl,?_,trivial⟩;rw [zA (by omega),eg];exact cE 4
 ·refine uD ?_;rw [List.take_length];exact uI
def kK (n:Int):List (List Int) × Int:=if n < 1∨8 < n then ([],1) else (List.replicate n.toNat [0,0,0,0,0,0],0)
abbrev tC0 (r:List (List Int) × Int):C:=.tup [lCo r.1,I r.2]
def zap (c:List (List Int)):Bool:=c.all (fun r=>r.length == 6) && decide (1<=c.length) && decide (c.length<=8)
theorem zkh {rows:List (List C)} (h:(rows.all fun r=>r.all fun c=>q8 c && zx c)=true):∀ r ∈ rows,∀ c ∈ r,q8 c=true∧zx c=true:=fun r hr c hc=>by
 have:=List.all_eq_true.1 (List.all_eq_true.1 h r hr) c hc;simpa using this
theorem shut_map {α:Type} {enc:α->List C} (h:∀ x,(enc x).all (fun c=>q8 c && zx c)=true) (l:List α):∀ r ∈ l.map enc,∀ c ∈ r,q8 c=true∧zx c=true:=
 zkh (by rw [List.all_map];exact List.all_eq_true.2 fun x _=>h x)
theorem xL {n ty sz fz:Nat} {rows:List (List C)} (h:∀ r ∈ rows,∀ c ∈ r,qS n 9 c=true):qF n [⟨1,ty,sz,rows,fz⟩]=true:=by
 unfold qF;simp only [List.all_cons,List.all_nil,Bool.and_true];simp;exact h
theorem zse {α:Type} (a b:α) {k n:Nat} (h:k < n):(List.replicate k a++List.replicate (n - k) b).set k a=List.replicate (k+1) a++List.replicate (n - (k+1)) b:=by
 rw [List.set_append_right _ _ (by simp)];have e:n - k=(n - (k+1))+1:=by omega
 simp only [List.length_replicate,Nat.sub_self];rw [e,List.replicate_succ,List.set_cons_zero,List.replicate_succ',List.append_assoc]
 rfl
theorem zsd {α:Type} (a b:α) {k n:Nat} (h:k < n):(List.replicate k a++List.replicate (n - k) b)[k]?= some b:=by
 rw [List.getElem?_append_right (by simp)];simp only [List.length_replicate,Nat.sub_self];have e:n - k=(n - (k+1))+1:=by omega
 rw [e,List.replicate_succ]
 rfl
theorem zgv (n:Int):zb Tryz.prog 97 [] [I n] (tC0 (kK n)) []:=by
 refine zb.zp (fn:=Tryz.f97) Tryz.func97 rfl (uH ?_);refine ⟨fun h1=>?_,fun h1=>?_⟩
 ·have e:kK n=([],1):=by unfold kK;rw [if_pos (by simp at h1;omega)]
  rw [e];refine dd ?_;(repeat refine uC ?_)
  exact ⟨.inl rfl,_,zo.cell 2 rfl (WC.nil 0 1),rfl⟩
 refine dd ?_;refine ⟨fun h2=>?_,fun h2=>?_⟩
 ·have e:kK n=([],1):=by unfold kK;rw [if_pos (by simp at h2;omega)]
  rw [e];refine dd ?_;(repeat refine uC ?_)
  exact ⟨.inl rfl,_,zo.cell 2 rfl (WC.nil 0 1),rfl⟩
 have b1:1<=n∧n<=8:=by simp at h1 h2;omega
 have e:kK n=(List.replicate n.toNat [0,0,0,0,0,0],0):=by unfold kK;rw [if_neg (by omega)]
 rw [e];refine dd ?_;refine ⟨rfl,by omega,by show (24:Int) * n<=_;omega,by omega,dd ?_⟩;refine qf.seq n.toNat (fun k=>(I n::.za::.lst 1 0 []::I 0::.sl 0 [] 1 0 n.toNat false::tY (.za::.za::I n.toNat::I k::tY ([])))) (fun k=>[⟨1,0,1,(List.replicate k [lU [0,0,0,0,0,0]]++List.replicate (n.toNat - k) [C.lst 1 0 []]),0⟩]) (fun k=>True) ?_ trivial (fun k hk hr=>?_) (fun hr=>?_)
 ·refine zo.trans (zo.zhy 0 rfl (by intro r hr c hc;rw [List.eq_of_mem_replicate hr] at hc;rw [List.mem_singleton.1 hc];rfl)) ?_;exact cC
 ·conv=>whnf
  refine uF ?_;refine ⟨rfl,by decide,by show (8:Int) * 6<=_;decide,by decide,dd ?_⟩;refine ⟨by omega,by simp;omega,dd ?_⟩;have e1:0+(k:Int).toNat=k:=by simp
  rw [e1];refine ⟨_,zsd _ _ hk,rfl,dd ?_⟩;refine .inl ⟨rfl,?_,trivial⟩;refine zo.trans (zo.zT 0 k 0 (r:=[.sl 1 [] 1 0 6 false]) rfl (by rw [List.getElem?_set,if_pos rfl,if_pos (by simp;omega)];rfl) rfl rfl (.inr rfl) rfl rfl ?_ ?_) ?_
  ·exact zkh (rows:=List.replicate 6 [U 0]) rfl
  ·intro r hr c hc;rcases List.mem_or_eq_of_mem_set hr with hr | rfl
   ·rcases List.mem_append.1 hr with hr | hr <;> (rw [List.eq_of_mem_replicate hr] at hc;rw [List.mem_singleton.1 hc];rfl)
   ·rw [List.mem_singleton.1 hc];rfl
  ·have e3:(List.replicate k [lU [0,0,0,0,0,0]]++List.replicate (n.toNat - k) [C.lst 1 0 []]).set k [lU [0,0,0,0,0,0]]=(List.replicate (k+1) [lU [0,0,0,0,0,0]]++List.replicate (n.toNat - (k+1)) [C.lst 1 0 []]):=zse _ _ hk;rw [List.set_set,<- e3,zA (by omega)];refine zo.xa 1 (by (conv=>whnf);(repeat (refine ⟨rfl,uH ?_⟩));exact trivial) rfl rfl rfl (xL (rows:=(List.replicate k [lU [0,0,0,0,0,0]]++List.replicate (n.toNat - k) [C.lst 1 0 []]).set k [lU [0,0,0,0,0,0]]) fun r hr c hc=>?_) rfl;rw [e3] at hr;rcases List.mem_append.1 hr with hr | hr <;> (rw [List.eq_of_mem_replicate hr] at hc;rw [List.mem_singleton.1 hc];rfl)
 ·refine uD ?_;have e4:(List.replicate n.toNat [(0:Int),0,0,0,0,0]).map zN=(List.replicate n.toNat [lU [0,0,0,0,0,0]]++List.replicate (n.toNat - n.toNat) [C.lst 1 0 []]):=by rw [List.map_replicate,Nat.sub_self,List.replicate_zero,List.append_nil];rfl
  have sh:∀ r ∈ (List.replicate n.toNat [lU [0,0,0,0,0,0]]++List.replicate (n.toNat - n.toNat) [C.lst 1 0 []]),∀ c ∈ r,q8 c=true∧zx c=true:=by
   rw [Nat.sub_self,List.replicate_zero,List.append_nil];intro r hr c hc;rw [List.eq_of_mem_replicate hr] at hc;rw [List.mem_singleton.1 hc];exact ⟨rfl,rfl⟩
  refine ⟨.inl rfl,_,zo.zcZ 2 rfl rfl (.inl rfl) (by simp) sh,?_⟩;rw [<- e4]
  rfl
theorem zg4 (c:List (List Int)) (hc:c.length < 4000000000000000000):zb Tryz.prog 70 [] [lCo c] (Bo (zap c)) []:=by
 have m1:(c.map zN).length=c.length:=List.length_map ..;refine zb.zp (fn:=Tryz.f70) Tryz.func70 rfl (uH ?_);rw [m1];refine qf.seq c.length (fun k=>((lCo c)::.za::Bo false::.za::.za::(lCo c)::I c.length::I k::tY ([.za,.za,.za,.za,.za,.za,.za]))) (fun k=>[]) (fun k=>∀ j,(h:j < c.length)->j < k->(c[j].length == 6)=true) ?_ (by simp) (fun k hk hr=>?_) (fun hr=>?_)
 ·exact cC
 ·obtain ⟨x,hx⟩:∃ x,x=c[k]:=⟨_,rfl⟩;have hg:(c.map zN)[k]?= some (zN x):=by rw [List.getElem?_map,List.getElem?_eq_getElem hk,hx];rfl
  have mx:(x.map jB).length=x.length:=List.length_map ..;conv=>whnf
  refine uF ?_;(refine ⟨by omega,_,by rw [toNat_cast];exact hg,dd ?_⟩)
  rw [mx];refine ⟨fun h1=>?_,fun h1=>?_⟩
  ·have hf:c.all (fun r=>r.length == 6)=false:=by
    rw [List.all_eq_false];exact ⟨x,by rw [hx];exact List.getElem_mem hk,by simp at h1 ⊢;omega⟩
   have e:zap c=false:=by unfold zap;rw [hf];rfl
   rw [e];refine dd ?_;(refine .inr ⟨by simp,uH ?_⟩)
   exact uI
  ·refine dd ?_;refine .inl ⟨rfl,?_,fun j hj hjk=>?_⟩
   ·rw [zA (by omega)];exact cE 0
   ·by_cases e:j=k
    ·subst e;rw [<- hx];simp at h1 ⊢;omega
    ·exact hr j hj (by omega)
 ·have ht:c.all (fun r=>r.length == 6)=true:=by
   rw [List.all_eq_true];intro r hr';obtain ⟨j,hj,rfl⟩:=List.mem_iff_getElem.1 hr';exact hr j hj hj
  have e:zap c=(decide (1<=c.length) && decide (c.length<=8)):=by unfold zap;rw [ht];rfl
  rw [e];refine uD ?_;rw [m1];refine ⟨fun h1=>?_,fun h1=>?_⟩
  ·refine dd ?_;rw [m1];refine ⟨fun h2=>?_,fun h2=>?_⟩
   ·refine dd ?_;(repeat refine uC ?_)
    (exact ⟨.inl rfl,_,.refl _,uN (by symm;simp at h1 h2 ⊢;omega)⟩)
   ·refine dd ?_;(repeat refine uC ?_)
    (exact ⟨.inl rfl,_,.refl _,uN (by symm;simp at h1 h2 ⊢;omega)⟩)
  ·refine dd ?_;(repeat refine uC ?_)
   (exact ⟨.inl rfl,_,.refl _,uN (by symm;simp at h1 ⊢;omega)⟩)
abbrev Cw (w:Wor):C:=.agg (zJ w)
abbrev tW (r:Wor × Int):C:=.tup [Cw r.1,I r.2]
abbrev zf9:Wor:=⟨0,0,0,[],[],[],[],[]⟩
def vy (s:Str):Lis:=⟨s,false,0,false⟩
def zdX (l:List Str) (i:Nat):Bool:=match l[i]? with
 | some s=>xm s && decide (z7 ((l.take i).map vy) s < 0)
 | none=>true
def zak (l:List Str):Bool:=(List.range l.length).all (zdX l)
def zck (s:Sna) (l:List Str) (n:Int):Wor × Int:=
 if yT s=false∨n < 1∨8 < n∨zak l=false then (zf9,1)
 else (⟨0,0,0,List.replicate n.toNat 0,[(qI s).1],l.map vy,List.replicate n.toNat [0,0,0,0,0,0],[]⟩,0)
theorem zon (s:Sna) (l:List Str) (n:Int) (hs:wc s) (hl:l.length < 1000000000∧∀ x ∈ l,x.length < 4000000000000000000):zb Tryz.prog 49 [] [Cs s,lT l,I n] (tW (zck s l n)) []:=by
 have m1:(l.map ql).length=l.length:=List.length_map ..;have cs:=zee s hs;refine zb.zp (fn:=Tryz.f49) Tryz.func49 rfl (uH ?_);by_cases h0:yT s=true
 rotate_left
 ·have e:zck s l n=(zf9,1):=by unfold zck;rw [if_pos (.inl (by simpa using h0))]
  have e2:qI s=(zm9,1):=by unfold qI;rw [if_neg h0]
  rw [e2] at cs;have cs:zb Tryz.prog 74 [] [Cs s] (.tup [Cv zm9,I 1]) []:=cs;rw [e];refine ⟨_,_,(cs).frame rfl _,dd ?_⟩;(repeat refine uC ?_)
  exact ⟨.inl rfl,_,zo.var 1 rfl rfl rfl (.cons (.refl _) (.cons (.refl _) (.cons (.refl _) (.cons (WC.nil 0 1) (.cons (WC.nil 0 5) (.cons (WC.nil 0 4) (.cons (WC.nil 0 1) (.cons (WC.nil 0 3) .nil)))))))),rfl⟩
 have e2:qI s=((qI s).1,0):=by unfold qI;rw [if_pos h0]
 rw [e2] at cs;have cs:zb Tryz.prog 74 [] [Cs s] (.tup [Cv (qI s).1,I 0]) []:=cs;have hn:=zgv n;refine ⟨_,_,(cs).frame rfl _,dd ?_⟩;(repeat refine uC ?_)
 by_cases h1:n < 1∨8 < n
 ·have e:zck s l n=(zf9,1):=by unfold zck;rw [if_pos (by omega)]
  have e3:kK n=([],1):=by unfold kK;rw [if_pos h1]
  rw [e3] at hn;have hn:zb Tryz.prog 97 [] [I n] (.tup [lCo [],I 1]) []:=hn;rw [e];refine ⟨_,_,(hn).frame rfl _,dd ?_⟩;(repeat refine uC ?_)
  exact ⟨.inl rfl,_,zo.var 1 rfl rfl rfl (.cons (.refl _) (.cons (.refl _) (.cons (.refl _) (.cons (WC.nil 0 1) (.cons (WC.nil 0 5) (.cons (WC.nil 0 4) (.cons (WC.nil 0 1) (.cons (WC.nil 0 3) .nil)))))))),rfl⟩
 have e3:kK n=(List.replicate n.toNat [0,0,0,0,0,0],0):=by unfold kK;rw [if_neg h1]
 rw [e3] at hn;have hn:zb Tryz.prog 97 [] [I n] (.tup [lCo (List.replicate n.toNat [0,0,0,0,0,0]),I 0]) []:=hn;refine ⟨_,_,(hn).frame rfl _,dd ?_⟩;(repeat refine uC ?_)
 refine .inl ⟨⟨false,[0,3],[2],[]⟩,by kernel_rfl,uH ?_⟩;refine ⟨rfl,by omega,by show (8:Int) * n<=_;omega,by omega,dd ?_⟩;repeat (refine ⟨rfl,uH ?_⟩)
 rw [m1];have hb:zak l=false->zck s l n=(zf9,1):=fun h=>by unfold zck;rw [if_pos (.inr (.inr (.inr h)))]
 refine qf.seq l.length (fun k=>(.za::.za::.za::.ref 0 [] 3 0 0:: .za::.za::.ref 1 [] 8 0 0::I 0:: .za::.za::.za::.ref 3 [] 8 0 0:: .za::.za::tY (tY (tY (lT l::I l.length::I k:: .za::.za::.za::.za::.za::.za::.za::tY (tY ([]))))))) (fun k=>[⟨1,76,3,[qJ s],0⟩,⟨1,28,8,[[I 0,I 0,I 0,.lst 1 0 [],.lst 1 0 [],.lst 1 0 [],.lst 1 0 [],.lst 1 0 []]],0⟩,⟨1,79,5,[zI (qI s).1],0⟩,⟨1,28,8,[[I 0,I 0,I 0,.lst 0 1 (List.replicate n.toNat [I 0]),.lst 1 5 [zI (qI s).1],.gl 4 4 (((l.take k).map vy).map qG),lCo (List.replicate n.toNat [0,0,0,0,0,0]),.lst 1 0 []]],0⟩,⟨4,92,4,((l.take k).map vy).map qG,0⟩]) (fun k=>∀ j,j < k->zdX l j=true) ?_ (by simp) (fun k hk hr=>?_) (fun hr=>?_)
 ·refine zo.trans (zo.zbS 3 5 92 4 rfl rfl (.inl rfl) rfl rfl) ?_;exact cC
 ·obtain ⟨x,hx⟩:∃ x,x=l[k]:=⟨_,rfl⟩;have hx2:l[k]?= some x:=by rw [List.getElem?_eq_getElem hk,hx]
  have hg:(l.map ql)[k]?= some (ql x):=by rw [List.getElem?_map,hx2];rfl
  have hxm:x ∈ l:=by rw [hx];exact List.getElem_mem hk
  have hno:zdX l k=(xm x && decide (z7 ((l.take k).map vy) x < 0)):=by unfold zdX;rw [hx2]
  have bad:zdX l k=false->zck s l n=(zf9,1):=fun h=>hb (by unfold zak;rw [List.all_eq_false];exact ⟨k,by simpa using hk,by simp [h]⟩)
  have hlg:(((l.take k).map vy).map qG).length=k:=by simp;omega
  have eg:((l.take (k+1)).map vy).map qG=((l.take k).map vy).map qG++[qG (vy x)]:=by rw [List.take_succ_eq_append_getElem hk,<- hx];simp
  conv=>whnf
  refine uF ?_;(refine ⟨by omega,_,by rw [toNat_cast];exact hg,dd ?_⟩)
  refine ⟨_,_,(yd x (by have:=hl.2 x hxm;omega)).frame rfl _,dd ?_⟩;refine ⟨fun h2=>?_,fun h2=>?_⟩
  rotate_left
  ·rw [bad (by rw [hno,h2];rfl)];refine dd ?_;(repeat refine uC ?_)
   (refine .inr ⟨by simp,uH ?_⟩)
   exact ⟨.inl rfl,_,zo.var 1 rfl rfl rfl (.cons (.refl _) (.cons (.refl _) (.cons (.refl _) (.cons (WC.nil 0 1) (.cons (WC.nil 0 5) (.cons (WC.nil 0 4) (.cons (WC.nil 0 1) (.cons (WC.nil 0 3) .nil)))))))),rfl⟩
  refine dd ?_;refine ⟨_,_,(k8 ((l.take k).map vy) x (by simp;omega)).frame rfl _,dd ?_⟩;refine ⟨fun h3=>?_,fun h3=>?_⟩
  ·rw [bad (by rw [hno,show decide (z7 ((l.take k).map vy) x < 0)=false from by simp at h3 ⊢;omega,Bool.and_false])];refine dd ?_;(repeat refine uC ?_)
   (refine .inr ⟨by simp,uH ?_⟩)
   exact ⟨.inl rfl,_,zo.var 1 rfl rfl rfl (.cons (.refl _) (.cons (.refl _) (.cons (.refl _) (.cons (WC.nil 0 1) (.cons (WC.nil 0 5) (.cons (WC.nil 0 4) (.cons (WC.nil 0 1) (.cons (WC.nil 0 3) .nil)))))))),rfl⟩
  refine dd ?_;(repeat refine uC ?_)
  refine ⟨rfl,.inr rfl,by rw [hlg];simp [maxLen];omega,by rw [hlg];show (k+1) * 40<=_;omega,dd ?_⟩;refine .inl ⟨rfl,?_,fun j hj=>?_⟩
  ·rw [zA (by omega),eg];exact cE 5
  ·by_cases e:j=k
   ·subst e;rw [hno,h2];simp at h3 ⊢;omega
   ·exact hr j (by omega)
 ·have z5:zak l=true:=by
   unfold zak;rw [List.all_eq_true];intro i hi;exact hr i (by simpa using hi)
  have e:zck s l n=(⟨0,0,0,List.replicate n.toNat 0,[(qI s).1],l.map vy,List.replicate n.toNat [0,0,0,0,0,0],[]⟩,0):=by unfold zck;rw [if_neg (by simp only [h0,z5];simp;omega)]
  rw [e];refine uD ?_;rw [List.take_length];refine ⟨.inl rfl,_,zo.var 1 rfl rfl rfl (.cons (.refl _) (.cons (.refl _) (.cons (.refl _) (.cons (.refl _) (.cons (WC.share 1 5 _) (.cons (.refl _) (.cons (.refl _) (.cons (WC.nil 0 3) .nil)))))))),?_⟩
  have e9:zJ ⟨0,0,0,List.replicate n.toNat 0,[(qI s).1],l.map vy,List.replicate n.toNat [0,0,0,0,0,0],[]⟩=[I 0,I 0,I 0,.lst 0 1 (List.replicate n.toNat [I 0]),.lst 0 5 [zI (qI s).1],lL (l.map vy),lCo (List.replicate n.toNat [0,0,0,0,0,0]),.lst 0 3 []]:=by
   have e8:(List.replicate n.toNat (0:Int)).map encI=List.replicate n.toNat [I 0]:=List.map_replicate;show [I 0,I 0,I 0,C.lst 0 1 ((List.replicate n.toNat (0:Int)).map encI),_,_,_,_]=_;rw [e8]
   rfl
  show _=some (C.tup [C.agg (zJ ⟨0,0,0,List.replicate n.toNat 0,[(qI s).1],l.map vy,List.replicate n.toNat [0,0,0,0,0,0],[]⟩),I 0]);rw [e9]
  rfl
end Go.Wor
namespace Go.Wor
open Go.Ab Go.Proofs Go.Hy Go.Gat Go.Nam Go.Hos Go.Con Go.Sna
theorem jN {F:List (List C)} {z:List C} {k n:Nat} (hF:F.length=n) (h:k < n):(F.take k++(List.replicate n z).drop k)[k]?= some z:=by
 rw [List.getElem?_append_right (by simp;omega),List.length_take,List.getElem?_drop,List.getElem?_replicate,if_pos (by omega)]
theorem qO {F:List (List C)} {x z:List C} {k n:Nat} (hx:F[k]?= some x) (hn:k < n):(F.take k++(List.replicate n z).drop k).set k x=F.take (k+1)++(List.replicate n z).drop (k+1):=by
 obtain ⟨hk,rfl⟩:=List.getElem?_eq_some_iff.1 hx;have e1:(F.take k).length=k:=by simp;omega
 rw [List.set_append_right _ _ (by omega),e1,Nat.sub_self,List.drop_replicate,List.drop_replicate,List.take_succ_eq_append_getElem hk,List.append_assoc];have e2:n - k=(n - (k+1))+1:=by omega
 rw [e2,List.replicate_succ]
 rfl
theorem yE {F:List (List C)} {z:List C} {n:Nat} (hF:F.length=n):F.take n++(List.replicate n z).drop n=F:=by
 rw [List.take_of_length_le (by omega),List.drop_of_length_le (by simp),List.append_nil]
theorem zjj (x:Int) (l:List Int) (hl:l.length < 1000000000):zb Tryz.prog 272 [] [lI (x::l)] (.sl 0 [] 1 0 (x::l).length false) [⟨2,3,1,(x::l).map encI,0⟩]:=by
 have e:0+((l.map encI).length+1)=(x::l).length:=by simp
 rw [<- e];refine zb.zS (fn:=Tryz.f272) Tryz.func272 rfl (uH ?_);refine ⟨by simp,uH ?_⟩;refine .inr ⟨.inl rfl,by simp [maxLen];omega,by show _ * 8<=_;simp;omega,uH ?_⟩;exact uJ
theorem yL (l:List Int) (hl:l.length < 1000000000):zb Tryz.prog 272 [] [lI l] (lI l) []:=by
 cases l with
 | nil=>
  refine zb.zp (fn:=Tryz.f272) Tryz.func272 rfl (uH ?_);refine ⟨?_,?_⟩
  ·refine dd ?_;exact ⟨.inl rfl,_,zo.cell 2 rfl (WC.nil 0 1),rfl⟩
  ·refine dd ?_;refine .inr ⟨rfl,dd ?_⟩;exact ⟨.inl rfl,_,zo.cell 2 rfl ((WC.none 1 1 1).trans (WC.share 1 1 [])),rfl⟩
 | cons x l=>
  have hl3:l.length+1 < 1000000000:=by simpa using hl
  refine zb.zp (fn:=Tryz.f272) Tryz.func272 rfl (uH ?_);refine ⟨by simp,uH ?_⟩;refine .inr ⟨.inl rfl,by simp [maxLen];omega,by show _ * 8<=_;simp;omega,uH ?_⟩;exact ⟨.inl rfl,_,zo.zcZ 2 rfl rfl (.inr rfl) (by simp) (shut_map (fun _=>rfl) (x::l)),rfl⟩
theorem zpu (x:Int) (l:List Int) (hl:l.length < 1000000000):zb Tryz.prog 309 [] [lU (x::l)] (.sl 0 [] 1 0 (x::l).length false) [⟨2,54,1,(x::l).map jB,0⟩]:=by
 have e:0+((l.map jB).length+1)=(x::l).length:=by simp
 rw [<- e];refine zb.zS (fn:=Tryz.f309) Tryz.func309 rfl (uH ?_);refine ⟨by simp,uH ?_⟩;refine .inr ⟨.inl rfl,by simp [maxLen];omega,by show _ * 8<=_;simp;omega,uH ?_⟩;exact uJ
theorem zpv (l:List Int) (hl:l.length < 1000000000):zb Tryz.prog 309 [] [lU l] (lU l) []:=by
 cases l with
 | nil=>
  refine zb.zp (fn:=Tryz.f309) Tryz.func309 rfl (uH ?_);refine ⟨?_,?_⟩
  ·refine dd ?_;exact ⟨.inl rfl,_,zo.cell 2 rfl (WC.nil 0 1),rfl⟩
  ·refine dd ?_;refine .inr ⟨rfl,dd ?_⟩;exact ⟨.inl rfl,_,zo.cell 2 rfl ((WC.none 1 1 1).trans (WC.share 1 1 [])),rfl⟩
 | cons x l=>
  have hl3:l.length+1 < 1000000000:=by simpa using hl
  refine zb.zp (fn:=Tryz.f309) Tryz.func309 rfl (uH ?_);refine ⟨by simp,uH ?_⟩;refine .inr ⟨.inl rfl,by simp [maxLen];omega,by show _ * 8<=_;simp;omega,uH ?_⟩;exact ⟨.inl rfl,_,zo.zcZ 2 rfl rfl (.inr rfl) (by simp) (shut_map (fun _=>rfl) (x::l)),rfl⟩
theorem zpt (x:Lis) (l:List Lis) (hl:l.length < 1000000000):zb Tryz.prog 275 [] [lL (x::l)] (.sl 0 [] 4 0 (x::l).length false) [⟨2,92,4,(x::l).map qG,0⟩]:=by
 have e:0+((l.map qG).length+1)=(x::l).length:=by simp
 rw [<- e];refine zb.zS (fn:=Tryz.f275) Tryz.func275 rfl (uH ?_);refine ⟨by simp,uH ?_⟩;refine .inr ⟨.inl rfl,by simp [maxLen];omega,by show _ * 40<=_;simp;omega,uH ?_⟩;exact uJ
theorem vq (l:List Lis) (hl:l.length < 1000000000):zb Tryz.prog 275 [] [lL l] (lL l) []:=by
 cases l with
 | nil=>
  refine zb.zp (fn:=Tryz.f275) Tryz.func275 rfl (uH ?_);refine ⟨?_,?_⟩
  ·refine dd ?_;exact ⟨.inl rfl,_,zo.cell 2 rfl (WC.nil 0 4),rfl⟩
  ·refine dd ?_;refine .inr ⟨rfl,dd ?_⟩;exact ⟨.inl rfl,_,zo.cell 2 rfl ((WC.none 1 4 4).trans (WC.share 1 4 [])),rfl⟩
 | cons x l=>
  have hl3:l.length+1 < 1000000000:=by simpa using hl
  refine zb.zp (fn:=Tryz.f275) Tryz.func275 rfl (uH ?_);refine ⟨by simp,uH ?_⟩;refine .inr ⟨.inl rfl,by simp [maxLen];omega,by show _ * 40<=_;simp;omega,uH ?_⟩;exact ⟨.inl rfl,_,zo.zcZ 2 rfl rfl (.inr rfl) (by simp) (shut_map (fun _=>rfl) (x::l)),rfl⟩
theorem zjk (x:Ret) (l:List Ret) (hl:l.length < 1000000000):zb Tryz.prog 278 [] [lR (x::l)] (.sl 0 [] 3 0 (x::l).length false) [⟨2,139,3,(x::l).map xi,0⟩]:=by
 have e:0+((l.map xi).length+1)=(x::l).length:=by simp
 rw [<- e];refine zb.zS (fn:=Tryz.f278) Tryz.func278 rfl (uH ?_);refine ⟨by simp,uH ?_⟩;refine .inr ⟨.inl rfl,by simp [maxLen];omega,by show _ * 24<=_;simp;omega,uH ?_⟩;exact uJ
theorem wq (l:List Ret) (hl:l.length < 1000000000):zb Tryz.prog 278 [] [lR l] (lR l) []:=by
 cases l with
 | nil=>
  refine zb.zp (fn:=Tryz.f278) Tryz.func278 rfl (uH ?_);refine ⟨?_,?_⟩
  ·refine dd ?_;exact ⟨.inl rfl,_,zo.cell 2 rfl (WC.nil 0 3),rfl⟩
  ·refine dd ?_;refine .inr ⟨rfl,dd ?_⟩;exact ⟨.inl rfl,_,zo.cell 2 rfl ((WC.none 1 3 3).trans (WC.share 1 3 [])),rfl⟩
 | cons x l=>
  have hl3:l.length+1 < 1000000000:=by simpa using hl
  refine zb.zp (fn:=Tryz.f278) Tryz.func278 rfl (uH ?_);refine ⟨by simp,uH ?_⟩;refine .inr ⟨.inl rfl,by simp [maxLen];omega,by show _ * 24<=_;simp;omega,uH ?_⟩;exact ⟨.inl rfl,_,zo.zcZ 2 rfl rfl (.inr rfl) (by simp) (shut_map (fun _=>rfl) (x::l)),rfl⟩
theorem zfH (e:En) (he:e.next.length < 1000000000):zb Tryz.prog 319 [] [.agg [],.agg (zu e)] (.agg (zu e)) []:=by
 refine zb.zp (fn:=Tryz.f319) Tryz.func319 rfl (uH ?_);refine ⟨_,_,(yL e.next he).frame rfl _,dd ?_⟩;exact uI
theorem zrj (l:List En) (hl:l.length < 1000000000) (hp:∀ x ∈ l,zb Tryz.prog 319 [] [.agg [],.agg (zu x)] (.agg (zu x)) []):zb Tryz.prog 318 [] [lE l,.fn 319 [] [],.agg []] (.sl 0 [] 3 0 l.length false) [⟨2,156,3,l.map zu,0⟩]:=by
 have m1:(l.map zu).length=l.length:=List.length_map ..;refine zb.zS (fn:=Tryz.f318) Tryz.func318 rfl (uH ?_);rw [m1];refine ⟨rfl,by omega,by show (40:Int) * _<=_;omega,by omega,dd ?_⟩;rw [m1,toNat_cast];refine qf.seq l.length (fun k=>((lE l)::.fn 319 [] []::.za::.za::.za::.ref 0 [] 0 0 0::.lst 1 0 []::.sl 1 [] 3 0 l.length false::.za::.za::.za::.za::.za::(lE l)::I l.length::I k::tY ([.za,.za,.za,.za,.za]))) (fun k=>[⟨1,286,0,[[]],0⟩,⟨2,156,3,(l.map zu).take k++(List.replicate l.length [U 0,.lst 1 0 [],I 0]).drop k,0⟩]) (fun k=>True) ?_ trivial (fun k hk hr=>?_) (fun hr=>?_)
 ·exact cC
 ·obtain ⟨x,hx⟩:∃ x,x=l[k]:=⟨_,rfl⟩;have hx2:l[k]?= some x:=by rw [List.getElem?_eq_getElem hk,hx]
  have hg:(l.map zu)[k]?= some (zu x):=by rw [List.getElem?_map,hx2];rfl
  conv=>whnf
  refine uF ?_;(refine ⟨by omega,_,by rw [toNat_cast];exact hg,dd ?_⟩)
  refine ⟨_,_,(hp x tG).frame rfl _,dd ?_⟩;refine ⟨by omega,by simp;omega,dd ?_⟩;have e1:0+(k:Int).toNat=k:=by simp
  rw [e1];refine ⟨_,jN (by simp) hk,rfl,dd ?_⟩;refine .inl ⟨rfl,?_,trivial⟩;have e2:=qO (z:=[U 0,.lst 1 0 [],I 0]) (n:=l.length) hg hk;rw [zA (by omega),<- e2];exact cE 2
 ·refine uD ?_;rw [yE (by simp)];exact ⟨.inl rfl,_,zo.ren [1] [6] _ _ rfl rfl rfl rfl,rfl,rfl⟩
theorem zX {r:List C} (h:r.all zx=true):∀ q ∈ [r],∀ c ∈ q,zx c=true:=fun q hq c hc=>by
 rw [List.mem_singleton.1 hq] at hc;exact List.all_eq_true.1 h c hc
def zsG (g:Gr):Prop:=g.ends.length < 1000000000∧∀ e ∈ g.ends,e.next.length < 1000000000
def zmM (v:Ver):Prop:=v.zm.length < 1000000000∧∀ g ∈ v.zm,zsG g
structure qR (w:Wor):Prop where
 pins:w.pins.length < 1000000000
 ze:w.ze.length < 1000000000∧∀ v ∈ w.ze,zmM v
 zd:w.zd.length < 1000000000
 counts:w.counts.length < 1000000000∧∀ r ∈ w.counts,r.length < 1000000000
 zt:w.zt.length < 1000000000
theorem zc0 (g:Gr) (hg:zsG g):zb Tryz.prog 308 [] [.agg [],.agg (zE g)] (.agg (zE g)) []:=by
 refine zb.zp (fn:=Tryz.f308) Tryz.func308 rfl (uH ?_);refine zq [] (zrj g.ends hg.1 fun e he=>zfH e (hg.2 e he)) rfl rfl rfl rfl rfl rfl (dd ?_);exact ⟨.inl rfl,_,zo.zT 2 0 1 rfl rfl rfl rfl (.inr rfl) rfl (by simp) (shut_map (enc:=zu) (fun _=>rfl) g.ends) (zX rfl),rfl⟩
theorem zrl (l:List Gr) (hl:l.length < 1000000000) (hp:∀ x ∈ l,zb Tryz.prog 308 [] [.agg [],.agg (zE x)] (.agg (zE x)) []):zb Tryz.prog 307 [] [lG l,.fn 308 [] [],.agg []] (.sl 0 [] 2 0 l.length false) [⟨2,83,2,l.map zE,0⟩]:=by
 have m1:(l.map zE).length=l.length:=List.length_map ..;refine zb.zS (fn:=Tryz.f307) Tryz.func307 rfl (uH ?_);rw [m1];refine ⟨rfl,by omega,by show (32:Int) * _<=_;omega,by omega,dd ?_⟩;rw [m1,toNat_cast];refine qf.seq l.length (fun k=>((lG l)::.fn 308 [] []::.za::.za::.za::.ref 0 [] 0 0 0::.lst 1 0 []::.sl 1 [] 2 0 l.length false::.za::.za::.za::.za::.za::(lG l)::I l.length::I k::tY ([.za,.za,.za,.za,.za]))) (fun k=>[⟨1,286,0,[[]],0⟩,⟨2,83,2,(l.map zE).take k++(List.replicate l.length ([U 0,.lst 1 0 []]:List C)).drop k,0⟩]) (fun k=>True) ?_ trivial (fun k hk hr=>?_) (fun hr=>?_)
 ·exact cC
 ·obtain ⟨x,hx⟩:∃ x,x=l[k]:=⟨_,rfl⟩;have hx2:l[k]?= some x:=by rw [List.getElem?_eq_getElem hk,hx]
  have hg:(l.map zE)[k]?= some (zE x):=by rw [List.getElem?_map,hx2];rfl
  conv=>whnf
  refine uF ?_;(refine ⟨by omega,_,by rw [toNat_cast];exact hg,dd ?_⟩)
  refine ⟨_,_,(hp x tG).frame rfl _,dd ?_⟩;refine ⟨by omega,by simp;omega,dd ?_⟩;have e1:0+(k:Int).toNat=k:=by simp
  rw [e1];refine ⟨_,jN (by simp) hk,rfl,dd ?_⟩;refine .inl ⟨rfl,?_,trivial⟩;have e2:=qO (z:=([U 0,.lst 1 0 []]:List C)) (n:=l.length) hg hk;rw [zA (by omega),<- e2];exact cE 2
 ·refine uD ?_;rw [yE (by simp)];exact ⟨.inl rfl,_,zo.ren [1] [6] _ _ rfl rfl rfl rfl,rfl,rfl⟩
theorem jw (v:Ver) (hv:zmM v):zb Tryz.prog 274 [] [.agg [],.agg (zI v)] (.agg (zI v)) []:=by
 refine zb.zp (fn:=Tryz.f274) Tryz.func274 rfl (uH ?_);refine zq [] (zrl v.zm hv.1 fun g hg=>zc0 g (hv.2 g hg)) rfl rfl rfl rfl rfl rfl (dd ?_);exact ⟨.inl rfl,_,zo.zT 2 0 3 rfl rfl rfl rfl (.inr rfl) rfl (by simp) (shut_map (enc:=zE) (fun _=>rfl) v.zm) (zX rfl),rfl⟩
theorem kU (l:List Ver) (hl:l.length < 1000000000) (hp:∀ x ∈ l,zb Tryz.prog 274 [] [.agg [],.agg (zI x)] (.agg (zI x)) []):zb Tryz.prog 273 [] [lV l,.fn 274 [] [],.agg []] (.sl 0 [] 5 0 l.length false) [⟨2,79,5,l.map zI,0⟩]:=by
 have m1:(l.map zI).length=l.length:=List.length_map ..;refine zb.zS (fn:=Tryz.f273) Tryz.func273 rfl (uH ?_);rw [m1];refine ⟨rfl,by omega,by show (104:Int) * _<=_;omega,by omega,dd ?_⟩;rw [m1,toNat_cast];refine qf.seq l.length (fun k=>((lV l)::.fn 274 [] []::.za::.za::.za::.ref 0 [] 0 0 0::.lst 1 0 []::.sl 1 [] 5 0 l.length false::.za::.za::.za::.za::.za::(lV l)::I l.length::I k::tY ([.za,.za,.za,.za,.za]))) (fun k=>[⟨1,286,0,[[]],0⟩,⟨2,79,5,(l.map zI).take k++(List.replicate l.length ([.lst 1 0 [],.lst 1 0 [],.lst 1 0 [],.lst 1 0 [],Bo false]:List C)).drop k,0⟩]) (fun k=>True) ?_ trivial (fun k hk hr=>?_) (fun hr=>?_)
 ·exact cC
 ·obtain ⟨x,hx⟩:∃ x,x=l[k]:=⟨_,rfl⟩;have hx2:l[k]?= some x:=by rw [List.getElem?_eq_getElem hk,hx]
  have hg:(l.map zI)[k]?= some (zI x):=by rw [List.getElem?_map,hx2];rfl
  conv=>whnf
  refine uF ?_;(refine ⟨by omega,_,by rw [toNat_cast];exact hg,dd ?_⟩)
  refine ⟨_,_,(hp x tG).frame rfl _,dd ?_⟩;refine ⟨by omega,by simp;omega,dd ?_⟩;have e1:0+(k:Int).toNat=k:=by simp
  rw [e1];refine ⟨_,jN (by simp) hk,rfl,dd ?_⟩;refine .inl ⟨rfl,?_,trivial⟩;have e2:=qO (z:=([.lst 1 0 [],.lst 1 0 [],.lst 1 0 [],.lst 1 0 [],Bo false]:List C)) (n:=l.length) hg hk;rw [zA (by omega),<- e2];exact cE 2
 ·refine uD ?_;rw [yE (by simp)];exact ⟨.inl rfl,_,zo.ren [1] [6] _ _ rfl rfl rfl rfl,rfl,rfl⟩
theorem xI (r:List Int) (hr:r.length < 1000000000):zb Tryz.prog 277 [] [.agg [],lU r] (lU r) []:=by
 refine zb.zp (fn:=Tryz.f277) Tryz.func277 rfl (uH ?_);refine ⟨_,_,(zpv r hr).frame rfl _,dd ?_⟩;exact uI
theorem zgi (H':zk) (ρ:Nat->Nat):∀ (i:Nat) (K:zk),zau [] H' ρ i K=K
 | _,[]=>rfl
 | i,ob::K=>by unfold zau;rw [zgi H' ρ (i+1) K];rfl
theorem wT {P:Program} {f:FuncId} {args:List C} {r:C} {H':zk} (h:zb P f [] args r H') (hR:qK H'=true) (ha:args.map (xH [] 9)=args) (H:zk) (hf:qK H=true):
  zb P f H args (yx (qT [] H.length) 9 r) (H++H'.map (zF (qT [] H.length))):=by
 have:=h.part [] hR (K:=H) rfl ha rfl rfl hf;have e:kJ [] H H'=H++H'.map (zF (qT [] H.length)):=by unfold kJ;rw [zgi];rfl
 rwa [e] at this
theorem zjR {α:Type} {enc:α->List C} {f:C->C} (hf:∀ x,(enc x).map f=enc x) (l:List α) (v:Nat) (row:List C):(((l.map enc).set v row).map fun r=>r.map f)=(l.map enc).set v (row.map f):=by
 rw [List.map_set,List.map_map]
 congr 1
 exact List.map_congr_left fun x _=>hf x
theorem jC {n:Nat} {x:Ob} {H:zk} (h1:qF n [x]=true) (h2:qF n H=true):qF n (x::H)=true:=by
 unfold qF at *;simp only [List.all_cons,List.all_nil,Bool.and_true] at *;rw [h1,h2];rfl
theorem zc {x:Ob} {H:zk} (h1:qK [x]=true) (h2:qK H=true):qK (x::H)=true:=by
 unfold qK at *;simp only [List.all_cons,List.all_nil,Bool.and_true] at *;rw [h1,h2];rfl
theorem zi {ty sz fz:Nat} {rows:List (List C)} (h:∀ r ∈ rows,∀ c ∈ r,zx c=true):qK [⟨1,ty,sz,rows,fz⟩]=true:=by
 unfold qK;simp only [List.all_cons,List.all_nil,Bool.and_true];rw [List.all_eq_true]
 exact fun r hr=>List.all_eq_true.2 fun c hc=>h r hr c hc
theorem zy {α:Type} {enc:α->List C} {p:C->Bool} (h:∀ x,(enc x).all p=true) {row:List C} (hr:row.all p=true) (l:List α) (v:Nat):∀ r ∈ (l.map enc).set v row,∀ c ∈ r,p c=true:=fun r hm c hc=>by
 rcases List.mem_or_eq_of_mem_set hm with hm | rfl
 ·obtain ⟨x,_,rfl⟩:=List.mem_map.1 hm;exact List.all_eq_true.1 (h x) c hc
 ·exact List.all_eq_true.1 hr c hc
theorem vt {α:Type} {enc:α->List C} {p:C->Bool} (h:∀ x,(enc x).all p=true) {row z:List C} (hz:z.all p=true) (l:List α) {v k:Nat} (n:Nat) (hr:k<=v∨row.all p=true):∀ r ∈ ((l.map enc).set v row).take k++(List.replicate n z).drop k,∀ c ∈ r,p c=true:=fun r hm c hc=>by
 rcases List.mem_append.1 hm with hm | hm
 ·rcases hr with hr | hr
  ·rw [List.take_set_of_le hr] at hm;obtain ⟨x,_,rfl⟩:=List.mem_map.1 (List.mem_of_mem_take hm);exact List.all_eq_true.1 (h x) c hc
  ·exact zy h hr l v r (List.mem_of_mem_take hm) c hc
 ·rw [List.eq_of_mem_replicate (List.mem_of_mem_drop hm)] at hc;exact List.all_eq_true.1 hz c hc
theorem zk9 (e0:En) (x:Int) (l:List Int) (he:e0.next=x::l) (hl:l.length < 1000000000):zb Tryz.prog 319 [] [.agg [],.agg (zu e0)] (.agg [U e0.head,C.sl 0 [] 1 0 e0.next.length false,I e0.zg]) [⟨2,3,1,e0.next.map encI,0⟩]:=by
 have h1:zb Tryz.prog 319 [] [.agg [],.agg (zu e0)] (.agg [U e0.head,C.sl 3 [] 1 0 e0.next.length false,I e0.zg]) [⟨1,286,0,[[]],0⟩,⟨1,156,3,[[U e0.head,C.sl 3 [] 1 0 e0.next.length false,I e0.zg]],0⟩,⟨1,156,3,[[U e0.head,C.sl 3 [] 1 0 e0.next.length false,I e0.zg]],0⟩,⟨2,3,1,e0.next.map encI,0⟩]:=by
  have hc:=zjj x l hl;rw [<- he] at hc;refine zb.zS (fn:=Tryz.f319) Tryz.func319 rfl (uH ?_);refine zq [] (hc) rfl rfl rfl rfl rfl rfl (dd ?_);exact uJ
 exact h1.ze6 (fun B h _=>zo.ren [3] [0] _ _ tJ rfl rfl rfl) (Nat.zero_le _)
theorem zpD (e0:En) (x:Int) (l:List Int) (he:e0.next=x::l) (hl:l.length < 1000000000) (H:zk) (hf:qK H=true):zb Tryz.prog 319 H [.agg [],.agg (zu e0)] (.agg ([U e0.head,C.sl H.length [] 1 0 e0.next.length false,I e0.zg])) (H++[⟨2,3,1,e0.next.map encI,0⟩]):=
 wT (zk9 e0 x l he hl) rfl rfl H hf
theorem zG {α:Type} {enc:α->List C} {sel:List Nat} (hf:∀ x,(enc x).map (xH sel 9)=enc x) (l:List α) (v:Nat) (row:List C) (ty sz fz:Nat):zK sel ⟨1,ty,sz,(l.map enc).set v row,fz⟩=⟨1,ty,sz,(l.map enc).set v (row.map (xH sel 9)),fz⟩:=by
 show (⟨1,ty,sz,((l.map enc).set v row).map (fun r=>r.map (xH sel 9)),fz⟩:Ob)=_;rw [zjR hf]
theorem zB {α:Type} {enc:α->List C} {ρ:Nat->Nat} (hf:∀ x,(enc x).map (yx ρ 9)=enc x) (l:List α) (v:Nat) (row:List C) (ty sz fz:Nat):zF ρ ⟨1,ty,sz,(l.map enc).set v row,fz⟩=⟨1,ty,sz,(l.map enc).set v (row.map (yx ρ 9)),fz⟩:=by
 show (⟨1,ty,sz,((l.map enc).set v row).map (fun r=>r.map (yx ρ 9)),fz⟩:Ob)=_;rw [zjR hf]
theorem zpz (l:List En) (e:Nat) (e0:En) (hv:l[e]?= some e0) (hl:l.length < 1000000000) (hp:∀ x ∈ l,zb Tryz.prog 319 [] [.agg [],.agg (zu x)] (.agg (zu x)) [])
  (hA:∀ H,qK H=true->zb Tryz.prog 319 H [.agg [],.agg (zu e0)] (.agg ([U e0.head,C.sl H.length [] 1 0 e0.next.length false,I e0.zg])) (H++[⟨2,3,1,e0.next.map encI,0⟩])):
  zb Tryz.prog 318 [] [lE l,.fn 319 [] [],.agg []] (.sl 0 [] 3 0 l.length false) [⟨1,0,3,(l.map zu).set e ([U e0.head,C.sl 1 [] 1 0 e0.next.length false,I e0.zg]),0⟩,⟨2,3,1,e0.next.map encI,0⟩]:=by
 have m1:(l.map zu).length=l.length:=List.length_map ..;have hvl:=(List.getElem?_eq_some_iff.1 hv).1
 have h1:zb Tryz.prog 318 [] [lE l,.fn 319 [] [],.agg []] (.sl 1 [] 3 0 l.length false) [⟨1,286,0,[[]],0⟩,⟨1,0,3,(l.map zu).set e ([U e0.head,C.sl 3 [] 1 0 e0.next.length false,I e0.zg]),0⟩,⟨1,156,3,[zu e0],0⟩,⟨2,3,1,e0.next.map encI,0⟩]:=by
  refine zb.zS (fn:=Tryz.f318) Tryz.func318 rfl (uH ?_);rw [m1];refine ⟨rfl,by omega,by show (40:Int) * _<=_;omega,by omega,dd ?_⟩;rw [m1,toNat_cast];have ZZ:List C:=([U 0,.lst 1 0 [],I 0]:List C);refine qf.seq l.length (fun k=>((lE l)::.fn 319 [] []::.za::.za::.za::.ref 0 [] 0 0 0::.lst 1 0 []::.sl 1 [] 3 0 l.length false::.za::.za::.za::.za::.za::(lE l)::I l.length::I k::tY ([.za,.za,.za,.za,.za]))) (fun k=>if k<=e then [⟨1,286,0,[[]],0⟩,⟨1,0,3,((l.map zu).set e ([U e0.head,C.sl 3 [] 1 0 e0.next.length false,I e0.zg])).take k++(List.replicate l.length ([U 0,.lst 1 0 [],I 0]:List C)).drop k,0⟩] else [⟨1,286,0,[[]],0⟩,⟨1,0,3,((l.map zu).set e ([U e0.head,C.sl 3 [] 1 0 e0.next.length false,I e0.zg])).take k++(List.replicate l.length ([U 0,.lst 1 0 [],I 0]:List C)).drop k,0⟩,⟨1,156,3,[zu e0],0⟩,⟨2,3,1,e0.next.map encI,0⟩]) (fun k=>True) ?_ trivial (fun k hk hr=>?_) (fun hr=>?_)
  ·rw [if_pos (Nat.zero_le _)];refine zo.trans (zo.zhy 1 rfl fun r hr c hc=>?_) (cC);rw [List.eq_of_mem_replicate hr] at hc;exact List.all_eq_true.1 (rfl:([U 0,.lst 1 0 [],I 0]:List C).all zx=true) c hc
  ·obtain ⟨x,hx⟩:∃ x,x=l[k]:=⟨_,rfl⟩;have hx2:l[k]?= some x:=by rw [List.getElem?_eq_getElem hk,hx]
   have hxm:x ∈ l:=by rw [hx];exact List.getElem_mem hk
   have hg:(l.map zu)[k]?= some (zu x):=by rw [List.getElem?_map,hx2];rfl
   have e1:0+(k:Int).toNat=k:=by simp
   have low:∀ n j,j<=e∨3 < n->∀ r ∈ ((l.map zu).set e ([U e0.head,C.sl 3 [] 1 0 e0.next.length false,I e0.zg])).take j++(List.replicate l.length ([U 0,.lst 1 0 [],I 0]:List C)).drop j,∀ c ∈ r,qS n 9 c=true:=fun n j h=>vt (enc:=zu) (fun _=>rfl) rfl l l.length (h.imp_right fun h=>by simp [qS,qJ];omega)
   have own:∀ j,∀ r ∈ ((l.map zu).set e ([U e0.head,C.sl 3 [] 1 0 e0.next.length false,I e0.zg])).take j++(List.replicate l.length ([U 0,.lst 1 0 [],I 0]:List C)).drop j,∀ c ∈ r,zx c=true:=fun j=>vt (enc:=zu) (fun _=>rfl) rfl l l.length (.inr rfl)
   by_cases hkv:k=e
   ·subst hkv;obtain rfl:e0=x:=by rw [hv] at hx2;exact Option.some.inj hx2
    have hF:((l.map zu).set k ([U e0.head,C.sl 3 [] 1 0 e0.next.length false,I e0.zg]))[k]?= some ([U e0.head,C.sl 3 [] 1 0 e0.next.length false,I e0.zg]):=by rw [List.getElem?_set,if_pos rfl,if_pos (by simpa using hk)]
    rw [if_pos (Nat.le_refl _),if_neg (by omega)];conv=>whnf
    refine uF ?_;(refine ⟨by omega,_,by rw [toNat_cast];exact hg,dd ?_⟩)
    refine ⟨_,_,hA _ (zc rfl (zc (zi (own k)) rfl)),dd ?_⟩;refine ⟨by omega,by simp;omega,dd ?_⟩;rw [e1];refine ⟨_,jN (by simp) hk,rfl,dd ?_⟩;refine .inl ⟨rfl,?_,trivial⟩;rw [zA (by omega),<- qO hF hk];exact cC
   ·have hF:((l.map zu).set e ([U e0.head,C.sl 3 [] 1 0 e0.next.length false,I e0.zg]))[k]?= some (zu x):=by rw [List.getElem?_set_ne (fun h=>hkv h.symm)];exact hg
    by_cases hlt:k < e
    ·rw [if_pos (by omega),if_pos (by omega)];conv=>whnf
     refine uF ?_;(refine ⟨by omega,_,by rw [toNat_cast];exact hg,dd ?_⟩)
     refine ⟨_,_,(hp x hxm).frame rfl _,dd ?_⟩;refine ⟨by omega,by simp;omega,dd ?_⟩;rw [e1];refine ⟨_,jN (by simp) hk,rfl,dd ?_⟩;refine .inl ⟨rfl,?_,trivial⟩;rw [zA (by omega),<- qO hF hk];refine zo.xa 2 (by (conv=>whnf);(repeat (refine ⟨rfl,uH ?_⟩));exact trivial) rfl rfl rfl (jC rfl (xL ?_)) rfl;have lw:=low 2 (k+1) (.inl (by omega));rw [<- qO (z:=([U 0,.lst 1 0 [],I 0]:List C)) (n:=l.length) hF hk] at lw;exact lw
    ·rw [if_neg (by omega),if_neg (by omega)];conv=>whnf
     refine uF ?_;(refine ⟨by omega,_,by rw [toNat_cast];exact hg,dd ?_⟩)
     refine ⟨_,_,(hp x hxm).frame rfl _,dd ?_⟩;refine ⟨by omega,by simp;omega,dd ?_⟩;rw [e1];refine ⟨_,jN (by simp) hk,rfl,dd ?_⟩;refine .inl ⟨rfl,?_,trivial⟩;rw [zA (by omega),<- qO hF hk];refine zo.xa 4 (by (conv=>whnf);(repeat (refine ⟨rfl,uH ?_⟩));exact trivial) rfl rfl rfl (jC rfl (jC (xL ?_) (jC rfl rfl))) rfl;have lw:=low 4 (k+1) (.inr (by omega));rw [<- qO (z:=([U 0,.lst 1 0 [],I 0]:List C)) (n:=l.length) hF hk] at lw;exact lw
  ·rw [if_neg (by omega)];refine uD ?_;rw [yE (by simp)];exact uJ
 refine h1.ze6 (fun B h _=>?_) (Nat.zero_le _);have hw:=zo.ren (B:=B) [1,3] [0] [.sl 1 [] 3 0 l.length false] [⟨1,286,0,[[]],0⟩,⟨1,0,3,(l.map zu).set e ([U e0.head,C.sl 3 [] 1 0 e0.next.length false,I e0.zg]),0⟩,⟨1,156,3,[zu e0],0⟩,⟨2,3,1,e0.next.map encI,0⟩] tJ rfl rfl (zc rfl (zc (zi (zy (enc:=zu) (fun _=>rfl) rfl l e)) (zc rfl rfl)))
 have e:xe [1,3] [⟨1,286,0,[[]],0⟩,⟨1,0,3,(l.map zu).set e ([U e0.head,C.sl 3 [] 1 0 e0.next.length false,I e0.zg]),0⟩,⟨1,156,3,[zu e0],0⟩,⟨2,3,1,e0.next.map encI,0⟩]=[⟨1,0,3,(l.map zu).set e ([U e0.head,C.sl 1 [] 1 0 e0.next.length false,I e0.zg]),0⟩,⟨2,3,1,e0.next.map encI,0⟩]:=by
  show zK [1,3] ⟨1,0,3,(l.map zu).set e ([U e0.head,C.sl 3 [] 1 0 e0.next.length false,I e0.zg]),0⟩::_=_;rw [zG (enc:=zu) (fun _=>rfl)]
  rfl
 rw [e] at hw;exact hw
structure zmK (g0:Gr) (e:Nat) (e0:En):Prop where
 sm:zsG g0
 at_:g0.ends[e]?= some e0
 ne:e0.next≠[]
theorem zri {g0:Gr} {e:Nat} {e0:En} (h:zmK g0 e e0) (H:zk) (hf:qK H=true):zb Tryz.prog 318 H [lE g0.ends,.fn 319 [] [],.agg []] (.sl H.length [] 3 0 g0.ends.length false) (H++[⟨1,0,3,(g0.ends.map zu).set e ([U e0.head,C.sl (H.length+1) [] 1 0 e0.next.length false,I e0.zg]),0⟩,⟨2,3,1,e0.next.map encI,0⟩]):=by
 obtain ⟨x,l,hx⟩:∃ x l,e0.next=x::l:=by
  cases hh:e0.next with
  | nil=>exact absurd hh h.ne
  | cons x l=>exact ⟨x,l,rfl⟩
 have hlen:l.length < 1000000000:=by
  have:=h.sm.2 e0 (List.mem_of_getElem? h.at_);rw [hx] at this;simp at this;omega
 have:=wT (zpz g0.ends e e0 h.at_ h.sm.1 (fun y hy=>zfH y (h.sm.2 y hy)) (zpD e0 x l hx hlen)) (zc (zi (zy (enc:=zu) (fun _=>rfl) rfl _ _)) rfl) rfl H hf
 have e9:[(⟨1,0,3,(g0.ends.map zu).set e ([U e0.head,C.sl 1 [] 1 0 e0.next.length false,I e0.zg]),0⟩:Ob),⟨2,3,1,e0.next.map encI,0⟩].map (zF (qT [] H.length))=[⟨1,0,3,(g0.ends.map zu).set e ([U e0.head,C.sl (H.length+1) [] 1 0 e0.next.length false,I e0.zg]),0⟩,⟨2,3,1,e0.next.map encI,0⟩]:=by
  show zF _ ⟨1,0,3,_,0⟩::_=_;rw [zB (enc:=zu) (fun _=>rfl)]
  rfl
 rw [e9] at this;exact this
theorem ziv {g0:Gr} {e:Nat} {e0:En} (h:zmK g0 e e0):zb Tryz.prog 308 [] [.agg [],.agg (zE g0)] (.agg [U g0.zr,C.sl 0 [] 3 0 g0.ends.length false]) [⟨1,0,3,(g0.ends.map zu).set e ([U e0.head,C.sl 1 [] 1 0 e0.next.length false,I e0.zg]),0⟩,⟨2,3,1,e0.next.map encI,0⟩]:=by
 have own:∀ i,∀ r ∈ (g0.ends.map zu).set e ([U e0.head,C.sl i [] 1 0 e0.next.length false,I e0.zg]),∀ c ∈ r,zx c=true:=fun i=>zy (enc:=zu) (fun _=>rfl) rfl _ _
 have h1:zb Tryz.prog 308 [] [.agg [],.agg (zE g0)] (.agg [U g0.zr,C.sl 3 [] 3 0 g0.ends.length false]) [⟨1,286,0,[[]],0⟩,⟨1,83,2,[[U g0.zr,C.sl 3 [] 3 0 g0.ends.length false]],0⟩,⟨1,83,2,[[U g0.zr,C.sl 3 [] 3 0 g0.ends.length false]],0⟩,⟨1,0,3,(g0.ends.map zu).set e ([U e0.head,C.sl 4 [] 1 0 e0.next.length false,I e0.zg]),0⟩,⟨2,3,1,e0.next.map encI,0⟩]:=by
  refine zb.zS (fn:=Tryz.f308) Tryz.func308 rfl (uH ?_);refine ⟨_,_,zri h _ rfl,dd ?_⟩;exact uJ
 refine h1.ze6 (fun B hB _=>?_) (Nat.zero_le _);have hw:=zo.ren (B:=B) [3,4] [0] [.agg [U g0.zr,C.sl 3 [] 3 0 g0.ends.length false]] [⟨1,286,0,[[]],0⟩,⟨1,83,2,[[U g0.zr,C.sl 3 [] 3 0 g0.ends.length false]],0⟩,⟨1,83,2,[[U g0.zr,C.sl 3 [] 3 0 g0.ends.length false]],0⟩,⟨1,0,3,(g0.ends.map zu).set e ([U e0.head,C.sl 4 [] 1 0 e0.next.length false,I e0.zg]),0⟩,⟨2,3,1,e0.next.map encI,0⟩] (by rw [show B=0 from by simpa using hB];rfl) rfl rfl (zc rfl (zc rfl (zc rfl (zc (zi (own 4)) rfl))))
 have e:xe [3,4] [⟨1,286,0,[[]],0⟩,⟨1,83,2,[[U g0.zr,C.sl 3 [] 3 0 g0.ends.length false]],0⟩,⟨1,83,2,[[U g0.zr,C.sl 3 [] 3 0 g0.ends.length false]],0⟩,⟨1,0,3,(g0.ends.map zu).set e ([U e0.head,C.sl 4 [] 1 0 e0.next.length false,I e0.zg]),0⟩,⟨2,3,1,e0.next.map encI,0⟩]=[⟨1,0,3,(g0.ends.map zu).set e ([U e0.head,C.sl 1 [] 1 0 e0.next.length false,I e0.zg]),0⟩,⟨2,3,1,e0.next.map encI,0⟩]:=by
  show zK [3,4] ⟨1,0,3,(g0.ends.map zu).set e ([U e0.head,C.sl 4 [] 1 0 e0.next.length false,I e0.zg]),0⟩::_=_;rw [zG (enc:=zu) (fun _=>rfl)]
  rfl
 rw [e] at hw;exact hw
theorem zlt {g0:Gr} {e:Nat} {e0:En} (h:zmK g0 e e0) (H:zk) (hf:qK H=true):zb Tryz.prog 308 H [.agg [],.agg (zE g0)] (.agg ([U g0.zr,C.sl H.length [] 3 0 g0.ends.length false])) (H++[⟨1,0,3,(g0.ends.map zu).set e ([U e0.head,C.sl (H.length+1) [] 1 0 e0.next.length false,I e0.zg]),0⟩,⟨2,3,1,e0.next.map encI,0⟩]):=by
 have:=wT (ziv h) (zc (zi (zy (enc:=zu) (fun _=>rfl) rfl _ _)) rfl) rfl H hf
 have e9:[(⟨1,0,3,(g0.ends.map zu).set e ([U e0.head,C.sl 1 [] 1 0 e0.next.length false,I e0.zg]),0⟩:Ob),⟨2,3,1,e0.next.map encI,0⟩].map (zF (qT [] H.length))=[⟨1,0,3,(g0.ends.map zu).set e ([U e0.head,C.sl (H.length+1) [] 1 0 e0.next.length false,I e0.zg]),0⟩,⟨2,3,1,e0.next.map encI,0⟩]:=by
  show zF _ ⟨1,0,3,_,0⟩::_=_;rw [zB (enc:=zu) (fun _=>rfl)]
  rfl
 rw [e9] at this;exact this
theorem zpA (e0:En) (e:Nat) (l:List Gr) (g:Nat) (g0:Gr) (hv:l[g]?= some g0) (hl:l.length < 1000000000) (hp:∀ x ∈ l,zb Tryz.prog 308 [] [.agg [],.agg (zE x)] (.agg (zE x)) [])
  (hA:∀ H,qK H=true->zb Tryz.prog 308 H [.agg [],.agg (zE g0)] (.agg ([U g0.zr,C.sl H.length [] 3 0 g0.ends.length false])) (H++[⟨1,0,3,(g0.ends.map zu).set e ([U e0.head,C.sl (H.length+1) [] 1 0 e0.next.length false,I e0.zg]),0⟩,⟨2,3,1,e0.next.map encI,0⟩])):
  zb Tryz.prog 307 [] [lG l,.fn 308 [] [],.agg []] (.sl 0 [] 2 0 l.length false) [⟨1,0,2,(l.map zE).set g ([U g0.zr,C.sl 1 [] 3 0 g0.ends.length false]),0⟩,⟨1,0,3,(g0.ends.map zu).set e ([U e0.head,C.sl 2 [] 1 0 e0.next.length false,I e0.zg]),0⟩,⟨2,3,1,e0.next.map encI,0⟩]:=by
 have m1:(l.map zE).length=l.length:=List.length_map ..;have hvl:=(List.getElem?_eq_some_iff.1 hv).1
 have h1:zb Tryz.prog 307 [] [lG l,.fn 308 [] [],.agg []] (.sl 1 [] 2 0 l.length false) [⟨1,286,0,[[]],0⟩,⟨1,0,2,(l.map zE).set g ([U g0.zr,C.sl 3 [] 3 0 g0.ends.length false]),0⟩,⟨1,83,2,[zE g0],0⟩,⟨1,0,3,(g0.ends.map zu).set e ([U e0.head,C.sl 4 [] 1 0 e0.next.length false,I e0.zg]),0⟩,⟨2,3,1,e0.next.map encI,0⟩]:=by
  refine zb.zS (fn:=Tryz.f307) Tryz.func307 rfl (uH ?_);rw [m1];refine ⟨rfl,by omega,by show (32:Int) * _<=_;omega,by omega,dd ?_⟩;rw [m1,toNat_cast];have ZZ:List C:=([U 0,.lst 1 0 []]:List C);refine qf.seq l.length (fun k=>((lG l)::.fn 308 [] []::.za::.za::.za::.ref 0 [] 0 0 0::.lst 1 0 []::.sl 1 [] 2 0 l.length false::.za::.za::.za::.za::.za::(lG l)::I l.length::I k::tY ([.za,.za,.za,.za,.za]))) (fun k=>if k<=g then [⟨1,286,0,[[]],0⟩,⟨1,0,2,((l.map zE).set g ([U g0.zr,C.sl 3 [] 3 0 g0.ends.length false])).take k++(List.replicate l.length ([U 0,.lst 1 0 []]:List C)).drop k,0⟩] else [⟨1,286,0,[[]],0⟩,⟨1,0,2,((l.map zE).set g ([U g0.zr,C.sl 3 [] 3 0 g0.ends.length false])).take k++(List.replicate l.length ([U 0,.lst 1 0 []]:List C)).drop k,0⟩,⟨1,83,2,[zE g0],0⟩,⟨1,0,3,(g0.ends.map zu).set e ([U e0.head,C.sl 4 [] 1 0 e0.next.length false,I e0.zg]),0⟩,⟨2,3,1,e0.next.map encI,0⟩]) (fun k=>True) ?_ trivial (fun k hk hr=>?_) (fun hr=>?_)
  ·rw [if_pos (Nat.zero_le _)];refine zo.trans (zo.zhy 1 rfl fun r hr c hc=>?_) (cC);rw [List.eq_of_mem_replicate hr] at hc;exact List.all_eq_true.1 (rfl:([U 0,.lst 1 0 []]:List C).all zx=true) c hc
  ·obtain ⟨x,hx⟩:∃ x,x=l[k]:=⟨_,rfl⟩;have hx2:l[k]?= some x:=by rw [List.getElem?_eq_getElem hk,hx]
   have hxm:x ∈ l:=by rw [hx];exact List.getElem_mem hk
   have hg:(l.map zE)[k]?= some (zE x):=by rw [List.getElem?_map,hx2];rfl
   have e1:0+(k:Int).toNat=k:=by simp
   have low:∀ n j,j<=g∨3 < n->∀ r ∈ ((l.map zE).set g ([U g0.zr,C.sl 3 [] 3 0 g0.ends.length false])).take j++(List.replicate l.length ([U 0,.lst 1 0 []]:List C)).drop j,∀ c ∈ r,qS n 9 c=true:=fun n j h=>vt (enc:=zE) (fun _=>rfl) rfl l l.length (h.imp_right fun h=>by simp [qS,qJ];omega)
   have own:∀ j,∀ r ∈ ((l.map zE).set g ([U g0.zr,C.sl 3 [] 3 0 g0.ends.length false])).take j++(List.replicate l.length ([U 0,.lst 1 0 []]:List C)).drop j,∀ c ∈ r,zx c=true:=fun j=>vt (enc:=zE) (fun _=>rfl) rfl l l.length (.inr rfl)
   by_cases hkv:k=g
   ·subst hkv;obtain rfl:g0=x:=by rw [hv] at hx2;exact Option.some.inj hx2
    have hF:((l.map zE).set k ([U g0.zr,C.sl 3 [] 3 0 g0.ends.length false]))[k]?= some ([U g0.zr,C.sl 3 [] 3 0 g0.ends.length false]):=by rw [List.getElem?_set,if_pos rfl,if_pos (by simpa using hk)]
    rw [if_pos (Nat.le_refl _),if_neg (by omega)];conv=>whnf
    refine uF ?_;(refine ⟨by omega,_,by rw [toNat_cast];exact hg,dd ?_⟩)
    refine ⟨_,_,hA _ (zc rfl (zc (zi (own k)) rfl)),dd ?_⟩;refine ⟨by omega,by simp;omega,dd ?_⟩;rw [e1];refine ⟨_,jN (by simp) hk,rfl,dd ?_⟩;refine .inl ⟨rfl,?_,trivial⟩;rw [zA (by omega),<- qO hF hk];exact cC
   ·have hF:((l.map zE).set g ([U g0.zr,C.sl 3 [] 3 0 g0.ends.length false]))[k]?= some (zE x):=by rw [List.getElem?_set_ne (fun h=>hkv h.symm)];exact hg
    by_cases hlt:k < g
    ·rw [if_pos (by omega),if_pos (by omega)];conv=>whnf
     refine uF ?_;(refine ⟨by omega,_,by rw [toNat_cast];exact hg,dd ?_⟩)
     refine ⟨_,_,(hp x hxm).frame rfl _,dd ?_⟩;refine ⟨by omega,by simp;omega,dd ?_⟩;rw [e1];refine ⟨_,jN (by simp) hk,rfl,dd ?_⟩;refine .inl ⟨rfl,?_,trivial⟩;rw [zA (by omega),<- qO hF hk];refine zo.xa 2 (by (conv=>whnf);(repeat (refine ⟨rfl,uH ?_⟩));exact trivial) rfl rfl rfl (jC rfl (xL ?_)) rfl;have lw:=low 2 (k+1) (.inl (by omega));rw [<- qO (z:=([U 0,.lst 1 0 []]:List C)) (n:=l.length) hF hk] at lw;exact lw
    ·rw [if_neg (by omega),if_neg (by omega)];conv=>whnf
     refine uF ?_;(refine ⟨by omega,_,by rw [toNat_cast];exact hg,dd ?_⟩)
     refine ⟨_,_,(hp x hxm).frame rfl _,dd ?_⟩;refine ⟨by omega,by simp;omega,dd ?_⟩;rw [e1];refine ⟨_,jN (by simp) hk,rfl,dd ?_⟩;refine .inl ⟨rfl,?_,trivial⟩;rw [zA (by omega),<- qO hF hk];refine zo.xa 5 (by (conv=>whnf);(repeat (refine ⟨rfl,uH ?_⟩));exact trivial) rfl rfl rfl (jC rfl (jC (xL ?_) (jC rfl (jC (xL (zy (enc:=zu) (fun _=>rfl) rfl _ _)) rfl)))) rfl;have lw:=low 5 (k+1) (.inr (by omega));rw [<- qO (z:=([U 0,.lst 1 0 []]:List C)) (n:=l.length) hF hk] at lw;exact lw
  ·rw [if_neg (by omega)];refine uD ?_;rw [yE (by simp)];exact uJ
 refine h1.ze6 (fun B h _=>?_) (Nat.zero_le _);have hw:=zo.ren (B:=B) [1,3,4] [0] [.sl 1 [] 2 0 l.length false] [⟨1,286,0,[[]],0⟩,⟨1,0,2,(l.map zE).set g ([U g0.zr,C.sl 3 [] 3 0 g0.ends.length false]),0⟩,⟨1,83,2,[zE g0],0⟩,⟨1,0,3,(g0.ends.map zu).set e ([U e0.head,C.sl 4 [] 1 0 e0.next.length false,I e0.zg]),0⟩,⟨2,3,1,e0.next.map encI,0⟩] tJ rfl rfl (zc rfl (zc (zi (zy (enc:=zE) (fun _=>rfl) rfl l g)) (zc rfl (zc (zi (zy (enc:=zu) (fun _=>rfl) rfl _ _)) rfl))))
 have e:xe [1,3,4] [⟨1,286,0,[[]],0⟩,⟨1,0,2,(l.map zE).set g ([U g0.zr,C.sl 3 [] 3 0 g0.ends.length false]),0⟩,⟨1,83,2,[zE g0],0⟩,⟨1,0,3,(g0.ends.map zu).set e ([U e0.head,C.sl 4 [] 1 0 e0.next.length false,I e0.zg]),0⟩,⟨2,3,1,e0.next.map encI,0⟩]=[⟨1,0,2,(l.map zE).set g ([U g0.zr,C.sl 1 [] 3 0 g0.ends.length false]),0⟩,⟨1,0,3,(g0.ends.map zu).set e ([U e0.head,C.sl 2 [] 1 0 e0.next.length false,I e0.zg]),0⟩,⟨2,3,1,e0.next.map encI,0⟩]:=by
  show zK [1,3,4] ⟨1,0,2,(l.map zE).set g ([U g0.zr,C.sl 3 [] 3 0 g0.ends.length false]),0⟩::_=_;rw [zG (enc:=zE) (fun _=>rfl)];show _::zK [1,3,4] ⟨1,0,3,(g0.ends.map zu).set e ([U e0.head,C.sl 4 [] 1 0 e0.next.length false,I e0.zg]),0⟩::_=_;rw [zG (enc:=zu) (fun _=>rfl)];rfl
 rw [e] at hw;exact hw
structure zmL (v0:Ver) (g:Nat) (g0:Gr) (e:Nat) (e0:En):Prop extends zmK g0 e e0 where
 smv:zmM v0
 atg:v0.zm[g]?= some g0
theorem zrk {v0:Ver} {g:Nat} {g0:Gr} {e:Nat} {e0:En} (h:zmL v0 g g0 e e0) (H:zk) (hf:qK H=true):zb Tryz.prog 307 H [lG v0.zm,.fn 308 [] [],.agg []] (.sl H.length [] 2 0 v0.zm.length false) (H++[⟨1,0,2,(v0.zm.map zE).set g ([U g0.zr,C.sl (H.length+1) [] 3 0 g0.ends.length false]),0⟩,⟨1,0,3,(g0.ends.map zu).set e ([U e0.head,C.sl (H.length+2) [] 1 0 e0.next.length false,I e0.zg]),0⟩,⟨2,3,1,e0.next.map encI,0⟩]):=by
 have:=wT (zpA e0 e v0.zm g g0 h.atg h.smv.1 (fun y hy=>zc0 y (h.smv.2 y hy)) (zlt h.tozmK)) (zc (zi (zy (enc:=zE) (fun _=>rfl) rfl _ _)) (zc (zi (zy (enc:=zu) (fun _=>rfl) rfl _ _)) rfl)) rfl H hf
 have e9:[(⟨1,0,2,(v0.zm.map zE).set g ([U g0.zr,C.sl 1 [] 3 0 g0.ends.length false]),0⟩:Ob),⟨1,0,3,(g0.ends.map zu).set e ([U e0.head,C.sl 2 [] 1 0 e0.next.length false,I e0.zg]),0⟩,⟨2,3,1,e0.next.map encI,0⟩].map (zF (qT [] H.length))=[⟨1,0,2,(v0.zm.map zE).set g ([U g0.zr,C.sl (H.length+1) [] 3 0 g0.ends.length false]),0⟩,⟨1,0,3,(g0.ends.map zu).set e ([U e0.head,C.sl (H.length+2) [] 1 0 e0.next.length false,I e0.zg]),0⟩,⟨2,3,1,e0.next.map encI,0⟩]:=by
  show zF _ ⟨1,0,2,_,0⟩::zF _ ⟨1,0,3,_,0⟩::_=_;rw [zB (enc:=zE) (fun _=>rfl),zB (enc:=zu) (fun _=>rfl)]
  rfl
 rw [e9] at this;exact this
theorem zgF {v0:Ver} {g:Nat} {g0:Gr} {e:Nat} {e0:En} (h:zmL v0 g g0 e e0):zb Tryz.prog 274 [] [.agg [],.agg (zI v0)] (.agg (qJ v0.snap++[C.sl 0 [] 2 0 v0.zm.length false,Bo v0.qj])) [⟨1,0,2,(v0.zm.map zE).set g ([U g0.zr,C.sl 1 [] 3 0 g0.ends.length false]),0⟩,⟨1,0,3,(g0.ends.map zu).set e ([U e0.head,C.sl 2 [] 1 0 e0.next.length false,I e0.zg]),0⟩,⟨2,3,1,e0.next.map encI,0⟩]:=by
 have h1:zb Tryz.prog 274 [] [.agg [],.agg (zI v0)] (.agg (qJ v0.snap++[C.sl 3 [] 2 0 v0.zm.length false,Bo v0.qj])) [⟨1,286,0,[[]],0⟩,⟨1,79,5,[(qJ v0.snap++[C.sl 3 [] 2 0 v0.zm.length false,Bo v0.qj])],0⟩,⟨1,79,5,[(qJ v0.snap++[C.sl 3 [] 2 0 v0.zm.length false,Bo v0.qj])],0⟩,⟨1,0,2,(v0.zm.map zE).set g ([U g0.zr,C.sl 4 [] 3 0 g0.ends.length false]),0⟩,⟨1,0,3,(g0.ends.map zu).set e ([U e0.head,C.sl 5 [] 1 0 e0.next.length false,I e0.zg]),0⟩,⟨2,3,1,e0.next.map encI,0⟩]:=by
  refine zb.zS (fn:=Tryz.f274) Tryz.func274 rfl (uH ?_);refine ⟨_,_,zrk h _ rfl,dd ?_⟩;exact uJ
 refine h1.ze6 (fun B hB _=>?_) (Nat.zero_le _);have hw:=zo.ren (B:=B) [3,4,5] [0] [.agg (qJ v0.snap++[C.sl 3 [] 2 0 v0.zm.length false,Bo v0.qj])] [⟨1,286,0,[[]],0⟩,⟨1,79,5,[(qJ v0.snap++[C.sl 3 [] 2 0 v0.zm.length false,Bo v0.qj])],0⟩,⟨1,79,5,[(qJ v0.snap++[C.sl 3 [] 2 0 v0.zm.length false,Bo v0.qj])],0⟩,⟨1,0,2,(v0.zm.map zE).set g ([U g0.zr,C.sl 4 [] 3 0 g0.ends.length false]),0⟩,⟨1,0,3,(g0.ends.map zu).set e ([U e0.head,C.sl 5 [] 1 0 e0.next.length false,I e0.zg]),0⟩,⟨2,3,1,e0.next.map encI,0⟩] (by rw [show B=0 from by simpa using hB];rfl) rfl rfl (zc rfl (zc rfl (zc rfl (zc (zi (zy (enc:=zE) (fun _=>rfl) rfl _ _)) (zc (zi (zy (enc:=zu) (fun _=>rfl) rfl _ _)) rfl)))))
 have e:xe [3,4,5] [⟨1,286,0,[[]],0⟩,⟨1,79,5,[(qJ v0.snap++[C.sl 3 [] 2 0 v0.zm.length false,Bo v0.qj])],0⟩,⟨1,79,5,[(qJ v0.snap++[C.sl 3 [] 2 0 v0.zm.length false,Bo v0.qj])],0⟩,⟨1,0,2,(v0.zm.map zE).set g ([U g0.zr,C.sl 4 [] 3 0 g0.ends.length false]),0⟩,⟨1,0,3,(g0.ends.map zu).set e ([U e0.head,C.sl 5 [] 1 0 e0.next.length false,I e0.zg]),0⟩,⟨2,3,1,e0.next.map encI,0⟩]=[⟨1,0,2,(v0.zm.map zE).set g ([U g0.zr,C.sl 1 [] 3 0 g0.ends.length false]),0⟩,⟨1,0,3,(g0.ends.map zu).set e ([U e0.head,C.sl 2 [] 1 0 e0.next.length false,I e0.zg]),0⟩,⟨2,3,1,e0.next.map encI,0⟩]:=by
  show zK [3,4,5] ⟨1,0,2,(v0.zm.map zE).set g ([U g0.zr,C.sl 4 [] 3 0 g0.ends.length false]),0⟩::zK [3,4,5] ⟨1,0,3,(g0.ends.map zu).set e ([U e0.head,C.sl 5 [] 1 0 e0.next.length false,I e0.zg]),0⟩::_=_;rw [zG (enc:=zE) (fun _=>rfl),zG (enc:=zu) (fun _=>rfl)]
  rfl
 rw [e] at hw;exact hw
theorem zi9 {v0:Ver} {g:Nat} {g0:Gr} {e:Nat} {e0:En} (h:zmL v0 g g0 e e0) (H:zk) (hf:qK H=true):zb Tryz.prog 274 H [.agg [],.agg (zI v0)] (.agg ((qJ v0.snap++[C.sl H.length [] 2 0 v0.zm.length false,Bo v0.qj]))) (H++[⟨1,0,2,(v0.zm.map zE).set g ([U g0.zr,C.sl (H.length+1) [] 3 0 g0.ends.length false]),0⟩,⟨1,0,3,(g0.ends.map zu).set e ([U e0.head,C.sl (H.length+2) [] 1 0 e0.next.length false,I e0.zg]),0⟩,⟨2,3,1,e0.next.map encI,0⟩]):=by
 have:=wT (zgF h) (zc (zi (zy (enc:=zE) (fun _=>rfl) rfl _ _)) (zc (zi (zy (enc:=zu) (fun _=>rfl) rfl _ _)) rfl)) rfl H hf
 have e9:[(⟨1,0,2,(v0.zm.map zE).set g ([U g0.zr,C.sl 1 [] 3 0 g0.ends.length false]),0⟩:Ob),⟨1,0,3,(g0.ends.map zu).set e ([U e0.head,C.sl 2 [] 1 0 e0.next.length false,I e0.zg]),0⟩,⟨2,3,1,e0.next.map encI,0⟩].map (zF (qT [] H.length))=[⟨1,0,2,(v0.zm.map zE).set g ([U g0.zr,C.sl (H.length+1) [] 3 0 g0.ends.length false]),0⟩,⟨1,0,3,(g0.ends.map zu).set e ([U e0.head,C.sl (H.length+2) [] 1 0 e0.next.length false,I e0.zg]),0⟩,⟨2,3,1,e0.next.map encI,0⟩]:=by
  show zF _ ⟨1,0,2,_,0⟩::zF _ ⟨1,0,3,_,0⟩::_=_;rw [zB (enc:=zE) (fun _=>rfl),zB (enc:=zu) (fun _=>rfl)]
  rfl
 rw [e9] at this;exact this
theorem zpC (g0:Gr) (g:Nat) (e0:En) (e:Nat) (l:List Ver) (v:Nat) (v0:Ver) (hv:l[v]?= some v0) (hl:l.length < 1000000000) (hp:∀ x ∈ l,zb Tryz.prog 274 [] [.agg [],.agg (zI x)] (.agg (zI x)) [])
  (hA:∀ H,qK H=true->zb Tryz.prog 274 H [.agg [],.agg (zI v0)] (.agg ((qJ v0.snap++[C.sl H.length [] 2 0 v0.zm.length false,Bo v0.qj]))) (H++[⟨1,0,2,(v0.zm.map zE).set g ([U g0.zr,C.sl (H.length+1) [] 3 0 g0.ends.length false]),0⟩,⟨1,0,3,(g0.ends.map zu).set e ([U e0.head,C.sl (H.length+2) [] 1 0 e0.next.length false,I e0.zg]),0⟩,⟨2,3,1,e0.next.map encI,0⟩])):
  zb Tryz.prog 273 [] [lV l,.fn 274 [] [],.agg []] (.sl 0 [] 5 0 l.length false) [⟨1,0,5,(l.map zI).set v ((qJ v0.snap++[C.sl 1 [] 2 0 v0.zm.length false,Bo v0.qj])),0⟩,⟨1,0,2,(v0.zm.map zE).set g ([U g0.zr,C.sl 2 [] 3 0 g0.ends.length false]),0⟩,⟨1,0,3,(g0.ends.map zu).set e ([U e0.head,C.sl 3 [] 1 0 e0.next.length false,I e0.zg]),0⟩,⟨2,3,1,e0.next.map encI,0⟩]:=by
 have m1:(l.map zI).length=l.length:=List.length_map ..;have hvl:=(List.getElem?_eq_some_iff.1 hv).1
 have h1:zb Tryz.prog 273 [] [lV l,.fn 274 [] [],.agg []] (.sl 1 [] 5 0 l.length false) [⟨1,286,0,[[]],0⟩,⟨1,0,5,(l.map zI).set v ((qJ v0.snap++[C.sl 3 [] 2 0 v0.zm.length false,Bo v0.qj])),0⟩,⟨1,79,5,[zI v0],0⟩,⟨1,0,2,(v0.zm.map zE).set g ([U g0.zr,C.sl 4 [] 3 0 g0.ends.length false]),0⟩,⟨1,0,3,(g0.ends.map zu).set e ([U e0.head,C.sl 5 [] 1 0 e0.next.length false,I e0.zg]),0⟩,⟨2,3,1,e0.next.map encI,0⟩]:=by
  refine zb.zS (fn:=Tryz.f273) Tryz.func273 rfl (uH ?_);rw [m1];refine ⟨rfl,by omega,by show (104:Int) * _<=_;omega,by omega,dd ?_⟩;rw [m1,toNat_cast];have ZZ:List C:=([.lst 1 0 [],.lst 1 0 [],.lst 1 0 [],.lst 1 0 [],Bo false]:List C);refine qf.seq l.length (fun k=>((lV l)::.fn 274 [] []::.za::.za::.za::.ref 0 [] 0 0 0::.lst 1 0 []::.sl 1 [] 5 0 l.length false::.za::.za::.za::.za::.za::(lV l)::I l.length::I k::tY ([.za,.za,.za,.za,.za]))) (fun k=>if k<=v then [⟨1,286,0,[[]],0⟩,⟨1,0,5,((l.map zI).set v ((qJ v0.snap++[C.sl 3 [] 2 0 v0.zm.length false,Bo v0.qj]))).take k++(List.replicate l.length ([.lst 1 0 [],.lst 1 0 [],.lst 1 0 [],.lst 1 0 [],Bo false]:List C)).drop k,0⟩] else [⟨1,286,0,[[]],0⟩,⟨1,0,5,((l.map zI).set v ((qJ v0.snap++[C.sl 3 [] 2 0 v0.zm.length false,Bo v0.qj]))).take k++(List.replicate l.length ([.lst 1 0 [],.lst 1 0 [],.lst 1 0 [],.lst 1 0 [],Bo false]:List C)).drop k,0⟩,⟨1,79,5,[zI v0],0⟩,⟨1,0,2,(v0.zm.map zE).set g ([U g0.zr,C.sl 4 [] 3 0 g0.ends.length false]),0⟩,⟨1,0,3,(g0.ends.map zu).set e ([U e0.head,C.sl 5 [] 1 0 e0.next.length false,I e0.zg]),0⟩,⟨2,3,1,e0.next.map encI,0⟩]) (fun k=>True) ?_ trivial (fun k hk hr=>?_) (fun hr=>?_)
  ·rw [if_pos (Nat.zero_le _)];refine zo.trans (zo.zhy 1 rfl fun r hr c hc=>?_) (cC);rw [List.eq_of_mem_replicate hr] at hc;exact List.all_eq_true.1 (rfl:([.lst 1 0 [],.lst 1 0 [],.lst 1 0 [],.lst 1 0 [],Bo false]:List C).all zx=true) c hc
  ·obtain ⟨x,hx⟩:∃ x,x=l[k]:=⟨_,rfl⟩;have hx2:l[k]?= some x:=by rw [List.getElem?_eq_getElem hk,hx]
   have hxm:x ∈ l:=by rw [hx];exact List.getElem_mem hk
   have hg:(l.map zI)[k]?= some (zI x):=by rw [List.getElem?_map,hx2];rfl
   have e1:0+(k:Int).toNat=k:=by simp
   have low:∀ n j,j<=v∨3 < n->∀ r ∈ ((l.map zI).set v ((qJ v0.snap++[C.sl 3 [] 2 0 v0.zm.length false,Bo v0.qj]))).take j++(List.replicate l.length ([.lst 1 0 [],.lst 1 0 [],.lst 1 0 [],.lst 1 0 [],Bo false]:List C)).drop j,∀ c ∈ r,qS n 9 c=true:=fun n j h=>vt (enc:=zI) (fun _=>rfl) rfl l l.length (h.imp_right fun h=>by simp [qS,qJ];omega)
   have own:∀ j,∀ r ∈ ((l.map zI).set v ((qJ v0.snap++[C.sl 3 [] 2 0 v0.zm.length false,Bo v0.qj]))).take j++(List.replicate l.length ([.lst 1 0 [],.lst 1 0 [],.lst 1 0 [],.lst 1 0 [],Bo false]:List C)).drop j,∀ c ∈ r,zx c=true:=fun j=>vt (enc:=zI) (fun _=>rfl) rfl l l.length (.inr rfl)
   by_cases hkv:k=v
   ·subst hkv;obtain rfl:v0=x:=by rw [hv] at hx2;exact Option.some.inj hx2
    have hF:((l.map zI).set k ((qJ v0.snap++[C.sl 3 [] 2 0 v0.zm.length false,Bo v0.qj])))[k]?= some ((qJ v0.snap++[C.sl 3 [] 2 0 v0.zm.length false,Bo v0.qj])):=by rw [List.getElem?_set,if_pos rfl,if_pos (by simpa using hk)]
    rw [if_pos (Nat.le_refl _),if_neg (by omega)];conv=>whnf
    refine uF ?_;(refine ⟨by omega,_,by rw [toNat_cast];exact hg,dd ?_⟩)
    refine ⟨_,_,hA _ (zc rfl (zc (zi (own k)) rfl)),dd ?_⟩;refine ⟨by omega,by simp;omega,dd ?_⟩;rw [e1];refine ⟨_,jN (by simp) hk,rfl,dd ?_⟩;refine .inl ⟨rfl,?_,trivial⟩;rw [zA (by omega),<- qO hF hk];exact cC
   ·have hF:((l.map zI).set v ((qJ v0.snap++[C.sl 3 [] 2 0 v0.zm.length false,Bo v0.qj])))[k]?= some (zI x):=by rw [List.getElem?_set_ne (fun h=>hkv h.symm)];exact hg
    by_cases hlt:k < v
    ·rw [if_pos (by omega),if_pos (by omega)];conv=>whnf
     refine uF ?_;(refine ⟨by omega,_,by rw [toNat_cast];exact hg,dd ?_⟩)
     refine ⟨_,_,(hp x hxm).frame rfl _,dd ?_⟩;refine ⟨by omega,by simp;omega,dd ?_⟩;rw [e1];refine ⟨_,jN (by simp) hk,rfl,dd ?_⟩;refine .inl ⟨rfl,?_,trivial⟩;rw [zA (by omega),<- qO hF hk];refine zo.xa 2 (by (conv=>whnf);(repeat (refine ⟨rfl,uH ?_⟩));exact trivial) rfl rfl rfl (jC rfl (xL ?_)) rfl;have lw:=low 2 (k+1) (.inl (by omega));rw [<- qO (z:=([.lst 1 0 [],.lst 1 0 [],.lst 1 0 [],.lst 1 0 [],Bo false]:List C)) (n:=l.length) hF hk] at lw;exact lw
    ·rw [if_neg (by omega),if_neg (by omega)];conv=>whnf
     refine uF ?_;(refine ⟨by omega,_,by rw [toNat_cast];exact hg,dd ?_⟩)
     refine ⟨_,_,(hp x hxm).frame rfl _,dd ?_⟩;refine ⟨by omega,by simp;omega,dd ?_⟩;rw [e1];refine ⟨_,jN (by simp) hk,rfl,dd ?_⟩;refine .inl ⟨rfl,?_,trivial⟩;rw [zA (by omega),<- qO hF hk];refine zo.xa 6 (by (conv=>whnf);(repeat (refine ⟨rfl,uH ?_⟩));exact trivial) rfl rfl rfl (jC rfl (jC (xL ?_) (jC rfl (jC (xL (zy (enc:=zE) (fun _=>rfl) rfl _ _)) (jC (xL (zy (enc:=zu) (fun _=>rfl) rfl _ _)) rfl))))) rfl;have lw:=low 6 (k+1) (.inr (by omega));rw [<- qO (z:=([.lst 1 0 [],.lst 1 0 [],.lst 1 0 [],.lst 1 0 [],Bo false]:List C)) (n:=l.length) hF hk] at lw;exact lw
  ·rw [if_neg (by omega)];refine uD ?_;rw [yE (by simp)];exact uJ
 refine h1.ze6 (fun B h _=>?_) (Nat.zero_le _);have hw:=zo.ren (B:=B) [1,3,4,5] [0] [.sl 1 [] 5 0 l.length false] [⟨1,286,0,[[]],0⟩,⟨1,0,5,(l.map zI).set v ((qJ v0.snap++[C.sl 3 [] 2 0 v0.zm.length false,Bo v0.qj])),0⟩,⟨1,79,5,[zI v0],0⟩,⟨1,0,2,(v0.zm.map zE).set g ([U g0.zr,C.sl 4 [] 3 0 g0.ends.length false]),0⟩,⟨1,0,3,(g0.ends.map zu).set e ([U e0.head,C.sl 5 [] 1 0 e0.next.length false,I e0.zg]),0⟩,⟨2,3,1,e0.next.map encI,0⟩] tJ rfl rfl (zc rfl (zc (zi (zy (enc:=zI) (fun _=>rfl) rfl l v)) (zc rfl (zc (zi (zy (enc:=zE) (fun _=>rfl) rfl _ _)) (zc (zi (zy (enc:=zu) (fun _=>rfl) rfl _ _)) rfl)))))
 have e:xe [1,3,4,5] [⟨1,286,0,[[]],0⟩,⟨1,0,5,(l.map zI).set v ((qJ v0.snap++[C.sl 3 [] 2 0 v0.zm.length false,Bo v0.qj])),0⟩,⟨1,79,5,[zI v0],0⟩,⟨1,0,2,(v0.zm.map zE).set g ([U g0.zr,C.sl 4 [] 3 0 g0.ends.length false]),0⟩,⟨1,0,3,(g0.ends.map zu).set e ([U e0.head,C.sl 5 [] 1 0 e0.next.length false,I e0.zg]),0⟩,⟨2,3,1,e0.next.map encI,0⟩]=[⟨1,0,5,(l.map zI).set v ((qJ v0.snap++[C.sl 1 [] 2 0 v0.zm.length false,Bo v0.qj])),0⟩,⟨1,0,2,(v0.zm.map zE).set g ([U g0.zr,C.sl 2 [] 3 0 g0.ends.length false]),0⟩,⟨1,0,3,(g0.ends.map zu).set e ([U e0.head,C.sl 3 [] 1 0 e0.next.length false,I e0.zg]),0⟩,⟨2,3,1,e0.next.map encI,0⟩]:=by
  show zK [1,3,4,5] ⟨1,0,5,(l.map zI).set v ((qJ v0.snap++[C.sl 3 [] 2 0 v0.zm.length false,Bo v0.qj])),0⟩::_=_;rw [zG (enc:=zI) (fun _=>rfl)];show _::zK [1,3,4,5] ⟨1,0,2,(v0.zm.map zE).set g ([U g0.zr,C.sl 4 [] 3 0 g0.ends.length false]),0⟩::zK [1,3,4,5] ⟨1,0,3,(g0.ends.map zu).set e ([U e0.head,C.sl 5 [] 1 0 e0.next.length false,I e0.zg]),0⟩::_=_;rw [zG (enc:=zE) (fun _=>rfl),zG (enc:=zu) (fun _=>rfl)];rfl
 rw [e] at hw;exact hw
structure zea (vs:List Ver) (v:Nat) (v0:Ver) (g:Nat) (g0:Gr) (e:Nat) (e0:En):Prop extends zmL v0 g g0 e e0 where
 zt6:vs.length < 1000000000∧∀ v ∈ vs,zmM v
 atv:vs[v]?= some v0
theorem zrn {vs:List Ver} {v:Nat} {v0:Ver} {g:Nat} {g0:Gr} {e:Nat} {e0:En} (h:zea vs v v0 g g0 e e0) (H:zk) (hf:qK H=true):zb Tryz.prog 273 H [lV vs,.fn 274 [] [],.agg []] (.sl H.length [] 5 0 vs.length false) (H++[⟨1,0,5,(vs.map zI).set v ((qJ v0.snap++[C.sl (H.length+1) [] 2 0 v0.zm.length false,Bo v0.qj])),0⟩,⟨1,0,2,(v0.zm.map zE).set g ([U g0.zr,C.sl (H.length+2) [] 3 0 g0.ends.length false]),0⟩,⟨1,0,3,(g0.ends.map zu).set e ([U e0.head,C.sl (H.length+3) [] 1 0 e0.next.length false,I e0.zg]),0⟩,⟨2,3,1,e0.next.map encI,0⟩]):=by
 have:=wT (zpC g0 g e0 e vs v v0 h.atv h.zt6.1 (fun y hy=>jw y (h.zt6.2 y hy)) (zi9 h.tozmL)) (zc (zi (zy (enc:=zI) (fun _=>rfl) rfl _ _)) (zc (zi (zy (enc:=zE) (fun _=>rfl) rfl _ _)) (zc (zi (zy (enc:=zu) (fun _=>rfl) rfl _ _)) rfl))) rfl H hf
 have e9:[(⟨1,0,5,(vs.map zI).set v ((qJ v0.snap++[C.sl 1 [] 2 0 v0.zm.length false,Bo v0.qj])),0⟩:Ob),⟨1,0,2,(v0.zm.map zE).set g ([U g0.zr,C.sl 2 [] 3 0 g0.ends.length false]),0⟩,⟨1,0,3,(g0.ends.map zu).set e ([U e0.head,C.sl 3 [] 1 0 e0.next.length false,I e0.zg]),0⟩,⟨2,3,1,e0.next.map encI,0⟩].map (zF (qT [] H.length))=[⟨1,0,5,(vs.map zI).set v ((qJ v0.snap++[C.sl (H.length+1) [] 2 0 v0.zm.length false,Bo v0.qj])),0⟩,⟨1,0,2,(v0.zm.map zE).set g ([U g0.zr,C.sl (H.length+2) [] 3 0 g0.ends.length false]),0⟩,⟨1,0,3,(g0.ends.map zu).set e ([U e0.head,C.sl (H.length+3) [] 1 0 e0.next.length false,I e0.zg]),0⟩,⟨2,3,1,e0.next.map encI,0⟩]:=by
  show zF _ ⟨1,0,5,_,0⟩::zF _ ⟨1,0,2,_,0⟩::zF _ ⟨1,0,3,_,0⟩::_=_;rw [zB (enc:=zI) (fun _=>rfl),zB (enc:=zE) (fun _=>rfl),zB (enc:=zu) (fun _=>rfl)]
  rfl
 rw [e9] at this;exact this
theorem kT (l:List (List Int)) (hl:l.length < 1000000000) (hp:∀ x ∈ l,zb Tryz.prog 277 [] [.agg [],lU x] (lU x) []):zb Tryz.prog 276 [] [lCo l,.fn 277 [] [],.agg []] (.sl 0 [] 1 0 l.length false) [⟨2,143,1,l.map zN,0⟩]:=by
 have m1:(l.map zN).length=l.length:=List.length_map ..;refine zb.zS (fn:=Tryz.f276) Tryz.func276 rfl (uH ?_);rw [m1];refine ⟨rfl,by omega,by show (24:Int) * _<=_;omega,by omega,dd ?_⟩;rw [m1,toNat_cast];refine qf.seq l.length (fun k=>((lCo l)::.fn 277 [] []::.za::.za::.za::.ref 0 [] 0 0 0::.lst 1 0 []::.sl 1 [] 1 0 l.length false::.za::.za::.za::.za::.za::(lCo l)::I l.length::I k::tY ([.za,.za,.za,.za,.za]))) (fun k=>[⟨1,286,0,[[]],0⟩,⟨2,143,1,(l.map zN).take k++(List.replicate l.length ([.lst 1 0 []]:List C)).drop k,0⟩]) (fun k=>True) ?_ trivial (fun k hk hr=>?_) (fun hr=>?_)
 ·exact cC
 ·obtain ⟨x,hx⟩:∃ x,x=l[k]:=⟨_,rfl⟩;have hx2:l[k]?= some x:=by rw [List.getElem?_eq_getElem hk,hx]
  have hg:(l.map zN)[k]?= some (zN x):=by rw [List.getElem?_map,hx2];rfl
  conv=>whnf
  refine uF ?_;(refine ⟨by omega,_,by rw [toNat_cast];exact hg,dd ?_⟩)
  refine ⟨_,_,(hp x tG).frame rfl _,dd ?_⟩;refine ⟨by omega,by simp;omega,dd ?_⟩;have e1:0+(k:Int).toNat=k:=by simp
  rw [e1];refine ⟨_,jN (by simp) hk,rfl,dd ?_⟩;refine .inl ⟨rfl,?_,trivial⟩;have e2:=qO (z:=([.lst 1 0 []]:List C)) (n:=l.length) hg hk;rw [zA (by omega),<- e2];exact cE 2
 ·refine uD ?_;rw [yE (by simp)];exact ⟨.inl rfl,_,zo.ren [1] [6] _ _ rfl rfl rfl rfl,rfl,rfl⟩
theorem zmj (r0:List Int) (x:Int) (l:List Int) (he:r0=x::l) (hl:l.length < 1000000000):zb Tryz.prog 277 [] [.agg [],lU r0] (.sl 0 [] 1 0 r0.length false) [⟨2,54,1,r0.map jB,0⟩]:=by
 have h1:zb Tryz.prog 277 [] [.agg [],lU r0] (.sl 1 [] 1 0 r0.length false) [⟨1,286,0,[[]],0⟩,⟨2,54,1,r0.map jB,0⟩]:=by
  have hc:=zpu x l hl;rw [<- he] at hc;refine zb.zS (fn:=Tryz.f277) Tryz.func277 rfl (uH ?_);refine zq [] (hc) rfl rfl rfl rfl rfl rfl (dd ?_);exact uJ
 exact h1.ze6 (fun B h _=>zo.ren [1] [0] _ _ tJ rfl rfl rfl) (Nat.zero_le _)
theorem zqB (r0:List Int) (x:Int) (l:List Int) (he:r0=x::l) (hl:l.length < 1000000000) (H:zk) (hf:qK H=true):zb Tryz.prog 277 H [.agg [],lU r0] (.sl H.length [] 1 0 r0.length false) (H++[⟨2,54,1,r0.map jB,0⟩]):=
 wT (zmj r0 x l he hl) rfl rfl H hf
theorem zcn {P:Program} {f:FuncId} {fn:Func} {c:Code} {H2:zk} {args:List C} {r:C} (hf:P.funcs[f]?= some fn) (hb:fn.body=some c)
  (h:wpA P 0 c (entry fn args) [] fun ex t1 H1=>(ex=.ret∨ex=.normal)∧∃ s2 r1,zo 0 ⟨t1,H1⟩ s2∧vT P fn s2=some r1∧zo 0 ⟨[r1],s2.H⟩ ⟨[r],H2⟩):zb P f [] args r H2:=fun w E vs hh hl=>by
 have h1:qw P f [] args fun r1 H1=>zo 0 ⟨[r1],H1⟩ ⟨[r],H2⟩:=qw.zS hf hb h
 refine (h1 w E vs hh hl).mono ?_;rintro e w' ⟨r1,H1,v,E',hw,h0,h2,h3,g⟩;obtain ⟨E2,hs,g2⟩:=hw 0 w' E' ⟨#[v],[]⟩ ⟨h2,LL.one h3,Nat.zero_le _,Nat.zero_le _⟩;have hn2:=hs.heap.n;have hn0:E.n=0:=hh.n;refine ⟨v,E2,h0,hs.heap,hs.tmps.cons_inv.1,⟨⟨by rw [hn0];exact Nat.zero_le _,fun id hops hi=>by rw [hn0] at hi;omega,fun id hops hi=>by rw [hn0] at hi;omega,fun b o u hu=>g2.le.St _ _ _ (g.le.St _ _ _ hu),fun id k u hi hu=>by rw [hn0] at hi;omega⟩,g2.os.trans g.os,g2.tape.trans g.tape,g2.output.trans g.output,Nat.le_trans g.size g2.size,?_,?_,?_⟩⟩
 ·intro k hk ho;exact (g2.frame k (Nat.lt_of_lt_of_le hk g.size) fun hc=>(g.own k hc).elim (fun h=>by omega) ho).trans (g.frame k hk ho)
 ·intro b o u hu;rcases g2.jy b o u hu with h1 | h1 | h1
  ·exact g.jy b o u h1
  ·exact .inr (.inl (Nat.le_trans g.size h1))
  ·rcases g.own b h1 with h4 | h4
   ·exact .inr (.inl h4)
   ·exact .inr (.inr h4)
 ·intro b hb;rcases g2.own b hb with h1 | h1
  ·exact .inl (Nat.le_trans g.size h1)
  ·exact g.own b h1
theorem qs (w:Wor) (h:qR w):zb Tryz.prog 224 [] [Cw w] (Cw w) []:=by
 refine zb.zp (fn:=Tryz.f224) Tryz.func224 rfl (uH ?_);refine ⟨_,_,(yL w.pins h.pins).frame rfl _,dd ?_⟩;refine zq [] (kU w.ze h.ze.1 fun v hv=>jw v (h.ze.2 v hv)) rfl rfl rfl rfl rfl rfl (dd ?_);refine ⟨_,_,(vq w.zd h.zd).frame rfl _,dd ?_⟩;refine zq [] (kT w.counts h.counts.1 fun r hr=>xI r (h.counts.2 r hr)) rfl rfl rfl rfl rfl rfl (dd ?_);refine ⟨_,_,(wq w.zt h.zt).frame rfl _,dd ?_⟩;exact ⟨.inl rfl,_,(zo.zT 1 0 4 rfl rfl rfl rfl (.inr rfl) rfl (by simp) (shut_map (enc:=zI) (fun _=>rfl) w.ze) (zX rfl)).trans (zo.zT 1 0 6 rfl rfl rfl rfl (.inr rfl) rfl (by simp) (shut_map (enc:=zN) (fun _=>rfl) w.counts) (zX rfl)),rfl⟩
theorem zpB (l:List (List Int)) (t:Nat) (r0:(List Int)) (hv:l[t]?= some r0) (hl:l.length < 1000000000) (hp:∀ x ∈ l,zb Tryz.prog 277 [] [.agg [],lU x] (lU x) [])
  (hA:∀ H,qK H=true->zb Tryz.prog 277 H [.agg [],lU r0] (.sl H.length [] 1 0 r0.length false) (H++[⟨2,54,1,r0.map jB,0⟩])):
  zb Tryz.prog 276 [] [lCo l,.fn 277 [] [],.agg []] (.sl 0 [] 1 0 l.length false) [⟨1,0,1,(l.map zN).set t ([C.sl 1 [] 1 0 r0.length false]),0⟩,⟨2,54,1,r0.map jB,0⟩]:=by
 have m1:(l.map zN).length=l.length:=List.length_map ..;have hvl:=(List.getElem?_eq_some_iff.1 hv).1
 have h1:zb Tryz.prog 276 [] [lCo l,.fn 277 [] [],.agg []] (.sl 1 [] 1 0 l.length false) [⟨1,286,0,[[]],0⟩,⟨1,0,1,(l.map zN).set t ([C.sl 2 [] 1 0 r0.length false]),0⟩,⟨2,54,1,r0.map jB,0⟩]:=by
  refine zb.zS (fn:=Tryz.f276) Tryz.func276 rfl (uH ?_);rw [m1];refine ⟨rfl,by omega,by show (24:Int) * _<=_;omega,by omega,dd ?_⟩;rw [m1,toNat_cast];have ZZ:List C:=([.lst 1 0 []]:List C);refine qf.seq l.length (fun k=>((lCo l)::.fn 277 [] []::.za::.za::.za::.ref 0 [] 0 0 0::.lst 1 0 []::.sl 1 [] 1 0 l.length false::.za::.za::.za::.za::.za::(lCo l)::I l.length::I k::tY ([.za,.za,.za,.za,.za]))) (fun k=>if k<=t then [⟨1,286,0,[[]],0⟩,⟨1,0,1,((l.map zN).set t ([C.sl 2 [] 1 0 r0.length false])).take k++(List.replicate l.length ([.lst 1 0 []]:List C)).drop k,0⟩] else [⟨1,286,0,[[]],0⟩,⟨1,0,1,((l.map zN).set t ([C.sl 2 [] 1 0 r0.length false])).take k++(List.replicate l.length ([.lst 1 0 []]:List C)).drop k,0⟩,⟨2,54,1,r0.map jB,0⟩]) (fun k=>True) ?_ trivial (fun k hk hr=>?_) (fun hr=>?_)
  ·rw [if_pos (Nat.zero_le _)];refine zo.trans (zo.zhy 1 rfl fun r hr c hc=>?_) (cC);rw [List.eq_of_mem_replicate hr] at hc;exact List.all_eq_true.1 (rfl:([.lst 1 0 []]:List C).all zx=true) c hc
  ·obtain ⟨x,hx⟩:∃ x,x=l[k]:=⟨_,rfl⟩;have hx2:l[k]?= some x:=by rw [List.getElem?_eq_getElem hk,hx]
   have hxm:x ∈ l:=by rw [hx];exact List.getElem_mem hk
   have hg:(l.map zN)[k]?= some (zN x):=by rw [List.getElem?_map,hx2];rfl
   have e1:0+(k:Int).toNat=k:=by simp
   have low:∀ n j,j<=t∨2 < n->∀ r ∈ ((l.map zN).set t ([C.sl 2 [] 1 0 r0.length false])).take j++(List.replicate l.length ([.lst 1 0 []]:List C)).drop j,∀ c ∈ r,qS n 9 c=true:=fun n j h=>vt (enc:=zN) (fun _=>rfl) rfl l l.length (h.imp_right fun h=>by simp [qS,qJ];omega)
   have own:∀ j,∀ r ∈ ((l.map zN).set t ([C.sl 2 [] 1 0 r0.length false])).take j++(List.replicate l.length ([.lst 1 0 []]:List C)).drop j,∀ c ∈ r,zx c=true:=fun j=>vt (enc:=zN) (fun _=>rfl) rfl l l.length (.inr rfl)
   by_cases hkv:k=t
   ·subst hkv;obtain rfl:r0=x:=by rw [hv] at hx2;exact Option.some.inj hx2
    have hF:((l.map zN).set k ([C.sl 2 [] 1 0 r0.length false]))[k]?= some ([C.sl 2 [] 1 0 r0.length false]):=by rw [List.getElem?_set,if_pos rfl,if_pos (by simpa using hk)]
    rw [if_pos (Nat.le_refl _),if_neg (by omega)];conv=>whnf
    refine uF ?_;(refine ⟨by omega,_,by rw [toNat_cast];exact hg,dd ?_⟩)
    refine ⟨_,_,hA _ (zc rfl (zi (own k))),dd ?_⟩;refine ⟨by omega,by simp;omega,dd ?_⟩;rw [e1];refine ⟨_,jN (by simp) hk,rfl,dd ?_⟩;refine .inl ⟨rfl,?_,trivial⟩;rw [zA (by omega),<- qO hF hk];exact cC
   ·have hF:((l.map zN).set t ([C.sl 2 [] 1 0 r0.length false]))[k]?= some (zN x):=by rw [List.getElem?_set_ne (fun h=>hkv h.symm)];exact hg
    by_cases hlt:k < t
    ·rw [if_pos (by omega),if_pos (by omega)];conv=>whnf
     refine uF ?_;(refine ⟨by omega,_,by rw [toNat_cast];exact hg,dd ?_⟩)
     refine ⟨_,_,(hp x hxm).frame rfl _,dd ?_⟩;refine ⟨by omega,by simp;omega,dd ?_⟩;rw [e1];refine ⟨_,jN (by simp) hk,rfl,dd ?_⟩;refine .inl ⟨rfl,?_,trivial⟩;rw [zA (by omega),<- qO hF hk];refine zo.xa 2 (by (conv=>whnf);(repeat (refine ⟨rfl,uH ?_⟩));exact trivial) rfl rfl rfl (jC rfl (xL ?_)) rfl;have lw:=low 2 (k+1) (.inl (by omega));rw [<- qO (z:=([.lst 1 0 []]:List C)) (n:=l.length) hF hk] at lw;exact lw
    ·rw [if_neg (by omega),if_neg (by omega)];conv=>whnf
     refine uF ?_;(refine ⟨by omega,_,by rw [toNat_cast];exact hg,dd ?_⟩)
     refine ⟨_,_,(hp x hxm).frame rfl _,dd ?_⟩;refine ⟨by omega,by simp;omega,dd ?_⟩;rw [e1];refine ⟨_,jN (by simp) hk,rfl,dd ?_⟩;refine .inl ⟨rfl,?_,trivial⟩;rw [zA (by omega),<- qO hF hk];refine zo.xa 3 (by (conv=>whnf);(repeat (refine ⟨rfl,uH ?_⟩));exact trivial) rfl rfl rfl (jC rfl (jC (xL ?_) rfl)) rfl;have lw:=low 3 (k+1) (.inr (by omega));rw [<- qO (z:=([.lst 1 0 []]:List C)) (n:=l.length) hF hk] at lw;exact lw
  ·rw [if_neg (by omega)];refine uD ?_;rw [yE (by simp)];exact uJ
 refine h1.ze6 (fun B h _=>?_) (Nat.zero_le _);have hw:=zo.ren (B:=B) [1,2] [0] [.sl 1 [] 1 0 l.length false] [⟨1,286,0,[[]],0⟩,⟨1,0,1,(l.map zN).set t ([C.sl 2 [] 1 0 r0.length false]),0⟩,⟨2,54,1,r0.map jB,0⟩] tJ rfl rfl (zc rfl (zc (zi (zy (enc:=zN) (fun _=>rfl) rfl l t)) rfl))
 have e:xe [1,2] [⟨1,286,0,[[]],0⟩,⟨1,0,1,(l.map zN).set t ([C.sl 2 [] 1 0 r0.length false]),0⟩,⟨2,54,1,r0.map jB,0⟩]=[⟨1,0,1,(l.map zN).set t ([C.sl 1 [] 1 0 r0.length false]),0⟩,⟨2,54,1,r0.map jB,0⟩]:=by
  show zK [1,2] ⟨1,0,1,(l.map zN).set t ([C.sl 2 [] 1 0 r0.length false]),0⟩::_=_;rw [zG (enc:=zN) (fun _=>rfl)]
  rfl
 rw [e] at hw;exact hw
structure zmJ (cs:List (List Int)) (t:Nat) (r0:List Int):Prop where
 sm:cs.length < 1000000000∧∀ r ∈ cs,r.length < 1000000000
 at_:cs[t]?= some r0
 ne:r0≠[]
theorem zrm {cs:List (List Int)} {t:Nat} {r0:List Int} (h:zmJ cs t r0) (H:zk) (hf:qK H=true):zb Tryz.prog 276 H [lCo cs,.fn 277 [] [],.agg []] (.sl H.length [] 1 0 cs.length false) (H++[⟨1,0,1,(cs.map zN).set t ([C.sl (H.length+1) [] 1 0 r0.length false]),0⟩,⟨2,54,1,r0.map jB,0⟩]):=by
 obtain ⟨x,l,hx⟩:∃ x l,r0=x::l:=by
  cases hh:r0 with
  | nil=>exact absurd hh h.ne
  | cons x l=>exact ⟨x,l,rfl⟩
 have hlen:l.length < 1000000000:=by
  have:=h.sm.2 r0 (List.mem_of_getElem? h.at_);rw [hx] at this;simp at this;omega
 have:=wT (zpB cs t r0 h.at_ h.sm.1 (fun y hy=>xI y (h.sm.2 y hy)) (zqB r0 x l hx hlen)) (zc (zi (zy (enc:=zN) (fun _=>rfl) rfl _ _)) rfl) rfl H hf
 have e9:[(⟨1,0,1,(cs.map zN).set t ([C.sl 1 [] 1 0 r0.length false]),0⟩:Ob),⟨2,54,1,r0.map jB,0⟩].map (zF (qT [] H.length))=[⟨1,0,1,(cs.map zN).set t ([C.sl (H.length+1) [] 1 0 r0.length false]),0⟩,⟨2,54,1,r0.map jB,0⟩]:=by
  show zF _ ⟨1,0,1,_,0⟩::_=_;rw [zB (enc:=zN) (fun _=>rfl)]
  rfl
 rw [e9] at this;exact this
theorem zcP (w:Wor) (h:qR w) (x:Int) (l:List Int) (hx:w.pins=x::l):zb Tryz.prog 224 [] [Cw w] (.agg [I w.zn,I w.current,I w.lock,.sl 0 [] 1 0 w.pins.length false,lV w.ze,lL w.zd,lCo w.counts,lR w.zt]) [⟨2,3,1,w.pins.map encI,0⟩]:=by
 have hl:l.length < 1000000000:=by have:=h.pins;rw [hx] at this;simp at this;omega
 have hc:=zjj x l hl;rw [<- hx] at hc;refine zcn (fn:=Tryz.f224) Tryz.func224 rfl (uH ?_);refine zq [] (hc) rfl rfl rfl rfl rfl rfl (dd ?_);refine zq [] (kU w.ze h.ze.1 fun v hv=>jw v (h.ze.2 v hv)) rfl rfl rfl rfl rfl rfl (dd ?_);refine ⟨_,_,(vq w.zd h.zd).frame rfl _,dd ?_⟩;refine zq [] (kT w.counts h.counts.1 fun r hr=>xI r (h.counts.2 r hr)) rfl rfl rfl rfl rfl rfl (dd ?_);refine ⟨_,_,(wq w.zt h.zt).frame rfl _,dd ?_⟩;refine ⟨.inl rfl,_,_,(zo.zT 1 0 4 rfl rfl rfl rfl (.inr rfl) rfl (by simp) (shut_map (enc:=zI) (fun _=>rfl) w.ze) (zX rfl)).trans (zo.zT 1 0 6 rfl rfl rfl rfl (.inr rfl) rfl (by simp) (shut_map (enc:=zN) (fun _=>rfl) w.counts) (zX rfl)),rfl,?_⟩;exact zo.ren [3] [0] _ _ rfl rfl rfl (zc rfl (zc rfl (zc rfl (zc rfl (zc (zi fun r hr c hc=>((shut_map (enc:=zI) (fun _=>rfl) w.ze) r hr c hc).2) (zi fun r hr c hc=>((shut_map (enc:=zN) (fun _=>rfl) w.counts) r hr c hc).2))))))
theorem zkE {B:Nat} (sel m:List Nat) {t t2:List C} {H H2:zk} (hB:zhw B 0 sel=true) (z5:sel.all (fun id=>Nat.blt id H.length)=true) (hnd:xS sel=true) (hfl:qK H=true) (et:(zex m 0 t).map (xH sel 9)=t2) (e:xe sel H=H2):zo B ⟨t,H⟩ ⟨t2,H2⟩:=by
 subst et e;exact zo.ren sel m t H hB z5 hnd hfl
theorem yM (w:Wor) (h:qR w) (x:Lis) (l:List Lis) (hx:w.zd=x::l):zb Tryz.prog 224 [] [Cw w] (.agg [I w.zn,I w.current,I w.lock,lI w.pins,lV w.ze,.sl 0 [] 4 0 w.zd.length false,lCo w.counts,lR w.zt]) [⟨2,92,4,w.zd.map qG,0⟩]:=by
 have hl:l.length < 1000000000:=by have:=h.zd;rw [hx] at this;simp at this;omega
 have hc:=zpt x l hl;rw [<- hx] at hc;refine zcn (fn:=Tryz.f224) Tryz.func224 rfl (uH ?_);refine ⟨_,_,(yL w.pins h.pins).frame rfl _,dd ?_⟩;refine zq [] (kU w.ze h.ze.1 fun v hv=>jw v (h.ze.2 v hv)) rfl rfl rfl rfl rfl rfl (dd ?_);refine zq [] (hc) rfl rfl rfl rfl rfl rfl (dd ?_);refine zq [] (kT w.counts h.counts.1 fun r hr=>xI r (h.counts.2 r hr)) rfl rfl rfl rfl rfl rfl (dd ?_);refine ⟨_,_,(wq w.zt h.zt).frame rfl _,dd ?_⟩;refine ⟨.inl rfl,_,_,(zo.zT 1 0 4 rfl rfl rfl rfl (.inr rfl) rfl (by simp) (shut_map (enc:=zI) (fun _=>rfl) w.ze) (zX rfl)).trans (zo.zT 1 0 6 rfl rfl rfl rfl (.inr rfl) rfl (by simp) (shut_map (enc:=zN) (fun _=>rfl) w.counts) (zX rfl)),rfl,?_⟩;exact zo.ren [4] [0] _ _ rfl rfl rfl (zc rfl (zc rfl (zc rfl (zc (zi fun r hr c hc=>((shut_map (enc:=zI) (fun _=>rfl) w.ze) r hr c hc).2) (zc rfl (zi fun r hr c hc=>((shut_map (enc:=zN) (fun _=>rfl) w.counts) r hr c hc).2))))))
theorem zcO (w:Wor) (h:qR w) (cs:List (List Int)) (hcs:w.counts=cs) {t:Nat} {r0:List Int} (hp:zmJ cs t r0):zb Tryz.prog 224 [] [Cw w] (.agg [I w.zn,I w.current,I w.lock,lI w.pins,lV w.ze,lL w.zd,.sl 0 [] 1 0 cs.length false,lR w.zt]) [⟨1,0,1,(cs.map zN).set t ([C.sl 1 [] 1 0 r0.length false]),0⟩,⟨2,54,1,r0.map jB,0⟩]:=by
 subst hcs;have own:∀ i,∀ r ∈ (w.counts.map zN).set t ([C.sl i [] 1 0 r0.length false]),∀ c ∈ r,zx c=true:=fun i=>zy (enc:=zN) (fun _=>rfl) rfl _ _
 refine zcn (fn:=Tryz.f224) Tryz.func224 rfl (uH ?_);refine ⟨_,_,(yL w.pins h.pins).frame rfl _,dd ?_⟩;refine zq [] (kU w.ze h.ze.1 fun v hv=>jw v (h.ze.2 v hv)) rfl rfl rfl rfl rfl rfl (dd ?_);refine ⟨_,_,(vq w.zd h.zd).frame rfl _,dd ?_⟩;refine ⟨_,_,zrm hp _ (zc rfl (zc rfl (zc rfl rfl))),dd ?_⟩;refine ⟨_,_,(wq w.zt h.zt).frame rfl _,dd ?_⟩;refine ⟨.inl rfl,_,_,zo.zT 1 0 4 rfl rfl rfl rfl (.inr rfl) rfl (by simp) (shut_map (enc:=zI) (fun _=>rfl) w.ze) (zX rfl),rfl,?_⟩;refine zkE [4,5] [0] rfl rfl rfl (zc rfl (zc rfl (zc rfl (zc (zi fun r hr c hc=>((shut_map (enc:=zI) (fun _=>rfl) w.ze) r hr c hc).2) (zc (zi (own 5)) rfl))))) rfl ?_;show zK [4,5] ⟨1,0,1,(w.counts.map zN).set t ([C.sl 5 [] 1 0 r0.length false]),0⟩::_=_;rw [zG (enc:=zN) (fun _=>rfl)]
 rfl
theorem zrh (w:Wor) (h:qR w) (H:zk) (hf:qK H=true):zb Tryz.prog 276 H [lCo w.counts,.fn 277 [] [],.agg []] (.sl H.length [] 1 0 w.counts.length false) (H++[⟨2,143,1,w.counts.map zN,0⟩]):=
 wT (kT w.counts h.counts.1 fun r hr=>xI r (h.counts.2 r hr)) rfl rfl H hf
theorem yi (w:Wor) (h:qR w) (vs:List Ver) (hvs:w.ze=vs) {v:Nat} {v0:Ver} {g:Nat} {g0:Gr} {e:Nat} {e0:En} (hp:zea vs v v0 g g0 e e0):zb Tryz.prog 224 [] [Cw w] (.agg [I w.zn,I w.current,I w.lock,lI w.pins,.sl 0 [] 5 0 vs.length false,lL w.zd,lCo w.counts,lR w.zt]) [⟨1,0,5,(vs.map zI).set v ((qJ v0.snap++[C.sl 1 [] 2 0 v0.zm.length false,Bo v0.qj])),0⟩,⟨1,0,2,(v0.zm.map zE).set g ([U g0.zr,C.sl 2 [] 3 0 g0.ends.length false]),0⟩,⟨1,0,3,(g0.ends.map zu).set e ([U e0.head,C.sl 3 [] 1 0 e0.next.length false,I e0.zg]),0⟩,⟨2,3,1,e0.next.map encI,0⟩]:=by
 subst hvs;have own:∀ i,∀ r ∈ (w.ze.map zI).set v ((qJ v0.snap++[C.sl i [] 2 0 v0.zm.length false,Bo v0.qj])),∀ c ∈ r,zx c=true:=fun i=>zy (enc:=zI) (fun _=>rfl) rfl _ _
 refine zcn (fn:=Tryz.f224) Tryz.func224 rfl (uH ?_);refine ⟨_,_,(yL w.pins h.pins).frame rfl _,dd ?_⟩;refine ⟨_,_,zrn hp _ rfl,dd ?_⟩;refine ⟨_,_,(vq w.zd h.zd).frame rfl _,dd ?_⟩;refine ⟨_,_,zrh w h _ (zc rfl (zc rfl (zc rfl (zc (zi (own 4)) (zc (zi (zy (enc:=zE) (fun _=>rfl) rfl _ _)) (zc (zi (zy (enc:=zu) (fun _=>rfl) rfl _ _)) rfl)))))),dd ?_⟩;refine ⟨_,_,(wq w.zt h.zt).frame rfl _,dd ?_⟩;refine ⟨.inl rfl,_,_,zo.zT 1 0 6 rfl rfl rfl rfl (.inr rfl) rfl (by simp) (shut_map (enc:=zN) (fun _=>rfl) w.counts) (zX rfl),rfl,?_⟩;refine zkE [3,4,5,6] [0] rfl rfl rfl (zc rfl (zc rfl (zc rfl (zc (zi (own 4)) (zc (zi (zy (enc:=zE) (fun _=>rfl) rfl _ _)) (zc (zi (zy (enc:=zu) (fun _=>rfl) rfl _ _)) (zc rfl (zi fun r hr c hc=>((shut_map (enc:=zN) (fun _=>rfl) w.counts) r hr c hc).2)))))))) rfl ?_;show zK [3,4,5,6] ⟨1,0,5,(w.ze.map zI).set v ((qJ v0.snap++[C.sl 4 [] 2 0 v0.zm.length false,Bo v0.qj])),0⟩::zK [3,4,5,6] ⟨1,0,2,(v0.zm.map zE).set g ([U g0.zr,C.sl 5 [] 3 0 g0.ends.length false]),0⟩::zK [3,4,5,6] ⟨1,0,3,(g0.ends.map zu).set e ([U e0.head,C.sl 6 [] 1 0 e0.next.length false,I e0.zg]),0⟩::_=_;rw [zG (enc:=zI) (fun _=>rfl),zG (enc:=zE) (fun _=>rfl),zG (enc:=zu) (fun _=>rfl)]
 rfl
def inV (i n:Int):Bool:=decide (0<=i) && decide (i < n)
theorem kE (i n:Int):zb Tryz.prog 257 [] [I i,I n] (Bo (inV i n)) []:=by
 refine zb.zp (fn:=Tryz.f257) Tryz.func257 rfl (uH ?_);refine ⟨fun h1=>?_,fun h1=>?_⟩
 ·refine dd ?_;refine ⟨fun h2=>?_,fun h2=>?_⟩
  ·refine dd ?_
   (exact ⟨.inl rfl,_,.refl _,uN (by unfold inV;simp at h1 h2 ⊢;omega)⟩)
  ·refine dd ?_
   (exact ⟨.inl rfl,_,.refl _,uN (by unfold inV;simp at h1 h2 ⊢;omega)⟩)
 ·refine dd ?_
  (exact ⟨.inl rfl,_,.refl _,uN (by unfold inV;simp at h1 ⊢;omega)⟩)
theorem zlA {H:zk} {f:FuncId} {caps:List C} {l:List Int} (p:Int->Bool) (hcb:qm Tryz.prog f=true) (hp:∀ r ∈ l,zb Tryz.prog f H ([I r]++caps) (Bo (p r)) H) (hl:l.length < 4611686018427387904):
  zb Tryz.prog 115 H [lI l,.fn f [] caps] (I (match l.findIdx? p with | some i=>(i:Int) | none=> -1)) H:=by
 refine zb.zS (fn:=Tryz.f115) Tryz.func115 rfl (uH ?_)
 refine qf.inv (fun n t1 H1=>∃ k,k+n=l.length∧H1=H∧(∀ j,j < k->∀ r,l[j]?= some r->p r=false)∧
   t1=((lI l)::.fn f [] caps::.za::.za::I 0::.za::.za::I (l.map encI).length::I k::tY ([.za,.za]))) l.length ?_ ?_
 ·exact ⟨_,_,zo.mask [0,1,4,7,8] _ _,0,by simp,rfl,by simp,rfl⟩
 rintro n _ _ ⟨k,hk,rfl,hno,rfl⟩;conv=>whnf
 refine ⟨fun h=>?_,fun h=>?_⟩
 ·conv=>whnf
  have hlt:k < l.length:=by simpa using h
  refine ⟨by omega,encI l[k],by simp [hlt],uH ?_⟩;rw [hcb];refine ⟨_,_,hp _ (List.getElem_mem hlt),uH ?_⟩;refine ⟨fun h2=>?_,fun h2=>?_⟩
  ·conv=>whnf
   refine .inr ⟨by simp,uH ?_⟩;refine ⟨.inl rfl,_,.refl _,rfl,?_⟩
   have:l.findIdx? p=some k:=by
    rw [List.findIdx?_eq_some_iff_getElem];refine ⟨hlt,h2,fun j hj=>?_⟩;simp [hno j hj _ (List.getElem?_eq_getElem (by omega))]
   rw [this]
   rfl
  ·conv=>whnf
   refine .inl ⟨rfl,n - 1,_,_,by omega,zo.mask [0,1,4,7,8] _ _,k+1,by omega,rfl,?_,?_⟩
   ·intro j hj r hr;by_cases hjk:j=k
    ·subst hjk;rw [List.getElem?_eq_getElem hlt] at hr;cases hr
     exact h2
    ·exact hno j (by omega) r hr
   ·rw [zA (by omega)];rfl
 ·conv=>whnf
  refine .inr ⟨by simp,uH ?_⟩;refine ⟨.inl rfl,_,.refl _,rfl,?_⟩
  have:l.findIdx? p=none:=by
   rw [List.findIdx?_eq_none_iff];intro x hx;obtain ⟨j,hj⟩:=List.mem_iff_getElem?.1 hx;have hjl:=(List.getElem?_eq_some_iff.1 hj).1;have:¬k < l.length:=by simpa using h
   exact hno j (by omega) x hj
  rw [this]
  rfl
theorem zfy {H:zk} {f:FuncId} {caps:List C} {l:List Int} (p:Int->Bool) (hcb:qm Tryz.prog f=true) (hp:∀ r ∈ l,zb Tryz.prog f H ([I r]++caps) (Bo (p r)) H) (hl:l.length < 4611686018427387904):
  zb Tryz.prog 62 H [lI l,.fn f [] caps] (Bo (l.any p)) H:=by
 refine zb.zS (fn:=Tryz.f62) Tryz.func62 rfl (uH ?_);refine ⟨_,_,zlA p hcb hp hl,dd ?_⟩;rw [show decide ((match l.findIdx? p with | some i=>((i:Nat):Int) | none=>(-1:Int))≥(0:Int))=l.any p from zc3 l p];refine ⟨fun h=>?_,fun h=>?_⟩ <;> rw [h]
 ·refine dd ?_;exact uJ
 ·refine dd ?_;exact uJ
theorem zlz {H:zk} {f:FuncId} {caps:List C} {l:List En} (p:En->Bool) (hcb:qm Tryz.prog f=true) (hp:∀ r ∈ l,zb Tryz.prog f H ([Go.Slp.Ev r]++caps) (Bo (p r)) H) (hl:l.length < 4611686018427387904):
  zb Tryz.prog 191 H [lE l,.fn f [] caps] (I (match l.findIdx? p with | some i=>(i:Int) | none=> -1)) H:=by
 refine zb.zS (fn:=Tryz.f191) Tryz.func191 rfl (uH ?_)
 refine qf.inv (fun n t1 H1=>∃ k,k+n=l.length∧H1=H∧(∀ j,j < k->∀ r,l[j]?= some r->p r=false)∧
   t1=((lE l)::.fn f [] caps::.za::.za::I 0::.za::.za::I (l.map zu).length::I k::tY ([.za,.za]))) l.length ?_ ?_
 ·exact ⟨_,_,zo.mask [0,1,4,7,8] _ _,0,by simp,rfl,by simp,rfl⟩
 rintro n _ _ ⟨k,hk,rfl,hno,rfl⟩;conv=>whnf
 refine ⟨fun h=>?_,fun h=>?_⟩
 ·conv=>whnf
  have hlt:k < l.length:=by simpa using h
  refine ⟨by omega,zu l[k],by simp [hlt],uH ?_⟩;rw [hcb];refine ⟨_,_,hp _ (List.getElem_mem hlt),uH ?_⟩;refine ⟨fun h2=>?_,fun h2=>?_⟩
  ·conv=>whnf
   refine .inr ⟨by simp,uH ?_⟩;refine ⟨.inl rfl,_,.refl _,rfl,?_⟩
   have:l.findIdx? p=some k:=by
    rw [List.findIdx?_eq_some_iff_getElem];refine ⟨hlt,h2,fun j hj=>?_⟩;simp [hno j hj _ (List.getElem?_eq_getElem (by omega))]
   rw [this]
   rfl
  ·conv=>whnf
   refine .inl ⟨rfl,n - 1,_,_,by omega,zo.mask [0,1,4,7,8] _ _,k+1,by omega,rfl,?_,?_⟩
   ·intro j hj r hr;by_cases hjk:j=k
    ·subst hjk;rw [List.getElem?_eq_getElem hlt] at hr;cases hr
     exact h2
    ·exact hno j (by omega) r hr
   ·rw [zA (by omega)];rfl
 ·conv=>whnf
  refine .inr ⟨by simp,uH ?_⟩;refine ⟨.inl rfl,_,.refl _,rfl,?_⟩
  have:l.findIdx? p=none:=by
   rw [List.findIdx?_eq_none_iff];intro x hx;obtain ⟨j,hj⟩:=List.mem_iff_getElem?.1 hx;have hjl:=(List.getElem?_eq_some_iff.1 hj).1;have:¬k < l.length:=by simpa using h
   exact hno j (by omega) x hj
  rw [this]
  rfl
theorem zk3 {H:zk} {f:FuncId} {caps:List C} {l:List En} (p:En->Bool) (hcb:qm Tryz.prog f=true) (hp:∀ r ∈ l,zb Tryz.prog f H ([Go.Slp.Ev r]++caps) (Bo (p r)) H) (hl:l.length < 4611686018427387904):
  zb Tryz.prog 120 H [lE l,.fn f [] caps] (Bo (l.any p)) H:=by
 refine zb.zS (fn:=Tryz.f120) Tryz.func120 rfl (uH ?_);refine ⟨_,_,zlz p hcb hp hl,dd ?_⟩;rw [show decide ((match l.findIdx? p with | some i=>((i:Nat):Int) | none=>(-1:Int))≥(0:Int))=l.any p from zc3 l p];refine ⟨fun h=>?_,fun h=>?_⟩ <;> rw [h]
 ·refine dd ?_;exact uJ
 ·refine dd ?_;exact uJ
def wj (ep p:Int):Bool:=decide (p < 0) || decide (p > ep+1)
theorem zgU (w:Wor) (p:Int) (h0:0<=w.zn) (h1:w.zn<=1000000000000):zb Tryz.prog 116 [⟨1,28,8,[zJ w],0⟩] ([I p]++[.ref 0 [] 8 0 0]) (Bo (wj w.zn p)) [⟨1,28,8,[zJ w],0⟩]:=by
 have e:IntKind.i64.wrap (w.zn+1)=w.zn+1:=q0 (by omega) (by omega);refine zb.zS (fn:=Tryz.f116) Tryz.func116 rfl (uH ?_);refine ⟨fun h2=>?_,fun h2=>?_⟩
 ·refine dd ?_;exact ⟨.inl rfl,_,.refl _,rfl,uN (by unfold wj;rw [h2];rfl)⟩
 ·refine dd ?_;rw [e];refine ⟨fun h3=>?_,fun h3=>?_⟩
  ·refine dd ?_;exact ⟨.inl rfl,_,.refl _,rfl,uN (by unfold wj;rw [h2,h3];rfl)⟩
  ·refine dd ?_;exact ⟨.inl rfl,_,.refl _,rfl,uN (by unfold wj;rw [h2,h3];rfl)⟩
def jI (w:Wor):Bool:=decide (1<=w.pins.length) && decide (w.pins.length<=8) && decide (w.counts.length=w.pins.length) && zap w.counts && decide (0<=w.zn) && decide (w.zn<=1000000000000) && (decide (w.lock=0) || decide (w.lock=1)) && !w.pins.any (wj w.zn)
theorem ziu (w:Wor) (hp:w.pins.length < 4000000000000000000) (hc:w.counts.length < 4000000000000000000):zb Tryz.prog 65 [] [Cw w] (Bo (jI w)) []:=by
 have m1:(w.pins.map encI).length=w.pins.length:=List.length_map ..;have m2:(w.counts.map zN).length=w.counts.length:=List.length_map ..;refine zb.zp (fn:=Tryz.f65) Tryz.func65 rfl (uH ?_);rw [m1];refine ⟨fun h1=>?_,fun h1=>?_⟩
 ·(have e:jI w=false:=by (unfold jI;(rw [show decide (1<=w.pins.length)=false from by rw [decide_eq_false_iff_not];have:=of_decide_eq_true h1;omega]);simp));rw [e];refine dd ?_;(repeat refine uC ?_);exact uI
 refine dd ?_;refine ⟨fun h2=>?_,fun h2=>?_⟩
 ·(have e:jI w=false:=by (unfold jI;(rw [show decide (w.pins.length<=8)=false from by simp at h2 ⊢;omega]);simp));rw [e];refine dd ?_;(repeat refine uC ?_);exact uI
 refine dd ?_;rw [m2];refine ⟨fun h3=>?_,fun h3=>?_⟩
 ·(have e:jI w=false:=by (unfold jI;(rw [show decide (w.counts.length=w.pins.length)=false from by rw [decide_eq_false_iff_not];intro hh;simp [hh] at h3]);simp));rw [e];refine dd ?_;(repeat refine uC ?_);exact uI
 refine dd ?_;refine ⟨_,_,(zg4 w.counts hc).frame rfl _,dd ?_⟩;refine ⟨fun h4=>?_,fun h4=>?_⟩
 rotate_left
 ·(have e:jI w=false:=by (unfold jI;(rw [h4]);simp));rw [e];refine dd ?_;(repeat refine uC ?_);exact uI
 refine dd ?_;refine ⟨fun h5=>?_,fun h5=>?_⟩
 ·(have e:jI w=false:=by (unfold jI;(rw [show decide (0<=w.zn)=false from by simp at h5 ⊢;omega]);simp));rw [e];refine dd ?_;(repeat refine uC ?_);exact uI
 refine dd ?_;refine ⟨fun h6=>?_,fun h6=>?_⟩
 ·(have e:jI w=false:=by (unfold jI;(rw [show decide (w.zn<=1000000000000)=false from by simp at h6 ⊢;omega]);simp));rw [e];refine dd ?_;(repeat refine uC ?_);exact uI
 refine dd ?_;have b0:0<=w.zn:=by simp at h5;omega
 have b1:w.zn<=1000000000000:=by simp at h6;omega
 have hcon:=zfy (H:=[⟨1,28,8,[zJ w],0⟩]) (f:=116) (l:=w.pins) (caps:=[.ref 0 [] 8 0 0]) (wj w.zn) (by kernel_rfl) (fun r _=>zgU w r b0 b1) (by omega)
 have g0:jI w=((decide (w.lock=0) || decide (w.lock=1)) && !w.pins.any (wj w.zn)):=by
  have h3':w.counts.length=w.pins.length:=by simp at h3;omega
  unfold jI;rw [show decide (1<=w.pins.length)=true from by rw [decide_eq_true_iff];have:=of_decide_eq_false h1;omega,show decide (w.pins.length<=8)=true from by simp at h2 ⊢;omega,show decide (w.counts.length=w.pins.length)=true from by simpa using h3',h4,show decide (0<=w.zn)=true from by simpa using b0,show decide (w.zn<=1000000000000)=true from by simpa using b1]
  rfl
 have fin:∀ hl:(decide (w.lock=0) || decide (w.lock=1))=true,jI w=!w.pins.any (wj w.zn):=fun hl=>by rw [g0,hl];rfl
 refine ⟨fun h7=>?_,fun h7=>?_⟩
 ·refine dd ?_;refine ⟨fun h8=>?_,fun h8=>?_⟩
  ·have e:jI w=false:=by rw [g0,show (decide (w.lock=0) || decide (w.lock=1))=false from by simp at h7 h8 ⊢;omega];rfl
   rw [e];refine dd ?_;(repeat refine uC ?_)
   exact uI
  rw [fin (by simp at h8 ⊢;omega)];refine dd ?_;(repeat refine uC ?_)
  refine zq [0] (hcon) rfl rfl rfl rfl rfl rfl (dd ?_);refine ⟨fun h9=>?_,fun h9=>?_⟩
  ·refine dd ?_
   (exact ⟨.inl rfl,_,.refl _,uN (by rw [h9];rfl)⟩)
  ·refine dd ?_
   (exact ⟨.inl rfl,_,.refl _,uN (by rw [h9];rfl)⟩)
 ·rw [fin (by simp at h7 ⊢;omega)];refine dd ?_;(repeat refine uC ?_)
  refine zq [0] (hcon) rfl rfl rfl rfl rfl rfl (dd ?_);refine ⟨fun h9=>?_,fun h9=>?_⟩
  ·refine dd ?_
   (exact ⟨.inl rfl,_,.refl _,uN (by rw [h9];rfl)⟩)
  ·refine dd ?_
   (exact ⟨.inl rfl,_,.refl _,uN (by rw [h9];rfl)⟩)
def wW (x:Clu) (e:En):Bool:=!Go.Slp.isV e || (e.next.length:Int) != x.xv
theorem zgE (x:Clu) (e:En) (he:e.ok):zb Tryz.prog 119 [⟨1,122,4,[jU x],0⟩] ([Go.Slp.Ev e]++[.ref 0 [] 4 0 0]) (Bo (wW x e)) [⟨1,122,4,[jU x],0⟩]:=by
 have m1:(e.next.map encI).length=e.next.length:=List.length_map ..;refine zb.zS (fn:=Tryz.f119) Tryz.func119 rfl (uH ?_);refine ⟨_,_,(Go.Slp.wG e he).frame rfl _,dd ?_⟩;refine ⟨fun h1=>?_,fun h1=>?_⟩
 rotate_left
 ·refine dd ?_;exact ⟨.inl rfl,_,zo.keep [3] 1 _ _ rfl rfl rfl rfl,rfl,uN (by unfold wW;rw [h1];rfl)⟩
 ·refine dd ?_;rw [m1];refine ⟨fun h2=>?_,fun h2=>?_⟩
  ·refine dd ?_;exact ⟨.inl rfl,_,zo.keep [3] 1 _ _ rfl rfl rfl rfl,rfl,uN (by unfold wW;rw [h1,h2];rfl)⟩
  ·refine dd ?_;exact ⟨.inl rfl,_,zo.keep [3] 1 _ _ rfl rfl rfl rfl,rfl,uN (by unfold wW;rw [h1,h2];rfl)⟩
structure OkV (v:Ver):Prop where
 snap:wc v.snap
 zm:v.zm.length < 1000000000000
 ends : ∀ g ∈ v.zm, g.ends.length < 1000000000000 ∧ ∀ e ∈ g.ends, e.ok
def zeq (v:Ver) (i:Nat):Bool:=match v.zm[i]?,v.snap.zl[i]? with
 | some g,some x=>decide (g.ends.length=x.zR.length) && !g.ends.any (wW x)
 | _,_=>true
def zd8 (v:Ver):Bool:=yT v.snap && decide (v.zm.length=v.snap.zl.length) && (List.range v.zm.length).all (zeq v)
theorem zg7 (v:Ver) (hv:OkV v):zb Tryz.prog 67 [] [Cv v] (Bo (zd8 v)) []:=by
 have m1:(v.zm.map zE).length=v.zm.length:=List.length_map ..;have m2:(v.snap.zl.map jU).length=v.snap.zl.length:=List.length_map ..;have hgl:=hv.zm;refine zb.zp (fn:=Tryz.f67) Tryz.func67 rfl (uH ?_);refine ⟨_,_,(zds v.snap hv.snap).frame rfl _,dd ?_⟩;refine ⟨fun h1=>?_,fun h1=>?_⟩
 rotate_left
 ·have e:zd8 v=false:=by unfold zd8;rw [h1];rfl
  rw [e];refine dd ?_;(repeat refine uC ?_)
  exact uI
 refine dd ?_;rw [m1,m2];refine ⟨fun h2=>?_,fun h2=>?_⟩
 ·have e:zd8 v=false:=by unfold zd8;rw [show decide (v.zm.length=v.snap.zl.length)=false from by rw [decide_eq_false_iff_not];intro hh;simp [hh] at h2,Bool.and_false];rfl
  rw [e];refine dd ?_;(repeat refine uC ?_)
  exact uI
 have h2':v.zm.length=v.snap.zl.length:=by simp at h2;omega
 refine dd ?_;(repeat refine uC ?_)
 rw [m1];refine qf.seq v.zm.length (fun k=>(.za::.ref 0 [] 5 0 0::Bo false::tY (tY (.za::.za::.za::(lG v.zm)::I v.zm.length::I k::tY (tY (tY ([.za]))))))) (fun k=>[⟨1,79,5,[zI v],0⟩]) (fun k=>∀ j,j < k->zeq v j=true) ?_ (by simp) (fun k hk hr=>?_) (fun hr=>?_)
 ·exact cC
 ·obtain ⟨g,hg⟩:∃ g,g=v.zm[k]:=⟨_,rfl⟩;obtain ⟨x,hx⟩:∃ x,x=v.snap.zl[k]'(by omega):=⟨_,rfl⟩;have gg:(v.zm.map zE)[k]?= some (zE g):=by rw [List.getElem?_map,List.getElem?_eq_getElem hk,hg];rfl
  have gx:(v.snap.zl.map jU)[k]?= some (jU x):=by rw [List.getElem?_map,List.getElem?_eq_getElem (by omega),hx];rfl
  have hgm:g ∈ v.zm:=by rw [hg];exact List.getElem_mem hk
  have me:(g.ends.map zu).length=g.ends.length:=List.length_map ..;have mh:(x.zR.map vH).length=x.zR.length:=List.length_map ..
  have hd:zeq v k=(decide (g.ends.length=x.zR.length) && !g.ends.any (wW x)):=by
   unfold zeq;rw [List.getElem?_eq_getElem hk,List.getElem?_eq_getElem (by omega),<- hg,<- hx]
  have bad:zeq v k=false->zd8 v=false:=fun h=>by
   have:(List.range v.zm.length).all (zeq v)=false:=by rw [List.all_eq_false];exact ⟨k,by simpa using hk,by simp [h]⟩
   unfold zd8;rw [this,Bool.and_false]
  have hcon:=zk3 (H:=[⟨1,122,4,[jU x],0⟩]) (f:=119) (l:=g.ends) (caps:=[.ref 0 [] 4 0 0]) (wW x) (by kernel_rfl) (fun r hr=>zgE x r ((hv.ends g hgm).2 r hr)) (by have:=(hv.ends g hgm).1;omega);conv=>whnf
  refine uF ?_;(refine ⟨by omega,_,by rw [toNat_cast];exact gg,dd ?_⟩)
  (refine ⟨by omega,_,by rw [toNat_cast];exact gx,dd ?_⟩)
  rw [me,mh];refine ⟨fun h3=>?_,fun h3=>?_⟩
  ·rw [bad (by rw [hd,show decide (g.ends.length=x.zR.length)=false from by rw [decide_eq_false_iff_not];intro hh;simp [hh] at h3];rfl)];refine dd ?_;(repeat refine uC ?_)
   (refine .inr ⟨by simp,uH ?_⟩)
   exact uI
  refine dd ?_;refine zq [2] (hcon) rfl rfl rfl rfl rfl rfl (dd ?_);refine ⟨fun h4=>?_,fun h4=>?_⟩
  ·rw [bad (by rw [hd,h4,Bool.not_true,Bool.and_false])];refine dd ?_;(repeat refine uC ?_)
   (refine .inr ⟨by simp,uH ?_⟩)
   exact uI
  refine dd ?_;(repeat refine uC ?_)
  refine .inl ⟨rfl,?_,fun j hj=>?_⟩
  ·rw [zA (by omega)];exact cE 1
  ·by_cases e:j=k
   ·subst e;rw [hd,h4];simp at h3 ⊢;omega
   ·exact hr j (by omega)
 ·have e:zd8 v=true:=by
   unfold zd8;rw [h1,show decide (v.zm.length=v.snap.zl.length)=true from by simpa using h2',Bool.true_and,Bool.true_and,List.all_eq_true]
   exact fun i hi=>hr i (by simpa using hi)
  rw [e];refine uD ?_;exact uI
def yq (l:List Ret):List (Int × Value):=l.foldl (fun m r=>ye m r.version (Value.bool r.gone)) []
def yZ (l:List Ret) (i:Int):Bool:=match ((ja (yq l) i).bind fun j=>((yq l)[j]?).map (·.2):Option Value) with
 | some (.bool b)=>b
 | _=>false
theorem zoI {m:List (Int × Value)} (h:∀ kv ∈ m,∃ b,kv.2=Value.bool b) (k:Int) (b:Bool):∀ kv ∈ ye m k (Value.bool b),∃ b,kv.2=Value.bool b:=fun kv hm=>by
 unfold ye at hm;split at hm
 ·rcases List.mem_or_eq_of_mem_set hm with hm | rfl
  ·exact h kv hm
  ·exact ⟨b,rfl⟩
 ·rcases List.mem_append.1 hm with hm | hm
  ·exact h kv hm
  ·rw [List.mem_singleton.1 hm];exact ⟨b,rfl⟩
theorem zls (l:List Ret):∀ kv ∈ yq l,∃ b,kv.2=Value.bool b:=by
 unfold yq
 suffices key:∀ (l:List Ret) (m:List (Int × Value)),(∀ kv ∈ m,∃ b,kv.2=Value.bool b)->∀ kv ∈ l.foldl (fun m r=>ye m r.version (Value.bool r.gone)) m,∃ b,kv.2=Value.bool b from key l [] (by simp)
 intro l
 induction l with
 | nil=>intro m h;exact h
 | cons r l ih=>intro m h;exact ih _ (zoI h _ _)
theorem zpN (l:List Ret) (i:Int):(((ja (yq l) i).bind fun j=>((yq l)[j]?).map (·.2)).getD (Value.bool false))=Value.bool (yZ l i):=by
 unfold yZ;cases h:(ja (yq l) i).bind fun j=>((yq l)[j]?).map (·.2) with
 | none=>rfl
 | some v=>
  obtain ⟨j,_,hj⟩:=Option.bind_eq_some_iff.1 h;obtain ⟨kv,h1,rfl⟩:=Option.map_eq_some_iff.1 hj;obtain ⟨b,hb⟩:=zls l kv (List.mem_of_getElem? h1);simp only [Option.getD_some];rw [hb]
theorem znS (l:List Ret) {k:Nat} {r:Ret} (h:l[k]?= some r):yq (l.take (k+1))=ye (yq (l.take k)) r.version (Value.bool r.gone):=by
 obtain ⟨hk,rfl⟩:=List.getElem?_eq_some_iff.1 h;unfold yq;rw [List.take_succ_eq_append_getElem hk,List.foldl_append]
 rfl
structure OkW (w:Wor):Prop where
 pins:w.pins.length < 1000000000000
 ze:w.ze.length < 1000000000000∧∀ v ∈ w.ze,OkV v
 zd:w.zd.length < 1000000000000∧∀ l ∈ w.zd,l.ok
 counts:w.counts.length < 1000000000000∧∀ r ∈ w.counts,r.length < 1000000000000
 zt:w.zt.length < 1000000000000
def yc (w:Wor) (r:Ret):Bool:=decide (r.version≥(w.ze.length:Int)) || r.version == w.current || decide (r.at_ > w.zn)
def zbl (w:Wor) (i:Nat):Bool:=match w.ze[i]? with
 | some v=>zd8 v && (v.qj == yZ w.zt i)
 | none=>true
def kY (w:Wor) (i:Nat):Bool:=match w.zd[i]? with
 | some l=>Go.Gat.isV l && decide (z7 w.zd l.name=i)
 | none=>true
def xw (w:Wor):Bool:=jI w && (decide (0<=w.current) && decide (w.current < w.ze.length)) && Go.Lim.isV w.zt && !w.zt.any (yc w) && (List.range w.ze.length).all (zbl w) && (List.range w.zd.length).all (kY w)
theorem zb0 (w:Wor) (hw:OkW w):zb Tryz.prog 28 [] [Cw w] (Bo (xw w)) []:=by
 have m1:(w.ze.map zI).length=w.ze.length:=List.length_map ..;have m2:(w.zt.map xi).length=w.zt.length:=List.length_map ..;have m3:(w.zd.map qG).length=w.zd.length:=List.length_map ..;have b1:=hw.pins;have b2:=hw.ze.1;have b3:=hw.zd.1;have b4:=hw.counts.1;have b5:=hw.zt;refine zb.zp (fn:=Tryz.f28) Tryz.func28 rfl (uH ?_);refine ⟨_,_,(ziu w (by omega) (by omega)).frame rfl _,dd ?_⟩;refine ⟨fun h1=>?_,fun h1=>?_⟩
 rotate_left
 ·(have e:xw w=false:=by (unfold xw;(rw [h1]);simp));rw [e];refine dd ?_;(repeat refine uC ?_);exact uI
 refine dd ?_;refine ⟨fun h2=>?_,fun h2=>?_⟩
 ·(have e:xw w=false:=by (unfold xw;(rw [show decide (0<=w.current)=false from by simp at h2 ⊢;omega]);simp));rw [e];refine dd ?_;(repeat refine uC ?_);exact uI
 refine dd ?_;rw [m1];refine ⟨fun h3=>?_,fun h3=>?_⟩
 ·(have e:xw w=false:=by (unfold xw;(rw [show decide (w.current < w.ze.length)=false from by simp at h3 ⊢;omega]);simp));rw [e];refine dd ?_;(repeat refine uC ?_);exact uI
 refine dd ?_;refine ⟨_,_,(Go.Lim.wG (l:=w.zt) (by omega)).frame rfl _,dd ?_⟩;refine ⟨fun h4=>?_,fun h4=>?_⟩
 rotate_left
 ·(have e:xw w=false:=by (unfold xw;(rw [h4]);simp));rw [e];refine dd ?_;(repeat refine uC ?_);exact uI
 refine dd ?_;(repeat refine uC ?_)
 intro b;refine dd ?_;rw [m2]
 have g0:xw w=(!w.zt.any (yc w) && (List.range w.ze.length).all (zbl w) && (List.range w.zd.length).all (kY w)):=by
  unfold xw;rw [h1,show decide (0<=w.current)=true from by simp at h2 ⊢;omega,show decide (w.current < w.ze.length)=true from by simp at h3 ⊢;omega,h4]
  rfl
 refine qf.seq w.zt.length (fun k=>(.za::.ref 0 [] 8 0 0::Bo false:: .v (.map (some b)):: .za::.za::.za::.za::.za::.za::tY (tY (tY (lR w.zt::I w.zt.length::I k:: .za::.za::.za::.za::.za::.za::tY (tY (tY (tY (tY (tY (tY (tY ([]))))))))))))) (fun k=>[⟨1,28,8,[zJ w],0⟩,obM b (jA qh (yq (w.zt.take k))) (yq (w.zt.take k)).length]) (fun k=>∀ j,(h:j < w.zt.length)->j < k->yc w w.zt[j]=false) ?_ (by simp) (fun k hk hr=>?_) (fun hr=>?_)
 ·exact cC
 ·obtain ⟨r,hx⟩:∃ r,r=w.zt[k]:=⟨_,rfl⟩;have hx2:w.zt[k]?= some r:=by rw [List.getElem?_eq_getElem hk,hx]
  have hg:(w.zt.map xi)[k]?= some (xi r):=by rw [List.getElem?_map,hx2];rfl
  have bad:yc w r=true->xw w=false:=fun h=>by
   have:w.zt.any (yc w)=true:=List.any_eq_true.2 ⟨r,List.mem_of_getElem? hx2,h⟩;rw [g0,this];rfl
  conv=>whnf
  refine uF ?_;(refine ⟨by omega,_,by rw [toNat_cast];exact hg,dd ?_⟩)
  rw [m1];refine ⟨fun h5=>?_,fun h5=>?_⟩
  ·(rw [bad (by unfold yc;rw [h5];rfl)]);refine dd ?_;(repeat refine uC ?_);(refine .inr ⟨by simp,uH ?_⟩);exact uI
  refine dd ?_;refine ⟨fun h6=>?_,fun h6=>?_⟩
  ·(rw [bad (by unfold yc;rw [h6,Bool.or_true];rfl)]);refine dd ?_;(repeat refine uC ?_);(refine .inr ⟨by simp,uH ?_⟩);exact uI
  refine dd ?_;refine ⟨fun h7=>?_,fun h7=>?_⟩
  ·(rw [bad (by unfold yc;rw [h7,Bool.or_true])]);refine dd ?_;(repeat refine uC ?_);(refine .inr ⟨by simp,uH ?_⟩);exact uI
  refine dd ?_;(repeat refine uC ?_)
  refine ⟨fun q=>?_,fun q=>?_⟩
  all_goals
   refine dd ?_;refine ⟨_,_,OpV.mapUpdate (id:=1) _ _ _ _ (.inl rfl) Tryz.underlying137 (zb2.int Tryz.underlying3) rfl rfl r.version (fun E u h=>jz h) (.bool r.gone) (fun E u h=>by rw [q];exact jz h),dd ?_⟩;refine .inl ⟨rfl,?_,fun j hj hjk=>?_⟩
   ·rw [zA (by omega),<- znS w.zt hx2];exact cE 2
   ·by_cases e:j=k
    ·subst e;rw [<- hx];unfold yc;rw [h5,h6,h7];rfl
    ·exact hr j hj (by omega)
 have hl0:w.zt.any (yc w)=false:=by
  rw [List.any_eq_false];intro x hx;obtain ⟨j,hj,rfl⟩:=List.mem_iff_getElem.1 hx;simp [hr j hj hj]
 rw [List.take_length];refine uD ?_;rw [m1];have g1:xw w=((List.range w.ze.length).all (zbl w) && (List.range w.zd.length).all (kY w)):=by rw [g0,hl0];rfl
 refine qf.seq w.ze.length (fun k=>(.za::.ref 0 [] 8 0 0::Bo false:: .v (.map (some b)):: .za::.za::.za::.za::.za::.za::.za::tY (tY (tY (tY (tY (tY (tY (lV w.ze::I w.ze.length::I k:: .za::.za::.za::.za::.za::tY (tY (tY (tY ([]))))))))))))) (fun k=>[⟨1,28,8,[zJ w],0⟩,obM b (jA qh (yq (w.zt))) (yq (w.zt)).length]) (fun k=>∀ j,j < k->zbl w j=true) ?_ (by simp) (fun k hk hr=>?_) (fun hr=>?_)
 ·exact cC
 ·obtain ⟨v,hx⟩:∃ v,v=w.ze[k]:=⟨_,rfl⟩;have hx2:w.ze[k]?= some v:=by rw [List.getElem?_eq_getElem hk,hx]
  have hg:(w.ze.map zI)[k]?= some (zI v):=by rw [List.getElem?_map,hx2];rfl
  have hd:zbl w k=(zd8 v && (v.qj == yZ w.zt k)):=by unfold zbl;rw [hx2]
  have bad:zbl w k=false->xw w=false:=fun h=>by
   have:(List.range w.ze.length).all (zbl w)=false:=by rw [List.all_eq_false];exact ⟨k,by simpa using hk,by simp [h]⟩
   rw [g1,this];rfl
  conv=>whnf
  refine uF ?_;(refine ⟨by omega,_,by rw [toNat_cast];exact hg,dd ?_⟩)
  refine ⟨_,_,(zg7 v (hw.ze.2 v (List.mem_of_getElem? hx2))).frame rfl _,dd ?_⟩;refine ⟨fun h5=>?_,fun h5=>?_⟩
  rotate_left
  ·(rw [bad (by rw [hd,h5];rfl)]);refine dd ?_;(repeat refine uC ?_);(refine .inr ⟨by simp,uH ?_⟩);exact uI
  refine dd ?_;refine ⟨fun q=>?_,fun q=>?_⟩
  all_goals
   refine dd ?_;refine ⟨_,_,OpV.lookup (id:=1) _ _ _ rfl Tryz.underlying137 (zb2.int Tryz.underlying3) rfl rfl (k:Int) (fun E u h=>jz h) (c:=Bo (yZ w.zt k)) rfl rfl (fun E=>by rw [zpN];exact .v _ rfl),dd ?_⟩;refine ⟨fun q2=>?_,fun q2=>?_⟩
   ·(rw [bad (by rw [hd,q];simp at q2;simp [q2])]);refine dd ?_;(repeat refine uC ?_);(refine .inr ⟨by simp,uH ?_⟩);exact uI
   refine dd ?_;(repeat refine uC ?_)
   refine .inl ⟨rfl,?_,fun j hj=>?_⟩
   ·rw [zA (by omega)];exact cE 2
   ·by_cases e:j=k
    ·subst e;rw [hd,h5,q];simp at q2;simp [q2]
    ·exact hr j (by omega)
 have hv0:(List.range w.ze.length).all (zbl w)=true:=by
  rw [List.all_eq_true]
  exact fun i hi=>hr i (by simpa using hi)
 have g2:xw w=(List.range w.zd.length).all (kY w):=by rw [g1,hv0];rfl
 refine uD ?_;rw [m3];refine qf.seq w.zd.length (fun k=>(.za::.ref 0 [] 8 0 0::Bo false:: .v (.map (some b)):: .za::.za::.za::tY (tY (tY (tY (tY (tY (tY (tY (tY (tY (lL w.zd::I w.zd.length::I k:: .za::tY (tY ([])))))))))))))) (fun k=>[⟨1,28,8,[zJ w],0⟩,obM b (jA qh (yq (w.zt))) (yq (w.zt)).length]) (fun k=>∀ j,j < k->kY w j=true) ?_ (by simp) (fun k hk hr=>?_) (fun hr=>?_)
 ·exact cC
 ·obtain ⟨l,hx⟩:∃ l,l=w.zd[k]:=⟨_,rfl⟩;have hx2:w.zd[k]?= some l:=by rw [List.getElem?_eq_getElem hk,hx]
  have hg:(w.zd.map qG)[k]?= some (qG l):=by rw [List.getElem?_map,hx2];rfl
  have hd:kY w k=(Go.Gat.isV l && decide (z7 w.zd l.name=k)):=by unfold kY;rw [hx2]
  have bad:kY w k=false->xw w=false:=fun h=>by
   have:(List.range w.zd.length).all (kY w)=false:=by rw [List.all_eq_false];exact ⟨k,by simpa using hk,by simp [h]⟩
   rw [g2,this]
  conv=>whnf
  refine uF ?_;(refine ⟨by omega,_,by rw [toNat_cast];exact hg,dd ?_⟩)
  refine ⟨_,_,(Go.Gat.wG l (hw.zd.2 l (List.mem_of_getElem? hx2))).frame rfl _,dd ?_⟩;refine ⟨fun h5=>?_,fun h5=>?_⟩
  rotate_left
  ·(rw [bad (by rw [hd,h5];rfl)]);refine dd ?_;(repeat refine uC ?_);(refine .inr ⟨by simp,uH ?_⟩);exact uI
  refine dd ?_;refine ⟨_,_,(k8 w.zd l.name (by omega)).frame rfl _,dd ?_⟩;refine ⟨fun h6=>?_,fun h6=>?_⟩
  ·(rw [bad (by rw [hd,show decide (z7 w.zd l.name=(k:Int))=false from by rw [decide_eq_false_iff_not];intro hh;simp [hh] at h6,Bool.and_false])]);refine dd ?_;(repeat refine uC ?_);(refine .inr ⟨by simp,uH ?_⟩);exact uI
  refine dd ?_;(repeat refine uC ?_)
  refine .inl ⟨rfl,?_,fun j hj=>?_⟩
  ·rw [zA (by omega)];exact cE 2
  ·by_cases e:j=k
   ·subst e;rw [hd,h5];simp at h6;simp [h6]
   ·exact hr j (by omega)
 ·have hl1:(List.range w.zd.length).all (kY w)=true:=by
   rw [List.all_eq_true]
   exact fun i hi=>hr i (by simpa using hi)
  rw [g2,hl1];refine uD ?_;exact uI
end Go.Wor
