import Derived.Test.YtgmkpdmnlhoffaaGreatRJ
import Derived.Test.YtgmkpdmnlhoffaaGreatProg
set_option linter.all false
set_option maxRecDepth 100000
set_option maxHeartbeats 4000000
namespace Go.Cal
open Go.Ab Go.Hy
section
variable {κ:Type} [DecidableEq κ]
def vI (l:List (κ × Int)):List (κ × Value):=l.map fun kv=>(kv.1,qh kv.2)
def yK (l:List (κ × Int)) (k:κ):Int:=((ja l k).bind fun i=>(l[i]?).map (·.2)).getD 0
theorem zju (l:List (κ × Int)) (k:κ):ja (vI l) k=ja l k:=by
 unfold ja vI;rw [List.findIdx?_map]
 rfl
theorem vn (l:List (κ × Int)) (k:κ) (v:Int):ye (vI l) k (qh v)=vI (ye l k v):=by
 unfold ye;rw [zju];cases ja l k with
 | none=>simp [vI]
 | some i=>simp [vI,List.map_set]
theorem zae (l:List (κ × Int)) (k:κ):(((ja (vI l) k).bind fun i=>((vI l)[i]?).map (·.2)).getD (qh 0))=qh (yK l k):=by
 rw [zju];unfold yK;cases ja l k with
 | none=>rfl
 | some i=>
  simp only [Option.bind_some,vI,List.getElem?_map];cases l[i]? with
  | none=>rfl
  | some v=>rfl
theorem zfb {υ:Type} (l:List (κ × υ)) (k:κ) (z v:υ):∃ h:atV l k < (zeZ l k z).length,(zeZ l k z).set (atV l k) ((zeZ l k z)[atV l k].1,v)=ye l k v:=by
 unfold atV zeZ ye;cases hf:ja l k with
 | none=>
  refine ⟨by simp,?_⟩;simp
 | some i=>
  obtain ⟨u,hu⟩:=xB hf;have hl:=(List.getElem?_eq_some_iff.1 hu).1;refine ⟨hl,?_⟩;have:l[i]=(k,u):=by rw [List.getElem?_eq_getElem hl] at hu;exact Option.some.inj hu
  show l.set i (l[i].1,v)=_;rw [this]
theorem yF {l:List (κ × Int)} {k k':κ} {v:Int}:yK (ye l k v) k'=if k'=k then v else yK l k':=by
 unfold ye yK;cases hf:ja l k with
 | none=>
  unfold ja at hf ⊢;rw [List.findIdx?_eq_none_iff] at hf;rw [List.findIdx?_append];by_cases e:k'=k
  ·subst e;have:l.findIdx? (fun kv=>decide (kv.1=k'))=none:=by rw [List.findIdx?_eq_none_iff];exact hf
   simp [this]
  ·rw [if_neg e];cases h2:l.findIdx? (fun kv=>decide (kv.1=k')) with
   | none=>simp [Ne.symm e]
   | some i=>
    rw [List.findIdx?_eq_some_iff_getElem] at h2;obtain ⟨h3,_⟩:=h2;simp [List.getElem?_append_left h3]
 | some i=>
  obtain ⟨u,hu⟩:=xB hf;have hl:=(List.getElem?_eq_some_iff.1 hu).1;have hli:l[i]=(k,u):=by rw [List.getElem?_eq_getElem hl] at hu;exact Option.some.inj hu
  have same:ja (l.set i (k,v)) k'=ja l k':=by
   unfold ja
   have e1:(l.set i (k,v)).map Prod.fst=l.map Prod.fst:=by
    rw [List.map_set];apply List.ext_getElem?
    intro j;rw [List.getElem?_set];split
    ·rename_i e2;subst e2;rw [if_pos (by simpa using hl),List.getElem?_map,hu]
     rfl
    ·rfl
   have e2:∀ m:List (κ × Int),m.findIdx? (fun kv=>decide (kv.1=k'))=(m.map Prod.fst).findIdx? (fun x=>decide (x=k')):=fun m=>by rw [List.findIdx?_map];rfl
   rw [e2,e2,e1]
  dsimp only;rw [same];by_cases e:k'=k
  ·subst e;rw [hf,if_pos rfl];simp [hl]
  ·rw [if_neg e];cases h2:ja l k' with
   | none=>rfl
   | some j=>
    obtain ⟨u2,hu2⟩:=xB h2;have:i≠j:=by rintro rfl;rw [hu] at hu2;cases hu2;exact e rfl
    simp [List.getElem?_set,this]
end
structure Bk where
 l:List Cal
 of_:List ((Int × Int) × Int)
 busy:List (Int × Int)
def zbd:Six:=⟨0,0,0,0,0,0⟩
def vR:Ans:=⟨0,0,0,0,0,0,0,zbd⟩
def zs2 (e:Eve) (i:Int):Cal:=⟨e.zj,e.op,i, -1, -1,vR⟩
def j8 (e:Eve) (i:Int) (c:Cal):Cal:=
 let c1:Cal:=if e.jq then ⟨c.zj,c.op,c.from_,i,c.to_,c.answer⟩ else c
 if e.done then ⟨c1.zj,c1.op,c1.from_,c1.jq,i,e.answer⟩ else c1
def goV (b:Bk) (i:Int) (e:Eve) (k:Int):Option Bk:=
 if k=0∨yK b.busy e.zj≠k then none
 else some ⟨b.l.modify (k - 1).toNat (j8 e i),b.of_,if e.done then ye b.busy e.zj 0 else b.busy⟩
def qU (b:Bk) (i:Int) (e:Eve):Bk:=
 let n:Int:=b.l.length+1
 ⟨b.l++[zs2 e i],ye b.of_ (e.zj,e.op) n,ye b.busy e.zj n⟩
def jE (b:Bk) (i:Int) (e:Eve):Option Bk:=
 if e.ym then
  if 0 < yK b.of_ (e.zj,e.op)∨0 < yK b.busy e.zj then none else goV (qU b i e) i e (b.l.length+1)
 else goV b i e (yK b.of_ (e.zj,e.op))
def Bk.ok (b:Bk):Prop:=(∀ k,0<=yK b.of_ k∧yK b.of_ k<=b.l.length)∧∀ t,0<=yK b.busy t∧yK b.busy t<=b.l.length
theorem zmZ {b b':Bk} {i k:Int} {e:Eve} (hb:b.ok) (h:goV b i e k=some b'):b'.ok∧b'.l.length=b.l.length:=by
 unfold goV at h;split at h
 ·cases h
 ·cases h
  refine ⟨⟨?_,?_⟩,?_⟩
  ·simpa using hb.1
  ·intro t;have:=hb.2 t;simp only [List.length_modify];split
   ·rw [yF];split
    ·omega
    ·exact this
   ·exact this
  ·simp
theorem yn {b:Bk} {i:Int} {e:Eve} (hb:b.ok):(qU b i e).ok:=by
 refine ⟨fun k=>?_,fun t=>?_⟩
 ·have:=hb.1 k;simp only [qU,yF,List.length_append,List.length_singleton];split <;> omega
 ·have:=hb.2 t;simp only [qU,yF,List.length_append,List.length_singleton];split <;> omega
theorem zpF {b b':Bk} {i:Int} {e:Eve} (hb:b.ok) (h:jE b i e=some b'):b'.ok:=by
 unfold jE at h;split at h
 ·split at h
  ·cases h
  ·exact (zmZ (yn hb) h).1
 ·exact (zmZ hb h).1
end Go.Cal
namespace Go.Cal
open Go.Ab Go.Proofs Go.Hy
theorem zdR:zb2 Tryz.prog 3 qh:=zb2.int Tryz.underlying3
theorem zn9:zb2 Tryz.prog 185 yX:=zb2.two Tryz.underlying185 rfl (by decide) Tryz.underlying3 rfl (by decide) Tryz.underlying3 (by kernel_rfl) (fun a b=>rfl)
theorem zdA {E:Env} {a b:Int} {u:Value} (h:L E (.agg [I a,I b]) u):u=yX (a,b):=by
 cases h with
 | agg _ ys h1 h2 h3=>
  obtain ⟨l⟩:=ys
  match l,h1 with
  | [x,y],_=>
   have e1:=h2 0 _ x rfl rfl;have e2:=h2 1 _ y rfl rfl;cases e1;cases e2;rfl
theorem zoh {l:List Cal} {n:Nat} {c:Cal} (h:l[n]?= some c) (f:Cal->Cal):l.modify n f=l.set n (f c):=yy f h
theorem jT {l:List Cal} {n:Nat} {c:Cal} {r:List C} (h:r=jW c):(l.map jW).set n r=(l.set n c).map jW:=by subst h;rw [List.map_set]
theorem xC {l:List Cal} {n:Nat} {c:Cal} (h:l[n]?= some c):(l.map jW)[n]?= some (jW c):=by rw [List.getElem?_map,h];rfl
theorem vU {l:List Cal} {n:Nat} {c c1:Cal} (h:l[n]?= some c):(l.set n c1)[n]?= some c1:=by rw [List.getElem?_set,if_pos rfl,if_pos (List.getElem?_eq_some_iff.1 h).1]
theorem zis {b:Bk} {i k:Int} {e:Eve} (h:k=0∨yK b.busy e.zj≠k):goV b i e k=none:=by unfold goV;rw [if_pos h]
theorem zit {b:Bk} {i k:Int} {e:Eve} {c:Cal} (h:¬(k=0∨yK b.busy e.zj≠k)) (hc:b.l[(k - 1).toNat]?= some c):goV b i e k=some ⟨b.l.set (k - 1).toNat (j8 e i c),b.of_,if e.done then ye b.busy e.zj 0 else b.busy⟩:=by
 unfold goV;rw [if_neg h,zoh hc]
theorem zgR (b1 b2:Nat) (bk:Bk) (hb:bk.ok) (hl:bk.l.length < 4611686018427387904) (X:Ob) (i:Int) (e:Eve) (he:e.ym=false):
  zb Tryz.prog 64 [obM b1 (jA yX (vI bk.of_)) (vI bk.of_).length,obM b2 (jA qh (vI bk.busy)) (vI bk.busy).length,⟨1,133,3,[[.sl 3 [] 18 0 bk.l.length false,.v (.map (some b1)),.v (.map (some b2))]],0⟩,⟨2,69,18,(bk.l).map jW,0⟩,X] [.ref 2 [] 3 0 0,I i,.agg (zQ e)] (Bo (jE bk i e).isSome)
   (match jE bk i e with | some b=>[obM b1 (jA yX (vI b.of_)) (vI b.of_).length,obM b2 (jA qh (vI b.busy)) (vI b.busy).length,⟨1,133,3,[[.sl 3 [] 18 0 bk.l.length false,.v (.map (some b1)),.v (.map (some b2))]],0⟩,⟨2,69,18,(b.l).map jW,0⟩,X,⟨1,62,23,[zQ e],0⟩] | none=>[obM b1 (jA yX (vI bk.of_)) (vI bk.of_).length,obM b2 (jA qh (vI bk.busy)) (vI bk.busy).length,⟨1,133,3,[[.sl 3 [] 18 0 bk.l.length false,.v (.map (some b1)),.v (.map (some b2))]],0⟩,⟨2,69,18,(bk.l).map jW,0⟩,X,⟨1,62,23,[zQ e],0⟩]):=by
 refine zb.zS (fn:=Tryz.f64) Tryz.func64 rfl ?_;have ev:jE bk i e=goV bk i e (yK bk.of_ (e.zj,e.op)):=by unfold jE;rw [if_neg (by simp [he])]
 rw [ev];conv=>whnf
 refine uE ?_;refine ⟨_,_,OpV.lookup (id:=0) _ _ _ rfl Tryz.underlying130 zn9 rfl rfl (e.zj,e.op) (fun E u h=>zdA h) rfl rfl (fun E=>by rw [zae];exact .v _ rfl),dd ?_⟩;have hk:=hb.1 (e.zj,e.op);generalize yK bk.of_ (e.zj,e.op)=k at *;refine ⟨fun h=>absurd ((he).symm.trans h:false=true) (by decide),fun _=>dd ?_⟩;refine uE ?_;refine ⟨fun h1=>?_,fun h1=>?_⟩
 ·rw [zis (.inl tE)];refine dd ?_;exact uJ
 ·refine dd ?_;refine ⟨_,_,OpV.lookup (id:=1) _ _ _ rfl Tryz.underlying131 zdR rfl rfl (e.zj) (fun E u h=>jz h) rfl rfl (fun E=>by rw [zae];exact .v _ rfl),dd ?_⟩;refine ⟨fun h2=>?_,fun h2=>?_⟩
  ·rw [zis (.inr tS)];refine dd ?_;exact uJ
  ·have h3:¬(k=0∨yK bk.busy e.zj≠k):=by simp at h1 h2;simp [h1,h2]
   have hn:(k - 1).toNat < bk.l.length:=by omega
   obtain ⟨c,hc⟩:∃ c,bk.l[(k - 1).toNat]?= some c:=⟨_,List.getElem?_eq_getElem hn⟩;rw [zit h3 hc];refine dd ?_;rw [q0 (by omega) (by omega)];refine ⟨by omega,hn,dd ?_⟩;generalize hN:(k - 1).toNat=n at *;have fin:∀ (X:Prop),X->X:=fun _ h=>h
   refine ⟨fun h4=>?_,fun h4=>?_⟩
   ·refine dd ?_;rw [Nat.zero_add];refine ⟨_,xC hc,rfl,dd ?_⟩;obtain ⟨c1,e1⟩:∃ c1:Cal,c1=⟨c.zj,c.op,c.from_,i,c.to_,c.answer⟩:=⟨_,rfl⟩;rw [jT (l:=bk.l) (n:=n) (c:=c1)]
    rotate_left
    ·subst e1;rfl
    have hc1:=vU (c1:=c1) hc;generalize hL:bk.l.set n c1=l1 at *;have hmk:e.done=false->bk.l.set n (j8 e i c)=l1:=fun hd=>by rw [<- hL,e1];simp [j8,h4,hd]
    have hmd:e.done=true->bk.l.set n (j8 e i c)=l1.set n ⟨c1.zj,c1.op,c1.from_,c1.jq,i,e.answer⟩:=fun hd=>by rw [<- hL,List.set_set,e1];simp [j8,h4,hd]
    refine ⟨fun h5=>?_,fun h5=>?_⟩
    ·refine dd ?_;refine .inl ⟨⟨false,[4],[5],[]⟩,by kernel_rfl,uH ?_⟩;(try rw [Nat.zero_add]);(refine ⟨_,xC hc1,rfl,dd ?_⟩);(refine ⟨rfl,dd ?_⟩);(obtain ⟨c2,e2⟩:∃ c2:Cal,c2=⟨c1.zj,c1.op,c1.from_,c1.jq,i,c1.answer⟩:=⟨_,rfl⟩);rw [jT (l:=l1) (n:=n) (c:=c2)];(rotate_left;focus (subst e2;rfl));(have hc2:=vU (c1:=c2) hc1);(refine ⟨_,xC hc2,rfl,dd ?_⟩);(refine ⟨rfl,dd ?_⟩);rw [jT (l:=l1.set n c2) (n:=n) (c:=⟨c1.zj,c1.op,c1.from_,c1.jq,i,e.answer⟩)];(rotate_left;focus (subst e2;rfl));(rw [List.set_set]);refine uE ?_;refine ⟨_,_,OpV.mapUpdate (id:=1) _ _ _ _ (.inl rfl) Tryz.underlying131 zdR rfl rfl (e.zj) (fun E u h=>jz h) (qh 0) (fun E u h=>jz h),dd ?_⟩;rw [vn];(rw [hmd h5,if_pos h5]);exact uJ
    ·refine dd ?_;(rw [hmk h5,if_neg (by simp [h5])]);exact uJ
   ·have hmk:e.done=false->bk.l.set n (j8 e i c)=bk.l:=fun hd=>by
     have:j8 e i c=c:=by simp [j8,h4,hd]
     rw [this];exact zdp hc
    have hmd:e.done=true->bk.l.set n (j8 e i c)=bk.l.set n ⟨c.zj,c.op,c.from_,c.jq,i,e.answer⟩:=fun hd=>by simp [j8,h4,hd]
    refine dd ?_;refine ⟨fun h5=>?_,fun h5=>?_⟩
    ·refine dd ?_;refine .inl ⟨⟨false,[4],[5],[]⟩,by kernel_rfl,uH ?_⟩;(try rw [Nat.zero_add]);(refine ⟨_,xC hc,rfl,dd ?_⟩);(refine ⟨rfl,dd ?_⟩);(obtain ⟨c2,e2⟩:∃ c2:Cal,c2=⟨c.zj,c.op,c.from_,c.jq,i,c.answer⟩:=⟨_,rfl⟩);rw [jT (l:=bk.l) (n:=n) (c:=c2)];(rotate_left;focus (subst e2;rfl));(have hc2:=vU (c1:=c2) hc);(refine ⟨_,xC hc2,rfl,dd ?_⟩);(refine ⟨rfl,dd ?_⟩);rw [jT (l:=bk.l.set n c2) (n:=n) (c:=⟨c.zj,c.op,c.from_,c.jq,i,e.answer⟩)];(rotate_left;focus (subst e2;rfl));(rw [List.set_set]);refine uE ?_;refine ⟨_,_,OpV.mapUpdate (id:=1) _ _ _ _ (.inl rfl) Tryz.underlying131 zdR rfl rfl (e.zj) (fun E u h=>jz h) (qh 0) (fun E u h=>jz h),dd ?_⟩;rw [vn];(rw [hmd h5,if_pos h5]);exact uJ
    ·refine dd ?_;(rw [hmk h5,if_neg (by simp [h5])]);exact uJ
theorem zpi {l:List Cal} {c:Cal} {r:List C} (h:r=jW c):l.map jW++[r]=(l++[c]).map jW:=by subst h;rw [List.map_append];rfl
theorem zmV (l:List Cal):(l.map jW).all (·.all zx)=true:=by
 rw [List.all_eq_true];intro r hr;obtain ⟨c,_,rfl⟩:=List.mem_map.1 hr
 rfl
theorem zdL (b1 b2:Nat) (bk:Bk) (hb:bk.ok) (hl:bk.l.length < 900000000000) (X:Ob) (i:Int) (e:Eve) (he:e.ym=true):
  zb Tryz.prog 64 [obM b1 (jA yX (vI bk.of_)) (vI bk.of_).length,obM b2 (jA qh (vI bk.busy)) (vI bk.busy).length,⟨1,133,3,[[.sl 3 [] 18 0 bk.l.length false,.v (.map (some b1)),.v (.map (some b2))]],0⟩,⟨2,69,18,(bk.l).map jW,0⟩,X] [.ref 2 [] 3 0 0,I i,.agg (zQ e)] (Bo (jE bk i e).isSome)
   (match jE bk i e with | some b=>[obM b1 (jA yX (vI b.of_)) (vI b.of_).length,obM b2 (jA qh (vI b.busy)) (vI b.busy).length,⟨1,133,3,[[.sl 6 [] 18 0 (bk.l.length+1) false,.v (.map (some b1)),.v (.map (some b2))]],0⟩,⟨0,69,18,bk.l.map jW,0⟩,X,⟨1,62,23,[zQ e],0⟩,⟨2,69,18,(b.l).map jW,0⟩] | none=>[obM b1 (jA yX (vI bk.of_)) (vI bk.of_).length,obM b2 (jA qh (vI bk.busy)) (vI bk.busy).length,⟨1,133,3,[[.sl 3 [] 18 0 bk.l.length false,.v (.map (some b1)),.v (.map (some b2))]],0⟩,⟨2,69,18,(bk.l).map jW,0⟩,X,⟨1,62,23,[zQ e],0⟩]):=by
 refine zb.zS (fn:=Tryz.f64) Tryz.func64 rfl ?_;have hlm:(bk.l.map jW).length=bk.l.length:=List.length_map ..;conv=>whnf
 refine uE ?_;refine ⟨_,_,OpV.lookup (id:=0) _ _ _ rfl Tryz.underlying130 zn9 rfl rfl (e.zj,e.op) (fun E u h=>zdA h) rfl rfl (fun E=>by rw [zae];exact .v _ rfl),dd ?_⟩;refine ⟨fun _=>dd ?_,fun h=>absurd ((he).symm.trans h:true=false) (by decide)⟩;refine uE ?_;have evno:0 < yK bk.of_ (e.zj,e.op)∨0 < yK bk.busy e.zj->jE bk i e=none:=fun h=>by unfold jE;rw [if_pos he,if_pos h]
 refine ⟨fun h1=>?_,fun h1=>?_⟩
 ·rw [evno (.inl tE)];refine dd ?_;exact uJ
 ·refine dd ?_;refine ⟨_,_,OpV.lookup (id:=1) _ _ _ rfl Tryz.underlying131 zdR rfl rfl (e.zj) (fun E u h=>jz h) rfl rfl (fun E=>by rw [zae];exact .v _ rfl),dd ?_⟩;refine ⟨fun h2=>?_,fun h2=>?_⟩
  ·rw [evno (.inr tS)];refine dd ?_;exact uJ
  ·have hno:¬(0 < yK bk.of_ (e.zj,e.op)∨0 < yK bk.busy e.zj):=by simp at h1 h2;omega
   obtain ⟨l0,hl0⟩:∃ l0,l0=bk.l++[⟨e.zj,e.op,i, -1, -1,vR⟩]:=⟨_,rfl⟩;have ev:jE bk i e=goV ⟨l0,ye bk.of_ (e.zj,e.op) ((bk.l.length:Int)+1),ye bk.busy e.zj ((bk.l.length:Int)+1)⟩ i e ((bk.l.length:Int)+1):=by unfold jE;rw [if_pos he,if_neg hno,hl0];rfl
   have hbz:yK (ye bk.busy e.zj ((bk.l.length:Int)+1)) e.zj=(bk.l.length:Int)+1:=by rw [yF,if_pos rfl]
   obtain ⟨c,hce⟩:∃ c:Cal,c=⟨e.zj,e.op,i, -1, -1,vR⟩:=⟨_,rfl⟩
   have hc:l0[((bk.l.length:Int)+1 - 1).toNat]?= some c:=by
    have:((bk.l.length:Int)+1 - 1).toNat=bk.l.length:=by omega
    rw [this,hl0,hce];simp
   rw [ev,zit (by rw [hbz];omega) hc];refine dd ?_;refine uE ?_;refine ⟨hlm,zmV _,by simp [maxLen];omega,by show _ * 144<=_;simp;omega,dd ?_⟩;rw [zpi (l:=bk.l) (c:=⟨e.zj,e.op,i, -1, -1,vR⟩)]
   rotate_left
   ·rfl
   rw [<- hl0];have e1:bk.l.length+([].length (α:=List C)+1)=bk.l.length+1:=rfl;refine .inl ⟨⟨false,[3,5,7,12,14],[2,5],[]⟩,by kernel_rfl,uH ?_⟩;refine ⟨_,_,OpV.mapEntry (id:=0) _ _ _ rfl Tryz.underlying130 zn9 rfl rfl ((e.zj,e.op)) (fun E u h=>zdA h) rfl rfl,dd ?_⟩;(refine ⟨rfl,rfl,dd ?_⟩)
   (obtain ⟨hi0,hset0⟩:=zfb (vI bk.of_) (e.zj,e.op) (qh 0) (qh ((bk.l.length:Int)+1)));(refine ⟨_,_,OpV.entryStore (id:=0) _ _ _ _ rfl rfl rfl rfl hi0 (qh ((bk.l.length:Int)+1)) (fun E u h=>jz h),dd ?_⟩);(refine ⟨rfl,rfl,dd ?_⟩);rw [hset0,vn]
   refine ⟨_,_,OpV.mapEntry (id:=1) _ _ _ rfl Tryz.underlying131 zdR rfl rfl (e.zj) (fun E u h=>jz h) rfl rfl,dd ?_⟩;(refine ⟨rfl,rfl,dd ?_⟩)
   (obtain ⟨hi1,hset1⟩:=zfb (vI bk.busy) e.zj (qh 0) (qh ((bk.l.length:Int)+1)));(refine ⟨_,_,OpV.entryStore (id:=1) _ _ _ _ rfl rfl rfl rfl hi1 (qh ((bk.l.length:Int)+1)) (fun E u h=>jz h),dd ?_⟩);(refine ⟨rfl,rfl,dd ?_⟩);rw [hset1,vn]
   refine uE ?_;refine ⟨fun h=>absurd h (by simp;omega),fun _=>dd ?_⟩;refine ⟨_,_,OpV.lookup (id:=1) _ _ _ rfl Tryz.underlying131 zdR rfl rfl (e.zj) (fun E u h=>jz h) rfl rfl (fun E=>by rw [zae];exact .v _ rfl),dd ?_⟩;refine ⟨fun h=>absurd h (by rw [yF,if_pos rfl];simp),fun _=>dd ?_⟩;have ek:((bk.l.length+(([]:List (List C)).length+1):Nat):Int)=(bk.l.length:Int)+1:=by simp
   rw [ek,q0 (by omega) (by omega)];refine ⟨by omega,by simp,dd ?_⟩;generalize hN:((bk.l.length:Int)+1 - 1).toNat=n at *;refine ⟨fun h4=>?_,fun h4=>?_⟩
   ·refine dd ?_;rw [Nat.zero_add];refine ⟨_,xC hc,rfl,dd ?_⟩;obtain ⟨c1,e1⟩:∃ c1:Cal,c1=⟨c.zj,c.op,c.from_,i,c.to_,c.answer⟩:=⟨_,rfl⟩;rw [jT (l:=l0) (n:=n) (c:=c1)]
    rotate_left
    ·subst e1;rfl
    have hc1:=vU (c1:=c1) hc;generalize hL:l0.set n c1=l1 at *;have hmk:e.done=false->l0.set n (j8 e i c)=l1:=fun hd=>by rw [<- hL,e1];simp [j8,h4,hd]
    have hmd:e.done=true->l0.set n (j8 e i c)=l1.set n ⟨c1.zj,c1.op,c1.from_,c1.jq,i,e.answer⟩:=fun hd=>by rw [<- hL,List.set_set,e1];simp [j8,h4,hd]
    refine ⟨fun h5=>?_,fun h5=>?_⟩
    ·refine dd ?_;refine .inl ⟨⟨false,[4],[5],[]⟩,by kernel_rfl,uH ?_⟩;(try rw [Nat.zero_add]);(refine ⟨_,xC hc1,rfl,dd ?_⟩);(refine ⟨rfl,dd ?_⟩);(obtain ⟨c2,e2⟩:∃ c2:Cal,c2=⟨c1.zj,c1.op,c1.from_,c1.jq,i,c1.answer⟩:=⟨_,rfl⟩);rw [jT (l:=l1) (n:=n) (c:=c2)];(rotate_left;focus (subst e2;rfl));(have hc2:=vU (c1:=c2) hc1);(refine ⟨_,xC hc2,rfl,dd ?_⟩);(refine ⟨rfl,dd ?_⟩);rw [jT (l:=l1.set n c2) (n:=n) (c:=⟨c1.zj,c1.op,c1.from_,c1.jq,i,e.answer⟩)];(rotate_left;focus (subst e2;rfl));(rw [List.set_set]);refine uE ?_;refine ⟨_,_,OpV.mapUpdate (id:=1) _ _ _ _ (.inl rfl) Tryz.underlying131 zdR rfl rfl (e.zj) (fun E u h=>jz h) (qh 0) (fun E u h=>jz h),dd ?_⟩;rw [vn];(rw [hmd h5,if_pos h5]);exact uJ
    ·refine dd ?_;(rw [hmk h5,if_neg (by simp [h5])]);exact uJ
   ·have hmk:e.done=false->l0.set n (j8 e i c)=l0:=fun hd=>by
     have:j8 e i c=c:=by simp [j8,h4,hd]
     rw [this];exact zdp hc
    have hmd:e.done=true->l0.set n (j8 e i c)=l0.set n ⟨c.zj,c.op,c.from_,c.jq,i,e.answer⟩:=fun hd=>by simp [j8,h4,hd]
    refine dd ?_;refine ⟨fun h5=>?_,fun h5=>?_⟩
    ·refine dd ?_;refine .inl ⟨⟨false,[4],[5],[]⟩,by kernel_rfl,uH ?_⟩;(try rw [Nat.zero_add]);(refine ⟨_,xC hc,rfl,dd ?_⟩);(refine ⟨rfl,dd ?_⟩);(obtain ⟨c2,e2⟩:∃ c2:Cal,c2=⟨c.zj,c.op,c.from_,c.jq,i,c.answer⟩:=⟨_,rfl⟩);rw [jT (l:=l0) (n:=n) (c:=c2)];(rotate_left;focus (subst e2;rfl));(have hc2:=vU (c1:=c2) hc);(refine ⟨_,xC hc2,rfl,dd ?_⟩);(refine ⟨rfl,dd ?_⟩);rw [jT (l:=l0.set n c2) (n:=n) (c:=⟨c.zj,c.op,c.from_,c.jq,i,e.answer⟩)];(rotate_left;focus (subst e2;rfl));(rw [List.set_set]);refine uE ?_;refine ⟨_,_,OpV.mapUpdate (id:=1) _ _ _ _ (.inl rfl) Tryz.underlying131 zdR rfl rfl (e.zj) (fun E u h=>jz h) (qh 0) (fun E u h=>jz h),dd ?_⟩;rw [vn];(rw [hmd h5,if_pos h5]);exact uJ
    ·refine dd ?_;(rw [hmk h5,if_neg (by simp [h5])]);exact uJ
abbrev bk0:Bk:=⟨[],[],[]⟩
theorem ze0 {κ:Type} [DecidableEq κ] (k:κ):yK ([]:List (κ × Int)) k=0:=rfl
theorem zpj {c:Cal} {r:List C} (h:r=jW c):([]:List (List C))++[r]=[c].map jW:=by subst h;rfl
theorem zcb (b1 b2:Nat) (X:Ob) (i:Int) (e:Eve) (he:e.ym=false):
  zb Tryz.prog 64 [obM b1 (jA yX (vI bk0.of_)) (vI bk0.of_).length,obM b2 (jA qh (vI bk0.busy)) (vI bk0.busy).length,⟨1,133,3,[[.lst 1 0 [],.v (.map (some b1)),.v (.map (some b2))]],0⟩,X] [.ref 2 [] 3 0 0,I i,.agg (zQ e)] (Bo false) [obM b1 (jA yX (vI bk0.of_)) (vI bk0.of_).length,obM b2 (jA qh (vI bk0.busy)) (vI bk0.busy).length,⟨1,133,3,[[.lst 1 0 [],.v (.map (some b1)),.v (.map (some b2))]],0⟩,X,⟨1,62,23,[zQ e],0⟩]:=by
 refine zb.zS (fn:=Tryz.f64) Tryz.func64 rfl (uH ?_);refine uE ?_;refine ⟨_,_,OpV.lookup (id:=0) _ _ _ rfl Tryz.underlying130 zn9 rfl rfl (e.zj,e.op) (fun E u h=>zdA h) rfl rfl (fun E=>by rw [zae];exact .v _ rfl),dd ?_⟩;refine ⟨fun h=>absurd ((he).symm.trans h:false=true) (by decide),fun _=>dd ?_⟩;refine uE ?_;refine ⟨fun _=>dd ?_,fun h=>absurd h (by rw [ze0];decide)⟩;exact uJ
theorem zdM (b1 b2:Nat) (X:Ob) (i:Int) (e:Eve) (he:e.ym=true):
  zb Tryz.prog 64 [obM b1 (jA yX (vI bk0.of_)) (vI bk0.of_).length,obM b2 (jA qh (vI bk0.busy)) (vI bk0.busy).length,⟨1,133,3,[[.lst 1 0 [],.v (.map (some b1)),.v (.map (some b2))]],0⟩,X] [.ref 2 [] 3 0 0,I i,.agg (zQ e)] (Bo true)
   (match jE bk0 i e with | some b=>[obM b1 (jA yX (vI b.of_)) (vI b.of_).length,obM b2 (jA qh (vI b.busy)) (vI b.busy).length,⟨1,133,3,[[.sl 5 [] 18 0 1 false,.v (.map (some b1)),.v (.map (some b2))]],0⟩,X,⟨1,62,23,[zQ e],0⟩,⟨2,69,18,(b.l).map jW,0⟩] | none=>[]):=by
 refine zb.zS (fn:=Tryz.f64) Tryz.func64 rfl (uH ?_);refine uE ?_;refine ⟨_,_,OpV.lookup (id:=0) _ _ _ rfl Tryz.underlying130 zn9 rfl rfl (e.zj,e.op) (fun E u h=>zdA h) rfl rfl (fun E=>by rw [zae];exact .v _ rfl),dd ?_⟩;refine ⟨fun _=>dd ?_,fun h=>absurd ((he).symm.trans h:true=false) (by decide)⟩;refine uE ?_;refine ⟨fun h=>absurd h (by rw [ze0];decide),fun _=>?_⟩
 ·refine dd ?_;refine ⟨_,_,OpV.lookup (id:=1) _ _ _ rfl Tryz.underlying131 zdR rfl rfl (e.zj) (fun E u h=>jz h) rfl rfl (fun E=>by rw [zae];exact .v _ rfl),dd ?_⟩;refine ⟨fun h=>absurd h (by rw [ze0];decide),fun _=>?_⟩
  ·have hno:¬(0 < yK bk0.of_ (e.zj,e.op)∨0 < yK bk0.busy e.zj):=by rw [ze0,ze0];decide
   obtain ⟨l0,hl0⟩:∃ l0:List Cal,l0=[⟨e.zj,e.op,i, -1, -1,vR⟩]:=⟨_,rfl⟩;have ev:jE bk0 i e=goV ⟨l0,ye bk0.of_ (e.zj,e.op) (1:Int),ye bk0.busy e.zj (1:Int)⟩ i e (1:Int):=by unfold jE;rw [if_pos he,if_neg hno,hl0];rfl
   have hbz:yK (ye bk0.busy e.zj (1:Int)) e.zj=1:=by rw [yF,if_pos rfl]
   obtain ⟨c,hce⟩:∃ c:Cal,c=⟨e.zj,e.op,i, -1, -1,vR⟩:=⟨_,rfl⟩
   have hc:l0[((1:Int) - 1).toNat]?= some c:=by
    have:((1:Int) - 1).toNat=0:=by omega
    rw [this,hl0,hce];simp
   rw [ev,zit (by rw [hbz];omega) hc];refine dd ?_;refine uE ?_;refine .inr ⟨.inl rfl,by simp [maxLen],by show _ * 144<=_;simp,dd ?_⟩;rw [zpj (c:=⟨e.zj,e.op,i, -1, -1,vR⟩)]
   rotate_left
   ·rfl
   rw [<- hl0];have e1:0+([].length (α:=List C)+1)=0+1:=rfl;refine .inl ⟨⟨false,[3,5,7,12,14],[2,4],[]⟩,by kernel_rfl,uH ?_⟩;refine ⟨_,_,OpV.mapEntry (id:=0) _ _ _ rfl Tryz.underlying130 zn9 rfl rfl ((e.zj,e.op)) (fun E u h=>zdA h) rfl rfl,dd ?_⟩;(refine ⟨rfl,rfl,dd ?_⟩)
   (obtain ⟨hi0,hset0⟩:=zfb (vI bk0.of_) (e.zj,e.op) (qh 0) (qh (1:Int)));(refine ⟨_,_,OpV.entryStore (id:=0) _ _ _ _ rfl rfl rfl rfl hi0 (qh (1:Int)) (fun E u h=>jz h),dd ?_⟩);(refine ⟨rfl,rfl,dd ?_⟩);rw [hset0,vn]
   refine ⟨_,_,OpV.mapEntry (id:=1) _ _ _ rfl Tryz.underlying131 zdR rfl rfl (e.zj) (fun E u h=>jz h) rfl rfl,dd ?_⟩;(refine ⟨rfl,rfl,dd ?_⟩)
   (obtain ⟨hi1,hset1⟩:=zfb (vI bk0.busy) e.zj (qh 0) (qh (1:Int)));(refine ⟨_,_,OpV.entryStore (id:=1) _ _ _ _ rfl rfl rfl rfl hi1 (qh (1:Int)) (fun E u h=>jz h),dd ?_⟩);(refine ⟨rfl,rfl,dd ?_⟩);rw [hset1,vn]
   refine uE ?_;refine ⟨fun h=>absurd h (by simp),fun _=>dd ?_⟩;refine ⟨_,_,OpV.lookup (id:=1) _ _ _ rfl Tryz.underlying131 zdR rfl rfl (e.zj) (fun E u h=>jz h) rfl rfl (fun E=>by rw [zae];exact .v _ rfl),dd ?_⟩;refine ⟨fun h=>absurd h (by rw [yF,if_pos rfl];simp),fun _=>dd ?_⟩;have ek:(((([]:List (List C)).length+(([]:List (List C)).length+1)):Nat):Int)=1:=by simp
   rw [ek,q0 (by omega) (by omega)];refine ⟨by omega,by simp,dd ?_⟩;generalize hN:((1:Int) - 1).toNat=n at *;refine ⟨fun h4=>?_,fun h4=>?_⟩
   ·refine dd ?_;rw [Nat.zero_add];refine ⟨_,xC hc,rfl,dd ?_⟩;obtain ⟨c1,e1⟩:∃ c1:Cal,c1=⟨c.zj,c.op,c.from_,i,c.to_,c.answer⟩:=⟨_,rfl⟩;rw [jT (l:=l0) (n:=n) (c:=c1)]
    rotate_left
    ·subst e1;rfl
    have hc1:=vU (c1:=c1) hc;generalize hL:l0.set n c1=l1 at *;have hmk:e.done=false->l0.set n (j8 e i c)=l1:=fun hd=>by rw [<- hL,e1];simp [j8,h4,hd]
    have hmd:e.done=true->l0.set n (j8 e i c)=l1.set n ⟨c1.zj,c1.op,c1.from_,c1.jq,i,e.answer⟩:=fun hd=>by rw [<- hL,List.set_set,e1];simp [j8,h4,hd]
    refine ⟨fun h5=>?_,fun h5=>?_⟩
    ·refine dd ?_;refine .inl ⟨⟨false,[4],[4],[]⟩,by kernel_rfl,uH ?_⟩;(try rw [Nat.zero_add]);(refine ⟨_,xC hc1,rfl,dd ?_⟩);(refine ⟨rfl,dd ?_⟩);(obtain ⟨c2,e2⟩:∃ c2:Cal,c2=⟨c1.zj,c1.op,c1.from_,c1.jq,i,c1.answer⟩:=⟨_,rfl⟩);rw [jT (l:=l1) (n:=n) (c:=c2)];(rotate_left;focus (subst e2;rfl));(have hc2:=vU (c1:=c2) hc1);(refine ⟨_,xC hc2,rfl,dd ?_⟩);(refine ⟨rfl,dd ?_⟩);rw [jT (l:=l1.set n c2) (n:=n) (c:=⟨c1.zj,c1.op,c1.from_,c1.jq,i,e.answer⟩)];(rotate_left;focus (subst e2;rfl));(rw [List.set_set]);refine uE ?_;refine ⟨_,_,OpV.mapUpdate (id:=1) _ _ _ _ (.inl rfl) Tryz.underlying131 zdR rfl rfl (e.zj) (fun E u h=>jz h) (qh 0) (fun E u h=>jz h),dd ?_⟩;rw [vn];(rw [hmd h5,if_pos h5]);exact uJ
    ·refine dd ?_;(rw [hmk h5,if_neg (by simp [h5])]);exact uJ
   ·have hmk:e.done=false->l0.set n (j8 e i c)=l0:=fun hd=>by
     have:j8 e i c=c:=by simp [j8,h4,hd]
     rw [this];exact zdp hc
    have hmd:e.done=true->l0.set n (j8 e i c)=l0.set n ⟨c.zj,c.op,c.from_,c.jq,i,e.answer⟩:=fun hd=>by simp [j8,h4,hd]
    refine dd ?_;refine ⟨fun h5=>?_,fun h5=>?_⟩
    ·refine dd ?_;refine .inl ⟨⟨false,[4],[4],[]⟩,by kernel_rfl,uH ?_⟩;(try rw [Nat.zero_add]);(refine ⟨_,xC hc,rfl,dd ?_⟩);(refine ⟨rfl,dd ?_⟩);(obtain ⟨c2,e2⟩:∃ c2:Cal,c2=⟨c.zj,c.op,c.from_,c.jq,i,c.answer⟩:=⟨_,rfl⟩);rw [jT (l:=l0) (n:=n) (c:=c2)];(rotate_left;focus (subst e2;rfl));(have hc2:=vU (c1:=c2) hc);(refine ⟨_,xC hc2,rfl,dd ?_⟩);(refine ⟨rfl,dd ?_⟩);rw [jT (l:=l0.set n c2) (n:=n) (c:=⟨c.zj,c.op,c.from_,c.jq,i,e.answer⟩)];(rotate_left;focus (subst e2;rfl));(rw [List.set_set]);refine uE ?_;refine ⟨_,_,OpV.mapUpdate (id:=1) _ _ _ _ (.inl rfl) Tryz.underlying131 zdR rfl rfl (e.zj) (fun E u h=>jz h) (qh 0) (fun E u h=>jz h),dd ?_⟩;rw [vn];(rw [hmd h5,if_pos h5]);exact uJ
    ·refine dd ?_;(rw [hmk h5,if_neg (by simp [h5])]);exact uJ
def zeT (l:List Eve):Nat->Option Bk
 | 0=>some bk0
 | k+1=>(zeT l k).bind fun b=>(l[k]?).bind fun e=>jE b k e
def bkD (l:List Eve) (k:Nat):Bk:=(zeT l k).getD bk0
def ofV (l:List Eve):List Cal × Int:=match zeT l l.length with
 | some b=>(b.l,0)
 | none=>([],11)
theorem zpp:bk0.ok:=⟨fun k=>⟨by rw [ze0];decide,by rw [ze0];decide⟩,fun k=>⟨by rw [ze0];decide,by rw [ze0];decide⟩⟩
theorem zbw {b b':Bk} {i:Int} {e:Eve} (hb:b.ok) (h:jE b i e=some b'):b'.l.length=b.l.length+(if e.ym then 1 else 0):=by
 unfold jE at h;split at h
 ·rename_i he;split at h
  ·cases h
  ·rw [(zmZ (yn hb) h).2,if_pos he];simp [qU]
 ·rename_i he;rw [(zmZ hb h).2,if_neg he];rfl
theorem zmR {l:List Eve}:∀ {k:Nat} {b:Bk},zeT l k=some b->b.ok∧b.l.length<=k
 | 0,b,h=>by cases h;exact ⟨zpp,Nat.le_refl _⟩
 | k+1,b,h=>by
  simp only [zeT] at h;cases h1:zeT l k with
  | none=>rw [h1] at h;cases h
  | some b0=>
   rw [h1] at h;obtain ⟨h2,h3⟩:=zmR h1;cases h4:l[k]? with
   | none=>rw [h4] at h;cases h
   | some e=>
    rw [h4] at h;refine ⟨zpF h2 h,?_⟩;rw [zbw h2 h];split <;> omega
theorem znA {l:List Eve} {k:Nat} (h:zeT l k=none):∀ m,k<=m->zeT l m=none:=by
 intro m hm
 induction m with
 | zero=>(have e:k=0:=by omega);subst e;exact h
 | succ m ih=>
  rcases Nat.lt_or_ge k (m+1) with h1 | h1
  ·simp only [zeT];rw [ih (by omega)];rfl
  ·have e:k=m+1:=by omega
   subst e;exact h
theorem zlm (i:Int) (e:Eve) (he:e.ym=true):∃ b,jE bk0 i e=some b:=by
 have hno:¬(0 < yK bk0.of_ (e.zj,e.op)∨0 < yK bk0.busy e.zj):=by rw [ze0,ze0];decide
 unfold jE;rw [if_pos he,if_neg hno];unfold goV;rw [if_neg]
 ·exact ⟨_,rfl⟩
 ·have:yK (qU bk0 i e).busy e.zj=1:=by simp only [qU,yF];simp
  rw [this];simp
abbrev tC (r:List Cal × Int):C:=.tup [zry r.1,I r.2]
theorem zqf (l:List Eve) (hl:l.length < 900000000000):zb Tryz.prog 27 [] [lEv l] (tC (ofV l)) []:=by
 have hlm:(l.map zQ).length=l.length:=List.length_map ..;refine zb.zp (fn:=Tryz.f27) Tryz.func27 rfl (uH ?_);intro b1;refine dd ?_;intro b2;refine dd ?_;rw [hlm];refine qf.seq l.length (fun k=>((lEv l)::.za::.lst 1 0 []::I 0::.ref 2 [] 3 0 0::.fn 64 [] []::.za::.za::.za::.za::.za::.za::(lEv l)::I l.length::I k::tY ([.za,.za,.za,.za,.za,.za,.za]))) (fun k=>(match k with | 0=>[obM b1 (jA yX (vI bk0.of_)) (vI bk0.of_).length,obM b2 (jA qh (vI bk0.busy)) (vI bk0.busy).length,⟨1,133,3,[[.lst 1 0 [],.v (.map (some b1)),.v (.map (some b2))]],0⟩] | j+1=>[obM b1 (jA yX (vI (bkD l (j+1)).of_)) (vI (bkD l (j+1)).of_).length,obM b2 (jA qh (vI (bkD l (j+1)).busy)) (vI (bkD l (j+1)).busy).length,⟨1,133,3,[[.sl 3 [] 18 0 (bkD l (j+1)).l.length false,.v (.map (some b1)),.v (.map (some b2))]],0⟩,⟨2,69,18,((bkD l (j+1)).l).map jW,0⟩])) (fun k=>∃ b,zeT l k=some b) ?_ ⟨_,rfl⟩ (fun k hk hr=>?_) (fun hr=>?_)
 ·exact cC
 ·obtain ⟨b,hb⟩:=hr;have hg:(l.map zQ)[k]?= some (zQ l[k]):=by rw [List.getElem?_map,List.getElem?_eq_getElem hk];rfl
  have hgl:l[k]?= some l[k]:=List.getElem?_eq_getElem hk;obtain ⟨o1,o2⟩:=zmR hb;have hnext:zeT l (k+1)=jE b k l[k]:=by simp only [zeT,hb,hgl];rfl
  have hbad:jE b k l[k]=none->ofV l=([],11):=fun h=>by
   have:=znA (l:=l) (k:=k+1) (by rw [hnext,h]) l.length (by omega);unfold ofV;rw [this]
  cases k with
  | zero=>
   cases hb
   conv=>whnf
   refine ⟨fun _=>uH ?_,fun h=>absurd hk (by simp at h;simp [h])⟩;refine ⟨by omega,_,hg,dd ?_⟩;by_cases he:l[0].ym=true
   rotate_left
   ·have he:l[0].ym=false:=by simpa using he
    have hev:jE bk0 0 l[0]=none:=by
     unfold jE;rw [if_neg (by simp [he])];exact zis (.inl (ze0 _))
    rw [hbad hev];refine ⟨_,_,zcb b1 b2 _ 0 l[0] he,dd ?_⟩;(repeat refine uC ?_)
    refine .inr ⟨by simp,uH ?_⟩;exact ⟨.inl rfl,_,zo.cell 2 rfl (WC.nil 0 18),rfl⟩
   ·refine ⟨_,_,zdM b1 b2 _ ((0:Nat):Int) l[0] he,?_⟩;refine dd ?_;(repeat refine uC ?_)
    obtain ⟨b,hev⟩:∃ b,jE bk0 ((0:Nat):Int) l[0]=some b:=zlm _ _ he;have e2:bkD l (0+1)=b:=by unfold bkD;rw [hnext,hev];rfl
    refine .inl ⟨rfl,?_,⟨b,by rw [hnext,hev]⟩⟩;have e3:b.l.length=1:=by rw [zbw zpp hev,if_pos he];rfl
    dsimp only;rw [hev,e2,e3,zA (by omega)];exact zo.ren [0,1,2,5] [0,2,3,4,5,12,13,14] _ _ rfl rfl rfl rfl
  | succ j=>
   have hD:bkD l (j+1)=b:=by unfold bkD;rw [hb];rfl
   dsimp only;rw [hD];conv=>whnf
   refine ⟨fun _=>uH ?_,fun h=>absurd h (by simp;omega)⟩;refine ⟨by omega,_,by rw [toNat_cast];exact hg,dd ?_⟩;by_cases he:l[j+1].ym=true
   rotate_left
   ·have he:l[j+1].ym=false:=by simpa using he
    refine ⟨_,_,zgR b1 b2 b o1 (by omega) _ ((j+1:Nat):Int) l[j+1] he,?_⟩;cases hev:jE b ((j+1:Nat):Int) l[j+1] with
    | none=>
     rw [hbad hev];refine dd ?_;(repeat refine uC ?_)
     refine .inr ⟨by simp,uH ?_⟩;exact ⟨.inl rfl,_,zo.cell 2 rfl (WC.nil 0 18),rfl⟩
    | some b'=>
     refine dd ?_;(first | (refine ⟨fun _=>?_,?_⟩;rotate_left 1;(focus (intro h;simp at h;done));(refine dd ?_)) | (refine ⟨?_,fun _=>?_⟩;(focus (intro h;simp at h;done));(refine dd ?_)))
     have e2:bkD l (j+1+1)=b':=by unfold bkD;rw [hnext,hev];rfl
     have e3:b'.l.length=b.l.length:=by rw [zbw o1 hev,if_neg (by simp [he])];rfl
     refine .inl ⟨rfl,?_,⟨b',by rw [hnext,hev]⟩⟩;dsimp only;rw [e2,e3,zA (by omega)];exact cE 4
   ·refine ⟨_,_,zdL b1 b2 b o1 (by omega) _ ((j+1:Nat):Int) l[j+1] he,?_⟩;cases hev:jE b ((j+1:Nat):Int) l[j+1] with
    | none=>
     rw [hbad hev];refine dd ?_;(repeat refine uC ?_)
     refine .inr ⟨by simp,uH ?_⟩;exact ⟨.inl rfl,_,zo.cell 2 rfl (WC.nil 0 18),rfl⟩
    | some b'=>
     refine dd ?_;(first | (refine ⟨fun _=>?_,?_⟩;rotate_left 1;(focus (intro h;simp at h;done));(refine dd ?_)) | (refine ⟨?_,fun _=>?_⟩;(focus (intro h;simp at h;done));(refine dd ?_)))
     have e2:bkD l (j+1+1)=b':=by unfold bkD;rw [hnext,hev];rfl
     have e3:b'.l.length=b.l.length+1:=by rw [zbw o1 hev,if_pos he]
     refine .inl ⟨rfl,?_,⟨b',by rw [hnext,hev]⟩⟩;dsimp only;rw [e2,e3,zA (by omega)];exact zo.ren [0,1,2,6] [0,2,3,4,5,12,13,14] _ _ rfl rfl rfl rfl
 ·obtain ⟨b,hb⟩:=hr;have e1:ofV l=(b.l,0):=by unfold ofV;rw [hb]
  rw [e1];cases hN:l.length with
  | zero=>
   rw [hN] at hb;cases hb
   conv=>whnf
   refine ⟨fun h=>absurd h (by simp),fun _=>uH ?_⟩;refine ⟨by simp,uH ?_⟩;exact ⟨.inl rfl,_,zo.cell 2 rfl (WC.nil 0 18),rfl⟩
  | succ j=>
   have hD:bkD l (j+1)=b:=by unfold bkD;rw [<- hN,hb];rfl
   dsimp only;rw [hD];conv=>whnf
   refine ⟨fun h=>absurd h (by simp),fun _=>uH ?_⟩;refine ⟨by simp,uH ?_⟩
   exact ⟨.inl rfl,_,zo.zir 2 rfl rfl (by simp) (fun r hr c hc=>by
    obtain ⟨x,_,rfl⟩:=List.mem_map.1 hr;exact List.all_eq_true.1 (List.all_eq_true.1 (zmV b.l) _ hr) c hc),rfl⟩
end Go.Cal
