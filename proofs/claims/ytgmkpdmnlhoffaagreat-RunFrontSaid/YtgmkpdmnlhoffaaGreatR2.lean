import Derived.Test.YtgmkpdmnlhoffaaGreatRJ
import Derived.Test.YtgmkpdmnlhoffaaGreatProg
set_option linter.all false
set_option maxRecDepth 100000
set_option maxHeartbeats 4000000
namespace Go.Ab
section
variable {B:Nat} {s:S}
theorem zo.ztQ (vid i k:Nat) (ty':TypeId) (sz':Nat) {vty:TypeId} {vsz sz0:Nat} {r:List C} {vrows rows:List (List C)} (hv:s.H[vid]?= some ⟨1,vty,vsz,vrows,0⟩) (hr:vrows[i]?= some r) (hk:r[k]?= some (.lst 1 sz0 rows)) (hz:rows=[]∨sz'=sz0)
  (hno:∀ r ∈ vrows,∀ c ∈ r,zx c=true):
  zo B s ⟨s.tmps,s.H.set vid ⟨1,vty,vsz,vrows.set i (r.set k (.gl s.H.length sz' rows)),0⟩++[⟨4,ty',sz',rows,0⟩]⟩:=fun m w E a hs=>by
 obtain ⟨cur,e,h3,h4,h5⟩:=(hs.heap.base.blk _ _ _ _ _ hv (wx hv (.inl rfl))).blk;obtain ⟨u,hu,ho⟩:=h5 i k _ (show cellAt vrows i k=some (.lst 1 sz0 rows) by unfold cellAt;rw [hr];exact hk);rw [qN.loose rfl] at ho;have hl:L E (.lst 1 sz0 rows) u:=by simpa [Env.at] using ho.1
 obtain ⟨E1,hh1,hl1,g1⟩:=hs.heap.zbx hl ty' hz;have hlt:vid < s.H.length:=(List.getElem?_eq_some_iff.1 hv).1;have hob1:(s.H++[⟨4,ty',sz',rows,0⟩])[vid]?= some ⟨1,vty,vsz,vrows,0⟩:=by rw [List.getElem?_append_left hlt];exact hv
 have hrow:=hh1.rowsOf hob1 (.inl rfl);have hβ:E1.β vid []=E.β vid []:=g1.le.β vid [] (by rw [hs.heap.n];exact hlt)
 have hcu:w.cell? ⟨E1.β vid [],i * vsz+k,none⟩=some u:=by
  unfold World.cell?;rw [hβ,h3];simpa using hu
 have hin:=List.mem_of_getElem? hr
 obtain ⟨hR,g2⟩:=hh1.zcs hob1 (.inl rfl) (ob':=⟨1,vty,vsz,vrows.set i (r.set k (.gl s.H.length sz' rows)),0⟩) (.inl rfl) (fun h=>by cases h) rfl rfl (by simp) (fun q hq=>by
   rcases List.mem_or_eq_of_mem_set hq with h | rfl
   ·exact hrow q h
   ·simpa using hrow r hin) hno (fun q hq c hc=>by
   rcases List.mem_or_eq_of_mem_set hq with h | rfl
   ·exact hno q h c hc
   ·rcases List.mem_or_eq_of_mem_set hc with h | rfl
    ·exact hno r hin c h
    ·rfl) fun i' k' c c' v e1 e2 hl' hv'=>by
  have hat:∀ X:Env,X.at 1=X:=fun X=>by simp [Env.at]
  rw [hat] at hl' ⊢;unfold cellAt at e1 e2;rw [List.getElem?_set] at e2;split at e2
  ·rename_i e;subst e;split at e2
   ·simp only [Option.bind_some] at e2;rw [hr] at e1;simp only [Option.bind_some] at e1;rw [List.getElem?_set] at e2;split at e2
    ·rename_i e;subst e;split at e2
     ·cases e2
      rw [hcu] at hv';cases hv'
      exact hl1
     ·cases e2
    ·rw [e1] at e2;cases e2
     exact hl'
   ·cases e2
  ·rw [e1] at e2;cases e2
   exact hl'
 rw [List.set_append_left _ _ hlt] at hR g2;have g:=g1.trans g2;exact ⟨E1,⟨hR,hs.tmps.mono g.le,hs.defers.grow hs.heap g,by have:=hs.base;simp;omega⟩,g.toB tB⟩
theorem zo.zrv (ty':TypeId) (sz':Nat):zo B s ⟨s.tmps,s.H++[⟨4,ty',sz',[],0⟩]⟩:=fun m w E a hs=>by
 obtain ⟨E1,hh1,hl1,g1⟩:=hs.heap.zbx (L.xd (E:=E) 1 0 (.inr rfl)) ty' (sz':=sz') (.inl rfl);exact ⟨E1,⟨hh1,hs.tmps.mono g1.le,hs.defers.grow hs.heap g1,by have:=hs.base;simp;omega⟩,g1.toB tB⟩
def xD (n0 k sz' j:Nat) (vrows:List (List C)):List (List C):=vrows.mapIdx fun i r=>if i < j then r.set k (.gl (n0+i) sz' []) else r
theorem zo.zm0 (vid k:Nat) (ty':TypeId) (sz':Nat) {vty:TypeId} {vsz sz0:Nat} {vrows:List (List C)} (hv:s.H[vid]?= some ⟨1,vty,vsz,vrows,0⟩) (hk:∀ r ∈ vrows,r[k]?= some (.lst 1 sz0 [])) (hno:∀ r ∈ vrows,∀ c ∈ r,zx c=true):
  ∀ j:Nat,zo B s ⟨s.tmps,s.H.set vid ⟨1,vty,vsz,xD s.H.length k sz' j vrows,0⟩++List.replicate j (⟨4,ty',sz',[],0⟩:Ob)⟩
 | 0=>by
  have e:xD s.H.length k sz' 0 vrows=vrows:=by
   unfold xD;rw [List.mapIdx_eq_iff];intro i;simp
  have e2:s.H.set vid ⟨1,vty,vsz,vrows,0⟩=s.H:=by
   obtain ⟨h1,h2⟩:=List.getElem?_eq_some_iff.1 hv;rw [<- h2];exact List.set_getElem_self h1
  rw [e,e2];simpa using zo.refl s
 | j+1=>by
  have hlt:vid < s.H.length:=(List.getElem?_eq_some_iff.1 hv).1;refine (zo.zm0 vid k ty' sz' hv hk hno j).trans ?_;have el:(s.H.set vid ⟨1,vty,vsz,xD s.H.length k sz' j vrows,0⟩++List.replicate j (⟨4,ty',sz',[],0⟩:Ob)).length=s.H.length+j:=by simp
  have hv':(s.H.set vid ⟨1,vty,vsz,xD s.H.length k sz' j vrows,0⟩++List.replicate j (⟨4,ty',sz',[],0⟩:Ob))[vid]?= some ⟨1,vty,vsz,xD s.H.length k sz' j vrows,0⟩:=by
   rw [List.getElem?_append_left (by simpa using hlt),List.getElem?_set_self hlt]
  have er:List.replicate (j+1) (⟨4,ty',sz',[],0⟩:Ob)=List.replicate j (⟨4,ty',sz',[],0⟩:Ob)++[⟨4,ty',sz',[],0⟩]:=List.replicate_succ';by_cases hj:j < vrows.length
  ·have hr:(xD s.H.length k sz' j vrows)[j]?= some vrows[j]:=by
    unfold xD;rw [List.getElem?_mapIdx,List.getElem?_eq_getElem hj];simp
   have w:=zo.ztQ (B:=B) (s:=⟨s.tmps,s.H.set vid ⟨1,vty,vsz,xD s.H.length k sz' j vrows,0⟩++List.replicate j (⟨4,ty',sz',[],0⟩:Ob)⟩) vid j k ty' sz' hv' hr (hk _ (List.getElem_mem hj)) (.inl rfl) fun r hr c hc=>by
    unfold xD at hr;obtain ⟨i,hi,e⟩:=List.mem_mapIdx.1 hr;split at e
    ·rw [<- e] at hc;rcases List.mem_or_eq_of_mem_set hc with h | rfl
     ·exact hno _ (List.getElem_mem hi) c h
     ·rfl
    ·rw [<- e] at hc;exact hno _ (List.getElem_mem hi) c hc
   have e3:(xD s.H.length k sz' j vrows).set j (vrows[j].set k (.gl (s.H.length+j) sz' []))=xD s.H.length k sz' (j+1) vrows:=by
    unfold xD;refine List.ext_getElem? fun i=>?_
    rw [List.getElem?_set,List.getElem?_mapIdx,List.getElem?_mapIdx];by_cases hi:j=i
    ·subst hi;rw [if_pos rfl,if_pos (by simpa using hj),List.getElem?_eq_getElem hj];simp
    ·rw [if_neg hi];cases vrows[i]? with
     | none=>rfl
     | some r=>
      by_cases h2:i < j
      ·simp [h2,show i < j+1 by omega]
      ·simp [h2,show ¬i < j+1 by omega]
   rw [er,<- e3];dsimp only at w;rw [el,List.set_append_left _ _ (by simpa using hlt),List.set_set] at w;rw [<- List.append_assoc];exact w
  ·have e3:xD s.H.length k sz' (j+1) vrows=xD s.H.length k sz' j vrows:=by
    unfold xD;refine List.ext_getElem? fun i=>?_
    rw [List.getElem?_mapIdx,List.getElem?_mapIdx];cases hi:vrows[i]? with
    | none=>rfl
    | some r=>
     have:=(List.getElem?_eq_some_iff.1 hi).1;simp [show i < j by omega,show i < j+1 by omega]
   rw [er,e3,<- List.append_assoc];exact zo.zrv (B:=B) (s:=⟨s.tmps,s.H.set vid ⟨1,vty,vsz,xD s.H.length k sz' j vrows,0⟩++List.replicate j (⟨4,ty',sz',[],0⟩:Ob)⟩) ty' sz'
theorem zo.zub (vid:Nat) {vty:TypeId} {vsz:Nat} {rows rows':List (List C)} (hv:s.H[vid]?= some ⟨1,vty,vsz,rows,0⟩) (hl:rows'.length=rows.length) (hw:∀ (i:Nat) r r',rows[i]?= some r->rows'[i]?= some r'->WCs r r')
  (hno:∀ r ∈ rows,∀ c ∈ r,zx c=true) (hno':∀ r ∈ rows',∀ c ∈ r,zx c=true):zo B s ⟨s.tmps,s.H.set vid ⟨1,vty,vsz,rows',0⟩⟩:=fun m w E a hs=>by
 have hrow:=hs.heap.rowsOf hv (.inl rfl)
 have hlen:∀ {a b:List C},WCs a b->b.length=a.length:=by
  intro a b h
  induction h with
  | nil=>rfl
  | cons _ _ ih=>simp [ih]
 have hget:∀ {a b:List C},WCs a b->∀ (k:Nat) c c',a[k]?= some c->b[k]?= some c'->WC c c':=by
  intro a b h
  induction h with
  | nil=>intro k c c' h;simp at h
  | cons h1 _ ih=>
   intro k c c' e1 e2;cases k with
   | zero=>simp at e1 e2;subst e1 e2;exact h1
   | succ k=>exact ih k c c' (by simpa using e1) uY
 obtain ⟨hR,g⟩:=hs.heap.zcs hv (.inl rfl) (ob':=⟨1,vty,vsz,rows',0⟩) (.inl rfl) (fun h=>by cases h) rfl rfl hl (fun r hr=>by
   obtain ⟨i,hi⟩:=List.mem_iff_getElem?.1 hr;obtain ⟨r0,h0⟩:∃ r0,rows[i]?= some r0:=⟨_,List.getElem?_eq_getElem (by have q:=(List.getElem?_eq_some_iff.1 hi).1;have q:i < rows'.length:=q;omega)⟩;rw [hlen (hw i r0 r h0 hi)];exact hrow r0 (List.mem_of_getElem? h0)) hno hno' fun i k c c' v e1 e2 hl' _=>by
  unfold cellAt at e1 e2;cases h1:rows[i]? with
  | none=>rw [h1] at e1;cases e1
  | some r=>
   cases h2:rows'[i]? with
   | none=>rw [h2] at e2;cases e2
   | some r'=>
    rw [h1] at e1;rw [h2] at e2;exact hget (hw i r r' h1 h2) k c c' e1 e2 _ v hl'
 exact ⟨E,⟨hR,hs.tmps,hs.defers,by simpa using hs.base⟩,g.toB tB⟩
end
end Go.Ab
namespace Go.Wor
open Go.Hy
structure Thr where
 ops:List Opn
 done:Nat
 on:Bool
 m:Mac
 given:List Ans
abbrev zsy:Mac:=⟨⟨0,[],[],[],0,0,0,⟨[],[],[]⟩⟩,0,0,0,0,0,0,0,0,0,0,0,0,0,0,false,⟨0,0,0,0,0,0,0,⟨0,0,0,0,0,0⟩⟩,⟨0,0,0,0,0,0⟩⟩
def zbi (ops:List Opn):Thr:=⟨ops,0,false,zsy,[]⟩
def qx (X:List Thr):Nat->List Nat
 | 0=>[]
 | k+1=>match X[k]? with
  | some x=>if x.ops.length<=x.done then qx X k else qx X k++[k]
  | none=>qx X k
def xu (x:Thr) (m:Mac):Thr:=if m.done then ⟨x.ops,x.done+1,false,m,x.given++[m.answer]⟩ else ⟨x.ops,x.done,true,m,x.given⟩
end Go.Wor
namespace Go.Ply
open Go.Ab Go.Proofs Go.Hy Go.Wor
def ql (b i:Nat) (x:Thr):List C:=lP x.ops::I (x.done:Int)::Bo x.on::(zD x.m++[.gl (b+i) 13 (x.given.map j6)])
def zeA (x:Thr):Bool:=decide (x.ops.length<=x.done)
abbrev znK:Eve:=⟨0,0,0,0,0,false,0,false,false,false,⟨0,0,0,0,0,0,0,⟨0,0,0,0,0,0⟩⟩⟩
def yO (X:List Thr) (i:Nat):List Ans:=match X[i]? with
 | some x=>x.given
 | none=>[]
abbrev gro (X:List Thr) (i:Nat):Ob:=⟨4,57,13,(yO X i).map j6,0⟩
abbrev zb5 (b:Nat) (X:List Thr):Ob:=⟨1,0,48,X.mapIdx (ql b),0⟩
abbrev zar (b:Nat) (X:List Thr):zk:=[zb5 b X,gro X 0,gro X 1,gro X 2,gro X 3,gro X 4,gro X 5,gro X 6,gro X 7]
theorem zjP (b i n:Nat) (x:Thr) (h:b+i < n):∀ c ∈ ql b i x,qS n 9 c=true:=by
 have e:(ql b i x).all (qS n 9)=(decide (b+i < n) && true):=rfl;exact List.all_eq_true.1 (e.trans (by simp [h]))
theorem zqm (b i:Nat) (x:Thr):∀ c ∈ ql b i x,zx c=true:=by
 have e:(ql b i x).all zx=true:=rfl;exact List.all_eq_true.1 e
theorem kZ {X:List Thr} {b n t:Nat} {row:List C} (h:b+8<=n) (hX:X.length<=8) (hw:row.all (qS n 9)=true):∀ r ∈ (X.mapIdx (ql b)).set t row,∀ c ∈ r,qS n 9 c=true:=fun r hr=>by
 rcases List.mem_or_eq_of_mem_set hr with hr | rfl
 ·obtain ⟨i,hi,rfl⟩:=List.mem_mapIdx.1 hr;exact zjP b i n _ (by omega)
 ·exact List.all_eq_true.1 hw
theorem zl2 (A0 A1 A2:Ob) (H:zk) (rows:List (List C)) (t:Nat) (ops:List Opn) (d:Int) (tl:List C) (hr:rows[t]?= some (lP ops::I d::tl)):
  zb Tryz.prog 84 (A0::A1::A2::⟨1,0,48,rows,0⟩::H) [.ref 3 [] 48 t 0] (Bo (decide (ops.length<=d))) (A0::A1::A2::⟨1,0,48,rows,0⟩::H):=by
 have ml:(ops.map y5).length=ops.length:=List.length_map ..;refine zb.zS (fn:=Tryz.f84) Tryz.func84 rfl (uH ?_);refine uE ?_;refine ⟨_,hr,by show 1+1<=tl.length+1+1;omega,dd ?_⟩;refine ⟨_,hr,by show 0+1<=tl.length+1+1;omega,dd ?_⟩;rw [ml];refine ⟨fun h=>?_,fun h=>?_⟩
 ·rw [show decide ((ops.length:Int)<=d)=true from h];refine dd ?_;exact uJ
 ·rw [show decide ((ops.length:Int)<=d)=false from h];refine dd ?_;exact uJ
theorem ziB (X:List Thr) (b:Nat) (fu:Bool) (A0 A1 A2 A4 A5 A6 A7 A8 A9 A10 A11 A12 A13:Ob):zb Tryz.prog 41 (A0::A1::A2::⟨1,0,48,X.mapIdx (ql b),0⟩::A4::A5::A6::A7::A8::A9::A10::A11::A12::[A13]) [.sl 3 [] 48 0 X.length fu] (.fn 83 [] [.ref 14 [] 1 0 0]) (A0::A1::A2::⟨1,0,48,X.mapIdx (ql b),0⟩::A4::A5::A6::A7::A8::A9::A10::A11::A12::[A13,⟨1,93,1,[[.sl 3 [] 48 0 X.length fu]],0⟩]):=by
 refine zb.zS (fn:=Tryz.f41) Tryz.func41 rfl (uH ?_);exact uJ
theorem zgY (l:Nat) (X:List Thr) (b:Nat) (fu:Bool) (hl:X.length < 1000) (A0 A1 A2 A4 A5 A6 A7 A8 A9 A10 A11 A12:Ob) (Z:Nat->Ob) (Y:Nat->List Ob)
  (hy:∀ k x,X[k]?= some x->zeA x=false->jh Tryz.prog l (A0::A1::A2::⟨1,0,48,X.mapIdx (ql b),0⟩::A4::A5::A6::A7::A8::A9::A10::A11::A12::Z k::⟨1,93,1,[[.sl 3 [] 48 0 X.length fu]],0⟩::Y k) [I k] (Bo true) (A0::A1::A2::⟨1,0,48,X.mapIdx (ql b),0⟩::A4::A5::A6::A7::A8::A9::A10::A11::A12::Z (k+1)::⟨1,93,1,[[.sl 3 [] 48 0 X.length fu]],0⟩::Y (k+1))) (hn:∀ k x,X[k]?= some x->zeA x=true->Z (k+1)=Z k∧Y (k+1)=Y k):
  zb Tryz.prog 83 (A0::A1::A2::⟨1,0,48,X.mapIdx (ql b),0⟩::A4::A5::A6::A7::A8::A9::A10::A11::A12::Z 0::⟨1,93,1,[[.sl 3 [] 48 0 X.length fu]],0⟩::Y 0) [.v (.func (.yield l) #[] #[]),.ref 14 [] 1 0 0] (.tup []) (A0::A1::A2::⟨1,0,48,X.mapIdx (ql b),0⟩::A4::A5::A6::A7::A8::A9::A10::A11::A12::Z X.length::⟨1,93,1,[[.sl 3 [] 48 0 X.length fu]],0⟩::Y X.length):=by
 refine zb.zS (fn:=Tryz.f83) Tryz.func83 rfl (uH ?_);refine qf.seq X.length (fun k=>(.v (.func (.yield l) #[] #[])::.ref 14 [] 1 0 0::.za::.za::.sl 3 [] 48 0 X.length fu::I X.length::I k::tY ([.za,.za,.za,.za,.za,.za,.za]))) (fun k=>A0::A1::A2::⟨1,0,48,X.mapIdx (ql b),0⟩::A4::A5::A6::A7::A8::A9::A10::A11::A12::Z k::⟨1,93,1,[[.sl 3 [] 48 0 X.length fu]],0⟩::Y k) (fun k=>True) ?_ trivial (fun k hk hr=>?_) (fun hr=>?_)
 ·exact cC
 ·have hx:X[k]?= some X[k]:=List.getElem?_eq_getElem hk;have hg:(X.mapIdx (ql b))[k]?= some (ql b k X[k]):=by rw [List.getElem?_mapIdx,hx];rfl
  have ov:=zl2 A0 A1 A2 (A4::A5::A6::A7::A8::A9::A10::A11::A12::Z k::⟨1,93,1,[[.sl 3 [] 48 0 X.length fu]],0⟩::Y k) (X.mapIdx (ql b)) k X[k].ops X[k].done _ hg;conv=>whnf
  refine uF ?_;refine ⟨by omega,by rw [toNat_cast];exact hk,dd ?_⟩;rw [show 0+((k:Int)).toNat=k from by simp];refine ⟨_,_,ov,dd ?_⟩;have eo:decide ((X[k].ops.length:Int)<=(X[k].done:Int))=zeA X[k]:=by unfold zeA;simp
  refine ⟨fun h=>?_,fun h=>?_⟩
  ·have ho:=eo.symm.trans h;obtain ⟨e1,e2⟩:=hn k _ hx ho;refine dd ?_;(repeat refine uC ?_)
   refine .inl ⟨rfl,?_,trivial⟩;rw [zA (by omega),e1,e2];exact cC
  ·have ho:=eo.symm.trans h;refine dd ?_;(repeat refine uC ?_)
   refine ⟨_,_,hy k _ hx ho,dd ?_⟩;(repeat refine uC ?_)
   refine .inl ⟨rfl,?_,trivial⟩;rw [zA (by omega)];exact cC
 ·refine uD ?_;exact ⟨.inr rfl,_,.refl _,rfl,rfl⟩
def hp9 (X:List Thr) (a o:Ob) (tl:List Ob):Nat->zk
 | 0=>a::o::gro X 1::gro X 2::gro X 3::gro X 4::gro X 5::gro X 6::gro X 7::tl
 | 1=>a::gro X 0::o::gro X 2::gro X 3::gro X 4::gro X 5::gro X 6::gro X 7::tl
 | 2=>a::gro X 0::gro X 1::o::gro X 3::gro X 4::gro X 5::gro X 6::gro X 7::tl
 | 3=>a::gro X 0::gro X 1::gro X 2::o::gro X 4::gro X 5::gro X 6::gro X 7::tl
 | 4=>a::gro X 0::gro X 1::gro X 2::gro X 3::o::gro X 5::gro X 6::gro X 7::tl
 | 5=>a::gro X 0::gro X 1::gro X 2::gro X 3::gro X 4::o::gro X 6::gro X 7::tl
 | 6=>a::gro X 0::gro X 1::gro X 2::gro X 3::gro X 4::gro X 5::o::gro X 7::tl
 | _=>a::gro X 0::gro X 1::gro X 2::gro X 3::gro X 4::gro X 5::gro X 6::o::tl
abbrev zfP (l:List Ans):Ob:=⟨4,57,13,l.map j6,0⟩
theorem eight {t:Nat} (h:t < 8):t=0∨t=1∨t=2∨t=3∨t=4∨t=5∨t=6∨t=7:=by omega
theorem zpW (X:List Thr) {t:Nat} (h:t < 8):zar 1 X=hp9 X (zb5 1 X) (zfP (yO X t)) [] t:=by
 rcases eight h with rfl | rfl | rfl | rfl | rfl | rfl | rfl | rfl <;> rfl
end Go.Ply
