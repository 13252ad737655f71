import Derived.Test.YtkbnjgogjccmfaaGreatTJ
import Derived.Test.YtkbnjgogjccmfaaGreatProg
set_option linter.all false
set_option maxRecDepth 100000
set_option maxHeartbeats 4000000
namespace Go.Ab
section
variable {B:Nat} {s:S}
def zo.V9 (vid i k:Nat) (ty':TypeId) (sz':Nat) {vty:TypeId} {vsz sz0:Nat} {r:List C} {vrows rows:List (List C)} (hv:s.H[vid]?= some ⟨1,vty,vsz,vrows,0⟩) (hr:vrows[i]?= some r) (hk:r[k]?= some (.uv 1 sz0 rows)) (hz:rows=[]∨sz'=sz0)
  (hno:∀ r ∈ vrows,∀ c ∈ r,zy c=true):
  zo B s ⟨s.tmps,s.H.set vid ⟨1,vty,vsz,vrows.set i (r.set k (.gl s.H.length sz' rows)),0⟩++[⟨4,ty',sz',rows,0⟩]⟩:=fun m w E a hs=>by
 obtain ⟨cur,e,h3,h4,h5⟩:=(hs.heap.base.u9 _ _ _ _ _ hv (BL hv (.inl rfl))).u9;obtain ⟨u,hu,ho⟩:=h5 i k _ (show cellAt vrows i k=some (.uv 1 sz0 rows) by unfold cellAt;rw [hr];exact hk);rw [qT.loose rfl] at ho;have hl:L E (.uv 1 sz0 rows) u:=aF
 obtain ⟨E1,hh1,hl1,g1⟩:=hs.heap.Dc hl ty' hz;have ux:vid < s.H.length:=(dL.1 hv).1;have hob1:(s.H++[⟨4,ty',sz',rows,0⟩])[vid]?= some ⟨1,vty,vsz,vrows,0⟩:=by rw [dT ux];exact hv
 have hrow:=hh1.rowsOf hob1 (.inl rfl);have hβ:E1.β vid []=E.β vid []:=g1.le.β vid [] (by rw [hs.heap.n];exact ux)
 have hcu:w.cell? ⟨E1.β vid [],i * vsz+k,none⟩=some u:=by
  unfold World.cell?;rw [hβ,h3];simpa using hu
 have hin:=dO hr
 obtain ⟨hR,g2⟩:=hh1.Aj hob1 (.inl rfl) (ob':=⟨1,vty,vsz,vrows.set i (r.set k (.gl s.H.length sz' rows)),0⟩) (.inl rfl) (fun h=>by cases h) rfl rfl aj (fun q hq=>by
   rcases pd hq with h | rfl
   ·exact hrow q h
   ·simpa using hrow r hin) hno (fun q hq c hc=>by
   rcases pd hq with h | rfl
   ·exact hno q h c hc
   ·rcases pd hc with h | rfl
    ·exact hno r hin c h
    ·rfl) fun i' k' c c' v e1 e2 hl' hv'=>by
  have hat:∀ X:Env,X.at 1=X:=fun X=>by simp [Env.at]
  rw [hat] at hl' ⊢;unfold cellAt at e1 e2;rw [dY] at e2;split at e2
  ·rename_i e;subst e;split at e2
   ·simp only [gz] at e2;rw [hr] at e1;simp only [gz] at e1;rw [dY] at e2;split at e2
    ·rename_i e;subst e;split at e2
     ·cases e2
      rw [hcu] at hv';cases hv'
      exact hl1
     ·cases e2
    ·rw [e1] at e2;cases e2
     exact hl'
   ·cases e2
  ·rw [e1] at e2;cases e2
   exact hl'
 rw [sZ _ _ ux] at hR g2;exact c8
def zo.TZ (ty':TypeId) (sz':Nat):zo B s ⟨s.tmps,s.H++[⟨4,ty',sz',[],0⟩]⟩:=fun m w E a hs=>by
 obtain ⟨E1,hh1,hl1,g1⟩:=hs.heap.Dc (L.xt (E:=E) 1 0 (.inr rfl)) ty' (sz':=sz') (.inl rfl);exact ⟨E1,⟨hh1,hs.tmps.mono g1.le,hs.defers.grow hs.heap g1,aG⟩,g1.fA tB⟩
def xX (n0 k sz' j:Nat) (vrows:List (List C)):List (List C):=vrows.mapIdx fun i r=>if i < j then r.set k (.gl (n0+i) sz' []) else r
def zo.LA (vid k:Nat) (ty':TypeId) (sz':Nat) {vty:TypeId} {vsz sz0:Nat} {vrows:List (List C)} (hv:s.H[vid]?= some ⟨1,vty,vsz,vrows,0⟩) (hk:∀ r ∈ vrows,r[k]?= some (.uv 1 sz0 [])) (hno:∀ r ∈ vrows,∀ c ∈ r,zy c=true):
  ∀ j:Nat,zo B s ⟨s.tmps,s.H.set vid ⟨1,vty,vsz,xX s.H.length k sz' j vrows,0⟩++List.replicate j (⟨4,ty',sz',[],0⟩:Ob)⟩
 | 0=>by
  have e:xX s.H.length k sz' 0 vrows=vrows:=by
   unfold xX;rw [List.mapIdx_eq_iff];intro i;simp
  have e2:s.H.set vid ⟨1,vty,vsz,vrows,0⟩=s.H:=by
   obtain ⟨h1,h2⟩:=dL.1 hv;rw [<- h2];exact List.set_getElem_self h1
  rw [e,e2];simpa using zo.refl s
 | j+1=>by
  have ux:vid < s.H.length:=(dL.1 hv).1;refine (zo.LA vid k ty' sz' hv hk hno j).trans ?_;have el:(s.H.set vid ⟨1,vty,vsz,xX s.H.length k sz' j vrows,0⟩++List.replicate j (⟨4,ty',sz',[],0⟩:Ob)).length=s.H.length+j:=aj
  have hv':(s.H.set vid ⟨1,vty,vsz,xX s.H.length k sz' j vrows,0⟩++List.replicate j (⟨4,ty',sz',[],0⟩:Ob))[vid]?= some ⟨1,vty,vsz,xX s.H.length k sz' j vrows,0⟩:=by
   rw [dT (aq ux),dS ux]
  have er:List.replicate (j+1) (⟨4,ty',sz',[],0⟩:Ob)=List.replicate j (⟨4,ty',sz',[],0⟩:Ob)++[⟨4,ty',sz',[],0⟩]:=tp;by_cases hj:j < vrows.length
  ·have hr:(xX s.H.length k sz' j vrows)[j]?= some vrows[j]:=by
    unfold xX;rw [pb,dM hj];simp
   have w:=zo.V9 (B:=B) (s:=⟨s.tmps,s.H.set vid ⟨1,vty,vsz,xX s.H.length k sz' j vrows,0⟩++List.replicate j (⟨4,ty',sz',[],0⟩:Ob)⟩) vid j k ty' sz' hv' hr (hk _ (gQ hj)) (.inl rfl) fun r hr c hc=>by
    unfold xX at hr;obtain ⟨i,hi,e⟩:=tq.1 hr;split at e
    ·rw [<- e] at hc;rcases pd hc with h | rfl
     ·exact hno _ (gQ hi) c h
     ·rfl
    ·rw [<- e] at hc;exact hno _ (gQ hi) c hc
   have e3:(xX s.H.length k sz' j vrows).set j (vrows[j].set k (.gl (s.H.length+j) sz' []))=xX s.H.length k sz' (j+1) vrows:=by
    unfold xX;refine g9 fun i=>?_
    rw [dY,pb,pb];by_cases hi:j=i
    ·subst hi;rw [dQ rfl,dQ (aq hj),dM hj];simp
    ·rw [dN hi];cases vrows[i]? with
     | none=>rfl
     | some r=>
      by_cases h2:i < j
      ·simp [h2,show i < j+1 by omega]
      ·simp [h2,show ¬i < j+1 by omega]
   rw [er,<- e3];dsimp only at w;rw [el,sZ _ _ (aq ux),gF] at w;rw [<- pQ];exact w
  ·have e3:xX s.H.length k sz' (j+1) vrows=xX s.H.length k sz' j vrows:=by
    unfold xX;refine g9 fun i=>?_
    rw [pb,pb];cases hi:vrows[i]? with
    | none=>rfl
    | some r=>
     have:=(dL.1 hi).1;simp [show i < j by omega,show i < j+1 by omega]
   rw [er,e3,<- pQ];exact zo.TZ (B:=B) (s:=⟨s.tmps,s.H.set vid ⟨1,vty,vsz,xX s.H.length k sz' j vrows,0⟩++List.replicate j (⟨4,ty',sz',[],0⟩:Ob)⟩) ty' sz'
def zo.V2 (vid:Nat) {vty:TypeId} {vsz:Nat} {rows rows':List (List C)} (hv:s.H[vid]?= some ⟨1,vty,vsz,rows,0⟩) (hl:rows'.length=rows.length) (hw:∀ (i:Nat) r r',rows[i]?= some r->rows'[i]?= some r'->fJ r r')
  (hno:∀ r ∈ rows,∀ c ∈ r,zy c=true) (hno':∀ r ∈ rows',∀ c ∈ r,zy c=true):zo B s ⟨s.tmps,s.H.set vid ⟨1,vty,vsz,rows',0⟩⟩:=fun m w E a hs=>by
 have hrow:=hs.heap.rowsOf hv (.inl rfl)
 have hlen:∀ {a b:List C},fJ a b->b.length=a.length:=by
  intro a b h
  induction h with
  | nil=>rfl
  | cons _ _ ih=>simp [ih]
 have hget:∀ {a b:List C},fJ a b->∀ (k:Nat) c c',a[k]?= some c->b[k]?= some c'->WC c c':=by
  intro a b h
  induction h with
  | nil=>intro k c c' h;simp at h
  | cons h1 _ ih=>
   intro k c c' e1 e2;cases k with
   | zero=>simp at e1 e2;subst e1 e2;exact h1
   | succ k=>exact ih k c c' (aq e1) uY
 obtain ⟨hR,g⟩:=hs.heap.Aj hv (.inl rfl) (ob':=⟨1,vty,vsz,rows',0⟩) (.inl rfl) (fun h=>by cases h) rfl rfl hl (fun r hr=>by
   obtain ⟨i,hi⟩:=gm.1 hr;obtain ⟨r0,h0⟩:∃ r0,rows[i]?= some r0:=⟨_,dM (by have q:=(dL.1 hi).1;have q:i < rows'.length:=q;omega)⟩;rw [hlen (hw i r0 r h0 hi)];exact hrow r0 (dO h0)) hno hno' fun i k c c' v e1 e2 hl' _=>by
  unfold cellAt at e1 e2;cases h1:rows[i]? with
  | none=>rw [h1] at e1;cases e1
  | some r=>
   cases h2:rows'[i]? with
   | none=>rw [h2] at e2;cases e2
   | some r'=>
    rw [h1] at e1;rw [h2] at e2;exact hget (hw i r r' h1 h2) k c c' e1 e2 _ v hl'
 exact ⟨E,⟨hR,hs.tmps,hs.defers,aq hs.base⟩,g.fA tB⟩
end
end Go.Ab
namespace Go.Wor
open Go.Hy
structure ej where
 ops:List eD
 done:Nat
 on:Bool
 m:uw
 given:List ef
abbrev Mj:uw:=⟨⟨0,[],[],[],0,0,0,⟨[],[],[]⟩⟩,0,0,0,0,0,0,0,0,0,0,0,0,0,0,false,⟨0,0,0,0,0,0,0,⟨0,0,0,0,0,0⟩⟩,⟨0,0,0,0,0,0⟩⟩
def fT (ops:List eD):ej:=⟨ops,0,false,Mj,[]⟩
def qy (X:List ej):Nat->List Nat
 | 0=>[]
 | k+1=>match X[k]? with
  | some x=>if x.ops.length<=x.done then qy X k else qy X k++[k]
  | none=>qy X k
def jw (x:ej) (m:uw):ej:=if m.done then ⟨x.ops,x.done+1,false,m,x.given++[m.answer]⟩ else ⟨x.ops,x.done,true,m,x.given⟩
end Go.Wor
namespace Go.Ply
open Go.Ab Go.Proofs Tryz Go.Hy Go.Wor
def ql (b i:Nat) (x:ej):List C:=lP x.ops::I (x.done:Int)::Bo x.on::(zD x.m++[.gl (b+i) 13 (x.given.map xz)])
def oU (x:ej):Bool:=decide (x.ops.length<=x.done)
abbrev Br:uz:=⟨0,0,0,0,0,false,0,false,false,false,⟨0,0,0,0,0,0,0,⟨0,0,0,0,0,0⟩⟩⟩
def vc (X:List ej) (i:Nat):List ef:=match X[i]? with
 | some x=>x.given
 | none=>[]
abbrev uy (X:List ej) (i:Nat):Ob:=⟨4,46,13,(vc X i).map xz,0⟩
abbrev iV (b:Nat) (X:List ej):Ob:=⟨1,0,48,X.mapIdx (ql b),0⟩
abbrev mu (b:Nat) (X:List ej):zl:=[iV b X,uy X 0,uy X 1,uy X 2,uy X 3,uy X 4,uy X 5,uy X 6,uy X 7]
def Ku (b i n:Nat) (x:ej) (h:b+i < n):∀ c ∈ ql b i x,qY n 9 c=true:=by
 have e:(ql b i x).all (qY n 9)=(decide (b+i < n) && true):=rfl;exact dV.1 (e.trans aH)
def Tp (b i:Nat) (x:ej):∀ c ∈ ql b i x,zy c=true:=by
 have e:(ql b i x).all zy=true:=rfl;exact dV.1 e
def wQ {X:List ej} {b n t:Nat} {row:List C} (h:b+8<=n) (hX:X.length<=8) (hw:row.all (qY n 9)=true):∀ r ∈ (X.mapIdx (ql b)).set t row,∀ c ∈ r,qY n 9 c=true:=fun r hr=>by
 rcases pd hr with hr | rfl
 ·obtain ⟨i,hi,rfl⟩:=tq.1 hr;exact Ku b i n _ aw
 ·exact dV.1 hw
def Q3 (A0 A1 A2:Ob) (H:zl) (rows:List (List C)) (t:Nat) (ops:List eD) (d:Int) (tl:List C) (hr:rows[t]?= some (lP ops::I d::tl)):
  tn 44 (A0::A1::A2::⟨1,0,48,rows,0⟩::H) [.ref 3 [] 48 t 0] (Bo (decide (ops.length<=d))) (A0::A1::A2::⟨1,0,48,rows,0⟩::H):=by
 have ml:(ops.map vb).length=ops.length:=dR ..;refine zb.zU (fn:=f44) func44 rfl (uH ?_);refine uE ?_;refine ⟨_,hr,by show 1+1<=tl.length+1+1;omega,dd ?_⟩;refine ⟨_,hr,by show 0+1<=tl.length+1+1;omega,dd ?_⟩;rw [ml];refine ⟨fun h=>?_,fun h=>?_⟩
 ·rw [show decide ((ops.length:Int)<=d)=true from h];exact de
 ·rw [show decide ((ops.length:Int)<=d)=false from h];exact de
def N6 (X:List ej) (b:Nat) (fu:Bool) (A0 A1 A2 A4 A5 A6 A7 A8 A9 A10 A11 A12 A13:Ob):tn 17 (A0::A1::A2::⟨1,0,48,X.mapIdx (ql b),0⟩::A4::A5::A6::A7::A8::A9::A10::A11::A12::[A13]) [.sl 3 [] 48 0 X.length fu] (.fn 43 [] [.ref 14 [] 1 0 0]) (A0::A1::A2::⟨1,0,48,X.mapIdx (ql b),0⟩::A4::A5::A6::A7::A8::A9::A10::A11::A12::[A13,⟨1,63,1,[[.sl 3 [] 48 0 X.length fu]],0⟩]):=by
 refine zb.zU (fn:=f17) func17 rfl (uH ?_);exact uJ
def NV (l:Nat) (X:List ej) (b:Nat) (fu:Bool) (hl:X.length < 1000) (A0 A1 A2 A4 A5 A6 A7 A8 A9 A10 A11 A12:Ob) (Z:Nat->Ob) (Y:Nat->List Ob)
  (hy:∀ k x,X[k]?= some x->oU x=false->ju prog l (A0::A1::A2::⟨1,0,48,X.mapIdx (ql b),0⟩::A4::A5::A6::A7::A8::A9::A10::A11::A12::Z k::⟨1,63,1,[[.sl 3 [] 48 0 X.length fu]],0⟩::Y k) [I k] (Bo true) (A0::A1::A2::⟨1,0,48,X.mapIdx (ql b),0⟩::A4::A5::A6::A7::A8::A9::A10::A11::A12::Z (k+1)::⟨1,63,1,[[.sl 3 [] 48 0 X.length fu]],0⟩::Y (k+1))) (hn:∀ k x,X[k]?= some x->oU x=true->Z (k+1)=Z k∧Y (k+1)=Y k):
  tn 43 (A0::A1::A2::⟨1,0,48,X.mapIdx (ql b),0⟩::A4::A5::A6::A7::A8::A9::A10::A11::A12::Z 0::⟨1,63,1,[[.sl 3 [] 48 0 X.length fu]],0⟩::Y 0) [.v (.func (.yield l) #[] #[]),.ref 14 [] 1 0 0] (.u1 []) (A0::A1::A2::⟨1,0,48,X.mapIdx (ql b),0⟩::A4::A5::A6::A7::A8::A9::A10::A11::A12::Z X.length::⟨1,63,1,[[.sl 3 [] 48 0 X.length fu]],0⟩::Y X.length):=by
 refine zb.zU (fn:=f43) func43 rfl (uH ?_);refine zZ.seq X.length (fun k=>(.v (.func (.yield l) #[] #[])::.ref 14 [] 1 0 0::.za::.za::.sl 3 [] 48 0 X.length fu::I X.length::I k::tZ ([.za,.za,.za,.za,.za,.za,.za]))) (fun k=>A0::A1::A2::⟨1,0,48,X.mapIdx (ql b),0⟩::A4::A5::A6::A7::A8::A9::A10::A11::A12::Z k::⟨1,63,1,[[.sl 3 [] 48 0 X.length fu]],0⟩::Y k) (fun k=>True) ?_ trivial (fun k hk hr=>?_) (fun hr=>?_)
 ·exact cC
 ·have hx:X[k]?= some X[k]:=dM hk;have hg:(X.mapIdx (ql b))[k]?= some (ql b k X[k]):=by rw [pb,hx];rfl
  have ov:=Q3 A0 A1 A2 (A4::A5::A6::A7::A8::A9::A10::A11::A12::Z k::⟨1,63,1,[[.sl 3 [] 48 0 X.length fu]],0⟩::Y k) (X.mapIdx (ql b)) k X[k].ops X[k].done _ hg;conv=>whnf
  refine uF ?_;refine ⟨aw,by rw [toNat_cast];exact hk,dd ?_⟩;rw [show 0+((k:Int)).toNat=k from aj];refine ⟨_,_,ov,dd ?_⟩;have eo:decide ((X[k].ops.length:Int)<=(X[k].done:Int))=oU X[k]:=by unfold oU;simp
  refine ⟨fun h=>?_,fun h=>?_⟩
  ·have ho:=eo.symm.trans h;obtain ⟨e1,e2⟩:=hn k _ hx ho;refine dd ?_;refine tc ?_
   refine .inl ⟨rfl,?_,trivial⟩;rw [zu aw,e1,e2];exact cC
  ·have ho:=eo.symm.trans h;refine dd ?_;refine tc ?_
   refine ⟨_,_,hy k _ hx ho,dd ?_⟩;refine tc ?_
   exact dF
 ·refine uD ?_;exact c9
def lj (X:List ej) (a o:Ob) (tl:List Ob):Nat->zl
 | 0=>a::o::uy X 1::uy X 2::uy X 3::uy X 4::uy X 5::uy X 6::uy X 7::tl
 | 1=>a::uy X 0::o::uy X 2::uy X 3::uy X 4::uy X 5::uy X 6::uy X 7::tl
 | 2=>a::uy X 0::uy X 1::o::uy X 3::uy X 4::uy X 5::uy X 6::uy X 7::tl
 | 3=>a::uy X 0::uy X 1::uy X 2::o::uy X 4::uy X 5::uy X 6::uy X 7::tl
 | 4=>a::uy X 0::uy X 1::uy X 2::uy X 3::o::uy X 5::uy X 6::uy X 7::tl
 | 5=>a::uy X 0::uy X 1::uy X 2::uy X 3::uy X 4::o::uy X 6::uy X 7::tl
 | 6=>a::uy X 0::uy X 1::uy X 2::uy X 3::uy X 4::uy X 5::o::uy X 7::tl
 | _=>a::uy X 0::uy X 1::uy X 2::uy X 3::uy X 4::uy X 5::uy X 6::o::tl
abbrev m8 (l:List ef):Ob:=⟨4,46,13,l.map xz,0⟩
def eight {t:Nat} (h:t < 8):t=0∨t=1∨t=2∨t=3∨t=4∨t=5∨t=6∨t=7:=by omega
def TN (X:List ej) {t:Nat} (h:t < 8):mu 1 X=lj X (iV 1 X) (m8 (vc X t)) [] t:=by
 rcases eight h with rfl | rfl | rfl | rfl | rfl | rfl | rfl | rfl <;> rfl
end Go.Ply
