import Derived.Test.YtkbnjgogjccmfaaGreatRJ
import Derived.Test.YtkbnjgogjccmfaaGreatProg
set_option linter.all false
set_option maxRecDepth 100000
set_option maxHeartbeats 4000000
namespace Go.Ab
section
variable {B:Nat} {s:S}
def zo.UN (vid i k:Nat) (ty':TypeId) (sz':Nat) {vty:TypeId} {vsz sz0:Nat} {r:List C} {vrows rows:List (List C)} (hv:s.H[vid]?= some ⟨1,vty,vsz,vrows,0⟩) (hr:vrows[i]?= some r) (hk:r[k]?= some (.ui 1 sz0 rows)) (hz:rows=[]∨sz'=sz0)
  (hno:∀ r ∈ vrows,∀ c ∈ r,zy c=true):
  zo B s ⟨s.tmps,s.H.set vid ⟨1,vty,vsz,vrows.set i (r.set k (.gl s.H.length sz' rows)),0⟩++[⟨4,ty',sz',rows,0⟩]⟩:=fun m w E a hs=>by
 obtain ⟨cur,e,h3,h4,h5⟩:=(hs.heap.base.uy _ _ _ _ _ hv (wP hv (.inl rfl))).uy;obtain ⟨u,hu,ho⟩:=h5 i k _ (show cellAt vrows i k=some (.ui 1 sz0 rows) by unfold cellAt;rw [hr];exact hk);rw [qQ.loose rfl] at ho;have hl:L E (.ui 1 sz0 rows) u:=aF
 obtain ⟨E1,hh1,hl1,g1⟩:=hs.heap.Cq hl ty' hz;have uj:vid < s.H.length:=(dJ.1 hv).1;have hob1:(s.H++[⟨4,ty',sz',rows,0⟩])[vid]?= some ⟨1,vty,vsz,vrows,0⟩:=by rw [dR uj];exact hv
 have hrow:=hh1.rowsOf hob1 (.inl rfl);have hβ:E1.β vid []=E.β vid []:=g1.le.β vid [] (by rw [hs.heap.n];exact uj)
 have hcu:w.cell? ⟨E1.β vid [],i * vsz+k,none⟩=some u:=by
  unfold World.cell?;rw [hβ,h3];simpa using hu
 have hin:=dM hr
 obtain ⟨hR,g2⟩:=hh1.oQ hob1 (.inl rfl) (ob':=⟨1,vty,vsz,vrows.set i (r.set k (.gl s.H.length sz' rows)),0⟩) (.inl rfl) (fun h=>by cases h) rfl rfl aj (fun q hq=>by
   rcases gW hq with h | rfl
   ·exact hrow q h
   ·simpa using hrow r hin) hno (fun q hq c hc=>by
   rcases gW hq with h | rfl
   ·exact hno q h c hc
   ·rcases gW hc with h | rfl
    ·exact hno r hin c h
    ·rfl) fun i' k' c c' v e1 e2 hl' hv'=>by
  have hat:∀ X:Env,X.at 1=X:=fun X=>by simp [Env.at]
  rw [hat] at hl' ⊢;unfold cellAt at e1 e2;rw [dW] at e2;split at e2
  ·rename_i e;subst e;split at e2
   ·simp only [gp] at e2;rw [hr] at e1;simp only [gp] at e1;rw [dW] at e2;split at e2
    ·rename_i e;subst e;split at e2
     ·cases e2
      rw [hcu] at hv';cases hv'
      exact hl1
     ·cases e2
    ·rw [e1] at e2;cases e2
     exact hl'
   ·cases e2
  ·rw [e1] at e2;cases e2
   exact hl'
 rw [sQ _ _ uj] at hR g2;exact c7
def zo.TP (ty':TypeId) (sz':Nat):zo B s ⟨s.tmps,s.H++[⟨4,ty',sz',[],0⟩]⟩:=fun m w E a hs=>by
 obtain ⟨E1,hh1,hl1,g1⟩:=hs.heap.Cq (L.xf (E:=E) 1 0 (.inr rfl)) ty' (sz':=sz') (.inl rfl);exact ⟨E1,⟨hh1,hs.tmps.mono g1.le,hs.defers.grow hs.heap g1,aG⟩,g1.fh tB⟩
def xK (n0 k sz' j:Nat) (vrows:List (List C)):List (List C):=vrows.mapIdx fun i r=>if i < j then r.set k (.gl (n0+i) sz' []) else r
def zo.Ku (vid k:Nat) (ty':TypeId) (sz':Nat) {vty:TypeId} {vsz sz0:Nat} {vrows:List (List C)} (hv:s.H[vid]?= some ⟨1,vty,vsz,vrows,0⟩) (hk:∀ r ∈ vrows,r[k]?= some (.ui 1 sz0 [])) (hno:∀ r ∈ vrows,∀ c ∈ r,zy c=true):
  ∀ j:Nat,zo B s ⟨s.tmps,s.H.set vid ⟨1,vty,vsz,xK s.H.length k sz' j vrows,0⟩++List.replicate j (⟨4,ty',sz',[],0⟩:Ob)⟩
 | 0=>by
  have e:xK s.H.length k sz' 0 vrows=vrows:=by
   unfold xK;rw [List.mapIdx_eq_iff];intro i;simp
  have e2:s.H.set vid ⟨1,vty,vsz,vrows,0⟩=s.H:=by
   obtain ⟨h1,h2⟩:=dJ.1 hv;rw [<- h2];exact List.set_getElem_self h1
  rw [e,e2];simpa using zo.refl s
 | j+1=>by
  have uj:vid < s.H.length:=(dJ.1 hv).1;refine (zo.Ku vid k ty' sz' hv hk hno j).trans ?_;have el:(s.H.set vid ⟨1,vty,vsz,xK s.H.length k sz' j vrows,0⟩++List.replicate j (⟨4,ty',sz',[],0⟩:Ob)).length=s.H.length+j:=aj
  have hv':(s.H.set vid ⟨1,vty,vsz,xK s.H.length k sz' j vrows,0⟩++List.replicate j (⟨4,ty',sz',[],0⟩:Ob))[vid]?= some ⟨1,vty,vsz,xK s.H.length k sz' j vrows,0⟩:=by
   rw [dR (aq uj),dQ uj]
  have er:List.replicate (j+1) (⟨4,ty',sz',[],0⟩:Ob)=List.replicate j (⟨4,ty',sz',[],0⟩:Ob)++[⟨4,ty',sz',[],0⟩]:=sR;by_cases hj:j < vrows.length
  ·have hr:(xK s.H.length k sz' j vrows)[j]?= some vrows[j]:=by
    unfold xK;rw [gV,dK hj];simp
   have w:=zo.UN (B:=B) (s:=⟨s.tmps,s.H.set vid ⟨1,vty,vsz,xK s.H.length k sz' j vrows,0⟩++List.replicate j (⟨4,ty',sz',[],0⟩:Ob)⟩) vid j k ty' sz' hv' hr (hk _ (gH hj)) (.inl rfl) fun r hr c hc=>by
    unfold xK at hr;obtain ⟨i,hi,e⟩:=sS.1 hr;split at e
    ·rw [<- e] at hc;rcases gW hc with h | rfl
     ·exact hno _ (gH hi) c h
     ·rfl
    ·rw [<- e] at hc;exact hno _ (gH hi) c hc
   have e3:(xK s.H.length k sz' j vrows).set j (vrows[j].set k (.gl (s.H.length+j) sz' []))=xK s.H.length k sz' (j+1) vrows:=by
    unfold xK;refine gU fun i=>?_
    rw [dW,gV,gV];by_cases hi:j=i
    ·subst hi;rw [dO rfl,dO (aq hj),dK hj];simp
    ·rw [dL hi];cases vrows[i]? with
     | none=>rfl
     | some r=>
      by_cases h2:i < j
      ·simp [h2,show i < j+1 by omega]
      ·simp [h2,show ¬i < j+1 by omega]
   rw [er,<- e3];dsimp only at w;rw [el,sQ _ _ (aq uj),gA] at w;rw [<- pN];exact w
  ·have e3:xK s.H.length k sz' (j+1) vrows=xK s.H.length k sz' j vrows:=by
    unfold xK;refine gU fun i=>?_
    rw [gV,gV];cases hi:vrows[i]? with
    | none=>rfl
    | some r=>
     have:=(dJ.1 hi).1;simp [show i < j by omega,show i < j+1 by omega]
   rw [er,e3,<- pN];exact zo.TP (B:=B) (s:=⟨s.tmps,s.H.set vid ⟨1,vty,vsz,xK s.H.length k sz' j vrows,0⟩++List.replicate j (⟨4,ty',sz',[],0⟩:Ob)⟩) ty' sz'
def zo.UF (vid:Nat) {vty:TypeId} {vsz:Nat} {rows rows':List (List C)} (hv:s.H[vid]?= some ⟨1,vty,vsz,rows,0⟩) (hl:rows'.length=rows.length) (hw:∀ (i:Nat) r r',rows[i]?= some r->rows'[i]?= some r'->fy r r')
  (hno:∀ r ∈ rows,∀ c ∈ r,zy c=true) (hno':∀ r ∈ rows',∀ c ∈ r,zy c=true):zo B s ⟨s.tmps,s.H.set vid ⟨1,vty,vsz,rows',0⟩⟩:=fun m w E a hs=>by
 have hrow:=hs.heap.rowsOf hv (.inl rfl)
 have hlen:∀ {a b:List C},fy a b->b.length=a.length:=by
  intro a b h
  induction h with
  | nil=>rfl
  | cons _ _ ih=>simp [ih]
 have hget:∀ {a b:List C},fy a b->∀ (k:Nat) c c',a[k]?= some c->b[k]?= some c'->WC c c':=by
  intro a b h
  induction h with
  | nil=>intro k c c' h;simp at h
  | cons h1 _ ih=>
   intro k c c' e1 e2;cases k with
   | zero=>simp at e1 e2;subst e1 e2;exact h1
   | succ k=>exact ih k c c' (aq e1) uY
 obtain ⟨hR,g⟩:=hs.heap.oQ hv (.inl rfl) (ob':=⟨1,vty,vsz,rows',0⟩) (.inl rfl) (fun h=>by cases h) rfl rfl hl (fun r hr=>by
   obtain ⟨i,hi⟩:=gh.1 hr;obtain ⟨r0,h0⟩:∃ r0,rows[i]?= some r0:=⟨_,dK (by have q:=(dJ.1 hi).1;have q:i < rows'.length:=q;omega)⟩;rw [hlen (hw i r0 r h0 hi)];exact hrow r0 (dM h0)) hno hno' fun i k c c' v e1 e2 hl' _=>by
  unfold cellAt at e1 e2;cases h1:rows[i]? with
  | none=>rw [h1] at e1;cases e1
  | some r=>
   cases h2:rows'[i]? with
   | none=>rw [h2] at e2;cases e2
   | some r'=>
    rw [h1] at e1;rw [h2] at e2;exact hget (hw i r r' h1 h2) k c c' e1 e2 _ v hl'
 exact ⟨E,⟨hR,hs.tmps,hs.defers,aq hs.base⟩,g.fh tB⟩
end
end Go.Ab
namespace Go.Wor
open Go.Hy
structure ed where
 ops:List ef
 done:Nat
 on:Bool
 m:uk
 given:List u3
abbrev Lf:uk:=⟨⟨0,[],[],[],0,0,0,⟨[],[],[]⟩⟩,0,0,0,0,0,0,0,0,0,0,0,0,0,0,false,⟨0,0,0,0,0,0,0,⟨0,0,0,0,0,0⟩⟩,⟨0,0,0,0,0,0⟩⟩
def fW (ops:List ef):ed:=⟨ops,0,false,Lf,[]⟩
def qw (X:List ed):Nat->List Nat
 | 0=>[]
 | k+1=>match X[k]? with
  | some x=>if x.ops.length<=x.done then qw X k else qw X k++[k]
  | none=>qw X k
def xh (x:ed) (m:uk):ed:=if m.done then ⟨x.ops,x.done+1,false,m,x.given++[m.answer]⟩ else ⟨x.ops,x.done,true,m,x.given⟩
end Go.Wor
namespace Go.Ply
open Go.Ab Go.Proofs Tryz Go.Hy Go.Wor
def qj (b i:Nat) (x:ed):List C:=lP x.ops::I (x.done:Int)::Bo x.on::(zD x.m++[.gl (b+i) 13 (x.given.map xm)])
def oy (x:ed):Bool:=decide (x.ops.length<=x.done)
abbrev AM:uv:=⟨0,0,0,0,0,false,0,false,false,false,⟨0,0,0,0,0,0,0,⟨0,0,0,0,0,0⟩⟩⟩
def yS (X:List ed) (i:Nat):List u3:=match X[i]? with
 | some x=>x.given
 | none=>[]
abbrev um (X:List ed) (i:Nat):Ob:=⟨4,46,13,(yS X i).map xm,0⟩
abbrev iL (b:Nat) (X:List ed):Ob:=⟨1,0,48,X.mapIdx (qj b),0⟩
abbrev lW (b:Nat) (X:List ed):zl:=[iL b X,um X 0,um X 1,um X 2,um X 3,um X 4,um X 5,um X 6,um X 7]
def J5 (b i n:Nat) (x:ed) (h:b+i < n):∀ c ∈ qj b i x,qW n 9 c=true:=by
 have e:(qj b i x).all (qW n 9)=(decide (b+i < n) && true):=rfl;exact dT.1 (e.trans aH)
def RN (b i:Nat) (x:ed):∀ c ∈ qj b i x,zy c=true:=by
 have e:(qj b i x).all zy=true:=rfl;exact dT.1 e
def wq {X:List ed} {b n t:Nat} {row:List C} (h:b+8<=n) (hX:X.length<=8) (hw:row.all (qW n 9)=true):∀ r ∈ (X.mapIdx (qj b)).set t row,∀ c ∈ r,qW n 9 c=true:=fun r hr=>by
 rcases gW hr with hr | rfl
 ·obtain ⟨i,hi,rfl⟩:=sS.1 hr;exact J5 b i n _ aw
 ·exact dT.1 hw
def Pc (A0 A1 A2:Ob) (H:zl) (rows:List (List C)) (t:Nat) (ops:List ef) (d:Int) (tl:List C) (hr:rows[t]?= some (lP ops::I d::tl)):
  tn 44 (A0::A1::A2::⟨1,0,48,rows,0⟩::H) [.ref 3 [] 48 t 0] (Bo (decide (ops.length<=d))) (A0::A1::A2::⟨1,0,48,rows,0⟩::H):=by
 have ml:(ops.map y8).length=ops.length:=dP ..;refine zb.zS (fn:=f44) func44 rfl (uH ?_);refine uE ?_;refine ⟨_,hr,by show 1+1<=tl.length+1+1;omega,dd ?_⟩;refine ⟨_,hr,by show 0+1<=tl.length+1+1;omega,dd ?_⟩;rw [ml];refine ⟨fun h=>?_,fun h=>?_⟩
 ·rw [show decide ((ops.length:Int)<=d)=true from h];exact dc
 ·rw [show decide ((ops.length:Int)<=d)=false from h];exact dc
def MU (X:List ed) (b:Nat) (fu:Bool) (A0 A1 A2 A4 A5 A6 A7 A8 A9 A10 A11 A12 A13:Ob):tn 17 (A0::A1::A2::⟨1,0,48,X.mapIdx (qj b),0⟩::A4::A5::A6::A7::A8::A9::A10::A11::A12::[A13]) [.sl 3 [] 48 0 X.length fu] (.fn 43 [] [.ref 14 [] 1 0 0]) (A0::A1::A2::⟨1,0,48,X.mapIdx (qj b),0⟩::A4::A5::A6::A7::A8::A9::A10::A11::A12::[A13,⟨1,63,1,[[.sl 3 [] 48 0 X.length fu]],0⟩]):=by
 refine zb.zS (fn:=f17) func17 rfl (uH ?_);exact uJ
def MJ (l:Nat) (X:List ed) (b:Nat) (fu:Bool) (hl:X.length < 1000) (A0 A1 A2 A4 A5 A6 A7 A8 A9 A10 A11 A12:Ob) (Z:Nat->Ob) (Y:Nat->List Ob)
  (hy:∀ k x,X[k]?= some x->oy x=false->jn prog l (A0::A1::A2::⟨1,0,48,X.mapIdx (qj b),0⟩::A4::A5::A6::A7::A8::A9::A10::A11::A12::Z k::⟨1,63,1,[[.sl 3 [] 48 0 X.length fu]],0⟩::Y k) [I k] (Bo true) (A0::A1::A2::⟨1,0,48,X.mapIdx (qj b),0⟩::A4::A5::A6::A7::A8::A9::A10::A11::A12::Z (k+1)::⟨1,63,1,[[.sl 3 [] 48 0 X.length fu]],0⟩::Y (k+1))) (hn:∀ k x,X[k]?= some x->oy x=true->Z (k+1)=Z k∧Y (k+1)=Y k):
  tn 43 (A0::A1::A2::⟨1,0,48,X.mapIdx (qj b),0⟩::A4::A5::A6::A7::A8::A9::A10::A11::A12::Z 0::⟨1,63,1,[[.sl 3 [] 48 0 X.length fu]],0⟩::Y 0) [.v (.func (.yield l) #[] #[]),.ref 14 [] 1 0 0] (.uo []) (A0::A1::A2::⟨1,0,48,X.mapIdx (qj b),0⟩::A4::A5::A6::A7::A8::A9::A10::A11::A12::Z X.length::⟨1,63,1,[[.sl 3 [] 48 0 X.length fu]],0⟩::Y X.length):=by
 refine zb.zS (fn:=f43) func43 rfl (uH ?_);refine z5.seq X.length (fun k=>(.v (.func (.yield l) #[] #[])::.ref 14 [] 1 0 0::.za::.za::.sl 3 [] 48 0 X.length fu::I X.length::I k::tZ ([.za,.za,.za,.za,.za,.za,.za]))) (fun k=>A0::A1::A2::⟨1,0,48,X.mapIdx (qj b),0⟩::A4::A5::A6::A7::A8::A9::A10::A11::A12::Z k::⟨1,63,1,[[.sl 3 [] 48 0 X.length fu]],0⟩::Y k) (fun k=>True) ?_ trivial (fun k hk hr=>?_) (fun hr=>?_)
 ·exact cC
 ·have hx:X[k]?= some X[k]:=dK hk;have hg:(X.mapIdx (qj b))[k]?= some (qj b k X[k]):=by rw [gV,hx];rfl
  have ov:=Pc A0 A1 A2 (A4::A5::A6::A7::A8::A9::A10::A11::A12::Z k::⟨1,63,1,[[.sl 3 [] 48 0 X.length fu]],0⟩::Y k) (X.mapIdx (qj b)) k X[k].ops X[k].done _ hg;conv=>whnf
  refine uF ?_;refine ⟨aw,by rw [toNat_cast];exact hk,dd ?_⟩;rw [show 0+((k:Int)).toNat=k from aj];refine ⟨_,_,ov,dd ?_⟩;have eo:decide ((X[k].ops.length:Int)<=(X[k].done:Int))=oy X[k]:=by unfold oy;simp
  refine ⟨fun h=>?_,fun h=>?_⟩
  ·have ho:=eo.symm.trans h;obtain ⟨e1,e2⟩:=hn k _ hx ho;refine dd ?_;refine tc ?_
   refine .inl ⟨rfl,?_,trivial⟩;rw [zu aw,e1,e2];exact cC
  ·have ho:=eo.symm.trans h;refine dd ?_;refine tc ?_
   refine ⟨_,_,hy k _ hx ho,dd ?_⟩;refine tc ?_
   exact dD
 ·refine uD ?_;exact c8
def iR (X:List ed) (a o:Ob) (tl:List Ob):Nat->zl
 | 0=>a::o::um X 1::um X 2::um X 3::um X 4::um X 5::um X 6::um X 7::tl
 | 1=>a::um X 0::o::um X 2::um X 3::um X 4::um X 5::um X 6::um X 7::tl
 | 2=>a::um X 0::um X 1::o::um X 3::um X 4::um X 5::um X 6::um X 7::tl
 | 3=>a::um X 0::um X 1::um X 2::o::um X 4::um X 5::um X 6::um X 7::tl
 | 4=>a::um X 0::um X 1::um X 2::um X 3::o::um X 5::um X 6::um X 7::tl
 | 5=>a::um X 0::um X 1::um X 2::um X 3::um X 4::o::um X 6::um X 7::tl
 | 6=>a::um X 0::um X 1::um X 2::um X 3::um X 4::um X 5::o::um X 7::tl
 | _=>a::um X 0::um X 1::um X 2::um X 3::um X 4::um X 5::um X 6::o::tl
abbrev mP (l:List u3):Ob:=⟨4,46,13,l.map xm,0⟩
def eight {t:Nat} (h:t < 8):t=0∨t=1∨t=2∨t=3∨t=4∨t=5∨t=6∨t=7:=by omega
def RV (X:List ed) {t:Nat} (h:t < 8):lW 1 X=iR X (iL 1 X) (mP (yS X t)) [] t:=by
 rcases eight h with rfl | rfl | rfl | rfl | rfl | rfl | rfl | rfl <;> rfl
end Go.Ply
