import Derived.Test.YtkbnjgogjccmfaaGreatSJ
import Derived.Test.YtkbnjgogjccmfaaGreatProg
set_option linter.all false
set_option maxRecDepth 100000
set_option maxHeartbeats 4000000
namespace Go.Ab
section
variable {B:Nat} {s:S}
def zp.Wb (vid i k:Nat) (ty':TypeId) (sz':Nat) {vty:TypeId} {vsz sz0:Nat} {r:List C} {vrows rows:List (List C)} (hv:s.H[vid]?= some ⟨1,vty,vsz,vrows,0⟩) (hr:vrows[i]?= some r) (hk:r[k]?= some (.u1 1 sz0 rows)) (hz:rows=[]∨sz'=sz0)
  (hno:∀ r ∈ vrows,∀ c ∈ r,zy c=true):
  zp B s ⟨s.tmps,s.H.set vid ⟨1,vty,vsz,vrows.set i (r.set k (.gl s.H.length sz' rows)),0⟩++[⟨4,ty',sz',rows,0⟩]⟩:=fun m w E a hs=>by
 obtain ⟨cur,e,h3,h4,h5⟩:=(hs.heap.base.eu _ _ _ _ _ hv (BU hv (.inl rfl))).eu;obtain ⟨u,hu,ho⟩:=h5 i k _ (show cellAt vrows i k=some (.u1 1 sz0 rows) by unfold cellAt;rw [hr];exact hk);rw [qU.loose rfl] at ho;have hl:L E (.u1 1 sz0 rows) u:=aF
 obtain ⟨E1,hh1,hl1,g1⟩:=hs.heap.Dm hl ty' hz;have u4:vid < s.H.length:=(dP.1 hv).1;have hob1:(s.H++[⟨4,ty',sz',rows,0⟩])[vid]?= some ⟨1,vty,vsz,vrows,0⟩:=by rw [dX u4];exact hv
 have hrow:=hh1.rowsOf hob1 (.inl rfl);have hβ:E1.β vid []=E.β vid []:=g1.le.β vid [] (by rw [hs.heap.n];exact u4)
 have hcu:w.cell? ⟨E1.β vid [],i * vsz+k,none⟩=some u:=by
  unfold World.cell?;rw [hβ,h3];simpa using hu
 have hin:=dS hr
 obtain ⟨hR,g2⟩:=hh1.As hob1 (.inl rfl) (ob':=⟨1,vty,vsz,vrows.set i (r.set k (.gl s.H.length sz' rows)),0⟩) (.inl rfl) (fun h=>by cases h) rfl rfl aj (fun q hq=>by
   rcases gV hq with h | rfl
   ·exact hrow q h
   ·simpa using hrow r hin) hno (fun q hq c hc=>by
   rcases gV hq with h | rfl
   ·exact hno q h c hc
   ·rcases gV hc with h | rfl
    ·exact hno r hin c h
    ·rfl) fun i' k' c c' v e1 e2 hl' hv'=>by
  have hat:∀ X:Env,X.at 1=X:=fun X=>by simp [Env.at]
  rw [hat] at hl' ⊢;unfold cellAt at e1 e2;rw [gj] at e2;split at e2
  ·rename_i e;subst e;split at e2
   ·simp only [gE] at e2;rw [hr] at e1;simp only [gE] at e1;rw [gj] at e2;split at e2
    ·rename_i e;subst e;split at e2
     ·cases e2
      rw [hcu] at hv';cases hv'
      exact hl1
     ·cases e2
    ·rw [e1] at e2;cases e2
     exact hl'
   ·cases e2
  ·rw [e1] at e2;cases e2
   exact hl'
 rw [tu _ _ u4] at hR g2;exact da
def zp.VC (ty':TypeId) (sz':Nat):zp B s ⟨s.tmps,s.H++[⟨4,ty',sz',[],0⟩]⟩:=fun m w E a hs=>by
 obtain ⟨E1,hh1,hl1,g1⟩:=hs.heap.Dm (L.xv (E:=E) 1 0 (.inr rfl)) ty' (sz':=sz') (.inl rfl);exact ⟨E1,⟨hh1,hs.tmps.mono g1.le,hs.defers.grow hs.heap g1,aG⟩,g1.fI tD⟩
def x9 (n0 k sz' j:Nat) (vrows:List (List C)):List (List C):=vrows.mapIdx fun i r=>if i < j then r.set k (.gl (n0+i) sz' []) else r
def zp.LP (vid k:Nat) (ty':TypeId) (sz':Nat) {vty:TypeId} {vsz sz0:Nat} {vrows:List (List C)} (hv:s.H[vid]?= some ⟨1,vty,vsz,vrows,0⟩) (hk:∀ r ∈ vrows,r[k]?= some (.u1 1 sz0 [])) (hno:∀ r ∈ vrows,∀ c ∈ r,zy c=true):
  ∀ j:Nat,zp B s ⟨s.tmps,s.H.set vid ⟨1,vty,vsz,x9 s.H.length k sz' j vrows,0⟩++List.replicate j (⟨4,ty',sz',[],0⟩:Ob)⟩
 | 0=>by
  have e:x9 s.H.length k sz' 0 vrows=vrows:=by
   unfold x9;rw [List.mapIdx_eq_iff];intro i;simp
  have e2:s.H.set vid ⟨1,vty,vsz,vrows,0⟩=s.H:=by
   obtain ⟨h1,h2⟩:=dP.1 hv;rw [<- h2];exact List.set_getElem_self h1
  rw [e,e2];simpa using zp.refl s
 | j+1=>by
  have u4:vid < s.H.length:=(dP.1 hv).1;refine (zp.LP vid k ty' sz' hv hk hno j).trans ?_;have el:(s.H.set vid ⟨1,vty,vsz,x9 s.H.length k sz' j vrows,0⟩++List.replicate j (⟨4,ty',sz',[],0⟩:Ob)).length=s.H.length+j:=aj
  have hv':(s.H.set vid ⟨1,vty,vsz,x9 s.H.length k sz' j vrows,0⟩++List.replicate j (⟨4,ty',sz',[],0⟩:Ob))[vid]?= some ⟨1,vty,vsz,x9 s.H.length k sz' j vrows,0⟩:=by
   rw [dX (aq u4),dW u4]
  have er:List.replicate (j+1) (⟨4,ty',sz',[],0⟩:Ob)=List.replicate j (⟨4,ty',sz',[],0⟩:Ob)++[⟨4,ty',sz',[],0⟩]:=tx;by_cases hj:j < vrows.length
  ·have hr:(x9 s.H.length k sz' j vrows)[j]?= some vrows[j]:=by
    unfold x9;rw [pw,dQ hj];simp
   have w:=zp.Wb (B:=B) (s:=⟨s.tmps,s.H.set vid ⟨1,vty,vsz,x9 s.H.length k sz' j vrows,0⟩++List.replicate j (⟨4,ty',sz',[],0⟩:Ob)⟩) vid j k ty' sz' hv' hr (hk _ (gS hj)) (.inl rfl) fun r hr c hc=>by
    unfold x9 at hr;obtain ⟨i,hi,e⟩:=tz.1 hr;split at e
    ·rw [<- e] at hc;rcases gV hc with h | rfl
     ·exact hno _ (gS hi) c h
     ·rfl
    ·rw [<- e] at hc;exact hno _ (gS hi) c hc
   have e3:(x9 s.H.length k sz' j vrows).set j (vrows[j].set k (.gl (s.H.length+j) sz' []))=x9 s.H.length k sz' (j+1) vrows:=by
    unfold x9;refine pq fun i=>?_
    rw [gj,pw,pw];by_cases hi:j=i
    ·subst hi;rw [dU rfl,dU (aq hj),dQ hj];simp
    ·rw [dR hi];cases vrows[i]? with
     | none=>rfl
     | some r=>
      by_cases h2:i < j
      ·simp [h2,show i < j+1 by omega]
      ·simp [h2,show ¬i < j+1 by omega]
   rw [er,<- e3];dsimp only at w;rw [el,tu _ _ (aq u4),gI] at w;rw [<- pW];exact w
  ·have e3:x9 s.H.length k sz' (j+1) vrows=x9 s.H.length k sz' j vrows:=by
    unfold x9;refine pq fun i=>?_
    rw [pw,pw];cases hi:vrows[i]? with
    | none=>rfl
    | some r=>
     have:=(dP.1 hi).1;simp [show i < j by omega,show i < j+1 by omega]
   rw [er,e3,<- pW];exact zp.VC (B:=B) (s:=⟨s.tmps,s.H.set vid ⟨1,vty,vsz,x9 s.H.length k sz' j vrows,0⟩++List.replicate j (⟨4,ty',sz',[],0⟩:Ob)⟩) ty' sz'
def zp.Xo (vid:Nat) {vty:TypeId} {vsz:Nat} {rows rows':List (List C)} (hv:s.H[vid]?= some ⟨1,vty,vsz,rows,0⟩) (hl:rows'.length=rows.length) (hw:∀ (i:Nat) r r',rows[i]?= some r->rows'[i]?= some r'->fR r r')
  (hno:∀ r ∈ rows,∀ c ∈ r,zy c=true) (hno':∀ r ∈ rows',∀ c ∈ r,zy c=true):zp B s ⟨s.tmps,s.H.set vid ⟨1,vty,vsz,rows',0⟩⟩:=fun m w E a hs=>by
 have hrow:=hs.heap.rowsOf hv (.inl rfl)
 have hlen:∀ {a b:List C},fR a b->b.length=a.length:=by
  intro a b h
  induction h with
  | nil=>rfl
  | cons _ _ ih=>simp [ih]
 have hget:∀ {a b:List C},fR a b->∀ (k:Nat) c c',a[k]?= some c->b[k]?= some c'->WC c c':=by
  intro a b h
  induction h with
  | nil=>intro k c c' h;simp at h
  | cons h1 _ ih=>
   intro k c c' e1 e2;cases k with
   | zero=>simp at e1 e2;subst e1 e2;exact h1
   | succ k=>exact ih k c c' (aq e1) uZ
 obtain ⟨hR,g⟩:=hs.heap.As hv (.inl rfl) (ob':=⟨1,vty,vsz,rows',0⟩) (.inl rfl) (fun h=>by cases h) rfl rfl hl (fun r hr=>by
   obtain ⟨i,hi⟩:=gA.1 hr;obtain ⟨r0,h0⟩:∃ r0,rows[i]?= some r0:=⟨_,dQ (by have q:=(dP.1 hi).1;have q:i < rows'.length:=q;omega)⟩;rw [hlen (hw i r0 r h0 hi)];exact hrow r0 (dS h0)) hno hno' fun i k c c' v e1 e2 hl' _=>by
  unfold cellAt at e1 e2;cases h1:rows[i]? with
  | none=>rw [h1] at e1;cases e1
  | some r=>
   cases h2:rows'[i]? with
   | none=>rw [h2] at e2;cases e2
   | some r'=>
    rw [h1] at e1;rw [h2] at e2;exact hget (hw i r r' h1 h2) k c c' e1 e2 _ v hl'
 exact ⟨E,⟨hR,hs.tmps,hs.defers,aq hs.base⟩,g.fI tD⟩
end
end Go.Ab
namespace Go.Wor
open Go.Hy
structure eE where
 ops:List eK
 done:Nat
 on:Bool
 m:u3
 given:List eC
abbrev MA:u3:=⟨⟨0,[],[],[],0,0,0,⟨[],[],[]⟩⟩,0,0,0,0,0,0,0,0,0,0,0,0,0,0,false,⟨0,0,0,0,0,0,0,⟨0,0,0,0,0,0⟩⟩,⟨0,0,0,0,0,0⟩⟩
def wG (ops:List eK):eE:=⟨ops,0,false,MA,[]⟩
def qA (X:List eE):Nat->List Nat
 | 0=>[]
 | k+1=>match X[k]? with
  | some x=>if x.ops.length<=x.done then qA X k else qA X k++[k]
  | none=>qA X k
def jE (x:eE) (m:u3):eE:=if m.done then ⟨x.ops,x.done+1,false,m,x.given++[m.answer]⟩ else ⟨x.ops,x.done,true,m,x.given⟩
end Go.Wor
namespace Go.Ply
open Go.Ab Go.Proofs Tryz Go.Hy Go.Wor
def qm (b i:Nat) (x:eE):List C:=lP x.ops::I (x.done:Int)::Bo x.on::(zD x.m++[.gl (b+i) 13 (x.given.map xB)])
def o8 (x:eE):Bool:=decide (x.ops.length<=x.done)
abbrev BC:u6:=⟨0,0,0,0,0,false,0,false,false,false,⟨0,0,0,0,0,0,0,⟨0,0,0,0,0,0⟩⟩⟩
def ve (X:List eE) (i:Nat):List eC:=match X[i]? with
 | some x=>x.given
 | none=>[]
abbrev u5 (X:List eE) (i:Nat):Ob:=⟨4,46,13,(ve X i).map xB,0⟩
abbrev lq (b:Nat) (X:List eE):Ob:=⟨1,0,48,X.mapIdx (qm b),0⟩
abbrev mG (b:Nat) (X:List eE):zl:=[lq b X,u5 X 0,u5 X 1,u5 X 2,u5 X 3,u5 X 4,u5 X 5,u5 X 6,u5 X 7]
def Ls (b i n:Nat) (x:eE) (h:b+i < n):∀ c ∈ qm b i x,q8 n 9 c=true:=by
 have e:(qm b i x).all (q8 n 9)=(decide (b+i < n) && true):=rfl;exact dZ.1 (e.trans aH)
def UB (b i:Nat) (x:eE):∀ c ∈ qm b i x,zy c=true:=by
 have e:(qm b i x).all zy=true:=rfl;exact dZ.1 e
def wV {X:List eE} {b n t:Nat} {row:List C} (h:b+8<=n) (hX:X.length<=8) (hw:row.all (q8 n 9)=true):∀ r ∈ (X.mapIdx (qm b)).set t row,∀ c ∈ r,q8 n 9 c=true:=fun r hr=>by
 rcases gV hr with hr | rfl
 ·obtain ⟨i,hi,rfl⟩:=tz.1 hr;exact Ls b i n _ aw
 ·exact dZ.1 hw
def QH (A0 A1 A2:Ob) (H:zl) (rows:List (List C)) (t:Nat) (ops:List eK) (d:Int) (tl:List C) (hr:rows[t]?= some (lP ops::I d::tl)):
  to 44 (A0::A1::A2::⟨1,0,48,rows,0⟩::H) [.ref 3 [] 48 t 0] (Bo (decide (ops.length<=d))) (A0::A1::A2::⟨1,0,48,rows,0⟩::H):=by
 have ml:(ops.map vt).length=ops.length:=dV ..;refine zb.zT (fn:=f44) func44 rfl (uH ?_);refine uE ?_;refine ⟨_,hr,by show 1+1<=tl.length+1+1;omega,dd ?_⟩;refine ⟨_,hr,by show 0+1<=tl.length+1+1;omega,dd ?_⟩;rw [ml];refine ⟨fun h=>?_,fun h=>?_⟩
 ·rw [show decide ((ops.length:Int)<=d)=true from h];exact dh
 ·rw [show decide ((ops.length:Int)<=d)=false from h];exact dh
def OE (X:List eE) (b:Nat) (fu:Bool) (A0 A1 A2 A4 A5 A6 A7 A8 A9 A10 A11 A12 A13:Ob):to 17 (A0::A1::A2::⟨1,0,48,X.mapIdx (qm b),0⟩::A4::A5::A6::A7::A8::A9::A10::A11::A12::[A13]) [.sl 3 [] 48 0 X.length fu] (.fn 43 [] [.ref 14 [] 1 0 0]) (A0::A1::A2::⟨1,0,48,X.mapIdx (qm b),0⟩::A4::A5::A6::A7::A8::A9::A10::A11::A12::[A13,⟨1,63,1,[[.sl 3 [] 48 0 X.length fu]],0⟩]):=by
 refine zb.zT (fn:=f17) func17 rfl (uH ?_);exact uJ
def N3 (l:Nat) (X:List eE) (b:Nat) (fu:Bool) (hl:X.length < 1000) (A0 A1 A2 A4 A5 A6 A7 A8 A9 A10 A11 A12:Ob) (Z:Nat->Ob) (Y:Nat->List Ob)
  (hy:∀ k x,X[k]?= some x->o8 x=false->jy prog l (A0::A1::A2::⟨1,0,48,X.mapIdx (qm b),0⟩::A4::A5::A6::A7::A8::A9::A10::A11::A12::Z k::⟨1,63,1,[[.sl 3 [] 48 0 X.length fu]],0⟩::Y k) [I k] (Bo true) (A0::A1::A2::⟨1,0,48,X.mapIdx (qm b),0⟩::A4::A5::A6::A7::A8::A9::A10::A11::A12::Z (k+1)::⟨1,63,1,[[.sl 3 [] 48 0 X.length fu]],0⟩::Y (k+1))) (hn:∀ k x,X[k]?= some x->o8 x=true->Z (k+1)=Z k∧Y (k+1)=Y k):
  to 43 (A0::A1::A2::⟨1,0,48,X.mapIdx (qm b),0⟩::A4::A5::A6::A7::A8::A9::A10::A11::A12::Z 0::⟨1,63,1,[[.sl 3 [] 48 0 X.length fu]],0⟩::Y 0) [.v (.func (.yield l) #[] #[]),.ref 14 [] 1 0 0] (.u7 []) (A0::A1::A2::⟨1,0,48,X.mapIdx (qm b),0⟩::A4::A5::A6::A7::A8::A9::A10::A11::A12::Z X.length::⟨1,63,1,[[.sl 3 [] 48 0 X.length fu]],0⟩::Y X.length):=by
 refine zb.zT (fn:=f43) func43 rfl (uH ?_);refine zW.seq X.length (fun k=>(.v (.func (.yield l) #[] #[])::.ref 14 [] 1 0 0::.za::.za::.sl 3 [] 48 0 X.length fu::I X.length::I k::hZ ([.za,.za,.za,.za,.za,.za,.za]))) (fun k=>A0::A1::A2::⟨1,0,48,X.mapIdx (qm b),0⟩::A4::A5::A6::A7::A8::A9::A10::A11::A12::Z k::⟨1,63,1,[[.sl 3 [] 48 0 X.length fu]],0⟩::Y k) (fun k=>True) ?_ trivial (fun k hk hr=>?_) (fun hr=>?_)
 ·exact cC
 ·have hx:X[k]?= some X[k]:=dQ hk;have hg:(X.mapIdx (qm b))[k]?= some (qm b k X[k]):=by rw [pw,hx];rfl
  have ov:=QH A0 A1 A2 (A4::A5::A6::A7::A8::A9::A10::A11::A12::Z k::⟨1,63,1,[[.sl 3 [] 48 0 X.length fu]],0⟩::Y k) (X.mapIdx (qm b)) k X[k].ops X[k].done _ hg;conv=>whnf
  refine uF ?_;refine ⟨aw,by rw [toNat_cast];exact hk,dd ?_⟩;rw [show 0+((k:Int)).toNat=k from aj];refine ⟨_,_,ov,dd ?_⟩;have eo:decide ((X[k].ops.length:Int)<=(X[k].done:Int))=o8 X[k]:=by unfold o8;simp
  refine ⟨fun h=>?_,fun h=>?_⟩
  ·have ho:=eo.symm.trans h;obtain ⟨e1,e2⟩:=hn k _ hx ho;refine dd ?_;refine td ?_
   refine .inl ⟨rfl,?_,trivial⟩;rw [zu aw,e1,e2];exact cC
  ·have ho:=eo.symm.trans h;refine dd ?_;refine td ?_
   refine ⟨_,_,hy k _ hx ho,dd ?_⟩;refine td ?_
   exact dI
 ·refine uD ?_;exact db
def lH (X:List eE) (a o:Ob) (tl:List Ob):Nat->zl
 | 0=>a::o::u5 X 1::u5 X 2::u5 X 3::u5 X 4::u5 X 5::u5 X 6::u5 X 7::tl
 | 1=>a::u5 X 0::o::u5 X 2::u5 X 3::u5 X 4::u5 X 5::u5 X 6::u5 X 7::tl
 | 2=>a::u5 X 0::u5 X 1::o::u5 X 3::u5 X 4::u5 X 5::u5 X 6::u5 X 7::tl
 | 3=>a::u5 X 0::u5 X 1::u5 X 2::o::u5 X 4::u5 X 5::u5 X 6::u5 X 7::tl
 | 4=>a::u5 X 0::u5 X 1::u5 X 2::u5 X 3::o::u5 X 5::u5 X 6::u5 X 7::tl
 | 5=>a::u5 X 0::u5 X 1::u5 X 2::u5 X 3::u5 X 4::o::u5 X 6::u5 X 7::tl
 | 6=>a::u5 X 0::u5 X 1::u5 X 2::u5 X 3::u5 X 4::u5 X 5::o::u5 X 7::tl
 | _=>a::u5 X 0::u5 X 1::u5 X 2::u5 X 3::u5 X 4::u5 X 5::u5 X 6::o::tl
abbrev nq (l:List eC):Ob:=⟨4,46,13,l.map xB,0⟩
def eight {t:Nat} (h:t < 8):t=0∨t=1∨t=2∨t=3∨t=4∨t=5∨t=6∨t=7:=by omega
def TF (X:List eE) {t:Nat} (h:t < 8):mG 1 X=lH X (lq 1 X) (nq (ve X t)) [] t:=by
 rcases eight h with rfl | rfl | rfl | rfl | rfl | rfl | rfl | rfl <;> rfl
end Go.Ply
