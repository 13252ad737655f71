import Derived.Test.YtoeaoedlpmohoaaGreatRJ
import Derived.Test.YtoeaoedlpmohoaaGreatProg
set_option linter.all false
set_option maxRecDepth 100000
set_option maxHeartbeats 4000000
namespace Go.Ab
section
variable {B:Nat} {s:S}
def zp.zxC(vid i k:Nat)(ty':TypeId)(sz':Nat){vty:TypeId}{vsz sz0:Nat}{r:List C}{vrows rows:List (List C)}(hv:s.H[vid]?=some ⟨1,vty,vsz,vrows,0⟩)(hr:vrows[i]?=some r)(hk:r[k]?=some (.fp 1 sz0 rows))(hz:rows=[]\/sz'=sz0)
 (hno:∀r∈vrows,∀c∈r,zy c=true):
  zp B s ⟨s.tmps,s.H.set vid ⟨1,vty,vsz,vrows.set i (r.set k (.gl s.H.length sz' rows)),0⟩++[⟨4,ty',sz',rows,0⟩]⟩:=λm w E a hs=>by
 obtain⟨cur,e,h3,h4,h5⟩:=(hs.heap.base.fJ _ _ _ _ _ hv (Ds hv (.inl rfl))).fJ;obtain⟨u,hu,ho⟩:=h5 i k _ (show cellAt vrows i k=some (.fp 1 sz0 rows) by unfold cellAt;rw[hr];exact hk);rw[jb.loose rfl]at ho;have hl:L E (.fp 1 sz0 rows) u:=aF
 obtain⟨E1,hh1,hl1,g1⟩:=hs.heap.Fj hl ty' hz;have ft:vid<s.H.length:=(gm.1 hv).1;have hob1:(s.H++[⟨4,ty',sz',rows,0⟩])[vid]?=some ⟨1,vty,vsz,vrows,0⟩:=by rw[gG ft];exact hv
 have hrow:=hh1.rowsOf hob1 (.inl rfl);have hβ:E1.β vid []=E.β vid []:=g1.le.β vid [] (by rw[hs.heap.n];exact ft)
 have hcu:w.cell? ⟨E1.β vid [],i*vsz+k,none⟩=some u:=by
  unfold World.cell?;rw[hβ,h3];simpa using hu
 have hin:=gA hr
 obtain⟨hR,g2⟩:=hh1.BP hob1 (.inl rfl) (ob':=⟨1,vty,vsz,vrows.set i (r.set k (.gl s.H.length sz' rows)),0⟩) (.inl rfl) (λh=>by cases h) rfl rfl aj (λq hq=>by
   rcases pT hq with h|rfl
   ·exact hrow q h
   ·simpa using hrow r hin) hno (λq hq c hc=>by
   rcases pT hq with h|rfl
   ·exact hno q h c hc
   ·rcases pT hc with h|rfl
    ·exact hno r hin c h
    ·rfl) λi' k' c c' v e1 e2 hl' hv'=>by
  have hat:∀X:Env,X.at 1=X:=λX=>by simp[Env.at]
  rw[hat]at hl' ⊢;unfold cellAt at e1 e2;rw[gM]at e2;split at e2
  ·rename_i e;subst e;split at e2
   ·simp only[pa]at e2;rw[hr]at e1;simp only[pa]at e1;rw[gM]at e2;split at e2
    ·rename_i e;subst e;split at e2
     ·cases e2
      rw[hcu]at hv';cases hv'
      exact hl1
     ·cases e2
    ·rw[e1]at e2;cases e2
     exact hl'
   ·cases e2
  ·rw[e1]at e2;cases e2
   exact hl'
 rw[eG _ _ ft]at hR g2;exact du
def zp.Yl(ty':TypeId)(sz':Nat):zp B s ⟨s.tmps,s.H++[⟨4,ty',sz',[],0⟩]⟩:=λm w E a hs=>by
 obtain⟨E1,hh1,hl1,g1⟩:=hs.heap.Fj (L.xp (E:=E) 1 0 (.inr rfl)) ty' (sz':=sz') (.inl rfl);exact⟨E1,⟨hh1,hs.tmps.mono g1.le,hs.defers.grow hs.heap g1,aG⟩,g1.iM tG⟩
def x8(n0 k sz' j:Nat)(vrows:List (List C)):List (List C):=vrows.mapIdx λi r=>if i<j then r.set k (.gl (n0+i) sz' []) else r
def zp.N8(vid k:Nat)(ty':TypeId)(sz':Nat){vty:TypeId}{vsz sz0:Nat}{vrows:List (List C)}(hv:s.H[vid]?=some ⟨1,vty,vsz,vrows,0⟩)(hk:∀r∈vrows,r[k]?=some (.fp 1 sz0 []))(hno:∀r∈vrows,∀c∈r,zy c=true):
  ∀j:Nat,zp B s ⟨s.tmps,s.H.set vid ⟨1,vty,vsz,x8 s.H.length k sz' j vrows,0⟩++List.replicate j (⟨4,ty',sz',[],0⟩:Ob)⟩
 |0=>by
  have e:x8 s.H.length k sz' 0 vrows=vrows:=by
   unfold x8;rw[List.mapIdx_eq_iff];intro i;simp
  have e2:s.H.set vid ⟨1,vty,vsz,vrows,0⟩=s.H:=by
   obtain⟨h1,h2⟩:=gm.1 hv;rw[<-h2];exact eE h1
  rw[e,e2];simpa using zp.refl s
 |j+1=>by
  have ft:vid<s.H.length:=(gm.1 hv).1;refine(zp.N8 vid k ty' sz' hv hk hno j).trans ?_;have el:(s.H.set vid ⟨1,vty,vsz,x8 s.H.length k sz' j vrows,0⟩++List.replicate j (⟨4,ty',sz',[],0⟩:Ob)).length=s.H.length+j:=aj
  have hv':(s.H.set vid ⟨1,vty,vsz,x8 s.H.length k sz' j vrows,0⟩++List.replicate j (⟨4,ty',sz',[],0⟩:Ob))[vid]?=some ⟨1,vty,vsz,x8 s.H.length k sz' j vrows,0⟩:=by
   rw[gG (aq ft),gD ft]
  have er:List.replicate (j+1) (⟨4,ty',sz',[],0⟩:Ob)=List.replicate j (⟨4,ty',sz',[],0⟩:Ob)++[⟨4,ty',sz',[],0⟩]:=eI;by_cases hj:j<vrows.length
  ·have hr:(x8 s.H.length k sz' j vrows)[j]?=some vrows[j]:=by
    unfold x8;rw[pU,gp hj];simp
   have w:=zp.zxC (B:=B) (s:=⟨s.tmps,s.H.set vid ⟨1,vty,vsz,x8 s.H.length k sz' j vrows,0⟩++List.replicate j (⟨4,ty',sz',[],0⟩:Ob)⟩) vid j k ty' sz' hv' hr (hk _ (gZ hj)) (.inl rfl) λr hr c hc=>by
    unfold x8 at hr;obtain⟨i,hi,e⟩:=eJ.1 hr;split at e
    ·rw[<-e]at hc;rcases pT hc with h|rfl
     ·exact hno _ (gZ hi) c h
     ·rfl
    ·rw[<-e]at hc;exact hno _ (gZ hi) c hc
   have e3:(x8 s.H.length k sz' j vrows).set j (vrows[j].set k (.gl (s.H.length+j) sz' []))=x8 s.H.length k sz' (j+1) vrows:=by
    unfold x8;refine pL λi=>?_
    rw[gM,pU,pU];by_cases hi:j=i
    ·subst hi;rw[gC rfl,gC (aq hj),gp hj];simp
    ·rw[gu hi];cases vrows[i]? with
     |none=>rfl
     |some r=>
      by_cases h2:i<j
      ·simp[h2,show i<j+1 by omega]
      ·simp[h2,show ¬i<j+1 by omega]
   rw[er,<-e3];dsimp only at w;rw[el,eG _ _ (aq ft),pw]at w;rw[<-pG];exact w
  ·have e3:x8 s.H.length k sz' (j+1) vrows=x8 s.H.length k sz' j vrows:=by
    unfold x8;refine pL λi=>?_
    rw[pU,pU];cases hi:vrows[i]? with
    |none=>rfl
    |some r=>
     have:=(gm.1 hi).1;simp[show i<j by omega,show i<j+1 by omega]
   rw[er,e3,<-pG];exact zp.Yl (B:=B) (s:=⟨s.tmps,s.H.set vid ⟨1,vty,vsz,x8 s.H.length k sz' j vrows,0⟩++List.replicate j (⟨4,ty',sz',[],0⟩:Ob)⟩) ty' sz'
def zp.zx3(vid:Nat){vty:TypeId}{vsz:Nat}{rows rows':List (List C)}(hv:s.H[vid]?=some ⟨1,vty,vsz,rows,0⟩)(hl:rows'.length=rows.length)(hw:∀(i:Nat) r r',rows[i]?=some r->rows'[i]?=some r'->iU r r')
 (hno:∀r∈rows,∀c∈r,zy c=true)(hno':∀r∈rows',∀c∈r,zy c=true):zp B s ⟨s.tmps,s.H.set vid ⟨1,vty,vsz,rows',0⟩⟩:=λm w E a hs=>by
 have hrow:=hs.heap.rowsOf hv (.inl rfl)
 have hlen:∀{a b:List C},iU a b->b.length=a.length:=by
  intro a b h
  induction h with
  |nil=>rfl
  |cons _ _ ih=>simp[ih]
 have hget:∀{a b:List C},iU a b->∀(k:Nat) c c',a[k]?=some c->b[k]?=some c'->WC c c':=by
  intro a b h
  induction h with
  |nil=>intro k c c' h;simp at h
  |cons h1 _ ih=>
   intro k c c' e1 e2;cases k with
   |zero=>simp at e1 e2;subst e1 e2;exact h1
   |succ k=>exact ih k c c' (aq e1) uZ
 obtain⟨hR,g⟩:=hs.heap.BP hv (.inl rfl) (ob':=⟨1,vty,vsz,rows',0⟩) (.inl rfl) (λh=>by cases h) rfl rfl hl (λr hr=>by
   obtain⟨i,hi⟩:=gW.1 hr;obtain⟨r0,h0⟩:∃r0,rows[i]?=some r0:=⟨_,gp (by have q:=(gm.1 hi).1;have q:i<rows'.length:=q;omega)⟩;rw[hlen (hw i r0 r h0 hi)];exact hrow r0 (gA h0)) hno hno' λi k c c' v e1 e2 hl' _=>by
  unfold cellAt at e1 e2;cases h1:rows[i]? with
  |none=>rw[h1]at e1;cases e1
  |some r=>
   cases h2:rows'[i]? with
   |none=>rw[h2]at e2;cases e2
   |some r'=>
    rw[h1]at e1;rw[h2]at e2;exact hget (hw i r r' h1 h2) k c c' e1 e2 _ v hl'
 exact⟨E,⟨hR,hs.tmps,hs.defers,aq hs.base⟩,g.iM tG⟩
end
end Go.Ab
namespace Go.Wor
open Go.Hy
structure fN where
 ops:List fG
 done:Nat
 on:Bool
 m:fq
 given:List fF
abbrev OX:fq:=⟨⟨0,[],[],[],0,0,0,⟨[],[],[]⟩⟩,0,0,0,0,0,0,0,0,0,0,0,0,0,0,false,⟨0,0,0,0,0,0,0,⟨0,0,0,0,0,0⟩⟩,⟨0,0,0,0,0,0⟩⟩
def wW(ops:List fG):fN:=⟨ops,0,false,OX,[]⟩
def qJ(X:List fN):Nat->List Nat
 |0=>[]
 |k+1=>match X[k]? with
  |some x=>if x.ops.length<=x.done then qJ X k else qJ X k++[k]
  |none=>qJ X k
def jk(x:fN)(m:fq):fN:=if m.done then ⟨x.ops,x.done+1,false,m,x.given++[m.answer]⟩ else ⟨x.ops,x.done,true,m,x.given⟩
end Go.Wor
namespace Go.Ply
open Go.Ab Go.Proofs Tryz Go.Hy Go.Wor
def qv(b i:Nat)(x:fN):List C:=lP x.ops::I (x.done:Int)::Bo x.on::(zE x.m++[.gl (b+i) 13 (x.given.map yG)])
def Bu(x:fN):Bool:=decide (x.ops.length<=x.done)
abbrev Ew:fx:=⟨0,0,0,0,0,false,0,false,false,false,⟨0,0,0,0,0,0,0,⟨0,0,0,0,0,0⟩⟩⟩
def vv(X:List fN)(i:Nat):List fF:=match X[i]? with
 |some x=>x.given
 |none=>[]
abbrev fy(X:List fN)(i:Nat):Ob:=⟨4,51,13,(vv X i).map yG,0⟩
abbrev mS(b:Nat)(X:List fN):Ob:=⟨1,0,48,X.mapIdx (qv b),0⟩
abbrev nT(b:Nat)(X:List fN):zl:=[mS b X,fy X 0,fy X 1,fy X 2,fy X 3,fy X 4,fy X 5,fy X 6,fy X 7]
def NF(b i n:Nat)(x:fN)(h:b+i<n):∀c∈qv b i x,jg n 9 c=true:=by
 have e:(qv b i x).all (jg n 9)=(decide (b+i<n) && true):=rfl;exact gI.1 (e.trans aH)
def Xq(b i:Nat)(x:fN):∀c∈qv b i x,zy c=true:=by
 have e:(qv b i x).all zy=true:=rfl;exact gI.1 e
def Qe{X:List fN}{b n t:Nat}{row:List C}(h:b+8<=n)(hX:X.length<=8)(hw:row.all (jg n 9)=true):∀r∈(X.mapIdx (qv b)).set t row,∀c∈r,jg n 9 c=true:=λr hr=>by
 rcases pT hr with hr|rfl
 ·obtain⟨i,hi,rfl⟩:=eJ.1 hr;exact NF b i n _ aw
 ·exact gI.1 hw
def T5(A0 A1 A2:Ob)(H:zl)(rows:List (List C))(t:Nat)(ops:List fG)(d:Int)(tl:List C)(hr:rows[t]?=some (lP ops::I d::tl)):
  tn 60 (A0::A1::A2::⟨1,0,48,rows,0⟩::H) [.ref 3 [] 48 t 0] (Bo (decide (ops.length<=d))) (A0::A1::A2::⟨1,0,48,rows,0⟩::H):=by
 have ml:(ops.map vq).length=ops.length:=gE ..;refine zb.zI (fn:=f60) func60 rfl (uH ?_);refine uE ?_;refine⟨_,hr,by show 1+1<=tl.length+1+1;omega,dd ?_⟩;refine⟨_,hr,by show 0+1<=tl.length+1+1;omega,dd ?_⟩;rw[ml];refine⟨λh=>?_,λh=>?_⟩
 ·rw[show decide ((ops.length:Int)<=d)=true from h];exact dt
 ·rw[show decide ((ops.length:Int)<=d)=false from h];exact dt
def RV(X:List fN)(b:Nat)(fu:Bool)(A0 A1 A2 A4 A5 A6 A7 A8 A9 A10 A11 A12 A13:Ob):tn 31 (A0::A1::A2::⟨1,0,48,X.mapIdx (qv b),0⟩::A4::A5::A6::A7::A8::A9::A10::A11::A12::[A13]) [.sl 3 [] 48 0 X.length fu] (.fn 59 [] [.ref 14 [] 1 0 0]) (A0::A1::A2::⟨1,0,48,X.mapIdx (qv b),0⟩::A4::A5::A6::A7::A8::A9::A10::A11::A12::[A13,⟨1,91,1,[[.sl 3 [] 48 0 X.length fu]],0⟩]):=by
 refine zb.zI (fn:=f31) func31 rfl (uH ?_);exact uJ
def QY(l:Nat)(X:List fN)(b:Nat)(fu:Bool)(hl:X.length<1000)(A0 A1 A2 A4 A5 A6 A7 A8 A9 A10 A11 A12:Ob)(Z:Nat->Ob)(Y:Nat->List Ob)
 (hy:∀k x,X[k]?=some x->Bu x=false->jH prog l (A0::A1::A2::⟨1,0,48,X.mapIdx (qv b),0⟩::A4::A5::A6::A7::A8::A9::A10::A11::A12::Z k::⟨1,91,1,[[.sl 3 [] 48 0 X.length fu]],0⟩::Y k) [I k] (Bo true) (A0::A1::A2::⟨1,0,48,X.mapIdx (qv b),0⟩::A4::A5::A6::A7::A8::A9::A10::A11::A12::Z (k+1)::⟨1,91,1,[[.sl 3 [] 48 0 X.length fu]],0⟩::Y (k+1)))(hn:∀k x,X[k]?=some x->Bu x=true->Z (k+1)=Z k/\Y (k+1)=Y k):
  tn 59 (A0::A1::A2::⟨1,0,48,X.mapIdx (qv b),0⟩::A4::A5::A6::A7::A8::A9::A10::A11::A12::Z 0::⟨1,91,1,[[.sl 3 [] 48 0 X.length fu]],0⟩::Y 0) [.v (.func (.yield l) #[] #[]),.ref 14 [] 1 0 0] (.fC []) (A0::A1::A2::⟨1,0,48,X.mapIdx (qv b),0⟩::A4::A5::A6::A7::A8::A9::A10::A11::A12::Z X.length::⟨1,91,1,[[.sl 3 [] 48 0 X.length fu]],0⟩::Y X.length):=by
 refine zb.zI (fn:=f59) func59 rfl (uH ?_);refine zZ.seq X.length (λk=>(.v (.func (.yield l) #[] #[])::.ref 14 [] 1 0 0::.za::.za::.sl 3 [] 48 0 X.length fu::I X.length::I k::mC ([.za,.za,.za,.za,.za,.za,.za]))) (λk=>A0::A1::A2::⟨1,0,48,X.mapIdx (qv b),0⟩::A4::A5::A6::A7::A8::A9::A10::A11::A12::Z k::⟨1,91,1,[[.sl 3 [] 48 0 X.length fu]],0⟩::Y k) (λk=>True) ?_ trivial (λk hk hr=>?_) (λhr=>?_)
 ·exact cC
 ·have hx:X[k]?=some X[k]:=gp hk;have hg:(X.mapIdx (qv b))[k]?=some (qv b k X[k]):=by rw[pU,hx];rfl
  have ov:=T5 A0 A1 A2 (A4::A5::A6::A7::A8::A9::A10::A11::A12::Z k::⟨1,91,1,[[.sl 3 [] 48 0 X.length fu]],0⟩::Y k) (X.mapIdx (qv b)) k X[k].ops X[k].done _ hg;conv=>whnf
  refine uF ?_;refine⟨aw,by rw[toNat_cast];exact hk,dd ?_⟩;rw[show 0+((k:Int)).toNat=k from aj];refine⟨_,_,ov,dd ?_⟩;have eo:decide ((X[k].ops.length:Int)<=(X[k].done:Int))=Bu X[k]:=by unfold Bu;simp
  refine⟨λh=>?_,λh=>?_⟩
  ·have ho:=eo.symm.trans h;obtain⟨e1,e2⟩:=hn k _ hx ho;refine dd ?_;refine tc ?_
   refine .inl ⟨rfl,?_,trivial⟩;rw[zw aw,e1,e2];exact cC
  ·have ho:=eo.symm.trans h;refine dd ?_;refine tc ?_
   refine⟨_,_,hy k _ hx ho,dd ?_⟩;refine tc ?_
   refine .inl ⟨rfl,?_,trivial⟩;rw[zw aw];exact cC
 ·refine uD ?_;exact c8
def mX(X:List fN)(a o:Ob)(tl:List Ob):Nat->zl
 |0=>a::o::fy X 1::fy X 2::fy X 3::fy X 4::fy X 5::fy X 6::fy X 7::tl
 |1=>a::fy X 0::o::fy X 2::fy X 3::fy X 4::fy X 5::fy X 6::fy X 7::tl
 |2=>a::fy X 0::fy X 1::o::fy X 3::fy X 4::fy X 5::fy X 6::fy X 7::tl
 |3=>a::fy X 0::fy X 1::fy X 2::o::fy X 4::fy X 5::fy X 6::fy X 7::tl
 |4=>a::fy X 0::fy X 1::fy X 2::fy X 3::o::fy X 5::fy X 6::fy X 7::tl
 |5=>a::fy X 0::fy X 1::fy X 2::fy X 3::fy X 4::o::fy X 6::fy X 7::tl
 |6=>a::fy X 0::fy X 1::fy X 2::fy X 3::fy X 4::fy X 5::o::fy X 7::tl
 |_=>a::fy X 0::fy X 1::fy X 2::fy X 3::fy X 4::fy X 5::fy X 6::o::tl
abbrev oW(l:List fF):Ob:=⟨4,51,13,l.map yG,0⟩
def eight{t:Nat}(h:t<8):t=0\/t=1\/t=2\/t=3\/t=4\/t=5\/t=6\/t=7:=by omega
def WH(X:List fN){t:Nat}(h:t<8):nT 1 X=mX X (mS 1 X) (oW (vv X t)) [] t:=by
 rcases eight h with rfl|rfl|rfl|rfl|rfl|rfl|rfl|rfl <;> rfl
end Go.Ply
