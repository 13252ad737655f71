import Derived.Test.YtllehbdigpdinaaGreatSJ
import Derived.Test.YtllehbdigpdinaaGreatProg
set_option linter.all false
set_option maxRecDepth 100000
set_option maxHeartbeats 4000000
namespace Go.Ab
section
variable {B:Nat} {s:S}
def zn.zym(vid i k:Nat)(ty':TypeId)(sz':Nat){vty:TypeId}{vsz sz0:Nat}{r:List C}{vrows rows:List (List C)}(hv:s.H[vid]?=some ⟨1,vty,vsz,vrows,0⟩)(hr:vrows[i]?=some r)(hk:r[k]?=some (.eS 1 sz0 rows))(hz:rows=[]\/sz'=sz0)
 (hno:∀r∈vrows,∀c∈r,zB c=true):
  zn B s ⟨s.tmps,s.H.set vid ⟨1,vty,vsz,vrows.set i (r.set k (.gl s.H.length sz' rows)),0⟩++[⟨4,ty',sz',rows,0⟩]⟩:=λm w E a hs=>by
 obtain⟨cur,e,h3,h4,h5⟩:=(hs.heap.base.fj _ _ _ _ _ hv (DF hv (.inl O))).fj;obtain⟨u,hu,ho⟩:=h5 i k _ (show cellAt vrows i k=some (.eS 1 sz0 rows) by unfold cellAt;rw[hr];exact hk);rw[qW.loose O]at ho;have hl:L E (.eS 1 sz0 rows) u:=aG
 obtain⟨E1,hh1,hl1,g1⟩:=hs.heap.Ft hl ty' hz;have eU:vid<s.H.length:=(dY.1 hv).1;have hob1:(s.H++[⟨4,ty',sz',rows,0⟩])[vid]?=some ⟨1,vty,vsz,vrows,0⟩:=by rw[gz eU];exact hv
 have hrow:=hh1.rowsOf hob1 (.inl O);have hβ:E1.β vid []=E.β vid []:=g1.le.β vid [] (by rw[hs.heap.n];exact eU)
 have hcu:w.cell? ⟨E1.β vid [],i*vsz+k,none⟩=some u:=by
  unfold World.cell?;rw[hβ,h3];simpa using hu
 have hin:=gh hr
 obtain⟨hR,g2⟩:=hh1.BZ hob1 (.inl O) (ob':=⟨1,vty,vsz,vrows.set i (r.set k (.gl s.H.length sz' rows)),0⟩) (.inl O) (λh=>by cases h) rfl rfl aj (λq hq=>by
   rcases pM hq with h|rfl
   ·exact hrow q h
   ·simpa using hrow r hin) hno (λq hq c hc=>by
   rcases pM hq with h|rfl
   ·exact hno q h c hc
   ·rcases pM hc with h|rfl
    ·exact hno r hin c h
    ·rfl) λi' k' c c' v e1 e2 hl' hv'=>by
  have hat:∀X:Env,X.at 1=X:=λX=>by simp[Env.at]
  rw[hat]at hl' ⊢;unfold cellAt at e1 e2;rw[gG]at e2;split at e2
  ·rename_i e;subst e;split at e2
   ·simp only[gX]at e2;rw[hr]at e1;simp only[gX]at e1;rw[gG]at e2;split at e2
    ·rename_i e;subst e;split at e2
     ·cases e2
      rw[hcu]at hv';cases hv'
      exact hl1
     ·cases e2
    ·rw[e1]at e2;cases e2
     exact hl'
   ·cases e2
  ·rw[e1]at e2;cases e2
   exact hl'
 rw[u6 _ _ eU]at hR g2;exact dm
def zn.ZM(ty':TypeId)(sz':Nat):zn B s ⟨s.tmps,s.H++[⟨4,ty',sz',[],0⟩]⟩:=λm w E a hs=>by
 obtain⟨E1,hh1,hl1,g1⟩:=hs.heap.Ft (L.xq (E:=E) 1 0 (.inr O)) ty' (sz':=sz') (.inl O);exact⟨E1,⟨hh1,hs.tmps.mono g1.le,hs.defers.grow hs.heap g1,aH⟩,g1.ix tG⟩
def x8(n0 k sz' j:Nat)(vrows:List (List C)):List (List C):=vrows.mapIdx λi r=>if i<j then r.set k (.gl (n0+i) sz' []) else r
def zn.OG(vid k:Nat)(ty':TypeId)(sz':Nat){vty:TypeId}{vsz sz0:Nat}{vrows:List (List C)}(hv:s.H[vid]?=some ⟨1,vty,vsz,vrows,0⟩)(hk:∀r∈vrows,r[k]?=some (.eS 1 sz0 []))(hno:∀r∈vrows,∀c∈r,zB c=true):
  ∀j:Nat,zn B s ⟨s.tmps,s.H.set vid ⟨1,vty,vsz,x8 s.H.length k sz' j vrows,0⟩++List.replicate j (⟨4,ty',sz',[],0⟩:Ob)⟩
 |0=>by
  have e:x8 s.H.length k sz' 0 vrows=vrows:=by
   unfold x8;rw[List.mapIdx_eq_iff];intro i;simp
  have e2:s.H.set vid ⟨1,vty,vsz,vrows,0⟩=s.H:=by
   obtain⟨h1,h2⟩:=dY.1 hv;rw[<-h2];exact u3 h1
  rw[e,e2];simpa using zn.refl s
 |j+1=>by
  have eU:vid<s.H.length:=(dY.1 hv).1;refine(zn.OG vid k ty' sz' hv hk hno j).trans ?_;have el:(s.H.set vid ⟨1,vty,vsz,x8 s.H.length k sz' j vrows,0⟩++List.replicate j (⟨4,ty',sz',[],0⟩:Ob)).length=s.H.length+j:=aj
  have hv':(s.H.set vid ⟨1,vty,vsz,x8 s.H.length k sz' j vrows,0⟩++List.replicate j (⟨4,ty',sz',[],0⟩:Ob))[vid]?=some ⟨1,vty,vsz,x8 s.H.length k sz' j vrows,0⟩:=by
   rw[gz (aq eU),gu eU]
  have er:List.replicate (j+1) (⟨4,ty',sz',[],0⟩:Ob)=List.replicate j (⟨4,ty',sz',[],0⟩:Ob)++[⟨4,ty',sz',[],0⟩]:=u7;by_cases hj:j<vrows.length
  ·have hr:(x8 s.H.length k sz' j vrows)[j]?=some vrows[j]:=by
    unfold x8;rw[pN,dZ hj];simp
   have w:=zn.zym (B:=B) (s:=⟨s.tmps,s.H.set vid ⟨1,vty,vsz,x8 s.H.length k sz' j vrows,0⟩++List.replicate j (⟨4,ty',sz',[],0⟩:Ob)⟩) vid j k ty' sz' hv' hr (hk _ (gW hj)) (.inl O) λr hr c hc=>by
    unfold x8 at hr;obtain⟨i,hi,e⟩:=u9.1 hr;split at e
    ·rw[<-e]at hc;rcases pM hc with h|rfl
     ·exact hno _ (gW hi) c h
     ·rfl
    ·rw[<-e]at hc;exact hno _ (gW hi) c hc
   have e3:(x8 s.H.length k sz' j vrows).set j (vrows[j].set k (.gl (s.H.length+j) sz' []))=x8 s.H.length k sz' (j+1) vrows:=by
    unfold x8;refine pI λi=>?_
    rw[gG,pN,pN];by_cases hi:j=i
    ·subst hi;rw[gk O,gk (aq hj),dZ hj];simp
    ·rw[gf hi];cases vrows[i]? with
     |none=>rfl
     |some r=>
      by_cases h2:i<j
      ·simp[h2,show i<j+1 by omega]
      ·simp[h2,show ¬i<j+1 by omega]
   rw[er,<-e3];dsimp only at w;rw[el,u6 _ _ (aq eU),g8]at w;rw[<-pA];exact w
  ·have e3:x8 s.H.length k sz' (j+1) vrows=x8 s.H.length k sz' j vrows:=by
    unfold x8;refine pI λi=>?_
    rw[pN,pN];cases hi:vrows[i]? with
    |none=>rfl
    |some r=>
     have:=(dY.1 hi).1;simp[show i<j by omega,show i<j+1 by omega]
   rw[er,e3,<-pA];exact zn.ZM (B:=B) (s:=⟨s.tmps,s.H.set vid ⟨1,vty,vsz,x8 s.H.length k sz' j vrows,0⟩++List.replicate j (⟨4,ty',sz',[],0⟩:Ob)⟩) ty' sz'
def zn.zyR(vid:Nat){vty:TypeId}{vsz:Nat}{rows rows':List (List C)}(hv:s.H[vid]?=some ⟨1,vty,vsz,rows,0⟩)(hl:rows'.length=rows.length)(hw:∀(i:Nat) r r',rows[i]?=some r->rows'[i]?=some r'->iH r r')
 (hno:∀r∈rows,∀c∈r,zB c=true)(hno':∀r∈rows',∀c∈r,zB c=true):zn B s ⟨s.tmps,s.H.set vid ⟨1,vty,vsz,rows',0⟩⟩:=λm w E a hs=>by
 have hrow:=hs.heap.rowsOf hv (.inl O)
 have hlen:∀{a b:List C},iH a b->b.length=a.length:=by
  intro a b h
  induction h with
  |nil=>rfl
  |cons _ _ ih=>simp[ih]
 have hget:∀{a b:List C},iH a b->∀(k:Nat) c c',a[k]?=some c->b[k]?=some c'->WC c c':=by
  intro a b h
  induction h with
  |nil=>intro k c c' h;simp at h
  |cons h1 _ ih=>
   intro k c c' e1 e2;cases k with
   |zero=>simp at e1 e2;subst e1 e2;exact h1
   |succ k=>exact ih k c c' (aq e1) uZ
 obtain⟨hR,g⟩:=hs.heap.BZ hv (.inl O) (ob':=⟨1,vty,vsz,rows',0⟩) (.inl O) (λh=>by cases h) rfl rfl hl (λr hr=>by
   obtain⟨i,hi⟩:=gQ.1 hr;obtain⟨r0,h0⟩:∃r0,rows[i]?=some r0:=⟨_,dZ (by have q:=(dY.1 hi).1;have q:i<rows'.length:=q;omega)⟩;rw[hlen (hw i r0 r h0 hi)];exact hrow r0 (gh h0)) hno hno' λi k c c' v e1 e2 hl' _=>by
  unfold cellAt at e1 e2;cases h1:rows[i]? with
  |none=>rw[h1]at e1;cases e1
  |some r=>
   cases h2:rows'[i]? with
   |none=>rw[h2]at e2;cases e2
   |some r'=>
    rw[h1]at e1;rw[h2]at e2;exact hget (hw i r r' h1 h2) k c c' e1 e2 _ v hl'
 exact⟨E,⟨hR,hs.tmps,hs.defers,aq hs.base⟩,g.ix tG⟩
end
end Go.Ab
namespace Go.Wor
open Go.Hy
structure fp where
 ops:List fh
 done:Nat
 on:Bool
 m:eR
 given:List ff
abbrev PF:eR:=⟨⟨0,[],[],[],0,0,0,⟨[],[],[]⟩⟩,0,0,0,0,0,0,0,0,0,0,0,0,0,0,false,⟨0,0,0,0,0,0,0,⟨0,0,0,0,0,0⟩⟩,⟨0,0,0,0,0,0⟩⟩
def iP(ops:List fh):fp:=⟨ops,0,false,PF,[]⟩
def qB(X:List fp):Nat->List Nat
 |0=>[]
 |k+1=>match X[k]? with
  |some x=>if x.ops.length<=x.done then qB X k else qB X k++[k]
  |none=>qB X k
def jj(x:fp)(m:eR):fp:=if m.done then ⟨x.ops,x.done+1,false,m,x.given++[m.answer]⟩ else ⟨x.ops,x.done,true,m,x.given⟩
end Go.Wor
namespace Go.Ply
open Go.Ab Go.Proofs Tryz Go.Hy Go.Wor
def qn(b i:Nat)(x:fp):List C:=lP x.ops::I (x.done:Int)::Bo x.on::(lJ x.m++[.gl (b+i) 13 (x.given.map x3)])
def BC(x:fp):Bool:=decide (x.ops.length<=x.done)
abbrev Dj:eV:=⟨0,0,0,0,0,false,0,false,false,false,⟨0,0,0,0,0,0,0,⟨0,0,0,0,0,0⟩⟩⟩
def vA(X:List fp)(i:Nat):List ff:=match X[i]? with
 |some x=>x.given
 |none=>[]
abbrev eX(X:List fp)(i:Nat):Ob:=⟨4,66,13,(vA X i).map x3,0⟩
abbrev mH(b:Nat)(X:List fp):Ob:=⟨1,0,48,X.mapIdx (qn b),0⟩
abbrev nN(b:Nat)(X:List fp):zl:=[mH b X,eX X 0,eX X 1,eX X 2,eX X 3,eX X 4,eX X 5,eX X 6,eX X 7]
def N6(b i n:Nat)(x:fp)(h:b+i<n):∀c∈qn b i x,jc n 9 c=true:=by
 have e:(qn b i x).all (jc n 9)=(decide (b+i<n) && true):=rfl;exact gA.1 (e.trans aI)
def YF(b i:Nat)(x:fp):∀c∈qn b i x,zB c=true:=by
 have e:(qn b i x).all zB=true:=rfl;exact gA.1 e
def QK{X:List fp}{b n t:Nat}{row:List C}(h:b+8<=n)(hX:X.length<=8)(hw:row.all (jc n 9)=true):∀r∈(X.mapIdx (qn b)).set t row,∀c∈r,jc n 9 c=true:=λr hr=>by
 rcases pM hr with hr|rfl
 ·obtain⟨i,hi,rfl⟩:=u9.1 hr;exact N6 b i n _ aw
 ·exact gA.1 hw
def Va(A0 A1 A2:Ob)(H:zl)(rows:List (List C))(t:Nat)(ops:List fh)(d:Int)(tl:List C)(hr:rows[t]?=some (lP ops::I d::tl)):
  tn 46 (A0::A1::A2::⟨1,0,48,rows,0⟩::H) [.ref 3 [] 48 t 0] (Bo (decide (ops.length<=d))) (A0::A1::A2::⟨1,0,48,rows,0⟩::H):=by
 have ml:(ops.map y8).length=ops.length:=gp ..;refine zb.zG (fn:=f46) func46 O (uH ?_);refine uE ?_;refine⟨_,hr,by show 1+1<=tl.length+1+1;omega,dd ?_⟩;refine⟨_,hr,by show 0+1<=tl.length+1+1;omega,dd ?_⟩;rw[ml];refine⟨λh=>?_,λh=>?_⟩
 ·rw[show decide ((ops.length:Int)<=d)=true from h];exact dk
 ·rw[show decide ((ops.length:Int)<=d)=false from h];exact dk
def R5(X:List fp)(b:Nat)(fu:Bool)(A0 A1 A2 A4 A5 A6 A7 A8 A9 A10 A11 A12 A13:Ob):tn 18 (A0::A1::A2::⟨1,0,48,X.mapIdx (qn b),0⟩::A4::A5::A6::A7::A8::A9::A10::A11::A12::[A13]) [.sl 3 [] 48 0 X.length fu] (.fn 45 [] [.ref 14 [] 1 0 0]) (A0::A1::A2::⟨1,0,48,X.mapIdx (qn b),0⟩::A4::A5::A6::A7::A8::A9::A10::A11::A12::[A13,⟨1,60,1,[[.sl 3 [] 48 0 X.length fu]],0⟩]):=by
 refine zb.zG (fn:=f18) func18 O (uH ?_);exact uJ
def RJ(l:Nat)(X:List fp)(b:Nat)(fu:Bool)(hl:X.length<1000)(A0 A1 A2 A4 A5 A6 A7 A8 A9 A10 A11 A12:Ob)(Z:Nat->Ob)(Y:Nat->List Ob)
 (hy:∀k x,X[k]?=some x->BC x=false->jC prog l (A0::A1::A2::⟨1,0,48,X.mapIdx (qn b),0⟩::A4::A5::A6::A7::A8::A9::A10::A11::A12::Z k::⟨1,60,1,[[.sl 3 [] 48 0 X.length fu]],0⟩::Y k) [I k] (Bo true) (A0::A1::A2::⟨1,0,48,X.mapIdx (qn b),0⟩::A4::A5::A6::A7::A8::A9::A10::A11::A12::Z (k+1)::⟨1,60,1,[[.sl 3 [] 48 0 X.length fu]],0⟩::Y (k+1)))(hn:∀k x,X[k]?=some x->BC x=true->Z (k+1)=Z k/\Y (k+1)=Y k):
  tn 45 (A0::A1::A2::⟨1,0,48,X.mapIdx (qn b),0⟩::A4::A5::A6::A7::A8::A9::A10::A11::A12::Z 0::⟨1,60,1,[[.sl 3 [] 48 0 X.length fu]],0⟩::Y 0) [.v (.func (.yield l) #[] #[]),.ref 14 [] 1 0 0] (.fb []) (A0::A1::A2::⟨1,0,48,X.mapIdx (qn b),0⟩::A4::A5::A6::A7::A8::A9::A10::A11::A12::Z X.length::⟨1,60,1,[[.sl 3 [] 48 0 X.length fu]],0⟩::Y X.length):=by
 refine zb.zG (fn:=f45) func45 O (uH ?_);refine qa.seq X.length (λk=>(.v (.func (.yield l) #[] #[])::.ref 14 [] 1 0 0::.za::.za::.sl 3 [] 48 0 X.length fu::I X.length::I k::hU ([.za,.za,.za,.za,.za,.za,.za]))) (λk=>A0::A1::A2::⟨1,0,48,X.mapIdx (qn b),0⟩::A4::A5::A6::A7::A8::A9::A10::A11::A12::Z k::⟨1,60,1,[[.sl 3 [] 48 0 X.length fu]],0⟩::Y k) (λk=>True) ?_ trivial (λk hk hr=>?_) (λhr=>?_)
 ·exact cC
 ·have hx:X[k]?=some X[k]:=dZ hk;have hg:(X.mapIdx (qn b))[k]?=some (qn b k X[k]):=by rw[pN,hx];rfl
  have ov:=Va A0 A1 A2 (A4::A5::A6::A7::A8::A9::A10::A11::A12::Z k::⟨1,60,1,[[.sl 3 [] 48 0 X.length fu]],0⟩::Y k) (X.mapIdx (qn b)) k X[k].ops X[k].done _ hg;conv=>whnf
  refine uF ?_;refine⟨aw,by rw[toNat_cast];exact hk,dd ?_⟩;rw[show 0+((k:Int)).toNat=k from aj];refine⟨_,_,ov,dd ?_⟩;have eo:decide ((X[k].ops.length:Int)<=(X[k].done:Int))=BC X[k]:=by unfold BC;simp
  refine⟨λh=>?_,λh=>?_⟩
  ·have ho:=eo.symm.trans h;obtain⟨e1,e2⟩:=hn k _ hx ho;refine dd ?_;refine tc ?_
   refine .inl ⟨rfl,?_,trivial⟩;rw[zw aw,e1,e2];exact cC
  ·have ho:=eo.symm.trans h;refine dd ?_;refine tc ?_
   refine⟨_,_,hy k _ hx ho,dd ?_⟩;refine tc ?_
   refine .inl ⟨rfl,?_,trivial⟩;rw[zw aw];exact cC
 ·refine uD ?_;exact c8
def mM(X:List fp)(a o:Ob)(tl:List Ob):Nat->zl
 |0=>a::o::eX X 1::eX X 2::eX X 3::eX X 4::eX X 5::eX X 6::eX X 7::tl
 |1=>a::eX X 0::o::eX X 2::eX X 3::eX X 4::eX X 5::eX X 6::eX X 7::tl
 |2=>a::eX X 0::eX X 1::o::eX X 3::eX X 4::eX X 5::eX X 6::eX X 7::tl
 |3=>a::eX X 0::eX X 1::eX X 2::o::eX X 4::eX X 5::eX X 6::eX X 7::tl
 |4=>a::eX X 0::eX X 1::eX X 2::eX X 3::o::eX X 5::eX X 6::eX X 7::tl
 |5=>a::eX X 0::eX X 1::eX X 2::eX X 3::eX X 4::o::eX X 6::eX X 7::tl
 |6=>a::eX X 0::eX X 1::eX X 2::eX X 3::eX X 4::eX X 5::o::eX X 7::tl
 |_=>a::eX X 0::eX X 1::eX X 2::eX X 3::eX X 4::eX X 5::eX X 6::o::tl
abbrev oX(l:List ff):Ob:=⟨4,66,13,l.map x3,0⟩
def eight{t:Nat}(h:t<8):t=0\/t=1\/t=2\/t=3\/t=4\/t=5\/t=6\/t=7:=by omega
def XJ(X:List fp){t:Nat}(h:t<8):nN 1 X=mM X (mH 1 X) (oX (vA X t)) [] t:=by
 rcases eight h with rfl|rfl|rfl|rfl|rfl|rfl|rfl|rfl <;> rfl
end Go.Ply
