import Derived.Test.YtoeaoedlpmohoaaGreatSJ
import Derived.Test.YtoeaoedlpmohoaaGreatProg
set_option linter.all false
set_option maxRecDepth 100000
set_option maxHeartbeats 4000000
namespace Go.Ab
section
variable {B:Nat} {s:S}
def zt.ZX(vid i k:Nat)(ty':TypeId)(sz':Nat){vty:TypeId}{vsz sz0:Nat}{r:List C}{vrows rows:List (List C)}(hv:s.H[vid]?=some ⟨1,vty,vsz,vrows,0⟩)(hr:vrows[i]?=some r)(hk:r[k]?=some (.lq 1 sz0 rows))(hz:rows=[]\/sz'=sz0)
 (hno:∀r∈vrows,∀c∈r,zB c=true):
  zt B s ⟨s.tmps,s.H.set vid ⟨1,vty,vsz,vrows.set i (r.set k (.gl s.H.length sz' rows)),0⟩++[⟨4,ty',sz',rows,0⟩]⟩:=λm w E a hs=>by
 obtain⟨cur,e,h3,h4,h5⟩:=(hs.heap.base.lZ _ _ _ _ _ hv (F5 hv (.inl O))).lZ;obtain⟨u,hu,ho⟩:=h5 i k _ (show cellAt vrows i k=some (.lq 1 sz0 rows) by unfold cellAt;rw[hr];exact hk);rw[jx.loose O]at ho;have hl:L E (.lq 1 sz0 rows) u:=aG
 obtain⟨E1,hh1,hl1,g1⟩:=hs.heap.J7 hl ty' hz;have lu:vid<s.H.length:=(gZ.1 hv).1;have hob1:(s.H++[⟨4,ty',sz',rows,0⟩])[vid]?=some ⟨1,vty,vsz,vrows,0⟩:=by rw[pD lu];exact hv
 have hrow:=hh1.rowsOf hob1 (.inl O);have hβ:E1.β vid []=E.β vid []:=g1.le.β vid [] (by rw[hs.heap.n];exact lu)
 have hcu:w.cell? ⟨E1.β vid [],i*vsz+k,none⟩=some u:=by
  unfold World.cell?;rw[hβ,h3];simpa using hu
 have hin:=pq hr
 obtain⟨hR,g2⟩:=hh1.Fy hob1 (.inl O) (ob':=⟨1,vty,vsz,vrows.set i (r.set k (.gl s.H.length sz' rows)),0⟩) (.inl O) (λh=>by cases h) rfl rfl aj (λq hq=>by
   rcases rC hq with h|rfl
   ·exact hrow q h
   ·simpa using hrow r hin) hno (λq hq c hc=>by
   rcases rC hq with h|rfl
   ·exact hno q h c hc
   ·rcases rC hc with h|rfl
    ·exact hno r hin c h
    ·rfl) λi' k' c c' v e1 e2 hl' hv'=>by
  have hat:∀X:Env,X.at 1=X:=λX=>by simp[Env.at]
  rw[hat]at hl' ⊢;unfold cellAt at e1 e2;rw[pK]at e2;split at e2
  ·rename_i e;subst e;split at e2
   ·simp only[rh]at e2;rw[hr]at e1;simp only[rh]at e1;rw[pK]at e2;split at e2
    ·rename_i e;subst e;split at e2
     ·cases e2
      rw[hcu]at hv';cases hv'
      exact hl1
     ·cases e2
    ·rw[e1]at e2;cases e2
     exact hl'
   ·cases e2
  ·rw[e1]at e2;cases e2
   exact hl'
 rw[fK _ _ lu]at hR g2;exact dO
def zt.zz8(ty':TypeId)(sz':Nat):zt B s ⟨s.tmps,s.H++[⟨4,ty',sz',[],0⟩]⟩:=λm w E a hs=>by
 obtain⟨E1,hh1,hl1,g1⟩:=hs.heap.J7 (L.xR (E:=E) 1 0 (.inr O)) ty' (sz':=sz') (.inl O);exact⟨E1,⟨hh1,hs.tmps.mono g1.le,hs.defers.grow hs.heap g1,aH⟩,g1.nD tD⟩
def y9(n0 k sz' j:Nat)(vrows:List (List C)):List (List C):=vrows.mapIdx λi r=>if i<j then r.set k (.gl (n0+i) sz' []) else r
def zt.VQ(vid k:Nat)(ty':TypeId)(sz':Nat){vty:TypeId}{vsz sz0:Nat}{vrows:List (List C)}(hv:s.H[vid]?=some ⟨1,vty,vsz,vrows,0⟩)(hk:∀r∈vrows,r[k]?=some (.lq 1 sz0 []))(hno:∀r∈vrows,∀c∈r,zB c=true):
  ∀j:Nat,zt B s ⟨s.tmps,s.H.set vid ⟨1,vty,vsz,y9 s.H.length k sz' j vrows,0⟩++List.replicate j (⟨4,ty',sz',[],0⟩:Ob)⟩
 |0=>by
  have e:y9 s.H.length k sz' 0 vrows=vrows:=by
   unfold y9;rw[List.mapIdx_eq_iff];intro i;simp
  have e2:s.H.set vid ⟨1,vty,vsz,vrows,0⟩=s.H:=by
   obtain⟨h1,h2⟩:=gZ.1 hv;rw[<-h2];exact iD h1
  rw[e,e2];simpa using zt.refl s
 |j+1=>by
  have lu:vid<s.H.length:=(gZ.1 hv).1;refine(zt.VQ vid k ty' sz' hv hk hno j).trans ?_;have el:(s.H.set vid ⟨1,vty,vsz,y9 s.H.length k sz' j vrows,0⟩++List.replicate j (⟨4,ty',sz',[],0⟩:Ob)).length=s.H.length+j:=aj
  have hv':(s.H.set vid ⟨1,vty,vsz,y9 s.H.length k sz' j vrows,0⟩++List.replicate j (⟨4,ty',sz',[],0⟩:Ob))[vid]?=some ⟨1,vty,vsz,y9 s.H.length k sz' j vrows,0⟩:=by
   rw[pD mB,pC lu]
  have er:List.replicate (j+1) (⟨4,ty',sz',[],0⟩:Ob)=List.replicate j (⟨4,ty',sz',[],0⟩:Ob)++[⟨4,ty',sz',[],0⟩]:=iH;by_cases hj:j<vrows.length
  ·have hr:(y9 s.H.length k sz' j vrows)[j]?=some vrows[j]:=by
    unfold y9;rw[rQ,pa hj];simp
   have w:=zt.ZX (B:=B) (s:=⟨s.tmps,s.H.set vid ⟨1,vty,vsz,y9 s.H.length k sz' j vrows,0⟩++List.replicate j (⟨4,ty',sz',[],0⟩:Ob)⟩) vid j k ty' sz' hv' hr (hk _ (pY hj)) (.inl O) λr hr c hc=>by
    unfold y9 at hr;obtain⟨i,hi,e⟩:=fW.1 hr;split at e
    ·rw[<-e]at hc;rcases rC hc with h|rfl
     ·exact hno _ (pY hi) c h
     ·rfl
    ·rw[<-e]at hc;exact hno _ (pY hi) c hc
   have e3:(y9 s.H.length k sz' j vrows).set j (vrows[j].set k (.gl (s.H.length+j) sz' []))=y9 s.H.length k sz' (j+1) vrows:=by
    unfold y9;refine rp λi=>?_
    rw[pK,rQ,rQ];by_cases hi:j=i
    ·subst hi;rw[pA O,pA (aq hj),pa hj];simp
    ·rw[pw hi];cases vrows[i]? with
     |none=>rfl
     |some r=>
      by_cases h2:i<j
      ·simp[h2,show i<j+1 by omega]
      ·simp[h2,show ¬i<j+1 by omega]
   rw[er,<-e3];dsimp only at w;rw[el,fK _ _ mB,rz]at w;rw[<-rR];exact w
  ·have e3:y9 s.H.length k sz' (j+1) vrows=y9 s.H.length k sz' j vrows:=by
    unfold y9;refine rp λi=>?_
    rw[rQ,rQ];cases hi:vrows[i]? with
    |none=>rfl
    |some r=>
     have:=(gZ.1 hi).1;simp[show i<j by omega,show i<j+1 by omega]
   rw[er,e3,<-rR];exact zt.zz8 (B:=B) (s:=⟨s.tmps,s.H.set vid ⟨1,vty,vsz,y9 s.H.length k sz' j vrows,0⟩++List.replicate j (⟨4,ty',sz',[],0⟩:Ob)⟩) ty' sz'
def zt.zEc(vid:Nat){vty:TypeId}{vsz:Nat}{rows rows':List (List C)}(hv:s.H[vid]?=some ⟨1,vty,vsz,rows,0⟩)(hl:rows'.length=rows.length)(hw:∀(i:Nat) r r',rows[i]?=some r->rows'[i]?=some r'->nJ r r')
 (hno:∀r∈rows,∀c∈r,zB c=true)(hno':∀r∈rows',∀c∈r,zB c=true):zt B s ⟨s.tmps,s.H.set vid ⟨1,vty,vsz,rows',0⟩⟩:=λm w E a hs=>by
 have hrow:=hs.heap.rowsOf hv (.inl O)
 have hlen:∀{a b:List C},nJ a b->b.length=a.length:=by
  intro a b h
  induction h with
  |nil=>rfl
  |cons _ _ ih=>simp[ih]
 have hget:∀{a b:List C},nJ a b->∀(k:Nat) c c',a[k]?=some c->b[k]?=some c'->WC c c':=by
  intro a b h
  induction h with
  |nil=>intro k c c' h;simp at h
  |cons h1 _ ih=>
   intro k c c' e1 e2;cases k with
   |zero=>simp at e1 e2;subst e1 e2;exact h1
   |succ k=>exact ih k c c' (aq e1) uZ
 obtain⟨hR,g⟩:=hs.heap.Fy hv (.inl O) (ob':=⟨1,vty,vsz,rows',0⟩) (.inl O) (λh=>by cases h) rfl rfl hl (λr hr=>by
   obtain⟨i,hi⟩:=pJ.1 hr;obtain⟨r0,h0⟩:∃r0,rows[i]?=some r0:=⟨_,pa (by have q:=(gZ.1 hi).1;have q:i<rows'.length:=q;omega)⟩;rw[hlen (hw i r0 r h0 hi)];exact hrow r0 (pq h0)) hno hno' λi k c c' v e1 e2 hl' _=>by
  unfold cellAt at e1 e2;cases h1:rows[i]? with
  |none=>rw[h1]at e1;cases e1
  |some r=>
   cases h2:rows'[i]? with
   |none=>rw[h2]at e2;cases e2
   |some r'=>
    rw[h1]at e1;rw[h2]at e2;exact hget (hw i r r' h1 h2) k c c' e1 e2 _ v hl'
 exact⟨E,⟨hR,hs.tmps,hs.defers,aq hs.base⟩,g.nD tD⟩
end
end Go.Ab
namespace Go.Wor
open Go.Hy
structure lW where
 ops:List lX
 done:Nat
 on:Bool
 m:lh
 given:List lM
abbrev QW:lh:=⟨⟨0,[],[],[],0,0,0,⟨[],[],[]⟩⟩,0,0,0,0,0,0,0,0,0,0,0,0,0,0,false,⟨0,0,0,0,0,0,0,⟨0,0,0,0,0,0⟩⟩,⟨0,0,0,0,0,0⟩⟩
def wA(ops:List lX):lW:=⟨ops,0,false,QW,[]⟩
def qX(X:List lW):Nat->List Nat
 |0=>[]
 |k+1=>match X[k]? with
  |some x=>if x.ops.length<=x.done then qX X k else qX X k++[k]
  |none=>qX X k
def qq(x:lW)(m:lh):lW:=if m.done then ⟨x.ops,x.done+1,false,m,x.given++[m.answer]⟩ else ⟨x.ops,x.done,true,m,x.given⟩
end Go.Wor
namespace Go.Ply
open Go.Ab Go.Proofs Tryz Go.Hy Go.Wor
def qG(b i:Nat)(x:lW):List C:=lP x.ops::I (x.done:Int)::Bo x.on::(AT x.m++[.gl (b+i) 13 (x.given.map xK)])
def E4(x:lW):Bool:=decide (x.ops.length<=x.done)
abbrev Jk:lD:=⟨0,0,0,0,0,false,0,false,false,false,⟨0,0,0,0,0,0,0,⟨0,0,0,0,0,0⟩⟩⟩
def wa(X:List lW)(i:Nat):List lM:=match X[i]? with
 |some x=>x.given
 |none=>[]
abbrev lF(X:List lW)(i:Nat):Ob:=⟨4,51,13,(wa X i).map xK,0⟩
abbrev Bm(b:Nat)(X:List lW):Ob:=⟨1,0,48,X.mapIdx (qG b),0⟩
abbrev Ct(b:Nat)(X:List lW):zo:=[Bm b X,lF X 0,lF X 1,lF X 2,lF X 3,lF X 4,lF X 5,lF X 6,lF X 7]
def Vl(b i n:Nat)(x:lW)(h:b+i<n):∀c∈qG b i x,jv n 9 c=true:=by
 have e:(qG b i x).all (jv n 9)=(decide (b+i<n) && true):=rfl;exact pH.1 (e.trans aI)
def zyr(b i:Nat)(x:lW):∀c∈qG b i x,zB c=true:=by
 have e:(qG b i x).all zB=true:=rfl;exact pH.1 e
def zbX{X:List lW}{b n t:Nat}{row:List C}(h:b+8<=n)(hX:X.length<=8)(hw:row.all (jv n 9)=true):∀r∈(X.mapIdx (qG b)).set t row,∀c∈r,jv n 9 c=true:=λr hr=>by
 rcases rC hr with hr|rfl
 ·obtain⟨i,hi,rfl⟩:=fW.1 hr;exact Vl b i n _ aw
 ·exact pH.1 hw
def zss(A0 A1 A2:Ob)(H:zo)(rows:List (List C))(t:Nat)(ops:List lX)(d:Int)(tl:List C)(hr:rows[t]?=some (lP ops::I d::tl)):
  tp 60 (A0::A1::A2::⟨1,0,48,rows,0⟩::H) [.ref 3 [] 48 t 0] (Bo (decide (ops.length<=d))) (A0::A1::A2::⟨1,0,48,rows,0⟩::H):=by
 have ml:(ops.map wy).length=ops.length:=pB ..;refine zc.zM (fn:=f60) func60 O (uH ?_);refine uE ?_;refine⟨_,hr,by show 1+1<=tl.length+1+1;omega,dd ?_⟩;refine⟨_,hr,by show 0+1<=tl.length+1+1;omega,dd ?_⟩;rw[ml];refine⟨λh=>?_,λh=>?_⟩
 ·rw[show decide ((ops.length:Int)<=d)=true from h];exact dN
 ·rw[show decide ((ops.length:Int)<=d)=false from h];exact dN
def znz(X:List lW)(b:Nat)(fu:Bool)(A0 A1 A2 A4 A5 A6 A7 A8 A9 A10 A11 A12 A13:Ob):tp 31 (A0::A1::A2::⟨1,0,48,X.mapIdx (qG b),0⟩::A4::A5::A6::A7::A8::A9::A10::A11::A12::[A13]) [.sl 3 [] 48 0 X.length fu] (.fn 59 [] [.ref 14 [] 1 0 0]) (A0::A1::A2::⟨1,0,48,X.mapIdx (qG b),0⟩::A4::A5::A6::A7::A8::A9::A10::A11::A12::[A13,⟨1,91,1,[[.sl 3 [] 48 0 X.length fu]],0⟩]):=by
 refine zc.zM (fn:=f31) func31 O (uH ?_);exact uJ
def zll(l:Nat)(X:List lW)(b:Nat)(fu:Bool)(hl:X.length<1000)(A0 A1 A2 A4 A5 A6 A7 A8 A9 A10 A11 A12:Ob)(Z:Nat->Ob)(Y:Nat->List Ob)
 (hy:∀k x,X[k]?=some x->E4 x=false->xd prog l (A0::A1::A2::⟨1,0,48,X.mapIdx (qG b),0⟩::A4::A5::A6::A7::A8::A9::A10::A11::A12::Z k::⟨1,91,1,[[.sl 3 [] 48 0 X.length fu]],0⟩::Y k) [I k] (Bo true) (A0::A1::A2::⟨1,0,48,X.mapIdx (qG b),0⟩::A4::A5::A6::A7::A8::A9::A10::A11::A12::Z (k+1)::⟨1,91,1,[[.sl 3 [] 48 0 X.length fu]],0⟩::Y (k+1)))(hn:∀k x,X[k]?=some x->E4 x=true->Z (k+1)=Z k/\Y (k+1)=Y k):
  tp 59 (A0::A1::A2::⟨1,0,48,X.mapIdx (qG b),0⟩::A4::A5::A6::A7::A8::A9::A10::A11::A12::Z 0::⟨1,91,1,[[.sl 3 [] 48 0 X.length fu]],0⟩::Y 0) [.v (.func (.yield l) #[] #[]),.ref 14 [] 1 0 0] (.lK []) (A0::A1::A2::⟨1,0,48,X.mapIdx (qG b),0⟩::A4::A5::A6::A7::A8::A9::A10::A11::A12::Z X.length::⟨1,91,1,[[.sl 3 [] 48 0 X.length fu]],0⟩::Y X.length):=by
 refine zc.zM (fn:=f59) func59 O (uH ?_);refine zW.seq X.length (λk=>(.v (.func (.yield l) #[] #[])::.ref 14 [] 1 0 0::.za::.za::.sl 3 [] 48 0 X.length fu::I X.length::I k::mF ([.za,.za,.za,.za,.za,.za,.za]))) (λk=>A0::A1::A2::⟨1,0,48,X.mapIdx (qG b),0⟩::A4::A5::A6::A7::A8::A9::A10::A11::A12::Z k::⟨1,91,1,[[.sl 3 [] 48 0 X.length fu]],0⟩::Y k) (λk=>True) ?_ trivial (λk hk hr=>?_) (λhr=>?_)
 ·exact cC
 ·have hx:X[k]?=some X[k]:=pa hk;have hg:(X.mapIdx (qG b))[k]?=some (qG b k X[k]):=by rw[rQ,hx];rfl
  have ov:=zss A0 A1 A2 (A4::A5::A6::A7::A8::A9::A10::A11::A12::Z k::⟨1,91,1,[[.sl 3 [] 48 0 X.length fu]],0⟩::Y k) (X.mapIdx (qG b)) k X[k].ops X[k].done _ hg;conv=>whnf
  refine uF ?_;refine⟨aw,by rw[toNat_cast];exact hk,dd ?_⟩;rw[show 0+((k:Int)).toNat=k from aj];refine⟨_,_,ov,dd ?_⟩;have eo:decide ((X[k].ops.length:Int)<=(X[k].done:Int))=E4 X[k]:=by unfold E4;simp
  refine⟨λh=>?_,λh=>?_⟩
  ·have ho:=eo.symm.trans h;obtain⟨e1,e2⟩:=hn k _ hx ho;refine dd ?_;refine tf ?_
   refine .inl ⟨rfl,?_,trivial⟩;rw[zy aw,e1,e2];exact cC
  ·have ho:=eo.symm.trans h;refine dd ?_;refine tf ?_
   refine⟨_,_,hy k _ hx ho,dd ?_⟩;refine tf ?_
   refine .inl ⟨rfl,?_,trivial⟩;rw[zy aw];exact cC
 ·refine uD ?_;exact dx
def Bu(X:List lW)(a o:Ob)(tl:List Ob):Nat->zo
 |0=>a::o::lF X 1::lF X 2::lF X 3::lF X 4::lF X 5::lF X 6::lF X 7::tl
 |1=>a::lF X 0::o::lF X 2::lF X 3::lF X 4::lF X 5::lF X 6::lF X 7::tl
 |2=>a::lF X 0::lF X 1::o::lF X 3::lF X 4::lF X 5::lF X 6::lF X 7::tl
 |3=>a::lF X 0::lF X 1::lF X 2::o::lF X 4::lF X 5::lF X 6::lF X 7::tl
 |4=>a::lF X 0::lF X 1::lF X 2::lF X 3::o::lF X 5::lF X 6::lF X 7::tl
 |5=>a::lF X 0::lF X 1::lF X 2::lF X 3::lF X 4::o::lF X 6::lF X 7::tl
 |6=>a::lF X 0::lF X 1::lF X 2::lF X 3::lF X 4::lF X 5::o::lF X 7::tl
 |_=>a::lF X 0::lF X 1::lF X 2::lF X 3::lF X 4::lF X 5::lF X 6::o::tl
abbrev Dg(l:List lM):Ob:=⟨4,51,13,l.map xK,0⟩
def eight{t:Nat}(h:t<8):t=0\/t=1\/t=2\/t=3\/t=4\/t=5\/t=6\/t=7:=by omega
def zxH(X:List lW){t:Nat}(h:t<8):Ct 1 X=Bu X (Bm 1 X) (Dg (wa X t)) [] t:=by
 rcases eight h with rfl|rfl|rfl|rfl|rfl|rfl|rfl|rfl <;> rfl
end Go.Ply
