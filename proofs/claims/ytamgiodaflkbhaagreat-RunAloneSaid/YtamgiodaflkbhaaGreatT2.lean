import Derived.Test.YtamgiodaflkbhaaGreatTJ
import Derived.Test.YtamgiodaflkbhaaGreatProg
import Derived.Test.YtamgiodaflkbhaaGreatTZ
set_option linter.all false
set_option maxRecDepth 100000
set_option maxHeartbeats 4000000
namespace Go.Ab
variable{vty:TypeId}{vsz:Nat}
section
variable {B:Nat} {s:S}
def zk.XN(vid i k:Nat)(ty':TypeId)(sz':Nat){sz0:Nat}{r:List C}{vrows rows:List (List C)}(hv:s.H[vid]?=some ⟨1,vty,vsz,vrows,0⟩)(hr:vrows[i]?=some r)(hk:r[k]?=some (.eM 1 sz0 rows))(hz:rows=[]\/sz'=sz0)
 (hno:∀r∈vrows,∀c∈r,zG c=true):
  zk B s ⟨s.tmps,s.H.set vid ⟨1,vty,vsz,vrows.set i (r.set k (.gl s.H.length sz' rows)),0⟩++[⟨4,ty',sz',rows,0⟩]⟩:=λm w E a hs=>by
 obtain⟨cur,e,h3,h4,h5⟩:=(hs.heap.base.fb _ _ _ _ _ hv (vG hv (.inl V))).fb;obtain⟨u,hu,ho⟩:=h5 i k _ (show cellAt vrows i k=some (.eM 1 sz0 rows) by unfold cellAt;rw[hr];exact hk);rw[qN.loose V]at ho;have hl:L E (.eM 1 sz0 rows) u:=ax
 obtain⟨E1,hh1,hl1,g1⟩:=hs.heap.Dx hl ty' hz;have eP:vid<s.H.length:=(gN.1 hv).1;have hob1:(s.H++[⟨4,ty',sz',rows,0⟩])[vid]?=some ⟨1,vty,vsz,vrows,0⟩:=by rw[gW eP];exact hv
 have hrow:=hh1.rowsOf hob1 (.inl V);have hβ:E1.β vid []=E.β vid []:=g1.le.β vid [] (by rw[hs.heap.n];exact eP)
 have hcu:w.cell? ⟨E1.β vid [],i*vsz+k,none⟩=some u:=by
  unfold World.cell?;rw[hβ,h3];simpa using hu
 have hin:=gT hr
 obtain⟨hR,g2⟩:=hh1.nX hob1 (.inl V) (ob':=⟨1,vty,vsz,vrows.set i (r.set k (.gl s.H.length sz' rows)),0⟩) (.inl V) (λh=>by cases h) rfl rfl ah (λq hq=>by
   rcases rB hq with h|rfl
   .exact hrow q h
   .simpa using hrow r hin) hno (λq hq c hc=>by
   rcases rB hq with h|rfl
   .exact hno q h c hc
   .rcases rB hc with h|rfl
    .exact hno r hin c h
    .rfl) λi' k' c c' v e1 e2 hl' hv'=>by
  have hat:∀X:Env,X.at 1=X:=λX=>by simp[Env.at]
  rw[hat]at hl'|-;unfold cellAt at e1 e2;rw[pd]at e2;split at e2
  .rename_i e;subst e;split at e2
   .simp only[pJ]at e2;rw[hr]at e1;simp only[pJ]at e1;rw[pd]at e2;split at e2
    .rename_i e;subst e;split at e2
     .cases e2
      rw[hcu]at hv';cases hv'
      exact hl1
     .cases e2
    .rw[e1]at e2;cases e2
     exact hl'
   .cases e2
  .rw[e1]at e2;cases e2
   exact hl'
 rw[uy _ _ eP]at hR g2;exact dJ
def zk.Vx(ty':TypeId)(sz':Nat):zk B s ⟨s.tmps,s.H++[⟨4,ty',sz',[],0⟩]⟩:=λm w E a hs=>by
 obtain⟨E1,hh1,hl1,g1⟩:=hs.heap.Dx (L.xu (E:=E) 1 0 (.inr V)) ty' (sz':=sz') (.inl V);exact⟨E1,⟨hh1,hs.tmps.mono g1.le,hs.defers.grow hs.heap g1,ay⟩,g1.ix tA⟩
def xQ(n0 k sz' j:Nat)(vrows:List (List C)):List (List C):=vrows.mapIdx λi r=>if i<j then r.set k (.gl (n0+i) sz' []) else r
def zk.LI(vid k:Nat)(ty':TypeId)(sz':Nat){vty:TypeId}{vsz sz0:Nat}{vrows:List (List C)}(hv:s.H[vid]?=some ⟨1,vty,vsz,vrows,0⟩)(hk:∀r∈vrows,r[k]?=some (.eM 1 sz0 []))(hno:∀r∈vrows,∀c∈r,zG c=true):
  ∀j:Nat,zk B s ⟨s.tmps,s.H.set vid ⟨1,vty,vsz,xQ s.H.length k sz' j vrows,0⟩++List.replicate j (⟨4,ty',sz',[],0⟩:Ob)⟩
 |0=>by
  have e:xQ s.H.length k sz' 0 vrows=vrows:=by
   unfold xQ;rw[List.mapIdx_eq_iff];intro i;simp
  have e2:s.H.set vid ⟨1,vty,vsz,vrows,0⟩=s.H:=by
   obtain⟨h1,h2⟩:=gN.1 hv;rw[<-h2];exact List.set_getElem_self h1
  rw[e,e2];simpa using zk.refl s
 |j+1=>by
  have eP:vid<s.H.length:=(gN.1 hv).1;refine(zk.LI vid k ty' sz' hv hk hno j).trans ?_;have el:(s.H.set vid ⟨1,vty,vsz,xQ s.H.length k sz' j vrows,0⟩++List.replicate j (⟨4,ty',sz',[],0⟩:Ob)).length=s.H.length+j:=ah
  have hv':(s.H.set vid ⟨1,vty,vsz,xQ s.H.length k sz' j vrows,0⟩++List.replicate j (⟨4,ty',sz',[],0⟩:Ob))[vid]?=some ⟨1,vty,vsz,xQ s.H.length k sz' j vrows,0⟩:=by
   rw[gW mD,gX eP]
  have er:List.replicate (j+1) (⟨4,ty',sz',[],0⟩:Ob)=List.replicate j (⟨4,ty',sz',[],0⟩:Ob)++[⟨4,ty',sz',[],0⟩]:=s9;by_cases hj:j<vrows.length
  .have hr:(xQ s.H.length k sz' j vrows)[j]?=some vrows[j]:=by
    unfold xQ;rw[rb,gL hj];simp
   have w:=zk.XN (B:=B) (s:=⟨s.tmps,s.H.set vid ⟨1,vty,vsz,xQ s.H.length k sz' j vrows,0⟩++List.replicate j (⟨4,ty',sz',[],0⟩:Ob)⟩) vid j k ty' sz' hv' hr (hk _ (pH hj)) (.inl V) λr hr c hc=>by
    unfold xQ at hr;obtain⟨i,hi,e⟩:=uz.1 hr;split at e
    .rw[<-e]at hc;rcases rB hc with h|rfl
     .exact hno _ (pH hi) c h
     .rfl
    .rw[<-e]at hc;exact hno _ (pH hi) c hc
   have e3:(xQ s.H.length k sz' j vrows).set j (vrows[j].set k (.gl (s.H.length+j) sz' []))=xQ s.H.length k sz' (j+1) vrows:=by
    unfold xQ;refine rh λi=>?_
    rw[pd,rb,rb];by_cases hi:j=i
    .subst hi;rw[gS V,gS (ai hj),gL hj];simp
    .rw[gP hi];cases vrows[i]? with
     |none=>rfl
     |some r=>
      by_cases h2:i<j
      .simp[h2,show i<j+1 by omega]
      .simp[h2,show ¬i<j+1 by omega]
   rw[er,<-e3];dsimp only at w;rw[el,uy _ _ mD,pL]at w;rw[<-rL];exact w
  .have e3:xQ s.H.length k sz' (j+1) vrows=xQ s.H.length k sz' j vrows:=by
    unfold xQ;refine rh λi=>?_
    rw[rb,rb];cases hi:vrows[i]? with
    |none=>rfl
    |some r=>
     have:=(gN.1 hi).1;simp[show i<j by omega,show i<j+1 by omega]
   rw[er,e3,<-rL];exact zk.Vx (B:=B) (s:=⟨s.tmps,s.H.set vid ⟨1,vty,vsz,xQ s.H.length k sz' j vrows,0⟩++List.replicate j (⟨4,ty',sz',[],0⟩:Ob)⟩) ty' sz'
def zk.Xw(vid:Nat){rows rows':List (List C)}(hv:s.H[vid]?=some ⟨1,vty,vsz,rows,0⟩)(hl:rows'.length=rows.length)(hw:∀(i:Nat) r r',rows[i]?=some r->rows'[i]?=some r'->iq r r')
 (hno:∀r∈rows,∀c∈r,zG c=true)(hno':∀r∈rows',∀c∈r,zG c=true):zk B s ⟨s.tmps,s.H.set vid ⟨1,vty,vsz,rows',0⟩⟩:=λm w E a hs=>by
 have hrow:=hs.heap.rowsOf hv (.inl V)
 have hlen:∀{a b:List C},iq a b->b.length=a.length:=by
  intro a b h
  induction h with
  |nil=>rfl
  |cons _ _ ih=>simp[ih]
 have hget:∀{a b:List C},iq a b->∀(k:Nat) c c',a[k]?=some c->b[k]?=some c'->WC c c':=by
  intro a b h
  induction h with
  |nil=>intro k c c' h;simp at h
  |cons h1 _ ih=>
   intro k c c' e1 e2;cases k with
   |zero=>simp at e1 e2;subst e1 e2;exact h1
   |succ k=>exact ih k c c' (ai e1) uX
 obtain⟨hR,g⟩:=hs.heap.nX hv (.inl V) (ob':=⟨1,vty,vsz,rows',0⟩) (.inl V) (λh=>by cases h) rfl rfl hl (λr hr=>by
   obtain⟨i,hi⟩:=pA.1 hr;obtain⟨r0,h0⟩:∃r0,rows[i]?=some r0:=⟨_,gL (by have q:=(gN.1 hi).1;have q:i<rows'.length:=q;omega)⟩;rw[hlen (hw i r0 r h0 hi)];exact hrow r0 (gT h0)) hno hno' λi k c c' v e1 e2 hl' _=>by
  unfold cellAt at e1 e2;cases h1:rows[i]? with
  |none=>rw[h1]at e1;cases e1
  |some r=>
   cases h2:rows'[i]? with
   |none=>rw[h2]at e2;cases e2
   |some r'=>
    rw[h1]at e1;rw[h2]at e2;exact hget (hw i r r' h1 h2) k c c' e1 e2 _ v hl'
 exact gp
end
end Go.Ab
namespace Go.Wor
open Go.Hy
structure fE where
 ops:List ft
 done:Nat
 on:Bool
 m:eQ
 given:List fe
abbrev My:eQ:=⟨⟨0,[],[],[],0,0,0,⟨[],[],[]⟩⟩,0,0,0,0,0,0,0,0,0,0,0,0,0,0,false,⟨0,0,0,0,0,0,0,⟨0,0,0,0,0,0⟩⟩,⟨0,0,0,0,0,0⟩⟩
def iW(ops:List ft):fE:=⟨ops,0,false,My,[]⟩
def qL(X:List fE):Nat->List Nat
 |0=>[]
 |k+1=>match X[k]? with
  |some x=>if x.ops.length<=x.done then qL X k else qL X k++[k]
  |none=>qL X k
def yH(x:fE)(m:eQ):fE:=if m.done then ⟨x.ops,x.done+1,false,m,x.given++[m.answer]⟩ else ⟨x.ops,x.done,true,m,x.given⟩
def AW(x:fE)(t:Int)(o:ft):eQ:=if x.on then x.m else Beg.yg t o x.given
def Hc(e:e7)(x:fE):e7:={e with op:=x.done,yE:=!x.on}
end Go.Wor
namespace Go.Ply
open Go.Ab Go.Proofs Tryz Go.Hy Go.Wor
variable{t:Nat}
def qe(b i:Nat)(x:fE):List C:=lP x.ops::I (x.done:Int)::Bo x.on::(lp x.m++[.gl (b+i) 13 (x.given.map jr)])
def Ar(x:fE):Bool:=decide (x.ops.length<=x.done)
abbrev lz:e7:=⟨0,0,0,0,0,false,0,false,false,false,⟨0,0,0,0,0,0,0,⟨0,0,0,0,0,0⟩⟩⟩
def vi(X:List fE)(i:Nat):List fe:=match X[i]? with
 |some x=>x.given
 |none=>[]
abbrev eS(X:List fE)(i:Nat):Ob:=⟨4,55,13,(vi X i).map jr,0⟩
abbrev lK(b:Nat)(X:List fE):Ob:=⟨1,0,48,X.mapIdx (qe b),0⟩
abbrev m9(b:Nat)(X:List fE):zq:=[lK b X,eS X 0,eS X 1,eS X 2,eS X 3,eS X 4,eS X 5,eS X 6,eS X 7]
def KS(b i n:Nat)(x:fE)(h:b+i<n):∀c∈qe b i x,qE n 9 c=true:=by
 have e:(qe b i x).all (qE n 9)=(decide (b+i<n) && true):=rfl;exact gV.1 (e.trans aA)
def U4(b i:Nat)(x:fE):∀c∈qe b i x,zG c=true:=by
 have e:(qe b i x).all zG=true:=rfl;exact gV.1 e
def wU{X:List fE}{b n:Nat}{row:List C}(h:b+8<=n)(hX:X.length<=8)(hw:row.all (qE n 9)=true):∀r∈(X.mapIdx (qe b)).set t row,∀c∈r,qE n 9 c=true:=λr hr=>by
 rcases rB hr with hr|rfl
 .obtain⟨i,hi,rfl⟩:=uz.1 hr;exact KS b i n _ an
 .exact gV.1 hw
def SH(A0 A1 A2:Ob)(H:zq)(rows:List (List C))(t:Nat)(ops:List ft)(d:Int)(tl:List C)(hr:rows[t]?=some (lP ops::I d::tl)):
  th 44 (A0::A1::A2::⟨1,0,48,rows,0⟩::H) [.ref 3 [] 48 t 0] (Bo (decide (ops.length<=d))) (A0::A1::A2::⟨1,0,48,rows,0⟩::H):=by
 have ml:(ops.map vx).length=ops.length:=gO ..;refine zb.zZ (fn:=f44) func44 V (uH ?_);refine uE ?_;refine⟨_,hr,by show 1+1<=tl.length+1+1;omega,dd ?_⟩;refine⟨_,hr,by show 0+1<=tl.length+1+1;omega,dd ?_⟩;rw[ml];refine⟨λh=>?_,λh=>?_⟩
 .rw[show decide ((ops.length:Int)<=d)=true from h];exact dO
 .rw[show decide ((ops.length:Int)<=d)=false from h];exact dO
def OR(X:List fE)(b:Nat)(fu:Bool)(A0 A1 A2 A4 A5 A6 A7 A8 A9 A10 A11 A12 A13:Ob):th 17 (A0::A1::A2::⟨1,0,48,X.mapIdx (qe b),0⟩::A4::A5::A6::A7::A8::A9::A10::A11::A12::[A13]) [.sl 3 [] 48 0 X.length fu] (.fn 43 [] [.ref 14 [] 1 0 0]) (A0::A1::A2::⟨1,0,48,X.mapIdx (qe b),0⟩::A4::A5::A6::A7::A8::A9::A10::A11::A12::[A13,⟨1,60,1,[[.sl 3 [] 48 0 X.length fu]],0⟩]):=by
 refine zb.zZ (fn:=f17) func17 V (uH ?_);exact uJ
def NS(l:Nat)(X:List fE)(b:Nat)(fu:Bool)(hl:X.length<1000)(A0 A1 A2 A4 A5 A6 A7 A8 A9 A10 A11 A12:Ob)(Z:Nat->Ob)(Y:Nat->List Ob)
 (hy:∀k x,X[k]?=some x->Ar x=false->jn prog l (A0::A1::A2::⟨1,0,48,X.mapIdx (qe b),0⟩::A4::A5::A6::A7::A8::A9::A10::A11::A12::Z k::⟨1,60,1,[[.sl 3 [] 48 0 X.length fu]],0⟩::Y k) [I k] (Bo true) (A0::A1::A2::⟨1,0,48,X.mapIdx (qe b),0⟩::A4::A5::A6::A7::A8::A9::A10::A11::A12::Z (k+1)::⟨1,60,1,[[.sl 3 [] 48 0 X.length fu]],0⟩::Y (k+1)))(hn:∀k x,X[k]?=some x->Ar x=true->Z (k+1)=Z k/\Y (k+1)=Y k):
  th 43 (A0::A1::A2::⟨1,0,48,X.mapIdx (qe b),0⟩::A4::A5::A6::A7::A8::A9::A10::A11::A12::Z 0::⟨1,60,1,[[.sl 3 [] 48 0 X.length fu]],0⟩::Y 0) [.v (.func (.yield l) #[] #[]),.ref 14 [] 1 0 0] (.eR []) (A0::A1::A2::⟨1,0,48,X.mapIdx (qe b),0⟩::A4::A5::A6::A7::A8::A9::A10::A11::A12::Z X.length::⟨1,60,1,[[.sl 3 [] 48 0 X.length fu]],0⟩::Y X.length):=by
 refine zb.zZ (fn:=f43) func43 V (uH ?_);refine zH.seq X.length (λk=>(.v (.func (.yield l) #[] #[])::.ref 14 [] 1 0 0::.za::.za::.sl 3 [] 48 0 X.length fu::I X.length::I k::mK ([.za,.za,.za,.za,.za,.za,.za]))) (λk=>A0::A1::A2::⟨1,0,48,X.mapIdx (qe b),0⟩::A4::A5::A6::A7::A8::A9::A10::A11::A12::Z k::⟨1,60,1,[[.sl 3 [] 48 0 X.length fu]],0⟩::Y k) (λk=>True) ?_ trivial (λk hk hr=>?_) (λhr=>?_)
 .exact cC
 .have hx:X[k]?=some X[k]:=gL hk;have hg:(X.mapIdx (qe b))[k]?=some (qe b k X[k]):=by rw[rb,hx];rfl
  have ov:=SH A0 A1 A2 (A4::A5::A6::A7::A8::A9::A10::A11::A12::Z k::⟨1,60,1,[[.sl 3 [] 48 0 X.length fu]],0⟩::Y k) (X.mapIdx (qe b)) k X[k].ops X[k].done _ hg;conv=>whnf
  refine uF ?_;refine⟨an,by rw[toNat_cast];exact hk,dd ?_⟩;rw[show 0+((k:Int)).toNat=k from ah];refine⟨_,_,ov,dd ?_⟩;have eo:decide ((X[k].ops.length:Int)<=(X[k].done:Int))=Ar X[k]:=by unfold Ar;simp
  refine⟨λh=>?_,λh=>?_⟩
  .have ho:=eo.symm.trans h;obtain⟨e1,e2⟩:=hn k _ hx ho;refine zac ?_
   refine zai ?_;rw[zm an,e1,e2];exact cC
  .have ho:=eo.symm.trans h;refine zac ?_
   refine⟨_,_,hy k _ hx ho,dd ?_⟩;refine td ?_
   refine zai ?_;rw[zm an];exact cC
 .refine uD ?_;exact dK
def l6(X:List fE)(a o:Ob)(tl:List Ob):Nat->zq
 |0=>a::o::eS X 1::eS X 2::eS X 3::eS X 4::eS X 5::eS X 6::eS X 7::tl
 |1=>a::eS X 0::o::eS X 2::eS X 3::eS X 4::eS X 5::eS X 6::eS X 7::tl
 |2=>a::eS X 0::eS X 1::o::eS X 3::eS X 4::eS X 5::eS X 6::eS X 7::tl
 |3=>a::eS X 0::eS X 1::eS X 2::o::eS X 4::eS X 5::eS X 6::eS X 7::tl
 |4=>a::eS X 0::eS X 1::eS X 2::eS X 3::o::eS X 5::eS X 6::eS X 7::tl
 |5=>a::eS X 0::eS X 1::eS X 2::eS X 3::eS X 4::o::eS X 6::eS X 7::tl
 |6=>a::eS X 0::eS X 1::eS X 2::eS X 3::eS X 4::eS X 5::o::eS X 7::tl
 |_=>a::eS X 0::eS X 1::eS X 2::eS X 3::eS X 4::eS X 5::eS X 6::o::tl
abbrev nM(l:List fe):Ob:=⟨4,55,13,l.map jr,0⟩
def eight(h:t<8):t=0\/t=1\/t=2\/t=3\/t=4\/t=5\/t=6\/t=7:=by omega
def Vi(X:List fE)(h:t<8):m9 1 X=l6 X (lK 1 X) (nM (vi X t)) [] t:=by
 rcases eight h with rfl|rfl|rfl|rfl|rfl|rfl|rfl|rfl <;> rfl
end Go.Ply
