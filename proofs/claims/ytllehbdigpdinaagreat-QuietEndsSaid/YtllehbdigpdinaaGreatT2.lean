import Derived.Test.YtllehbdigpdinaaGreatTJ
import Derived.Test.YtllehbdigpdinaaGreatProg
set_option linter.all false
set_option maxRecDepth 100000
set_option maxHeartbeats 4000000
namespace Go.Ab
variable{vty:TypeId}{vsz:Nat}
section
variable {B:Nat} {s:S}
def zp.Vf(vid i k:Nat)(ty':TypeId)(sz':Nat){sz0:Nat}{r:List C}{vrows rows:List (List C)}(hv:s.H[vid]?=some ⟨1,vty,vsz,vrows,0⟩)(hr:vrows[i]?=some r)(hk:r[k]?=some (.fF 1 sz0 rows))(hz:rows=[]\/sz'=sz0)
 (hno:∀r∈vrows,∀c∈r,zB c=true):
  zp B s ⟨s.tmps,s.H.set vid ⟨1,vty,vsz,vrows.set i (r.set k (.gl s.H.length sz' rows)),0⟩++[⟨4,ty',sz',rows,0⟩]⟩:=λm w E a hs=>by
 obtain⟨cur,e,h3,h4,h5⟩:=(hs.heap.base.fR _ _ _ _ _ hv (DT hv (.inl V))).fR;obtain⟨u,hu,ho⟩:=h5 i k _ (show cellAt vrows i k=some (.fF 1 sz0 rows) by unfold cellAt;rw[hr];exact hk);rw[jf.loose V]at ho;have hl:L E (.fF 1 sz0 rows) u:=aF
 obtain⟨E1,hh1,hl1,g1⟩:=hs.heap.Hu hl ty' hz;have fE:vid<s.H.length:=(gh.1 hv).1;have hob1:(s.H++[⟨4,ty',sz',rows,0⟩])[vid]?=some ⟨1,vty,vsz,vrows,0⟩:=by rw[gF fE];exact hv
 have hrow:=hh1.rowsOf hob1 (.inl V);have hβ:E1.β vid []=E.β vid []:=g1.le.β vid [] (by rw[hs.heap.n];exact fE)
 have hcu:w.cell? ⟨E1.β vid [],i*vsz+k,none⟩=some u:=by
  unfold World.cell?;rw[hβ,h3];simpa using hu
 have hin:=gu hr
 obtain⟨hR,g2⟩:=hh1.Dj hob1 (.inl V) (ob':=⟨1,vty,vsz,vrows.set i (r.set k (.gl s.H.length sz' rows)),0⟩) (.inl V) (λh=>by cases h) rfl rfl aj (λq hq=>by
   rcases pE hq with h|rfl
   .exact hrow q h
   .simpa using hrow r hin) hno (λq hq c hc=>by
   rcases pE hq with h|rfl
   .exact hno q h c hc
   .rcases pE hc with h|rfl
    .exact hno r hin c h
    .rfl) λi' k' c c' v e1 e2 hl' hv'=>by
  have hat:∀X:Env,X.at 1=X:=λX=>by simp[Env.at]
  rw[hat]at hl'|-;unfold cellAt at e1 e2;rw[gJ]at e2;split at e2
  .rename_i e;subst e;split at e2
   .simp only[gW]at e2;rw[hr]at e1;simp only[gW]at e1;rw[gJ]at e2;split at e2
    .rename_i e;subst e;split at e2
     .cases e2
      rw[hcu]at hv';cases hv'
      exact hl1
     .cases e2
    .rw[e1]at e2;cases e2
     exact hl'
   .cases e2
  .rw[e1]at e2;cases e2
   exact hl'
 rw[eE _ _ fE]at hR g2;exact dm
def zp.zxZ(ty':TypeId)(sz':Nat):zp B s ⟨s.tmps,s.H++[⟨4,ty',sz',[],0⟩]⟩:=λm w E a hs=>by
 obtain⟨E1,hh1,hl1,g1⟩:=hs.heap.Hu (L.xE (E:=E) 1 0 (.inr V)) ty' (sz':=sz') (.inl V);exact⟨E1,⟨hh1,hs.tmps.mono g1.le,hs.defers.grow hs.heap g1,aG⟩,g1.iX tB⟩
def yt(n0 k sz' j:Nat)(vrows:List (List C)):List (List C):=vrows.mapIdx λi r=>if i<j then r.set k (.gl (n0+i) sz' []) else r
def zp.R4(vid k:Nat)(ty':TypeId)(sz':Nat){vty:TypeId}{vsz sz0:Nat}{vrows:List (List C)}(hv:s.H[vid]?=some ⟨1,vty,vsz,vrows,0⟩)(hk:∀r∈vrows,r[k]?=some (.fF 1 sz0 []))(hno:∀r∈vrows,∀c∈r,zB c=true):
  ∀j:Nat,zp B s ⟨s.tmps,s.H.set vid ⟨1,vty,vsz,yt s.H.length k sz' j vrows,0⟩++List.replicate j (⟨4,ty',sz',[],0⟩:Ob)⟩
 |0=>by
  have e:yt s.H.length k sz' 0 vrows=vrows:=by
   unfold yt;rw[List.mapIdx_eq_iff];intro i;simp
  have e2:s.H.set vid ⟨1,vty,vsz,vrows,0⟩=s.H:=by
   obtain⟨h1,h2⟩:=gh.1 hv;rw[<-h2];exact eu h1
  rw[e,e2];simpa using zp.refl s
 |j+1=>by
  have fE:vid<s.H.length:=(gh.1 hv).1;refine(zp.R4 vid k ty' sz' hv hk hno j).trans ?_;have el:(s.H.set vid ⟨1,vty,vsz,yt s.H.length k sz' j vrows,0⟩++List.replicate j (⟨4,ty',sz',[],0⟩:Ob)).length=s.H.length+j:=aj
  have hv':(s.H.set vid ⟨1,vty,vsz,yt s.H.length k sz' j vrows,0⟩++List.replicate j (⟨4,ty',sz',[],0⟩:Ob))[vid]?=some ⟨1,vty,vsz,yt s.H.length k sz' j vrows,0⟩:=by
   rw[gF tR,gD fE]
  have er:List.replicate (j+1) (⟨4,ty',sz',[],0⟩:Ob)=List.replicate j (⟨4,ty',sz',[],0⟩:Ob)++[⟨4,ty',sz',[],0⟩]:=eF;by_cases hj:j<vrows.length
  .have hr:(yt s.H.length k sz' j vrows)[j]?=some vrows[j]:=by
    unfold yt;rw[pF,gk hj];simp
   have w:=zp.Vf (B:=B) (s:=⟨s.tmps,s.H.set vid ⟨1,vty,vsz,yt s.H.length k sz' j vrows,0⟩++List.replicate j (⟨4,ty',sz',[],0⟩:Ob)⟩) vid j k ty' sz' hv' hr (hk _ (pt hj)) (.inl V) λr hr c hc=>by
    unfold yt at hr;obtain⟨i,hi,e⟩:=uh.1 hr;split at e
    .rw[<-e]at hc;rcases pE hc with h|rfl
     .exact hno _ (pt hi) c h
     .rfl
    .rw[<-e]at hc;exact hno _ (pt hi) c hc
   have e3:(yt s.H.length k sz' j vrows).set j (vrows[j].set k (.gl (s.H.length+j) sz' []))=yt s.H.length k sz' (j+1) vrows:=by
    unfold yt;refine pC λi=>?_
    rw[gJ,pF,pF];by_cases hi:j=i
    .subst hi;rw[gz V,gz (aq hj),gk hj];simp
    .rw[gp hi];cases vrows[i]? with
     |none=>rfl
     |some r=>
      by_cases h2:i<j
      .simp[h2,show i<j+1 by omega]
      .simp[h2,show ¬i<j+1 by omega]
   rw[er,<-e3];dsimp only at w;rw[el,eE _ _ tR,pA]at w;rw[<-rO];exact w
  .have e3:yt s.H.length k sz' (j+1) vrows=yt s.H.length k sz' j vrows:=by
    unfold yt;refine pC λi=>?_
    rw[pF,pF];cases hi:vrows[i]? with
    |none=>rfl
    |some r=>
     have:=(gh.1 hi).1;simp[show i<j by omega,show i<j+1 by omega]
   rw[er,e3,<-rO];exact zp.zxZ (B:=B) (s:=⟨s.tmps,s.H.set vid ⟨1,vty,vsz,yt s.H.length k sz' j vrows,0⟩++List.replicate j (⟨4,ty',sz',[],0⟩:Ob)⟩) ty' sz'
def zp.UZ(vid:Nat){rows rows':List (List C)}(hv:s.H[vid]?=some ⟨1,vty,vsz,rows,0⟩)(hl:rows'.length=rows.length)(hw:∀(i:Nat) r r',rows[i]?=some r->rows'[i]?=some r'->i7 r r')
 (hno:∀r∈rows,∀c∈r,zB c=true)(hno':∀r∈rows',∀c∈r,zB c=true):zp B s ⟨s.tmps,s.H.set vid ⟨1,vty,vsz,rows',0⟩⟩:=λm w E a hs=>by
 have hrow:=hs.heap.rowsOf hv (.inl V)
 have hlen:∀{a b:List C},i7 a b->b.length=a.length:=by
  intro a b h
  induction h with
  |nil=>rfl
  |cons _ _ ih=>simp[ih]
 have hget:∀{a b:List C},i7 a b->∀(k:Nat) c c',a[k]?=some c->b[k]?=some c'->WC c c':=by
  intro a b h
  induction h with
  |nil=>intro k c c' h;simp at h
  |cons h1 _ ih=>
   intro k c c' e1 e2;cases k with
   |zero=>simp at e1 e2;subst e1 e2;exact h1
   |succ k=>exact ih k c c' (aq e1) uZ
 obtain⟨hR,g⟩:=hs.heap.Dj hv (.inl V) (ob':=⟨1,vty,vsz,rows',0⟩) (.inl V) (λh=>by cases h) rfl rfl hl (λr hr=>by
   obtain⟨i,hi⟩:=gI.1 hr;obtain⟨r0,h0⟩:∃r0,rows[i]?=some r0:=⟨_,gk (by have q:=(gh.1 hi).1;have q:i<rows'.length:=q;omega)⟩;rw[hlen (hw i r0 r h0 hi)];exact hrow r0 (gu h0)) hno hno' λi k c c' v e1 e2 hl' _=>by
  unfold cellAt at e1 e2;cases h1:rows[i]? with
  |none=>rw[h1]at e1;cases e1
  |some r=>
   cases h2:rows'[i]? with
   |none=>rw[h2]at e2;cases e2
   |some r'=>
    rw[h1]at e1;rw[h2]at e2;exact hget (hw i r r' h1 h2) k c c' e1 e2 _ v hl'
 exact⟨E,⟨hR,hs.tmps,hs.defers,aq hs.base⟩,g.iX tB⟩
end
end Go.Ab
namespace Go.Wor
open Go.Hy
structure fM where
 ops:List fQ
 done:Nat
 on:Bool
 m:fD
 given:List fN
abbrev Tv:fD:=⟨⟨0,[],[],[],0,0,0,⟨[],[],[]⟩⟩,0,0,0,0,0,0,0,0,0,0,0,0,0,0,false,⟨0,0,0,0,0,0,0,⟨0,0,0,0,0,0⟩⟩,⟨0,0,0,0,0,0⟩⟩
def kI(ops:List fQ):fM:=⟨ops,0,false,Tv,[]⟩
def qD(X:List fM):Nat->List Nat
 |0=>[]
 |k+1=>match X[k]? with
  |some x=>if x.ops.length<=x.done then qD X k else qD X k++[k]
  |none=>qD X k
def ql(x:fM)(m:fD):fM:=if m.done then ⟨x.ops,x.done+1,false,m,x.given++[m.answer]⟩ else ⟨x.ops,x.done,true,m,x.given⟩
end Go.Wor
namespace Go.Ply
open Go.Ab Go.Proofs Tryz Go.Hy Go.Wor
variable{t:Nat}
def qx(b i:Nat)(x:fM):List C:=lP x.ops::I (x.done:Int)::Bo x.on::(mJ x.m++[.gl (b+i) 13 (x.given.map xx)])
def CU(x:fM):Bool:=decide (x.ops.length<=x.done)
abbrev EV:fG:=⟨0,0,0,0,0,false,0,false,false,false,⟨0,0,0,0,0,0,0,⟨0,0,0,0,0,0⟩⟩⟩
def km(X:List fM)(i:Nat):List fN:=match X[i]? with
 |some x=>x.given
 |none=>[]
abbrev fH(X:List fM)(i:Nat):Ob:=⟨4,66,13,(km X i).map xx,0⟩
abbrev nW(b:Nat)(X:List fM):Ob:=⟨1,0,48,X.mapIdx (qx b),0⟩
abbrev Ao(b:Nat)(X:List fM):zn:=[nW b X,fH X 0,fH X 1,fH X 2,fH X 3,fH X 4,fH X 5,fH X 6,fH X 7]
def Q6(b i n:Nat)(x:fM)(h:b+i<n):∀c∈qx b i x,je n 9 c=true:=by
 have e:(qx b i x).all (je n 9)=(decide (b+i<n) && true):=rfl;exact gE.1 (e.trans aH)
def zwn(b i:Nat)(x:fM):∀c∈qx b i x,zB c=true:=by
 have e:(qx b i x).all zB=true:=rfl;exact gE.1 e
def Vv{X:List fM}{b n:Nat}{row:List C}(h:b+8<=n)(hX:X.length<=8)(hw:row.all (je n 9)=true):∀r∈(X.mapIdx (qx b)).set t row,∀c∈r,je n 9 c=true:=λr hr=>by
 rcases pE hr with hr|rfl
 .obtain⟨i,hi,rfl⟩:=uh.1 hr;exact Q6 b i n _ aw
 .exact gE.1 hw
def ZJ(A0 A1 A2:Ob)(H:zn)(rows:List (List C))(t:Nat)(ops:List fQ)(d:Int)(tl:List C)(hr:rows[t]?=some (lP ops::I d::tl)):
  tj 46 (A0::A1::A2::⟨1,0,48,rows,0⟩::H) [.ref 3 [] 48 t 0] (Bo (decide (ops.length<=d))) (A0::A1::A2::⟨1,0,48,rows,0⟩::H):=by
 have ml:(ops.map yW).length=ops.length:=gC ..;refine zb.zN (fn:=f46) func46 V (uH ?_);refine uE ?_;refine⟨_,hr,by show 1+1<=tl.length+1+1;omega,dd ?_⟩;refine⟨_,hr,by show 0+1<=tl.length+1+1;omega,dd ?_⟩;rw[ml];refine⟨λh=>?_,λh=>?_⟩
 .rw[show decide ((ops.length:Int)<=d)=true from h];exact di
 .rw[show decide ((ops.length:Int)<=d)=false from h];exact di
def W8(X:List fM)(b:Nat)(fu:Bool)(A0 A1 A2 A4 A5 A6 A7 A8 A9 A10 A11 A12 A13:Ob):tj 18 (A0::A1::A2::⟨1,0,48,X.mapIdx (qx b),0⟩::A4::A5::A6::A7::A8::A9::A10::A11::A12::[A13]) [.sl 3 [] 48 0 X.length fu] (.fn 45 [] [.ref 14 [] 1 0 0]) (A0::A1::A2::⟨1,0,48,X.mapIdx (qx b),0⟩::A4::A5::A6::A7::A8::A9::A10::A11::A12::[A13,⟨1,60,1,[[.sl 3 [] 48 0 X.length fu]],0⟩]):=by
 refine zb.zN (fn:=f18) func18 V (uH ?_);exact uJ
def We(l:Nat)(X:List fM)(b:Nat)(fu:Bool)(hl:X.length<1000)(A0 A1 A2 A4 A5 A6 A7 A8 A9 A10 A11 A12:Ob)(Z:Nat->Ob)(Y:Nat->List Ob)
 (hy:∀k x,X[k]?=some x->CU x=false->jM prog l (A0::A1::A2::⟨1,0,48,X.mapIdx (qx b),0⟩::A4::A5::A6::A7::A8::A9::A10::A11::A12::Z k::⟨1,60,1,[[.sl 3 [] 48 0 X.length fu]],0⟩::Y k) [I k] (Bo true) (A0::A1::A2::⟨1,0,48,X.mapIdx (qx b),0⟩::A4::A5::A6::A7::A8::A9::A10::A11::A12::Z (k+1)::⟨1,60,1,[[.sl 3 [] 48 0 X.length fu]],0⟩::Y (k+1)))(hn:∀k x,X[k]?=some x->CU x=true->Z (k+1)=Z k/\Y (k+1)=Y k):
  tj 45 (A0::A1::A2::⟨1,0,48,X.mapIdx (qx b),0⟩::A4::A5::A6::A7::A8::A9::A10::A11::A12::Z 0::⟨1,60,1,[[.sl 3 [] 48 0 X.length fu]],0⟩::Y 0) [.v (.func (.yield l) #[] #[]),.ref 14 [] 1 0 0] (.fJ []) (A0::A1::A2::⟨1,0,48,X.mapIdx (qx b),0⟩::A4::A5::A6::A7::A8::A9::A10::A11::A12::Z X.length::⟨1,60,1,[[.sl 3 [] 48 0 X.length fu]],0⟩::Y X.length):=by
 refine zb.zN (fn:=f45) func45 V (uH ?_);refine qg.seq X.length (λk=>(.v (.func (.yield l) #[] #[])::.ref 14 [] 1 0 0::.za::.za::.sl 3 [] 48 0 X.length fu::I X.length::I k::tY ([.za,.za,.za,.za,.za,.za,.za]))) (λk=>A0::A1::A2::⟨1,0,48,X.mapIdx (qx b),0⟩::A4::A5::A6::A7::A8::A9::A10::A11::A12::Z k::⟨1,60,1,[[.sl 3 [] 48 0 X.length fu]],0⟩::Y k) (λk=>True) ?_ trivial (λk hk hr=>?_) (λhr=>?_)
 .exact cC
 .have hx:X[k]?=some X[k]:=gk hk;have hg:(X.mapIdx (qx b))[k]?=some (qx b k X[k]):=by rw[pF,hx];rfl
  have ov:=ZJ A0 A1 A2 (A4::A5::A6::A7::A8::A9::A10::A11::A12::Z k::⟨1,60,1,[[.sl 3 [] 48 0 X.length fu]],0⟩::Y k) (X.mapIdx (qx b)) k X[k].ops X[k].done _ hg;conv=>whnf
  refine uF ?_;refine⟨aw,by rw[toNat_cast];exact hk,dd ?_⟩;rw[show 0+((k:Int)).toNat=k from aj];refine⟨_,_,ov,dd ?_⟩;have eo:decide ((X[k].ops.length:Int)<=(X[k].done:Int))=CU X[k]:=by unfold CU;simp
  refine⟨λh=>?_,λh=>?_⟩
  .have ho:=eo.symm.trans h;obtain⟨e1,e2⟩:=hn k _ hx ho;refine zad ?_
   refine zaF ?_;rw[zw aw,e1,e2];exact cC
  .have ho:=eo.symm.trans h;refine zad ?_
   refine⟨_,_,hy k _ hx ho,dd ?_⟩;refine hZ ?_
   refine zaF ?_;rw[zw aw];exact cC
 .refine uD ?_;exact de
def n4(X:List fM)(a o:Ob)(tl:List Ob):Nat->zn
 |0=>a::o::fH X 1::fH X 2::fH X 3::fH X 4::fH X 5::fH X 6::fH X 7::tl
 |1=>a::fH X 0::o::fH X 2::fH X 3::fH X 4::fH X 5::fH X 6::fH X 7::tl
 |2=>a::fH X 0::fH X 1::o::fH X 3::fH X 4::fH X 5::fH X 6::fH X 7::tl
 |3=>a::fH X 0::fH X 1::fH X 2::o::fH X 4::fH X 5::fH X 6::fH X 7::tl
 |4=>a::fH X 0::fH X 1::fH X 2::fH X 3::o::fH X 5::fH X 6::fH X 7::tl
 |5=>a::fH X 0::fH X 1::fH X 2::fH X 3::fH X 4::o::fH X 6::fH X 7::tl
 |6=>a::fH X 0::fH X 1::fH X 2::fH X 3::fH X 4::fH X 5::o::fH X 7::tl
 |_=>a::fH X 0::fH X 1::fH X 2::fH X 3::fH X 4::fH X 5::fH X 6::o::tl
abbrev Bc(l:List fN):Ob:=⟨4,66,13,l.map xx,0⟩
def eight(h:t<8):t=0\/t=1\/t=2\/t=3\/t=4\/t=5\/t=6\/t=7:=by omega
def zvG(X:List fM)(h:t<8):Ao 1 X=n4 X (nW 1 X) (Bc (km X t)) [] t:=by
 rcases eight h with rfl|rfl|rfl|rfl|rfl|rfl|rfl|rfl <;> rfl
end Go.Ply
