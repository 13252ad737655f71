import Derived.Test.YtamgiodaflkbhaaGreatVJ
import Derived.Test.YtamgiodaflkbhaaGreatProg
import Derived.Test.YtamgiodaflkbhaaGreatVZ
set_option linter.all false
set_option maxRecDepth 100000
set_option maxHeartbeats 4000000
namespace Go.Ab
variable{vty:TypeId}{vsz:Nat}
section
variable {B:Nat} {s:S}
def zl.Yt(vid i k:Nat)(ty':TypeId)(sz':Nat){sz0:Nat}{r:List C}{vrows rows:List (List C)}(hv:s.H[vid]?=some ⟨1,vty,vsz,vrows,0⟩)(hr:vrows[i]?=some r)(hk:r[k]?=some (.fq 1 sz0 rows))(hz:rows=[]\/sz'=sz0)
 (hno:∀r∈vrows,∀c∈r,zF c=true):
  zl B s ⟨s.tmps,s.H.set vid ⟨1,vty,vsz,vrows.set i (r.set k (.gl s.H.length sz' rows)),0⟩++[⟨4,ty',sz',rows,0⟩]⟩:=λm w E a hs=>by
 obtain⟨cur,e,h3,h4,h5⟩:=(hs.heap.base.fH _ _ _ _ _ hv (vZ hv (.inl V))).fH;obtain⟨u,hu,ho⟩:=h5 i k _ (show cellAt vrows i k=some (.fq 1 sz0 rows) by unfold cellAt;rw[hr];exact hk);rw[qO.loose V]at ho;have hl:L E (.fq 1 sz0 rows) u:=ax
 obtain⟨E1,hh1,hl1,g1⟩:=hs.heap.D5 hl ty' hz;have ft:vid<s.H.length:=(px.1 hv).1;have hob1:(s.H++[⟨4,ty',sz',rows,0⟩])[vid]?=some ⟨1,vty,vsz,vrows,0⟩:=by rw[pI ft];exact hv
 have hrow:=hh1.rowsOf hob1 (.inl V);have hβ:E1.β vid []=E.β vid []:=g1.le.β vid [] (by rw[hs.heap.n];exact ft)
 have hcu:w.cell? ⟨E1.β vid [],i*vsz+k,none⟩=some u:=by
  unfold World.cell?;rw[hβ,h3];simpa using hu
 have hin:=pE hr
 obtain⟨hR,g2⟩:=hh1.o3 hob1 (.inl V) (ob':=⟨1,vty,vsz,vrows.set i (r.set k (.gl s.H.length sz' rows)),0⟩) (.inl V) (λh=>by cases h) rfl rfl ah (λq hq=>by
   rcases rU hq with h|rfl
   .exact hrow q h
   .simpa using hrow r hin) hno (λq hq c hc=>by
   rcases rU hq with h|rfl
   .exact hno q h c hc
   .rcases rU hc with h|rfl
    .exact hno r hin c h
    .rfl) λi' k' c c' v e1 e2 hl' hv'=>by
  have hat:∀X:Env,X.at 1=X:=λX=>by simp[Env.at]
  rw[hat]at hl'|-;unfold cellAt at e1 e2;rw[pM]at e2;split at e2
  .rename_i e;subst e;split at e2
   .simp only[ri]at e2;rw[hr]at e1;simp only[ri]at e1;rw[pM]at e2;split at e2
    .rename_i e;subst e;split at e2
     .cases e2
      rw[hcu]at hv';cases hv'
      exact hl1
     .cases e2
    .rw[e1]at e2;cases e2
     exact hl'
   .cases e2
  .rw[e1]at e2;cases e2
   exact hl'
 rw[eJ _ _ ft]at hR g2;exact dY
def zl.WY(ty':TypeId)(sz':Nat):zl B s ⟨s.tmps,s.H++[⟨4,ty',sz',[],0⟩]⟩:=λm w E a hs=>by
 obtain⟨E1,hh1,hl1,g1⟩:=hs.heap.D5 (L.xA (E:=E) 1 0 (.inr V)) ty' (sz':=sz') (.inl V);exact⟨E1,⟨hh1,hs.tmps.mono g1.le,hs.defers.grow hs.heap g1,ay⟩,g1.iW tA⟩
def xY(n0 k sz' j:Nat)(vrows:List (List C)):List (List C):=vrows.mapIdx λi r=>if i<j then r.set k (.gl (n0+i) sz' []) else r
def zl.Mj(vid k:Nat)(ty':TypeId)(sz':Nat){vty:TypeId}{vsz sz0:Nat}{vrows:List (List C)}(hv:s.H[vid]?=some ⟨1,vty,vsz,vrows,0⟩)(hk:∀r∈vrows,r[k]?=some (.fq 1 sz0 []))(hno:∀r∈vrows,∀c∈r,zF c=true):
  ∀j:Nat,zl B s ⟨s.tmps,s.H.set vid ⟨1,vty,vsz,xY s.H.length k sz' j vrows,0⟩++List.replicate j (⟨4,ty',sz',[],0⟩:Ob)⟩
 |0=>by
  have e:xY s.H.length k sz' 0 vrows=vrows:=by
   unfold xY;rw[List.mapIdx_eq_iff];intro i;simp
  have e2:s.H.set vid ⟨1,vty,vsz,vrows,0⟩=s.H:=by
   obtain⟨h1,h2⟩:=px.1 hv;rw[<-h2];exact List.set_getElem_self h1
  rw[e,e2];simpa using zl.refl s
 |j+1=>by
  have ft:vid<s.H.length:=(px.1 hv).1;refine(zl.Mj vid k ty' sz' hv hk hno j).trans ?_;have el:(s.H.set vid ⟨1,vty,vsz,xY s.H.length k sz' j vrows,0⟩++List.replicate j (⟨4,ty',sz',[],0⟩:Ob)).length=s.H.length+j:=ah
  have hv':(s.H.set vid ⟨1,vty,vsz,xY s.H.length k sz' j vrows,0⟩++List.replicate j (⟨4,ty',sz',[],0⟩:Ob))[vid]?=some ⟨1,vty,vsz,xY s.H.length k sz' j vrows,0⟩:=by
   rw[pI mF,pH ft]
  have er:List.replicate (j+1) (⟨4,ty',sz',[],0⟩:Ob)=List.replicate j (⟨4,ty',sz',[],0⟩:Ob)++[⟨4,ty',sz',[],0⟩]:=sX;by_cases hj:j<vrows.length
  .have hr:(xY s.H.length k sz' j vrows)[j]?=some vrows[j]:=by
    unfold xY;rw[rK,pq hj];simp
   have w:=zl.Yt (B:=B) (s:=⟨s.tmps,s.H.set vid ⟨1,vty,vsz,xY s.H.length k sz' j vrows,0⟩++List.replicate j (⟨4,ty',sz',[],0⟩:Ob)⟩) vid j k ty' sz' hv' hr (hk _ (rj hj)) (.inl V) λr hr c hc=>by
    unfold xY at hr;obtain⟨i,hi,e⟩:=eK.1 hr;split at e
    .rw[<-e]at hc;rcases rU hc with h|rfl
     .exact hno _ (rj hi) c h
     .rfl
    .rw[<-e]at hc;exact hno _ (rj hi) c hc
   have e3:(xY s.H.length k sz' j vrows).set j (vrows[j].set k (.gl (s.H.length+j) sz' []))=xY s.H.length k sz' (j+1) vrows:=by
    unfold xY;refine rL λi=>?_
    rw[pM,rK,rK];by_cases hi:j=i
    .subst hi;rw[pD V,pD (ai hj),pq hj];simp
    .rw[pA hi];cases vrows[i]? with
     |none=>rfl
     |some r=>
      by_cases h2:i<j
      .simp[h2,show i<j+1 by omega]
      .simp[h2,show ¬i<j+1 by omega]
   rw[er,<-e3];dsimp only at w;rw[el,eJ _ _ mF,rb]at w;rw[<-sa];exact w
  .have e3:xY s.H.length k sz' (j+1) vrows=xY s.H.length k sz' j vrows:=by
    unfold xY;refine rL λi=>?_
    rw[rK,rK];cases hi:vrows[i]? with
    |none=>rfl
    |some r=>
     have:=(px.1 hi).1;simp[show i<j by omega,show i<j+1 by omega]
   rw[er,e3,<-sa];exact zl.WY (B:=B) (s:=⟨s.tmps,s.H.set vid ⟨1,vty,vsz,xY s.H.length k sz' j vrows,0⟩++List.replicate j (⟨4,ty',sz',[],0⟩:Ob)⟩) ty' sz'
def zl.E8(vid:Nat){rows rows':List (List C)}(hv:s.H[vid]?=some ⟨1,vty,vsz,rows,0⟩)(hl:rows'.length=rows.length)(hw:∀(i:Nat) r r',rows[i]?=some r->rows'[i]?=some r'->iI r r')
 (hno:∀r∈rows,∀c∈r,zF c=true)(hno':∀r∈rows',∀c∈r,zF c=true):zl B s ⟨s.tmps,s.H.set vid ⟨1,vty,vsz,rows',0⟩⟩:=λm w E a hs=>by
 have hrow:=hs.heap.rowsOf hv (.inl V)
 have hlen:∀{a b:List C},iI a b->b.length=a.length:=by
  intro a b h
  induction h with
  |nil=>rfl
  |cons _ _ ih=>simp[ih]
 have hget:∀{a b:List C},iI a b->∀(k:Nat) c c',a[k]?=some c->b[k]?=some c'->WC c c':=by
  intro a b h
  induction h with
  |nil=>intro k c c' h;simp at h
  |cons h1 _ ih=>
   intro k c c' e1 e2;cases k with
   |zero=>simp at e1 e2;subst e1 e2;exact h1
   |succ k=>exact ih k c c' (ai e1) uX
 obtain⟨hR,g⟩:=hs.heap.o3 hv (.inl V) (ob':=⟨1,vty,vsz,rows',0⟩) (.inl V) (λh=>by cases h) rfl rfl hl (λr hr=>by
   obtain⟨i,hi⟩:=pV.1 hr;obtain⟨r0,h0⟩:∃r0,rows[i]?=some r0:=⟨_,pq (by have q:=(px.1 hi).1;have q:i<rows'.length:=q;omega)⟩;rw[hlen (hw i r0 r h0 hi)];exact hrow r0 (pE h0)) hno hno' λi k c c' v e1 e2 hl' _=>by
  unfold cellAt at e1 e2;cases h1:rows[i]? with
  |none=>rw[h1]at e1;cases e1
  |some r=>
   cases h2:rows'[i]? with
   |none=>rw[h2]at e2;cases e2
   |some r'=>
    rw[h1]at e1;rw[h2]at e2;exact hget (hw i r r' h1 h2) k c c' e1 e2 _ v hl'
 exact gT
end
end Go.Ab
namespace Go.Wor
open Go.Hy
structure ia where
 ops:List fQ
 done:Nat
 on:Bool
 m:fx
 given:List fM
abbrev M3:fx:=⟨⟨0,[],[],[],0,0,0,⟨[],[],[]⟩⟩,0,0,0,0,0,0,0,0,0,0,0,0,0,0,false,⟨0,0,0,0,0,0,0,⟨0,0,0,0,0,0⟩⟩,⟨0,0,0,0,0,0⟩⟩
def w9(ops:List fQ):ia:=⟨ops,0,false,M3,[]⟩
def ql(X:List ia):Nat->List Nat
 |0=>[]
 |k+1=>match X[k]? with
  |some x=>if x.ops.length<=x.done then ql X k else ql X k++[k]
  |none=>ql X k
def yh(x:ia)(m:fx):ia:=if m.done then ⟨x.ops,x.done+1,false,m,x.given++[m.answer]⟩ else ⟨x.ops,x.done,true,m,x.given⟩
def Bd(x:ia)(t:Int)(o:fQ):fx:=if x.on then x.m else Beg.xS t o x.given
def BC(e:fF)(x:ia):fF:={e with op:=x.done,yQ:=!x.on}
end Go.Wor
namespace Go.Ply
open Go.Ab Go.Proofs Tryz Go.Hy Go.Wor
variable{t:Nat}
def z7(b i:Nat)(x:ia):List C:=lP x.ops::I (x.done:Int)::Bo x.on::(vX x.m++[.gl (b+i) 13 (x.given.map qY)])
def nO(x:ia):Bool:=decide (x.ops.length<=x.done)
abbrev mz:fF:=⟨0,0,0,0,0,false,0,false,false,false,⟨0,0,0,0,0,0,0,⟨0,0,0,0,0,0⟩⟩⟩
def vB(X:List ia)(i:Nat):List fM:=match X[i]? with
 |some x=>x.given
 |none=>[]
abbrev fA(X:List ia)(i:Nat):Ob:=⟨4,55,13,(vB X i).map qY,0⟩
abbrev mw(b:Nat)(X:List ia):Ob:=⟨1,0,48,X.mapIdx (z7 b),0⟩
abbrev nS(b:Nat)(X:List ia):zq:=[mw b X,fA X 0,fA X 1,fA X 2,fA X 3,fA X 4,fA X 5,fA X 6,fA X 7]
def Lu(b i n:Nat)(x:ia)(h:b+i<n):∀c∈z7 b i x,qE n 9 c=true:=by
 have e:(z7 b i x).all (qE n 9)=(decide (b+i<n) && true):=rfl;exact pG.1 (e.trans aA)
def Vo(b i:Nat)(x:ia):∀c∈z7 b i x,zF c=true:=by
 have e:(z7 b i x).all zF=true:=rfl;exact pG.1 e
def NR{X:List ia}{b n:Nat}{row:List C}(h:b+8<=n)(hX:X.length<=8)(hw:row.all (qE n 9)=true):∀r∈(X.mapIdx (z7 b)).set t row,∀c∈r,qE n 9 c=true:=λr hr=>by
 rcases rU hr with hr|rfl
 .obtain⟨i,hi,rfl⟩:=eK.1 hr;exact Lu b i n _ an
 .exact pG.1 hw
def SL(A0 A1 A2:Ob)(H:zq)(rows:List (List C))(t:Nat)(ops:List fQ)(d:Int)(tl:List C)(hr:rows[t]?=some (lP ops::I d::tl)):
  th 44 (A0::A1::A2::⟨1,0,48,rows,0⟩::H) [.ref 3 [] 48 t 0] (Bo (decide (ops.length<=d))) (A0::A1::A2::⟨1,0,48,rows,0⟩::H):=by
 have ml:(ops.map yB).length=ops.length:=pz ..;refine zb.zX (fn:=f44) func44 V (uH ?_);refine uE ?_;refine⟨_,hr,by show 1+1<=tl.length+1+1;omega,dd ?_⟩;refine⟨_,hr,by show 0+1<=tl.length+1+1;omega,dd ?_⟩;rw[ml];refine⟨λh=>?_,λh=>?_⟩
 .rw[show decide ((ops.length:Int)<=d)=true from h];exact gk
 .rw[show decide ((ops.length:Int)<=d)=false from h];exact gk
def Qp(X:List ia)(b:Nat)(fu:Bool)(A0 A1 A2 A4 A5 A6 A7 A8 A9 A10 A11 A12 A13:Ob):th 17 (A0::A1::A2::⟨1,0,48,X.mapIdx (z7 b),0⟩::A4::A5::A6::A7::A8::A9::A10::A11::A12::[A13]) [.sl 3 [] 48 0 X.length fu] (.fn 43 [] [.ref 14 [] 1 0 0]) (A0::A1::A2::⟨1,0,48,X.mapIdx (z7 b),0⟩::A4::A5::A6::A7::A8::A9::A10::A11::A12::[A13,⟨1,60,1,[[.sl 3 [] 48 0 X.length fu]],0⟩]):=by
 refine zb.zX (fn:=f17) func17 V (uH ?_);exact uJ
def Pg(l:Nat)(X:List ia)(b:Nat)(fu:Bool)(hl:X.length<1000)(A0 A1 A2 A4 A5 A6 A7 A8 A9 A10 A11 A12:Ob)(Z:Nat->Ob)(Y:Nat->List Ob)
 (hy:∀k x,X[k]?=some x->nO x=false->jv prog l (A0::A1::A2::⟨1,0,48,X.mapIdx (z7 b),0⟩::A4::A5::A6::A7::A8::A9::A10::A11::A12::Z k::⟨1,60,1,[[.sl 3 [] 48 0 X.length fu]],0⟩::Y k) [I k] (Bo true) (A0::A1::A2::⟨1,0,48,X.mapIdx (z7 b),0⟩::A4::A5::A6::A7::A8::A9::A10::A11::A12::Z (k+1)::⟨1,60,1,[[.sl 3 [] 48 0 X.length fu]],0⟩::Y (k+1)))(hn:∀k x,X[k]?=some x->nO x=true->Z (k+1)=Z k/\Y (k+1)=Y k):
  th 43 (A0::A1::A2::⟨1,0,48,X.mapIdx (z7 b),0⟩::A4::A5::A6::A7::A8::A9::A10::A11::A12::Z 0::⟨1,60,1,[[.sl 3 [] 48 0 X.length fu]],0⟩::Y 0) [.v (.func (.yield l) #[] #[]),.ref 14 [] 1 0 0] (.fy []) (A0::A1::A2::⟨1,0,48,X.mapIdx (z7 b),0⟩::A4::A5::A6::A7::A8::A9::A10::A11::A12::Z X.length::⟨1,60,1,[[.sl 3 [] 48 0 X.length fu]],0⟩::Y X.length):=by
 refine zb.zX (fn:=f43) func43 V (uH ?_);refine zH.seq X.length (λk=>(.v (.func (.yield l) #[] #[])::.ref 14 [] 1 0 0::.za::.za::.sl 3 [] 48 0 X.length fu::I X.length::I k::mL ([.za,.za,.za,.za,.za,.za,.za]))) (λk=>A0::A1::A2::⟨1,0,48,X.mapIdx (z7 b),0⟩::A4::A5::A6::A7::A8::A9::A10::A11::A12::Z k::⟨1,60,1,[[.sl 3 [] 48 0 X.length fu]],0⟩::Y k) (λk=>True) ?_ trivial (λk hk hr=>?_) (λhr=>?_)
 .exact cC
 .have hx:X[k]?=some X[k]:=pq hk;have hg:(X.mapIdx (z7 b))[k]?=some (z7 b k X[k]):=by rw[rK,hx];rfl
  have ov:=SL A0 A1 A2 (A4::A5::A6::A7::A8::A9::A10::A11::A12::Z k::⟨1,60,1,[[.sl 3 [] 48 0 X.length fu]],0⟩::Y k) (X.mapIdx (z7 b)) k X[k].ops X[k].done _ hg;conv=>whnf
  refine uF ?_;refine⟨an,by rw[toNat_cast];exact hk,dd ?_⟩;rw[show 0+((k:Int)).toNat=k from ah];refine⟨_,_,ov,dd ?_⟩;have eo:decide ((X[k].ops.length:Int)<=(X[k].done:Int))=nO X[k]:=by unfold nO;simp
  refine⟨λh=>?_,λh=>?_⟩
  .have ho:=eo.symm.trans h;obtain⟨e1,e2⟩:=hn k _ hx ho;refine zac ?_
   refine zap ?_;rw[zk an,e1,e2];exact cC
  .have ho:=eo.symm.trans h;refine zac ?_
   refine⟨_,_,hy k _ hx ho,dd ?_⟩;refine td ?_
   exact pd
 .refine uD ?_;exact dZ
def mR(X:List ia)(a o:Ob)(tl:List Ob):Nat->zq
 |0=>a::o::fA X 1::fA X 2::fA X 3::fA X 4::fA X 5::fA X 6::fA X 7::tl
 |1=>a::fA X 0::o::fA X 2::fA X 3::fA X 4::fA X 5::fA X 6::fA X 7::tl
 |2=>a::fA X 0::fA X 1::o::fA X 3::fA X 4::fA X 5::fA X 6::fA X 7::tl
 |3=>a::fA X 0::fA X 1::fA X 2::o::fA X 4::fA X 5::fA X 6::fA X 7::tl
 |4=>a::fA X 0::fA X 1::fA X 2::fA X 3::o::fA X 5::fA X 6::fA X 7::tl
 |5=>a::fA X 0::fA X 1::fA X 2::fA X 3::fA X 4::o::fA X 6::fA X 7::tl
 |6=>a::fA X 0::fA X 1::fA X 2::fA X 3::fA X 4::fA X 5::o::fA X 7::tl
 |_=>a::fA X 0::fA X 1::fA X 2::fA X 3::fA X 4::fA X 5::fA X 6::o::tl
abbrev oL(l:List fM):Ob:=⟨4,55,13,l.map qY,0⟩
def eight(h:t<8):t=0\/t=1\/t=2\/t=3\/t=4\/t=5\/t=6\/t=7:=by omega
def Vu(X:List ia)(h:t<8):nS 1 X=mR X (mw 1 X) (oL (vB X t)) [] t:=by
 rcases eight h with rfl|rfl|rfl|rfl|rfl|rfl|rfl|rfl <;> rfl
end Go.Ply
