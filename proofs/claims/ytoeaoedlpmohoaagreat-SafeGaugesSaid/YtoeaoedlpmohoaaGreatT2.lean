import Derived.Test.YtoeaoedlpmohoaaGreatTJ
import Derived.Test.YtoeaoedlpmohoaaGreatProg
set_option linter.all false
set_option maxRecDepth 100000
set_option maxHeartbeats 4000000
namespace Go.Ab
section
variable {B:Nat} {s:S}
def zq.zyL(vid i k:Nat)(ty':TypeId)(sz':Nat){vty:TypeId}{vsz sz0:Nat}{r:List C}{vrows rows:List (List C)}(hv:s.H[vid]?=some ⟨1,vty,vsz,vrows,0⟩)(hr:vrows[i]?=some r)(hk:r[k]?=some (.fh 1 sz0 rows))(hz:rows=[]\/sz'=sz0)
 (hno:∀r∈vrows,∀c∈r,zx c=true):
  zq B s ⟨s.tmps,s.H.set vid ⟨1,vty,vsz,vrows.set i (r.set k (.gl s.H.length sz' rows)),0⟩++[⟨4,ty',sz',rows,0⟩]⟩:=λm w E a hs=>by
 obtain⟨cur,e,h3,h4,h5⟩:=(hs.heap.base.fD _ _ _ _ _ hv (wJ hv (.inl J))).fD;obtain⟨u,hu,ho⟩:=h5 i k _ (show cellAt vrows i k=some (.fh 1 sz0 rows) by unfold cellAt;rw[hr];exact hk);rw[qZ.loose J]at ho;have hl:L E (.fh 1 sz0 rows) u:=aF
 obtain⟨E1,hh1,hl1,g1⟩:=hs.heap.Fp hl ty' hz;have fj:vid<s.H.length:=(dW.1 hv).1;have hob1:(s.H++[⟨4,ty',sz',rows,0⟩])[vid]?=some ⟨1,vty,vsz,vrows,0⟩:=by rw[gy fj];exact hv
 have hrow:=hh1.rowsOf hob1 (.inl J);have hβ:E1.β vid []=E.β vid []:=g1.le.β vid [] (by rw[hs.heap.n];exact fj)
 have hcu:w.cell? ⟨E1.β vid [],i*vsz+k,none⟩=some u:=by
  unfold World.cell?;rw[hβ,h3];simpa using hu
 have hin:=dY hr
 obtain⟨hR,g2⟩:=hh1.B7 hob1 (.inl J) (ob':=⟨1,vty,vsz,vrows.set i (r.set k (.gl s.H.length sz' rows)),0⟩) (.inl J) (λh=>by cases h) rfl rfl aj (λq hq=>by
   rcases pw hq with h|rfl
   ·exact hrow q h
   ·simpa using hrow r hin) hno (λq hq c hc=>by
   rcases pw hq with h|rfl
   ·exact hno q h c hc
   ·rcases pw hc with h|rfl
    ·exact hno r hin c h
    ·rfl) λi' k' c c' v e1 e2 hl' hv'=>by
  have hat:∀X:Env,X.at 1=X:=λX=>by simp[Env.at]
  rw[hat]at hl' ⊢;unfold cellAt at e1 e2;rw[gD]at e2;split at e2
  ·rename_i e;subst e;split at e2
   ·simp only[gT]at e2;rw[hr]at e1;simp only[gT]at e1;rw[gD]at e2;split at e2
    ·rename_i e;subst e;split at e2
     ·cases e2
      rw[hcu]at hv';cases hv'
      exact hl1
     ·cases e2
    ·rw[e1]at e2;cases e2
     exact hl'
   ·cases e2
  ·rw[e1]at e2;cases e2
   exact hl'
 rw[tp _ _ fj]at hR g2;exact df
def zq.Y1(ty':TypeId)(sz':Nat):zq B s ⟨s.tmps,s.H++[⟨4,ty',sz',[],0⟩]⟩:=λm w E a hs=>by
 obtain⟨E1,hh1,hl1,g1⟩:=hs.heap.Fp (L.xx (E:=E) 1 0 (.inr J)) ty' (sz':=sz') (.inl J);exact⟨E1,⟨hh1,hs.tmps.mono g1.le,hs.defers.grow hs.heap g1,aG⟩,g1.iG tA⟩
def yi(n0 k sz' j:Nat)(vrows:List (List C)):List (List C):=vrows.mapIdx λi r=>if i<j then r.set k (.gl (n0+i) sz' []) else r
def zq.OZ(vid k:Nat)(ty':TypeId)(sz':Nat){vty:TypeId}{vsz sz0:Nat}{vrows:List (List C)}(hv:s.H[vid]?=some ⟨1,vty,vsz,vrows,0⟩)(hk:∀r∈vrows,r[k]?=some (.fh 1 sz0 []))(hno:∀r∈vrows,∀c∈r,zx c=true):
  ∀j:Nat,zq B s ⟨s.tmps,s.H.set vid ⟨1,vty,vsz,yi s.H.length k sz' j vrows,0⟩++List.replicate j (⟨4,ty',sz',[],0⟩:Ob)⟩
 |0=>by
  have e:yi s.H.length k sz' 0 vrows=vrows:=by
   unfold yi;rw[List.mapIdx_eq_iff];intro i;simp
  have e2:s.H.set vid ⟨1,vty,vsz,vrows,0⟩=s.H:=by
   obtain⟨h1,h2⟩:=dW.1 hv;rw[<-h2];exact List.set_getElem_self h1
  rw[e,e2];simpa using zq.refl s
 |j+1=>by
  have fj:vid<s.H.length:=(dW.1 hv).1;refine(zq.OZ vid k ty' sz' hv hk hno j).trans ?_;have el:(s.H.set vid ⟨1,vty,vsz,yi s.H.length k sz' j vrows,0⟩++List.replicate j (⟨4,ty',sz',[],0⟩:Ob)).length=s.H.length+j:=aj
  have hv':(s.H.set vid ⟨1,vty,vsz,yi s.H.length k sz' j vrows,0⟩++List.replicate j (⟨4,ty',sz',[],0⟩:Ob))[vid]?=some ⟨1,vty,vsz,yi s.H.length k sz' j vrows,0⟩:=by
   rw[gy tS,gk fj]
  have er:List.replicate (j+1) (⟨4,ty',sz',[],0⟩:Ob)=List.replicate j (⟨4,ty',sz',[],0⟩:Ob)++[⟨4,ty',sz',[],0⟩]:=u9;by_cases hj:j<vrows.length
  ·have hr:(yi s.H.length k sz' j vrows)[j]?=some vrows[j]:=by
    unfold yi;rw[pD,dX hj];simp
   have w:=zq.zyL (B:=B) (s:=⟨s.tmps,s.H.set vid ⟨1,vty,vsz,yi s.H.length k sz' j vrows,0⟩++List.replicate j (⟨4,ty',sz',[],0⟩:Ob)⟩) vid j k ty' sz' hv' hr (hk _ (gU hj)) (.inl J) λr hr c hc=>by
    unfold yi at hr;obtain⟨i,hi,e⟩:=ud.1 hr;split at e
    ·rw[<-e]at hc;rcases pw hc with h|rfl
     ·exact hno _ (gU hi) c h
     ·rfl
    ·rw[<-e]at hc;exact hno _ (gU hi) c hc
   have e3:(yi s.H.length k sz' j vrows).set j (vrows[j].set k (.gl (s.H.length+j) sz' []))=yi s.H.length k sz' (j+1) vrows:=by
    unfold yi;refine pq λi=>?_
    rw[gD,pD,pD];by_cases hi:j=i
    ·subst hi;rw[gh J,gh (aq hj),dX hj];simp
    ·rw[dZ hi];cases vrows[i]? with
     |none=>rfl
     |some r=>
      by_cases h2:i<j
      ·simp[h2,show i<j+1 by omega]
      ·simp[h2,show ¬i<j+1 by omega]
   rw[er,<-e3];dsimp only at w;rw[el,tp _ _ tS,pb]at w;rw[<-rG];exact w
  ·have e3:yi s.H.length k sz' (j+1) vrows=yi s.H.length k sz' j vrows:=by
    unfold yi;refine pq λi=>?_
    rw[pD,pD];cases hi:vrows[i]? with
    |none=>rfl
    |some r=>
     have:=(dW.1 hi).1;simp[show i<j by omega,show i<j+1 by omega]
   rw[er,e3,<-rG];exact zq.Y1 (B:=B) (s:=⟨s.tmps,s.H.set vid ⟨1,vty,vsz,yi s.H.length k sz' j vrows,0⟩++List.replicate j (⟨4,ty',sz',[],0⟩:Ob)⟩) ty' sz'
def zq.zza(vid:Nat){vty:TypeId}{vsz:Nat}{rows rows':List (List C)}(hv:s.H[vid]?=some ⟨1,vty,vsz,rows,0⟩)(hl:rows'.length=rows.length)(hw:∀(i:Nat) r r',rows[i]?=some r->rows'[i]?=some r'->iL r r')
 (hno:∀r∈rows,∀c∈r,zx c=true)(hno':∀r∈rows',∀c∈r,zx c=true):zq B s ⟨s.tmps,s.H.set vid ⟨1,vty,vsz,rows',0⟩⟩:=λm w E a hs=>by
 have hrow:=hs.heap.rowsOf hv (.inl J)
 have hlen:∀{a b:List C},iL a b->b.length=a.length:=by
  intro a b h
  induction h with
  |nil=>rfl
  |cons _ _ ih=>simp[ih]
 have hget:∀{a b:List C},iL a b->∀(k:Nat) c c',a[k]?=some c->b[k]?=some c'->WC c c':=by
  intro a b h
  induction h with
  |nil=>intro k c c' h;simp at h
  |cons h1 _ ih=>
   intro k c c' e1 e2;cases k with
   |zero=>simp at e1 e2;subst e1 e2;exact h1
   |succ k=>exact ih k c c' (aq e1) uY
 obtain⟨hR,g⟩:=hs.heap.B7 hv (.inl J) (ob':=⟨1,vty,vsz,rows',0⟩) (.inl J) (λh=>by cases h) rfl rfl hl (λr hr=>by
   obtain⟨i,hi⟩:=gE.1 hr;obtain⟨r0,h0⟩:∃r0,rows[i]?=some r0:=⟨_,dX (by have q:=(dW.1 hi).1;have q:i<rows'.length:=q;omega)⟩;rw[hlen (hw i r0 r h0 hi)];exact hrow r0 (dY h0)) hno hno' λi k c c' v e1 e2 hl' _=>by
  unfold cellAt at e1 e2;cases h1:rows[i]? with
  |none=>rw[h1]at e1;cases e1
  |some r=>
   cases h2:rows'[i]? with
   |none=>rw[h2]at e2;cases e2
   |some r'=>
    rw[h1]at e1;rw[h2]at e2;exact hget (hw i r r' h1 h2) k c c' e1 e2 _ v hl'
 exact⟨E,⟨hR,hs.tmps,hs.defers,aq hs.base⟩,g.iG tA⟩
end
end Go.Ab
namespace Go.Wor
open Go.Hy
structure fB where
 ops:List fJ
 done:Nat
 on:Bool
 m:fi
 given:List fA
abbrev PM:fi:=⟨⟨0,[],[],[],0,0,0,⟨[],[],[]⟩⟩,0,0,0,0,0,0,0,0,0,0,0,0,0,0,false,⟨0,0,0,0,0,0,0,⟨0,0,0,0,0,0⟩⟩,⟨0,0,0,0,0,0⟩⟩
def iV(ops:List fJ):fB:=⟨ops,0,false,PM,[]⟩
def qJ(X:List fB):Nat->List Nat
 |0=>[]
 |k+1=>match X[k]? with
  |some x=>if x.ops.length<=x.done then qJ X k else qJ X k++[k]
  |none=>qJ X k
def qn(x:fB)(m:fi):fB:=if m.done then ⟨x.ops,x.done+1,false,m,x.given++[m.answer]⟩ else ⟨x.ops,x.done,true,m,x.given⟩
end Go.Wor
namespace Go.Ply
open Go.Ab Go.Proofs Tryz Go.Hy Go.Wor
def qw(b i:Nat)(x:fB):List C:=lP x.ops::I (x.done:Int)::Bo x.on::(mC x.m++[.gl (b+i) 13 (x.given.map xk)])
def BP(x:fB):Bool:=decide (x.ops.length<=x.done)
abbrev EO:fk:=⟨0,0,0,0,0,false,0,false,false,false,⟨0,0,0,0,0,0,0,⟨0,0,0,0,0,0⟩⟩⟩
def vK(X:List fB)(i:Nat):List fA:=match X[i]? with
 |some x=>x.given
 |none=>[]
abbrev fm(X:List fB)(i:Nat):Ob:=⟨4,51,13,(vK X i).map xk,0⟩
abbrev mX(b:Nat)(X:List fB):Ob:=⟨1,0,48,X.mapIdx (qw b),0⟩
abbrev oy(b:Nat)(X:List fB):zm:=[mX b X,fm X 0,fm X 1,fm X 2,fm X 3,fm X 4,fm X 5,fm X 6,fm X 7]
def NQ(b i n:Nat)(x:fB)(h:b+i<n):∀c∈qw b i x,qX n 9 c=true:=by
 have e:(qw b i x).all (qX n 9)=(decide (b+i<n) && true):=rfl;exact gz.1 (e.trans aH)
def X4(b i:Nat)(x:fB):∀c∈qw b i x,zx c=true:=by
 have e:(qw b i x).all zx=true:=rfl;exact gz.1 e
def QE{X:List fB}{b n t:Nat}{row:List C}(h:b+8<=n)(hX:X.length<=8)(hw:row.all (qX n 9)=true):∀r∈(X.mapIdx (qw b)).set t row,∀c∈r,qX n 9 c=true:=λr hr=>by
 rcases pw hr with hr|rfl
 ·obtain⟨i,hi,rfl⟩:=ud.1 hr;exact NQ b i n _ aw
 ·exact gz.1 hw
def UX(A0 A1 A2:Ob)(H:zm)(rows:List (List C))(t:Nat)(ops:List fJ)(d:Int)(tl:List C)(hr:rows[t]?=some (lP ops::I d::tl)):
  tj 60 (A0::A1::A2::⟨1,0,48,rows,0⟩::H) [.ref 3 [] 48 t 0] (Bo (decide (ops.length<=d))) (A0::A1::A2::⟨1,0,48,rows,0⟩::H):=by
 have ml:(ops.map i7).length=ops.length:=gu ..;refine zb.zL (fn:=f60) func60 J (uH ?_);refine uE ?_;refine⟨_,hr,by show 1+1<=tl.length+1+1;omega,dd ?_⟩;refine⟨_,hr,by show 0+1<=tl.length+1+1;omega,dd ?_⟩;rw[ml];refine⟨λh=>?_,λh=>?_⟩
 ·rw[show decide ((ops.length:Int)<=d)=true from h];exact dj
 ·rw[show decide ((ops.length:Int)<=d)=false from h];exact dj
def Sj(X:List fB)(b:Nat)(fu:Bool)(A0 A1 A2 A4 A5 A6 A7 A8 A9 A10 A11 A12 A13:Ob):tj 31 (A0::A1::A2::⟨1,0,48,X.mapIdx (qw b),0⟩::A4::A5::A6::A7::A8::A9::A10::A11::A12::[A13]) [.sl 3 [] 48 0 X.length fu] (.fn 59 [] [.ref 14 [] 1 0 0]) (A0::A1::A2::⟨1,0,48,X.mapIdx (qw b),0⟩::A4::A5::A6::A7::A8::A9::A10::A11::A12::[A13,⟨1,91,1,[[.sl 3 [] 48 0 X.length fu]],0⟩]):=by
 refine zb.zL (fn:=f31) func31 J (uH ?_);exact uJ
def Rx(l:Nat)(X:List fB)(b:Nat)(fu:Bool)(hl:X.length<1000)(A0 A1 A2 A4 A5 A6 A7 A8 A9 A10 A11 A12:Ob)(Z:Nat->Ob)(Y:Nat->List Ob)
 (hy:∀k x,X[k]?=some x->BP x=false->jI prog l (A0::A1::A2::⟨1,0,48,X.mapIdx (qw b),0⟩::A4::A5::A6::A7::A8::A9::A10::A11::A12::Z k::⟨1,91,1,[[.sl 3 [] 48 0 X.length fu]],0⟩::Y k) [I k] (Bo true) (A0::A1::A2::⟨1,0,48,X.mapIdx (qw b),0⟩::A4::A5::A6::A7::A8::A9::A10::A11::A12::Z (k+1)::⟨1,91,1,[[.sl 3 [] 48 0 X.length fu]],0⟩::Y (k+1)))(hn:∀k x,X[k]?=some x->BP x=true->Z (k+1)=Z k/\Y (k+1)=Y k):
  tj 59 (A0::A1::A2::⟨1,0,48,X.mapIdx (qw b),0⟩::A4::A5::A6::A7::A8::A9::A10::A11::A12::Z 0::⟨1,91,1,[[.sl 3 [] 48 0 X.length fu]],0⟩::Y 0) [.v (.func (.yield l) #[] #[]),.ref 14 [] 1 0 0] (.fq []) (A0::A1::A2::⟨1,0,48,X.mapIdx (qw b),0⟩::A4::A5::A6::A7::A8::A9::A10::A11::A12::Z X.length::⟨1,91,1,[[.sl 3 [] 48 0 X.length fu]],0⟩::Y X.length):=by
 refine zb.zL (fn:=f59) func59 J (uH ?_);refine qe.seq X.length (λk=>(.v (.func (.yield l) #[] #[])::.ref 14 [] 1 0 0::.za::.za::.sl 3 [] 48 0 X.length fu::I X.length::I k::tZ ([.za,.za,.za,.za,.za,.za,.za]))) (λk=>A0::A1::A2::⟨1,0,48,X.mapIdx (qw b),0⟩::A4::A5::A6::A7::A8::A9::A10::A11::A12::Z k::⟨1,91,1,[[.sl 3 [] 48 0 X.length fu]],0⟩::Y k) (λk=>True) ?_ trivial (λk hk hr=>?_) (λhr=>?_)
 ·exact cC
 ·have hx:X[k]?=some X[k]:=dX hk;have hg:(X.mapIdx (qw b))[k]?=some (qw b k X[k]):=by rw[pD,hx];rfl
  have ov:=UX A0 A1 A2 (A4::A5::A6::A7::A8::A9::A10::A11::A12::Z k::⟨1,91,1,[[.sl 3 [] 48 0 X.length fu]],0⟩::Y k) (X.mapIdx (qw b)) k X[k].ops X[k].done _ hg;conv=>whnf
  refine uF ?_;refine⟨aw,by rw[toNat_cast];exact hk,dd ?_⟩;rw[show 0+((k:Int)).toNat=k from aj];refine⟨_,_,ov,dd ?_⟩;have eo:decide ((X[k].ops.length:Int)<=(X[k].done:Int))=BP X[k]:=by unfold BP;simp
  refine⟨λh=>?_,λh=>?_⟩
  ·have ho:=eo.symm.trans h;obtain⟨e1,e2⟩:=hn k _ hx ho;refine dd ?_;refine hZ ?_
   refine .inl ⟨rfl,?_,trivial⟩;rw[zw aw,e1,e2];exact cC
  ·have ho:=eo.symm.trans h;refine dd ?_;refine hZ ?_
   refine⟨_,_,hy k _ hx ho,dd ?_⟩;refine hZ ?_
   refine .inl ⟨rfl,?_,trivial⟩;rw[zw aw];exact cC
 ·refine uD ?_;exact cX
def m8(X:List fB)(a o:Ob)(tl:List Ob):Nat->zm
 |0=>a::o::fm X 1::fm X 2::fm X 3::fm X 4::fm X 5::fm X 6::fm X 7::tl
 |1=>a::fm X 0::o::fm X 2::fm X 3::fm X 4::fm X 5::fm X 6::fm X 7::tl
 |2=>a::fm X 0::fm X 1::o::fm X 3::fm X 4::fm X 5::fm X 6::fm X 7::tl
 |3=>a::fm X 0::fm X 1::fm X 2::o::fm X 4::fm X 5::fm X 6::fm X 7::tl
 |4=>a::fm X 0::fm X 1::fm X 2::fm X 3::o::fm X 5::fm X 6::fm X 7::tl
 |5=>a::fm X 0::fm X 1::fm X 2::fm X 3::fm X 4::o::fm X 6::fm X 7::tl
 |6=>a::fm X 0::fm X 1::fm X 2::fm X 3::fm X 4::fm X 5::o::fm X 7::tl
 |_=>a::fm X 0::fm X 1::fm X 2::fm X 3::fm X 4::fm X 5::fm X 6::o::tl
abbrev Al(l:List fA):Ob:=⟨4,51,13,l.map xk,0⟩
def eight{t:Nat}(h:t<8):t=0\/t=1\/t=2\/t=3\/t=4\/t=5\/t=6\/t=7:=by omega
def W8(X:List fB){t:Nat}(h:t<8):oy 1 X=m8 X (mX 1 X) (Al (vK X t)) [] t:=by
 rcases eight h with rfl|rfl|rfl|rfl|rfl|rfl|rfl|rfl <;> rfl
end Go.Ply
