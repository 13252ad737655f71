import Derived.Test.YtamgiodaflkbhaaGreatTS
import Derived.Test.YtamgiodaflkbhaaGreatTI
set_option linter.all false
set_option maxRecDepth 100000
set_option maxHeartbeats 4000000
namespace Go.Slp
open Go.Ab Go.Hy
def KV{x i:Int}(h1: -1<=i)(h2:i<=2147483646):u64 (y9 x i):=by unfold y9 u64;omega
end Go.Slp
namespace Go.Wor
open Go.Ab Go.Proofs Tryz Go.Hy Go.Gat Go.Nam Go.Hos Go.Con Go.Sna
variable{α:Type}{l:List fg}{i:Nat}
def mem_set{l:List α}{x y:α}(h:y∈l.set i x):y∈l\/y=x:=rB h
theorem DU{l:List α}{j:Nat}{x y:α}(h:(l.set i x)[j]?=some y):(i=j/\y=x/\i<l.length)\/(i≠j/\l[j]?=some y):=by
 grind
def jX.Ad{w:Wor}(h:jX w)(t:Nat){p:Int}(h0:0<=p)(h1:p<=w.zr+1):jX (lN w t p):=by
 have g:=jZ.1 h.ground;refine⟨jZ.2 ⟨ai g.pins,⟨ai g.counts.1,g.counts.2⟩,g.zr,g.lock,λq hq=>?_⟩,h.current,h.zn,h.bad,h.il,h.fT⟩;rcases mem_set hq with hq|rfl
 .exact g.Ad q hq
 .exact⟨h0,h1⟩
def n8.ox{m:eQ}{v:eX}{g:Gr}{e:En}(h:n8 v)(hg:v.zg[m.zp.toNat]?=some g)(he:g.ends[m.end_.toNat]?=some e){e':En}{tk:Int}(hi:Slp.fm e'=true)(hl:e'.next.length=e.next.length):
  n8 {v with zg:=v.zg.set m.zp.toNat {g with zC:=tk,ends:=g.ends.set m.end_.toNat e'} }:=by
 refine⟨h.snap,ai h.len,λi g2 x hg2 hx=>?_⟩;rcases DU hg2 with⟨rfl,rfl,_⟩|⟨_,hg2⟩
 .obtain⟨h1,h2⟩:=h.Di _ g x hg hx;refine⟨ai h1,λy hy=>?_⟩;rcases mem_set hy with hy|rfl
  .exact h2 y hy
  .exact⟨hi,by rw[hl];exact(h2 e (gT he)).len⟩
 .exact h.Di i g2 x hg2 hx
def jX.ox{w:Wor}{m:eQ}{v:eX}{g:Gr}{e:En}(h:jX w)(hat:fF w m v g e){e':En}{tk:Int}(hi:Slp.fm e'=true)(hl:e'.next.length=e.next.length):
  jX {w with zd:=w.zd.set m.version.toNat {v with zg:=v.zg.set m.zp.toNat {g with zC:=tk,ends:=g.ends.set m.end_.toNat e'} } }:=by
 refine⟨h.ground,ai h.current,h.zn,λr hr=>?_,λi v2 hv=>?_,h.fT⟩
 .have:=h.bad r hr;unfold yv at this|-;simpa using this
 .rcases DU hv with⟨rfl,rfl,_⟩|⟨_,hv⟩
  .obtain⟨h1,h2⟩:=h.il _ v hat.at_;exact⟨h1.ox hat.fV hat.ig hi hl,h2⟩
  .exact h.il i v2 hv
structure Cal(K:Nat)(w:Wor):Prop where
 fT:∀l∈w.zc,l.zo<=K
 ends : ∀v∈w.zd, ∀g∈v.zg, ∀e∈g.ends, e.zo <= K
structure St(N K:Nat)(w:Wor):Prop where
 iL:jX w
 ty:fG N w
 mu:Cal K w
def St.mono{N K N' K':Nat}{w:Wor}(h:St N K w)(hN:N<=N')(hK:K<=K'):St N' K' w:=
 ⟨h.iL,⟨by have:=h.ty.iO;omega,by have:=h.ty.fT;omega,by have:=h.ty.iQ;omega,h.ty.ij,h.ty.iI⟩,⟨λl hl=>by have:=h.mu.fT l hl;omega,λv hv g hg e he=>by have:=h.mu.ends v hv g hg e he;omega⟩⟩
def St.Ad{N K:Nat}{w:Wor}(h:St N K w)(t:Nat){p:Int}(h0:0<=p)(h1:p<=w.zr+1):St N K (lN w t p):=⟨h.iL.Ad t h0 h1,⟨h.ty.iO,h.ty.fT,h.ty.iQ,h.ty.ij,h.ty.iI⟩,⟨h.mu.fT,h.mu.ends⟩⟩
def St.ox{N K:Nat}{w:Wor}{m:eQ}{v:eX}{g:Gr}{e:En}(h:St N K w)(hat:fF w m v g e){e':En}{tk:Int}(hi:Slp.fm e'=true)(hl:e'.next.length=e.next.length)(ho:e'.ok)(ht:u64 tk)(hk:e'.zo<=K):
  St N K {w with zd:=w.zd.set m.version.toNat {v with zg:=v.zg.set m.zp.toNat {g with zC:=tk,ends:=g.ends.set m.end_.toNat e'} } }:=by
 have mv:=gT hat.at_;have mg:=gT hat.fV;refine⟨h.iL.ox hat hi hl,⟨ai h.ty.iO,h.ty.fT,h.ty.iQ,λv2 hv=>?_,h.ty.iI⟩,⟨h.mu.fT,λv2 hv g2 hg e2 he=>?_⟩⟩
 .rcases mem_set hv with hv|rfl
  .exact h.ty.ij v2 hv
  .refine⟨(h.ty.ij v mv).1,λg2 hg=>?_⟩;rcases mem_set hg with hg|rfl
   .exact(h.ty.ij v mv).2 g2 hg
   .refine⟨ht,λe2 he=>?_⟩;rcases mem_set he with he|rfl
    .exact((h.ty.ij v mv).2 g mg).2 e2 he
    .exact ho
 .rcases mem_set hv with hv|rfl
  .exact h.mu.ends v2 hv g2 hg e2 he
  .rcases mem_set hg with hg|rfl
   .exact h.mu.ends v mv g2 hg e2 he
   .rcases mem_set he with he|rfl
    .exact h.mu.ends v mv g mg e2 he
    .exact hk
theorem V2(n:Int):u64 (IntKind.u64.wrap n):=by
 have h:IntKind.u64.wrap n=n%18446744073709551616:=rfl
 grind [u64]
structure Nx(N K:Nat)(w:Wor)(m:eQ)(L:Wor->eQ->eX->Gr->En->Prop)(F:eQ->Prop)(μ:Wor->eQ->Nat)(r:Wor×eQ×e7):Prop where
 ev:r.2.2.access≠0
 st:St (N+1) (K+1) r.1
 pins:r.1.pins.length=w.pins.length
 tm:im r.2.1
 op:r.2.1.op=m.op
 go:(r.2.1.done=true/\F r.2.1)\/(∃v g e,jN r.1 r.2.1 v g e/\L r.1 r.2.1 v g e)/\μ r.1 r.2.1<μ w m
structure XD(w:Wor)(m:eQ)(v:eX)(g:Gr)(e:En):Prop where
 pc:(0<=m.pc/\m.pc<=12)\/(20<=m.pc/\m.pc<=23)
 ep:m.pc=1\/m.pc=2->m.zr=w.zr
 fT:(4<=m.pc/\m.pc<=12)\/m.pc=22->0<=m.listen
 early:4<=m.pc/\m.pc<=5->m.zp=0/\m.end_=0/\m.other=0
 MY:4<=m.pc/\m.pc<=8->m.slot=0
 draw:m.pc=6->∃c,v.snap.zi[m.zp.toNat]?=some c/\(eP c).length≠0
 slot:m.pc=10\/m.pc=11->m.slot=zR m.word/\e.head=m.word
 link:m.pc=11->e.next[m.slot.toNat]?=some m.link
 o7:20<=m.pc->1<=m.answer.kind/\m.answer.kind<=5
 EN:(5<=m.pc/\m.pc<=12)\/(20<=m.pc/\m.pc<=22)->0<=m.listen->∃x,w.zc[m.listen.toNat]?=some x/\1<=x.zo
def M0(_:Wor)(m:eQ):Nat:=(24-m.pc).toNat
theorem Jh(l:List fj)(s:eU): -1<=z7 l s/\z7 l s<l.length:=by
 unfold z7;cases h:l.findIdx? (λr=>r.name == s) with
 |none=>simp only;omega
 |some i=>
  have:=(pB.1 h).1
  grind
section
variable {N K:Nat} {w:Wor} {m:eQ} {v:eX} {g:Gr} {e:En}
def z5{r:Wor×eQ×e7}{P:Wor×eQ×e7->Prop}{o:ny}(h:o=some r)(hp:P r):∃r,o=some r/\P r:=⟨r,h,hp⟩
end
section
variable {N K:Nat} {w:Wor} {m:eQ} {v:eX} {g:Gr} {e:En}
end
section
variable {N K:Nat} {w:Wor} {m:eQ} {v:eX} {g:Gr} {e:En}
end
def look(m:List (Int×Value))(i:Int):Option Value:=(jh m i).bind λj=>(m[j]?).map (·.2)
theorem TX(m:List (Int×Value))(i:Int):jh m i=(m.map (·.1)).findIdx? (λk=>decide (k=i)):=by
 unfold jh;rw[ef]
 rfl
theorem Vl(m:List (Int×Value))(k i:Int)(v:Value):look (yy m k v) i=if k=i then some v else look m i:=by
 unfold yy;cases hf:jh m k with
 |some j=>
  dsimp only;obtain⟨u,hu⟩:=xN hf
  have keys:(m.set j (k,v)).map (·.1)=m.map (·.1):=by
   grind [List.map_set,kn]
  have e:jh (m.set j (k,v)) i=jh m i:=by grind [TX]
  unfold look;rw[e];have eP:=(gN.1 hu).1;by_cases hki:k=i
  .grind
  .rw[gP hki];cases hi:jh m i with
   |none=>rfl
   |some j'=>
    obtain⟨u',hu'⟩:=xN hi
    grind
 |none=>
  dsimp only
  have e:jh (m++[(k,v)]) i=if k=i then some m.length else jh m i:=by
   grind [jh]
  unfold look;rw[e];by_cases hki:k=i
  .grind
  .rw[gP hki,gP hki];cases hi:jh m i with
   |none=>rfl
   |some j'=>
    obtain⟨u',hu'⟩:=xN hi
    grind
theorem Rn(l:List fg)(i:Int):yK l i=(match look (yJ l) i with|some (.bool b)=>b|_=>false):=rfl
theorem Rm(l:List fg)(r:fg):yJ (l++[r])=yy (yJ l) r.version (Value.bool r.gone):=by
 grind [yJ]
theorem Ro(l:List fg)(r:fg)(i:Int):yK (l++[r]) i=if r.version=i then r.gone else yK l i:=by
 grind [Rn,Rm,Vl]
theorem kY(l:List fg)(i:Int)(hu:∀(a b:Nat) (x y:fg),l[a]?=some x->l[b]?=some y->x.version=y.version->a=b):yK l i=true↔∃r∈l,r.version=i/\r.gone=true:=by
 have key:∀n,∀l:List fg,l.length=n->(∀(a b:Nat) (x y:fg),l[a]?=some x->l[b]?=some y->x.version=y.version->a=b)->(yK l i=true↔∃r∈l,r.version=i/\r.gone=true):=by
  intro n
  induction n with
  |zero=>
   intro l hl _;rw[rZ.1 hl];constructor
   .intro h;cases h
   all_goals grind
  |succ n ih=>
   intro l hl hu;obtain⟨l',r,rfl⟩:∃l' r,l=l'++[r]:=⟨l.dropLast,l.getLast (by rintro rfl;cases hl),(List.dropLast_concat_getLast _).symm⟩;have hl':l'.length=n:=ai hl
   have ih':=ih l' hl' λa b x y ha hb=>hu a b x y (by rw[gW (gN.1 ha).1];exact ha) (by rw[gW (gN.1 hb).1];exact hb)
   have hlast:(l'++[r])[l'.length]?=some r:=ah
   rw[Ro];by_cases h:r.version=i
   .rw[gS h];constructor
    .grind
    .rintro⟨x,hx,hv,hg⟩;obtain⟨a,ha⟩:=pA.1 hx
     grind
   all_goals grind
 grind
def D2(h:Go.Lim.fm l=true){x:fg}(hx:l[i]?=some x):0<=x.version/\0<=x.at_/\∀(j:Nat) (y:fg),j<i->l[j]?=some y->y.version≠x.version:=by
 have h2:=gQ (show decide (∀i,(h:i<l.length)->Go.Lim.fZ l i l[i]=true)=true from h) i (gN.1 hx).1;rw[(gN.1 hx).2]at h2;unfold Go.Lim.fZ Go.Lim.AU at h2;simp only[gY,pS,pM,pI,pU]at h2;refine⟨an,an,λj y hj hy he=>h2.2 y ?_ he⟩;exact pA.2 ⟨j,by rw[pF,gS hj];exact hy⟩
theorem Wj:Go.Lim.fm l=true↔∀(i:Nat) (x:fg),l[i]?=some x->0<=x.version/\0<=x.at_/\∀(j:Nat) (y:fg),j<i->l[j]?=some y->y.version≠x.version:=by
 constructor
 .exactλh i x hx=>D2 h hx
 .intro h;refine rH λi hi=>?_
  obtain⟨h1,h2,h3⟩:=h i l[i] (gL hi);unfold Go.Lim.fZ Go.Lim.AU;simp only[gY,pS,pM,pI,pU];refine⟨⟨an,an⟩,λy hy he=>?_⟩;obtain⟨j,hj⟩:=pA.1 hy
  grind
def Bf(h:Go.Lim.fm l=true):∀(a b:Nat) (x y:fg),l[a]?=some x->l[b]?=some y->x.version=y.version->a=b:=λa b x y ha hb he=>by
 rcases rU a b with eP|rfl|eP
 .exact absurd he ((D2 h hb).2.2 a x eP ha)
 .rfl
 .exact absurd he.symm ((D2 h ha).2.2 b y eP hb)
def Kn(n:Int):(Slp.yF n).1.ok:=by
 unfold Slp.yF;split
 .exact⟨aj,⟨λx hx=>(by cases hx),aj⟩,aj⟩
 .refine⟨(by decide:u64 1),⟨λx hx=>?_,?_⟩,(by decide:i64 0)⟩
  .obtain⟨i,hi,rfl⟩:=pO.1 hx;have:=rS.1 hi;split
   .decide
   .exact⟨an,an⟩
  .simp;omega
def Fb{x:fq}(h:GQ x):Slp.fm (jU x)=true/\((jU x).next.length:Int)=x.xY/\(jU x).zo=0/\(jU x).ok:=by
 have hs:=h.xY;unfold jU;have:x.xY=1\/x.xY=2\/x.xY=3\/x.xY=4:=an
 rcases this with e|e|e|e <;> rw[e] <;> exact⟨aj,aj,aj,Kn _⟩
def JG{s:Sna}(h:yN s=true):n8 (qA s).1:=by
 unfold qA;rw[gS h];refine⟨h,ah,λi g x hg hx=>?_⟩;simp only[gM]at hg;have hx:s.zi[i]?=some x:=hx;rw[hx]at hg;cases hg
 have gc:=(yd h).all x (gT hx);have f:=Fb gc;refine⟨by unfold vK;simp,λe he=>?_⟩;unfold vK at he;rw[ry he];exact⟨f.1,f.2.1⟩
section
variable {N K:Nat} {w:Wor} {m:eQ} {v:eX} {g:Gr} {e:En}
theorem St.Wv(st:St N K w){c:fC}(hc:(qp c).1=0)(sk:yf c):St (N+1) (K+1) {w with current:=w.zd.length,zd:=w.zd++[mJ c]}:=by
 have sc:=E5 sk hc;have gw:=st.iL;have hb:=JD hc;have gv:n8 (mJ c):=JG hb;have hsw:mJ c=⟨(qI c).1,(qI c).1.zi.map vK,false⟩:=by grind [mJ,qA]
 have la:∀r∈w.zn,0<=r.version/\r.version<w.zd.length:=λr hr=>by
  obtain⟨i,hi⟩:=pA.1 hr;have:=Bg gw hi;omega
 refine⟨⟨gw.ground,⟨u9 _,by show((w.zd.length:Nat):Int)<((w.zd++[mJ c]).length:Nat);simp only[pW,rW];omega⟩,gw.zn,λr hr=>?_,λi v2 hv=>?_,gw.fT⟩,⟨by have:=st.ty.iO;simp;omega,by have:=st.ty.fT;show w.zc.length<=_;omega,by have:=st.ty.iQ;show w.zn.length<=_;omega,λv2 hv=>?_,st.ty.iI⟩,⟨λl hl=>by have:=st.mu.fT l hl;omega,λv2 hv g2 hg e2 he=>?_⟩⟩
 .have h1:=la r hr;have h2:=gw.bad r hr
  grind [yv]
 .have hv:(w.zd++[mJ c])[i]?=some v2:=hv;by_cases hi:i<w.zd.length
  .rw[gW hi]at hv;exact gw.il i v2 hv
  .rw[pq an]at hv
   have:i-w.zd.length=0:=by
    grind
   rw[this]at hv;cases hv
   refine⟨gv,?_⟩;rw[hsw];show false=yK w.zn i
   symm
   by_cases hg:yK w.zn i=true
   .obtain⟨r,hr,he,_⟩:=(kY w.zn i (Bf gw.zn)).1 hg
    grind
   .simpa using hg
 .rcases pw.1 hv with hv|hv
  .exact st.ty.ij v2 hv
  .rw[pX.1 hv,hsw];refine⟨ko sc,λg2 hg=>?_⟩;obtain⟨x,hx,rfl⟩:=pO.1 hg;have f:=Fb ((yd hb).all x hx)
   grind [u64,vK]
 .rcases pw.1 hv with hv|hv
  .have:=st.mu.ends v2 hv g2 hg e2 he;omega
  .rw[pX.1 hv,hsw]at hg;obtain⟨x,hx,rfl⟩:=pO.1 hg;have f:=Fb ((yd hb).all x hx)
   grind [vK]
theorem St.qF(st:St N K w){i:Nat}{k:Int}{v2:eX}{x:fg}(h0:0<=k)(hv:w.zd[k.toNat]?=some v2)(hx:w.zn[i]?=some x)(he:x.version=k):St (N+1) (K+1) {w with zd:=w.zd.set k.toNat (AH v2),zn:=w.zn.set i (mM x)}:=by
 have gw:=st.iL;have la:=Bg gw hx
 have same:∀(j:Nat) (y:fg),(w.zn.set i (mM x))[j]?=some y->∃z,w.zn[j]?=some z/\z.version=y.version/\z.at_=y.at_:=λj y hy=>by
  grind
 have isL:Go.Lim.fm (w.zn.set i (mM x))=true:=by
  rw[Wj];intro j y hy;obtain⟨z,hz,e1,e2⟩:=same j y hy;obtain⟨a,b,c⟩:=D2 gw.zn hz
  grind
 refine⟨⟨gw.ground,ai gw.current,isL,λr hr=>?_,λj v3 hv3=>?_,gw.fT⟩,⟨by have:=st.ty.iO;simp;omega,by have:=st.ty.fT;show w.zc.length<=_;omega,by have:=st.ty.iQ;simp;omega,λv3 hv3=>?_,st.ty.iI⟩,⟨λl hl=>by have:=st.mu.fT l hl;omega,λv3 hv3 g2 hg e2 he=>?_⟩⟩
 .obtain⟨j,hj⟩:=pA.1 hr;obtain⟨z,hz,e1,e2⟩:=same j r hj;have:=gw.bad z (gT hz)
  grind [yv]
 .have gone2:yK (w.zn.set i (mM x)) j=if (j:Int)=k then true else yK w.zn j:=by
   by_cases hjk:(j:Int)=k
   .rw[gS hjk,kY _ _ (Bf isL)];exact⟨mM x,pA.2 ⟨i,gX (gN.1 hx).1⟩,by show x.version=_;omega,rfl⟩
   .rw[gP hjk,ub,kY _ _ (Bf isL),kY _ _ (Bf gw.zn)];constructor
    .grind
    .rintro⟨r,hr,h1,h2⟩;obtain⟨b,hb⟩:=pA.1 hr
     have hbi:i≠b:=by
      grind
     exact⟨r,pA.2 ⟨b,by rw[pd,gP hbi];exact hb⟩,h1,h2⟩
  show n8 v3/\v3.qF=yK (w.zn.set i (mM x)) j;rw[gone2];rcases DU hv3 with⟨rfl,rfl,_⟩|⟨hne,hv3⟩
  .rw[gS an];exact⟨⟨(gw.il _ v2 hv).1.snap,(gw.il _ v2 hv).1.len,(gw.il _ v2 hv).1.Di⟩,rfl⟩
  .rw[gP an];exact gw.il j v3 hv3
 .rcases mem_set hv3 with hv3|rfl
  .exact st.ty.ij v3 hv3
  .exact st.ty.ij v2 (gT hv)
 .rcases mem_set hv3 with hv3|rfl
  .have:=st.mu.ends v3 hv3 g2 hg e2 he;omega
  .have:=st.mu.ends v2 (gT hv) g2 hg e2 he;omega
end
structure XE(w:Wor)(m:eQ)(v:eX)(g:Gr)(e:En):Prop where
 pc:0<=m.pc/\m.pc<=2
 il:1<=m.pc->m.version≠w.current/\∀r∈w.zn,r.version≠m.version
 ep:m.pc=2->0<=m.zr/\m.zr<=w.zr
def M1(_:Wor)(m:eQ):Nat:=(3-m.pc).toNat
section
variable {N K:Nat} {w:Wor} {m:eQ} {v:eX} {g:Gr} {e:En}
def XB(_:Wor)(m:eQ)(_:eX)(_:Gr)(_:En):Prop:=m.pc=0
def Xz(_:Wor)(m:eQ)(_:eX)(_:Gr)(_:En):Prop:=m.pc=9
structure XF(w:Wor)(m:eQ)(v:eX)(g:Gr)(e:En):Prop where
 pc:m.pc=0
 k:m.k<6
 i:m.i<w.counts.length
def M3(w:Wor)(m:eQ):Nat:=((w.counts.length-m.i)*6-m.k).toNat
end
structure XA(w:Wor)(m:eQ)(v:eX)(g:Gr)(e:En):Prop where
 pc:(0<=m.pc/\m.pc<=6)\/(8<=m.pc/\m.pc<=10)
 Ad:m.pc=2->m.i<w.pins.length
 X7:m.pc=4->m.i<=w.zn.length
 iQ:m.pc=5\/m.pc=6->∃r,w.zn[m.i.toNat]?=some r/\r.version=m.version/\r.gone=false
 act:m.pc=5->m.k<(jb v).length
 fT:m.pc=9\/m.pc=10->∃l,w.zc[m.i.toNat]?=some l/\l.drain=true
def MZ(w:Wor)(m:eQ):Nat:=(
 if m.pc=0 then 20*(w.zn.length:Int)+4*w.zc.length+w.pins.length+20
 else if m.pc=1 then 20*(w.zn.length:Int)+4*w.zc.length+w.pins.length+19
 else if m.pc=2 then 20*(w.zn.length:Int)+4*w.zc.length+10+(w.pins.length-m.i)
 else if m.pc=3 then 20*(w.zn.length:Int)+4*w.zc.length+10
 else if m.pc=4 then (w.zn.length-m.i)*20+4*w.zc.length+5
 else if m.pc=5 then (w.zn.length-m.i)*20+4*w.zc.length+5-1-m.k
 else if m.pc=6 then (w.zn.length-m.i)*20+4*w.zc.length+5-18
 else if m.pc=8 then (w.zc.length-m.i)*4
 else if m.pc=9 then (w.zc.length-m.i)*4-1
 else (w.zc.length-m.i)*4-2:Int).toNat
section
variable {N K:Nat} {w:Wor} {m:eQ} {v:eX} {g:Gr} {e:En}
end
end Go.Wor
namespace Go.Wor
open Go.Ab Go.Proofs Tryz Go.Gat Go.Nam Go.Hos Go.Con Go.Sna Go.Pla
open Go.Hy hiding encI
def MB(w:Wor)(m:eQ)(v:eX)(g:Gr)(e:En):Prop:=(m.op.kind=1/\XD w m v g e)\/(m.op.kind=2/\Xz w m v g e)\/(m.op.kind=3/\XE w m v g e)\/(m.op.kind=4/\XB w m v g e)\/(m.op.kind=5/\XA w m v g e)\/(m.op.kind=6/\XF w m v g e)
def MH(m:eQ):Prop:=1<=m.answer.kind/\m.answer.kind<=13/\(m.op.kind=1↔m.answer.kind<=5)
def HO(w:Wor)(m:eQ):Nat:=if m.op.kind=1 then M0 w m else if m.op.kind=3 then M1 w m else if m.op.kind=5 then MZ w m else if m.op.kind=6 then M3 w m else 0
section
variable {N K:Nat} {w:Wor} {m:eQ} {v:eX} {g:Gr} {e:En}
theorem Nx.up{k:Int}{L:Wor->eQ->eX->Gr->En->Prop}{F:eQ->Prop}{μ:Wor->eQ->Nat}{r:Wor×eQ×e7}(h:Nx N K w m L F μ r)(hk:m.op.kind=k)(hL:∀w' m' v g e,m'.op.kind=k->L w' m' v g e->MB w' m' v g e)(hF:∀m',m'.op.kind=k->F m'->MH m')(hμ:∀w' m',m'.op.kind=k->HO w' m'=μ w' m'):Nx N K w m MB MH HO r:=by
 have hk':r.2.1.op.kind=k:=by rw[h.op];exact hk
 refine⟨h.ev,h.st,h.pins,h.tm,h.op,?_⟩;rcases h.go with⟨h1,h2⟩|⟨⟨v',g',e',h1,h2⟩,h3⟩
 all_goals grind
def VV(su:jN w m v g e):nJ w m=if m.op.kind=1 then wR w m v g e else if m.op.kind=2 then kJ w m v g e else if m.op.kind=3 then oR w m else if m.op.kind=4 then Ag w m
  else if m.op.kind=5 then xj w m else if m.op.kind=6 then oI w m else none:=by
 unfold nJ;rw[su.fR];dsimp only;rw[su.fV];dsimp only;rw[su.ig]
end
def vT{w:Wor}{m:eQ}{v:eX}{g:Gr}{e:En}(su:jN w m v g e):zE w m=true:=by
 unfold zE;simp only[gY,pS,ym];refine⟨⟨⟨⟨su.world,su.zl⟩,su.done⟩,su.version⟩,?_⟩;rw[su.fR];simp only[gY,ym];refine⟨su.zp,?_⟩;rw[su.fV];simp only[gY,ym,pE];rw[su.ig];simp only[ym];exact⟨⟨⟨su.end_,su.other⟩,su.slot⟩,⟨⟨by have:=su.listen;omega,su.i⟩,su.k⟩⟩
end Go.Wor
