import Derived.Test.YtamgiodaflkbhaaGreatVS
import Derived.Test.YtamgiodaflkbhaaGreatVI
set_option linter.all false
set_option maxRecDepth 100000
set_option maxHeartbeats 4000000
namespace Go.Slp
open Go.Ab Go.Hy
def Lk{x i:Int}(h1: -1<=i)(h2:i<=2147483646):u64 (vq x i):=by unfold vq u64;omega
end Go.Slp
namespace Go.Wor
open Go.Ab Go.Proofs Tryz Go.Hy Go.Gat Go.Nam Go.Hos Go.Con Go.Sna
variable{α:Type}{l:List fK}{i:Nat}
def mem_set{l:List α}{x y:α}(h:y∈l.set i x):y∈l\/y=x:=rU h
theorem Eu{l:List α}{j:Nat}{x y:α}(h:(l.set i x)[j]?=some y):(i=j/\y=x/\i<l.length)\/(i≠j/\l[j]?=some y):=by
 grind
def j8.AM{w:Wor}(h:j8 w)(t:Nat){p:Int}(h0:0<=p)(h1:p<=w.zr+1):j8 (mJ w t p):=by
 have g:=j9.1 h.ground;refine⟨j9.2 ⟨ai g.pins,⟨ai g.counts.1,g.counts.2⟩,g.zr,g.lock,λq hq=>?_⟩,h.current,h.zn,h.bad,h.iP,h.iB⟩;rcases mem_set hq with hq|rfl
 .exact g.AM q hq
 .exact⟨h0,h1⟩
def Aa.Ag{m:fx}{v:fC}{g:Gr}{e:En}(h:Aa v)(hg:v.zg[m.zp.toNat]?=some g)(he:g.ends[m.end_.toNat]?=some e){e':En}{tk:Int}(hi:Slp.fS e'=true)(hl:e'.next.length=e.next.length):
  Aa {v with zg:=v.zg.set m.zp.toNat {g with zC:=tk,ends:=g.ends.set m.end_.toNat e'} }:=by
 refine⟨h.snap,ai h.len,λi g2 x hg2 hx=>?_⟩;rcases Eu hg2 with⟨rfl,rfl,_⟩|⟨_,hg2⟩
 .obtain⟨h1,h2⟩:=h.DP _ g x hg hx;refine⟨ai h1,λy hy=>?_⟩;rcases mem_set hy with hy|rfl
  .exact h2 y hy
  .exact⟨hi,by rw[hl];exact(h2 e (pE he)).len⟩
 .exact h.DP i g2 x hg2 hx
def j8.Ag{w:Wor}{m:fx}{v:fC}{g:Gr}{e:En}(h:j8 w)(hat:ig w m v g e){e':En}{tk:Int}(hi:Slp.fS e'=true)(hl:e'.next.length=e.next.length):
  j8 {w with zd:=w.zd.set m.version.toNat {v with zg:=v.zg.set m.zp.toNat {g with zC:=tk,ends:=g.ends.set m.end_.toNat e'} } }:=by
 refine⟨h.ground,ai h.current,h.zn,λr hr=>?_,λi v2 hv=>?_,h.iB⟩
 .have:=h.bad r hr;unfold yD at this|-;simpa using this
 .rcases Eu hv with⟨rfl,rfl,_⟩|⟨_,hv⟩
  .obtain⟨h1,h2⟩:=h.iP _ v hat.at_;exact⟨h1.Ag hat.iC hat.iM hi hl,h2⟩
  .exact h.iP i v2 hv
structure Cal(K:Nat)(w:Wor):Prop where
 iB:∀l∈w.zc,l.zo<=K
 ends : ∀v∈w.zd, ∀g∈v.zg, ∀e∈g.ends, e.zo <= K
structure St(N K:Nat)(w:Wor):Prop where
 lD:j8 w
 ty:il N w
 nq:Cal K w
def St.mono{N K N' K':Nat}{w:Wor}(h:St N K w)(hN:N<=N')(hK:K<=K'):St N' K' w:=
 ⟨h.lD,⟨by have:=h.ty.lH;omega,by have:=h.ty.iB;omega,by have:=h.ty.lJ;omega,h.ty.iN,h.ty.lu⟩,⟨λl hl=>by have:=h.nq.iB l hl;omega,λv hv g hg e he=>by have:=h.nq.ends v hv g hg e he;omega⟩⟩
def St.AM{N K:Nat}{w:Wor}(h:St N K w)(t:Nat){p:Int}(h0:0<=p)(h1:p<=w.zr+1):St N K (mJ w t p):=⟨h.lD.AM t h0 h1,⟨h.ty.lH,h.ty.iB,h.ty.lJ,h.ty.iN,h.ty.lu⟩,⟨h.nq.iB,h.nq.ends⟩⟩
def St.Ag{N K:Nat}{w:Wor}{m:fx}{v:fC}{g:Gr}{e:En}(h:St N K w)(hat:ig w m v g e){e':En}{tk:Int}(hi:Slp.fS e'=true)(hl:e'.next.length=e.next.length)(ho:e'.ok)(ht:u64 tk)(hk:e'.zo<=K):
  St N K {w with zd:=w.zd.set m.version.toNat {v with zg:=v.zg.set m.zp.toNat {g with zC:=tk,ends:=g.ends.set m.end_.toNat e'} } }:=by
 have mv:=pE hat.at_;have mg:=pE hat.iC;refine⟨h.lD.Ag hat hi hl,⟨ai h.ty.lH,h.ty.iB,h.ty.lJ,λv2 hv=>?_,h.ty.lu⟩,⟨h.nq.iB,λv2 hv g2 hg e2 he=>?_⟩⟩
 .rcases mem_set hv with hv|rfl
  .exact h.ty.iN v2 hv
  .refine⟨(h.ty.iN v mv).1,λg2 hg=>?_⟩;rcases mem_set hg with hg|rfl
   .exact(h.ty.iN v mv).2 g2 hg
   .refine⟨ht,λe2 he=>?_⟩;rcases mem_set he with he|rfl
    .exact((h.ty.iN v mv).2 g mg).2 e2 he
    .exact ho
 .rcases mem_set hv with hv|rfl
  .exact h.nq.ends v2 hv g2 hg e2 he
  .rcases mem_set hg with hg|rfl
   .exact h.nq.ends v mv g2 hg e2 he
   .rcases mem_set he with he|rfl
    .exact h.nq.ends v mv g mg e2 he
    .exact hk
theorem V8(n:Int):u64 (IntKind.u64.wrap n):=by
 have h:IntKind.u64.wrap n=n%18446744073709551616:=rfl
 grind [u64]
structure Nx(N K:Nat)(w:Wor)(m:fx)(L:Wor->fx->fC->Gr->En->Prop)(F:fx->Prop)(μ:Wor->fx->Nat)(r:Wor×fx×fF):Prop where
 ev:r.2.2.access≠0
 st:St (N+1) (K+1) r.1
 pins:r.1.pins.length=w.pins.length
 tm:iQ r.2.1
 op:r.2.1.op=m.op
 go:(r.2.1.done=true/\F r.2.1)\/(∃v g e,jW r.1 r.2.1 v g e/\L r.1 r.2.1 v g e)/\μ r.1 r.2.1<μ w m
structure Yh(w:Wor)(m:fx)(v:fC)(g:Gr)(e:En):Prop where
 pc:(0<=m.pc/\m.pc<=12)\/(20<=m.pc/\m.pc<=23)
 ep:m.pc=1\/m.pc=2->m.zr=w.zr
 iB:(4<=m.pc/\m.pc<=12)\/m.pc=22->0<=m.listen
 early:4<=m.pc/\m.pc<=5->m.zp=0/\m.end_=0/\m.other=0
 NH:4<=m.pc/\m.pc<=8->m.slot=0
 draw:m.pc=6->∃c,v.snap.zj[m.zp.toNat]?=some c/\(ft c).length≠0
 slot:m.pc=10\/m.pc=11->m.slot=zQ m.word/\e.head=m.word
 link:m.pc=11->e.next[m.slot.toNat]?=some m.link
 AH:20<=m.pc->1<=m.answer.kind/\m.answer.kind<=5
 Fx:(5<=m.pc/\m.pc<=12)\/(20<=m.pc/\m.pc<=22)->0<=m.listen->∃x,w.zc[m.listen.toNat]?=some x/\1<=x.zo
def NJ(_:Wor)(m:fx):Nat:=(24-m.pc).toNat
theorem J2(l:List fO)(s:fB): -1<=zZ l s/\zZ l s<l.length:=by
 unfold zZ;cases h:l.findIdx? (λr=>r.name == s) with
 |none=>simp only;omega
 |some i=>
  have:=(pT.1 h).1
  grind
section
variable {N K:Nat} {w:Wor} {m:fx} {v:fC} {g:Gr} {e:En}
def z5{r:Wor×fx×fF}{P:Wor×fx×fF->Prop}{o:oo}(h:o=some r)(hp:P r):∃r,o=some r/\P r:=⟨r,h,hp⟩
end
section
variable {N K:Nat} {w:Wor} {m:fx} {v:fC} {g:Gr} {e:En}
end
section
variable {N K:Nat} {w:Wor} {m:fx} {v:fC} {g:Gr} {e:En}
end
def look(m:List (Int×Value))(i:Int):Option Value:=(jm m i).bind λj=>(m[j]?).map (·.2)
theorem T1(m:List (Int×Value))(i:Int):jm m i=(m.map (·.1)).findIdx? (λk=>decide (k=i)):=by
 unfold jm;rw[fb]
 rfl
theorem Vx(m:List (Int×Value))(k i:Int)(v:Value):look (yF m k v) i=if k=i then some v else look m i:=by
 unfold yF;cases hf:jm m k with
 |some j=>
  dsimp only;obtain⟨u,hu⟩:=xV hf
  have keys:(m.set j (k,v)).map (·.1)=m.map (·.1):=by
   grind [List.map_set,vK]
  have e:jm (m.set j (k,v)) i=jm m i:=by grind [T1]
  unfold look;rw[e];have ft:=(px.1 hu).1;by_cases hki:k=i
  .grind
  .rw[pA hki];cases hi:jm m i with
   |none=>rfl
   |some j'=>
    obtain⟨u',hu'⟩:=xV hi
    grind
 |none=>
  dsimp only
  have e:jm (m++[(k,v)]) i=if k=i then some m.length else jm m i:=by
   grind [jm]
  unfold look;rw[e];by_cases hki:k=i
  .grind
  .rw[pA hki,pA hki];cases hi:jm m i with
   |none=>rfl
   |some j'=>
    obtain⟨u',hu'⟩:=xV hi
    grind
theorem RI(l:List fK)(i:Int):yY l i=(match look (yX l) i with|some (.bool b)=>b|_=>false):=rfl
theorem RH(l:List fK)(r:fK):yX (l++[r])=yF (yX l) r.version (Value.bool r.gone):=by
 grind [yX]
theorem RJ(l:List fK)(r:fK)(i:Int):yY (l++[r]) i=if r.version=i then r.gone else yY l i:=by
 grind [RI,RH,Vx]
theorem wx(l:List fK)(i:Int)(hu:∀(a b:Nat) (x y:fK),l[a]?=some x->l[b]?=some y->x.version=y.version->a=b):yY l i=true↔∃r∈l,r.version=i/\r.gone=true:=by
 have key:∀n,∀l:List fK,l.length=n->(∀(a b:Nat) (x y:fK),l[a]?=some x->l[b]?=some y->x.version=y.version->a=b)->(yY l i=true↔∃r∈l,r.version=i/\r.gone=true):=by
  intro n
  induction n with
  |zero=>
   intro l hl _;rw[sf.1 hl];constructor
   .intro h;cases h
   all_goals grind
  |succ n ih=>
   intro l hl hu;obtain⟨l',r,rfl⟩:∃l' r,l=l'++[r]:=⟨l.dropLast,l.getLast (by rintro rfl;cases hl),(List.dropLast_concat_getLast _).symm⟩;have hl':l'.length=n:=ai hl
   have ih':=ih l' hl' λa b x y ha hb=>hu a b x y (by rw[pI (px.1 ha).1];exact ha) (by rw[pI (px.1 hb).1];exact hb)
   have hlast:(l'++[r])[l'.length]?=some r:=ah
   rw[RJ];by_cases h:r.version=i
   .rw[pD h];constructor
    .grind
    .rintro⟨x,hx,hv,hg⟩;obtain⟨a,ha⟩:=pV.1 hx
     grind
   all_goals grind
 grind
def EL(h:Go.Lim.fS l=true){x:fK}(hx:l[i]?=some x):0<=x.version/\0<=x.at_/\∀(j:Nat) (y:fK),j<i->l[j]?=some y->y.version≠x.version:=by
 have h2:=pC (show decide (∀i,(h:i<l.length)->Go.Lim.iG l i l[i]=true)=true from h) i (px.1 hx).1;rw[(px.1 hx).2]at h2;unfold Go.Lim.iG Go.Lim.BE at h2;simp only[pJ,rE,rD,rk,rF]at h2;refine⟨an,an,λj y hj hy he=>h2.2 y ?_ he⟩;exact pV.2 ⟨j,by rw[pZ,pD hj];exact hy⟩
theorem W4:Go.Lim.fS l=true↔∀(i:Nat) (x:fK),l[i]?=some x->0<=x.version/\0<=x.at_/\∀(j:Nat) (y:fK),j<i->l[j]?=some y->y.version≠x.version:=by
 constructor
 .exactλh i x hx=>EL h hx
 .intro h;refine rX λi hi=>?_
  obtain⟨h1,h2,h3⟩:=h i l[i] (pq hi);unfold Go.Lim.iG Go.Lim.BE;simp only[pJ,rE,rD,rk,rF];refine⟨⟨an,an⟩,λy hy he=>?_⟩;obtain⟨j,hj⟩:=pV.1 hy
  grind
def B3(h:Go.Lim.fS l=true):∀(a b:Nat) (x y:fK),l[a]?=some x->l[b]?=some y->x.version=y.version->a=b:=λa b x y ha hb he=>by
 rcases sC a b with ft|rfl|ft
 .exact absurd he ((EL h hb).2.2 a x ft ha)
 .rfl
 .exact absurd he.symm ((EL h ha).2.2 b y ft hb)
def KG(n:Int):(Slp.yR n).1.ok:=by
 unfold Slp.yR;split
 .exact⟨aj,⟨λx hx=>(by cases hx),aj⟩,aj⟩
 .refine⟨(by decide:u64 1),⟨λx hx=>?_,?_⟩,(by decide:i64 0)⟩
  .obtain⟨i,hi,rfl⟩:=rp.1 hx;have:=sy.1 hi;split
   .decide
   .exact⟨an,an⟩
  .simp;omega
def FI{x:fV}(h:HK x):Slp.fS (j6 x)=true/\((j6 x).next.length:Int)=x.yi/\(j6 x).zo=0/\(j6 x).ok:=by
 have hs:=h.yi;unfold j6;have:x.yi=1\/x.yi=2\/x.yi=3\/x.yi=4:=an
 rcases this with e|e|e|e <;> rw[e] <;> exact⟨aj,aj,aj,KG _⟩
def J6{s:Sna}(h:yO s=true):Aa (qf s).1:=by
 unfold qf;rw[pD h];refine⟨h,ah,λi g x hg hx=>?_⟩;simp only[pw]at hg;have hx:s.zj[i]?=some x:=hx;rw[hx]at hg;cases hg
 have gc:=(yn h).all x (pE hx);have f:=FI gc;refine⟨by unfold kb;simp,λe he=>?_⟩;unfold kb at he;rw[rS he];exact⟨f.1,f.2.1⟩
section
variable {N K:Nat} {w:Wor} {m:fx} {v:fC} {g:Gr} {e:En}
theorem St.Wy(st:St N K w){c:fZ}(hc:(qh c).1=0)(sk:yp c):St (N+1) (K+1) {w with current:=w.zd.length,zd:=w.zd++[nu c]}:=by
 have sc:=FH sk hc;have gw:=st.lD;have hb:=F6 hc;have gv:Aa (nu c):=J6 hb;have hsw:nu c=⟨(qB c).1,(qB c).1.zj.map kb,false⟩:=by grind [nu,qf]
 have la:∀r∈w.zn,0<=r.version/\r.version<w.zd.length:=λr hr=>by
  obtain⟨i,hi⟩:=pV.1 hr;have:=B4 gw hi;omega
 refine⟨⟨gw.ground,⟨eZ _,by show((w.zd.length:Nat):Int)<((w.zd++[nu c]).length:Nat);simp only[rB,r7];omega⟩,gw.zn,λr hr=>?_,λi v2 hv=>?_,gw.iB⟩,⟨by have:=st.ty.lH;simp;omega,by have:=st.ty.iB;show w.zc.length<=_;omega,by have:=st.ty.lJ;show w.zn.length<=_;omega,λv2 hv=>?_,st.ty.lu⟩,⟨λl hl=>by have:=st.nq.iB l hl;omega,λv2 hv g2 hg e2 he=>?_⟩⟩
 .have h1:=la r hr;have h2:=gw.bad r hr
  grind [yD]
 .have hv:(w.zd++[nu c])[i]?=some v2:=hv;by_cases hi:i<w.zd.length
  .rw[pI hi]at hv;exact gw.iP i v2 hv
  .rw[pR an]at hv
   have:i-w.zd.length=0:=by
    grind
   rw[this]at hv;cases hv
   refine⟨gv,?_⟩;rw[hsw];show false=yY w.zn i
   symm
   by_cases hg:yY w.zn i=true
   .obtain⟨r,hr,he,_⟩:=(wx w.zn i (B3 gw.zn)).1 hg
    grind
   .simpa using hg
 .rcases pS.1 hv with hv|hv
  .exact st.ty.iN v2 hv
  .rw[rH.1 hv,hsw];refine⟨vu sc,λg2 hg=>?_⟩;obtain⟨x,hx,rfl⟩:=rp.1 hg;have f:=FI ((yn hb).all x hx)
   grind [u64,kb]
 .rcases pS.1 hv with hv|hv
  .have:=st.nq.ends v2 hv g2 hg e2 he;omega
  .rw[rH.1 hv,hsw]at hg;obtain⟨x,hx,rfl⟩:=rp.1 hg;have f:=FI ((yn hb).all x hx)
   grind [kb]
theorem St.qH(st:St N K w){i:Nat}{k:Int}{v2:fC}{x:fK}(h0:0<=k)(hv:w.zd[k.toNat]?=some v2)(hx:w.zn[i]?=some x)(he:x.version=k):St (N+1) (K+1) {w with zd:=w.zd.set k.toNat (Bv v2),zn:=w.zn.set i (ny x)}:=by
 have gw:=st.lD;have la:=B4 gw hx
 have same:∀(j:Nat) (y:fK),(w.zn.set i (ny x))[j]?=some y->∃z,w.zn[j]?=some z/\z.version=y.version/\z.at_=y.at_:=λj y hy=>by
  grind
 have isL:Go.Lim.fS (w.zn.set i (ny x))=true:=by
  rw[W4];intro j y hy;obtain⟨z,hz,e1,e2⟩:=same j y hy;obtain⟨a,b,c⟩:=EL gw.zn hz
  grind
 refine⟨⟨gw.ground,ai gw.current,isL,λr hr=>?_,λj v3 hv3=>?_,gw.iB⟩,⟨by have:=st.ty.lH;simp;omega,by have:=st.ty.iB;show w.zc.length<=_;omega,by have:=st.ty.lJ;simp;omega,λv3 hv3=>?_,st.ty.lu⟩,⟨λl hl=>by have:=st.nq.iB l hl;omega,λv3 hv3 g2 hg e2 he=>?_⟩⟩
 .obtain⟨j,hj⟩:=pV.1 hr;obtain⟨z,hz,e1,e2⟩:=same j r hj;have:=gw.bad z (pE hz)
  grind [yD]
 .have gone2:yY (w.zn.set i (ny x)) j=if (j:Int)=k then true else yY w.zn j:=by
   by_cases hjk:(j:Int)=k
   .rw[pD hjk,wx _ _ (B3 isL)];exact⟨ny x,pV.2 ⟨i,pH (px.1 hx).1⟩,by show x.version=_;omega,rfl⟩
   .rw[pA hjk,u6,wx _ _ (B3 isL),wx _ _ (B3 gw.zn)];constructor
    .grind
    .rintro⟨r,hr,h1,h2⟩;obtain⟨b,hb⟩:=pV.1 hr
     have hbi:i≠b:=by
      grind
     exact⟨r,pV.2 ⟨b,by rw[pM,pA hbi];exact hb⟩,h1,h2⟩
  show Aa v3/\v3.qH=yY (w.zn.set i (ny x)) j;rw[gone2];rcases Eu hv3 with⟨rfl,rfl,_⟩|⟨hne,hv3⟩
  .rw[pD an];exact⟨⟨(gw.iP _ v2 hv).1.snap,(gw.iP _ v2 hv).1.len,(gw.iP _ v2 hv).1.DP⟩,rfl⟩
  .rw[pA an];exact gw.iP j v3 hv3
 .rcases mem_set hv3 with hv3|rfl
  .exact st.ty.iN v3 hv3
  .exact st.ty.iN v2 (pE hv)
 .rcases mem_set hv3 with hv3|rfl
  .have:=st.nq.ends v3 hv3 g2 hg e2 he;omega
  .have:=st.nq.ends v2 (pE hv) g2 hg e2 he;omega
end
structure Yi(w:Wor)(m:fx)(v:fC)(g:Gr)(e:En):Prop where
 pc:0<=m.pc/\m.pc<=2
 iP:1<=m.pc->m.version≠w.current/\∀r∈w.zn,r.version≠m.version
 ep:m.pc=2->0<=m.zr/\m.zr<=w.zr
def NK(_:Wor)(m:fx):Nat:=(3-m.pc).toNat
section
variable {N K:Nat} {w:Wor} {m:fx} {v:fC} {g:Gr} {e:En}
def Yg(_:Wor)(m:fx)(_:fC)(_:Gr)(_:En):Prop:=m.pc=0
def Ye(_:Wor)(m:fx)(_:fC)(_:Gr)(_:En):Prop:=m.pc=9
structure Yj(w:Wor)(m:fx)(v:fC)(g:Gr)(e:En):Prop where
 pc:m.pc=0
 k:m.k<6
 i:m.i<w.counts.length
def NL(w:Wor)(m:fx):Nat:=((w.counts.length-m.i)*6-m.k).toNat
end
structure Yf(w:Wor)(m:fx)(v:fC)(g:Gr)(e:En):Prop where
 pc:(0<=m.pc/\m.pc<=6)\/(8<=m.pc/\m.pc<=10)
 AM:m.pc=2->m.i<w.pins.length
 YE:m.pc=4->m.i<=w.zn.length
 lJ:m.pc=5\/m.pc=6->∃r,w.zn[m.i.toNat]?=some r/\r.version=m.version/\r.gone=false
 act:m.pc=5->m.k<(jf v).length
 iB:m.pc=9\/m.pc=10->∃l,w.zc[m.i.toNat]?=some l/\l.drain=true
def NI(w:Wor)(m:fx):Nat:=(
 if m.pc=0 then 20*(w.zn.length:Int)+4*w.zc.length+w.pins.length+20
 else if m.pc=1 then 20*(w.zn.length:Int)+4*w.zc.length+w.pins.length+19
 else if m.pc=2 then 20*(w.zn.length:Int)+4*w.zc.length+10+(w.pins.length-m.i)
 else if m.pc=3 then 20*(w.zn.length:Int)+4*w.zc.length+10
 else if m.pc=4 then (w.zn.length-m.i)*20+4*w.zc.length+5
 else if m.pc=5 then (w.zn.length-m.i)*20+4*w.zc.length+5-1-m.k
 else if m.pc=6 then (w.zn.length-m.i)*20+4*w.zc.length+5-18
 else if m.pc=8 then (w.zc.length-m.i)*4
 else if m.pc=9 then (w.zc.length-m.i)*4-1
 else (w.zc.length-m.i)*4-2:Int).toNat
section
variable {N K:Nat} {w:Wor} {m:fx} {v:fC} {g:Gr} {e:En}
end
end Go.Wor
namespace Go.Wor
open Go.Ab Go.Proofs Tryz Go.Gat Go.Nam Go.Hos Go.Con Go.Sna Go.Pla
open Go.Hy hiding encI
def Ns(w:Wor)(m:fx)(v:fC)(g:Gr)(e:En):Prop:=(m.op.kind=1/\Yh w m v g e)\/(m.op.kind=2/\Ye w m v g e)\/(m.op.kind=3/\Yi w m v g e)\/(m.op.kind=4/\Yg w m v g e)\/(m.op.kind=5/\Yf w m v g e)\/(m.op.kind=6/\Yj w m v g e)
def M9(m:fx):Prop:=1<=m.answer.kind/\m.answer.kind<=13/\(m.op.kind=1↔m.answer.kind<=5)
def IA(w:Wor)(m:fx):Nat:=if m.op.kind=1 then NJ w m else if m.op.kind=3 then NK w m else if m.op.kind=5 then NI w m else if m.op.kind=6 then NL w m else 0
section
variable {N K:Nat} {w:Wor} {m:fx} {v:fC} {g:Gr} {e:En}
theorem Nx.up{k:Int}{L:Wor->fx->fC->Gr->En->Prop}{F:fx->Prop}{μ:Wor->fx->Nat}{r:Wor×fx×fF}(h:Nx N K w m L F μ r)(hk:m.op.kind=k)(hL:∀w' m' v g e,m'.op.kind=k->L w' m' v g e->Ns w' m' v g e)(hF:∀m',m'.op.kind=k->F m'->M9 m')(hμ:∀w' m',m'.op.kind=k->IA w' m'=μ w' m'):Nx N K w m Ns M9 IA r:=by
 have hk':r.2.1.op.kind=k:=by rw[h.op];exact hk
 refine⟨h.ev,h.st,h.pins,h.tm,h.op,?_⟩;rcases h.go with⟨h1,h2⟩|⟨⟨v',g',e',h1,h2⟩,h3⟩
 all_goals grind
def Wt(su:jW w m v g e):oH w m=if m.op.kind=1 then AQ w m v g e else if m.op.kind=2 then kX w m v g e else if m.op.kind=3 then Aw w m else if m.op.kind=4 then AS w m
  else if m.op.kind=5 then xt w m else if m.op.kind=6 then Ao w m else none:=by
 unfold oH;rw[su.iz];dsimp only;rw[su.iC];dsimp only;rw[su.iM]
end
def kk{w:Wor}{m:fx}{v:fC}{g:Gr}{e:En}(su:jW w m v g e):zG w m=true:=by
 unfold zG;simp only[pJ,rE,yv];refine⟨⟨⟨⟨su.world,su.zm⟩,su.done⟩,su.version⟩,?_⟩;rw[su.iz];simp only[pJ,yv];refine⟨su.zp,?_⟩;rw[su.iC];simp only[pJ,yv,pY];rw[su.iM];simp only[yv];exact⟨⟨⟨su.end_,su.other⟩,su.slot⟩,⟨⟨by have:=su.listen;omega,su.i⟩,su.k⟩⟩
end Go.Wor
