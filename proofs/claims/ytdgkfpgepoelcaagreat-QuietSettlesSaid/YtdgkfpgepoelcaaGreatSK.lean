import Derived.Test.YtdgkfpgepoelcaaGreatSS
import Derived.Test.YtdgkfpgepoelcaaGreatSI
set_option linter.all false
set_option maxRecDepth 100000
set_option maxHeartbeats 4000000
namespace Go.Slp
open Go.Ab Go.Hy
end Go.Slp
namespace Go.Wor
open Go.Ab Go.Proofs Tryz Go.Hy Go.Gat Go.Nam Go.Hos Go.Con Go.Sna
variable{α:Type}{l:List rP}{i:Nat}{w:Wor}{m:rH}{v:rL}
def mem_set{l:List α}{x y:α}(h:y∈l.set i x):y∈l\/y=x:=gJ h
theorem ib{l:List α}{j:Nat}{x y:α}(h:(l.set i x)[j]?=some y):(i=j/\y=x/\i<l.length)\/(i≠j/\l[j]?=some y):=by
 grind
def qg.sW{w:Wor}(h:qg w)(t:Nat){p:Int}(h0:0<=p)(h1:p<=w.zl+1):qg (Ch w t p):=by
 have g:=zZ.1 h.ground;refine⟨zZ.2 ⟨ak g.pins,⟨ak g.counts.1,g.counts.2⟩,g.zl,g.lock,λq hq=>?_⟩,h.current,h.zi,h.bad,h.sf,h.rU⟩;rcases mem_set hq with hq|rfl
 .exact g.sW q hq
 .exact⟨h0,h1⟩
def qg.fT(h:qg w){n:Int}(h0:n=0\/n=1):qg {w with lock:=n}:=by
 have g:=zZ.1 h.ground;exact⟨zZ.2 ⟨g.pins,g.counts,g.zl,h0,g.sW⟩,h.current,h.zi,h.bad,h.sf,h.rU⟩
theorem qg.lk(h:qg w){n:Int}(h0:w.zl<=n)(h1:n<=1000000000000):qg {w with zl:=n}:=by
 have g:=zZ.1 h.ground;refine⟨zZ.2 ⟨g.pins,g.counts,⟨by have:=g.zl.1;show 0<=n;omega,h1⟩,g.lock,λp hp=>by have:=g.sW p hp;show _/\p<=n+1;omega⟩,h.current,h.zi,λr hr=>?_,h.sf,h.rU⟩;have:=h.bad r hr
 grind [jA]
def Gp{l l':List rS}(h:l.map (·.name)=l'.map (·.name))(s:rK):qy l s=qy l' s:=by
 unfold qy
 have:l.findIdx? (λr=>r.name == s)=l'.findIdx? (λr=>r.name == s):=by
  have e:∀l:List rS,l.findIdx? (λr=>r.name == s)=(l.map (·.name)).findIdx? (λx=>x == s):=λl=>by rw[List.findIdx?_map];rfl
  rw[e,e,h]
 rw[this]
theorem Gb{l:List rS}{x y:rS}(hx:l[i]?=some x)(h:y.name=x.name):(l.set i y).map (·.name)=l.map (·.name):=by
 grind [List.map_set,yg]
def qg.mN(h:qg w){x y:rS}(hx:w.zc[i]?=some x)(hn:y.name=x.name)(hy:Go.Gat.rR y=true):qg {w with zc:=w.zc.set i y}:=by
 refine⟨h.ground,h.current,h.zi,h.bad,h.sf,λj l hl=>?_⟩;show _/\qy (w.zc.set i y) l.name=j;rw[Gp (Gb hx hn)];rcases ib hl with⟨rfl,rfl,_⟩|⟨_,hl⟩
 .rw[hn];exact⟨hy,(h.rU i x hx).2⟩
 .exact h.rU j l hl
def kA.ec{g:Gr}{e:En}(h:kA v)(hg:v.zg[m.zn.toNat]?=some g)(he:g.ends[m.end_.toNat]?=some e){e':En}{tk:Int}(hi:Slp.rR e'=true)(hl:e'.next.length=e.next.length):
  kA {v with zg:=v.zg.set m.zn.toNat {g with yi:=tk,ends:=g.ends.set m.end_.toNat e'} }:=by
 refine⟨h.snap,ak h.len,λi g2 x hg2 hx=>?_⟩;rcases ib hg2 with⟨rfl,rfl,_⟩|⟨_,hg2⟩
 .obtain⟨h1,h2⟩:=h.fR _ g x hg hx;refine⟨ak h1,λy hy=>?_⟩;rcases mem_set hy with hy|rfl
  .exact h2 y hy
  .exact⟨hi,by rw[hl];exact(h2 e (cZ he)).len⟩
 .exact h.fR i g2 x hg2 hx
def qg.ec{w:Wor}{m:rH}{v:rL}{g:Gr}{e:En}(h:qg w)(hat:eU w m v g e){e':En}{tk:Int}(hi:Slp.rR e'=true)(hl:e'.next.length=e.next.length):
  qg {w with zd:=w.zd.set m.version.toNat {v with zg:=v.zg.set m.zn.toNat {g with yi:=tk,ends:=g.ends.set m.end_.toNat e'} } }:=by
 refine⟨h.ground,ak h.current,h.zi,λr hr=>?_,λi v2 hv=>?_,h.rU⟩
 .have:=h.bad r hr;unfold jA at this|-;simpa using this
 .rcases ib hv with⟨rfl,rfl,_⟩|⟨_,hv⟩
  .obtain⟨h1,h2⟩:=h.sf _ v hat.at_;exact⟨h1.ec hat.sG hat.sJ hi hl,h2⟩
  .exact h.sf i v2 hv
structure i6(K:Nat)(w:Wor):Prop where
 rU:∀l∈w.zc,l.zt<=K
 ends : ∀v∈w.zd, ∀g∈v.zg, ∀e∈g.ends, e.zt <= K
structure St(N K:Nat)(w:Wor):Prop where
 jI:qg w
 ty:tK N w
 sH:i6 K w
def St.mono{N K N' K':Nat}(h:St N K w)(hN:N<=N')(hK:K<=K'):St N' K' w:=
 ⟨h.jI,⟨by have:=h.ty.yk;omega,by have:=h.ty.rU;omega,by have:=h.ty.sD;omega,h.ty.sL,h.ty.tv⟩,⟨λl hl=>by have:=h.sH.rU l hl;omega,λv hv g hg e he=>by have:=h.sH.ends v hv g hg e he;omega⟩⟩
def St.sW{N K:Nat}{w:Wor}(h:St N K w)(t:Nat){p:Int}(h0:0<=p)(h1:p<=w.zl+1):St N K (Ch w t p):=⟨h.jI.sW t h0 h1,⟨h.ty.yk,h.ty.rU,h.ty.sD,h.ty.sL,h.ty.tv⟩,⟨h.sH.rU,h.sH.ends⟩⟩
def St.fT{N K:Nat}{w:Wor}(h:St N K w){n:Int}(h0:n=0\/n=1):St N K {w with lock:=n}:=⟨h.jI.fT h0,⟨h.ty.yk,h.ty.rU,h.ty.sD,h.ty.sL,h.ty.tv⟩,⟨h.sH.rU,h.sH.ends⟩⟩
def St.lk{N K:Nat}{w:Wor}(h:St N K w){n:Int}(h0:w.zl<=n)(h1:n<=1000000000000):St N K {w with zl:=n}:=⟨h.jI.lk h0 h1,⟨h.ty.yk,h.ty.rU,h.ty.sD,h.ty.sL,h.ty.tv⟩,⟨h.sH.rU,h.sH.ends⟩⟩
def St.mN{N K:Nat}{w:Wor}(h:St N K w){i:Nat}{x y:rS}(hx:w.zc[i]?=some x)(hn:y.name=x.name)(hy:Go.Gat.rR y=true)(hi:i64 y.zt)(hk:y.zt<=K):St N K {w with zc:=w.zc.set i y}:=by
 refine⟨h.jI.mN hx hn hy,⟨h.ty.yk,ak h.ty.rU,h.ty.sD,h.ty.sL,λl hl=>?_⟩,⟨λl hl=>?_,h.sH.ends⟩⟩
 .rcases mem_set hl with hl|rfl
  .exact h.ty.tv l hl
  .exact⟨by rw[hn];exact(h.ty.tv x (cZ hx)).1,hi⟩
 .rcases mem_set hl with hl|rfl
  .exact h.sH.rU l hl
  .exact hk
def St.ec{N K:Nat}{w:Wor}{m:rH}{v:rL}{g:Gr}{e:En}(h:St N K w)(hat:eU w m v g e){e':En}{tk:Int}(hi:Slp.rR e'=true)(hl:e'.next.length=e.next.length)(ho:e'.ok)(ht:u64 tk)(hk:e'.zt<=K):
  St N K {w with zd:=w.zd.set m.version.toNat {v with zg:=v.zg.set m.zn.toNat {g with yi:=tk,ends:=g.ends.set m.end_.toNat e'} } }:=by
 have mv:=cZ hat.at_;have mg:=cZ hat.sG;refine⟨h.jI.ec hat hi hl,⟨ak h.ty.yk,h.ty.rU,h.ty.sD,λv2 hv=>?_,h.ty.tv⟩,⟨h.sH.rU,λv2 hv g2 hg e2 he=>?_⟩⟩
 .rcases mem_set hv with hv|rfl
  .exact h.ty.sL v2 hv
  .refine⟨(h.ty.sL v mv).1,λg2 hg=>?_⟩;rcases mem_set hg with hg|rfl
   .exact(h.ty.sL v mv).2 g2 hg
   .refine⟨ht,λe2 he=>?_⟩;rcases mem_set he with he|rfl
    .exact((h.ty.sL v mv).2 g mg).2 e2 he
    .exact ho
 .rcases mem_set hv with hv|rfl
  .exact h.sH.ends v2 hv g2 hg e2 he
  .rcases mem_set hg with hg|rfl
   .exact h.sH.ends v mv g2 hg e2 he
   .rcases mem_set he with he|rfl
    .exact h.sH.ends v mv g mg e2 he
    .exact hk
structure Nx(N K:Nat)(w:Wor)(m:rH)(L:Wor->rH->rL->Gr->En->Prop)(F:rH->Prop)(μ:Wor->rH->Nat)(r:Wor×rH×rV):Prop where
 ev:r.2.2.access≠0
 st:St (N+1) (K+1) r.1
 pins:r.1.pins.length=w.pins.length
 tm:tn r.2.1
 op:r.2.1.op=m.op
 go:(r.2.1.done=true/\F r.2.1)\/(∃v g e,x5 r.1 r.2.1 v g e/\L r.1 r.2.1 v g e)/\μ r.1 r.2.1<μ w m
structure IX(w:Wor)(m:rH)(v:rL)(g:Gr)(e:En):Prop where
 pc:(0<=m.pc/\m.pc<=12)\/(20<=m.pc/\m.pc<=23)
 ep:m.pc=1\/m.pc=2->m.zl=w.zl
 rU:(4<=m.pc/\m.pc<=12)\/m.pc=22->0<=m.listen
 early:4<=m.pc/\m.pc<=5->m.zn=0/\m.end_=0/\m.other=0
 JM:4<=m.pc/\m.pc<=8->m.slot=0
 draw:m.pc=6->∃c,v.snap.ze[m.zn.toNat]?=some c/\(rF c).length≠0
 slot:m.pc=10\/m.pc=11->m.slot=zx m.word/\e.head=m.word
 link:m.pc=11->e.next[m.slot.toNat]?=some m.link
 nX:20<=m.pc->1<=m.answer.kind/\m.answer.kind<=5
 JJ:(5<=m.pc/\m.pc<=12)\/(20<=m.pc/\m.pc<=22)->0<=m.listen->∃x,w.zc[m.listen.toNat]?=some x/\1<=x.zt
def CI(_:Wor)(m:rH):Nat:=(24-m.pc).toNat
theorem l6(h:kA v){k:Nat}(hk:k<v.zg.length):∃g e,v.zg[k]?=some g/\g.ends[0]?=some e/\0<g.ends.length/\0<e.next.length:=by
 obtain⟨g,hg⟩:∃g,v.zg[k]?=some g:=⟨_,cV hk⟩;have f:=h.tq.2 g (cZ hg);have hl:0<g.ends.length:=ah
 have he:g.ends[0]?=some g.ends[0]:=cV hl
 grind
section
variable {N K:Nat} {w:Wor} {m:rH} {v:rL} {g:Gr} {e:En}
def qE{r:Wor×rH×rV}{P:Wor×rH×rV->Prop}{o:nV}(h:o=some r)(hp:P r):∃r,o=some r/\P r:=⟨r,h,hp⟩
end
theorem HU{l:rS}(h:Go.Gat.rR l=true):qI l.name=true/\0<=l.zt/\(l.drain || !l.closed)=true:=by
 unfold Go.Gat.rR at h
 grind
theorem Ha{l:rS}(h1:qI l.name=true)(h2:0<=l.zt)(h3:(l.drain || !l.closed)=true):Go.Gat.rR l=true:=by
 unfold Go.Gat.rR
 grind
section
variable {N K:Nat} {w:Wor} {m:rH} {v:rL} {g:Gr} {e:En}
end
section
variable {N K:Nat} {w:Wor} {m:rH} {v:rL} {g:Gr} {e:En}
end
def look(m:List (Int×Value))(i:Int):Option Value:=(qL m i).bind λj=>(m[j]?).map (·.2)
theorem GQ(m:List (Int×Value))(i:Int):qL m i=(m.map (·.1)).findIdx? (λk=>decide (k=i)):=by
 unfold qL;rw[List.findIdx?_map]
 rfl
theorem Hb(m:List (Int×Value))(k i:Int)(v:Value):look (vv m k v) i=if k=i then some v else look m i:=by
 unfold vv;cases hf:qL m k with
 |some j=>
  dsimp only;obtain⟨u,hu⟩:=xg hf
  have keys:(m.set j (k,v)).map (·.1)=m.map (·.1):=by
   grind [List.map_set,yg]
  have e:qL (m.set j (k,v)) i=qL m i:=by grind [GQ]
  unfold look;rw[e];have rF:=(cW.1 hu).1;by_cases hki:k=i
  .grind
  .rw[c6 hki];cases hi:qL m i with
   |none=>rfl
   |some j'=>
    obtain⟨u',hu'⟩:=xg hi
    grind
 |none=>
  dsimp only
  have e:qL (m++[(k,v)]) i=if k=i then some m.length else qL m i:=by
   grind [qL]
  unfold look;rw[e];by_cases hki:k=i
  .grind
  .rw[c6 hki,c6 hki];cases hi:qL m i with
   |none=>rfl
   |some j'=>
    obtain⟨u',hu'⟩:=xg hi
    grind
theorem E6(l:List rP)(i:Int):jW l i=(match look (jK l) i with|some (.bool b)=>b|_=>false):=rfl
theorem E5(l:List rP)(r:rP):jK (l++[r])=vv (jK l) r.version (Value.bool r.gone):=by
 grind [jK]
theorem E7(l:List rP)(r:rP)(i:Int):jW (l++[r]) i=if r.version=i then r.gone else jW l i:=by
 grind [E6,E5,Hb]
theorem yS(l:List rP)(i:Int)(hu:∀(a b:Nat) (x y:rP),l[a]?=some x->l[b]?=some y->x.version=y.version->a=b):jW l i=true↔∃r∈l,r.version=i/\r.gone=true:=by
 have key:∀n,∀l:List rP,l.length=n->(∀(a b:Nat) (x y:rP),l[a]?=some x->l[b]?=some y->x.version=y.version->a=b)->(jW l i=true↔∃r∈l,r.version=i/\r.gone=true):=by
  intro n
  induction n with
  |zero=>
   intro l hl _;rw[gN.1 hl];constructor
   .intro h;cases h
   all_goals grind
  |succ n ih=>
   intro l hl hu;obtain⟨l',r,rfl⟩:∃l' r,l=l'++[r]:=⟨l.dropLast,l.getLast (by rintro rfl;cases hl),(List.dropLast_concat_getLast _).symm⟩;have hl':l'.length=n:=ak hl
   have ih':=ih l' hl' λa b x y ha hb=>hu a b x y (by rw[da (cW.1 ha).1];exact ha) (by rw[da (cW.1 hb).1];exact hb)
   have hlast:(l'++[r])[l'.length]?=some r:=aj
   rw[E7];by_cases h:r.version=i
   .rw[c7 h];constructor
    .grind
    .rintro⟨x,hx,hv,hg⟩;obtain⟨a,ha⟩:=di.1 hx
     grind
   all_goals grind
 grind
def iD(h:Go.Lim.rR l=true){x:rP}(hx:l[i]?=some x):0<=x.version/\0<=x.at_/\∀(j:Nat) (y:rP),j<i->l[j]?=some y->y.version≠x.version:=by
 have h2:=dq (show decide (∀i,(h:i<l.length)->Go.Lim.sd l i l[i]=true)=true from h) i (cW.1 hx).1;rw[(cW.1 hx).2]at h2;unfold Go.Lim.sd Go.Lim.uz at h2;simp only[c9,dG,dz,dv,dH]at h2;refine⟨ah,ah,λj y hj hy he=>h2.2 y ?_ he⟩;exact di.2 ⟨j,by rw[du,c7 hj];exact hy⟩
theorem HT:Go.Lim.rR l=true↔∀(i:Nat) (x:rP),l[i]?=some x->0<=x.version/\0<=x.at_/\∀(j:Nat) (y:rP),j<i->l[j]?=some y->y.version≠x.version:=by
 constructor
 .exactλh i x hx=>iD h hx
 .intro h;refine gj λi hi=>?_
  obtain⟨h1,h2,h3⟩:=h i l[i] (cV hi);unfold Go.Lim.sd Go.Lim.uz;simp only[c9,dG,dz,dv,dH];refine⟨⟨ah,ah⟩,λy hy he=>?_⟩;obtain⟨j,hj⟩:=di.1 hy
  grind
def vK(h:Go.Lim.rR l=true):∀(a b:Nat) (x y:rP),l[a]?=some x->l[b]?=some y->x.version=y.version->a=b:=λa b x y ha hb he=>by
 rcases g6 a b with rF|rfl|rF
 .exact absurd he ((iD h hb).2.2 a x rF ha)
 .rfl
 .exact absurd he.symm ((iD h ha).2.2 b y rF hb)
section
variable {N K:Nat} {w:Wor} {m:rH} {v:rL} {g:Gr} {e:En}
theorem St.qQ(st:St N K w){i:Nat}{k:Int}{v2:rL}{x:rP}(h0:0<=k)(hv:w.zd[k.toNat]?=some v2)(hx:w.zi[i]?=some x)(he:x.version=k):St (N+1) (K+1) {w with zd:=w.zd.set k.toNat (x7 v2),zi:=w.zi.set i (xb x)}:=by
 have gw:=st.jI;have la:=yc gw hx
 have same:∀(j:Nat) (y:rP),(w.zi.set i (xb x))[j]?=some y->∃z,w.zi[j]?=some z/\z.version=y.version/\z.at_=y.at_:=λj y hy=>by
  grind
 have isL:Go.Lim.rR (w.zi.set i (xb x))=true:=by
  rw[HT];intro j y hy;obtain⟨z,hz,e1,e2⟩:=same j y hy;obtain⟨a,b,c⟩:=iD gw.zi hz
  grind
 refine⟨⟨gw.ground,ak gw.current,isL,λr hr=>?_,λj v3 hv3=>?_,gw.rU⟩,⟨by have:=st.ty.yk;simp;omega,by have:=st.ty.rU;show w.zc.length<=_;omega,by have:=st.ty.sD;simp;omega,λv3 hv3=>?_,st.ty.tv⟩,⟨λl hl=>by have:=st.sH.rU l hl;omega,λv3 hv3 g2 hg e2 he=>?_⟩⟩
 .obtain⟨j,hj⟩:=di.1 hr;obtain⟨z,hz,e1,e2⟩:=same j r hj;have:=gw.bad z (cZ hz)
  grind [jA]
 .have gone2:jW (w.zi.set i (xb x)) j=if (j:Int)=k then true else jW w.zi j:=by
   by_cases hjk:(j:Int)=k
   .rw[c7 hjk,yS _ _ (vK isL)];exact⟨xb x,di.2 ⟨i,List.getElem?_set_self (cW.1 hx).1⟩,by show x.version=_;omega,rfl⟩
   .rw[c6 hjk,pT,yS _ _ (vK isL),yS _ _ (vK gw.zi)];constructor
    .grind
    .rintro⟨r,hr,h1,h2⟩;obtain⟨b,hb⟩:=di.1 hr
     have hbi:i≠b:=by
      grind
     exact⟨r,di.2 ⟨b,by rw[df,c6 hbi];exact hb⟩,h1,h2⟩
  show kA v3/\v3.qQ=jW (w.zi.set i (xb x)) j;rw[gone2];rcases ib hv3 with⟨rfl,rfl,_⟩|⟨hne,hv3⟩
  .rw[c7 ah];exact⟨⟨(gw.sf _ v2 hv).1.snap,(gw.sf _ v2 hv).1.len,(gw.sf _ v2 hv).1.fR⟩,rfl⟩
  .rw[c6 ah];exact gw.sf j v3 hv3
 .rcases mem_set hv3 with hv3|rfl
  .exact st.ty.sL v3 hv3
  .exact st.ty.sL v2 (cZ hv)
 .rcases mem_set hv3 with hv3|rfl
  .have:=st.sH.ends v3 hv3 g2 hg e2 he;omega
  .have:=st.sH.ends v2 (cZ hv) g2 hg e2 he;omega
end
structure IY(w:Wor)(m:rH)(v:rL)(g:Gr)(e:En):Prop where
 pc:0<=m.pc/\m.pc<=2
 sf:1<=m.pc->m.version≠w.current/\∀r∈w.zi,r.version≠m.version
 ep:m.pc=2->0<=m.zl/\m.zl<=w.zl
def CJ(_:Wor)(m:rH):Nat:=(3-m.pc).toNat
section
variable {N K:Nat} {w:Wor} {m:rH} {v:rL} {g:Gr} {e:En}
def IW(_:Wor)(m:rH)(_:rL)(_:Gr)(_:En):Prop:=m.pc=0
def Jm(_:Wor)(m:rH)(_:rL)(_:Gr)(_:En):Prop:=m.pc=9
structure IZ(w:Wor)(m:rH)(v:rL)(g:Gr)(e:En):Prop where
 pc:m.pc=0
 k:m.k<6
 i:m.i<w.counts.length
def CK(w:Wor)(m:rH):Nat:=((w.counts.length-m.i)*6-m.k).toNat
end
structure s9(w:Wor)(m:rH)(v:rL)(g:Gr)(e:En):Prop where
 pc:(0<=m.pc/\m.pc<=6)\/(8<=m.pc/\m.pc<=10)
 sW:m.pc=2->m.i<w.pins.length
 CH:m.pc=4->m.i<=w.zi.length
 sD:m.pc=5\/m.pc=6->∃r,w.zi[m.i.toNat]?=some r/\r.version=m.version/\r.gone=false
 act:m.pc=5->m.k<(zY v).length
 rU:m.pc=9\/m.pc=10->∃l,w.zc[m.i.toNat]?=some l/\l.drain=true
def Cp(m:rH):Prop:=m.answer.kind=11\/m.answer.kind=12
def sx(w:Wor)(m:rH):Nat:=(
 if m.pc=0 then 20*(w.zi.length:Int)+4*w.zc.length+w.pins.length+20
 else if m.pc=1 then 20*(w.zi.length:Int)+4*w.zc.length+w.pins.length+19
 else if m.pc=2 then 20*(w.zi.length:Int)+4*w.zc.length+10+(w.pins.length-m.i)
 else if m.pc=3 then 20*(w.zi.length:Int)+4*w.zc.length+10
 else if m.pc=4 then (w.zi.length-m.i)*20+4*w.zc.length+5
 else if m.pc=5 then (w.zi.length-m.i)*20+4*w.zc.length+5-1-m.k
 else if m.pc=6 then (w.zi.length-m.i)*20+4*w.zc.length+5-18
 else if m.pc=8 then (w.zc.length-m.i)*4
 else if m.pc=9 then (w.zc.length-m.i)*4-1
 else (w.zc.length-m.i)*4-2:Int).toNat
def B2:∀(l:List Gr),(∀g∈l,g.ends.length<=4)->(l.flatMap (·.ends)).length<=l.length*4
 |[],_=>by simp
 |g::l,h=>by
  have:=B2 l λx hx=>h x (dV _ hx)
  have:=h g (gm ..);simp only[List.flatMap_cons,dX,gA];omega
theorem vC(h:kA v):1<=(zY v).length/\(zY v).length<=16:=by
 have f:=h.tq;have h4:=B2 v.zg λg hg=>(f.2 g hg).1
 refine⟨?_,by unfold zY;omega⟩;have h0:0<v.zg.length:=by have:=(y4 h.snap).ze.1;have:=h.len;omega
 obtain⟨g,e,hg,he,_,_⟩:=l6 h h0;have:e∈zY v:=List.mem_flatMap.2 ⟨g,cZ hg,cZ he⟩
 grind
def z8{n:Int}(hh:(m.pc=0->n=20*(w.zi.length:Int)+4*w.zc.length+w.pins.length+20)/\(m.pc=1->n=20*(w.zi.length:Int)+4*w.zc.length+w.pins.length+19)/\(m.pc=2->n=20*(w.zi.length:Int)+4*w.zc.length+10+(w.pins.length-m.i))/\(m.pc=3->n=20*(w.zi.length:Int)+4*w.zc.length+10)/\(m.pc=4->n=(w.zi.length-m.i)*20+4*w.zc.length+5)/\(m.pc=5->n=(w.zi.length-m.i)*20+4*w.zc.length+5-1-m.k)/\(m.pc=6->n=(w.zi.length-m.i)*20+4*w.zc.length+5-18)/\(m.pc=8->n=(w.zc.length-m.i)*4)/\(m.pc=9->n=(w.zc.length-m.i)*4-1)/\(m.pc=10->n=(w.zc.length-m.i)*4-2):=by (refine⟨?_,?_,?_,?_,?_,?_,?_,?_,?_,?_⟩ <;> intro h <;> (try dsimp only at h|-) <;> omega))(hp:(0<=m.pc/\m.pc<=6)\/(8<=m.pc/\m.pc<=10):=by (try dsimp only);omega):sx w m=n.toNat:=by
 obtain⟨h0,h1,h2,h3,h4,h5,h6,h8,h9,h10⟩:=hh;unfold sx
 congr 1
 (repeat' split) <;> omega
section
variable {N K:Nat} {w:Wor} {m:rH} {v:rL} {g:Gr} {e:En}
def BD{m1:rH}(st:St N K w)(su:x5 w m1 v g e)(tm:tn m1)(hk:m1.op.kind=5)(hN:N<=100000000)(hpc:m1.pc=8)(ho:m1.op=m.op)(hM:m1.i<w.zc.length->(w.zc.length-m1.i)*4<=(sx w m:Int)):Nx N K w m s9 Cp sx (sE w m1):=by
 have st1:St (N+1) (K+1) w:=st.mono ah ah;have i0:=su.i;have hl:=st.ty.rU;unfold sE;cases hx:w.zc[m1.i.toNat]? with
 |none=>
  have st2:=st1.fT (n:=0) (.inl V);exact⟨(by show(2:Int)≠0;decide),st2,rfl,⟨tm.listen,tm.word,tm.link,tm.host,tm.path,tm.d0,tm.d1,tm.cfg,λh=>absurd ((show m1.op.kind=6 from h).symm.trans hk) aq⟩,ho,.inl ⟨rfl,.inl V⟩⟩
 |some l=>
  have rF:=(cW.1 hx).1;have hm:=hM ah;have hw:IntKind.i64.wrap (m1.i+1)=m1.i+1:=z7 ah ah;dsimp only;by_cases q:l.drain=true/\l.closed=false
  .unfold eZ;rw[c7 q];refine⟨uX,st1,rfl,uO,ho,.inr ⟨⟨v,g,e,⟨su.world,su.zO,su.done,su.version,su.sC,su.zn,su.sG,su.end_,su.sJ,su.other,su.slot,su.listen,su.i,su.k⟩,⟨uL,uK,uK,uK,uK,λ_=>⟨l,hx,q.1⟩⟩⟩,?_⟩⟩;show sx w {m1 with pc:=9}<_;rw[(z8 (w:=w) (m:={m1 with pc:=9}) (n:=(w.zc.length-m1.i)*4-1))];omega
  .unfold eZ;rw[c6 q,hw];refine⟨uX,st1,rfl,uO,ho,.inr ⟨⟨v,g,e,⟨su.world,su.zO,su.done,su.version,su.sC,su.zn,su.sG,su.end_,su.sJ,su.other,su.slot,su.listen,(by show 0<=m1.i+1;omega),su.k⟩,⟨by show _\/(8<=m1.pc/\m1.pc<=10);omega,uK,uK,uK,uK,uK⟩⟩,?_⟩⟩;show sx w {m1 with i:=m1.i+1}<_;rw[(z8 (w:=w) (m:={m1 with i:=m1.i+1}) (n:=(w.zc.length-(m1.i+1))*4))];omega
def yB(st:St N K w)(su:x5 w m v g e)(tm:tn m)(lo:s9 w m v g e)(hk:m.op.kind=5)(hN:N<=100000000):∃r,qZ w m=some r/\Nx N K w m s9 Cp sx r:=by
 have gw:=st.jI;have st1:St (N+1) (K+1) w:=st.mono ah ah;have i0:=su.i;have k0:=su.k;have gr:=zZ.1 gw.ground;have lT:=st.ty.rU;have lL:=st.ty.sD;have pc:=lo.pc;have pcs:m.pc=0\/m.pc=1\/m.pc=2\/m.pc=3\/m.pc=4\/m.pc=5\/m.pc=6\/m.pc=8\/m.pc=9\/m.pc=10:=ah
 unfold qZ;by_cases p:m.pc=0
 .rw[c7 p];by_cases q:w.lock=0
  .rw[c7 q];have st2:=st1.fT (n:=1) (.inr V);refine qE V ⟨(by show(4:Int)≠0;decide),st2,rfl,uO,rfl,.inr ⟨⟨v,g,e,⟨qJ.2 st2.jI,su.zO,su.done,su.version,su.sC,su.zn,su.sG,su.end_,su.sJ,su.other,su.slot,su.listen,su.i,su.k⟩,⟨uL,uK,uK,uK,uK,uK⟩⟩,?_⟩⟩;show sx {w with lock:=1} {m with pc:=1}<_;rw[(z8 (w:={w with lock:=1}) (m:={m with pc:=1}) (n:=20*(w.zi.length:Int)+4*w.zc.length+w.pins.length+19)),(z8 (w:=w) (m:=m) (n:=20*(w.zi.length:Int)+4*w.zc.length+w.pins.length+20))];omega
  .rw[c6 q];exact qE V ⟨(by show(5:Int)≠0;decide),st1,rfl,⟨tm.listen,tm.word,tm.link,tm.host,tm.path,tm.d0,tm.d1,tm.cfg,(λh=>absurd ((show m.op.kind=6 from h).symm.trans hk) aq)⟩,rfl,.inl ⟨rfl,.inr V⟩⟩
 replace pcs:=pcs.resolve_left p
 rw[c6 p];clear p
 by_cases p:m.pc=1
 .rw[c7 p];refine qE V ⟨uX,st1,rfl,uO,rfl,.inr ⟨⟨v,g,e,uQ,⟨uL,λ_=>by show(0:Int)<(w.pins.length:Nat);have:=gr.pins.1;omega,uK,uK,uK,uK⟩⟩,?_⟩⟩;show sx w {m with zl:=w.zl,pc:=2,i:=0}<_;rw[(z8 (w:=w) (m:={m with zl:=w.zl,pc:=2,i:=0}) (n:=20*(w.zi.length:Int)+4*w.zc.length+10+w.pins.length)),(z8 (w:=w) (m:=m) (n:=20*(w.zi.length:Int)+4*w.zc.length+w.pins.length+19))];omega
 replace pcs:=pcs.resolve_left p
 rw[c6 p];clear p
 by_cases p:m.pc=2
 .rw[c7 p];have hi:=lo.sW p;obtain⟨x,hx⟩:∃x,w.pins[m.i.toNat]?=some x:=⟨_,cV ah⟩;have hw:IntKind.i64.wrap (m.i+1)=m.i+1:=z7 ah (by have:=gr.pins.2;omega);rw[hx,dc];have e0:=(z8 (w:=w) (m:=m) (n:=20*(w.zi.length:Int)+4*w.zc.length+10+(w.pins.length-m.i)));unfold tu;rw[hw];by_cases q:x≠0/\x≠IntKind.i64.wrap (m.zl+1)
  .rw[c7 q];refine qE V ⟨uX,st1,rfl,uO,rfl,.inr ⟨⟨v,g,e,uQ,⟨uL,uK,λ_=>by show(0:Int)<=_;omega,uK,uK,uK⟩⟩,?_⟩⟩;show sx w {m with pc:=4,i:=0}<_;rw[e0,(z8 (w:=w) (m:={m with pc:=4,i:=0}) (n:=((w.zi.length:Int)-0)*20+4*w.zc.length+5))];omega
  rw[c6 q];by_cases q2:m.i+1<w.pins.length
  .rw[c7 q2];refine qE V ⟨uX,st1,rfl,uO,rfl,.inr ⟨⟨v,g,e,uP,⟨bP,λ_=>q2,uK,uK,uK,uK⟩⟩,?_⟩⟩;show sx w {m with i:=m.i+1}<_;rw[e0,(z8 (w:=w) (m:={m with i:=m.i+1}) (n:=20*(w.zi.length:Int)+4*w.zc.length+10+(w.pins.length-(m.i+1))))];omega
  .rw[c6 q2];refine qE V ⟨uX,st1,rfl,uO,rfl,.inr ⟨⟨v,g,e,uP,⟨uL,uK,uK,uK,uK,uK⟩⟩,?_⟩⟩;show sx w {m with pc:=3,i:=m.i+1}<_;rw[e0,(z8 (w:=w) (m:={m with pc:=3,i:=m.i+1}) (n:=20*(w.zi.length:Int)+4*w.zc.length+10))];omega
 replace pcs:=pcs.resolve_left p
 rw[c6 p];clear p
 by_cases p:m.pc=3
 .rw[c7 p];have e0:=(z8 (w:=w) (m:=m) (n:=20*(w.zi.length:Int)+4*w.zc.length+10));by_cases q:w.zl=m.zl/\w.zl<1000000000000
  .have hw:IntKind.i64.wrap (w.zl+1)=w.zl+1:=z7 (by have:=gr.zl;omega) ah;rw[c7 q,hw];have st2:=st1.lk (n:=w.zl+1) ah ah;refine qE V ⟨(by show(4:Int)≠0;decide),st2,rfl,uO,rfl,.inr ⟨⟨v,g,e,⟨qJ.2 st2.jI,su.zO,su.done,su.version,su.sC,su.zn,su.sG,su.end_,su.sJ,su.other,su.slot,su.listen,gC _,su.k⟩,⟨uL,uK,λ_=>by show(0:Int)<=_;omega,uK,uK,uK⟩⟩,?_⟩⟩;show sx {w with zl:=w.zl+1} {m with pc:=4,i:=0,zl:=w.zl+1}<_;rw[e0,(z8 (w:={w with zl:=w.zl+1}) (m:={m with pc:=4,i:=0,zl:=w.zl+1}) (n:=((w.zi.length:Int)-0)*20+4*w.zc.length+5))];omega
  .rw[c6 q];refine qE V ⟨(by show(5:Int)≠0;decide),st1,rfl,uO,rfl,.inr ⟨⟨v,g,e,uQ,⟨uL,uK,λ_=>by show(0:Int)<=_;omega,uK,uK,uK⟩⟩,?_⟩⟩;show sx w {m with pc:=4,i:=0}<_;rw[e0,(z8 (w:=w) (m:={m with pc:=4,i:=0}) (n:=((w.zi.length:Int)-0)*20+4*w.zc.length+5))];omega
 replace pcs:=pcs.resolve_left p
 rw[c6 p];clear p
 by_cases p:m.pc=4
 .rw[c7 p];have e0:=(z8 (w:=w) (m:=m) (n:=((w.zi.length:Int)-m.i)*20+4*w.zc.length+5));have li:=lo.CH p;cases hx:w.zi[m.i.toNat]? with
  |none=>
   refine qE V (BD st (m1:=rW m 8 0) uQ uO hk hN V V λ_=>?_);rw[e0];show((w.zc.length:Int)-0)*4<=_;omega
  |some r=>
   have rF:=(cW.1 hx).1;have hw:IntKind.i64.wrap (m.i+1)=m.i+1:=z7 ah ah;have la:=yc gw hx;dsimp only;unfold tz;rw[hw];by_cases q:r.gone=true\/Go.Lim.j0 r.at_ m.zl=false
   .rw[c7 q];refine qE V ⟨uX,st1,rfl,uO,rfl,.inr ⟨⟨v,g,e,uP,⟨bP,uK,λ_=>by show m.i+1<=(w.zi.length:Nat);omega,uK,uK,uK⟩⟩,?_⟩⟩;show sx w {m with i:=m.i+1}<_;rw[e0,(z8 (w:=w) (m:={m with i:=m.i+1}) (n:=((w.zi.length:Int)-(m.i+1))*20+4*w.zc.length+5))];omega
   .rw[c6 q];obtain⟨v',hv'⟩:∃v',w.zd[r.version.toNat]?=some v':=⟨_,cV ah⟩;have gv:=(gw.sf _ v' hv').1;have h0:0<v'.zg.length:=by have:=(y4 gv.snap).ze.1;have:=gv.len;omega
    obtain⟨g',e',hg,he,l1,l2⟩:=l6 gv h0;have el:=vC gv
    refine qE V ⟨uX,st1,rfl,uO,rfl,.inr ⟨⟨v',g',e',⟨su.world,su.zO,su.done,⟨la.2.2.1,la.2.2.2.1⟩,hv',⟨gC _,bQ⟩,hg,⟨gC _,bQ⟩,he,⟨gC _,bQ⟩,⟨gC _,bQ⟩,su.listen,su.i,gC _⟩,
     ⟨uL,uK,uK,λ_=>⟨r,hx,rfl,by cases hgo:r.gone with|false=>rfl|true=>exact absurd (.inl hgo) q⟩,λ_=>by show(0:Int)<_;omega,uK⟩⟩,?_⟩⟩
    show sx w {m with version:=r.version,zn:=0,end_:=0,other:=0,slot:=0,k:=0,pc:=5}<_;rw[e0,(z8 (w:=w) (m:={m with version:=r.version,zn:=0,end_:=0,other:=0,slot:=0,k:=0,pc:=5}) (n:=((w.zi.length:Int)-m.i)*20+4*w.zc.length+5-1-0))];omega
 replace pcs:=pcs.resolve_left p
 rw[c6 p];clear p
 by_cases p:m.pc=5
 .rw[c7 p];have e0:=(z8 (w:=w) (m:=m) (n:=((w.zi.length:Int)-m.i)*20+4*w.zc.length+5-1-m.k));obtain⟨r,hr,hrv,hrg⟩:=lo.sD (.inl p);have rF:=(cW.1 hr).1;have hk2:=lo.act p;have gv:=(gw.sf _ v su.sC).1;have el:=vC gv;have hw:IntKind.i64.wrap (m.i+1)=m.i+1:=z7 ah ah;have hwk:IntKind.i64.wrap (m.k+1)=m.k+1:=z7 ah ah;obtain⟨x,hx⟩:∃x,(zY v)[m.k.toNat]?=some x:=⟨_,cV ah⟩;rw[su.sC,dB,hx,dc];unfold tL;rw[hw,hwk];by_cases q:x.zt≠0
  .rw[c7 q];refine qE V ⟨uX,st1,rfl,uO,rfl,.inr ⟨⟨v,g,e,uP,⟨uL,uK,λ_=>by show m.i+1<=(w.zi.length:Nat);omega,uK,uK,uK⟩⟩,?_⟩⟩;show sx w {m with pc:=4,i:=m.i+1}<_;rw[e0,(z8 (w:=w) (m:={m with pc:=4,i:=m.i+1}) (n:=((w.zi.length:Int)-(m.i+1))*20+4*w.zc.length+5))];omega
  rw[c6 q];by_cases q2:m.k+1<(zY v).length
  .rw[c7 q2];refine qE V ⟨uX,st1,rfl,uO,rfl,.inr ⟨⟨v,g,e,⟨su.world,su.zO,su.done,su.version,su.sC,su.zn,su.sG,su.end_,su.sJ,su.other,su.slot,su.listen,su.i,(by show 0<=m.k+1;omega)⟩,⟨bP,uK,uK,λ_=>⟨r,hr,hrv,hrg⟩,λ_=>q2,uK⟩⟩,?_⟩⟩;show sx w {m with k:=m.k+1}<_;rw[e0,(z8 (w:=w) (m:={m with k:=m.k+1}) (n:=((w.zi.length:Int)-m.i)*20+4*w.zc.length+5-1-(m.k+1)))];omega
  .rw[c6 q2];refine qE V ⟨uX,st1,rfl,uO,rfl,.inr ⟨⟨v,g,e,⟨su.world,su.zO,su.done,su.version,su.sC,su.zn,su.sG,su.end_,su.sJ,su.other,su.slot,su.listen,su.i,(by show 0<=m.k+1;omega)⟩,⟨uL,uK,uK,λ_=>⟨r,hr,hrv,hrg⟩,uK,uK⟩⟩,?_⟩⟩;show sx w {m with k:=m.k+1,pc:=6}<_;rw[e0,(z8 (w:=w) (m:={m with k:=m.k+1,pc:=6}) (n:=((w.zi.length:Int)-m.i)*20+4*w.zc.length+5-18))];omega
 replace pcs:=pcs.resolve_left p
 rw[c6 p];clear p
 by_cases p:m.pc=6
 .rw[c7 p];have e0:=(z8 (w:=w) (m:=m) (n:=((w.zi.length:Int)-m.i)*20+4*w.zc.length+5-18));obtain⟨r,hr,hrv,hrg⟩:=lo.sD (.inr p);have rF:=(cW.1 hr).1;have hw:IntKind.i64.wrap (m.i+1)=m.i+1:=z7 ah ah;have st2:=st.qQ su.version.1 su.sC hr hrv;have s1:=(cW.1 su.sC).1;rw[su.sC,dB,hr,dB,c7 ⟨hrv,hrg⟩];unfold tY;rw[hw]
  refine qE V ⟨(by show(2:Int)≠0;decide),st2,rfl,⟨tm.listen,tm.word,tm.link,tm.host,tm.path,tm.d0,tm.d1,tm.cfg,(λh=>absurd ((show m.op.kind=6 from h).symm.trans hk) aq)⟩,rfl,.inr ⟨⟨x7 v,g,e,⟨qJ.2 st2.jI,su.zO,su.done,ak su.version,List.getElem?_set_self s1,su.zn,su.sG,su.end_,su.sJ,su.other,su.slot,su.listen,by show 0<=m.i+1;omega,su.k⟩,
   ⟨uL,uK,λ_=>by show m.i+1<=((w.zi.set m.i.toNat (xb r)).length:Nat);rw[rD];omega,uK,uK,uK⟩⟩,?_⟩⟩
  show sx {w with zd:=w.zd.set m.version.toNat (x7 v),zi:=w.zi.set m.i.toNat (xb r)} {m with answer:={m.answer with n:=IntKind.i64.wrap (m.answer.n+1)},pc:=4,i:=m.i+1}<_;have ll:(w.zi.set m.i.toNat (xb r)).length=w.zi.length:=rD;rw[e0,(z8 (w:={w with zd:=w.zd.set m.version.toNat (x7 v),zi:=w.zi.set m.i.toNat (xb r)}) (m:={m with answer:={m.answer with n:=IntKind.i64.wrap (m.answer.n+1)},pc:=4,i:=m.i+1}) (n:=((w.zi.length:Int)-(m.i+1))*20+4*w.zc.length+5))];omega
 replace pcs:=pcs.resolve_left p
 rw[c6 p];clear p
 by_cases p:m.pc=8
 .rw[c7 p];have e0:=(z8 (w:=w) (m:=m) (n:=((w.zc.length:Int)-m.i)*4));refine qE V (BD st su tm hk hN p V λh=>?_);rw[e0];omega
 replace pcs:=pcs.resolve_left p
 rw[c6 p];clear p
 by_cases p:m.pc=9
 .rw[c7 p];have e0:=(z8 (w:=w) (m:=m) (n:=((w.zc.length:Int)-m.i)*4-1));obtain⟨l,hl,hd⟩:=lo.rU (.inl p);have rF:=(cW.1 hl).1;have hw:IntKind.i64.wrap (m.i+1)=m.i+1:=z7 ah ah;rw[hl,dc,hw];by_cases q:l.zt=0
  .rw[c7 q];refine qE V ⟨uX,st1,rfl,uO,rfl,.inr ⟨⟨v,g,e,⟨su.world,su.zO,su.done,su.version,su.sC,su.zn,su.sG,su.end_,su.sJ,su.other,su.slot,su.listen,su.i,su.k⟩,⟨uL,uK,uK,uK,uK,λ_=>⟨l,hl,hd⟩⟩⟩,?_⟩⟩;show sx w {m with pc:=10}<_;rw[e0,(z8 (w:=w) (m:={m with pc:=10}) (n:=((w.zc.length:Int)-m.i)*4-2))];omega
  .rw[c6 q];refine qE V ⟨uX,st1,rfl,uO,rfl,.inr ⟨⟨v,g,e,uP,⟨uL,uK,uK,uK,uK,uK⟩⟩,?_⟩⟩;show sx w {m with pc:=8,i:=m.i+1}<_;rw[e0,(z8 (w:=w) (m:={m with pc:=8,i:=m.i+1}) (n:=((w.zc.length:Int)-(m.i+1))*4))];omega
 rw[c6 p];have p:m.pc=10:=pcs.resolve_left p;have e0:=(z8 (w:=w) (m:=m) (n:=((w.zc.length:Int)-m.i)*4-2));obtain⟨l,hl,hd⟩:=lo.rU (.inr p);have rF:=(cW.1 hl).1;have hw:IntKind.i64.wrap (m.i+1)=m.i+1:=z7 ah ah;have li:=HU (gw.rU _ l hl).1;have st2:=st1.mN hl (y:=vo l) V (Ha li.1 li.2.1 (by show(l.drain || !true)=true;rw[hd];rfl)) (st.ty.tv l (cZ hl)).2 (by have:=st.sH.rU l (cZ hl);show l.zt<=_;omega);rw[c7 p,hl,dB,c7 hd,hw];refine qE V ⟨(by show(2:Int)≠0;decide),st2,rfl,uO,rfl,.inr ⟨⟨v,g,e,⟨qJ.2 st2.jI,su.zO,su.done,su.version,su.sC,su.zn,su.sG,su.end_,su.sJ,su.other,su.slot,ak su.listen,by show 0<=m.i+1;omega,su.k⟩,⟨uL,uK,uK,uK,uK,uK⟩⟩,?_⟩⟩;show sx {w with zc:=w.zc.set m.i.toNat (vo l)} {m with pc:=8,i:=m.i+1}<_;have ll:(w.zc.set m.i.toNat (vo l)).length=w.zc.length:=rD;rw[e0,(z8 (w:={w with zc:=w.zc.set m.i.toNat (vo l)}) (m:={m with pc:=8,i:=m.i+1}) (n:=((w.zc.length:Int)-(m.i+1))*4))];omega
end
end Go.Wor
namespace Go.Wor
open Go.Ab Go.Proofs Tryz Go.Gat Go.Nam Go.Hos Go.Con Go.Sna Go.Pla
open Go.Hy hiding encI
def Cq(w:Wor)(m:rH)(v:rL)(g:Gr)(e:En):Prop:=(m.op.kind=1/\IX w m v g e)\/(m.op.kind=2/\Jm w m v g e)\/(m.op.kind=3/\IY w m v g e)\/(m.op.kind=4/\IW w m v g e)\/(m.op.kind=5/\s9 w m v g e)\/(m.op.kind=6/\IZ w m v g e)
def Co(m:rH):Prop:=1<=m.answer.kind/\m.answer.kind<=13/\(m.op.kind=1↔m.answer.kind<=5)
def n8(w:Wor)(m:rH):Nat:=if m.op.kind=1 then CI w m else if m.op.kind=3 then CJ w m else if m.op.kind=5 then sx w m else if m.op.kind=6 then CK w m else 0
section
variable {N K:Nat} {w:Wor} {m:rH} {v:rL} {g:Gr} {e:En}
theorem Nx.up{k:Int}{L:Wor->rH->rL->Gr->En->Prop}{F:rH->Prop}{μ:Wor->rH->Nat}{r:Wor×rH×rV}(h:Nx N K w m L F μ r)(hk:m.op.kind=k)(hL:∀w' m' v g e,m'.op.kind=k->L w' m' v g e->Cq w' m' v g e)(hF:∀m',m'.op.kind=k->F m'->Co m')(hμ:∀w' m',m'.op.kind=k->n8 w' m'=μ w' m'):Nx N K w m Cq Co n8 r:=by
 have hk':r.2.1.op.kind=k:=by rw[h.op];exact hk
 refine⟨h.ev,h.st,h.pins,h.tm,h.op,?_⟩;rcases h.go with⟨h1,h2⟩|⟨⟨v',g',e',h1,h2⟩,h3⟩
 all_goals grind
end
def Ah{w:Wor}{m:rH}{v:rL}{g:Gr}{e:En}(su:x5 w m v g e):qe w m=true:=by
 unfold qe;simp only[c9,dG,xw];refine⟨⟨⟨⟨su.world,su.zO⟩,su.done⟩,su.version⟩,?_⟩;rw[su.sC];simp only[c9,xw];refine⟨su.zn,?_⟩;rw[su.sG];simp only[c9,xw,dm];rw[su.sJ];simp only[xw];exact⟨⟨⟨su.end_,su.other⟩,su.slot⟩,⟨⟨by have:=su.listen;omega,su.i⟩,su.k⟩⟩
end Go.Wor
