import Derived.Test.YtllehbdigpdinaaGreatTS
import Derived.Test.YtllehbdigpdinaaGreatTI
set_option linter.all false
set_option maxRecDepth 100000
set_option maxHeartbeats 4000000
namespace Go.Slp
open Go.Ab Go.Hy
variable{i:Int}{nx:List Int}{e a:En}
def Kg{x:Int}(h1: -1<=i)(h2:i<=2147483646):qY x i%4294967296-1=i:=by unfold qY;omega
def ztC{x:Int}(h1: -1<=i)(h2:i<=2147483646):qY x i / 4294967296=(x / 4294967296+1)%4294967296:=by unfold qY;omega
def Lb{x:Int}(h1: -1<=i)(h2:i<=2147483646):u64 (qY x i):=by unfold qY u64;omega
theorem Hz(nx:List Int)(i0:Int):∀k,xe nx (iR nx i0) k=xe nx i0 (k+1)
 |0=>rfl
 |k+1=>by
  show iR nx (xe nx (iR nx i0) k)=iR nx (xe nx i0 (k+1));rw[Hz nx i0 k]
theorem QL(nx:List Int)(i0:Int)(k:Nat):xK nx i0 (k+1)=i0::xK nx (iR nx i0) k:=by
 unfold xK;rw[List.range_succ_eq_map,pP,rC]
 congr 1
 grind [List.map_congr_left,Hz]
def J8{i0:Int}(h:iI nx i0=true)(h0:¬i0<0):xg nx (iR nx i0)+1=xg nx i0/\iI nx (iR nx i0)=true/\xK nx i0 (xg nx i0)=i0::xK nx (iR nx i0) (xg nx (iR nx i0)):=by
 have hp:=RT h h0;obtain⟨N,hN⟩:∃N,xg nx i0=N+1:=⟨xg nx i0-1,aw⟩;obtain⟨c1,c2,c3⟩:=vr nx i0
 have hend:xe nx (iR nx i0) N= -1:=by
  grind [Hz,iI]
 have e:xg nx (iR nx i0)=N:=by
  refine K4 ?_ ?_
  .grind [lK,xe,iR,yU]
  .intro j hj;have:=c3 (j+1) aw;simp only[yU,pU,rX]at this|-
   grind [Hz,QL,Bool.or_eq_false_iff]
 grind [iI,QL]
def Df(h:iI e.next (zA e)=true):qB e=(xK e.next (zA e) (xg e.next (zA e)),0):=by
 grind [qB]
def zyS(he:e.ok)(h:I4 e=(a,i,0)):
  fV e=true/\¬zA e<0/\i=zA e/\a=⟨qY e.head (iR e.next (zA e)),e.next,e.zj⟩/\zA a=iR e.next (zA e)/\fV a=true/\a.ok/\(qB a).2=0/\(qB e)=(i::(qB a).1,0):=by
 unfold I4 at h;cases hv:fV e with
 |false=>rw[gz hv]at h;simp at h
 |true=>
  rw[gp (by simp[hv])]at h;by_cases h0:zA e<0
  .rw[gz h0]at h;simp at h
  .rw[gp h0]at h;cases h
   obtain⟨g1,g2,g3,g4⟩:=R5 hv h0;obtain⟨b1,b2,b3,b4⟩:=CG hv;have hh:zA ⟨qY e.head (iR e.next (zA e)),e.next,e.zj⟩=iR e.next (zA e):=Kg g3 aw;obtain⟨t1,t2,t3⟩:=J8 b1 h0;have hok:iI (⟨qY e.head (iR e.next (zA e)),e.next,e.zj⟩:En).next (zA ⟨qY e.head (iR e.next (zA e)),e.next,e.zj⟩)=true:=by rw[hh];exact t2
   refine⟨rfl,h0,rfl,rfl,hh,?_,⟨Lb g3 aw,he.2⟩,?_,?_⟩
   .simp only[fV,hok,u5,gH,gR];exact⟨⟨b2,b3⟩,b4⟩
   .rw[Df hok]
   .rw[Df b1,Df hok,hh,t3]
theorem PJ{s p v:Int}(h:p≠s)(h1:0<=s)(h2:0<=p):iR (nx.set s.toNat v) p=iR nx p:=by
 grind [iR]
def ZG{s v:Int}(h1:0<=s)(h2:s<nx.length):iR (nx.set s.toNat v) s=v:=by
 grind [iR]
def zwB(he:e.ok){slot:Int}(h:IT e slot=(a,0)):
  fV e=true/\0<=slot/\slot<e.next.length/\a=⟨qY e.head slot,e.next.set slot.toNat (zA e),e.zj⟩/\zA a=slot/\fV a=true/\a.ok/\(qB e).2=0/\qB a=(slot::(qB e).1,0):=by
 unfold IT at h;cases hv:fV e with
 |false=>rw[gz hv]at h;simp at h
 |true=>
  rw[gp (by simp[hv])]at h;by_cases h0:slot<0\/e.next.length<=slot
  .rw[gz h0]at h;simp at h
  .rw[gp h0]at h;cases hc:(qB e).1.contains slot with
   |true=>rw[gz hc]at h;simp at h
   |false=>
    rw[gp (by rw[hc];decide)]at h;cases h
    obtain⟨b1,b2,b3,b4⟩:=CG hv;have s1:0<=slot:=aw
    have s2:slot<e.next.length:=aw
    have hh:zA ⟨qY e.head slot,e.next.set slot.toNat (zA e),e.zj⟩=slot:=Kg aw aw;obtain⟨c1,c2,c3⟩:=vr e.next (zA e);generalize hN:xg e.next (zA e)=N at *;have hfr:qB e=(xK e.next (zA e) N,0):=by rw[Df b1,hN]
    rw[hfr]at hc
    have hnot:∀k,k<N->xe e.next (zA e) k≠slot/\0<=xe e.next (zA e) k:=λk hk=>by
     constructor
     .grind [xK,zA]
     .have:=c3 k hk;simp only[yU,pU,rX,lK,gH,gR]at this;exact this.1.1
    have hpos:∀k,k<=N->xe (e.next.set slot.toNat (zA e)) slot (k+1)=xe e.next (zA e) k:=by
     intro k
     induction k with
     |zero=>intro _;exact ZG s1 s2
     |succ k ih=>
      grind [iR,xe,zA,PJ]
    have hvis:∀k,k<=N->xK (e.next.set slot.toNat (zA e)) slot (k+1)=slot::xK e.next (zA e) k:=λk hk=>by
     unfold xK;rw[List.range_succ_eq_map,pP,rC]
     congr 1
     grind [List.map_congr_left]
    have hin:∀p,lK (e.next.set slot.toNat (zA e)) p=lK e.next p:=λp=>by simp[lK]
    have hend:xe e.next (zA e) N= -1:=by
     grind [iI,zA]
    have hcnt:xg (e.next.set slot.toNat (zA e)) slot=N+1:=by
     refine K4 ?_ ?_
     .have:lK (e.next.set slot.toNat (zA e)) (xe (e.next.set slot.toNat (zA e)) slot (N+1))=false:=by rw[hpos N (gG _),hend,hin];simp[lK]
      grind [yU]
     .intro j hj;cases j with
      |zero=>
       grind [yU,xK,xe,lK]
      |succ j=>
       grind [yU,Bool.or_eq_false_iff]
    have hok:iI (e.next.set slot.toNat (zA e)) slot=true:=by
     simp only[iI,hcnt,hpos N (gG _),hend]
     rfl
    have hfa:qB ⟨qY e.head slot,e.next.set slot.toNat (zA e),e.zj⟩=(slot::xK e.next (zA e) N,0):=by
     rw[Df (by rw[hh];exact hok),hh]
     grind
    refine⟨rfl,s1,s2,rfl,hh,?_,⟨Lb aw aw,⟨λx hx=>?_,by simp;exact he.2.1.2⟩,he.2.2⟩,by rw[hfr],by rw[hfa,hfr]⟩
    .simp only[fV,hh,hok,u5,gH,gR];exact⟨⟨aA,aA⟩,b4⟩
    .rcases pE hx with h|h
     .exact he.2.1.1 x h
     .have:=zvF e;rw[h];exact⟨aw,aw⟩
def zuv(nx:List Int)(i0:Int):(xK nx i0 (xg nx i0)).Nodup:=(FL (vr nx i0).2.2).1
end Go.Slp
namespace Go.Wor
open Go.Ab Go.Proofs Tryz Go.Hy Go.Gat Go.Nam Go.Hos Go.Con Go.Sna
variable{α:Type}{l:List fS}{i:Nat}{x:fS}{w:Wor}{m:fD}{v:fI}{e e':En}{tk:Int}
def mem_set{l:List α}{x y:α}(h:y∈l.set i x):y∈l\/y=x:=pE h
def xc{l:List α}{j:Nat}{x y:α}(h:(l.set i x)[j]?=some y):(i=j/\y=x/\i<l.length)\/(i≠j/\l[j]?=some y):=by
 grind
def qQ.mP{w:Wor}(h:qQ w)(t:Nat){p:Int}(h0:0<=p)(h1:p<=w.zl+1):qQ (nT w t p):=by
 have g:=zU.1 h.ground;refine⟨zU.2 ⟨aq g.pins,⟨aq g.counts.1,g.counts.2⟩,g.zl,g.lock,λq hq=>?_⟩,h.current,h.zm,h.bad,h.fW,h.fP⟩;rcases mem_set hq with hq|rfl
 .exact g.mP q hq
 .exact⟨h0,h1⟩
def qQ.count(h:qQ w)(t:Nat){r:List Int}(h0:r.length=6):qQ {w with counts:=w.counts.set t r}:=by
 have g:=zU.1 h.ground;refine⟨zU.2 ⟨g.pins,⟨aq g.counts.1,λq hq=>?_⟩,g.zl,g.lock,g.mP⟩,h.current,h.zm,h.bad,h.fW,h.fP⟩;rcases mem_set hq with hq|rfl
 .exact g.counts.2 q hq
 .exact h0
def qQ.DK(h:qQ w){n:Int}(h0:n=0\/n=1):qQ {w with lock:=n}:=by
 have g:=zU.1 h.ground;exact⟨zU.2 ⟨g.pins,g.counts,g.zl,h0,g.mP⟩,h.current,h.zm,h.bad,h.fW,h.fP⟩
def qQ.GH(h:qQ w){n:Int}(h0:w.zl<=n)(h1:n<=1000000000000):qQ {w with zl:=n}:=by
 have g:=zU.1 h.ground;refine⟨zU.2 ⟨g.pins,g.counts,⟨by have:=g.zl.1;show 0<=n;omega,h1⟩,g.lock,λp hp=>by have:=g.mP p hp;show _/\p<=n+1;omega⟩,h.current,h.zm,λr hr=>?_,h.fW,h.fP⟩;have:=h.bad r hr
 grind [yO]
def ztX{l l':List fT}(h:l.map (·.name)=l'.map (·.name))(s:fK):zT l s=zT l' s:=by
 unfold zT
 have:l.findIdx? (λr=>r.name == s)=l'.findIdx? (λr=>r.name == s):=by
  have e:∀l:List fT,l.findIdx? (λr=>r.name == s)=(l.map (·.name)).findIdx? (λx=>x == s):=λl=>by rw[sG];rfl
  rw[e,e,h]
 rw[this]
def ztz{l:List fT}{x y:fT}(hx:l[i]?=some x)(h:y.name=x.name):(l.set i y).map (·.name)=l.map (·.name):=by
 grind [List.map_set,xV]
def qQ.Ep(h:qQ w){x y:fT}(hx:w.zc[i]?=some x)(hn:y.name=x.name)(hy:Go.Gat.fV y=true):qQ {w with zc:=w.zc.set i y}:=by
 refine⟨h.ground,h.current,h.zm,h.bad,h.fW,λj l hl=>?_⟩;show _/\zT (w.zc.set i y) l.name=j;rw[ztX (ztz hx hn)];rcases xc hl with⟨rfl,rfl,_⟩|⟨_,hl⟩
 .rw[hn];exact⟨hy,(h.fP i x hx).2⟩
 .exact h.fP j l hl
def oV.np{g:Gr}(h:oV v)(hg:v.zq[m.zg.toNat]?=some g)(he:g.ends[m.end_.toNat]?=some e)(hi:Slp.fV e'=true)(hl:e'.next.length=e.next.length):
  oV {v with zq:=v.zq.set m.zg.toNat {g with zx:=tk,ends:=g.ends.set m.end_.toNat e'} }:=by
 refine⟨h.snap,aq h.len,λi g2 x hg2 hx=>?_⟩;rcases xc hg2 with⟨rfl,rfl,_⟩|⟨_,hg2⟩
 .obtain⟨h1,h2⟩:=h.BS _ g x hg hx;refine⟨aq h1,λy hy=>?_⟩;rcases mem_set hy with hy|rfl
  .exact h2 y hy
  .exact⟨hi,by rw[hl];exact(h2 e (gu he)).len⟩
 .exact h.BS i g2 x hg2 hx
def qQ.np{w:Wor}{m:fD}{v:fI}{g:Gr}{e:En}(h:qQ w)(hat:iB w m v g e){e':En}{tk:Int}(hi:Slp.fV e'=true)(hl:e'.next.length=e.next.length):
  qQ {w with ze:=w.ze.set m.version.toNat {v with zq:=v.zq.set m.zg.toNat {g with zx:=tk,ends:=g.ends.set m.end_.toNat e'} } }:=by
 refine⟨h.ground,aq h.current,h.zm,λr hr=>?_,λi v2 hv=>?_,h.fP⟩
 .have:=h.bad r hr;unfold yO at this|-;simpa using this
 .rcases xc hv with⟨rfl,rfl,_⟩|⟨_,hv⟩
  .obtain⟨h1,h2⟩:=h.fW _ v hat.at_;exact⟨h1.np hat.fY hat.ib hi hl,h2⟩
  .exact h.fW i v2 hv
structure Cal(K:Nat)(w:Wor):Prop where
 fP:∀l∈w.zc,l.zj<=K
 ends : ∀v∈w.ze, ∀g∈v.zq, ∀e∈g.ends, e.zj <= K
structure St(N K:Nat)(w:Wor):Prop where
 qI:qQ w
 ty:mB N w
 i5:Cal K w
def St.mono{N K N' K':Nat}(h:St N K w)(hN:N<=N')(hK:K<=K'):St N' K' w:=
 ⟨h.qI,⟨by have:=h.ty.vg;omega,by have:=h.ty.fP;omega,by have:=h.ty.lim;omega,h.ty.mr,h.ty.nF⟩,⟨λl hl=>by have:=h.i5.fP l hl;omega,λv hv g hg e he=>by have:=h.i5.ends v hv g hg e he;omega⟩⟩
def St.mP{N K:Nat}{w:Wor}(h:St N K w)(t:Nat){p:Int}(h0:0<=p)(h1:p<=w.zl+1):St N K (nT w t p):=⟨h.qI.mP t h0 h1,⟨h.ty.vg,h.ty.fP,h.ty.lim,h.ty.mr,h.ty.nF⟩,⟨h.i5.fP,h.i5.ends⟩⟩
def St.count{N K:Nat}{w:Wor}(h:St N K w)(t:Nat){r:List Int}(h0:r.length=6):St N K {w with counts:=w.counts.set t r}:=⟨h.qI.count t h0,⟨h.ty.vg,h.ty.fP,h.ty.lim,h.ty.mr,h.ty.nF⟩,⟨h.i5.fP,h.i5.ends⟩⟩
def St.DK{N K:Nat}{w:Wor}(h:St N K w){n:Int}(h0:n=0\/n=1):St N K {w with lock:=n}:=⟨h.qI.DK h0,⟨h.ty.vg,h.ty.fP,h.ty.lim,h.ty.mr,h.ty.nF⟩,⟨h.i5.fP,h.i5.ends⟩⟩
def St.GH{N K:Nat}{w:Wor}(h:St N K w){n:Int}(h0:w.zl<=n)(h1:n<=1000000000000):St N K {w with zl:=n}:=⟨h.qI.GH h0 h1,⟨h.ty.vg,h.ty.fP,h.ty.lim,h.ty.mr,h.ty.nF⟩,⟨h.i5.fP,h.i5.ends⟩⟩
def St.Ep{N K:Nat}{w:Wor}(h:St N K w){i:Nat}{x y:fT}(hx:w.zc[i]?=some x)(hn:y.name=x.name)(hy:Go.Gat.fV y=true)(hi:i64 y.zj)(hk:y.zj<=K):St N K {w with zc:=w.zc.set i y}:=by
 refine⟨h.qI.Ep hx hn hy,⟨h.ty.vg,aq h.ty.fP,h.ty.lim,h.ty.mr,λl hl=>?_⟩,⟨λl hl=>?_,h.i5.ends⟩⟩
 .rcases mem_set hl with hl|rfl
  .exact h.ty.nF l hl
  .exact⟨by rw[hn];exact(h.ty.nF x (gu hx)).1,hi⟩
 .rcases mem_set hl with hl|rfl
  .exact h.i5.fP l hl
  .exact hk
def St.np{N K:Nat}{w:Wor}{m:fD}{v:fI}{g:Gr}{e:En}(h:St N K w)(hat:iB w m v g e){e':En}{tk:Int}(hi:Slp.fV e'=true)(hl:e'.next.length=e.next.length)(ho:e'.ok)(ht:u64 tk)(hk:e'.zj<=K):
  St N K {w with ze:=w.ze.set m.version.toNat {v with zq:=v.zq.set m.zg.toNat {g with zx:=tk,ends:=g.ends.set m.end_.toNat e'} } }:=by
 have mv:=gu hat.at_;have mg:=gu hat.fY;refine⟨h.qI.np hat hi hl,⟨aq h.ty.vg,h.ty.fP,h.ty.lim,λv2 hv=>?_,h.ty.nF⟩,⟨h.i5.fP,λv2 hv g2 hg e2 he=>?_⟩⟩
 .rcases mem_set hv with hv|rfl
  .exact h.ty.mr v2 hv
  .refine⟨(h.ty.mr v mv).1,λg2 hg=>?_⟩;rcases mem_set hg with hg|rfl
   .exact(h.ty.mr v mv).2 g2 hg
   .refine⟨ht,λe2 he=>?_⟩;rcases mem_set he with he|rfl
    .exact((h.ty.mr v mv).2 g mg).2 e2 he
    .exact ho
 .rcases mem_set hv with hv|rfl
  .exact h.i5.ends v2 hv g2 hg e2 he
  .rcases mem_set hg with hg|rfl
   .exact h.i5.ends v mv g2 hg e2 he
   .rcases mem_set he with he|rfl
    .exact h.i5.ends v mv g mg e2 he
    .exact hk
def KY(h:List Bool):∀k x,x∈mL h k->0<=x/\x<k/\x<h.length
 |0,x,hx=>by cases hx
 |k+1,x,hx=>by
  simp only[mL]at hx;split at hx
  .rename_i hk;rcases pw.1 hx with hx|hx
   .have:=KY h k x hx;omega
   all_goals grind
  .have:=KY h k x hx;omega
def L5{c:ij}{n:Int}(h:(fE c).length≠0):0<=((fE c)[(n%(fE c).length).toNat]?).getD 0/\((fE c)[(n%(fE c).length).toNat]?).getD 0<c.zS.length:=by
 have h1:0<=n%(fE c).length:=sS _ aw;have h2:n%(fE c).length<(fE c).length:=sT _ aw;have h3:(n%(fE c).length).toNat<(fE c).length:=aw
 rw[gk h3,Option.getD_some];have:=KY c.zS c.zS.length _ (pt h3);omega
def zxi(n:Int):u64 (IntKind.u64.wrap n):=by
 have h:IntKind.u64.wrap n=n%18446744073709551616:=rfl
 grind [u64]
structure Nx(N K:Nat)(w:Wor)(m:fD)(L:Wor->fD->fI->Gr->En->Prop)(F:fD->Prop)(μ:Wor->fD->Nat)(r:Wor×fD×fG):Prop where
 ev:r.2.2.access≠0
 st:St (N+1) (K+1) r.1
 pins:r.1.pins.length=w.pins.length
 tm:iy r.2.1
 op:r.2.1.op=m.op
 go:(r.2.1.done=true/\F r.2.1)\/(∃v g e,qt r.1 r.2.1 v g e/\L r.1 r.2.1 v g e)/\μ r.1 r.2.1<μ w m
structure U5(w:Wor)(m:fD)(v:fI)(g:Gr)(e:En):Prop where
 pc:(0<=m.pc/\m.pc<=12)\/(20<=m.pc/\m.pc<=23)
 ep:m.pc=1\/m.pc=2->m.zl=w.zl
 fP:(4<=m.pc/\m.pc<=12)\/m.pc=22->0<=m.listen
 early:4<=m.pc/\m.pc<=5->m.zg=0/\m.end_=0/\m.other=0
 Ct:4<=m.pc/\m.pc<=8->m.slot=0
 draw:m.pc=6->∃c,v.snap.zo[m.zg.toNat]?=some c/\(fE c).length≠0
 slot:m.pc=10\/m.pc=11->m.slot=zA m.word/\e.head=m.word
 link:m.pc=11->e.next[m.slot.toNat]?=some m.link
 nA:20<=m.pc->1<=m.answer.kind/\m.answer.kind<=5
 Jp:(5<=m.pc/\m.pc<=12)\/(20<=m.pc/\m.pc<=22)->0<=m.listen->∃x,w.zc[m.listen.toNat]?=some x/\1<=x.zj
def TS(_:Wor)(m:fD):Nat:=(24-m.pc).toNat
def O9(l:List fT)(s:fK): -1<=zT l s/\zT l s<l.length:=by
 unfold zT;cases h:l.findIdx? (λr=>r.name == s) with
 |none=>simp only;omega
 |some i=>
  have:=(gS.1 h).1
  grind
def wI(h:oV v){k:Nat}(hk:k<v.zq.length):∃g e,v.zq[k]?=some g/\g.ends[0]?=some e/\0<g.ends.length/\0<e.next.length:=by
 obtain⟨g,hg⟩:∃g,v.zq[k]?=some g:=⟨_,gk hk⟩;have f:=h.mG.2 g (gu hg);have hl:0<g.ends.length:=aw
 have he:g.ends[0]?=some g.ends[0]:=gk hl
 grind
section
variable {N K:Nat} {w:Wor} {m:fD} {v:fI} {g:Gr} {e:En}
def Fx(su:qt w m v g e)(hl:e'.next.length=e.next.length)(gw:qQ {w with ze:=w.ze.set m.version.toNat {v with zq:=v.zq.set m.zg.toNat {g with zx:=tk,ends:=g.ends.set m.end_.toNat e'} } }){m':fD}
 (h1:m'.zf=m.zf)(h2:m'.done=false)(h3:m'.version=m.version)(h4:m'.zg=m.zg)(h5:m'.end_=m.end_)(h6:m'.other=m.other)(h7:m'.slot=m.slot)(h8:m'.listen=m.listen)(h9:m'.i=m.i)(h10:m'.k=m.k):
  qt {w with ze:=w.ze.set m.version.toNat {v with zq:=v.zq.set m.zg.toNat {g with zx:=tk,ends:=g.ends.set m.end_.toNat e'} } } m'
   {v with zq:=v.zq.set m.zg.toNat {g with zx:=tk,ends:=g.ends.set m.end_.toNat e'} } {g with zx:=tk,ends:=g.ends.set m.end_.toNat e'} e':=by
 have s1:=(gh.1 su.fZ).1;have s2:=(gh.1 su.fY).1;have s3:=(gh.1 su.ib).1;refine⟨qf.2 gw,by rw[h1];exact su.zf,h2,?_,?_,?_,?_,?_,?_,?_,?_,?_,by rw[h9];exact su.i,by rw[h10];exact su.k⟩
 .rw[h3];simpa using su.version
 .rw[h3];exact gD s1
 .rw[h4];simpa using su.zg
 .rw[h4];exact gD s2
 .rw[h5];simpa using su.end_
 .rw[h5];exact gD s3
 .rw[h6];simpa using su.other
 .rw[h7,hl];exact su.slot
 .rw[h8];exact su.listen
def zF{r:Wor×fD×fG}{P:Wor×fD×fG->Prop}{o:AI}(h:o=some r)(hp:P r):∃r,o=some r/\P r:=⟨r,h,hp⟩
end
def R6(h:Slp.fV e=true)(n:Int)(h0:0<=n):Slp.fV (qK e e.head n)=true:=by
 obtain⟨h1,h2,h3,h4⟩:=Slp.CG h;unfold Slp.fV;simp only[gH,gR];exact⟨⟨⟨h1,h2⟩,h3⟩,h0⟩
def Eo{l:fT}(h:Go.Gat.fV l=true):yk l.name=true/\0<=l.zj/\(l.drain || !l.closed)=true:=by
 unfold Go.Gat.fV at h
 grind
def FM{l:fT}(h1:yk l.name=true)(h2:0<=l.zj)(h3:(l.drain || !l.closed)=true):Go.Gat.fV l=true:=by
 unfold Go.Gat.fV
 grind
section
variable {N K:Nat} {w:Wor} {m:fD} {v:fI} {g:Gr} {e:En}
def LQ(st:St N K w)(su:qt w m v g e){x:fT}(hx:w.zc[m.listen.toNat]?=some x)(n:Int)(h0:0<=n)(h1:n<=K+1)(hK:K<=1099511627776):St (N+1) (K+1) {w with zc:=w.zc.set m.listen.toNat {x with zj:=n} }:=by
 have li:=Eo (st.qI.fP _ x hx).1;exact(st.mono aw aw:St (N+1) (K+1) w).Ep hx V (FM li.1 h0 li.2.2) (by show i64 n;unfold i64;omega) (by show n<=_;omega)
end
section
variable {N K:Nat} {w:Wor} {m:fD} {v:fI} {g:Gr} {e:En}
def kR(st:St N K w)(su:qt w m v g e):Slp.fV e=true/\e.next.length<=4/\1<=e.next.length/\0<=e.zj/\e.zj<=K/\e.ok/\u64 g.zx:=by
 have mv:=gu su.fZ;have mg:=gu su.fY;have me:=gu su.ib;have f:=((st.qI.fW _ v su.fZ).1.mG.2 g mg).2.2 e me;exact⟨f.1,f.2.1,f.2.2,(Slp.CG f.1).2.2.2,st.i5.ends v mv g mg e me,((st.ty.mr v mv).2 g mg).2 e me,((st.ty.mr v mv).2 g mg).1⟩
def Pk(st:St N K w)(su:qt w m v g e){k pc:Int}(h0:0<=k)(h5:k<=5):∃r2:List Int,r2.length=6/\vn w m k pc=some ({w with counts:=w.counts.set m.zf.toNat r2},{m with pc:=pc},fX m 3 10 k):=by
 obtain⟨r0,hr,hl⟩:=zu4 st.qI su.zf.1 su.zf.2;unfold vn;rw[hr];dsimp only;rw[gk (show k.toNat<r0.length by omega)]
 grind
end
def look(m:List (Int×Value))(i:Int):Option Value:=(jB m i).bind λj=>(m[j]?).map (·.2)
theorem zsU(m:List (Int×Value))(i:Int):jB m i=(m.map (·.1)).findIdx? (λk=>decide (k=i)):=by
 unfold jB;rw[sG]
 rfl
theorem zvW(m:List (Int×Value))(k i:Int)(v:Value):look (yR m k v) i=if k=i then some v else look m i:=by
 unfold yR;cases hf:jB m k with
 |some j=>
  dsimp only;obtain⟨u,hu⟩:=yq hf
  have keys:(m.set j (k,v)).map (·.1)=m.map (·.1):=by
   grind [List.map_set,xV]
  have e:jB (m.set j (k,v)) i=jB m i:=by grind [zsU]
  unfold look;rw[e];have fE:=(gh.1 hu).1;by_cases hki:k=i
  .grind
  .rw[gp hki];cases hi:jB m i with
   |none=>rfl
   |some j'=>
    obtain⟨u',hu'⟩:=yq hi
    grind
 |none=>
  dsimp only
  have e:jB (m++[(k,v)]) i=if k=i then some m.length else jB m i:=by
   grind [jB]
  unfold look;rw[e];by_cases hki:k=i
  .grind
  .rw[gp hki,gp hki];cases hi:jB m i with
   |none=>rfl
   |some j'=>
    obtain⟨u',hu'⟩:=yq hi
    grind
theorem Yy(l:List fS)(i:Int):yS l i=(match look (vv l) i with|some (.bool b)=>b|_=>false):=rfl
theorem Yx(l:List fS)(r:fS):vv (l++[r])=yR (vv l) r.version (Value.bool r.gone):=by
 grind [vv]
def Pp(l:List fS)(r:fS)(i:Int):yS (l++[r]) i=if r.version=i then r.gone else yS l i:=by
 grind [Yy,Yx,zvW]
def kU(l:List fS)(i:Int)(hu:∀(a b:Nat) (x y:fS),l[a]?=some x->l[b]?=some y->x.version=y.version->a=b):yS l i=true↔∃r∈l,r.version=i/\r.gone=true:=by
 have key:∀n,∀l:List fS,l.length=n->(∀(a b:Nat) (x y:fS),l[a]?=some x->l[b]?=some y->x.version=y.version->a=b)->(yS l i=true↔∃r∈l,r.version=i/\r.gone=true):=by
  intro n
  induction n with
  |zero=>
   intro l hl _;rw[rF.1 hl];constructor
   .intro h;cases h
   all_goals grind
  |succ n ih=>
   intro l hl hu;obtain⟨l',r,rfl⟩:∃l' r,l=l'++[r]:=⟨l.dropLast,l.getLast (by rintro rfl;cases hl),(List.dropLast_concat_getLast _).symm⟩;have hl':l'.length=n:=aq hl
   have ih':=ih l' hl' λa b x y ha hb=>hu a b x y (by rw[gF (gh.1 ha).1];exact ha) (by rw[gF (gh.1 hb).1];exact hb)
   have hlast:(l'++[r])[l'.length]?=some r:=aj
   rw[Pp];by_cases h:r.version=i
   .rw[gz h];constructor
    .grind
    .rintro⟨x,hx,hv,hg⟩;obtain⟨a,ha⟩:=gI.1 hx
     grind
   all_goals grind
 grind
def F8(h:Go.Lim.fV l=true)(hx:l[i]?=some x):0<=x.version/\0<=x.at_/\∀(j:Nat) (y:fS),j<i->l[j]?=some y->y.version≠x.version:=by
 have h2:=gL (show decide (∀i,(h:i<l.length)->Go.Lim.iI l i l[i]=true)=true from h) i (gh.1 hx).1;rw[(gh.1 hx).2]at h2;unfold Go.Lim.iI Go.Lim.E7 at h2;simp only[gH,pK,pY,pq,pT]at h2;refine⟨aw,aw,λj y hj hy he=>h2.2 y ?_ he⟩;exact gI.2 ⟨j,by rw[pB,gz hj];exact hy⟩
def LI:Go.Lim.fV l=true↔∀(i:Nat) (x:fS),l[i]?=some x->0<=x.version/\0<=x.at_/\∀(j:Nat) (y:fS),j<i->l[j]?=some y->y.version≠x.version:=by
 constructor
 .exactλh i x hx=>F8 h hx
 .intro h;refine rT λi hi=>?_
  obtain⟨h1,h2,h3⟩:=h i l[i] (gk hi);unfold Go.Lim.iI Go.Lim.E7;simp only[gH,pK,pY,pq,pT];refine⟨⟨aw,aw⟩,λy hy he=>?_⟩;obtain⟨j,hj⟩:=gI.1 hy
  grind
def kq(h:Go.Lim.fV l=true):∀(a b:Nat) (x y:fS),l[a]?=some x->l[b]?=some y->x.version=y.version->a=b:=λa b x y ha hb he=>by
 rcases rZ a b with fE|rfl|fE
 .exact absurd he ((F8 h hb).2.2 a x fE ha)
 .rfl
 .exact absurd he.symm ((F8 h ha).2.2 b y fE hb)
def zsX(n:Int):(Slp.w8 n).1.ok:=by
 unfold Slp.w8;split
 .exact⟨ar,⟨λx hx=>(by cases hx),ar⟩,ar⟩
 .refine⟨(by decide:u64 1),⟨λx hx=>?_,?_⟩,(by decide:i64 0)⟩
  .obtain⟨i,hi,rfl⟩:=gY.1 hx;have:=rG.1 hi;split
   .decide
   .exact⟨aw,aw⟩
  .simp;omega
theorem wK{x:ij}(h:II x):Slp.fV (x6 x)=true/\((x6 x).next.length:Int)=x.ye/\(x6 x).zj=0/\(x6 x).ok:=by
 have hs:=h.ye;unfold x6;have:x.ye=1\/x.ye=2\/x.ye=3\/x.ye=4:=aw
 rcases this with e|e|e|e <;> rw[e] <;> exact⟨ar,ar,ar,zsX _⟩
def Pv{s:Sna}(h:kO s=true):oV (ja s).1:=by
 unfold ja;rw[gz h];refine⟨h,aj,λi g x hg hx=>?_⟩;simp only[gy]at hg;have hx:s.zo[i]?=some x:=hx;rw[hx]at hg;cases hg
 have gc:=(jP h).all x (gu hx);have f:=wK gc;refine⟨by unfold mK;simp,λe he=>?_⟩;unfold mK at he;rw[pS he];exact⟨f.1,f.2.1⟩
section
variable {N K:Nat} {w:Wor} {m:fD} {v:fI} {g:Gr} {e:En}
def St.Sj(st:St N K w){c:iq}(hc:(jj c).1=0)(sk:yn c):St (N+1) (K+1) {w with current:=w.ze.length,ze:=w.ze++[vm c]}:=by
 have sc:=JR sk hc;have gw:=st.qI;have hb:=Kn hc;have gv:oV (vm c):=Pv hb;have hsw:vm c=⟨(jN c).1,(jN c).1.zo.map mK,false⟩:=by grind [vm,ja]
 have la:∀r∈w.zm,0<=r.version/\r.version<w.ze.length:=λr hr=>by
  obtain⟨i,hi⟩:=gI.1 hr;have:=xR gw hi;omega
 refine⟨⟨gw.ground,⟨eR _,by show((w.ze.length:Nat):Int)<((w.ze++[vm c]).length:Nat);simp only[pz,rP];omega⟩,gw.zm,λr hr=>?_,λi v2 hv=>?_,gw.fP⟩,⟨by have:=st.ty.vg;simp;omega,cq,by have:=st.ty.lim;show w.zm.length<=_;omega,λv2 hv=>?_,st.ty.nF⟩,⟨λl hl=>by have:=st.i5.fP l hl;omega,λv2 hv g2 hg e2 he=>?_⟩⟩
 .have h1:=la r hr;have h2:=gw.bad r hr
  grind [yO]
 .have hv:(w.ze++[vm c])[i]?=some v2:=hv;by_cases hi:i<w.ze.length
  .rw[gF hi]at hv;exact gw.fW i v2 hv
  .rw[gP aw]at hv
   have:i-w.ze.length=0:=by
    grind
   rw[this]at hv;cases hv
   refine⟨gv,?_⟩;rw[hsw];show false=yS w.zm i
   symm
   by_cases hg:yS w.zm i=true
   .obtain⟨r,hr,he,_⟩:=(kU w.zm i (kq gw.zm)).1 hg
    grind
   .simpa using hg
 .rcases pw.1 hv with hv|hv
  .exact st.ty.mr v2 hv
  .rw[gZ.1 hv,hsw];refine⟨G7 sc,λg2 hg=>?_⟩;obtain⟨x,hx,rfl⟩:=gY.1 hg;have f:=wK ((jP hb).all x hx)
   grind [u64,mK]
 .rcases pw.1 hv with hv|hv
  .have:=st.i5.ends v2 hv g2 hg e2 he;omega
  .rw[gZ.1 hv,hsw]at hg;obtain⟨x,hx,rfl⟩:=gY.1 hg;have f:=wK ((jP hb).all x hx)
   grind [mK]
def St.SQ(st:St N K w)(h0:0<=x.version)(h1:x.version<w.ze.length)(h2:x.version≠w.current)(h3:0<=x.at_)(h4:x.at_<=w.zl)(hg:x.gone=false)(hn:∀r∈w.zm,r.version≠x.version):St (N+1) (K+1) {w with zm:=w.zm++[x]}:=by
 have gw:=st.qI;refine⟨⟨gw.ground,gw.current,?_,λr hr=>?_,λi v2 hv=>⟨(gw.fW i v2 hv).1,?_⟩,gw.fP⟩,⟨by have:=st.ty.vg;show w.ze.length<=_;omega,cq,by have:=st.ty.lim;simp;omega,st.ty.mr,st.ty.nF⟩,⟨λl hl=>by have:=st.i5.fP l hl;omega,λv2 hv g2 hg e2 he=>by have:=st.i5.ends v2 hv g2 hg e2 he;omega⟩⟩
 .rw[LI];intro i y hy;by_cases hi:i<w.zm.length
  .have hy':w.zm[i]?=some y:=by grind
   obtain⟨a,b,c⟩:=F8 gw.zm hy'
   grind
  all_goals grind
 .rcases pw.1 hr with hr|hr
  .exact gw.bad r hr
  grind [yO]
 .rw[(gw.fW i v2 hv).2];show _=yS (w.zm++[x]) i;rw[Pp];by_cases he:x.version=i
  .rw[gz he,hg];by_cases hgo:yS w.zm i=true
   .obtain⟨r,hr,hv2,_⟩:=(kU w.zm i (kq gw.zm)).1 hgo
    grind
   .grind
  .rw[gp he]
def St.qX(st:St N K w){i:Nat}{k:Int}{v2:fI}{x:fS}(h0:0<=k)(hv:w.ze[k.toNat]?=some v2)(hx:w.zm[i]?=some x)(he:x.version=k):St (N+1) (K+1) {w with ze:=w.ze.set k.toNat (x5 v2),zm:=w.zm.set i (xG x)}:=by
 have gw:=st.qI;have la:=xR gw hx
 have same:∀(j:Nat) (y:fS),(w.zm.set i (xG x))[j]?=some y->∃z,w.zm[j]?=some z/\z.version=y.version/\z.at_=y.at_:=λj y hy=>by
  grind
 have isL:Go.Lim.fV (w.zm.set i (xG x))=true:=by
  rw[LI];intro j y hy;obtain⟨z,hz,e1,e2⟩:=same j y hy;obtain⟨a,b,c⟩:=F8 gw.zm hz
  grind
 refine⟨⟨gw.ground,aq gw.current,isL,λr hr=>?_,λj v3 hv3=>?_,gw.fP⟩,⟨by have:=st.ty.vg;simp;omega,cq,by have:=st.ty.lim;simp;omega,λv3 hv3=>?_,st.ty.nF⟩,⟨λl hl=>by have:=st.i5.fP l hl;omega,λv3 hv3 g2 hg e2 he=>?_⟩⟩
 .obtain⟨j,hj⟩:=gI.1 hr;obtain⟨z,hz,e1,e2⟩:=same j r hj;have:=gw.bad z (gu hz)
  grind [yO]
 .have gone2:yS (w.zm.set i (xG x)) j=if (j:Int)=k then true else yS w.zm j:=by
   by_cases hjk:(j:Int)=k
   .rw[gz hjk,kU _ _ (kq isL)];exact⟨xG x,gI.2 ⟨i,gD (gh.1 hx).1⟩,by show x.version=_;omega,rfl⟩
   .rw[gp hjk,ui,kU _ _ (kq isL),kU _ _ (kq gw.zm)];constructor
    .grind
    .rintro⟨r,hr,h1,h2⟩;obtain⟨b,hb⟩:=gI.1 hr
     have hbi:i≠b:=by
      grind
     exact⟨r,gI.2 ⟨b,by rw[gJ,gp hbi];exact hb⟩,h1,h2⟩
  show oV v3/\v3.qX=yS (w.zm.set i (xG x)) j;rw[gone2];rcases xc hv3 with⟨rfl,rfl,_⟩|⟨hne,hv3⟩
  .rw[gz aw];exact⟨⟨(gw.fW _ v2 hv).1.snap,(gw.fW _ v2 hv).1.len,(gw.fW _ v2 hv).1.BS⟩,rfl⟩
  .rw[gp aw];exact gw.fW j v3 hv3
 .rcases mem_set hv3 with hv3|rfl
  .exact st.ty.mr v3 hv3
  .exact st.ty.mr v2 (gu hv)
 .rcases mem_set hv3 with hv3|rfl
  .have:=st.i5.ends v3 hv3 g2 hg e2 he;omega
  .have:=st.i5.ends v2 (gu hv) g2 hg e2 he;omega
end
structure I0(w:Wor)(m:fD)(v:fI)(g:Gr)(e:En):Prop where
 pc:0<=m.pc/\m.pc<=2
 fW:1<=m.pc->m.version≠w.current/\∀r∈w.zm,r.version≠m.version
 ep:m.pc=2->0<=m.zl/\m.zl<=w.zl
def U1(m:fD):Prop:=6<=m.answer.kind/\m.answer.kind<=13
def GL(_:Wor)(m:fD):Nat:=(3-m.pc).toNat
section
variable {N K:Nat} {w:Wor} {m:fD} {v:fI} {g:Gr} {e:En}
def Le(st:St N K w)(su:qt w m v g e)(tm:iy m)(lo:I0 w m v g e)(hk:m.op.kind=3):∃r,yg w m=some r/\Nx N K w m I0 U1 GL r:=by
 have gw:=st.qI;have st1:St (N+1) (K+1) w:=st.mono aw aw;have pc:=lo.pc;have cu:=gw.current;unfold yg;rcases(by omega:m.pc=0\/m.pc=1\/m.pc=2) with p|p|p
 .rw[gz p];by_cases q:oT m.op.config=0
  .rw[gz q];have hc:(jj m.op.config).1=0:=by grind [wX]
   have st2:=st.Sj hc (tm.cfg hk);obtain⟨v',hv'⟩:∃v',w.ze[w.current.toNat]?=some v':=⟨_,gk aw⟩;have gv:=(gw.fW _ v' hv').1;have h0:0<v'.zq.length:=aE
   obtain⟨g',e',hg,he,l1,l2⟩:=wI gv h0
   refine zF V ⟨(by show(6:Int)≠0;decide),st2,rfl,uO,rfl,.inr ⟨⟨v',g',e',⟨qf.2 st2.qI,su.zf,su.done,⟨cu.1,aQ⟩,
    by show(w.ze++[vm m.op.config])[w.current.toNat]?=some v';rw[gF aw];exact hv',⟨gO _,aJ⟩,hg,⟨gO _,aJ⟩,he,⟨gO _,aJ⟩,⟨gO _,aJ⟩,su.listen,by show(0:Int)<=(w.ze.length:Nat);omega,su.k⟩,
    ⟨uL,λ_=>⟨by show w.current≠(w.ze.length:Nat);omega,λr hr=>?_⟩,uK⟩⟩,by unfold GL;show(3-1:Int).toNat<(3-m.pc).toNat;omega⟩⟩
   obtain⟨i,hi⟩:=gI.1 hr;exact(xR gw hi).2.2.2.2
  .rw[gp q];exact zF V ⟨uX,st1,rfl,uP,rfl,.inl ⟨rfl,by show(6:Int)<=9/\(9:Int)<=13;decide⟩⟩
 .have vf:=lo.fW aw;have ep:=(zU.1 gw.ground).zl;rw[gp aw,gz p];refine zF V ⟨uX,st1,rfl,uO,rfl,.inr ⟨⟨v,g,e,uQ,⟨uL,λ_=>vf,λ_=>⟨ep.1,gO _⟩⟩⟩,by unfold GL;show(3-2:Int).toNat<(3-m.pc).toNat;omega⟩⟩
 .have vf:=lo.fW aw;have ep:=lo.ep p;have sv:=su.version
  have nl:nJ w m=false:=by
   grind [nJ,Bool.or_eq_false_iff,List.any_eq_false]
  have st2:=st.SQ (x:=⟨m.version,m.zl,false⟩) sv.1 sv.2 vf.1 ep.1 ep.2 V vf.2;rw[gp aw,gp aw,gz p,nl];exact zF V ⟨tI,st2,rfl,uP,rfl,.inl ⟨rfl,by show(6:Int)<=8/\(8:Int)<=13;decide⟩⟩
def U4(_:Wor)(m:fD)(_:fI)(_:Gr)(_:En):Prop:=m.pc=0
def U3(_:Wor)(m:fD)(_:fI)(_:Gr)(_:En):Prop:=m.pc=9
structure U6(w:Wor)(m:fD)(v:fI)(g:Gr)(e:En):Prop where
 pc:m.pc=0
 k:m.k<6
 i:m.i<w.counts.length
def TT(w:Wor)(m:fD):Nat:=((w.counts.length-m.i)*6-m.k).toNat
end
structure EX(w:Wor)(m:fD)(v:fI)(g:Gr)(e:En):Prop where
 pc:(0<=m.pc/\m.pc<=6)\/(8<=m.pc/\m.pc<=10)
 mP:m.pc=2->m.i<w.pins.length
 TR:m.pc=4->m.i<=w.zm.length
 lim:m.pc=5\/m.pc=6->∃r,w.zm[m.i.toNat]?=some r/\r.version=m.version/\r.gone=false
 act:m.pc=5->m.k<(qv v).length
 fP:m.pc=9\/m.pc=10->∃l,w.zc[m.i.toNat]?=some l/\l.drain=true
def NG(m:fD):Prop:=m.answer.kind=11\/m.answer.kind=12
def lF(w:Wor)(m:fD):Nat:=(
 if m.pc=0 then 20*(w.zm.length:Int)+4*w.zc.length+w.pins.length+20
 else if m.pc=1 then 20*(w.zm.length:Int)+4*w.zc.length+w.pins.length+19
 else if m.pc=2 then 20*(w.zm.length:Int)+4*w.zc.length+10+(w.pins.length-m.i)
 else if m.pc=3 then 20*(w.zm.length:Int)+4*w.zc.length+10
 else if m.pc=4 then (w.zm.length-m.i)*20+4*w.zc.length+5
 else if m.pc=5 then (w.zm.length-m.i)*20+4*w.zc.length+5-1-m.k
 else if m.pc=6 then (w.zm.length-m.i)*20+4*w.zc.length+5-18
 else if m.pc=8 then (w.zc.length-m.i)*4
 else if m.pc=9 then (w.zc.length-m.i)*4-1
 else (w.zc.length-m.i)*4-2:Int).toNat
def Tq:∀(l:List Gr),(∀g∈l,g.ends.length<=4)->(l.flatMap (·.ends)).length<=l.length*4
 |[],_=>by simp
 |g::l,h=>by
  have:=Tq l λx hx=>h x (pL _ hx)
  have:=h g (pX ..);simp only[sd,pz,ry];omega
def Ea(h:oV v):1<=(qv v).length/\(qv v).length<=16:=by
 have f:=h.mG;have h4:=Tq v.zq λg hg=>(f.2 g hg).1
 refine⟨?_,by unfold qv;omega⟩;have h0:0<v.zq.length:=by have:=(jP h.snap).zo.1;have:=h.len;omega
 obtain⟨g,e,hg,he,_,_⟩:=wI h h0;have:e∈qv v:=uc.2 ⟨g,gu hg,gu he⟩
 grind
def jk{n:Int}(hh:(m.pc=0->n=20*(w.zm.length:Int)+4*w.zc.length+w.pins.length+20)/\(m.pc=1->n=20*(w.zm.length:Int)+4*w.zc.length+w.pins.length+19)/\(m.pc=2->n=20*(w.zm.length:Int)+4*w.zc.length+10+(w.pins.length-m.i))/\(m.pc=3->n=20*(w.zm.length:Int)+4*w.zc.length+10)/\(m.pc=4->n=(w.zm.length-m.i)*20+4*w.zc.length+5)/\(m.pc=5->n=(w.zm.length-m.i)*20+4*w.zc.length+5-1-m.k)/\(m.pc=6->n=(w.zm.length-m.i)*20+4*w.zc.length+5-18)/\(m.pc=8->n=(w.zc.length-m.i)*4)/\(m.pc=9->n=(w.zc.length-m.i)*4-1)/\(m.pc=10->n=(w.zc.length-m.i)*4-2):=by (refine⟨?_,?_,?_,?_,?_,?_,?_,?_,?_,?_⟩ <;> intro h <;> (try dsimp only at h|-) <;> omega))(hp:(0<=m.pc/\m.pc<=6)\/(8<=m.pc/\m.pc<=10):=by (try dsimp only);omega):lF w m=n.toNat:=by
 obtain⟨h0,h1,h2,h3,h4,h5,h6,h8,h9,h10⟩:=hh;unfold lF
 congr 1
 (repeat' split) <;> omega
section
variable {N K:Nat} {w:Wor} {m:fD} {v:fI} {g:Gr} {e:En}
def SZ{m1:fD}(st:St N K w)(su:qt w m1 v g e)(tm:iy m1)(hk:m1.op.kind=5)(hN:N<=100000000)(hpc:m1.pc=8)(ho:m1.op=m.op)(hM:m1.i<w.zc.length->(w.zc.length-m1.i)*4<=(lF w m:Int)):Nx N K w m EX NG lF (i6 w m1):=by
 have st1:St (N+1) (K+1) w:=st.mono aw aw;have i0:=su.i;have hl:=st.ty.fP;unfold i6;cases hx:w.zc[m1.i.toNat]? with
 |none=>
  have st2:=st1.DK (n:=0) (.inl V);exact⟨tI,st2,rfl,⟨tm.listen,tm.word,tm.link,tm.host,tm.path,tm.d0,tm.d1,tm.cfg,λh=>absurd ((show m1.op.kind=6 from h).symm.trans hk) ar⟩,ho,.inl ⟨rfl,.inl V⟩⟩
 |some l=>
  have fE:=(gh.1 hx).1;have hm:=hM aw;have hw:IntKind.i64.wrap (m1.i+1)=m1.i+1:=z7 aw aw;dsimp only;by_cases q:l.drain=true/\l.closed=false
  .unfold Ak;rw[gz q];refine⟨uX,st1,rfl,uO,ho,.inr ⟨⟨v,g,e,uQ,⟨uL,uK,uK,uK,uK,λ_=>⟨l,hx,q.1⟩⟩⟩,?_⟩⟩;show lF w {m1 with pc:=9}<_;rw[(jk (w:=w) (m:={m1 with pc:=9}) (n:=(w.zc.length-m1.i)*4-1))];omega
  .unfold Ak;rw[gp q,hw];refine⟨uX,st1,rfl,uO,ho,.inr ⟨⟨v,g,e,⟨su.world,su.zf,su.done,su.version,su.fZ,su.zg,su.fY,su.end_,su.ib,su.other,su.slot,su.listen,(by show 0<=m1.i+1;omega),su.k⟩,⟨by show _\/(8<=m1.pc/\m1.pc<=10);omega,uK,uK,uK,uK,uK⟩⟩,?_⟩⟩;show lF w {m1 with i:=m1.i+1}<_;rw[(jk (w:=w) (m:={m1 with i:=m1.i+1}) (n:=(w.zc.length-(m1.i+1))*4))];omega
def O8(st:St N K w)(su:qt w m v g e)(tm:iy m)(lo:EX w m v g e)(hk:m.op.kind=5)(hN:N<=100000000):∃r,qZ w m=some r/\Nx N K w m EX NG lF r:=by
 have gw:=st.qI;have st1:St (N+1) (K+1) w:=st.mono aw aw;have i0:=su.i;have k0:=su.k;have gr:=zU.1 gw.ground;have lT:=st.ty.fP;have lL:=st.ty.lim;have pc:=lo.pc;have pcs:m.pc=0\/m.pc=1\/m.pc=2\/m.pc=3\/m.pc=4\/m.pc=5\/m.pc=6\/m.pc=8\/m.pc=9\/m.pc=10:=aw
 unfold qZ;by_cases p:m.pc=0
 .rw[gz p];by_cases q:w.lock=0
  .rw[gz q];have st2:=st1.DK (n:=1) (.inr V);refine zF V ⟨aN,st2,rfl,uO,rfl,.inr ⟨⟨v,g,e,⟨qf.2 st2.qI,su.zf,su.done,su.version,su.fZ,su.zg,su.fY,su.end_,su.ib,su.other,su.slot,su.listen,su.i,su.k⟩,⟨uL,uK,uK,uK,uK,uK⟩⟩,?_⟩⟩;show lF {w with lock:=1} {m with pc:=1}<_;rw[(jk (w:={w with lock:=1}) (m:={m with pc:=1}) (n:=20*(w.zm.length:Int)+4*w.zc.length+w.pins.length+19)),(jk (w:=w) (m:=m) (n:=20*(w.zm.length:Int)+4*w.zc.length+w.pins.length+20))];omega
  .rw[gp q];exact zF V ⟨aO,st1,rfl,uP,rfl,.inl ⟨rfl,.inr V⟩⟩
 replace pcs:=pcs.resolve_left p
 rw[gp p];clear p
 by_cases p:m.pc=1
 .rw[gz p];refine zF V ⟨uX,st1,rfl,uO,rfl,.inr ⟨⟨v,g,e,uS,⟨uL,λ_=>by show(0:Int)<(w.pins.length:Nat);have:=gr.pins.1;omega,uK,uK,uK,uK⟩⟩,?_⟩⟩;show lF w {m with zl:=w.zl,pc:=2,i:=0}<_;rw[(jk (w:=w) (m:={m with zl:=w.zl,pc:=2,i:=0}) (n:=20*(w.zm.length:Int)+4*w.zc.length+10+w.pins.length)),(jk (w:=w) (m:=m) (n:=20*(w.zm.length:Int)+4*w.zc.length+w.pins.length+19))];omega
 replace pcs:=pcs.resolve_left p
 rw[gp p];clear p
 by_cases p:m.pc=2
 .rw[gz p];have hi:=lo.mP p;obtain⟨x,hx⟩:∃x,w.pins[m.i.toNat]?=some x:=⟨_,gk aw⟩;have hw:IntKind.i64.wrap (m.i+1)=m.i+1:=z7 aw aU;rw[hx,gK];have e0:=(jk (w:=w) (m:=m) (n:=20*(w.zm.length:Int)+4*w.zc.length+10+(w.pins.length-m.i)));unfold n7;rw[hw];by_cases q:x≠0/\x≠IntKind.i64.wrap (m.zl+1)
  .rw[gz q];refine zF V ⟨uX,st1,rfl,uO,rfl,.inr ⟨⟨v,g,e,uS,⟨uL,uK,λ_=>by show(0:Int)<=_;omega,uK,uK,uK⟩⟩,?_⟩⟩;show lF w {m with pc:=4,i:=0}<_;rw[e0,(jk (w:=w) (m:={m with pc:=4,i:=0}) (n:=((w.zm.length:Int)-0)*20+4*w.zc.length+5))];omega
  rw[gp q];by_cases q2:m.i+1<w.pins.length
  .rw[gz q2];refine zF V ⟨uX,st1,rfl,uO,rfl,.inr ⟨⟨v,g,e,uR,⟨aV,λ_=>q2,uK,uK,uK,uK⟩⟩,?_⟩⟩;show lF w {m with i:=m.i+1}<_;rw[e0,(jk (w:=w) (m:={m with i:=m.i+1}) (n:=20*(w.zm.length:Int)+4*w.zc.length+10+(w.pins.length-(m.i+1))))];omega
  .rw[gp q2];refine zF V ⟨uX,st1,rfl,uO,rfl,.inr ⟨⟨v,g,e,uR,⟨uL,uK,uK,uK,uK,uK⟩⟩,?_⟩⟩;show lF w {m with pc:=3,i:=m.i+1}<_;rw[e0,(jk (w:=w) (m:={m with pc:=3,i:=m.i+1}) (n:=20*(w.zm.length:Int)+4*w.zc.length+10))];omega
 replace pcs:=pcs.resolve_left p
 rw[gp p];clear p
 by_cases p:m.pc=3
 .rw[gz p];have e0:=(jk (w:=w) (m:=m) (n:=20*(w.zm.length:Int)+4*w.zc.length+10));by_cases q:w.zl=m.zl/\w.zl<1000000000000
  .have hw:IntKind.i64.wrap (w.zl+1)=w.zl+1:=z7 (by have:=gr.zl;omega) aw;rw[gz q,hw];have st2:=st1.GH (n:=w.zl+1) aw aw;refine zF V ⟨aN,st2,rfl,uO,rfl,.inr ⟨⟨v,g,e,⟨qf.2 st2.qI,su.zf,su.done,su.version,su.fZ,su.zg,su.fY,su.end_,su.ib,su.other,su.slot,su.listen,gO _,su.k⟩,⟨uL,uK,λ_=>by show(0:Int)<=_;omega,uK,uK,uK⟩⟩,?_⟩⟩;show lF {w with zl:=w.zl+1} {m with pc:=4,i:=0,zl:=w.zl+1}<_;rw[e0,(jk (w:={w with zl:=w.zl+1}) (m:={m with pc:=4,i:=0,zl:=w.zl+1}) (n:=((w.zm.length:Int)-0)*20+4*w.zc.length+5))];omega
  .rw[gp q];refine zF V ⟨aO,st1,rfl,uO,rfl,.inr ⟨⟨v,g,e,uS,⟨uL,uK,λ_=>by show(0:Int)<=_;omega,uK,uK,uK⟩⟩,?_⟩⟩;show lF w {m with pc:=4,i:=0}<_;rw[e0,(jk (w:=w) (m:={m with pc:=4,i:=0}) (n:=((w.zm.length:Int)-0)*20+4*w.zc.length+5))];omega
 replace pcs:=pcs.resolve_left p
 rw[gp p];clear p
 by_cases p:m.pc=4
 .rw[gz p];have e0:=(jk (w:=w) (m:=m) (n:=((w.zm.length:Int)-m.i)*20+4*w.zc.length+5));have li:=lo.TR p;cases hx:w.zm[m.i.toNat]? with
  |none=>
   refine zF V (SZ st (m1:=iV m 8 0) uS uO hk hN V V λ_=>?_);rw[e0];show((w.zc.length:Int)-0)*4<=_;omega
  |some r=>
   have fE:=(gh.1 hx).1;have hw:IntKind.i64.wrap (m.i+1)=m.i+1:=z7 aw aw;have la:=xR gw hx;dsimp only;unfold oO;rw[hw];by_cases q:r.gone=true\/Go.Lim.wS r.at_ m.zl=false
   .rw[gz q];refine zF V ⟨uX,st1,rfl,uO,rfl,.inr ⟨⟨v,g,e,uR,⟨aV,uK,λ_=>by show m.i+1<=(w.zm.length:Nat);omega,uK,uK,uK⟩⟩,?_⟩⟩;show lF w {m with i:=m.i+1}<_;rw[e0,(jk (w:=w) (m:={m with i:=m.i+1}) (n:=((w.zm.length:Int)-(m.i+1))*20+4*w.zc.length+5))];omega
   .rw[gp q];obtain⟨v',hv'⟩:∃v',w.ze[r.version.toNat]?=some v':=⟨_,gk aw⟩;have gv:=(gw.fW _ v' hv').1;have h0:0<v'.zq.length:=by have:=(jP gv.snap).zo.1;have:=gv.len;omega
    obtain⟨g',e',hg,he,l1,l2⟩:=wI gv h0;have el:=Ea gv
    refine zF V ⟨uX,st1,rfl,uO,rfl,.inr ⟨⟨v',g',e',⟨su.world,su.zf,su.done,⟨la.2.2.1,la.2.2.2.1⟩,hv',⟨gO _,aJ⟩,hg,⟨gO _,aJ⟩,he,⟨gO _,aJ⟩,⟨gO _,aJ⟩,su.listen,su.i,gO _⟩,
     ⟨uL,uK,uK,λ_=>⟨r,hx,rfl,aW⟩,λ_=>by show(0:Int)<_;omega,uK⟩⟩,?_⟩⟩
    show lF w {m with version:=r.version,zg:=0,end_:=0,other:=0,slot:=0,k:=0,pc:=5}<_;rw[e0,(jk (w:=w) (m:={m with version:=r.version,zg:=0,end_:=0,other:=0,slot:=0,k:=0,pc:=5}) (n:=((w.zm.length:Int)-m.i)*20+4*w.zc.length+5-1-0))];omega
 replace pcs:=pcs.resolve_left p
 rw[gp p];clear p
 by_cases p:m.pc=5
 .rw[gz p];have e0:=(jk (w:=w) (m:=m) (n:=((w.zm.length:Int)-m.i)*20+4*w.zc.length+5-1-m.k));obtain⟨r,hr,hrv,hrg⟩:=lo.lim (.inl p);have fE:=(gh.1 hr).1;have hk2:=lo.act p;have gv:=(gw.fW _ v su.fZ).1;have el:=Ea gv;have hw:IntKind.i64.wrap (m.i+1)=m.i+1:=z7 aw aw;have hwk:IntKind.i64.wrap (m.k+1)=m.k+1:=z7 aw aw;obtain⟨x,hx⟩:∃x,(qv v)[m.k.toNat]?=some x:=⟨_,gk aw⟩;rw[su.fZ,gW,hx,gK];unfold nD;rw[hw,hwk];by_cases q:x.zj≠0
  .rw[gz q];refine zF V ⟨uX,st1,rfl,uO,rfl,.inr ⟨⟨v,g,e,uR,⟨uL,uK,λ_=>by show m.i+1<=(w.zm.length:Nat);omega,uK,uK,uK⟩⟩,?_⟩⟩;show lF w {m with pc:=4,i:=m.i+1}<_;rw[e0,(jk (w:=w) (m:={m with pc:=4,i:=m.i+1}) (n:=((w.zm.length:Int)-(m.i+1))*20+4*w.zc.length+5))];omega
  rw[gp q];by_cases q2:m.k+1<(qv v).length
  .rw[gz q2];refine zF V ⟨uX,st1,rfl,uO,rfl,.inr ⟨⟨v,g,e,uT,⟨aV,uK,uK,λ_=>⟨r,hr,hrv,hrg⟩,λ_=>q2,uK⟩⟩,?_⟩⟩;show lF w {m with k:=m.k+1}<_;rw[e0,(jk (w:=w) (m:={m with k:=m.k+1}) (n:=((w.zm.length:Int)-m.i)*20+4*w.zc.length+5-1-(m.k+1)))];omega
  .rw[gp q2];refine zF V ⟨uX,st1,rfl,uO,rfl,.inr ⟨⟨v,g,e,uT,⟨uL,uK,uK,λ_=>⟨r,hr,hrv,hrg⟩,uK,uK⟩⟩,?_⟩⟩;show lF w {m with k:=m.k+1,pc:=6}<_;rw[e0,(jk (w:=w) (m:={m with k:=m.k+1,pc:=6}) (n:=((w.zm.length:Int)-m.i)*20+4*w.zc.length+5-18))];omega
 replace pcs:=pcs.resolve_left p
 rw[gp p];clear p
 by_cases p:m.pc=6
 .rw[gz p];have e0:=(jk (w:=w) (m:=m) (n:=((w.zm.length:Int)-m.i)*20+4*w.zc.length+5-18));obtain⟨r,hr,hrv,hrg⟩:=lo.lim (.inr p);have fE:=(gh.1 hr).1;have hw:IntKind.i64.wrap (m.i+1)=m.i+1:=z7 aw aw;have st2:=st.qX su.version.1 su.fZ hr hrv;have s1:=(gh.1 su.fZ).1;rw[su.fZ,gW,hr,gW,gz ⟨hrv,hrg⟩];unfold Cr;rw[hw]
  refine zF V ⟨tI,st2,rfl,uP,rfl,.inr ⟨⟨x5 v,g,e,⟨qf.2 st2.qI,su.zf,su.done,aq su.version,gD s1,su.zg,su.fY,su.end_,su.ib,su.other,su.slot,su.listen,aT,su.k⟩,
   ⟨uL,uK,λ_=>by show m.i+1<=((w.zm.set m.i.toNat (xG r)).length:Nat);rw[pV];omega,uK,uK,uK⟩⟩,?_⟩⟩
  show lF {w with ze:=w.ze.set m.version.toNat (x5 v),zm:=w.zm.set m.i.toNat (xG r)} {m with answer:={m.answer with n:=IntKind.i64.wrap (m.answer.n+1)},pc:=4,i:=m.i+1}<_;have ll:(w.zm.set m.i.toNat (xG r)).length=w.zm.length:=pV;rw[e0,(jk (w:={w with ze:=w.ze.set m.version.toNat (x5 v),zm:=w.zm.set m.i.toNat (xG r)}) (m:={m with answer:={m.answer with n:=IntKind.i64.wrap (m.answer.n+1)},pc:=4,i:=m.i+1}) (n:=((w.zm.length:Int)-(m.i+1))*20+4*w.zc.length+5))];omega
 replace pcs:=pcs.resolve_left p
 rw[gp p];clear p
 by_cases p:m.pc=8
 .rw[gz p];have e0:=(jk (w:=w) (m:=m) (n:=((w.zc.length:Int)-m.i)*4));refine zF V (SZ st su tm hk hN p V λh=>?_);rw[e0];omega
 replace pcs:=pcs.resolve_left p
 rw[gp p];clear p
 by_cases p:m.pc=9
 .rw[gz p];have e0:=(jk (w:=w) (m:=m) (n:=((w.zc.length:Int)-m.i)*4-1));obtain⟨l,hl,hd⟩:=lo.fP (.inl p);have fE:=(gh.1 hl).1;have hw:IntKind.i64.wrap (m.i+1)=m.i+1:=z7 aw aw;rw[hl,gK,hw];by_cases q:l.zj=0
  .rw[gz q];refine zF V ⟨uX,st1,rfl,uO,rfl,.inr ⟨⟨v,g,e,uQ,⟨uL,uK,uK,uK,uK,λ_=>⟨l,hl,hd⟩⟩⟩,?_⟩⟩;show lF w {m with pc:=10}<_;rw[e0,(jk (w:=w) (m:={m with pc:=10}) (n:=((w.zc.length:Int)-m.i)*4-2))];omega
  .rw[gp q];refine zF V ⟨uX,st1,rfl,uO,rfl,.inr ⟨⟨v,g,e,uR,⟨uL,uK,uK,uK,uK,uK⟩⟩,?_⟩⟩;show lF w {m with pc:=8,i:=m.i+1}<_;rw[e0,(jk (w:=w) (m:={m with pc:=8,i:=m.i+1}) (n:=((w.zc.length:Int)-(m.i+1))*4))];omega
 rw[gp p];have p:m.pc=10:=pcs.resolve_left p;have e0:=(jk (w:=w) (m:=m) (n:=((w.zc.length:Int)-m.i)*4-2));obtain⟨l,hl,hd⟩:=lo.fP (.inr p);have fE:=(gh.1 hl).1;have hw:IntKind.i64.wrap (m.i+1)=m.i+1:=z7 aw aw;have li:=Eo (gw.fP _ l hl).1;have st2:=st1.Ep hl (y:=As l) V (FM li.1 li.2.1 (by show(l.drain || !true)=true;rw[hd];rfl)) (st.ty.nF l (gu hl)).2 aX;rw[gz p,hl,gW,gz hd,hw];refine zF V ⟨tI,st2,rfl,uO,rfl,.inr ⟨⟨v,g,e,⟨qf.2 st2.qI,su.zf,su.done,su.version,su.fZ,su.zg,su.fY,su.end_,su.ib,su.other,su.slot,aq su.listen,aT,su.k⟩,⟨uL,uK,uK,uK,uK,uK⟩⟩,?_⟩⟩;show lF {w with zc:=w.zc.set m.i.toNat (As l)} {m with pc:=8,i:=m.i+1}<_;have ll:(w.zc.set m.i.toNat (As l)).length=w.zc.length:=pV;rw[e0,(jk (w:={w with zc:=w.zc.set m.i.toNat (As l)}) (m:={m with pc:=8,i:=m.i+1}) (n:=((w.zc.length:Int)-(m.i+1))*4))];omega
end
end Go.Wor
namespace Go.Wor
open Go.Ab Go.Proofs Tryz Go.Gat Go.Nam Go.Hos Go.Con Go.Sna Go.Pla
open Go.Hy hiding encI
def Ny(w:Wor)(m:fD)(v:fI)(g:Gr)(e:En):Prop:=(m.op.kind=1/\U5 w m v g e)\/(m.op.kind=2/\U3 w m v g e)\/(m.op.kind=3/\I0 w m v g e)\/(m.op.kind=4/\U4 w m v g e)\/(m.op.kind=5/\EX w m v g e)\/(m.op.kind=6/\U6 w m v g e)
def NF(m:fD):Prop:=1<=m.answer.kind/\m.answer.kind<=13/\(m.op.kind=1↔m.answer.kind<=5)
def M8(w:Wor)(m:fD):Nat:=if m.op.kind=1 then TS w m else if m.op.kind=3 then GL w m else if m.op.kind=5 then lF w m else if m.op.kind=6 then TT w m else 0
section
variable {N K:Nat} {w:Wor} {m:fD} {v:fI} {g:Gr} {e:En}
def Nx.up{k:Int}{L:Wor->fD->fI->Gr->En->Prop}{F:fD->Prop}{μ:Wor->fD->Nat}{r:Wor×fD×fG}(h:Nx N K w m L F μ r)(hk:m.op.kind=k)(hL:∀w' m' v g e,m'.op.kind=k->L w' m' v g e->Ny w' m' v g e)(hF:∀m',m'.op.kind=k->F m'->NF m')(hμ:∀w' m',m'.op.kind=k->M8 w' m'=μ w' m'):Nx N K w m Ny NF M8 r:=by
 have hk':r.2.1.op.kind=k:=by rw[h.op];exact hk
 refine⟨h.ev,h.st,h.pins,h.tm,h.op,?_⟩;rcases h.go with⟨h1,h2⟩|⟨⟨v',g',e',h1,h2⟩,h3⟩
 all_goals grind
def zw1(su:qt w m v g e):vj w m=if m.op.kind=1 then qe w m v g e else if m.op.kind=2 then jW w m v g e else if m.op.kind=3 then yg w m else if m.op.kind=4 then yM w m
  else if m.op.kind=5 then qZ w m else if m.op.kind=6 then yf w m else none:=by
 unfold vj;rw[su.fZ];dsimp only;rw[su.fY];dsimp only;rw[su.ib]
end
def J6{w:Wor}{m:fD}{v:fI}{g:Gr}{e:En}(su:qt w m v g e):z8 w m=true:=by
 unfold z8;simp only[gH,pK,ko];refine⟨⟨⟨⟨su.world,su.zf⟩,su.done⟩,su.version⟩,?_⟩;rw[su.fZ];simp only[gH,ko];refine⟨su.zg,?_⟩;rw[su.fY];simp only[gH,ko,gR];rw[su.ib];simp only[ko];exact⟨⟨⟨su.end_,su.other⟩,su.slot⟩,⟨⟨by have:=su.listen;omega,su.i⟩,su.k⟩⟩
end Go.Wor
