import Derived.Test.YtoeaoedlpmohoaaGreatSS
import Derived.Test.YtoeaoedlpmohoaaGreatSI
set_option linter.all false
set_option maxRecDepth 100000
set_option maxHeartbeats 4000000
namespace Go.Slp
open Go.Ab Go.Hy
def M6{x i:Int}(h1: -1<=i)(h2:i<=2147483646):jC x i%4294967296-1=i:=by unfold jC;omega
def zvA{x i:Int}(h1: -1<=i)(h2:i<=2147483646):jC x i / 4294967296=(x / 4294967296+1)%4294967296:=by unfold jC;omega
def Om{x i:Int}(h1: -1<=i)(h2:i<=2147483646):u64 (jC x i):=by unfold jC u64;omega
def Kb(nx:List Int)(i0:Int):∀k,xF nx (nv nx i0) k=xF nx i0 (k+1)
 |0=>rfl
 |k+1=>by
  show nv nx (xF nx (nv nx i0) k)=nv nx (xF nx i0 (k+1));rw[Kb nx i0 k]
def T9(nx:List Int)(i0:Int)(k:Nat):xU nx i0 (k+1)=i0::xU nx (nv nx i0) k:=by
 unfold xU;rw[List.range_succ_eq_map,se,sM]
 congr 1
 apply sG
 intro j _;exact(Kb nx i0 j).symm
def Nn{nx:List Int}{i0:Int}(h:m9 nx i0=true)(h0:¬i0<0):xG nx (nv nx i0)+1=xG nx i0/\m9 nx (nv nx i0)=true/\xU nx i0 (xG nx i0)=i0::xU nx (nv nx i0) (xG nx (nv nx i0)):=by
 have hp:=Wi h h0;obtain⟨N,hN⟩:∃N,xG nx i0=N+1:=⟨xG nx i0-1,aw⟩;obtain⟨c1,c2,c3⟩:=vK nx i0
 have hend:xF nx (nv nx i0) N= -1:=by
  rw[Kb,<-hN];simpa [m9] using h
 have e:xG nx (nv nx i0)=N:=by
  refine NY ?_ ?_
  ·have:oa nx (xF nx (nv nx i0) N)=false:=by rw[hend];simp[oa]
   simp[vA,this]
  ·intro j hj;have:=c3 (j+1) aw;simp only[vA,rY,ub]at this ⊢;rw[Kb];refine⟨this.1,?_⟩;have h2:=this.2;rw[T9]at h2;simp only[List.contains_cons,rY]at h2;exact h2.2
 refine⟨by rw[e,hN],by simp[m9,e,hend],?_⟩;rw[hN,e,T9]
def Fm{e:En}(h:m9 e.next (zG e)=true):qo e=(xU e.next (zG e) (xG e.next (zG e)),0):=by
 unfold qo;rw[pA h]
def XK{e:En}(he:e.ok){a:En}{i:Int}(h:Jz e=(a,i,0)):
  mq e=true/\¬zG e<0/\i=zG e/\a=⟨jC e.head (nv e.next (zG e)),e.next,e.zj⟩/\zG a=nv e.next (zG e)/\mq a=true/\a.ok/\(qo a).2=0/\(qo e)=(i::(qo a).1,0):=by
 unfold Jz at h;cases hv:mq e with
 |false=>rw[pA hv]at h;simp at h
 |true=>
  rw[pw (by simp[hv])]at h;by_cases h0:zG e<0
  ·rw[pA h0]at h;simp at h
  ·rw[pw h0]at h;cases h
   obtain⟨g1,g2,g3,g4⟩:=VS hv h0;obtain⟨b1,b2,b3,b4⟩:=C3 hv;have hh:zG ⟨jC e.head (nv e.next (zG e)),e.next,e.zj⟩=nv e.next (zG e):=M6 g3 aw;obtain⟨t1,t2,t3⟩:=Nn b1 h0;have hok:m9 (⟨jC e.head (nv e.next (zG e)),e.next,e.zj⟩:En).next (zG ⟨jC e.head (nv e.next (zG e)),e.next,e.zj⟩)=true:=by rw[hh];exact t2
   refine⟨rfl,h0,rfl,rfl,hh,?_,⟨Om g3 aw,he.2⟩,?_,?_⟩
   ·simp only[mq,hok,ui,pG,pQ];exact⟨⟨b2,b3⟩,b4⟩
   ·rw[Fm hok]
   ·rw[Fm b1,Fm hok,hh,t3]
def Tz{nx:List Int}{s p v:Int}(h:p≠s)(h1:0<=s)(h2:0<=p):nv (nx.set s.toNat v) p=nv nx p:=by
 unfold nv;rw[pK,pw aw]
def zsn{nx:List Int}{s v:Int}(h1:0<=s)(h2:s<nx.length):nv (nx.set s.toNat v) s=v:=by
 unfold nv;rw[pK,pA O,pA aw]
 rfl
def zyC{e:En}(he:e.ok){slot:Int}{a:En}(h:LC e slot=(a,0)):
  mq e=true/\0<=slot/\slot<e.next.length/\a=⟨jC e.head slot,e.next.set slot.toNat (zG e),e.zj⟩/\zG a=slot/\mq a=true/\a.ok/\(qo e).2=0/\qo a=(slot::(qo e).1,0):=by
 unfold LC at h;cases hv:mq e with
 |false=>rw[pA hv]at h;simp at h
 |true=>
  rw[pw (by simp[hv])]at h;by_cases h0:slot<0\/e.next.length<=slot
  ·rw[pA h0]at h;simp at h
  ·rw[pw h0]at h;cases hc:(qo e).1.contains slot with
   |true=>rw[pA hc]at h;simp at h
   |false=>
    rw[pw (by rw[hc];decide)]at h;cases h
    obtain⟨b1,b2,b3,b4⟩:=C3 hv;have s1:0<=slot:=aw
    have s2:slot<e.next.length:=aw
    have hh:zG ⟨jC e.head slot,e.next.set slot.toNat (zG e),e.zj⟩=slot:=M6 aw aw;obtain⟨c1,c2,c3⟩:=vK e.next (zG e);generalize hN:xG e.next (zG e)=N at *;have hfr:qo e=(xU e.next (zG e) N,0):=by rw[Fm b1,hN]
    rw[hfr]at hc
    have hnot:∀k,k<N->xF e.next (zG e) k≠slot/\0<=xF e.next (zG e) k:=λk hk=>by
     constructor
     ·intro e2;have:slot∈xU e.next (zG e) N:=pZ.2 ⟨k,sJ.2 hk,e2⟩;simp[this]at hc
     ·have:=c3 k hk;simp only[vA,rY,ub,oa,pG,pQ]at this;exact this.1.1
    have hpos:∀k,k<=N->xF (e.next.set slot.toNat (zG e)) slot (k+1)=xF e.next (zG e) k:=by
     intro k
     induction k with
     |zero=>intro _;exact zsn s1 s2
     |succ k ih=>
      intro hk;show nv _ (xF (e.next.set slot.toNat (zG e)) slot (k+1))=nv e.next (xF e.next (zG e) k);rw[ih aw];exact Tz (hnot k aw).1 s1 (hnot k aw).2
    have hvis:∀k,k<=N->xU (e.next.set slot.toNat (zG e)) slot (k+1)=slot::xU e.next (zG e) k:=λk hk=>by
     unfold xU;rw[List.range_succ_eq_map,se,sM]
     congr 1
     apply sG
     intro j hj;exact hpos j (by have:=sJ.1 hj;omega)
    have hin:∀p,oa (e.next.set slot.toNat (zG e)) p=oa e.next p:=λp=>by simp[oa]
    have hend:xF e.next (zG e) N= -1:=by
     have:m9 e.next (zG e)=true:=b1;simp only[m9,hN,rJ]at this;exact gh
    have hcnt:xG (e.next.set slot.toNat (zG e)) slot=N+1:=by
     refine NY ?_ ?_
     ·have:oa (e.next.set slot.toNat (zG e)) (xF (e.next.set slot.toNat (zG e)) slot (N+1))=false:=by rw[hpos N (pI _),hend,hin];simp[oa]
      simp[vA,this]
     ·intro j hj;cases j with
      |zero=>
       simp only[vA,xU,xF,hin];simp[oa,s1,s2]
      |succ j=>
       have:=c3 j aw;simp only[vA,rY,ub]at this ⊢;rw[hpos j aw,hvis j aw,hin];refine⟨this.1,?_⟩;rw[List.contains_cons,this.2];simp;exact(hnot j aw).1
    have hok:m9 (e.next.set slot.toNat (zG e)) slot=true:=by
     simp only[m9,hcnt,hpos N (pI _),hend]
     rfl
    have hfa:qo ⟨jC e.head slot,e.next.set slot.toNat (zG e),e.zj⟩=(slot::xU e.next (zG e) N,0):=by
     rw[Fm (by rw[hh];exact hok),hh];show(xU (e.next.set slot.toNat (zG e)) slot (xG (e.next.set slot.toNat (zG e)) slot),(0:Int))=_;rw[hcnt,hvis N (pI _)]
    refine⟨rfl,s1,s2,rfl,hh,?_,⟨Om aw aw,⟨λx hx=>?_,by simp;exact he.2.1.2⟩,he.2.2⟩,by rw[hfr],by rw[hfa,hfr]⟩
    ·simp only[mq,hh,hok,ui,pG,pQ];exact⟨⟨aA,aA⟩,b4⟩
    ·rcases rC hx with h|h
     ·exact he.2.1.1 x h
     ·have:=zxG e;rw[h];exact⟨aw,aw⟩
def zwv(nx:List Int)(i0:Int):(xU nx i0 (xG nx i0)).Nodup:=(Is (vK nx i0).2.2).1
end Go.Slp
namespace Go.Wor
open Go.Ab Go.Proofs Tryz Go.Hy Go.Gat Go.Nam Go.Hos Go.Con Go.Sna
def mem_set{α:Type}{l:List α}{i:Nat}{x y:α}(h:y∈l.set i x):y∈l\/y=x:=rC h
def jG{α:Type}{l:List α}{i j:Nat}{x y:α}(h:(l.set i x)[j]?=some y):(i=j/\y=x/\i<l.length)\/(i≠j/\l[j]?=some y):=by
 rw[pK]at h;split at h
 ·rename_i hij;split at h
  ·rename_i lu;cases h;exact .inl ⟨hij,rfl,lu⟩
  ·cases h
 ·rename_i hij;exact .inr ⟨hij,h⟩
def xa.BU{w:Wor}(h:xa w)(t:Nat){p:Int}(h0:0<=p)(h1:p<=w.zn+1):xa (BK w t p):=by
 have g:=qs.1 h.ground;refine⟨qs.2 ⟨aq g.pins,⟨aq g.counts.1,g.counts.2⟩,g.zn,g.lock,λq hq=>?_⟩,h.current,h.zr,h.bad,h.my,h.lY⟩;rcases mem_set hq with hq|rfl
 ·exact g.BU q hq
 ·exact⟨h0,h1⟩
def xa.count{w:Wor}(h:xa w)(t:Nat){r:List Int}(h0:r.length=6):xa {w with counts:=w.counts.set t r}:=by
 have g:=qs.1 h.ground;refine⟨qs.2 ⟨g.pins,⟨aq g.counts.1,λq hq=>?_⟩,g.zn,g.lock,g.BU⟩,h.current,h.zr,h.bad,h.my,h.lY⟩;rcases mem_set hq with hq|rfl
 ·exact g.counts.2 q hq
 ·exact h0
def xa.Ju{w:Wor}(h:xa w){n:Int}(h0:n=0\/n=1):xa {w with lock:=n}:=by
 have g:=qs.1 h.ground;exact⟨qs.2 ⟨g.pins,g.counts,g.zn,h0,g.BU⟩,h.current,h.zr,h.bad,h.my,h.lY⟩
def xa.Md{w:Wor}(h:xa w){n:Int}(h0:w.zn<=n)(h1:n<=1000000000000):xa {w with zn:=n}:=by
 have g:=qs.1 h.ground;refine⟨qs.2 ⟨g.pins,g.counts,⟨by have:=g.zn.1;show 0<=n;omega,h1⟩,g.lock,λp hp=>by have:=g.BU p hp;show _/\p<=n+1;omega⟩,h.current,h.zr,λr hr=>?_,h.my,h.lY⟩;have:=h.bad r hr;unfold vM at this ⊢;simp at this ⊢;exact⟨⟨this.1.1,this.1.2⟩,aw⟩
def zvW{l l':List mj}(h:l.map (·.name)=l'.map (·.name))(s:lH):zD l s=zD l' s:=by
 unfold zD
 have:l.findIdx? (λr=>r.name == s)=l'.findIdx? (λr=>r.name == s):=by
  have e:∀l:List mj,l.findIdx? (λr=>r.name == s)=(l.map (·.name)).findIdx? (λx=>x == s):=λl=>by rw[sN];rfl
  rw[e,e,h]
 rw[this]
def zvw{l:List mj}{i:Nat}{x y:mj}(hx:l[i]?=some x)(h:y.name=x.name):(l.set i y).map (·.name)=l.map (·.name):=by
 rw[r6];exact yO _ _ (by rw[pj,hx,pM,h])
def xa.Iz{w:Wor}(h:xa w){i:Nat}{x y:mj}(hx:w.zf[i]?=some x)(hn:y.name=x.name)(hy:Go.Gat.mq y=true):xa {w with zf:=w.zf.set i y}:=by
 refine⟨h.ground,h.current,h.zr,h.bad,h.my,λj l hl=>?_⟩;show _/\zD (w.zf.set i y) l.name=j;rw[zvW (zvw hx hn)];rcases jG hl with⟨rfl,rfl,_⟩|⟨_,hl⟩
 ·rw[hn];exact⟨hy,(h.lY i x hx).2⟩
 ·exact h.lY j l hl
def Cq.Am{m:lh}{v:lJ}{g:Gr}{e:En}(h:Cq v)(hg:v.zp[m.zi.toNat]?=some g)(he:g.ends[m.end_.toNat]?=some e){e':En}{tk:Int}(hi:Slp.mq e'=true)(hl:e'.next.length=e.next.length):
  Cq {v with zp:=v.zp.set m.zi.toNat {g with zx:=tk,ends:=g.ends.set m.end_.toNat e'} }:=by
 refine⟨h.snap,aq h.len,λi g2 x hg2 hx=>?_⟩;rcases jG hg2 with⟨rfl,rfl,_⟩|⟨_,hg2⟩
 ·obtain⟨h1,h2⟩:=h.Dp _ g x hg hx;refine⟨aq h1,λy hy=>?_⟩;rcases mem_set hy with hy|rfl
  ·exact h2 y hy
  ·exact⟨hi,by rw[hl];exact(h2 e (pq he)).len⟩
 ·exact h.Dp i g2 x hg2 hx
def xa.Am{w:Wor}{m:lh}{v:lJ}{g:Gr}{e:En}(h:xa w)(hat:m7 w m v g e){e':En}{tk:Int}(hi:Slp.mq e'=true)(hl:e'.next.length=e.next.length):
  xa {w with zd:=w.zd.set m.version.toNat {v with zp:=v.zp.set m.zi.toNat {g with zx:=tk,ends:=g.ends.set m.end_.toNat e'} } }:=by
 refine⟨h.ground,aq h.current,h.zr,λr hr=>?_,λi v2 hv=>?_,h.lY⟩
 ·have:=h.bad r hr;unfold vM at this ⊢;simpa using this
 ·rcases jG hv with⟨rfl,rfl,_⟩|⟨_,hv⟩
  ·obtain⟨h1,h2⟩:=h.my _ v hat.at_;exact⟨h1.Am hat.mn hat.mM hi hl,h2⟩
  ·exact h.my i v2 hv
structure Cal(K:Nat)(w:Wor):Prop where
 lY:∀l∈w.zf,l.zj<=K
 ends : ∀v∈w.zd, ∀g∈v.zp, ∀e∈g.ends, e.zj <= K
structure St(N K:Nat)(w:Wor):Prop where
 jn:xa w
 ty:AE N w
 nI:Cal K w
def St.mono{N K N' K':Nat}{w:Wor}(h:St N K w)(hN:N<=N')(hK:K<=K'):St N' K' w:=
 ⟨h.jn,⟨by have:=h.ty.wC;omega,by have:=h.ty.lY;omega,by have:=h.ty.lim;omega,h.ty.oO,h.ty.Bw⟩,⟨λl hl=>by have:=h.nI.lY l hl;omega,λv hv g hg e he=>by have:=h.nI.ends v hv g hg e he;omega⟩⟩
def St.BU{N K:Nat}{w:Wor}(h:St N K w)(t:Nat){p:Int}(h0:0<=p)(h1:p<=w.zn+1):St N K (BK w t p):=⟨h.jn.BU t h0 h1,⟨h.ty.wC,h.ty.lY,h.ty.lim,h.ty.oO,h.ty.Bw⟩,⟨h.nI.lY,h.nI.ends⟩⟩
def St.count{N K:Nat}{w:Wor}(h:St N K w)(t:Nat){r:List Int}(h0:r.length=6):St N K {w with counts:=w.counts.set t r}:=⟨h.jn.count t h0,⟨h.ty.wC,h.ty.lY,h.ty.lim,h.ty.oO,h.ty.Bw⟩,⟨h.nI.lY,h.nI.ends⟩⟩
def St.Ju{N K:Nat}{w:Wor}(h:St N K w){n:Int}(h0:n=0\/n=1):St N K {w with lock:=n}:=⟨h.jn.Ju h0,⟨h.ty.wC,h.ty.lY,h.ty.lim,h.ty.oO,h.ty.Bw⟩,⟨h.nI.lY,h.nI.ends⟩⟩
def St.Md{N K:Nat}{w:Wor}(h:St N K w){n:Int}(h0:w.zn<=n)(h1:n<=1000000000000):St N K {w with zn:=n}:=⟨h.jn.Md h0 h1,⟨h.ty.wC,h.ty.lY,h.ty.lim,h.ty.oO,h.ty.Bw⟩,⟨h.nI.lY,h.nI.ends⟩⟩
def St.Iz{N K:Nat}{w:Wor}(h:St N K w){i:Nat}{x y:mj}(hx:w.zf[i]?=some x)(hn:y.name=x.name)(hy:Go.Gat.mq y=true)(hi:i64 y.zj)(hk:y.zj<=K):St N K {w with zf:=w.zf.set i y}:=by
 refine⟨h.jn.Iz hx hn hy,⟨h.ty.wC,aq h.ty.lY,h.ty.lim,h.ty.oO,λl hl=>?_⟩,⟨λl hl=>?_,h.nI.ends⟩⟩
 ·rcases mem_set hl with hl|rfl
  ·exact h.ty.Bw l hl
  ·exact⟨by rw[hn];exact(h.ty.Bw x (pq hx)).1,hi⟩
 ·rcases mem_set hl with hl|rfl
  ·exact h.nI.lY l hl
  ·exact hk
def St.Am{N K:Nat}{w:Wor}{m:lh}{v:lJ}{g:Gr}{e:En}(h:St N K w)(hat:m7 w m v g e){e':En}{tk:Int}(hi:Slp.mq e'=true)(hl:e'.next.length=e.next.length)(ho:e'.ok)(ht:u64 tk)(hk:e'.zj<=K):
  St N K {w with zd:=w.zd.set m.version.toNat {v with zp:=v.zp.set m.zi.toNat {g with zx:=tk,ends:=g.ends.set m.end_.toNat e'} } }:=by
 have mv:=pq hat.at_;have mg:=pq hat.mn;refine⟨h.jn.Am hat hi hl,⟨aq h.ty.wC,h.ty.lY,h.ty.lim,λv2 hv=>?_,h.ty.Bw⟩,⟨h.nI.lY,λv2 hv g2 hg e2 he=>?_⟩⟩
 ·rcases mem_set hv with hv|rfl
  ·exact h.ty.oO v2 hv
  ·refine⟨(h.ty.oO v mv).1,λg2 hg=>?_⟩;rcases mem_set hg with hg|rfl
   ·exact(h.ty.oO v mv).2 g2 hg
   ·refine⟨ht,λe2 he=>?_⟩;rcases mem_set he with he|rfl
    ·exact((h.ty.oO v mv).2 g mg).2 e2 he
    ·exact ho
 ·rcases mem_set hv with hv|rfl
  ·exact h.nI.ends v2 hv g2 hg e2 he
  ·rcases mem_set hg with hg|rfl
   ·exact h.nI.ends v mv g2 hg e2 he
   ·rcases mem_set he with he|rfl
    ·exact h.nI.ends v mv g mg e2 he
    ·exact hk
def EC(h:List Bool):∀k x,x∈oq h k->0<=x/\x<k/\x<h.length
 |0,x,hx=>by cases hx
 |k+1,x,hx=>by
  simp only[oq]at hx;split at hx
  ·rename_i hk;rcases pV.1 hx with hx|hx
   ·have:=EC h k x hx;omega
   ·rw[pP.1 hx];have:=(gZ.1 hk).1;omega
  ·have:=EC h k x hx;omega
def Lp{c:mG}{n:Int}(h:(lu c).length≠0):0<=((lu c)[(n%(lu c).length).toNat]?).getD 0/\((lu c)[(n%(lu c).length).toNat]?).getD 0<c.zE.length:=by
 have h1:0<=n%(lu c).length:=eF _ aw;have h2:n%(lu c).length<(lu c).length:=eu _ aw;have h3:(n%(lu c).length).toNat<(lu c).length:=aw
 rw[pa h3,Option.getD_some];have:=EC c.zE c.zE.length _ (pY h3);omega
def zzp(n:Int):u64 (IntKind.u64.wrap n):=by
 have h:IntKind.u64.wrap n=n%18446744073709551616:=rfl;rw[h];unfold u64;omega
structure Nx(N K:Nat)(w:Wor)(m:lh)(L:Wor->lh->lJ->Gr->En->Prop)(F:lh->Prop)(μ:Wor->lh->Nat)(r:Wor×lh×lD):Prop where
 ev:r.2.2.access≠0
 st:St (N+1) (K+1) r.1
 pins:r.1.pins.length=w.pins.length
 tm:nh r.2.1
 op:r.2.1.op=m.op
 go:(r.2.1.done=true/\F r.2.1)\/(∃v g e,ja r.1 r.2.1 v g e/\L r.1 r.2.1 v g e)/\μ r.1 r.2.1<μ w m
structure zEi(w:Wor)(m:lh)(v:lJ)(g:Gr)(e:En):Prop where
 pc:(0<=m.pc/\m.pc<=12)\/(20<=m.pc/\m.pc<=23)
 ep:m.pc=1\/m.pc=2->m.zn=w.zn
 lY:(4<=m.pc/\m.pc<=12)\/m.pc=22->0<=m.listen
 early:4<=m.pc/\m.pc<=5->m.zi=0/\m.end_=0/\m.other=0
 l7:4<=m.pc/\m.pc<=8->m.slot=0
 draw:m.pc=6->∃c,v.snap.zm[m.zi.toNat]?=some c/\(lu c).length≠0
 slot:m.pc=10\/m.pc=11->m.slot=zG m.word/\e.head=m.word
 link:m.pc=11->e.next[m.slot.toNat]?=some m.link
 AY:20<=m.pc->1<=m.answer.kind/\m.answer.kind<=5
 Mi:(5<=m.pc/\m.pc<=12)\/(20<=m.pc/\m.pc<=22)->0<=m.listen->∃x,w.zf[m.listen.toNat]?=some x/\1<=x.zj
def Xh(_:Wor)(m:lh):Nat:=(24-m.pc).toNat
def SM(l:List mj)(s:lH): -1<=zD l s/\zD l s<l.length:=by
 unfold zD;cases h:l.findIdx? (λr=>r.name == s) with
 |none=>simp only;omega
 |some i=>
  have:=(pO.1 h).1;simp only;omega
def Gw{v:lJ}(h:Cq v){k:Nat}(hk:k<v.zp.length):∃g e,v.zp[k]?=some g/\g.ends[0]?=some e/\0<g.ends.length/\0<e.next.length:=by
 obtain⟨g,hg⟩:∃g,v.zp[k]?=some g:=⟨_,pa hk⟩;have f:=h.oV.2 g (pq hg);have hl:0<g.ends.length:=aw
 have he:g.ends[0]?=some g.ends[0]:=pa hl;exact⟨g,g.ends[0],hg,he,hl,by have:=(f.2.2 _ (pq he)).2.2;omega⟩
section
variable {N K:Nat} {w:Wor} {m:lh} {v:lJ} {g:Gr} {e:En}
def HQ(su:ja w m v g e){e':En}{tk:Int}(hl:e'.next.length=e.next.length)(gw:xa {w with zd:=w.zd.set m.version.toNat {v with zp:=v.zp.set m.zi.toNat {g with zx:=tk,ends:=g.ends.set m.end_.toNat e'} } }){m':lh}
 (h1:m'.zg=m.zg)(h2:m'.done=false)(h3:m'.version=m.version)(h4:m'.zi=m.zi)(h5:m'.end_=m.end_)(h6:m'.other=m.other)(h7:m'.slot=m.slot)(h8:m'.listen=m.listen)(h9:m'.i=m.i)(h10:m'.k=m.k):
  ja {w with zd:=w.zd.set m.version.toNat {v with zp:=v.zp.set m.zi.toNat {g with zx:=tk,ends:=g.ends.set m.end_.toNat e'} } } m'
   {v with zp:=v.zp.set m.zi.toNat {g with zx:=tk,ends:=g.ends.set m.end_.toNat e'} } {g with zx:=tk,ends:=g.ends.set m.end_.toNat e'} e':=by
 have s1:=(gZ.1 su.mu).1;have s2:=(gZ.1 su.mn).1;have s3:=(gZ.1 su.mM).1;refine⟨qO.2 gw,by rw[h1];exact su.zg,h2,?_,?_,?_,?_,?_,?_,?_,?_,?_,by rw[h9];exact su.i,by rw[h10];exact su.k⟩
 ·rw[h3];simpa using su.version
 ·rw[h3];exact pC s1
 ·rw[h4];simpa using su.zi
 ·rw[h4];exact pC s2
 ·rw[h5];simpa using su.end_
 ·rw[h5];exact pC s3
 ·rw[h6];simpa using su.other
 ·rw[h7,hl];exact su.slot
 ·rw[h8];exact su.listen
def zX{r:Wor×lh×lD}{P:Wor×lh×lD->Prop}{o:CU}(h:o=some r)(hp:P r):∃r,o=some r/\P r:=⟨r,h,hp⟩
end
def VT{e:En}(h:Slp.mq e=true)(n:Int)(h0:0<=n):Slp.mq (qE e e.head n)=true:=by
 obtain⟨h1,h2,h3,h4⟩:=Slp.C3 h;unfold Slp.mq;simp only[pG,pQ];exact⟨⟨⟨h1,h2⟩,h3⟩,h0⟩
def Iy{l:mj}(h:Go.Gat.mq l=true):yH l.name=true/\0<=l.zj/\(l.drain || !l.closed)=true:=by
 unfold Go.Gat.mq at h;simp only[pG,pQ]at h;exact⟨h.1.1,h.1.2,h.2⟩
def Kv{l:mj}(h1:yH l.name=true)(h2:0<=l.zj)(h3:(l.drain || !l.closed)=true):Go.Gat.mq l=true:=by
 unfold Go.Gat.mq;simp only[pG,pQ];exact⟨⟨h1,h2⟩,h3⟩
section
variable {N K:Nat} {w:Wor} {m:lh} {v:lJ} {g:Gr} {e:En}
def ON(st:St N K w)(su:ja w m v g e){x:mj}(hx:w.zf[m.listen.toNat]?=some x)(n:Int)(h0:0<=n)(h1:n<=K+1)(hK:K<=1099511627776):St (N+1) (K+1) {w with zf:=w.zf.set m.listen.toNat {x with zj:=n} }:=by
 have li:=Iy (st.jn.lY _ x hx).1;exact(st.mono aw aw:St (N+1) (K+1) w).Iz hx O (Kv li.1 h0 li.2.2) (by show i64 n;unfold i64;omega) (by show n<=_;omega)
end
section
variable {N K:Nat} {w:Wor} {m:lh} {v:lJ} {g:Gr} {e:En}
def wN(st:St N K w)(su:ja w m v g e):Slp.mq e=true/\e.next.length<=4/\1<=e.next.length/\0<=e.zj/\e.zj<=K/\e.ok/\u64 g.zx:=by
 have mv:=pq su.mu;have mg:=pq su.mn;have me:=pq su.mM;have f:=((st.jn.my _ v su.mu).1.oV.2 g mg).2.2 e me;exact⟨f.1,f.2.1,f.2.2,(Slp.C3 f.1).2.2.2,st.nI.ends v mv g mg e me,((st.ty.oO v mv).2 g mg).2 e me,((st.ty.oO v mv).2 g mg).1⟩
def S6(st:St N K w)(su:ja w m v g e){k pc:Int}(h0:0<=k)(h5:k<=5):∃r2:List Int,r2.length=6/\xQ w m k pc=some ({w with counts:=w.counts.set m.zg.toNat r2},{m with pc:=pc},mD m 3 10 k):=by
 obtain⟨r0,hr,hl⟩:=zw1 st.jn su.zg.1 su.zg.2;unfold xQ;rw[hr];dsimp only;rw[pa (show k.toNat<r0.length by omega)];exact⟨_,aq hl,rfl⟩
end
def look(m:List (Int×Value))(i:Int):Option Value:=(jw m i).bind λj=>(m[j]?).map (·.2)
def T2(m:List (Int×Value))(i:Int):jw m i=(m.map (·.1)).findIdx? (λk=>decide (k=i)):=by
 unfold jw;rw[sN]
 rfl
def zxY(m:List (Int×Value))(k i:Int)(v:Value):look (yK m k v) i=if k=i then some v else look m i:=by
 unfold yK;cases hf:jw m k with
 |some j=>
  dsimp only;obtain⟨u,hu⟩:=y7 hf
  have keys:(m.set j (k,v)).map (·.1)=m.map (·.1):=by
   rw[r6];exact yO _ _ (by rw[pj,hu];rfl)
  have e:jw (m.set j (k,v)) i=jw m i:=by rw[T2,T2,keys]
  unfold look;rw[e];have lu:=(gZ.1 hu).1;by_cases hki:k=i
  ·subst hki;rw[pA O,hf];simp[lu]
  ·rw[pw hki];cases hi:jw m i with
   |none=>rfl
   |some j'=>
    obtain⟨u',hu'⟩:=y7 hi
    have hne:j≠j':=by
     rintro rfl;rw[hu]at hu';cases hu'
     exact hki O
    simp[pK,hne]
 |none=>
  dsimp only
  have e:jw (m++[(k,v)]) i=if k=i then some m.length else jw m i:=by
   unfold jw;rw[fJ];by_cases hki:k=i
   ·subst hki;have:m.findIdx? (λkv=>decide (kv.1=k))=none:=hf;rw[this,pA O];simp
   ·rw[pw hki];cases m.findIdx? (λkv=>decide (kv.1=i)) with
    |some j=>rfl
    |none=>simp[hki]
  unfold look;rw[e];by_cases hki:k=i
  ·rw[pA hki,pA hki];simp
  ·rw[pw hki,pw hki];cases hi:jw m i with
   |none=>rfl
   |some j'=>
    obtain⟨u',hu'⟩:=y7 hi;have:=(gZ.1 hu').1;simp[pD this]
theorem zrG(l:List mw)(i:Int):wG l i=(match look (kj l) i with|some (.bool b)=>b|_=>false):=rfl
def zrF(l:List mw)(r:mw):kj (l++[r])=yK (kj l) r.version (Value.bool r.gone):=by
 unfold kj;rw[eK]
 rfl
def SX(l:List mw)(r:mw)(i:Int):wG (l++[r]) i=if r.version=i then r.gone else wG l i:=by
 rw[zrG,zrF,zxY];by_cases h:r.version=i
 ·rw[pA h,pA h]
 ·rw[pw h,pw h]
  rfl
def wQ(l:List mw)(i:Int)(hu:∀(a b:Nat) (x y:mw),l[a]?=some x->l[b]?=some y->x.version=y.version->a=b):wG l i=true↔∃r∈l,r.version=i/\r.gone=true:=by
 have key:∀n,∀l:List mw,l.length=n->(∀(a b:Nat) (x y:mw),l[a]?=some x->l[b]?=some y->x.version=y.version->a=b)->(wG l i=true↔∃r∈l,r.version=i/\r.gone=true):=by
  intro n
  induction n with
  |zero=>
   intro l hl _;rw[sD.1 hl];constructor
   ·intro h;cases h
   ·rintro⟨r,hr,_⟩;cases hr
  |succ n ih=>
   intro l hl hu;obtain⟨l',r,rfl⟩:∃l' r,l=l'++[r]:=⟨l.dropLast,l.getLast (by rintro rfl;cases hl),(fG _).symm⟩;have hl':l'.length=n:=aq hl
   have ih':=ih l' hl' λa b x y ha hb=>hu a b x y (by rw[pD (gZ.1 ha).1];exact ha) (by rw[pD (gZ.1 hb).1];exact hb)
   have hlast:(l'++[r])[l'.length]?=some r:=aj
   rw[SX];by_cases h:r.version=i
   ·rw[pA h];constructor
    ·intro hg;exact⟨r,aj,h,hg⟩
    ·rintro⟨x,hx,hv,hg⟩;obtain⟨a,ha⟩:=pJ.1 hx;have:=hu a _ x r ha hlast (by rw[hv,h]);subst this;rw[hlast]at ha;cases ha
     exact hg
   ·rw[pw h,ih'];constructor
    ·rintro⟨x,hx,hv⟩;exact⟨x,b9,hv⟩
    ·rintro⟨x,hx,hv,hg⟩;rcases pV.1 hx with hx|hx
     ·exact⟨x,hx,hv,hg⟩
     ·rw[pP.1 hx]at hv;exact absurd hv h
 exact key _ l O hu
def IV{l:List mw}(h:Go.Lim.mq l=true){i:Nat}{x:mw}(hx:l[i]?=some x):0<=x.version/\0<=x.at_/\∀(j:Nat) (y:mw),j<i->l[j]?=some y->y.version≠x.version:=by
 have h2:=pF (show decide (∀i,(h:i<l.length)->Go.Lim.m9 l i l[i]=true)=true from h) i (gZ.1 hx).1;rw[(gZ.1 hx).2]at h2;unfold Go.Lim.m9 Go.Lim.G8 at h2;simp only[pG,rZ,rL,rI,rJ]at h2;refine⟨aw,aw,λj y hj hy he=>h2.2 y ?_ he⟩;exact pJ.2 ⟨j,by rw[ru,pA hj];exact hy⟩
def VV{l:List mw}:Go.Lim.mq l=true↔∀(i:Nat) (x:mw),l[i]?=some x->0<=x.version/\0<=x.at_/\∀(j:Nat) (y:mw),j<i->l[j]?=some y->y.version≠x.version:=by
 constructor
 ·exactλh i x hx=>IV h hx
 ·intro h;refine ur λi hi=>?_
  obtain⟨h1,h2,h3⟩:=h i l[i] (pa hi);unfold Go.Lim.m9 Go.Lim.G8;simp only[pG,rZ,rL,rI,rJ];refine⟨⟨aw,aw⟩,λy hy he=>?_⟩;obtain⟨j,hj⟩:=pJ.1 hy;rw[ru]at hj;split at hj
  ·exact h3 j y (by assumption) hj he
  ·cases hj
def wh{l:List mw}(h:Go.Lim.mq l=true):∀(a b:Nat) (x y:mw),l[a]?=some x->l[b]?=some y->x.version=y.version->a=b:=λa b x y ha hb he=>by
 rcases sX a b with lu|rfl|lu
 ·exact absurd he ((IV h hb).2.2 a x lu ha)
 ·rfl
 ·exact absurd he.symm ((IV h ha).2.2 b y lu hb)
def zuR(n:Int):(Slp.C1 n).1.ok:=by
 unfold Slp.C1;split
 ·exact⟨ar,⟨λx hx=>(by cases hx),ar⟩,ar⟩
 ·refine⟨(by decide:u64 1),⟨λx hx=>?_,?_⟩,(by decide:i64 0)⟩
  ·obtain⟨i,hi,rfl⟩:=pZ.1 hx;have:=sJ.1 hi;split
   ·decide
   ·exact⟨aw,aw⟩
  ·simp;omega
def HK{x:mG}(h:LJ x):Slp.mq (yE x)=true/\((yE x).next.length:Int)=x.yP/\(yE x).zj=0/\(yE x).ok:=by
 have hs:=h.yP;unfold yE;have:x.yP=1\/x.yP=2\/x.yP=3\/x.yP=4:=aw
 rcases this with e|e|e|e <;> rw[e] <;> exact⟨ar,ar,ar,zuR _⟩
def S1{s:Sna}(h:kq s=true):Cq (qM s).1:=by
 unfold qM;rw[pA h];refine⟨h,aj,λi g x hg hx=>?_⟩;simp only[pj]at hg;have hx:s.zm[i]?=some x:=hx;rw[hx]at hg;cases hg
 have gc:=(xh h).all x (pq hx);have f:=HK gc;refine⟨by unfold o6;simp,λe he=>?_⟩;unfold o6 at he;rw[rM he];exact⟨f.1,f.2.1⟩
section
variable {N K:Nat} {w:Wor} {m:lh} {v:lJ} {g:Gr} {e:En}
def St.YE(st:St N K w){c:mL}(hc:(qy c).1=0)(sk:yY c):St (N+1) (K+1) {w with current:=w.zd.length,zd:=w.zd++[wJ c]}:=by
 have sc:=MT sk hc;have gw:=st.jn;have hb:=HS hc;have gv:Cq (wJ c):=S1 hb;have hsw:wJ c=⟨(z7 c).1,(z7 c).1.zm.map o6,false⟩:=by unfold wJ qM;rw[pA hb]
 have la:∀r∈w.zr,0<=r.version/\r.version<w.zd.length:=λr hr=>by
  obtain⟨i,hi⟩:=pJ.1 hr;have:=wi gw hi;omega
 refine⟨⟨gw.ground,⟨ua _,by show((w.zd.length:Nat):Int)<((w.zd++[wJ c]).length:Nat);simp only[pL,tt];omega⟩,gw.zr,λr hr=>?_,λi v2 hv=>?_,gw.lY⟩,⟨by have:=st.ty.wC;simp;omega,cb,by have:=st.ty.lim;show w.zr.length<=_;omega,λv2 hv=>?_,st.ty.Bw⟩,⟨λl hl=>by have:=st.nI.lY l hl;omega,λv2 hv g2 hg e2 he=>?_⟩⟩
 ·have h1:=la r hr;have h2:=gw.bad r hr;unfold vM at h2 ⊢;simp at h2 ⊢;omega
 ·have hv:(w.zd++[wJ c])[i]?=some v2:=hv;by_cases hi:i<w.zd.length
  ·rw[pD hi]at hv;exact gw.my i v2 hv
  ·rw[pT aw]at hv
   have:i-w.zd.length=0:=by
    have:=(gZ.1 hv).1;exact dB
   rw[this]at hv;cases hv
   refine⟨gv,?_⟩;rw[hsw];show false=wG w.zr i
   symm
   by_cases hg:wG w.zr i=true
   ·obtain⟨r,hr,he,_⟩:=(wQ w.zr i (wh gw.zr)).1 hg;have:=la r hr;omega
   ·simpa using hg
 ·rcases pV.1 hv with hv|hv
  ·exact st.ty.oO v2 hv
  ·rw[pP.1 hv,hsw];refine⟨JQ sc,λg2 hg=>?_⟩;obtain⟨x,hx,rfl⟩:=pZ.1 hg;have f:=HK ((xh hb).all x hx);refine⟨(by decide:u64 0),λe2 he=>?_⟩;unfold o6 at he;rw[rM he];exact f.2.2.2
 ·rcases pV.1 hv with hv|hv
  ·have:=st.nI.ends v2 hv g2 hg e2 he;omega
  ·rw[pP.1 hv,hsw]at hg;obtain⟨x,hx,rfl⟩:=pZ.1 hg;have f:=HK ((xh hb).all x hx);unfold o6 at he;rw[rM he,f.2.2.1];omega
def St.Y7(st:St N K w){x:mw}(h0:0<=x.version)(h1:x.version<w.zd.length)(h2:x.version≠w.current)(h3:0<=x.at_)(h4:x.at_<=w.zn)(hg:x.gone=false)(hn:∀r∈w.zr,r.version≠x.version):St (N+1) (K+1) {w with zr:=w.zr++[x]}:=by
 have gw:=st.jn;refine⟨⟨gw.ground,gw.current,?_,λr hr=>?_,λi v2 hv=>⟨(gw.my i v2 hv).1,?_⟩,gw.lY⟩,⟨by have:=st.ty.wC;show w.zd.length<=_;omega,cb,by have:=st.ty.lim;simp;omega,st.ty.oO,st.ty.Bw⟩,⟨λl hl=>by have:=st.nI.lY l hl;omega,λv2 hv g2 hg e2 he=>by have:=st.nI.ends v2 hv g2 hg e2 he;omega⟩⟩
 ·rw[VV];intro i y hy;by_cases hi:i<w.zr.length
  ·have hy':w.zr[i]?=some y:=by rw[<-pD (l₂:=[x]) hi];exact hy
   obtain⟨a,b,c⟩:=IV gw.zr hy';exact⟨a,b,λj z hj hz=>c j z hj (by rw[<-pD (l₂:=[x]) aw];exact hz)⟩
  ·have hy2:(w.zr++[x])[i]?=some y:=hy;rw[pT aw]at hy2
   have:i-w.zr.length=0:=by
    have:=(gZ.1 hy2).1;exact dB
   rw[this]at hy2;cases hy2
   refine⟨h0,h3,λj z hj hz=>?_⟩;have hz2:(w.zr++[x])[j]?=some z:=hz;rw[pD aw]at hz2;exact hn z (pq hz2)
 ·rcases pV.1 hr with hr|hr
  ·exact gw.bad r hr
  ·rw[pP.1 hr];unfold vM;simp;omega
 ·rw[(gw.my i v2 hv).2];show _=wG (w.zr++[x]) i;rw[SX];by_cases he:x.version=i
  ·rw[pA he,hg];by_cases hgo:wG w.zr i=true
   ·obtain⟨r,hr,hv2,_⟩:=(wQ w.zr i (wh gw.zr)).1 hgo;exact absurd (hv2.trans he.symm) (hn r hr)
   ·simpa using hgo
  ·rw[pw he]
def St.qd(st:St N K w){i:Nat}{k:Int}{v2:lJ}{x:mw}(h0:0<=k)(hv:w.zd[k.toNat]?=some v2)(hx:w.zr[i]?=some x)(he:x.version=k):St (N+1) (K+1) {w with zd:=w.zd.set k.toNat (Cg v2),zr:=w.zr.set i (wb x)}:=by
 have gw:=st.jn;have la:=wi gw hx
 have same:∀(j:Nat) (y:mw),(w.zr.set i (wb x))[j]?=some y->∃z,w.zr[j]?=some z/\z.version=y.version/\z.at_=y.at_:=λj y hy=>by
  rcases jG hy with⟨rfl,rfl,_⟩|⟨_,hy⟩
  ·exact⟨x,hx,rfl,rfl⟩
  ·exact⟨y,hy,rfl,rfl⟩
 have isL:Go.Lim.mq (w.zr.set i (wb x))=true:=by
  rw[VV];intro j y hy;obtain⟨z,hz,e1,e2⟩:=same j y hy;obtain⟨a,b,c⟩:=IV gw.zr hz;refine⟨aw,aw,λj2 y2 hj hy2=>?_⟩;obtain⟨z2,hz2,e3,_⟩:=same j2 y2 hy2;rw[<-e3,<-e1];exact c j2 z2 hj hz2
 refine⟨⟨gw.ground,aq gw.current,isL,λr hr=>?_,λj v3 hv3=>?_,gw.lY⟩,⟨by have:=st.ty.wC;simp;omega,cb,by have:=st.ty.lim;simp;omega,λv3 hv3=>?_,st.ty.Bw⟩,⟨λl hl=>by have:=st.nI.lY l hl;omega,λv3 hv3 g2 hg e2 he=>?_⟩⟩
 ·obtain⟨j,hj⟩:=pJ.1 hr;obtain⟨z,hz,e1,e2⟩:=same j r hj;have:=gw.bad z (pq hz);unfold vM at this ⊢;rw[<-e1,<-e2];simpa using this
 ·have gone2:wG (w.zr.set i (wb x)) j=if (j:Int)=k then true else wG w.zr j:=by
   by_cases hjk:(j:Int)=k
   ·rw[pA hjk,wQ _ _ (wh isL)];exact⟨wb x,pJ.2 ⟨i,pC (gZ.1 hx).1⟩,by show x.version=_;omega,rfl⟩
   ·rw[pw hjk,uz,wQ _ _ (wh isL),wQ _ _ (wh gw.zr)];constructor
    ·rintro⟨r,hr,h1,h2⟩;rcases mem_set hr with hr|rfl
     ·exact⟨r,hr,h1,h2⟩
     ·exact absurd (show x.version=j from h1) aw
    ·rintro⟨r,hr,h1,h2⟩;obtain⟨b,hb⟩:=pJ.1 hr
     have hbi:i≠b:=by
      rintro rfl;rw[hx]at hb;cases hb
      omega
     exact⟨r,pJ.2 ⟨b,by rw[pK,pw hbi];exact hb⟩,h1,h2⟩
  show Cq v3/\v3.qd=wG (w.zr.set i (wb x)) j;rw[gone2];rcases jG hv3 with⟨rfl,rfl,_⟩|⟨hne,hv3⟩
  ·rw[pA aw];exact⟨⟨(gw.my _ v2 hv).1.snap,(gw.my _ v2 hv).1.len,(gw.my _ v2 hv).1.Dp⟩,rfl⟩
  ·rw[pw aw];exact gw.my j v3 hv3
 ·rcases mem_set hv3 with hv3|rfl
  ·exact st.ty.oO v3 hv3
  ·exact st.ty.oO v2 (pq hv)
 ·rcases mem_set hv3 with hv3|rfl
  ·have:=st.nI.ends v3 hv3 g2 hg e2 he;omega
  ·have:=st.nI.ends v2 (pq hv) g2 hg e2 he;omega
end
structure zEj(w:Wor)(m:lh)(v:lJ)(g:Gr)(e:En):Prop where
 pc:0<=m.pc/\m.pc<=2
 my:1<=m.pc->m.version≠w.current/\∀r∈w.zr,r.version≠m.version
 ep:m.pc=2->0<=m.zn/\m.zn<=w.zn
def Xi(_:Wor)(m:lh):Nat:=(3-m.pc).toNat
section
variable {N K:Nat} {w:Wor} {m:lh} {v:lJ} {g:Gr} {e:En}
def zEh(_:Wor)(m:lh)(_:lJ)(_:Gr)(_:En):Prop:=m.pc=0
def zEf(_:Wor)(m:lh)(_:lJ)(_:Gr)(_:En):Prop:=m.pc=9
structure zEk(w:Wor)(m:lh)(v:lJ)(g:Gr)(e:En):Prop where
 pc:m.pc=0
 k:m.k<6
 i:m.i<w.counts.length
def Xj(w:Wor)(m:lh):Nat:=((w.counts.length-m.i)*6-m.k).toNat
end
structure zEg(w:Wor)(m:lh)(v:lJ)(g:Gr)(e:En):Prop where
 pc:(0<=m.pc/\m.pc<=6)\/(8<=m.pc/\m.pc<=10)
 BU:m.pc=2->m.i<w.pins.length
 li4:m.pc=4->m.i<=w.zr.length
 lim:m.pc=5\/m.pc=6->∃r,w.zr[m.i.toNat]?=some r/\r.version=m.version/\r.gone=false
 act:m.pc=5->m.k<(xJ v).length
 lY:m.pc=9\/m.pc=10->∃l,w.zf[m.i.toNat]?=some l/\l.drain=true
def Xg(w:Wor)(m:lh):Nat:=(
 if m.pc=0 then 20*(w.zr.length:Int)+4*w.zf.length+w.pins.length+20
 else if m.pc=1 then 20*(w.zr.length:Int)+4*w.zf.length+w.pins.length+19
 else if m.pc=2 then 20*(w.zr.length:Int)+4*w.zf.length+10+(w.pins.length-m.i)
 else if m.pc=3 then 20*(w.zr.length:Int)+4*w.zf.length+10
 else if m.pc=4 then (w.zr.length-m.i)*20+4*w.zf.length+5
 else if m.pc=5 then (w.zr.length-m.i)*20+4*w.zf.length+5-1-m.k
 else if m.pc=6 then (w.zr.length-m.i)*20+4*w.zf.length+5-18
 else if m.pc=8 then (w.zf.length-m.i)*4
 else if m.pc=9 then (w.zf.length-m.i)*4-1
 else (w.zf.length-m.i)*4-2:Int).toNat
def QP:∀(l:List Gr),(∀g∈l,g.ends.length<=4)->(l.flatMap (·.ends)).length<=l.length*4
 |[],_=>by simp
 |g::l,h=>by
  have:=QP l λx hx=>h x (r8 _ hx)
  have:=h g (r7 ..);simp only[sO,pL,rF];omega
def Uw{v:lJ}(h:Cq v):1<=(xJ v).length/\(xJ v).length<=16:=by
 have f:=h.oV;have h4:=QP v.zp λg hg=>(f.2 g hg).1
 refine⟨?_,by unfold xJ;omega⟩;have h0:0<v.zp.length:=by have:=(xh h.snap).zm.1;have:=h.len;omega
 obtain⟨g,e,hg,he,_,_⟩:=Gw h h0;have:e∈xJ v:=List.mem_flatMap.2 ⟨g,pq hg,pq he⟩;exact List.length_pos_of_mem this
section
variable {N K:Nat} {w:Wor} {m:lh} {v:lJ} {g:Gr} {e:En}
end
end Go.Wor
namespace Go.Wor
open Go.Ab Go.Proofs Tryz Go.Gat Go.Nam Go.Hos Go.Con Go.Sna Go.Pla
open Go.Hy hiding encI
def Rl(w:Wor)(m:lh)(v:lJ)(g:Gr)(e:En):Prop:=(m.op.kind=1/\zEi w m v g e)\/(m.op.kind=2/\zEf w m v g e)\/(m.op.kind=3/\zEj w m v g e)\/(m.op.kind=4/\zEh w m v g e)\/(m.op.kind=5/\zEg w m v g e)\/(m.op.kind=6/\zEk w m v g e)
def Rk(m:lh):Prop:=1<=m.answer.kind/\m.answer.kind<=13/\(m.op.kind=1↔m.answer.kind<=5)
def Qm(w:Wor)(m:lh):Nat:=if m.op.kind=1 then Xh w m else if m.op.kind=3 then Xi w m else if m.op.kind=5 then Xg w m else if m.op.kind=6 then Xj w m else 0
section
variable {N K:Nat} {w:Wor} {m:lh} {v:lJ} {g:Gr} {e:En}
def Nx.up{k:Int}{L:Wor->lh->lJ->Gr->En->Prop}{F:lh->Prop}{μ:Wor->lh->Nat}{r:Wor×lh×lD}(h:Nx N K w m L F μ r)(hk:m.op.kind=k)(hL:∀w' m' v g e,m'.op.kind=k->L w' m' v g e->Rl w' m' v g e)(hF:∀m',m'.op.kind=k->F m'->Rk m')(hμ:∀w' m',m'.op.kind=k->Qm w' m'=μ w' m'):Nx N K w m Rl Rk Qm r:=by
 have hk':r.2.1.op.kind=k:=by rw[h.op];exact hk
 refine⟨h.ev,h.st,h.pins,h.tm,h.op,?_⟩;rcases h.go with⟨h1,h2⟩|⟨⟨v',g',e',h1,h2⟩,h3⟩
 ·exact .inl ⟨h1,hF _ hk' h2⟩
 ·exact .inr ⟨⟨v',g',e',h1,hL _ _ _ _ _ hk' h2⟩,by rw[hμ _ _ hk',hμ _ _ hk];exact h3⟩
def zy3(su:ja w m v g e):yu w m=if m.op.kind=1 then zY w m v g e else if m.op.kind=2 then jO w m v g e else if m.op.kind=3 then kU w m else if m.op.kind=4 then yA w m
  else if m.op.kind=5 then jA w m else if m.op.kind=6 then xS w m else none:=by
 unfold yu;rw[su.mu];dsimp only;rw[su.mn];dsimp only;rw[su.mM]
end
def zsZ{w:Wor}{m:lh}{v:lJ}{g:Gr}{e:En}(su:ja w m v g e):ql w m=true:=by
 unfold ql;simp only[pG,rZ,wg];refine⟨⟨⟨⟨su.world,su.zg⟩,su.done⟩,su.version⟩,?_⟩;rw[su.mu];simp only[pG,wg];refine⟨su.zi,?_⟩;rw[su.mn];simp only[pG,wg,pQ];rw[su.mM];simp only[wg];exact⟨⟨⟨su.end_,su.other⟩,su.slot⟩,⟨⟨by have:=su.listen;omega,su.i⟩,su.k⟩⟩
end Go.Wor
