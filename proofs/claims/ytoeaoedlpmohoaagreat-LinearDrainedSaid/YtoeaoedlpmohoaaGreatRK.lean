import Derived.Test.YtoeaoedlpmohoaaGreatRS
import Derived.Test.YtoeaoedlpmohoaaGreatRI
set_option linter.all false
set_option maxRecDepth 100000
set_option maxHeartbeats 4000000
namespace Go.Slp
open Go.Ab Go.Hy
def Hv{x i:Int}(h1: -1<=i)(h2:i<=2147483646):je x i%4294967296-1=i:=by unfold je;omega
def Wq{x i:Int}(h1: -1<=i)(h2:i<=2147483646):je x i / 4294967296=(x / 4294967296+1)%4294967296:=by unfold je;omega
def Ik{x i:Int}(h1: -1<=i)(h2:i<=2147483646):u64 (je x i):=by unfold je u64;omega
def Fp(nx:List Int)(i0:Int):∀k,j0 nx (iH nx i0) k=j0 nx i0 (k+1)
 |0=>rfl
 |k+1=>by
  show iH nx (j0 nx (iH nx i0) k)=iH nx (j0 nx i0 (k+1));rw[Fp nx i0 k]
def Mx(nx:List Int)(i0:Int)(k:Nat):xd nx i0 (k+1)=i0::xd nx (iH nx i0) k:=by
 unfold xd;rw[List.range_succ_eq_map,rJ,rY]
 congr 1
 apply sA
 intro j _;exact(Fp nx i0 j).symm
def HJ{nx:List Int}{i0:Int}(h:iy nx i0=true)(h0:¬i0<0):j5 nx (iH nx i0)+1=j5 nx i0/\iy nx (iH nx i0)=true/\xd nx i0 (j5 nx i0)=i0::xd nx (iH nx i0) (j5 nx (iH nx i0)):=by
 have hp:=N3 h h0;obtain⟨N,hN⟩:∃N,j5 nx i0=N+1:=⟨j5 nx i0-1,aw⟩;obtain⟨c1,c2,c3⟩:=yT nx i0
 have hend:j0 nx (iH nx i0) N= -1:=by
  rw[Fp,<-hN];simpa [iy] using h
 have e:j5 nx (iH nx i0)=N:=by
  refine Ip ?_ ?_
  ·have:iX nx (j0 nx (iH nx i0) N)=false:=by rw[hend];simp[iX]
   simp[yx,this]
  ·intro j hj;have:=c3 (j+1) aw;simp only[yx,pX,rS]at this ⊢;rw[Fp];refine⟨this.1,?_⟩;have h2:=this.2;rw[Mx]at h2;simp only[List.contains_cons,pX]at h2;exact h2.2
 refine⟨by rw[e,hN],by simp[iy,e,hend],?_⟩;rw[hN,e,Mx]
def BH{e:En}(h:iy e.next (zD e)=true):qF e=(xd e.next (zD e) (j5 e.next (zD e)),0):=by
 unfold qF;rw[gC h]
def YM{e:En}(he:e.ok){a:En}{i:Int}(h:GM e=(a,i,0)):
  fP e=true/\¬zD e<0/\i=zD e/\a=⟨je e.head (iH e.next (zD e)),e.next,e.zi⟩/\zD a=iH e.next (zD e)/\fP a=true/\a.ok/\(qF a).2=0/\(qF e)=(i::(qF a).1,0):=by
 unfold GM at h;cases hv:fP e with
 |false=>rw[gC hv]at h;simp at h
 |true=>
  rw[gu (by simp[hv])]at h;by_cases h0:zD e<0
  ·rw[gC h0]at h;simp at h
  ·rw[gu h0]at h;cases h
   obtain⟨g1,g2,g3,g4⟩:=Oa hv h0;obtain⟨b1,b2,b3,b4⟩:=Bj hv;have hh:zD ⟨je e.head (iH e.next (zD e)),e.next,e.zi⟩=iH e.next (zD e):=Hv g3 aw;obtain⟨t1,t2,t3⟩:=HJ b1 h0;have hok:iy (⟨je e.head (iH e.next (zD e)),e.next,e.zi⟩:En).next (zD ⟨je e.head (iH e.next (zD e)),e.next,e.zi⟩)=true:=by rw[hh];exact t2
   refine⟨rfl,h0,rfl,rfl,hh,?_,⟨Ik g3 aw,he.2⟩,?_,?_⟩
   ·simp only[fP,hok,sr,gH,gQ];exact⟨⟨b2,b3⟩,b4⟩
   ·rw[BH hok]
   ·rw[BH b1,BH hok,hh,t3]
def LQ{nx:List Int}{s p v:Int}(h:p≠s)(h1:0<=s)(h2:0<=p):iH (nx.set s.toNat v) p=iH nx p:=by
 unfold iH;rw[gM,gu aw]
def T1{nx:List Int}{s v:Int}(h1:0<=s)(h2:s<nx.length):iH (nx.set s.toNat v) s=v:=by
 unfold iH;rw[gM,gC rfl,gC aw]
 rfl
def Xv{e:En}(he:e.ok){slot:Int}{a:En}(h:Gj e slot=(a,0)):
  fP e=true/\0<=slot/\slot<e.next.length/\a=⟨je e.head slot,e.next.set slot.toNat (zD e),e.zi⟩/\zD a=slot/\fP a=true/\a.ok/\(qF e).2=0/\qF a=(slot::(qF e).1,0):=by
 unfold Gj at h;cases hv:fP e with
 |false=>rw[gC hv]at h;simp at h
 |true=>
  rw[gu (by simp[hv])]at h;by_cases h0:slot<0\/e.next.length<=slot
  ·rw[gC h0]at h;simp at h
  ·rw[gu h0]at h;cases hc:(qF e).1.contains slot with
   |true=>rw[gC hc]at h;simp at h
   |false=>
    rw[gu (by rw[hc];decide)]at h;cases h
    obtain⟨b1,b2,b3,b4⟩:=Bj hv;have s1:0<=slot:=aw
    have s2:slot<e.next.length:=aw
    have hh:zD ⟨je e.head slot,e.next.set slot.toNat (zD e),e.zi⟩=slot:=Hv aw aw;obtain⟨c1,c2,c3⟩:=yT e.next (zD e);generalize hN:j5 e.next (zD e)=N at *;have hfr:qF e=(xd e.next (zD e) N,0):=by rw[BH b1,hN]
    rw[hfr]at hc
    have hnot:∀k,k<N->j0 e.next (zD e) k≠slot/\0<=j0 e.next (zD e) k:=λk hk=>by
     constructor
     ·intro e2;have:slot∈xd e.next (zD e) N:=pd.2 ⟨k,rC.2 hk,e2⟩;simp[this]at hc
     ·have:=c3 k hk;simp only[yx,pX,rS,iX,gH,gQ]at this;exact this.1.1
    have hpos:∀k,k<=N->j0 (e.next.set slot.toNat (zD e)) slot (k+1)=j0 e.next (zD e) k:=by
     intro k
     induction k with
     |zero=>intro _;exact T1 s1 s2
     |succ k ih=>
      intro hk;show iH _ (j0 (e.next.set slot.toNat (zD e)) slot (k+1))=iH e.next (j0 e.next (zD e) k);rw[ih aw];exact LQ (hnot k aw).1 s1 (hnot k aw).2
    have hvis:∀k,k<=N->xd (e.next.set slot.toNat (zD e)) slot (k+1)=slot::xd e.next (zD e) k:=λk hk=>by
     unfold xd;rw[List.range_succ_eq_map,rJ,rY]
     congr 1
     apply sA
     intro j hj;exact hpos j (by have:=rC.1 hj;omega)
    have hin:∀p,iX (e.next.set slot.toNat (zD e)) p=iX e.next p:=λp=>by simp[iX]
    have hend:j0 e.next (zD e) N= -1:=by
     have:iy e.next (zD e)=true:=b1;simp only[iy,hN,pH]at this;exact dM
    have hcnt:j5 (e.next.set slot.toNat (zD e)) slot=N+1:=by
     refine Ip ?_ ?_
     ·have:iX (e.next.set slot.toNat (zD e)) (j0 (e.next.set slot.toNat (zD e)) slot (N+1))=false:=by rw[hpos N (gJ _),hend,hin];simp[iX]
      simp[yx,this]
     ·intro j hj;cases j with
      |zero=>
       simp only[yx,xd,j0,hin];simp[iX,s1,s2]
      |succ j=>
       have:=c3 j aw;simp only[yx,pX,rS]at this ⊢;rw[hpos j aw,hvis j aw,hin];refine⟨this.1,?_⟩;rw[List.contains_cons,this.2];simp;exact(hnot j aw).1
    have hok:iy (e.next.set slot.toNat (zD e)) slot=true:=by
     simp only[iy,hcnt,hpos N (gJ _),hend]
     rfl
    have hfa:qF ⟨je e.head slot,e.next.set slot.toNat (zD e),e.zi⟩=(slot::xd e.next (zD e) N,0):=by
     rw[BH (by rw[hh];exact hok),hh];show(xd (e.next.set slot.toNat (zD e)) slot (j5 (e.next.set slot.toNat (zD e)) slot),(0:Int))=_;rw[hcnt,hvis N (gJ _)]
    refine⟨rfl,s1,s2,rfl,hh,?_,⟨Ik aw aw,⟨λx hx=>?_,by simp;exact he.2.1.2⟩,he.2.2⟩,by rw[hfr],by rw[hfa,hfr]⟩
    ·simp only[fP,hh,hok,sr,gH,gQ];exact⟨⟨aA,aA⟩,b4⟩
    ·rcases pT hx with h|h
     ·exact he.2.1.1 x h
     ·have:=WG e;rw[h];exact⟨aw,aw⟩
def VK(nx:List Int)(i0:Int):(xd nx i0 (j5 nx i0)).Nodup:=(FE (yT nx i0).2.2).1
end Go.Slp
namespace Go.Wor
open Go.Ab Go.Proofs Tryz Go.Hy Go.Gat Go.Nam Go.Hos Go.Con Go.Sna
def mem_set{α:Type}{l:List α}{i:Nat}{x y:α}(h:y∈l.set i x):y∈l\/y=x:=pT h
def x7{α:Type}{l:List α}{i j:Nat}{x y:α}(h:(l.set i x)[j]?=some y):(i=j/\y=x/\i<l.length)\/(i≠j/\l[j]?=some y):=by
 rw[gM]at h;split at h
 ·rename_i hij;split at h
  ·rename_i ft;cases h;exact .inl ⟨hij,rfl,ft⟩
  ·cases h
 ·rename_i hij;exact .inr ⟨hij,h⟩
def jV.ny{w:Wor}(h:jV w)(t:Nat){p:Int}(h0:0<=p)(h1:p<=w.zr+1):jV (oU w t p):=by
 have g:=qq.1 h.ground;refine⟨qq.2 ⟨aq g.pins,⟨aq g.counts.1,g.counts.2⟩,g.zr,g.lock,λq hq=>?_⟩,h.current,h.zu,h.bad,h.fX,h.fI⟩;rcases mem_set hq with hq|rfl
 ·exact g.ny q hq
 ·exact⟨h0,h1⟩
def jV.count{w:Wor}(h:jV w)(t:Nat){r:List Int}(h0:r.length=6):jV { w with counts:=w.counts.set t r }:=by
 have g:=qq.1 h.ground;refine⟨qq.2 ⟨g.pins,⟨aq g.counts.1,λq hq=>?_⟩,g.zr,g.lock,g.ny⟩,h.current,h.zu,h.bad,h.fX,h.fI⟩;rcases mem_set hq with hq|rfl
 ·exact g.counts.2 q hq
 ·exact h0
def jV.EO{w:Wor}(h:jV w){n:Int}(h0:n=0\/n=1):jV { w with lock:=n }:=by
 have g:=qq.1 h.ground;exact⟨qq.2 ⟨g.pins,g.counts,g.zr,h0,g.ny⟩,h.current,h.zu,h.bad,h.fX,h.fI⟩
def jV.GX{w:Wor}(h:jV w){n:Int}(h0:w.zr<=n)(h1:n<=1000000000000):jV { w with zr:=n }:=by
 have g:=qq.1 h.ground;refine⟨qq.2 ⟨g.pins,g.counts,⟨by have:=g.zr.1;show 0<=n;omega,h1⟩,g.lock,λp hp=>by have:=g.ny p hp;show _/\p<=n+1;omega⟩,h.current,h.zu,λr hr=>?_,h.fX,h.fI⟩;have:=h.bad r hr;unfold yA at this ⊢;simp at this ⊢;exact⟨⟨this.1.1,this.1.2⟩,aw⟩
def VS{l l':List fQ}(h:l.map (·.name)=l'.map (·.name))(s:fA):zM l s=zM l' s:=by
 unfold zM
 have:l.findIdx? (λr=>r.name == s)=l'.findIdx? (λr=>r.name == s):=by
  have e:∀l:List fQ,l.findIdx? (λr=>r.name == s)=(l.map (·.name)).findIdx? (λx=>x == s):=λl=>by rw[r4];rfl
  rw[e,e,h]
 rw[this]
def Wo{l:List fQ}{i:Nat}{x y:fQ}(hx:l[i]?=some x)(h:y.name=x.name):(l.set i y).map (·.name)=l.map (·.name):=by
 rw[rH];exact yn _ _ (by rw[gz,hx,gL,h])
def jV.D2{w:Wor}(h:jV w){i:Nat}{x y:fQ}(hx:w.zd[i]?=some x)(hn:y.name=x.name)(hy:Go.Gat.fP y=true):jV { w with zd:=w.zd.set i y }:=by
 refine⟨h.ground,h.current,h.zu,h.bad,h.fX,λj l hl=>?_⟩;show _/\zM (w.zd.set i y) l.name=j;rw[VS (Wo hx hn)];rcases x7 hl with⟨rfl,rfl,_⟩|⟨_,hl⟩
 ·rw[hn];exact⟨hy,(h.fI i x hx).2⟩
 ·exact h.fI j l hl
def nS.ma{m:fq}{v:fB}{g:Gr}{e:En}(h:nS v)(hg:v.zm[m.zg.toNat]?=some g)(he:g.ends[m.end_.toNat]?=some e){e':En}{tk:Int}(hi:Slp.fP e'=true)(hl:e'.next.length=e.next.length):
  nS { v with zm:=v.zm.set m.zg.toNat { g with zt:=tk,ends:=g.ends.set m.end_.toNat e' } }:=by
 refine⟨h.snap,aq h.len,λi g2 x hg2 hx=>?_⟩;rcases x7 hg2 with⟨rfl,rfl,_⟩|⟨_,hg2⟩
 ·obtain⟨h1,h2⟩:=h.As _ g x hg hx;refine⟨aq h1,λy hy=>?_⟩;rcases mem_set hy with hy|rfl
  ·exact h2 y hy
  ·exact⟨hi,by rw[hl];exact(h2 e (gA he)).len⟩
 ·exact h.As i g2 x hg2 hx
def jV.ma{w:Wor}{m:fq}{v:fB}{g:Gr}{e:En}(h:jV w)(hat:iz w m v g e){e':En}{tk:Int}(hi:Slp.fP e'=true)(hl:e'.next.length=e.next.length):
  jV { w with ze:=w.ze.set m.version.toNat { v with zm:=v.zm.set m.zg.toNat { g with zt:=tk,ends:=g.ends.set m.end_.toNat e' } } }:=by
 refine⟨h.ground,aq h.current,h.zu,λr hr=>?_,λi v2 hv=>?_,h.fI⟩
 ·have:=h.bad r hr;unfold yA at this ⊢;simpa using this
 ·rcases x7 hv with⟨rfl,rfl,_⟩|⟨_,hv⟩
  ·obtain⟨h1,h2⟩:=h.fX _ v hat.at_;exact⟨h1.ma hat.fR hat.ia hi hl,h2⟩
  ·exact h.fX i v2 hv
structure Cal(K:Nat)(w:Wor):Prop where
 fI:∀l∈w.zd,l.zi<=K
 ends : ∀v∈w.ze, ∀g∈v.zm, ∀e∈g.ends, e.zi <= K
structure St(N K:Nat)(w:Wor):Prop where
 jQ:jV w
 ty:mM N w
 iN:Cal K w
def St.mono{N K N' K':Nat}{w:Wor}(h:St N K w)(hN:N<=N')(hK:K<=K'):St N' K' w:=
 ⟨h.jQ,⟨by have:=h.ty.lu;omega,by have:=h.ty.fI;omega,by have:=h.ty.lj;omega,h.ty.i6,h.ty.mZ⟩,⟨λl hl=>by have:=h.iN.fI l hl;omega,λv hv g hg e he=>by have:=h.iN.ends v hv g hg e he;omega⟩⟩
def St.ny{N K:Nat}{w:Wor}(h:St N K w)(t:Nat){p:Int}(h0:0<=p)(h1:p<=w.zr+1):St N K (oU w t p):=⟨h.jQ.ny t h0 h1,⟨h.ty.lu,h.ty.fI,h.ty.lj,h.ty.i6,h.ty.mZ⟩,⟨h.iN.fI,h.iN.ends⟩⟩
def St.count{N K:Nat}{w:Wor}(h:St N K w)(t:Nat){r:List Int}(h0:r.length=6):St N K { w with counts:=w.counts.set t r }:=⟨h.jQ.count t h0,⟨h.ty.lu,h.ty.fI,h.ty.lj,h.ty.i6,h.ty.mZ⟩,⟨h.iN.fI,h.iN.ends⟩⟩
def St.EO{N K:Nat}{w:Wor}(h:St N K w){n:Int}(h0:n=0\/n=1):St N K { w with lock:=n }:=⟨h.jQ.EO h0,⟨h.ty.lu,h.ty.fI,h.ty.lj,h.ty.i6,h.ty.mZ⟩,⟨h.iN.fI,h.iN.ends⟩⟩
def St.GX{N K:Nat}{w:Wor}(h:St N K w){n:Int}(h0:w.zr<=n)(h1:n<=1000000000000):St N K { w with zr:=n }:=⟨h.jQ.GX h0 h1,⟨h.ty.lu,h.ty.fI,h.ty.lj,h.ty.i6,h.ty.mZ⟩,⟨h.iN.fI,h.iN.ends⟩⟩
def St.D2{N K:Nat}{w:Wor}(h:St N K w){i:Nat}{x y:fQ}(hx:w.zd[i]?=some x)(hn:y.name=x.name)(hy:Go.Gat.fP y=true)(hi:i64 y.zi)(hk:y.zi<=K):St N K { w with zd:=w.zd.set i y }:=by
 refine⟨h.jQ.D2 hx hn hy,⟨h.ty.lu,aq h.ty.fI,h.ty.lj,h.ty.i6,λl hl=>?_⟩,⟨λl hl=>?_,h.iN.ends⟩⟩
 ·rcases mem_set hl with hl|rfl
  ·exact h.ty.mZ l hl
  ·exact⟨by rw[hn];exact(h.ty.mZ x (gA hx)).1,hi⟩
 ·rcases mem_set hl with hl|rfl
  ·exact h.iN.fI l hl
  ·exact hk
def St.ma{N K:Nat}{w:Wor}{m:fq}{v:fB}{g:Gr}{e:En}(h:St N K w)(hat:iz w m v g e){e':En}{tk:Int}(hi:Slp.fP e'=true)(hl:e'.next.length=e.next.length)(ho:e'.ok)(ht:u64 tk)(hk:e'.zi<=K):
  St N K { w with ze:=w.ze.set m.version.toNat { v with zm:=v.zm.set m.zg.toNat { g with zt:=tk,ends:=g.ends.set m.end_.toNat e' } } }:=by
 have mv:=gA hat.at_;have mg:=gA hat.fR;refine⟨h.jQ.ma hat hi hl,⟨aq h.ty.lu,h.ty.fI,h.ty.lj,λv2 hv=>?_,h.ty.mZ⟩,⟨h.iN.fI,λv2 hv g2 hg e2 he=>?_⟩⟩
 ·rcases mem_set hv with hv|rfl
  ·exact h.ty.i6 v2 hv
  ·refine⟨(h.ty.i6 v mv).1,λg2 hg=>?_⟩;rcases mem_set hg with hg|rfl
   ·exact(h.ty.i6 v mv).2 g2 hg
   ·refine⟨ht,λe2 he=>?_⟩;rcases mem_set he with he|rfl
    ·exact((h.ty.i6 v mv).2 g mg).2 e2 he
    ·exact ho
 ·rcases mem_set hv with hv|rfl
  ·exact h.iN.ends v2 hv g2 hg e2 he
  ·rcases mem_set hg with hg|rfl
   ·exact h.iN.ends v mv g2 hg e2 he
   ·rcases mem_set he with he|rfl
    ·exact h.iN.ends v mv g mg e2 he
    ·exact hk
def Ie(h:List Bool):∀k x,x∈lD h k->0<=x/\x<k/\x<h.length
 |0,x,hx=>by cases hx
 |k+1,x,hx=>by
  simp only[lD]at hx;split at hx
  ·rename_i hk;rcases gT.1 hx with hx|hx
   ·have:=Ie h k x hx;omega
   ·rw[gS.1 hx];have:=(gm.1 hk).1;omega
  ·have:=Ie h k x hx;omega
def I6{c:ic}{n:Int}(h:(ft c).length≠0):0<=((ft c)[(n%(ft c).length).toNat]?).getD 0/\((ft c)[(n%(ft c).length).toNat]?).getD 0<c.zL.length:=by
 have h1:0<=n%(ft c).length:=sR _ aw;have h2:n%(ft c).length<(ft c).length:=sS _ aw;have h3:(n%(ft c).length).toNat<(ft c).length:=aw
 rw[gp h3,pS];have:=Ie c.zL c.zL.length _ (gZ h3);omega
def Yu(n:Int):u64 (IntKind.u64.wrap n):=by
 have h:IntKind.u64.wrap n=n%18446744073709551616:=rfl;rw[h];unfold u64;omega
structure Nx(N K:Nat)(w:Wor)(m:fq)(L:Wor->fq->fB->Gr->En->Prop)(F:fq->Prop)(μ:Wor->fq->Nat)(r:Wor×fq×fx):Prop where
 ev:r.2.2.access≠0
 st:St (N+1) (K+1) r.1
 pins:r.1.pins.length=w.pins.length
 tm:iB r.2.1
 op:r.2.1.op=m.op
 go:(r.2.1.done=true/\F r.2.1)\/(∃v g e,qP r.1 r.2.1 v g e/\L r.1 r.2.1 v g e)/\μ r.1 r.2.1<μ w m
structure zx8(w:Wor)(m:fq)(v:fB)(g:Gr)(e:En):Prop where
 pc:(0<=m.pc/\m.pc<=12)\/(20<=m.pc/\m.pc<=23)
 ep:m.pc=1\/m.pc=2->m.zr=w.zr
 fI:(4<=m.pc/\m.pc<=12)\/m.pc=22->0<=m.listen
 early:4<=m.pc/\m.pc<=5->m.zg=0/\m.end_=0/\m.other=0
 fL:4<=m.pc/\m.pc<=8->m.slot=0
 draw:m.pc=6->∃c,v.snap.zk[m.zg.toNat]?=some c/\(ft c).length≠0
 slot:m.pc=10\/m.pc=11->m.slot=zD m.word/\e.head=m.word
 link:m.pc=11->e.next[m.slot.toNat]?=some m.link
 mB:20<=m.pc->1<=m.answer.kind/\m.answer.kind<=5
 G5:(5<=m.pc/\m.pc<=12)\/(20<=m.pc/\m.pc<=22)->0<=m.listen->∃x,w.zd[m.listen.toNat]?=some x/\1<=x.zi
def PT(_:Wor)(m:fq):Nat:=(24-m.pc).toNat
def Ln(l:List fQ)(s:fA): -1<=zM l s/\zM l s<l.length:=by
 unfold zM;cases h:l.findIdx? (λr=>r.name == s) with
 |none=>simp only;omega
 |some i=>
  have:=(gR.1 h).1;simp only;omega
def Cq{v:fB}(h:nS v){k:Nat}(hk:k<v.zm.length):∃g e,v.zm[k]?=some g/\g.ends[0]?=some e/\0<g.ends.length/\0<e.next.length:=by
 obtain⟨g,hg⟩:∃g,v.zm[k]?=some g:=⟨_,gp hk⟩;have f:=h.lY.2 g (gA hg);have hl:0<g.ends.length:=aw
 have he:g.ends[0]?=some g.ends[0]:=gp hl;exact⟨g,g.ends[0],hg,he,hl,by have:=(f.2.2 _ (gA he)).2.2;omega⟩
section
variable {N K:Nat} {w:Wor} {m:fq} {v:fB} {g:Gr} {e:En}
def wV(su:qP w m v g e){e':En}{tk:Int}(hl:e'.next.length=e.next.length)(gw:jV { w with ze:=w.ze.set m.version.toNat { v with zm:=v.zm.set m.zg.toNat { g with zt:=tk,ends:=g.ends.set m.end_.toNat e' } } }){m':fq}
 (h1:m'.zf=m.zf)(h2:m'.done=false)(h3:m'.version=m.version)(h4:m'.zg=m.zg)(h5:m'.end_=m.end_)(h6:m'.other=m.other)(h7:m'.slot=m.slot)(h8:m'.listen=m.listen)(h9:m'.i=m.i)(h10:m'.k=m.k):
  qP { w with ze:=w.ze.set m.version.toNat { v with zm:=v.zm.set m.zg.toNat { g with zt:=tk,ends:=g.ends.set m.end_.toNat e' } } } m'
   { v with zm:=v.zm.set m.zg.toNat { g with zt:=tk,ends:=g.ends.set m.end_.toNat e' } } { g with zt:=tk,ends:=g.ends.set m.end_.toNat e' } e':=by
 have s1:=(gm.1 su.ij).1;have s2:=(gm.1 su.fR).1;have s3:=(gm.1 su.ia).1;refine⟨qD.2 gw,by rw[h1];exact su.zf,h2,?_,?_,?_,?_,?_,?_,?_,?_,?_,by rw[h9];exact su.i,by rw[h10];exact su.k⟩
 ·rw[h3];simpa using su.version
 ·rw[h3];exact gD s1
 ·rw[h4];simpa using su.zg
 ·rw[h4];exact gD s2
 ·rw[h5];simpa using su.end_
 ·rw[h5];exact gD s3
 ·rw[h6];simpa using su.other
 ·rw[h7,hl];exact su.slot
 ·rw[h8];exact su.listen
def zT{r:Wor×fq×fx}{P:Wor×fq×fx->Prop}{o:oB}(h:o=some r)(hp:P r):∃r,o=some r/\P r:=⟨r,h,hp⟩
end
def Oc{e:En}(h:Slp.fP e=true)(n:Int)(h0:0<=n):Slp.fP (qA e e.head n)=true:=by
 obtain⟨h1,h2,h3,h4⟩:=Slp.Bj h;unfold Slp.fP;simp only[gH,gQ];exact⟨⟨⟨h1,h2⟩,h3⟩,h0⟩
def FX{l:fQ}(h:Go.Gat.fP l=true):xL l.name=true/\0<=l.zi/\(l.drain || !l.closed)=true:=by
 unfold Go.Gat.fP at h;simp only[gH,gQ]at h;exact⟨h.1.1,h.1.2,h.2⟩
def FJ{l:fQ}(h1:xL l.name=true)(h2:0<=l.zi)(h3:(l.drain || !l.closed)=true):Go.Gat.fP l=true:=by
 unfold Go.Gat.fP;simp only[gH,gQ];exact⟨⟨h1,h2⟩,h3⟩
section
variable {N K:Nat} {w:Wor} {m:fq} {v:fB} {g:Gr} {e:En}
def IL(st:St N K w)(su:qP w m v g e){x:fQ}(hx:w.zd[m.listen.toNat]?=some x)(n:Int)(h0:0<=n)(h1:n<=K+1)(hK:K<=1099511627776):St (N+1) (K+1) { w with zd:=w.zd.set m.listen.toNat { x with zi:=n } }:=by
 have li:=FX (st.jQ.fI _ x hx).1;exact(st.mono aw aw:St (N+1) (K+1) w).D2 hx rfl (FJ li.1 h0 li.2.2) (by show i64 n;unfold i64;omega) (by show n<=_;omega)
end
section
variable {N K:Nat} {w:Wor} {m:fq} {v:fB} {g:Gr} {e:En}
def vQ(st:St N K w)(su:qP w m v g e):Slp.fP e=true/\e.next.length<=4/\1<=e.next.length/\0<=e.zi/\e.zi<=K/\e.ok/\u64 g.zt:=by
 have mv:=gA su.ij;have mg:=gA su.fR;have me:=gA su.ia;have f:=((st.jQ.fX _ v su.ij).1.lY.2 g mg).2.2 e me;exact⟨f.1,f.2.1,f.2.2,(Slp.Bj f.1).2.2.2,st.iN.ends v mv g mg e me,((st.ty.i6 v mv).2 g mg).2 e me,((st.ty.i6 v mv).2 g mg).1⟩
def LY(st:St N K w)(su:qP w m v g e){k pc:Int}(h0:0<=k)(h5:k<=5):∃r2:List Int,r2.length=6/\vO w m k pc=some ({ w with counts:=w.counts.set m.zf.toNat r2 },{ m with pc:=pc },fV m 3 10 k):=by
 obtain⟨r0,hr,hl⟩:=WN st.jQ su.zf.1 su.zf.2;unfold vO;rw[hr];dsimp only;rw[gp (show k.toNat<r0.length by omega)];exact⟨_,aq hl,rfl⟩
end
def look(m:List (Int×Value))(i:Int):Option Value:=(ji m i).bind λj=>(m[j]?).map (·.2)
def ME(m:List (Int×Value))(i:Int):ji m i=(m.map (·.1)).findIdx? (λk=>decide (k=i)):=by
 unfold ji;rw[r4]
 rfl
def XH(m:List (Int×Value))(k i:Int)(v:Value):look (yg m k v) i=if k=i then some v else look m i:=by
 unfold yg;cases hf:ji m k with
 |some j=>
  dsimp only;obtain⟨u,hu⟩:=x5 hf
  have keys:(m.set j (k,v)).map (·.1)=m.map (·.1):=by
   rw[rH];exact yn _ _ (by rw[gz,hu];rfl)
  have e:ji (m.set j (k,v)) i=ji m i:=by rw[ME,ME,keys]
  unfold look;rw[e];have ft:=(gm.1 hu).1;by_cases hki:k=i
  ·subst hki;rw[gC rfl,hf];simp[ft]
  ·rw[gu hki];cases hi:ji m i with
   |none=>rfl
   |some j'=>
    obtain⟨u',hu'⟩:=x5 hi
    have hne:j≠j':=by
     rintro rfl;rw[hu]at hu';cases hu'
     exact hki rfl
    simp[gM,hne]
 |none=>
  dsimp only
  have e:ji (m++[(k,v)]) i=if k=i then some m.length else ji m i:=by
   unfold ji;rw[ub];by_cases hki:k=i
   ·subst hki;have:m.findIdx? (λkv=>decide (kv.1=k))=none:=hf;rw[this,gC rfl];simp
   ·rw[gu hki];cases m.findIdx? (λkv=>decide (kv.1=i)) with
    |some j=>rfl
    |none=>simp[hki]
  unfold look;rw[e];by_cases hki:k=i
  ·rw[gC hki,gC hki];simp
  ·rw[gu hki,gu hki];cases hi:ji m i with
   |none=>rfl
   |some j'=>
    obtain⟨u',hu'⟩:=x5 hi;have:=(gm.1 hu').1;simp[gG this]
theorem S5(l:List fT)(i:Int):vM l i=(match look (yU l) i with|some (.bool b)=>b|_=>false):=rfl
def S4(l:List fT)(r:fT):yU (l++[r])=yg (yU l) r.version (Value.bool r.gone):=by
 unfold yU;rw[sJ]
 rfl
def L6(l:List fT)(r:fT)(i:Int):vM (l++[r]) i=if r.version=i then r.gone else vM l i:=by
 rw[S5,S4,XH];by_cases h:r.version=i
 ·rw[gC h,gC h]
 ·rw[gu h,gu h]
  rfl
def Dw(l:List fT)(i:Int)(hu:∀(a b:Nat) (x y:fT),l[a]?=some x->l[b]?=some y->x.version=y.version->a=b):vM l i=true↔∃r∈l,r.version=i/\r.gone=true:=by
 have key:∀n,∀l:List fT,l.length=n->(∀(a b:Nat) (x y:fT),l[a]?=some x->l[b]?=some y->x.version=y.version->a=b)->(vM l i=true↔∃r∈l,r.version=i/\r.gone=true):=by
  intro n
  induction n with
  |zero=>
   intro l hl _;rw[rT.1 hl];constructor
   ·intro h;cases h
   ·rintro⟨r,hr,_⟩;cases hr
  |succ n ih=>
   intro l hl hu;obtain⟨l',r,rfl⟩:∃l' r,l=l'++[r]:=⟨l.dropLast,l.getLast (by rintro rfl;cases hl),(tz _).symm⟩;have hl':l'.length=n:=aq hl
   have ih':=ih l' hl' λa b x y ha hb=>hu a b x y (by rw[gG (gm.1 ha).1];exact ha) (by rw[gG (gm.1 hb).1];exact hb)
   have hlast:(l'++[r])[l'.length]?=some r:=aj
   rw[L6];by_cases h:r.version=i
   ·rw[gC h];constructor
    ·intro hg;exact⟨r,aj,h,hg⟩
    ·rintro⟨x,hx,hv,hg⟩;obtain⟨a,ha⟩:=gW.1 hx;have:=hu a _ x r ha hlast (by rw[hv,h]);subst this;rw[hlast]at ha;cases ha
     exact hg
   ·rw[gu h,ih'];constructor
    ·rintro⟨x,hx,hv⟩;exact⟨x,by simp[hx],hv⟩
    ·rintro⟨x,hx,hv,hg⟩;rcases gT.1 hx with hx|hx
     ·exact⟨x,hx,hv,hg⟩
     ·rw[gS.1 hx]at hv;exact absurd hv h
 exact key _ l rfl hu
def D8{l:List fT}(h:Go.Lim.fP l=true){i:Nat}{x:fT}(hx:l[i]?=some x):0<=x.version/\0<=x.at_/\∀(j:Nat) (y:fT),j<i->l[j]?=some y->y.version≠x.version:=by
 have h2:=pA (show decide (∀i,(h:i<l.length)->Go.Lim.iy l i l[i]=true)=true from h) i (gm.1 hx).1;rw[(gm.1 hx).2]at h2;unfold Go.Lim.iy Go.Lim.C2 at h2;simp only[gH,pO,pN,pD,pH]at h2;refine⟨aw,aw,λj y hj hy he=>h2.2 y ?_ he⟩;exact gW.2 ⟨j,by rw[pn,gC hj];exact hy⟩
def Oe{l:List fT}:Go.Lim.fP l=true↔∀(i:Nat) (x:fT),l[i]?=some x->0<=x.version/\0<=x.at_/\∀(j:Nat) (y:fT),j<i->l[j]?=some y->y.version≠x.version:=by
 constructor
 ·exactλh i x hx=>D8 h hx
 ·intro h;refine r9 λi hi=>?_
  obtain⟨h1,h2,h3⟩:=h i l[i] (gp hi);unfold Go.Lim.iy Go.Lim.C2;simp only[gH,pO,pN,pD,pH];refine⟨⟨aw,aw⟩,λy hy he=>?_⟩;obtain⟨j,hj⟩:=gW.1 hy;rw[pn]at hj;split at hj
  ·exact h3 j y (by assumption) hj he
  ·cases hj
def DF{l:List fT}(h:Go.Lim.fP l=true):∀(a b:Nat) (x y:fT),l[a]?=some x->l[b]?=some y->x.version=y.version->a=b:=λa b x y ha hb he=>by
 rcases sf a b with ft|rfl|ft
 ·exact absurd he ((D8 h hb).2.2 a x ft ha)
 ·rfl
 ·exact absurd he.symm ((D8 h ha).2.2 b y ft hb)
def Vb(n:Int):(Slp.kO n).1.ok:=by
 unfold Slp.kO;split
 ·exact⟨ar,⟨λx hx=>(by cases hx),ar⟩,ar⟩
 ·refine⟨(by decide:u64 1),⟨λx hx=>?_,?_⟩,(by decide:i64 0)⟩
  ·obtain⟨i,hi,rfl⟩:=pd.1 hx;have:=rC.1 hi;split
   ·decide
   ·exact⟨aw,aw⟩
  ·simp;omega
def kC{x:ic}(h:Gw x):Slp.fP (xI x)=true/\((xI x).next.length:Int)=x.xR/\(xI x).zi=0/\(xI x).ok:=by
 have hs:=h.xR;unfold xI;have:x.xR=1\/x.xR=2\/x.xR=3\/x.xR=4:=aw
 rcases this with e|e|e|e <;> rw[e] <;> exact⟨ar,ar,ar,Vb _⟩
def LV{s:Sna}(h:vB s=true):nS (q8 s).1:=by
 unfold q8;rw[gC h];refine⟨h,aj,λi g x hg hx=>?_⟩;simp only[gz]at hg;have hx:s.zk[i]?=some x:=hx;rw[hx]at hg;cases hg
 have gc:=(j3 h).all x (gA hx);have f:=kC gc;refine⟨by unfold l9;simp,λe he=>?_⟩;unfold l9 at he;rw[pE he];exact⟨f.1,f.2.1⟩
section
variable {N K:Nat} {w:Wor} {m:fq} {v:fB} {g:Gr} {e:En}
def St.YN(st:St N K w){c:ib}(hc:(qO c).1=0)(sk:x4 c):St (N+1) (K+1) { w with current:=w.ze.length,ze:=w.ze++[nZ c] }:=by
 have sc:=Hc sk hc;have gw:=st.jQ;have hb:=HG hc;have gv:nS (nZ c):=LV hb;have hsw:nZ c=⟨(qa c).1,(qa c).1.zk.map l9,false⟩:=by unfold nZ q8;rw[gC hb]
 have la:∀r∈w.zu,0<=r.version/\r.version<w.ze.length:=λr hr=>by
  obtain⟨i,hi⟩:=gW.1 hr;have:=DG gw hi;omega
 refine⟨⟨gw.ground,⟨uu _,by show((w.ze.length:Nat):Int)<((w.ze++[nZ c]).length:Nat);simp only[gK,rX];omega⟩,gw.zu,λr hr=>?_,λi v2 hv=>?_,gw.fI⟩,⟨by have:=st.ty.lu;simp;omega,bY,by have:=st.ty.lj;show w.zu.length<=_;omega,λv2 hv=>?_,st.ty.mZ⟩,⟨λl hl=>by have:=st.iN.fI l hl;omega,λv2 hv g2 hg e2 he=>?_⟩⟩
 ·have h1:=la r hr;have h2:=gw.bad r hr;unfold yA at h2 ⊢;simp at h2 ⊢;omega
 ·have hv:(w.ze++[nZ c])[i]?=some v2:=hv;by_cases hi:i<w.ze.length
  ·rw[gG hi]at hv;exact gw.fX i v2 hv
  ·rw[gO aw]at hv
   have:i-w.ze.length=0:=by
    have:=(gm.1 hv).1;exact de
   rw[this]at hv;cases hv
   refine⟨gv,?_⟩;rw[hsw];show false=vM w.zu i
   symm
   by_cases hg:vM w.zu i=true
   ·obtain⟨r,hr,he,_⟩:=(Dw w.zu i (DF gw.zu)).1 hg;have:=la r hr;omega
   ·simpa using hg
 ·rcases gT.1 hv with hv|hv
  ·exact st.ty.i6 v2 hv
  ·rw[gS.1 hv,hsw];refine⟨EV sc,λg2 hg=>?_⟩;obtain⟨x,hx,rfl⟩:=pd.1 hg;have f:=kC ((j3 hb).all x hx);refine⟨(by decide:u64 0),λe2 he=>?_⟩;unfold l9 at he;rw[pE he];exact f.2.2.2
 ·rcases gT.1 hv with hv|hv
  ·have:=st.iN.ends v2 hv g2 hg e2 he;omega
  ·rw[gS.1 hv,hsw]at hg;obtain⟨x,hx,rfl⟩:=pd.1 hg;have f:=kC ((j3 hb).all x hx);unfold l9 at he;rw[pE he,f.2.2.1];omega
def St.Zv(st:St N K w){x:fT}(h0:0<=x.version)(h1:x.version<w.ze.length)(h2:x.version≠w.current)(h3:0<=x.at_)(h4:x.at_<=w.zr)(hg:x.gone=false)(hn:∀r∈w.zu,r.version≠x.version):St (N+1) (K+1) { w with zu:=w.zu++[x] }:=by
 have gw:=st.jQ;refine⟨⟨gw.ground,gw.current,?_,λr hr=>?_,λi v2 hv=>⟨(gw.fX i v2 hv).1,?_⟩,gw.fI⟩,⟨by have:=st.ty.lu;show w.ze.length<=_;omega,bY,by have:=st.ty.lj;simp;omega,st.ty.i6,st.ty.mZ⟩,⟨λl hl=>by have:=st.iN.fI l hl;omega,λv2 hv g2 hg e2 he=>by have:=st.iN.ends v2 hv g2 hg e2 he;omega⟩⟩
 ·rw[Oe];intro i y hy;by_cases hi:i<w.zu.length
  ·have hy':w.zu[i]?=some y:=by rw[<-gG (l₂:=[x]) hi];exact hy
   obtain⟨a,b,c⟩:=D8 gw.zu hy';exact⟨a,b,λj z hj hz=>c j z hj (by rw[<-gG (l₂:=[x]) aw];exact hz)⟩
  ·have hy2:(w.zu++[x])[i]?=some y:=hy;rw[gO aw]at hy2
   have:i-w.zu.length=0:=by
    have:=(gm.1 hy2).1;exact de
   rw[this]at hy2;cases hy2
   refine⟨h0,h3,λj z hj hz=>?_⟩;have hz2:(w.zu++[x])[j]?=some z:=hz;rw[gG aw]at hz2;exact hn z (gA hz2)
 ·rcases gT.1 hr with hr|hr
  ·exact gw.bad r hr
  ·rw[gS.1 hr];unfold yA;simp;omega
 ·rw[(gw.fX i v2 hv).2];show _=vM (w.zu++[x]) i;rw[L6];by_cases he:x.version=i
  ·rw[gC he,hg];by_cases hgo:vM w.zu i=true
   ·obtain⟨r,hr,hv2,_⟩:=(Dw w.zu i (DF gw.zu)).1 hgo;exact absurd (hv2.trans he.symm) (hn r hr)
   ·simpa using hgo
  ·rw[gu he]
def St.qt(st:St N K w){i:Nat}{k:Int}{v2:fB}{x:fT}(h0:0<=k)(hv:w.ze[k.toNat]?=some v2)(hx:w.zu[i]?=some x)(he:x.version=k):St (N+1) (K+1) { w with ze:=w.ze.set k.toNat (AD v2),zu:=w.zu.set i (wN x) }:=by
 have gw:=st.jQ;have la:=DG gw hx
 have same:∀(j:Nat) (y:fT),(w.zu.set i (wN x))[j]?=some y->∃z,w.zu[j]?=some z/\z.version=y.version/\z.at_=y.at_:=λj y hy=>by
  rcases x7 hy with⟨rfl,rfl,_⟩|⟨_,hy⟩
  ·exact⟨x,hx,rfl,rfl⟩
  ·exact⟨y,hy,rfl,rfl⟩
 have isL:Go.Lim.fP (w.zu.set i (wN x))=true:=by
  rw[Oe];intro j y hy;obtain⟨z,hz,e1,e2⟩:=same j y hy;obtain⟨a,b,c⟩:=D8 gw.zu hz;refine⟨aw,aw,λj2 y2 hj hy2=>?_⟩;obtain⟨z2,hz2,e3,_⟩:=same j2 y2 hy2;rw[<-e3,<-e1];exact c j2 z2 hj hz2
 refine⟨⟨gw.ground,aq gw.current,isL,λr hr=>?_,λj v3 hv3=>?_,gw.fI⟩,⟨by have:=st.ty.lu;simp;omega,bY,by have:=st.ty.lj;simp;omega,λv3 hv3=>?_,st.ty.mZ⟩,⟨λl hl=>by have:=st.iN.fI l hl;omega,λv3 hv3 g2 hg e2 he=>?_⟩⟩
 ·obtain⟨j,hj⟩:=gW.1 hr;obtain⟨z,hz,e1,e2⟩:=same j r hj;have:=gw.bad z (gA hz);unfold yA at this ⊢;rw[<-e1,<-e2];simpa using this
 ·have gone2:vM (w.zu.set i (wN x)) j=if (j:Int)=k then true else vM w.zu j:=by
   by_cases hjk:(j:Int)=k
   ·rw[gC hjk,Dw _ _ (DF isL)];exact⟨wN x,gW.2 ⟨i,gD (gm.1 hx).1⟩,by show x.version=_;omega,rfl⟩
   ·rw[gu hjk,eP,Dw _ _ (DF isL),Dw _ _ (DF gw.zu)];constructor
    ·rintro⟨r,hr,h1,h2⟩;rcases mem_set hr with hr|rfl
     ·exact⟨r,hr,h1,h2⟩
     ·exact absurd (show x.version=j from h1) aw
    ·rintro⟨r,hr,h1,h2⟩;obtain⟨b,hb⟩:=gW.1 hr
     have hbi:i≠b:=by
      rintro rfl;rw[hx]at hb;cases hb
      omega
     exact⟨r,gW.2 ⟨b,by rw[gM,gu hbi];exact hb⟩,h1,h2⟩
  show nS v3/\v3.qt=vM (w.zu.set i (wN x)) j;rw[gone2];rcases x7 hv3 with⟨rfl,rfl,_⟩|⟨hne,hv3⟩
  ·rw[gC aw];exact⟨⟨(gw.fX _ v2 hv).1.snap,(gw.fX _ v2 hv).1.len,(gw.fX _ v2 hv).1.As⟩,rfl⟩
  ·rw[gu aw];exact gw.fX j v3 hv3
 ·rcases mem_set hv3 with hv3|rfl
  ·exact st.ty.i6 v3 hv3
  ·exact st.ty.i6 v2 (gA hv)
 ·rcases mem_set hv3 with hv3|rfl
  ·have:=st.iN.ends v3 hv3 g2 hg e2 he;omega
  ·have:=st.iN.ends v2 (gA hv) g2 hg e2 he;omega
end
structure zx9(w:Wor)(m:fq)(v:fB)(g:Gr)(e:En):Prop where
 pc:0<=m.pc/\m.pc<=2
 fX:1<=m.pc->m.version≠w.current/\∀r∈w.zu,r.version≠m.version
 ep:m.pc=2->0<=m.zr/\m.zr<=w.zr
def PU(_:Wor)(m:fq):Nat:=(3-m.pc).toNat
section
variable {N K:Nat} {w:Wor} {m:fq} {v:fB} {g:Gr} {e:En}
def zx7(_:Wor)(m:fq)(_:fB)(_:Gr)(_:En):Prop:=m.pc=0
def zx5(_:Wor)(m:fq)(_:fB)(_:Gr)(_:En):Prop:=m.pc=9
structure zya(w:Wor)(m:fq)(v:fB)(g:Gr)(e:En):Prop where
 pc:m.pc=0
 k:m.k<6
 i:m.i<w.counts.length
def PV(w:Wor)(m:fq):Nat:=((w.counts.length-m.i)*6-m.k).toNat
end
structure zx6(w:Wor)(m:fq)(v:fB)(g:Gr)(e:En):Prop where
 pc:(0<=m.pc/\m.pc<=6)\/(8<=m.pc/\m.pc<=10)
 ny:m.pc=2->m.i<w.pins.length
 li4:m.pc=4->m.i<=w.zu.length
 lj:m.pc=5\/m.pc=6->∃r,w.zu[m.i.toNat]?=some r/\r.version=m.version/\r.gone=false
 act:m.pc=5->m.k<(yv v).length
 fI:m.pc=9\/m.pc=10->∃l,w.zd[m.i.toNat]?=some l/\l.drain=true
def PS(w:Wor)(m:fq):Nat:=(
 if m.pc=0 then 20*(w.zu.length:Int)+4*w.zd.length+w.pins.length+20
 else if m.pc=1 then 20*(w.zu.length:Int)+4*w.zd.length+w.pins.length+19
 else if m.pc=2 then 20*(w.zu.length:Int)+4*w.zd.length+10+(w.pins.length-m.i)
 else if m.pc=3 then 20*(w.zu.length:Int)+4*w.zd.length+10
 else if m.pc=4 then (w.zu.length-m.i)*20+4*w.zd.length+5
 else if m.pc=5 then (w.zu.length-m.i)*20+4*w.zd.length+5-1-m.k
 else if m.pc=6 then (w.zu.length-m.i)*20+4*w.zd.length+5-18
 else if m.pc=8 then (w.zd.length-m.i)*4
 else if m.pc=9 then (w.zd.length-m.i)*4-1
 else (w.zd.length-m.i)*4-2:Int).toNat
def OT:∀(l:List Gr),(∀g∈l,g.ends.length<=4)->(l.flatMap (·.ends)).length<=l.length*4
 |[],_=>by simp
 |g::l,h=>by
  have:=OT l λx hx=>h x (pV _ hx)
  have:=h g (rh ..);simp only[eZ,gK,pR];omega
def M9{v:fB}(h:nS v):1<=(yv v).length/\(yv v).length<=16:=by
 have f:=h.lY;have h4:=OT v.zm λg hg=>(f.2 g hg).1
 refine⟨?_,by unfold yv;omega⟩;have h0:0<v.zm.length:=by have:=(j3 h.snap).zk.1;have:=h.len;omega
 obtain⟨g,e,hg,he,_,_⟩:=Cq h h0;have:e∈yv v:=List.mem_flatMap.2 ⟨g,gA hg,gA he⟩;exact List.length_pos_of_mem this
section
variable {N K:Nat} {w:Wor} {m:fq} {v:fB} {g:Gr} {e:En}
end
end Go.Wor
namespace Go.Wor
open Go.Ab Go.Proofs Tryz Go.Gat Go.Nam Go.Hos Go.Con Go.Sna Go.Pla
open Go.Hy hiding encI
def Pu(w:Wor)(m:fq)(v:fB)(g:Gr)(e:En):Prop:=(m.op.kind=1/\zx8 w m v g e)\/(m.op.kind=2/\zx5 w m v g e)\/(m.op.kind=3/\zx9 w m v g e)\/(m.op.kind=4/\zx7 w m v g e)\/(m.op.kind=5/\zx6 w m v g e)\/(m.op.kind=6/\zya w m v g e)
def Pr(m:fq):Prop:=1<=m.answer.kind/\m.answer.kind<=13/\(m.op.kind=1↔m.answer.kind<=5)
def Kh(w:Wor)(m:fq):Nat:=if m.op.kind=1 then PT w m else if m.op.kind=3 then PU w m else if m.op.kind=5 then PS w m else if m.op.kind=6 then PV w m else 0
section
variable {N K:Nat} {w:Wor} {m:fq} {v:fB} {g:Gr} {e:En}
def Nx.up{k:Int}{L:Wor->fq->fB->Gr->En->Prop}{F:fq->Prop}{μ:Wor->fq->Nat}{r:Wor×fq×fx}(h:Nx N K w m L F μ r)(hk:m.op.kind=k)(hL:∀w' m' v g e,m'.op.kind=k->L w' m' v g e->Pu w' m' v g e)(hF:∀m',m'.op.kind=k->F m'->Pr m')(hμ:∀w' m',m'.op.kind=k->Kh w' m'=μ w' m'):Nx N K w m Pu Pr Kh r:=by
 have hk':r.2.1.op.kind=k:=by rw[h.op];exact hk
 refine⟨h.ev,h.st,h.pins,h.tm,h.op,?_⟩;rcases h.go with⟨h1,h2⟩|⟨⟨v',g',e',h1,h2⟩,h3⟩
 ·exact .inl ⟨h1,hF _ hk' h2⟩
 ·exact .inr ⟨⟨v',g',e',h1,hL _ _ _ _ _ hk' h2⟩,by rw[hμ _ _ hk',hμ _ _ hk];exact h3⟩
def XB(su:qP w m v g e):x2 w m=if m.op.kind=1 then z8 w m v g e else if m.op.kind=2 then xv w m v g e else if m.op.kind=3 then m9 w m else if m.op.kind=4 then yZ w m
  else if m.op.kind=5 then xu w m else if m.op.kind=6 then yR w m else none:=by
 unfold x2;rw[su.ij];dsimp only;rw[su.fR];dsimp only;rw[su.ia]
end
def UE{w:Wor}{m:fq}{v:fB}{g:Gr}{e:En}(su:qP w m v g e):z7 w m=true:=by
 unfold z7;simp only[gH,pO,vx];refine⟨⟨⟨⟨su.world,su.zf⟩,su.done⟩,su.version⟩,?_⟩;rw[su.ij];simp only[gH,vx];refine⟨su.zg,?_⟩;rw[su.fR];simp only[gH,vx,gQ];rw[su.ia];simp only[vx];exact⟨⟨⟨su.end_,su.other⟩,su.slot⟩,⟨⟨by have:=su.listen;omega,su.i⟩,su.k⟩⟩
end Go.Wor
