import Derived.Test.YtllehbdigpdinaaGreatSS
import Derived.Test.YtllehbdigpdinaaGreatSI
set_option linter.all false
set_option maxRecDepth 100000
set_option maxHeartbeats 4000000
namespace Go.Slp
open Go.Ab Go.Hy
def HA{x i:Int}(h1: -1<=i)(h2:i<=2147483646):jb x i%4294967296-1=i:=by unfold jb;omega
def VM{x i:Int}(h1: -1<=i)(h2:i<=2147483646):jb x i / 4294967296=(x / 4294967296+1)%4294967296:=by unfold jb;omega
def Iq{x i:Int}(h1: -1<=i)(h2:i<=2147483646):u64 (jb x i):=by unfold jb u64;omega
def Fh(nx:List Int)(i0:Int):∀k,jW nx (im nx i0) k=jW nx i0 (k+1)
 |0=>rfl
 |k+1=>by
  show im nx (jW nx (im nx i0) k)=im nx (jW nx i0 (k+1));rw[Fh nx i0 k]
def My(nx:List Int)(i0:Int)(k:Nat):xi nx i0 (k+1)=i0::xi nx (im nx i0) k:=by
 unfold xi;rw[List.range_succ_eq_map,rE,rQ]
 congr 1
 apply sb
 intro j _;exact(Fh nx i0 j).symm
def HO{nx:List Int}{i0:Int}(h:fW nx i0=true)(h0:¬i0<0):jZ nx (im nx i0)+1=jZ nx i0/\fW nx (im nx i0)=true/\xi nx i0 (jZ nx i0)=i0::xi nx (im nx i0) (jZ nx (im nx i0)):=by
 have hp:=OB h h0;obtain⟨N,hN⟩:∃N,jZ nx i0=N+1:=⟨jZ nx i0-1,aw⟩;obtain⟨c1,c2,c3⟩:=vy nx i0
 have hend:jW nx (im nx i0) N= -1:=by
  rw[Fh,<-hN];simpa [fW] using h
 have e:jZ nx (im nx i0)=N:=by
  refine It ?_ ?_
  ·have:iK nx (jW nx (im nx i0) N)=false:=by rw[hend];simp[iK]
   simp[yy,this]
  ·intro j hj;have:=c3 (j+1) aw;simp only[yy,pD,rL]at this ⊢;rw[Fh];refine⟨this.1,?_⟩;have h2:=this.2;rw[My]at h2;simp only[List.contains_cons,pD]at h2;exact h2.2
 refine⟨by rw[e,hN],by simp[fW,e,hend],?_⟩;rw[hN,e,My]
def BU{e:En}(h:fW e.next (zA e)=true):qG e=(xi e.next (zA e) (jZ e.next (zA e)),0):=by
 unfold qG;rw[gk h]
def Z4{e:En}(he:e.ok){a:En}{i:Int}(h:GJ e=(a,i,0)):
  ft e=true/\¬zA e<0/\i=zA e/\a=⟨jb e.head (im e.next (zA e)),e.next,e.zi⟩/\zA a=im e.next (zA e)/\ft a=true/\a.ok/\(qG a).2=0/\(qG e)=(i::(qG a).1,0):=by
 unfold GJ at h;cases hv:ft e with
 |false=>rw[gk hv]at h;simp at h
 |true=>
  rw[gf (by simp[hv])]at h;by_cases h0:zA e<0
  ·rw[gk h0]at h;simp at h
  ·rw[gf h0]at h;cases h
   obtain⟨g1,g2,g3,g4⟩:=OI hv h0;obtain⟨b1,b2,b3,b4⟩:=Bt hv;have hh:zA ⟨jb e.head (im e.next (zA e)),e.next,e.zi⟩=im e.next (zA e):=HA g3 aw;obtain⟨t1,t2,t3⟩:=HO b1 h0;have hok:fW (⟨jb e.head (im e.next (zA e)),e.next,e.zi⟩:En).next (zA ⟨jb e.head (im e.next (zA e)),e.next,e.zi⟩)=true:=by rw[hh];exact t2
   refine⟨rfl,h0,rfl,rfl,hh,?_,⟨Iq g3 aw,he.2⟩,?_,?_⟩
   ·simp only[ft,hok,rX,gC,gM];exact⟨⟨b2,b3⟩,b4⟩
   ·rw[BU hok]
   ·rw[BU b1,BU hok,hh,t3]
def LR{nx:List Int}{s p v:Int}(h:p≠s)(h1:0<=s)(h2:0<=p):im (nx.set s.toNat v) p=im nx p:=by
 unfold im;rw[gG,gf aw]
def T8{nx:List Int}{s v:Int}(h1:0<=s)(h2:s<nx.length):im (nx.set s.toNat v) s=v:=by
 unfold im;rw[gG,gk O,gk aw]
 rfl
def YL{e:En}(he:e.ok){slot:Int}{a:En}(h:Gn e slot=(a,0)):
  ft e=true/\0<=slot/\slot<e.next.length/\a=⟨jb e.head slot,e.next.set slot.toNat (zA e),e.zi⟩/\zA a=slot/\ft a=true/\a.ok/\(qG e).2=0/\qG a=(slot::(qG e).1,0):=by
 unfold Gn at h;cases hv:ft e with
 |false=>rw[gk hv]at h;simp at h
 |true=>
  rw[gf (by simp[hv])]at h;by_cases h0:slot<0\/e.next.length<=slot
  ·rw[gk h0]at h;simp at h
  ·rw[gf h0]at h;cases hc:(qG e).1.contains slot with
   |true=>rw[gk hc]at h;simp at h
   |false=>
    rw[gf (by rw[hc];decide)]at h;cases h
    obtain⟨b1,b2,b3,b4⟩:=Bt hv;have s1:0<=slot:=aw
    have s2:slot<e.next.length:=aw
    have hh:zA ⟨jb e.head slot,e.next.set slot.toNat (zA e),e.zi⟩=slot:=HA aw aw;obtain⟨c1,c2,c3⟩:=vy e.next (zA e);generalize hN:jZ e.next (zA e)=N at *;have hfr:qG e=(xi e.next (zA e) N,0):=by rw[BU b1,hN]
    rw[hfr]at hc
    have hnot:∀k,k<N->jW e.next (zA e) k≠slot/\0<=jW e.next (zA e) k:=λk hk=>by
     constructor
     ·intro e2;have:slot∈xi e.next (zA e) N:=gZ.2 ⟨k,rp.2 hk,e2⟩;simp[this]at hc
     ·have:=c3 k hk;simp only[yy,pD,rL,iK,gC,gM]at this;exact this.1.1
    have hpos:∀k,k<=N->jW (e.next.set slot.toNat (zA e)) slot (k+1)=jW e.next (zA e) k:=by
     intro k
     induction k with
     |zero=>intro _;exact T8 s1 s2
     |succ k ih=>
      intro hk;show im _ (jW (e.next.set slot.toNat (zA e)) slot (k+1))=im e.next (jW e.next (zA e) k);rw[ih aw];exact LR (hnot k aw).1 s1 (hnot k aw).2
    have hvis:∀k,k<=N->xi (e.next.set slot.toNat (zA e)) slot (k+1)=slot::xi e.next (zA e) k:=λk hk=>by
     unfold xi;rw[List.range_succ_eq_map,rE,rQ]
     congr 1
     apply sb
     intro j hj;exact hpos j (by have:=rp.1 hj;omega)
    have hin:∀p,iK (e.next.set slot.toNat (zA e)) p=iK e.next p:=λp=>by simp[iK]
    have hend:jW e.next (zA e) N= -1:=by
     have:fW e.next (zA e)=true:=b1;simp only[fW,hN,pq]at this;exact dF
    have hcnt:jZ (e.next.set slot.toNat (zA e)) slot=N+1:=by
     refine It ?_ ?_
     ·have:iK (e.next.set slot.toNat (zA e)) (jW (e.next.set slot.toNat (zA e)) slot (N+1))=false:=by rw[hpos N (gD _),hend,hin];simp[iK]
      simp[yy,this]
     ·intro j hj;cases j with
      |zero=>
       simp only[yy,xi,jW,hin];simp[iK,s1,s2]
      |succ j=>
       have:=c3 j aw;simp only[yy,pD,rL]at this ⊢;rw[hpos j aw,hvis j aw,hin];refine⟨this.1,?_⟩;rw[List.contains_cons,this.2];simp;exact(hnot j aw).1
    have hok:fW (e.next.set slot.toNat (zA e)) slot=true:=by
     simp only[fW,hcnt,hpos N (gD _),hend]
     rfl
    have hfa:qG ⟨jb e.head slot,e.next.set slot.toNat (zA e),e.zi⟩=(slot::xi e.next (zA e) N,0):=by
     rw[BU (by rw[hh];exact hok),hh];show(xi (e.next.set slot.toNat (zA e)) slot (jZ (e.next.set slot.toNat (zA e)) slot),(0:Int))=_;rw[hcnt,hvis N (gD _)]
    refine⟨rfl,s1,s2,rfl,hh,?_,⟨Iq aw aw,⟨λx hx=>?_,by simp;exact he.2.1.2⟩,he.2.2⟩,by rw[hfr],by rw[hfa,hfr]⟩
    ·simp only[ft,hh,hok,rX,gC,gM];exact⟨⟨aA,aA⟩,b4⟩
    ·rcases pM hx with h|h
     ·exact he.2.1.1 x h
     ·have:=XI e;rw[h];exact⟨aw,aw⟩
def WZ(nx:List Int)(i0:Int):(xi nx i0 (jZ nx i0)).Nodup:=(Fy (vy nx i0).2.2).1
end Go.Slp
namespace Go.Wor
open Go.Ab Go.Proofs Tryz Go.Hy Go.Gat Go.Nam Go.Hos Go.Con Go.Sna
def mem_set{α:Type}{l:List α}{i:Nat}{x y:α}(h:y∈l.set i x):y∈l\/y=x:=pM h
def x7{α:Type}{l:List α}{i j:Nat}{x y:α}(h:(l.set i x)[j]?=some y):(i=j/\y=x/\i<l.length)\/(i≠j/\l[j]?=some y):=by
 rw[gG]at h;split at h
 ·rename_i hij;split at h
  ·rename_i eU;cases h;exact .inl ⟨hij,rfl,eU⟩
  ·cases h
 ·rename_i hij;exact .inr ⟨hij,h⟩
def jQ.nk{w:Wor}(h:jQ w)(t:Nat){p:Int}(h0:0<=p)(h1:p<=w.zo+1):jQ (oV w t p):=by
 have g:=qf.1 h.ground;refine⟨qf.2 ⟨aq g.pins,⟨aq g.counts.1,g.counts.2⟩,g.zo,g.lock,λq hq=>?_⟩,h.current,h.zr,h.bad,h.fI,h.fi⟩;rcases mem_set hq with hq|rfl
 ·exact g.nk q hq
 ·exact⟨h0,h1⟩
def jQ.count{w:Wor}(h:jQ w)(t:Nat){r:List Int}(h0:r.length=6):jQ {w with counts:=w.counts.set t r}:=by
 have g:=qf.1 h.ground;refine⟨qf.2 ⟨g.pins,⟨aq g.counts.1,λq hq=>?_⟩,g.zo,g.lock,g.nk⟩,h.current,h.zr,h.bad,h.fI,h.fi⟩;rcases mem_set hq with hq|rfl
 ·exact g.counts.2 q hq
 ·exact h0
def jQ.ES{w:Wor}(h:jQ w){n:Int}(h0:n=0\/n=1):jQ {w with lock:=n}:=by
 have g:=qf.1 h.ground;exact⟨qf.2 ⟨g.pins,g.counts,g.zo,h0,g.nk⟩,h.current,h.zr,h.bad,h.fI,h.fi⟩
def jQ.GV{w:Wor}(h:jQ w){n:Int}(h0:w.zo<=n)(h1:n<=1000000000000):jQ {w with zo:=n}:=by
 have g:=qf.1 h.ground;refine⟨qf.2 ⟨g.pins,g.counts,⟨by have:=g.zo.1;show 0<=n;omega,h1⟩,g.lock,λp hp=>by have:=g.nk p hp;show _/\p<=n+1;omega⟩,h.current,h.zr,λr hr=>?_,h.fI,h.fi⟩;have:=h.bad r hr;unfold yF at this ⊢;simp at this ⊢;exact⟨⟨this.1.1,this.1.2⟩,aw⟩
def Xg{l l':List fq}(h:l.map (·.name)=l'.map (·.name))(s:eZ):zx l s=zx l' s:=by
 unfold zx
 have:l.findIdx? (λr=>r.name == s)=l'.findIdx? (λr=>r.name == s):=by
  have e:∀l:List fq,l.findIdx? (λr=>r.name == s)=(l.map (·.name)).findIdx? (λx=>x == s):=λl=>by rw[rI];rfl
  rw[e,e,h]
 rw[this]
def Wi{l:List fq}{i:Nat}{x y:fq}(hx:l[i]?=some x)(h:y.name=x.name):(l.set i y).map (·.name)=l.map (·.name):=by
 rw[p9];exact yk _ _ (by rw[gj,hx,gF,h])
def jQ.D2{w:Wor}(h:jQ w){i:Nat}{x y:fq}(hx:w.zd[i]?=some x)(hn:y.name=x.name)(hy:Go.Gat.ft y=true):jQ {w with zd:=w.zd.set i y}:=by
 refine⟨h.ground,h.current,h.zr,h.bad,h.fI,λj l hl=>?_⟩;show _/\zx (w.zd.set i y) l.name=j;rw[Xg (Wi hx hn)];rcases x7 hl with⟨rfl,rfl,_⟩|⟨_,hl⟩
 ·rw[hn];exact⟨hy,(h.fi i x hx).2⟩
 ·exact h.fi j l hl
def nM.lD{m:eR}{v:fc}{g:Gr}{e:En}(h:nM v)(hg:v.zq[m.zj.toNat]?=some g)(he:g.ends[m.end_.toNat]?=some e){e':En}{tk:Int}(hi:Slp.ft e'=true)(hl:e'.next.length=e.next.length):
  nM {v with zq:=v.zq.set m.zj.toNat {g with zt:=tk,ends:=g.ends.set m.end_.toNat e'} }:=by
 refine⟨h.snap,aq h.len,λi g2 x hg2 hx=>?_⟩;rcases x7 hg2 with⟨rfl,rfl,_⟩|⟨_,hg2⟩
 ·obtain⟨h1,h2⟩:=h.Aw _ g x hg hx;refine⟨aq h1,λy hy=>?_⟩;rcases mem_set hy with hy|rfl
  ·exact h2 y hy
  ·exact⟨hi,by rw[hl];exact(h2 e (gh he)).len⟩
 ·exact h.Aw i g2 x hg2 hx
def jQ.lD{w:Wor}{m:eR}{v:fc}{g:Gr}{e:En}(h:jQ w)(hat:fS w m v g e){e':En}{tk:Int}(hi:Slp.ft e'=true)(hl:e'.next.length=e.next.length):
  jQ {w with ze:=w.ze.set m.version.toNat {v with zq:=v.zq.set m.zj.toNat {g with zt:=tk,ends:=g.ends.set m.end_.toNat e'} } }:=by
 refine⟨h.ground,aq h.current,h.zr,λr hr=>?_,λi v2 hv=>?_,h.fi⟩
 ·have:=h.bad r hr;unfold yF at this ⊢;simpa using this
 ·rcases x7 hv with⟨rfl,rfl,_⟩|⟨_,hv⟩
  ·obtain⟨h1,h2⟩:=h.fI _ v hat.at_;exact⟨h1.lD hat.fE hat.fL hi hl,h2⟩
  ·exact h.fI i v2 hv
structure Cal(K:Nat)(w:Wor):Prop where
 fi:∀l∈w.zd,l.zi<=K
 ends : ∀v∈w.ze, ∀g∈v.zq, ∀e∈g.ends, e.zi <= K
structure St(N K:Nat)(w:Wor):Prop where
 jz:jQ w
 ty:my N w
 iy:Cal K w
def St.mono{N K N' K':Nat}{w:Wor}(h:St N K w)(hN:N<=N')(hK:K<=K'):St N' K' w:=
 ⟨h.jz,⟨by have:=h.ty.mu;omega,by have:=h.ty.fi;omega,by have:=h.ty.iX;omega,h.ty.iY,h.ty.mN⟩,⟨λl hl=>by have:=h.iy.fi l hl;omega,λv hv g hg e he=>by have:=h.iy.ends v hv g hg e he;omega⟩⟩
def St.nk{N K:Nat}{w:Wor}(h:St N K w)(t:Nat){p:Int}(h0:0<=p)(h1:p<=w.zo+1):St N K (oV w t p):=⟨h.jz.nk t h0 h1,⟨h.ty.mu,h.ty.fi,h.ty.iX,h.ty.iY,h.ty.mN⟩,⟨h.iy.fi,h.iy.ends⟩⟩
def St.count{N K:Nat}{w:Wor}(h:St N K w)(t:Nat){r:List Int}(h0:r.length=6):St N K {w with counts:=w.counts.set t r}:=⟨h.jz.count t h0,⟨h.ty.mu,h.ty.fi,h.ty.iX,h.ty.iY,h.ty.mN⟩,⟨h.iy.fi,h.iy.ends⟩⟩
def St.ES{N K:Nat}{w:Wor}(h:St N K w){n:Int}(h0:n=0\/n=1):St N K {w with lock:=n}:=⟨h.jz.ES h0,⟨h.ty.mu,h.ty.fi,h.ty.iX,h.ty.iY,h.ty.mN⟩,⟨h.iy.fi,h.iy.ends⟩⟩
def St.GV{N K:Nat}{w:Wor}(h:St N K w){n:Int}(h0:w.zo<=n)(h1:n<=1000000000000):St N K {w with zo:=n}:=⟨h.jz.GV h0 h1,⟨h.ty.mu,h.ty.fi,h.ty.iX,h.ty.iY,h.ty.mN⟩,⟨h.iy.fi,h.iy.ends⟩⟩
def St.D2{N K:Nat}{w:Wor}(h:St N K w){i:Nat}{x y:fq}(hx:w.zd[i]?=some x)(hn:y.name=x.name)(hy:Go.Gat.ft y=true)(hi:i64 y.zi)(hk:y.zi<=K):St N K {w with zd:=w.zd.set i y}:=by
 refine⟨h.jz.D2 hx hn hy,⟨h.ty.mu,aq h.ty.fi,h.ty.iX,h.ty.iY,λl hl=>?_⟩,⟨λl hl=>?_,h.iy.ends⟩⟩
 ·rcases mem_set hl with hl|rfl
  ·exact h.ty.mN l hl
  ·exact⟨by rw[hn];exact(h.ty.mN x (gh hx)).1,hi⟩
 ·rcases mem_set hl with hl|rfl
  ·exact h.iy.fi l hl
  ·exact hk
def St.lD{N K:Nat}{w:Wor}{m:eR}{v:fc}{g:Gr}{e:En}(h:St N K w)(hat:fS w m v g e){e':En}{tk:Int}(hi:Slp.ft e'=true)(hl:e'.next.length=e.next.length)(ho:e'.ok)(ht:u64 tk)(hk:e'.zi<=K):
  St N K {w with ze:=w.ze.set m.version.toNat {v with zq:=v.zq.set m.zj.toNat {g with zt:=tk,ends:=g.ends.set m.end_.toNat e'} } }:=by
 have mv:=gh hat.at_;have mg:=gh hat.fE;refine⟨h.jz.lD hat hi hl,⟨aq h.ty.mu,h.ty.fi,h.ty.iX,λv2 hv=>?_,h.ty.mN⟩,⟨h.iy.fi,λv2 hv g2 hg e2 he=>?_⟩⟩
 ·rcases mem_set hv with hv|rfl
  ·exact h.ty.iY v2 hv
  ·refine⟨(h.ty.iY v mv).1,λg2 hg=>?_⟩;rcases mem_set hg with hg|rfl
   ·exact(h.ty.iY v mv).2 g2 hg
   ·refine⟨ht,λe2 he=>?_⟩;rcases mem_set he with he|rfl
    ·exact((h.ty.iY v mv).2 g mg).2 e2 he
    ·exact ho
 ·rcases mem_set hv with hv|rfl
  ·exact h.iy.ends v2 hv g2 hg e2 he
  ·rcases mem_set hg with hg|rfl
   ·exact h.iy.ends v mv g2 hg e2 he
   ·rcases mem_set he with he|rfl
    ·exact h.iy.ends v mv g mg e2 he
    ·exact hk
def Ii(h:List Bool):∀k x,x∈iZ h k->0<=x/\x<k/\x<h.length
 |0,x,hx=>by cases hx
 |k+1,x,hx=>by
  simp only[iZ]at hx;split at hx
  ·rename_i hk;rcases gO.1 hx with hx|hx
   ·have:=Ii h k x hx;omega
   ·rw[gN.1 hx];have:=(dY.1 hk).1;omega
  ·have:=Ii h k x hx;omega
def Jz{c:fF}{n:Int}(h:(eU c).length≠0):0<=((eU c)[(n%(eU c).length).toNat]?).getD 0/\((eU c)[(n%(eU c).length).toNat]?).getD 0<c.zJ.length:=by
 have h1:0<=n%(eU c).length:=sA _ aw;have h2:n%(eU c).length<(eU c).length:=sr _ aw;have h3:(n%(eU c).length).toNat<(eU c).length:=aw
 rw[dZ h3,pL];have:=Ii c.zJ c.zJ.length _ (gW h3);omega
def Yz(n:Int):u64 (IntKind.u64.wrap n):=by
 have h:IntKind.u64.wrap n=n%18446744073709551616:=rfl;rw[h];unfold u64;omega
structure Nx(N K:Nat)(w:Wor)(m:eR)(L:Wor->eR->fc->Gr->En->Prop)(F:eR->Prop)(μ:Wor->eR->Nat)(r:Wor×eR×eV):Prop where
 ev:r.2.2.access≠0
 st:St (N+1) (K+1) r.1
 pins:r.1.pins.length=w.pins.length
 tm:fT r.2.1
 op:r.2.1.op=m.op
 go:(r.2.1.done=true/\F r.2.1)\/(∃v g e,qF r.1 r.2.1 v g e/\L r.1 r.2.1 v g e)/\μ r.1 r.2.1<μ w m
structure zyY(w:Wor)(m:eR)(v:fc)(g:Gr)(e:En):Prop where
 pc:(0<=m.pc/\m.pc<=12)\/(20<=m.pc/\m.pc<=23)
 ep:m.pc=1\/m.pc=2->m.zo=w.zo
 fi:(4<=m.pc/\m.pc<=12)\/m.pc=22->0<=m.listen
 early:4<=m.pc/\m.pc<=5->m.zj=0/\m.end_=0/\m.other=0
 fk:4<=m.pc/\m.pc<=8->m.slot=0
 draw:m.pc=6->∃c,v.snap.zk[m.zj.toNat]?=some c/\(eU c).length≠0
 slot:m.pc=10\/m.pc=11->m.slot=zA m.word/\e.head=m.word
 link:m.pc=11->e.next[m.slot.toNat]?=some m.link
 mz:20<=m.pc->1<=m.answer.kind/\m.answer.kind<=5
 GZ:(5<=m.pc/\m.pc<=12)\/(20<=m.pc/\m.pc<=22)->0<=m.listen->∃x,w.zd[m.listen.toNat]?=some x/\1<=x.zi
def Qr(_:Wor)(m:eR):Nat:=(24-m.pc).toNat
def Ly(l:List fq)(s:eZ): -1<=zx l s/\zx l s<l.length:=by
 unfold zx;cases h:l.findIdx? (λr=>r.name == s) with
 |none=>simp only;omega
 |some i=>
  have:=(gJ.1 h).1;simp only;omega
def wR{v:fc}(h:nM v){k:Nat}(hk:k<v.zq.length):∃g e,v.zq[k]?=some g/\g.ends[0]?=some e/\0<g.ends.length/\0<e.next.length:=by
 obtain⟨g,hg⟩:∃g,v.zq[k]?=some g:=⟨_,dZ hk⟩;have f:=h.oy.2 g (gh hg);have hl:0<g.ends.length:=aw
 have he:g.ends[0]?=some g.ends[0]:=dZ hl;exact⟨g,g.ends[0],hg,he,hl,by have:=(f.2.2 _ (gh he)).2.2;omega⟩
section
variable {N K:Nat} {w:Wor} {m:eR} {v:fc} {g:Gr} {e:En}
def w7(su:qF w m v g e){e':En}{tk:Int}(hl:e'.next.length=e.next.length)(gw:jQ {w with ze:=w.ze.set m.version.toNat {v with zq:=v.zq.set m.zj.toNat {g with zt:=tk,ends:=g.ends.set m.end_.toNat e'} } }){m':eR}
 (h1:m'.zf=m.zf)(h2:m'.done=false)(h3:m'.version=m.version)(h4:m'.zj=m.zj)(h5:m'.end_=m.end_)(h6:m'.other=m.other)(h7:m'.slot=m.slot)(h8:m'.listen=m.listen)(h9:m'.i=m.i)(h10:m'.k=m.k):
  qF {w with ze:=w.ze.set m.version.toNat {v with zq:=v.zq.set m.zj.toNat {g with zt:=tk,ends:=g.ends.set m.end_.toNat e'} } } m'
   {v with zq:=v.zq.set m.zj.toNat {g with zt:=tk,ends:=g.ends.set m.end_.toNat e'} } {g with zt:=tk,ends:=g.ends.set m.end_.toNat e'} e':=by
 have s1:=(dY.1 su.fH).1;have s2:=(dY.1 su.fE).1;have s3:=(dY.1 su.fL).1;refine⟨qo.2 gw,by rw[h1];exact su.zf,h2,?_,?_,?_,?_,?_,?_,?_,?_,?_,by rw[h9];exact su.i,by rw[h10];exact su.k⟩
 ·rw[h3];simpa using su.version
 ·rw[h3];exact gu s1
 ·rw[h4];simpa using su.zj
 ·rw[h4];exact gu s2
 ·rw[h5];simpa using su.end_
 ·rw[h5];exact gu s3
 ·rw[h6];simpa using su.other
 ·rw[h7,hl];exact su.slot
 ·rw[h8];exact su.listen
def zQ{r:Wor×eR×eV}{P:Wor×eR×eV->Prop}{o:ot}(h:o=some r)(hp:P r):∃r,o=some r/\P r:=⟨r,h,hp⟩
end
def OJ{e:En}(h:Slp.ft e=true)(n:Int)(h0:0<=n):Slp.ft (qV e e.head n)=true:=by
 obtain⟨h1,h2,h3,h4⟩:=Slp.Bt h;unfold Slp.ft;simp only[gC,gM];exact⟨⟨⟨h1,h2⟩,h3⟩,h0⟩
def FZ{l:fq}(h:Go.Gat.ft l=true):xJ l.name=true/\0<=l.zi/\(l.drain || !l.closed)=true:=by
 unfold Go.Gat.ft at h;simp only[gC,gM]at h;exact⟨h.1.1,h.1.2,h.2⟩
def Fz{l:fq}(h1:xJ l.name=true)(h2:0<=l.zi)(h3:(l.drain || !l.closed)=true):Go.Gat.ft l=true:=by
 unfold Go.Gat.ft;simp only[gC,gM];exact⟨⟨h1,h2⟩,h3⟩
section
variable {N K:Nat} {w:Wor} {m:eR} {v:fc} {g:Gr} {e:En}
def IH(st:St N K w)(su:qF w m v g e){x:fq}(hx:w.zd[m.listen.toNat]?=some x)(n:Int)(h0:0<=n)(h1:n<=K+1)(hK:K<=1099511627776):St (N+1) (K+1) {w with zd:=w.zd.set m.listen.toNat {x with zi:=n} }:=by
 have li:=FZ (st.jz.fi _ x hx).1;exact(st.mono aw aw:St (N+1) (K+1) w).D2 hx O (Fz li.1 h0 li.2.2) (by show i64 n;unfold i64;omega) (by show n<=_;omega)
end
section
variable {N K:Nat} {w:Wor} {m:eR} {v:fc} {g:Gr} {e:En}
def vW(st:St N K w)(su:qF w m v g e):Slp.ft e=true/\e.next.length<=4/\1<=e.next.length/\0<=e.zi/\e.zi<=K/\e.ok/\u64 g.zt:=by
 have mv:=gh su.fH;have mg:=gh su.fE;have me:=gh su.fL;have f:=((st.jz.fI _ v su.fH).1.oy.2 g mg).2.2 e me;exact⟨f.1,f.2.1,f.2.2,(Slp.Bt f.1).2.2.2,st.iy.ends v mv g mg e me,((st.ty.iY v mv).2 g mg).2 e me,((st.ty.iY v mv).2 g mg).1⟩
def Ma(st:St N K w)(su:qF w m v g e){k pc:Int}(h0:0<=k)(h5:k<=5):∃r2:List Int,r2.length=6/\yU w m k pc=some ({w with counts:=w.counts.set m.zf.toNat r2},{m with pc:=pc},fx m 3 10 k):=by
 obtain⟨r0,hr,hl⟩:=XW st.jz su.zf.1 su.zf.2;unfold yU;rw[hr];dsimp only;rw[dZ (show k.toNat<r0.length by omega)];exact⟨_,aq hl,rfl⟩
end
def look(m:List (Int×Value))(i:Int):Option Value:=(je m i).bind λj=>(m[j]?).map (·.2)
def Nf(m:List (Int×Value))(i:Int):je m i=(m.map (·.1)).findIdx? (λk=>decide (k=i)):=by
 unfold je;rw[rI]
 rfl
def XR(m:List (Int×Value))(k i:Int)(v:Value):look (ye m k v) i=if k=i then some v else look m i:=by
 unfold ye;cases hf:je m k with
 |some j=>
  dsimp only;obtain⟨u,hu⟩:=x5 hf
  have keys:(m.set j (k,v)).map (·.1)=m.map (·.1):=by
   rw[p9];exact yk _ _ (by rw[gj,hu];rfl)
  have e:je (m.set j (k,v)) i=je m i:=by rw[Nf,Nf,keys]
  unfold look;rw[e];have eU:=(dY.1 hu).1;by_cases hki:k=i
  ·subst hki;rw[gk O,hf];simp[eU]
  ·rw[gf hki];cases hi:je m i with
   |none=>rfl
   |some j'=>
    obtain⟨u',hu'⟩:=x5 hi
    have hne:j≠j':=by
     rintro rfl;rw[hu]at hu';cases hu'
     exact hki O
    simp[gG,hne]
 |none=>
  dsimp only
  have e:je (m++[(k,v)]) i=if k=i then some m.length else je m i:=by
   unfold je;rw[tp];by_cases hki:k=i
   ·subst hki;have:m.findIdx? (λkv=>decide (kv.1=k))=none:=hf;rw[this,gk O];simp
   ·rw[gf hki];cases m.findIdx? (λkv=>decide (kv.1=i)) with
    |some j=>rfl
    |none=>simp[hki]
  unfold look;rw[e];by_cases hki:k=i
  ·rw[gk hki,gk hki];simp
  ·rw[gf hki,gf hki];cases hi:je m i with
   |none=>rfl
   |some j'=>
    obtain⟨u',hu'⟩:=x5 hi;have:=(dY.1 hu').1;simp[gz this]
theorem UH(l:List fA)(i:Int):vQ l i=(match look (yW l) i with|some (.bool b)=>b|_=>false):=rfl
def UG(l:List fA)(r:fA):yW (l++[r])=ye (yW l) r.version (Value.bool r.gone):=by
 unfold yW;rw[sE]
 rfl
def LV(l:List fA)(r:fA)(i:Int):vQ (l++[r]) i=if r.version=i then r.gone else vQ l i:=by
 rw[UH,UG,XR];by_cases h:r.version=i
 ·rw[gk h,gk h]
 ·rw[gf h,gf h]
  rfl
def DK(l:List fA)(i:Int)(hu:∀(a b:Nat) (x y:fA),l[a]?=some x->l[b]?=some y->x.version=y.version->a=b):vQ l i=true↔∃r∈l,r.version=i/\r.gone=true:=by
 have key:∀n,∀l:List fA,l.length=n->(∀(a b:Nat) (x y:fA),l[a]?=some x->l[b]?=some y->x.version=y.version->a=b)->(vQ l i=true↔∃r∈l,r.version=i/\r.gone=true):=by
  intro n
  induction n with
  |zero=>
   intro l hl _;rw[rB.1 hl];constructor
   ·intro h;cases h
   ·rintro⟨r,hr,_⟩;cases hr
  |succ n ih=>
   intro l hl hu;obtain⟨l',r,rfl⟩:∃l' r,l=l'++[r]:=⟨l.dropLast,l.getLast (by rintro rfl;cases hl),(sX _).symm⟩;have hl':l'.length=n:=aq hl
   have ih':=ih l' hl' λa b x y ha hb=>hu a b x y (by rw[gz (dY.1 ha).1];exact ha) (by rw[gz (dY.1 hb).1];exact hb)
   have hlast:(l'++[r])[l'.length]?=some r:=aj
   rw[LV];by_cases h:r.version=i
   ·rw[gk h];constructor
    ·intro hg;exact⟨r,aj,h,hg⟩
    ·rintro⟨x,hx,hv,hg⟩;obtain⟨a,ha⟩:=gQ.1 hx;have:=hu a _ x r ha hlast (by rw[hv,h]);subst this;rw[hlast]at ha;cases ha
     exact hg
   ·rw[gf h,ih'];constructor
    ·rintro⟨x,hx,hv⟩;exact⟨x,by simp[hx],hv⟩
    ·rintro⟨x,hx,hv,hg⟩;rcases gO.1 hx with hx|hx
     ·exact⟨x,hx,hv,hg⟩
     ·rw[gN.1 hx]at hv;exact absurd hv h
 exact key _ l O hu
def Eg{l:List fA}(h:Go.Lim.ft l=true){i:Nat}{x:fA}(hx:l[i]?=some x):0<=x.version/\0<=x.at_/\∀(j:Nat) (y:fA),j<i->l[j]?=some y->y.version≠x.version:=by
 have h2:=gH (show decide (∀i,(h:i<l.length)->Go.Lim.fW l i l[i]=true)=true from h) i (dY.1 hx).1;rw[(dY.1 hx).2]at h2;unfold Go.Lim.fW Go.Lim.Dk at h2;simp only[gC,pJ,pn,pd,pq]at h2;refine⟨aw,aw,λj y hj hy he=>h2.2 y ?_ he⟩;exact gQ.2 ⟨j,by rw[g5,gk hj];exact hy⟩
def OM{l:List fA}:Go.Lim.ft l=true↔∀(i:Nat) (x:fA),l[i]?=some x->0<=x.version/\0<=x.at_/\∀(j:Nat) (y:fA),j<i->l[j]?=some y->y.version≠x.version:=by
 constructor
 ·exactλh i x hx=>Eg h hx
 ·intro h;refine rY λi hi=>?_
  obtain⟨h1,h2,h3⟩:=h i l[i] (dZ hi);unfold Go.Lim.fW Go.Lim.Dk;simp only[gC,pJ,pn,pd,pq];refine⟨⟨aw,aw⟩,λy hy he=>?_⟩;obtain⟨j,hj⟩:=gQ.1 hy;rw[g5]at hj;split at hj
  ·exact h3 j y (by assumption) hj he
  ·cases hj
def DV{l:List fA}(h:Go.Lim.ft l=true):∀(a b:Nat) (x y:fA),l[a]?=some x->l[b]?=some y->x.version=y.version->a=b:=λa b x y ha hb he=>by
 rcases rU a b with eU|rfl|eU
 ·exact absurd he ((Eg h hb).2.2 a x eU ha)
 ·rfl
 ·exact absurd he.symm ((Eg h ha).2.2 b y eU hb)
def Ww(n:Int):(Slp.kW n).1.ok:=by
 unfold Slp.kW;split
 ·exact⟨ar,⟨λx hx=>(by cases hx),ar⟩,ar⟩
 ·refine⟨(by decide:u64 1),⟨λx hx=>?_,?_⟩,(by decide:i64 0)⟩
  ·obtain⟨i,hi,rfl⟩:=gZ.1 hx;have:=rp.1 hi;split
   ·decide
   ·exact⟨aw,aw⟩
  ·simp;omega
def kI{x:fF}(h:Gg x):Slp.ft (xG x)=true/\((xG x).next.length:Int)=x.xP/\(xG x).zi=0/\(xG x).ok:=by
 have hs:=h.xP;unfold xG;have:x.xP=1\/x.xP=2\/x.xP=3\/x.xP=4:=aw
 rcases this with e|e|e|e <;> rw[e] <;> exact⟨ar,ar,ar,Ww _⟩
def L7{s:Sna}(h:yY s=true):nM (qD s).1:=by
 unfold qD;rw[gk h];refine⟨h,aj,λi g x hg hx=>?_⟩;simp only[gj]at hg;have hx:s.zk[i]?=some x:=hx;rw[hx]at hg;cases hg
 have gc:=(jN h).all x (gh hx);have f:=kI gc;refine⟨by unfold lu;simp,λe he=>?_⟩;unfold lu at he;rw[pw he];exact⟨f.1,f.2.1⟩
section
variable {N K:Nat} {w:Wor} {m:eR} {v:fc} {g:Gr} {e:En}
def St.On(st:St N K w){c:fD}(hc:(qg c).1=0)(sk:xZ c):St (N+1) (K+1) {w with current:=w.ze.length,ze:=w.ze++[yK c]}:=by
 have sc:=Ha sk hc;have gw:=st.jz;have hb:=E8 hc;have gv:nM (yK c):=L7 hb;have hsw:yK c=⟨(zT c).1,(zT c).1.zk.map lu,false⟩:=by unfold yK qD;rw[gk hb]
 have la:∀r∈w.zr,0<=r.version/\r.version<w.ze.length:=λr hr=>by
  obtain⟨i,hi⟩:=gQ.1 hr;have:=Cz gw hi;omega
 refine⟨⟨gw.ground,⟨sN _,by show((w.ze.length:Nat):Int)<((w.ze++[yK c]).length:Nat);simp only[gE,rP];omega⟩,gw.zr,λr hr=>?_,λi v2 hv=>?_,gw.fi⟩,⟨by have:=st.ty.mu;simp;omega,b8,by have:=st.ty.iX;show w.zr.length<=_;omega,λv2 hv=>?_,st.ty.mN⟩,⟨λl hl=>by have:=st.iy.fi l hl;omega,λv2 hv g2 hg e2 he=>?_⟩⟩
 ·have h1:=la r hr;have h2:=gw.bad r hr;unfold yF at h2 ⊢;simp at h2 ⊢;omega
 ·have hv:(w.ze++[yK c])[i]?=some v2:=hv;by_cases hi:i<w.ze.length
  ·rw[gz hi]at hv;exact gw.fI i v2 hv
  ·rw[gK aw]at hv
   have:i-w.ze.length=0:=by
    have:=(dY.1 hv).1;exact de
   rw[this]at hv;cases hv
   refine⟨gv,?_⟩;rw[hsw];show false=vQ w.zr i
   symm
   by_cases hg:vQ w.zr i=true
   ·obtain⟨r,hr,he,_⟩:=(DK w.zr i (DV gw.zr)).1 hg;have:=la r hr;omega
   ·simpa using hg
 ·rcases gO.1 hv with hv|hv
  ·exact st.ty.iY v2 hv
  ·rw[gN.1 hv,hsw];refine⟨E5 sc,λg2 hg=>?_⟩;obtain⟨x,hx,rfl⟩:=gZ.1 hg;have f:=kI ((jN hb).all x hx);refine⟨(by decide:u64 0),λe2 he=>?_⟩;unfold lu at he;rw[pw he];exact f.2.2.2
 ·rcases gO.1 hv with hv|hv
  ·have:=st.iy.ends v2 hv g2 hg e2 he;omega
  ·rw[gN.1 hv,hsw]at hg;obtain⟨x,hx,rfl⟩:=gZ.1 hg;have f:=kI ((jN hb).all x hx);unfold lu at he;rw[pw he,f.2.2.1];omega
def St.Pp(st:St N K w){x:fA}(h0:0<=x.version)(h1:x.version<w.ze.length)(h2:x.version≠w.current)(h3:0<=x.at_)(h4:x.at_<=w.zo)(hg:x.gone=false)(hn:∀r∈w.zr,r.version≠x.version):St (N+1) (K+1) {w with zr:=w.zr++[x]}:=by
 have gw:=st.jz;refine⟨⟨gw.ground,gw.current,?_,λr hr=>?_,λi v2 hv=>⟨(gw.fI i v2 hv).1,?_⟩,gw.fi⟩,⟨by have:=st.ty.mu;show w.ze.length<=_;omega,b8,by have:=st.ty.iX;simp;omega,st.ty.iY,st.ty.mN⟩,⟨λl hl=>by have:=st.iy.fi l hl;omega,λv2 hv g2 hg e2 he=>by have:=st.iy.ends v2 hv g2 hg e2 he;omega⟩⟩
 ·rw[OM];intro i y hy;by_cases hi:i<w.zr.length
  ·have hy':w.zr[i]?=some y:=by rw[<-gz (l₂:=[x]) hi];exact hy
   obtain⟨a,b,c⟩:=Eg gw.zr hy';exact⟨a,b,λj z hj hz=>c j z hj (by rw[<-gz (l₂:=[x]) aw];exact hz)⟩
  ·have hy2:(w.zr++[x])[i]?=some y:=hy;rw[gK aw]at hy2
   have:i-w.zr.length=0:=by
    have:=(dY.1 hy2).1;exact de
   rw[this]at hy2;cases hy2
   refine⟨h0,h3,λj z hj hz=>?_⟩;have hz2:(w.zr++[x])[j]?=some z:=hz;rw[gz aw]at hz2;exact hn z (gh hz2)
 ·rcases gO.1 hr with hr|hr
  ·exact gw.bad r hr
  ·rw[gN.1 hr];unfold yF;simp;omega
 ·rw[(gw.fI i v2 hv).2];show _=vQ (w.zr++[x]) i;rw[LV];by_cases he:x.version=i
  ·rw[gk he,hg];by_cases hgo:vQ w.zr i=true
   ·obtain⟨r,hr,hv2,_⟩:=(DK w.zr i (DV gw.zr)).1 hgo;exact absurd (hv2.trans he.symm) (hn r hr)
   ·simpa using hgo
  ·rw[gf he]
def St.qQ(st:St N K w){i:Nat}{k:Int}{v2:fc}{x:fA}(h0:0<=k)(hv:w.ze[k.toNat]?=some v2)(hx:w.zr[i]?=some x)(he:x.version=k):St (N+1) (K+1) {w with ze:=w.ze.set k.toNat (AG v2),zr:=w.zr.set i (wU x)}:=by
 have gw:=st.jz;have la:=Cz gw hx
 have same:∀(j:Nat) (y:fA),(w.zr.set i (wU x))[j]?=some y->∃z,w.zr[j]?=some z/\z.version=y.version/\z.at_=y.at_:=λj y hy=>by
  rcases x7 hy with⟨rfl,rfl,_⟩|⟨_,hy⟩
  ·exact⟨x,hx,rfl,rfl⟩
  ·exact⟨y,hy,rfl,rfl⟩
 have isL:Go.Lim.ft (w.zr.set i (wU x))=true:=by
  rw[OM];intro j y hy;obtain⟨z,hz,e1,e2⟩:=same j y hy;obtain⟨a,b,c⟩:=Eg gw.zr hz;refine⟨aw,aw,λj2 y2 hj hy2=>?_⟩;obtain⟨z2,hz2,e3,_⟩:=same j2 y2 hy2;rw[<-e3,<-e1];exact c j2 z2 hj hz2
 refine⟨⟨gw.ground,aq gw.current,isL,λr hr=>?_,λj v3 hv3=>?_,gw.fi⟩,⟨by have:=st.ty.mu;simp;omega,b8,by have:=st.ty.iX;simp;omega,λv3 hv3=>?_,st.ty.mN⟩,⟨λl hl=>by have:=st.iy.fi l hl;omega,λv3 hv3 g2 hg e2 he=>?_⟩⟩
 ·obtain⟨j,hj⟩:=gQ.1 hr;obtain⟨z,hz,e1,e2⟩:=same j r hj;have:=gw.bad z (gh hz);unfold yF at this ⊢;rw[<-e1,<-e2];simpa using this
 ·have gone2:vQ (w.zr.set i (wU x)) j=if (j:Int)=k then true else vQ w.zr j:=by
   by_cases hjk:(j:Int)=k
   ·rw[gk hjk,DK _ _ (DV isL)];exact⟨wU x,gQ.2 ⟨i,gu (dY.1 hx).1⟩,by show x.version=_;omega,rfl⟩
   ·rw[gf hjk,ej,DK _ _ (DV isL),DK _ _ (DV gw.zr)];constructor
    ·rintro⟨r,hr,h1,h2⟩;rcases mem_set hr with hr|rfl
     ·exact⟨r,hr,h1,h2⟩
     ·exact absurd (show x.version=j from h1) aw
    ·rintro⟨r,hr,h1,h2⟩;obtain⟨b,hb⟩:=gQ.1 hr
     have hbi:i≠b:=by
      rintro rfl;rw[hx]at hb;cases hb
      omega
     exact⟨r,gQ.2 ⟨b,by rw[gG,gf hbi];exact hb⟩,h1,h2⟩
  show nM v3/\v3.qQ=vQ (w.zr.set i (wU x)) j;rw[gone2];rcases x7 hv3 with⟨rfl,rfl,_⟩|⟨hne,hv3⟩
  ·rw[gk aw];exact⟨⟨(gw.fI _ v2 hv).1.snap,(gw.fI _ v2 hv).1.len,(gw.fI _ v2 hv).1.Aw⟩,rfl⟩
  ·rw[gf aw];exact gw.fI j v3 hv3
 ·rcases mem_set hv3 with hv3|rfl
  ·exact st.ty.iY v3 hv3
  ·exact st.ty.iY v2 (gh hv)
 ·rcases mem_set hv3 with hv3|rfl
  ·have:=st.iy.ends v3 hv3 g2 hg e2 he;omega
  ·have:=st.iy.ends v2 (gh hv) g2 hg e2 he;omega
end
structure Gx(w:Wor)(m:eR)(v:fc)(g:Gr)(e:En):Prop where
 pc:0<=m.pc/\m.pc<=2
 fI:1<=m.pc->m.version≠w.current/\∀r∈w.zr,r.version≠m.version
 ep:m.pc=2->0<=m.zo/\m.zo<=w.zo
def zyT(m:eR):Prop:=6<=m.answer.kind/\m.answer.kind<=13
def ET(_:Wor)(m:eR):Nat:=(3-m.pc).toNat
section
variable {N K:Nat} {w:Wor} {m:eR} {v:fc} {g:Gr} {e:En}
def Ie(st:St N K w)(su:qF w m v g e)(tm:fT m)(lo:Gx w m v g e)(hk:m.op.kind=3):∃r,yL w m=some r/\Nx N K w m Gx zyT ET r:=by
 have gw:=st.jz;have st1:St (N+1) (K+1) w:=st.mono aw aw;have pc:=lo.pc;have cu:=gw.current;unfold yL;rcases(by omega:m.pc=0\/m.pc=1\/m.pc=2) with p|p|p
 ·rw[gk p];by_cases q:nz m.op.config=0
  ·rw[gk q];have hc:(qg m.op.config).1=0:=by rw[<-vt];exact q
   have st2:=st.On hc (tm.cfg hk);obtain⟨v',hv'⟩:∃v',w.ze[w.current.toNat]?=some v':=⟨_,dZ aw⟩;have gv:=(gw.fI _ v' hv').1;have h0:0<v'.zq.length:=aF
   obtain⟨g',e',hg,he,l1,l2⟩:=wR gv h0
   refine zQ O ⟨(by show(6:Int)≠0;decide),st2,rfl,uO,rfl,.inr ⟨⟨v',g',e',⟨qo.2 st2.jz,su.zf,su.done,⟨cu.1,aS⟩,
    by show(w.ze++[yK m.op.config])[w.current.toNat]?=some v';rw[gz aw];exact hv',⟨gR _,aL⟩,hg,⟨gR _,aL⟩,he,⟨gR _,aL⟩,⟨gR _,aL⟩,su.listen,by show(0:Int)<=(w.ze.length:Nat);omega,su.k⟩,
    ⟨uL,λ_=>⟨by show w.current≠(w.ze.length:Nat);omega,λr hr=>?_⟩,uK⟩⟩,by unfold ET;show(3-1:Int).toNat<(3-m.pc).toNat;omega⟩⟩
   obtain⟨i,hi⟩:=gQ.1 hr;exact(Cz gw hi).2.2.2.2
  ·rw[gf q];exact zQ O ⟨uX,st1,rfl,uP,rfl,.inl ⟨rfl,by show(6:Int)<=9/\(9:Int)<=13;decide⟩⟩
 ·have vf:=lo.fI aw;have ep:=(qf.1 gw.ground).zo;rw[gf aw,gk p];refine zQ O ⟨uX,st1,rfl,uO,rfl,.inr ⟨⟨v,g,e,uQ,⟨uL,λ_=>vf,λ_=>⟨ep.1,gR _⟩⟩⟩,by unfold ET;show(3-2:Int).toNat<(3-m.pc).toNat;omega⟩⟩
 ·have vf:=lo.fI aw;have ep:=lo.ep p;have sv:=su.version
  have nl:wW w m=false:=by
   unfold wW;simp only[pD,pd,pq,beq_eq_false_iff_ne,pn];exact⟨⟨⟨λr hr=>vf.2 r hr,vf.1⟩,aw⟩,aw⟩
  have st2:=st.Pp (x:=⟨m.version,m.zo,false⟩) sv.1 sv.2 vf.1 ep.1 ep.2 O vf.2;rw[gf aw,gf aw,gk p,nl];exact zQ O ⟨tN,st2,rfl,uP,rfl,.inl ⟨rfl,by show(6:Int)<=8/\(8:Int)<=13;decide⟩⟩
def zyX(_:Wor)(m:eR)(_:fc)(_:Gr)(_:En):Prop:=m.pc=0
def zyV(_:Wor)(m:eR)(_:fc)(_:Gr)(_:En):Prop:=m.pc=9
structure zyZ(w:Wor)(m:eR)(v:fc)(g:Gr)(e:En):Prop where
 pc:m.pc=0
 k:m.k<6
 i:m.i<w.counts.length
def Qs(w:Wor)(m:eR):Nat:=((w.counts.length-m.i)*6-m.k).toNat
end
structure zyW(w:Wor)(m:eR)(v:fc)(g:Gr)(e:En):Prop where
 pc:(0<=m.pc/\m.pc<=6)\/(8<=m.pc/\m.pc<=10)
 nk:m.pc=2->m.i<w.pins.length
 li4:m.pc=4->m.i<=w.zr.length
 iX:m.pc=5\/m.pc=6->∃r,w.zr[m.i.toNat]?=some r/\r.version=m.version/\r.gone=false
 act:m.pc=5->m.k<(yw v).length
 fi:m.pc=9\/m.pc=10->∃l,w.zd[m.i.toNat]?=some l/\l.drain=true
def Qq(w:Wor)(m:eR):Nat:=(
 if m.pc=0 then 20*(w.zr.length:Int)+4*w.zd.length+w.pins.length+20
 else if m.pc=1 then 20*(w.zr.length:Int)+4*w.zd.length+w.pins.length+19
 else if m.pc=2 then 20*(w.zr.length:Int)+4*w.zd.length+10+(w.pins.length-m.i)
 else if m.pc=3 then 20*(w.zr.length:Int)+4*w.zd.length+10
 else if m.pc=4 then (w.zr.length-m.i)*20+4*w.zd.length+5
 else if m.pc=5 then (w.zr.length-m.i)*20+4*w.zd.length+5-1-m.k
 else if m.pc=6 then (w.zr.length-m.i)*20+4*w.zd.length+5-18
 else if m.pc=8 then (w.zd.length-m.i)*4
 else if m.pc=9 then (w.zd.length-m.i)*4-1
 else (w.zd.length-m.i)*4-2:Int).toNat
def Pz:∀(l:List Gr),(∀g∈l,g.ends.length<=4)->(l.flatMap (·.ends)).length<=l.length*4
 |[],_=>by simp
 |g::l,h=>by
  have:=Pz l λx hx=>h x (pT _ hx)
  have:=h g (pW ..);simp only[eF,gE,pC];omega
def Np{v:fc}(h:nM v):1<=(yw v).length/\(yw v).length<=16:=by
 have f:=h.oy;have h4:=Pz v.zq λg hg=>(f.2 g hg).1
 refine⟨?_,by unfold yw;omega⟩;have h0:0<v.zq.length:=by have:=(jN h.snap).zk.1;have:=h.len;omega
 obtain⟨g,e,hg,he,_,_⟩:=wR h h0;have:e∈yw v:=List.mem_flatMap.2 ⟨g,gh hg,gh he⟩;exact List.length_pos_of_mem this
section
variable {N K:Nat} {w:Wor} {m:eR} {v:fc} {g:Gr} {e:En}
end
end Go.Wor
namespace Go.Wor
open Go.Ab Go.Proofs Tryz Go.Gat Go.Nam Go.Hos Go.Con Go.Sna Go.Pla
open Go.Hy hiding encI
def PS(w:Wor)(m:eR)(v:fc)(g:Gr)(e:En):Prop:=(m.op.kind=1/\zyY w m v g e)\/(m.op.kind=2/\zyV w m v g e)\/(m.op.kind=3/\Gx w m v g e)\/(m.op.kind=4/\zyX w m v g e)\/(m.op.kind=5/\zyW w m v g e)\/(m.op.kind=6/\zyZ w m v g e)
def PR(m:eR):Prop:=1<=m.answer.kind/\m.answer.kind<=13/\(m.op.kind=1↔m.answer.kind<=5)
def Kv(w:Wor)(m:eR):Nat:=if m.op.kind=1 then Qr w m else if m.op.kind=3 then ET w m else if m.op.kind=5 then Qq w m else if m.op.kind=6 then Qs w m else 0
section
variable {N K:Nat} {w:Wor} {m:eR} {v:fc} {g:Gr} {e:En}
def Nx.up{k:Int}{L:Wor->eR->fc->Gr->En->Prop}{F:eR->Prop}{μ:Wor->eR->Nat}{r:Wor×eR×eV}(h:Nx N K w m L F μ r)(hk:m.op.kind=k)(hL:∀w' m' v g e,m'.op.kind=k->L w' m' v g e->PS w' m' v g e)(hF:∀m',m'.op.kind=k->F m'->PR m')(hμ:∀w' m',m'.op.kind=k->Kv w' m'=μ w' m'):Nx N K w m PS PR Kv r:=by
 have hk':r.2.1.op.kind=k:=by rw[h.op];exact hk
 refine⟨h.ev,h.st,h.pins,h.tm,h.op,?_⟩;rcases h.go with⟨h1,h2⟩|⟨⟨v',g',e',h1,h2⟩,h3⟩
 ·exact .inl ⟨h1,hF _ hk' h2⟩
 ·exact .inr ⟨⟨v',g',e',h1,hL _ _ _ _ _ hk' h2⟩,by rw[hμ _ _ hk',hμ _ _ hk];exact h3⟩
def Yn(su:qF w m v g e):yl w m=if m.op.kind=1 then zZ w m v g e else if m.op.kind=2 then xa w m v g e else if m.op.kind=3 then yL w m else if m.op.kind=4 then vz w m
  else if m.op.kind=5 then j8 w m else if m.op.kind=6 then yu w m else none:=by
 unfold yl;rw[su.fH];dsimp only;rw[su.fE];dsimp only;rw[su.fL]
end
def Mq{w:Wor}{m:eR}{v:fc}{g:Gr}{e:En}(su:qF w m v g e):zY w m=true:=by
 unfold zY;simp only[gC,pJ,vC];refine⟨⟨⟨⟨su.world,su.zf⟩,su.done⟩,su.version⟩,?_⟩;rw[su.fH];simp only[gC,vC];refine⟨su.zj,?_⟩;rw[su.fE];simp only[gC,vC,gM];rw[su.fL];simp only[vC];exact⟨⟨⟨su.end_,su.other⟩,su.slot⟩,⟨⟨by have:=su.listen;omega,su.i⟩,su.k⟩⟩
end Go.Wor
