import Derived.Test.YtoeaoedlpmohoaaGreatTS
import Derived.Test.YtoeaoedlpmohoaaGreatTI
set_option linter.all false
set_option maxRecDepth 100000
set_option maxHeartbeats 4000000
namespace Go.Slp
open Go.Ab Go.Hy
def HX{x i:Int}(h1: -1<=i)(h2:i<=2147483646):ja x i%4294967296-1=i:=by unfold ja;omega
def Vo{x i:Int}(h1: -1<=i)(h2:i<=2147483646):ja x i / 4294967296=(x / 4294967296+1)%4294967296:=by unfold ja;omega
def IS{x i:Int}(h1: -1<=i)(h2:i<=2147483646):u64 (ja x i):=by unfold ja u64;omega
def Fv(nx:List Int)(i0:Int):∀k,j6 nx (iA nx i0) k=j6 nx i0 (k+1)
 |0=>rfl
 |k+1=>by
  show iA nx (j6 nx (iA nx i0) k)=iA nx (j6 nx i0 (k+1));rw[Fv nx i0 k]
def Nt(nx:List Int)(i0:Int)(k:Nat):xr nx i0 (k+1)=i0::xr nx (iA nx i0) k:=by
 unfold xr;rw[List.range_succ_eq_map,pN,rA]
 congr 1
 apply p8
 intro j _;exact(Fv nx i0 j).symm
def HR{nx:List Int}{i0:Int}(h:ij nx i0=true)(h0:¬i0<0):j8 nx (iA nx i0)+1=j8 nx i0/\ij nx (iA nx i0)=true/\xr nx i0 (j8 nx i0)=i0::xr nx (iA nx i0) (j8 nx (iA nx i0)):=by
 have hp:=OT h h0;obtain⟨N,hN⟩:∃N,j8 nx i0=N+1:=⟨j8 nx i0-1,aw⟩;obtain⟨c1,c2,c3⟩:=yK nx i0
 have hend:j6 nx (iA nx i0) N= -1:=by
  rw[Fv,<-hN];simpa [ij] using h
 have e:j8 nx (iA nx i0)=N:=by
  refine Ix ?_ ?_
  ·have:iR nx (j6 nx (iA nx i0) N)=false:=by rw[hend];simp[iR]
   simp[yG,this]
  ·intro j hj;have:=c3 (j+1) aw;simp only[yG,pQ,rJ]at this ⊢;rw[Fv];refine⟨this.1,?_⟩;have h2:=this.2;rw[Nt]at h2;simp only[List.contains_cons,pQ]at h2;exact h2.2
 refine⟨by rw[e,hN],by simp[ij,e,hend],?_⟩;rw[hN,e,Nt]
def B1{e:En}(h:ij e.next (zB e)=true):qh e=(xr e.next (zB e) (j8 e.next (zB e)),0):=by
 unfold qh;rw[gh h]
def Zz{e:En}(he:e.ok){a:En}{i:Int}(h:GU e=(a,i,0)):
  fE e=true/\¬zB e<0/\i=zB e/\a=⟨ja e.head (iA e.next (zB e)),e.next,e.zi⟩/\zB a=iA e.next (zB e)/\fE a=true/\a.ok/\(qh a).2=0/\(qh e)=(i::(qh a).1,0):=by
 unfold GU at h;cases hv:fE e with
 |false=>rw[gh hv]at h;simp at h
 |true=>
  rw[dZ (by simp[hv])]at h;by_cases h0:zB e<0
  ·rw[gh h0]at h;simp at h
  ·rw[dZ h0]at h;cases h
   obtain⟨g1,g2,g3,g4⟩:=O4 hv h0;obtain⟨b1,b2,b3,b4⟩:=o6 hv;have hh:zB ⟨ja e.head (iA e.next (zB e)),e.next,e.zi⟩=iA e.next (zB e):=HX g3 aw;obtain⟨t1,t2,t3⟩:=HR b1 h0;have hok:ij (⟨ja e.head (iA e.next (zB e)),e.next,e.zi⟩:En).next (zB ⟨ja e.head (iA e.next (zB e)),e.next,e.zi⟩)=true:=by rw[hh];exact t2
   refine⟨rfl,h0,rfl,rfl,hh,?_,⟨IS g3 aw,he.2⟩,?_,?_⟩
   ·simp only[fE,hok,tY,gA,gH];exact⟨⟨b2,b3⟩,b4⟩
   ·rw[B1 hok]
   ·rw[B1 b1,B1 hok,hh,t3]
def Mw{nx:List Int}{s p v:Int}(h:p≠s)(h1:0<=s)(h2:0<=p):iA (nx.set s.toNat v) p=iA nx p:=by
 unfold iA;rw[gD,dZ aw]
def UU{nx:List Int}{s v:Int}(h1:0<=s)(h2:s<nx.length):iA (nx.set s.toNat v) s=v:=by
 unfold iA;rw[gD,gh J,gh aw]
 rfl
def X9{e:En}(he:e.ok){slot:Int}{a:En}(h:Gy e slot=(a,0)):
  fE e=true/\0<=slot/\slot<e.next.length/\a=⟨ja e.head slot,e.next.set slot.toNat (zB e),e.zi⟩/\zB a=slot/\fE a=true/\a.ok/\(qh e).2=0/\qh a=(slot::(qh e).1,0):=by
 unfold Gy at h;cases hv:fE e with
 |false=>rw[gh hv]at h;simp at h
 |true=>
  rw[dZ (by simp[hv])]at h;by_cases h0:slot<0\/e.next.length<=slot
  ·rw[gh h0]at h;simp at h
  ·rw[dZ h0]at h;cases hc:(qh e).1.contains slot with
   |true=>rw[gh hc]at h;simp at h
   |false=>
    rw[dZ (by rw[hc];decide)]at h;cases h
    obtain⟨b1,b2,b3,b4⟩:=o6 hv;have s1:0<=slot:=aw
    have s2:slot<e.next.length:=aw
    have hh:zB ⟨ja e.head slot,e.next.set slot.toNat (zB e),e.zi⟩=slot:=HX aw aw;obtain⟨c1,c2,c3⟩:=yK e.next (zB e);generalize hN:j8 e.next (zB e)=N at *;have hfr:qh e=(xr e.next (zB e) N,0):=by rw[B1 b1,hN]
    rw[hfr]at hc
    have hnot:∀k,k<N->j6 e.next (zB e) k≠slot/\0<=j6 e.next (zB e) k:=λk hk=>by
     constructor
     ·intro e2;have:slot∈xr e.next (zB e) N:=gR.2 ⟨k,p7.2 hk,e2⟩;simp[this]at hc
     ·have:=c3 k hk;simp only[yG,pQ,rJ,iR,gA,gH]at this;exact this.1.1
    have hpos:∀k,k<=N->j6 (e.next.set slot.toNat (zB e)) slot (k+1)=j6 e.next (zB e) k:=by
     intro k
     induction k with
     |zero=>intro _;exact UU s1 s2
     |succ k ih=>
      intro hk;show iA _ (j6 (e.next.set slot.toNat (zB e)) slot (k+1))=iA e.next (j6 e.next (zB e) k);rw[ih aw];exact Mw (hnot k aw).1 s1 (hnot k aw).2
    have hvis:∀k,k<=N->xr (e.next.set slot.toNat (zB e)) slot (k+1)=slot::xr e.next (zB e) k:=λk hk=>by
     unfold xr;rw[List.range_succ_eq_map,pN,rA]
     congr 1
     apply p8
     intro j hj;exact hpos j (by have:=p7.1 hj;omega)
    have hin:∀p,iR (e.next.set slot.toNat (zB e)) p=iR e.next p:=λp=>by simp[iR]
    have hend:j6 e.next (zB e) N= -1:=by
     have:ij e.next (zB e)=true:=b1;simp only[ij,hN,pF]at this;exact dG
    have hcnt:j8 (e.next.set slot.toNat (zB e)) slot=N+1:=by
     refine Ix ?_ ?_
     ·have:iR (e.next.set slot.toNat (zB e)) (j6 (e.next.set slot.toNat (zB e)) slot (N+1))=false:=by rw[hpos N (gC _),hend,hin];simp[iR]
      simp[yG,this]
     ·intro j hj;cases j with
      |zero=>
       simp only[yG,xr,j6,hin];simp[iR,s1,s2]
      |succ j=>
       have:=c3 j aw;simp only[yG,pQ,rJ]at this ⊢;rw[hpos j aw,hvis j aw,hin];refine⟨this.1,?_⟩;rw[List.contains_cons,this.2];simp;exact(hnot j aw).1
    have hok:ij (e.next.set slot.toNat (zB e)) slot=true:=by
     simp only[ij,hcnt,hpos N (gC _),hend]
     rfl
    have hfa:qh ⟨ja e.head slot,e.next.set slot.toNat (zB e),e.zi⟩=(slot::xr e.next (zB e) N,0):=by
     rw[B1 (by rw[hh];exact hok),hh];show(xr (e.next.set slot.toNat (zB e)) slot (j8 (e.next.set slot.toNat (zB e)) slot),(0:Int))=_;rw[hcnt,hvis N (gC _)]
    refine⟨rfl,s1,s2,rfl,hh,?_,⟨IS aw aw,⟨λx hx=>?_,by simp;exact he.2.1.2⟩,he.2.2⟩,by rw[hfr],by rw[hfa,hfr]⟩
    ·simp only[fE,hh,hok,tY,gA,gH];exact⟨⟨aA,aA⟩,b4⟩
    ·rcases pw hx with h|h
     ·exact he.2.1.1 x h
     ·have:=XA e;rw[h];exact⟨aw,aw⟩
def WE(nx:List Int)(i0:Int):(xr nx i0 (j8 nx i0)).Nodup:=(DZ (yK nx i0).2.2).1
end Go.Slp
namespace Go.Wor
open Go.Ab Go.Proofs Tryz Go.Hy Go.Gat Go.Nam Go.Hos Go.Con Go.Sna
def mem_set{α:Type}{l:List α}{i:Nat}{x y:α}(h:y∈l.set i x):y∈l\/y=x:=pw h
def jy{α:Type}{l:List α}{i j:Nat}{x y:α}(h:(l.set i x)[j]?=some y):(i=j/\y=x/\i<l.length)\/(i≠j/\l[j]?=some y):=by
 rw[gD]at h;split at h
 ·rename_i hij;split at h
  ·rename_i fj;cases h;exact .inl ⟨hij,rfl,fj⟩
  ·cases h
 ·rename_i hij;exact .inr ⟨hij,h⟩
def jK.nM{w:Wor}(h:jK w)(t:Nat){p:Int}(h0:0<=p)(h1:p<=w.zl+1):jK (nD w t p):=by
 have g:=qi.1 h.ground;refine⟨qi.2 ⟨aq g.pins,⟨aq g.counts.1,g.counts.2⟩,g.zl,g.lock,λq hq=>?_⟩,h.current,h.zp,h.bad,h.fM,h.fC⟩;rcases mem_set hq with hq|rfl
 ·exact g.nM q hq
 ·exact⟨h0,h1⟩
def jK.count{w:Wor}(h:jK w)(t:Nat){r:List Int}(h0:r.length=6):jK {w with counts:=w.counts.set t r}:=by
 have g:=qi.1 h.ground;refine⟨qi.2 ⟨g.pins,⟨aq g.counts.1,λq hq=>?_⟩,g.zl,g.lock,g.nM⟩,h.current,h.zp,h.bad,h.fM,h.fC⟩;rcases mem_set hq with hq|rfl
 ·exact g.counts.2 q hq
 ·exact h0
def jK.EV{w:Wor}(h:jK w){n:Int}(h0:n=0\/n=1):jK {w with lock:=n}:=by
 have g:=qi.1 h.ground;exact⟨qi.2 ⟨g.pins,g.counts,g.zl,h0,g.nM⟩,h.current,h.zp,h.bad,h.fM,h.fC⟩
def jK.He{w:Wor}(h:jK w){n:Int}(h0:w.zl<=n)(h1:n<=1000000000000):jK {w with zl:=n}:=by
 have g:=qi.1 h.ground;refine⟨qi.2 ⟨g.pins,g.counts,⟨by have:=g.zl.1;show 0<=n;omega,h1⟩,g.lock,λp hp=>by have:=g.nM p hp;show _/\p<=n+1;omega⟩,h.current,h.zp,λr hr=>?_,h.fM,h.fC⟩;have:=h.bad r hr;unfold yM at this ⊢;simp at this ⊢;exact⟨⟨this.1.1,this.1.2⟩,aw⟩
def WW{l l':List fI}(h:l.map (·.name)=l'.map (·.name))(s:ft):zU l s=zU l' s:=by
 unfold zU
 have:l.findIdx? (λr=>r.name == s)=l'.findIdx? (λr=>r.name == s):=by
  have e:∀l:List fI,l.findIdx? (λr=>r.name == s)=(l.map (·.name)).findIdx? (λx=>x == s):=λl=>by rw[rS];rfl
  rw[e,e,h]
 rw[this]
def Vl{l:List fI}{i:Nat}{x y:fI}(hx:l[i]?=some x)(h:y.name=x.name):(l.set i y).map (·.name)=l.map (·.name):=by
 rw[rj];exact yy _ _ (by rw[gf,hx,gF,h])
def jK.D8{w:Wor}(h:jK w){i:Nat}{x y:fI}(hx:w.ze[i]?=some x)(hn:y.name=x.name)(hy:Go.Gat.fE y=true):jK {w with ze:=w.ze.set i y}:=by
 refine⟨h.ground,h.current,h.zp,h.bad,h.fM,λj l hl=>?_⟩;show _/\zU (w.ze.set i y) l.name=j;rw[WW (Vl hx hn)];rcases jy hl with⟨rfl,rfl,_⟩|⟨_,hl⟩
 ·rw[hn];exact⟨hy,(h.fC i x hx).2⟩
 ·exact h.fC j l hl
def ou.mG{m:fi}{v:fp}{g:Gr}{e:En}(h:ou v)(hg:v.zo[m.zg.toNat]?=some g)(he:g.ends[m.end_.toNat]?=some e){e':En}{tk:Int}(hi:Slp.fE e'=true)(hl:e'.next.length=e.next.length):
  ou {v with zo:=v.zo.set m.zg.toNat {g with zu:=tk,ends:=g.ends.set m.end_.toNat e'} }:=by
 refine⟨h.snap,aq h.len,λi g2 x hg2 hx=>?_⟩;rcases jy hg2 with⟨rfl,rfl,_⟩|⟨_,hg2⟩
 ·obtain⟨h1,h2⟩:=h.Aw _ g x hg hx;refine⟨aq h1,λy hy=>?_⟩;rcases mem_set hy with hy|rfl
  ·exact h2 y hy
  ·exact⟨hi,by rw[hl];exact(h2 e (dY he)).len⟩
 ·exact h.Aw i g2 x hg2 hx
def jK.mG{w:Wor}{m:fi}{v:fp}{g:Gr}{e:En}(h:jK w)(hat:ic w m v g e){e':En}{tk:Int}(hi:Slp.fE e'=true)(hl:e'.next.length=e.next.length):
  jK {w with zd:=w.zd.set m.version.toNat {v with zo:=v.zo.set m.zg.toNat {g with zu:=tk,ends:=g.ends.set m.end_.toNat e'} } }:=by
 refine⟨h.ground,aq h.current,h.zp,λr hr=>?_,λi v2 hv=>?_,h.fC⟩
 ·have:=h.bad r hr;unfold yM at this ⊢;simpa using this
 ·rcases jy hv with⟨rfl,rfl,_⟩|⟨_,hv⟩
  ·obtain⟨h1,h2⟩:=h.fM _ v hat.at_;exact⟨h1.mG hat.fG hat.fP hi hl,h2⟩
  ·exact h.fM i v2 hv
structure Cal(K:Nat)(w:Wor):Prop where
 fC:∀l∈w.ze,l.zi<=K
 ends : ∀v∈w.zd, ∀g∈v.zo, ∀e∈g.ends, e.zi <= K
structure St(N K:Nat)(w:Wor):Prop where
 ji:jK w
 ty:mw N w
 iJ:Cal K w
def St.mono{N K N' K':Nat}{w:Wor}(h:St N K w)(hN:N<=N')(hK:K<=K'):St N' K' w:=
 ⟨h.ji,⟨by have:=h.ty.iW;omega,by have:=h.ty.fC;omega,by have:=h.ty.lim;omega,h.ty.lq,h.ty.na⟩,⟨λl hl=>by have:=h.iJ.fC l hl;omega,λv hv g hg e he=>by have:=h.iJ.ends v hv g hg e he;omega⟩⟩
def St.nM{N K:Nat}{w:Wor}(h:St N K w)(t:Nat){p:Int}(h0:0<=p)(h1:p<=w.zl+1):St N K (nD w t p):=⟨h.ji.nM t h0 h1,⟨h.ty.iW,h.ty.fC,h.ty.lim,h.ty.lq,h.ty.na⟩,⟨h.iJ.fC,h.iJ.ends⟩⟩
def St.count{N K:Nat}{w:Wor}(h:St N K w)(t:Nat){r:List Int}(h0:r.length=6):St N K {w with counts:=w.counts.set t r}:=⟨h.ji.count t h0,⟨h.ty.iW,h.ty.fC,h.ty.lim,h.ty.lq,h.ty.na⟩,⟨h.iJ.fC,h.iJ.ends⟩⟩
def St.EV{N K:Nat}{w:Wor}(h:St N K w){n:Int}(h0:n=0\/n=1):St N K {w with lock:=n}:=⟨h.ji.EV h0,⟨h.ty.iW,h.ty.fC,h.ty.lim,h.ty.lq,h.ty.na⟩,⟨h.iJ.fC,h.iJ.ends⟩⟩
def St.He{N K:Nat}{w:Wor}(h:St N K w){n:Int}(h0:w.zl<=n)(h1:n<=1000000000000):St N K {w with zl:=n}:=⟨h.ji.He h0 h1,⟨h.ty.iW,h.ty.fC,h.ty.lim,h.ty.lq,h.ty.na⟩,⟨h.iJ.fC,h.iJ.ends⟩⟩
def St.D8{N K:Nat}{w:Wor}(h:St N K w){i:Nat}{x y:fI}(hx:w.ze[i]?=some x)(hn:y.name=x.name)(hy:Go.Gat.fE y=true)(hi:i64 y.zi)(hk:y.zi<=K):St N K {w with ze:=w.ze.set i y}:=by
 refine⟨h.ji.D8 hx hn hy,⟨h.ty.iW,aq h.ty.fC,h.ty.lim,h.ty.lq,λl hl=>?_⟩,⟨λl hl=>?_,h.iJ.ends⟩⟩
 ·rcases mem_set hl with hl|rfl
  ·exact h.ty.na l hl
  ·exact⟨by rw[hn];exact(h.ty.na x (dY hx)).1,hi⟩
 ·rcases mem_set hl with hl|rfl
  ·exact h.iJ.fC l hl
  ·exact hk
def St.mG{N K:Nat}{w:Wor}{m:fi}{v:fp}{g:Gr}{e:En}(h:St N K w)(hat:ic w m v g e){e':En}{tk:Int}(hi:Slp.fE e'=true)(hl:e'.next.length=e.next.length)(ho:e'.ok)(ht:u64 tk)(hk:e'.zi<=K):
  St N K {w with zd:=w.zd.set m.version.toNat {v with zo:=v.zo.set m.zg.toNat {g with zu:=tk,ends:=g.ends.set m.end_.toNat e'} } }:=by
 have mv:=dY hat.at_;have mg:=dY hat.fG;refine⟨h.ji.mG hat hi hl,⟨aq h.ty.iW,h.ty.fC,h.ty.lim,λv2 hv=>?_,h.ty.na⟩,⟨h.iJ.fC,λv2 hv g2 hg e2 he=>?_⟩⟩
 ·rcases mem_set hv with hv|rfl
  ·exact h.ty.lq v2 hv
  ·refine⟨(h.ty.lq v mv).1,λg2 hg=>?_⟩;rcases mem_set hg with hg|rfl
   ·exact(h.ty.lq v mv).2 g2 hg
   ·refine⟨ht,λe2 he=>?_⟩;rcases mem_set he with he|rfl
    ·exact((h.ty.lq v mv).2 g mg).2 e2 he
    ·exact ho
 ·rcases mem_set hv with hv|rfl
  ·exact h.iJ.ends v2 hv g2 hg e2 he
  ·rcases mem_set hg with hg|rfl
   ·exact h.iJ.ends v mv g2 hg e2 he
   ·rcases mem_set he with he|rfl
    ·exact h.iJ.ends v mv g mg e2 he
    ·exact hk
def IK(h:List Bool):∀k x,x∈lZ h k->0<=x/\x<k/\x<h.length
 |0,x,hx=>by cases hx
 |k+1,x,hx=>by
  simp only[lZ]at hx;split at hx
  ·rename_i hk;rcases gY.1 hx with hx|hx
   ·have:=IK h k x hx;omega
   ·rw[gX.1 hx];have:=(dW.1 hk).1;omega
  ·have:=IK h k x hx;omega
def JC{c:fV}{n:Int}(h:(fj c).length≠0):0<=((fj c)[(n%(fj c).length).toNat]?).getD 0/\((fj c)[(n%(fj c).length).toNat]?).getD 0<c.zR.length:=by
 have h1:0<=n%(fj c).length:=sG _ aw;have h2:n%(fj c).length<(fj c).length:=sH _ aw;have h3:(n%(fj c).length).toNat<(fj c).length:=aw
 rw[dX h3,Option.getD_some];have:=IK c.zR c.zR.length _ (gU h3);omega
def Y9(n:Int):u64 (IntKind.u64.wrap n):=by
 have h:IntKind.u64.wrap n=n%18446744073709551616:=rfl;rw[h];unfold u64;omega
structure Nx(N K:Nat)(w:Wor)(m:fi)(L:Wor->fi->fp->Gr->En->Prop)(F:fi->Prop)(μ:Wor->fi->Nat)(r:Wor×fi×fk):Prop where
 ev:r.2.2.access≠0
 st:St (N+1) (K+1) r.1
 pins:r.1.pins.length=w.pins.length
 tm:iq r.2.1
 op:r.2.1.op=m.op
 go:(r.2.1.done=true/\F r.2.1)\/(∃v g e,qS r.1 r.2.1 v g e/\L r.1 r.2.1 v g e)/\μ r.1 r.2.1<μ w m
structure zzf(w:Wor)(m:fi)(v:fp)(g:Gr)(e:En):Prop where
 pc:(0<=m.pc/\m.pc<=12)\/(20<=m.pc/\m.pc<=23)
 ep:m.pc=1\/m.pc=2->m.zl=w.zl
 fC:(4<=m.pc/\m.pc<=12)\/m.pc=22->0<=m.listen
 early:4<=m.pc/\m.pc<=5->m.zg=0/\m.end_=0/\m.other=0
 BB:4<=m.pc/\m.pc<=8->m.slot=0
 draw:m.pc=6->∃c,v.snap.zn[m.zg.toNat]?=some c/\(fj c).length≠0
 slot:m.pc=10\/m.pc=11->m.slot=zB m.word/\e.head=m.word
 link:m.pc=11->e.next[m.slot.toNat]?=some m.link
 mM:20<=m.pc->1<=m.answer.kind/\m.answer.kind<=5
 Hl:(5<=m.pc/\m.pc<=12)\/(20<=m.pc/\m.pc<=22)->0<=m.listen->∃x,w.ze[m.listen.toNat]?=some x/\1<=x.zi
def Qx(_:Wor)(m:fi):Nat:=(24-m.pc).toNat
def Lk(l:List fI)(s:ft): -1<=zU l s/\zU l s<l.length:=by
 unfold zU;cases h:l.findIdx? (λr=>r.name == s) with
 |none=>simp only;omega
 |some i=>
  have:=(gK.1 h).1;simp only;omega
def CP{v:fp}(h:ou v){k:Nat}(hk:k<v.zo.length):∃g e,v.zo[k]?=some g/\g.ends[0]?=some e/\0<g.ends.length/\0<e.next.length:=by
 obtain⟨g,hg⟩:∃g,v.zo[k]?=some g:=⟨_,dX hk⟩;have f:=h.lD.2 g (dY hg);have hl:0<g.ends.length:=aw
 have he:g.ends[0]?=some g.ends[0]:=dX hl;exact⟨g,g.ends[0],hg,he,hl,by have:=(f.2.2 _ (dY he)).2.2;omega⟩
section
variable {N K:Nat} {w:Wor} {m:fi} {v:fp} {g:Gr} {e:En}
def DJ(su:qS w m v g e){e':En}{tk:Int}(hl:e'.next.length=e.next.length)(gw:jK {w with zd:=w.zd.set m.version.toNat {v with zo:=v.zo.set m.zg.toNat {g with zu:=tk,ends:=g.ends.set m.end_.toNat e'} } }){m':fi}
 (h1:m'.zf=m.zf)(h2:m'.done=false)(h3:m'.version=m.version)(h4:m'.zg=m.zg)(h5:m'.end_=m.end_)(h6:m'.other=m.other)(h7:m'.slot=m.slot)(h8:m'.listen=m.listen)(h9:m'.i=m.i)(h10:m'.k=m.k):
  qS {w with zd:=w.zd.set m.version.toNat {v with zo:=v.zo.set m.zg.toNat {g with zu:=tk,ends:=g.ends.set m.end_.toNat e'} } } m'
   {v with zo:=v.zo.set m.zg.toNat {g with zu:=tk,ends:=g.ends.set m.end_.toNat e'} } {g with zu:=tk,ends:=g.ends.set m.end_.toNat e'} e':=by
 have s1:=(dW.1 su.fN).1;have s2:=(dW.1 su.fG).1;have s3:=(dW.1 su.fP).1;refine⟨qB.2 gw,by rw[h1];exact su.zf,h2,?_,?_,?_,?_,?_,?_,?_,?_,?_,by rw[h9];exact su.i,by rw[h10];exact su.k⟩
 ·rw[h3];simpa using su.version
 ·rw[h3];exact gk s1
 ·rw[h4];simpa using su.zg
 ·rw[h4];exact gk s2
 ·rw[h5];simpa using su.end_
 ·rw[h5];exact gk s3
 ·rw[h6];simpa using su.other
 ·rw[h7,hl];exact su.slot
 ·rw[h8];exact su.listen
def zS{r:Wor×fi×fk}{P:Wor×fi×fk->Prop}{o:oU}(h:o=some r)(hp:P r):∃r,o=some r/\P r:=⟨r,h,hp⟩
end
def O5{e:En}(h:Slp.fE e=true)(n:Int)(h0:0<=n):Slp.fE (qs e e.head n)=true:=by
 obtain⟨h1,h2,h3,h4⟩:=Slp.o6 h;unfold Slp.fE;simp only[gA,gH];exact⟨⟨⟨h1,h2⟩,h3⟩,h0⟩
def D7{l:fI}(h:Go.Gat.fE l=true):xW l.name=true/\0<=l.zi/\(l.drain || !l.closed)=true:=by
 unfold Go.Gat.fE at h;simp only[gA,gH]at h;exact⟨h.1.1,h.1.2,h.2⟩
def FL{l:fI}(h1:xW l.name=true)(h2:0<=l.zi)(h3:(l.drain || !l.closed)=true):Go.Gat.fE l=true:=by
 unfold Go.Gat.fE;simp only[gA,gH];exact⟨⟨h1,h2⟩,h3⟩
section
variable {N K:Nat} {w:Wor} {m:fi} {v:fp} {g:Gr} {e:En}
def Jr(st:St N K w)(su:qS w m v g e){x:fI}(hx:w.ze[m.listen.toNat]?=some x)(n:Int)(h0:0<=n)(h1:n<=K+1)(hK:K<=1099511627776):St (N+1) (K+1) {w with ze:=w.ze.set m.listen.toNat {x with zi:=n} }:=by
 have li:=D7 (st.ji.fC _ x hx).1;exact(st.mono aw aw:St (N+1) (K+1) w).D8 hx J (FL li.1 h0 li.2.2) (by show i64 n;unfold i64;omega) (by show n<=_;omega)
end
section
variable {N K:Nat} {w:Wor} {m:fi} {v:fp} {g:Gr} {e:En}
def kj(st:St N K w)(su:qS w m v g e):Slp.fE e=true/\e.next.length<=4/\1<=e.next.length/\0<=e.zi/\e.zi<=K/\e.ok/\u64 g.zu:=by
 have mv:=dY su.fN;have mg:=dY su.fG;have me:=dY su.fP;have f:=((st.ji.fM _ v su.fN).1.lD.2 g mg).2.2 e me;exact⟨f.1,f.2.1,f.2.2,(Slp.o6 f.1).2.2.2,st.iJ.ends v mv g mg e me,((st.ty.lq v mv).2 g mg).2 e me,((st.ty.lq v mv).2 g mg).1⟩
def Mc(st:St N K w)(su:qS w m v g e){k pc:Int}(h0:0<=k)(h5:k<=5):∃r2:List Int,r2.length=6/\vH w m k pc=some ({w with counts:=w.counts.set m.zf.toNat r2},{m with pc:=pc},fK m 3 10 k):=by
 obtain⟨r0,hr,hl⟩:=XL st.ji su.zf.1 su.zf.2;unfold vH;rw[hr];dsimp only;rw[dX (show k.toNat<r0.length by omega)];exact⟨_,aq hl,rfl⟩
end
def look(m:List (Int×Value))(i:Int):Option Value:=(jg m i).bind λj=>(m[j]?).map (·.2)
def MV(m:List (Int×Value))(i:Int):jg m i=(m.map (·.1)).findIdx? (λk=>decide (k=i)):=by
 unfold jg;rw[rS]
 rfl
def Yk(m:List (Int×Value))(k i:Int)(v:Value):look (yn m k v) i=if k=i then some v else look m i:=by
 unfold yn;cases hf:jg m k with
 |some j=>
  dsimp only;obtain⟨u,hu⟩:=yg hf
  have keys:(m.set j (k,v)).map (·.1)=m.map (·.1):=by
   rw[rj];exact yy _ _ (by rw[gf,hu];rfl)
  have e:jg (m.set j (k,v)) i=jg m i:=by rw[MV,MV,keys]
  unfold look;rw[e];have fj:=(dW.1 hu).1;by_cases hki:k=i
  ·subst hki;rw[gh J,hf];simp[fj]
  ·rw[dZ hki];cases hi:jg m i with
   |none=>rfl
   |some j'=>
    obtain⟨u',hu'⟩:=yg hi
    have hne:j≠j':=by
     rintro rfl;rw[hu]at hu';cases hu'
     exact hki J
    simp[gD,hne]
 |none=>
  dsimp only
  have e:jg (m++[(k,v)]) i=if k=i then some m.length else jg m i:=by
   unfold jg;rw[tn];by_cases hki:k=i
   ·subst hki;have:m.findIdx? (λkv=>decide (kv.1=k))=none:=hf;rw[this,gh J];simp
   ·rw[dZ hki];cases m.findIdx? (λkv=>decide (kv.1=i)) with
    |some j=>rfl
    |none=>simp[hki]
  unfold look;rw[e];by_cases hki:k=i
  ·rw[gh hki,gh hki];simp
  ·rw[dZ hki,dZ hki];cases hi:jg m i with
   |none=>rfl
   |some j'=>
    obtain⟨u',hu'⟩:=yg hi;have:=(dW.1 hu').1;simp[gy this]
theorem TL(l:List fH)(i:Int):kc l i=(match look (vb l) i with|some (.bool b)=>b|_=>false):=rfl
def TK(l:List fH)(r:fH):vb (l++[r])=yn (vb l) r.version (Value.bool r.gone):=by
 unfold vb;rw[sN]
 rfl
def L3(l:List fH)(r:fH)(i:Int):kc (l++[r]) i=if r.version=i then r.gone else kc l i:=by
 rw[TL,TK,Yk];by_cases h:r.version=i
 ·rw[gh h,gh h]
 ·rw[dZ h,dZ h]
  rfl
def ko(l:List fH)(i:Int)(hu:∀(a b:Nat) (x y:fH),l[a]?=some x->l[b]?=some y->x.version=y.version->a=b):kc l i=true↔∃r∈l,r.version=i/\r.gone=true:=by
 have key:∀n,∀l:List fH,l.length=n->(∀(a b:Nat) (x y:fH),l[a]?=some x->l[b]?=some y->x.version=y.version->a=b)->(kc l i=true↔∃r∈l,r.version=i/\r.gone=true):=by
  intro n
  induction n with
  |zero=>
   intro l hl _;rw[rh.1 hl];constructor
   ·intro h;cases h
   ·rintro⟨r,hr,_⟩;cases hr
  |succ n ih=>
   intro l hl hu;obtain⟨l',r,rfl⟩:∃l' r,l=l'++[r]:=⟨l.dropLast,l.getLast (by rintro rfl;cases hl),(List.dropLast_concat_getLast _).symm⟩;have hl':l'.length=n:=aq hl
   have ih':=ih l' hl' λa b x y ha hb=>hu a b x y (by rw[gy (dW.1 ha).1];exact ha) (by rw[gy (dW.1 hb).1];exact hb)
   have hlast:(l'++[r])[l'.length]?=some r:=aj
   rw[L3];by_cases h:r.version=i
   ·rw[gh h];constructor
    ·intro hg;exact⟨r,aj,h,hg⟩
    ·rintro⟨x,hx,hv,hg⟩;obtain⟨a,ha⟩:=gE.1 hx;have:=hu a _ x r ha hlast (by rw[hv,h]);subst this;rw[hlast]at ha;cases ha
     exact hg
   ·rw[dZ h,ih'];constructor
    ·rintro⟨x,hx,hv⟩;exact⟨x,bY,hv⟩
    ·rintro⟨x,hx,hv,hg⟩;rcases gY.1 hx with hx|hx
     ·exact⟨x,hx,hv,hg⟩
     ·rw[gX.1 hx]at hv;exact absurd hv h
 exact key _ l J hu
def Ep{l:List fH}(h:Go.Lim.fE l=true){i:Nat}{x:fH}(hx:l[i]?=some x):0<=x.version/\0<=x.at_/\∀(j:Nat) (y:fH),j<i->l[j]?=some y->y.version≠x.version:=by
 have h2:=gJ (show decide (∀i,(h:i<l.length)->Go.Lim.ij l i l[i]=true)=true from h) i (dW.1 hx).1;rw[(dW.1 hx).2]at h2;unfold Go.Lim.ij Go.Lim.Dr at h2;simp only[gA,pJ,pK,pC,pF]at h2;refine⟨aw,aw,λj y hj hy he=>h2.2 y ?_ he⟩;exact gE.2 ⟨j,by rw[pa,gh hj];exact hy⟩
def Ow{l:List fH}:Go.Lim.fE l=true↔∀(i:Nat) (x:fH),l[i]?=some x->0<=x.version/\0<=x.at_/\∀(j:Nat) (y:fH),j<i->l[j]?=some y->y.version≠x.version:=by
 constructor
 ·exactλh i x hx=>Ep h hx
 ·intro h;refine rY λi hi=>?_
  obtain⟨h1,h2,h3⟩:=h i l[i] (dX hi);unfold Go.Lim.ij Go.Lim.Dr;simp only[gA,pJ,pK,pC,pF];refine⟨⟨aw,aw⟩,λy hy he=>?_⟩;obtain⟨j,hj⟩:=gE.1 hy;rw[pa]at hj;split at hj
  ·exact h3 j y (by assumption) hj he
  ·cases hj
def vO{l:List fH}(h:Go.Lim.fE l=true):∀(a b:Nat) (x y:fH),l[a]?=some x->l[b]?=some y->x.version=y.version->a=b:=λa b x y ha hb he=>by
 rcases rO a b with fj|rfl|fj
 ·exact absurd he ((Ep h hb).2.2 a x fj ha)
 ·rfl
 ·exact absurd he.symm ((Ep h ha).2.2 b y fj hb)
def V8(n:Int):(Slp.wm n).1.ok:=by
 unfold Slp.wm;split
 ·exact⟨ar,⟨λx hx=>(by cases hx),ar⟩,ar⟩
 ·refine⟨(by decide:u64 1),⟨λx hx=>?_,?_⟩,(by decide:i64 0)⟩
  ·obtain⟨i,hi,rfl⟩:=gR.1 hx;have:=p7.1 hi;split
   ·decide
   ·exact⟨aw,aw⟩
  ·simp;omega
def kV{x:fV}(h:Gw x):Slp.fE (xU x)=true/\((xU x).next.length:Int)=x.x4/\(xU x).zi=0/\(xU x).ok:=by
 have hs:=h.x4;unfold xU;have:x.x4=1\/x.x4=2\/x.x4=3\/x.x4=4:=aw
 rcases this with e|e|e|e <;> rw[e] <;> exact⟨ar,ar,ar,V8 _⟩
def L6{s:Sna}(h:vU s=true):ou (qV s).1:=by
 unfold qV;rw[gh h];refine⟨h,aj,λi g x hg hx=>?_⟩;simp only[gf]at hg;have hx:s.zn[i]?=some x:=hx;rw[hx]at hg;cases hg
 have gc:=(j7 h).all x (dY hx);have f:=kV gc;refine⟨by unfold lY;simp,λe he=>?_⟩;unfold lY at he;rw[pB he];exact⟨f.1,f.2.1⟩
section
variable {N K:Nat} {w:Wor} {m:fi} {v:fp} {g:Gr} {e:En}
def St.ZA(st:St N K w){c:ia}(hc:(jn c).1=0)(sk:ye c):St (N+1) (K+1) {w with current:=w.zd.length,zd:=w.zd++[nU c]}:=by
 have sc:=Ht sk hc;have gw:=st.ji;have hb:=HQ hc;have gv:ou (nU c):=L6 hb;have hsw:nU c=⟨(jJ c).1,(jJ c).1.zn.map lY,false⟩:=by unfold nU qV;rw[gh hb]
 have la:∀r∈w.zp,0<=r.version/\r.version<w.zd.length:=λr hr=>by
  obtain⟨i,hi⟩:=gE.1 hr;have:=vP gw hi;omega
 refine⟨⟨gw.ground,⟨eI _,by show((w.zd.length:Nat):Int)<((w.zd++[nU c]).length:Nat);simp only[pj,rH];omega⟩,gw.zp,λr hr=>?_,λi v2 hv=>?_,gw.fC⟩,⟨by have:=st.ty.iW;simp;omega,bZ,by have:=st.ty.lim;show w.zp.length<=_;omega,λv2 hv=>?_,st.ty.na⟩,⟨λl hl=>by have:=st.iJ.fC l hl;omega,λv2 hv g2 hg e2 he=>?_⟩⟩
 ·have h1:=la r hr;have h2:=gw.bad r hr;unfold yM at h2 ⊢;simp at h2 ⊢;omega
 ·have hv:(w.zd++[nU c])[i]?=some v2:=hv;by_cases hi:i<w.zd.length
  ·rw[gy hi]at hv;exact gw.fM i v2 hv
  ·rw[gG aw]at hv
   have:i-w.zd.length=0:=by
    have:=(dW.1 hv).1;exact cW
   rw[this]at hv;cases hv
   refine⟨gv,?_⟩;rw[hsw];show false=kc w.zp i
   symm
   by_cases hg:kc w.zp i=true
   ·obtain⟨r,hr,he,_⟩:=(ko w.zp i (vO gw.zp)).1 hg;have:=la r hr;omega
   ·simpa using hg
 ·rcases gY.1 hv with hv|hv
  ·exact st.ty.lq v2 hv
  ·rw[gX.1 hv,hsw];refine⟨E7 sc,λg2 hg=>?_⟩;obtain⟨x,hx,rfl⟩:=gR.1 hg;have f:=kV ((j7 hb).all x hx);refine⟨(by decide:u64 0),λe2 he=>?_⟩;unfold lY at he;rw[pB he];exact f.2.2.2
 ·rcases gY.1 hv with hv|hv
  ·have:=st.iJ.ends v2 hv g2 hg e2 he;omega
  ·rw[gX.1 hv,hsw]at hg;obtain⟨x,hx,rfl⟩:=gR.1 hg;have f:=kV ((j7 hb).all x hx);unfold lY at he;rw[pB he,f.2.2.1];omega
def St.zyf(st:St N K w){x:fH}(h0:0<=x.version)(h1:x.version<w.zd.length)(h2:x.version≠w.current)(h3:0<=x.at_)(h4:x.at_<=w.zl)(hg:x.gone=false)(hn:∀r∈w.zp,r.version≠x.version):St (N+1) (K+1) {w with zp:=w.zp++[x]}:=by
 have gw:=st.ji;refine⟨⟨gw.ground,gw.current,?_,λr hr=>?_,λi v2 hv=>⟨(gw.fM i v2 hv).1,?_⟩,gw.fC⟩,⟨by have:=st.ty.iW;show w.zd.length<=_;omega,bZ,by have:=st.ty.lim;simp;omega,st.ty.lq,st.ty.na⟩,⟨λl hl=>by have:=st.iJ.fC l hl;omega,λv2 hv g2 hg e2 he=>by have:=st.iJ.ends v2 hv g2 hg e2 he;omega⟩⟩
 ·rw[Ow];intro i y hy;by_cases hi:i<w.zp.length
  ·have hy':w.zp[i]?=some y:=by rw[<-gy (l₂:=[x]) hi];exact hy
   obtain⟨a,b,c⟩:=Ep gw.zp hy';exact⟨a,b,λj z hj hz=>c j z hj (by rw[<-gy (l₂:=[x]) aw];exact hz)⟩
  ·have hy2:(w.zp++[x])[i]?=some y:=hy;rw[gG aw]at hy2
   have:i-w.zp.length=0:=by
    have:=(dW.1 hy2).1;exact cW
   rw[this]at hy2;cases hy2
   refine⟨h0,h3,λj z hj hz=>?_⟩;have hz2:(w.zp++[x])[j]?=some z:=hz;rw[gy aw]at hz2;exact hn z (dY hz2)
 ·rcases gY.1 hr with hr|hr
  ·exact gw.bad r hr
  ·rw[gX.1 hr];unfold yM;simp;omega
 ·rw[(gw.fM i v2 hv).2];show _=kc (w.zp++[x]) i;rw[L3];by_cases he:x.version=i
  ·rw[gh he,hg];by_cases hgo:kc w.zp i=true
   ·obtain⟨r,hr,hv2,_⟩:=(ko w.zp i (vO gw.zp)).1 hgo;exact absurd (hv2.trans he.symm) (hn r hr)
   ·simpa using hgo
  ·rw[dZ he]
def St.zW(st:St N K w){i:Nat}{k:Int}{v2:fp}{x:fH}(h0:0<=k)(hv:w.zd[k.toNat]?=some v2)(hx:w.zp[i]?=some x)(he:x.version=k):St (N+1) (K+1) {w with zd:=w.zd.set k.toNat (wj v2),zp:=w.zp.set i (vL x)}:=by
 have gw:=st.ji;have la:=vP gw hx
 have same:∀(j:Nat) (y:fH),(w.zp.set i (vL x))[j]?=some y->∃z,w.zp[j]?=some z/\z.version=y.version/\z.at_=y.at_:=λj y hy=>by
  rcases jy hy with⟨rfl,rfl,_⟩|⟨_,hy⟩
  ·exact⟨x,hx,rfl,rfl⟩
  ·exact⟨y,hy,rfl,rfl⟩
 have isL:Go.Lim.fE (w.zp.set i (vL x))=true:=by
  rw[Ow];intro j y hy;obtain⟨z,hz,e1,e2⟩:=same j y hy;obtain⟨a,b,c⟩:=Ep gw.zp hz;refine⟨aw,aw,λj2 y2 hj hy2=>?_⟩;obtain⟨z2,hz2,e3,_⟩:=same j2 y2 hy2;rw[<-e3,<-e1];exact c j2 z2 hj hz2
 refine⟨⟨gw.ground,aq gw.current,isL,λr hr=>?_,λj v3 hv3=>?_,gw.fC⟩,⟨by have:=st.ty.iW;simp;omega,bZ,by have:=st.ty.lim;simp;omega,λv3 hv3=>?_,st.ty.na⟩,⟨λl hl=>by have:=st.iJ.fC l hl;omega,λv3 hv3 g2 hg e2 he=>?_⟩⟩
 ·obtain⟨j,hj⟩:=gE.1 hr;obtain⟨z,hz,e1,e2⟩:=same j r hj;have:=gw.bad z (dY hz);unfold yM at this ⊢;rw[<-e1,<-e2];simpa using this
 ·have gone2:kc (w.zp.set i (vL x)) j=if (j:Int)=k then true else kc w.zp j:=by
   by_cases hjk:(j:Int)=k
   ·rw[gh hjk,ko _ _ (vO isL)];exact⟨vL x,gE.2 ⟨i,gk (dW.1 hx).1⟩,by show x.version=_;omega,rfl⟩
   ·rw[dZ hjk,se,ko _ _ (vO isL),ko _ _ (vO gw.zp)];constructor
    ·rintro⟨r,hr,h1,h2⟩;rcases mem_set hr with hr|rfl
     ·exact⟨r,hr,h1,h2⟩
     ·exact absurd (show x.version=j from h1) aw
    ·rintro⟨r,hr,h1,h2⟩;obtain⟨b,hb⟩:=gE.1 hr
     have hbi:i≠b:=by
      rintro rfl;rw[hx]at hb;cases hb
      omega
     exact⟨r,gE.2 ⟨b,by rw[gD,dZ hbi];exact hb⟩,h1,h2⟩
  show ou v3/\v3.zW=kc (w.zp.set i (vL x)) j;rw[gone2];rcases jy hv3 with⟨rfl,rfl,_⟩|⟨hne,hv3⟩
  ·rw[gh aw];exact⟨⟨(gw.fM _ v2 hv).1.snap,(gw.fM _ v2 hv).1.len,(gw.fM _ v2 hv).1.Aw⟩,rfl⟩
  ·rw[dZ aw];exact gw.fM j v3 hv3
 ·rcases mem_set hv3 with hv3|rfl
  ·exact st.ty.lq v3 hv3
  ·exact st.ty.lq v2 (dY hv)
 ·rcases mem_set hv3 with hv3|rfl
  ·have:=st.iJ.ends v3 hv3 g2 hg e2 he;omega
  ·have:=st.iJ.ends v2 (dY hv) g2 hg e2 he;omega
end
structure zzg(w:Wor)(m:fi)(v:fp)(g:Gr)(e:En):Prop where
 pc:0<=m.pc/\m.pc<=2
 fM:1<=m.pc->m.version≠w.current/\∀r∈w.zp,r.version≠m.version
 ep:m.pc=2->0<=m.zl/\m.zl<=w.zl
def Qy(_:Wor)(m:fi):Nat:=(3-m.pc).toNat
section
variable {N K:Nat} {w:Wor} {m:fi} {v:fp} {g:Gr} {e:En}
def zze(_:Wor)(m:fi)(_:fp)(_:Gr)(_:En):Prop:=m.pc=0
def zzc(_:Wor)(m:fi)(_:fp)(_:Gr)(_:En):Prop:=m.pc=9
structure zzh(w:Wor)(m:fi)(v:fp)(g:Gr)(e:En):Prop where
 pc:m.pc=0
 k:m.k<6
 i:m.i<w.counts.length
def Qz(w:Wor)(m:fi):Nat:=((w.counts.length-m.i)*6-m.k).toNat
end
structure zzd(w:Wor)(m:fi)(v:fp)(g:Gr)(e:En):Prop where
 pc:(0<=m.pc/\m.pc<=6)\/(8<=m.pc/\m.pc<=10)
 nM:m.pc=2->m.i<w.pins.length
 li4:m.pc=4->m.i<=w.zp.length
 lim:m.pc=5\/m.pc=6->∃r,w.zp[m.i.toNat]?=some r/\r.version=m.version/\r.gone=false
 act:m.pc=5->m.k<(xc v).length
 fC:m.pc=9\/m.pc=10->∃l,w.ze[m.i.toNat]?=some l/\l.drain=true
def Qw(w:Wor)(m:fi):Nat:=(
 if m.pc=0 then 20*(w.zp.length:Int)+4*w.ze.length+w.pins.length+20
 else if m.pc=1 then 20*(w.zp.length:Int)+4*w.ze.length+w.pins.length+19
 else if m.pc=2 then 20*(w.zp.length:Int)+4*w.ze.length+10+(w.pins.length-m.i)
 else if m.pc=3 then 20*(w.zp.length:Int)+4*w.ze.length+10
 else if m.pc=4 then (w.zp.length-m.i)*20+4*w.ze.length+5
 else if m.pc=5 then (w.zp.length-m.i)*20+4*w.ze.length+5-1-m.k
 else if m.pc=6 then (w.zp.length-m.i)*20+4*w.ze.length+5-18
 else if m.pc=8 then (w.ze.length-m.i)*4
 else if m.pc=9 then (w.ze.length-m.i)*4-1
 else (w.ze.length-m.i)*4-2:Int).toNat
def PJ:∀(l:List Gr),(∀g∈l,g.ends.length<=4)->(l.flatMap (·.ends)).length<=l.length*4
 |[],_=>by simp
 |g::l,h=>by
  have:=PJ l λx hx=>h x (pP _ hx)
  have:=h g (pT ..);simp only[rp,pj,rk];omega
def N2{v:fp}(h:ou v):1<=(xc v).length/\(xc v).length<=16:=by
 have f:=h.lD;have h4:=PJ v.zo λg hg=>(f.2 g hg).1
 refine⟨?_,by unfold xc;omega⟩;have h0:0<v.zo.length:=by have:=(j7 h.snap).zn.1;have:=h.len;omega
 obtain⟨g,e,hg,he,_,_⟩:=CP h h0;have:e∈xc v:=List.mem_flatMap.2 ⟨g,dY hg,dY he⟩;exact List.length_pos_of_mem this
section
variable {N K:Nat} {w:Wor} {m:fi} {v:fp} {g:Gr} {e:En}
end
end Go.Wor
namespace Go.Wor
open Go.Ab Go.Proofs Tryz Go.Gat Go.Nam Go.Hos Go.Con Go.Sna Go.Pla
open Go.Hy hiding encI
def Qf(w:Wor)(m:fi)(v:fp)(g:Gr)(e:En):Prop:=(m.op.kind=1/\zzf w m v g e)\/(m.op.kind=2/\zzc w m v g e)\/(m.op.kind=3/\zzg w m v g e)\/(m.op.kind=4/\zze w m v g e)\/(m.op.kind=5/\zzd w m v g e)\/(m.op.kind=6/\zzh w m v g e)
def Qe(m:fi):Prop:=1<=m.answer.kind/\m.answer.kind<=13/\(m.op.kind=1↔m.answer.kind<=5)
def KF(w:Wor)(m:fi):Nat:=if m.op.kind=1 then Qx w m else if m.op.kind=3 then Qy w m else if m.op.kind=5 then Qw w m else if m.op.kind=6 then Qz w m else 0
section
variable {N K:Nat} {w:Wor} {m:fi} {v:fp} {g:Gr} {e:En}
def Nx.up{k:Int}{L:Wor->fi->fp->Gr->En->Prop}{F:fi->Prop}{μ:Wor->fi->Nat}{r:Wor×fi×fk}(h:Nx N K w m L F μ r)(hk:m.op.kind=k)(hL:∀w' m' v g e,m'.op.kind=k->L w' m' v g e->Qf w' m' v g e)(hF:∀m',m'.op.kind=k->F m'->Qe m')(hμ:∀w' m',m'.op.kind=k->KF w' m'=μ w' m'):Nx N K w m Qf Qe KF r:=by
 have hk':r.2.1.op.kind=k:=by rw[h.op];exact hk
 refine⟨h.ev,h.st,h.pins,h.tm,h.op,?_⟩;rcases h.go with⟨h1,h2⟩|⟨⟨v',g',e',h1,h2⟩,h3⟩
 ·exact .inl ⟨h1,hF _ hk' h2⟩
 ·exact .inr ⟨⟨v',g',e',h1,hL _ _ _ _ _ hk' h2⟩,by rw[hμ _ _ hk',hμ _ _ hk];exact h3⟩
def XW(su:qS w m v g e):vV w m=if m.op.kind=1 then qj w m v g e else if m.op.kind=2 then j9 w m v g e else if m.op.kind=3 then wy w m else if m.op.kind=4 then yX w m
  else if m.op.kind=5 then jY w m else if m.op.kind=6 then yF w m else none:=by
 unfold vV;rw[su.fN];dsimp only;rw[su.fG];dsimp only;rw[su.fP]
end
def UH{w:Wor}{m:fi}{v:fp}{g:Gr}{e:En}(su:qS w m v g e):qd w m=true:=by
 unfold qd;simp only[gA,pJ,vN];refine⟨⟨⟨⟨su.world,su.zf⟩,su.done⟩,su.version⟩,?_⟩;rw[su.fN];simp only[gA,vN];refine⟨su.zg,?_⟩;rw[su.fG];simp only[gA,vN,gH];rw[su.fP];simp only[vN];exact⟨⟨⟨su.end_,su.other⟩,su.slot⟩,⟨⟨by have:=su.listen;omega,su.i⟩,su.k⟩⟩
end Go.Wor
