import Derived.Test.YtkbnjgogjccmfaaGreatTS
import Derived.Test.YtkbnjgogjccmfaaGreatTI
set_option linter.all false
set_option maxRecDepth 100000
set_option maxHeartbeats 4000000
namespace Go.Slp
open Go.Ab Go.Hy
def EX {x i:Int} (h1: -1<=i) (h2:i<=2147483646):qV x i % 4294967296 - 1=i:=by unfold qV;omega
def RR {x i:Int} (h1: -1<=i) (h2:i<=2147483646):qV x i / 4294967296=(x / 4294967296+1) % 4294967296:=by unfold qV;omega
def FA {x i:Int} (h1: -1<=i) (h2:i<=2147483646):u64 (qV x i):=by unfold qV u64;omega
def Dg (nx:List Int) (i0:Int):∀ k,jR nx (fk nx i0) k=jR nx i0 (k+1)
 | 0=>rfl
 | k+1=>by
  show fk nx (jR nx (fk nx i0) k)=fk nx (jR nx i0 (k+1));rw [Dg nx i0 k]
def JK (nx:List Int) (i0:Int) (k:Nat):xa nx i0 (k+1)=i0::xa nx (fk nx i0) k:=by
 unfold xa;rw [List.range_succ_eq_map,pI,pX]
 congr 1
 apply rE
 intro j _;exact (Dg nx i0 j).symm
def E6 {nx:List Int} {i0:Int} (h:fb nx i0=true) (h0:¬i0 < 0):jU nx (fk nx i0)+1=jU nx i0∧fb nx (fk nx i0)=true∧xa nx i0 (jU nx i0)=i0::xa nx (fk nx i0) (jU nx (fk nx i0)):=by
 have hp:=Lu h h0;obtain ⟨N,hN⟩:∃ N,jU nx i0=N+1:=⟨jU nx i0 - 1,aw⟩;obtain ⟨c1,c2,c3⟩:=yI nx i0
 have hend:jR nx (fk nx i0) N= -1:=by
  rw [Dg,<- hN];simpa [fb] using h
 have e:jU nx (fk nx i0)=N:=by
  refine FO ?_ ?_
  ·have:fN nx (jR nx (fk nx i0) N)=false:=by rw [hend];simp [fN]
   simp [yr,this]
  ·intro j hj;have:=c3 (j+1) aw;simp only [yr,pn,pT] at this ⊢;rw [Dg];refine ⟨this.1,?_⟩;have h2:=this.2;rw [JK] at h2;simp only [List.contains_cons,pn] at h2;exact h2.2
 refine ⟨by rw [e,hN],by simp [fb,e,hend],?_⟩;rw [hN,e,JK]
def Ac {e:En} (h:fb e.next (zC e)=true):qz e=(xa e.next (zC e) (jU e.next (zC e)),0):=by
 unfold qz;rw [dQ h]
def UN {e:En} (he:e.ok) {a:En} {i:Int} (h:El e=(a,i,0)):
  eu e=true∧¬zC e < 0∧i=zC e∧a=⟨qV e.head (fk e.next (zC e)),e.next,e.zg⟩∧zC a=fk e.next (zC e)∧eu a=true∧a.ok∧(qz a).2=0∧(qz e)=(i::(qz a).1,0):=by
 unfold El at h;cases hv:eu e with
 | false=>rw [dQ hv] at h;simp at h
 | true=>
  rw [dN (by simp [hv])] at h;by_cases h0:zC e < 0
  ·rw [dQ h0] at h;simp at h
  ·rw [dN h0] at h;cases h
   obtain ⟨g1,g2,g3,g4⟩:=LC hv h0;obtain ⟨b1,b2,b3,b4⟩:=oI hv;have hh:zC ⟨qV e.head (fk e.next (zC e)),e.next,e.zg⟩=fk e.next (zC e):=EX g3 aw;obtain ⟨t1,t2,t3⟩:=E6 b1 h0;have hok:fb (⟨qV e.head (fk e.next (zC e)),e.next,e.zg⟩:En).next (zC ⟨qV e.head (fk e.next (zC e)),e.next,e.zg⟩)=true:=by rw [hh];exact t2
   refine ⟨rfl,h0,rfl,rfl,hh,?_,⟨FA g3 aw,he.2⟩,?_,?_⟩
   ·simp only [eu,hok,sB,dU,gh];exact ⟨⟨b2,b3⟩,b4⟩
   ·rw [Ac hok]
   ·rw [Ac b1,Ac hok,hh,t3]
def Jf {nx:List Int} {s p v:Int} (h:p≠s) (h1:0<=s) (h2:0<=p):fk (nx.set s.toNat v) p=fk nx p:=by
 unfold fk;rw [dY,dN aw]
def QY {nx:List Int} {s v:Int} (h1:0<=s) (h2:s < nx.length):fk (nx.set s.toNat v) s=v:=by
 unfold fk;rw [dY,dQ rfl,dQ aw]
 rfl
def Tc {e:En} (he:e.ok) {slot:Int} {a:En} (h:D5 e slot=(a,0)):
  eu e=true∧0<=slot∧slot < e.next.length∧a=⟨qV e.head slot,e.next.set slot.toNat (zC e),e.zg⟩∧zC a=slot∧eu a=true∧a.ok∧(qz e).2=0∧qz a=(slot::(qz e).1,0):=by
 unfold D5 at h;cases hv:eu e with
 | false=>rw [dQ hv] at h;simp at h
 | true=>
  rw [dN (by simp [hv])] at h;by_cases h0:slot < 0∨e.next.length<=slot
  ·rw [dQ h0] at h;simp at h
  ·rw [dN h0] at h;cases hc:(qz e).1.contains slot with
   | true=>rw [dQ hc] at h;simp at h
   | false=>
    rw [dN (by rw [hc];decide)] at h;cases h
    obtain ⟨b1,b2,b3,b4⟩:=oI hv;have s1:0<=slot:=aw
    have s2:slot < e.next.length:=aw
    have hh:zC ⟨qV e.head slot,e.next.set slot.toNat (zC e),e.zg⟩=slot:=EX aw aw;obtain ⟨c1,c2,c3⟩:=yI e.next (zC e);generalize hN:jU e.next (zC e)=N at *;have hfr:qz e=(xa e.next (zC e) N,0):=by rw [Ac b1,hN]
    rw [hfr] at hc
    have hnot:∀ k,k < N->jR e.next (zC e) k≠slot∧0<=jR e.next (zC e) k:=fun k hk=>by
     constructor
     ·intro e2;have:slot ∈ xa e.next (zC e) N:=gG.2 ⟨k,pG.2 hk,e2⟩;simp [this] at hc
     ·have:=c3 k hk;simp only [yr,pn,pT,fN,dU,gh] at this;exact this.1.1
    have hpos:∀ k,k<=N->jR (e.next.set slot.toNat (zC e)) slot (k+1)=jR e.next (zC e) k:=by
     intro k
     induction k with
     | zero=>intro _;exact QY s1 s2
     | succ k ih=>
      intro hk;show fk _ (jR (e.next.set slot.toNat (zC e)) slot (k+1))=fk e.next (jR e.next (zC e) k);rw [ih aw];exact Jf (hnot k aw).1 s1 (hnot k aw).2
    have hvis:∀ k,k<=N->xa (e.next.set slot.toNat (zC e)) slot (k+1)=slot::xa e.next (zC e) k:=fun k hk=>by
     unfold xa;rw [List.range_succ_eq_map,pI,pX]
     congr 1
     apply rE
     intro j hj;exact hpos j (by have:=pG.1 hj;omega)
    have hin:∀ p,fN (e.next.set slot.toNat (zC e)) p=fN e.next p:=fun p=>by simp [fN]
    have hend:jR e.next (zC e) N= -1:=by
     have:fb e.next (zC e)=true:=b1;simp only [fb,hN,gT] at this;exact dy
    have hcnt:jU (e.next.set slot.toNat (zC e)) slot=N+1:=by
     refine FO ?_ ?_
     ·have:fN (e.next.set slot.toNat (zC e)) (jR (e.next.set slot.toNat (zC e)) slot (N+1))=false:=by rw [hpos N (dW _),hend,hin];simp [fN]
      simp [yr,this]
     ·intro j hj;cases j with
      | zero=>
       simp only [yr,xa,jR,hin];simp [fN,s1,s2]
      | succ j=>
       have:=c3 j aw;simp only [yr,pn,pT] at this ⊢;rw [hpos j aw,hvis j aw,hin];refine ⟨this.1,?_⟩;rw [List.contains_cons,this.2];simp;exact (hnot j aw).1
    have hok:fb (e.next.set slot.toNat (zC e)) slot=true:=by
     simp only [fb,hcnt,hpos N (dW _),hend]
     rfl
    have hfa:qz ⟨qV e.head slot,e.next.set slot.toNat (zC e),e.zg⟩=(slot::xa e.next (zC e) N,0):=by
     rw [Ac (by rw [hh];exact hok),hh];show (xa (e.next.set slot.toNat (zC e)) slot (jU (e.next.set slot.toNat (zC e)) slot),(0:Int))=_;rw [hcnt,hvis N (dW _)]
    refine ⟨rfl,s1,s2,rfl,hh,?_,⟨FA aw aw,⟨fun x hx=>?_,by simp;exact he.2.1.2⟩,he.2.2⟩,by rw [hfr],by rw [hfa,hfr]⟩
    ·simp only [eu,hh,hok,sB,dU,gh];exact ⟨⟨aA,aA⟩,b4⟩
    ·rcases pd hx with h | h
     ·exact he.2.1.1 x h
     ·have:=TM e;rw [h];exact ⟨aw,aw⟩
def S7 (nx:List Int) (i0:Int):(xa nx i0 (jU nx i0)).Nodup:=(DA (yI nx i0).2.2).1
end Go.Slp
namespace Go.Wor
open Go.Ab Go.Proofs Tryz Go.Hy Go.Gat Go.Nam Go.Hos Go.Con Go.Sna
def mem_set {α:Type} {l:List α} {i:Nat} {x y:α} (h:y ∈ l.set i x):y ∈ l∨y=x:=pd h
def xW {α:Type} {l:List α} {i j:Nat} {x y:α} (h:(l.set i x)[j]?= some y):(i=j∧y=x∧i < l.length)∨(i≠j∧l[j]?= some y):=by
 rw [dY] at h;split at h
 ·rename_i hij;split at h
  ·rename_i ux;cases h;exact .inl ⟨hij,rfl,ux⟩
  ·cases h
 ·rename_i hij;exact .inr ⟨hij,h⟩
def jC.lu {w:Wor} (h:jC w) (t:Nat) {p:Int} (h0:0<=p) (h1:p<=w.zn+1):jC (nn w t p):=by
 have g:=qa.1 h.ground;refine ⟨qa.2 ⟨aq g.pins,⟨aq g.counts.1,g.counts.2⟩,g.zn,g.lock,fun q hq=>?_⟩,h.current,h.zr,h.bad,h.eJ,h.ec⟩;rcases mem_set hq with hq | rfl
 ·exact g.lu q hq
 ·exact ⟨h0,h1⟩
def jC.count {w:Wor} (h:jC w) (t:Nat) {r:List Int} (h0:r.length=6):jC { w with counts:=w.counts.set t r }:=by
 have g:=qa.1 h.ground;refine ⟨qa.2 ⟨g.pins,⟨aq g.counts.1,fun q hq=>?_⟩,g.zn,g.lock,g.lu⟩,h.current,h.zr,h.bad,h.eJ,h.ec⟩;rcases mem_set hq with hq | rfl
 ·exact g.counts.2 q hq
 ·exact h0
def jC.CV {w:Wor} (h:jC w) {n:Int} (h0:n=0∨n=1):jC { w with lock:=n }:=by
 have g:=qa.1 h.ground;exact ⟨qa.2 ⟨g.pins,g.counts,g.zn,h0,g.lu⟩,h.current,h.zr,h.bad,h.eJ,h.ec⟩
def jC.EE {w:Wor} (h:jC w) {n:Int} (h0:w.zn<=n) (h1:n<=1000000000000):jC { w with zn:=n }:=by
 have g:=qa.1 h.ground;refine ⟨qa.2 ⟨g.pins,g.counts,⟨by have:=g.zn.1;show 0<=n;omega,h1⟩,g.lock,fun p hp=>by have:=g.lu p hp;show _∧p<=n+1;omega⟩,h.current,h.zr,fun r hr=>?_,h.eJ,h.ec⟩;have:=h.bad r hr;unfold yx at this ⊢;simp at this ⊢;exact ⟨⟨this.1.1,this.1.2⟩,aw⟩
def Rx {l l':List eE} (h:l.map (·.name)=l'.map (·.name)) (s:u4):zS l s=zS l' s:=by
 unfold zS
 have:l.findIdx? (fun r=>r.name == s)=l'.findIdx? (fun r=>r.name == s):=by
  have e:∀ l:List eE,l.findIdx? (fun r=>r.name == s)=(l.map (·.name)).findIdx? (fun x=>x == s):=fun l=>by rw [r4];rfl
  rw [e,e,h]
 rw [this]
def RP {l:List eE} {i:Nat} {x y:eE} (hx:l[i]?= some x) (h:y.name=x.name):(l.set i y).map (·.name)=l.map (·.name):=by
 rw [pM];exact yD _ _ (by rw [dP,hx,dX,h])
def jC.B8 {w:Wor} (h:jC w) {i:Nat} {x y:eE} (hx:w.zd[i]?= some x) (hn:y.name=x.name) (hy:Go.Gat.eu y=true):jC { w with zd:=w.zd.set i y }:=by
 refine ⟨h.ground,h.current,h.zr,h.bad,h.eJ,fun j l hl=>?_⟩;show _∧zS (w.zd.set i y) l.name=j;rw [Rx (RP hx hn)];rcases xW hl with ⟨rfl,rfl,_⟩ | ⟨_,hl⟩
 ·rw [hn];exact ⟨hy,(h.ec i x hx).2⟩
 ·exact h.ec j l hl
def mr.iM {m:uw} {v:u3} {g:Gr} {e:En} (h:mr v) (hg:v.zm[m.zi.toNat]?= some g) (he:g.ends[m.end_.toNat]?= some e) {e':En} {tk:Int} (hi:Slp.eu e'=true) (hl:e'.next.length=e.next.length):
  mr { v with zm:=v.zm.set m.zi.toNat { g with zt:=tk,ends:=g.ends.set m.end_.toNat e' } }:=by
 refine ⟨h.snap,aq h.len,fun i g2 x hg2 hx=>?_⟩;rcases xW hg2 with ⟨rfl,rfl,_⟩ | ⟨_,hg2⟩
 ·obtain ⟨h1,h2⟩:=h.nO _ g x hg hx;refine ⟨aq h1,fun y hy=>?_⟩;rcases mem_set hy with hy | rfl
  ·exact h2 y hy
  ·exact ⟨hi,by rw [hl];exact (h2 e (dO he)).len⟩
 ·exact h.nO i g2 x hg2 hx
def jC.iM {w:Wor} {m:uw} {v:u3} {g:Gr} {e:En} (h:jC w) (hat:fc w m v g e) {e':En} {tk:Int} (hi:Slp.eu e'=true) (hl:e'.next.length=e.next.length):
  jC { w with ze:=w.ze.set m.version.toNat { v with zm:=v.zm.set m.zi.toNat { g with zt:=tk,ends:=g.ends.set m.end_.toNat e' } } }:=by
 refine ⟨h.ground,aq h.current,h.zr,fun r hr=>?_,fun i v2 hv=>?_,h.ec⟩
 ·have:=h.bad r hr;unfold yx at this ⊢;simpa using this
 ·rcases xW hv with ⟨rfl,rfl,_⟩ | ⟨_,hv⟩
  ·obtain ⟨h1,h2⟩:=h.eJ _ v hat.at_;exact ⟨h1.iM hat.ey hat.eL hi hl,h2⟩
  ·exact h.eJ i v2 hv
structure Cal (K:Nat) (w:Wor):Prop where
 ec:∀ l ∈ w.zd,l.zg<=K
 ends : ∀ v ∈ w.ze, ∀ g ∈ v.zm, ∀ e ∈ g.ends, e.zg <= K
structure St (N K:Nat) (w:Wor):Prop where
 jq:jC w
 ty:ig N w
 fB:Cal K w
def St.mono {N K N' K':Nat} {w:Wor} (h:St N K w) (hN:N<=N') (hK:K<=K'):St N' K' w:=
 ⟨h.jq,⟨by have:=h.ty.iu;omega,by have:=h.ty.ec;omega,by have:=h.ty.fQ;omega,h.ty.fL,h.ty.lq⟩,⟨fun l hl=>by have:=h.fB.ec l hl;omega,fun v hv g hg e he=>by have:=h.fB.ends v hv g hg e he;omega⟩⟩
def St.lu {N K:Nat} {w:Wor} (h:St N K w) (t:Nat) {p:Int} (h0:0<=p) (h1:p<=w.zn+1):St N K (nn w t p):=⟨h.jq.lu t h0 h1,⟨h.ty.iu,h.ty.ec,h.ty.fQ,h.ty.fL,h.ty.lq⟩,⟨h.fB.ec,h.fB.ends⟩⟩
def St.count {N K:Nat} {w:Wor} (h:St N K w) (t:Nat) {r:List Int} (h0:r.length=6):St N K { w with counts:=w.counts.set t r }:=⟨h.jq.count t h0,⟨h.ty.iu,h.ty.ec,h.ty.fQ,h.ty.fL,h.ty.lq⟩,⟨h.fB.ec,h.fB.ends⟩⟩
def St.CV {N K:Nat} {w:Wor} (h:St N K w) {n:Int} (h0:n=0∨n=1):St N K { w with lock:=n }:=⟨h.jq.CV h0,⟨h.ty.iu,h.ty.ec,h.ty.fQ,h.ty.fL,h.ty.lq⟩,⟨h.fB.ec,h.fB.ends⟩⟩
def St.EE {N K:Nat} {w:Wor} (h:St N K w) {n:Int} (h0:w.zn<=n) (h1:n<=1000000000000):St N K { w with zn:=n }:=⟨h.jq.EE h0 h1,⟨h.ty.iu,h.ty.ec,h.ty.fQ,h.ty.fL,h.ty.lq⟩,⟨h.fB.ec,h.fB.ends⟩⟩
def St.B8 {N K:Nat} {w:Wor} (h:St N K w) {i:Nat} {x y:eE} (hx:w.zd[i]?= some x) (hn:y.name=x.name) (hy:Go.Gat.eu y=true) (hi:i64 y.zg) (hk:y.zg<=K):St N K { w with zd:=w.zd.set i y }:=by
 refine ⟨h.jq.B8 hx hn hy,⟨h.ty.iu,aq h.ty.ec,h.ty.fQ,h.ty.fL,fun l hl=>?_⟩,⟨fun l hl=>?_,h.fB.ends⟩⟩
 ·rcases mem_set hl with hl | rfl
  ·exact h.ty.lq l hl
  ·exact ⟨by rw [hn];exact (h.ty.lq x (dO hx)).1,hi⟩
 ·rcases mem_set hl with hl | rfl
  ·exact h.fB.ec l hl
  ·exact hk
def St.iM {N K:Nat} {w:Wor} {m:uw} {v:u3} {g:Gr} {e:En} (h:St N K w) (hat:fc w m v g e) {e':En} {tk:Int} (hi:Slp.eu e'=true) (hl:e'.next.length=e.next.length) (ho:e'.ok) (ht:u64 tk) (hk:e'.zg<=K):
  St N K { w with ze:=w.ze.set m.version.toNat { v with zm:=v.zm.set m.zi.toNat { g with zt:=tk,ends:=g.ends.set m.end_.toNat e' } } }:=by
 have mv:=dO hat.at_;have mg:=dO hat.ey;refine ⟨h.jq.iM hat hi hl,⟨aq h.ty.iu,h.ty.ec,h.ty.fQ,fun v2 hv=>?_,h.ty.lq⟩,⟨h.fB.ec,fun v2 hv g2 hg e2 he=>?_⟩⟩
 ·rcases mem_set hv with hv | rfl
  ·exact h.ty.fL v2 hv
  ·refine ⟨(h.ty.fL v mv).1,fun g2 hg=>?_⟩;rcases mem_set hg with hg | rfl
   ·exact (h.ty.fL v mv).2 g2 hg
   ·refine ⟨ht,fun e2 he=>?_⟩;rcases mem_set he with he | rfl
    ·exact ((h.ty.fL v mv).2 g mg).2 e2 he
    ·exact ho
 ·rcases mem_set hv with hv | rfl
  ·exact h.fB.ends v2 hv g2 hg e2 he
  ·rcases mem_set hg with hg | rfl
   ·exact h.fB.ends v mv g2 hg e2 he
   ·rcases mem_set he with he | rfl
    ·exact h.fB.ends v mv g mg e2 he
    ·exact hk
def FG (h:List Bool):∀ k x,x ∈ iq h k->0<=x∧x < k∧x < h.length
 | 0,x,hx=>by cases hx
 | k+1,x,hx=>by
  simp only [iq] at hx;split at hx
  ·rename_i hk;rcases gH.1 hx with hx | hx
   ·have:=FG h k x hx;omega
   ·rw [gI.1 hx];have:=(dL.1 hk).1;omega
  ·have:=FG h k x hx;omega
def GA {c:eM} {n:Int} (h:(ux c).length≠0):0<=((ux c)[(n % (ux c).length).toNat]?).getD 0∧((ux c)[(n % (ux c).length).toNat]?).getD 0 < c.zL.length:=by
 have h1:0<=n % (ux c).length:=rV _ aw;have h2:n % (ux c).length < (ux c).length:=rW _ aw;have h3:(n % (ux c).length).toNat < (ux c).length:=aw
 rw [dM h3,gY];have:=FG c.zL c.zL.length _ (gQ h3);omega
def UE (n:Int):u64 (IntKind.u64.wrap n):=by
 have h:IntKind.u64.wrap n=n % 18446744073709551616:=rfl;rw [h];unfold u64;omega
structure Nx (N K:Nat) (w:Wor) (m:uw) (L:Wor->uw->u3->Gr->En->Prop) (F:uw->Prop) (μ:Wor->uw->Nat) (r:Wor × uw × uz):Prop where
 ev:r.2.2.access≠0
 st:St (N+1) (K+1) r.1
 pins:r.1.pins.length=w.pins.length
 tm:eU r.2.1
 op:r.2.1.op=m.op
 go:(r.2.1.done=true∧F r.2.1)∨(∃ v g e,qF r.1 r.2.1 v g e∧L r.1 r.2.1 v g e)∧μ r.1 r.2.1 < μ w m
structure CK (w:Wor) (m:uw) (v:u3) (g:Gr) (e:En):Prop where
 pc:(0<=m.pc∧m.pc<=12)∨(20<=m.pc∧m.pc<=23)
 ep:m.pc=1∨m.pc=2->m.zn=w.zn
 ec:(4<=m.pc∧m.pc<=12)∨m.pc=22->0<=m.listen
 early:4<=m.pc∧m.pc<=5->m.zi=0∧m.end_=0∧m.other=0
 oE:4<=m.pc∧m.pc<=8->m.slot=0
 draw:m.pc=6->∃ c,v.snap.zk[m.zi.toNat]?= some c∧(ux c).length≠0
 slot:m.pc=10∨m.pc=11->m.slot=zC m.word∧e.head=m.word
 link:m.pc=11->e.next[m.slot.toNat]?= some m.link
 iF:20<=m.pc->1<=m.answer.kind∧m.answer.kind<=5
 EH:(5<=m.pc∧m.pc<=12)∨(20<=m.pc∧m.pc<=22)->0<=m.listen->∃ x,w.zd[m.listen.toNat]?= some x∧1<=x.zg
def MC (m:uw):Prop:=1<=m.answer.kind∧m.answer.kind<=5
def Az (_:Wor) (m:uw):Nat:=(24 - m.pc).toNat
def Cj {w w':Wor} {m m':uw} (h:m.pc < m'.pc) (h2:m'.pc<=23):Az w' m' < Az w m:=by unfold Az;omega
def ER (l:List eE) (s:u4): -1<=zS l s∧zS l s < l.length:=by
 unfold zS;cases h:l.findIdx? (fun r=>r.name == s) with
 | none=>simp only;omega
 | some i=>
  have:=(gy.1 h).1;simp only;omega
def vW {v:u3} (h:mr v) {k:Nat} (hk:k < v.zm.length):∃ g e,v.zm[k]?= some g∧g.ends[0]?= some e∧0 < g.ends.length∧0 < e.next.length:=by
 obtain ⟨g,hg⟩:∃ g,v.zm[k]?= some g:=⟨_,dM hk⟩;have f:=h.fO.2 g (dO hg);have hl:0 < g.ends.length:=aw
 have he:g.ends[0]?= some g.ends[0]:=dM hl;exact ⟨g,g.ends[0],hg,he,hl,by have:=(f.2.2 _ (dO he)).2.2;omega⟩
section
variable {N K:Nat} {w:Wor} {m:uw} {v:u3} {g:Gr} {e:En}
def wA (su:qF w m v g e) {e':En} {tk:Int} (hl:e'.next.length=e.next.length) (gw:jC { w with ze:=w.ze.set m.version.toNat { v with zm:=v.zm.set m.zi.toNat { g with zt:=tk,ends:=g.ends.set m.end_.toNat e' } } }) {m':uw}
  (h1:m'.zf=m.zf) (h2:m'.done=false) (h3:m'.version=m.version) (h4:m'.zi=m.zi) (h5:m'.end_=m.end_) (h6:m'.other=m.other) (h7:m'.slot=m.slot) (h8:m'.listen=m.listen) (h9:m'.i=m.i) (h10:m'.k=m.k):
  qF { w with ze:=w.ze.set m.version.toNat { v with zm:=v.zm.set m.zi.toNat { g with zt:=tk,ends:=g.ends.set m.end_.toNat e' } } } m'
   { v with zm:=v.zm.set m.zi.toNat { g with zt:=tk,ends:=g.ends.set m.end_.toNat e' } } { g with zt:=tk,ends:=g.ends.set m.end_.toNat e' } e':=by
 have s1:=(dL.1 su.eQ).1;have s2:=(dL.1 su.ey).1;have s3:=(dL.1 su.eL).1;refine ⟨qh.2 gw,by rw [h1];exact su.zf,h2,?_,?_,?_,?_,?_,?_,?_,?_,?_,by rw [h9];exact su.i,by rw [h10];exact su.k⟩
 ·rw [h3];simpa using su.version
 ·rw [h3];exact dS s1
 ·rw [h4];simpa using su.zi
 ·rw [h4];exact dS s2
 ·rw [h5];simpa using su.end_
 ·rw [h5];exact dS s3
 ·rw [h6];simpa using su.other
 ·rw [h7,hl];exact su.slot
 ·rw [h8];exact su.listen
def zM {r:Wor × uw × uz} {P:Wor × uw × uz->Prop} {o:mP} (h:o=some r) (hp:P r):∃ r,o=some r∧P r:=⟨r,h,hp⟩
def W5 (st:St N K w) (su:qF w m v g e) (tm:eU m) (lo:CK w m v g e) (h3:m.pc < 3):∃ r,qf w m v g e=some r∧Nx N K w m CK MC Az r:=by
 have gw:=st.jq;have ge:=qa.1 gw.ground;have hep:=ge.zn;have st1:St (N+1) (K+1) w:=st.mono aw aw;have lp:=lo.pc;unfold qf;rw [dQ h3];unfold o3;rcases (by omega:m.pc=0∨m.pc=1∨m.pc=2) with p | p | p
 ·rw [dQ p]
  refine zM rfl ⟨uW,st1,rfl,uO,rfl,.inr ⟨⟨v,g,e,uQ,
   ⟨uL,fun _=>rfl,uK,uK,uK,uK,uK,uK,uK,uK⟩⟩,Cj (by show m.pc < 1;omega) (by show (1:Int)<=23;decide)⟩⟩
 ·have he:=lo.ep (.inl p);have hw:IntKind.i64.wrap (m.zn+1)=w.zn+1:=by rw [he];exact q9 aw aw
  rw [dN aw,dQ p,hw];have sp:=st1.lu m.zf.toNat (p:=w.zn+1) aw aw
  refine zM rfl ⟨tI,sp,aj,uO,rfl,.inr ⟨⟨v,g,e,⟨qh.2 sp.jq,aq su.zf,su.done,su.version,su.eQ,su.zi,su.ey,su.end_,su.eL,su.other,su.slot,su.listen,su.i,su.k⟩,
   ⟨uL,fun _=>he,uK,uK,uK,uK,uK,uK,uK,uK⟩⟩,Cj (by show m.pc < 2;omega) (by show (2:Int)<=23;decide)⟩⟩
 ·have he:=lo.ep (.inr p);rw [dN aw,dN aw,dQ p,dQ he.symm]
  refine zM rfl ⟨uW,st1,rfl,uO,rfl,.inr ⟨⟨v,g,e,uQ,
   ⟨uL,uK,uK,uK,uK,uK,uK,uK,uK,uK⟩⟩,Cj (by show m.pc < 3;omega) (by show (3:Int)<=23;decide)⟩⟩
end
def LD {e:En} (h:Slp.eu e=true) (n:Int) (h0:0<=n):Slp.eu (qt e e.head n)=true:=by
 obtain ⟨h1,h2,h3,h4⟩:=Slp.oI h;unfold Slp.eu;simp only [dU,gh];exact ⟨⟨⟨h1,h2⟩,h3⟩,h0⟩
def DD {l:eE} (h:Go.Gat.eu l=true):xh l.name=true∧0<=l.zg∧(l.drain || !l.closed)=true:=by
 unfold Go.Gat.eu at h;simp only [dU,gh] at h;exact ⟨h.1.1,h.1.2,h.2⟩
def Ds {l:eE} (h1:xh l.name=true) (h2:0<=l.zg) (h3:(l.drain || !l.closed)=true):Go.Gat.eu l=true:=by
 unfold Go.Gat.eu;simp only [dU,gh];exact ⟨⟨h1,h2⟩,h3⟩
section
variable {N K:Nat} {w:Wor} {m:uw} {v:u3} {g:Gr} {e:En}
def W7 (st:St N K w) (su:qF w m v g e) (tm:eU m) (lo:CK w m v g e) (hk:m.op.kind=1) (hN:N<=100000000) (p:m.pc=3):∃ r,qf w m v g e=some r∧Nx N K w m CK MC Az r:=by
 have gw:=st.jq;have st1:St (N+1) (K+1) w:=st.mono aw aw;have pr:=ER w.zd m.op.listen;have hl:=st.ty.ec;have cu:=gw.current;obtain ⟨v',hv'⟩:∃ v',w.ze[w.current.toNat]?= some v':=⟨_,dM aw⟩;have gv:=(gw.eJ _ v' hv').1;have h0:0 < v'.zm.length:=aE
 obtain ⟨g',e',hg,he,l1,l2⟩:=vW gv h0;unfold qf;rw [dN aw,dQ p];by_cases q:zS w.zd m.op.listen < 0
 ·rw [dQ q];refine zM rfl ⟨uW,st1,rfl,⟨aJ,tm.word,tm.link,tm.host,tm.path,tm.d0,tm.d1,tm.cfg,(fun h=>absurd ((show m.op.kind=6 from h).symm.trans hk) ar)⟩,rfl,.inr ⟨⟨v',g',e',⟨su.world,su.zf,su.done,cu,hv',⟨gk _,aK⟩,hg,⟨gk _,aK⟩,he,⟨gk _,aK⟩,⟨gk _,aK⟩,pr,su.i,su.k⟩,⟨uL,uK,uK,uK,uK,uK,uK,uK,fun _=>⟨by show (1:Int)<=2;decide,by show (2:Int)<=5;decide⟩,(fun _ h=>absurd (show 0<=zS w.zd m.op.listen from h) aw)⟩⟩,Cj (by show m.pc < 20;omega) (by show (20:Int)<=23;decide)⟩⟩
 ·rw [dN q]
  refine zM rfl ⟨uW,st1,rfl,⟨aJ,tm.word,tm.link,tm.host,tm.path,tm.d0,tm.d1,tm.cfg,tm.iF⟩,rfl,.inr ⟨⟨v',g',e',⟨su.world,su.zf,su.done,cu,hv',⟨gk _,aK⟩,hg,⟨gk _,aK⟩,he,⟨gk _,aK⟩,⟨gk _,aK⟩,pr,su.i,su.k⟩,
   ⟨uL,uK,fun _=>by show 0<=zS w.zd m.op.listen;omega,fun _=>⟨rfl,rfl,rfl⟩,fun _=>rfl,uK,uK,uK,uK,uK⟩⟩,Cj (by show m.pc < 4;omega) (by show (4:Int)<=23;decide)⟩⟩
def Gi (st:St N K w) (su:qF w m v g e) {x:eE} (hx:w.zd[m.listen.toNat]?= some x) (n:Int) (h0:0<=n) (h1:n<=K+1) (hK:K<=1099511627776):St (N+1) (K+1) { w with zd:=w.zd.set m.listen.toNat { x with zg:=n } }:=by
 have li:=DD (st.jq.ec _ x hx).1;exact (st.mono aw aw:St (N+1) (K+1) w).B8 hx rfl (Ds li.1 h0 li.2.2) (by show i64 n;unfold i64;omega) (by show n<=_;omega)
end
section
variable {N K:Nat} {w:Wor} {m:uw} {v:u3} {g:Gr} {e:En}
def vy (st:St N K w) (su:qF w m v g e):Slp.eu e=true∧e.next.length<=4∧1<=e.next.length∧0<=e.zg∧e.zg<=K∧e.ok∧u64 g.zt:=by
 have mv:=dO su.eQ;have mg:=dO su.ey;have me:=dO su.eL;have f:=((st.jq.eJ _ v su.eQ).1.fO.2 g mg).2.2 e me;exact ⟨f.1,f.2.1,f.2.2,(Slp.oI f.1).2.2.2,st.fB.ends v mv g mg e me,((st.ty.fL v mv).2 g mg).2 e me,((st.ty.fL v mv).2 g mg).1⟩
def Jv (st:St N K w) (su:qF w m v g e) {k pc:Int} (h0:0<=k) (h5:k<=5):∃ r2:List Int,r2.length=6∧wW w m k pc=some ({ w with counts:=w.counts.set m.zf.toNat r2 },{ m with pc:=pc },ez m 3 10 k):=by
 obtain ⟨r0,hr,hl⟩:=Sx st.jq su.zf.1 su.zf.2;unfold wW;rw [hr];dsimp only;rw [dM (show k.toNat < r0.length by omega)];exact ⟨_,aq hl,rfl⟩
end
def look (m:List (Int × Value)) (i:Int):Option Value:=(jj m i).bind fun j=>(m[j]?).map (·.2)
def Kk (m:List (Int × Value)) (i:Int):jj m i=(m.map (·.1)).findIdx? (fun k=>decide (k=i)):=by
 unfold jj;rw [r4]
 rfl
def TU (m:List (Int × Value)) (k i:Int) (v:Value):look (yn m k v) i=if k=i then some v else look m i:=by
 unfold yn;cases hf:jj m k with
 | some j=>
  dsimp only;obtain ⟨u,hu⟩:=xU hf
  have keys:(m.set j (k,v)).map (·.1)=m.map (·.1):=by
   rw [pM];exact yD _ _ (by rw [dP,hu];rfl)
  have e:jj (m.set j (k,v)) i=jj m i:=by rw [Kk,Kk,keys]
  unfold look;rw [e];have ux:=(dL.1 hu).1;by_cases hki:k=i
  ·subst hki;rw [dQ rfl,hf];simp [ux]
  ·rw [dN hki];cases hi:jj m i with
   | none=>rfl
   | some j'=>
    obtain ⟨u',hu'⟩:=xU hi
    have hne:j≠j':=by
     rintro rfl;rw [hu] at hu';cases hu'
     exact hki rfl
    simp [dY,hne]
 | none=>
  dsimp only
  have e:jj (m++[(k,v)]) i=if k=i then some m.length else jj m i:=by
   unfold jj;rw [sg];by_cases hki:k=i
   ·subst hki;have:m.findIdx? (fun kv=>decide (kv.1=k))=none:=hf;rw [this,dQ rfl];simp
   ·rw [dN hki];cases m.findIdx? (fun kv=>decide (kv.1=i)) with
    | some j=>rfl
    | none=>simp [hki]
  unfold look;rw [e];by_cases hki:k=i
  ·rw [dQ hki,dQ hki];simp
  ·rw [dN hki,dN hki];cases hi:jj m i with
   | none=>rfl
   | some j'=>
    obtain ⟨u',hu'⟩:=xU hi;have:=(dL.1 hu').1;simp [dT this]
theorem PR (l:List eC) (i:Int):vv l i=(match look (yK l) i with | some (.bool b)=>b | _=>false):=rfl
def PQ (l:List eC) (r:eC):yK (l++[r])=yn (yK l) r.version (Value.bool r.gone):=by
 unfold yK;rw [rL]
 rfl
def Jl (l:List eC) (r:eC) (i:Int):vv (l++[r]) i=if r.version=i then r.gone else vv l i:=by
 rw [PR,PQ,TU];by_cases h:r.version=i
 ·rw [dQ h,dQ h]
 ·rw [dN h,dN h]
  rfl
def BP (l:List eC) (i:Int) (hu:∀ (a b:Nat) (x y:eC),l[a]?= some x->l[b]?= some y->x.version=y.version->a=b):vv l i=true↔∃ r ∈ l,r.version=i∧r.gone=true:=by
 have key:∀ n,∀ l:List eC,l.length=n->(∀ (a b:Nat) (x y:eC),l[a]?= some x->l[b]?= some y->x.version=y.version->a=b)->(vv l i=true↔∃ r ∈ l,r.version=i∧r.gone=true):=by
  intro n
  induction n with
  | zero=>
   intro l hl _;rw [pU.1 hl];constructor
   ·intro h;cases h
   ·rintro ⟨r,hr,_⟩;cases hr
  | succ n ih=>
   intro l hl hu;obtain ⟨l',r,rfl⟩:∃ l' r,l=l'++[r]:=⟨l.dropLast,l.getLast (by rintro rfl;cases hl),(List.dropLast_concat_getLast _).symm⟩;have hl':l'.length=n:=aq hl
   have ih':=ih l' hl' fun a b x y ha hb=>hu a b x y (by rw [dT (dL.1 ha).1];exact ha) (by rw [dT (dL.1 hb).1];exact hb)
   have hlast:(l'++[r])[l'.length]?= some r:=aj
   rw [Jl];by_cases h:r.version=i
   ·rw [dQ h];constructor
    ·intro hg;exact ⟨r,aj,h,hg⟩
    ·rintro ⟨x,hx,hv,hg⟩;obtain ⟨a,ha⟩:=gm.1 hx;have:=hu a _ x r ha hlast (by rw [hv,h]);subst this;rw [hlast] at ha;cases ha
     exact hg
   ·rw [dN h,ih'];constructor
    ·rintro ⟨x,hx,hv⟩;exact ⟨x,by simp [hx],hv⟩
    ·rintro ⟨x,hx,hv,hg⟩;rcases gH.1 hx with hx | hx
     ·exact ⟨x,hx,hv,hg⟩
     ·rw [gI.1 hx] at hv;exact absurd hv h
 exact key _ l rfl hu
def Cl {l:List eC} (h:Go.Lim.eu l=true) {i:Nat} {x:eC} (hx:l[i]?= some x):0<=x.version∧0<=x.at_∧∀ (j:Nat) (y:eC),j < i->l[j]?= some y->y.version≠x.version:=by
 have h2:=gK (show decide (∀ i,(h:i < l.length)->Go.Lim.fb l i l[i]=true)=true from h) i (dL.1 hx).1;rw [(dL.1 hx).2] at h2;unfold Go.Lim.fb Go.Lim.Bs at h2;simp only [dU,gX,gZ,gP,gT] at h2;refine ⟨aw,aw,fun j y hj hy he=>h2.2 y ?_ he⟩;exact gm.2 ⟨j,by rw [gE,dQ hj];exact hy⟩
def LG {l:List eC}:Go.Lim.eu l=true↔∀ (i:Nat) (x:eC),l[i]?= some x->0<=x.version∧0<=x.at_∧∀ (j:Nat) (y:eC),j < i->l[j]?= some y->y.version≠x.version:=by
 constructor
 ·exact fun h i x hx=>Cl h hx
 ·intro h;refine ru fun i hi=>?_
  obtain ⟨h1,h2,h3⟩:=h i l[i] (dM hi);unfold Go.Lim.fb Go.Lim.Bs;simp only [dU,gX,gZ,gP,gT];refine ⟨⟨aw,aw⟩,fun y hy he=>?_⟩;obtain ⟨j,hj⟩:=gm.1 hy;rw [gE] at hj;split at hj
  ·exact h3 j y (by assumption) hj he
  ·cases hj
def BW {l:List eC} (h:Go.Lim.eu l=true):∀ (a b:Nat) (x y:eC),l[a]?= some x->l[b]?= some y->x.version=y.version->a=b:=fun a b x y ha hb he=>by
 rcases rC a b with ux | rfl | ux
 ·exact absurd he ((Cl h hb).2.2 a x ux ha)
 ·rfl
 ·exact absurd he.symm ((Cl h ha).2.2 b y ux hb)
def R6 (n:Int):(Slp.kq n).1.ok:=by
 unfold Slp.kq;split
 ·exact ⟨ar,⟨fun x hx=>(by cases hx),ar⟩,ar⟩
 ·refine ⟨(by decide:u64 1),⟨fun x hx=>?_,?_⟩,(by decide:i64 0)⟩
  ·obtain ⟨i,hi,rfl⟩:=gG.1 hx;have:=pG.1 hi;split
   ·decide
   ·exact ⟨aw,aw⟩
  ·simp;omega
def vY {x:eM} (h:D7 x):Slp.eu (xE x)=true∧((xE x).next.length:Int)=x.xL∧(xE x).zg=0∧(xE x).ok:=by
 have hs:=h.xL;unfold xE;have:x.xL=1∨x.xL=2∨x.xL=3∨x.xL=4:=aw
 rcases this with e | e | e | e <;> rw [e] <;> exact ⟨ar,ar,ar,R6 _⟩
def Jr {s:Sna} (h:vj s=true):mr (qO s).1:=by
 unfold qO;rw [dQ h];refine ⟨h,aj,fun i g x hg hx=>?_⟩;simp only [dP] at hg;have hx:s.zk[i]?= some x:=hx;rw [hx] at hg;cases hg
 have gc:=(jx h).all x (dO hx);have f:=vY gc;refine ⟨by unfold im;simp,fun e he=>?_⟩;unfold im at he;rw [gS he];exact ⟨f.1,f.2.1⟩
section
variable {N K:Nat} {w:Wor} {m:uw} {v:u3} {g:Gr} {e:En}
def St.Lj (st:St N K w) {c:eP} (hc:(qN c).1=0) (sk:xB c):St (N+1) (K+1) { w with current:=w.ze.length,ze:=w.ze++[y4 c] }:=by
 have sc:=vO sk hc;have gw:=st.jq;have hb:=C4 hc;have gv:mr (y4 c):=Jr hb;have hsw:y4 c=⟨(jv c).1,(jv c).1.zk.map im,false⟩:=by unfold y4 qO;rw [dQ hb]
 have la:∀ r ∈ w.zr,0<=r.version∧r.version < w.ze.length:=fun r hr=>by
  obtain ⟨i,hi⟩:=gm.1 hr;have:=AN gw hi;omega
 refine ⟨⟨gw.ground,⟨sL _,by show ((w.ze.length:Nat):Int) < ((w.ze++[y4 c]).length:Nat);simp only [gR,p9];omega⟩,gw.zr,fun r hr=>?_,fun i v2 hv=>?_,gw.ec⟩,⟨by have:=st.ty.iu;simp;omega,bZ,by have:=st.ty.fQ;show w.zr.length<=_;omega,fun v2 hv=>?_,st.ty.lq⟩,⟨fun l hl=>by have:=st.fB.ec l hl;omega,fun v2 hv g2 hg e2 he=>?_⟩⟩
 ·have h1:=la r hr;have h2:=gw.bad r hr;unfold yx at h2 ⊢;simp at h2 ⊢;omega
 ·have hv:(w.ze++[y4 c])[i]?= some v2:=hv;by_cases hi:i < w.ze.length
  ·rw [dT hi] at hv;exact gw.eJ i v2 hv
  ·rw [gj aw] at hv
   have:i - w.ze.length=0:=by
    have:=(dL.1 hv).1;exact cP
   rw [this] at hv;cases hv
   refine ⟨gv,?_⟩;rw [hsw];show false=vv w.zr i
   symm
   by_cases hg:vv w.zr i=true
   ·obtain ⟨r,hr,he,_⟩:=(BP w.zr i (BW gw.zr)).1 hg;have:=la r hr;omega
   ·simpa using hg
 ·rcases gH.1 hv with hv | hv
  ·exact st.ty.fL v2 hv
  ·rw [gI.1 hv,hsw];refine ⟨wT sc,fun g2 hg=>?_⟩;obtain ⟨x,hx,rfl⟩:=gG.1 hg;have f:=vY ((jx hb).all x hx);refine ⟨(by decide:u64 0),fun e2 he=>?_⟩;unfold im at he;rw [gS he];exact f.2.2.2
 ·rcases gH.1 hv with hv | hv
  ·have:=st.fB.ends v2 hv g2 hg e2 he;omega
  ·rw [gI.1 hv,hsw] at hg;obtain ⟨x,hx,rfl⟩:=gG.1 hg;have f:=vY ((jx hb).all x hx);unfold im at he;rw [gS he,f.2.2.1];omega
def St.LQ (st:St N K w) {x:eC} (h0:0<=x.version) (h1:x.version < w.ze.length) (h2:x.version≠w.current) (h3:0<=x.at_) (h4:x.at_<=w.zn) (hg:x.gone=false) (hn:∀ r ∈ w.zr,r.version≠x.version):St (N+1) (K+1) { w with zr:=w.zr++[x] }:=by
 have gw:=st.jq;refine ⟨⟨gw.ground,gw.current,?_,fun r hr=>?_,fun i v2 hv=>⟨(gw.eJ i v2 hv).1,?_⟩,gw.ec⟩,⟨by have:=st.ty.iu;show w.ze.length<=_;omega,bZ,by have:=st.ty.fQ;simp;omega,st.ty.fL,st.ty.lq⟩,⟨fun l hl=>by have:=st.fB.ec l hl;omega,fun v2 hv g2 hg e2 he=>by have:=st.fB.ends v2 hv g2 hg e2 he;omega⟩⟩
 ·rw [LG];intro i y hy;by_cases hi:i < w.zr.length
  ·have hy':w.zr[i]?= some y:=by rw [<- dT (l₂:=[x]) hi];exact hy
   obtain ⟨a,b,c⟩:=Cl gw.zr hy';exact ⟨a,b,fun j z hj hz=>c j z hj (by rw [<- dT (l₂:=[x]) aw];exact hz)⟩
  ·have hy2:(w.zr++[x])[i]?= some y:=hy;rw [gj aw] at hy2
   have:i - w.zr.length=0:=by
    have:=(dL.1 hy2).1;exact cP
   rw [this] at hy2;cases hy2
   refine ⟨h0,h3,fun j z hj hz=>?_⟩;have hz2:(w.zr++[x])[j]?= some z:=hz;rw [dT aw] at hz2;exact hn z (dO hz2)
 ·rcases gH.1 hr with hr | hr
  ·exact gw.bad r hr
  ·rw [gI.1 hr];unfold yx;simp;omega
 ·rw [(gw.eJ i v2 hv).2];show _=vv (w.zr++[x]) i;rw [Jl];by_cases he:x.version=i
  ·rw [dQ he,hg];by_cases hgo:vv w.zr i=true
   ·obtain ⟨r,hr,hv2,_⟩:=(BP w.zr i (BW gw.zr)).1 hgo;exact absurd (hv2.trans he.symm) (hn r hr)
   ·simpa using hgo
  ·rw [dN he]
def St.qm (st:St N K w) {i:Nat} {k:Int} {v2:u3} {x:eC} (h0:0<=k) (hv:w.ze[k.toNat]?= some v2) (hx:w.zr[i]?= some x) (he:x.version=k):St (N+1) (K+1) { w with ze:=w.ze.set k.toNat (nX v2),zr:=w.zr.set i (wj x) }:=by
 have gw:=st.jq;have la:=AN gw hx
 have same:∀ (j:Nat) (y:eC),(w.zr.set i (wj x))[j]?= some y->∃ z,w.zr[j]?= some z∧z.version=y.version∧z.at_=y.at_:=fun j y hy=>by
  rcases xW hy with ⟨rfl,rfl,_⟩ | ⟨_,hy⟩
  ·exact ⟨x,hx,rfl,rfl⟩
  ·exact ⟨y,hy,rfl,rfl⟩
 have isL:Go.Lim.eu (w.zr.set i (wj x))=true:=by
  rw [LG];intro j y hy;obtain ⟨z,hz,e1,e2⟩:=same j y hy;obtain ⟨a,b,c⟩:=Cl gw.zr hz;refine ⟨aw,aw,fun j2 y2 hj hy2=>?_⟩;obtain ⟨z2,hz2,e3,_⟩:=same j2 y2 hy2;rw [<- e3,<- e1];exact c j2 z2 hj hz2
 refine ⟨⟨gw.ground,aq gw.current,isL,fun r hr=>?_,fun j v3 hv3=>?_,gw.ec⟩,⟨by have:=st.ty.iu;simp;omega,bZ,by have:=st.ty.fQ;simp;omega,fun v3 hv3=>?_,st.ty.lq⟩,⟨fun l hl=>by have:=st.fB.ec l hl;omega,fun v3 hv3 g2 hg e2 he=>?_⟩⟩
 ·obtain ⟨j,hj⟩:=gm.1 hr;obtain ⟨z,hz,e1,e2⟩:=same j r hj;have:=gw.bad z (dO hz);unfold yx at this ⊢;rw [<- e1,<- e2];simpa using this
 ·have gone2:vv (w.zr.set i (wj x)) j=if (j:Int)=k then true else vv w.zr j:=by
   by_cases hjk:(j:Int)=k
   ·rw [dQ hjk,BP _ _ (BW isL)];exact ⟨wj x,gm.2 ⟨i,dS (dL.1 hx).1⟩,by show x.version=_;omega,rfl⟩
   ·rw [dN hjk,ur,BP _ _ (BW isL),BP _ _ (BW gw.zr)];constructor
    ·rintro ⟨r,hr,h1,h2⟩;rcases mem_set hr with hr | rfl
     ·exact ⟨r,hr,h1,h2⟩
     ·exact absurd (show x.version=j from h1) aw
    ·rintro ⟨r,hr,h1,h2⟩;obtain ⟨b,hb⟩:=gm.1 hr
     have hbi:i≠b:=by
      rintro rfl;rw [hx] at hb;cases hb
      omega
     exact ⟨r,gm.2 ⟨b,by rw [dY,dN hbi];exact hb⟩,h1,h2⟩
  show mr v3∧v3.qm=vv (w.zr.set i (wj x)) j;rw [gone2];rcases xW hv3 with ⟨rfl,rfl,_⟩ | ⟨hne,hv3⟩
  ·rw [dQ aw];exact ⟨⟨(gw.eJ _ v2 hv).1.snap,(gw.eJ _ v2 hv).1.len,(gw.eJ _ v2 hv).1.nO⟩,rfl⟩
  ·rw [dN aw];exact gw.eJ j v3 hv3
 ·rcases mem_set hv3 with hv3 | rfl
  ·exact st.ty.fL v3 hv3
  ·exact st.ty.fL v2 (dO hv)
 ·rcases mem_set hv3 with hv3 | rfl
  ·have:=st.fB.ends v3 hv3 g2 hg e2 he;omega
  ·have:=st.fB.ends v2 (dO hv) g2 hg e2 he;omega
end
structure Eg (w:Wor) (m:uw) (v:u3) (g:Gr) (e:En):Prop where
 pc:0<=m.pc∧m.pc<=2
 eJ:1<=m.pc->m.version≠w.current∧∀ r ∈ w.zr,r.version≠m.version
 ep:m.pc=2->0<=m.zn∧m.zn<=w.zn
def V4 (m:uw):Prop:=6<=m.answer.kind∧m.answer.kind<=13
def CW (_:Wor) (m:uw):Nat:=(3 - m.pc).toNat
section
variable {N K:Nat} {w:Wor} {m:uw} {v:u3} {g:Gr} {e:En}
def FW (st:St N K w) (su:qF w m v g e) (tm:eU m) (lo:Eg w m v g e) (hk:m.op.kind=3):∃ r,y5 w m=some r∧Nx N K w m Eg V4 CW r:=by
 have gw:=st.jq;have st1:St (N+1) (K+1) w:=st.mono aw aw;have pc:=lo.pc;have cu:=gw.current;unfold y5;rcases (by omega:m.pc=0∨m.pc=1∨m.pc=2) with p | p | p
 ·rw [dQ p];by_cases q:lQ m.op.config=0
  ·rw [dQ q];have hc:(qN m.op.config).1=0:=by rw [<- km];exact q
   have st2:=st.Lj hc (tm.cfg hk);obtain ⟨v',hv'⟩:∃ v',w.ze[w.current.toNat]?= some v':=⟨_,dM aw⟩;have gv:=(gw.eJ _ v' hv').1;have h0:0 < v'.zm.length:=aE
   obtain ⟨g',e',hg,he,l1,l2⟩:=vW gv h0
   refine zM rfl ⟨(by show (6:Int)≠0;decide),st2,rfl,uO,rfl,.inr ⟨⟨v',g',e',⟨qh.2 st2.jq,su.zf,su.done,⟨cu.1,aR⟩,
    by show (w.ze++[y4 m.op.config])[w.current.toNat]?= some v';rw [dT aw];exact hv',⟨gk _,aK⟩,hg,⟨gk _,aK⟩,he,⟨gk _,aK⟩,⟨gk _,aK⟩,su.listen,by show (0:Int)<=(w.ze.length:Nat);omega,su.k⟩,
    ⟨uL,fun _=>⟨by show w.current≠(w.ze.length:Nat);omega,fun r hr=>?_⟩,uK⟩⟩,by unfold CW;show (3 - 1:Int).toNat < (3 - m.pc).toNat;omega⟩⟩
   obtain ⟨i,hi⟩:=gm.1 hr;exact (AN gw hi).2.2.2.2
  ·rw [dN q];exact zM rfl ⟨uW,st1,rfl,uP,rfl,.inl ⟨rfl,by show (6:Int)<=9∧(9:Int)<=13;decide⟩⟩
 ·have vf:=lo.eJ aw;have ep:=(qa.1 gw.ground).zn;rw [dN aw,dQ p];refine zM rfl ⟨uW,st1,rfl,uO,rfl,.inr ⟨⟨v,g,e,uQ,⟨uL,fun _=>vf,fun _=>⟨ep.1,gk _⟩⟩⟩,by unfold CW;show (3 - 2:Int).toNat < (3 - m.pc).toNat;omega⟩⟩
 ·have vf:=lo.eJ aw;have ep:=lo.ep p;have sv:=su.version
  have nl:wo w m=false:=by
   unfold wo;simp only [pn,gP,gT,beq_eq_false_iff_ne,gZ];exact ⟨⟨⟨fun r hr=>vf.2 r hr,vf.1⟩,aw⟩,aw⟩
  have st2:=st.LQ (x:=⟨m.version,m.zn,false⟩) sv.1 sv.2 vf.1 ep.1 ep.2 rfl vf.2;rw [dN aw,dN aw,dQ p,nl];exact zM rfl ⟨tI,st2,rfl,uP,rfl,.inl ⟨rfl,by show (6:Int)<=8∧(8:Int)<=13;decide⟩⟩
def WN (_:Wor) (m:uw) (_:u3) (_:Gr) (_:En):Prop:=m.pc=0
def V5 (_:Wor) (m:uw) (_:u3) (_:Gr) (_:En):Prop:=m.pc=9
structure WO (w:Wor) (m:uw) (v:u3) (g:Gr) (e:En):Prop where
 pc:m.pc=0
 k:m.k < 6
 i:m.i < w.counts.length
def MR (w:Wor) (m:uw):Nat:=((w.counts.length - m.i) * 6 - m.k).toNat
end
structure WM (w:Wor) (m:uw) (v:u3) (g:Gr) (e:En):Prop where
 pc:(0<=m.pc∧m.pc<=6)∨(8<=m.pc∧m.pc<=10)
 lu:m.pc=2->m.i < w.pins.length
 W3:m.pc=4->m.i<=w.zr.length
 fQ:m.pc=5∨m.pc=6->∃ r,w.zr[m.i.toNat]?= some r∧r.version=m.version∧r.gone=false
 act:m.pc=5->m.k < (yo v).length
 ec:m.pc=9∨m.pc=10->∃ l,w.zd[m.i.toNat]?= some l∧l.drain=true
def MQ (w:Wor) (m:uw):Nat:=(
 if m.pc=0 then 20 * (w.zr.length:Int)+4 * w.zd.length+w.pins.length+20
 else if m.pc=1 then 20 * (w.zr.length:Int)+4 * w.zd.length+w.pins.length+19
 else if m.pc=2 then 20 * (w.zr.length:Int)+4 * w.zd.length+10+(w.pins.length - m.i)
 else if m.pc=3 then 20 * (w.zr.length:Int)+4 * w.zd.length+10
 else if m.pc=4 then (w.zr.length - m.i) * 20+4 * w.zd.length+5
 else if m.pc=5 then (w.zr.length - m.i) * 20+4 * w.zd.length+5 - 1 - m.k
 else if m.pc=6 then (w.zr.length - m.i) * 20+4 * w.zd.length+5 - 18
 else if m.pc=8 then (w.zd.length - m.i) * 4
 else if m.pc=9 then (w.zd.length - m.i) * 4 - 1
 else (w.zd.length - m.i) * 4 - 2:Int).toNat
def Mg:∀ (l:List Gr),(∀ g ∈ l,g.ends.length<=4)->(l.flatMap (·.ends)).length<=l.length * 4
 | [],_=>by simp
 | g::l,h=>by
  have:=Mg l fun x hx=>h x (pj _ hx)
  have:=h g (pz ..);simp only [ud,gR,pV];omega
def KC {v:u3} (h:mr v):1<=(yo v).length∧(yo v).length<=16:=by
 have f:=h.fO;have h4:=Mg v.zm fun g hg=>(f.2 g hg).1
 refine ⟨?_,by unfold yo;omega⟩;have h0:0 < v.zm.length:=by have:=(jx h.snap).zk.1;have:=h.len;omega
 obtain ⟨g,e,hg,he,_,_⟩:=vW h h0;have:e ∈ yo v:=List.mem_flatMap.2 ⟨g,dO hg,dO he⟩;exact List.length_pos_of_mem this
section
variable {N K:Nat} {w:Wor} {m:uw} {v:u3} {g:Gr} {e:En}
end
end Go.Wor
namespace Go.Wor
open Go.Ab Go.Proofs Tryz Go.Gat Go.Nam Go.Hos Go.Con Go.Sna Go.Pla
open Go.Hy hiding encI
def MD (w:Wor) (m:uw) (v:u3) (g:Gr) (e:En):Prop:=(m.op.kind=1∧CK w m v g e)∨(m.op.kind=2∧V5 w m v g e)∨(m.op.kind=3∧Eg w m v g e)∨(m.op.kind=4∧WN w m v g e)∨(m.op.kind=5∧WM w m v g e)∨(m.op.kind=6∧WO w m v g e)
def MB (m:uw):Prop:=1<=m.answer.kind∧m.answer.kind<=13∧(m.op.kind=1↔m.answer.kind<=5)
def HQ (w:Wor) (m:uw):Nat:=if m.op.kind=1 then Az w m else if m.op.kind=3 then CW w m else if m.op.kind=5 then MQ w m else if m.op.kind=6 then MR w m else 0
section
variable {N K:Nat} {w:Wor} {m:uw} {v:u3} {g:Gr} {e:En}
def Nx.up {k:Int} {L:Wor->uw->u3->Gr->En->Prop} {F:uw->Prop} {μ:Wor->uw->Nat} {r:Wor × uw × uz} (h:Nx N K w m L F μ r) (hk:m.op.kind=k) (hL:∀ w' m' v g e,m'.op.kind=k->L w' m' v g e->MD w' m' v g e) (hF:∀ m',m'.op.kind=k->F m'->MB m') (hμ:∀ w' m',m'.op.kind=k->HQ w' m'=μ w' m'):Nx N K w m MD MB HQ r:=by
 have hk':r.2.1.op.kind=k:=by rw [h.op];exact hk
 refine ⟨h.ev,h.st,h.pins,h.tm,h.op,?_⟩;rcases h.go with ⟨h1,h2⟩ | ⟨⟨v',g',e',h1,h2⟩,h3⟩
 ·exact .inl ⟨h1,hF _ hk' h2⟩
 ·exact .inr ⟨⟨v',g',e',h1,hL _ _ _ _ _ hk' h2⟩,by rw [hμ _ _ hk',hμ _ _ hk];exact h3⟩
def Uw (su:qF w m v g e):kC w m=if m.op.kind=1 then qf w m v g e else if m.op.kind=2 then yp w m v g e else if m.op.kind=3 then y5 w m else if m.op.kind=4 then wa w m
  else if m.op.kind=5 then yu w m else if m.op.kind=6 then vJ w m else none:=by
 unfold kC;rw [su.eQ];dsimp only;rw [su.ey];dsimp only;rw [su.eL]
end
def JH {w:Wor} {m:uw} {v:u3} {g:Gr} {e:En} (su:qF w m v g e):zY w m=true:=by
 unfold zY;simp only [dU,gX,ve];refine ⟨⟨⟨⟨su.world,su.zf⟩,su.done⟩,su.version⟩,?_⟩;rw [su.eQ];simp only [dU,ve];refine ⟨su.zi,?_⟩;rw [su.ey];simp only [dU,ve,gh];rw [su.eL];simp only [ve];exact ⟨⟨⟨su.end_,su.other⟩,su.slot⟩,⟨⟨by have:=su.listen;omega,su.i⟩,su.k⟩⟩
end Go.Wor
