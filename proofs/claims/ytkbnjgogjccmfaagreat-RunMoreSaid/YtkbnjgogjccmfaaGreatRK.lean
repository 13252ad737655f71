import Derived.Test.YtkbnjgogjccmfaaGreatRS
import Derived.Test.YtkbnjgogjccmfaaGreatRI
set_option linter.all false
set_option maxRecDepth 100000
set_option maxHeartbeats 4000000
namespace Go.Slp
open Go.Ab Go.Hy
def D6 {x i:Int} (h1: -1<=i) (h2:i<=2147483646):qT x i % 4294967296 - 1=i:=by unfold qT;omega
def Qa {x i:Int} (h1: -1<=i) (h2:i<=2147483646):qT x i / 4294967296=(x / 4294967296+1) % 4294967296:=by unfold qT;omega
def E7 {x i:Int} (h1: -1<=i) (h2:i<=2147483646):u64 (qT x i):=by unfold qT u64;omega
def Cy (nx:List Int) (i0:Int):∀ k,jL nx (eZ nx i0) k=jL nx i0 (k+1)
 | 0=>rfl
 | k+1=>by
  show eZ nx (jL nx (eZ nx i0) k)=eZ nx (jL nx i0 (k+1));rw [Cy nx i0 k]
def Jx (nx:List Int) (i0:Int) (k:Nat):jY nx i0 (k+1)=i0::jY nx (eZ nx i0) k:=by
 unfold jY;rw [List.range_succ_eq_map,pE,pT]
 congr 1
 apply rz
 intro j _;exact (Cy nx i0 j).symm
def Eg {nx:List Int} {i0:Int} (h:eP nx i0=true) (h0:¬i0 < 0):jO nx (eZ nx i0)+1=jO nx i0∧eP nx (eZ nx i0)=true∧jY nx i0 (jO nx i0)=i0::jY nx (eZ nx i0) (jO nx (eZ nx i0)):=by
 have hp:=Ko h h0;obtain ⟨N,hN⟩:∃ N,jO nx i0=N+1:=⟨jO nx i0 - 1,aw⟩;obtain ⟨c1,c2,c3⟩:=yx nx i0
 have hend:jL nx (eZ nx i0) N= -1:=by
  rw [Cy,<- hN];simpa [eP] using h
 have e:jO nx (eZ nx i0)=N:=by
  refine EN ?_ ?_
  ·have:fC nx (jL nx (eZ nx i0) N)=false:=by rw [hend];simp [fC]
   simp [yf,this]
  ·intro j hj;have:=c3 (j+1) aw;simp only [yf,gY,pQ] at this ⊢;rw [Cy];refine ⟨this.1,?_⟩;have h2:=this.2;rw [Jx] at h2;simp only [List.contains_cons,gY] at h2;exact h2.2
 refine ⟨by rw [e,hN],by simp [eP,e,hend],?_⟩;rw [hN,e,Jx]
def oN {e:En} (h:eP e.next (zC e)=true):qx e=(jY e.next (zC e) (jO e.next (zC e)),0):=by
 unfold qx;rw [dO h]
def TD {e:En} (he:e.ok) {a:En} {i:Int} (h:DA e=(a,i,0)):
  u5 e=true∧¬zC e < 0∧i=zC e∧a=⟨qT e.head (eZ e.next (zC e)),e.next,e.zf⟩∧zC a=eZ e.next (zC e)∧u5 a=true∧a.ok∧(qx a).2=0∧(qx e)=(i::(qx a).1,0):=by
 unfold DA at h;cases hv:u5 e with
 | false=>rw [dO hv] at h;simp at h
 | true=>
  rw [dL (by simp [hv])] at h;by_cases h0:zC e < 0
  ·rw [dO h0] at h;simp at h
  ·rw [dL h0] at h;cases h
   obtain ⟨g1,g2,g3,g4⟩:=Kw hv h0;obtain ⟨b1,b2,b3,b4⟩:=n7 hv;have hh:zC ⟨qT e.head (eZ e.next (zC e)),e.next,e.zf⟩=eZ e.next (zC e):=D6 g3 aw;obtain ⟨t1,t2,t3⟩:=Eg b1 h0;have hok:eP (⟨qT e.head (eZ e.next (zC e)),e.next,e.zf⟩:En).next (zC ⟨qT e.head (eZ e.next (zC e)),e.next,e.zf⟩)=true:=by rw [hh];exact t2
   refine ⟨rfl,h0,rfl,rfl,hh,?_,⟨E7 g3 aw,he.2⟩,?_,?_⟩
   ·simp only [u5,hok,tx,dS,dZ];exact ⟨⟨b2,b3⟩,b4⟩
   ·rw [oN hok]
   ·rw [oN b1,oN hok,hh,t3]
def IM {nx:List Int} {s p v:Int} (h:p≠s) (h1:0<=s) (h2:0<=p):eZ (nx.set s.toNat v) p=eZ nx p:=by
 unfold eZ;rw [dW,dL aw]
def O9 {nx:List Int} {s v:Int} (h1:0<=s) (h2:s < nx.length):eZ (nx.set s.toNat v) s=v:=by
 unfold eZ;rw [dW,dO rfl,dO aw]
 rfl
def S3 {e:En} (he:e.ok) {slot:Int} {a:En} (h:Dh e slot=(a,0)):
  u5 e=true∧0<=slot∧slot < e.next.length∧a=⟨qT e.head slot,e.next.set slot.toNat (zC e),e.zf⟩∧zC a=slot∧u5 a=true∧a.ok∧(qx e).2=0∧qx a=(slot::(qx e).1,0):=by
 unfold Dh at h;cases hv:u5 e with
 | false=>rw [dO hv] at h;simp at h
 | true=>
  rw [dL (by simp [hv])] at h;by_cases h0:slot < 0∨e.next.length<=slot
  ·rw [dO h0] at h;simp at h
  ·rw [dL h0] at h;cases hc:(qx e).1.contains slot with
   | true=>rw [dO hc] at h;simp at h
   | false=>
    rw [dL (by rw [hc];decide)] at h;cases h
    obtain ⟨b1,b2,b3,b4⟩:=n7 hv;have s1:0<=slot:=aw
    have s2:slot < e.next.length:=aw
    have hh:zC ⟨qT e.head slot,e.next.set slot.toNat (zC e),e.zf⟩=slot:=D6 aw aw;obtain ⟨c1,c2,c3⟩:=yx e.next (zC e);generalize hN:jO e.next (zC e)=N at *;have hfr:qx e=(jY e.next (zC e) N,0):=by rw [oN b1,hN]
    rw [hfr] at hc
    have hnot:∀ k,k < N->jL e.next (zC e) k≠slot∧0<=jL e.next (zC e) k:=fun k hk=>by
     constructor
     ·intro e2;have:slot ∈ jY e.next (zC e) N:=gC.2 ⟨k,pD.2 hk,e2⟩;simp [this] at hc
     ·have:=c3 k hk;simp only [yf,gY,pQ,fC,dS,dZ] at this;exact this.1.1
    have hpos:∀ k,k<=N->jL (e.next.set slot.toNat (zC e)) slot (k+1)=jL e.next (zC e) k:=by
     intro k
     induction k with
     | zero=>intro _;exact O9 s1 s2
     | succ k ih=>
      intro hk;show eZ _ (jL (e.next.set slot.toNat (zC e)) slot (k+1))=eZ e.next (jL e.next (zC e) k);rw [ih aw];exact IM (hnot k aw).1 s1 (hnot k aw).2
    have hvis:∀ k,k<=N->jY (e.next.set slot.toNat (zC e)) slot (k+1)=slot::jY e.next (zC e) k:=fun k hk=>by
     unfold jY;rw [List.range_succ_eq_map,pE,pT]
     congr 1
     apply rz
     intro j hj;exact hpos j (by have:=pD.1 hj;omega)
    have hin:∀ p,fC (e.next.set slot.toNat (zC e)) p=fC e.next p:=fun p=>by simp [fC]
    have hend:jL e.next (zC e) N= -1:=by
     have:eP e.next (zC e)=true:=b1;simp only [eP,hN,gM] at this;exact dw
    have hcnt:jO (e.next.set slot.toNat (zC e)) slot=N+1:=by
     refine EN ?_ ?_
     ·have:fC (e.next.set slot.toNat (zC e)) (jL (e.next.set slot.toNat (zC e)) slot (N+1))=false:=by rw [hpos N (dU _),hend,hin];simp [fC]
      simp [yf,this]
     ·intro j hj;cases j with
      | zero=>
       simp only [yf,jY,jL,hin];simp [fC,s1,s2]
      | succ j=>
       have:=c3 j aw;simp only [yf,gY,pQ] at this ⊢;rw [hpos j aw,hvis j aw,hin];refine ⟨this.1,?_⟩;rw [List.contains_cons,this.2];simp;exact (hnot j aw).1
    have hok:eP (e.next.set slot.toNat (zC e)) slot=true:=by
     simp only [eP,hcnt,hpos N (dU _),hend]
     rfl
    have hfa:qx ⟨qT e.head slot,e.next.set slot.toNat (zC e),e.zf⟩=(slot::jY e.next (zC e) N,0):=by
     rw [oN (by rw [hh];exact hok),hh];show (jY (e.next.set slot.toNat (zC e)) slot (jO (e.next.set slot.toNat (zC e)) slot),(0:Int))=_;rw [hcnt,hvis N (dU _)]
    refine ⟨rfl,s1,s2,rfl,hh,?_,⟨E7 aw aw,⟨fun x hx=>?_,by simp;exact he.2.1.2⟩,he.2.2⟩,by rw [hfr],by rw [hfa,hfr]⟩
    ·simp only [u5,hh,hok,tx,dS,dZ];exact ⟨⟨aA,aA⟩,b4⟩
    ·rcases gW hx with h | h
     ·exact he.2.1.1 x h
     ·have:=RU e;rw [h];exact ⟨aw,aw⟩
def Rf (nx:List Int) (i0:Int):(jY nx i0 (jO nx i0)).Nodup:=(CK (yx nx i0).2.2).1
end Go.Slp
namespace Go.Wor
open Go.Ab Go.Proofs Tryz Go.Hy Go.Gat Go.Nam Go.Hos Go.Con Go.Sna
def mem_set {α:Type} {l:List α} {i:Nat} {x y:α} (h:y ∈ l.set i x):y ∈ l∨y=x:=gW h
def yt {α:Type} {l:List α} {i j:Nat} {x y:α} (h:(l.set i x)[j]?= some y):(i=j∧y=x∧i < l.length)∨(i≠j∧l[j]?= some y):=by
 rw [dW] at h;split at h
 ·rename_i hij;split at h
  ·rename_i uj;cases h;exact .inl ⟨hij,rfl,uj⟩
  ·cases h
 ·rename_i hij;exact .inr ⟨hij,h⟩
def jD.iT {w:Wor} (h:jD w) (t:Nat) {p:Int} (h0:0<=p) (h1:p<=w.zn+1):jD (mL w t p):=by
 have g:=qa.1 h.ground;refine ⟨qa.2 ⟨aq g.pins,⟨aq g.counts.1,g.counts.2⟩,g.zn,g.lock,fun q hq=>?_⟩,h.current,h.zr,h.bad,h.eu,h.uz⟩;rcases mem_set hq with hq | rfl
 ·exact g.iT q hq
 ·exact ⟨h0,h1⟩
def jD.count {w:Wor} (h:jD w) (t:Nat) {r:List Int} (h0:r.length=6):jD { w with counts:=w.counts.set t r }:=by
 have g:=qa.1 h.ground;refine ⟨qa.2 ⟨g.pins,⟨aq g.counts.1,fun q hq=>?_⟩,g.zn,g.lock,g.iT⟩,h.current,h.zr,h.bad,h.eu,h.uz⟩;rcases mem_set hq with hq | rfl
 ·exact g.counts.2 q hq
 ·exact h0
def jD.B6 {w:Wor} (h:jD w) {n:Int} (h0:n=0∨n=1):jD { w with lock:=n }:=by
 have g:=qa.1 h.ground;exact ⟨qa.2 ⟨g.pins,g.counts,g.zn,h0,g.iT⟩,h.current,h.zr,h.bad,h.eu,h.uz⟩
def jD.DQ {w:Wor} (h:jD w) {n:Int} (h0:w.zn<=n) (h1:n<=1000000000000):jD { w with zn:=n }:=by
 have g:=qa.1 h.ground;refine ⟨qa.2 ⟨g.pins,g.counts,⟨by have:=g.zn.1;show 0<=n;omega,h1⟩,g.lock,fun p hp=>by have:=g.iT p hp;show _∧p<=n+1;omega⟩,h.current,h.zr,fun r hr=>?_,h.eu,h.uz⟩;have:=h.bad r hr;unfold yl at this ⊢;simp at this ⊢;exact ⟨⟨this.1.1,this.1.2⟩,aw⟩
def Rx {l l':List ec} (h:l.map (·.name)=l'.map (·.name)) (s:uu):zT l s=zT l' s:=by
 unfold zT
 have:l.findIdx? (fun r=>r.name == s)=l'.findIdx? (fun r=>r.name == s):=by
  have e:∀ l:List ec,l.findIdx? (fun r=>r.name == s)=(l.map (·.name)).findIdx? (fun x=>x == s):=fun l=>by rw [rU];rfl
  rw [e,e,h]
 rw [this]
def P8 {l:List ec} {i:Nat} {x y:ec} (hx:l[i]?= some x) (h:y.name=x.name):(l.set i y).map (·.name)=l.map (·.name):=by
 rw [pH];exact yp _ _ (by rw [dN,hx,dV,h])
def jD.Bv {w:Wor} (h:jD w) {i:Nat} {x y:ec} (hx:w.zd[i]?= some x) (hn:y.name=x.name) (hy:Go.Gat.u5 y=true):jD { w with zd:=w.zd.set i y }:=by
 refine ⟨h.ground,h.current,h.zr,h.bad,h.eu,fun j l hl=>?_⟩;show _∧zT (w.zd.set i y) l.name=j;rw [Rx (P8 hx hn)];rcases yt hl with ⟨rfl,rfl,_⟩ | ⟨_,hl⟩
 ·rw [hn];exact ⟨hy,(h.uz i x hx).2⟩
 ·exact h.uz j l hl
def lS.iz {m:uk} {v:uq} {g:Gr} {e:En} (h:lS v) (hg:v.zm[m.zg.toNat]?= some g) (he:g.ends[m.end_.toNat]?= some e) {e':En} {tk:Int} (hi:Slp.u5 e'=true) (hl:e'.next.length=e.next.length):
  lS { v with zm:=v.zm.set m.zg.toNat { g with zt:=tk,ends:=g.ends.set m.end_.toNat e' } }:=by
 refine ⟨h.snap,aq h.len,fun i g2 x hg2 hx=>?_⟩;rcases yt hg2 with ⟨rfl,rfl,_⟩ | ⟨_,hg2⟩
 ·obtain ⟨h1,h2⟩:=h.np _ g x hg hx;refine ⟨aq h1,fun y hy=>?_⟩;rcases mem_set hy with hy | rfl
  ·exact h2 y hy
  ·exact ⟨hi,by rw [hl];exact (h2 e (dM he)).len⟩
 ·exact h.np i g2 x hg2 hx
def jD.iz {w:Wor} {m:uk} {v:uq} {g:Gr} {e:En} (h:jD w) (hat:eQ w m v g e) {e':En} {tk:Int} (hi:Slp.u5 e'=true) (hl:e'.next.length=e.next.length):
  jD { w with ze:=w.ze.set m.version.toNat { v with zm:=v.zm.set m.zg.toNat { g with zt:=tk,ends:=g.ends.set m.end_.toNat e' } } }:=by
 refine ⟨h.ground,aq h.current,h.zr,fun r hr=>?_,fun i v2 hv=>?_,h.uz⟩
 ·have:=h.bad r hr;unfold yl at this ⊢;simpa using this
 ·rcases yt hv with ⟨rfl,rfl,_⟩ | ⟨_,hv⟩
  ·obtain ⟨h1,h2⟩:=h.eu _ v hat.at_;exact ⟨h1.iz hat.u9 hat.eE hi hl,h2⟩
  ·exact h.eu i v2 hv
structure Cal (K:Nat) (w:Wor):Prop where
 uz:∀ l ∈ w.zd,l.zf<=K
 ends : ∀ v ∈ w.ze, ∀ g ∈ v.zm, ∀ e ∈ g.ends, e.zf <= K
structure St (N K:Nat) (w:Wor):Prop where
 jl:jD w
 ty:fZ N w
 fi:Cal K w
def St.mono {N K N' K':Nat} {w:Wor} (h:St N K w) (hN:N<=N') (hK:K<=K'):St N' K' w:=
 ⟨h.jl,⟨by have:=h.ty.fX;omega,by have:=h.ty.uz;omega,by have:=h.ty.fH;omega,h.ty.fA,h.ty.iS⟩,⟨fun l hl=>by have:=h.fi.uz l hl;omega,fun v hv g hg e he=>by have:=h.fi.ends v hv g hg e he;omega⟩⟩
def St.iT {N K:Nat} {w:Wor} (h:St N K w) (t:Nat) {p:Int} (h0:0<=p) (h1:p<=w.zn+1):St N K (mL w t p):=⟨h.jl.iT t h0 h1,⟨h.ty.fX,h.ty.uz,h.ty.fH,h.ty.fA,h.ty.iS⟩,⟨h.fi.uz,h.fi.ends⟩⟩
def St.count {N K:Nat} {w:Wor} (h:St N K w) (t:Nat) {r:List Int} (h0:r.length=6):St N K { w with counts:=w.counts.set t r }:=⟨h.jl.count t h0,⟨h.ty.fX,h.ty.uz,h.ty.fH,h.ty.fA,h.ty.iS⟩,⟨h.fi.uz,h.fi.ends⟩⟩
def St.B6 {N K:Nat} {w:Wor} (h:St N K w) {n:Int} (h0:n=0∨n=1):St N K { w with lock:=n }:=⟨h.jl.B6 h0,⟨h.ty.fX,h.ty.uz,h.ty.fH,h.ty.fA,h.ty.iS⟩,⟨h.fi.uz,h.fi.ends⟩⟩
def St.DQ {N K:Nat} {w:Wor} (h:St N K w) {n:Int} (h0:w.zn<=n) (h1:n<=1000000000000):St N K { w with zn:=n }:=⟨h.jl.DQ h0 h1,⟨h.ty.fX,h.ty.uz,h.ty.fH,h.ty.fA,h.ty.iS⟩,⟨h.fi.uz,h.fi.ends⟩⟩
def St.Bv {N K:Nat} {w:Wor} (h:St N K w) {i:Nat} {x y:ec} (hx:w.zd[i]?= some x) (hn:y.name=x.name) (hy:Go.Gat.u5 y=true) (hi:i64 y.zf) (hk:y.zf<=K):St N K { w with zd:=w.zd.set i y }:=by
 refine ⟨h.jl.Bv hx hn hy,⟨h.ty.fX,aq h.ty.uz,h.ty.fH,h.ty.fA,fun l hl=>?_⟩,⟨fun l hl=>?_,h.fi.ends⟩⟩
 ·rcases mem_set hl with hl | rfl
  ·exact h.ty.iS l hl
  ·exact ⟨by rw [hn];exact (h.ty.iS x (dM hx)).1,hi⟩
 ·rcases mem_set hl with hl | rfl
  ·exact h.fi.uz l hl
  ·exact hk
def St.iz {N K:Nat} {w:Wor} {m:uk} {v:uq} {g:Gr} {e:En} (h:St N K w) (hat:eQ w m v g e) {e':En} {tk:Int} (hi:Slp.u5 e'=true) (hl:e'.next.length=e.next.length) (ho:e'.ok) (ht:u64 tk) (hk:e'.zf<=K):
  St N K { w with ze:=w.ze.set m.version.toNat { v with zm:=v.zm.set m.zg.toNat { g with zt:=tk,ends:=g.ends.set m.end_.toNat e' } } }:=by
 have mv:=dM hat.at_;have mg:=dM hat.u9;refine ⟨h.jl.iz hat hi hl,⟨aq h.ty.fX,h.ty.uz,h.ty.fH,fun v2 hv=>?_,h.ty.iS⟩,⟨h.fi.uz,fun v2 hv g2 hg e2 he=>?_⟩⟩
 ·rcases mem_set hv with hv | rfl
  ·exact h.ty.fA v2 hv
  ·refine ⟨(h.ty.fA v mv).1,fun g2 hg=>?_⟩;rcases mem_set hg with hg | rfl
   ·exact (h.ty.fA v mv).2 g2 hg
   ·refine ⟨ht,fun e2 he=>?_⟩;rcases mem_set he with he | rfl
    ·exact ((h.ty.fA v mv).2 g mg).2 e2 he
    ·exact ho
 ·rcases mem_set hv with hv | rfl
  ·exact h.fi.ends v2 hv g2 hg e2 he
  ·rcases mem_set hg with hg | rfl
   ·exact h.fi.ends v mv g2 hg e2 he
   ·rcases mem_set he with he | rfl
    ·exact h.fi.ends v mv g mg e2 he
    ·exact hk
def EY (h:List Bool):∀ k x,x ∈ fV h k->0<=x∧x < k∧x < h.length
 | 0,x,hx=>by cases hx
 | k+1,x,hx=>by
  simp only [fV] at hx;split at hx
  ·rename_i hk;rcases gD.1 hx with hx | hx
   ·have:=EY h k x hx;omega
   ·rw [gF.1 hx];have:=(dJ.1 hk).1;omega
  ·have:=EY h k x hx;omega
def FR {c:eC} {n:Int} (h:(uj c).length≠0):0<=((uj c)[(n % (uj c).length).toNat]?).getD 0∧((uj c)[(n % (uj c).length).toNat]?).getD 0 < c.zL.length:=by
 have h1:0<=n % (uj c).length:=rP _ aw;have h2:n % (uj c).length < (uj c).length:=rQ _ aw;have h3:(n % (uj c).length).toNat < (uj c).length:=aw
 rw [dK h3,gS];have:=EY c.zL c.zL.length _ (gH h3);omega
def SM (n:Int):u64 (IntKind.u64.wrap n):=by
 have h:IntKind.u64.wrap n=n % 18446744073709551616:=rfl;rw [h];unfold u64;omega
structure Nx (N K:Nat) (w:Wor) (m:uk) (L:Wor->uk->uq->Gr->En->Prop) (F:uk->Prop) (μ:Wor->uk->Nat) (r:Wor × uk × uv):Prop where
 ev:r.2.2.access≠0
 st:St (N+1) (K+1) r.1
 pins:r.1.pins.length=w.pins.length
 tm:eJ r.2.1
 op:r.2.1.op=m.op
 go:(r.2.1.done=true∧F r.2.1)∨(∃ v g e,qH r.1 r.2.1 v g e∧L r.1 r.2.1 v g e)∧μ r.1 r.2.1 < μ w m
structure BY (w:Wor) (m:uk) (v:uq) (g:Gr) (e:En):Prop where
 pc:(0<=m.pc∧m.pc<=12)∨(20<=m.pc∧m.pc<=23)
 ep:m.pc=1∨m.pc=2->m.zn=w.zn
 uz:(4<=m.pc∧m.pc<=12)∨m.pc=22->0<=m.listen
 early:4<=m.pc∧m.pc<=5->m.zg=0∧m.end_=0∧m.other=0
 nX:4<=m.pc∧m.pc<=8->m.slot=0
 draw:m.pc=6->∃ c,v.snap.zk[m.zg.toNat]?= some c∧(uj c).length≠0
 slot:m.pc=10∨m.pc=11->m.slot=zC m.word∧e.head=m.word
 link:m.pc=11->e.next[m.slot.toNat]?= some m.link
 iO:20<=m.pc->1<=m.answer.kind∧m.answer.kind<=5
 DT:(5<=m.pc∧m.pc<=12)∨(20<=m.pc∧m.pc<=22)->0<=m.listen->∃ x,w.zd[m.listen.toNat]?= some x∧1<=x.zf
def Lw (m:uk):Prop:=1<=m.answer.kind∧m.answer.kind<=5
def Af (_:Wor) (m:uk):Nat:=(24 - m.pc).toNat
def BG {w w':Wor} {m m':uk} (h:m.pc < m'.pc) (h2:m'.pc<=23):Af w' m' < Af w m:=by unfold Af;omega
def D3 (l:List ec) (s:uu): -1<=zT l s∧zT l s < l.length:=by
 unfold zT;cases h:l.findIdx? (fun r=>r.name == s) with
 | none=>simp only;omega
 | some i=>
  have:=(gk.1 h).1;simp only;omega
def vH {v:uq} (h:lS v) {k:Nat} (hk:k < v.zm.length):∃ g e,v.zm[k]?= some g∧g.ends[0]?= some e∧0 < g.ends.length∧0 < e.next.length:=by
 obtain ⟨g,hg⟩:∃ g,v.zm[k]?= some g:=⟨_,dK hk⟩;have f:=h.fE.2 g (dM hg);have hl:0 < g.ends.length:=aw
 have he:g.ends[0]?= some g.ends[0]:=dK hl;exact ⟨g,g.ends[0],hg,he,hl,by have:=(f.2.2 _ (dM he)).2.2;omega⟩
section
variable {N K:Nat} {w:Wor} {m:uk} {v:uq} {g:Gr} {e:En}
def kZ (su:qH w m v g e) {e':En} {tk:Int} (hl:e'.next.length=e.next.length) (gw:jD { w with ze:=w.ze.set m.version.toNat { v with zm:=v.zm.set m.zg.toNat { g with zt:=tk,ends:=g.ends.set m.end_.toNat e' } } }) {m':uk}
  (h1:m'.zj=m.zj) (h2:m'.done=false) (h3:m'.version=m.version) (h4:m'.zg=m.zg) (h5:m'.end_=m.end_) (h6:m'.other=m.other) (h7:m'.slot=m.slot) (h8:m'.listen=m.listen) (h9:m'.i=m.i) (h10:m'.k=m.k):
  qH { w with ze:=w.ze.set m.version.toNat { v with zm:=v.zm.set m.zg.toNat { g with zt:=tk,ends:=g.ends.set m.end_.toNat e' } } } m'
   { v with zm:=v.zm.set m.zg.toNat { g with zt:=tk,ends:=g.ends.set m.end_.toNat e' } } { g with zt:=tk,ends:=g.ends.set m.end_.toNat e' } e':=by
 have s1:=(dJ.1 su.eF).1;have s2:=(dJ.1 su.u9).1;have s3:=(dJ.1 su.eE).1;refine ⟨qi.2 gw,by rw [h1];exact su.zj,h2,?_,?_,?_,?_,?_,?_,?_,?_,?_,by rw [h9];exact su.i,by rw [h10];exact su.k⟩
 ·rw [h3];simpa using su.version
 ·rw [h3];exact dQ s1
 ·rw [h4];simpa using su.zg
 ·rw [h4];exact dQ s2
 ·rw [h5];simpa using su.end_
 ·rw [h5];exact dQ s3
 ·rw [h6];simpa using su.other
 ·rw [h7,hl];exact su.slot
 ·rw [h8];exact su.listen
def zM {r:Wor × uk × uv} {P:Wor × uk × uv->Prop} {o:mu} (h:o=some r) (hp:P r):∃ r,o=some r∧P r:=⟨r,h,hp⟩
def VD (st:St N K w) (su:qH w m v g e) (tm:eJ m) (lo:BY w m v g e) (h3:m.pc < 3):∃ r,qf w m v g e=some r∧Nx N K w m BY Lw Af r:=by
 have gw:=st.jl;have ge:=qa.1 gw.ground;have hep:=ge.zn;have st1:St (N+1) (K+1) w:=st.mono aw aw;have lp:=lo.pc;unfold qf;rw [dO h3];unfold o9;rcases (by omega:m.pc=0∨m.pc=1∨m.pc=2) with p | p | p
 ·rw [dO p]
  refine zM rfl ⟨uW,st1,rfl,uO,rfl,.inr ⟨⟨v,g,e,uQ,
   ⟨uL,fun _=>rfl,uK,uK,uK,uK,uK,uK,uK,uK⟩⟩,BG (by show m.pc < 1;omega) (by show (1:Int)<=23;decide)⟩⟩
 ·have he:=lo.ep (.inl p);have hw:IntKind.i64.wrap (m.zn+1)=w.zn+1:=by rw [he];exact qZ aw aw
  rw [dL aw,dO p,hw];have sp:=st1.iT m.zj.toNat (p:=w.zn+1) aw aw
  refine zM rfl ⟨tI,sp,aj,uO,rfl,.inr ⟨⟨v,g,e,⟨qi.2 sp.jl,aq su.zj,su.done,su.version,su.eF,su.zg,su.u9,su.end_,su.eE,su.other,su.slot,su.listen,su.i,su.k⟩,
   ⟨uL,fun _=>he,uK,uK,uK,uK,uK,uK,uK,uK⟩⟩,BG (by show m.pc < 2;omega) (by show (2:Int)<=23;decide)⟩⟩
 ·have he:=lo.ep (.inr p);rw [dL aw,dL aw,dO p,dO he.symm]
  refine zM rfl ⟨uW,st1,rfl,uO,rfl,.inr ⟨⟨v,g,e,uQ,
   ⟨uL,uK,uK,uK,uK,uK,uK,uK,uK,uK⟩⟩,BG (by show m.pc < 3;omega) (by show (3:Int)<=23;decide)⟩⟩
end
def Ky {e:En} (h:Slp.u5 e=true) (n:Int) (h0:0<=n):Slp.u5 (qq e e.head n)=true:=by
 obtain ⟨h1,h2,h3,h4⟩:=Slp.n7 h;unfold Slp.u5;simp only [dS,dZ];exact ⟨⟨⟨h1,h2⟩,h3⟩,h0⟩
def C1 {l:ec} (h:Go.Gat.u5 l=true):xv l.name=true∧0<=l.zf∧(l.drain || !l.closed)=true:=by
 unfold Go.Gat.u5 at h;simp only [dS,dZ] at h;exact ⟨h.1.1,h.1.2,h.2⟩
def CO {l:ec} (h1:xv l.name=true) (h2:0<=l.zf) (h3:(l.drain || !l.closed)=true):Go.Gat.u5 l=true:=by
 unfold Go.Gat.u5;simp only [dS,dZ];exact ⟨⟨h1,h2⟩,h3⟩
section
variable {N K:Nat} {w:Wor} {m:uk} {v:uq} {g:Gr} {e:En}
def VE (st:St N K w) (su:qH w m v g e) (tm:eJ m) (lo:BY w m v g e) (hk:m.op.kind=1) (hN:N<=100000000) (p:m.pc=3):∃ r,qf w m v g e=some r∧Nx N K w m BY Lw Af r:=by
 have gw:=st.jl;have st1:St (N+1) (K+1) w:=st.mono aw aw;have pr:=D3 w.zd m.op.listen;have hl:=st.ty.uz;have cu:=gw.current;obtain ⟨v',hv'⟩:∃ v',w.ze[w.current.toNat]?= some v':=⟨_,dK aw⟩;have gv:=(gw.eu _ v' hv').1;have h0:0 < v'.zm.length:=aE
 obtain ⟨g',e',hg,he,l1,l2⟩:=vH gv h0;unfold qf;rw [dL aw,dO p];by_cases q:zT w.zd m.op.listen < 0
 ·rw [dO q];refine zM rfl ⟨uW,st1,rfl,⟨aJ,tm.word,tm.link,tm.host,tm.path,tm.d0,tm.d1,tm.cfg,(fun h=>absurd ((show m.op.kind=6 from h).symm.trans hk) ar)⟩,rfl,.inr ⟨⟨v',g',e',⟨su.world,su.zj,su.done,cu,hv',⟨gd _,aK⟩,hg,⟨gd _,aK⟩,he,⟨gd _,aK⟩,⟨gd _,aK⟩,pr,su.i,su.k⟩,⟨uL,uK,uK,uK,uK,uK,uK,uK,fun _=>⟨by show (1:Int)<=2;decide,by show (2:Int)<=5;decide⟩,(fun _ h=>absurd (show 0<=zT w.zd m.op.listen from h) aw)⟩⟩,BG (by show m.pc < 20;omega) (by show (20:Int)<=23;decide)⟩⟩
 ·rw [dL q]
  refine zM rfl ⟨uW,st1,rfl,⟨aJ,tm.word,tm.link,tm.host,tm.path,tm.d0,tm.d1,tm.cfg,tm.iO⟩,rfl,.inr ⟨⟨v',g',e',⟨su.world,su.zj,su.done,cu,hv',⟨gd _,aK⟩,hg,⟨gd _,aK⟩,he,⟨gd _,aK⟩,⟨gd _,aK⟩,pr,su.i,su.k⟩,
   ⟨uL,uK,fun _=>by show 0<=zT w.zd m.op.listen;omega,fun _=>⟨rfl,rfl,rfl⟩,fun _=>rfl,uK,uK,uK,uK,uK⟩⟩,BG (by show m.pc < 4;omega) (by show (4:Int)<=23;decide)⟩⟩
def Fu (st:St N K w) (su:qH w m v g e) {x:ec} (hx:w.zd[m.listen.toNat]?= some x) (n:Int) (h0:0<=n) (h1:n<=K+1) (hK:K<=1099511627776):St (N+1) (K+1) { w with zd:=w.zd.set m.listen.toNat { x with zf:=n } }:=by
 have li:=C1 (st.jl.uz _ x hx).1;exact (st.mono aw aw:St (N+1) (K+1) w).Bv hx rfl (CO li.1 h0 li.2.2) (by show i64 n;unfold i64;omega) (by show n<=_;omega)
end
section
variable {N K:Nat} {w:Wor} {m:uk} {v:uq} {g:Gr} {e:En}
def vj (st:St N K w) (su:qH w m v g e):Slp.u5 e=true∧e.next.length<=4∧1<=e.next.length∧0<=e.zf∧e.zf<=K∧e.ok∧u64 g.zt:=by
 have mv:=dM su.eF;have mg:=dM su.u9;have me:=dM su.eE;have f:=((st.jl.eu _ v su.eF).1.fE.2 g mg).2.2 e me;exact ⟨f.1,f.2.1,f.2.2,(Slp.n7 f.1).2.2.2,st.fi.ends v mv g mg e me,((st.ty.fA v mv).2 g mg).2 e me,((st.ty.fA v mv).2 g mg).1⟩
def Im (st:St N K w) (su:qH w m v g e) {k pc:Int} (h0:0<=k) (h5:k<=5):∃ r2:List Int,r2.length=6∧n6 w m k pc=some ({ w with counts:=w.counts.set m.zj.toNat r2 },{ m with pc:=pc },u6 m 3 10 k):=by
 obtain ⟨r0,hr,hl⟩:=Sd st.jl su.zj.1 su.zj.2;unfold n6;rw [hr];dsimp only;rw [dK (show k.toNat < r0.length by omega)];exact ⟨_,aq hl,rfl⟩
end
def look (m:List (Int × Value)) (i:Int):Option Value:=(jf m i).bind fun j=>(m[j]?).map (·.2)
def Jb (m:List (Int × Value)) (i:Int):jf m i=(m.map (·.1)).findIdx? (fun k=>decide (k=i)):=by
 unfold jf;rw [rU]
 rfl
def R2 (m:List (Int × Value)) (k i:Int) (v:Value):look (yc m k v) i=if k=i then some v else look m i:=by
 unfold yc;cases hf:jf m k with
 | some j=>
  dsimp only;obtain ⟨u,hu⟩:=xI hf
  have keys:(m.set j (k,v)).map (·.1)=m.map (·.1):=by
   rw [pH];exact yp _ _ (by rw [dN,hu];rfl)
  have e:jf (m.set j (k,v)) i=jf m i:=by rw [Jb,Jb,keys]
  unfold look;rw [e];have uj:=(dJ.1 hu).1;by_cases hki:k=i
  ·subst hki;rw [dO rfl,hf];simp [uj]
  ·rw [dL hki];cases hi:jf m i with
   | none=>rfl
   | some j'=>
    obtain ⟨u',hu'⟩:=xI hi
    have hne:j≠j':=by
     rintro rfl;rw [hu] at hu';cases hu'
     exact hki rfl
    simp [dW,hne]
 | none=>
  dsimp only
  have e:jf (m++[(k,v)]) i=if k=i then some m.length else jf m i:=by
   unfold jf;rw [r8];by_cases hki:k=i
   ·subst hki;have:m.findIdx? (fun kv=>decide (kv.1=k))=none:=hf;rw [this,dO rfl];simp
   ·rw [dL hki];cases m.findIdx? (fun kv=>decide (kv.1=i)) with
    | some j=>rfl
    | none=>simp [hki]
  unfold look;rw [e];by_cases hki:k=i
  ·rw [dO hki,dO hki];simp
  ·rw [dL hki,dL hki];cases hi:jf m i with
   | none=>rfl
   | some j'=>
    obtain ⟨u',hu'⟩:=xI hi;have:=(dJ.1 hu').1;simp [dR this]
theorem Po (l:List u7) (i:Int):vc l i=(match look (yz l) i with | some (.bool b)=>b | _=>false):=rfl
def Pn (l:List u7) (r:u7):yz (l++[r])=yc (yz l) r.version (Value.bool r.gone):=by
 unfold yz;rw [rF]
 rfl
def IG (l:List u7) (r:u7) (i:Int):vc (l++[r]) i=if r.version=i then r.gone else vc l i:=by
 rw [Po,Pn,R2];by_cases h:r.version=i
 ·rw [dO h,dO h]
 ·rw [dL h,dL h]
  rfl
def wT (l:List u7) (i:Int) (hu:∀ (a b:Nat) (x y:u7),l[a]?= some x->l[b]?= some y->x.version=y.version->a=b):vc l i=true↔∃ r ∈ l,r.version=i∧r.gone=true:=by
 have key:∀ n,∀ l:List u7,l.length=n->(∀ (a b:Nat) (x y:u7),l[a]?= some x->l[b]?= some y->x.version=y.version->a=b)->(vc l i=true↔∃ r ∈ l,r.version=i∧r.gone=true):=by
  intro n
  induction n with
  | zero=>
   intro l hl _;rw [pR.1 hl];constructor
   ·intro h;cases h
   ·rintro ⟨r,hr,_⟩;cases hr
  | succ n ih=>
   intro l hl hu;obtain ⟨l',r,rfl⟩:∃ l' r,l=l'++[r]:=⟨l.dropLast,l.getLast (by rintro rfl;cases hl),(List.dropLast_concat_getLast _).symm⟩;have hl':l'.length=n:=aq hl
   have ih':=ih l' hl' fun a b x y ha hb=>hu a b x y (by rw [dR (dJ.1 ha).1];exact ha) (by rw [dR (dJ.1 hb).1];exact hb)
   have hlast:(l'++[r])[l'.length]?= some r:=aj
   rw [IG];by_cases h:r.version=i
   ·rw [dO h];constructor
    ·intro hg;exact ⟨r,aj,h,hg⟩
    ·rintro ⟨x,hx,hv,hg⟩;obtain ⟨a,ha⟩:=gh.1 hx;have:=hu a _ x r ha hlast (by rw [hv,h]);subst this;rw [hlast] at ha;cases ha
     exact hg
   ·rw [dL h,ih'];constructor
    ·rintro ⟨x,hx,hv⟩;exact ⟨x,by simp [hx],hv⟩
    ·rintro ⟨x,hx,hv,hg⟩;rcases gD.1 hx with hx | hx
     ·exact ⟨x,hx,hv,hg⟩
     ·rw [gF.1 hx] at hv;exact absurd hv h
 exact key _ l rfl hu
def BF {l:List u7} (h:Go.Lim.u5 l=true) {i:Nat} {x:u7} (hx:l[i]?= some x):0<=x.version∧0<=x.at_∧∀ (j:Nat) (y:u7),j < i->l[j]?= some y->y.version≠x.version:=by
 have h2:=pn (show decide (∀ i,(h:i < l.length)->Go.Lim.eP l i l[i]=true)=true from h) i (dJ.1 hx).1;rw [(dJ.1 hx).2] at h2;unfold Go.Lim.eP Go.Lim.AH at h2;simp only [dS,gR,gT,gI,gM] at h2;refine ⟨aw,aw,fun j y hj hy he=>h2.2 y ?_ he⟩;exact gh.2 ⟨j,by rw [gz,dO hj];exact hy⟩
def KA {l:List u7}:Go.Lim.u5 l=true↔∀ (i:Nat) (x:u7),l[i]?= some x->0<=x.version∧0<=x.at_∧∀ (j:Nat) (y:u7),j < i->l[j]?= some y->y.version≠x.version:=by
 constructor
 ·exact fun h i x hx=>BF h hx
 ·intro h;refine rk fun i hi=>?_
  obtain ⟨h1,h2,h3⟩:=h i l[i] (dK hi);unfold Go.Lim.eP Go.Lim.AH;simp only [dS,gR,gT,gI,gM];refine ⟨⟨aw,aw⟩,fun y hy he=>?_⟩;obtain ⟨j,hj⟩:=gh.1 hy;rw [gz] at hj;split at hj
  ·exact h3 j y (by assumption) hj he
  ·cases hj
def Bf {l:List u7} (h:Go.Lim.u5 l=true):∀ (a b:Nat) (x y:u7),l[a]?= some x->l[b]?= some y->x.version=y.version->a=b:=fun a b x y ha hb he=>by
 rcases ru a b with uj | rfl | uj
 ·exact absurd he ((BF h hb).2.2 a x uj ha)
 ·rfl
 ·exact absurd he.symm ((BF h ha).2.2 b y uj hb)
def QU (n:Int):(Slp.vU n).1.ok:=by
 unfold Slp.vU;split
 ·exact ⟨ar,⟨fun x hx=>(by cases hx),ar⟩,ar⟩
 ·refine ⟨(by decide:u64 1),⟨fun x hx=>?_,?_⟩,(by decide:i64 0)⟩
  ·obtain ⟨i,hi,rfl⟩:=gC.1 hx;have:=pD.1 hi;split
   ·decide
   ·exact ⟨aw,aw⟩
  ·simp;omega
def vK {x:eC} (h:Dn x):Slp.u5 (xt x)=true∧((xt x).next.length:Int)=x.xB∧(xt x).zf=0∧(xt x).ok:=by
 have hs:=h.xB;unfold xt;have:x.xB=1∨x.xB=2∨x.xB=3∨x.xB=4:=aw
 rcases this with e | e | e | e <;> rw [e] <;> exact ⟨ar,ar,ar,QU _⟩
def Ii {s:Sna} (h:yZ s=true):lS (qM s).1:=by
 unfold qM;rw [dO h];refine ⟨h,aj,fun i g x hg hx=>?_⟩;simp only [dN] at hg;have hx:s.zk[i]?= some x:=hx;rw [hx] at hg;cases hg
 have gc:=(jq h).all x (dM hx);have f:=vK gc;refine ⟨by unfold fU;simp,fun e he=>?_⟩;unfold fU at he;rw [gL he];exact ⟨f.1,f.2.1⟩
section
variable {N K:Nat} {w:Wor} {m:uk} {v:uq} {g:Gr} {e:En}
def St.Kg (st:St N K w) {c:eG} (hc:(q8 c).1=0) (sc:xp c):St (N+1) (K+1) { w with current:=w.ze.length,ze:=w.ze++[yN c] }:=by
 have gw:=st.jl;have hb:=Ef hc;have gv:lS (yN c):=Ii hb;have hsw:yN c=⟨(jo c).1,(jo c).1.zk.map fU,false⟩:=by unfold yN qM;rw [dO hb]
 have la:∀ r ∈ w.zr,0<=r.version∧r.version < w.ze.length:=fun r hr=>by
  obtain ⟨i,hi⟩:=gh.1 hr;have:=wY gw hi;omega
 refine ⟨⟨gw.ground,⟨tt _,by show ((w.ze.length:Nat):Int) < ((w.ze++[yN c]).length:Nat);simp only [gN,pW];omega⟩,gw.zr,fun r hr=>?_,fun i v2 hv=>?_,gw.uz⟩,⟨by have:=st.ty.fX;simp;omega,bX,by have:=st.ty.fH;show w.zr.length<=_;omega,fun v2 hv=>?_,st.ty.iS⟩,⟨fun l hl=>by have:=st.fi.uz l hl;omega,fun v2 hv g2 hg e2 he=>?_⟩⟩
 ·have h1:=la r hr;have h2:=gw.bad r hr;unfold yl at h2 ⊢;simp at h2 ⊢;omega
 ·have hv:(w.ze++[yN c])[i]?= some v2:=hv;by_cases hi:i < w.ze.length
  ·rw [dR hi] at hv;exact gw.eu i v2 hv
  ·rw [dY aw] at hv
   have:i - w.ze.length=0:=by
    have:=(dJ.1 hv).1;exact cN
   rw [this] at hv;cases hv
   refine ⟨gv,?_⟩;rw [hsw];show false=vc w.zr i
   symm
   by_cases hg:vc w.zr i=true
   ·obtain ⟨r,hr,he,_⟩:=(wT w.zr i (Bf gw.zr)).1 hg;have:=la r hr;omega
   ·simpa using hg
 ·rcases gD.1 hv with hv | hv
  ·exact st.ty.fA v2 hv
  ·rw [gF.1 hv,hsw];refine ⟨wx sc,fun g2 hg=>?_⟩;obtain ⟨x,hx,rfl⟩:=gC.1 hg;have f:=vK ((jq hb).all x hx);refine ⟨(by decide:u64 0),fun e2 he=>?_⟩;unfold fU at he;rw [gL he];exact f.2.2.2
 ·rcases gD.1 hv with hv | hv
  ·have:=st.fi.ends v2 hv g2 hg e2 he;omega
  ·rw [gF.1 hv,hsw] at hg;obtain ⟨x,hx,rfl⟩:=gC.1 hg;have f:=vK ((jq hb).all x hx);unfold fU at he;rw [gL he,f.2.2.1];omega
def St.KX (st:St N K w) {x:u7} (h0:0<=x.version) (h1:x.version < w.ze.length) (h2:x.version≠w.current) (h3:0<=x.at_) (h4:x.at_<=w.zn) (hg:x.gone=false) (hn:∀ r ∈ w.zr,r.version≠x.version):St (N+1) (K+1) { w with zr:=w.zr++[x] }:=by
 have gw:=st.jl;refine ⟨⟨gw.ground,gw.current,?_,fun r hr=>?_,fun i v2 hv=>⟨(gw.eu i v2 hv).1,?_⟩,gw.uz⟩,⟨by have:=st.ty.fX;show w.ze.length<=_;omega,bX,by have:=st.ty.fH;simp;omega,st.ty.fA,st.ty.iS⟩,⟨fun l hl=>by have:=st.fi.uz l hl;omega,fun v2 hv g2 hg e2 he=>by have:=st.fi.ends v2 hv g2 hg e2 he;omega⟩⟩
 ·rw [KA];intro i y hy;by_cases hi:i < w.zr.length
  ·have hy':w.zr[i]?= some y:=by rw [<- dR (l₂:=[x]) hi];exact hy
   obtain ⟨a,b,c⟩:=BF gw.zr hy';exact ⟨a,b,fun j z hj hz=>c j z hj (by rw [<- dR (l₂:=[x]) aw];exact hz)⟩
  ·have hy2:(w.zr++[x])[i]?= some y:=hy;rw [dY aw] at hy2
   have:i - w.zr.length=0:=by
    have:=(dJ.1 hy2).1;exact cN
   rw [this] at hy2;cases hy2
   refine ⟨h0,h3,fun j z hj hz=>?_⟩;have hz2:(w.zr++[x])[j]?= some z:=hz;rw [dR aw] at hz2;exact hn z (dM hz2)
 ·rcases gD.1 hr with hr | hr
  ·exact gw.bad r hr
  ·rw [gF.1 hr];unfold yl;simp;omega
 ·rw [(gw.eu i v2 hv).2];show _=vc (w.zr++[x]) i;rw [IG];by_cases he:x.version=i
  ·rw [dO he,hg];by_cases hgo:vc w.zr i=true
   ·obtain ⟨r,hr,hv2,_⟩:=(wT w.zr i (Bf gw.zr)).1 hgo;exact absurd (hv2.trans he.symm) (hn r hr)
   ·simpa using hgo
  ·rw [dL he]
def St.qk (st:St N K w) {i:Nat} {k:Int} {v2:uq} {x:u7} (h0:0<=k) (hv:w.ze[k.toNat]?= some v2) (hx:w.zr[i]?= some x) (he:x.version=k):St (N+1) (K+1) { w with ze:=w.ze.set k.toNat (nB v2),zr:=w.zr.set i (kP x) }:=by
 have gw:=st.jl;have la:=wY gw hx
 have same:∀ (j:Nat) (y:u7),(w.zr.set i (kP x))[j]?= some y->∃ z,w.zr[j]?= some z∧z.version=y.version∧z.at_=y.at_:=fun j y hy=>by
  rcases yt hy with ⟨rfl,rfl,_⟩ | ⟨_,hy⟩
  ·exact ⟨x,hx,rfl,rfl⟩
  ·exact ⟨y,hy,rfl,rfl⟩
 have isL:Go.Lim.u5 (w.zr.set i (kP x))=true:=by
  rw [KA];intro j y hy;obtain ⟨z,hz,e1,e2⟩:=same j y hy;obtain ⟨a,b,c⟩:=BF gw.zr hz;refine ⟨aw,aw,fun j2 y2 hj hy2=>?_⟩;obtain ⟨z2,hz2,e3,_⟩:=same j2 y2 hy2;rw [<- e3,<- e1];exact c j2 z2 hj hz2
 refine ⟨⟨gw.ground,aq gw.current,isL,fun r hr=>?_,fun j v3 hv3=>?_,gw.uz⟩,⟨by have:=st.ty.fX;simp;omega,bX,by have:=st.ty.fH;simp;omega,fun v3 hv3=>?_,st.ty.iS⟩,⟨fun l hl=>by have:=st.fi.uz l hl;omega,fun v3 hv3 g2 hg e2 he=>?_⟩⟩
 ·obtain ⟨j,hj⟩:=gh.1 hr;obtain ⟨z,hz,e1,e2⟩:=same j r hj;have:=gw.bad z (dM hz);unfold yl at this ⊢;rw [<- e1,<- e2];simpa using this
 ·have gone2:vc (w.zr.set i (kP x)) j=if (j:Int)=k then true else vc w.zr j:=by
   by_cases hjk:(j:Int)=k
   ·rw [dO hjk,wT _ _ (Bf isL)];exact ⟨kP x,gh.2 ⟨i,dQ (dJ.1 hx).1⟩,by show x.version=_;omega,rfl⟩
   ·rw [dL hjk,ug,wT _ _ (Bf isL),wT _ _ (Bf gw.zr)];constructor
    ·rintro ⟨r,hr,h1,h2⟩;rcases mem_set hr with hr | rfl
     ·exact ⟨r,hr,h1,h2⟩
     ·exact absurd (show x.version=j from h1) aw
    ·rintro ⟨r,hr,h1,h2⟩;obtain ⟨b,hb⟩:=gh.1 hr
     have hbi:i≠b:=by
      rintro rfl;rw [hx] at hb;cases hb
      omega
     exact ⟨r,gh.2 ⟨b,by rw [dW,dL hbi];exact hb⟩,h1,h2⟩
  show lS v3∧v3.qk=vc (w.zr.set i (kP x)) j;rw [gone2];rcases yt hv3 with ⟨rfl,rfl,_⟩ | ⟨hne,hv3⟩
  ·rw [dO aw];exact ⟨⟨(gw.eu _ v2 hv).1.snap,(gw.eu _ v2 hv).1.len,(gw.eu _ v2 hv).1.np⟩,rfl⟩
  ·rw [dL aw];exact gw.eu j v3 hv3
 ·rcases mem_set hv3 with hv3 | rfl
  ·exact st.ty.fA v3 hv3
  ·exact st.ty.fA v2 (dM hv)
 ·rcases mem_set hv3 with hv3 | rfl
  ·have:=st.fi.ends v3 hv3 g2 hg e2 he;omega
  ·have:=st.fi.ends v2 (dM hv) g2 hg e2 he;omega
end
structure Dw (w:Wor) (m:uk) (v:uq) (g:Gr) (e:En):Prop where
 pc:0<=m.pc∧m.pc<=2
 eu:1<=m.pc->m.version≠w.current∧∀ r ∈ w.zr,r.version≠m.version
 ep:m.pc=2->0<=m.zn∧m.zn<=w.zn
def Vl (m:uk):Prop:=6<=m.answer.kind∧m.answer.kind<=13
def B7 (_:Wor) (m:uk):Nat:=(3 - m.pc).toNat
section
variable {N K:Nat} {w:Wor} {m:uk} {v:uq} {g:Gr} {e:En}
def ER (st:St N K w) (su:qH w m v g e) (tm:eJ m) (lo:Dw w m v g e) (hk:m.op.kind=3):∃ r,vg w m=some r∧Nx N K w m Dw Vl B7 r:=by
 have gw:=st.jl;have st1:St (N+1) (K+1) w:=st.mono aw aw;have pc:=lo.pc;have cu:=gw.current;unfold vg;rcases (by omega:m.pc=0∨m.pc=1∨m.pc=2) with p | p | p
 ·rw [dO p];by_cases q:lu m.op.config=0
  ·rw [dO q];have hc:(q8 m.op.config).1=0:=by rw [<- wy];exact q
   have st2:=st.Kg hc (tm.cfg hk);obtain ⟨v',hv'⟩:∃ v',w.ze[w.current.toNat]?= some v':=⟨_,dK aw⟩;have gv:=(gw.eu _ v' hv').1;have h0:0 < v'.zm.length:=aE
   obtain ⟨g',e',hg,he,l1,l2⟩:=vH gv h0
   refine zM rfl ⟨(by show (6:Int)≠0;decide),st2,rfl,uO,rfl,.inr ⟨⟨v',g',e',⟨qi.2 st2.jl,su.zj,su.done,⟨cu.1,aR⟩,
    by show (w.ze++[yN m.op.config])[w.current.toNat]?= some v';rw [dR aw];exact hv',⟨gd _,aK⟩,hg,⟨gd _,aK⟩,he,⟨gd _,aK⟩,⟨gd _,aK⟩,su.listen,by show (0:Int)<=(w.ze.length:Nat);omega,su.k⟩,
    ⟨uL,fun _=>⟨by show w.current≠(w.ze.length:Nat);omega,fun r hr=>?_⟩,uK⟩⟩,by unfold B7;show (3 - 1:Int).toNat < (3 - m.pc).toNat;omega⟩⟩
   obtain ⟨i,hi⟩:=gh.1 hr;exact (wY gw hi).2.2.2.2
  ·rw [dL q];exact zM rfl ⟨uW,st1,rfl,uP,rfl,.inl ⟨rfl,by show (6:Int)<=9∧(9:Int)<=13;decide⟩⟩
 ·have vf:=lo.eu aw;have ep:=(qa.1 gw.ground).zn;rw [dL aw,dO p];refine zM rfl ⟨uW,st1,rfl,uO,rfl,.inr ⟨⟨v,g,e,uQ,⟨uL,fun _=>vf,fun _=>⟨ep.1,gd _⟩⟩⟩,by unfold B7;show (3 - 2:Int).toNat < (3 - m.pc).toNat;omega⟩⟩
 ·have vf:=lo.eu aw;have ep:=lo.ep p;have sv:=su.version
  have nl:kR w m=false:=by
   unfold kR;simp only [gY,gI,gM,beq_eq_false_iff_ne,gT];exact ⟨⟨⟨fun r hr=>vf.2 r hr,vf.1⟩,aw⟩,aw⟩
  have st2:=st.KX (x:=⟨m.version,m.zn,false⟩) sv.1 sv.2 vf.1 ep.1 ep.2 rfl vf.2;rw [dL aw,dL aw,dO p,nl];exact zM rfl ⟨tI,st2,rfl,uP,rfl,.inl ⟨rfl,by show (6:Int)<=8∧(8:Int)<=13;decide⟩⟩
def Vo (_:Wor) (m:uk) (_:uq) (_:Gr) (_:En):Prop:=m.pc=0
def Vm (_:Wor) (m:uk) (_:uq) (_:Gr) (_:En):Prop:=m.pc=9
structure Vp (w:Wor) (m:uk) (v:uq) (g:Gr) (e:En):Prop where
 pc:m.pc=0
 k:m.k < 6
 i:m.i < w.counts.length
def LJ (w:Wor) (m:uk):Nat:=((w.counts.length - m.i) * 6 - m.k).toNat
end
structure Vn (w:Wor) (m:uk) (v:uq) (g:Gr) (e:En):Prop where
 pc:(0<=m.pc∧m.pc<=6)∨(8<=m.pc∧m.pc<=10)
 iT:m.pc=2->m.i < w.pins.length
 VA:m.pc=4->m.i<=w.zr.length
 fH:m.pc=5∨m.pc=6->∃ r,w.zr[m.i.toNat]?= some r∧r.version=m.version∧r.gone=false
 act:m.pc=5->m.k < (yd v).length
 uz:m.pc=9∨m.pc=10->∃ l,w.zd[m.i.toNat]?= some l∧l.drain=true
def LI (w:Wor) (m:uk):Nat:=(
 if m.pc=0 then 20 * (w.zr.length:Int)+4 * w.zd.length+w.pins.length+20
 else if m.pc=1 then 20 * (w.zr.length:Int)+4 * w.zd.length+w.pins.length+19
 else if m.pc=2 then 20 * (w.zr.length:Int)+4 * w.zd.length+10+(w.pins.length - m.i)
 else if m.pc=3 then 20 * (w.zr.length:Int)+4 * w.zd.length+10
 else if m.pc=4 then (w.zr.length - m.i) * 20+4 * w.zd.length+5
 else if m.pc=5 then (w.zr.length - m.i) * 20+4 * w.zd.length+5 - 1 - m.k
 else if m.pc=6 then (w.zr.length - m.i) * 20+4 * w.zd.length+5 - 18
 else if m.pc=8 then (w.zd.length - m.i) * 4
 else if m.pc=9 then (w.zd.length - m.i) * 4 - 1
 else (w.zd.length - m.i) * 4 - 2:Int).toNat
def Lb:∀ (l:List Gr),(∀ g ∈ l,g.ends.length<=4)->(l.flatMap (·.ends)).length<=l.length * 4
 | [],_=>by simp
 | g::l,h=>by
  have:=Lb l fun x hx=>h x (g9 _ hx)
  have:=h g (px ..);simp only [tz,gN,pS];omega
def Jz {v:uq} (h:lS v):1<=(yd v).length∧(yd v).length<=16:=by
 have f:=h.fE;have h4:=Lb v.zm fun g hg=>(f.2 g hg).1
 refine ⟨?_,by unfold yd;omega⟩;have h0:0 < v.zm.length:=by have:=(jq h.snap).zk.1;have:=h.len;omega
 obtain ⟨g,e,hg,he,_,_⟩:=vH h h0;have:e ∈ yd v:=List.mem_flatMap.2 ⟨g,dM hg,dM he⟩;exact List.length_pos_of_mem this
section
variable {N K:Nat} {w:Wor} {m:uk} {v:uq} {g:Gr} {e:En}
end
end Go.Wor
namespace Go.Wor
open Go.Ab Go.Proofs Tryz Go.Gat Go.Nam Go.Hos Go.Con Go.Sna Go.Pla
open Go.Hy hiding encI
def Lx (w:Wor) (m:uk) (v:uq) (g:Gr) (e:En):Prop:=(m.op.kind=1∧BY w m v g e)∨(m.op.kind=2∧Vm w m v g e)∨(m.op.kind=3∧Dw w m v g e)∨(m.op.kind=4∧Vo w m v g e)∨(m.op.kind=5∧Vn w m v g e)∨(m.op.kind=6∧Vp w m v g e)
def Lv (m:uk):Prop:=1<=m.answer.kind∧m.answer.kind<=13∧(m.op.kind=1↔m.answer.kind<=5)
def GP (w:Wor) (m:uk):Nat:=if m.op.kind=1 then Af w m else if m.op.kind=3 then B7 w m else if m.op.kind=5 then LI w m else if m.op.kind=6 then LJ w m else 0
section
variable {N K:Nat} {w:Wor} {m:uk} {v:uq} {g:Gr} {e:En}
def Nx.up {k:Int} {L:Wor->uk->uq->Gr->En->Prop} {F:uk->Prop} {μ:Wor->uk->Nat} {r:Wor × uk × uv} (h:Nx N K w m L F μ r) (hk:m.op.kind=k) (hL:∀ w' m' v g e,m'.op.kind=k->L w' m' v g e->Lx w' m' v g e) (hF:∀ m',m'.op.kind=k->F m'->Lv m') (hμ:∀ w' m',m'.op.kind=k->GP w' m'=μ w' m'):Nx N K w m Lx Lv GP r:=by
 have hk':r.2.1.op.kind=k:=by rw [h.op];exact hk
 refine ⟨h.ev,h.st,h.pins,h.tm,h.op,?_⟩;rcases h.go with ⟨h1,h2⟩ | ⟨⟨v',g',e',h1,h2⟩,h3⟩
 ·exact .inl ⟨h1,hF _ hk' h2⟩
 ·exact .inr ⟨⟨v',g',e',h1,hL _ _ _ _ _ hk' h2⟩,by rw [hμ _ _ hk',hμ _ _ hk];exact h3⟩
def S8 (su:qH w m v g e):lq w m=if m.op.kind=1 then qf w m v g e else if m.op.kind=2 then yB w m v g e else if m.op.kind=3 then vg w m else if m.op.kind=4 then ny w m
  else if m.op.kind=5 then yR w m else if m.op.kind=6 then nu w m else none:=by
 unfold lq;rw [su.eF];dsimp only;rw [su.u9];dsimp only;rw [su.eE]
end
def IE {w:Wor} {m:uk} {v:uq} {g:Gr} {e:En} (su:qH w m v g e):zY w m=true:=by
 unfold zY;simp only [dS,gR,yT];refine ⟨⟨⟨⟨su.world,su.zj⟩,su.done⟩,su.version⟩,?_⟩;rw [su.eF];simp only [dS,yT];refine ⟨su.zg,?_⟩;rw [su.u9];simp only [dS,yT,dZ];rw [su.eE];simp only [yT];exact ⟨⟨⟨su.end_,su.other⟩,su.slot⟩,⟨⟨by have:=su.listen;omega,su.i⟩,su.k⟩⟩
end Go.Wor
