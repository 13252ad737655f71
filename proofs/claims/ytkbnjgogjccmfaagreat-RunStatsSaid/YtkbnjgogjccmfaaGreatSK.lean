import Derived.Test.YtkbnjgogjccmfaaGreatSS
import Derived.Test.YtkbnjgogjccmfaaGreatSI
set_option linter.all false
set_option maxRecDepth 100000
set_option maxHeartbeats 4000000
namespace Go.Slp
open Go.Ab Go.Hy
def Fp {x i:Int} (h1: -1<=i) (h2:i<=2147483646):qW x i % 4294967296 - 1=i:=by unfold qW;omega
def RD {x i:Int} (h1: -1<=i) (h2:i<=2147483646):qW x i / 4294967296=(x / 4294967296+1) % 4294967296:=by unfold qW;omega
def F7 {x i:Int} (h1: -1<=i) (h2:i<=2147483646):u64 (qW x i):=by unfold qW u64;omega
def Ds (nx:List Int) (i0:Int):∀ k,jW nx (fA nx i0) k=jW nx i0 (k+1)
 | 0=>rfl
 | k+1=>by
  show fA nx (jW nx (fA nx i0) k)=fA nx (jW nx i0 (k+1));rw [Ds nx i0 k]
def KO (nx:List Int) (i0:Int) (k:Nat):xf nx i0 (k+1)=i0::xf nx (fA nx i0) k:=by
 unfold xf;rw [List.range_succ_eq_map,pF,pX]
 congr 1
 apply ri
 intro j _;exact (Ds nx i0 j).symm
def Fc {nx:List Int} {i0:Int} (h:fj nx i0=true) (h0:¬i0 < 0):jZ nx (fA nx i0)+1=jZ nx i0∧fj nx (fA nx i0)=true∧xf nx i0 (jZ nx i0)=i0::xf nx (fA nx i0) (jZ nx (fA nx i0)):=by
 have hp:=LH h h0;obtain ⟨N,hN⟩:∃ N,jZ nx i0=N+1:=⟨jZ nx i0 - 1,aw⟩;obtain ⟨c1,c2,c3⟩:=yO nx i0
 have hend:jW nx (fA nx i0) N= -1:=by
  rw [Ds,<- hN];simpa [fj] using h
 have e:jZ nx (fA nx i0)=N:=by
  refine F4 ?_ ?_
  ·have:fU nx (jW nx (fA nx i0) N)=false:=by rw [hend];simp [fU]
   simp [yx,this]
  ·intro j hj;have:=c3 (j+1) aw;simp only [yx,pz,p9] at this ⊢;rw [Ds];refine ⟨this.1,?_⟩;have h2:=this.2;rw [KO] at h2;simp only [List.contains_cons,pz] at h2;exact h2.2
 refine ⟨by rw [e,hN],by simp [fj,e,hend],?_⟩;rw [hN,e,KO]
def Am {e:En} (h:fj e.next (zC e)=true):qB e=(xf e.next (zC e) (jZ e.next (zC e)),0):=by
 unfold qB;rw [dU h]
def US {e:En} (he:e.ok) {a:En} {i:Int} (h:Ex e=(a,i,0)):
  eF e=true∧¬zC e < 0∧i=zC e∧a=⟨qW e.head (fA e.next (zC e)),e.next,e.zf⟩∧zC a=fA e.next (zC e)∧eF a=true∧a.ok∧(qB a).2=0∧(qB e)=(i::(qB a).1,0):=by
 unfold Ex at h;cases hv:eF e with
 | false=>rw [dU hv] at h;simp at h
 | true=>
  rw [dR (by simp [hv])] at h;by_cases h0:zC e < 0
  ·rw [dU h0] at h;simp at h
  ·rw [dR h0] at h;cases h
   obtain ⟨g1,g2,g3,g4⟩:=LR hv h0;obtain ⟨b1,b2,b3,b4⟩:=oS hv;have hh:zC ⟨qW e.head (fA e.next (zC e)),e.next,e.zf⟩=fA e.next (zC e):=Fp g3 aw;obtain ⟨t1,t2,t3⟩:=Fc b1 h0;have hok:fj (⟨qW e.head (fA e.next (zC e)),e.next,e.zf⟩:En).next (zC ⟨qW e.head (fA e.next (zC e)),e.next,e.zf⟩)=true:=by rw [hh];exact t2
   refine ⟨rfl,h0,rfl,rfl,hh,?_,⟨F7 g3 aw,he.2⟩,?_,?_⟩
   ·simp only [eF,hok,sX,dY,gp];exact ⟨⟨b2,b3⟩,b4⟩
   ·rw [Am hok]
   ·rw [Am b1,Am hok,hh,t3]
def JQ {nx:List Int} {s p v:Int} (h:p≠s) (h1:0<=s) (h2:0<=p):fA (nx.set s.toNat v) p=fA nx p:=by
 unfold fA;rw [gj,dR aw]
def QE {nx:List Int} {s v:Int} (h1:0<=s) (h2:s < nx.length):fA (nx.set s.toNat v) s=v:=by
 unfold fA;rw [gj,dU rfl,dU aw]
 rfl
def UG {e:En} (he:e.ok) {slot:Int} {a:En} (h:Eg e slot=(a,0)):
  eF e=true∧0<=slot∧slot < e.next.length∧a=⟨qW e.head slot,e.next.set slot.toNat (zC e),e.zf⟩∧zC a=slot∧eF a=true∧a.ok∧(qB e).2=0∧qB a=(slot::(qB e).1,0):=by
 unfold Eg at h;cases hv:eF e with
 | false=>rw [dU hv] at h;simp at h
 | true=>
  rw [dR (by simp [hv])] at h;by_cases h0:slot < 0∨e.next.length<=slot
  ·rw [dU h0] at h;simp at h
  ·rw [dR h0] at h;cases hc:(qB e).1.contains slot with
   | true=>rw [dU hc] at h;simp at h
   | false=>
    rw [dR (by rw [hc];decide)] at h;cases h
    obtain ⟨b1,b2,b3,b4⟩:=oS hv;have s1:0<=slot:=aw
    have s2:slot < e.next.length:=aw
    have hh:zC ⟨qW e.head slot,e.next.set slot.toNat (zC e),e.zf⟩=slot:=Fp aw aw;obtain ⟨c1,c2,c3⟩:=yO e.next (zC e);generalize hN:jZ e.next (zC e)=N at *;have hfr:qB e=(xf e.next (zC e) N,0):=by rw [Am b1,hN]
    rw [hfr] at hc
    have hnot:∀ k,k < N->jW e.next (zC e) k≠slot∧0<=jW e.next (zC e) k:=fun k hk=>by
     constructor
     ·intro e2;have:slot ∈ xf e.next (zC e) N:=gL.2 ⟨k,pN.2 hk,e2⟩;simp [this] at hc
     ·have:=c3 k hk;simp only [yx,pz,p9,fU,dY,gp] at this;exact this.1.1
    have hpos:∀ k,k<=N->jW (e.next.set slot.toNat (zC e)) slot (k+1)=jW e.next (zC e) k:=by
     intro k
     induction k with
     | zero=>intro _;exact QE s1 s2
     | succ k ih=>
      intro hk;show fA _ (jW (e.next.set slot.toNat (zC e)) slot (k+1))=fA e.next (jW e.next (zC e) k);rw [ih aw];exact JQ (hnot k aw).1 s1 (hnot k aw).2
    have hvis:∀ k,k<=N->xf (e.next.set slot.toNat (zC e)) slot (k+1)=slot::xf e.next (zC e) k:=fun k hk=>by
     unfold xf;rw [List.range_succ_eq_map,pF,pX]
     congr 1
     apply ri
     intro j hj;exact hpos j (by have:=pN.1 hj;omega)
    have hin:∀ p,fU (e.next.set slot.toNat (zC e)) p=fU e.next p:=fun p=>by simp [fU]
    have hend:jW e.next (zC e) N= -1:=by
     have:fj e.next (zC e)=true:=b1;simp only [fj,hN,gT] at this;exact dB
    have hcnt:jZ (e.next.set slot.toNat (zC e)) slot=N+1:=by
     refine F4 ?_ ?_
     ·have:fU (e.next.set slot.toNat (zC e)) (jW (e.next.set slot.toNat (zC e)) slot (N+1))=false:=by rw [hpos N (gf _),hend,hin];simp [fU]
      simp [yx,this]
     ·intro j hj;cases j with
      | zero=>
       simp only [yx,xf,jW,hin];simp [fU,s1,s2]
      | succ j=>
       have:=c3 j aw;simp only [yx,pz,p9] at this ⊢;rw [hpos j aw,hvis j aw,hin];refine ⟨this.1,?_⟩;rw [List.contains_cons,this.2];simp;exact (hnot j aw).1
    have hok:fj (e.next.set slot.toNat (zC e)) slot=true:=by
     simp only [fj,hcnt,hpos N (gf _),hend]
     rfl
    have hfa:qB ⟨qW e.head slot,e.next.set slot.toNat (zC e),e.zf⟩=(slot::xf e.next (zC e) N,0):=by
     rw [Am (by rw [hh];exact hok),hh];show (xf (e.next.set slot.toNat (zC e)) slot (jZ (e.next.set slot.toNat (zC e)) slot),(0:Int))=_;rw [hcnt,hvis N (gf _)]
    refine ⟨rfl,s1,s2,rfl,hh,?_,⟨F7 aw aw,⟨fun x hx=>?_,by simp;exact he.2.1.2⟩,he.2.2⟩,by rw [hfr],by rw [hfa,hfr]⟩
    ·simp only [eF,hh,hok,sX,dY,gp];exact ⟨⟨aA,aA⟩,b4⟩
    ·rcases gV hx with h | h
     ·exact he.2.1.1 x h
     ·have:=TE e;rw [h];exact ⟨aw,aw⟩
def SU (nx:List Int) (i0:Int):(xf nx i0 (jZ nx i0)).Nodup:=(DK (yO nx i0).2.2).1
end Go.Slp
namespace Go.Wor
open Go.Ab Go.Proofs Tryz Go.Hy Go.Gat Go.Nam Go.Hos Go.Con Go.Sna
def mem_set {α:Type} {l:List α} {i:Nat} {x y:α} (h:y ∈ l.set i x):y ∈ l∨y=x:=gV h
def xZ {α:Type} {l:List α} {i j:Nat} {x y:α} (h:(l.set i x)[j]?= some y):(i=j∧y=x∧i < l.length)∨(i≠j∧l[j]?= some y):=by
 rw [gj] at h;split at h
 ·rename_i hij;split at h
  ·rename_i u4;cases h;exact .inl ⟨hij,rfl,u4⟩
  ·cases h
 ·rename_i hij;exact .inr ⟨hij,h⟩
def jO.lK {w:Wor} (h:jO w) (t:Nat) {p:Int} (h0:0<=p) (h1:p<=w.zn+1):jO (nv w t p):=by
 have g:=zY.1 h.ground;refine ⟨zY.2 ⟨aq g.pins,⟨aq g.counts.1,g.counts.2⟩,g.zn,g.lock,fun q hq=>?_⟩,h.current,h.zr,h.bad,h.eR,h.ey⟩;rcases mem_set hq with hq | rfl
 ·exact g.lK q hq
 ·exact ⟨h0,h1⟩
def jO.count {w:Wor} (h:jO w) (t:Nat) {r:List Int} (h0:r.length=6):jO { w with counts:=w.counts.set t r }:=by
 have g:=zY.1 h.ground;refine ⟨zY.2 ⟨g.pins,⟨aq g.counts.1,fun q hq=>?_⟩,g.zn,g.lock,g.lK⟩,h.current,h.zr,h.bad,h.eR,h.ey⟩;rcases mem_set hq with hq | rfl
 ·exact g.counts.2 q hq
 ·exact h0
def jO.C7 {w:Wor} (h:jO w) {n:Int} (h0:n=0∨n=1):jO { w with lock:=n }:=by
 have g:=zY.1 h.ground;exact ⟨zY.2 ⟨g.pins,g.counts,g.zn,h0,g.lK⟩,h.current,h.zr,h.bad,h.eR,h.ey⟩
def jO.ER {w:Wor} (h:jO w) {n:Int} (h0:w.zn<=n) (h1:n<=1000000000000):jO { w with zn:=n }:=by
 have g:=zY.1 h.ground;refine ⟨zY.2 ⟨g.pins,g.counts,⟨by have:=g.zn.1;show 0<=n;omega,h1⟩,g.lock,fun p hp=>by have:=g.lK p hp;show _∧p<=n+1;omega⟩,h.current,h.zr,fun r hr=>?_,h.eR,h.ey⟩;have:=h.bad r hr;unfold yE at this ⊢;simp at this ⊢;exact ⟨⟨this.1.1,this.1.2⟩,aw⟩
def S7 {l l':List eL} (h:l.map (·.name)=l'.map (·.name)) (s:ec):zU l s=zU l' s:=by
 unfold zU
 have:l.findIdx? (fun r=>r.name == s)=l'.findIdx? (fun r=>r.name == s):=by
  have e:∀ l:List eL,l.findIdx? (fun r=>r.name == s)=(l.map (·.name)).findIdx? (fun x=>x == s):=fun l=>by rw [r8];rfl
  rw [e,e,h]
 rw [this]
def RB {l:List eL} {i:Nat} {x y:eL} (hx:l[i]?= some x) (h:y.name=x.name):(l.set i y).map (·.name)=l.map (·.name):=by
 rw [pL];exact yI _ _ (by rw [dT,hx,gh,h])
def jO.Cn {w:Wor} (h:jO w) {i:Nat} {x y:eL} (hx:w.zd[i]?= some x) (hn:y.name=x.name) (hy:Go.Gat.eF y=true):jO { w with zd:=w.zd.set i y }:=by
 refine ⟨h.ground,h.current,h.zr,h.bad,h.eR,fun j l hl=>?_⟩;show _∧zU (w.zd.set i y) l.name=j;rw [S7 (RB hx hn)];rcases xZ hl with ⟨rfl,rfl,_⟩ | ⟨_,hl⟩
 ·rw [hn];exact ⟨hy,(h.ey i x hx).2⟩
 ·exact h.ey j l hl
def mF.iS {m:u3} {v:u9} {g:Gr} {e:En} (h:mF v) (hg:v.zm[m.zi.toNat]?= some g) (he:g.ends[m.end_.toNat]?= some e) {e':En} {tk:Int} (hi:Slp.eF e'=true) (hl:e'.next.length=e.next.length):
  mF { v with zm:=v.zm.set m.zi.toNat { g with zt:=tk,ends:=g.ends.set m.end_.toNat e' } }:=by
 refine ⟨h.snap,aq h.len,fun i g2 x hg2 hx=>?_⟩;rcases xZ hg2 with ⟨rfl,rfl,_⟩ | ⟨_,hg2⟩
 ·obtain ⟨h1,h2⟩:=h.nZ _ g x hg hx;refine ⟨aq h1,fun y hy=>?_⟩;rcases mem_set hy with hy | rfl
  ·exact h2 y hy
  ·exact ⟨hi,by rw [hl];exact (h2 e (dS he)).len⟩
 ·exact h.nZ i g2 x hg2 hx
def jO.iS {w:Wor} {m:u3} {v:u9} {g:Gr} {e:En} (h:jO w) (hat:fk w m v g e) {e':En} {tk:Int} (hi:Slp.eF e'=true) (hl:e'.next.length=e.next.length):
  jO { w with ze:=w.ze.set m.version.toNat { v with zm:=v.zm.set m.zi.toNat { g with zt:=tk,ends:=g.ends.set m.end_.toNat e' } } }:=by
 refine ⟨h.ground,aq h.current,h.zr,fun r hr=>?_,fun i v2 hv=>?_,h.ey⟩
 ·have:=h.bad r hr;unfold yE at this ⊢;simpa using this
 ·rcases xZ hv with ⟨rfl,rfl,_⟩ | ⟨_,hv⟩
  ·obtain ⟨h1,h2⟩:=h.eR _ v hat.at_;exact ⟨h1.iS hat.eG hat.eS hi hl,h2⟩
  ·exact h.eR i v2 hv
structure Cal (K:Nat) (w:Wor):Prop where
 ey:∀ l ∈ w.zd,l.zf<=K
 ends : ∀ v ∈ w.ze, ∀ g ∈ v.zm, ∀ e ∈ g.ends, e.zf <= K
structure St (N K:Nat) (w:Wor):Prop where
 ji:jO w
 ty:iD N w
 fL:Cal K w
def St.mono {N K N' K':Nat} {w:Wor} (h:St N K w) (hN:N<=N') (hK:K<=K'):St N' K' w:=
 ⟨h.ji,⟨by have:=h.ty.iB;omega,by have:=h.ty.ey;omega,by have:=h.ty.ia;omega,h.ty.fS,h.ty.lJ⟩,⟨fun l hl=>by have:=h.fL.ey l hl;omega,fun v hv g hg e he=>by have:=h.fL.ends v hv g hg e he;omega⟩⟩
def St.lK {N K:Nat} {w:Wor} (h:St N K w) (t:Nat) {p:Int} (h0:0<=p) (h1:p<=w.zn+1):St N K (nv w t p):=⟨h.ji.lK t h0 h1,⟨h.ty.iB,h.ty.ey,h.ty.ia,h.ty.fS,h.ty.lJ⟩,⟨h.fL.ey,h.fL.ends⟩⟩
def St.count {N K:Nat} {w:Wor} (h:St N K w) (t:Nat) {r:List Int} (h0:r.length=6):St N K { w with counts:=w.counts.set t r }:=⟨h.ji.count t h0,⟨h.ty.iB,h.ty.ey,h.ty.ia,h.ty.fS,h.ty.lJ⟩,⟨h.fL.ey,h.fL.ends⟩⟩
def St.C7 {N K:Nat} {w:Wor} (h:St N K w) {n:Int} (h0:n=0∨n=1):St N K { w with lock:=n }:=⟨h.ji.C7 h0,⟨h.ty.iB,h.ty.ey,h.ty.ia,h.ty.fS,h.ty.lJ⟩,⟨h.fL.ey,h.fL.ends⟩⟩
def St.ER {N K:Nat} {w:Wor} (h:St N K w) {n:Int} (h0:w.zn<=n) (h1:n<=1000000000000):St N K { w with zn:=n }:=⟨h.ji.ER h0 h1,⟨h.ty.iB,h.ty.ey,h.ty.ia,h.ty.fS,h.ty.lJ⟩,⟨h.fL.ey,h.fL.ends⟩⟩
def St.Cn {N K:Nat} {w:Wor} (h:St N K w) {i:Nat} {x y:eL} (hx:w.zd[i]?= some x) (hn:y.name=x.name) (hy:Go.Gat.eF y=true) (hi:i64 y.zf) (hk:y.zf<=K):St N K { w with zd:=w.zd.set i y }:=by
 refine ⟨h.ji.Cn hx hn hy,⟨h.ty.iB,aq h.ty.ey,h.ty.ia,h.ty.fS,fun l hl=>?_⟩,⟨fun l hl=>?_,h.fL.ends⟩⟩
 ·rcases mem_set hl with hl | rfl
  ·exact h.ty.lJ l hl
  ·exact ⟨by rw [hn];exact (h.ty.lJ x (dS hx)).1,hi⟩
 ·rcases mem_set hl with hl | rfl
  ·exact h.fL.ey l hl
  ·exact hk
def St.iS {N K:Nat} {w:Wor} {m:u3} {v:u9} {g:Gr} {e:En} (h:St N K w) (hat:fk w m v g e) {e':En} {tk:Int} (hi:Slp.eF e'=true) (hl:e'.next.length=e.next.length) (ho:e'.ok) (ht:u64 tk) (hk:e'.zf<=K):
  St N K { w with ze:=w.ze.set m.version.toNat { v with zm:=v.zm.set m.zi.toNat { g with zt:=tk,ends:=g.ends.set m.end_.toNat e' } } }:=by
 have mv:=dS hat.at_;have mg:=dS hat.eG;refine ⟨h.ji.iS hat hi hl,⟨aq h.ty.iB,h.ty.ey,h.ty.ia,fun v2 hv=>?_,h.ty.lJ⟩,⟨h.fL.ey,fun v2 hv g2 hg e2 he=>?_⟩⟩
 ·rcases mem_set hv with hv | rfl
  ·exact h.ty.fS v2 hv
  ·refine ⟨(h.ty.fS v mv).1,fun g2 hg=>?_⟩;rcases mem_set hg with hg | rfl
   ·exact (h.ty.fS v mv).2 g2 hg
   ·refine ⟨ht,fun e2 he=>?_⟩;rcases mem_set he with he | rfl
    ·exact ((h.ty.fS v mv).2 g mg).2 e2 he
    ·exact ho
 ·rcases mem_set hv with hv | rfl
  ·exact h.fL.ends v2 hv g2 hg e2 he
  ·rcases mem_set hg with hg | rfl
   ·exact h.fL.ends v mv g2 hg e2 he
   ·rcases mem_set he with he | rfl
    ·exact h.fL.ends v mv g mg e2 he
    ·exact hk
def FZ (h:List Bool):∀ k x,x ∈ iA h k->0<=x∧x < k∧x < h.length
 | 0,x,hx=>by cases hx
 | k+1,x,hx=>by
  simp only [iA] at hx;split at hx
  ·rename_i hk;rcases gJ.1 hx with hx | hx
   ·have:=FZ h k x hx;omega
   ·rw [gM.1 hx];have:=(dP.1 hk).1;omega
  ·have:=FZ h k x hx;omega
def GN {c:eV} {n:Int} (h:(u4 c).length≠0):0<=((u4 c)[(n % (u4 c).length).toNat]?).getD 0∧((u4 c)[(n % (u4 c).length).toNat]?).getD 0 < c.zL.length:=by
 have h1:0<=n % (u4 c).length:=r4 _ aw;have h2:n % (u4 c).length < (u4 c).length:=r5 _ aw;have h3:(n % (u4 c).length).toNat < (u4 c).length:=aw
 rw [dQ h3,pj];have:=FZ c.zL c.zL.length _ (gS h3);omega
def Uv (n:Int):u64 (IntKind.u64.wrap n):=by
 have h:IntKind.u64.wrap n=n % 18446744073709551616:=rfl;rw [h];unfold u64;omega
structure Nx (N K:Nat) (w:Wor) (m:u3) (L:Wor->u3->u9->Gr->En->Prop) (F:u3->Prop) (μ:Wor->u3->Nat) (r:Wor × u3 × u6):Prop where
 ev:r.2.2.access≠0
 st:St (N+1) (K+1) r.1
 pins:r.1.pins.length=w.pins.length
 tm:fe r.2.1
 op:r.2.1.op=m.op
 go:(r.2.1.done=true∧F r.2.1)∨(∃ v g e,qG r.1 r.2.1 v g e∧L r.1 r.2.1 v g e)∧μ r.1 r.2.1 < μ w m
structure CU (w:Wor) (m:u3) (v:u9) (g:Gr) (e:En):Prop where
 pc:(0<=m.pc∧m.pc<=12)∨(20<=m.pc∧m.pc<=23)
 ep:m.pc=1∨m.pc=2->m.zn=w.zn
 ey:(4<=m.pc∧m.pc<=12)∨m.pc=22->0<=m.listen
 early:4<=m.pc∧m.pc<=5->m.zi=0∧m.end_=0∧m.other=0
 oO:4<=m.pc∧m.pc<=8->m.slot=0
 draw:m.pc=6->∃ c,v.snap.zk[m.zi.toNat]?= some c∧(u4 c).length≠0
 slot:m.pc=10∨m.pc=11->m.slot=zC m.word∧e.head=m.word
 link:m.pc=11->e.next[m.slot.toNat]?= some m.link
 iN:20<=m.pc->1<=m.answer.kind∧m.answer.kind<=5
 EU:(5<=m.pc∧m.pc<=12)∨(20<=m.pc∧m.pc<=22)->0<=m.listen->∃ x,w.zd[m.listen.toNat]?= some x∧1<=x.zf
def MV (m:u3):Prop:=1<=m.answer.kind∧m.answer.kind<=5
def AK (_:Wor) (m:u3):Nat:=(24 - m.pc).toNat
def Cz {w w':Wor} {m m':u3} (h:m.pc < m'.pc) (h2:m'.pc<=23):AK w' m' < AK w m:=by unfold AK;omega
def E9 (l:List eL) (s:ec): -1<=zU l s∧zU l s < l.length:=by
 unfold zU;cases h:l.findIdx? (fun r=>r.name == s) with
 | none=>simp only;omega
 | some i=>
  have:=(gD.1 h).1;simp only;omega
def v7 {v:u9} (h:mF v) {k:Nat} (hk:k < v.zm.length):∃ g e,v.zm[k]?= some g∧g.ends[0]?= some e∧0 < g.ends.length∧0 < e.next.length:=by
 obtain ⟨g,hg⟩:∃ g,v.zm[k]?= some g:=⟨_,dQ hk⟩;have f:=h.fV.2 g (dS hg);have hl:0 < g.ends.length:=aw
 have he:g.ends[0]?= some g.ends[0]:=dQ hl;exact ⟨g,g.ends[0],hg,he,hl,by have:=(f.2.2 _ (dS he)).2.2;omega⟩
section
variable {N K:Nat} {w:Wor} {m:u3} {v:u9} {g:Gr} {e:En}
def wF (su:qG w m v g e) {e':En} {tk:Int} (hl:e'.next.length=e.next.length) (gw:jO { w with ze:=w.ze.set m.version.toNat { v with zm:=v.zm.set m.zi.toNat { g with zt:=tk,ends:=g.ends.set m.end_.toNat e' } } }) {m':u3}
  (h1:m'.zg=m.zg) (h2:m'.done=false) (h3:m'.version=m.version) (h4:m'.zi=m.zi) (h5:m'.end_=m.end_) (h6:m'.other=m.other) (h7:m'.slot=m.slot) (h8:m'.listen=m.listen) (h9:m'.i=m.i) (h10:m'.k=m.k):
  qG { w with ze:=w.ze.set m.version.toNat { v with zm:=v.zm.set m.zi.toNat { g with zt:=tk,ends:=g.ends.set m.end_.toNat e' } } } m'
   { v with zm:=v.zm.set m.zi.toNat { g with zt:=tk,ends:=g.ends.set m.end_.toNat e' } } { g with zt:=tk,ends:=g.ends.set m.end_.toNat e' } e':=by
 have s1:=(dP.1 su.eX).1;have s2:=(dP.1 su.eG).1;have s3:=(dP.1 su.eS).1;refine ⟨ql.2 gw,by rw [h1];exact su.zg,h2,?_,?_,?_,?_,?_,?_,?_,?_,?_,by rw [h9];exact su.i,by rw [h10];exact su.k⟩
 ·rw [h3];simpa using su.version
 ·rw [h3];exact dW s1
 ·rw [h4];simpa using su.zi
 ·rw [h4];exact dW s2
 ·rw [h5];simpa using su.end_
 ·rw [h5];exact dW s3
 ·rw [h6];simpa using su.other
 ·rw [h7,hl];exact su.slot
 ·rw [h8];exact su.listen
def zM {r:Wor × u3 × u6} {P:Wor × u3 × u6->Prop} {o:mY} (h:o=some r) (hp:P r):∃ r,o=some r∧P r:=⟨r,h,hp⟩
def Xx (st:St N K w) (su:qG w m v g e) (tm:fe m) (lo:CU w m v g e) (h3:m.pc < 3):∃ r,qg w m v g e=some r∧Nx N K w m CU MV AK r:=by
 have gw:=st.ji;have ge:=zY.1 gw.ground;have hep:=ge.zn;have st1:St (N+1) (K+1) w:=st.mono aw aw;have lp:=lo.pc;unfold qg;rw [dU h3];unfold Ae;rcases (by omega:m.pc=0∨m.pc=1∨m.pc=2) with p | p | p
 ·rw [dU p]
  refine zM rfl ⟨uW,st1,rfl,uO,rfl,.inr ⟨⟨v,g,e,uQ,
   ⟨uL,fun _=>rfl,uK,uK,uK,uK,uK,uK,uK,uK⟩⟩,Cz (by show m.pc < 1;omega) (by show (1:Int)<=23;decide)⟩⟩
 ·have he:=lo.ep (.inl p);have hw:IntKind.i64.wrap (m.zn+1)=w.zn+1:=by rw [he];exact jc aw aw
  rw [dR aw,dU p,hw];have sp:=st1.lK m.zg.toNat (p:=w.zn+1) aw aw
  refine zM rfl ⟨tJ,sp,aj,uO,rfl,.inr ⟨⟨v,g,e,⟨ql.2 sp.ji,aq su.zg,su.done,su.version,su.eX,su.zi,su.eG,su.end_,su.eS,su.other,su.slot,su.listen,su.i,su.k⟩,
   ⟨uL,fun _=>he,uK,uK,uK,uK,uK,uK,uK,uK⟩⟩,Cz (by show m.pc < 2;omega) (by show (2:Int)<=23;decide)⟩⟩
 ·have he:=lo.ep (.inr p);rw [dR aw,dR aw,dU p,dU he.symm]
  refine zM rfl ⟨uW,st1,rfl,uO,rfl,.inr ⟨⟨v,g,e,uQ,
   ⟨uL,uK,uK,uK,uK,uK,uK,uK,uK,uK⟩⟩,Cz (by show m.pc < 3;omega) (by show (3:Int)<=23;decide)⟩⟩
end
def LS {e:En} (h:Slp.eF e=true) (n:Int) (h0:0<=n):Slp.eF (qw e e.head n)=true:=by
 obtain ⟨h1,h2,h3,h4⟩:=Slp.oS h;unfold Slp.eF;simp only [dY,gp];exact ⟨⟨⟨h1,h2⟩,h3⟩,h0⟩
def DS {l:eL} (h:Go.Gat.eF l=true):xJ l.name=true∧0<=l.zf∧(l.drain || !l.closed)=true:=by
 unfold Go.Gat.eF at h;simp only [dY,gp] at h;exact ⟨h.1.1,h.1.2,h.2⟩
def DE {l:eL} (h1:xJ l.name=true) (h2:0<=l.zf) (h3:(l.drain || !l.closed)=true):Go.Gat.eF l=true:=by
 unfold Go.Gat.eF;simp only [dY,gp];exact ⟨⟨h1,h2⟩,h3⟩
section
variable {N K:Nat} {w:Wor} {m:u3} {v:u9} {g:Gr} {e:En}
def Xv (st:St N K w) (su:qG w m v g e) (tm:fe m) (lo:CU w m v g e) (hk:m.op.kind=1) (hN:N<=100000000) (p:m.pc=3):∃ r,qg w m v g e=some r∧Nx N K w m CU MV AK r:=by
 have gw:=st.ji;have st1:St (N+1) (K+1) w:=st.mono aw aw;have pr:=E9 w.zd m.op.listen;have hl:=st.ty.ey;have cu:=gw.current;obtain ⟨v',hv'⟩:∃ v',w.ze[w.current.toNat]?= some v':=⟨_,dQ aw⟩;have gv:=(gw.eR _ v' hv').1;have h0:0 < v'.zm.length:=aE
 obtain ⟨g',e',hg,he,l1,l2⟩:=v7 gv h0;unfold qg;rw [dR aw,dU p];by_cases q:zU w.zd m.op.listen < 0
 ·rw [dU q];refine zM rfl ⟨uW,st1,rfl,⟨aJ,tm.word,tm.link,tm.host,tm.path,tm.d0,tm.d1,tm.cfg,(fun h=>absurd ((show m.op.kind=6 from h).symm.trans hk) ar)⟩,rfl,.inr ⟨⟨v',g',e',⟨su.world,su.zg,su.done,cu,hv',⟨gy _,aK⟩,hg,⟨gy _,aK⟩,he,⟨gy _,aK⟩,⟨gy _,aK⟩,pr,su.i,su.k⟩,⟨uL,uK,uK,uK,uK,uK,uK,uK,fun _=>⟨by show (1:Int)<=2;decide,by show (2:Int)<=5;decide⟩,(fun _ h=>absurd (show 0<=zU w.zd m.op.listen from h) aw)⟩⟩,Cz (by show m.pc < 20;omega) (by show (20:Int)<=23;decide)⟩⟩
 ·rw [dR q]
  refine zM rfl ⟨uW,st1,rfl,⟨aJ,tm.word,tm.link,tm.host,tm.path,tm.d0,tm.d1,tm.cfg,tm.iN⟩,rfl,.inr ⟨⟨v',g',e',⟨su.world,su.zg,su.done,cu,hv',⟨gy _,aK⟩,hg,⟨gy _,aK⟩,he,⟨gy _,aK⟩,⟨gy _,aK⟩,pr,su.i,su.k⟩,
   ⟨uL,uK,fun _=>by show 0<=zU w.zd m.op.listen;omega,fun _=>⟨rfl,rfl,rfl⟩,fun _=>rfl,uK,uK,uK,uK,uK⟩⟩,Cz (by show m.pc < 4;omega) (by show (4:Int)<=23;decide)⟩⟩
def Gh (st:St N K w) (su:qG w m v g e) {x:eL} (hx:w.zd[m.listen.toNat]?= some x) (n:Int) (h0:0<=n) (h1:n<=K+1) (hK:K<=1099511627776):St (N+1) (K+1) { w with zd:=w.zd.set m.listen.toNat { x with zf:=n } }:=by
 have li:=DS (st.ji.ey _ x hx).1;exact (st.mono aw aw:St (N+1) (K+1) w).Cn hx rfl (DE li.1 h0 li.2.2) (by show i64 n;unfold i64;omega) (by show n<=_;omega)
end
section
variable {N K:Nat} {w:Wor} {m:u3} {v:u9} {g:Gr} {e:En}
def vB (st:St N K w) (su:qG w m v g e):Slp.eF e=true∧e.next.length<=4∧1<=e.next.length∧0<=e.zf∧e.zf<=K∧e.ok∧u64 g.zt:=by
 have mv:=dS su.eX;have mg:=dS su.eG;have me:=dS su.eS;have f:=((st.ji.eR _ v su.eX).1.fV.2 g mg).2.2 e me;exact ⟨f.1,f.2.1,f.2.2,(Slp.oS f.1).2.2.2,st.fL.ends v mv g mg e me,((st.ty.fS v mv).2 g mg).2 e me,((st.ty.fS v mv).2 g mg).1⟩
def Jw (st:St N K w) (su:qG w m v g e) {k pc:Int} (h0:0<=k) (h5:k<=5):∃ r2:List Int,r2.length=6∧nC w m k pc=some ({ w with counts:=w.counts.set m.zg.toNat r2 },{ m with pc:=pc },eI m 3 10 k):=by
 obtain ⟨r0,hr,hl⟩:=TZ st.ji su.zg.1 su.zg.2;unfold nC;rw [hr];dsimp only;rw [dQ (show k.toNat < r0.length by omega)];exact ⟨_,aq hl,rfl⟩
end
def look (m:List (Int × Value)) (i:Int):Option Value:=(jo m i).bind fun j=>(m[j]?).map (·.2)
def KK (m:List (Int × Value)) (i:Int):jo m i=(m.map (·.1)).findIdx? (fun k=>decide (k=i)):=by
 unfold jo;rw [r8]
 rfl
def TM (m:List (Int × Value)) (k i:Int) (v:Value):look (yt m k v) i=if k=i then some v else look m i:=by
 unfold yt;cases hf:jo m k with
 | some j=>
  dsimp only;obtain ⟨u,hu⟩:=xX hf
  have keys:(m.set j (k,v)).map (·.1)=m.map (·.1):=by
   rw [pL];exact yI _ _ (by rw [dT,hu];rfl)
  have e:jo (m.set j (k,v)) i=jo m i:=by rw [KK,KK,keys]
  unfold look;rw [e];have u4:=(dP.1 hu).1;by_cases hki:k=i
  ·subst hki;rw [dU rfl,hf];simp [u4]
  ·rw [dR hki];cases hi:jo m i with
   | none=>rfl
   | some j'=>
    obtain ⟨u',hu'⟩:=xX hi
    have hne:j≠j':=by
     rintro rfl;rw [hu] at hu';cases hu'
     exact hki rfl
    simp [gj,hne]
 | none=>
  dsimp only
  have e:jo (m++[(k,v)]) i=if k=i then some m.length else jo m i:=by
   unfold jo;rw [sy];by_cases hki:k=i
   ·subst hki;have:m.findIdx? (fun kv=>decide (kv.1=k))=none:=hf;rw [this,dU rfl];simp
   ·rw [dR hki];cases m.findIdx? (fun kv=>decide (kv.1=i)) with
    | some j=>rfl
    | none=>simp [hki]
  unfold look;rw [e];by_cases hki:k=i
  ·rw [dU hki,dU hki];simp
  ·rw [dR hki,dR hki];cases hi:jo m i with
   | none=>rfl
   | some j'=>
    obtain ⟨u',hu'⟩:=xX hi;have:=(dP.1 hu').1;simp [dX this]
theorem PQ (l:List eJ) (i:Int):vw l i=(match look (yQ l) i with | some (.bool b)=>b | _=>false):=rfl
def PO (l:List eJ) (r:eJ):yQ (l++[r])=yt (yQ l) r.version (Value.bool r.gone):=by
 unfold yQ;rw [rS]
 rfl
def JA (l:List eJ) (r:eJ) (i:Int):vw (l++[r]) i=if r.version=i then r.gone else vw l i:=by
 rw [PQ,PO,TM];by_cases h:r.version=i
 ·rw [dU h,dU h]
 ·rw [dR h,dR h]
  rfl
def BY (l:List eJ) (i:Int) (hu:∀ (a b:Nat) (x y:eJ),l[a]?= some x->l[b]?= some y->x.version=y.version->a=b):vw l i=true↔∃ r ∈ l,r.version=i∧r.gone=true:=by
 have key:∀ n,∀ l:List eJ,l.length=n->(∀ (a b:Nat) (x y:eJ),l[a]?= some x->l[b]?= some y->x.version=y.version->a=b)->(vw l i=true↔∃ r ∈ l,r.version=i∧r.gone=true):=by
  intro n
  induction n with
  | zero=>
   intro l hl _;rw [rb.1 hl];constructor
   ·intro h;cases h
   ·rintro ⟨r,hr,_⟩;cases hr
  | succ n ih=>
   intro l hl hu;obtain ⟨l',r,rfl⟩:∃ l' r,l=l'++[r]:=⟨l.dropLast,l.getLast (by rintro rfl;cases hl),(List.dropLast_concat_getLast _).symm⟩;have hl':l'.length=n:=aq hl
   have ih':=ih l' hl' fun a b x y ha hb=>hu a b x y (by rw [dX (dP.1 ha).1];exact ha) (by rw [dX (dP.1 hb).1];exact hb)
   have hlast:(l'++[r])[l'.length]?= some r:=aj
   rw [JA];by_cases h:r.version=i
   ·rw [dU h];constructor
    ·intro hg;exact ⟨r,aj,h,hg⟩
    ·rintro ⟨x,hx,hv,hg⟩;obtain ⟨a,ha⟩:=gA.1 hx;have:=hu a _ x r ha hlast (by rw [hv,h]);subst this;rw [hlast] at ha;cases ha
     exact hg
   ·rw [dR h,ih'];constructor
    ·rintro ⟨x,hx,hv⟩;exact ⟨x,by simp [hx],hv⟩
    ·rintro ⟨x,hx,hv,hg⟩;rcases gJ.1 hx with hx | hx
     ·exact ⟨x,hx,hv,hg⟩
     ·rw [gM.1 hx] at hv;exact absurd hv h
 exact key _ l rfl hu
def CB {l:List eJ} (h:Go.Lim.eF l=true) {i:Nat} {x:eJ} (hx:l[i]?= some x):0<=x.version∧0<=x.at_∧∀ (j:Nat) (y:eJ),j < i->l[j]?= some y->y.version≠x.version:=by
 have h2:=gd (show decide (∀ i,(h:i < l.length)->Go.Lim.fj l i l[i]=true)=true from h) i (dP.1 hx).1;rw [(dP.1 hx).2] at h2;unfold Go.Lim.fj Go.Lim.Bz at h2;simp only [dY,pd,pn,gU,gT] at h2;refine ⟨aw,aw,fun j y hj hy he=>h2.2 y ?_ he⟩;exact gA.2 ⟨j,by rw [gH,dU hj];exact hy⟩
def LV {l:List eJ}:Go.Lim.eF l=true↔∀ (i:Nat) (x:eJ),l[i]?= some x->0<=x.version∧0<=x.at_∧∀ (j:Nat) (y:eJ),j < i->l[j]?= some y->y.version≠x.version:=by
 constructor
 ·exact fun h i x hx=>CB h hx
 ·intro h;refine rC fun i hi=>?_
  obtain ⟨h1,h2,h3⟩:=h i l[i] (dQ hi);unfold Go.Lim.fj Go.Lim.Bz;simp only [dY,pd,pn,gU,gT];refine ⟨⟨aw,aw⟩,fun y hy he=>?_⟩;obtain ⟨j,hj⟩:=gA.1 hy;rw [gH] at hj;split at hj
  ·exact h3 j y (by assumption) hj he
  ·cases hj
def B6 {l:List eJ} (h:Go.Lim.eF l=true):∀ (a b:Nat) (x y:eJ),l[a]?= some x->l[b]?= some y->x.version=y.version->a=b:=fun a b x y ha hb he=>by
 rcases rI a b with u4 | rfl | u4
 ·exact absurd he ((CB h hb).2.2 a x u4 ha)
 ·rfl
 ·exact absurd he.symm ((CB h ha).2.2 b y u4 hb)
def Sx (n:Int):(Slp.kA n).1.ok:=by
 unfold Slp.kA;split
 ·exact ⟨ar,⟨fun x hx=>(by cases hx),ar⟩,ar⟩
 ·refine ⟨(by decide:u64 1),⟨fun x hx=>?_,?_⟩,(by decide:i64 0)⟩
  ·obtain ⟨i,hi,rfl⟩:=gL.1 hx;have:=pN.1 hi;split
   ·decide
   ·exact ⟨aw,aw⟩
  ·simp;omega
def kb {x:eV} (h:Ei x):Slp.eF (xG x)=true∧((xG x).next.length:Int)=x.xP∧(xG x).zf=0∧(xG x).ok:=by
 have hs:=h.xP;unfold xG;have:x.xP=1∨x.xP=2∨x.xP=3∨x.xP=4:=aw
 rcases this with e | e | e | e <;> rw [e] <;> exact ⟨ar,ar,ar,Sx _⟩
def JI {s:Sna} (h:vn s=true):mF (qR s).1:=by
 unfold qR;rw [dU h];refine ⟨h,aj,fun i g x hg hx=>?_⟩;simp only [dT] at hg;have hx:s.zk[i]?= some x:=hx;rw [hx] at hg;cases hg
 have gc:=(jB h).all x (dS hx);have f:=kb gc;refine ⟨by unfold iz;simp,fun e he=>?_⟩;unfold iz at he;rw [gQ he];exact ⟨f.1,f.2.1⟩
section
variable {N K:Nat} {w:Wor} {m:u3} {v:u9} {g:Gr} {e:En}
def St.L4 (st:St N K w) {c:fb} (hc:(jg c).1=0) (sc:xD c):St (N+1) (K+1) { w with current:=w.ze.length,ze:=w.ze++[y9 c] }:=by
 have gw:=st.ji;have hb:=Fm hc;have gv:mF (y9 c):=JI hb;have hsw:y9 c=⟨(jz c).1,(jz c).1.zk.map iz,false⟩:=by unfold y9 qR;rw [dU hb]
 have la:∀ r ∈ w.zr,0<=r.version∧r.version < w.ze.length:=fun r hr=>by
  obtain ⟨i,hi⟩:=gA.1 hr;have:=AN gw hi;omega
 refine ⟨⟨gw.ground,⟨uh _,by show ((w.ze.length:Nat):Int) < ((w.ze++[y9 c]).length:Nat);simp only [gW,rk];omega⟩,gw.zr,fun r hr=>?_,fun i v2 hv=>?_,gw.ey⟩,⟨by have:=st.ty.iB;simp;omega,bZ,by have:=st.ty.ia;show w.zr.length<=_;omega,fun v2 hv=>?_,st.ty.lJ⟩,⟨fun l hl=>by have:=st.fL.ey l hl;omega,fun v2 hv g2 hg e2 he=>?_⟩⟩
 ·have h1:=la r hr;have h2:=gw.bad r hr;unfold yE at h2 ⊢;simp at h2 ⊢;omega
 ·have hv:(w.ze++[y9 c])[i]?= some v2:=hv;by_cases hi:i < w.ze.length
  ·rw [dX hi] at hv;exact gw.eR i v2 hv
  ·rw [gu aw] at hv
   have:i - w.ze.length=0:=by
    have:=(dP.1 hv).1;exact cQ
   rw [this] at hv;cases hv
   refine ⟨gv,?_⟩;rw [hsw];show false=vw w.zr i
   symm
   by_cases hg:vw w.zr i=true
   ·obtain ⟨r,hr,he,_⟩:=(BY w.zr i (B6 gw.zr)).1 hg;have:=la r hr;omega
   ·simpa using hg
 ·rcases gJ.1 hv with hv | hv
  ·exact st.ty.fS v2 hv
  ·rw [gM.1 hv,hsw];refine ⟨wY sc,fun g2 hg=>?_⟩;obtain ⟨x,hx,rfl⟩:=gL.1 hg;have f:=kb ((jB hb).all x hx);refine ⟨(by decide:u64 0),fun e2 he=>?_⟩;unfold iz at he;rw [gQ he];exact f.2.2.2
 ·rcases gJ.1 hv with hv | hv
  ·have:=st.fL.ends v2 hv g2 hg e2 he;omega
  ·rw [gM.1 hv,hsw] at hg;obtain ⟨x,hx,rfl⟩:=gL.1 hg;have f:=kb ((jB hb).all x hx);unfold iz at he;rw [gQ he,f.2.2.1];omega
def St.Mu (st:St N K w) {x:eJ} (h0:0<=x.version) (h1:x.version < w.ze.length) (h2:x.version≠w.current) (h3:0<=x.at_) (h4:x.at_<=w.zn) (hg:x.gone=false) (hn:∀ r ∈ w.zr,r.version≠x.version):St (N+1) (K+1) { w with zr:=w.zr++[x] }:=by
 have gw:=st.ji;refine ⟨⟨gw.ground,gw.current,?_,fun r hr=>?_,fun i v2 hv=>⟨(gw.eR i v2 hv).1,?_⟩,gw.ey⟩,⟨by have:=st.ty.iB;show w.ze.length<=_;omega,bZ,by have:=st.ty.ia;simp;omega,st.ty.fS,st.ty.lJ⟩,⟨fun l hl=>by have:=st.fL.ey l hl;omega,fun v2 hv g2 hg e2 he=>by have:=st.fL.ends v2 hv g2 hg e2 he;omega⟩⟩
 ·rw [LV];intro i y hy;by_cases hi:i < w.zr.length
  ·have hy':w.zr[i]?= some y:=by rw [<- dX (l₂:=[x]) hi];exact hy
   obtain ⟨a,b,c⟩:=CB gw.zr hy';exact ⟨a,b,fun j z hj hz=>c j z hj (by rw [<- dX (l₂:=[x]) aw];exact hz)⟩
  ·have hy2:(w.zr++[x])[i]?= some y:=hy;rw [gu aw] at hy2
   have:i - w.zr.length=0:=by
    have:=(dP.1 hy2).1;exact cQ
   rw [this] at hy2;cases hy2
   refine ⟨h0,h3,fun j z hj hz=>?_⟩;have hz2:(w.zr++[x])[j]?= some z:=hz;rw [dX aw] at hz2;exact hn z (dS hz2)
 ·rcases gJ.1 hr with hr | hr
  ·exact gw.bad r hr
  ·rw [gM.1 hr];unfold yE;simp;omega
 ·rw [(gw.eR i v2 hv).2];show _=vw (w.zr++[x]) i;rw [JA];by_cases he:x.version=i
  ·rw [dU he,hg];by_cases hgo:vw w.zr i=true
   ·obtain ⟨r,hr,hv2,_⟩:=(BY w.zr i (B6 gw.zr)).1 hgo;exact absurd (hv2.trans he.symm) (hn r hr)
   ·simpa using hgo
  ·rw [dR he]
def St.qn (st:St N K w) {i:Nat} {k:Int} {v2:u9} {x:eJ} (h0:0<=k) (hv:w.ze[k.toNat]?= some v2) (hx:w.zr[i]?= some x) (he:x.version=k):St (N+1) (K+1) { w with ze:=w.ze.set k.toNat (oo v2),zr:=w.zr.set i (wu x) }:=by
 have gw:=st.ji;have la:=AN gw hx
 have same:∀ (j:Nat) (y:eJ),(w.zr.set i (wu x))[j]?= some y->∃ z,w.zr[j]?= some z∧z.version=y.version∧z.at_=y.at_:=fun j y hy=>by
  rcases xZ hy with ⟨rfl,rfl,_⟩ | ⟨_,hy⟩
  ·exact ⟨x,hx,rfl,rfl⟩
  ·exact ⟨y,hy,rfl,rfl⟩
 have isL:Go.Lim.eF (w.zr.set i (wu x))=true:=by
  rw [LV];intro j y hy;obtain ⟨z,hz,e1,e2⟩:=same j y hy;obtain ⟨a,b,c⟩:=CB gw.zr hz;refine ⟨aw,aw,fun j2 y2 hj hy2=>?_⟩;obtain ⟨z2,hz2,e3,_⟩:=same j2 y2 hy2;rw [<- e3,<- e1];exact c j2 z2 hj hz2
 refine ⟨⟨gw.ground,aq gw.current,isL,fun r hr=>?_,fun j v3 hv3=>?_,gw.ey⟩,⟨by have:=st.ty.iB;simp;omega,bZ,by have:=st.ty.ia;simp;omega,fun v3 hv3=>?_,st.ty.lJ⟩,⟨fun l hl=>by have:=st.fL.ey l hl;omega,fun v3 hv3 g2 hg e2 he=>?_⟩⟩
 ·obtain ⟨j,hj⟩:=gA.1 hr;obtain ⟨z,hz,e1,e2⟩:=same j r hj;have:=gw.bad z (dS hz);unfold yE at this ⊢;rw [<- e1,<- e2];simpa using this
 ·have gone2:vw (w.zr.set i (wu x)) j=if (j:Int)=k then true else vw w.zr j:=by
   by_cases hjk:(j:Int)=k
   ·rw [dU hjk,BY _ _ (B6 isL)];exact ⟨wu x,gA.2 ⟨i,dW (dP.1 hx).1⟩,by show x.version=_;omega,rfl⟩
   ·rw [dR hjk,uy,BY _ _ (B6 isL),BY _ _ (B6 gw.zr)];constructor
    ·rintro ⟨r,hr,h1,h2⟩;rcases mem_set hr with hr | rfl
     ·exact ⟨r,hr,h1,h2⟩
     ·exact absurd (show x.version=j from h1) aw
    ·rintro ⟨r,hr,h1,h2⟩;obtain ⟨b,hb⟩:=gA.1 hr
     have hbi:i≠b:=by
      rintro rfl;rw [hx] at hb;cases hb
      omega
     exact ⟨r,gA.2 ⟨b,by rw [gj,dR hbi];exact hb⟩,h1,h2⟩
  show mF v3∧v3.qn=vw (w.zr.set i (wu x)) j;rw [gone2];rcases xZ hv3 with ⟨rfl,rfl,_⟩ | ⟨hne,hv3⟩
  ·rw [dU aw];exact ⟨⟨(gw.eR _ v2 hv).1.snap,(gw.eR _ v2 hv).1.len,(gw.eR _ v2 hv).1.nZ⟩,rfl⟩
  ·rw [dR aw];exact gw.eR j v3 hv3
 ·rcases mem_set hv3 with hv3 | rfl
  ·exact st.ty.fS v3 hv3
  ·exact st.ty.fS v2 (dS hv)
 ·rcases mem_set hv3 with hv3 | rfl
  ·have:=st.fL.ends v3 hv3 g2 hg e2 he;omega
  ·have:=st.fL.ends v2 (dS hv) g2 hg e2 he;omega
end
structure Eu (w:Wor) (m:u3) (v:u9) (g:Gr) (e:En):Prop where
 pc:0<=m.pc∧m.pc<=2
 eR:1<=m.pc->m.version≠w.current∧∀ r ∈ w.zr,r.version≠m.version
 ep:m.pc=2->0<=m.zn∧m.zn<=w.zn
def Xq (m:u3):Prop:=6<=m.answer.kind∧m.answer.kind<=13
def C8 (_:Wor) (m:u3):Nat:=(3 - m.pc).toNat
section
variable {N K:Nat} {w:Wor} {m:u3} {v:u9} {g:Gr} {e:En}
def Ga (st:St N K w) (su:qG w m v g e) (tm:fe m) (lo:Eu w m v g e) (hk:m.op.kind=3):∃ r,va w m=some r∧Nx N K w m Eu Xq C8 r:=by
 have gw:=st.ji;have st1:St (N+1) (K+1) w:=st.mono aw aw;have pc:=lo.pc;have cu:=gw.current;unfold va;rcases (by omega:m.pc=0∨m.pc=1∨m.pc=2) with p | p | p
 ·rw [dU p];by_cases q:mn m.op.config=0
  ·rw [dU q];have hc:(jg m.op.config).1=0:=by rw [<- wZ];exact q
   have st2:=st.L4 hc (tm.cfg hk);obtain ⟨v',hv'⟩:∃ v',w.ze[w.current.toNat]?= some v':=⟨_,dQ aw⟩;have gv:=(gw.eR _ v' hv').1;have h0:0 < v'.zm.length:=aE
   obtain ⟨g',e',hg,he,l1,l2⟩:=v7 gv h0
   refine zM rfl ⟨(by show (6:Int)≠0;decide),st2,rfl,uO,rfl,.inr ⟨⟨v',g',e',⟨ql.2 st2.ji,su.zg,su.done,⟨cu.1,aR⟩,
    by show (w.ze++[y9 m.op.config])[w.current.toNat]?= some v';rw [dX aw];exact hv',⟨gy _,aK⟩,hg,⟨gy _,aK⟩,he,⟨gy _,aK⟩,⟨gy _,aK⟩,su.listen,by show (0:Int)<=(w.ze.length:Nat);omega,su.k⟩,
    ⟨uL,fun _=>⟨by show w.current≠(w.ze.length:Nat);omega,fun r hr=>?_⟩,uK⟩⟩,by unfold C8;show (3 - 1:Int).toNat < (3 - m.pc).toNat;omega⟩⟩
   obtain ⟨i,hi⟩:=gA.1 hr;exact (AN gw hi).2.2.2.2
  ·rw [dR q];exact zM rfl ⟨uW,st1,rfl,uP,rfl,.inl ⟨rfl,by show (6:Int)<=9∧(9:Int)<=13;decide⟩⟩
 ·have vf:=lo.eR aw;have ep:=(zY.1 gw.ground).zn;rw [dR aw,dU p];refine zM rfl ⟨uW,st1,rfl,uO,rfl,.inr ⟨⟨v,g,e,uQ,⟨uL,fun _=>vf,fun _=>⟨ep.1,gy _⟩⟩⟩,by unfold C8;show (3 - 2:Int).toNat < (3 - m.pc).toNat;omega⟩⟩
 ·have vf:=lo.eR aw;have ep:=lo.ep p;have sv:=su.version
  have nl:wx w m=false:=by
   unfold wx;simp only [pz,gU,gT,beq_eq_false_iff_ne,pn];exact ⟨⟨⟨fun r hr=>vf.2 r hr,vf.1⟩,aw⟩,aw⟩
  have st2:=st.Mu (x:=⟨m.version,m.zn,false⟩) sv.1 sv.2 vf.1 ep.1 ep.2 rfl vf.2;rw [dR aw,dR aw,dU p,nl];exact zM rfl ⟨tJ,st2,rfl,uP,rfl,.inl ⟨rfl,by show (6:Int)<=8∧(8:Int)<=13;decide⟩⟩
def Xt (_:Wor) (m:u3) (_:u9) (_:Gr) (_:En):Prop:=m.pc=0
def Xr (_:Wor) (m:u3) (_:u9) (_:Gr) (_:En):Prop:=m.pc=9
structure W0 (w:Wor) (m:u3) (v:u9) (g:Gr) (e:En):Prop where
 pc:m.pc=0
 k:m.k < 6
 i:m.i < w.counts.length
def Ni (w:Wor) (m:u3):Nat:=((w.counts.length - m.i) * 6 - m.k).toNat
end
structure Xs (w:Wor) (m:u3) (v:u9) (g:Gr) (e:En):Prop where
 pc:(0<=m.pc∧m.pc<=6)∨(8<=m.pc∧m.pc<=10)
 lK:m.pc=2->m.i < w.pins.length
 Xu:m.pc=4->m.i<=w.zr.length
 ia:m.pc=5∨m.pc=6->∃ r,w.zr[m.i.toNat]?= some r∧r.version=m.version∧r.gone=false
 act:m.pc=5->m.k < (yu v).length
 ey:m.pc=9∨m.pc=10->∃ l,w.zd[m.i.toNat]?= some l∧l.drain=true
def Nh (w:Wor) (m:u3):Nat:=(
 if m.pc=0 then 20 * (w.zr.length:Int)+4 * w.zd.length+w.pins.length+20
 else if m.pc=1 then 20 * (w.zr.length:Int)+4 * w.zd.length+w.pins.length+19
 else if m.pc=2 then 20 * (w.zr.length:Int)+4 * w.zd.length+10+(w.pins.length - m.i)
 else if m.pc=3 then 20 * (w.zr.length:Int)+4 * w.zd.length+10
 else if m.pc=4 then (w.zr.length - m.i) * 20+4 * w.zd.length+5
 else if m.pc=5 then (w.zr.length - m.i) * 20+4 * w.zd.length+5 - 1 - m.k
 else if m.pc=6 then (w.zr.length - m.i) * 20+4 * w.zd.length+5 - 18
 else if m.pc=8 then (w.zd.length - m.i) * 4
 else if m.pc=9 then (w.zd.length - m.i) * 4 - 1
 else (w.zd.length - m.i) * 4 - 2:Int).toNat
def MR:∀ (l:List Gr),(∀ g ∈ l,g.ends.length<=4)->(l.flatMap (·.ends)).length<=l.length * 4
 | [],_=>by simp
 | g::l,h=>by
  have:=MR l fun x hx=>h x (px _ hx)
  have:=h g (pD ..);simp only [uj,gW,pR];omega
def K6 {v:u9} (h:mF v):1<=(yu v).length∧(yu v).length<=16:=by
 have f:=h.fV;have h4:=MR v.zm fun g hg=>(f.2 g hg).1
 refine ⟨?_,by unfold yu;omega⟩;have h0:0 < v.zm.length:=by have:=(jB h.snap).zk.1;have:=h.len;omega
 obtain ⟨g,e,hg,he,_,_⟩:=v7 h h0;have:e ∈ yu v:=List.mem_flatMap.2 ⟨g,dS hg,dS he⟩;exact List.length_pos_of_mem this
section
variable {N K:Nat} {w:Wor} {m:u3} {v:u9} {g:Gr} {e:En}
end
end Go.Wor
namespace Go.Wor
open Go.Ab Go.Proofs Tryz Go.Gat Go.Nam Go.Hos Go.Con Go.Sna Go.Pla
open Go.Hy hiding encI
def MX (w:Wor) (m:u3) (v:u9) (g:Gr) (e:En):Prop:=(m.op.kind=1∧CU w m v g e)∨(m.op.kind=2∧Xr w m v g e)∨(m.op.kind=3∧Eu w m v g e)∨(m.op.kind=4∧Xt w m v g e)∨(m.op.kind=5∧Xs w m v g e)∨(m.op.kind=6∧W0 w m v g e)
def MU (m:u3):Prop:=1<=m.answer.kind∧m.answer.kind<=13∧(m.op.kind=1↔m.answer.kind<=5)
def Ib (w:Wor) (m:u3):Nat:=if m.op.kind=1 then AK w m else if m.op.kind=3 then C8 w m else if m.op.kind=5 then Nh w m else if m.op.kind=6 then Ni w m else 0
section
variable {N K:Nat} {w:Wor} {m:u3} {v:u9} {g:Gr} {e:En}
def Nx.up {k:Int} {L:Wor->u3->u9->Gr->En->Prop} {F:u3->Prop} {μ:Wor->u3->Nat} {r:Wor × u3 × u6} (h:Nx N K w m L F μ r) (hk:m.op.kind=k) (hL:∀ w' m' v g e,m'.op.kind=k->L w' m' v g e->MX w' m' v g e) (hF:∀ m',m'.op.kind=k->F m'->MU m') (hμ:∀ w' m',m'.op.kind=k->Ib w' m'=μ w' m'):Nx N K w m MX MU Ib r:=by
 have hk':r.2.1.op.kind=k:=by rw [h.op];exact hk
 refine ⟨h.ev,h.st,h.pins,h.tm,h.op,?_⟩;rcases h.go with ⟨h1,h2⟩ | ⟨⟨v',g',e',h1,h2⟩,h3⟩
 ·exact .inl ⟨h1,hF _ hk' h2⟩
 ·exact .inr ⟨⟨v',g',e',h1,hL _ _ _ _ _ hk' h2⟩,by rw [hμ _ _ hk',hμ _ _ hk];exact h3⟩
def Ul (su:qG w m v g e):vz w m=if m.op.kind=1 then qg w m v g e else if m.op.kind=2 then yv w m v g e else if m.op.kind=3 then va w m else if m.op.kind=4 then wh w m
  else if m.op.kind=5 then yA w m else if m.op.kind=6 then vN w m else none:=by
 unfold vz;rw [su.eX];dsimp only;rw [su.eG];dsimp only;rw [su.eS]
end
def JM {w:Wor} {m:u3} {v:u9} {g:Gr} {e:En} (su:qG w m v g e):z6 w m=true:=by
 unfold z6;simp only [dY,pd,vh];refine ⟨⟨⟨⟨su.world,su.zg⟩,su.done⟩,su.version⟩,?_⟩;rw [su.eX];simp only [dY,vh];refine ⟨su.zi,?_⟩;rw [su.eG];simp only [dY,vh,gp];rw [su.eS];simp only [vh];exact ⟨⟨⟨su.end_,su.other⟩,su.slot⟩,⟨⟨by have:=su.listen;omega,su.i⟩,su.k⟩⟩
end Go.Wor
