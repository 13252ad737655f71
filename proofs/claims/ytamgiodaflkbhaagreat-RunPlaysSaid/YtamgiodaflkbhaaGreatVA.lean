import Derived.WalkKit
import Derived.Still
import Derived.LoopN
import Derived.LoopNIn
import Derived.ControlIn
import Derived.CallsIn
import Derived.TacticsIn
import Derived.OrdersIn
import Derived.Scope
import Derived.RangeFuncLeaves
import Derived.RangeFuncRecord
set_option linter.all false
set_option maxRecDepth 100000
set_option maxHeartbeats 4000000
def V{α:Sort _}{a:α}:a=a:=rfl
def an{p:Prop}(n:p:=by omega):p:=n
def ah{p:Prop}(n:p:=by simp):p:=n
def ak{p:Prop}(n:p:=by kernel_rfl):p:=n
def aj{p:Prop}(n:p:=by decide):p:=n
def aq{p:Prop}(n:p:=by simp[maxLen];omega):p:=n
def ar{p:Prop}(n:p:=by simp;omega):p:=n
def aL{p:Prop}(n:p:=by show _*8<=_;simp;omega):p:=n
def bN{p:Prop}(n:p:=by rw[hlg];simp[maxLen];omega):p:=n
def ck{p:Prop}(n:p:=by rw[hlg];show(k+1)*64<=_;omega):p:=n
def cJ{p:Prop}(n:p:=by rw[lC];show(k+1)*24<=_;omega):p:=n
def bO{p:Prop}(n:p:=by rw[sA];rfl):p:=n
def bM{p:Prop}(n:p:=by rw[ru hk,<-hx];simp):p:=n
def ct{p:Prop}(n:p:=by rw[ru hj,<-hg];simp):p:=n
def cw{p:Prop}(n:p:=by rw[ru hn,<-he];simp):p:=n
def cB{p:Prop}(n:p:=by rw[ru hk,<-hv];simp):p:=n
def cI{p:Prop}(n:p:=by rw[lC];simp[maxLen];omega):p:=n
def cy{p:Prop}(n:p:=by rw[lE];show(n+1)*40<=_;omega):p:=n
def bJ{p:Prop}(n:p:=by rw[hx];exact rj hk):p:=n
def cH{p:Prop}(n:p:=by rw[ru hk,<-hr];simp):p:=n
def cx{p:Prop}(n:p:=by rw[lE];simp[maxLen];omega):p:=n
def cA{p:Prop}(n:p:=by rw[lG];show(j+1)*32<=_;omega):p:=n
def bQ{p:Prop}(n:p:=by show _*24<=_;simp;omega):p:=n
def aO{p:Prop}(n:p:=by show 1+1<=48;decide):p:=n
def cz{p:Prop}(n:p:=by rw[lG];simp[maxLen];omega):p:=n
def da{p:Prop}(n:p:=by show(out++[_]).length<=_;rw[rB,r7];omega):p:=n
def cG{p:Prop}(n:p:=by show _*40<=_;simp;omega):p:=n
def cZ{p:Prop}(n:p:=by show zJ _ ⟨1,0,5,_,0⟩::zJ _ ⟨1,0,2,_,0⟩::zJ _ ⟨1,0,3,_,0⟩::_=_;rw[zI (enc:=zt) (λ_=>V),zI (enc:=zy) (λ_=>V),zI (enc:=zx) (λ_=>V)];rfl):p:=n
def di{p:Prop}(n:p:=by rw[hpc];rfl):p:=n
def bL{p:Prop}(n:p:=by intro ob hob;simp at hob;rcases hob with rfl|rfl|rfl|rfl|rfl|rfl|rfl <;> first|exact hX _|exact hY|rfl):p:=n
def c9{p:Prop}(n:p:=by show(List.set _ _ _).length=_;rw[sF,hr]):p:=n
def cF{p:Prop}(n:p:=by rw[lV];show(k+1)*104<=_;omega):p:=n
def cQ{p:Prop}(n:p:=by rw[ru hn,<-hz];simp):p:=n
def c7{p:Prop}(n:p:=by rw[hno,show decide (zZ ((l.take k).map yS) x<0)=false from by simp at h3|-;omega,sT]):p:=n
def aM{p:Prop}(n:p:=by show((((out.map jb).length+1)*168:Nat):Nat)<=_;rw[mO];omega):p:=n
def cp{p:Prop}(n:p:=by simp at h1 h2;omega):p:=n
def ay{p:Prop}(n:p:=by have:=hs.base;simp;omega):p:=n
def bZ{p:Prop}(n:p:=by intro u hu;simp at hu;subst hu;rfl):p:=n
def aP{p:Prop}(n:p:=by show 47+1<=48;decide):p:=n
def bp{p:Prop}(n:p:=by simp[h2]):p:=n
def cD{p:Prop}(n:p:=by rw[lV];simp[maxLen];omega):p:=n
def aC{p:Prop}(n:p:=by (unfold iJ;rw[rW (show ¬1<=s.threads.length by simp at h2;omega)];simp)):p:=n
def aE{p:Prop}(n:p:=by (unfold iJ;rw[rW (show ¬s.threads.length<=8 by simp at h3;omega)];simp)):p:=n
def aG{p:Prop}(n:p:=by (unfold iJ;rw[rW (show ¬s.zY.length<=4000 by simp at h4;omega)];simp)):p:=n
def cX{p:Prop}(n:p:=by rw[rb];exact vD zt _ _ (xL m v0 g0 (yw m e0) g0.zC e0.head e0.zo) _ V):p:=n
def cU{p:Prop}(n:p:=by rw[ml];exact WS (by omega) (by omega)):p:=n
def cW{p:Prop}(n:p:=by rw[rb];exact vD zy _ _ (nN m g0 (yw m e0) g0.zC e0.head e0.zo) _ V):p:=n
def bu{p:Prop}(n:p:=by simp;intro e;subst e;exact h (sd ..)):p:=n
def aK{p:Prop}(n:p:=by rw[ml];exact tq (by omega)):p:=n
def bd{p:Prop}(n:p:=by have h1:=pO hB;have h2:=pO hn;simp;omega):p:=n
def cT{p:Prop}(n:p:=by cases h:w.pins with|nil=>rw[h]at hx;simp at hx|cons a b=>exact⟨a,b,rfl⟩):p:=n
def de{p:Prop}(n:p:=by show i64 0;decide):p:=n
def dj{p:Prop}(n:p:=by show zJ _ _::zJ _ _::zJ _ ⟨1,0,1,_,0⟩::_=_;rw[zI (enc:=zA) (λ_=>V)];rfl):p:=n
def bY{p:Prop}(n:p:=by simp only[iT,f.N7 (by rw[<-f.h0.n];exact hi)]):p:=n
def cO{p:Prop}(n:p:=by cases h:w.zc with|nil=>rw[h]at hx;simp at hx|cons a b=>exact⟨a,b,rfl⟩):p:=n
def aD{p:Prop}(n:p:=by simp at h2;omega):p:=n
def aS{p:Prop}(n:p:=by rw[mA];show _*104<=_;simp;omega):p:=n
def bE{p:Prop}(n:p:=by rw[m1];simp;omega):p:=n
def aJ{p:Prop}(n:p:=by simp[h1]):p:=n
def aW{p:Prop}(n:p:=by rw[uz];exact ef):p:=n
def bc{p:Prop}(n:p:=by rw[h]at hr;cases hr):p:=n
def db{p:Prop}(n:p:=by show 0+(given.map qY).length<=maxLen;rw[mg];simp only[maxLen];omega):p:=n
def dc{p:Prop}(n:p:=by show(given.map qY).length+1<=maxLen;rw[mg];simp only[maxLen];omega):p:=n
def df{p:Prop}(n:p:=by show(List.replicate _ _).length<_;rw[tj];omega):p:=n
def aX{p:Prop}(n:p:=by rw[hrows.len,hcs,<-rP];exact rz _ hroom):p:=n
def bj{p:Prop}(n:p:=by simp[ho,hv,hc,eqGuard,binOp,run_equal_slice_nil w t e _ len cap ht]):p:=n
def b9{p:Prop}(n:p:=by unfold vh;simp at h1 h2 h3 h4 h5 h6 h7|-;simp[h1,h2,h3,h4,h5,h6,h7]):p:=n
def cV{p:Prop}(n:p:=by rw[rb];exact vD zx _ _ (vN (yw m e0) e0.head e0.zo) _ V):p:=n
def ax{p:Prop}(n:p:=by simpa [Env.at] using ho.1):p:=n
def bz{p:Prop}(n:p:=by show _*16<=_;simp;omega):p:=n
def cN{p:Prop}(n:p:=by show(k+1)*104<=_;omega):p:=n
def c8{p:Prop}(n:p:=by show(out.map jb).length+1<=maxLen;rw[mO];simp only[maxLen];omega):p:=n
def aQ{p:Prop}(n:p:=by show 3+44<=48;decide):p:=n
def aH{p:Prop}(n:p:=by rw[h1];decide):p:=n
def bw{p:Prop}(n:p:=by rcases s4.1 h with h|h;exact absurd h.symm e;exact h):p:=n
def cK{p:Prop}(n:p:=by have:=pC h;omega):p:=n
def aN{p:Prop}(n:p:=by rw[ry];rfl):p:=n
def bS{p:Prop}(n:p:=by simp at q1;omega):p:=n
def aA{p:Prop}(n:p:=by simp[h]):p:=n
def aU{p:Prop}(n:p:=by rw[hh.n];exact ft):p:=n
def aV{p:Prop}(n:p:=by simp only[maxLen]at hm;omega):p:=n
def bf{p:Prop}(n:p:=by show _<=w2.heap.size;rw[a4];exact g.size):p:=n
def br{p:Prop}(n:p:=by rw[<-l1];exact h2):p:=n
def bU{p:Prop}(n:p:=by have:=((yn gv.snap).all c (pE hc)).zM.2;omega):p:=n
def cm{p:Prop}(n:p:=by simp at q1 q2;omega):p:=n
def cR{p:Prop}(n:p:=by show j+1<=maxLen;simp only[maxLen];omega):p:=n
def cS{p:Prop}(n:p:=by show n+1<=maxLen;simp only[maxLen];omega):p:=n
def aB{p:Prop}(n:p:=by simp[ft]):p:=n
def cb{p:Prop}(n:p:=by rw[u6];simp[vh,GO,Ay,ha,@eq_comm _ 1 b.kind]):p:=n
def au{p:Prop}(n:p:=by rw[Cq];decide):p:=n
def bn{p:Prop}(n:p:=by simp[ho,Op.operands,Call.operands,hcl]):p:=n
def bq{p:Prop}(n:p:=by unfold qe;rw[h2];exact(show v7 sz0 rows0 hops=_ from hg')):p:=n
def aR{p:Prop}(n:p:=by rw[mA];simp[maxLen];omega):p:=n
def bt{p:Prop}(n:p:=by have:=h1;simp at this;omega):p:=n
def aY{p:Prop}(n:p:=by rw[hcap2];exact grownCap_ge w _ _ e):p:=n
def aF{p:Prop}(n:p:=by simp at h3;omega):p:=n
def bP{p:Prop}(n:p:=by rw[pz];exact hll.symm):p:=n
def aZ{p:Prop}(n:p:=by rw[jN hs.tmps hw];decide):p:=n
def bo{p:Prop}(n:p:=by intro hb;simp[hb]at hcb):p:=n
def bA{p:Prop}(n:p:=by simp_all[yq]):p:=n
def bB{p:Prop}(n:p:=by simp_all[yU]):p:=n
def bm{p:Prop}(n:p:=by simpa [Nat.blt_eq,Env.cut] using h):p:=n
def cY{p:Prop}(n:p:=by rw[rb,sA];rfl):p:=n
def aI{p:Prop}(n:p:=by rw[h2];trivial):p:=n
def bh{p:Prop}(n:p:=by rw[hh.n,hs.heap.n];exact hs.base):p:=n
def bR{p:Prop}(n:p:=by rw[<-hh.n,<-h2.n];exact g.le.n):p:=n
def cP{p:Prop}(n:p:=by rw[hy];exact rj hj):p:=n
def bF{p:Prop}(n:p:=by rw[m1];simp):p:=n
def bW{p:Prop}(n:p:=by rw[<-f.h0.n];exact hi):p:=n
def aT{p:Prop}(n:p:=by (try dsimp only);omega):p:=n
def bD{p:Prop}(n:p:=by rw[he,pD h2]):p:=n
def bT{p:Prop}(n:p:=by have:=t.iB;omega):p:=n
def cq{p:Prop}(n:p:=by unfold yO;exact h.symm):p:=n
def cg{p:Prop}(n:p:=by show _*8<=_;simp[hvk];omega):p:=n
def cL{p:Prop}(n:p:=by rw[hq];rfl):p:=n
def aw{p:Prop}(n:p:=by unfold mP;rw[hnext,hev];rfl):p:=n
def bC{p:Prop}(n:p:=by simp[h3]):p:=n
def bG{p:Prop}(n:p:=by simp at h6 h7|-;omega):p:=n
def bH{p:Prop}(n:p:=by simp at h8 h9|-;omega):p:=n
def bV{p:Prop}(n:p:=by rintro rfl;simp at hx):p:=n
def c6{p:Prop}(n:p:=by rw[ht,he]):p:=n
def cM{p:Prop}(n:p:=by rw[hq];simp):p:=n
def ao{p:Prop}(n:p:=by simp[h5]):p:=n
def dh{p:Prop}(n:p:=by simp at h3|-;omega):p:=n
def dg{p:Prop}(n:p:=by simp at h2|-;omega):p:=n
def ai{p q:Prop}(h:q)(e:q->p:=by intro zh;simpa using zh):p:=e h
def dk{p:Prop}(n:p:=by exact⟨.inl V,_,_,.refl _,rfl,cE 2⟩):p:=n
def dm{p:Prop}(n:p:=by exact⟨.inl V,_,zl.var 1 V V V (.cons (.refl _) (.cons (.refl _) (.cons (.refl _) (.cons (WC.nil 0 1) (.cons (WC.nil 0 5) (.cons (WC.nil 0 4) (.cons (WC.nil 0 1) (.cons (WC.nil 0 3) .nil)))))))),rfl⟩):p:=n
def dp{p:Prop}(n:p:=by exact z5 V ⟨t1,ok,id,mt.al,λ_=>⟨MT.mT hk uO mt.al ⟨uL,λh=>by dsimp only at h|-;omega⟩,(λ_ h=>by dsimp only at h;omega)⟩⟩):p:=n
def dq{p:Prop}(n:p:=by rw[m6];refine⟨λh=>absurd h ah,λ_=>dd ?_⟩;refine⟨ah,uH ?_⟩;rw[pQ];refine⟨rfl,.inr V,cz,cA,dd ?_⟩;refine .inl ⟨rfl,?_,trivial⟩;rw[zk an,eG];exact cE 7):p:=n
def dt{p:Prop}(n:p:=by exact z5 V ⟨t1,ok,id,mt.al,λ_=>⟨MT.Ak hk uO mt.al tG,(λq=>absurd (hk.symm.trans q) aj)⟩⟩):p:=n
def du{p:Prop}(n:p:=by refine .inl ⟨.inl V,.inr V,aq,aL,uH ?_⟩;refine⟨rfl,.inr V,cx,cy,dd ?_⟩;refine .inl ⟨rfl,?_,trivial⟩;rw[zk an,eE];exact cE 9):p:=n
def dv{p:Prop}(n:p:=by refine dd ?_;refine td ?_;exact uI):p:=n
def dw{p:Prop}(n:p:=by exact⟨.inl V,_,_,.refl _,rfl,zl.jd 6 ta V V V (zR V (zR V (zR (qm lowV) (zR (qm lowG) (zR (qm lowE) V))))) V⟩):p:=n
def dx{p:Prop}(n:p:=by exact⟨.inl V,_,_,.refl _,rfl,zl.jd 9 ta V V V (zR (qm (NR (b:=1) (n:=9) aj hX V)) V) V⟩):p:=n
def dy{p:Prop}(n:p:=by rw[m5];refine⟨λh=>absurd h ah,λ_=>dd ?_⟩;refine⟨ah,uH ?_⟩;rw[pQ];refine⟨rfl,.inr V,cD,cF,dd ?_⟩;refine .inl ⟨rfl,?_,trivial⟩;rw[zk an,eV];exact cE 5):p:=n
def dz{p:Prop}(n:p:=by refine .inl ⟨rfl,?_,trivial⟩;rw[zk an,eC];exact cE 7):p:=n
def dA{p:Prop}(n:p:=by exact h.elim):p:=n
def dB{p:Prop}(n:p:=by refine dd ?_;exact uI):p:=n
def dC{p:Prop}(n:p:=by rw[pT];exact⟨hk,h2,λj hj=>by simp only[hr j an hj];decide⟩):p:=n
def dD{p:Prop}(n:p:=by exact⟨.inl V,_,_,.refl _,rfl,zl.jd 4 ta V V V (zR V (zR V (zR (qm low) V))) V⟩):p:=n
def dE{p:Prop}(n:p:=by exact(g2.frame k (rG hk g.size) λhc=>(g.own k hc).elim (λh=>by omega) ho).trans (g.frame k hk ho)):p:=n
def dF{p:Prop}(n:p:=by exact⟨.inl V,_,_,.refl _,rfl,cE 1⟩):p:=n
def dG{p:Prop}(n:p:=by rw[zk an];exact cE 1):p:=n
def dH{p:Prop}(n:p:=by refine .inl ⟨rfl,?_,trivial⟩;rw[zk an];exact cE 2):p:=n
def dI{p:Prop}(n:p:=by refine zl.trans (zl.qN 7 1 151 3 V V (.inl V) V V) ?_;exact cC):p:=n
def dJ{p:Prop}(n:p:=by refine zl.trans (zl.qN 5 3 111 2 V V (.inl V) V V) ?_;exact cC):p:=n
def dK{p:Prop}(n:p:=by rw[zk an];exact cE 0):p:=n
def dL{p:Prop}(n:p:=by simp at this;omega):p:=n
def dM{p:Prop}(n:p:=by refine tc ?_;exact dk):p:=n
def dN{p:Prop}(n:p:=by exact⟨.inl V,_,zl.cell 2 V (WC.nil 0 1),rfl⟩):p:=n
def dO{p:Prop}(n:p:=by refine⟨λh=>absurd h ah,λ_=>dd ?_⟩;refine⟨ah,uH ?_⟩;exact uI):p:=n
def dP{p:Prop}(n:p:=by refine zl.trans (zl.qN 2 6 155 1 V V (.inl V) V V) ?_;exact cC):p:=n
def dQ{p:Prop}(n:p:=by exact⟨_,_,.refl _,rfl,.inl ⟨rfl,rfl,rfl⟩⟩):p:=n
def dR{p:Prop}(n:p:=by refine⟨an,ar,dd ?_⟩;rw[e1];refine⟨_,jX ah hk,rfl,dd ?_⟩;refine .inl ⟨rfl,?_,trivial⟩;rw[zk an,<-qZ hF hk];exact cC):p:=n
def dS{p:Prop}(n:p:=by exact⟨_,_,zl.mask [0,1,4,7,8] _ _,0,ah,rfl,ah,rfl⟩):p:=n
def dT{p:Prop}(n:p:=by refine dd ?_;exact⟨.inl V,_,zl.var 0 V V V (.cons (.refl _) (.cons (WC.nil 0 1) (.cons (.refl _) .nil))),rfl⟩):p:=n
def dU{p:Prop}(n:p:=by exact⟨.inl V,_,zl.keep [3] 1 _ _ V V V V,rfl,rfl⟩):p:=n
def dV{p:Prop}(n:p:=by rw[hr];exact hk _ w E hh (.v _ V) (qn.refl w E H)):p:=n
def dW{p:Prop}(n:p:=by exact⟨.inl V,_,zl.zN 2 0 5 V V V V (.inr V) V ah (shut_map (enc:=zT) (λ_=>V) _) (zB V),rfl⟩):p:=n
def dX{p:Prop}(n:p:=by refine zl.trans (zl.qN 2 4 106 5 V V (.inl V) V V) ?_;exact cC):p:=n
def dY{p:Prop}(n:p:=by have g:=g1.trans g2;exact⟨E1,⟨hR,hs.tmps.mono g.le,hs.defers.grow hs.heap g,ay⟩,g.iW tA⟩):p:=n
def dZ{p:Prop}(n:p:=by exact⟨.inr V,_,.refl _,rfl,rfl⟩):p:=n
def gd{p:Prop}(n:p:=by refine .inl ⟨rfl,?_,trivial⟩;exact dK):p:=n
def gh{p:Prop}(n:p:=by refine uD ?_;rw[vj ah];exact⟨.inl V,_,zl.fD [1] [6] _ _ V V V V,rfl,rfl⟩):p:=n
def gi{p:Prop}(n:p:=by exact⟨.inl V,_,zl.FP 2 V V (.inr V) ah (shut_map (λ_=>V) (x::l)),rfl⟩):p:=n
def gk{p:Prop}(n:p:=by refine dd ?_;exact uJ):p:=n
def gp{p:Prop}(n:p:=by exact rj hk):p:=n
def gu{p:Prop}(n:p:=by exact z5 V ⟨B7 t a b c,d,Qs a,mt.al,λ_=>⟨MT.mT hk uO mt.al ⟨uL,λh=>by dsimp only at h|-;omega⟩,(λ_ h=>by dsimp only at h;omega)⟩⟩):p:=n
def gz{p:Prop}(n:p:=by have he:=he.trans (pA (by simp[ha]));refine uD ?_;refine .inl ⟨rfl,?_,(λj hj=>by (by_cases e:j=k);(subst e;exact he);(exact hr j an))⟩;exact dG):p:=n
def gD{p:Prop}(n:p:=by refine ab func327 ?_;refine af h ?_;exact uI):p:=n
def gE{p:Prop}(n:p:=by exact hr j hj an):p:=n
def gF{p:Prop}(n:p:=by refine .inr ⟨ah,uH ?_⟩;exact uI):p:=n
def gG{p:Prop}(n:p:=by exact z5 V ⟨t1,ok,id,de,λ_=>⟨MT.mT hk uP (de) ⟨uL,λh=>by dsimp only at h|-;omega⟩,(λ_ h=>by dsimp only at h;omega)⟩⟩):p:=n
def gH{p:Prop}(n:p:=by have:=(px.1 ho).1;exact dL):p:=n
def gI{p:Prop}(n:p:=by exact this):p:=n
def gJ{p:Prop}(n:p:=by exact .agg _ ys (ai this.1) (λi c y e1 e2=>this.2 i c y e1 uX) h3):p:=n
def gK{p:Prop}(n:p:=by rw[e];exact uI):p:=n
def gL{p:Prop}(n:p:=by rw[zk an];exact cE 2):p:=n
def gM{p:Prop}(n:p:=by rw[e];exact dv):p:=n
def gN{p:Prop}(n:p:=by rw[pQ];exact uI):p:=n
def gO{p:Prop}(n:p:=by exact⟨rfl,rfl⟩):p:=n
def gP{p:Prop}(n:p:=by exact⟨.inl V,_,zl.zN 2 0 5 V V V V (.inr V) ah bP (shut_map (enc:=zT) (λ_=>V) _) (zB V),rfl⟩):p:=n
def gQ{p:Prop}(n:p:=by exact⟨.inl V,_,zl.zN 2 0 5 V V V V (.inr V) ah ah (shut_map (enc:=zT) (λ_=>V) _) (zB V),rfl⟩):p:=n
def gR{p:Prop}(n:p:=by exact z5 V ⟨t1,ok,id,(by decide:i64 0),λh=>nomatch h⟩):p:=n
def gS{p:Prop}(n:p:=by exact .fn f _ _ ys zs (ai t1.1) (ai t2.1) (λi c y e1 e2=>t1.2 i c y e1 uX) (λi c y e1 e2=>t2.2 i c y e1 uX)):p:=n
def gT{p:Prop}(n:p:=by exact⟨E,⟨hR,hs.tmps,hs.defers,ai hs.base⟩,g.iW tA⟩):p:=n
def gU{p:Prop}(n:p:=by exact z5 V ⟨a,b,nx,mt.al,λ_=>⟨MT.DQ hk uO mt.al ⟨uL,uK⟩,(λq=>absurd (hk.symm.trans q) aj)⟩⟩):p:=n
def gV{p:Prop}(n:p:=by exact .inr (.inl (rR g.size h1))):p:=n
def gW{p:Prop}(n:p:=by refine .inl ⟨rfl,?_,trivial⟩;rw[zk an,eg];exact cE 4):p:=n
def gX{p:Prop}(n:p:=by exact hl a (by simp[ho,Op.operands,Call.operands];right;have:=pE ha;simpa using this)):p:=n
def gY{p:Prop}(n:p:=by refine .inl ⟨⟨true,[0,2,3],[0,1,5],[1]⟩,ak,uH ?_⟩;refine af (qz w sw) ?_;refine tc ?_;exact uI):p:=n
def gZ{p:Prop}(n:p:=by exact⟨.inl V,_,zl.cell 2 V (WC.nil 0 18),rfl⟩):p:=n
def g9{p:Prop}(n:p:=by have:=(hno4 h4).1;omega):p:=n
def pd{p:Prop}(n:p:=by refine .inl ⟨rfl,?_,trivial⟩;rw[zk an];exact cC):p:=n
def ph{p:Prop}(n:p:=by exact rj hj):p:=n
def pj{p:Prop}(n:p:=by exact .inl (rR g.size h1)):p:=n
def pn{p:Prop}(n:p:=by rw[pA an];refine uD ?_;rw[vj ah];exact uJ):p:=n
def pq:=@List.getElem?_eq_getElem
def pw:=@List.getElem?_map
def px:=@List.getElem?_eq_some_iff
def pz:=@List.length_map
def pA:=@if_neg
def pB:=@of_decide_eq_false
def pC:=@of_decide_eq_true
def pD:=@if_pos
def pE:=@List.mem_of_getElem?
def pF:=@List.mem_of_mem_take
def pG:=@List.all_eq_true
def pH:=@List.getElem?_set_self
def pI:=@List.getElem?_append_left
def pJ:=@Bool.and_eq_true
def pK:=@Nat.zero_add
def pL:=@Option.map_some
def pM:=@List.getElem?_set
def pN:=@Nat.le_refl
def pO:=@Nat.le_of_ble_eq_true
def pP:=@Array.getElem?_eq_some_iff
def pQ:=@List.take_length
def pR:=@List.getElem?_append_right
def pS:=@List.mem_append
def pT:=@List.findIdx?_eq_some_iff_getElem
def pU:=@List.mem_iff_getElem
def pV:=@List.mem_iff_getElem?
def pW:=@Nat.zero_le
def pX:=@List.findIdx?_eq_none_iff
def pY:=@decide_eq_true_eq
def pZ:=@List.getElem?_take
def rb:=@List.set_set
def rh:=@Option.some.injEq
def ri:=@Option.bind_some
def rj:=@List.getElem_mem
def rk:=@List.any_eq_false
def rm:=@Array.getElem?_toList
def rp:=@List.mem_map
def rq:=@Option.map_eq_some_iff
def ru:=@List.take_succ_eq_append_getElem
def ry:=@List.map_append
def rz:=@Nat.mul_le_mul_right
def rA:=@Nat.not_lt_zero
def rB:=@List.length_append
def rC:=@List.getElem?_set_ne
def rD:=@decide_eq_false_iff_not
def rE:=@Bool.not_eq_true'
def rF:=@beq_iff_eq
def rG:=@Nat.lt_of_lt_of_le
def rH:=@List.mem_singleton
def rI:=@Array.getD_eq_getD_getElem?
def rJ:=@List.any_eq_true
def rK:=@List.getElem?_mapIdx
def rL:=@List.ext_getElem?
def rM:=@List.getElem?_drop
def rO:=@Option.getD_some
def rP:=@Nat.add_mul
def rQ:=@List.getElem?_eq_none
def rR:=@Nat.le_trans
def rS:=@List.eq_of_mem_replicate
def rT:=@List.getElem?_eq_none_iff
def rU:=@List.mem_or_eq_of_mem_set
def rV:=@Option.some.inj
def rW:=@decide_eq_false
def rX:=@decide_eq_true
def rY:=@List.mem_cons_of_mem
def rZ:=@Bool.or_eq_true
def r3:=@Option.bind_eq_some_iff
def r4:=@Bool.or_eq_false_iff
def r5:=@List.getElem?_modify
def r6:=@Array.eq_empty_of_size_eq_zero
def r7:=@List.length_singleton
def r8:=@List.length_cons
def r9:=@List.cons_ne_nil
def sa:=@List.append_assoc
def sd:=@List.mem_cons_self
def sf:=@List.length_eq_zero_iff
def so:=@List.all_eq_false
def sq:=@List.take_of_length_le
def ss:=@List.getElem_take
def sx:=@List.getElem?_cons_succ
def sy:=@List.mem_range
def sA:=@List.map_set
def sB:=@Array.getElem?_eq_getElem
def sC:=@Nat.lt_trichotomy
def sD:=@Bool.false_or
def sE:=@Array.mem_of_getElem?
def sF:=@List.length_set
def sG:=@List.findIdx?_cons
def sH:=@congrArg
def sI:=@List.length_take
def sJ:=@List.map_map
def sK:=@Nat.sub_zero
def sL:=@Nat.le_succ_of_le
def sM:=@Nat.sub_self
def sN:=@Int.emod_lt_of_pos
def sO:=@Option.map_eq_map
def sP:=@Int.emod_nonneg
def sQ:=@List.map_congr_left
def sR:=@List.getElem?_range
def sS:=@Nat.add_assoc
def sT:=@Bool.and_false
def sU:=@Bool.not_eq_false'
def sV:=@Nat.le_succ
def sW:=@Int.le_refl
def sX:=@List.replicate_succ'
def sY:=@List.append_nil
def sZ:=@List.all_cons
def s4:=@List.mem_cons
def s5:=@List.map_take
def s6:=@List.drop_zero
def s7:=@Array.getElem?_eq_none
def s8:=@Bool.false_eq_true
def s9:=@List.getElem?_toArray
def ti:=@Array.getElem?_modify
def tj:=@List.length_replicate
def tp:=@List.map_cons
def tq:=@Int.tmod_eq_emod_of_nonneg
def tr:=@List.take_add_one
def tt:=@List.mem_of_mem_drop
def tu:=@Nat.lt_or_ge
def tv:=@Nat.add_zero
def tw:=@Array.all_toList
def tx:=@List.replicate_succ
def tz:=@List.length_pos_iff
def ua:=@List.getElem?_replicate
def ub:=@List.mem_replicate
def uc:=@Nat.eq_zero_or_pos
def ud:=@Array.mem_iff_getElem?
def ue:=@List.size_toArray
def uf:=@Int.toNat_natCast
def ug:=@List.take_append_drop
def uh:=@Bool.or_true
def ui:=@Nat.ne_of_lt
def uj:=@Nat.zero_mul
def uk:=@Nat.mul_comm
def um:=@List.mapM_cons
def uo:=@Bool.and_eq_false_iff
def uq:=@Array.toList_inj
def ur:=@List.range_eq_range'
def uu:=@List.map_eq_cons_iff
def uv:=@Array.getElem?_append_left
def uw:=@List.exists_cons_of_ne_nil
def ux:=@Bool.and_true
def uy:=@Nat.mul_one
def uz:=@Array.toList_append
def u1:=@Int.toNat_of_nonneg
def u3:=@List.takeWhile_cons
def u4:=@List.foldl_cons
def u5:=@List.range_succ
def u6:=@Bool.eq_iff_iff
def u7:=@List.drop_eq_getElem_cons
def u9:=@Array.getElem?_map
def ec:=@Array.setIfInBounds_comm
def ed:=@List.all_nil
def ef:=@List.take_left
def eh:=@List.getElem?_cons_zero
def ej:=@Int.emod_eq_of_lt
def eu:=@Array.size_append
def ey:=@Bool.not_true
def ez:=@Nat.mod_eq_of_lt
def eD:=@Array.toList_map
def eF:=@List.set_append_right
def eI:=@Nat.eq_of_beq_eq_true
def eJ:=@List.set_append_left
def eK:=@List.mem_mapIdx
def eL:=@List.mem_append_left
def eM:=@List.eq_nil_iff_forall_not_mem
def eP:=@Nat.not_lt
def eQ:=@List.eq_nil_of_length_eq_zero
def eS:=@List.drop_append_of_le_length
def eU:=@List.take_zero
def eX:=@Array.getElem?_setIfInBounds
def eZ:=@Int.natCast_nonneg
def e6:=@List.map_replicate
def e7:=@List.getD_eq_getElem?_getD
def fa:=@Int.sub_mul_emod_self_left
def fb:=@List.findIdx?_map
def fc:=@List.foldl_append
def fe:=@List.mem_toArray
def ff:=@Nat.add_comm
def fg:=@Option.bind_none
def fh:=@List.isEmpty_iff
def fi:=@Bool.true_or
def fj:=@List.cons_append
def fk:=@Nat.mul_add_mod
def fl:=@Nat.min_eq_left
def fm:=@List.all_append
def fp:=@Nat.mod_lt
namespace Go.Ab
variable{i:TypeInfo}{t e:TypeId}{α:Type}{y u:Value}{ys:List Value}{o:Oper}{w w':World}{b B off kd sz:Nat}{l:List Oper}{a:Act}{ops:Array Oper}{P:Program}{p q g:Prop}
abbrev fY:=Nat×Nat
variable{hops:List fY}
inductive C where
 |v (x:Value)
 |fq (o sz:Nat) (rows:List (List C))
 |jR (cells:List C)
 |ref (id:Nat) (hops:List fY) (sz i k:Nat)
 |sl (id:Nat) (hops:List fY) (sz lo len:Nat) (full:Bool)
 |fn (f:FuncId) (first caps:List C)
 |mp (id:Nat)
 |agg (cs:List C)
 |fy (vs:List C)
 |un
 |za
 |gl (id sz:Nat) (rows:List (List C))
 |iq (t:TypeId) (c:C)
 |rc (o:Obj)
variable{c:C}{cs:List C}{ρ:Operand->C}{x:Nat×List (List C)}{rows rows':List (List C)}{f:List (List C)->List (List C)}
structure Ob where
 kind:Nat
 ty:TypeId
 sz:Nat
 rows:List (List C)
 fz:Nat:=0
abbrev zq:=List Ob
variable{H H':zq}{R:C->zq->Prop}
structure Env where
 n:Nat
 β:Nat->List fY->Nat
 κ:Nat->List fY->Nat
 St:Nat->Nat->Option Value
 G:Nat->Nat->Option Value:=λ_ _=>none
variable{E E':Env}
def Env.shut(E:Env):Env:={E with n:=0}
def Env.at(E:Env)(kd:Nat):Env:=if kd=2 then E.shut else E
inductive L:Env->C->Value->Prop
 |v {E:Env} (x:Value) (h:x.oneCell'=true):L E (.v x) x
 |fq {E:Env} (o sz:Nat) (rows:List (List C)) (b off cap:Nat) (us:Nat->Nat->Value) (ho:o=0\/o=1/\cap=rows.length) (hc:rows.length<=cap)
   (hsz:∀r∈rows,r.length=sz)
   (hst:∀(i:Nat) r (k:Nat) c,rows[i]?=some r->r[k]?=some c->E.St b (off+i*sz+k)=some (us i k))
   (hL:∀(i:Nat) r (k:Nat) c,rows[i]?=some r->r[k]?=some c->L E.shut c (us i k)):
   L E (.fq o sz rows) (.slice (some ⟨b,off,none⟩) rows.length cap)
 |xA {E:Env} (o sz:Nat) (ho:o=0\/o=1) (a:Option Addr:=none):L E (.fq o sz []) (.slice a 0 0)
 |jR {E:Env} (cells:List C) (b off:Nat) (us:Nat->Value) (hst:∀(k:Nat) c,cells[k]?=some c->E.St b (off+k)=some (us k))
   (hL:∀(k:Nat) c,cells[k]?=some c->L E.shut c (us k)):L E (.jR cells) (.pointer (some ⟨b,off,none⟩))
 |ref {E:Env} (id:Nat) (hops:List fY) (sz i k:Nat) (hn:id<E.n):L E (.ref id hops sz i k) (.pointer (some ⟨E.β id hops,i*sz+k,none⟩))
 |sl {E:Env} (id:Nat) (hops:List fY) (sz lo len:Nat) (full:Bool) (cap:Nat) (hn:id<E.n) (hlen:len<=cap) (hf:full=true->cap=len) (hf':full=false->lo+cap=E.κ id hops):
   L E (.sl id hops sz lo len full) (.slice (some ⟨E.β id hops,lo*sz,none⟩) len cap)
 |fn {E:Env} (f:FuncId) (first caps:List C) (ys zs:Array Value) (h1:first.length=ys.size) (h2:caps.length=zs.size)
   (h3:∀(i:Nat) c y,first[i]?=some c->ys[i]?=some y->L E c y) (h4:∀(i:Nat) c y,caps[i]?=some c->zs[i]?=some y->L E c y):
   L E (.fn f first caps) (.func (.func f) ys zs)
 |mp {E:Env} (id:Nat) (hn:id<E.n):L E (.mp id) (.map (some (E.β id [])))
 |agg {E:Env} (cs:List C) (ys:Array Value) (h1:cs.length=ys.size) (h2:∀(i:Nat) c y,cs[i]?=some c->ys[i]?=some y->L E c y) (h3:∀y∈ys,y.oneCell'=true):L E (.agg cs) (.agg ys)
 |fy {E:Env} (cs:List C) (ys:Array Value) (h1:cs.length=ys.size) (h2:∀(i:Nat) c y,cs[i]?=some c->ys[i]?=some y->L E c y):L E (.fy cs) (.tuple ys)
 |un {E:Env}:L E .un undef
 |za {E:Env} (y:Value):L E .za y
 |gl {E:Env} (id sz:Nat) (rows:List (List C)) (y:Value) (hn:id<E.n) (hg:E.G id rows.length=some y) (h:L E.shut (.fq 0 sz rows) y):L E (.gl id sz rows) y
 |iq {E:Env} (t:TypeId) (c:C) (y:Value) (h:L E c y):L E (.iq t c) (.iface t y)
structure Env.le(E E':Env):Prop where
 n:E.n<=E'.n
 β:∀id hops,id<E.n->E'.β id hops=E.β id hops
 κ:∀id hops,id<E.n->E'.κ id hops=E.κ id hops
 St:∀b o u,E.St b o=some u->E'.St b o=some u
 G:∀id k u,id<E.n->E.G id k=some u->E'.G id k=some u
def Env.le.refl(E:Env):E.le E:=⟨pN _,λ_ _ _=>V,λ_ _ _=>V,λ_ _ _ h=>h,λ_ _ _ _ h=>h⟩
def Env.le.trans{E E' E'':Env}(h:E.le E')(h':E'.le E''):E.le E'':=
 ⟨rR h.n h'.n,λid hops hi=>(h'.β id hops (rG hi h.n)).trans (h.β id hops hi),λid hops hi=>(h'.κ id hops (rG hi h.n)).trans (h.κ id hops hi),
  λb o u hu=>h'.St b o u (h.St b o u hu),λid k u hi hu=>h'.G id k u (rG hi h.n) (h.G id k u hi hu)⟩
def Env.Cb(E:Env):E.shut.le E:=⟨pW _,λ_ _ h=>absurd h (rA _),λ_ _ h=>absurd h (rA _),λ_ _ _ h=>h,λ_ _ _ h _=>absurd h (rA _)⟩
def Env.le.shut{E E':Env}(h:E.le E'):E.shut.le E'.shut:=⟨pN _,λ_ _ h=>absurd h (rA _),λ_ _ h=>absurd h (rA _),h.St,λ_ _ _ h _=>absurd h (rA _)⟩
def Env.le.at{E E':Env}(h:E.le E')(kd:Nat):(E.at kd).le (E'.at kd):=by unfold Env.at;split;exact h.shut;exact h
def Env.HH(E:Env)(kd:Nat):(E.at kd).le E:=by unfold Env.at;split;exact E.Cb;exact .refl E
def L.mono(h:E.le E')(hl:L E c y):L E' c y:=by
 induction hl generalizing E' with
 |v x hx=>exact .v x hx
 |fq o sz rows b off cap us ho hc hsz hst _ ih=>exact .fq o sz rows b off cap us ho hc hsz (λi r k c h1 h2=>h.St _ _ _ (hst i r k c h1 h2)) (λi r k c h1 h2=>ih i r k c h1 h2 h.shut)
 |xA o sz ho a=>exact .xA o sz ho a
 |jR cells b off us hst _ ih=>exact .jR cells b off us (λk c h1=>h.St _ _ _ (hst k c h1)) (λk c h1=>ih k c h1 h.shut)
 |ref id hops sz i k hn=>rw[<-h.β id hops hn];exact .ref id hops sz i k (rG hn h.n)
 |sl id hops sz lo len full cap hn hlen hf hf'=>
  rw[<-h.β id hops hn];exact .sl id hops sz lo len full cap (rG hn h.n) hlen hf (λe=>by rw[h.κ id hops hn];exact hf' e)
 |fn f first caps ys zs h1 h2 _ _ ih1 ih2=>exact .fn f first caps ys zs h1 h2 (λi c y e1 e2=>ih1 i c y e1 e2 h) (λi c y e1 e2=>ih2 i c y e1 e2 h)
 |mp id hn=>rw[<-h.β id [] hn];exact .mp id (rG hn h.n)
 |agg cs ys h1 _ h3 ih=>exact .agg cs ys h1 (λi c y e1 e2=>ih i c y e1 e2 h) h3
 |fy cs ys h1 _ ih=>exact .fy cs ys h1 (λi c y e1 e2=>ih i c y e1 e2 h)
 |un=>exact .un
 |za y=>exact .za y
 |gl id sz rows y hn hg _ ih=>exact .gl id sz rows y (rG hn h.n) (h.G _ _ _ hn hg) (ih h.shut)
 |iq t c y _ ih=>exact .iq t c y (ih h)
def Av:C->Bool
 |.v _|.fq .. |.jR _=>true
 |_=>false
def Cx:C->Bool
 |.agg cs=>cs.all Av
 |c=>Av c
def jV:C->Bool
 |.fn _ first caps=>first.all Cx && caps.all Cx
 |c=>Av c
def L.wc(h:L E c y)(hc:Av c=true):L E.shut c y:=by
 cases h with
 |v x hx=>exact .v _ hx
 |fq o sz rows b off cap us ho h2 hsz hst hL=>exact .fq o sz rows b off cap us ho h2 hsz hst hL
 |xA o sz ho a=>exact .xA o sz ho a
 |jR cells b off us hst hL=>exact .jR cells b off us hst hL
 |_=>simp[Av]at hc
def L.Mp(h:L E c y)(hc:Cx c=true):L E.shut c y:=by
 cases h with
 |agg cs ys h1 h2 h3=>
  refine .agg cs ys h1 (λi c y e1 e2=>(h2 i c y e1 e2).wc ?_) h3;exact pG.1 (show cs.all Av=true from hc) _ (pE e1)
 |v x hx=>exact(L.v (E:=E) _ hx).wc hc
 |fq o sz rows b off cap us ho h2 hsz hst hL=>exact(L.fq (E:=E) o sz rows b off cap us ho h2 hsz hst hL).wc hc
 |xA o sz ho a=>exact(L.xA (E:=E) o sz ho a).wc hc
 |jR cells b off us hst hL=>exact(L.jR (E:=E) cells b off us hst hL).wc hc
 |_=>simp[Cx,Av]at hc
def L.kn(h:L E c y)(hc:jV c=true):L E.shut c y:=by
 cases h with
 |fn f first caps ys zs h1 h2 h3 h4=>
  have hc:(first.all Cx && caps.all Cx)=true:=hc;rw[pJ]at hc;exact .fn f first caps ys zs h1 h2 (λi c y e1 e2=>(h3 i c y e1 e2).Mp (pG.1 hc.1 _ (pE e1))) (λi c y e1 e2=>(h4 i c y e1 e2).Mp (pG.1 hc.2 _ (pE e1)))
 |v x hx=>exact(L.v (E:=E) _ hx).wc hc
 |fq o sz rows b off cap us ho h2 hsz hst hL=>exact(L.fq (E:=E) o sz rows b off cap us ho h2 hsz hst hL).wc hc
 |xA o sz ho a=>exact(L.xA (E:=E) o sz ho a).wc hc
 |jR cells b off us hst hL=>exact(L.jR (E:=E) cells b off us hst hL).wc hc
 |_=>simp[jV,Av]at hc
def LL(E:Env)(cs:List C)(ys:List Value):Prop:=cs.length=ys.length/\∀(i:Nat) c y,cs[i]?=some c->ys[i]?=some y->L E c y
def LL.mono{E E':Env}(h:E.le E'){cs:List C}{ys:List Value}(hl:LL E cs ys):LL E' cs ys:=
 ⟨hl.1,λi c y h1 h2=>(hl.2 i c y h1 h2).mono h⟩
def LL.nil:LL E [] []:=⟨rfl,by simp⟩
def LL.cons(h:L E c y)(hl:LL E cs ys):LL E (c::cs) (y::ys):=by
 refine⟨by simp[hl.1],?_⟩;intro i c' y' h1 h2;cases i with
 |zero=>simp at h1 h2;subst h1;subst h2;exact h
 |succ i=>simp at h1 h2;exact hl.2 i c' y' h1 h2
def LL.cons_inv(h:LL E (c::cs) (y::ys)):L E c y/\LL E cs ys:=
 ⟨h.2 0 c y V V,by simpa using h.1,λi c' y' h1 h2=>h.2 (i+1) c' y' (by simpa using h1) (by simpa using h2)⟩
def LL.one(h:L E c y):LL E [c] [y]:=LL.cons h LL.nil
def LL.append{cs':List C}{ys':List Value}(h:LL E cs ys)(h':LL E cs' ys'):LL E (cs++cs') (ys++ys'):=by
 refine⟨by simp[h.1,h'.1],?_⟩;intro i c y h1 h2;by_cases hi:i<cs.length
 .rw[pI hi]at h1;rw[pI (by rw[<-h.1];exact hi)]at h2;exact h.2 i c y h1 h2
 .rw[pR (by omega)]at h1;rw[pR (by rw[<-h.1];omega),<-h.1]at h2;exact h'.2 _ c y h1 h2
def LL.get(h:LL E cs ys){i:Nat}(hc:cs[i]?=some c):∃y,ys[i]?=some y/\L E c y:=by
 have hi:i<ys.length:=by rw[<-h.1];exact(px.1 hc).1
 exact⟨ys[i],by simp[hi],h.2 i c ys[i] hc (by simp[hi])⟩
def LL.take{E:Env}{cs:List C}{ys:List Value}(h:LL E cs ys)(n:Nat):LL E (cs.take n) (ys.take n):=by
 refine⟨by simp[h.1],?_⟩;intro i c y h1 h2;rw[pZ]at h1 h2;split at h1
 .rename_i hi;rw[pD hi]at h2;exact h.2 i c y h1 h2
 .cases h1
def LL.drop{E:Env}{cs:List C}{ys:List Value}(h:LL E cs ys)(n:Nat):LL E (cs.drop n) (ys.drop n):=by
 refine⟨by simp[h.1],?_⟩;intro i c y h1 h2;rw[rM]at h1 h2;exact h.2 _ c y h1 h2
def LL.set{E:Env}{cs:List C}{ys:List Value}(h:LL E cs ys){c:C}{y:Value}(hl:L E c y)(i:Nat):LL E (cs.set i c) (ys.set i y):=by
 refine⟨by simp[h.1],?_⟩;intro j c' y' h1 h2;rw[pM]at h1 h2;by_cases hij:i=j
 .subst hij;rw[pD V]at h1 h2;split at h1
  .split at h2
   .cases h1;cases h2;exact hl
   .cases h2
  .cases h1
 .rw[pA hij]at h1 h2;exact h.2 j c' y' h1 h2
def C.cells:C->List C
 |.agg cs=>cs
 |c=>[c]
def L.cells{E:Env}{c:C}{y:Value}(h:L E c y)(hj:c≠.za)(hu:c≠.un):LL E c.cells y.cells.toList:=by
 have one:∀(c:C) (y:Value),L E c y->c.cells=[c]->y.cells= #[y]->LL E c.cells y.cells.toList:=λc y h e1 e2=>by
  rw[e1,e2];exact LL.cons h LL.nil
 cases h with
 |v x hx=>exact one _ _ (.v _ hx) V (by cases y <;> simp_all[Value.cells,Value.oneCell'])
 |agg cs ys h1 h2 h3=>exact⟨by simpa [C.cells,Value.cells] using h1,λi c y e1 e2=>h2 i c y e1 (by simpa [Value.cells] using e2)⟩
 |un=>exact absurd V hu
 |za=>exact absurd V hj
 |fy cs ys h1 h2=>exact one _ _ (.fy cs ys h1 h2) V V
 |fq o sz rows b off cap us ho hc hsz hst hL=>exact one _ _ (.fq o sz rows b off cap us ho hc hsz hst hL) V V
 |xA o sz ho a=>exact one _ _ (.xA o sz ho a) V V
 |jR cells b off us hst hL=>exact one _ _ (.jR cells b off us hst hL) V V
 |ref id hops sz i k hn=>exact one _ _ (.ref id hops sz i k hn) V V
 |sl id hops sz lo len full cap hn hlen hf hf'=>exact one _ _ (.sl id hops sz lo len full cap hn hlen hf hf') V V
 |fn f first caps ys zs h1 h2 h3 h4=>exact one _ _ (.fn f first caps ys zs h1 h2 h3 h4) rfl rfl
 |mp id hn=>exact one _ _ (.mp id hn) V V
 |gl id sz rows y hn hg h=>exact one _ _ (.gl id sz rows y hn hg h) V (by cases h <;> rfl)
 |iq t c y h=>exact one _ _ (.iq t c y h) V V
def cellAt(rows:List (List C))(i k:Nat):Option C:=(rows[i]?).bind (·[k]?)
def v7:Nat->List (List C)->List fY->Option (Nat×List (List C))
 |sz,rows,[]=>some (sz,rows)
 |_,rows,(i,k)::hs=>match cellAt rows i k with
  |some (.fq 2 sz' rows')=>v7 sz' rows' hs
  |_=>none
def qe(H:zq)(id:Nat)(hops:List fY):Option (Nat×List (List C)):=
 match H[id]? with
 |some ob=>if ob.kind=1\/ob.kind=2 then v7 ob.sz ob.rows hops else none
 |none=>none
def qO(E:Env)(kd:Nat)(id:Nat)(hops:List fY)(i k:Nat)(c:C)(u:Value):Prop:=
 match c with
 |.fq 2 _ rows'=>u=.slice (some ⟨E.β id (hops++[(i,k)]),0,none⟩) rows'.length (E.κ id (hops++[(i,k)]))
 |c=>L (E.at kd) c u/\u.oneCell'=true
structure Ct(w:World)(E:Env)(kd:Nat)(id:Nat)(hops:List fY)(sz:Nat)(rows:List (List C)):Prop where
 len:rows.length<=E.κ id hops
 row:∀r∈rows,r.length=sz
 fH:∃cur e,w.heap[E.β id hops]?=some (.cells cur e (0,0))/\cur.size=E.κ id hops*sz/\
  ∀i k c,cellAt rows i k=some c->∃u,cur[i*sz+k]?=some u/\qO E kd id hops i k c u
structure qa(w:World)(E:Env)(H:zq):Prop where
 n:E.n=H.length
 fH:∀id ob hops sz rows,H[id]?=some ob->qe H id hops=some (sz,rows)->Ct w E ob.kind id hops sz rows
 inj:∀id hops id' hops' x y,qe H id hops=some x->qe H id' hops'=some y->E.β id hops=E.β id' hops'->id=id'/\hops=hops'
 qp:∀b o u,E.St b o=some u->w.cell? ⟨b,o,none⟩=some u/\u.oneCell'=true
 sep:∀id hops x o u,qe H id hops=some x->E.St (E.β id hops) o=some u->hops=[]/\∃ob,H[id]?=some ob/\o<ob.fz*ob.sz
 ty:∀id ob,H[id]?=some ob->ob.kind=2->∃cur,w.heap[E.β id []]?=some (.cells cur ob.ty (0,0))
 fz:∀(id:Nat) (ob:Ob),H[id]?=some ob->ob.fz<=ob.rows.length
structure S where
 tmps:List C
 H:zq
variable{s:S}
def q6(E:Env)(H:zq)(b:Nat):Prop:=∃id hops x,qe H id hops=some x/\E.β id hops=b
structure qn(w:World)(E:Env)(H:zq)(w':World)(E':Env)(H':zq):Prop where
 le:E.le E'
 Dv:∀(id k:Nat),id<E.n->E'.G id k=E.G id k
 os:w'.os=w.os
 tape:w'.tape=w.tape
 output:w'.output=w.output
 size:w.heap.size<=w'.heap.size
 frame:∀k,k<w.heap.size->¬q6 E H k->w'.heap[k]?=w.heap[k]?
 jB:∀b o u,E'.St b o=some u->E.St b o=some u\/w.heap.size<=b\/q6 E H b
 own:∀b,q6 E' H' b->w.heap.size<=b\/q6 E H b
def qn.refl(w:World)(E:Env)(H:zq):qn w E H w E H:=
 ⟨Env.le.refl E,λ_ _ _=>V,rfl,rfl,rfl,pN _,λ_ _ _=>V,λ_ _ _ h=>.inl h,λ_ h=>.inr h⟩
def qn.trans{w w1 w2:World}{E E1 E2:Env}{H H1 H2:zq}(g:qn w E H w1 E1 H1)(h:qn w1 E1 H1 w2 E2 H2):qn w E H w2 E2 H2 where
 le:=g.le.trans h.le
 Dv id k hi:=(h.Dv id k (rG hi g.le.n)).trans (g.Dv id k hi)
 os:=h.os.trans g.os
 tape:=h.tape.trans g.tape
 output:=h.output.trans g.output
 size:=rR g.size h.size
 frame k hk ho:=(h.frame k (rG hk g.size) λhc=>(g.own k hc).elim (λhs=>by omega) ho).trans (g.frame k hk ho)
 jB b o u hu:=by
  rcases h.jB b o u hu with h1|h1|h1
  .exact g.jB b o u h1
  .exact .inr (.inl (rR g.size h1))
  .rcases g.own b h1 with h2|h2
   .exact .inr (.inl h2)
   .exact .inr (.inr h2)
 own b hb:=by
  rcases h.own b hb with h1|h1
  .exact .inl (rR g.size h1)
  .exact g.own b h1
def qG(E:Env)(H:zq)(id b:Nat):Prop:=∃ob cap,H[id]?=some ob/\ob.kind=4/\E.G id ob.rows.length=some (.slice (some ⟨b,0,none⟩) ob.rows.length cap)/\cap≠ob.rows.length
def jz(H:zq)(id b:Nat):Prop:=∃ob o t,H[id]?=some ob/\ob.kind=4/\(ob.rows=[.rc o::t]/\ob.fz=1)/\ob.ty=b
def De:Obj->Bool
 |.loop _=>true
 |.map ..=>true
 |.mapIter ..=>true
 |_=>false
def Ic:Obj->List Value
 |.loop r=>r.tmps.toList
 |_=>[]
def lY(E:Env)(t:List C)(o:Obj):Prop:=LL E t (Ic o)\/∃es k,o=.map es k/\LL E t (es.toList.map (·.val))
def lY.map{t:List C}{o:Obj}(h:lY E t o)(hf:∀ys,LL E t ys->LL E' t ys):lY E' t o:=h.imp (hf _) λ⟨es,k,e,hl⟩=>⟨es,k,e,hf _ hl⟩
def lY.mono{E E':Env}{t:List C}{o:Obj}(h:lY E t o)(hle:E.le E'):lY E' t o:=h.map λ_ hl=>hl.mono hle
def lY.loop{t:List C}{r:Loop}(h:lY E t (.loop r)):LL E t r.tmps.toList:=h.elim id λ⟨_,_,e,_⟩=>by cases e
def qa.Di(h:qa w E H)(ho:q6 E H b):∃cur e,w.heap[b]?=some (.cells cur e (0,0)):=by
 obtain⟨id,hops,x,hx,rfl⟩:=ho;have hx':=hx;unfold qe at hx';split at hx'
 .rename_i ob hob;obtain⟨cur,e,h1,_⟩:=(h.fH id ob hops x.1 x.2 hob hx).fH;exact⟨cur,e,h1⟩
 .cases hx'
structure mN(w:World)(E:Env)(H:zq):Prop where
 val:∀(id:Nat) (ob:Ob),H[id]?=some ob->ob.kind=4->∃a cap,E.G id ob.rows.length=some (.slice a ob.rows.length cap)/\(cap=ob.rows.length\/∃b,a=some ⟨b,0,none⟩/\ob.rows.length<=cap)
 fH:∀(id b:Nat) (ob:Ob),qG E H id b->H[id]?=some ob->∃cur cap,E.G id ob.rows.length=some (.slice (some ⟨b,0,none⟩) ob.rows.length cap)/\w.heap[b]?=some (.cells cur ob.ty (0,0))/\cur.size=cap*ob.sz
 sep:∀id b,qG E H id b->¬q6 E H b
 inj:∀id id' b,qG E H id b->qG E H id' b->id=id'
 st:∀(id b:Nat) (ob:Ob) o u,qG E H id b->H[id]?=some ob->E.St b o=some u->o<ob.rows.length*ob.sz
 top:∀(id:Nat) (ob:Ob) (k:Nat) u,H[id]?=some ob->ob.kind=4->E.G id k=some u->k<=ob.rows.length
 iK:∀(id:Nat) (ob:Ob) (o:Obj) (t:List C),H[id]?=some ob->ob.kind=4->(ob.rows=[.rc o::t]/\ob.fz=1)->(w.heap[ob.ty]?=some o/\De o=true)/\lY E t o
 wZ:∀id id' b,jz H id b->jz H id' b->id=id'
def jt(H H':zq):Prop:=∀(id:Nat) (ob:Ob),ob.kind=4->(H'[id]?=some ob↔H[id]?=some ob)
def jt.refl(H:zq):jt H H:=λ_ _ _=>Iff.rfl
structure qx(w:World)(E:Env)(H:zq):Prop where
 base:qa w E H
 fA:mN w E H
def qx.n{w:World}{E:Env}{H:zq}(h:qx w E H):E.n=H.length:=h.base.n
def xj(E:Env)(H:zq)(b:Nat):Prop:=q6 E H b\/∃id,(qG E H id b\/jz H id b)
structure Grow(w:World)(E:Env)(H:zq)(w':World)(E':Env)(H':zq):Prop where
 le:E.le E'
 os:w'.os=w.os
 tape:w'.tape=w.tape
 output:w'.output=w.output
 size:w.heap.size<=w'.heap.size
 frame:∀k,k<w.heap.size->¬xj E H k->w'.heap[k]?=w.heap[k]?
 jB:∀b o u,E'.St b o=some u->E.St b o=some u\/w.heap.size<=b\/xj E H b
 own:∀b,xj E' H' b->w.heap.size<=b\/xj E H b
def Grow.refl(w:World)(E:Env)(H:zq):Grow w E H w E H:=
 ⟨Env.le.refl E,rfl,rfl,rfl,pN _,λ_ _ _=>V,λ_ _ _ h=>.inl h,λ_ h=>.inr h⟩
def Grow.trans{w w1 w2:World}{E E1 E2:Env}{H H1 H2:zq}(g:Grow w E H w1 E1 H1)(h:Grow w1 E1 H1 w2 E2 H2):Grow w E H w2 E2 H2 where
 le:=g.le.trans h.le
 os:=h.os.trans g.os
 tape:=h.tape.trans g.tape
 output:=h.output.trans g.output
 size:=rR g.size h.size
 frame k hk ho:=(h.frame k (rG hk g.size) λhc=>(g.own k hc).elim (λhs=>by omega) ho).trans (g.frame k hk ho)
 jB b o u hu:=by
  rcases h.jB b o u hu with h1|h1|h1
  .exact g.jB b o u h1
  .exact .inr (.inl (rR g.size h1))
  .rcases g.own b h1 with h2|h2
   .exact .inr (.inl h2)
   .exact .inr (.inr h2)
 own b hb:=by
  rcases h.own b hb with h1|h1
  .exact .inl (rR g.size h1)
  .exact g.own b h1
def qG.back(hg:mN w E H)(hn:E.n=H.length)(hle:E.le E')(hk:jt H H'){id:Nat}(h:qG E' H' id b):qG E H id b:=by
 obtain⟨ob,cap,h1,h2,h3,h4⟩:=h;have h1':=(hk id ob h2).1 h1;obtain⟨a,cap',e1,_⟩:=hg.val id ob h1' h2;have e2:=hle.G id ob.rows.length _ (by rw[hn];exact(px.1 h1').1) e1;rw[h3]at e2;cases e2
 exact⟨ob,cap,h1',h2,e1,h4⟩
def jz.back(hk:jt H H'){id:Nat}(h:jz H' id b):jz H id b:=by
 obtain⟨ob,r,t,h1,h2,h3⟩:=h;exact⟨ob,r,t,(hk id ob h2).1 h1,h2,h3⟩
def mN.step(h:qx w E H)(g:qn w E H w' E' H')(hk:jt H H'):mN w' E' H' where
 val id ob hob hkd:=by
  have hob':=(hk id ob hkd).1 hob;obtain⟨a,cap,e1,e2⟩:=h.fA.val id ob hob' hkd;exact⟨a,cap,g.le.G id ob.rows.length _ (by rw[h.n];exact(px.1 hob').1) e1,e2⟩
 fH id b ob ho hob:=by
  have ho':=ho.back h.fA h.n g.le hk;obtain⟨ob2,_,e1,e2,_⟩:=ho;rw[hob]at e1;cases e1
  have hob':=(hk id ob e2).1 hob;obtain⟨cur,cap,e3,e4,e5⟩:=h.fA.fH id b ob ho' hob';refine⟨cur,cap,g.le.G id ob.rows.length _ (by rw[h.n];exact(px.1 hob').1) e3,?_,e5⟩;rw[g.frame b (pP.1 e4).1 (h.fA.sep id b ho')];exact e4
 sep id b ho:=by
  have ho':=ho.back h.fA h.n g.le hk;intro hc;rcases g.own b hc with h1|h1
  .obtain⟨ob,_,e1,_⟩:=ho';obtain⟨cur,cap,e3,e4,e5⟩:=h.fA.fH id b ob (ho.back h.fA h.n g.le hk) e1;have:=(pP.1 e4).1;omega
  .exact h.fA.sep id b ho' h1
 inj id id' b h1 h2:=h.fA.inj id id' b (h1.back h.fA h.n g.le hk) (h2.back h.fA h.n g.le hk)
 st id b ob o u ho hob hu:=by
  have ho':=ho.back h.fA h.n g.le hk;obtain⟨ob2,_,e1,e2,_⟩:=ho;rw[hob]at e1;cases e1
  have hob':=(hk id ob e2).1 hob;rcases g.jB b o u hu with h1|h1|h1
  .exact h.fA.st id b ob o u ho' hob' h1
  .obtain⟨cur,cap,e3,e4,e5⟩:=h.fA.fH id b ob ho' hob';have:=(pP.1 e4).1;omega
  .exact absurd h1 (h.fA.sep id b ho')
 top id ob k u hob hkd hu:=by
  have hob':=(hk id ob hkd).1 hob;rw[g.Dv id k (by rw[h.n];exact(px.1 hob').1)]at hu;exact h.fA.top id ob k u hob' hkd hu
 iK id ob r t hob hkd hr:=by
  obtain⟨⟨h1,hf⟩,hl⟩:=h.fA.iK id ob r t ((hk id ob hkd).1 hob) hkd hr;refine⟨⟨?_,hf⟩,hl.mono g.le⟩;rw[g.frame ob.ty (pP.1 h1).1 λhc=>by obtain⟨cur,e,h2⟩:=h.base.Di hc;rw[h1]at h2;cases h2;cases hf];exact h1
 wZ id id' b h1 h2:=h.fA.wZ id id' b (h1.back hk) (h2.back hk)
def qn.up(h:qx w E H)(g:qn w E H w' E' H')(hk:jt H H'):Grow w E H w' E' H' where
 le:=g.le
 os:=g.os
 tape:=g.tape
 output:=g.output
 size:=g.size
 frame k h1 h2:=g.frame k h1 λhc=>h2 (.inl hc)
 jB b o u hu:=(g.jB b o u hu).imp_right λh=>h.imp_right .inl
 own b hb:=by
  rcases hb with hb|⟨id,hb|hb⟩
  .exact(g.own b hb).imp_right .inl
  .exact .inr (.inr ⟨id,.inl (hb.back h.fA h.n g.le hk)⟩)
  .exact .inr (.inr ⟨id,.inr (hb.back hk)⟩)
abbrev Bm(D:Nat):Deferred:={target:=.collected D,args:= #[]}
def Marks(m:Nat)(w:World):List Deferred->Prop
 |[]=>m<=w.heap.size
 |d::ds=>(∃D,d=Bm D/\m<=D/\w.heap[D]?=some (.deferred (some []))/\Bm D∉ds)/\Marks m w ds
def Marks.mono{m:Nat}{w w':World}(hsz:w.heap.size<=w'.heap.size):∀{ds:List Deferred},Marks m w ds->(∀D,Bm D∈ds->w.heap[D]?=some (.deferred (some []))->w'.heap[D]?=w.heap[D]?)->Marks m w' ds
 |[],h,_=>rR h hsz
 |d::ds,⟨⟨D,h1,h2,h3,h4⟩,ht⟩,hk=>⟨⟨D,h1,h2,(hk D (by rw[h1];exact sd ..) h3).trans h3,h4⟩,Marks.mono hsz ht λD' hm hd=>hk D' (rY _ hm) hd⟩
def Marks.le{m:Nat}{w:World}:∀{ds:List Deferred},Marks m w ds->m<=w.heap.size
 |[],h=>h
 |_::_,⟨_,h⟩=>Marks.le h
def qx.free{D:Nat}{ds:Option (List Deferred)}(h:qx w E H)(hd:w.heap[D]?=some (.deferred ds)):¬xj E H D:=by
 rintro(ho|⟨id,⟨ob,cap,hob,h4,hG,hne⟩|⟨ob,r,t,hob,h4,hr,rfl⟩⟩)
 .obtain⟨cur,e,h1⟩:=h.base.Di ho;rw[hd]at h1;cases h1
 .obtain⟨cur,cap',_,h1,_⟩:=h.fA.fH id D ob ⟨ob,cap,hob,h4,hG,hne⟩ hob;rw[hd]at h1;cases h1
 .obtain⟨h1,hf⟩:=(h.fA.iK id ob r t hob h4 hr).1;rw[hd]at h1;cases h1
  cases hf
def Marks.grow{m:Nat}{ds:List Deferred}(h:Marks m w ds)(hh:qx w E H)(g:Grow w E H w' E' H'):Marks m w' ds:=
 Marks.mono g.size h λD _ hD=>g.frame D (pP.1 hD).1 (hh.free hD)
def qx.cells(hk:∀(k:Nat) (o:Obj),w.heap[k]?=some o->(∀ds,o≠.deferred ds)->w'.heap[k]?=w.heap[k]?)(h:qx w E H):qx w' E H where
 base:={
  n:=h.base.n
  fH:=λid ob hops sz rows e1 e2=>
   let b:=h.base.fH id ob hops sz rows e1 e2
   ⟨b.len,b.row,let ⟨cur,e,h1,h2⟩:=b.fH;⟨cur,e,(hk _ _ h1 (by simp)).trans h1,h2⟩⟩
  inj:=h.base.inj
  qp:=λb o u hu=>by
   obtain⟨h1,h2⟩:=h.base.qp b o u hu;refine⟨?_,h2⟩;unfold World.cell? at h1|-;split at h1
   .rename_i c t z hc;rw[hk _ _ hc (by simp),hc];exact h1
   .cases h1
  sep:=h.base.sep
  ty:=λid ob e1 e2=>let ⟨cur,h1⟩:=h.base.ty id ob e1 e2;⟨cur,(hk _ _ h1 (by simp)).trans h1⟩
  fz:=h.base.fz}
 fA:={
  val:=h.fA.val
  fH:=λid b ob e1 e2=>let ⟨cur,cap,h1,h2,h3⟩:=h.fA.fH id b ob e1 e2;⟨cur,cap,h1,(hk _ _ h2 (by simp)).trans h2,h3⟩
  sep:=h.fA.sep
  inj:=h.fA.inj
  st:=h.fA.st
  top:=h.fA.top
  iK:=λid ob r t e1 e2 e3=>let h1:=h.fA.iK id ob r t e1 e2 e3;⟨⟨(hk _ _ h1.1.1 (by intro ds e;have:=h1.1.2;rw[e]at this;cases this)).trans h1.1.1,h1.1.2⟩,h1.2⟩
  wZ:=h.fA.wZ}
structure xM(B m:Nat)(w:World)(E:Env)(s:S)(a:Act):Prop where
 heap:qx w E s.H
 tmps:LL E s.tmps a.tmps.toList
 defers:Marks m w a.defers
 base:B<=s.H.length
structure Env.ou(B:Nat)(E E':Env):Prop where
 β:∀id hops,id<B->E'.β id hops=E.β id hops
 κ:∀id hops,id<B->E'.κ id hops=E.κ id hops
 St:∀b o u,E.St b o=some u->E'.St b o=some u
 G:∀id k u,id<B->E.G id k=some u->E'.G id k=some u
def Env.ou.refl(B:Nat)(E:Env):E.ou B E:=⟨λ_ _ _=>V,λ_ _ _=>V,λ_ _ _ h=>h,λ_ _ _ _ h=>h⟩
def Env.ou.trans{B:Nat}{E E' E'':Env}(h:E.ou B E')(h':E'.ou B E''):E.ou B E'':=
 ⟨λid hops hi=>(h'.β id hops hi).trans (h.β id hops hi),λid hops hi=>(h'.κ id hops hi).trans (h.κ id hops hi),λb o u hu=>h'.St b o u (h.St b o u hu),λid k u hi hu=>h'.G id k u hi (h.G id k u hi hu)⟩
def Env.le.iW(h:E.le E')(hB:B<=E.n):E.ou B E':=
 ⟨λid hops hi=>h.β id hops (rG hi hB),λid hops hi=>h.κ id hops (rG hi hB),h.St,λid k u hi=>h.G id k u (rG hi hB)⟩
structure jA(B:Nat)(w:World)(E:Env)(H:zq)(w':World)(E':Env)(H':zq):Prop where
 le:E.ou B E'
 os:w'.os=w.os
 tape:w'.tape=w.tape
 output:w'.output=w.output
 size:w.heap.size<=w'.heap.size
 frame:∀k,k<w.heap.size->¬xj E H k->w'.heap[k]?=w.heap[k]?
 jB:∀b o u,E'.St b o=some u->E.St b o=some u\/w.heap.size<=b\/xj E H b
 own:∀b,xj E' H' b->w.heap.size<=b\/xj E H b
def Grow.iW{B:Nat}{w w':World}{E E':Env}{H H':zq}(g:Grow w E H w' E' H')(hB:B<=E.n):jA B w E H w' E' H':=
 ⟨g.le.iW hB,g.os,g.tape,g.output,g.size,g.frame,g.jB,g.own⟩
def jA.refl(B:Nat)(w:World)(E:Env)(H:zq):jA B w E H w E H:=
 ⟨Env.ou.refl B E,rfl,rfl,rfl,pN _,λ_ _ _=>V,λ_ _ _ h=>.inl h,λ_ h=>.inr h⟩
def jA.trans{B:Nat}{w w1 w2:World}{E E1 E2:Env}{H H1 H2:zq}(g:jA B w E H w1 E1 H1)(h:jA B w1 E1 H1 w2 E2 H2):jA B w E H w2 E2 H2 where
 le:=g.le.trans h.le
 os:=h.os.trans g.os
 tape:=h.tape.trans g.tape
 output:=h.output.trans g.output
 size:=rR g.size h.size
 frame k hk ho:=(h.frame k (rG hk g.size) λhc=>(g.own k hc).elim (λhs=>by omega) ho).trans (g.frame k hk ho)
 jB b o u hu:=by
  rcases h.jB b o u hu with h1|h1|h1
  .exact g.jB b o u h1
  .exact .inr (.inl (rR g.size h1))
  .rcases g.own b h1 with h2|h2
   .exact .inr (.inl h2)
   .exact .inr (.inr h2)
 own b hb:=by
  rcases h.own b hb with h1|h1
  .exact .inl (rR g.size h1)
  .exact g.own b h1
def fw(q:Option Nat):Fence:={Fence.wide with round:=q}
def xv:Code->Bool
 |.seq a b=>xv a || xv b
 |.cond _ a b=>xv a || xv b
 |.block _ a=>xv a
 |.loop a=>xv a
 |.scope a=>xv a
 |.rangeFunc ..=>true
 |_=>false
def qX(P:Program)(B:Nat)(c:Code)(s:S)(R:Exit->S->Prop):Prop:=
 ∀(q:Option Nat) (m:Nat) (w:World) (E:Env) (a:Act) (Q:Exit->Act->World->Prop),(xv c=true->q=none)->xM B m w E s a->
  (∀ex s' w' E' a',R ex s'->xM B m w' E' s' a'->jA B w E s.H w' E' s'.H->Q ex a' w')->c.wpIn (fw q) 0 P Q a w
abbrev Run(P:Program)(B:Nat)(c:Code)(s:S)(ex:Exit)(s':S):Prop:=qX P B c s λe t=>e=ex/\t=s'
def lK(P:Program)(B:Nat)(c:Code)(n:Nat)(s:S)(R:Exit->S->Prop):Prop:=
 ∀(q:Option Nat) (m:Nat) (w:World) (E:Env) (a:Act) (Q:Exit->Act->World->Prop),(xv c=true->q=none)->xM B m w E s a->
  (∀ex s' w' E' a',R ex s'->xM B m w' E' s' a'->jA B w E s.H w' E' s'.H->Q ex a' w')->Code.roundsIn (fw q) 0 P c Q n a w
def wF(P:Program)(B:Nat)(ops:Array Oper)(l:List Oper)(s:S)(R:S->Prop):Prop:=
 ∀(q:Option Nat) (m:Nat) (w:World) (E:Env) (a:Act) (Q:Exit->Act->World->Prop),xM B m w E s a->
  (∀s' w' E' a',R s'->xM B m w' E' s' a'->jA B w E s.H w' E' s'.H->Q .normal a' w')->wpListIn (fw q) 0 P ops Q l a w
def Ac(P:Program)(B:Nat)(o:Oper)(s:S)(R:S->Prop):Prop:=
 ∀(q:Option Nat) (m:Nat) (w:World) (E:Env) (a:Act) (K:Act->World->Prop) (Q:Exit->Act->World->Prop),xM B m w E s a->
  (∀s' w' E' a',R s'->xM B m w' E' s' a'->jA B w E s.H w' E' s'.H->K a' w')->o.wpIn (fw q) 0 P a w K Q
def zl(B:Nat)(s s':S):Prop:=
 ∀(m:Nat) (w:World) (E:Env) (a:Act),xM B m w E s a->∃E',xM B m w E' s' a/\jA B w E s.H w E' s'.H
def Jq{F:Fence}{k:Nat}{P:Program}{c:Code}{Q:Exit->Act->World->Prop}:∀{n m:Nat},n<=m->∀{a:Act} {w:World},Code.roundsIn F k P c Q n a w->Code.roundsIn F k P c Q m a w
 |0,_,_,_,_,h=>(h:False).elim
 |n+1,0,hm,_,_,_=>absurd hm (Nat.not_succ_le_zero n)
 |n+1,m+1,hm,a,w,h=>by
  rw[roundsIn_succ]at h|-;refine wpIn_mono h λe a1 w1 h1=>?_
  cases e with
  |normal=>exact Jq (Nat.le_of_succ_le_succ hm) h1
  |_=>exact h1
section scopes
variable {F:Fence} {n:Nat} {P:Program} {b:Frame} {a:Act} {k:List Item} {cs:List Frame} {w:World} {Q:Exit->Act->World->Prop}
def xR{c:Code}:step P (lone (b.atR a (.code (.scope c)::k)) cs w)=.next (lone (b.atR a (.code c:: .inScope c::k)) cs w):=
 step_lone_go (by simp[stepG,stepG.exec,Frame.atR])
def IY{c:Code}:step P (lone (b.atR a (.inScope c::k)) cs w)=.next (lone (b.atR a k) cs w):=
 step_lone_go (by simp[stepG,stepG.exec,Frame.atR])
def NS{c:Code}(h:c.wpIn F n P (Exit.noGoto Q) a w):(Code.scope c).wpIn F n P Q a w:=by
 intro b k cs hro hb hr;have h0:(lone (b.atR a (.code (.scope c)::k)) cs w).fenced P F:=fenced_calm hb hr V;obtain⟨e,a₁,w₁,hq,harr⟩:=h b (.inScope c::k) cs hro hb hr;cases e with
 |normal=>exact⟨.normal,a₁,w₁,hq,.head h0 xR (StepsIn.trans harr (.one (fenced_calm hb hr V) IY))⟩
 |exit id=>
  have hx:exitTo id (.inScope c::k)=exitTo id k:=by simp[exitTo]
  exact⟨.exit id,a₁,w₁,hq,λk' hk=>.head h0 xR (harr.1 k' (by rw[hx];exact hk)),
   λhr' hk=>let ⟨k₁,h1,h2⟩:=harr.2 hr' (by rw[hx];exact hk);⟨k₁,h1,.head h0 xR h2⟩⟩
 |goto l=>exact hq.elim
 |ret=>exact⟨_,a₁,w₁,hq,.of_steps (.one h0 xR) harr⟩
 |panic ch=>exact⟨_,a₁,w₁,hq,.of_steps (.one h0 xR) harr⟩
 |outgrown=>exact⟨_,a₁,w₁,hq,.of_steps (.one h0 xR) harr⟩
inductive Df(F:Fence)(n:Nat)(P:Program)(c:Code)(Q:Exit->Act->World->Prop):Nat->Act->World->Prop
 |mk {l:Nat} {a:Act} {w:World} {rest:Code} (Q':Exit->Act->World->Prop):findLabel c l=some rest->rest.wpIn F n P Q' a w->(∀e a w,Q' e a w->(∀l,e≠.goto l)->Q e a w)->
   (∀l a w,Q' (.goto l) a w->Df F n P c Q l a w)->Df F n P c Q l a w
def I0{c:Code}{m:Machine}{e:Exit}(hb:F.fn b.fn)(hr:F.room (cs.length+1+n))(he:∀l,e≠.goto l)(h:ArrivesIn (Machine.fenced P F) P m b (.inScope c::k) cs e a w):ArrivesIn (Machine.fenced P F) P m b k cs e a w:=by
 cases e with
 |normal=>exact StepsIn.trans h (.one (fenced_calm hb hr V) IY)
 |exit id=>
  have hx:exitTo id (.inScope c::k)=exitTo id k:=by simp[exitTo]
  exact⟨λk' hk=>h.1 k' (by rw[hx];exact hk),λhr' hk=>h.2 hr' (by rw[hx];exact hk)⟩
 |goto l=>exact absurd V (he l)
 |ret=>exact h
 |panic ch=>exact h
 |outgrown=>exact h
def N0{c:Code}{Q':Exit->Act->World->Prop}(h:c.wpIn F n P Q' a w)(hQ:∀e a w,Q' e a w->(∀l,e≠.goto l)->Q e a w)(hJ:∀l a w,Q' (.goto l) a w->Df F n P c Q l a w):(Code.scope c).wpIn F n P Q a w:=by
 intro b k cs hro hb hr;have h0:(lone (b.atR a (.code (.scope c)::k)) cs w).fenced P F:=fenced_calm hb hr V
 have key:∀l a w,Df F n P c Q l a w->∀rest,findLabel c l=some rest->∃e a' w',Q e a' w'/\ArrivesIn (Machine.fenced P F) P (lone (b.atR a (.code rest:: .inScope c::k)) cs w) b k cs e a' w':=by
  intro l a w hj
  induction hj with
  |mk Q1 hf h1 h2 h3 ih=>
   intro rest hf';rw[hf]at hf';cases hf'
   obtain⟨e,a₁,w₁,hq,harr⟩:=h1 b (.inScope c::k) cs hro hb hr;by_cases he:∀l,e≠.goto l
   .exact⟨e,a₁,w₁,h2 _ _ _ hq he,I0 hb hr he harr⟩
   .obtain⟨l',rfl⟩:∃l',e=.goto l':=by
     cases e with
     |goto l'=>exact⟨l',rfl⟩
     |_=>exact absurd (by simp) he
    have hj:=h3 _ _ _ hq;cases hj with
    |mk Q2 hf2 _ _ _=>
     obtain⟨e₂,a₂,w₂,hq₂,harr₂⟩:=ih _ _ _ hq _ hf2;exact⟨e₂,a₂,w₂,hq₂,.of_steps (harr.1 _ (by simp[gotoIn,hf2])) harr₂⟩
 obtain⟨e,a₁,w₁,hq,harr⟩:=h b (.inScope c::k) cs hro hb hr;by_cases he:∀l,e≠.goto l
 .exact⟨e,a₁,w₁,hQ _ _ _ hq he,.of_steps (.one h0 xR) (I0 hb hr he harr)⟩
 .obtain⟨l',rfl⟩:∃l',e=.goto l':=by
   cases e with
   |goto l'=>exact⟨l',rfl⟩
   |_=>exact absurd (by simp) he
  have hj:=hJ _ _ _ hq;have hj':=hj;cases hj' with
  |mk Q2 hf2 _ _ _=>
   obtain⟨e₂,a₂,w₂,hq₂,harr₂⟩:=key _ _ _ hj _ hf2;exact⟨e₂,a₂,w₂,hq₂,.of_steps (.head h0 xR (harr.1 _ (by simp[gotoIn,hf2]))) harr₂⟩
end scopes
section
variable {P:Program} {B:Nat} {s s1 s2 s':S} {ex:Exit}
def zl.refl(s:S):zl B s s:=λm w E a h=>⟨E,h,jA.refl B w E s.H⟩
def zl.trans(h:zl B s s1)(h':zl B s1 s2):zl B s s2:=λm w E a hs=>by
 obtain⟨E1,h1,g1⟩:=h m w E a hs;obtain⟨E2,h2,g2⟩:=h' m w E1 a h1;exact⟨E2,h2,g1.trans g2⟩
variable {R R':Exit->S->Prop}
def qX.pre{c:Code}(hw:zl B s s1)(h:qX P B c s1 R):qX P B c s R:=λq m w E a Q hr hs hq=>by
 obtain⟨E1,h1,g1⟩:=hw m w E a hs;exact h q m w E1 a Q hr h1 λex s' w' E' a' hR h2 g2=>hq ex s' w' E' a' hR h2 (g1.trans g2)
def qX.post{c:Code}(h:qX P B c s R')(hw:∀ex s1,R' ex s1->∃s2,zl B s1 s2/\R ex s2):qX P B c s R:=λq m w E a Q hr hs hq=>
 h q m w E a Q hr hs λex s1 w' E' a' hR h1 g1=>by
  obtain⟨s2,hw2,hR2⟩:=hw ex s1 hR;obtain⟨E2,h2,g2⟩:=hw2 m w' E' a' h1;exact hq ex s2 w' E2 a' hR2 h2 (g1.trans g2)
def qX.mono{c:Code}(h:qX P B c s R')(hw:∀ex s1,R' ex s1->R ex s1):qX P B c s R:=h.post λex s1 hR=>⟨s1,.refl s1,hw ex s1 hR⟩
def lK.pre{c:Code}{n:Nat}(hw:zl B s s1)(h:lK P B c n s1 R):lK P B c n s R:=λq m w E a Q hr hs hq=>by
 obtain⟨E1,h1,g1⟩:=hw m w E a hs;exact h q m w E1 a Q hr h1 λex s' w' E' a' hR h2 g2=>hq ex s' w' E' a' hR h2 (g1.trans g2)
def qX.skip(h:R .normal s):qX P B .skip s R:=λq m w E a Q hr hs hq=>wpIn_skip (hq _ _ w E a h hs (jA.refl B w E s.H))
def qX.exit(id:Nat)(h:R (.exit id) s):qX P B (.exit id) s R:=λq m w E a Q hr hs hq=>wpIn_exit (hq _ _ w E a h hs (jA.refl B w E s.H))
def qX.label(l:Nat)(h:R .normal s):qX P B (.label l) s R:=λq m w E a Q hr hs hq=>wpIn_label (hq _ _ w E a h hs (jA.refl B w E s.H))
def qX.ret(h:R .ret s):qX P B .ret s R:=λq m w E a Q hr hs hq=>wpIn_ret (hq _ _ w E a h hs (jA.refl B w E s.H))
def Np(next:S->Prop)(R:Exit->S->Prop):Exit->S->Prop
 |.normal,s=>next s
 |ex,s=>R ex s
def qX.seq{x y:Code}(h:qX P B x s (Np (λs1=>qX P B y s1 R) R)):qX P B (.seq x y) s R:=λq m w E a Q hr hs hq=>
 wpIn_seq (h q m w E a _ (λe=>hr (by simp[xv,e])) hs λex s1 w1 E1 a1 hR h1 g1=>by
  cases ex with
  |normal=>exact(hR:qX P B y s1 R) q m w1 E1 a1 Q (λe=>hr (by simp[xv,e])) h1 λex s2 w2 E2 a2 hR2 h2 g2=>hq ex s2 w2 E2 a2 hR2 h2 (g1.trans g2)
  |_=>exact hq _ s1 w1 E1 a1 hR h1 g1)
def Ms(id:Nat)(R:Exit->S->Prop):Exit->S->Prop
 |.exit id',s=>if id'=id then R .normal s else R (.exit id') s
 |ex,s=>R ex s
def qX.block{id:Nat}{c:Code}(h:qX P B c s (Ms id R)):qX P B (.block id c) s R:=λq m w E a Q hr hs hq=>
 wpIn_block (h q m w E a _ hr hs λex s1 w1 E1 a1 hR h1 g1=>by
  cases ex with
  |exit id'=>
   simp only[Exit.inBlock,Ms] at *;split
   .rename_i hi;rw[pD hi]at hR;exact hq _ s1 w1 E1 a1 hR h1 g1
   .rename_i hi;rw[pA hi]at hR;exact hq _ s1 w1 E1 a1 hR h1 g1
  |_=>exact hq _ s1 w1 E1 a1 hR h1 g1)
def XE(R:Exit->S->Prop):Exit->S->Prop
 |.goto _,_=>False
 |ex,s=>R ex s
def qX.scope{c:Code}(h:qX P B c s (XE R)):qX P B (.scope c) s R:=λq m w E a Q hr hs hq=>
 NS (h q m w E a _ hr hs λex s1 w1 E1 a1 hR h1 g1=>by
  cases ex with
  |goto l=>exact(hR:False).elim
  |_=>exact hq _ s1 w1 E1 a1 hR h1 g1)
def qX.goto(l:Nat)(h:R (.goto l) s):qX P B (.goto l) s R:=λq m w E a Q hr hs hq=>wpIn_goto (hq _ _ w E a h hs (jA.refl B w E s.H))
def N6:∀{c:Code} {l:Nat} {rest:Code},findLabel c l=some rest->xv rest=true->xv c=true:=by
 intro c
 induction c with
 |seq x y ihx ihy=>
  intro l rest h hr;simp only[findLabel]at h;split at h
  .rename_i r hx;cases h
   simp only[xv,rZ]at hr|-;exact hr.imp (ihx hx) id
  .simp only[xv,rZ];exact .inr (ihy h hr)
 |label l'=>
  intro l rest h hr;simp only[findLabel]at h;split at h
  .cases h;cases hr
  .cases h
 |_=>intro l rest h;simp[findLabel]at h
inductive Bx(P:Program)(B:Nat)(c:Code)(R:Exit->S->Prop):Nat->S->Prop
 |mk {l:Nat} {s:S} {rest:Code} (R':Exit->S->Prop):findLabel c l=some rest->qX P B rest s R'->(∀e s,R' e s->(∀l,e≠.goto l)->R e s)->(∀l s,R' (.goto l) s->Bx P B c R l s)->Bx P B c R l s
def Bx.XW{c:Code}{l:Nat}(h:Bx P B c R l s):∀(q:Option Nat) (m:Nat) (w:World) (E:Env) (a:Act) (Q:Exit->Act->World->Prop),(xv c=true->q=none)->xM B m w E s a->
  (∀ex s' w' E' a',R ex s'->xM B m w' E' s' a'->jA B w E s.H w' E' s'.H->Q ex a' w')->Df (fw q) 0 P c Q l a w:=by
 induction h with
 | @mk l s rest R1 hf h1 h2 h3 ih=>
  intro q m w E a Q hr hs hq
  refine .mk (λe a' w'=>∃s' E',R1 e s'/\xM B m w' E' s' a'/\jA B w E s.H w' E' s'.H) hf (h1 q m w E a _ (λe=>hr (N6 hf e)) hs λex s' w' E' a' hR h g=>⟨s',E',hR,h,g⟩)
   (λe a' w' ⟨s',E',hR,h,g⟩ he=>hq _ _ _ _ _ (h2 _ _ hR he) h g) (λl' a' w' ⟨s',E',hR,h,g⟩=>?_)
  exact ih _ _ hR q m w' E' a' Q hr h λex s2 w2 E2 a2 hR2 hs2 g2=>hq ex s2 w2 E2 a2 hR2 hs2 (g.trans g2)
def M1(P:Program)(B:Nat)(c:Code)(R:Exit->S->Prop):Exit->S->Prop
 |.goto l,s=>Bx P B c R l s
 |ex,s=>R ex s
def qX.XB{c:Code}(h:qX P B c s (M1 P B c R)):qX P B (.scope c) s R:=λq m w E a Q hr hs hq=>
 N0 (Q':=λe a' w'=>∃s' E',M1 P B c R e s'/\xM B m w' E' s' a'/\jA B w E s.H w' E' s'.H) (h q m w E a _ hr hs λex s' w' E' a' hR h g=>⟨s',E',hR,h,g⟩)
  (λe a' w' ⟨s',E',hR,h,g⟩ he=>by
   cases e with
   |goto l=>exact absurd V (he l)
   |_=>exact hq _ _ _ _ _ hR h g)
  (λl a' w' ⟨s',E',hR,h,g⟩=>Bx.XW hR q m w' E' a' Q hr h λex s2 w2 E2 a2 hR2 hs2 g2=>hq ex s2 w2 E2 a2 hR2 hs2 (g.trans g2))
def lK.step{c:Code}{n:Nat}(h:qX P B c s (Np (λs1=>lK P B c n s1 R) R)):lK P B c (n+1) s R:=λq m w E a Q hr hs hq=>by
 rw[roundsIn_succ]
 exact h q m w E a _ hr hs λex s1 w1 E1 a1 hR h1 g1=>by
  cases ex with
  |normal=>exact(hR:lK P B c n s1 R) q m w1 E1 a1 Q hr h1 λex s2 w2 E2 a2 hR2 h2 g2=>hq ex s2 w2 E2 a2 hR2 h2 (g1.trans g2)
  |_=>exact hq _ s1 w1 E1 a1 hR h1 g1
def lK.more{c:Code}{n m:Nat}(hm:n<=m)(h:lK P B c n s R):lK P B c m s R:=λq k w E a Q hr hs hq=>Jq hm (h q k w E a Q hr hs hq)
def zH(P:Program)(B:Nat)(c:Code)(s:S)(R:Exit->S->Prop):Prop:=∃n,lK P B c n s R
def zH.pre{c:Code}(hw:zl B s s1)(h:zH P B c s1 R):zH P B c s R:=let ⟨n,hn⟩:=h;⟨n,.pre hw hn⟩
def qX.loop{c:Code}(h:zH P B c s R):qX P B (.loop c) s R:=λq m w E a Q hr hs hq=>let ⟨n,hn⟩:=h;wpIn_loop_rounds n (hn q m w E a Q hr hs hq)
def lX:Value->C
 |.slice none 0 0=>.fq 1 0 []
 |.func (.func f) first caps=>if first.size=0/\caps.size=0 then .fn f [] [] else .za
 |.tuple vs=>if vs.size=0 then .un else .za
 |.agg _=>.za
 |x=>.v x
def M5(E:Env)(x:Value):L E (lX x) x:=by
 unfold lX;split
 .exact .xA _ _ (.inr V)
 .rename_i f first caps;split
  .rename_i h;obtain⟨h1,h2⟩:=h;obtain rfl:first= #[]:=r6 h1;obtain rfl:caps= #[]:=r6 h2;exact .fn f [] [] #[] #[] V V (by simp) (by simp)
  .exact .za _
 .rename_i vs;split
  .rename_i h;obtain rfl:vs= #[]:=r6 h;exact .un
  .exact .za _
 .exact .za _
 .rename_i h1 h2;refine .v _ ?_;cases x <;> simp_all[Value.oneCell']
def ev(tmps:List C):Operand->C
 |.tmp t=>(tmps[t]?).getD .za
 |.const v=>lX v
 |.global g=>.v (.pointer (some ⟨g,0,none⟩))
 |.func f=>.fn f [] []
def DM{tmps:List C}(h:LL E tmps a.tmps.toList)(x:Operand):L E (ev tmps x) (a.eval x):=by
 cases x with
 |tmp t=>
  simp only[ev,Act.eval];cases ht:tmps[t]? with
  |none=>exact .za _
  |some c=>
   obtain⟨y,hy,hl⟩:=h.get ht
   have:a.tmps.getD t undef=y:=by
    rw[rm]at hy;rw[rI,hy];rfl
   rw[this];exact hl
 |const v=>exact M5 E v
 |global g=>exact .v _ V
 |func f=>exact .fn f [] [] #[] #[] V V (by simp) (by simp)
def Cn(ops:Array Oper)(tmps:List C)(j:Nat):Option (Option Bool):=
 match (ops[j]?).bind (·.dst) with
 |none=>some none
 |some d=>match tmps[d]? with
  |none=>some none
  |some (.v (.bool b))=>some (some b)
  |some .un=>some none
  |_=>none
def KM{tmps:List C}(h:LL E tmps a.tmps.toList){j:Nat}{r:Option Bool}(hr:Cn ops tmps j=some r):yielded ops a.tmps j=r:=by
 unfold Cn at hr;unfold yielded;cases hd:(ops[j]?).bind (·.dst) with
 |none=>simp only[hd]at hr;cases hr;rfl
 |some d=>
  simp only[hd,ri]at hr|-;cases ht:tmps[d]? with
  |none=>
   simp only[ht]at hr;cases hr
   have hn:a.tmps[d]?=none:=by
    rw[Array.getElem?_eq_none_iff];have:=rT.1 ht;have h1:=h.1;simp at h1;omega
   rw[hn]
  |some c=>
   simp only[ht]at hr;obtain⟨y,hy,hl⟩:=h.get ht;rw[rm]at hy;rw[hy];split at hr
   .rename_i e;cases e
   .rename_i e;cases e;cases hr;cases hl;rfl
   .rename_i e;cases e;cases hr;cases hl;rfl
   .cases hr
def jD(ops:Array Oper)(tmps:List C)(o:Oper):Option Bool:=
 match o.guard with
 |none=>some true
 |some (j,want)=>match Cn ops tmps j with
  |some (some b)=>some (b == want)
  |some none=>some false
  |none=>none
def jN{tmps:List C}(h:LL E tmps a.tmps.toList){b:Bool}(hb:jD ops tmps o=some b):
  Region.wanted o (yielded ops a.tmps)=b:=by
 unfold jD at hb;unfold Region.wanted;split at hb
 .rename_i hg;simp only[hg];cases hb;rfl
 .rename_i j want hg;simp only[hg];split at hb
  .rename_i x hx;rw[KM h hx];cases hb;cases x <;> cases want <;> rfl
  .rename_i hx;rw[KM h hx];cases hb;rfl
  .cases hb
def put(tmps:List C)(dst:Option Tmp)(c:C):List C:=
 match dst with
 |some d=>tmps.set d c
 |none=>tmps
def ER{tmps:List C}(h:LL E tmps a.tmps.toList)(hl:L E c y)(dst:Option Tmp):LL E (put tmps dst c) (a.put dst y).tmps.toList:=by
 cases dst with
 |none=>exact h
 |some d=>simpa [put,Act.put] using h.set hl d
def xM.put{m:Nat}{w:World}{E:Env}{s:S}{a:Act}(h:xM B m w E s a){c:C}{y:Value}(hl:L E c y)(dst:Option Tmp):
  xM B m w E ⟨Ab.put s.tmps dst c,s.H⟩ (a.put dst y):=
 ⟨h.heap,ER h.tmps hl dst,by cases dst <;> exact h.defers,h.base⟩
def wF.nil{R:S->Prop}(h:R s):wF P B ops [] s R:=λq m w E a Q hs hq=>wpListIn_nil (hq s w E a h hs (jA.refl B w E s.H))
def wF.run{R1 R:S->Prop}(hw:jD ops s.tmps o=some true)(h:Ac P B o s R1)(h':∀s1,R1 s1->wF P B ops l s1 R):wF P B ops (o::l) s R:=λq m w E a Q hs hq=>by
 unfold wpListIn;rw[pD (jN hs.tmps hw)];exact h q m w E a _ Q hs λs1 w1 E1 a1 hR h1 g1=>h' s1 hR q m w1 E1 a1 Q h1 λs2 w2 E2 a2 hR2 h2 g2=>hq s2 w2 E2 a2 hR2 h2 (g1.trans g2)
def wF.pass{R:S->Prop}(hw:jD ops s.tmps o=some false)(h':wF P B ops l ⟨put s.tmps o.dst .un,s.H⟩ R):wF P B ops (o::l) s R:=λq m w E a Q hs hq=>by
 unfold wpListIn;rw[pA (by rw[jN hs.tmps hw];decide)];exact⟨λ_ _=>trivial,h' q m w E _ Q (hs.put (.un) o.dst) hq⟩
def qX.region{id:Nat}{ops:Array Oper}{R:Exit->S->Prop}(h:wF P B ops ops.toList s (R .normal)):qX P B (.region id ops false) s R:=λq m w E a Q hs0 hs hq=>
 wpIn_region_list (h q m w E a Q hs λs' w' E' a' hR h1 g1=>hq _ s' w' E' a' hR h1 g1)
def qX.cond{c:Operand}{x y:Code}{b:Bool}{R:Exit->S->Prop}(hc:ev s.tmps c=.v (.bool b))(h:qX P B (if b then x else y) s R):qX P B (.cond c x y) s R:=λq m w E a Q hr hs hq=>by
 have:=DM hs.tmps c;rw[hc]at this;have hb:a.eval c=.bool b:=by generalize a.eval c=z at *;cases this;rfl
 exact wpIn_cond hb (h q m w E a Q (λe=>hr (by cases b <;> simp_all[xv])) hs hq)
end
def nr(P:Program)(K:Value->World->Prop):Result Next->Prop
 |.ok (.value v) w=>K v w
 |.ok .skip w=>K undef w
 |.ok (.enter f args) w=>Calls P f args w λe w'=>∃v,e=.returned v/\K v w'
 |.ok (.round l f tmps assign body) w=>RoundIn (fw none) 0 P l f tmps assign body w λe w'=>∃v,e=.returned v/\K v w'
 |_=>False
def fE(P:Program)(o:Oper)(ρ:Operand->C)(H:zq)(c:C)(H':zq):Prop:=
 ∀(w:World) (E:Env) (σ:Operand->Value),qx w E H->(∀x∈o.op.operands,L E (ρ x) (σ x))->
  ∀K:Value->World->Prop,(∀v w' E',qx w' E' H'->L E' c v->Grow w E H w' E' H'->K v w')->nr P K ((execOp σ o).run P w)
def qA(P:Program)(o:Oper)(ρ:Operand->C)(H:zq)(c:C)(H':zq):Prop:=
 ∀(w:World) (E:Env) (σ:Operand->Value),qa w E H->(∀x∈o.op.operands,L E (ρ x) (σ x))->
  ∀K:Value->World->Prop,(∀v w' E',qa w' E' H'->L E' c v->qn w E H w' E' H'->K v w')->nr P K ((execOp σ o).run P w)
def m9(P:Program)(o:Oper)(ρ:Operand->C)(H:zq)(c:C)(H':zq):Prop:=
 ∀(w:World) (E:Env) (σ:Operand->Value),qx w E H->(∀x∈o.op.operands,L E (ρ x) (σ x))->(∀v,σ (.const v)=v)->
  ∀K:Value->World->Prop,(∀v w' E',qx w' E' H'->L E' c v->Grow w E H w' E' H'->K v w')->nr P K ((execOp σ o).run P w)
def jC(P:Program)(o:Oper)(ρ:Operand->C)(H:zq)(R:C->zq->Prop):Prop:=
 ∀(w:World) (E:Env) (σ:Operand->Value),qx w E H->(∀x∈o.op.operands,L E (ρ x) (σ x))->(∀v,σ (.const v)=v)->
  ∀K:Value->World->Prop,(∀c H' v w' E',R c H'->qx w' E' H'->L E' c v->Grow w E H w' E' H'->K v w')->nr P K ((execOp σ o).run P w)
def m9.iu(h:m9 P o ρ H c H')(hR:R c H'):jC P o ρ H R:=λw E σ hh hl hc K hk=>h w E σ hh hl hc K λv w' E'=>hk c H' v w' E' hR
def fE.iu(h:fE P o ρ H c H')(hR:R c H'):jC P o ρ H R:=λw E σ hh hl _ K hk=>h w E σ hh hl K λv w' E'=>hk c H' v w' E' hR
def Ac.Ew(h:jC P o (ev s.tmps) s.H R):Ac P B o s (λs'=>∃c H',R c H'/\s'=⟨put s.tmps o.dst c,H'⟩):=λq m w E a K Q hs hk=>by
 have:=h w E a.eval hs.heap (λx _=>DM hs.tmps x) (λ_=>V) (λv w'=>K (a.put o.dst v) w') λc H' v w' E' hR h1 h2 g=>
  hk _ w' E' _ ⟨c,H',hR,rfl⟩ ⟨h1,ER (hs.tmps.mono g.le) h2 o.dst,by have:=hs.defers.grow hs.heap g;cases o.dst <;> exact this,by have:=g.le.n;rw[hs.heap.n,h1.n]at this;exact rR hs.base this⟩ (g.iW (by rw[hs.heap.n];exact hs.base))
 have iv:∀d,o.op≠.defer d:=λd hd=>by
  have h2:=this;unfold execOp at h2;simp only[hd,Sem.run_bind]at h2;cases hr:(resolve a.eval d o.type).run P w with
  |ok x w1=>simp[hr,Result.andThen,nr]at h2
  |halt x w1=>simp[hr,Result.andThen,nr]at h2
 unfold Oper.wpIn;refine⟨λ_ _=>trivial,?_⟩;rw[Oper.semAt_eq _ _ _ iv];generalize (execOp a.eval o).run P w=r at this|-;unfold nr at this;split at this
 .exact this
 .exact this
 .rw[Oper.uponIn_enter];refine⟨λh=>(by cases h),callsIn_wide.2 (Calls.mono this ?_)⟩;rintro e w' ⟨v,rfl,hv⟩;exact hv
 .rw[Oper.uponIn_round];refine⟨λh=>(by cases h),RoundIn.mono (F:=fw q) this ?_⟩;rintro e w' ⟨v,rfl,hv⟩;exact hv
 .exact this.elim
def Ac.EP(h:fE P o (ev s.tmps) s.H c H')(q:Option Nat)(m:Nat)(w:World)(E:Env)(a:Act)(K:Act->World->Prop)(Q:Exit->Act->World->Prop)(hs:xM B m w E s a)
 (hq:∀w' E' a',xM B m w' E' ⟨put s.tmps o.dst c,H'⟩ a'->jA B w E s.H w' E' H'->K a' w'):o.wpIn (fw q) 0 P a w K Q:=
 Ac.Ew (B:=B) (h.iu (R:=λx X=>x=c/\X=H') ⟨rfl,rfl⟩) q m w E a K Q hs λs' w' E' a' ⟨x,X,⟨e1,e2⟩,e3⟩ h1 g1=>by subst e1 e2 e3;exact hq w' E' a' h1 g1
def fE.congr{ρ':Operand->C}(h:fE P o ρ H c H')(he:∀x∈o.op.operands,ρ' x=ρ x):fE P o ρ' H c H':=
 λw E σ hh hl K hk=>h w E σ hh (λx hx=>he x hx ▸ hl x hx) K hk
def qA.congr{ρ':Operand->C}(h:qA P o ρ H c H')(he:∀x∈o.op.operands,ρ' x=ρ x):qA P o ρ' H c H':=
 λw E σ hh hl K hk=>h w E σ hh (λx hx=>he x hx ▸ hl x hx) K hk
def fE.Bn(h:qA P o ρ H c H')(hk:jt H H'):fE P o ρ H c H':=λw E σ hh hl K hK=>
 h w E σ hh.base hl K λv w' E' h1 h2 g=>hK v w' E' ⟨h1,mN.step hh g hk⟩ h2 (g.up hh hk)
def fE.same(h:qA P o ρ H c H):fE P o ρ H c H:=.Bn h (jt.refl H)
def jt.push(H:zq)(ob:Ob)(hk:ob.kind≠4):jt H (H++[ob]):=λid ob' h4=>by
 by_cases ft:id<H.length
 .rw[pI ft]
 .rw[pR (by omega),rQ (l:=H) (by omega)];constructor
  .intro h;cases hd:id-H.length with
   |zero=>rw[hd]at h;cases h;exact absurd h4 hk
   |succ n=>rw[hd]at h;simp at h
  .intro h;cases h
def jt.modify(H:zq)(id:Nat)(f:Ob->Ob)(hf:∀ob,H[id]?=some ob->ob.kind≠4/\(f ob).kind≠4):jt H (H.modify id f):=λid' ob' h4=>by
 rw[r5];by_cases he:id=id'
 .subst he;cases hx:H[id]? with
  |none=>simp
  |some ob=>
   obtain⟨h1,h2⟩:=hf ob hx;simp only[sO,pL,if_true];constructor
   .intro h;cases h;exact absurd h4 h2
   .intro h;cases h;exact absurd h4 h1
 .cases hx:H[id']? with
  |none=>simp
  |some ob=>simp[he]
def jt.trans{H H' H'':zq}(h:jt H H')(h':jt H' H''):jt H H'':=λid ob h4=>(h' id ob h4).trans (h id ob h4)
def l9(P:Program){α:Type}:Sem α->Option α
 |.pure a=>some a
 |.program k=>l9 P (k P)
 |_=>none
def Wr(e:Sem α){a:α}(h:l9 P e=some a)(w:World):e.run P w=.ok a w:=by
 induction e with
 |pure a'=>simp only[l9,rh]at h;subst h;rfl
 |program k ih=>simp only[l9]at h;exact ih P h
 |_=>simp[l9]at h
def Af:C->Value
 |.v x=>x
 |_=>undef
def fS:C->Bool
 |.v _=>true
 |_=>false
def xH(o:Oper):Bool:=match o.op with|.select ..=>false|_=>true
def qA.scalar{v:Value}(hs:xH o=true)(hv:o.op.operands.all (λx=>fS (ρ x))=true)
 (hr:l9 P (execOp (λx=>Af (ρ x)) o)=some (.value v))(h1:v.oneCell'=true):qA P o ρ H (.v v) H:=λw E σ hh hl K hk=>by
 have he:execOp σ o=execOp (λx=>Af (ρ x)) o:=execOp_congr o (λcs b hc=>by simp[xH,hc]at hs) λx hx=>by
  have h1:fS (ρ x)=true:=by
   have:=Array.all_eq_true_iff_forall_mem.1 hv x hx;simpa using this
  have h2:=hl x hx;cases hc:ρ x with
  |v y=>rw[hc]at h2;cases h2;rfl
  |_=>rw[hc]at h1;cases h1
 rw[he,Wr _ hr w];exact hk v w E hh (.v v h1) (qn.refl w E H)
def J5{o:Obj}(h:b<w.heap.size):(w.alloc o).cell? ⟨b,off,none⟩=w.cell? ⟨b,off,none⟩:=
 World.cell?_alloc_lt _ _ _ h
def Cj(h:w.cell? ⟨b,off,none⟩=some u):b<w.heap.size:=World.block_lt_of_cell? w _ h
def Env.push(E:Env)(g κ:Nat):Env:=
 {n:=E.n+1,β:=λid hops=>if id=E.n then g else E.β id hops,κ:=λid hops=>if id=E.n then κ else E.κ id hops,St:=E.St,G:=E.G}
def Env.Ex(E:Env)(g κ:Nat):E.le (E.push g κ):=
 ⟨sV _,λid hops h=>by simp[Env.push,ui h],λid hops h=>by simp[Env.push,ui h],λb o u h=>h,λ_ _ _ _ h=>h⟩
def zF:C->Bool
 |.fq 2 _ _=>false
 |_=>true
def qO.loose{id:Nat}{i k:Nat}(hn:zF c=true):qO E kd id hops i k c u↔L (E.at kd) c u/\u.oneCell'=true:=by
 unfold qO;split
 .simp[zF]at hn
 .rfl
def qO.mono{E E':Env}(h:E.le E'){kd id:Nat}(hid:id<E.n){hops:List fY}{i k:Nat}{c:C}{u:Value}(hc:qO E kd id hops i k c u):qO E' kd id hops i k c u:=by
 unfold qO at *;split at hc
 .rw[h.β id _ hid,h.κ id _ hid];exact hc
 .exact⟨hc.1.mono (h.at kd),hc.2⟩
def Bp{id:Nat}(h:qe H id hops=some x):id<H.length:=by
 unfold qe at h;split at h
 .rename_i ob ho;exact(px.1 ho).1
 .cases h
def qU{id:Nat}(h:qe H id hops=some x):∃ob,H[id]?=some ob/\(ob.kind=1\/ob.kind=2)/\v7 ob.sz ob.rows hops=some x:=by
 unfold qe at h;split at h
 .rename_i ob ho;split at h
  .rename_i hk;exact⟨ob,ho,hk,h⟩
  .cases h
 .cases h
def qa.lt(h:qa w E H){id:Nat}(hx:qe H id hops=some x):E.β id hops<w.heap.size:=by
 obtain⟨ob,ho,_,_⟩:=qU hx;obtain⟨cur,e,hg,_⟩:=(h.fH id ob hops x.1 x.2 ho (by simpa using hx)).fH;exact(pP.1 hg).1
def kE{id:Nat}(h:id<H.length)(X:zq):qe (H++X) id hops=qe H id hops:=by
 unfold qe;rw[pI h]
def Ct.GL{id:Nat}(h:Ct w E kd id hops sz rows):E.β id hops<w.heap.size:=by
 obtain⟨cur,e,hg,_⟩:=h.fH;exact(pP.1 hg).1
def Ct.step(hle:E.le E'){id:Nat}(hid:id<E.n)(h:Ct w E kd id hops sz rows)
 (hh:w'.heap[E.β id hops]?=w.heap[E.β id hops]?):Ct w' E' kd id hops sz rows:=by
 obtain⟨cur,e,hg,hsz,hc⟩:=h.fH;refine⟨by rw[hle.κ id hops hid];exact h.len,h.row,cur,e,by rw[hle.β id hops hid,hh];exact hg,by rw[hle.κ id hops hid];exact hsz,?_⟩;intro i k c hcc;obtain⟨u,hu,ho⟩:=hc i k c hcc;exact⟨u,hu,ho.mono hle hid⟩
def wu(hn:∀i k c,cellAt rows i k=some c->zF c=true)(h:v7 sz rows hops=some x):hops=[]/\x=(sz,rows):=by
 cases hops with
 |nil=>simp[v7]at h;exact⟨rfl,h.symm⟩
 |cons hd tl=>
  obtain⟨i,k⟩:=hd;simp only[v7]at h;split at h
  .rename_i h1;have:=hn _ _ _ h1;simp[zF]at this
  .cases h
def qa.push{w:World}{E:Env}{H:zq}(h:qa w E H)(kind:Nat)(ty:TypeId)(sz κ:Nat)(rows:List (List C))(cur:Array Value)(hk:kind=1\/kind=2)(hrow:∀r∈rows,r.length=sz)
 (hlen:rows.length<=κ)(hcur:cur.size=κ*sz)(hn:∀i k c,cellAt rows i k=some c->zF c=true)
 (hc:∀i k c,cellAt rows i k=some c->∃u,cur[i*sz+k]?=some u/\L (E.at kind) c u/\u.oneCell'=true):
  qa (w.alloc (.cells cur ty)) (E.push w.heap.size κ) (H++[⟨kind,ty,sz,rows,0⟩])/\qn w E H (w.alloc (.cells cur ty)) (E.push w.heap.size κ) (H++[⟨kind,ty,sz,rows,0⟩]):=by
 have hle:=E.Ex w.heap.size κ
 have get:∀id hops x,qe (H++[⟨kind,ty,sz,rows,0⟩]) id hops=some x->(id<H.length/\qe H id hops=some x)\/(id=H.length/\hops=[]/\x=(sz,rows)):=by
  intro id hops x hx;by_cases ft:id<H.length
  .exact .inl ⟨ft,by rw[kE ft]at hx;exact hx⟩
  .have h1:=Bp hx;simp at h1;have:id=H.length:=by omega
   subst this;simp only[qe,pR (pN _),sM,eh]at hx;rw[pD hk]at hx;obtain⟨e1,e2⟩:=wu hn hx;exact .inr ⟨rfl,e1,e2⟩
 have hnew:∀hops,(E.push w.heap.size κ).β H.length hops=w.heap.size:=λhops=>by simp[Env.push,h.n]
 have hold:∀id hops,id<H.length->(E.push w.heap.size κ).β id hops=E.β id hops:=λid hops ft=>hle.β id hops (by rw[h.n];exact ft)
 refine⟨⟨by simp[Env.push,h.n],?_,?_,?_,?_,?_,?_⟩,⟨hle,λ_ _ _=>V,rfl,rfl,rfl,by show _<=(w.heap.push _).size;simp,?_,?_,?_⟩⟩
 .intro id ob hops sz' rows' hob hx;rcases get id hops _ hx with⟨ft,hx'⟩|⟨rfl,rfl,hx'⟩
  .rw[pI ft]at hob;have hb:=h.fH id ob hops sz' rows' hob hx';exact hb.step hle (by rw[h.n];exact ft) (heap_alloc_old w _ hb.GL)
  .cases hx'
   simp at hob;subst hob;refine⟨by simp[Env.push,h.n,hlen],hrow,cur,ty,by rw[hnew];exact heap_alloc_new w _,by simp[Env.push,h.n,hcur],?_⟩;intro i k c hcc;obtain⟨u,hu,hl,ho⟩:=hc i k c hcc;exact⟨u,hu,(qO.loose (hn i k c hcc)).2 ⟨hl.mono (hle.at kind),ho⟩⟩
 .intro id hops id' hops' x y hx hy he;rcases get id hops _ hx with⟨ft,hx'⟩|⟨rfl,rfl,hx'⟩ <;> rcases get id' hops' _ hy with⟨hlt',hy'⟩|⟨rfl,rfl,hy'⟩
  .rw[hold id hops ft,hold id' hops' hlt']at he;exact h.inj id hops id' hops' x y hx' hy' he
  .rw[hold id hops ft,hnew]at he;have:=h.lt hx';omega
  .rw[hold id' hops' hlt',hnew]at he;have:=h.lt hy';omega
  .exact⟨rfl,rfl⟩
 .intro b o u hu;have hs:=h.qp b o u hu;rw[J5 (Cj hs.1)];exact hs
 .intro id hops x o u hx hu;rcases get id hops _ hx with⟨ft,hx'⟩|⟨rfl,rfl,hx'⟩
  .rw[hold id hops ft]at hu;obtain⟨e1,ob,e2,e3⟩:=h.sep id hops x o u hx' hu;exact⟨e1,ob,by rw[pI ft];exact e2,e3⟩
  .rw[hnew]at hu;have:=Cj (h.qp _ _ _ hu).1;omega
 .intro id ob hob hkd;by_cases ft:id<H.length
  .rw[pI ft]at hob;obtain⟨cur',hc'⟩:=h.ty id ob hob hkd;refine⟨cur',?_⟩;rw[hold id [] ft,heap_alloc_old w _ (pP.1 hc').1];exact hc'
  .have h1:=(px.1 hob).1;simp at h1;have:id=H.length:=by omega
   subst this;simp at hob;subst hob;exact⟨cur,by rw[hnew];exact heap_alloc_new w _⟩
 .intro id ob hob;by_cases ft:id<H.length
  .rw[pI ft]at hob;exact h.fz id ob hob
  .have h1:=(px.1 hob).1;simp at h1;have:id=H.length:=by omega
   subst this;simp at hob;subst hob;exact pW _
 .intro k hk' ho;exact heap_alloc_old w _ hk'
 .intro b o u hu;exact .inl hu
 .rintro b ⟨id,hops,x,hx,rfl⟩;rcases get id hops _ hx with⟨ft,hx'⟩|⟨rfl,rfl,hx'⟩
  .exact .inr ⟨id,hops,x,hx',by rw[hold id hops ft]⟩
  .exact .inl (by rw[hnew];exact pN _)
section
variable {P:Program} {o:Oper} {ρ:Operand->C} {H:zq}
def qW(h:P.info? t=some i)(w:World):(sizeOf t).run P w=.ok i.size w:=by
 simp[sizeOf,typeInfo,h]
def xg{z:Value}(h:P.info? t=some i)(hz:i.zero=some z)(w:World):(zeroValue t).run P w=.ok z w:=by
 simp[zeroValue,typeInfo,h,hz]
def qA.move(x:Operand)(ho:o.op=.move x\/o.op=.assign x):qA P o ρ H (ρ x) H:=λw E σ hh hl K hk=>by
 have h1:(execOp σ o).run P w=.ok (.value (σ x)) w:=by
  unfold execOp;rcases ho with ho|ho <;> simp only[ho] <;> rfl
 rw[h1];exact hk _ w E hh (hl x (by rcases ho with ho|ho <;> simp[ho,Op.operands])) (qn.refl w E H)
def qA.pick(x y z:Operand)(ho:o.op=.pick x y z)(b:Bool)(hb:ρ x=.v (.bool b)):qA P o ρ H (if b then ρ y else ρ z) H:=λw E σ hh hl K hk=>by
 have h0:=hl x (by simp[ho,Op.operands]);rw[hb]at h0;have hx:σ x=.bool b:=by generalize σ x=u at *;cases h0;rfl
 have h1:(execOp σ o).run P w=.ok (.value (if b then σ y else σ z)) w:=by
  unfold execOp;simp only[ho,hx];cases b <;> rfl
 rw[h1];refine hk _ w E hh ?_ (qn.refl w E H);cases b
 .exact hl z (by simp[ho,Op.operands])
 .exact hl y (by simp[ho,Op.operands])
def y7{i k:Nat}:cellAt [cs] i k=some c↔i=0/\cs[k]?=some c:=by
 unfold cellAt;cases i <;> simp
def qa.L4(h:qa w E H)(ty:TypeId)(cs:List C)(ys:Array Value)(hl:LL E cs ys.toList)(hn:cs.all zF=true)(h1:∀y∈ys,y.oneCell'=true):
  qa (w.alloc (.cells ys ty)) (E.push w.heap.size 1) (H++[⟨1,ty,cs.length,[cs],0⟩])/\qn w E H (w.alloc (.cells ys ty)) (E.push w.heap.size 1) (H++[⟨1,ty,cs.length,[cs],0⟩]):=by
 refine h.push 1 ty cs.length 1 [cs] ys (.inl V) (by simp) (by simp) (by have:=hl.1;simp at this;omega) ?_ ?_
 .intro i k c hc;obtain⟨_,hc⟩:=y7.1 hc;exact pG.1 hn c (pE hc)
 .intro i k c hc;obtain⟨rfl,hc⟩:=y7.1 hc;obtain⟨y,hy,hly⟩:=hl.get hc;refine⟨y,by simpa using hy,by simpa [Env.at] using hly,h1 y ?_⟩;have:=pE hy;simpa using this
def mY(P:Program)(t:TypeId):Option (List C):=
 match P.info? t with
 |some i=>match i.zero with
  |some z=>if z.cells.toList.all (·.oneCell') && (z.cells.size == i.size) then some (z.cells.toList.map lX) else none
  |none=>none
 |none=>none
def ko(h:mY P t=some cs)(E:Env):∃i z,P.info? t=some i/\i.zero=some z/\LL E cs z.cells.toList/\(∀y∈z.cells,y.oneCell'=true)/\z.cells.size=i.size/\cs.all zF=true/\cs.length=i.size:=by
 unfold mY at h;split at h
 .rename_i i hi;split at h
  .rename_i z hz;split at h
   .rename_i hc;cases h
    simp only[pJ,rF,pG]at hc;refine⟨i,z,hi,hz,⟨by simp,?_⟩,λy hy=>hc.1 y (by simpa using hy),hc.2,?_,by simp[hc.2]⟩
    .intro k c y h1 h2;rw[pw,h2]at h1;cases h1
     exact M5 E y
    .rw[pG];intro c hcm;obtain⟨y,hy,rfl⟩:=rp.1 hcm;unfold lX;split <;> (try split) <;> rfl
   .cases h
  .cases h
 .cases h
def MW(h:qa w E H)(g κ sz:Nat):L (E.push g κ) (.ref H.length [] sz 0 0) (.pointer (some ⟨g,0,none⟩)):=by
 have:=L.ref (E:=E.push g κ) H.length [] sz 0 0 (by simp[Env.push,h.n]);have hb:(E.push g κ).β H.length []=g:=by simp[Env.push,h.n]
 rw[hb]at this;simpa using this
def qA.alloc(t:TypeId)(ho:o.op=.alloc t){cs:List C}(hz:mY P t=some cs):qA P o ρ H (.ref H.length [] cs.length 0 0) (H++[⟨1,t,cs.length,[cs],0⟩]):=λw E σ hh hl K hk=>by
 obtain⟨i,z,hi,hz,hll,h1,hsz,hn,hlen⟩:=ko hz E
 have hr:(execOp σ o).run P w=.ok (.value (.pointer (some ⟨w.heap.size,0,none⟩))) (w.alloc (.cells z.cells t)):=by
  unfold execOp;simp only[ho,Instr.alloc,Sem.run_bind,xg hi hz,Result.andThen_ok,newVar,newRow]
  rfl
 rw[hr];obtain⟨a,b⟩:=hh.L4 t cs z.cells hll hn h1;exact hk _ _ _ a (MW hh _ _ _) b
def oF:C->Bool
 |.v _=>true
 |.fq o _ _=>o != 2
 |.jR _|.ref .. |.sl .. |.fn .. |.mp _|.gl .. |.iq .. |.rc _=>true
 |_=>false
def Uy(h:L E c y)(hc:oF c=true):y.oneCell'=true:=by
 cases h with
 |v x hx=>exact hx
 |agg=>simp[oF]at hc
 |fy=>simp[oF]at hc
 |un=>simp[oF]at hc
 |za=>simp[oF]at hc
 |gl id sz rows y hn hg h=>cases h <;> rfl
 |_=>rfl
def Uz(hc:oF c=true):zF c=true:=by
 unfold oF at hc;unfold zF;split at hc <;> first|rfl|(split <;> simp_all)|cases hc
def mj:C->Bool
 |.agg cs=>cs.all zF
 |c=>oF c
def F3(h:L E c y)(hc:mj c=true):LL E c.cells y.cells.toList/\(∀u∈y.cells,u.oneCell'=true)/\c.cells.all zF=true:=by
 cases c with
 |agg cs=>
  cases h with
  |agg _ ys h1 h2 h3=>exact⟨⟨by simpa [C.cells,Value.cells] using h1,λi c y e1 e2=>h2 i c y e1 (by simpa [Value.cells] using e2)⟩,h3,by simpa [mj,C.cells] using hc⟩
 |za=>simp[mj,oF]at hc
 |un=>simp[mj,oF]at hc
 |fy=>simp[mj,oF]at hc
 |_=>
  have ho:=Uy h (by simpa [mj] using hc);have hcell:y.cells= #[y]:=by cases y <;> first|rfl|(simp[Value.oneCell']at ho)
  refine⟨h.cells (by simp) (by simp),by rw[hcell];simpa using ho,?_⟩;have:=Uz (by simpa [mj] using hc);simpa [C.cells] using this
def qA.box(t:TypeId)(x:Operand)(ho:o.op=.box t x)(hc:mj (ρ x)=true):qA P o ρ H (.ref H.length [] (ρ x).cells.length 0 0) (H++[⟨1,t,(ρ x).cells.length,[(ρ x).cells],0⟩]):=λw E σ hh hl K hk=>by
 obtain⟨hll,h1,hn⟩:=F3 (hl x (by simp[ho,Op.operands])) hc
 have hr:(execOp σ o).run P w=.ok (.value (.pointer (some ⟨w.heap.size,0,none⟩))) (w.alloc (.cells (σ x).cells t)):=by
  unfold execOp;simp only[ho,Instr.box,newVar,newRow]
  rfl
 rw[hr];obtain⟨a,b⟩:=hh.L4 t _ _ hll hn h1;exact hk _ _ _ a (MW hh _ _ _) b
def xa(b off n:Nat):(⟨b,off,none⟩:Addr).add n=⟨b,off+n,none⟩:=by
 unfold Addr.add;split <;> simp_all
def AP(c:C)(n:Nat):Option C:=
 match c with
 |.ref id hops sz i k=>some (.ref id hops sz i (k+n))
 |.jR cells=>some (.jR (cells.drop n))
 |_=>none
def KH{c':C}{n:Nat}(h:L E c y)(hf:AP c n=some c'):∃a,y=.pointer (some a)/\L E c' (.pointer (some (a.add n))):=by
 cases h with
 |ref id hops sz i k hn=>
  simp only[AP]at hf;cases hf
  refine⟨_,rfl,?_⟩;rw[xa,sS];exact .ref id hops sz i (k+n) hn
 |jR cells b off us hst hL=>
  simp only[AP]at hf;cases hf
  refine⟨_,rfl,?_⟩;rw[xa];exact .jR _ b (off+n) (λk=>us (n+k)) (λk c hc=>by rw[rM]at hc;rw[sS];exact hst _ c hc) (λk c hc=>by rw[rM]at hc;exact hL _ c hc)
 |_=>simp[AP]at hf
def qA.fieldAddr(t:TypeId)(x:Operand)(f:Nat)(ho:o.op=.fieldAddr t x f){fs:Array Field}{fd:Field}(ht:P.underlying t=some (.struct fs))(hf:fs[f]?=some fd)
 (hi:P.info? fd.type=some i)(hsz:i.size≠0){c:C}(hc:AP (ρ x) fd.offset=some c):qA P o ρ H c H:=λw E σ hh hl K hk=>by
 obtain⟨a,ha,hla⟩:=KH (hl x (by simp[ho,Op.operands])) hc
 have hr:(execOp σ o).run P w=.ok (.value (.pointer (some (a.add fd.offset)))) w:=by
  unfold execOp;simp[ho,Instr.fieldAt,run_underlying ht,hf,ha,Instr.sureAddr,fieldPlace,qW hi,hsz]
 rw[hr];exact hk _ w E hh hla (qn.refl w E H)
def A3(c:C)(size n:Nat):Option C:=
 match c with
 |.fq o sz rows=>if (o == 0 || o == 1) && (sz == size) then (rows[n]?).map .jR else none
 |.sl id hops sz lo len _=>if decide (n<len) && (sz == size) then some (.ref id hops sz (lo+n) 0) else none
 |_=>none
def Fo:C->Option Nat
 |.fq _ _ rows=>some rows.length
 |.sl _ _ _ _ len _=>some len
 |_=>none
def V3{c':C}{size n:Nat}(h:L E c y)(hf:A3 c size n=some c'):
  ∃a len cap,y=.slice (some a) len cap/\n<len/\L E c' (.pointer (some (a.add (n*size)))):=by
 cases h with
 |fq o sz rows b off cap us ho hc hsz hst hL=>
  simp only[A3]at hf;split at hf
  .rename_i hcond;simp only[pJ,rF]at hcond;obtain⟨_,rfl⟩:=hcond;cases hr:rows[n]? with
   |none=>rw[hr]at hf;cases hf
   |some r=>
    rw[hr]at hf;cases hf
    refine⟨_,_,_,rfl,(px.1 hr).1,?_⟩;rw[xa];exact .jR r b (off+n*sz) (us n) (λk c hc=>hst n r k c hr hc) (λk c hc=>hL n r k c hr hc)
  .cases hf
 |xA o sz ho=>
  simp[A3]at hf
 |sl id hops sz lo len full cap hn hlen hfull hf'=>
  simp only[A3]at hf;split at hf
  .rename_i hcond;simp only[pJ,rF,pY]at hcond;obtain⟨ft,rfl⟩:=hcond;cases hf
   refine⟨_,_,_,rfl,ft,?_⟩;rw[xa,<-rP];exact .ref id hops sz (lo+n) 0 hn
  .cases hf
 |_=>simp[A3]at hf
def qA.indexAddr(t:TypeId)(x y:Operand)(ho:o.op=.indexAddr t x y)(ht:P.underlying t=some (.slice e))(hi:P.info? e=some i)
 {k:IntKind}{n:Int}(hy:ρ y=.v (.int k n))(h0:0<=n){c:C}(hc:A3 (ρ x) i.size n.toNat=some c):qA P o ρ H c H:=λw E σ hh hl K hk=>by
 obtain⟨a,len,cap,ha,ft,hla⟩:=V3 (hl x (by simp[ho,Op.operands])) hc;have h1:=hl y (by simp[ho,Op.operands]);rw[hy]at h1;have hyv:σ y=.int k n:=by generalize σ y=u at *;cases h1;rfl
 have hn:0<=n/\n<(len:Int):=⟨h0,by omega⟩
 have hr:(execOp σ o).run P w=.ok (.value (.pointer (some (a.add (n.toNat*i.size))))) w:=by
  unfold execOp;simp[ho,Instr.indexAt,asIntOf,hyv,ha,run_underlying ht,hn.1,hn.2,qW hi]
 rw[hr];exact hk _ w E hh hla (qn.refl w E H)
def qA.Vv(t:TypeId)(x y:Operand)(ho:o.op=.indexAddr t x y){len:Nat}(ht:P.underlying t=some (.array len e))(hi:P.info? e=some i)
 {k:IntKind}{n:Int}(hy:ρ y=.v (.int k n))(h0:0<=n)(h1:n<len){c:C}(hc:AP (ρ x) (n.toNat*i.size)=some c):qA P o ρ H c H:=λw E σ hh hl K hk=>by
 obtain⟨a,ha,hla⟩:=KH (hl x (by simp[ho,Op.operands])) hc;have hy1:=hl y (by simp[ho,Op.operands]);rw[hy]at hy1;have hyv:σ y=.int k n:=by generalize σ y=u at *;cases hy1;rfl
 have hr:(execOp σ o).run P w=.ok (.value (.pointer (some (a.add (n.toNat*i.size))))) w:=by
  unfold execOp;simp[ho,Instr.indexAt,asIntOf,hyv,ha,run_underlying ht,h0,h1,qW hi,Instr.sureAddr]
 rw[hr];exact hk _ w E hh hla (qn.refl w E H)
end
def DE(id:Nat)(hops:List fY)(i k:Nat):C->C
 |.fq 2 sz rows=>.sl id (hops++[(i,k)]) sz 0 rows.length false
 |c=>c
def vP(id:Nat)(hops:List fY)(i:Nat):Nat->List C->List C
 |_,[]=>[]
 |k,c::cs=>DE id hops i k c::vP id hops i (k+1) cs
theorem qT(sz:Nat)(rows:List (List C)):v7 sz rows []=some (sz,rows):=rfl
def xG(sz:Nat)(rows:List (List C))(i k:Nat)(hs:List fY):v7 sz rows ((i,k)::hs)=match cellAt rows i k with
  |some (.fq 2 sz' rows')=>v7 sz' rows' hs
  |_=>none:=rfl
def KJ{i k sz2:Nat}{rows2:List (List C)}:∀(hops:List fY) (sz:Nat) (rows:List (List C)) (sz':Nat) (rows':List (List C)),v7 sz rows hops=some (sz',rows')->
  cellAt rows' i k=some (.fq 2 sz2 rows2)->v7 sz rows (hops++[(i,k)])=some (sz2,rows2)
 |[],sz,rows,sz',rows',h,hc=>by
  rw[qT]at h;cases h
  rw[List.nil_append,xG,hc]
  rfl
 |(i',k')::tl,sz,rows,sz',rows',h,hc=>by
  rw[xG]at h;rw[fj,xG];split at h
  .exact KJ tl _ _ _ _ h hc
  .cases h
def T3{id:Nat}{sz':Nat}(h:qe H id hops=some (sz',rows')){i k:Nat}{sz2:Nat}{rows2:List (List C)}
 (hc:cellAt rows' i k=some (.fq 2 sz2 rows2)):qe H id (hops++[(i,k)])=some (sz2,rows2):=by
 obtain⟨ob,ho,hk,hg⟩:=qU h;unfold qe;rw[ho];simp only[hk,if_true];exact KJ _ _ _ _ _ hg hc
def Xn(h:qa w E H){id:Nat}(hb:qe H id hops=some (sz,rows)){i k:Nat}
 (hc:cellAt rows i k=some c)(ho:qO E kd id hops i k c u):L E (DE id hops i k c) u:=by
 unfold qO at ho;split at ho
 .rename_i sz' rows';subst ho;have hb':=T3 hb hc;obtain⟨ob,hob,_,_⟩:=qU hb';have hlen:=(h.fH id ob _ _ _ hob hb').len;have:=L.sl (E:=E) id (hops++[(i,k)]) sz' 0 rows'.length false _ (by rw[h.n];exact Bp hb') hlen (by simp) (by intro _;rw[pK]);rw[uj]at this;exact this
 .rename_i h2
  have:DE id hops i k c=c:=by
   unfold DE;split
   .exact absurd V (h2 _ _)
   .rfl
  rw[this];exact ho.1.mono (E.HH kd)
def JG{id:Nat}{hops:List fY}{i:Nat}:∀(cs:List C) (k j:Nat) (c':C),(vP id hops i k cs)[j]?=some c'->∃c,cs[j]?=some c/\c'=DE id hops i (k+j) c
 |[],k,j,c',h=>by simp[vP]at h
 |c::cs,k,0,c',h=>by simp[vP]at h;exact⟨c,rfl,h.symm⟩
 |c::cs,k,j+1,c',h=>by
  simp[vP]at h;obtain⟨c0,h0,e⟩:=JG cs (k+1) j c' h;exact⟨c0,by simpa using h0,by rw[e];congr 1;omega⟩
def I5{id:Nat}{hops:List fY}{i:Nat}:∀(cs:List C) (k:Nat),(vP id hops i k cs).length=cs.length
 |[],_=>rfl
 |c::cs,k=>by simp[vP,I5 cs (k+1)]
def oA(H:zq)(c:C)(n:Nat):Option (List C):=
 match c with
 |.ref id hops sz i k=>match qe H id hops with
  |some (sz',rows)=>if sz' == sz then match rows[i]? with
    |some r=>if decide (k+n<=r.length) then some (vP id hops i k ((r.drop k).take n)) else none
    |none=>none
   else none
  |none=>none
 |.jR cells=>if decide (n<=cells.length) then some (cells.take n) else none
 |_=>none
def Ey(h:qa w E H)(hl:L E c y){n:Nat}(hr:oA H c n=some cs):
  ∃a us,y=.pointer (some a)/\(∀(j:Nat) u,us[j]?=some u->w.cell? (a.add j)=some u)/\LL E cs us/\us.length=n/\(∀u∈us,u.oneCell'=true):=by
 cases hl with
 |ref id hops sz i k hn=>
  simp only[oA]at hr;split at hr
  .rename_i sz' rows hb;split at hr
   .rename_i hsz;have hsz:sz'=sz:=by simpa using hsz
    subst hsz;split at hr
    .rename_i r hrow;split at hr
     .rename_i hlen;simp only[pY]at hlen;cases hr
      obtain⟨ob,hob,_,_⟩:=qU hb;have hB:=h.fH id ob hops sz' rows hob hb;obtain⟨cur,e,hg,hcs,hcell⟩:=hB.fH;have hrl:r.length=sz':=hB.row r (pE hrow)
      have hcc:∀j,j<n->∃c u,r[k+j]?=some c/\cellAt rows i (k+j)=some c/\cur[i*sz'+(k+j)]?=some u/\qO E ob.kind id hops i (k+j) c u:=λj hj=>by
       have hj':k+j<r.length:=by omega
       have h1:r[k+j]?=some r[k+j]:=by simp[hj']
       have h2:cellAt rows i (k+j)=some r[k+j]:=by simp[cellAt,hrow,hj']
       obtain⟨u,hu,ho⟩:=hcell i (k+j) _ h2;exact⟨_,u,h1,h2,hu,ho⟩
      refine⟨_,(List.range n).map (λj=>cur.getD (i*sz'+(k+j)) undef),rfl,?_,⟨?_,?_⟩,by simp,?_⟩
      .intro j u hju;simp only[pw]at hju;cases hjr:(List.range n)[j]? with
       |none=>rw[hjr]at hju;cases hju
       |some j'=>
        rw[hjr]at hju;obtain⟨hjlt,hj'⟩:=px.1 hjr;simp at hj' hjlt;subst hj';obtain⟨c,u',h1,h2,hu,ho⟩:=hcc j hjlt;simp only[pL,rh]at hju;rw[rI,hu]at hju;simp at hju;subst hju;rw[xa];unfold World.cell?;simp only[hg];rw[pA (by simp),sS];exact hu
      .rw[I5];simp;omega
      .intro j c' u hc' hu';obtain⟨c,hc,rfl⟩:=JG _ _ _ _ hc';rw[pZ]at hc;split at hc
       .rename_i hj;rw[rM]at hc;obtain⟨c2,u2,h1,h2,hu,ho⟩:=hcc j hj;rw[h1]at hc;cases hc
        simp only[pw,sR hj,pL,rh]at hu';rw[rI,hu]at hu';simp at hu';subst hu';exact Xn h hb h2 ho
       .cases hc
      .intro u hu;obtain⟨j,hj,rfl⟩:=rp.1 hu;obtain⟨c,u',h1,h2,hu',ho⟩:=hcc j (by simpa using hj);rw[rI,hu'];simp only[rO];unfold qO at ho;split at ho
       .rw[ho];rfl
       .exact ho.2
     .cases hr
    .cases hr
   .cases hr
  .cases hr
 |jR cells b off us hst hL=>
  simp only[oA]at hr;split at hr
  .rename_i hlen;simp only[pY]at hlen;cases hr
   refine⟨_,(List.range n).map us,rfl,?_,⟨by simp;omega,?_⟩,by simp,?_⟩
   .intro j u hju;simp only[pw]at hju;cases hjr:(List.range n)[j]? with
    |none=>rw[hjr]at hju;cases hju
    |some j'=>
     rw[hjr]at hju;obtain⟨hjlt,hj'⟩:=px.1 hjr;simp at hj' hjlt;subst hj';cases hju
     rw[xa];have hj2:j<cells.length:=by omega
     exact(h.qp _ _ _ (hst j cells[j] (by simp[hj2]))).1
   .intro j c u hc hu;rw[pZ]at hc;split at hc
    .rename_i hj;simp only[pw,sR hj,pL,rh]at hu;subst hu;exact(hL j c hc).mono E.Cb
    .cases hc
   .intro u hu;obtain⟨j,hj,rfl⟩:=rp.1 hu
    have hj2:j<cells.length:=by
      have:j<n:=by simpa using hj
      omega
    exact(h.qp _ _ _ (hst j cells[j] (by simp[hj2]))).2
  .cases hr
 |_=>simp[oA]at hr
def B9:TypeDesc->Bool
 |.struct _|.array _ _=>true
 |_=>false
def wC{d:TypeDesc}(h:P.underlying t=some d)(w:World):(isAgg t).run P w=.ok (B9 d) w:=by
 simp only[isAgg,Sem.run_bind,run_underlying h,Result.andThen_ok];cases d <;> rfl
def wN(P:Program)(H:zq)(t:TypeId)(c:C):Option C:=
 match P.underlying t,P.info? t with
 |some d,some i=>
  if B9 d then (oA H c i.size).map .agg
  else match oA H c 1 with
   |some [x]=>some x
   |_=>none
 |_,_=>none
section
variable {P:Program} {o:Oper} {ρ:Operand->C} {H:zq}
def qA.load(t:TypeId)(x:Operand)(ho:o.op=.load t x)(hc:wN P H t (ρ x)=some c):qA P o ρ H c H:=λw E σ hh hl K hk=>by
 have hx:=hl x (by simp[ho,Op.operands]);unfold wN at hc;split at hc
 .rename_i d i hd hi;by_cases hag:B9 d=true
  .rw[pD hag]at hc;cases hr:oA H (ρ x) i.size with
   |none=>rw[hr]at hc;cases hc
   |some cs=>
    rw[hr]at hc;cases hc
    obtain⟨a,us,ha,hcell,hll,hlen,hone⟩:=Ey hh hx hr
    have hr':(execOp σ o).run P w=.ok (.value (.agg us.toArray)) w:=by
     unfold execOp;have h3:=run_loadCells_list (P:=P) (w:=w) a us (λj v hj=>hcell j v hj);rw[hlen]at h3;simp[ho,Instr.loadAt,Instr.sureAddr,ha,loadVar,wC hd,hag,qW hi,h3]
    rw[hr'];exact hk _ w E hh (.agg cs us.toArray (by simpa using hll.1) (λi c y e1 e2=>hll.2 i c y e1 (by simpa using e2)) (λu hu=>hone u (by simpa using hu))) (qn.refl w E H)
  .rw[pA hag]at hc;split at hc
   .rename_i x0 hr;cases hc
    obtain⟨a,us,ha,hcell,hll,hlen,hone⟩:=Ey hh hx hr
    obtain⟨u,rfl⟩:∃u,us=[u]:=by
     match us,hlen with
     |[u],_=>exact⟨u,rfl⟩
    have hu:=hcell 0 u V;have ha0:a.add 0=a:=by simp[Addr.add]
    rw[ha0]at hu
    have hr':(execOp σ o).run P w=.ok (.value u) w:=by
     unfold execOp;simp[ho,Instr.loadAt,Instr.sureAddr,ha,loadVar,wC hd,hag,hu]
    rw[hr'];exact hk _ w E hh hll.cons_inv.1 (qn.refl w E H)
   .cases hc
 .cases hc
end
def setCell(rows:List (List C))(i k:Nat)(c:C):List (List C):=rows.modify i (·.set k c)
def yh:List (List C)->List fY->(List (List C)->List (List C))->List (List C)
 |rows,[],f=>f rows
 |rows,(i,k)::hs,f=>match cellAt rows i k with
  |some (.fq 2 sz' rows')=>setCell rows i k (.fq 2 sz' (yh rows' hs f))
  |_=>rows
theorem Ei(rows:List (List C))(f:List (List C)->List (List C)):yh rows [] f=f rows:=rfl
def D7(rows:List (List C))(i k:Nat)(hs:List fY)(f:List (List C)->List (List C)):yh rows ((i,k)::hs) f=match cellAt rows i k with
  |some (.fq 2 sz' rows')=>setCell rows i k (.fq 2 sz' (yh rows' hs f))
  |_=>rows:=rfl
def I4(rows:List (List C))(i k:Nat)(c:C):(setCell rows i k c).length=rows.length:=by simp[setCell]
def IP(rows:List (List C))(i k:Nat)(c:C)(i' k':Nat):cellAt (setCell rows i k c) i' k'=if i=i'/\k=k' then (cellAt rows i' k').map (λ_=>c) else cellAt rows i' k':=by
 unfold cellAt setCell;rw[r5];by_cases hi:i=i'
 .subst hi;cases hr:rows[i]? with
  |none=>simp
  |some r=>
   simp only[if_true,sO,pL,ri,true_and];rw[pM];by_cases hk:k=k'
   .subst hk;simp only[if_true];by_cases ft:k<r.length
    .simp[ft]
    .simp[ft]
   .simp[hk]
 .simp[hi]
def Rm(h:∀r∈rows,r.length=sz)(i k:Nat)(c:C):∀r∈setCell rows i k c,r.length=sz:=by
 intro r hr;obtain⟨j,hj⟩:=pV.1 hr;unfold setCell at hj;rw[r5]at hj;cases hx:rows[j]? with
 |none=>rw[hx]at hj;cases hj
 |some r0=>
  rw[hx]at hj;have h0:=h r0 (pE hx);simp only[sO,pL,rh]at hj;subst hj;split <;> simp[h0]
structure DI(rows rows':List (List C)):Prop where
 len:rows'.length=rows.length
 own:∀i k s r,cellAt rows' i k=some (.fq 2 s r)↔cellAt rows i k=some (.fq 2 s r)
structure BH(rows rows':List (List C)):Prop where
 len:rows'.length=rows.length
 cell:∀i k c',cellAt rows' i k=some c'->∃c,cellAt rows i k=some c/\(c=c'\/∃s r r',c=.fq 2 s r/\c'=.fq 2 s r'/\r'.length=r.length)
 row:∀sz,(∀r∈rows,r.length=sz)->∀r∈rows',r.length=sz
def BH.refl(rows:List (List C)):BH rows rows:=⟨rfl,λi k c h=>⟨c,h,.inl V⟩,λ_ h=>h⟩
def Jx:∀(hops:List fY) (sz:Nat) (rows:List (List C)) (sz':Nat) (rows':List (List C)),v7 sz rows hops=some (sz',rows')->DI rows' (f rows')->(yh rows hops f).length=rows.length
 |[],sz,rows,sz',rows',h,ht=>by rw[qT]at h;cases h;rw[Ei];exact ht.len
 |(i,k)::hs,sz,rows,sz',rows',h,ht=>by
  rw[D7];split
  .exact I4 _ _ _ _
  .rfl
def KI{f:List (List C)->List (List C)}:∀(hops:List fY) (sz:Nat) (rows:List (List C)) (sz':Nat) (rows':List (List C)),v7 sz rows hops=some (sz',rows')->DI rows' (f rows')->
  ∀(p:List fY) (sz2:Nat) (rows2':List (List C)),v7 sz (yh rows hops f) p=some (sz2,rows2')->
   ∃rows2,v7 sz rows p=some (sz2,rows2)/\((p=hops/\rows2'=f rows2)\/(p≠hops/\BH rows2 rows2'))
 |[],sz,rows,sz',rows',h,ht,p,sz2,rows2',hp=>by
  rw[qT]at h;cases h
  rw[Ei]at hp;cases p with
  |nil=>rw[qT]at hp;cases hp;exact⟨rows,rfl,.inl ⟨rfl,rfl⟩⟩
  |cons hd q=>
   obtain⟨i,k⟩:=hd;rw[xG]at hp;split at hp
   .rename_i s r hc;rw[ht.own]at hc;exact⟨rows2',by rw[xG,hc];exact hp,.inr ⟨by simp,BH.refl _⟩⟩
   .cases hp
 |(i,k)::hs,sz,rows,sz',rows',h,ht,p,sz2,rows2',hp=>by
  rw[xG]at h;split at h
  .rename_i s r hc;have hset:yh rows ((i,k)::hs) f=setCell rows i k (.fq 2 s (yh r hs f)):=by rw[D7,hc];rfl
   rw[hset]at hp;cases p with
   |nil=>
    rw[qT]at hp;cases hp
    refine⟨rows,rfl,.inr ⟨by simp,I4 _ _ _ _,?_,λsz0 h0=>Rm h0 _ _ _⟩⟩;intro i' k' c' hcc;rw[IP]at hcc;split at hcc
    .rename_i hik;obtain⟨rfl,rfl⟩:=hik;rw[hc]at hcc;simp only[pL,rh]at hcc;subst hcc;exact⟨_,hc,.inr ⟨s,r,_,rfl,rfl,Jx hs s r sz' rows' h ht⟩⟩
    .exact⟨c',hcc,.inl V⟩
   |cons hd q=>
    obtain⟨i',k'⟩:=hd;rw[xG,IP]at hp;by_cases hik:i=i'/\k=k'
    .obtain⟨rfl,rfl⟩:=hik;rw[pD ⟨rfl,rfl⟩,hc]at hp;simp only[pL]at hp;obtain⟨rows2,h2,h3⟩:=KI hs s r sz' rows' h ht q sz2 rows2' hp;refine⟨rows2,by rw[xG,hc];exact h2,?_⟩;rcases h3 with⟨rfl,e⟩|⟨hne,hlk⟩
     .exact .inl ⟨rfl,e⟩
     .exact .inr ⟨λe=>hne (by simpa using e),hlk⟩
    .rw[pA hik]at hp;refine⟨rows2',by rw[xG];exact hp,.inr ⟨?_,BH.refl _⟩⟩;intro e;simp at e;exact hik ⟨e.1.1.symm,e.1.2.symm⟩
  .cases h
def nd(H:zq)(id:Nat)(hops:List fY)(f:List (List C)->List (List C)):zq:=H.modify id λob=>match ob with
 |⟨kind,ty,sz,rows,fz⟩=>⟨kind,ty,sz,yh rows hops f,fz⟩
def Dc(H:zq)(id:Nat)(hops:List fY)(f:List (List C)->List (List C))(j:Nat):(nd H id hops f)[j]?=(H[j]?).map λob=>if id=j then {ob with rows:=yh ob.rows hops f} else ob:=by
 unfold nd;rw[r5]
 rfl
def C0{id:Nat}(hb:qe H id hops=some (sz,rows))(ht:DI rows (f rows)){id':Nat}{p:List fY}
 {sz2:Nat}{rows2':List (List C)}(hp:qe (nd H id hops f) id' p=some (sz2,rows2')):
  ∃rows2,qe H id' p=some (sz2,rows2)/\((id'=id/\p=hops/\rows2'=f rows2)\/(¬(id'=id/\p=hops)/\BH rows2 rows2')):=by
 obtain⟨ob,hob,hk,hg⟩:=qU hb;obtain⟨ob',hob',hk',hg'⟩:=qU hp;rw[Dc]at hob';by_cases hid:id=id'
 .subst hid;rw[hob]at hob';simp only[pL,if_true,rh]at hob';subst hob';obtain⟨rows2,h2,h3⟩:=KI hops ob.sz ob.rows sz rows hg ht p sz2 rows2' hg';refine⟨rows2,?_,?_⟩
  .unfold qe;rw[hob];simp only[hk,if_true];exact h2
  .rcases h3 with⟨rfl,e⟩|⟨hne,hlk⟩
   .exact .inl ⟨rfl,rfl,e⟩
   .exact .inr ⟨λe=>hne e.2,hlk⟩
 .cases hx:H[id']? with
  |none=>rw[hx]at hob';cases hob'
  |some ob2=>
   rw[hx]at hob';simp only[pL,hid,if_false,rh]at hob';subst hob';refine⟨rows2',?_,.inr ⟨λe=>hid e.1.symm,BH.refl _⟩⟩;unfold qe;rw[hx];simp only[hk',if_true];exact hg'
def qa.write(h:qa w E H){id:Nat}{ob:Ob}(hob:H[id]?=some ob)
 (hb:qe H id hops=some (sz,rows))(ht:DI rows (f rows))(hrow:∀r∈f rows,r.length=sz){cur cur':Array Value}{e:TypeId}(hg:w.heap[E.β id hops]?=some (.cells cur e (0,0)))(hsz:cur'.size=cur.size)
 (hst:∀o u,E.St (E.β id hops) o=some u->cur'[o]?=some u)
 (hc:∀i k c,cellAt (f rows) i k=some c->∃u,cur'[i*sz+k]?=some u/\qO E ob.kind id hops i k c u):
  qa (w.setRow (E.β id hops) cur') E (nd H id hops f)/\qn w E H (w.setRow (E.β id hops) cur') E (nd H id hops f):=by
 have hown:∀b,q6 E (nd H id hops f) b->q6 E H b:=by
  rintro b ⟨id',p,⟨s2,r2⟩,hx,rfl⟩;obtain⟨rows2,h2,_⟩:=C0 hb ht hx;exact⟨id',p,_,h2,rfl⟩
 refine⟨⟨by rw[h.n];simp[nd],?_,?_,?_,?_,?_,?_⟩,⟨Env.le.refl E,λ_ _ _=>V,rfl,rfl,rfl,by simp[World.setRow],?_,λb o u hu=>.inl hu,λb hb'=>.inr (hown b hb')⟩⟩
 .intro id' ob' p sz2 rows2' hob' hx;obtain⟨rows2,h2,h3⟩:=C0 hb ht hx
  have hkd:∃ob0,H[id']?=some ob0/\ob'.kind=ob0.kind:=by
   rw[Dc]at hob';cases hx':H[id']? with
   |none=>rw[hx']at hob';cases hob'
   |some ob0=>
    rw[hx']at hob';simp only[pL,rh]at hob';subst hob';exact⟨ob0,rfl,by split <;> rfl⟩
  obtain⟨ob0,hob0,hkd⟩:=hkd;have hB:=h.fH id' ob0 p sz2 rows2 hob0 h2;rw[hkd];rcases h3 with⟨rfl,rfl,rfl⟩|⟨hne,hlk⟩
  .rw[hb]at h2;cases h2
   rw[hob]at hob0;cases hob0
   obtain⟨cur0,e0,hg0,hs0,_⟩:=hB.fH;rw[hg]at hg0;cases hg0
   exact⟨by rw[ht.len];exact hB.len,hrow,cur',e,setRow_heap w _ cur cur' e _ hg,by rw[hsz];exact hs0,hc⟩
  .obtain⟨cur0,e0,hg0,hs0,hc0⟩:=hB.fH
   have hdiff:E.β id' p≠E.β id hops:=λhe=>hne (by
    have:=h.inj id' p id hops _ _ h2 hb he;exact this)
   refine⟨by rw[hlk.len];exact hB.len,hlk.row sz2 hB.row,cur0,e0,by rw[setRow_other w _ _ _ hdiff];exact hg0,hs0,?_⟩;intro i k c' hcc;obtain⟨c,h4,h5⟩:=hlk.cell i k c' hcc;obtain⟨u,hu,ho⟩:=hc0 i k c h4;refine⟨u,hu,?_⟩;rcases h5 with rfl|⟨s,r,r',rfl,rfl,hl⟩
   .exact ho
   .simp only[qO]at ho|-;rw[hl];exact ho
 .intro id1 p1 id2 p2 x y hx hy he;obtain⟨r1,h1,_⟩:=C0 hb ht (rows2':=x.2) (sz2:=x.1) (by simpa using hx);obtain⟨r2,h2,_⟩:=C0 hb ht (rows2':=y.2) (sz2:=y.1) (by simpa using hy);exact h.inj id1 p1 id2 p2 _ _ h1 h2 he
 .intro b o u hu;refine⟨?_,(h.qp b o u hu).2⟩;by_cases hbb:b=E.β id hops
  .subst hbb;unfold World.cell?;rw[setRow_heap w _ cur cur' e _ hg];simp;exact hst o u hu
  .have:=(h.qp b o u hu).1;unfold World.cell? at this|-;simp only[setRow_other w _ _ _ hbb];exact this
 .intro id' p x o u hx hu;obtain⟨r1,h1,_⟩:=C0 hb ht (rows2':=x.2) (sz2:=x.1) (by simpa using hx);obtain⟨e1,ob',e2,e3⟩:=h.sep id' p _ o u h1 hu;refine⟨e1,?_⟩;rw[Dc,e2];exact⟨_,rfl,by split <;> exact e3⟩
 .intro id' ob' hob' hk;rw[Dc]at hob';cases hx':H[id']? with
  |none=>rw[hx']at hob';cases hob'
  |some ob0=>
   rw[hx']at hob';simp only[pL,rh]at hob';have hk0:ob0.kind=2/\ob'.ty=ob0.ty:=by subst hob';revert hk;split <;> exactλh=>⟨h,rfl⟩
   obtain⟨cur0,hc0⟩:=h.ty id' ob0 hx' hk0.1;rw[hk0.2];by_cases hbb:E.β id' []=E.β id hops
   .rw[hbb]at hc0|-;rw[hg]at hc0;cases hc0
    exact⟨cur',setRow_heap w _ cur cur' _ _ hg⟩
   .exact⟨cur0,by rw[setRow_other w _ _ _ hbb];exact hc0⟩
 .intro id' ob' hob';rw[Dc]at hob';cases hx':H[id']? with
  |none=>rw[hx']at hob';cases hob'
  |some ob0=>
   rw[hx']at hob';simp only[pL,rh]at hob';have h0:=h.fz id' ob0 hx';subst hob';split
   .rename_i hid;subst hid;rw[hob]at hx';cases hx'
    obtain⟨ob2,h1,_,h2⟩:=qU hb;rw[hob]at h1;cases h1
    dsimp only;rw[Jx hops _ _ _ _ h2 ht];exact h0
   .exact h0
 .intro k hk ho;rw[setRow_other w _ _ _ (λe'=>ho ⟨id,hops,_,hb,e'.symm⟩)]
def yj(k:Nat)(cs:List C)(r:List C):List C:=r.take k++cs++r.drop (k+cs.length)
def wg(i k:Nat)(cs:List C)(rows:List (List C)):List (List C):=rows.modify i (yj k cs)
def IN{k:Nat}{r:List C}(h:k+cs.length<=r.length):(yj k cs r).length=r.length:=by
 simp[yj];omega
def Je{k:Nat}{r:List C}(h:k+cs.length<=r.length)(j:Nat):(yj k cs r)[j]?=if k<=j/\j<k+cs.length then cs[j-k]? else r[j]?:=by
 unfold yj;rw[sa];by_cases h1:j<k
 .rw[pI (by simp;omega),pZ,pD h1,pA (by omega)]
 .rw[pR (by simp;omega)];have hk:(r.take k).length=k:=by simp;omega
  rw[hk];by_cases h2:j<k+cs.length
  .rw[pI (by omega),pD ⟨by omega,h2⟩]
  .rw[pR (by omega),rM,pA (by omega)]
   congr 1
   omega
def IQ{i k:Nat}{r:List C}(hr:rows[i]?=some r)(h:k+cs.length<=r.length)(i' k':Nat):
  cellAt (wg i k cs rows) i' k'=if i=i'/\k<=k'/\k'<k+cs.length then cs[k'-k]? else cellAt rows i' k':=by
 unfold cellAt wg;rw[r5];by_cases hi:i=i'
 .subst hi;rw[hr];simp only[if_true,sO,pL,ri,true_and];rw[Je h]
 .simp[hi]
def vM(P:Program)(H:zq)(t:TypeId)(a x:C):Option zq:=
 match a,P.info? t with
 |.ref id hops sz i k,some inf=>
  match qe H id hops,H[id]? with
  |some (sz',rows),some ob=>
   match rows[i]? with
   |some r=>
    if (sz' == sz) && mj x && (x.cells.length == inf.size) && decide (k+x.cells.length<=r.length) && ((r.drop k).take x.cells.length).all zF && (ob.kind == 1 || x.cells.all jV) && (!hops.isEmpty || decide (ob.fz<=i)) && (hops.isEmpty || ob.fz == 0)
    then some (nd H id hops (wg i k x.cells)) else none
   |none=>none
  |_,_=>none
 |_,_=>none
section
variable {P:Program} {o:Oper} {ρ:Operand->C} {H:zq}
def qA.store(t:TypeId)(x y:Operand)(ho:o.op=.store t x y)(hs:vM P H t (ρ x) (ρ y)=some H'):qA P o ρ H .un H':=λw E σ hh hl K hk=>by
 have hx:=hl x (by simp[ho,Op.operands]);have hy:=hl y (by simp[ho,Op.operands]);unfold vM at hs;split at hs
 rotate_left
 .cases hs
 rename_i id hops sz i k inf ha hinf;split at hs
 rotate_left
 .cases hs
 rename_i sz' rows ob hb hob;split at hs
 rotate_left
 .cases hs
 rename_i r hr;split at hs
 rotate_left
 .cases hs
 rename_i hcond;cases hs
 simp only[pJ,rF,pY,rZ,pG]at hcond;obtain⟨⟨⟨⟨⟨⟨⟨rfl,hval⟩,hlen⟩,hfit⟩,hold⟩,hkd⟩,hfz⟩,_⟩:=hcond;obtain⟨hll,hone,hno⟩:=F3 hy hval;rw[ha]at hx;have hB:=hh.fH id ob hops sz' rows hob hb;obtain⟨cur,e,hg,hcs,hcell⟩:=hB.fH;have hrl:r.length=sz':=hB.row r (pE hr);have hil:i<rows.length:=(px.1 hr).1;have hx':σ x=.pointer (some ⟨E.β id hops,i*sz'+k,none⟩):=by generalize σ x=u at *;cases hx;rfl
 obtain⟨vs,hvs⟩:∃vs,vs=(σ y).cells.toList:=⟨_,rfl⟩;rw[<-hvs]at hll;have hvl:vs.length=(ρ y).cells.length:=hll.1.symm
 have hend:i*sz'+k+vs.length<=cur.size:=by
  have h1:(i+1)*sz'<=E.κ id hops*sz':=rz _ (rR hil hB.len);rw[rP]at h1;omega
 have hrun:=run_storeCells_at P (E.β id hops) (i*sz'+k) e vs 0 cur w hg (by simpa using hend) (λv hv=>hone v (by rw[hvs]at hv;simpa using hv));simp only[tv]at hrun;obtain⟨cur',hcur'⟩:∃cur',cur'=(cur.toList.take (i*sz'+k)++vs++cur.toList.drop (i*sz'+k+vs.length)).toArray:=⟨_,rfl⟩;rw[<-hcur']at hrun
 have hcget:∀j:Nat,cur'[j]?=if i*sz'+k<=j/\j<i*sz'+k+vs.length then vs[j-(i*sz'+k)]? else cur[j]?:=by
  intro j;rw[hcur'];simp only[s9];rw[sa];by_cases h1:j<i*sz'+k
  .rw[pI (by simp;omega),pZ,pD h1,pA (by omega),rm]
  .rw[pR (by simp;omega)];have hk':(cur.toList.take (i*sz'+k)).length=i*sz'+k:=by simp;omega
   rw[hk'];by_cases h2:j<i*sz'+k+vs.length
   .rw[pI (by omega),pD ⟨by omega,h2⟩]
   .rw[pR (by omega),rM,pA (by omega),rm]
    congr 1
    omega
 have hr':(execOp σ o).run P w=.ok .skip (w.setRow (E.β id hops) cur'):=by
  unfold execOp
  have hsz2:(σ y).cells.size=inf.size:=by
   have:vs.length=(σ y).cells.size:=by rw[hvs];simp
   omega
  simp[ho,Instr.storeAt,Instr.sureAddr,hx',storeVar,qW hinf,hsz2,<-hvs,hrun]
 rw[hr']
 have hpos:∀i' k',i'<rows.length->k'<sz'->(i*sz'+k<=i'*sz'+k'/\i'*sz'+k'<i*sz'+k+vs.length↔i=i'/\k<=k'/\k'<k+vs.length):=by
  intro i' k' hi' hk';constructor
  .rintro⟨h1,h2⟩
   have:i=i':=by
    rcases sC i i' with h|h|h
    .exfalso
     have:(i+1)*sz'<=i'*sz':=rz _ h;rw[rP]at this;omega
    .exact h
    .exfalso
     have:(i'+1)*sz'<=i*sz':=rz _ h;rw[rP]at this;omega
   subst this;omega
  .rintro⟨rfl,h1,h2⟩;omega
 have htame:DI rows (wg i k (ρ y).cells rows):=by
  refine⟨by simp[wg],?_⟩;intro i' k' s r0;rw[IQ hr hfit];split
  .rename_i hin;obtain⟨rfl,h1,h2⟩:=hin;constructor
   .intro h;have:=pG.1 hno _ (pE h);simp[zF]at this
   .intro h;simp only[cellAt,hr,ri]at h
    have hm:C.fq 2 s r0∈(r.drop k).take (ρ y).cells.length:=by
     apply pV.2
     refine⟨k'-k,?_⟩;rw[pZ,pD (by omega),rM,show k+(k'-k)=k' from by omega];exact h
    have:=hold _ hm;simp[zF]at this
  .rfl
 have hW:=hh.write hob hb htame (cur:=cur) (cur':=cur') (e:=e) ?_ hg ?_ ?_ ?_
 .exact hk _ _ E hW.1 .un hW.2
 .intro r0 hr0;obtain⟨j,hj⟩:=pV.1 hr0;unfold wg at hj;rw[r5]at hj;cases hx0:rows[j]? with
  |none=>rw[hx0]at hj;cases hj
  |some r1=>
   rw[hx0]at hj;simp only[sO,pL,rh]at hj;subst hj;by_cases hij:i=j
   .subst hij;rw[hr]at hx0;cases hx0
    rw[pD V,IN hfit];exact hrl
   .rw[pA hij];exact hB.row r1 (pE hx0)
 .rw[hcur'];simp;omega
 .intro off u hu;obtain⟨e1,ob',e2,e3⟩:=hh.sep id hops _ off u hb hu;rw[hob]at e2;cases e2
  subst e1;simp at hfz
  have hsz0:ob.sz=sz':=by
   obtain⟨ob2,h1,_,h2⟩:=qU hb;rw[hob]at h1;cases h1
   rw[qT]at h2;cases h2
   rfl
  have ft:off<i*sz':=by
   rw[hsz0]at e3;exact rG e3 (rz _ hfz)
  rw[hcget,pA (by omega)];have:=(hh.qp _ _ _ hu).1;unfold World.cell? at this;rw[hg]at this;simpa using this
 .intro i' k' c hcc;rw[IQ hr hfit]at hcc;split at hcc
  .rename_i hin;obtain⟨rfl,h1,h2⟩:=hin;obtain⟨u,hu,hlu⟩:=hll.get hcc;have hnoc:=pG.1 hno _ (pE hcc);refine⟨u,?_,(qO.loose hnoc).2 ⟨?_,hone u ?_⟩⟩
   .rw[hcget,pD (by omega),show i*sz'+k'-(i*sz'+k)=k'-k from by omega];exact hu
   .rcases hkd with hkd|hkd
    .simpa [Env.at,hkd] using hlu
    .unfold Env.at
     split
     .exact hlu.kn (hkd _ (pE hcc))
     .exact hlu
   .have:=pE hu;rw[hvs]at this;simpa using this
  .rename_i hnot;obtain⟨u,hu,hou⟩:=hcell i' k' c hcc;refine⟨u,?_,hou⟩
   have hi'k':i'<rows.length/\k'<sz':=by
    unfold cellAt at hcc;cases hx0:rows[i']? with
    |none=>rw[hx0]at hcc;cases hcc
    |some r1=>
     rw[hx0]at hcc;refine⟨(px.1 hx0).1,?_⟩;have:=hB.row r1 (pE hx0);rw[<-this];exact(px.1 hcc).1
   rw[hcget,pA]
   .exact hu
   .rw[hpos i' k' hi'k'.1 hi'k'.2,hvl];exact hnot
def zb(P:Program)(f:FuncId)(H:zq)(args:List C)(r:C)(H':zq):Prop:=
 ∀(w:World) (E:Env) (vs:Array Value),qx w E H->LL E args vs.toList->
  Calls P f vs w λe w'=>∃v E',e=.returned v/\qx w' E' H'/\L E' r v/\Grow w E H w' E' H'
def qv(P:Program)(f:FuncId):Bool:=
 match P.funcs[f]? with
 |some fn => !(fn.name == "runtime.NumGoroutine") && fn.body.isSome
 |none=>false
def fE.call(cl:Call)(ho:o.op=.call cl)(x:Operand)(hcl:cl.callee=.value x){f:FuncId}{first caps:List C}(hf:ρ x=.fn f first caps)(hcb:qv P f=true){r:C}
 (hs:zb P f H (first++(cl.args.toList.map ρ)++caps) r H'):fE P o ρ H r H':=λw E σ hh hl K hk=>by
 have h0:=hl x (by simp[ho,Op.operands,Call.operands,hcl]);rw[hf]at h0
 obtain⟨ys,zs,hv,h1,h2,h3,h4⟩:∃ys zs,σ x=.func (.func f) ys zs/\first.length=ys.size/\caps.length=zs.size/\(∀(i:Nat) c y,first[i]?=some c->ys[i]?=some y->L E c y)/\(∀(i:Nat) c y,caps[i]?=some c->zs[i]?=some y->L E c y):=by
  generalize σ x=u at *;cases h0 with
  |fn f first caps ys zs h1 h2 h3 h4=>exact⟨ys,zs,rfl,h1,h2,h3,h4⟩
 unfold qv at hcb;split at hcb
 rotate_left
 .cases hcb
 rename_i fn hfn;simp only[pJ,rE]at hcb;have hname : fn.name ≠ "runtime.NumGoroutine" := by simpa using hcb.1
 have hbody:fn.body≠none:=by intro hb;simp[hb]at hcb
 have hr:(execOp σ o).run P w=.ok (.enter f (ys++cl.args.map σ++zs)) w:=by
  unfold execOp;simp[ho,resolve,hcl,hv,Deferred.ofValue,invoke,callFunc,hfn,hname,hbody]
 rw[hr];refine(hs w E (ys++cl.args.map σ++zs) hh ?_).mono ?_
 .have e1:LL E first ys.toList:=⟨by simpa using h1,λi c y e1 e2=>h3 i c y e1 (by simpa using e2)⟩;have e2:LL E caps zs.toList:=⟨by simpa using h2,λi c y e1 e2=>h4 i c y e1 (by simpa using e2)⟩
  have e3:LL E (cl.args.toList.map ρ) (cl.args.map σ).toList:=by
   refine⟨by simp,?_⟩;intro i c y hc hy;rw[pw]at hc;rw[eD,pw]at hy;cases ha:cl.args.toList[i]? with
   |none=>rw[ha]at hc;cases hc
   |some a=>
    rw[ha]at hc hy;cases hc
    cases hy
    exact hl a (by simp[ho,Op.operands,Call.operands];right;have:=pE ha;simpa using this)
  have:=(e1.append e3).append e2;simpa using this
 .rintro e w' ⟨v,E',rfl,h5,h6,h7⟩;exact⟨v,rfl,hk v w' E' h5 h6 h7⟩
end
section
variable {P:Program} {o:Oper} {ρ:Operand->C} {H:zq}
def qA.extract(x:Operand)(n:Nat)(ho:o.op=.extract x n){vs:List C}(hx:ρ x=.fy vs){c:C}(hc:vs[n]?=some c):qA P o ρ H c H:=λw E σ hh hl K hk=>by
 have h0:=hl x (by simp[ho,Op.operands]);rw[hx]at h0
 obtain⟨ys,hy,hlen,hll⟩:∃ys,σ x=.tuple ys/\vs.length=ys.size/\∀(i:Nat) c y,vs[i]?=some c->ys[i]?=some y->L E c y:=by
  generalize σ x=u at *;cases h0 with
  |fy _ ys h1 h2=>exact⟨ys,rfl,h1,h2⟩
 have ft:n<ys.size:=by rw[<-hlen];exact(px.1 hc).1
 have hr:(execOp σ o).run P w=.ok (.value ys[n]) w:=by
  unfold execOp;simp[ho,Instr.extract,hy,ft]
 rw[hr];exact hk _ w E hh (hll n c _ hc (by simp[ft])) (qn.refl w E H)
def G8:C->Bool
 |.ref .. |.jR _|.fn ..=>true
 |_=>false
def qA.nilCheck(x:Operand)(ho:o.op=.nilCheck x)(hx:G8 (ρ x)=true):qA P o ρ H (ρ x) H:=λw E σ hh hl K hk=>by
 have h0:=hl x (by simp[ho,Op.operands])
 have hr:(execOp σ o).run P w=.ok (.value (σ x)) w:=by
  unfold execOp;generalize ρ x=c at *;generalize hu:σ x=u at *;cases h0 <;> first|(simp[G8]at hx;done)|(simp only[ho,hu];rfl)
 rw[hr];exact hk _ w E hh h0 (qn.refl w E H)
def qA.makeFunc(f:FuncId)(first caps:Array Operand)(ho:o.op=.makeFunc (.func f) first caps):qA P o ρ H (.fn f (first.toList.map ρ) (caps.toList.map ρ)) H:=λw E σ hh hl K hk=>by
 have hr:(execOp σ o).run P w=.ok (.value (.func (.func f) (first.map σ) (caps.map σ))) w:=by
  unfold execOp;simp only[ho]
  rfl
 rw[hr];refine hk _ w E hh (.fn f _ _ _ _ (by simp) (by simp) ?_ ?_) (qn.refl w E H)
 .intro i c y hc hy;rw[pw]at hc;rw[u9]at hy;cases ha:first[i]? with
  |none=>rw[ha]at hy;cases hy
  |some a=>
   rw[rm,ha]at hc;rw[ha]at hy;cases hc
   cases hy
   exact hl a (by simp[ho,Op.operands];left;exact sE ha)
 .intro i c y hc hy;rw[pw]at hc;rw[u9]at hy;cases ha:caps[i]? with
  |none=>rw[ha]at hy;cases hy
  |some a=>
   rw[rm,ha]at hc;rw[ha]at hy;cases hc
   cases hy
   exact hl a (by simp[ho,Op.operands];right;exact sE ha)
def oG(place:Nat->Option (Nat×Nat)):List C->List (Nat×C)->Option (List C)
 |cells,[]=>some cells
 |cells,(i,c)::rest=>match place i with
  |none=>none
  |some (off,size)=>if mj c && (c.cells.length == size) && decide (off+size<=cells.length) then oG place (yj off c.cells cells) rest else none
def KF:∀(vs:List Value) (off k:Nat) (cells:Array Value),off+k+vs.length<=cells.size->
  ((vs.zipIdx k).foldl (λcs (p:Value×Nat)=>cs.setIfInBounds (off+p.2) p.1) cells).size=cells.size/\
  ∀j:Nat,((vs.zipIdx k).foldl (λcs (p:Value×Nat)=>cs.setIfInBounds (off+p.2) p.1) cells)[j]?=if off+k<=j/\j<off+k+vs.length then vs[j-(off+k)]? else cells[j]?
 |[],off,k,cells,h=>⟨rfl,λj=>by rw[pA (by simp)];rfl⟩
 |v::vs,off,k,cells,h=>by
  simp only[List.zipIdx_cons,u4,r8]at h|-;have ih:=KF vs off (k+1) (cells.setIfInBounds (off+k) v) (by simp;omega);refine⟨by rw[ih.1];simp,?_⟩;intro j;rw[ih.2 j];by_cases h1:off+k=j
  .subst h1;rw[pA (by omega),pD (by omega),eX];simp;omega
  .by_cases h2:off+(k+1)<=j/\j<off+(k+1)+vs.length
   .rw[pD h2,pD (by omega),show j-(off+k)=(j-(off+(k+1)))+1 from by omega];simp
   .rw[pA h2,pA (by omega),eX];simp[h1]
def Dd{E:Env}{place:Nat->Option (Nat×Nat)}{ρ:Operand->C}{σ:Operand->Value}:∀(parts:List (Nat×Operand)) (cs:List C) (arr:Array Value),LL E cs arr.toList->(∀u∈arr,u.oneCell'=true)->cs.all zF=true->
  (∀p∈parts,L E (ρ p.2) (σ p.2))->∀cs',oG place cs (parts.map λp=>(p.1,ρ p.2))=some cs'->
  ∃arr',Instr.fill place arr (parts.map λp=>(p.1,σ p.2))=some arr'/\LL E cs' arr'.toList/\(∀u∈arr',u.oneCell'=true)/\cs'.all zF=true
 |[],cs,arr,hl,h1,hno,_,cs',h=>by
  simp only[List.map_nil,oG,rh]at h;subst h;exact⟨arr,rfl,hl,h1,hno⟩
 |(i,x)::rest,cs,arr,hl,h1,hno,hp,cs',h=>by
  simp only[tp,oG]at h;split at h
  .cases h
  .rename_i off size hpl;split at h
   .rename_i hcond;simp only[pJ,rF,pY]at hcond;obtain⟨⟨hv,hsz⟩,hfit⟩:=hcond;have hx:=hp (i,x) (by simp);obtain⟨hll,hone,hnoc⟩:=F3 hx hv;have hlen:(σ x).cells.size=size:=by have:=hll.1;simp at this;omega
    have hal:arr.size=cs.length:=by have:=hl.1;simp at this;omega
    obtain⟨vs,hvs⟩:∃vs,vs=(σ x).cells.toList:=⟨_,rfl⟩;have hvl:vs.length=size:=by rw[hvs];simpa using hlen
    have hfold:=KF vs off 0 arr (by omega)
    have hfe:(σ x).cells.zipIdx.foldl (λcs (p:Value×Nat)=>cs.setIfInBounds (off+p.2) p.1) arr=(vs.zipIdx 0).foldl (λcs (p:Value×Nat)=>cs.setIfInBounds (off+p.2) p.1) arr:=by
     rw[<-Array.foldl_toList,Array.toList_zipIdx,hvs]
    obtain⟨arr2,harr2⟩:∃arr2,arr2=(vs.zipIdx 0).foldl (λcs (p:Value×Nat)=>cs.setIfInBounds (off+p.2) p.1) arr:=⟨_,rfl⟩;rw[<-harr2]at hfold hfe;have hcl:(ρ x).cells.length=size:=hsz
    have hl2:LL E (yj off (ρ x).cells cs) arr2.toList:=by
     refine⟨by rw[IN (by omega)];simp[hfold.1,hal],?_⟩;intro j c y hc hy;rw[Je (by omega)]at hc;rw[rm,hfold.2 j]at hy;simp only[tv]at hy;split at hc
     .rename_i hin;rw[pD (by omega)]at hy;exact hll.2 _ c y hc (by rw[<-hvs];exact hy)
     .rename_i hin;rw[pA (by omega)]at hy;exact hl.2 j c y hc (by simpa using hy)
    have hone2:∀u∈arr2,u.oneCell'=true:=by
     intro u hu;obtain⟨j,hj⟩:=ud.1 hu;rw[hfold.2 j]at hj;split at hj
     .have:=pE hj;rw[hvs]at this;exact hone u (by simpa using this)
     .exact h1 u (sE hj)
    have hno2:(yj off (ρ x).cells cs).all zF=true:=by
     rw[pG];intro c hc;unfold yj at hc;simp only[pS]at hc;rcases hc with(hc|hc)|hc
     .exact pG.1 hno c (pF hc)
     .exact pG.1 hnoc c hc
     .exact pG.1 hno c (tt hc)
    obtain⟨arr',e1,e2,e3,e4⟩:=Dd rest _ arr2 hl2 hone2 hno2 (λp hpm=>hp p (by simp[hpm])) cs' h;refine⟨arr',?_,e2,e3,e4⟩;simp only[tp,Instr.fill,hpl];rw[pA (by simp[hlen];omega),hfe];exact e1
   .cases h
def EI(P:Program)(t:TypeId)(parts:List (Nat×C)):Option (List C):=
 match mY P t,P.underlying t with
 |some z,some (.array _ e)=>
  match P.info? e with
  |some ie=>oG (λi=>some (i*ie.size,ie.size)) z parts
  |none=>none
 |some z,some (.struct fields)=>
  match fields.toList.mapM (λf=>(P.info? f.type).map λi=>(f.offset,i.size)) with
  |some places=>oG (places.toArray[·]?) z parts
  |none=>none
 |_,_=>none
def qA.build(t:TypeId)(parts:Array (Nat×Operand))(ho:o.op=.build t parts)(hb:EI P t (parts.toList.map λp=>(p.1,ρ p.2))=some cs):qA P o ρ H (.agg cs) H:=λw E σ hh hl K hk=>by
 have hp:∀p∈parts.toList,L E (ρ p.2) (σ p.2):=λp hpm=>hl p.2 (by
  simp only[ho,Op.operands];exact(fe).2 (rp.2 ⟨p,hpm,rfl⟩))
 have main:∃arr,P.built t (parts.map λ(i,x)=>(i,σ x)).toList=some arr/\LL E cs arr.toList/\(∀u∈arr,u.oneCell'=true):=by
  have e0:(parts.map λ(i,x)=>(i,σ x)).toList=parts.toList.map λp=>(p.1,σ p.2):=by simp
  rw[e0];unfold EI at hb;split at hb
  .rename_i z n e hz hu;split at hb
   .rename_i ie hie;obtain⟨it,zv,h1,h2,h3,h4,h5,h6,h7⟩:=ko hz E;obtain⟨arr,a1,a2,a3,a4⟩:=Dd parts.toList z zv.cells h3 h4 h6 hp cs hb;exact⟨arr,by simp only[Program.built,h1,hu,h2,hie];exact a1,a2,a3⟩
   .cases hb
  .rename_i z fields hz hu;split at hb
   .rename_i places hpl;obtain⟨it,zv,h1,h2,h3,h4,h5,h6,h7⟩:=ko hz E;obtain⟨arr,a1,a2,a3,a4⟩:=Dd parts.toList z zv.cells h3 h4 h6 hp cs hb;exact⟨arr,by simp only[Program.built,h1,hu,h2,hpl];exact a1,a2,a3⟩
   .cases hb
  .cases hb
 obtain⟨arr,h1,h2,h3⟩:=main
 have hr:(execOp σ o).run P w=.ok (.value (.agg arr)) w:=by
  unfold execOp;simp only[ho,Sem.run_bind,run_build w t _ arr h1,Result.andThen_ok]
  rfl
 rw[hr];exact hk _ w E hh (.agg cs arr (by simpa using h2.1) (λi c y e1 e2=>h2.2 i c y e1 (by simpa using e2)) h3) (qn.refl w E H)
def qA.len(cl:Call)(ho:o.op=.call cl)(hcl:cl.callee=.builtin .len)(x:Operand)(hx:cl.args= #[x])(ht:cl.argTypes= #[t])(hu:P.underlying t=some (.slice e))
 {n:Nat}(hn:Fo (ρ x)=some n):qA P o ρ H (.v (.int .i64 n)) H:=λw E σ hh hl K hk=>by
 have h0:=hl x (by simp[ho,Op.operands,Call.operands,hcl,hx])
 have hv:∃a cap,σ x=.slice a n cap:=by
  generalize ρ x=c at *;generalize σ x=u at *;cases h0 <;> first|(simp[Fo]at hn;done)|(simp only[Fo,rh]at hn;subst hn;exact⟨_,_,rfl⟩)
 obtain⟨a,cap,hv⟩:=hv
 have hr:(execOp σ o).run P w=.ok (.value (.int .i64 n)) w:=by
  unfold execOp;simp[ho,resolve,hcl,hx,ht,invoke,builtin,Builtin.len_,hv,run_underlying hu,goInt]
 rw[hr];exact hk _ w E hh (.v _ V) (qn.refl w E H)
def o7(P:Program)(t:TypeId)(cs:List C)(off:Nat):Option C:=
 match P.underlying t,P.info? t with
 |some d,some i=>if B9 d then (if decide (off+i.size<=cs.length) then some (.agg ((cs.drop off).take i.size)) else none) else cs[off]?
 |_,_=>none
def BT{ys:Array Value}(hll:LL E cs ys.toList)(h1:∀y∈ys,y.oneCell'=true)(hc:o7 P t cs off=some c):
  ∃y,(part t ys off).run P w=.ok y w/\L E c y:=by
 unfold o7 at hc;split at hc
 .rename_i d i hd hi;split at hc
  .rename_i hag;split at hc
   .rename_i hlen;simp only[pY]at hlen;cases hc
    have hy:=hll.1;simp at hy;refine⟨.agg (ys.extract off (off+i.size)),by simp[part,wC hd,hag,qW hi],.agg _ _ (by simp;omega) ?_ ?_⟩
    .intro k c y hc hy';rw[pZ]at hc;split at hc
     .rename_i hk;rw[rM]at hc;rw[Array.getElem?_extract]at hy';split at hy'
      .exact hll.2 _ c y hc (by simpa using hy')
      .cases hy'
     .cases hc
    .intro y hym;obtain⟨k,hk⟩:=ud.1 hym;rw[Array.getElem?_extract]at hk;split at hk
     .exact h1 y (sE hk)
     .cases hk
   .cases hc
  .rename_i hag;obtain⟨y,hy,hly⟩:=hll.get hc;rw[rm]at hy;exact⟨y,by simp[part,wC hd,hag,hy],hly⟩
 .cases hc
def qA.field(t:TypeId)(x:Operand)(f:Nat)(ho:o.op=.field t x f){fs:Array Field}{fd:Field}(ht:P.underlying t=some (.struct fs))(hf:fs[f]?=some fd){cs:List C}(hx:ρ x=.agg cs){c:C}
 (hc:o7 P fd.type cs fd.offset=some c):qA P o ρ H c H:=λw E σ hh hl K hk=>by
 have h0:=hl x (by simp[ho,Op.operands]);rw[hx]at h0
 obtain⟨ys,hy,hll,h1⟩:∃ys,σ x=.agg ys/\LL E cs ys.toList/\∀y∈ys,y.oneCell'=true:=by
  generalize σ x=u at *;cases h0 with
  |agg _ ys h1 h2 h3=>exact⟨ys,rfl,⟨by simpa using h1,λi c y e1 e2=>h2 i c y e1 (by simpa using e2)⟩,h3⟩
 obtain⟨y,hr0,hly⟩:=BT (w:=w) hll h1 hc
 have hr:(execOp σ o).run P w=.ok (.value y) w:=by
  unfold execOp;simp[ho,Instr.field,run_underlying ht,hf,hy,asAgg,hr0]
 rw[hr];exact hk _ w E hh hly (qn.refl w E H)
def qA.S8(t:TypeId)(x y:Operand)(ho:o.op=.index t x y){n:Nat}(ht:P.underlying t=some (.array n e))(hi:P.info? e=some i)(hx:ρ x=.agg cs)
 {k:IntKind}{j:Int}(hy:ρ y=.v (.int k j))(h0:0<=j)(h1:j<n){c:C}(hc:o7 P e cs (j.toNat*i.size)=some c):qA P o ρ H c H:=λw E σ hh hl K hk=>by
 have hlx:=hl x (by simp[ho,Op.operands]);have hly:=hl y (by simp[ho,Op.operands]);rw[hx]at hlx;rw[hy]at hly
 obtain⟨ys,hyx,hll,hone⟩:∃ys,σ x=.agg ys/\LL E cs ys.toList/\∀y∈ys,y.oneCell'=true:=by
  generalize σ x=u at *;cases hlx with
  |agg _ ys h1 h2 h3=>exact⟨ys,rfl,⟨by simpa using h1,λi c y e1 e2=>h2 i c y e1 (by simpa using e2)⟩,h3⟩
 have hyv:σ y=.int k j:=by generalize σ y=u at *;cases hly;rfl
 obtain⟨y',hr0,hly'⟩:=BT (w:=w) hll hone hc
 have hr:(execOp σ o).run P w=.ok (.value y') w:=by
  unfold execOp;simp[ho,Instr.index,asIntOf,hyv,run_underlying ht,hyx,h0,h1,qW hi,hr0]
 rw[hr];exact hk _ w E hh hly' (qn.refl w E H)
end
section
variable {P:Program} {o:Oper} {ρ:Operand->C} {H:zq}
def xz(H:zq):C->Option (Nat×List (List C))
 |.fq o sz rows=>if o == 0 || o == 1 then some (sz,rows) else none
 |.sl id hops sz lo len _=>match H[id]?,qe H id hops with
  |some ob,some (sz',rows)=>if (sz' == sz) && (ob.kind == 2) && decide (lo+len<=rows.length) && ((rows.drop lo).take len).all (·.all zF) then some (sz,(rows.drop lo).take len) else none
  |_,_=>none
 |_=>none
structure vd(E:Env)(sz:Nat)(rows:List (List C))(vals:List Value):Prop where
 len:vals.length=rows.length*sz
 row:∀r∈rows,r.length=sz
 cell:∀i k c,cellAt rows i k=some c->∃u,vals[i*sz+k]?=some u/\L E.shut c u
 one:∀u∈vals,u.oneCell'=true
def CV(hrow:∀r∈rows,r.length=sz){i k:Nat}(h:cellAt rows i k=some c):i<rows.length/\k<sz:=by
 unfold cellAt at h;cases hx:rows[i]? with
 |none=>rw[hx]at h;cases h
 |some r=>
  rw[hx]at h;refine⟨(px.1 hx).1,?_⟩;rw[<-hrow r (pE hx)];exact(px.1 h).1
def kz(hrow:∀r∈rows,r.length=sz){i k:Nat}(hi:i<rows.length)(hk:k<sz):∃c,cellAt rows i k=some c:=by
 have hr:rows[i]?=some rows[i]:=by simp[hi]
 have hl:=hrow _ (pE hr);exact⟨rows[i][k]'(by omega),by simp only[cellAt,hr,ri];exact pq (by omega)⟩
def DW{n j:Nat}(h:j<n*sz):j / sz<n/\j%sz<sz/\j / sz*sz+j%sz=j:=by
 have hsz:0<sz:=by rcases uc sz with rfl|h' <;> simp_all
 refine⟨Nat.div_lt_of_lt_mul (by rw[uk];exact h),fp _ hsz,?_⟩;rw[uk];exact Nat.div_add_mod j sz
def vd.append{vals vals':List Value}(h:vd E sz rows vals)(h':vd E sz rows' vals'):vd E sz (rows++rows') (vals++vals') where
 len:=by rw[rB,rB,h.len,h'.len,rP]
 row r hr:=by rcases pS.1 hr with hr|hr;exact h.row r hr;exact h'.row r hr
 cell i k c hc:=by
  by_cases hi:i<rows.length
  .have hc':cellAt rows i k=some c:=by unfold cellAt at hc|-;rw[pI hi]at hc;exact hc
   obtain⟨u,hu,hl⟩:=h.cell i k c hc';exact⟨u,by rw[pI ((px.1 hu).1)];exact hu,hl⟩
  .have hc':cellAt rows' (i-rows.length) k=some c:=by unfold cellAt at hc|-;rw[pR (by omega)]at hc;exact hc
   obtain⟨u,hu,hl⟩:=h'.cell _ k c hc';refine⟨u,?_,hl⟩;have hge:rows.length*sz<=i*sz:=rz _ (by omega);rw[pR (by rw[h.len];omega),h.len];have:i*sz+k-rows.length*sz=(i-rows.length)*sz+k:=by rw[Nat.sub_mul];omega
   rw[this];exact hu
 one u hu:=by rcases pS.1 hu with hu|hu;exact h.one u hu;exact h'.one u hu
def xJ(h:qa w E H)(hl:L E c y)(hr:xz H c=some (sz,rows)):
  (rows=[]/\y=.slice none 0 0)\/∃a cap vals,y=.slice (some a) rows.length cap/\rows.length<=cap/\vd E sz rows vals/\(∀(j:Nat) u,vals[j]?=some u->w.cell? (a.add j)=some u):=by
 cases hl with
 |xA o sz' ho a=>
  simp only[xz]at hr;split at hr
  .cases hr
   cases a with
   |none=>exact .inl ⟨rfl,rfl⟩
   |some a=>exact .inr ⟨a,0,[],rfl,pN _,⟨by simp,by simp,by simp[cellAt],by simp⟩,by simp⟩
  .cases hr
 |fq o sz' rows' b off cap us ho hc hsz hst hL=>
  simp only[xz]at hr;split at hr
  .cases hr
   right
   have key:∀j,j<rows.length*sz->∃c,cellAt rows (j / sz) (j%sz)=some c/\E.St b (off+j)=some (us (j / sz) (j%sz)):=by
    intro j hj;obtain⟨h1,h2,h3⟩:=DW hj;obtain⟨c,hcc⟩:=kz hsz h1 h2;refine⟨c,hcc,?_⟩;have hr0:rows[j / sz]?=some rows[j / sz]:=by simp[h1]
    have:=hst (j / sz) _ (j%sz) c hr0 (by unfold cellAt at hcc;rw[hr0]at hcc;exact hcc);rw[sS,h3]at this;exact this
   refine⟨_,cap,(List.range (rows.length*sz)).map (λj=>us (j / sz) (j%sz)),rfl,hc,⟨by simp,hsz,?_,?_⟩,?_⟩
   .intro i k c hcc;obtain⟨h1,h2⟩:=CV hsz hcc;have hr0:rows[i]?=some rows[i]:=by simp[h1]
    have ft:i*sz+k<rows.length*sz:=by
     have:(i+1)*sz<=rows.length*sz:=rz _ h1;rw[rP]at this;omega
    have e1:(i*sz+k) / sz=i:=by rw[uk,Nat.mul_add_div (by omega),Nat.div_eq_of_lt h2];rfl
    have e2:(i*sz+k)%sz=k:=by rw[uk,fk,ez h2]
    refine⟨us i k,by simp[ft,e1,e2],hL i _ k c hr0 (by unfold cellAt at hcc;rw[hr0]at hcc;exact hcc)⟩
   .intro u hu;obtain⟨j,hj,rfl⟩:=rp.1 hu;obtain⟨c,_,hs⟩:=key j (by simpa using hj);exact(h.qp _ _ _ hs).2
   .intro j u hj;rw[pw]at hj;cases hjr:(List.range (rows.length*sz))[j]? with
    |none=>rw[hjr]at hj;cases hj
    |some j'=>
     rw[hjr]at hj;obtain⟨hjlt,hj'⟩:=px.1 hjr;simp at hj' hjlt;subst hj';cases hj
     obtain⟨c,_,hs⟩:=key j hjlt;rw[xa];exact(h.qp _ _ _ hs).1
  .cases hr
 |sl id hops sz' lo len full cap hn hlen hf hf'=>
  simp only[xz]at hr;split at hr
  rotate_left
  .cases hr
  rename_i ob sz2 rows2 hob hb;split at hr
  rotate_left
  .cases hr
  rename_i hcond;simp only[pJ,rF,pY,pG]at hcond;obtain⟨⟨⟨rfl,hkd⟩,hfit⟩,hno⟩:=hcond;cases hr
  right
  have hB:=h.fH id ob hops _ rows2 hob hb;obtain⟨cur,e,hg,hcs,hcell⟩:=hB.fH;have hrl:((rows2.drop lo).take len).length=len:=by simp;omega
  have hsub:∀i k,cellAt ((rows2.drop lo).take len) i k=if i<len then cellAt rows2 (lo+i) k else none:=by
   intro i k;unfold cellAt;rw[pZ];split
   .rw[rM]
   .rfl
  have hrow:∀r∈(rows2.drop lo).take len,r.length=sz:=λr hr=>hB.row r (tt (pF hr))
  have key:∀j,j<len*sz->∃c u,cellAt ((rows2.drop lo).take len) (j / sz) (j%sz)=some c/\cur[lo*sz+j]?=some u/\L E.shut c u/\u.oneCell'=true:=by
   intro j hj;obtain⟨h1,h2,h3⟩:=DW hj;obtain⟨c,hcc⟩:=kz hrow (by rw[hrl];exact h1) h2;have hcc2:=hcc;rw[hsub,pD h1]at hcc2;obtain⟨u,hu,ho⟩:=hcell _ _ c hcc2
   have hnc:zF c=true:=by
    unfold cellAt at hcc;cases hx:((rows2.drop lo).take len)[j / sz]? with
    |none=>rw[hx]at hcc;cases hcc
    |some r=>
     rw[hx]at hcc;exact hno r (pE hx) c (pE hcc)
   rw[qO.loose hnc]at ho;refine⟨c,u,hcc,?_,by simpa [Env.at,hkd] using ho.1,ho.2⟩;have:(lo+j / sz)*sz+j%sz=lo*sz+j:=by rw[rP];omega
   rw[<-this];exact hu
  have hlen2:len=((rows2.drop lo).take len).length:=hrl.symm;refine⟨_,cap,(List.range (len*sz)).map (λj=>cur.getD (lo*sz+j) undef),by rw[<-hlen2],by rw[<-hlen2];exact hlen,⟨by simp[hrl],hrow,?_,?_⟩,?_⟩
  .intro i k c hcc;obtain⟨h1,h2⟩:=CV hrow hcc;rw[hrl]at h1
   have ft:i*sz+k<len*sz:=by
    have:(i+1)*sz<=len*sz:=rz _ h1;rw[rP]at this;omega
   obtain⟨c',u,h3,h4,h5,_⟩:=key _ ft;have e1:(i*sz+k) / sz=i:=by rw[uk,Nat.mul_add_div (by omega),Nat.div_eq_of_lt h2];rfl
   have e2:(i*sz+k)%sz=k:=by rw[uk,fk,ez h2]
   rw[e1,e2,hcc]at h3;cases h3
   refine⟨u,?_,h5⟩;simp only[pw,sR ft,pL,rI,h4,rO]
  .intro u hu;obtain⟨j,hj,rfl⟩:=rp.1 hu;obtain⟨c,u,_,h4,_,h6⟩:=key j (by simpa using hj);simpa [rI,h4] using h6
  .intro j u hj;rw[pw]at hj;cases hjr:(List.range (len*sz))[j]? with
   |none=>rw[hjr]at hj;cases hj
   |some j'=>
    rw[hjr]at hj;obtain⟨hjlt,hj'⟩:=px.1 hjr;simp at hj' hjlt;subst hj';obtain⟨c,u',_,h4,_,_⟩:=key j hjlt;simp only[pL,rI,h4,rO,rh]at hj;subst hj;rw[xa];unfold World.cell?;rw[hg];simpa using h4
 |_=>simp[xz]at hr
end
abbrev mL(l:List C):List C:=.za::.za::.za::.za::.za::.za::.za::.za::l
abbrev jp(l:List C):List C:=mL (mL (mL (mL l)))
abbrev tf:List C:=[.ref 5 [] 8 0 0,.ref 6 [] 44 0 0]
abbrev tg:List C:=[.ref 0 [] 8 0 0,.ref 1 [] 44 0 0]
def zz(h:q):H=H/\q:=⟨rfl,h⟩
def dd(h:q)(e:q→p:=by intro zh;(conv=>whnf);(try apply zz;conv=>whnf);exact zh):p:=e h
def ya(h:p):(true=true→p)/\(true=false→q):=⟨λ_=>h,λh=>nomatch h⟩
def yb(h:q):(false=true→p)/\(false=false→q):=⟨λh=>(nomatch h),λ_=>h⟩
def ta(n:p:=by (conv=>whnf);(repeat (refine⟨rfl,?_⟩;(conv=>whnf)));exact trivial):p:=n
def tc(h:q)(e:q->g:=by intro zh;(repeat (refine⟨rfl,?_⟩;(conv=>whnf)));exact zh):g:=e h
def td(h:q)(e:q->g:=by intro zh;(repeat ((first|apply ya|apply yb);(conv=>whnf);(try apply zz;conv=>whnf)));exact zh):g:=e h
def te{l:List α}{k:Nat}{x:α}{P:α->Prop}(hg:l[k]?=some x)(h:q)(e:q->P x:=by intro zh;(conv=>whnf);(try apply zz;conv=>whnf);exact zh):0<=(k:Int)/\∃r,l[(k:Int).toNat]?=some r/\P r:=⟨eZ k,x,hg,e h⟩
def uA{a b s:Prop}(h:q)(n:b->False:=by intro h;first|(simp[hpc]at h;done)|(have h:=pC h;omega)|(have h:=pB h;omega))(e:q->p:=by intro zh;(conv=>whnf);(try apply zz;conv=>whnf);exact zh):(a->p)/\(b->s):=⟨λ_=>e h,λx=>(n x).elim⟩
def uB{a b s:Prop}(h:q)(n:a->False:=by intro h;first|(simp[hpc]at h;done)|(have h:=pC h;omega)|(have h:=pB h;omega))(e:q->s:=by intro zh;(conv=>whnf);(try apply zz;conv=>whnf);exact zh):(a->p)/\(b->s):=⟨λx=>(n x).elim,λ_=>e h⟩
def uC(h:q)(e:q->g:=by intro zh;(first|apply ya|apply yb);(conv=>whnf);(try apply zz;conv=>whnf);exact zh):g:=e h
def uD(h:q)(e:q->g:=by intro zh;(conv=>whnf);(refine⟨λh=>absurd h (by simp),λ_=>?_⟩);(conv=>whnf);(try apply zz;conv=>whnf);(refine⟨by simp,?_⟩);(conv=>whnf);exact zh):g:=e h
def uE(h:q)(e:q->g:=by intro zh;refine .inl ⟨⟨false,[],[],[]⟩,by kernel_rfl,?_⟩;(conv=>whnf);exact zh):g:=e h
def uF{a b s:Prop}(h:q)(n:b->False:=by intro h;exact absurd h (by simp;omega))(e:q->p:=by intro zh;(conv=>whnf);(try apply zz;conv=>whnf);exact zh):(a->p)/\(b->s):=⟨λ_=>e h,λx=>(n x).elim⟩
def uG(h:q)(e:q->g:=by intro zh;refine⟨λh=>absurd h (by simp),λ_=>?_⟩;(conv=>whnf);(try apply zz;conv=>whnf);exact zh):g:=e h
def uH(h:q)(e:q->g:=by intro zh;(conv=>whnf);exact zh):g:=e h
def uI(e:g:=by exact⟨.inl V,_,.refl _,rfl⟩):g:=e
def uJ(e:g:=by exact⟨.inl V,_,.refl _,rfl,rfl⟩):g:=e
def uK(n:p->q:=by intro h;dsimp only at h;omega):p->q:=n
def uL(n:p:=by dsimp only;omega):p:=n
def uM(n:p:=by (try dsimp only);(repeat' split) <;> omega):p:=n
def uN{b b2:Bool}(h:b=b2):some (C.v (Value.bool b))=some (C.v (Value.bool b2)):=sH (λb=>some (C.v (Value.bool b))) h
def uO(n:p:=by exact⟨tm.listen,tm.word,tm.link,tm.host,tm.path,tm.d0,tm.d1,tm.cfg,tm.AH⟩):p:=n
def uP(n:p:=by exact⟨tm.listen,tm.word,tm.link,tm.host,tm.path,tm.d0,tm.d1,tm.cfg,(λh=>absurd ((show m.op.kind=6 from h).symm.trans hk) (by decide))⟩):p:=n
def uQ(n:p:=by show _::_::_::_::_::zL _ ⟨1,0,5,_,0⟩::zL _ ⟨1,0,2,_,0⟩::zL _ ⟨1,0,3,_,0⟩::_=_;rw[zD (enc:=zt) (λ_=>V),zD (enc:=zy) (λ_=>V),zD (enc:=zx) (λ_=>V)];rfl):p:=n
def uR(n:p:=by (show zJ _ _::zJ _ _::zJ _ ⟨1,0,5,_,0⟩::zJ _ ⟨1,0,2,_,0⟩::zJ _ ⟨1,0,3,_,0⟩::_=_);(rw[zI (enc:=zt) (λ_=>V),zI (enc:=zy) (λ_=>V),zI (enc:=zx) (λ_=>V)]);rfl):p:=n
def uS(n:p:=by (show zL _ _::zL _ _::zL _ ⟨1,0,5,_,0⟩::zL _ ⟨1,0,2,_,0⟩::zL _ ⟨1,0,3,_,0⟩::_=_);(rw[zD (enc:=zt) (λ_=>V),zD (enc:=zy) (λ_=>V),zD (enc:=zx) (λ_=>V)]);rfl):p:=n
def uT(n:p:=by rw[h];decide):p:=n
def uU(n:p:=by simp[ho,Op.operands]):p:=n
def uV(n:p:=by simp[ho,Op.operands,Call.operands,ht.callee,ht.args]):p:=n
def uW(n:p:=by simpa using h):p:=n
def uX(n:p:=by simpa using e2):p:=n
def uY(n:p:=by rw[hx];exact rj hk):p:=n
def uZ(n:p:=by simpa using h1):p:=n
def tA(n:p:=by rw[hs.heap.n];exact hs.base):p:=n
def tB(n:p:=by show zJ _ _::zJ _ _::zJ _ ⟨1,0,5,_,0⟩::zJ _ ⟨1,0,2,_,0⟩::zJ _ ⟨1,0,3,_,0⟩::_=_;rw[zI (enc:=zt) (λ_=>V),zI (enc:=zy) (λ_=>V),zI (enc:=zx) (λ_=>V)];rfl):p:=n
def tD(n:p:=by show _::_::_::_::_::zL _ ⟨1,0,1,_,0⟩::_=_;rw[zD (enc:=zA) (λ_=>V)];rfl):p:=n
def tE(n:p:=by rw[<-hh.n];exact hi):p:=n
def tG(n:p:=by dsimp only;omega):p:=n
def tH(n:p:=by show 0+1<=1;decide):p:=n
def tI(n:p:=by rw[hg];exact rj hj):p:=n
def tJ(n:p:=by rw[he];exact rj hn):p:=n
def tK(n:p:=by rw[hr];exact rj hk):p:=n
def tL(n:p:=by show k+1<=maxLen;simp only[maxLen];omega):p:=n
def tM(n:p:=by simpa using h2):p:=n
def tN(n:p:=by rw[hv];exact rj hk):p:=n
def tO(n:p:=by simpa using q):p:=n
def tP(n:p:=by unfold xO;rw[pA (by simp at h1;omega)]):p:=n
def tR(n:p:=by unfold xy;rw[pA (by simp at q1;omega)]):p:=n
def tS(n:p:=by unfold xy;rw[pA (by simp at q2;omega)]):p:=n
def tT(n:p:=by unfold xO;rw[pA (by simp at h2;omega)]):p:=n
def tU(n:p:=by rw[q];decide):p:=n
def tX(n:p:=by rw[hk];decide):p:=n
def tY(n:p:=by rw[show B=0 from by simpa using h];rfl):p:=n
def tZ(n:p:=by show 2+1<=4;decide):p:=n
def hZ(n:p:=by subst e;simp[ho,Op.operands]):p:=n
def mB(n:p:=by show 3+1<=5;decide):p:=n
def mC(n:p:=by rw[hh.n];exact hi):p:=n
def mD(n:p:=by show 1+1<=2;decide):p:=n
def mE(n:p:=by show 0+1<=3;decide):p:=n
def mF(n:p:=by simpa using ft):p:=n
def mG(n:p:=by rw[hz];exact rj hn):p:=n
def mH(n:p:=by show 2+1<=3;decide):p:=n
end Go.Ab
structure zaa(q:Prop):Prop where
 o:q
def zab{p q:Prop}(h:q)(n:zaa q->p:=by intro zh;refine af (zO w m ok hl) ?_;refine⟨λ_=>dd ?_,λh=>absurd ((hs).symm.trans h:true=false) aj⟩;exact zh.o):p:=n ⟨h⟩
def zac{p q:Prop}(h:q)(n:zaa q->p:=by intro zh;refine dd ?_;refine td ?_;exact zh.o):p:=n ⟨h⟩
def zad{p q:Prop}(h:q)(n:zaa q->p:=by intro zh;(repeat (first|(refine⟨λ_=>?_,?_⟩;rotate_left 1;(focus (intro h;first|(have h:=pC h;omega)|(have h:=pB h;omega)|(simp at h;omega)));(refine dd ?_))|(refine⟨?_,λ_=>?_⟩;(focus (intro h;first|(have h:=pC h;omega)|(have h:=pB h;omega)|(simp at h;omega)));(refine dd ?_))));exact zh.o):p:=n ⟨h⟩
def zae{p q:Prop}(h:q)(n:zaa q->p:=by intro zh;((repeat (first|(refine⟨λ_=>?_,?_⟩;rotate_left 1;(focus (intro h;first|(exact absurd h aj)|(have h:=pC h;omega)|(have h:=pB h;omega)|(have h:=eq_of_beq h;omega)|(exact absurd hpc uW)));(refine dd ?_))|(refine⟨?_,λ_=>?_⟩;(focus (intro h;first|(exact absurd h aj)|(have h:=pC h;omega)|(have h:=pB h;omega)|(have h:=eq_of_beq h;omega)|(exact absurd hpc uW)));(refine dd ?_)))));exact zh.o):p:=n ⟨h⟩
def zaf{p q:Prop}(h:q)(n:zaa q->p:=by intro zh;refine⟨λh=>absurd h ah,λ_=>dd ?_⟩;refine⟨ah,uH ?_⟩;exact zh.o):p:=n ⟨h⟩
def zag{p q:Prop}(h:q)(n:zaa q->p:=by intro zh;(repeat (first|(refine⟨λ_=>?_,?_⟩;rotate_left 1;(focus (intro h;first|(exact absurd h aj)|(have h:=pC h;omega)|(have h:=pB h;omega)|(have h:=eq_of_beq h;omega)|(exact absurd (rF.2 hpc) uT)));(refine dd ?_))|(refine⟨?_,λ_=>?_⟩;(focus (intro h;first|(exact absurd h aj)|(have h:=pC h;omega)|(have h:=pB h;omega)|(have h:=eq_of_beq h;omega)|(exact absurd (rF.2 hpc) uT)));(refine dd ?_))));exact zh.o):p:=n ⟨h⟩
def zah{p q:Prop}(h:q)(n:zaa q->p:=by intro zh;(repeat (first|refine uA ?_|refine uB ?_));exact zh.o):p:=n ⟨h⟩
def zai{p q:Prop}(h:q)(n:zaa q->p:=by intro zh;(repeat (first|(refine⟨uH ?_,trivial⟩)|(refine⟨rfl,uH ?_⟩)));exact zh.o):p:=n ⟨h⟩
def zaj{p:Prop}(n:p:=by (try (refine td ?_));(refine .inl ⟨⟨false,[0,1],[0,1],[]⟩,ak,uH ?_⟩);refine tc ?_;(exact uI)):p:=n
def zak{p q:Prop}(h:q)(n:zaa q->p:=by intro zh;(repeat (first|(refine⟨λ_=>?_,?_⟩;rotate_left 1;(focus (intro h;simp at h;done));(refine dd ?_))|(refine⟨?_,λ_=>?_⟩;(focus (intro h;simp at h;done));(refine dd ?_))));exact zh.o):p:=n ⟨h⟩
def zal{p q:Prop}(h:q)(n:zaa q->p:=by intro zh;refine zU [] [oW w,oM m,⟨1,38,8,[iE],0⟩,⟨1,64,44,[iD],0⟩,oE zW,⟨1,0,5,fX w m v0 (6),0⟩,⟨1,0,2,fT m v0 g0 (g0.zC) (7),0⟩,⟨1,0,3,fP m g0 e0 (e0.head) (8) (e0.zo),0⟩,oN e0] (rx:=.agg (ir w 5)) (yJ w sw w.zd V hp) (ze (zf (ownV 1)) (ze (zf (ownG 2 _)) (ze (zf (ownE 3 _ _)) V))) V V V V V uQ V (dd ?_);refine zU [9,10,5,6,7,8] [oW w,oM m,⟨1,38,8,[iE],0⟩,⟨1,64,44,[iD],0⟩,oE zW,⟨1,0,5,fX w m v0 (6),0⟩,⟨1,0,2,fT m v0 g0 (tk) (7),0⟩,⟨1,0,3,fP m g0 e0 (hd) (8) (ac),0⟩,oN e0,⟨1,38,8,[(ir w 5)],0⟩,oM m'] (rx:=Ce e) h (ze V (ze V (ze (zf (ownV 3)) (ze (zf (ownG 4 _)) (ze (zf (ownE 5 _ _)) V))))) tB V V V (ze V (ze V (ze V (ze V (ze V (ze (zf (ownV 6)) (ze (zf (ownG 7 _)) (ze (zf (ownE 8 _ _)) V)))))))) uQ V (dd ?_);refine .inl ⟨⟨false,[0,1,2],[9,10,11],[]⟩,ak,uH ?_⟩;refine tc ?_;exact zh.o):p:=n ⟨h⟩
def zam{p q:Prop}(h:q)(n:zaa q->p:=by intro zh;(repeat (first|(refine⟨λ_=>?_,?_⟩;rotate_left 1;(focus (intro h;first|(exact absurd h aj)|(have h:=pC h;omega)|(have h:=pB h;omega)|(have h:=eq_of_beq h;omega)|(exact absurd hpc uW)));(refine dd ?_))|(refine⟨?_,λ_=>?_⟩;(focus (intro h;first|(exact absurd h aj)|(have h:=pC h;omega)|(have h:=pB h;omega)|(have h:=eq_of_beq h;omega)|(exact absurd hpc uW)));(refine dd ?_))));exact zh.o):p:=n ⟨h⟩
def zan{p q:Prop}(h:q)(n:zaa q->p:=by intro zh;refine ab func182 ?_;((repeat (first|(refine⟨λ_=>?_,?_⟩;rotate_left 1;(focus (intro h;first|(have h:=pC h;omega)|(have h:=pB h;omega)|(simp at h;omega)));(refine dd ?_))|(refine⟨?_,λ_=>?_⟩;(focus (intro h;first|(have h:=pC h;omega)|(have h:=pB h;omega)|(simp at h;omega)));(refine dd ?_)))));exact zh.o):p:=n ⟨h⟩
def zao{p q:Prop}(h:q)(n:zaa q->p:=by intro zh;refine ab func50 ?_;(refine af (zP w m ok hl) ?_);(rw[hs]);(try (refine td ?_));((repeat (first|(refine⟨λ_=>?_,?_⟩;rotate_left 1;(focus (intro h;first|(exact absurd h aj)|(have h:=pC h;omega)|(have h:=pB h;omega)|(have h:=eq_of_beq h;omega)|(exact absurd (rF.2 hpc) uT)));(refine dd ?_))|(refine⟨?_,λ_=>?_⟩;(focus (intro h;first|(exact absurd h aj)|(have h:=pC h;omega)|(have h:=pB h;omega)|(have h:=eq_of_beq h;omega)|(exact absurd (rF.2 hpc) uT)));(refine dd ?_)))));exact zh.o):p:=n ⟨h⟩
def zap{p q:Prop}(h:q)(n:zaa q->p:=by intro zh;refine .inl ⟨rfl,?_,trivial⟩;exact zh.o):p:=n ⟨h⟩
def zaq{p q:Prop}(h:q)(n:zaa q->p:=by intro zh;((repeat (first|(refine⟨λ_=>?_,?_⟩;rotate_left 1;(focus (intro h;first|(have h:=pC h;omega)|(have h:=pB h;omega)|(have h:=eq_of_beq h;omega)|(exact absurd (rF.2 hpc) uT)));(refine dd ?_))|(refine⟨?_,λ_=>?_⟩;(focus (intro h;first|(have h:=pC h;omega)|(have h:=pB h;omega)|(have h:=eq_of_beq h;omega)|(exact absurd (rF.2 hpc) uT)));(refine dd ?_)))));exact zh.o):p:=n ⟨h⟩
def zar{p q:Prop}(h:q)(n:zaa q->p:=by intro zh;refine zU [] [oW w,oM m,⟨1,38,8,[iE],0⟩,⟨1,64,44,[iD],0⟩,oE zW,⟨1,0,5,fX w m v0 (6),0⟩,⟨1,0,2,fT m v0 g0 (g0.zC) (7),0⟩,⟨1,0,3,fP m g0 e0 (e0.head) (8) (e0.zo),0⟩,⟨2,3,1,(e0.next).map Go.Hy.encI,0⟩] (rx:=.agg (ir w 5)) (yG w sw hp) (ze (zf (ownV 1)) (ze (zf (ownG 2 _)) (ze (zf (ownE 3 _ _)) V))) V V V V V uQ V (dd ?_);exact zh.o):p:=n ⟨h⟩
def zas{p q:Prop}(h:q)(n:zaa q->p:=by intro zh;refine⟨.inl V,_,(((zl.zN 7 m.end_.toNat 1 V (ge _ _) V V (.inr V) ah ah (shut_map (enc:=encI) (λ_=>V) _) (ownE 8 _ _)).trans (zl.zN 6 m.zp.toNat 1 V (gg _) V V (.inl V) ah ah eshE (ownG 7 _))).trans (zl.zN 5 m.version.toNat 3 V gv V V (.inl V) ah ah eshG (ownV 6))).trans (zl.zN 2 0 4 V V V V (.inl V) ah ah eshV (zB V)),?_⟩;exact zh.o):p:=n ⟨h⟩
def zat{p q:Prop}(h:q)(n:zaa q->p:=by intro zh;(refine⟨λq=>absurd (eq_of_beq q) an,λ_=>dd ?_⟩);exact zh.o):p:=n ⟨h⟩
def zau{p q:Prop}(h:q)(n:zaa q->p:=by intro zh;refine⟨c0,hat.ln.le,dd ?_⟩;rw[e3];refine af (Slp.qI m.word hw) ?_;refine .inr ⟨⟨[0,1,5,6,7],[0,1,7],true⟩,ak,λ_=>(ze V (ze V (ze V (ze V (ze V (ze (zf (ownV 6)) (ze (zf (ownG 7 _)) (ze (zf (ownE 8 _ _)) V)))))))),_,uH ?_,λt2 H2 h=>h⟩;refine⟨_,ge _ _,mE,uH ?_⟩;refine⟨_,ag [] (Slp.qI e0.head hh),uH ?_⟩;refine⟨_,ag [] (vc w m v0 hat.tomK 1 8 (e0.head%4294967296-1)),uH ?_⟩;(refine⟨uH ?_,trivial⟩);(refine⟨(ze V (ze V (ze V (ze V (ze V (ze (zf (ownV 6)) (ze (zf (ownG 7 _)) (ze (zf (ownE 8 _ _)) V)))))))),uH ?_⟩);exact zh.o):p:=n ⟨h⟩
def zav{p q:Prop}(h:q)(n:zaa q->p:=by intro zh;refine ab func49 ?_;(refine af (zP w m ok hl) ?_);(rw[hs]);(try (refine td ?_));((repeat (first|(refine⟨λ_=>?_,?_⟩;rotate_left 1;(focus (intro h;first|(simp[hp]at h;done)|(have h:=pC h;omega)|(have h:=pB h;omega)));(refine dd ?_))|(refine⟨?_,λ_=>?_⟩;(focus (intro h;first|(simp[hp]at h;done)|(have h:=pC h;omega)|(have h:=pB h;omega)));(refine dd ?_)))));exact zh.o):p:=n ⟨h⟩
def zaw{p q:Prop}(h:q)(n:zaa q->p:=by intro zh;(refine .inr ⟨ah,uH ?_⟩);exact zh.o):p:=n ⟨h⟩
def zax{p q:Prop}(h:q)(n:zaa q->p:=by intro zh;refine⟨.inl V,_,(((zl.zN 7 m.end_.toNat 1 V (ge _ _) V V (.inr V) ah ah (shut_map (enc:=Go.Hy.encI) (λ_=>V) _) (ownE 8 _ _)).trans (zl.zN 6 m.zp.toNat 1 V (gg _) V V (.inl V) ah ah eshE (ownG 7 _))).trans (zl.zN 5 m.version.toNat 3 V gv V V (.inl V) ah ah eshG (ownV 6))).trans (zl.zN 2 0 4 V V V V (.inl V) ah ah eshV (zB V)),?_⟩;exact zh.o):p:=n ⟨h⟩
def zay{p q:Prop}(h:q)(n:zaa q->p:=by intro zh;(repeat (first|(refine⟨λ_=>?_,?_⟩;rotate_left 1;(focus (intro h;first|(have h:=pC h;omega)|(have h:=pB h;omega)|(have h:=eq_of_beq h;omega)|(simp at h;omega)));(refine dd ?_))|(refine⟨?_,λ_=>?_⟩;(focus (intro h;first|(have h:=pC h;omega)|(have h:=pB h;omega)|(have h:=eq_of_beq h;omega)|(simp at h;omega)));(refine dd ?_))));exact zh.o):p:=n ⟨h⟩
def zaz{p q:Prop}(h:q)(n:zaa q->p:=by intro zh;refine .inl ⟨.inl V,.inr V,aq,aL,uH ?_⟩;exact zh.o):p:=n ⟨h⟩
def zaA{p q:Prop}(h:q)(n:zaa q->p:=by intro zh;refine zU [] [oW w,oM m,⟨1,38,8,[iE],0⟩,⟨1,64,44,[iD],0⟩,oE zW,⟨1,0,5,fX w m v0 (6),0⟩,⟨1,0,2,fT m v0 g0 (g0.zC) (7),0⟩,⟨1,0,3,fP m g0 e0 (e0.head) (8) (e0.zo),0⟩,oN e0] (rx:=.agg (ir w 5)) (yJ w sw w.zd V hp) (ze (zf (ownV 1)) (ze (zf (ownG 2 _)) (ze (zf (ownE 3 _ _)) V))) V V V V V uQ V (dd ?_);refine uE ?_;refine⟨a0,hat.ln.lv,dd ?_⟩;rw[e1];refine⟨_,gv,mB,dd ?_⟩;refine⟨b0,hat.ln.lg,dd ?_⟩;rw[e2];refine⟨_,gg _,mD,dd ?_⟩;refine zau ?_;exact zh.o):p:=n ⟨h⟩
def zaB{p:Prop}(n:p:=by (rw[rb]);refine uE ?_;refine⟨_,_,fE.mapUpdate (id:=1) _ _ _ _ (.inl V) underlying145 nI V V (e.zm) (λE u h=>jJ h) (qo 0) (λE u h=>jJ h),dd ?_⟩;rw[ks];(rw[hmd h5,pD h5]);exact uJ):p:=n
def zaC{p q:Prop}(h:q)(n:zaa q->p:=by intro zh;refine .inl ⟨⟨false,[0,1,2],[5,6,7],[]⟩,ak,uH ?_⟩;refine tc ?_;exact zh.o):p:=n ⟨h⟩
def zaD{p q:Prop}(h:q)(n:zaa q->p:=by intro zh;refine uF ?_;(refine te hg ?_);exact zh.o):p:=n ⟨h⟩
def zaE{p q:Prop}(h:q)(n:zaa q->p:=by intro zh;refine .inl ⟨⟨true,[2],[1],[0]⟩,ak,uH ?_⟩;refine af jq ?_;refine tc ?_;exact zh.o):p:=n ⟨h⟩
def zaF{p q:Prop}(h:q)(n:zaa q->p:=by intro zh;(repeat (first|(refine⟨λ_=>?_,?_⟩;rotate_left 1;(focus (intro h;first|(simp[hp]at h;done)|(have h:=pC h;omega)|(have h:=pB h;omega)));(refine dd ?_))|(refine⟨?_,λ_=>?_⟩;(focus (intro h;first|(simp[hp]at h;done)|(have h:=pC h;omega)|(have h:=pB h;omega)));(refine dd ?_))));exact zh.o):p:=n ⟨h⟩
def zaG{p q:Prop}(h:q)(n:zaa q->p:=by intro zh;(repeat (first|((refine ya (dd ?_)))|((refine yb (dd ?_)))));exact zh.o):p:=n ⟨h⟩
def zaH{p q:Prop}(h:q)(n:zaa q->p:=by intro zh;refine af (hp x hxm) ?_;refine⟨an,ar,dd ?_⟩;rw[e1];refine⟨_,jX ah hk,rfl,dd ?_⟩;refine zap ?_;rw[zk an,<-qZ hF hk];exact zh.o):p:=n ⟨h⟩
def zaI{p q:Prop}(h:q)(n:zaa q->p:=by intro zh;refine af (Slp.qI m.word hw) ?_;refine .inr ⟨⟨[0,1,5,6,7],[0,1],true⟩,ak,λ_=>V,_,uH ?_,λt2 H2 h=>h⟩;refine⟨_,ag [] (Slp.qI e.head hh),uH ?_⟩;refine⟨_,ag [] (vc w m v hat.tomK 1 8 (e.head%4294967296-1)),uH ?_⟩;(refine⟨uH ?_,trivial⟩);refine tc ?_;exact zh.o):p:=n ⟨h⟩
def zaJ{p q:Prop}(h:q)(n:zaa q->p:=by intro zh;show _=some (C.fy [C.agg [I w.zr,I w.current,I w.lock,lI w.pins,C.fq 0 5 ((w.zd.set m.version.toNat (xL m v0 g0 e0 tk hd ac)).map zt),lL w.zc,fJ w.counts,lR w.zn],Cm m',Ce e]);rw[<-estV,<-estG,<-estE];exact zh.o):p:=n ⟨h⟩
def zaK{p q:Prop}(h:q)(n:zaa q->p:=by intro zh;refine uF ?_;(refine te hgv ?_);exact zh.o):p:=n ⟨h⟩
def zaL{p q:Prop}(h:q)(n:zaa q->p:=by intro zh;refine ae [] (AO w.zd h.zd.1 λv hv=>jG v (h.zd.2 v hv)) ?_;refine af (kA w.zc h.zc) ?_;refine ae [] (AN w.counts h.counts.1 λr hr=>yc r (h.counts.2 r hr)) ?_;exact zh.o):p:=n ⟨h⟩
def zaM{p q:Prop}(h:q)(n:zaa q->p:=by intro zh;(refine⟨_,_,.refl _,uH ?_⟩);exact zh.o):p:=n ⟨h⟩
def zaN{p q:Prop}(h:q)(n:zaa q->p:=by intro zh;refine dd ?_;refine jC.qq (id:=10) _ _ _ _ (.inr V) underlying243 underlying3 V V V V V ?_;exact zh.o):p:=n ⟨h⟩
def zaO{p q:Prop}(h:q)(n:zaa q->p:=by intro zh;(repeat (first|(refine⟨λ_=>?_,?_⟩;rotate_left 1;(focus (intro h;first|(have h:=pC h;omega)|(have h:=pB h;omega)|(have h:=eq_of_beq h;omega)|(exact absurd (rF.2 hpc) uT)));(refine dd ?_))|(refine⟨?_,λ_=>?_⟩;(focus (intro h;first|(have h:=pC h;omega)|(have h:=pB h;omega)|(have h:=eq_of_beq h;omega)|(exact absurd (rF.2 hpc) uT)));(refine dd ?_))));exact zh.o):p:=n ⟨h⟩
def zaP{p q:Prop}(h:q)(n:zaa q->p:=by intro zh;refine dd ?_;refine jC.qq (id:=8) _ _ _ _ (.inr V) underlying243 underlying3 V V V V V ?_;exact zh.o):p:=n ⟨h⟩
def zaQ{p q:Prop}(h:q)(n:zaa q->p:=by intro zh;refine dd ?_;refine jC.qq (id:=9) _ _ _ _ (.inr V) underlying243 underlying3 V V V V V ?_;exact zh.o):p:=n ⟨h⟩
def zaR{p q:Prop}(h:q)(n:zaa q->p:=by intro zh;refine zU [] [oW w,oM m,⟨1,38,8,[iE],0⟩,⟨1,64,44,[iD],0⟩,oE zW,⟨1,0,1,(w.counts.map zA).set m.zm.toNat [C.sl (6) [] 1 0 r0.length false],0⟩,⟨2,52,1,(r0).map qD,0⟩] (rx:=.agg (iO 5 w)) (Ja w sw w.counts V hp) (ze (zf (own 1)) V) V V V V V tD V (dd ?_);refine zU [7,8,5,6] [oW w,oM m,⟨1,38,8,[iE],0⟩,⟨1,64,44,[iD],0⟩,oE zW,⟨1,0,1,(w.counts.map zA).set m.zm.toNat [C.sl (6) [] 1 0 r0.length false],0⟩,⟨2,52,1,(r1).map qD,0⟩,⟨1,38,8,[iO 5 w],0⟩,oM m'] (rx:=Ce e) h (ze V (ze V (ze (zf (own 3)) V))) dj V V V (ze V (ze V (ze V (ze V (ze V (ze (zf (own 6)) V)))))) tD V (dd ?_);refine .inl ⟨⟨false,[0,1,2],[7,8,9],[]⟩,ak,uH ?_⟩;refine tc ?_;exact zh.o):p:=n ⟨h⟩
def zaS{p q:Prop}(h:q)(n:zaa q->p:=by intro zh;(refine uE ?_);(refine⟨hat.v0,_,hat.row,uH ?_⟩);(refine⟨hat.g0,_,hat.oT,uH ?_⟩);(refine⟨hat.e0,_,hat.AF,uH ?_⟩);exact zh.o):p:=n ⟨h⟩
def zaT{p q:Prop}(h:q)(n:zaa q->p:=by intro zh;refine aa func217 ?_;refine .inl ⟨⟨true,[],[],[8]⟩,ak,uH ?_⟩;refine zU [] (hE w m m v0 g0 e0 g0.zC e0.head e0.zo [⟨1,229,2,[tg],0⟩,oE zW]) (rx:=.fy [U (Slp.vq m.word m.link),I 0]) (Slp.Gb m.word m.link hw l0 l1) V V V V V (ze V (ze V (ze (zf ownV) (ze (zf ownG) (ze (zf ownE) V))))) V V (dd ?_);refine .inl ⟨⟨true,[],[],[1]⟩,ak,uH ?_⟩;refine zU [0,1,2,3,4,5] (hE w m m v0 g0 e0 g0.zC e0.head e0.zo [⟨1,229,2,[tg],0⟩,oE zW]) (rx:=.ref 4 [] 3 m.end_.toNat 0) (vY w m v0 g0 e0 hv) (ze V (ze V (ze (zf ownV) (ze (zf ownG) (ze (zf ownE) V))))) uR V V V (ze V (ze V (ze (zf ownV) (ze (zf ownG) (ze (zf ownE) V))))) uS V (dd ?_);refine⟨_,ge,mE,dd ?_⟩;exact zh.o):p:=n ⟨h⟩
def zaU{p q:Prop}(h:q)(n:zaa q->p:=by intro zh;refine⟨.inl V,_,(zl.zN 5 m.zm.toNat 0 V gt V V (.inr V) ah (by rw[ml1,hll]) (shut_map (enc:=qD) (λ_=>V) _) (own 6)).trans (zl.zN 2 0 6 V V V V (.inl V) ah ah esh (zB V)),?_⟩;show _=some (C.fy [C.agg [I w.zr,I w.current,I w.lock,lI w.pins,lV w.zd,lL w.zc,C.fq 0 1 ((w.counts.set m.zm.toNat r1).map zA),lR w.zn],Cm m',Ce e]);rw[<-est];exact zh.o):p:=n ⟨h⟩
def zaV{p q:Prop}(h:q)(n:zaa q->p:=by intro zh;(refine af (zP w m ok hl) ?_);(rw[hs]);(try (refine td ?_));exact zh.o):p:=n ⟨h⟩
def zaW{p q:Prop}(h:q)(n:zaa q->p:=by intro zh;refine .inr ⟨ah,uH ?_⟩;exact zh.o):p:=n ⟨h⟩
def zaX{p:Prop}(n:p:=by (refine⟨h0,ft,dd ?_⟩);(rw[e1]);(refine⟨_,gt,tH,dd ?_⟩);(refine⟨k0,k1,dd ?_⟩);(refine⟨_,gx,tH,dd ?_⟩);(refine⟨k0,k1,dd ?_⟩);(refine⟨_,gx,rfl,dd ?_⟩);(rw[hst]);(refine zU [1] [⟨1,38,8,[iO 2 w],0⟩,oM ({m with pc:=21}),⟨1,0,1,(w.counts.map zA).set m.zm.toNat [C.sl 3 [] 1 0 r0.length false],0⟩,⟨2,52,1,(r0.set ((0:Int)).toNat (IntKind.u64.wrap (x+1))).map qD,0⟩,⟨1,229,2,[tg],0⟩,oE zW] (rx:=Ce (fI {m with pc:=21} 3 10 ((0:Int)))) (jn {m with pc:=21} 3 10 ((0:Int))) V V V V V (ze V (ze V (ze (zf own) V))) V V (dd ?_));exact dD):p:=n
def zaY{p q:Prop}(h:q)(n:zaa q->p:=by intro zh;refine .inl ⟨⟨true,[],[],[]⟩,ak,uH ?_⟩;exact zh.o):p:=n ⟨h⟩
def zaZ{p q:Prop}(h:q)(n:zaa q->p:=by intro zh;(refine⟨λq=>absurd (eq_of_beq q) tX,λ_=>dd ?_⟩);exact zh.o):p:=n ⟨h⟩
def za0{p:Prop}(n:p:=by refine af (zO w m ok hl) ?_;refine⟨λh=>absurd ((hs).symm.trans h:false=true) aj,λ_=>dd ?_⟩;exact zaj):p:=n
def za1{p q:Prop}(h:q)(n:zaa q->p:=by intro zh;refine zU [5,6,7,8] [oW w,oM m,⟨1,38,8,[iE],0⟩,⟨1,64,44,[iD],0⟩,oE zW,⟨1,0,5,fX w m v0 (6),0⟩,⟨1,0,2,fT m v0 g0 (tk) (7),0⟩,⟨1,0,3,fP m g0 e0 (hd) (8) (ac),0⟩,⟨2,3,1,(e0.next).map Go.Hy.encI,0⟩,⟨1,38,8,[(ir w 5)],0⟩] (rx:=.fy [.agg (ir w 5),Cm m',Ce e]) h (ze (zf (ownV 1)) (ze (zf (ownG 2 _)) (ze (zf (ownE 3 _ _)) V))) cZ V V V (ze V (ze V (ze V (ze V (ze V (ze (zf (ownV 6)) (ze (zf (ownG 7 _)) (ze (zf (ownE 8 _ _)) V)))))))) uQ V (dd ?_);refine .inl ⟨⟨false,[0,1,2],[10,11,12],[]⟩,ak,uH ?_⟩;refine tc ?_;exact zh.o):p:=n ⟨h⟩
def za2{p q:Prop}(h:q)(n:zaa q->p:=by intro zh;rw[m8];refine uF ?_;refine .inr ⟨⟨[4,7],[0],false⟩,ak,λh=>absurd h aj,_,uH ?_,λt2 H2 h=>h⟩;(refine te hgr ?_);exact zh.o):p:=n ⟨h⟩
def za3{p q:Prop}(h:q)(n:zaa q->p:=by intro zh;refine zac ?_;(refine⟨bS,_,gq,dd ?_⟩);(refine⟨rfl,.inr V,bN,ck,dd ?_⟩);(refine .inl ⟨rfl,?_,trivial⟩);exact zh.o):p:=n ⟨h⟩
def za4{p q:Prop}(h:q)(n:zaa q->p:=by intro zh;refine dd ?_;refine⟨_,pH ft,rfl,?_⟩;refine dd ?_;rw[rb];refine uE ?_;refine⟨_,pH ft,aP,?_⟩;refine dd ?_;refine⟨rfl,.inr V,aR,aS,dd ?_⟩;refine⟨_,pH ft,rfl,?_⟩;exact zh.o):p:=n ⟨h⟩
def za5{p q:Prop}(h:q)(n:zaa q->p:=by intro zh;refine⟨.inr V,cI,cJ,uH ?_⟩;refine zai ?_;exact zh.o):p:=n ⟨h⟩
def za6{p q:Prop}(h:q)(n:zaa q->p:=by intro zh;refine zar ?_;(refine .inl ⟨⟨false,[1,3,6,8,11,13],[1,5,6,9],[]⟩,ak,uH ?_⟩);(refine⟨hat.v0,hat.ln.lv,?_⟩);(refine dd ?_);(rw[e1]);(refine⟨_,gv,mB,?_⟩);(refine dd ?_);(refine⟨hat.g0,hat.ln.lg,?_⟩);(refine dd ?_);exact zh.o):p:=n ⟨h⟩
def za7{p q:Prop}(h:q)(n:zaa q->p:=by intro zh;(refine⟨λ_=>dd ?_,λq=>absurd (rF.2 hp) tU⟩);exact zh.o):p:=n ⟨h⟩
def za8{p q:Prop}(h:q)(n:zaa q->p:=by intro zh;refine uF ?_;refine uE ?_;(refine te hg ?_);exact zh.o):p:=n ⟨h⟩
def za9{p q:Prop}(h:q)(n:zaa q->p:=by intro zh;refine⟨λh=>absurd h ar,λ_=>dd ?_⟩;exact zh.o):p:=n ⟨h⟩
def zba{p:Prop}(n:p:=by refine zac ?_;refine zaw ?_;exact uI):p:=n
def zbb{p q:Prop}(h:q)(n:zaa q->p:=by intro zh;refine zaW ?_;refine⟨.inl V,_,.refl _,rfl,?_⟩;exact zh.o):p:=n ⟨h⟩
def zbc{p:Prop}(n:p:=by refine zU [1] [⟨1,38,8,[iO 2 w],0⟩,oM ({m with pc:=23}),⟨1,0,1,(w.counts.map zA).set m.zm.toNat [C.sl 3 [] 1 0 r0.length false],0⟩,⟨2,52,1,(r0.set 0 (IntKind.u64.wrap (x+1))).map qD,0⟩,⟨1,229,2,[tg],0⟩,oE zW] (rx:=Ce (fI {m with pc:=23} 3 10 0)) (jn {m with pc:=23} 3 10 0) V V V V V (ze V (ze V (ze (zf own) V))) V V (dd ?_);exact dD):p:=n
def zbd{p q:Prop}(h:q)(n:zaa q->p:=by intro zh;(conv=>whnf);(refine⟨λh=>absurd h bF,λ_=>dd ?_⟩);(refine⟨ah,uH ?_⟩);exact zh.o):p:=n ⟨h⟩
def zbe{p q:Prop}(h:q)(n:zaa q->p:=by intro zh;show _::_::_::_::_::_::_::zJ [0,1,2,3,4,5,6,7,8,9,10,11,12,13,14,15,20,17] ⟨1,106,5,List.take k (((w.zd.map zt).set v (fR 8 v0))),0⟩::_::_::_::_::zJ [0,1,2,3,4,5,6,7,8,9,10,11,12,13,14,15,20,17] ⟨1,111,2,List.take j (((v0.zg.map zy).set g (fN 13 g0))),0⟩::_::_::_::zJ [0,1,2,3,4,5,6,7,8,9,10,11,12,13,14,15,20,17] ⟨1,151,3,List.take n (((g0.ends.map zx).set e (fL 17 e0)))++[_],0⟩::_=_;exact zh.o):p:=n ⟨h⟩
def zbf{p q:Prop}(h:q)(n:zaa q->p:=by intro zh;refine uG ?_;(refine⟨ah,uH ?_⟩);exact zh.o):p:=n ⟨h⟩
def zbg{p q:Prop}(h:q)(n:zaa q->p:=by intro zh;refine⟨.inl V,_,_,(zl.zN 1 0 4 V V V V (.inr V) V ah (shut_map (enc:=zt) (λ_=>V) w.zd) (zB V)).trans (zl.zN 1 0 6 V V V V (.inr V) V ah (shut_map (enc:=zA) (λ_=>V) w.counts) (zB V)),rfl,?_⟩;exact zh.o):p:=n ⟨h⟩
def zbh{p q:Prop}(h:q)(n:zaa q->p:=by intro zh;(refine te hgg ?_);exact zh.o):p:=n ⟨h⟩
def zbi{p:Prop}(n:p:=by refine ab func84 ?_;refine td ?_;(refine⟨aj,_,rfl,dd ?_⟩);exact uI):p:=n
def zbj{p q:Prop}(h:q)(n:zaa q->p:=by intro zh;(refine⟨uH ?_,trivial⟩);refine tc ?_;exact zh.o):p:=n ⟨h⟩
def zbk{p q:Prop}(h:q)(n:zaa q->p:=by intro zh;rw[m8];refine uF ?_;refine .inr ⟨⟨[4,7],[3],false⟩,ak,λh=>absurd h aj,_,uH ?_,λt2 H2 h=>h⟩;exact zh.o):p:=n ⟨h⟩
def zbl{p q:Prop}(h:q)(n:zaa q->p:=by intro zh;refine⟨h0,ft,dd ?_⟩;rw[e1];refine⟨_,gx,rfl,dd ?_⟩;refine tc ?_;exact zh.o):p:=n ⟨h⟩
def zbm{p q:Prop}(h:q)(n:zaa q->p:=by intro zh;refine .inl ⟨⟨false,[0,1,2],[1,2,6],[]⟩,ak,uH ?_⟩;refine tc ?_;exact zh.o):p:=n ⟨h⟩
def zbn{p q:Prop}(h:q)(n:zaa q->p:=by intro zh;(refine af (qy w sw) ?_);(refine af (zS m 1 10 m.k) ?_);(rw[hk]);(refine uE ?_);(refine⟨aj,aj,?_⟩);(refine dd ?_);(refine⟨i0,_,cr,?_⟩);(refine dd ?_);(refine⟨aj,_,cn,?_⟩);exact zh.o):p:=n ⟨h⟩
def zbo{p q:Prop}(h:q)(n:zaa q->p:=by intro zh;refine Ee [0,1,2,3,4,5] (hE w m m v0 g0 e0 g0.zC e0.head e0.zo [⟨1,229,2,[tg],0⟩,oE zW]) (rx:=.ref 3 [] 2 m.zp.toNat 0) (FN w m v0 g0 e0 hv) (ze V (ze V (ze (zf ownV) (ze (zf ownG) (ze (zf ownE) V))))) uR V V V (ze V (ze V (ze (zf ownV) (ze (zf ownG) (ze (zf ownE) V))))) uS V (dd ?_);refine⟨_,gg,(by show 0+1<=2;decide),dd ?_⟩;exact zh.o):p:=n ⟨h⟩
def zbp{p q:Prop}(h:q)(n:zaa q->p:=by intro zh;refine dd ?_;refine⟨_,pH ft,rfl,?_⟩;refine dd ?_;rw[rb];refine⟨_,pH ft,aO,?_⟩;refine za4 ?_;refine dd ?_;rw[rb];exact zh.o):p:=n ⟨h⟩
def zbq{p q:Prop}(h:q)(n:zaa q->p:=by intro zh;refine zab ?_;refine td ?_;exact zh.o):p:=n ⟨h⟩
def zbr{p q:Prop}(h:q)(n:zaa q->p:=by intro zh;refine zaz ?_;refine⟨rfl,.inr V,cx,cy,dd ?_⟩;refine zap ?_;rw[zk an,eE];exact zh.o):p:=n ⟨h⟩
def zbs{p q:Prop}(h:q)(n:zaa q->p:=by intro zh;(refine⟨uH ?_,trivial⟩);(refine⟨(ze V (ze V (ze V (ze V (ze V (ze (zf (ownV 6)) (ze (zf (ownG 7 _)) (ze (zf (ownE 8 _ _)) V)))))))),uH ?_⟩);refine tc ?_;exact zh.o):p:=n ⟨h⟩
def zbt{p q:Prop}(h:q)(n:zaa q->p:=by intro zh;rw[show decide ((match l.findIdx? p with|some i=>((i:Nat):Int)|none=>(-1:Int))≥(0:Int))=l.any p from Ca l p];exact zh.o):p:=n ⟨h⟩
def zbu{p q:Prop}(h:q)(n:zaa q->p:=by intro zh;rw[m8];refine zaf ?_;rw[pQ];refine .inl ⟨.inl V,.inr V,aq,bQ,uH ?_⟩;refine⟨.inl V,_,_,.refl _,rfl,?_⟩;exact zh.o):p:=n ⟨h⟩
def zbv{p q:Prop}(h:q)(n:zaa q->p:=by intro zh;refine kR (fn:=f173) func173 V (uH ?_);refine af (vy w.pins h.pins) ?_;exact zh.o):p:=n ⟨h⟩
def zbw{p q:Prop}(h:q)(n:zaa q->p:=by intro zh;refine .inl ⟨⟨false,[0,1,2],[5,1,6],[]⟩,ak,uH ?_⟩;refine tc ?_;exact zh.o):p:=n ⟨h⟩
def zbx{p q:Prop}(h:q)(n:zaa q->p:=by intro zh;refine .inl ⟨rfl,_,_,.refl _,lM (uH ?_)⟩;exact zh.o):p:=n ⟨h⟩
def zby{p q:Prop}(h:q)(n:zaa q->p:=by intro zh;refine Ee [0,1,2,3,4,5] (hE w m m v0 g0 e0 g0.zC e0.head e0.zo [⟨1,229,2,[tg],0⟩,oE zW]) (rx:=.ref 4 [] 3 m.end_.toNat 0) (vY w m v0 g0 e0 hv) (ze V (ze V (ze (zf ownV) (ze (zf ownG) (ze (zf ownE) V))))) uR V V V (ze V (ze V (ze (zf ownV) (ze (zf ownG) (ze (zf ownE) V))))) uS V (dd ?_);exact zh.o):p:=n ⟨h⟩
def zbz{p q:Prop}(h:q)(n:zaa q->p:=by intro zh;refine ab func88 ?_;refine zaV ?_;(refine⟨λq=>absurd (pC q) an,λ_=>?_⟩);(refine dd ?_);(refine⟨λq=>absurd (pC q) an,λ_=>?_⟩);(refine dd ?_);exact zh.o):p:=n ⟨h⟩
def zbA{p q:Prop}(h:q)(n:zaa q->p:=by intro zh;refine af (qz w sw) ?_;refine ae [5,6] (h) ?_;refine zaC ?_;exact zh.o):p:=n ⟨h⟩
def zbB{p q:Prop}(h:q)(n:zaa q->p:=by intro zh;(refine te hgv ?_);exact zh.o):p:=n ⟨h⟩
def zbC{p q:Prop}(h:q)(n:zaa q->p:=by intro zh;refine ab func137 ?_;refine zah ?_;exact zh.o):p:=n ⟨h⟩
def zbD{p q:Prop}(h:q)(n:zaa q->p:=by intro zh;(refine⟨λ_=>dd ?_,λq=>absurd (q.symm.trans (rF.2 hk)) aj⟩);(refine af h ?_);exact zh.o):p:=n ⟨h⟩
def zbE{p q:Prop}(h:q)(n:zaa q->p:=by intro zh;(rw[hF1 _ hd,hO]);(refine zl.trans (zl.E8 3 (rows':=(X.map jl).set t (lP ops::I (IntKind.i64.wrap ((dn:Int)+1))::Bo false::(vX m'++[.fq 0 13 (given.map qY++[qY m'.answer])]))) V ah (LP (iI.at (i:=47) V (WC.gl _ _ _))) (zE (enc:=jl) (λ_=>V) V _ _) (zE (enc:=jl) (λ_=>V) V _ _)) ?_);exact zh.o):p:=n ⟨h⟩
def zbF{p:Prop}(n:p:=by (rw[m1]);(refine⟨λh=>absurd q cK,λ_=>?_⟩);(refine dd ?_);(refine .inl ⟨⟨true,[0,1,2],[0,1,2],[4]⟩,ak,uH ?_⟩);(refine af (zS {m with i:=IntKind.i64.wrap (m.i+1),pc:=2} 1 2 p) ?_);refine tc ?_;(exact uI)):p:=n
def zbG{p:Prop}(n:p:=by (rw[m1]);(refine⟨λ_=>?_,λh=>absurd (pB h) an⟩);(refine dd ?_);(refine .inl ⟨⟨true,[0,1,2],[0,1,2],[4]⟩,ak,uH ?_⟩);(refine af (zS (im m 3 (IntKind.i64.wrap (m.i+1))) 1 2 p) ?_);refine tc ?_;(exact uI)):p:=n
def zbH{p q:Prop}(h:q)(n:zaa q->p:=by intro zh;refine ab func52 ?_;(refine af (y2 w m ok hl hs ca) ?_);(try (refine td ?_));exact zh.o):p:=n ⟨h⟩
def zbI{p q:Prop}(h:q)(n:zaa q->p:=by intro zh;refine⟨λq=>absurd (pC q) an,λ_=>dd ?_⟩;exact zh.o):p:=n ⟨h⟩
def zbJ{p q:Prop}(h:q)(n:zaa q->p:=by intro zh;refine ab func53 ?_;refine zaV ?_;refine zae ?_;(rw[ml]);refine zae ?_;refine zbn ?_;(refine dd ?_);(refine⟨aj,aj,?_⟩);(refine dd ?_);exact zh.o):p:=n ⟨h⟩
def zbK{p q:Prop}(h:q)(n:zaa q->p:=by intro zh;refine .inl ⟨⟨false,[0,1,2],[6,7,8],[]⟩,ak,uH ?_⟩;refine tc ?_;exact zh.o):p:=n ⟨h⟩
def zbL{p q:Prop}(h:q)(n:zaa q->p:=by intro zh;rw[m6];refine zaf ?_;rw[pQ];refine⟨rfl,.inr V,cz,cA,dd ?_⟩;refine zap ?_;rw[zk an,eG];exact zh.o):p:=n ⟨h⟩
def zbM{p:Prop}(n:p:=by (rw[pA (ai q3)]);refine dd ?_;refine zaY ?_;refine ae [1] (xp m 3 (IntKind.i64.wrap (m.i+1))) ?_;refine tc ?_;refine ae [1] (qF (im m 3 (IntKind.i64.wrap (m.i+1))) 1 2 p) ?_;exact dM):p:=n
def zbN{p q:Prop}(h:q)(n:zaa q->p:=by intro zh;(refine⟨h0,ft,?_⟩);(refine dd ?_);(rw[e1]);(refine⟨_,gt,tH,?_⟩);(refine dd ?_);exact zh.o):p:=n ⟨h⟩
def zbO{p q:Prop}(h:q)(n:zaa q->p:=by intro zh;rw[m6];refine zaf ?_;rw[pQ];(refine(fE.ji _ V _ _ ⟨rfl,rfl,⟨_,rfl,underlying104⟩,rfl,rfl,rfl⟩ (id:=12) (n:=j) V V (.inl V) V lG (λr hr=>ownG 13 r (pF hr)) (.inl V) (zB V) (r9 _ _) cR (by show(j+1)*32<=_;omega)).iu (uH ?_));exact zh.o):p:=n ⟨h⟩
def zbP{p q:Prop}(h:q)(n:zaa q->p:=by intro zh;refine za6 ?_;(rw[e2]);(refine⟨_,gg _,mD,?_⟩);(refine dd ?_);(refine⟨hat.e0,hat.ln.le,?_⟩);(refine dd ?_);(rw[e3]);exact zh.o):p:=n ⟨h⟩
def zbQ{p q:Prop}(h:q)(n:zaa q->p:=by intro zh;(refine⟨_,xX hc2,rfl,dd ?_⟩);(refine⟨rfl,dd ?_⟩);exact zh.o):p:=n ⟨h⟩
def zbR{p q:Prop}(h:q)(n:zaa q->p:=by intro zh;(refine te hg ?_);exact zh.o):p:=n ⟨h⟩
def zbS{p q:Prop}(h:q)(n:zaa q->p:=by intro zh;(try (refine .inr ⟨ah,uH ?_⟩));exact zh.o):p:=n ⟨h⟩
def zbT{p q:Prop}(h:q)(n:zaa q->p:=by intro zh;refine .inl ⟨.inl V,.inr V,aq,cG,uH ?_⟩;exact zh.o):p:=n ⟨h⟩
def zbU{p q:Prop}(h:q)(n:zaa q->p:=by intro zh;refine aa func92 ?_;(refine .inl ⟨⟨false,[1,3,6,8,11,13],[0,1,5,6],[]⟩,ak,uH ?_⟩);(refine⟨hat.v0,lv,?_⟩);(refine dd ?_);(rw[z1]);(refine⟨_,gv,mB,?_⟩);(refine dd ?_);(refine⟨hat.g0,lg,?_⟩);(refine dd ?_);exact zh.o):p:=n ⟨h⟩
def zbV{p q:Prop}(h:q)(n:zaa q->p:=by intro zh;refine dd ?_;refine zaw ?_;exact zh.o):p:=n ⟨h⟩
def zbW{p q:Prop}(h:q)(n:zaa q->p:=by intro zh;refine⟨λ_=>dd ?_,λh=>absurd h ar⟩;exact zh.o):p:=n ⟨h⟩
def zbX{p:Prop}(n:p:=by refine dd ?_;(rw[hmk h5,pA ao]);exact uJ):p:=n
def zbY{p q:Prop}(h:q)(n:zaa q->p:=by intro zh;refine zb.kq func141 V ?_;show qX prog 0 ((f141.body).getD .skip) _ _;refine lM (uH ?_);refine zbx ?_;refine zbq ?_;exact zh.o):p:=n ⟨h⟩
def zbZ{p q:Prop}(h:q)(n:zaa q->p:=by intro zh;refine zaz ?_;(refine(fE.ji _ V _ _ ⟨rfl,rfl,⟨_,rfl,underlying109⟩,rfl,rfl,rfl⟩ (id:=16) (n:=n) V V (.inl V) V lE (λr hr=>ownE 17 r (pF hr)) (.inl V) (zB V) (r9 _ _) cS (by show(n+1)*40<=_;omega)).iu (uH ?_));exact zh.o):p:=n ⟨h⟩
def zb0{p q:Prop}(h:q)(n:zaa q->p:=by intro zh;(refine af (zP w m ok hl) ?_);(rw[hs]);exact zh.o):p:=n ⟨h⟩
def zb1{p:Prop}(n:p:=by refine ae [1] (xU {m with word:=e.head} 4) ?_;refine ae [0,1] (wy w (kB {m with word:=e.head} 4) v ⟨hv.v0,hv.at_⟩ 1 8 (e.head%4294967296-1)) ?_;exact dk):p:=n
def zb2{p q:Prop}(h:q)(n:zaa q->p:=by intro zh;refine .inl ⟨⟨false,[1],[1],[]⟩,ak,uH ?_⟩;refine tc ?_;exact zh.o):p:=n ⟨h⟩
def zb3{p q:Prop}(h:q)(n:zaa q->p:=by intro zh;refine⟨.inl V,_,_,zl.zN 1 0 6 V V V V (.inr V) V ah (shut_map (enc:=zA) (λ_=>V) w.counts) (zB V),rfl,?_⟩;exact zh.o):p:=n ⟨h⟩
def zb4{p q:Prop}(h:q)(n:zaa q->p:=by intro zh;refine jv.zX (id:=6) V h1 h2 h3 h4 h5 V V V (uH ?_);refine⟨rfl,rfl,uH ?_⟩;exact zh.o):p:=n ⟨h⟩
def zb5{p q:Prop}(h:q)(n:zaa q->p:=by intro zh;rw[m5];refine zaf ?_;rw[pQ];(refine(fE.ji _ V _ _ ⟨rfl,rfl,⟨_,rfl,underlying33⟩,rfl,rfl,rfl⟩ (id:=7) (n:=k) V V (.inl V) V lV (λr hr=>ownV 8 r (pF hr)) (.inl V) (zB V) (r9 _ _) tL cN).iu (uH ?_));exact zh.o):p:=n ⟨h⟩
def zb6{p q:Prop}(h:q)(n:zaa q->p:=by intro zh;refine⟨ah,uH ?_⟩;exact zh.o):p:=n ⟨h⟩
def zb7{p:Prop}(n:p:=by refine⟨rfl,rfl,uH ?_⟩;refine af (yE p (hple _ _ hp)) ?_;refine⟨λ_=>dd ?_,λh=>absurd ((hname _ _ hp).symm.trans h:true=false) aj⟩;exact dQ):p:=n
def zb8{p q:Prop}(h:q)(n:zaa q->p:=by intro zh;refine dd ?_;refine .inl ⟨⟨false,[4],[5],[]⟩,ak,uH ?_⟩;(try rw[pK]);exact zh.o):p:=n ⟨h⟩
def zb9{p q:Prop}(h:q)(n:zaa q->p:=by intro zh;rw[m8];refine zaf ?_;rw[pQ];refine .inr ?_;rw[hq2];refine⟨.inl V,aq,bQ,uH ?_⟩;rw[hq3,<-hq2,show([]:List (List C)).length+w.zn.length=w.zn.length from pK _];refine⟨.inl V,_,_,.refl _,rfl,?_⟩;exact zh.o):p:=n ⟨h⟩
def zca{p q:Prop}(h:q)(n:zaa q->p:=by intro zh;refine .inl ⟨⟨true,[0,1,2,4],[1,2,6],[5]⟩,ak,uH ?_⟩;exact zh.o):p:=n ⟨h⟩
def zcb{p q:Prop}(h:q)(n:zaa q->p:=by intro zh;refine⟨.inl V,_,zl.var 1 V V V (.cons (.refl _) (.cons (.refl _) (.cons (.refl _) (.cons (.refl _) (.cons (WC.share 1 5 _) (.cons (.refl _) (.cons (.refl _) (.cons (WC.nil 0 3) .nil)))))))),?_⟩;exact zh.o):p:=n ⟨h⟩
def zcc{p q:Prop}(h:q)(n:zaa q->p:=by intro zh;refine⟨an,_,gj,dd ?_⟩;refine⟨rfl,.inr V,aq,aL,dd ?_⟩;refine zap ?_;exact zh.o):p:=n ⟨h⟩
def zcd{p q:Prop}(h:q)(n:zaa q->p:=by intro zh;refine⟨λh=>absurd h ah,λ_=>dd ?_⟩;exact zh.o):p:=n ⟨h⟩
def zce{p q:Prop}(h:q)(n:zaa q->p:=by intro zh;refine .inr ⟨⟨[0,1,3,4,6,8],[1],true⟩,ak,λ_=>V,_,uH ?_,λt2 H2 h=>h⟩;refine⟨_,ag [] (zS m 2 11 m.version),uH ?_⟩;refine⟨_,ag [] (xP m (fI m 2 11 m.version) (om m)),uH (uH ?_)⟩;exact zh.o):p:=n ⟨h⟩
def zcf{p q:Prop}(h:q)(n:zaa q->p:=by intro zh;refine ab func42 ?_;refine af ho ?_;refine td ?_;exact zh.o):p:=n ⟨h⟩
def zcg{p q:Prop}(h:q)(n:zaa q->p:=by intro zh;refine⟨λh=>absurd (pC h) an,λ_=>dd ?_⟩;refine⟨h0,_,hg,uH ?_⟩;exact zh.o):p:=n ⟨h⟩
def zch{p q:Prop}(h:q)(n:zaa q->p:=by intro zh;(refine(fE.same (qA.buildSlice _ _ _ V (c:=.fq 1 3 []) V)).iu (uH ?_));exact zh.o):p:=n ⟨h⟩
def zci{p q:Prop}(h:q)(n:zaa q->p:=by intro zh;refine dd ?_;refine zaW ?_;exact zh.o):p:=n ⟨h⟩
def zcj{p q:Prop}(h:q)(n:zaa q->p:=by intro zh;(refine⟨λ_=>dd ?_,λh=>absurd h bE⟩);exact zh.o):p:=n ⟨h⟩
def zck{p:Prop}(n:p:=by refine .inl ⟨rfl,?_,an⟩;rw[zk an];exact zl.jd 5 ta V V V hrec V):p:=n
def zcl{p:Prop}(n:p:=by rw[e];refine dd ?_;exact⟨.inl V,_,zl.var 1 V V V (.cons (WC.nil 0 1) (.cons (WC.nil 0 4) (.cons (WC.nil 0 4) .nil))),rfl⟩):p:=n
def zcm{p q:Prop}(h:q)(n:zaa q->p:=by intro zh;refine⟨λh=>absurd h ah,λ_=>uH ?_⟩;refine zb6 ?_;exact zh.o):p:=n ⟨h⟩
def zcn{p q:Prop}(h:q)(n:zaa q->p:=by intro zh;(refine⟨_,gs _,rfl,?_⟩);(refine dd ?_);(rw[rb]);(refine⟨_,gs _,aO,?_⟩);(refine dd ?_);(refine⟨_,gs _,rfl,?_⟩);(refine dd ?_);(rw[rb]);(refine⟨_,gs _,aP,?_⟩);exact zh.o):p:=n ⟨h⟩
def zco{p:Prop}(n:p:=by refine dd ?_;refine .inr ⟨rfl,dd ?_⟩;exact⟨.inl V,_,zl.cell 2 V ((WC.none 1 1 1).trans (WC.share 1 1 [])),rfl⟩):p:=n
def zcp{p q:Prop}(h:q)(n:zaa q->p:=by intro zh;refine⟨λ_=>dd ?_,λh=>absurd h ah⟩;exact zh.o):p:=n ⟨h⟩
def zcq{p q:Prop}(h:q)(n:zaa q->p:=by intro zh;refine .inr ⟨⟨[1,4,8,10],[0,1,2],true⟩,ak,λ_=>V,_,uH ?_,λt2 H2 h=>h⟩;refine tc ?_;exact zh.o):p:=n ⟨h⟩
def zcr{p:Prop}(n:p:=by refine⟨_,_,hA _ (ze V (ze (zf (own k)) V)),dd ?_⟩;exact dR):p:=n
def zcs{p q:Prop}(h:q)(n:zaa q->p:=by intro zh;refine zab ?_;refine zah ?_;exact zh.o):p:=n ⟨h⟩
def zct{p:Prop}(n:p:=by rw[ml];refine zcd ?_;refine⟨ah,dd ?_⟩;rw[zk an,pQ,<-hst];refine zap ?_;exact zl.fD [1] [0,2,3,4] _ _ V V V V):p:=n
def zcu{p q:Prop}(h:q)(n:zaa q->p:=by intro zh;refine dd ?_;refine jC.qq (id:=0) _ _ _ _ (.inr V) underlying257 underlying3 V V V V V ?_;exact zh.o):p:=n ⟨h⟩
def zcv{p q:Prop}(h:q)(n:zaa q->p:=by intro zh;refine af hN ?_;(repeat (first|((refine ya (dd ?_)))|((refine yb (dd ?_)))|(rw[ml])|(rw[mb])|(refine⟨aj,_,rfl,dd ?_⟩)|(refine af hH ?_)|(refine⟨ak,dd ?_⟩)));exact zh.o):p:=n ⟨h⟩
def zcw{p:Prop}(n:p:=by refine za3 ?_;(rw[zk an,eg,<-hv _ _ (by unfold xO;rw[pD cp,pq h3]) (by unfold xy;rw[pD cm,pq q3])]);exact cE 4):p:=n
def zcx{p q:Prop}(h:q)(n:zaa q->p:=by intro zh;refine .inl ⟨⟨false,[1],[13],[]⟩,ak,uH ?_⟩;refine tc ?_;exact zh.o):p:=n ⟨h⟩
def zcy{p q:Prop}(h:q)(n:zaa q->p:=by intro zh;refine .inl ⟨⟨false,[1],[12],[]⟩,ak,uH ?_⟩;refine tc ?_;exact zh.o):p:=n ⟨h⟩
def zcz{p:Prop}(n:p:=by refine zb6 ?_;refine .inr ⟨.inl V,aq,aL,uH ?_⟩;exact uJ):p:=n
def zcA{p q:Prop}(h:q)(n:zaa q->p:=by intro zh;(refine⟨_,gx,rfl,?_⟩);(refine dd ?_);refine tc ?_;(rw[hst]);exact zh.o):p:=n ⟨h⟩
def zcB{p q:Prop}(h:q)(n:zaa q->p:=by intro zh;refine af h ?_;(refine .inl ⟨⟨false,[0,1,2],[6,7,8],[]⟩,ak,uH ?_⟩);refine tc ?_;exact zh.o):p:=n ⟨h⟩
def zcC{p q:Prop}(h:q)(n:zaa q->p:=by intro zh;refine .inl ⟨⟨false,[1],[2],[]⟩,ak,uH ?_⟩;refine tc ?_;exact zh.o):p:=n ⟨h⟩
