import Derived.WalkKit
import Derived.Still
import Derived.LoopN
import Derived.LoopNIn
import Derived.ControlIn
import Derived.CallsIn
import Derived.TacticsIn
import Derived.OrdersIn
import Derived.Scope
import Derived.RangeFuncLeaves
import Derived.RangeFuncRecord
set_option linter.all false
set_option maxRecDepth 100000
set_option maxHeartbeats 4000000
def V{α:Sort _}{a:α}:a=a:=rfl
def an{p:Prop}(n:p:=by omega):p:=n
def ah{p:Prop}(n:p:=by simp):p:=n
def ak{p:Prop}(n:p:=by kernel_rfl):p:=n
def aj{p:Prop}(n:p:=by decide):p:=n
def ar{p:Prop}(n:p:=by simp;omega):p:=n
def aq{p:Prop}(n:p:=by simp[maxLen];omega):p:=n
def aH{p:Prop}(n:p:=by show _*8<=_;simp;omega):p:=n
def bD{p:Prop}(n:p:=by rw[hlg];simp[maxLen];omega):p:=n
def bU{p:Prop}(n:p:=by rw[hlg];show(k+1)*64<=_;omega):p:=n
def cz{p:Prop}(n:p:=by rw[lC];show(k+1)*24<=_;omega):p:=n
def bE{p:Prop}(n:p:=by rw[r3];rfl):p:=n
def bA{p:Prop}(n:p:=by rw[hx];exact pH hk):p:=n
def bZ{p:Prop}(n:p:=by rw[pP hj,<-hg];simp):p:=n
def b9{p:Prop}(n:p:=by rw[pP hn,<-he];simp):p:=n
def cp{p:Prop}(n:p:=by rw[pP hk,<-hv];simp):p:=n
def cy{p:Prop}(n:p:=by rw[lC];simp[maxLen];omega):p:=n
def cg{p:Prop}(n:p:=by rw[lE];show(n+1)*40<=_;omega):p:=n
def bC{p:Prop}(n:p:=by rw[pP hk,<-hx];simp):p:=n
def cx{p:Prop}(n:p:=by rw[pP hk,<-hr];simp):p:=n
def cb{p:Prop}(n:p:=by rw[lE];simp[maxLen];omega):p:=n
def cm{p:Prop}(n:p:=by rw[lG];show(j+1)*32<=_;omega):p:=n
def bG{p:Prop}(n:p:=by show _*24<=_;simp;omega):p:=n
def ck{p:Prop}(n:p:=by rw[lG];simp[maxLen];omega):p:=n
def cw{p:Prop}(n:p:=by show _*40<=_;simp;omega):p:=n
def cR{p:Prop}(n:p:=by show zJ _ ⟨1,0,5,_,0⟩::zJ _ ⟨1,0,2,_,0⟩::zJ _ ⟨1,0,3,_,0⟩::_=_;rw[zI (enc:=zt) (λ_=>V),zI (enc:=zy) (λ_=>V),zI (enc:=zu) (λ_=>V)];rfl):p:=n
def cV{p:Prop}(n:p:=by rw[hpc];rfl):p:=n
def bB{p:Prop}(n:p:=by intro ob hob;simp at hob;rcases hob with rfl|rfl|rfl|rfl|rfl|rfl|rfl <;> first|exact hX _|exact hY|rfl):p:=n
def ct{p:Prop}(n:p:=by rw[lV];show(k+1)*104<=_;omega):p:=n
def cI{p:Prop}(n:p:=by rw[pP hn,<-hz];simp):p:=n
def aJ{p:Prop}(n:p:=by show 1+1<=48;decide):p:=n
def bW{p:Prop}(n:p:=by simp at h1 h2;omega):p:=n
def ay{p:Prop}(n:p:=by have:=hs.base;simp;omega):p:=n
def bQ{p:Prop}(n:p:=by intro u hu;simp at hu;subst hu;rfl):p:=n
def bd{p:Prop}(n:p:=by simp[h2]):p:=n
def cq{p:Prop}(n:p:=by rw[lV];simp[maxLen];omega):p:=n
def cP{p:Prop}(n:p:=by rw[pL];exact vm zt _ _ (xE m v0 g0 (yn m e0) g0.zC e0.head e0.zo) _ V):p:=n
def cM{p:Prop}(n:p:=by rw[ml];exact We (by omega) (by omega)):p:=n
def cO{p:Prop}(n:p:=by rw[pL];exact vm zy _ _ (mZ m g0 (yn m e0) g0.zC e0.head e0.zo) _ V):p:=n
def bm{p:Prop}(n:p:=by simp;intro e;subst e;exact h (rM ..)):p:=n
def aW{p:Prop}(n:p:=by have h1:=ph hB;have h2:=ph hn;simp;omega):p:=n
def cL{p:Prop}(n:p:=by cases h:w.pins with|nil=>rw[h]at hx;simp at hx|cons a b=>exact⟨a,b,rfl⟩):p:=n
def cS{p:Prop}(n:p:=by show i64 0;decide):p:=n
def cW{p:Prop}(n:p:=by show zJ _ _::zJ _ _::zJ _ ⟨1,0,1,_,0⟩::_=_;rw[zI (enc:=zA) (λ_=>V)];rfl):p:=n
def bP{p:Prop}(n:p:=by simp only[iu,f.Nl (by rw[<-f.h0.n];exact hi)]):p:=n
def cG{p:Prop}(n:p:=by cases h:w.zc with|nil=>rw[h]at hx;simp at hx|cons a b=>exact⟨a,b,rfl⟩):p:=n
def aN{p:Prop}(n:p:=by rw[mA];show _*104<=_;simp;omega):p:=n
def bt{p:Prop}(n:p:=by rw[m1];simp;omega):p:=n
def aR{p:Prop}(n:p:=by rw[tw];exact uh):p:=n
def aV{p:Prop}(n:p:=by rw[h]at hr;cases hr):p:=n
def cT{p:Prop}(n:p:=by show(List.replicate _ _).length<_;rw[ux];omega):p:=n
def aS{p:Prop}(n:p:=by rw[hrows.len,hcs,<-rp];exact pQ _ hroom):p:=n
def aZ{p:Prop}(n:p:=by simp[ho,hv,hc,eqGuard,binOp,run_equal_slice_nil w t e _ len cap ht]):p:=n
def bR{p:Prop}(n:p:=by unfold y2;simp at h1 h2 h3 h4 h5 h6 h7|-;simp[h1,h2,h3,h4,h5,h6,h7]):p:=n
def cN{p:Prop}(n:p:=by rw[pL];exact vm zu _ _ (vu (yn m e0) e0.head e0.zo) _ V):p:=n
def ax{p:Prop}(n:p:=by simpa [Env.at] using ho.1):p:=n
def cF{p:Prop}(n:p:=by show(k+1)*104<=_;omega):p:=n
def aE{p:Prop}(n:p:=by rw[h1];decide):p:=n
def bn{p:Prop}(n:p:=by rcases sF.1 h with h|h;exact absurd h.symm e;exact h):p:=n
def cA{p:Prop}(n:p:=by have:=gQ h;omega):p:=n
def aI{p:Prop}(n:p:=by rw[pZ];rfl):p:=n
def aC{p:Prop}(n:p:=by simp at h2;omega):p:=n
def bJ{p:Prop}(n:p:=by simp at q1;omega):p:=n
def aG{p:Prop}(n:p:=by simp[h1]):p:=n
def aP{p:Prop}(n:p:=by rw[hh.n];exact eP):p:=n
def aQ{p:Prop}(n:p:=by simp only[maxLen]at hm;omega):p:=n
def aX{p:Prop}(n:p:=by show _<=w2.heap.size;rw[a4];exact g.size):p:=n
def bh{p:Prop}(n:p:=by rw[<-l1];exact h2):p:=n
def bM{p:Prop}(n:p:=by have:=((yd gv.snap).all c (gT hc)).zL.2;omega):p:=n
def bV{p:Prop}(n:p:=by simp at q1 q2;omega):p:=n
def cJ{p:Prop}(n:p:=by show j+1<=maxLen;simp only[maxLen];omega):p:=n
def cK{p:Prop}(n:p:=by show n+1<=maxLen;simp only[maxLen];omega):p:=n
def aB{p:Prop}(n:p:=by simp[eP]):p:=n
def bS{p:Prop}(n:p:=by rw[ub];simp[y2,Gg,oq,ha,@eq_comm _ 1 b.kind]):p:=n
def au{p:Prop}(n:p:=by rw[BK];decide):p:=n
def bb{p:Prop}(n:p:=by simp[ho,Op.operands,Call.operands,hcl]):p:=n
def bf{p:Prop}(n:p:=by unfold qd;rw[h2];exact(show vH sz0 rows0 hops=_ from hg')):p:=n
def aA{p:Prop}(n:p:=by simp[h]):p:=n
def aM{p:Prop}(n:p:=by rw[mA];simp[maxLen];omega):p:=n
def bj{p:Prop}(n:p:=by have:=h1;simp at this;omega):p:=n
def aT{p:Prop}(n:p:=by rw[hcap2];exact grownCap_ge w _ _ e):p:=n
def aK{p:Prop}(n:p:=by show 47+1<=48;decide):p:=n
def bF{p:Prop}(n:p:=by rw[gO];exact hll.symm):p:=n
def aU{p:Prop}(n:p:=by rw[jH hs.tmps hw];decide):p:=n
def bc{p:Prop}(n:p:=by intro hb;simp[hb]at hcb):p:=n
def bo{p:Prop}(n:p:=by simp_all[yh]):p:=n
def bp{p:Prop}(n:p:=by simp_all[yI]):p:=n
def ba{p:Prop}(n:p:=by simpa [Nat.blt_eq,Env.cut] using h):p:=n
def cQ{p:Prop}(n:p:=by rw[pL,r3];rfl):p:=n
def aF{p:Prop}(n:p:=by rw[h2];trivial):p:=n
def aY{p:Prop}(n:p:=by rw[hh.n,hs.heap.n];exact hs.base):p:=n
def bH{p:Prop}(n:p:=by rw[<-hh.n,<-h2.n];exact g.le.n):p:=n
def cH{p:Prop}(n:p:=by rw[hy];exact pH hj):p:=n
def bu{p:Prop}(n:p:=by rw[m1];simp):p:=n
def bO{p:Prop}(n:p:=by rw[<-f.h0.n];exact hi):p:=n
def aO{p:Prop}(n:p:=by (try dsimp only);omega):p:=n
def br{p:Prop}(n:p:=by rw[he,gS h2]):p:=n
def bL{p:Prop}(n:p:=by have:=t.fT;omega):p:=n
def bY{p:Prop}(n:p:=by unfold yN;exact h.symm):p:=n
def bT{p:Prop}(n:p:=by show _*8<=_;simp[hvk];omega):p:=n
def cB{p:Prop}(n:p:=by rw[hq];rfl):p:=n
def aw{p:Prop}(n:p:=by unfold lY;rw[hnext,hev];rfl):p:=n
def bq{p:Prop}(n:p:=by simp[h3]):p:=n
def bw{p:Prop}(n:p:=by simp at h6 h7|-;omega):p:=n
def bz{p:Prop}(n:p:=by simp at h8 h9|-;omega):p:=n
def bN{p:Prop}(n:p:=by rintro rfl;simp at hx):p:=n
def aD{p:Prop}(n:p:=by simp at h3;omega):p:=n
def aL{p:Prop}(n:p:=by show 3+44<=48;decide):p:=n
def cD{p:Prop}(n:p:=by rw[hq];simp):p:=n
def ao{p:Prop}(n:p:=by simp[h5]):p:=n
def cU{p:Prop}(n:p:=by simp at h2|-;omega):p:=n
def ai{p q:Prop}(h:q)(e:q->p:=by intro zh;simpa using zh):p:=e h
def cX{p:Prop}(n:p:=by exact⟨.inl V,_,_,.refl _,rfl,cE 2⟩):p:=n
def cY{p:Prop}(n:p:=by exact z5 V ⟨t1,ok,id,mt.al,λ_=>⟨MT.l8 hk uO mt.al ⟨uL,λh=>by dsimp only at h|-;omega⟩,(λ_ h=>by dsimp only at h;omega)⟩⟩):p:=n
def cZ{p:Prop}(n:p:=by rw[m6];refine⟨λh=>absurd h ah,λ_=>dd ?_⟩;refine⟨ah,uH ?_⟩;rw[px];refine⟨rfl,.inr V,ck,cm,dd ?_⟩;refine .inl ⟨rfl,?_,trivial⟩;rw[zm an,eG];exact cE 7):p:=n
def c6{p:Prop}(n:p:=by exact z5 V ⟨t1,ok,id,mt.al,λ_=>⟨MT.oB hk uO mt.al tG,(λq=>absurd (hk.symm.trans q) aj)⟩⟩):p:=n
def c7{p:Prop}(n:p:=by refine .inl ⟨.inl V,.inr V,aq,aH,uH ?_⟩;refine⟨rfl,.inr V,cb,cg,dd ?_⟩;refine .inl ⟨rfl,?_,trivial⟩;rw[zm an,eE];exact cE 9):p:=n
def c8{p:Prop}(n:p:=by exact⟨.inl V,_,_,.refl _,rfl,zk.jq 6 ta V V V (zS V (zS V (zS (qi lowV) (zS (qi lowG) (zS (qi lowE) V))))) V⟩):p:=n
def c9{p:Prop}(n:p:=by exact⟨.inl V,_,zk.var 1 V V V (.cons (.refl _) (.cons (.refl _) (.cons (.refl _) (.cons (WC.nil 0 1) (.cons (WC.nil 0 5) (.cons (WC.nil 0 4) (.cons (WC.nil 0 1) (.cons (WC.nil 0 3) .nil)))))))),rfl⟩):p:=n
def da{p:Prop}(n:p:=by exact⟨.inl V,_,_,.refl _,rfl,zk.jq 9 ta V V V (zS (qi (wU (b:=1) (n:=9) aj hX V)) V) V⟩):p:=n
def db{p:Prop}(n:p:=by rw[m5];refine⟨λh=>absurd h ah,λ_=>dd ?_⟩;refine⟨ah,uH ?_⟩;rw[px];refine⟨rfl,.inr V,cq,ct,dd ?_⟩;refine .inl ⟨rfl,?_,trivial⟩;rw[zm an,eV];exact cE 5):p:=n
def dc{p:Prop}(n:p:=by rw[e];refine dd ?_;refine td ?_;exact uI):p:=n
def de{p:Prop}(n:p:=by refine .inl ⟨rfl,?_,trivial⟩;rw[zm an,eC];exact cE 7):p:=n
def df{p:Prop}(n:p:=by exact h.elim):p:=n
def dg{p:Prop}(n:p:=by refine dd ?_;exact uI):p:=n
def dh{p:Prop}(n:p:=by exact⟨.inl V,_,_,.refl _,rfl,zk.jq 4 ta V V V (zS V (zS V (zS (qi low) V))) V⟩):p:=n
def di{p:Prop}(n:p:=by exact(g2.frame k (pV hk g.size) λhc=>(g.own k hc).elim (λh=>by omega) ho).trans (g.frame k hk ho)):p:=n
def dj{p:Prop}(n:p:=by refine zk.trans (zk.qM 7 1 151 3 V V (.inl V) V V) ?_;exact cC):p:=n
def dk{p:Prop}(n:p:=by refine zk.trans (zk.qM 5 3 111 2 V V (.inl V) V V) ?_;exact cC):p:=n
def dm{p:Prop}(n:p:=by rw[zm an];exact cE 0):p:=n
def dp{p:Prop}(n:p:=by rw[pB];exact⟨hk,h2,λj hj=>by simp only[hr j an hj];decide⟩):p:=n
def dq{p:Prop}(n:p:=by refine tc ?_;exact cX):p:=n
def dt{p:Prop}(n:p:=by simp at this;omega):p:=n
def du{p:Prop}(n:p:=by exact⟨.inl V,_,zk.cell 2 V (WC.nil 0 1),rfl⟩):p:=n
def dv{p:Prop}(n:p:=by refine zk.trans (zk.qM 2 6 155 1 V V (.inl V) V V) ?_;exact cC):p:=n
def dw{p:Prop}(n:p:=by exact⟨_,_,.refl _,rfl,.inl ⟨rfl,rfl,rfl⟩⟩):p:=n
def dx{p:Prop}(n:p:=by refine⟨an,ar,dd ?_⟩;rw[e1];refine⟨_,jQ ah hk,rfl,dd ?_⟩;refine .inl ⟨rfl,?_,trivial⟩;rw[zm an,<-qX hF hk];exact cC):p:=n
def dy{p:Prop}(n:p:=by exact⟨_,_,zk.mask [0,1,4,7,8] _ _,0,ah,rfl,ah,rfl⟩):p:=n
def dz{p:Prop}(n:p:=by rw[zm an];exact cE 1):p:=n
def dA{p:Prop}(n:p:=by refine dd ?_;exact⟨.inl V,_,zk.var 0 V V V (.cons (.refl _) (.cons (WC.nil 0 1) (.cons (.refl _) .nil))),rfl⟩):p:=n
def dB{p:Prop}(n:p:=by exact⟨.inl V,_,zk.keep [3] 1 _ _ V V V V,rfl,rfl⟩):p:=n
def dC{p:Prop}(n:p:=by rw[hr];exact hk _ w E hh (.v _ V) (qj.refl w E H)):p:=n
def dD{p:Prop}(n:p:=by exact⟨.inl V,_,zk.zN 2 0 5 V V V V (.inr V) V ah (shut_map (enc:=zU) (λ_=>V) _) (zB V),rfl⟩):p:=n
def dE{p:Prop}(n:p:=by refine .inr ⟨ah,uH ?_⟩;exact uI):p:=n
def dF{p:Prop}(n:p:=by refine⟨λh=>absurd h ah,λ_=>dd ?_⟩;refine⟨ah,uH ?_⟩;exact uI):p:=n
def dG{p:Prop}(n:p:=by exact⟨.inl V,_,_,.refl _,rfl,cE 1⟩):p:=n
def dH{p:Prop}(n:p:=by rw[zm an];exact cE 2):p:=n
def dI{p:Prop}(n:p:=by refine zk.trans (zk.qM 2 4 106 5 V V (.inl V) V V) ?_;exact cC):p:=n
def dJ{p:Prop}(n:p:=by have g:=g1.trans g2;exact⟨E1,⟨hR,hs.tmps.mono g.le,hs.defers.grow hs.heap g,ay⟩,g.ix tA⟩):p:=n
def dK{p:Prop}(n:p:=by exact⟨.inr V,_,.refl _,rfl,rfl⟩):p:=n
def dL{p:Prop}(n:p:=by refine .inl ⟨rfl,?_,trivial⟩;exact dm):p:=n
def dM{p:Prop}(n:p:=by refine uD ?_;rw[y4 ah];exact⟨.inl V,_,zk.eZ [1] [6] _ _ V V V V,rfl,rfl⟩):p:=n
def dN{p:Prop}(n:p:=by exact⟨.inl V,_,zk.Iy 2 V V (.inr V) ah (shut_map (λ_=>V) (x::l)),rfl⟩):p:=n
def dO{p:Prop}(n:p:=by refine dd ?_;exact uJ):p:=n
def dP{p:Prop}(n:p:=by exact hr j hj an):p:=n
def dQ{p:Prop}(n:p:=by exact z5 V ⟨wY t a b c,d,Pz a,mt.al,λ_=>⟨MT.l8 hk uO mt.al ⟨uL,λh=>by dsimp only at h|-;omega⟩,(λ_ h=>by dsimp only at h;omega)⟩⟩):p:=n
def dR{p:Prop}(n:p:=by have he:=he.trans (gP (by simp[ha]));refine uD ?_;refine .inl ⟨rfl,?_,(λj hj=>by (by_cases e:j=k);(subst e;exact he);(exact hr j an))⟩;exact dz):p:=n
def dS{p:Prop}(n:p:=by refine ab func327 ?_;refine af h ?_;exact uI):p:=n
def dT{p:Prop}(n:p:=by exact z5 V ⟨t1,ok,id,cS,λ_=>⟨MT.l8 hk uP (cS) ⟨uL,λh=>by dsimp only at h|-;omega⟩,(λ_ h=>by dsimp only at h;omega)⟩⟩):p:=n
def dU{p:Prop}(n:p:=by refine .inl ⟨rfl,?_,trivial⟩;exact dH):p:=n
def dV{p:Prop}(n:p:=by have:=(gN.1 ho).1;exact dt):p:=n
def dW{p:Prop}(n:p:=by exact this):p:=n
def dX{p:Prop}(n:p:=by exact .agg _ ys (ai this.1) (λi c y e1 e2=>this.2 i c y e1 uX) h3):p:=n
def dY{p:Prop}(n:p:=by rw[e];exact uI):p:=n
def dZ{p:Prop}(n:p:=by rw[px];exact uI):p:=n
def gd{p:Prop}(n:p:=by exact⟨rfl,rfl⟩):p:=n
def gh{p:Prop}(n:p:=by exact⟨.inl V,_,zk.zN 2 0 5 V V V V (.inr V) ah bF (shut_map (enc:=zU) (λ_=>V) _) (zB V),rfl⟩):p:=n
def gi{p:Prop}(n:p:=by exact⟨.inl V,_,zk.zN 2 0 5 V V V V (.inr V) ah ah (shut_map (enc:=zU) (λ_=>V) _) (zB V),rfl⟩):p:=n
def gk{p:Prop}(n:p:=by exact z5 V ⟨t1,ok,id,(by decide:i64 0),λh=>nomatch h⟩):p:=n
def gm{p:Prop}(n:p:=by exact .fn f _ _ ys zs (ai t1.1) (ai t2.1) (λi c y e1 e2=>t1.2 i c y e1 uX) (λi c y e1 e2=>t2.2 i c y e1 uX)):p:=n
def gp{p:Prop}(n:p:=by exact⟨E,⟨hR,hs.tmps,hs.defers,ai hs.base⟩,g.ix tA⟩):p:=n
def gu{p:Prop}(n:p:=by exact z5 V ⟨a,b,nx,mt.al,λ_=>⟨MT.Dj hk uO mt.al ⟨uL,uK⟩,(λq=>absurd (hk.symm.trans q) aj)⟩⟩):p:=n
def gz{p:Prop}(n:p:=by exact pH hk):p:=n
def gD{p:Prop}(n:p:=by exact .inr (.inl (ru g.size h1))):p:=n
def gE{p:Prop}(n:p:=by refine .inl ⟨rfl,?_,trivial⟩;rw[zm an,eg];exact cE 4):p:=n
def gF{p:Prop}(n:p:=by exact hl a (by simp[ho,Op.operands,Call.operands];right;have:=gT ha;simpa using this)):p:=n
def gG{p:Prop}(n:p:=by refine .inl ⟨⟨true,[0,2,3],[0,1,5],[1]⟩,ak,uH ?_⟩;refine af (qx w sw) ?_;refine tc ?_;exact uI):p:=n
def gH{p:Prop}(n:p:=by exact⟨.inl V,_,zk.cell 2 V (WC.nil 0 18),rfl⟩):p:=n
def gI{p:Prop}(n:p:=by have:=(hno4 h4).1;omega):p:=n
def gJ{p:Prop}(n:p:=by exact .inl (ru g.size h1)):p:=n
def gK{p:Prop}(n:p:=by rw[gP an];refine uD ?_;rw[y4 ah];exact uJ):p:=n
def gL:=@List.getElem?_eq_getElem
def gM:=@List.getElem?_map
def gN:=@List.getElem?_eq_some_iff
def gO:=@List.length_map
def gP:=@if_neg
def gQ:=@of_decide_eq_true
def gR:=@of_decide_eq_false
def gS:=@if_pos
def gT:=@List.mem_of_getElem?
def gU:=@List.mem_of_mem_take
def gV:=@List.all_eq_true
def gW:=@List.getElem?_append_left
def gX:=@List.getElem?_set_self
def gY:=@Bool.and_eq_true
def gZ:=@Nat.zero_add
def g9:=@Option.map_some
def pd:=@List.getElem?_set
def ph:=@Nat.le_of_ble_eq_true
def pj:=@Nat.le_refl
def pn:=@Array.getElem?_eq_some_iff
def pq:=@List.getElem?_append_right
def pw:=@List.mem_append
def px:=@List.take_length
def pz:=@List.mem_iff_getElem
def pA:=@List.mem_iff_getElem?
def pB:=@List.findIdx?_eq_some_iff_getElem
def pC:=@Nat.zero_le
def pD:=@List.findIdx?_eq_none_iff
def pE:=@decide_eq_true_eq
def pF:=@List.getElem?_take
def pG:=@Option.some.injEq
def pH:=@List.getElem_mem
def pI:=@List.any_eq_false
def pJ:=@Option.bind_some
def pK:=@Array.getElem?_toList
def pL:=@List.set_set
def pM:=@decide_eq_false_iff_not
def pN:=@Option.map_eq_some_iff
def pO:=@List.mem_map
def pP:=@List.take_succ_eq_append_getElem
def pQ:=@Nat.mul_le_mul_right
def pR:=@Nat.not_lt_zero
def pS:=@Bool.not_eq_true'
def pT:=@List.getElem?_set_ne
def pU:=@beq_iff_eq
def pV:=@Nat.lt_of_lt_of_le
def pW:=@List.length_append
def pX:=@List.mem_singleton
def pY:=@Array.getD_eq_getD_getElem?
def pZ:=@List.map_append
def rb:=@List.getElem?_mapIdx
def rh:=@List.ext_getElem?
def ri:=@List.any_eq_true
def rj:=@List.getElem?_drop
def rk:=@Bool.or_eq_false_iff
def rm:=@Option.getD_some
def rp:=@Nat.add_mul
def rq:=@List.getElem?_eq_none
def ru:=@Nat.le_trans
def ry:=@List.eq_of_mem_replicate
def rz:=@List.getElem?_eq_none_iff
def rA:=@decide_eq_false
def rB:=@List.mem_or_eq_of_mem_set
def rC:=@Option.some.inj
def rD:=@Option.bind_eq_some_iff
def rE:=@List.mem_cons_of_mem
def rF:=@List.getElem?_modify
def rG:=@Array.eq_empty_of_size_eq_zero
def rH:=@decide_eq_true
def rI:=@Bool.or_eq_true
def rJ:=@List.cons_ne_nil
def rK:=@List.length_cons
def rL:=@List.append_assoc
def rM:=@List.mem_cons_self
def rO:=@List.take_of_length_le
def rP:=@List.all_eq_false
def rQ:=@List.getElem_take
def rR:=@List.getElem?_cons_succ
def rS:=@List.mem_range
def rT:=@Array.getElem?_eq_getElem
def rU:=@Nat.lt_trichotomy
def rV:=@Bool.false_or
def rW:=@List.length_singleton
def rX:=@Array.mem_of_getElem?
def rY:=@List.findIdx?_cons
def rZ:=@List.length_eq_zero_iff
def r3:=@List.map_set
def r4:=@Nat.sub_zero
def r5:=@Nat.le_succ_of_le
def r6:=@congrArg
def r7:=@Nat.sub_self
def r8:=@Option.map_eq_map
def r9:=@List.map_congr_left
def sa:=@List.getElem?_range
def sd:=@List.map_map
def sf:=@Nat.add_assoc
def so:=@Int.tmod_eq_emod_of_nonneg
def sq:=@Bool.and_false
def ss:=@Int.emod_lt_of_pos
def sx:=@Bool.not_eq_false'
def sy:=@Nat.le_succ
def sA:=@Int.le_refl
def sB:=@Int.emod_nonneg
def sC:=@List.append_nil
def sD:=@List.length_set
def sE:=@List.all_cons
def sF:=@List.mem_cons
def sG:=@List.map_take
def sH:=@List.drop_zero
def sI:=@Array.getElem?_eq_none
def sJ:=@Bool.false_eq_true
def sK:=@List.getElem?_toArray
def sL:=@Array.getElem?_modify
def sM:=@List.map_cons
def sN:=@List.take_add_one
def sO:=@List.mem_of_mem_drop
def sP:=@Nat.lt_or_ge
def sQ:=@Nat.add_zero
def sR:=@Array.all_toList
def sS:=@List.replicate_succ
def sT:=@List.length_pos_iff
def sU:=@List.getElem?_replicate
def sV:=@List.mem_replicate
def sW:=@Nat.eq_zero_or_pos
def sX:=@Array.mem_iff_getElem?
def sY:=@List.size_toArray
def sZ:=@List.take_append_drop
def s4:=@Nat.ne_of_lt
def s5:=@Nat.zero_mul
def s6:=@Nat.mul_comm
def s7:=@List.mapM_cons
def s8:=@Bool.and_eq_false_iff
def s9:=@List.replicate_succ'
def ti:=@Array.toList_inj
def tj:=@List.length_take
def tp:=@List.range_eq_range'
def tq:=@List.map_eq_cons_iff
def tr:=@Array.getElem?_append_left
def tt:=@List.exists_cons_of_ne_nil
def tu:=@Bool.and_true
def tv:=@Nat.mul_one
def tw:=@Array.toList_append
def tx:=@Int.toNat_of_nonneg
def tz:=@List.takeWhile_cons
def ua:=@List.range_succ
def ub:=@Bool.eq_iff_iff
def uc:=@List.drop_eq_getElem_cons
def ud:=@Array.getElem?_map
def ue:=@Array.setIfInBounds_comm
def uf:=@Bool.or_true
def ug:=@List.all_nil
def uh:=@List.take_left
def ui:=@List.getElem?_cons_zero
def uj:=@Int.emod_eq_of_lt
def uk:=@Array.size_append
def um:=@Int.toNat_natCast
def uo:=@Bool.not_true
def uq:=@Bool.or_false
def ur:=@Nat.mod_eq_of_lt
def uu:=@Array.toList_map
def uv:=@List.set_append_right
def uw:=@Nat.eq_of_beq_eq_true
def ux:=@List.length_replicate
def uy:=@List.set_append_left
def uz:=@List.mem_mapIdx
def u1:=@List.mem_append_left
def u3:=@List.eq_nil_iff_forall_not_mem
def u4:=@List.eq_nil_of_length_eq_zero
def u5:=@List.drop_append_of_le_length
def u6:=@List.take_zero
def u7:=@Array.getElem?_setIfInBounds
def u9:=@Int.natCast_nonneg
def ec:=@List.getD_eq_getElem?_getD
def ed:=@Int.sub_mul_emod_self_left
def ef:=@List.findIdx?_map
def eh:=@List.foldl_append
def ej:=@List.mem_toArray
def eu:=@Nat.add_comm
def ey:=@Option.bind_none
def ez:=@List.isEmpty_iff
def eD:=@Bool.true_or
def eF:=@List.cons_append
def eI:=@List.foldl_cons
def eJ:=@Nat.mul_add_mod
def eK:=@List.all_append
def eL:=@Nat.mod_lt
namespace Go.Ab
variable{i:TypeInfo}{t e:TypeId}{α:Type}{y u:Value}{ys:List Value}{o:Oper}{w w':World}{b B off kd sz:Nat}{l:List Oper}{a:Act}{ops:Array Oper}{P:Program}{p q g:Prop}
abbrev fA:=Nat×Nat
variable{hops:List fA}
inductive C where
 |v (x:Value)
 |eM (o sz:Nat) (rows:List (List C))
 |jL (cells:List C)
 |ref (id:Nat) (hops:List fA) (sz i k:Nat)
 |sl (id:Nat) (hops:List fA) (sz lo len:Nat) (full:Bool)
 |fn (f:FuncId) (first caps:List C)
 |mp (id:Nat)
 |agg (cs:List C)
 |eR (vs:List C)
 |un
 |za
 |gl (id sz:Nat) (rows:List (List C))
 |fK (t:TypeId) (c:C)
 |rc (o:Obj)
variable{c:C}{cs:List C}{ρ:Operand->C}{x:Nat×List (List C)}{rows rows':List (List C)}{f:List (List C)->List (List C)}
structure Ob where
 kind:Nat
 ty:TypeId
 sz:Nat
 rows:List (List C)
 fz:Nat:=0
abbrev zq:=List Ob
variable{H H':zq}{R:C->zq->Prop}
structure Env where
 n:Nat
 β:Nat->List fA->Nat
 κ:Nat->List fA->Nat
 St:Nat->Nat->Option Value
 G:Nat->Nat->Option Value:=λ_ _=>none
variable{E E':Env}
def Env.shut(E:Env):Env:={E with n:=0}
def Env.at(E:Env)(kd:Nat):Env:=if kd=2 then E.shut else E
inductive L:Env->C->Value->Prop
 |v {E:Env} (x:Value) (h:x.oneCell'=true):L E (.v x) x
 |eM {E:Env} (o sz:Nat) (rows:List (List C)) (b off cap:Nat) (us:Nat->Nat->Value) (ho:o=0\/o=1/\cap=rows.length) (hc:rows.length<=cap)
   (hsz:∀r∈rows,r.length=sz)
   (hst:∀(i:Nat) r (k:Nat) c,rows[i]?=some r->r[k]?=some c->E.St b (off+i*sz+k)=some (us i k))
   (hL:∀(i:Nat) r (k:Nat) c,rows[i]?=some r->r[k]?=some c->L E.shut c (us i k)):
   L E (.eM o sz rows) (.slice (some ⟨b,off,none⟩) rows.length cap)
 |xu {E:Env} (o sz:Nat) (ho:o=0\/o=1) (a:Option Addr:=none):L E (.eM o sz []) (.slice a 0 0)
 |jL {E:Env} (cells:List C) (b off:Nat) (us:Nat->Value) (hst:∀(k:Nat) c,cells[k]?=some c->E.St b (off+k)=some (us k))
   (hL:∀(k:Nat) c,cells[k]?=some c->L E.shut c (us k)):L E (.jL cells) (.pointer (some ⟨b,off,none⟩))
 |ref {E:Env} (id:Nat) (hops:List fA) (sz i k:Nat) (hn:id<E.n):L E (.ref id hops sz i k) (.pointer (some ⟨E.β id hops,i*sz+k,none⟩))
 |sl {E:Env} (id:Nat) (hops:List fA) (sz lo len:Nat) (full:Bool) (cap:Nat) (hn:id<E.n) (hlen:len<=cap) (hf:full=true->cap=len) (hf':full=false->lo+cap=E.κ id hops):
   L E (.sl id hops sz lo len full) (.slice (some ⟨E.β id hops,lo*sz,none⟩) len cap)
 |fn {E:Env} (f:FuncId) (first caps:List C) (ys zs:Array Value) (h1:first.length=ys.size) (h2:caps.length=zs.size)
   (h3:∀(i:Nat) c y,first[i]?=some c->ys[i]?=some y->L E c y) (h4:∀(i:Nat) c y,caps[i]?=some c->zs[i]?=some y->L E c y):
   L E (.fn f first caps) (.func (.func f) ys zs)
 |mp {E:Env} (id:Nat) (hn:id<E.n):L E (.mp id) (.map (some (E.β id [])))
 |agg {E:Env} (cs:List C) (ys:Array Value) (h1:cs.length=ys.size) (h2:∀(i:Nat) c y,cs[i]?=some c->ys[i]?=some y->L E c y) (h3:∀y∈ys,y.oneCell'=true):L E (.agg cs) (.agg ys)
 |eR {E:Env} (cs:List C) (ys:Array Value) (h1:cs.length=ys.size) (h2:∀(i:Nat) c y,cs[i]?=some c->ys[i]?=some y->L E c y):L E (.eR cs) (.tuple ys)
 |un {E:Env}:L E .un undef
 |za {E:Env} (y:Value):L E .za y
 |gl {E:Env} (id sz:Nat) (rows:List (List C)) (y:Value) (hn:id<E.n) (hg:E.G id rows.length=some y) (h:L E.shut (.eM 0 sz rows) y):L E (.gl id sz rows) y
 |fK {E:Env} (t:TypeId) (c:C) (y:Value) (h:L E c y):L E (.fK t c) (.iface t y)
structure Env.le(E E':Env):Prop where
 n:E.n<=E'.n
 β:∀id hops,id<E.n->E'.β id hops=E.β id hops
 κ:∀id hops,id<E.n->E'.κ id hops=E.κ id hops
 St:∀b o u,E.St b o=some u->E'.St b o=some u
 G:∀id k u,id<E.n->E.G id k=some u->E'.G id k=some u
def Env.le.refl(E:Env):E.le E:=⟨pj _,λ_ _ _=>V,λ_ _ _=>V,λ_ _ _ h=>h,λ_ _ _ _ h=>h⟩
def Env.le.trans{E E' E'':Env}(h:E.le E')(h':E'.le E''):E.le E'':=
 ⟨ru h.n h'.n,λid hops hi=>(h'.β id hops (pV hi h.n)).trans (h.β id hops hi),λid hops hi=>(h'.κ id hops (pV hi h.n)).trans (h.κ id hops hi),
  λb o u hu=>h'.St b o u (h.St b o u hu),λid k u hi hu=>h'.G id k u (pV hi h.n) (h.G id k u hi hu)⟩
def Env.Bz(E:Env):E.shut.le E:=⟨pC _,λ_ _ h=>absurd h (pR _),λ_ _ h=>absurd h (pR _),λ_ _ _ h=>h,λ_ _ _ h _=>absurd h (pR _)⟩
def Env.le.shut{E E':Env}(h:E.le E'):E.shut.le E'.shut:=⟨pj _,λ_ _ h=>absurd h (pR _),λ_ _ h=>absurd h (pR _),h.St,λ_ _ _ h _=>absurd h (pR _)⟩
def Env.le.at{E E':Env}(h:E.le E')(kd:Nat):(E.at kd).le (E'.at kd):=by unfold Env.at;split;exact h.shut;exact h
def Env.GU(E:Env)(kd:Nat):(E.at kd).le E:=by unfold Env.at;split;exact E.Bz;exact .refl E
def L.mono(h:E.le E')(hl:L E c y):L E' c y:=by
 induction hl generalizing E' with
 |v x hx=>exact .v x hx
 |eM o sz rows b off cap us ho hc hsz hst _ ih=>exact .eM o sz rows b off cap us ho hc hsz (λi r k c h1 h2=>h.St _ _ _ (hst i r k c h1 h2)) (λi r k c h1 h2=>ih i r k c h1 h2 h.shut)
 |xu o sz ho a=>exact .xu o sz ho a
 |jL cells b off us hst _ ih=>exact .jL cells b off us (λk c h1=>h.St _ _ _ (hst k c h1)) (λk c h1=>ih k c h1 h.shut)
 |ref id hops sz i k hn=>rw[<-h.β id hops hn];exact .ref id hops sz i k (pV hn h.n)
 |sl id hops sz lo len full cap hn hlen hf hf'=>
  rw[<-h.β id hops hn];exact .sl id hops sz lo len full cap (pV hn h.n) hlen hf (λe=>by rw[h.κ id hops hn];exact hf' e)
 |fn f first caps ys zs h1 h2 _ _ ih1 ih2=>exact .fn f first caps ys zs h1 h2 (λi c y e1 e2=>ih1 i c y e1 e2 h) (λi c y e1 e2=>ih2 i c y e1 e2 h)
 |mp id hn=>rw[<-h.β id [] hn];exact .mp id (pV hn h.n)
 |agg cs ys h1 _ h3 ih=>exact .agg cs ys h1 (λi c y e1 e2=>ih i c y e1 e2 h) h3
 |eR cs ys h1 _ ih=>exact .eR cs ys h1 (λi c y e1 e2=>ih i c y e1 e2 h)
 |un=>exact .un
 |za y=>exact .za y
 |gl id sz rows y hn hg _ ih=>exact .gl id sz rows y (pV hn h.n) (h.G _ _ _ hn hg) (ih h.shut)
 |fK t c y _ ih=>exact .fK t c y (ih h)
def oK:C->Bool
 |.v _|.eM .. |.jL _=>true
 |_=>false
def BQ:C->Bool
 |.agg cs=>cs.all oK
 |c=>oK c
def jM:C->Bool
 |.fn _ first caps=>first.all BQ && caps.all BQ
 |c=>oK c
def L.kN(h:L E c y)(hc:oK c=true):L E.shut c y:=by
 cases h with
 |v x hx=>exact .v _ hx
 |eM o sz rows b off cap us ho h2 hsz hst hL=>exact .eM o sz rows b off cap us ho h2 hsz hst hL
 |xu o sz ho a=>exact .xu o sz ho a
 |jL cells b off us hst hL=>exact .jL cells b off us hst hL
 |_=>simp[oK]at hc
def L.Lv(h:L E c y)(hc:BQ c=true):L E.shut c y:=by
 cases h with
 |agg cs ys h1 h2 h3=>
  refine .agg cs ys h1 (λi c y e1 e2=>(h2 i c y e1 e2).kN ?_) h3;exact gV.1 (show cs.all oK=true from hc) _ (gT e1)
 |v x hx=>exact(L.v (E:=E) _ hx).kN hc
 |eM o sz rows b off cap us ho h2 hsz hst hL=>exact(L.eM (E:=E) o sz rows b off cap us ho h2 hsz hst hL).kN hc
 |xu o sz ho a=>exact(L.xu (E:=E) o sz ho a).kN hc
 |jL cells b off us hst hL=>exact(L.jL (E:=E) cells b off us hst hL).kN hc
 |_=>simp[BQ,oK]at hc
def L.vW(h:L E c y)(hc:jM c=true):L E.shut c y:=by
 cases h with
 |fn f first caps ys zs h1 h2 h3 h4=>
  have hc:(first.all BQ && caps.all BQ)=true:=hc;rw[gY]at hc;exact .fn f first caps ys zs h1 h2 (λi c y e1 e2=>(h3 i c y e1 e2).Lv (gV.1 hc.1 _ (gT e1))) (λi c y e1 e2=>(h4 i c y e1 e2).Lv (gV.1 hc.2 _ (gT e1)))
 |v x hx=>exact(L.v (E:=E) _ hx).kN hc
 |eM o sz rows b off cap us ho h2 hsz hst hL=>exact(L.eM (E:=E) o sz rows b off cap us ho h2 hsz hst hL).kN hc
 |xu o sz ho a=>exact(L.xu (E:=E) o sz ho a).kN hc
 |jL cells b off us hst hL=>exact(L.jL (E:=E) cells b off us hst hL).kN hc
 |_=>simp[jM,oK]at hc
def LL(E:Env)(cs:List C)(ys:List Value):Prop:=cs.length=ys.length/\∀(i:Nat) c y,cs[i]?=some c->ys[i]?=some y->L E c y
def LL.mono{E E':Env}(h:E.le E'){cs:List C}{ys:List Value}(hl:LL E cs ys):LL E' cs ys:=
 ⟨hl.1,λi c y h1 h2=>(hl.2 i c y h1 h2).mono h⟩
def LL.nil:LL E [] []:=⟨rfl,by simp⟩
def LL.cons(h:L E c y)(hl:LL E cs ys):LL E (c::cs) (y::ys):=by
 refine⟨by simp[hl.1],?_⟩;intro i c' y' h1 h2;cases i with
 |zero=>simp at h1 h2;subst h1;subst h2;exact h
 |succ i=>simp at h1 h2;exact hl.2 i c' y' h1 h2
def LL.cons_inv(h:LL E (c::cs) (y::ys)):L E c y/\LL E cs ys:=
 ⟨h.2 0 c y V V,by simpa using h.1,λi c' y' h1 h2=>h.2 (i+1) c' y' (by simpa using h1) (by simpa using h2)⟩
def LL.one(h:L E c y):LL E [c] [y]:=LL.cons h LL.nil
def LL.append{cs':List C}{ys':List Value}(h:LL E cs ys)(h':LL E cs' ys'):LL E (cs++cs') (ys++ys'):=by
 refine⟨by simp[h.1,h'.1],?_⟩;intro i c y h1 h2;by_cases hi:i<cs.length
 .rw[gW hi]at h1;rw[gW (by rw[<-h.1];exact hi)]at h2;exact h.2 i c y h1 h2
 .rw[pq (by omega)]at h1;rw[pq (by rw[<-h.1];omega),<-h.1]at h2;exact h'.2 _ c y h1 h2
def LL.get(h:LL E cs ys){i:Nat}(hc:cs[i]?=some c):∃y,ys[i]?=some y/\L E c y:=by
 have hi:i<ys.length:=by rw[<-h.1];exact(gN.1 hc).1
 exact⟨ys[i],by simp[hi],h.2 i c ys[i] hc (by simp[hi])⟩
def LL.take{E:Env}{cs:List C}{ys:List Value}(h:LL E cs ys)(n:Nat):LL E (cs.take n) (ys.take n):=by
 refine⟨by simp[h.1],?_⟩;intro i c y h1 h2;rw[pF]at h1 h2;split at h1
 .rename_i hi;rw[gS hi]at h2;exact h.2 i c y h1 h2
 .cases h1
def LL.drop{E:Env}{cs:List C}{ys:List Value}(h:LL E cs ys)(n:Nat):LL E (cs.drop n) (ys.drop n):=by
 refine⟨by simp[h.1],?_⟩;intro i c y h1 h2;rw[rj]at h1 h2;exact h.2 _ c y h1 h2
def LL.set{E:Env}{cs:List C}{ys:List Value}(h:LL E cs ys){c:C}{y:Value}(hl:L E c y)(i:Nat):LL E (cs.set i c) (ys.set i y):=by
 refine⟨by simp[h.1],?_⟩;intro j c' y' h1 h2;rw[pd]at h1 h2;by_cases hij:i=j
 .subst hij;rw[gS V]at h1 h2;split at h1
  .split at h2
   .cases h1;cases h2;exact hl
   .cases h2
  .cases h1
 .rw[gP hij]at h1 h2;exact h.2 j c' y' h1 h2
def C.cells:C->List C
 |.agg cs=>cs
 |c=>[c]
def L.cells{E:Env}{c:C}{y:Value}(h:L E c y)(hj:c≠.za)(hu:c≠.un):LL E c.cells y.cells.toList:=by
 have one:∀(c:C) (y:Value),L E c y->c.cells=[c]->y.cells= #[y]->LL E c.cells y.cells.toList:=λc y h e1 e2=>by
  rw[e1,e2];exact LL.cons h LL.nil
 cases h with
 |v x hx=>exact one _ _ (.v _ hx) V (by cases y <;> simp_all[Value.cells,Value.oneCell'])
 |agg cs ys h1 h2 h3=>exact⟨by simpa [C.cells,Value.cells] using h1,λi c y e1 e2=>h2 i c y e1 (by simpa [Value.cells] using e2)⟩
 |un=>exact absurd V hu
 |za=>exact absurd V hj
 |eR cs ys h1 h2=>exact one _ _ (.eR cs ys h1 h2) V V
 |eM o sz rows b off cap us ho hc hsz hst hL=>exact one _ _ (.eM o sz rows b off cap us ho hc hsz hst hL) V V
 |xu o sz ho a=>exact one _ _ (.xu o sz ho a) V V
 |jL cells b off us hst hL=>exact one _ _ (.jL cells b off us hst hL) V V
 |ref id hops sz i k hn=>exact one _ _ (.ref id hops sz i k hn) V V
 |sl id hops sz lo len full cap hn hlen hf hf'=>exact one _ _ (.sl id hops sz lo len full cap hn hlen hf hf') V V
 |fn f first caps ys zs h1 h2 h3 h4=>exact one _ _ (.fn f first caps ys zs h1 h2 h3 h4) rfl rfl
 |mp id hn=>exact one _ _ (.mp id hn) V V
 |gl id sz rows y hn hg h=>exact one _ _ (.gl id sz rows y hn hg h) V (by cases h <;> rfl)
 |fK t c y h=>exact one _ _ (.fK t c y h) V V
def cellAt(rows:List (List C))(i k:Nat):Option C:=(rows[i]?).bind (·[k]?)
def vH:Nat->List (List C)->List fA->Option (Nat×List (List C))
 |sz,rows,[]=>some (sz,rows)
 |_,rows,(i,k)::hs=>match cellAt rows i k with
  |some (.eM 2 sz' rows')=>vH sz' rows' hs
  |_=>none
def qd(H:zq)(id:Nat)(hops:List fA):Option (Nat×List (List C)):=
 match H[id]? with
 |some ob=>if ob.kind=1\/ob.kind=2 then vH ob.sz ob.rows hops else none
 |none=>none
def qN(E:Env)(kd:Nat)(id:Nat)(hops:List fA)(i k:Nat)(c:C)(u:Value):Prop:=
 match c with
 |.eM 2 _ rows'=>u=.slice (some ⟨E.β id (hops++[(i,k)]),0,none⟩) rows'.length (E.κ id (hops++[(i,k)]))
 |c=>L (E.at kd) c u/\u.oneCell'=true
structure BP(w:World)(E:Env)(kd:Nat)(id:Nat)(hops:List fA)(sz:Nat)(rows:List (List C)):Prop where
 len:rows.length<=E.κ id hops
 row:∀r∈rows,r.length=sz
 fb:∃cur e,w.heap[E.β id hops]?=some (.cells cur e (0,0))/\cur.size=E.κ id hops*sz/\
  ∀i k c,cellAt rows i k=some c->∃u,cur[i*sz+k]?=some u/\qN E kd id hops i k c u
structure z8(w:World)(E:Env)(H:zq):Prop where
 n:E.n=H.length
 fb:∀id ob hops sz rows,H[id]?=some ob->qd H id hops=some (sz,rows)->BP w E ob.kind id hops sz rows
 inj:∀id hops id' hops' x y,qd H id hops=some x->qd H id' hops'=some y->E.β id hops=E.β id' hops'->id=id'/\hops=hops'
 qn:∀b o u,E.St b o=some u->w.cell? ⟨b,o,none⟩=some u/\u.oneCell'=true
 sep:∀id hops x o u,qd H id hops=some x->E.St (E.β id hops) o=some u->hops=[]/\∃ob,H[id]?=some ob/\o<ob.fz*ob.sz
 ty:∀id ob,H[id]?=some ob->ob.kind=2->∃cur,w.heap[E.β id []]?=some (.cells cur ob.ty (0,0))
 fz:∀(id:Nat) (ob:Ob),H[id]?=some ob->ob.fz<=ob.rows.length
structure S where
 tmps:List C
 H:zq
variable{s:S}
def qY(E:Env)(H:zq)(b:Nat):Prop:=∃id hops x,qd H id hops=some x/\E.β id hops=b
structure qj(w:World)(E:Env)(H:zq)(w':World)(E':Env)(H':zq):Prop where
 le:E.le E'
 CV:∀(id k:Nat),id<E.n->E'.G id k=E.G id k
 os:w'.os=w.os
 tape:w'.tape=w.tape
 output:w'.output=w.output
 size:w.heap.size<=w'.heap.size
 frame:∀k,k<w.heap.size->¬qY E H k->w'.heap[k]?=w.heap[k]?
 jx:∀b o u,E'.St b o=some u->E.St b o=some u\/w.heap.size<=b\/qY E H b
 own:∀b,qY E' H' b->w.heap.size<=b\/qY E H b
def qj.refl(w:World)(E:Env)(H:zq):qj w E H w E H:=
 ⟨Env.le.refl E,λ_ _ _=>V,rfl,rfl,rfl,pj _,λ_ _ _=>V,λ_ _ _ h=>.inl h,λ_ h=>.inr h⟩
def qj.trans{w w1 w2:World}{E E1 E2:Env}{H H1 H2:zq}(g:qj w E H w1 E1 H1)(h:qj w1 E1 H1 w2 E2 H2):qj w E H w2 E2 H2 where
 le:=g.le.trans h.le
 CV id k hi:=(h.CV id k (pV hi g.le.n)).trans (g.CV id k hi)
 os:=h.os.trans g.os
 tape:=h.tape.trans g.tape
 output:=h.output.trans g.output
 size:=ru g.size h.size
 frame k hk ho:=(h.frame k (pV hk g.size) λhc=>(g.own k hc).elim (λhs=>by omega) ho).trans (g.frame k hk ho)
 jx b o u hu:=by
  rcases h.jx b o u hu with h1|h1|h1
  .exact g.jx b o u h1
  .exact .inr (.inl (ru g.size h1))
  .rcases g.own b h1 with h2|h2
   .exact .inr (.inl h2)
   .exact .inr (.inr h2)
 own b hb:=by
  rcases h.own b hb with h1|h1
  .exact .inl (ru g.size h1)
  .exact g.own b h1
def qD(E:Env)(H:zq)(id b:Nat):Prop:=∃ob cap,H[id]?=some ob/\ob.kind=4/\E.G id ob.rows.length=some (.slice (some ⟨b,0,none⟩) ob.rows.length cap)/\cap≠ob.rows.length
def ju(H:zq)(id b:Nat):Prop:=∃ob o t,H[id]?=some ob/\ob.kind=4/\(ob.rows=[.rc o::t]/\ob.fz=1)/\ob.ty=b
def CD:Obj->Bool
 |.loop _=>true
 |.map ..=>true
 |.mapIter ..=>true
 |_=>false
def Hl:Obj->List Value
 |.loop r=>r.tmps.toList
 |_=>[]
def lh(E:Env)(t:List C)(o:Obj):Prop:=LL E t (Hl o)\/∃es k,o=.map es k/\LL E t (es.toList.map (·.val))
def lh.map{t:List C}{o:Obj}(h:lh E t o)(hf:∀ys,LL E t ys->LL E' t ys):lh E' t o:=h.imp (hf _) λ⟨es,k,e,hl⟩=>⟨es,k,e,hf _ hl⟩
def lh.mono{E E':Env}{t:List C}{o:Obj}(h:lh E t o)(hle:E.le E'):lh E' t o:=h.map λ_ hl=>hl.mono hle
def lh.loop{t:List C}{r:Loop}(h:lh E t (.loop r)):LL E t r.tmps.toList:=h.elim id λ⟨_,_,e,_⟩=>by cases e
def z8.CK(h:z8 w E H)(ho:qY E H b):∃cur e,w.heap[b]?=some (.cells cur e (0,0)):=by
 obtain⟨id,hops,x,hx,rfl⟩:=ho;have hx':=hx;unfold qd at hx';split at hx'
 .rename_i ob hob;obtain⟨cur,e,h1,_⟩:=(h.fb id ob hops x.1 x.2 hob hx).fb;exact⟨cur,e,h1⟩
 .cases hx'
structure lX(w:World)(E:Env)(H:zq):Prop where
 val:∀(id:Nat) (ob:Ob),H[id]?=some ob->ob.kind=4->∃a cap,E.G id ob.rows.length=some (.slice a ob.rows.length cap)/\(cap=ob.rows.length\/∃b,a=some ⟨b,0,none⟩/\ob.rows.length<=cap)
 fb:∀(id b:Nat) (ob:Ob),qD E H id b->H[id]?=some ob->∃cur cap,E.G id ob.rows.length=some (.slice (some ⟨b,0,none⟩) ob.rows.length cap)/\w.heap[b]?=some (.cells cur ob.ty (0,0))/\cur.size=cap*ob.sz
 sep:∀id b,qD E H id b->¬qY E H b
 inj:∀id id' b,qD E H id b->qD E H id' b->id=id'
 st:∀(id b:Nat) (ob:Ob) o u,qD E H id b->H[id]?=some ob->E.St b o=some u->o<ob.rows.length*ob.sz
 top:∀(id:Nat) (ob:Ob) (k:Nat) u,H[id]?=some ob->ob.kind=4->E.G id k=some u->k<=ob.rows.length
 ic:∀(id:Nat) (ob:Ob) (o:Obj) (t:List C),H[id]?=some ob->ob.kind=4->(ob.rows=[.rc o::t]/\ob.fz=1)->(w.heap[ob.ty]?=some o/\CD o=true)/\lh E t o
 wJ:∀id id' b,ju H id b->ju H id' b->id=id'
def jm(H H':zq):Prop:=∀(id:Nat) (ob:Ob),ob.kind=4->(H'[id]?=some ob↔H[id]?=some ob)
def jm.refl(H:zq):jm H H:=λ_ _ _=>Iff.rfl
structure qv(w:World)(E:Env)(H:zq):Prop where
 base:z8 w E H
 eS:lX w E H
def qv.n{w:World}{E:Env}{H:zq}(h:qv w E H):E.n=H.length:=h.base.n
def xd(E:Env)(H:zq)(b:Nat):Prop:=qY E H b\/∃id,(qD E H id b\/ju H id b)
structure Grow(w:World)(E:Env)(H:zq)(w':World)(E':Env)(H':zq):Prop where
 le:E.le E'
 os:w'.os=w.os
 tape:w'.tape=w.tape
 output:w'.output=w.output
 size:w.heap.size<=w'.heap.size
 frame:∀k,k<w.heap.size->¬xd E H k->w'.heap[k]?=w.heap[k]?
 jx:∀b o u,E'.St b o=some u->E.St b o=some u\/w.heap.size<=b\/xd E H b
 own:∀b,xd E' H' b->w.heap.size<=b\/xd E H b
def Grow.refl(w:World)(E:Env)(H:zq):Grow w E H w E H:=
 ⟨Env.le.refl E,rfl,rfl,rfl,pj _,λ_ _ _=>V,λ_ _ _ h=>.inl h,λ_ h=>.inr h⟩
def Grow.trans{w w1 w2:World}{E E1 E2:Env}{H H1 H2:zq}(g:Grow w E H w1 E1 H1)(h:Grow w1 E1 H1 w2 E2 H2):Grow w E H w2 E2 H2 where
 le:=g.le.trans h.le
 os:=h.os.trans g.os
 tape:=h.tape.trans g.tape
 output:=h.output.trans g.output
 size:=ru g.size h.size
 frame k hk ho:=(h.frame k (pV hk g.size) λhc=>(g.own k hc).elim (λhs=>by omega) ho).trans (g.frame k hk ho)
 jx b o u hu:=by
  rcases h.jx b o u hu with h1|h1|h1
  .exact g.jx b o u h1
  .exact .inr (.inl (ru g.size h1))
  .rcases g.own b h1 with h2|h2
   .exact .inr (.inl h2)
   .exact .inr (.inr h2)
 own b hb:=by
  rcases h.own b hb with h1|h1
  .exact .inl (ru g.size h1)
  .exact g.own b h1
def qD.back(hg:lX w E H)(hn:E.n=H.length)(hle:E.le E')(hk:jm H H'){id:Nat}(h:qD E' H' id b):qD E H id b:=by
 obtain⟨ob,cap,h1,h2,h3,h4⟩:=h;have h1':=(hk id ob h2).1 h1;obtain⟨a,cap',e1,_⟩:=hg.val id ob h1' h2;have e2:=hle.G id ob.rows.length _ (by rw[hn];exact(gN.1 h1').1) e1;rw[h3]at e2;cases e2
 exact⟨ob,cap,h1',h2,e1,h4⟩
def ju.back(hk:jm H H'){id:Nat}(h:ju H' id b):ju H id b:=by
 obtain⟨ob,r,t,h1,h2,h3⟩:=h;exact⟨ob,r,t,(hk id ob h2).1 h1,h2,h3⟩
def lX.step(h:qv w E H)(g:qj w E H w' E' H')(hk:jm H H'):lX w' E' H' where
 val id ob hob hkd:=by
  have hob':=(hk id ob hkd).1 hob;obtain⟨a,cap,e1,e2⟩:=h.eS.val id ob hob' hkd;exact⟨a,cap,g.le.G id ob.rows.length _ (by rw[h.n];exact(gN.1 hob').1) e1,e2⟩
 fb id b ob ho hob:=by
  have ho':=ho.back h.eS h.n g.le hk;obtain⟨ob2,_,e1,e2,_⟩:=ho;rw[hob]at e1;cases e1
  have hob':=(hk id ob e2).1 hob;obtain⟨cur,cap,e3,e4,e5⟩:=h.eS.fb id b ob ho' hob';refine⟨cur,cap,g.le.G id ob.rows.length _ (by rw[h.n];exact(gN.1 hob').1) e3,?_,e5⟩;rw[g.frame b (pn.1 e4).1 (h.eS.sep id b ho')];exact e4
 sep id b ho:=by
  have ho':=ho.back h.eS h.n g.le hk;intro hc;rcases g.own b hc with h1|h1
  .obtain⟨ob,_,e1,_⟩:=ho';obtain⟨cur,cap,e3,e4,e5⟩:=h.eS.fb id b ob (ho.back h.eS h.n g.le hk) e1;have:=(pn.1 e4).1;omega
  .exact h.eS.sep id b ho' h1
 inj id id' b h1 h2:=h.eS.inj id id' b (h1.back h.eS h.n g.le hk) (h2.back h.eS h.n g.le hk)
 st id b ob o u ho hob hu:=by
  have ho':=ho.back h.eS h.n g.le hk;obtain⟨ob2,_,e1,e2,_⟩:=ho;rw[hob]at e1;cases e1
  have hob':=(hk id ob e2).1 hob;rcases g.jx b o u hu with h1|h1|h1
  .exact h.eS.st id b ob o u ho' hob' h1
  .obtain⟨cur,cap,e3,e4,e5⟩:=h.eS.fb id b ob ho' hob';have:=(pn.1 e4).1;omega
  .exact absurd h1 (h.eS.sep id b ho')
 top id ob k u hob hkd hu:=by
  have hob':=(hk id ob hkd).1 hob;rw[g.CV id k (by rw[h.n];exact(gN.1 hob').1)]at hu;exact h.eS.top id ob k u hob' hkd hu
 ic id ob r t hob hkd hr:=by
  obtain⟨⟨h1,hf⟩,hl⟩:=h.eS.ic id ob r t ((hk id ob hkd).1 hob) hkd hr;refine⟨⟨?_,hf⟩,hl.mono g.le⟩;rw[g.frame ob.ty (pn.1 h1).1 λhc=>by obtain⟨cur,e,h2⟩:=h.base.CK hc;rw[h1]at h2;cases h2;cases hf];exact h1
 wJ id id' b h1 h2:=h.eS.wJ id id' b (h1.back hk) (h2.back hk)
def qj.up(h:qv w E H)(g:qj w E H w' E' H')(hk:jm H H'):Grow w E H w' E' H' where
 le:=g.le
 os:=g.os
 tape:=g.tape
 output:=g.output
 size:=g.size
 frame k h1 h2:=g.frame k h1 λhc=>h2 (.inl hc)
 jx b o u hu:=(g.jx b o u hu).imp_right λh=>h.imp_right .inl
 own b hb:=by
  rcases hb with hb|⟨id,hb|hb⟩
  .exact(g.own b hb).imp_right .inl
  .exact .inr (.inr ⟨id,.inl (hb.back h.eS h.n g.le hk)⟩)
  .exact .inr (.inr ⟨id,.inr (hb.back hk)⟩)
abbrev AA(D:Nat):Deferred:={target:=.collected D,args:= #[]}
def Marks(m:Nat)(w:World):List Deferred->Prop
 |[]=>m<=w.heap.size
 |d::ds=>(∃D,d=AA D/\m<=D/\w.heap[D]?=some (.deferred (some []))/\AA D∉ds)/\Marks m w ds
def Marks.mono{m:Nat}{w w':World}(hsz:w.heap.size<=w'.heap.size):∀{ds:List Deferred},Marks m w ds->(∀D,AA D∈ds->w.heap[D]?=some (.deferred (some []))->w'.heap[D]?=w.heap[D]?)->Marks m w' ds
 |[],h,_=>ru h hsz
 |d::ds,⟨⟨D,h1,h2,h3,h4⟩,ht⟩,hk=>⟨⟨D,h1,h2,(hk D (by rw[h1];exact rM ..) h3).trans h3,h4⟩,Marks.mono hsz ht λD' hm hd=>hk D' (rE _ hm) hd⟩
def Marks.le{m:Nat}{w:World}:∀{ds:List Deferred},Marks m w ds->m<=w.heap.size
 |[],h=>h
 |_::_,⟨_,h⟩=>Marks.le h
def qv.free{D:Nat}{ds:Option (List Deferred)}(h:qv w E H)(hd:w.heap[D]?=some (.deferred ds)):¬xd E H D:=by
 rintro(ho|⟨id,⟨ob,cap,hob,h4,hG,hne⟩|⟨ob,r,t,hob,h4,hr,rfl⟩⟩)
 .obtain⟨cur,e,h1⟩:=h.base.CK ho;rw[hd]at h1;cases h1
 .obtain⟨cur,cap',_,h1,_⟩:=h.eS.fb id D ob ⟨ob,cap,hob,h4,hG,hne⟩ hob;rw[hd]at h1;cases h1
 .obtain⟨h1,hf⟩:=(h.eS.ic id ob r t hob h4 hr).1;rw[hd]at h1;cases h1
  cases hf
def Marks.grow{m:Nat}{ds:List Deferred}(h:Marks m w ds)(hh:qv w E H)(g:Grow w E H w' E' H'):Marks m w' ds:=
 Marks.mono g.size h λD _ hD=>g.frame D (pn.1 hD).1 (hh.free hD)
def qv.cells(hk:∀(k:Nat) (o:Obj),w.heap[k]?=some o->(∀ds,o≠.deferred ds)->w'.heap[k]?=w.heap[k]?)(h:qv w E H):qv w' E H where
 base:={
  n:=h.base.n
  fb:=λid ob hops sz rows e1 e2=>
   let b:=h.base.fb id ob hops sz rows e1 e2
   ⟨b.len,b.row,let ⟨cur,e,h1,h2⟩:=b.fb;⟨cur,e,(hk _ _ h1 (by simp)).trans h1,h2⟩⟩
  inj:=h.base.inj
  qn:=λb o u hu=>by
   obtain⟨h1,h2⟩:=h.base.qn b o u hu;refine⟨?_,h2⟩;unfold World.cell? at h1|-;split at h1
   .rename_i c t z hc;rw[hk _ _ hc (by simp),hc];exact h1
   .cases h1
  sep:=h.base.sep
  ty:=λid ob e1 e2=>let ⟨cur,h1⟩:=h.base.ty id ob e1 e2;⟨cur,(hk _ _ h1 (by simp)).trans h1⟩
  fz:=h.base.fz}
 eS:={
  val:=h.eS.val
  fb:=λid b ob e1 e2=>let ⟨cur,cap,h1,h2,h3⟩:=h.eS.fb id b ob e1 e2;⟨cur,cap,h1,(hk _ _ h2 (by simp)).trans h2,h3⟩
  sep:=h.eS.sep
  inj:=h.eS.inj
  st:=h.eS.st
  top:=h.eS.top
  ic:=λid ob r t e1 e2 e3=>let h1:=h.eS.ic id ob r t e1 e2 e3;⟨⟨(hk _ _ h1.1.1 (by intro ds e;have:=h1.1.2;rw[e]at this;cases this)).trans h1.1.1,h1.1.2⟩,h1.2⟩
  wJ:=h.eS.wJ}
structure xF(B m:Nat)(w:World)(E:Env)(s:S)(a:Act):Prop where
 heap:qv w E s.H
 tmps:LL E s.tmps a.tmps.toList
 defers:Marks m w a.defers
 base:B<=s.H.length
structure Env.nA(B:Nat)(E E':Env):Prop where
 β:∀id hops,id<B->E'.β id hops=E.β id hops
 κ:∀id hops,id<B->E'.κ id hops=E.κ id hops
 St:∀b o u,E.St b o=some u->E'.St b o=some u
 G:∀id k u,id<B->E.G id k=some u->E'.G id k=some u
def Env.nA.refl(B:Nat)(E:Env):E.nA B E:=⟨λ_ _ _=>V,λ_ _ _=>V,λ_ _ _ h=>h,λ_ _ _ _ h=>h⟩
def Env.nA.trans{B:Nat}{E E' E'':Env}(h:E.nA B E')(h':E'.nA B E''):E.nA B E'':=
 ⟨λid hops hi=>(h'.β id hops hi).trans (h.β id hops hi),λid hops hi=>(h'.κ id hops hi).trans (h.κ id hops hi),λb o u hu=>h'.St b o u (h.St b o u hu),λid k u hi hu=>h'.G id k u hi (h.G id k u hi hu)⟩
def Env.le.ix(h:E.le E')(hB:B<=E.n):E.nA B E':=
 ⟨λid hops hi=>h.β id hops (pV hi hB),λid hops hi=>h.κ id hops (pV hi hB),h.St,λid k u hi=>h.G id k u (pV hi hB)⟩
structure jw(B:Nat)(w:World)(E:Env)(H:zq)(w':World)(E':Env)(H':zq):Prop where
 le:E.nA B E'
 os:w'.os=w.os
 tape:w'.tape=w.tape
 output:w'.output=w.output
 size:w.heap.size<=w'.heap.size
 frame:∀k,k<w.heap.size->¬xd E H k->w'.heap[k]?=w.heap[k]?
 jx:∀b o u,E'.St b o=some u->E.St b o=some u\/w.heap.size<=b\/xd E H b
 own:∀b,xd E' H' b->w.heap.size<=b\/xd E H b
def Grow.ix{B:Nat}{w w':World}{E E':Env}{H H':zq}(g:Grow w E H w' E' H')(hB:B<=E.n):jw B w E H w' E' H':=
 ⟨g.le.ix hB,g.os,g.tape,g.output,g.size,g.frame,g.jx,g.own⟩
def jw.refl(B:Nat)(w:World)(E:Env)(H:zq):jw B w E H w E H:=
 ⟨Env.nA.refl B E,rfl,rfl,rfl,pj _,λ_ _ _=>V,λ_ _ _ h=>.inl h,λ_ h=>.inr h⟩
def jw.trans{B:Nat}{w w1 w2:World}{E E1 E2:Env}{H H1 H2:zq}(g:jw B w E H w1 E1 H1)(h:jw B w1 E1 H1 w2 E2 H2):jw B w E H w2 E2 H2 where
 le:=g.le.trans h.le
 os:=h.os.trans g.os
 tape:=h.tape.trans g.tape
 output:=h.output.trans g.output
 size:=ru g.size h.size
 frame k hk ho:=(h.frame k (pV hk g.size) λhc=>(g.own k hc).elim (λhs=>by omega) ho).trans (g.frame k hk ho)
 jx b o u hu:=by
  rcases h.jx b o u hu with h1|h1|h1
  .exact g.jx b o u h1
  .exact .inr (.inl (ru g.size h1))
  .rcases g.own b h1 with h2|h2
   .exact .inr (.inl h2)
   .exact .inr (.inr h2)
 own b hb:=by
  rcases h.own b hb with h1|h1
  .exact .inl (ru g.size h1)
  .exact g.own b h1
def fw(q:Option Nat):Fence:={Fence.wide with round:=q}
def xn:Code->Bool
 |.seq a b=>xn a || xn b
 |.cond _ a b=>xn a || xn b
 |.block _ a=>xn a
 |.loop a=>xn a
 |.scope a=>xn a
 |.rangeFunc ..=>true
 |_=>false
def qW(P:Program)(B:Nat)(c:Code)(s:S)(R:Exit->S->Prop):Prop:=
 ∀(q:Option Nat) (m:Nat) (w:World) (E:Env) (a:Act) (Q:Exit->Act->World->Prop),(xn c=true->q=none)->xF B m w E s a->
  (∀ex s' w' E' a',R ex s'->xF B m w' E' s' a'->jw B w E s.H w' E' s'.H->Q ex a' w')->c.wpIn (fw q) 0 P Q a w
abbrev Run(P:Program)(B:Nat)(c:Code)(s:S)(ex:Exit)(s':S):Prop:=qW P B c s λe t=>e=ex/\t=s'
def iU(P:Program)(B:Nat)(c:Code)(n:Nat)(s:S)(R:Exit->S->Prop):Prop:=
 ∀(q:Option Nat) (m:Nat) (w:World) (E:Env) (a:Act) (Q:Exit->Act->World->Prop),(xn c=true->q=none)->xF B m w E s a->
  (∀ex s' w' E' a',R ex s'->xF B m w' E' s' a'->jw B w E s.H w' E' s'.H->Q ex a' w')->Code.roundsIn (fw q) 0 P c Q n a w
def wg(P:Program)(B:Nat)(ops:Array Oper)(l:List Oper)(s:S)(R:S->Prop):Prop:=
 ∀(q:Option Nat) (m:Nat) (w:World) (E:Env) (a:Act) (Q:Exit->Act->World->Prop),xF B m w E s a->
  (∀s' w' E' a',R s'->xF B m w' E' s' a'->jw B w E s.H w' E' s'.H->Q .normal a' w')->wpListIn (fw q) 0 P ops Q l a w
def oc(P:Program)(B:Nat)(o:Oper)(s:S)(R:S->Prop):Prop:=
 ∀(q:Option Nat) (m:Nat) (w:World) (E:Env) (a:Act) (K:Act->World->Prop) (Q:Exit->Act->World->Prop),xF B m w E s a->
  (∀s' w' E' a',R s'->xF B m w' E' s' a'->jw B w E s.H w' E' s'.H->K a' w')->o.wpIn (fw q) 0 P a w K Q
def zk(B:Nat)(s s':S):Prop:=
 ∀(m:Nat) (w:World) (E:Env) (a:Act),xF B m w E s a->∃E',xF B m w E' s' a/\jw B w E s.H w E' s'.H
def Jm{F:Fence}{k:Nat}{P:Program}{c:Code}{Q:Exit->Act->World->Prop}:∀{n m:Nat},n<=m->∀{a:Act} {w:World},Code.roundsIn F k P c Q n a w->Code.roundsIn F k P c Q m a w
 |0,_,_,_,_,h=>(h:False).elim
 |n+1,0,hm,_,_,_=>absurd hm (Nat.not_succ_le_zero n)
 |n+1,m+1,hm,a,w,h=>by
  rw[roundsIn_succ]at h|-;refine wpIn_mono h λe a1 w1 h1=>?_
  cases e with
  |normal=>exact Jm (Nat.le_of_succ_le_succ hm) h1
  |_=>exact h1
section scopes
variable {F:Fence} {n:Nat} {P:Program} {b:Frame} {a:Act} {k:List Item} {cs:List Frame} {w:World} {Q:Exit->Act->World->Prop}
def xL{c:Code}:step P (lone (b.atR a (.code (.scope c)::k)) cs w)=.next (lone (b.atR a (.code c:: .inScope c::k)) cs w):=
 step_lone_go (by simp[stepG,stepG.exec,Frame.atR])
def Im{c:Code}:step P (lone (b.atR a (.inScope c::k)) cs w)=.next (lone (b.atR a k) cs w):=
 step_lone_go (by simp[stepG,stepG.exec,Frame.atR])
def Na{c:Code}(h:c.wpIn F n P (Exit.noGoto Q) a w):(Code.scope c).wpIn F n P Q a w:=by
 intro b k cs hro hb hr;have h0:(lone (b.atR a (.code (.scope c)::k)) cs w).fenced P F:=fenced_calm hb hr V;obtain⟨e,a₁,w₁,hq,harr⟩:=h b (.inScope c::k) cs hro hb hr;cases e with
 |normal=>exact⟨.normal,a₁,w₁,hq,.head h0 xL (StepsIn.trans harr (.one (fenced_calm hb hr V) Im))⟩
 |exit id=>
  have hx:exitTo id (.inScope c::k)=exitTo id k:=by simp[exitTo]
  exact⟨.exit id,a₁,w₁,hq,λk' hk=>.head h0 xL (harr.1 k' (by rw[hx];exact hk)),
   λhr' hk=>let ⟨k₁,h1,h2⟩:=harr.2 hr' (by rw[hx];exact hk);⟨k₁,h1,.head h0 xL h2⟩⟩
 |goto l=>exact hq.elim
 |ret=>exact⟨_,a₁,w₁,hq,.of_steps (.one h0 xL) harr⟩
 |panic ch=>exact⟨_,a₁,w₁,hq,.of_steps (.one h0 xL) harr⟩
 |outgrown=>exact⟨_,a₁,w₁,hq,.of_steps (.one h0 xL) harr⟩
inductive CH(F:Fence)(n:Nat)(P:Program)(c:Code)(Q:Exit->Act->World->Prop):Nat->Act->World->Prop
 |mk {l:Nat} {a:Act} {w:World} {rest:Code} (Q':Exit->Act->World->Prop):findLabel c l=some rest->rest.wpIn F n P Q' a w->(∀e a w,Q' e a w->(∀l,e≠.goto l)->Q e a w)->
   (∀l a w,Q' (.goto l) a w->CH F n P c Q l a w)->CH F n P c Q l a w
def Ig{c:Code}{m:Machine}{e:Exit}(hb:F.fn b.fn)(hr:F.room (cs.length+1+n))(he:∀l,e≠.goto l)(h:ArrivesIn (Machine.fenced P F) P m b (.inScope c::k) cs e a w):ArrivesIn (Machine.fenced P F) P m b k cs e a w:=by
 cases e with
 |normal=>exact StepsIn.trans h (.one (fenced_calm hb hr V) Im)
 |exit id=>
  have hx:exitTo id (.inScope c::k)=exitTo id k:=by simp[exitTo]
  exact⟨λk' hk=>h.1 k' (by rw[hx];exact hk),λhr' hk=>h.2 hr' (by rw[hx];exact hk)⟩
 |goto l=>exact absurd V (he l)
 |ret=>exact h
 |panic ch=>exact h
 |outgrown=>exact h
def Ns{c:Code}{Q':Exit->Act->World->Prop}(h:c.wpIn F n P Q' a w)(hQ:∀e a w,Q' e a w->(∀l,e≠.goto l)->Q e a w)(hJ:∀l a w,Q' (.goto l) a w->CH F n P c Q l a w):(Code.scope c).wpIn F n P Q a w:=by
 intro b k cs hro hb hr;have h0:(lone (b.atR a (.code (.scope c)::k)) cs w).fenced P F:=fenced_calm hb hr V
 have key:∀l a w,CH F n P c Q l a w->∀rest,findLabel c l=some rest->∃e a' w',Q e a' w'/\ArrivesIn (Machine.fenced P F) P (lone (b.atR a (.code rest:: .inScope c::k)) cs w) b k cs e a' w':=by
  intro l a w hj
  induction hj with
  |mk Q1 hf h1 h2 h3 ih=>
   intro rest hf';rw[hf]at hf';cases hf'
   obtain⟨e,a₁,w₁,hq,harr⟩:=h1 b (.inScope c::k) cs hro hb hr;by_cases he:∀l,e≠.goto l
   .exact⟨e,a₁,w₁,h2 _ _ _ hq he,Ig hb hr he harr⟩
   .obtain⟨l',rfl⟩:∃l',e=.goto l':=by
     cases e with
     |goto l'=>exact⟨l',rfl⟩
     |_=>exact absurd (by simp) he
    have hj:=h3 _ _ _ hq;cases hj with
    |mk Q2 hf2 _ _ _=>
     obtain⟨e₂,a₂,w₂,hq₂,harr₂⟩:=ih _ _ _ hq _ hf2;exact⟨e₂,a₂,w₂,hq₂,.of_steps (harr.1 _ (by simp[gotoIn,hf2])) harr₂⟩
 obtain⟨e,a₁,w₁,hq,harr⟩:=h b (.inScope c::k) cs hro hb hr;by_cases he:∀l,e≠.goto l
 .exact⟨e,a₁,w₁,hQ _ _ _ hq he,.of_steps (.one h0 xL) (Ig hb hr he harr)⟩
 .obtain⟨l',rfl⟩:∃l',e=.goto l':=by
   cases e with
   |goto l'=>exact⟨l',rfl⟩
   |_=>exact absurd (by simp) he
  have hj:=hJ _ _ _ hq;have hj':=hj;cases hj' with
  |mk Q2 hf2 _ _ _=>
   obtain⟨e₂,a₂,w₂,hq₂,harr₂⟩:=key _ _ _ hj _ hf2;exact⟨e₂,a₂,w₂,hq₂,.of_steps (.head h0 xL (harr.1 _ (by simp[gotoIn,hf2]))) harr₂⟩
end scopes
section
variable {P:Program} {B:Nat} {s s1 s2 s':S} {ex:Exit}
def zk.refl(s:S):zk B s s:=λm w E a h=>⟨E,h,jw.refl B w E s.H⟩
def zk.trans(h:zk B s s1)(h':zk B s1 s2):zk B s s2:=λm w E a hs=>by
 obtain⟨E1,h1,g1⟩:=h m w E a hs;obtain⟨E2,h2,g2⟩:=h' m w E1 a h1;exact⟨E2,h2,g1.trans g2⟩
variable {R R':Exit->S->Prop}
def qW.pre{c:Code}(hw:zk B s s1)(h:qW P B c s1 R):qW P B c s R:=λq m w E a Q hr hs hq=>by
 obtain⟨E1,h1,g1⟩:=hw m w E a hs;exact h q m w E1 a Q hr h1 λex s' w' E' a' hR h2 g2=>hq ex s' w' E' a' hR h2 (g1.trans g2)
def qW.post{c:Code}(h:qW P B c s R')(hw:∀ex s1,R' ex s1->∃s2,zk B s1 s2/\R ex s2):qW P B c s R:=λq m w E a Q hr hs hq=>
 h q m w E a Q hr hs λex s1 w' E' a' hR h1 g1=>by
  obtain⟨s2,hw2,hR2⟩:=hw ex s1 hR;obtain⟨E2,h2,g2⟩:=hw2 m w' E' a' h1;exact hq ex s2 w' E2 a' hR2 h2 (g1.trans g2)
def qW.mono{c:Code}(h:qW P B c s R')(hw:∀ex s1,R' ex s1->R ex s1):qW P B c s R:=h.post λex s1 hR=>⟨s1,.refl s1,hw ex s1 hR⟩
def iU.pre{c:Code}{n:Nat}(hw:zk B s s1)(h:iU P B c n s1 R):iU P B c n s R:=λq m w E a Q hr hs hq=>by
 obtain⟨E1,h1,g1⟩:=hw m w E a hs;exact h q m w E1 a Q hr h1 λex s' w' E' a' hR h2 g2=>hq ex s' w' E' a' hR h2 (g1.trans g2)
def qW.skip(h:R .normal s):qW P B .skip s R:=λq m w E a Q hr hs hq=>wpIn_skip (hq _ _ w E a h hs (jw.refl B w E s.H))
def qW.exit(id:Nat)(h:R (.exit id) s):qW P B (.exit id) s R:=λq m w E a Q hr hs hq=>wpIn_exit (hq _ _ w E a h hs (jw.refl B w E s.H))
def qW.label(l:Nat)(h:R .normal s):qW P B (.label l) s R:=λq m w E a Q hr hs hq=>wpIn_label (hq _ _ w E a h hs (jw.refl B w E s.H))
def qW.ret(h:R .ret s):qW P B .ret s R:=λq m w E a Q hr hs hq=>wpIn_ret (hq _ _ w E a h hs (jw.refl B w E s.H))
def MI(next:S->Prop)(R:Exit->S->Prop):Exit->S->Prop
 |.normal,s=>next s
 |ex,s=>R ex s
def qW.seq{x y:Code}(h:qW P B x s (MI (λs1=>qW P B y s1 R) R)):qW P B (.seq x y) s R:=λq m w E a Q hr hs hq=>
 wpIn_seq (h q m w E a _ (λe=>hr (by simp[xn,e])) hs λex s1 w1 E1 a1 hR h1 g1=>by
  cases ex with
  |normal=>exact(hR:qW P B y s1 R) q m w1 E1 a1 Q (λe=>hr (by simp[xn,e])) h1 λex s2 w2 E2 a2 hR2 h2 g2=>hq ex s2 w2 E2 a2 hR2 h2 (g1.trans g2)
  |_=>exact hq _ s1 w1 E1 a1 hR h1 g1)
def LN(id:Nat)(R:Exit->S->Prop):Exit->S->Prop
 |.exit id',s=>if id'=id then R .normal s else R (.exit id') s
 |ex,s=>R ex s
def qW.block{id:Nat}{c:Code}(h:qW P B c s (LN id R)):qW P B (.block id c) s R:=λq m w E a Q hr hs hq=>
 wpIn_block (h q m w E a _ hr hs λex s1 w1 E1 a1 hR h1 g1=>by
  cases ex with
  |exit id'=>
   simp only[Exit.inBlock,LN] at *;split
   .rename_i hi;rw[gS hi]at hR;exact hq _ s1 w1 E1 a1 hR h1 g1
   .rename_i hi;rw[gP hi]at hR;exact hq _ s1 w1 E1 a1 hR h1 g1
  |_=>exact hq _ s1 w1 E1 a1 hR h1 g1)
def WQ(R:Exit->S->Prop):Exit->S->Prop
 |.goto _,_=>False
 |ex,s=>R ex s
def qW.scope{c:Code}(h:qW P B c s (WQ R)):qW P B (.scope c) s R:=λq m w E a Q hr hs hq=>
 Na (h q m w E a _ hr hs λex s1 w1 E1 a1 hR h1 g1=>by
  cases ex with
  |goto l=>exact(hR:False).elim
  |_=>exact hq _ s1 w1 E1 a1 hR h1 g1)
def qW.goto(l:Nat)(h:R (.goto l) s):qW P B (.goto l) s R:=λq m w E a Q hr hs hq=>wpIn_goto (hq _ _ w E a h hs (jw.refl B w E s.H))
def Nk:∀{c:Code} {l:Nat} {rest:Code},findLabel c l=some rest->xn rest=true->xn c=true:=by
 intro c
 induction c with
 |seq x y ihx ihy=>
  intro l rest h hr;simp only[findLabel]at h;split at h
  .rename_i r hx;cases h
   simp only[xn,rI]at hr|-;exact hr.imp (ihx hx) id
  .simp only[xn,rI];exact .inr (ihy h hr)
 |label l'=>
  intro l rest h hr;simp only[findLabel]at h;split at h
  .cases h;cases hr
  .cases h
 |_=>intro l rest h;simp[findLabel]at h
inductive AM(P:Program)(B:Nat)(c:Code)(R:Exit->S->Prop):Nat->S->Prop
 |mk {l:Nat} {s:S} {rest:Code} (R':Exit->S->Prop):findLabel c l=some rest->qW P B rest s R'->(∀e s,R' e s->(∀l,e≠.goto l)->R e s)->(∀l s,R' (.goto l) s->AM P B c R l s)->AM P B c R l s
def AM.Xl{c:Code}{l:Nat}(h:AM P B c R l s):∀(q:Option Nat) (m:Nat) (w:World) (E:Env) (a:Act) (Q:Exit->Act->World->Prop),(xn c=true->q=none)->xF B m w E s a->
  (∀ex s' w' E' a',R ex s'->xF B m w' E' s' a'->jw B w E s.H w' E' s'.H->Q ex a' w')->CH (fw q) 0 P c Q l a w:=by
 induction h with
 | @mk l s rest R1 hf h1 h2 h3 ih=>
  intro q m w E a Q hr hs hq
  refine .mk (λe a' w'=>∃s' E',R1 e s'/\xF B m w' E' s' a'/\jw B w E s.H w' E' s'.H) hf (h1 q m w E a _ (λe=>hr (Nk hf e)) hs λex s' w' E' a' hR h g=>⟨s',E',hR,h,g⟩)
   (λe a' w' ⟨s',E',hR,h,g⟩ he=>hq _ _ _ _ _ (h2 _ _ hR he) h g) (λl' a' w' ⟨s',E',hR,h,g⟩=>?_)
  exact ih _ _ hR q m w' E' a' Q hr h λex s2 w2 E2 a2 hR2 hs2 g2=>hq ex s2 w2 E2 a2 hR2 hs2 (g.trans g2)
def Mx(P:Program)(B:Nat)(c:Code)(R:Exit->S->Prop):Exit->S->Prop
 |.goto l,s=>AM P B c R l s
 |ex,s=>R ex s
def qW.WN{c:Code}(h:qW P B c s (Mx P B c R)):qW P B (.scope c) s R:=λq m w E a Q hr hs hq=>
 Ns (Q':=λe a' w'=>∃s' E',Mx P B c R e s'/\xF B m w' E' s' a'/\jw B w E s.H w' E' s'.H) (h q m w E a _ hr hs λex s' w' E' a' hR h g=>⟨s',E',hR,h,g⟩)
  (λe a' w' ⟨s',E',hR,h,g⟩ he=>by
   cases e with
   |goto l=>exact absurd V (he l)
   |_=>exact hq _ _ _ _ _ hR h g)
  (λl a' w' ⟨s',E',hR,h,g⟩=>AM.Xl hR q m w' E' a' Q hr h λex s2 w2 E2 a2 hR2 hs2 g2=>hq ex s2 w2 E2 a2 hR2 hs2 (g.trans g2))
def iU.step{c:Code}{n:Nat}(h:qW P B c s (MI (λs1=>iU P B c n s1 R) R)):iU P B c (n+1) s R:=λq m w E a Q hr hs hq=>by
 rw[roundsIn_succ]
 exact h q m w E a _ hr hs λex s1 w1 E1 a1 hR h1 g1=>by
  cases ex with
  |normal=>exact(hR:iU P B c n s1 R) q m w1 E1 a1 Q hr h1 λex s2 w2 E2 a2 hR2 h2 g2=>hq ex s2 w2 E2 a2 hR2 h2 (g1.trans g2)
  |_=>exact hq _ s1 w1 E1 a1 hR h1 g1
def iU.more{c:Code}{n m:Nat}(hm:n<=m)(h:iU P B c n s R):iU P B c m s R:=λq k w E a Q hr hs hq=>Jm hm (h q k w E a Q hr hs hq)
def zH(P:Program)(B:Nat)(c:Code)(s:S)(R:Exit->S->Prop):Prop:=∃n,iU P B c n s R
def zH.pre{c:Code}(hw:zk B s s1)(h:zH P B c s1 R):zH P B c s R:=let ⟨n,hn⟩:=h;⟨n,.pre hw hn⟩
def qW.loop{c:Code}(h:zH P B c s R):qW P B (.loop c) s R:=λq m w E a Q hr hs hq=>let ⟨n,hn⟩:=h;wpIn_loop_rounds n (hn q m w E a Q hr hs hq)
def iZ:Value->C
 |.slice none 0 0=>.eM 1 0 []
 |.func (.func f) first caps=>if first.size=0/\caps.size=0 then .fn f [] [] else .za
 |.tuple vs=>if vs.size=0 then .un else .za
 |.agg _=>.za
 |x=>.v x
def MA(E:Env)(x:Value):L E (iZ x) x:=by
 unfold iZ;split
 .exact .xu _ _ (.inr V)
 .rename_i f first caps;split
  .rename_i h;obtain⟨h1,h2⟩:=h;obtain rfl:first= #[]:=rG h1;obtain rfl:caps= #[]:=rG h2;exact .fn f [] [] #[] #[] V V (by simp) (by simp)
  .exact .za _
 .rename_i vs;split
  .rename_i h;obtain rfl:vs= #[]:=rG h;exact .un
  .exact .za _
 .exact .za _
 .rename_i h1 h2;refine .v _ ?_;cases x <;> simp_all[Value.oneCell']
def ev(tmps:List C):Operand->C
 |.tmp t=>(tmps[t]?).getD .za
 |.const v=>iZ v
 |.global g=>.v (.pointer (some ⟨g,0,none⟩))
 |.func f=>.fn f [] []
def C7{tmps:List C}(h:LL E tmps a.tmps.toList)(x:Operand):L E (ev tmps x) (a.eval x):=by
 cases x with
 |tmp t=>
  simp only[ev,Act.eval];cases ht:tmps[t]? with
  |none=>exact .za _
  |some c=>
   obtain⟨y,hy,hl⟩:=h.get ht
   have:a.tmps.getD t undef=y:=by
    rw[pK]at hy;rw[pY,hy];rfl
   rw[this];exact hl
 |const v=>exact MA E v
 |global g=>exact .v _ V
 |func f=>exact .fn f [] [] #[] #[] V V (by simp) (by simp)
def BH(ops:Array Oper)(tmps:List C)(j:Nat):Option (Option Bool):=
 match (ops[j]?).bind (·.dst) with
 |none=>some none
 |some d=>match tmps[d]? with
  |none=>some none
  |some (.v (.bool b))=>some (some b)
  |some .un=>some none
  |_=>none
def Ka{tmps:List C}(h:LL E tmps a.tmps.toList){j:Nat}{r:Option Bool}(hr:BH ops tmps j=some r):yielded ops a.tmps j=r:=by
 unfold BH at hr;unfold yielded;cases hd:(ops[j]?).bind (·.dst) with
 |none=>simp only[hd]at hr;cases hr;rfl
 |some d=>
  simp only[hd,pJ]at hr|-;cases ht:tmps[d]? with
  |none=>
   simp only[ht]at hr;cases hr
   have hn:a.tmps[d]?=none:=by
    rw[Array.getElem?_eq_none_iff];have:=rz.1 ht;have h1:=h.1;simp at h1;omega
   rw[hn]
  |some c=>
   simp only[ht]at hr;obtain⟨y,hy,hl⟩:=h.get ht;rw[pK]at hy;rw[hy];split at hr
   .rename_i e;cases e
   .rename_i e;cases e;cases hr;cases hl;rfl
   .rename_i e;cases e;cases hr;cases hl;rfl
   .cases hr
def jz(ops:Array Oper)(tmps:List C)(o:Oper):Option Bool:=
 match o.guard with
 |none=>some true
 |some (j,want)=>match BH ops tmps j with
  |some (some b)=>some (b == want)
  |some none=>some false
  |none=>none
def jH{tmps:List C}(h:LL E tmps a.tmps.toList){b:Bool}(hb:jz ops tmps o=some b):
  Region.wanted o (yielded ops a.tmps)=b:=by
 unfold jz at hb;unfold Region.wanted;split at hb
 .rename_i hg;simp only[hg];cases hb;rfl
 .rename_i j want hg;simp only[hg];split at hb
  .rename_i x hx;rw[Ka h hx];cases hb;cases x <;> cases want <;> rfl
  .rename_i hx;rw[Ka h hx];cases hb;rfl
  .cases hb
def put(tmps:List C)(dst:Option Tmp)(c:C):List C:=
 match dst with
 |some d=>tmps.set d c
 |none=>tmps
def Ed{tmps:List C}(h:LL E tmps a.tmps.toList)(hl:L E c y)(dst:Option Tmp):LL E (put tmps dst c) (a.put dst y).tmps.toList:=by
 cases dst with
 |none=>exact h
 |some d=>simpa [put,Act.put] using h.set hl d
def xF.put{m:Nat}{w:World}{E:Env}{s:S}{a:Act}(h:xF B m w E s a){c:C}{y:Value}(hl:L E c y)(dst:Option Tmp):
  xF B m w E ⟨Ab.put s.tmps dst c,s.H⟩ (a.put dst y):=
 ⟨h.heap,Ed h.tmps hl dst,by cases dst <;> exact h.defers,h.base⟩
def wg.nil{R:S->Prop}(h:R s):wg P B ops [] s R:=λq m w E a Q hs hq=>wpListIn_nil (hq s w E a h hs (jw.refl B w E s.H))
def wg.run{R1 R:S->Prop}(hw:jz ops s.tmps o=some true)(h:oc P B o s R1)(h':∀s1,R1 s1->wg P B ops l s1 R):wg P B ops (o::l) s R:=λq m w E a Q hs hq=>by
 unfold wpListIn;rw[gS (jH hs.tmps hw)];exact h q m w E a _ Q hs λs1 w1 E1 a1 hR h1 g1=>h' s1 hR q m w1 E1 a1 Q h1 λs2 w2 E2 a2 hR2 h2 g2=>hq s2 w2 E2 a2 hR2 h2 (g1.trans g2)
def wg.pass{R:S->Prop}(hw:jz ops s.tmps o=some false)(h':wg P B ops l ⟨put s.tmps o.dst .un,s.H⟩ R):wg P B ops (o::l) s R:=λq m w E a Q hs hq=>by
 unfold wpListIn;rw[gP (by rw[jH hs.tmps hw];decide)];exact⟨λ_ _=>trivial,h' q m w E _ Q (hs.put (.un) o.dst) hq⟩
def qW.region{id:Nat}{ops:Array Oper}{R:Exit->S->Prop}(h:wg P B ops ops.toList s (R .normal)):qW P B (.region id ops false) s R:=λq m w E a Q hs0 hs hq=>
 wpIn_region_list (h q m w E a Q hs λs' w' E' a' hR h1 g1=>hq _ s' w' E' a' hR h1 g1)
def qW.cond{c:Operand}{x y:Code}{b:Bool}{R:Exit->S->Prop}(hc:ev s.tmps c=.v (.bool b))(h:qW P B (if b then x else y) s R):qW P B (.cond c x y) s R:=λq m w E a Q hr hs hq=>by
 have:=C7 hs.tmps c;rw[hc]at this;have hb:a.eval c=.bool b:=by generalize a.eval c=z at *;cases this;rfl
 exact wpIn_cond hb (h q m w E a Q (λe=>hr (by cases b <;> simp_all[xn])) hs hq)
end
def mw(P:Program)(K:Value->World->Prop):Result Next->Prop
 |.ok (.value v) w=>K v w
 |.ok .skip w=>K undef w
 |.ok (.enter f args) w=>Calls P f args w λe w'=>∃v,e=.returned v/\K v w'
 |.ok (.round l f tmps assign body) w=>RoundIn (fw none) 0 P l f tmps assign body w λe w'=>∃v,e=.returned v/\K v w'
 |_=>False
def e6(P:Program)(o:Oper)(ρ:Operand->C)(H:zq)(c:C)(H':zq):Prop:=
 ∀(w:World) (E:Env) (σ:Operand->Value),qv w E H->(∀x∈o.op.operands,L E (ρ x) (σ x))->
  ∀K:Value->World->Prop,(∀v w' E',qv w' E' H'->L E' c v->Grow w E H w' E' H'->K v w')->mw P K ((execOp σ o).run P w)
def qy(P:Program)(o:Oper)(ρ:Operand->C)(H:zq)(c:C)(H':zq):Prop:=
 ∀(w:World) (E:Env) (σ:Operand->Value),z8 w E H->(∀x∈o.op.operands,L E (ρ x) (σ x))->
  ∀K:Value->World->Prop,(∀v w' E',z8 w' E' H'->L E' c v->qj w E H w' E' H'->K v w')->mw P K ((execOp σ o).run P w)
def mi(P:Program)(o:Oper)(ρ:Operand->C)(H:zq)(c:C)(H':zq):Prop:=
 ∀(w:World) (E:Env) (σ:Operand->Value),qv w E H->(∀x∈o.op.operands,L E (ρ x) (σ x))->(∀v,σ (.const v)=v)->
  ∀K:Value->World->Prop,(∀v w' E',qv w' E' H'->L E' c v->Grow w E H w' E' H'->K v w')->mw P K ((execOp σ o).run P w)
def jy(P:Program)(o:Oper)(ρ:Operand->C)(H:zq)(R:C->zq->Prop):Prop:=
 ∀(w:World) (E:Env) (σ:Operand->Value),qv w E H->(∀x∈o.op.operands,L E (ρ x) (σ x))->(∀v,σ (.const v)=v)->
  ∀K:Value->World->Prop,(∀c H' v w' E',R c H'->qv w' E' H'->L E' c v->Grow w E H w' E' H'->K v w')->mw P K ((execOp σ o).run P w)
def mi.fM(h:mi P o ρ H c H')(hR:R c H'):jy P o ρ H R:=λw E σ hh hl hc K hk=>h w E σ hh hl hc K λv w' E'=>hk c H' v w' E' hR
def e6.fM(h:e6 P o ρ H c H')(hR:R c H'):jy P o ρ H R:=λw E σ hh hl _ K hk=>h w E σ hh hl K λv w' E'=>hk c H' v w' E' hR
def oc.DV(h:jy P o (ev s.tmps) s.H R):oc P B o s (λs'=>∃c H',R c H'/\s'=⟨put s.tmps o.dst c,H'⟩):=λq m w E a K Q hs hk=>by
 have:=h w E a.eval hs.heap (λx _=>C7 hs.tmps x) (λ_=>V) (λv w'=>K (a.put o.dst v) w') λc H' v w' E' hR h1 h2 g=>
  hk _ w' E' _ ⟨c,H',hR,rfl⟩ ⟨h1,Ed (hs.tmps.mono g.le) h2 o.dst,by have:=hs.defers.grow hs.heap g;cases o.dst <;> exact this,by have:=g.le.n;rw[hs.heap.n,h1.n]at this;exact ru hs.base this⟩ (g.ix (by rw[hs.heap.n];exact hs.base))
 have fN:∀d,o.op≠.defer d:=λd hd=>by
  have h2:=this;unfold execOp at h2;simp only[hd,Sem.run_bind]at h2;cases hr:(resolve a.eval d o.type).run P w with
  |ok x w1=>simp[hr,Result.andThen,mw]at h2
  |halt x w1=>simp[hr,Result.andThen,mw]at h2
 unfold Oper.wpIn;refine⟨λ_ _=>trivial,?_⟩;rw[Oper.semAt_eq _ _ _ fN];generalize (execOp a.eval o).run P w=r at this|-;unfold mw at this;split at this
 .exact this
 .exact this
 .rw[Oper.uponIn_enter];refine⟨λh=>(by cases h),callsIn_wide.2 (Calls.mono this ?_)⟩;rintro e w' ⟨v,rfl,hv⟩;exact hv
 .rw[Oper.uponIn_round];refine⟨λh=>(by cases h),RoundIn.mono (F:=fw q) this ?_⟩;rintro e w' ⟨v,rfl,hv⟩;exact hv
 .exact this.elim
def oc.Ec(h:e6 P o (ev s.tmps) s.H c H')(q:Option Nat)(m:Nat)(w:World)(E:Env)(a:Act)(K:Act->World->Prop)(Q:Exit->Act->World->Prop)(hs:xF B m w E s a)
 (hq:∀w' E' a',xF B m w' E' ⟨put s.tmps o.dst c,H'⟩ a'->jw B w E s.H w' E' H'->K a' w'):o.wpIn (fw q) 0 P a w K Q:=
 oc.DV (B:=B) (h.fM (R:=λx X=>x=c/\X=H') ⟨rfl,rfl⟩) q m w E a K Q hs λs' w' E' a' ⟨x,X,⟨e1,e2⟩,e3⟩ h1 g1=>by subst e1 e2 e3;exact hq w' E' a' h1 g1
def e6.congr{ρ':Operand->C}(h:e6 P o ρ H c H')(he:∀x∈o.op.operands,ρ' x=ρ x):e6 P o ρ' H c H':=
 λw E σ hh hl K hk=>h w E σ hh (λx hx=>he x hx ▸ hl x hx) K hk
def qy.congr{ρ':Operand->C}(h:qy P o ρ H c H')(he:∀x∈o.op.operands,ρ' x=ρ x):qy P o ρ' H c H':=
 λw E σ hh hl K hk=>h w E σ hh (λx hx=>he x hx ▸ hl x hx) K hk
def e6.AB(h:qy P o ρ H c H')(hk:jm H H'):e6 P o ρ H c H':=λw E σ hh hl K hK=>
 h w E σ hh.base hl K λv w' E' h1 h2 g=>hK v w' E' ⟨h1,lX.step hh g hk⟩ h2 (g.up hh hk)
def e6.same(h:qy P o ρ H c H):e6 P o ρ H c H:=.AB h (jm.refl H)
def jm.push(H:zq)(ob:Ob)(hk:ob.kind≠4):jm H (H++[ob]):=λid ob' h4=>by
 by_cases eP:id<H.length
 .rw[gW eP]
 .rw[pq (by omega),rq (l:=H) (by omega)];constructor
  .intro h;cases hd:id-H.length with
   |zero=>rw[hd]at h;cases h;exact absurd h4 hk
   |succ n=>rw[hd]at h;simp at h
  .intro h;cases h
def jm.modify(H:zq)(id:Nat)(f:Ob->Ob)(hf:∀ob,H[id]?=some ob->ob.kind≠4/\(f ob).kind≠4):jm H (H.modify id f):=λid' ob' h4=>by
 rw[rF];by_cases he:id=id'
 .subst he;cases hx:H[id]? with
  |none=>simp
  |some ob=>
   obtain⟨h1,h2⟩:=hf ob hx;simp only[r8,g9,if_true];constructor
   .intro h;cases h;exact absurd h4 h2
   .intro h;cases h;exact absurd h4 h1
 .cases hx:H[id']? with
  |none=>simp
  |some ob=>simp[he]
def jm.trans{H H' H'':zq}(h:jm H H')(h':jm H' H''):jm H H'':=λid ob h4=>(h' id ob h4).trans (h id ob h4)
def lf(P:Program){α:Type}:Sem α->Option α
 |.pure a=>some a
 |.program k=>lf P (k P)
 |_=>none
def VT(e:Sem α){a:α}(h:lf P e=some a)(w:World):e.run P w=.ok a w:=by
 induction e with
 |pure a'=>simp only[lf,pG]at h;subst h;rfl
 |program k ih=>simp only[lf]at h;exact ih P h
 |_=>simp[lf]at h
def ow:C->Value
 |.v x=>x
 |_=>undef
def fm:C->Bool
 |.v _=>true
 |_=>false
def xA(o:Oper):Bool:=match o.op with|.select ..=>false|_=>true
def qy.scalar{v:Value}(hs:xA o=true)(hv:o.op.operands.all (λx=>fm (ρ x))=true)
 (hr:lf P (execOp (λx=>ow (ρ x)) o)=some (.value v))(h1:v.oneCell'=true):qy P o ρ H (.v v) H:=λw E σ hh hl K hk=>by
 have he:execOp σ o=execOp (λx=>ow (ρ x)) o:=execOp_congr o (λcs b hc=>by simp[xA,hc]at hs) λx hx=>by
  have h1:fm (ρ x)=true:=by
   have:=Array.all_eq_true_iff_forall_mem.1 hv x hx;simpa using this
  have h2:=hl x hx;cases hc:ρ x with
  |v y=>rw[hc]at h2;cases h2;rfl
  |_=>rw[hc]at h1;cases h1
 rw[he,VT _ hr w];exact hk v w E hh (.v v h1) (qj.refl w E H)
def JF{o:Obj}(h:b<w.heap.size):(w.alloc o).cell? ⟨b,off,none⟩=w.cell? ⟨b,off,none⟩:=
 World.cell?_alloc_lt _ _ _ h
def Bu(h:w.cell? ⟨b,off,none⟩=some u):b<w.heap.size:=World.block_lt_of_cell? w _ h
def Env.push(E:Env)(g κ:Nat):Env:=
 {n:=E.n+1,β:=λid hops=>if id=E.n then g else E.β id hops,κ:=λid hops=>if id=E.n then κ else E.κ id hops,St:=E.St,G:=E.G}
def Env.DW(E:Env)(g κ:Nat):E.le (E.push g κ):=
 ⟨sy _,λid hops h=>by simp[Env.push,s4 h],λid hops h=>by simp[Env.push,s4 h],λb o u h=>h,λ_ _ _ _ h=>h⟩
def zG:C->Bool
 |.eM 2 _ _=>false
 |_=>true
def qN.loose{id:Nat}{i k:Nat}(hn:zG c=true):qN E kd id hops i k c u↔L (E.at kd) c u/\u.oneCell'=true:=by
 unfold qN;split
 .simp[zG]at hn
 .rfl
def qN.mono{E E':Env}(h:E.le E'){kd id:Nat}(hid:id<E.n){hops:List fA}{i k:Nat}{c:C}{u:Value}(hc:qN E kd id hops i k c u):qN E' kd id hops i k c u:=by
 unfold qN at *;split at hc
 .rw[h.β id _ hid,h.κ id _ hid];exact hc
 .exact⟨hc.1.mono (h.at kd),hc.2⟩
def AE{id:Nat}(h:qd H id hops=some x):id<H.length:=by
 unfold qd at h;split at h
 .rename_i ob ho;exact(gN.1 ho).1
 .cases h
def qU{id:Nat}(h:qd H id hops=some x):∃ob,H[id]?=some ob/\(ob.kind=1\/ob.kind=2)/\vH ob.sz ob.rows hops=some x:=by
 unfold qd at h;split at h
 .rename_i ob ho;split at h
  .rename_i hk;exact⟨ob,ho,hk,h⟩
  .cases h
 .cases h
def z8.lt(h:z8 w E H){id:Nat}(hx:qd H id hops=some x):E.β id hops<w.heap.size:=by
 obtain⟨ob,ho,_,_⟩:=qU hx;obtain⟨cur,e,hg,_⟩:=(h.fb id ob hops x.1 x.2 ho (by simpa using hx)).fb;exact(pn.1 hg).1
def ki{id:Nat}(h:id<H.length)(X:zq):qd (H++X) id hops=qd H id hops:=by
 unfold qd;rw[gW h]
def BP.Gb{id:Nat}(h:BP w E kd id hops sz rows):E.β id hops<w.heap.size:=by
 obtain⟨cur,e,hg,_⟩:=h.fb;exact(pn.1 hg).1
def BP.step(hle:E.le E'){id:Nat}(hid:id<E.n)(h:BP w E kd id hops sz rows)
 (hh:w'.heap[E.β id hops]?=w.heap[E.β id hops]?):BP w' E' kd id hops sz rows:=by
 obtain⟨cur,e,hg,hsz,hc⟩:=h.fb;refine⟨by rw[hle.κ id hops hid];exact h.len,h.row,cur,e,by rw[hle.β id hops hid,hh];exact hg,by rw[hle.κ id hops hid];exact hsz,?_⟩;intro i k c hcc;obtain⟨u,hu,ho⟩:=hc i k c hcc;exact⟨u,hu,ho.mono hle hid⟩
def kW(hn:∀i k c,cellAt rows i k=some c->zG c=true)(h:vH sz rows hops=some x):hops=[]/\x=(sz,rows):=by
 cases hops with
 |nil=>simp[vH]at h;exact⟨rfl,h.symm⟩
 |cons hd tl=>
  obtain⟨i,k⟩:=hd;simp only[vH]at h;split at h
  .rename_i h1;have:=hn _ _ _ h1;simp[zG]at this
  .cases h
def z8.push{w:World}{E:Env}{H:zq}(h:z8 w E H)(kind:Nat)(ty:TypeId)(sz κ:Nat)(rows:List (List C))(cur:Array Value)(hk:kind=1\/kind=2)(hrow:∀r∈rows,r.length=sz)
 (hlen:rows.length<=κ)(hcur:cur.size=κ*sz)(hn:∀i k c,cellAt rows i k=some c->zG c=true)
 (hc:∀i k c,cellAt rows i k=some c->∃u,cur[i*sz+k]?=some u/\L (E.at kind) c u/\u.oneCell'=true):
  z8 (w.alloc (.cells cur ty)) (E.push w.heap.size κ) (H++[⟨kind,ty,sz,rows,0⟩])/\qj w E H (w.alloc (.cells cur ty)) (E.push w.heap.size κ) (H++[⟨kind,ty,sz,rows,0⟩]):=by
 have hle:=E.DW w.heap.size κ
 have get:∀id hops x,qd (H++[⟨kind,ty,sz,rows,0⟩]) id hops=some x->(id<H.length/\qd H id hops=some x)\/(id=H.length/\hops=[]/\x=(sz,rows)):=by
  intro id hops x hx;by_cases eP:id<H.length
  .exact .inl ⟨eP,by rw[ki eP]at hx;exact hx⟩
  .have h1:=AE hx;simp at h1;have:id=H.length:=by omega
   subst this;simp only[qd,pq (pj _),r7,ui]at hx;rw[gS hk]at hx;obtain⟨e1,e2⟩:=kW hn hx;exact .inr ⟨rfl,e1,e2⟩
 have hnew:∀hops,(E.push w.heap.size κ).β H.length hops=w.heap.size:=λhops=>by simp[Env.push,h.n]
 have hold:∀id hops,id<H.length->(E.push w.heap.size κ).β id hops=E.β id hops:=λid hops eP=>hle.β id hops (by rw[h.n];exact eP)
 refine⟨⟨by simp[Env.push,h.n],?_,?_,?_,?_,?_,?_⟩,⟨hle,λ_ _ _=>V,rfl,rfl,rfl,by show _<=(w.heap.push _).size;simp,?_,?_,?_⟩⟩
 .intro id ob hops sz' rows' hob hx;rcases get id hops _ hx with⟨eP,hx'⟩|⟨rfl,rfl,hx'⟩
  .rw[gW eP]at hob;have hb:=h.fb id ob hops sz' rows' hob hx';exact hb.step hle (by rw[h.n];exact eP) (heap_alloc_old w _ hb.Gb)
  .cases hx'
   simp at hob;subst hob;refine⟨by simp[Env.push,h.n,hlen],hrow,cur,ty,by rw[hnew];exact heap_alloc_new w _,by simp[Env.push,h.n,hcur],?_⟩;intro i k c hcc;obtain⟨u,hu,hl,ho⟩:=hc i k c hcc;exact⟨u,hu,(qN.loose (hn i k c hcc)).2 ⟨hl.mono (hle.at kind),ho⟩⟩
 .intro id hops id' hops' x y hx hy he;rcases get id hops _ hx with⟨eP,hx'⟩|⟨rfl,rfl,hx'⟩ <;> rcases get id' hops' _ hy with⟨hlt',hy'⟩|⟨rfl,rfl,hy'⟩
  .rw[hold id hops eP,hold id' hops' hlt']at he;exact h.inj id hops id' hops' x y hx' hy' he
  .rw[hold id hops eP,hnew]at he;have:=h.lt hx';omega
  .rw[hold id' hops' hlt',hnew]at he;have:=h.lt hy';omega
  .exact⟨rfl,rfl⟩
 .intro b o u hu;have hs:=h.qn b o u hu;rw[JF (Bu hs.1)];exact hs
 .intro id hops x o u hx hu;rcases get id hops _ hx with⟨eP,hx'⟩|⟨rfl,rfl,hx'⟩
  .rw[hold id hops eP]at hu;obtain⟨e1,ob,e2,e3⟩:=h.sep id hops x o u hx' hu;exact⟨e1,ob,by rw[gW eP];exact e2,e3⟩
  .rw[hnew]at hu;have:=Bu (h.qn _ _ _ hu).1;omega
 .intro id ob hob hkd;by_cases eP:id<H.length
  .rw[gW eP]at hob;obtain⟨cur',hc'⟩:=h.ty id ob hob hkd;refine⟨cur',?_⟩;rw[hold id [] eP,heap_alloc_old w _ (pn.1 hc').1];exact hc'
  .have h1:=(gN.1 hob).1;simp at h1;have:id=H.length:=by omega
   subst this;simp at hob;subst hob;exact⟨cur,by rw[hnew];exact heap_alloc_new w _⟩
 .intro id ob hob;by_cases eP:id<H.length
  .rw[gW eP]at hob;exact h.fz id ob hob
  .have h1:=(gN.1 hob).1;simp at h1;have:id=H.length:=by omega
   subst this;simp at hob;subst hob;exact pC _
 .intro k hk' ho;exact heap_alloc_old w _ hk'
 .intro b o u hu;exact .inl hu
 .rintro b ⟨id,hops,x,hx,rfl⟩;rcases get id hops _ hx with⟨eP,hx'⟩|⟨rfl,rfl,hx'⟩
  .exact .inr ⟨id,hops,x,hx',by rw[hold id hops eP]⟩
  .exact .inl (by rw[hnew];exact pj _)
section
variable {P:Program} {o:Oper} {ρ:Operand->C} {H:zq}
def qV(h:P.info? t=some i)(w:World):(sizeOf t).run P w=.ok i.size w:=by
 simp[sizeOf,typeInfo,h]
def xa{z:Value}(h:P.info? t=some i)(hz:i.zero=some z)(w:World):(zeroValue t).run P w=.ok z w:=by
 simp[zeroValue,typeInfo,h,hz]
def qy.move(x:Operand)(ho:o.op=.move x\/o.op=.assign x):qy P o ρ H (ρ x) H:=λw E σ hh hl K hk=>by
 have h1:(execOp σ o).run P w=.ok (.value (σ x)) w:=by
  unfold execOp;rcases ho with ho|ho <;> simp only[ho] <;> rfl
 rw[h1];exact hk _ w E hh (hl x (by rcases ho with ho|ho <;> simp[ho,Op.operands])) (qj.refl w E H)
def qy.pick(x y z:Operand)(ho:o.op=.pick x y z)(b:Bool)(hb:ρ x=.v (.bool b)):qy P o ρ H (if b then ρ y else ρ z) H:=λw E σ hh hl K hk=>by
 have h0:=hl x (by simp[ho,Op.operands]);rw[hb]at h0;have hx:σ x=.bool b:=by generalize σ x=u at *;cases h0;rfl
 have h1:(execOp σ o).run P w=.ok (.value (if b then σ y else σ z)) w:=by
  unfold execOp;simp only[ho,hx];cases b <;> rfl
 rw[h1];refine hk _ w E hh ?_ (qj.refl w E H);cases b
 .exact hl z (by simp[ho,Op.operands])
 .exact hl y (by simp[ho,Op.operands])
def yS{i k:Nat}:cellAt [cs] i k=some c↔i=0/\cs[k]?=some c:=by
 unfold cellAt;cases i <;> simp
def z8.Lq(h:z8 w E H)(ty:TypeId)(cs:List C)(ys:Array Value)(hl:LL E cs ys.toList)(hn:cs.all zG=true)(h1:∀y∈ys,y.oneCell'=true):
  z8 (w.alloc (.cells ys ty)) (E.push w.heap.size 1) (H++[⟨1,ty,cs.length,[cs],0⟩])/\qj w E H (w.alloc (.cells ys ty)) (E.push w.heap.size 1) (H++[⟨1,ty,cs.length,[cs],0⟩]):=by
 refine h.push 1 ty cs.length 1 [cs] ys (.inl V) (by simp) (by simp) (by have:=hl.1;simp at this;omega) ?_ ?_
 .intro i k c hc;obtain⟨_,hc⟩:=yS.1 hc;exact gV.1 hn c (gT hc)
 .intro i k c hc;obtain⟨rfl,hc⟩:=yS.1 hc;obtain⟨y,hy,hly⟩:=hl.get hc;refine⟨y,by simpa using hy,by simpa [Env.at] using hly,h1 y ?_⟩;have:=gT hy;simpa using this
def wZ(P:Program)(t:TypeId):Option (List C):=
 match P.info? t with
 |some i=>match i.zero with
  |some z=>if z.cells.toList.all (·.oneCell') && (z.cells.size == i.size) then some (z.cells.toList.map iZ) else none
  |none=>none
 |none=>none
def vX(h:wZ P t=some cs)(E:Env):∃i z,P.info? t=some i/\i.zero=some z/\LL E cs z.cells.toList/\(∀y∈z.cells,y.oneCell'=true)/\z.cells.size=i.size/\cs.all zG=true/\cs.length=i.size:=by
 unfold wZ at h;split at h
 .rename_i i hi;split at h
  .rename_i z hz;split at h
   .rename_i hc;cases h
    simp only[gY,pU,gV]at hc;refine⟨i,z,hi,hz,⟨by simp,?_⟩,λy hy=>hc.1 y (by simpa using hy),hc.2,?_,by simp[hc.2]⟩
    .intro k c y h1 h2;rw[gM,h2]at h1;cases h1
     exact MA E y
    .rw[gV];intro c hcm;obtain⟨y,hy,rfl⟩:=pO.1 hcm;unfold iZ;split <;> (try split) <;> rfl
   .cases h
  .cases h
 .cases h
def Mt(h:z8 w E H)(g κ sz:Nat):L (E.push g κ) (.ref H.length [] sz 0 0) (.pointer (some ⟨g,0,none⟩)):=by
 have:=L.ref (E:=E.push g κ) H.length [] sz 0 0 (by simp[Env.push,h.n]);have hb:(E.push g κ).β H.length []=g:=by simp[Env.push,h.n]
 rw[hb]at this;simpa using this
def qy.alloc(t:TypeId)(ho:o.op=.alloc t){cs:List C}(hz:wZ P t=some cs):qy P o ρ H (.ref H.length [] cs.length 0 0) (H++[⟨1,t,cs.length,[cs],0⟩]):=λw E σ hh hl K hk=>by
 obtain⟨i,z,hi,hz,hll,h1,hsz,hn,hlen⟩:=vX hz E
 have hr:(execOp σ o).run P w=.ok (.value (.pointer (some ⟨w.heap.size,0,none⟩))) (w.alloc (.cells z.cells t)):=by
  unfold execOp;simp only[ho,Instr.alloc,Sem.run_bind,xa hi hz,Result.andThen_ok,newVar,newRow]
  rfl
 rw[hr];obtain⟨a,b⟩:=hh.Lq t cs z.cells hll hn h1;exact hk _ _ _ a (Mt hh _ _ _) b
def nD:C->Bool
 |.v _=>true
 |.eM o _ _=>o != 2
 |.jL _|.ref .. |.sl .. |.fn .. |.mp _|.gl .. |.fK .. |.rc _=>true
 |_=>false
def TO(h:L E c y)(hc:nD c=true):y.oneCell'=true:=by
 cases h with
 |v x hx=>exact hx
 |agg=>simp[nD]at hc
 |eR=>simp[nD]at hc
 |un=>simp[nD]at hc
 |za=>simp[nD]at hc
 |gl id sz rows y hn hg h=>cases h <;> rfl
 |_=>rfl
def TP(hc:nD c=true):zG c=true:=by
 unfold nD at hc;unfold zG;split at hc <;> first|rfl|(split <;> simp_all)|cases hc
def lQ:C->Bool
 |.agg cs=>cs.all zG
 |c=>nD c
def Fy(h:L E c y)(hc:lQ c=true):LL E c.cells y.cells.toList/\(∀u∈y.cells,u.oneCell'=true)/\c.cells.all zG=true:=by
 cases c with
 |agg cs=>
  cases h with
  |agg _ ys h1 h2 h3=>exact⟨⟨by simpa [C.cells,Value.cells] using h1,λi c y e1 e2=>h2 i c y e1 (by simpa [Value.cells] using e2)⟩,h3,by simpa [lQ,C.cells] using hc⟩
 |za=>simp[lQ,nD]at hc
 |un=>simp[lQ,nD]at hc
 |eR=>simp[lQ,nD]at hc
 |_=>
  have ho:=TO h (by simpa [lQ] using hc);have hcell:y.cells= #[y]:=by cases y <;> first|rfl|(simp[Value.oneCell']at ho)
  refine⟨h.cells (by simp) (by simp),by rw[hcell];simpa using ho,?_⟩;have:=TP (by simpa [lQ] using hc);simpa [C.cells] using this
def qy.box(t:TypeId)(x:Operand)(ho:o.op=.box t x)(hc:lQ (ρ x)=true):qy P o ρ H (.ref H.length [] (ρ x).cells.length 0 0) (H++[⟨1,t,(ρ x).cells.length,[(ρ x).cells],0⟩]):=λw E σ hh hl K hk=>by
 obtain⟨hll,h1,hn⟩:=Fy (hl x (by simp[ho,Op.operands])) hc
 have hr:(execOp σ o).run P w=.ok (.value (.pointer (some ⟨w.heap.size,0,none⟩))) (w.alloc (.cells (σ x).cells t)):=by
  unfold execOp;simp only[ho,Instr.box,newVar,newRow]
  rfl
 rw[hr];obtain⟨a,b⟩:=hh.Lq t _ _ hll hn h1;exact hk _ _ _ a (Mt hh _ _ _) b
def j0(b off n:Nat):(⟨b,off,none⟩:Addr).add n=⟨b,off+n,none⟩:=by
 unfold Addr.add;split <;> simp_all
def wP(c:C)(n:Nat):Option C:=
 match c with
 |.ref id hops sz i k=>some (.ref id hops sz i (k+n))
 |.jL cells=>some (.jL (cells.drop n))
 |_=>none
def Ko{c':C}{n:Nat}(h:L E c y)(hf:wP c n=some c'):∃a,y=.pointer (some a)/\L E c' (.pointer (some (a.add n))):=by
 cases h with
 |ref id hops sz i k hn=>
  simp only[wP]at hf;cases hf
  refine⟨_,rfl,?_⟩;rw[j0,sf];exact .ref id hops sz i (k+n) hn
 |jL cells b off us hst hL=>
  simp only[wP]at hf;cases hf
  refine⟨_,rfl,?_⟩;rw[j0];exact .jL _ b (off+n) (λk=>us (n+k)) (λk c hc=>by rw[rj]at hc;rw[sf];exact hst _ c hc) (λk c hc=>by rw[rj]at hc;exact hL _ c hc)
 |_=>simp[wP]at hf
def qy.fieldAddr(t:TypeId)(x:Operand)(f:Nat)(ho:o.op=.fieldAddr t x f){fs:Array Field}{fd:Field}(ht:P.underlying t=some (.struct fs))(hf:fs[f]?=some fd)
 (hi:P.info? fd.type=some i)(hsz:i.size≠0){c:C}(hc:wP (ρ x) fd.offset=some c):qy P o ρ H c H:=λw E σ hh hl K hk=>by
 obtain⟨a,ha,hla⟩:=Ko (hl x (by simp[ho,Op.operands])) hc
 have hr:(execOp σ o).run P w=.ok (.value (.pointer (some (a.add fd.offset)))) w:=by
  unfold execOp;simp[ho,Instr.fieldAt,run_underlying ht,hf,ha,Instr.sureAddr,fieldPlace,qV hi,hsz]
 rw[hr];exact hk _ w E hh hla (qj.refl w E H)
def Am(c:C)(size n:Nat):Option C:=
 match c with
 |.eM o sz rows=>if (o == 0 || o == 1) && (sz == size) then (rows[n]?).map .jL else none
 |.sl id hops sz lo len _=>if decide (n<len) && (sz == size) then some (.ref id hops sz (lo+n) 0) else none
 |_=>none
def EC:C->Option Nat
 |.eM _ _ rows=>some rows.length
 |.sl _ _ _ _ len _=>some len
 |_=>none
def Vs{c':C}{size n:Nat}(h:L E c y)(hf:Am c size n=some c'):
  ∃a len cap,y=.slice (some a) len cap/\n<len/\L E c' (.pointer (some (a.add (n*size)))):=by
 cases h with
 |eM o sz rows b off cap us ho hc hsz hst hL=>
  simp only[Am]at hf;split at hf
  .rename_i hcond;simp only[gY,pU]at hcond;obtain⟨_,rfl⟩:=hcond;cases hr:rows[n]? with
   |none=>rw[hr]at hf;cases hf
   |some r=>
    rw[hr]at hf;cases hf
    refine⟨_,_,_,rfl,(gN.1 hr).1,?_⟩;rw[j0];exact .jL r b (off+n*sz) (us n) (λk c hc=>hst n r k c hr hc) (λk c hc=>hL n r k c hr hc)
  .cases hf
 |xu o sz ho=>
  simp[Am]at hf
 |sl id hops sz lo len full cap hn hlen hfull hf'=>
  simp only[Am]at hf;split at hf
  .rename_i hcond;simp only[gY,pU,pE]at hcond;obtain⟨eP,rfl⟩:=hcond;cases hf
   refine⟨_,_,_,rfl,eP,?_⟩;rw[j0,<-rp];exact .ref id hops sz (lo+n) 0 hn
  .cases hf
 |_=>simp[Am]at hf
def qy.indexAddr(t:TypeId)(x y:Operand)(ho:o.op=.indexAddr t x y)(ht:P.underlying t=some (.slice e))(hi:P.info? e=some i)
 {k:IntKind}{n:Int}(hy:ρ y=.v (.int k n))(h0:0<=n){c:C}(hc:Am (ρ x) i.size n.toNat=some c):qy P o ρ H c H:=λw E σ hh hl K hk=>by
 obtain⟨a,len,cap,ha,eP,hla⟩:=Vs (hl x (by simp[ho,Op.operands])) hc;have h1:=hl y (by simp[ho,Op.operands]);rw[hy]at h1;have hyv:σ y=.int k n:=by generalize σ y=u at *;cases h1;rfl
 have hn:0<=n/\n<(len:Int):=⟨h0,by omega⟩
 have hr:(execOp σ o).run P w=.ok (.value (.pointer (some (a.add (n.toNat*i.size))))) w:=by
  unfold execOp;simp[ho,Instr.indexAt,asIntOf,hyv,ha,run_underlying ht,hn.1,hn.2,qV hi]
 rw[hr];exact hk _ w E hh hla (qj.refl w E H)
def qy.Vj(t:TypeId)(x y:Operand)(ho:o.op=.indexAddr t x y){len:Nat}(ht:P.underlying t=some (.array len e))(hi:P.info? e=some i)
 {k:IntKind}{n:Int}(hy:ρ y=.v (.int k n))(h0:0<=n)(h1:n<len){c:C}(hc:wP (ρ x) (n.toNat*i.size)=some c):qy P o ρ H c H:=λw E σ hh hl K hk=>by
 obtain⟨a,ha,hla⟩:=Ko (hl x (by simp[ho,Op.operands])) hc;have hy1:=hl y (by simp[ho,Op.operands]);rw[hy]at hy1;have hyv:σ y=.int k n:=by generalize σ y=u at *;cases hy1;rfl
 have hr:(execOp σ o).run P w=.ok (.value (.pointer (some (a.add (n.toNat*i.size))))) w:=by
  unfold execOp;simp[ho,Instr.indexAt,asIntOf,hyv,ha,run_underlying ht,h0,h1,qV hi,Instr.sureAddr]
 rw[hr];exact hk _ w E hh hla (qj.refl w E H)
end
def C3(id:Nat)(hops:List fA)(i k:Nat):C->C
 |.eM 2 sz rows=>.sl id (hops++[(i,k)]) sz 0 rows.length false
 |c=>c
def vw(id:Nat)(hops:List fA)(i:Nat):Nat->List C->List C
 |_,[]=>[]
 |k,c::cs=>C3 id hops i k c::vw id hops i (k+1) cs
theorem qS(sz:Nat)(rows:List (List C)):vH sz rows []=some (sz,rows):=rfl
def xz(sz:Nat)(rows:List (List C))(i k:Nat)(hs:List fA):vH sz rows ((i,k)::hs)=match cellAt rows i k with
  |some (.eM 2 sz' rows')=>vH sz' rows' hs
  |_=>none:=rfl
def Kq{i k sz2:Nat}{rows2:List (List C)}:∀(hops:List fA) (sz:Nat) (rows:List (List C)) (sz':Nat) (rows':List (List C)),vH sz rows hops=some (sz',rows')->
  cellAt rows' i k=some (.eM 2 sz2 rows2)->vH sz rows (hops++[(i,k)])=some (sz2,rows2)
 |[],sz,rows,sz',rows',h,hc=>by
  rw[qS]at h;cases h
  rw[List.nil_append,xz,hc]
  rfl
 |(i',k')::tl,sz,rows,sz',rows',h,hc=>by
  rw[xz]at h;rw[eF,xz];split at h
  .exact Kq tl _ _ _ _ h hc
  .cases h
def TZ{id:Nat}{sz':Nat}(h:qd H id hops=some (sz',rows')){i k:Nat}{sz2:Nat}{rows2:List (List C)}
 (hc:cellAt rows' i k=some (.eM 2 sz2 rows2)):qd H id (hops++[(i,k)])=some (sz2,rows2):=by
 obtain⟨ob,ho,hk,hg⟩:=qU h;unfold qd;rw[ho];simp only[hk,if_true];exact Kq _ _ _ _ _ hg hc
def WY(h:z8 w E H){id:Nat}(hb:qd H id hops=some (sz,rows)){i k:Nat}
 (hc:cellAt rows i k=some c)(ho:qN E kd id hops i k c u):L E (C3 id hops i k c) u:=by
 unfold qN at ho;split at ho
 .rename_i sz' rows';subst ho;have hb':=TZ hb hc;obtain⟨ob,hob,_,_⟩:=qU hb';have hlen:=(h.fb id ob _ _ _ hob hb').len;have:=L.sl (E:=E) id (hops++[(i,k)]) sz' 0 rows'.length false _ (by rw[h.n];exact AE hb') hlen (by simp) (by intro _;rw[gZ]);rw[s5]at this;exact this
 .rename_i h2
  have:C3 id hops i k c=c:=by
   unfold C3;split
   .exact absurd V (h2 _ _)
   .rfl
  rw[this];exact ho.1.mono (E.GU kd)
def I3{id:Nat}{hops:List fA}{i:Nat}:∀(cs:List C) (k j:Nat) (c':C),(vw id hops i k cs)[j]?=some c'->∃c,cs[j]?=some c/\c'=C3 id hops i (k+j) c
 |[],k,j,c',h=>by simp[vw]at h
 |c::cs,k,0,c',h=>by simp[vw]at h;exact⟨c,rfl,h.symm⟩
 |c::cs,k,j+1,c',h=>by
  simp[vw]at h;obtain⟨c0,h0,e⟩:=I3 cs (k+1) j c' h;exact⟨c0,by simpa using h0,by rw[e];congr 1;omega⟩
def Io{id:Nat}{hops:List fA}{i:Nat}:∀(cs:List C) (k:Nat),(vw id hops i k cs).length=cs.length
 |[],_=>rfl
 |c::cs,k=>by simp[vw,Io cs (k+1)]
def nH(H:zq)(c:C)(n:Nat):Option (List C):=
 match c with
 |.ref id hops sz i k=>match qd H id hops with
  |some (sz',rows)=>if sz' == sz then match rows[i]? with
    |some r=>if decide (k+n<=r.length) then some (vw id hops i k ((r.drop k).take n)) else none
    |none=>none
   else none
  |none=>none
 |.jL cells=>if decide (n<=cells.length) then some (cells.take n) else none
 |_=>none
def DX(h:z8 w E H)(hl:L E c y){n:Nat}(hr:nH H c n=some cs):
  ∃a us,y=.pointer (some a)/\(∀(j:Nat) u,us[j]?=some u->w.cell? (a.add j)=some u)/\LL E cs us/\us.length=n/\(∀u∈us,u.oneCell'=true):=by
 cases hl with
 |ref id hops sz i k hn=>
  simp only[nH]at hr;split at hr
  .rename_i sz' rows hb;split at hr
   .rename_i hsz;have hsz:sz'=sz:=by simpa using hsz
    subst hsz;split at hr
    .rename_i r hrow;split at hr
     .rename_i hlen;simp only[pE]at hlen;cases hr
      obtain⟨ob,hob,_,_⟩:=qU hb;have hB:=h.fb id ob hops sz' rows hob hb;obtain⟨cur,e,hg,hcs,hcell⟩:=hB.fb;have hrl:r.length=sz':=hB.row r (gT hrow)
      have hcc:∀j,j<n->∃c u,r[k+j]?=some c/\cellAt rows i (k+j)=some c/\cur[i*sz'+(k+j)]?=some u/\qN E ob.kind id hops i (k+j) c u:=λj hj=>by
       have hj':k+j<r.length:=by omega
       have h1:r[k+j]?=some r[k+j]:=by simp[hj']
       have h2:cellAt rows i (k+j)=some r[k+j]:=by simp[cellAt,hrow,hj']
       obtain⟨u,hu,ho⟩:=hcell i (k+j) _ h2;exact⟨_,u,h1,h2,hu,ho⟩
      refine⟨_,(List.range n).map (λj=>cur.getD (i*sz'+(k+j)) undef),rfl,?_,⟨?_,?_⟩,by simp,?_⟩
      .intro j u hju;simp only[gM]at hju;cases hjr:(List.range n)[j]? with
       |none=>rw[hjr]at hju;cases hju
       |some j'=>
        rw[hjr]at hju;obtain⟨hjlt,hj'⟩:=gN.1 hjr;simp at hj' hjlt;subst hj';obtain⟨c,u',h1,h2,hu,ho⟩:=hcc j hjlt;simp only[g9,pG]at hju;rw[pY,hu]at hju;simp at hju;subst hju;rw[j0];unfold World.cell?;simp only[hg];rw[gP (by simp),sf];exact hu
      .rw[Io];simp;omega
      .intro j c' u hc' hu';obtain⟨c,hc,rfl⟩:=I3 _ _ _ _ hc';rw[pF]at hc;split at hc
       .rename_i hj;rw[rj]at hc;obtain⟨c2,u2,h1,h2,hu,ho⟩:=hcc j hj;rw[h1]at hc;cases hc
        simp only[gM,sa hj,g9,pG]at hu';rw[pY,hu]at hu';simp at hu';subst hu';exact WY h hb h2 ho
       .cases hc
      .intro u hu;obtain⟨j,hj,rfl⟩:=pO.1 hu;obtain⟨c,u',h1,h2,hu',ho⟩:=hcc j (by simpa using hj);rw[pY,hu'];simp only[rm];unfold qN at ho;split at ho
       .rw[ho];rfl
       .exact ho.2
     .cases hr
    .cases hr
   .cases hr
  .cases hr
 |jL cells b off us hst hL=>
  simp only[nH]at hr;split at hr
  .rename_i hlen;simp only[pE]at hlen;cases hr
   refine⟨_,(List.range n).map us,rfl,?_,⟨by simp;omega,?_⟩,by simp,?_⟩
   .intro j u hju;simp only[gM]at hju;cases hjr:(List.range n)[j]? with
    |none=>rw[hjr]at hju;cases hju
    |some j'=>
     rw[hjr]at hju;obtain⟨hjlt,hj'⟩:=gN.1 hjr;simp at hj' hjlt;subst hj';cases hju
     rw[j0];have hj2:j<cells.length:=by omega
     exact(h.qn _ _ _ (hst j cells[j] (by simp[hj2]))).1
   .intro j c u hc hu;rw[pF]at hc;split at hc
    .rename_i hj;simp only[gM,sa hj,g9,pG]at hu;subst hu;exact(hL j c hc).mono E.Bz
    .cases hc
   .intro u hu;obtain⟨j,hj,rfl⟩:=pO.1 hu
    have hj2:j<cells.length:=by
      have:j<n:=by simpa using hj
      omega
    exact(h.qn _ _ _ (hst j cells[j] (by simp[hj2]))).2
  .cases hr
 |_=>simp[nH]at hr
def Bw:TypeDesc->Bool
 |.struct _|.array _ _=>true
 |_=>false
def wc{d:TypeDesc}(h:P.underlying t=some d)(w:World):(isAgg t).run P w=.ok (Bw d) w:=by
 simp only[isAgg,Sem.run_bind,run_underlying h,Result.andThen_ok];cases d <;> rfl
def wx(P:Program)(H:zq)(t:TypeId)(c:C):Option C:=
 match P.underlying t,P.info? t with
 |some d,some i=>
  if Bw d then (nH H c i.size).map .agg
  else match nH H c 1 with
   |some [x]=>some x
   |_=>none
 |_,_=>none
section
variable {P:Program} {o:Oper} {ρ:Operand->C} {H:zq}
def qy.load(t:TypeId)(x:Operand)(ho:o.op=.load t x)(hc:wx P H t (ρ x)=some c):qy P o ρ H c H:=λw E σ hh hl K hk=>by
 have hx:=hl x (by simp[ho,Op.operands]);unfold wx at hc;split at hc
 .rename_i d i hd hi;by_cases hag:Bw d=true
  .rw[gS hag]at hc;cases hr:nH H (ρ x) i.size with
   |none=>rw[hr]at hc;cases hc
   |some cs=>
    rw[hr]at hc;cases hc
    obtain⟨a,us,ha,hcell,hll,hlen,hone⟩:=DX hh hx hr
    have hr':(execOp σ o).run P w=.ok (.value (.agg us.toArray)) w:=by
     unfold execOp;have h3:=run_loadCells_list (P:=P) (w:=w) a us (λj v hj=>hcell j v hj);rw[hlen]at h3;simp[ho,Instr.loadAt,Instr.sureAddr,ha,loadVar,wc hd,hag,qV hi,h3]
    rw[hr'];exact hk _ w E hh (.agg cs us.toArray (by simpa using hll.1) (λi c y e1 e2=>hll.2 i c y e1 (by simpa using e2)) (λu hu=>hone u (by simpa using hu))) (qj.refl w E H)
  .rw[gP hag]at hc;split at hc
   .rename_i x0 hr;cases hc
    obtain⟨a,us,ha,hcell,hll,hlen,hone⟩:=DX hh hx hr
    obtain⟨u,rfl⟩:∃u,us=[u]:=by
     match us,hlen with
     |[u],_=>exact⟨u,rfl⟩
    have hu:=hcell 0 u V;have ha0:a.add 0=a:=by simp[Addr.add]
    rw[ha0]at hu
    have hr':(execOp σ o).run P w=.ok (.value u) w:=by
     unfold execOp;simp[ho,Instr.loadAt,Instr.sureAddr,ha,loadVar,wc hd,hag,hu]
    rw[hr'];exact hk _ w E hh hll.cons_inv.1 (qj.refl w E H)
   .cases hc
 .cases hc
end
def setCell(rows:List (List C))(i k:Nat)(c:C):List (List C):=rows.modify i (·.set k c)
def yH:List (List C)->List fA->(List (List C)->List (List C))->List (List C)
 |rows,[],f=>f rows
 |rows,(i,k)::hs,f=>match cellAt rows i k with
  |some (.eM 2 sz' rows')=>setCell rows i k (.eM 2 sz' (yH rows' hs f))
  |_=>rows
theorem DC(rows:List (List C))(f:List (List C)->List (List C)):yH rows [] f=f rows:=rfl
def Dz(rows:List (List C))(i k:Nat)(hs:List fA)(f:List (List C)->List (List C)):yH rows ((i,k)::hs) f=match cellAt rows i k with
  |some (.eM 2 sz' rows')=>setCell rows i k (.eM 2 sz' (yH rows' hs f))
  |_=>rows:=rfl
def HX(rows:List (List C))(i k:Nat)(c:C):(setCell rows i k c).length=rows.length:=by simp[setCell]
def Ib(rows:List (List C))(i k:Nat)(c:C)(i' k':Nat):cellAt (setCell rows i k c) i' k'=if i=i'/\k=k' then (cellAt rows i' k').map (λ_=>c) else cellAt rows i' k':=by
 unfold cellAt setCell;rw[rF];by_cases hi:i=i'
 .subst hi;cases hr:rows[i]? with
  |none=>simp
  |some r=>
   simp only[if_true,r8,g9,pJ,true_and];rw[pd];by_cases hk:k=k'
   .subst hk;simp only[if_true];by_cases eP:k<r.length
    .simp[eP]
    .simp[eP]
   .simp[hk]
 .simp[hi]
def Qx(h:∀r∈rows,r.length=sz)(i k:Nat)(c:C):∀r∈setCell rows i k c,r.length=sz:=by
 intro r hr;obtain⟨j,hj⟩:=pA.1 hr;unfold setCell at hj;rw[rF]at hj;cases hx:rows[j]? with
 |none=>rw[hx]at hj;cases hj
 |some r0=>
  rw[hx]at hj;have h0:=h r0 (gT hx);simp only[r8,g9,pG]at hj;subst hj;split <;> simp[h0]
structure C9(rows rows':List (List C)):Prop where
 len:rows'.length=rows.length
 own:∀i k s r,cellAt rows' i k=some (.eM 2 s r)↔cellAt rows i k=some (.eM 2 s r)
structure AR(rows rows':List (List C)):Prop where
 len:rows'.length=rows.length
 cell:∀i k c',cellAt rows' i k=some c'->∃c,cellAt rows i k=some c/\(c=c'\/∃s r r',c=.eM 2 s r/\c'=.eM 2 s r'/\r'.length=r.length)
 row:∀sz,(∀r∈rows,r.length=sz)->∀r∈rows',r.length=sz
def AR.refl(rows:List (List C)):AR rows rows:=⟨rfl,λi k c h=>⟨c,h,.inl V⟩,λ_ h=>h⟩
def IU:∀(hops:List fA) (sz:Nat) (rows:List (List C)) (sz':Nat) (rows':List (List C)),vH sz rows hops=some (sz',rows')->C9 rows' (f rows')->(yH rows hops f).length=rows.length
 |[],sz,rows,sz',rows',h,ht=>by rw[qS]at h;cases h;rw[DC];exact ht.len
 |(i,k)::hs,sz,rows,sz',rows',h,ht=>by
  rw[Dz];split
  .exact HX _ _ _ _
  .rfl
def Kp{f:List (List C)->List (List C)}:∀(hops:List fA) (sz:Nat) (rows:List (List C)) (sz':Nat) (rows':List (List C)),vH sz rows hops=some (sz',rows')->C9 rows' (f rows')->
  ∀(p:List fA) (sz2:Nat) (rows2':List (List C)),vH sz (yH rows hops f) p=some (sz2,rows2')->
   ∃rows2,vH sz rows p=some (sz2,rows2)/\((p=hops/\rows2'=f rows2)\/(p≠hops/\AR rows2 rows2'))
 |[],sz,rows,sz',rows',h,ht,p,sz2,rows2',hp=>by
  rw[qS]at h;cases h
  rw[DC]at hp;cases p with
  |nil=>rw[qS]at hp;cases hp;exact⟨rows,rfl,.inl ⟨rfl,rfl⟩⟩
  |cons hd q=>
   obtain⟨i,k⟩:=hd;rw[xz]at hp;split at hp
   .rename_i s r hc;rw[ht.own]at hc;exact⟨rows2',by rw[xz,hc];exact hp,.inr ⟨by simp,AR.refl _⟩⟩
   .cases hp
 |(i,k)::hs,sz,rows,sz',rows',h,ht,p,sz2,rows2',hp=>by
  rw[xz]at h;split at h
  .rename_i s r hc;have hset:yH rows ((i,k)::hs) f=setCell rows i k (.eM 2 s (yH r hs f)):=by rw[Dz,hc];rfl
   rw[hset]at hp;cases p with
   |nil=>
    rw[qS]at hp;cases hp
    refine⟨rows,rfl,.inr ⟨by simp,HX _ _ _ _,?_,λsz0 h0=>Qx h0 _ _ _⟩⟩;intro i' k' c' hcc;rw[Ib]at hcc;split at hcc
    .rename_i hik;obtain⟨rfl,rfl⟩:=hik;rw[hc]at hcc;simp only[g9,pG]at hcc;subst hcc;exact⟨_,hc,.inr ⟨s,r,_,rfl,rfl,IU hs s r sz' rows' h ht⟩⟩
    .exact⟨c',hcc,.inl V⟩
   |cons hd q=>
    obtain⟨i',k'⟩:=hd;rw[xz,Ib]at hp;by_cases hik:i=i'/\k=k'
    .obtain⟨rfl,rfl⟩:=hik;rw[gS ⟨rfl,rfl⟩,hc]at hp;simp only[g9]at hp;obtain⟨rows2,h2,h3⟩:=Kp hs s r sz' rows' h ht q sz2 rows2' hp;refine⟨rows2,by rw[xz,hc];exact h2,?_⟩;rcases h3 with⟨rfl,e⟩|⟨hne,hlk⟩
     .exact .inl ⟨rfl,e⟩
     .exact .inr ⟨λe=>hne (by simpa using e),hlk⟩
    .rw[gP hik]at hp;refine⟨rows2',by rw[xz];exact hp,.inr ⟨?_,AR.refl _⟩⟩;intro e;simp at e;exact hik ⟨e.1.1.symm,e.1.2.symm⟩
  .cases h
def l9(H:zq)(id:Nat)(hops:List fA)(f:List (List C)->List (List C)):zq:=H.modify id λob=>match ob with
 |⟨kind,ty,sz,rows,fz⟩=>⟨kind,ty,sz,yH rows hops f,fz⟩
def Cp(H:zq)(id:Nat)(hops:List fA)(f:List (List C)->List (List C))(j:Nat):(l9 H id hops f)[j]?=(H[j]?).map λob=>if id=j then {ob with rows:=yH ob.rows hops f} else ob:=by
 unfold l9;rw[rF]
 rfl
def Cl{id:Nat}(hb:qd H id hops=some (sz,rows))(ht:C9 rows (f rows)){id':Nat}{p:List fA}
 {sz2:Nat}{rows2':List (List C)}(hp:qd (l9 H id hops f) id' p=some (sz2,rows2')):
  ∃rows2,qd H id' p=some (sz2,rows2)/\((id'=id/\p=hops/\rows2'=f rows2)\/(¬(id'=id/\p=hops)/\AR rows2 rows2')):=by
 obtain⟨ob,hob,hk,hg⟩:=qU hb;obtain⟨ob',hob',hk',hg'⟩:=qU hp;rw[Cp]at hob';by_cases hid:id=id'
 .subst hid;rw[hob]at hob';simp only[g9,if_true,pG]at hob';subst hob';obtain⟨rows2,h2,h3⟩:=Kp hops ob.sz ob.rows sz rows hg ht p sz2 rows2' hg';refine⟨rows2,?_,?_⟩
  .unfold qd;rw[hob];simp only[hk,if_true];exact h2
  .rcases h3 with⟨rfl,e⟩|⟨hne,hlk⟩
   .exact .inl ⟨rfl,rfl,e⟩
   .exact .inr ⟨λe=>hne e.2,hlk⟩
 .cases hx:H[id']? with
  |none=>rw[hx]at hob';cases hob'
  |some ob2=>
   rw[hx]at hob';simp only[g9,hid,if_false,pG]at hob';subst hob';refine⟨rows2',?_,.inr ⟨λe=>hid e.1.symm,AR.refl _⟩⟩;unfold qd;rw[hx];simp only[hk',if_true];exact hg'
def z8.write(h:z8 w E H){id:Nat}{ob:Ob}(hob:H[id]?=some ob)
 (hb:qd H id hops=some (sz,rows))(ht:C9 rows (f rows))(hrow:∀r∈f rows,r.length=sz){cur cur':Array Value}{e:TypeId}(hg:w.heap[E.β id hops]?=some (.cells cur e (0,0)))(hsz:cur'.size=cur.size)
 (hst:∀o u,E.St (E.β id hops) o=some u->cur'[o]?=some u)
 (hc:∀i k c,cellAt (f rows) i k=some c->∃u,cur'[i*sz+k]?=some u/\qN E ob.kind id hops i k c u):
  z8 (w.setRow (E.β id hops) cur') E (l9 H id hops f)/\qj w E H (w.setRow (E.β id hops) cur') E (l9 H id hops f):=by
 have hown:∀b,qY E (l9 H id hops f) b->qY E H b:=by
  rintro b ⟨id',p,⟨s2,r2⟩,hx,rfl⟩;obtain⟨rows2,h2,_⟩:=Cl hb ht hx;exact⟨id',p,_,h2,rfl⟩
 refine⟨⟨by rw[h.n];simp[l9],?_,?_,?_,?_,?_,?_⟩,⟨Env.le.refl E,λ_ _ _=>V,rfl,rfl,rfl,by simp[World.setRow],?_,λb o u hu=>.inl hu,λb hb'=>.inr (hown b hb')⟩⟩
 .intro id' ob' p sz2 rows2' hob' hx;obtain⟨rows2,h2,h3⟩:=Cl hb ht hx
  have hkd:∃ob0,H[id']?=some ob0/\ob'.kind=ob0.kind:=by
   rw[Cp]at hob';cases hx':H[id']? with
   |none=>rw[hx']at hob';cases hob'
   |some ob0=>
    rw[hx']at hob';simp only[g9,pG]at hob';subst hob';exact⟨ob0,rfl,by split <;> rfl⟩
  obtain⟨ob0,hob0,hkd⟩:=hkd;have hB:=h.fb id' ob0 p sz2 rows2 hob0 h2;rw[hkd];rcases h3 with⟨rfl,rfl,rfl⟩|⟨hne,hlk⟩
  .rw[hb]at h2;cases h2
   rw[hob]at hob0;cases hob0
   obtain⟨cur0,e0,hg0,hs0,_⟩:=hB.fb;rw[hg]at hg0;cases hg0
   exact⟨by rw[ht.len];exact hB.len,hrow,cur',e,setRow_heap w _ cur cur' e _ hg,by rw[hsz];exact hs0,hc⟩
  .obtain⟨cur0,e0,hg0,hs0,hc0⟩:=hB.fb
   have hdiff:E.β id' p≠E.β id hops:=λhe=>hne (by
    have:=h.inj id' p id hops _ _ h2 hb he;exact this)
   refine⟨by rw[hlk.len];exact hB.len,hlk.row sz2 hB.row,cur0,e0,by rw[setRow_other w _ _ _ hdiff];exact hg0,hs0,?_⟩;intro i k c' hcc;obtain⟨c,h4,h5⟩:=hlk.cell i k c' hcc;obtain⟨u,hu,ho⟩:=hc0 i k c h4;refine⟨u,hu,?_⟩;rcases h5 with rfl|⟨s,r,r',rfl,rfl,hl⟩
   .exact ho
   .simp only[qN]at ho|-;rw[hl];exact ho
 .intro id1 p1 id2 p2 x y hx hy he;obtain⟨r1,h1,_⟩:=Cl hb ht (rows2':=x.2) (sz2:=x.1) (by simpa using hx);obtain⟨r2,h2,_⟩:=Cl hb ht (rows2':=y.2) (sz2:=y.1) (by simpa using hy);exact h.inj id1 p1 id2 p2 _ _ h1 h2 he
 .intro b o u hu;refine⟨?_,(h.qn b o u hu).2⟩;by_cases hbb:b=E.β id hops
  .subst hbb;unfold World.cell?;rw[setRow_heap w _ cur cur' e _ hg];simp;exact hst o u hu
  .have:=(h.qn b o u hu).1;unfold World.cell? at this|-;simp only[setRow_other w _ _ _ hbb];exact this
 .intro id' p x o u hx hu;obtain⟨r1,h1,_⟩:=Cl hb ht (rows2':=x.2) (sz2:=x.1) (by simpa using hx);obtain⟨e1,ob',e2,e3⟩:=h.sep id' p _ o u h1 hu;refine⟨e1,?_⟩;rw[Cp,e2];exact⟨_,rfl,by split <;> exact e3⟩
 .intro id' ob' hob' hk;rw[Cp]at hob';cases hx':H[id']? with
  |none=>rw[hx']at hob';cases hob'
  |some ob0=>
   rw[hx']at hob';simp only[g9,pG]at hob';have hk0:ob0.kind=2/\ob'.ty=ob0.ty:=by subst hob';revert hk;split <;> exactλh=>⟨h,rfl⟩
   obtain⟨cur0,hc0⟩:=h.ty id' ob0 hx' hk0.1;rw[hk0.2];by_cases hbb:E.β id' []=E.β id hops
   .rw[hbb]at hc0|-;rw[hg]at hc0;cases hc0
    exact⟨cur',setRow_heap w _ cur cur' _ _ hg⟩
   .exact⟨cur0,by rw[setRow_other w _ _ _ hbb];exact hc0⟩
 .intro id' ob' hob';rw[Cp]at hob';cases hx':H[id']? with
  |none=>rw[hx']at hob';cases hob'
  |some ob0=>
   rw[hx']at hob';simp only[g9,pG]at hob';have h0:=h.fz id' ob0 hx';subst hob';split
   .rename_i hid;subst hid;rw[hob]at hx';cases hx'
    obtain⟨ob2,h1,_,h2⟩:=qU hb;rw[hob]at h1;cases h1
    dsimp only;rw[IU hops _ _ _ _ h2 ht];exact h0
   .exact h0
 .intro k hk ho;rw[setRow_other w _ _ _ (λe'=>ho ⟨id,hops,_,hb,e'.symm⟩)]
def xZ(k:Nat)(cs:List C)(r:List C):List C:=r.take k++cs++r.drop (k+cs.length)
def kP(i k:Nat)(cs:List C)(rows:List (List C)):List (List C):=rows.modify i (xZ k cs)
def Ia{k:Nat}{r:List C}(h:k+cs.length<=r.length):(xZ k cs r).length=r.length:=by
 simp[xZ];omega
def IQ{k:Nat}{r:List C}(h:k+cs.length<=r.length)(j:Nat):(xZ k cs r)[j]?=if k<=j/\j<k+cs.length then cs[j-k]? else r[j]?:=by
 unfold xZ;rw[rL];by_cases h1:j<k
 .rw[gW (by simp;omega),pF,gS h1,gP (by omega)]
 .rw[pq (by simp;omega)];have hk:(r.take k).length=k:=by simp;omega
  rw[hk];by_cases h2:j<k+cs.length
  .rw[gW (by omega),gS ⟨by omega,h2⟩]
  .rw[pq (by omega),rj,gP (by omega)]
   congr 1
   omega
def Ic{i k:Nat}{r:List C}(hr:rows[i]?=some r)(h:k+cs.length<=r.length)(i' k':Nat):
  cellAt (kP i k cs rows) i' k'=if i=i'/\k<=k'/\k'<k+cs.length then cs[k'-k]? else cellAt rows i' k':=by
 unfold cellAt kP;rw[rF];by_cases hi:i=i'
 .subst hi;rw[hr];simp only[if_true,r8,g9,pJ,true_and];rw[IQ h]
 .simp[hi]
def vt(P:Program)(H:zq)(t:TypeId)(a x:C):Option zq:=
 match a,P.info? t with
 |.ref id hops sz i k,some inf=>
  match qd H id hops,H[id]? with
  |some (sz',rows),some ob=>
   match rows[i]? with
   |some r=>
    if (sz' == sz) && lQ x && (x.cells.length == inf.size) && decide (k+x.cells.length<=r.length) && ((r.drop k).take x.cells.length).all zG && (ob.kind == 1 || x.cells.all jM) && (!hops.isEmpty || decide (ob.fz<=i)) && (hops.isEmpty || ob.fz == 0)
    then some (l9 H id hops (kP i k x.cells)) else none
   |none=>none
  |_,_=>none
 |_,_=>none
section
variable {P:Program} {o:Oper} {ρ:Operand->C} {H:zq}
def qy.store(t:TypeId)(x y:Operand)(ho:o.op=.store t x y)(hs:vt P H t (ρ x) (ρ y)=some H'):qy P o ρ H .un H':=λw E σ hh hl K hk=>by
 have hx:=hl x (by simp[ho,Op.operands]);have hy:=hl y (by simp[ho,Op.operands]);unfold vt at hs;split at hs
 rotate_left
 .cases hs
 rename_i id hops sz i k inf ha hinf;split at hs
 rotate_left
 .cases hs
 rename_i sz' rows ob hb hob;split at hs
 rotate_left
 .cases hs
 rename_i r hr;split at hs
 rotate_left
 .cases hs
 rename_i hcond;cases hs
 simp only[gY,pU,pE,rI,gV]at hcond;obtain⟨⟨⟨⟨⟨⟨⟨rfl,hval⟩,hlen⟩,hfit⟩,hold⟩,hkd⟩,hfz⟩,_⟩:=hcond;obtain⟨hll,hone,hno⟩:=Fy hy hval;rw[ha]at hx;have hB:=hh.fb id ob hops sz' rows hob hb;obtain⟨cur,e,hg,hcs,hcell⟩:=hB.fb;have hrl:r.length=sz':=hB.row r (gT hr);have hil:i<rows.length:=(gN.1 hr).1;have hx':σ x=.pointer (some ⟨E.β id hops,i*sz'+k,none⟩):=by generalize σ x=u at *;cases hx;rfl
 obtain⟨vs,hvs⟩:∃vs,vs=(σ y).cells.toList:=⟨_,rfl⟩;rw[<-hvs]at hll;have hvl:vs.length=(ρ y).cells.length:=hll.1.symm
 have hend:i*sz'+k+vs.length<=cur.size:=by
  have h1:(i+1)*sz'<=E.κ id hops*sz':=pQ _ (ru hil hB.len);rw[rp]at h1;omega
 have hrun:=run_storeCells_at P (E.β id hops) (i*sz'+k) e vs 0 cur w hg (by simpa using hend) (λv hv=>hone v (by rw[hvs]at hv;simpa using hv));simp only[sQ]at hrun;obtain⟨cur',hcur'⟩:∃cur',cur'=(cur.toList.take (i*sz'+k)++vs++cur.toList.drop (i*sz'+k+vs.length)).toArray:=⟨_,rfl⟩;rw[<-hcur']at hrun
 have hcget:∀j:Nat,cur'[j]?=if i*sz'+k<=j/\j<i*sz'+k+vs.length then vs[j-(i*sz'+k)]? else cur[j]?:=by
  intro j;rw[hcur'];simp only[sK];rw[rL];by_cases h1:j<i*sz'+k
  .rw[gW (by simp;omega),pF,gS h1,gP (by omega),pK]
  .rw[pq (by simp;omega)];have hk':(cur.toList.take (i*sz'+k)).length=i*sz'+k:=by simp;omega
   rw[hk'];by_cases h2:j<i*sz'+k+vs.length
   .rw[gW (by omega),gS ⟨by omega,h2⟩]
   .rw[pq (by omega),rj,gP (by omega),pK]
    congr 1
    omega
 have hr':(execOp σ o).run P w=.ok .skip (w.setRow (E.β id hops) cur'):=by
  unfold execOp
  have hsz2:(σ y).cells.size=inf.size:=by
   have:vs.length=(σ y).cells.size:=by rw[hvs];simp
   omega
  simp[ho,Instr.storeAt,Instr.sureAddr,hx',storeVar,qV hinf,hsz2,<-hvs,hrun]
 rw[hr']
 have hpos:∀i' k',i'<rows.length->k'<sz'->(i*sz'+k<=i'*sz'+k'/\i'*sz'+k'<i*sz'+k+vs.length↔i=i'/\k<=k'/\k'<k+vs.length):=by
  intro i' k' hi' hk';constructor
  .rintro⟨h1,h2⟩
   have:i=i':=by
    rcases rU i i' with h|h|h
    .exfalso
     have:(i+1)*sz'<=i'*sz':=pQ _ h;rw[rp]at this;omega
    .exact h
    .exfalso
     have:(i'+1)*sz'<=i*sz':=pQ _ h;rw[rp]at this;omega
   subst this;omega
  .rintro⟨rfl,h1,h2⟩;omega
 have htame:C9 rows (kP i k (ρ y).cells rows):=by
  refine⟨by simp[kP],?_⟩;intro i' k' s r0;rw[Ic hr hfit];split
  .rename_i hin;obtain⟨rfl,h1,h2⟩:=hin;constructor
   .intro h;have:=gV.1 hno _ (gT h);simp[zG]at this
   .intro h;simp only[cellAt,hr,pJ]at h
    have hm:C.eM 2 s r0∈(r.drop k).take (ρ y).cells.length:=by
     apply pA.2
     refine⟨k'-k,?_⟩;rw[pF,gS (by omega),rj,show k+(k'-k)=k' from by omega];exact h
    have:=hold _ hm;simp[zG]at this
  .rfl
 have hW:=hh.write hob hb htame (cur:=cur) (cur':=cur') (e:=e) ?_ hg ?_ ?_ ?_
 .exact hk _ _ E hW.1 .un hW.2
 .intro r0 hr0;obtain⟨j,hj⟩:=pA.1 hr0;unfold kP at hj;rw[rF]at hj;cases hx0:rows[j]? with
  |none=>rw[hx0]at hj;cases hj
  |some r1=>
   rw[hx0]at hj;simp only[r8,g9,pG]at hj;subst hj;by_cases hij:i=j
   .subst hij;rw[hr]at hx0;cases hx0
    rw[gS V,Ia hfit];exact hrl
   .rw[gP hij];exact hB.row r1 (gT hx0)
 .rw[hcur'];simp;omega
 .intro off u hu;obtain⟨e1,ob',e2,e3⟩:=hh.sep id hops _ off u hb hu;rw[hob]at e2;cases e2
  subst e1;simp at hfz
  have hsz0:ob.sz=sz':=by
   obtain⟨ob2,h1,_,h2⟩:=qU hb;rw[hob]at h1;cases h1
   rw[qS]at h2;cases h2
   rfl
  have eP:off<i*sz':=by
   rw[hsz0]at e3;exact pV e3 (pQ _ hfz)
  rw[hcget,gP (by omega)];have:=(hh.qn _ _ _ hu).1;unfold World.cell? at this;rw[hg]at this;simpa using this
 .intro i' k' c hcc;rw[Ic hr hfit]at hcc;split at hcc
  .rename_i hin;obtain⟨rfl,h1,h2⟩:=hin;obtain⟨u,hu,hlu⟩:=hll.get hcc;have hnoc:=gV.1 hno _ (gT hcc);refine⟨u,?_,(qN.loose hnoc).2 ⟨?_,hone u ?_⟩⟩
   .rw[hcget,gS (by omega),show i*sz'+k'-(i*sz'+k)=k'-k from by omega];exact hu
   .rcases hkd with hkd|hkd
    .simpa [Env.at,hkd] using hlu
    .unfold Env.at
     split
     .exact hlu.vW (hkd _ (gT hcc))
     .exact hlu
   .have:=gT hu;rw[hvs]at this;simpa using this
  .rename_i hnot;obtain⟨u,hu,hou⟩:=hcell i' k' c hcc;refine⟨u,?_,hou⟩
   have hi'k':i'<rows.length/\k'<sz':=by
    unfold cellAt at hcc;cases hx0:rows[i']? with
    |none=>rw[hx0]at hcc;cases hcc
    |some r1=>
     rw[hx0]at hcc;refine⟨(gN.1 hx0).1,?_⟩;have:=hB.row r1 (gT hx0);rw[<-this];exact(gN.1 hcc).1
   rw[hcget,gP]
   .exact hu
   .rw[hpos i' k' hi'k'.1 hi'k'.2,hvl];exact hnot
def zb(P:Program)(f:FuncId)(H:zq)(args:List C)(r:C)(H':zq):Prop:=
 ∀(w:World) (E:Env) (vs:Array Value),qv w E H->LL E args vs.toList->
  Calls P f vs w λe w'=>∃v E',e=.returned v/\qv w' E' H'/\L E' r v/\Grow w E H w' E' H'
def qt(P:Program)(f:FuncId):Bool:=
 match P.funcs[f]? with
 |some fn => !(fn.name == "runtime.NumGoroutine") && fn.body.isSome
 |none=>false
def e6.call(cl:Call)(ho:o.op=.call cl)(x:Operand)(hcl:cl.callee=.value x){f:FuncId}{first caps:List C}(hf:ρ x=.fn f first caps)(hcb:qt P f=true){r:C}
 (hs:zb P f H (first++(cl.args.toList.map ρ)++caps) r H'):e6 P o ρ H r H':=λw E σ hh hl K hk=>by
 have h0:=hl x (by simp[ho,Op.operands,Call.operands,hcl]);rw[hf]at h0
 obtain⟨ys,zs,hv,h1,h2,h3,h4⟩:∃ys zs,σ x=.func (.func f) ys zs/\first.length=ys.size/\caps.length=zs.size/\(∀(i:Nat) c y,first[i]?=some c->ys[i]?=some y->L E c y)/\(∀(i:Nat) c y,caps[i]?=some c->zs[i]?=some y->L E c y):=by
  generalize σ x=u at *;cases h0 with
  |fn f first caps ys zs h1 h2 h3 h4=>exact⟨ys,zs,rfl,h1,h2,h3,h4⟩
 unfold qt at hcb;split at hcb
 rotate_left
 .cases hcb
 rename_i fn hfn;simp only[gY,pS]at hcb;have hname : fn.name ≠ "runtime.NumGoroutine" := by simpa using hcb.1
 have hbody:fn.body≠none:=by intro hb;simp[hb]at hcb
 have hr:(execOp σ o).run P w=.ok (.enter f (ys++cl.args.map σ++zs)) w:=by
  unfold execOp;simp[ho,resolve,hcl,hv,Deferred.ofValue,invoke,callFunc,hfn,hname,hbody]
 rw[hr];refine(hs w E (ys++cl.args.map σ++zs) hh ?_).mono ?_
 .have e1:LL E first ys.toList:=⟨by simpa using h1,λi c y e1 e2=>h3 i c y e1 (by simpa using e2)⟩;have e2:LL E caps zs.toList:=⟨by simpa using h2,λi c y e1 e2=>h4 i c y e1 (by simpa using e2)⟩
  have e3:LL E (cl.args.toList.map ρ) (cl.args.map σ).toList:=by
   refine⟨by simp,?_⟩;intro i c y hc hy;rw[gM]at hc;rw[uu,gM]at hy;cases ha:cl.args.toList[i]? with
   |none=>rw[ha]at hc;cases hc
   |some a=>
    rw[ha]at hc hy;cases hc
    cases hy
    exact hl a (by simp[ho,Op.operands,Call.operands];right;have:=gT ha;simpa using this)
  have:=(e1.append e3).append e2;simpa using this
 .rintro e w' ⟨v,E',rfl,h5,h6,h7⟩;exact⟨v,rfl,hk v w' E' h5 h6 h7⟩
end
section
variable {P:Program} {o:Oper} {ρ:Operand->C} {H:zq}
def qy.extract(x:Operand)(n:Nat)(ho:o.op=.extract x n){vs:List C}(hx:ρ x=.eR vs){c:C}(hc:vs[n]?=some c):qy P o ρ H c H:=λw E σ hh hl K hk=>by
 have h0:=hl x (by simp[ho,Op.operands]);rw[hx]at h0
 obtain⟨ys,hy,hlen,hll⟩:∃ys,σ x=.tuple ys/\vs.length=ys.size/\∀(i:Nat) c y,vs[i]?=some c->ys[i]?=some y->L E c y:=by
  generalize σ x=u at *;cases h0 with
  |eR _ ys h1 h2=>exact⟨ys,rfl,h1,h2⟩
 have eP:n<ys.size:=by rw[<-hlen];exact(gN.1 hc).1
 have hr:(execOp σ o).run P w=.ok (.value ys[n]) w:=by
  unfold execOp;simp[ho,Instr.extract,hy,eP]
 rw[hr];exact hk _ w E hh (hll n c _ hc (by simp[eP])) (qj.refl w E H)
def F3:C->Bool
 |.ref .. |.jL _|.fn ..=>true
 |_=>false
def qy.nilCheck(x:Operand)(ho:o.op=.nilCheck x)(hx:F3 (ρ x)=true):qy P o ρ H (ρ x) H:=λw E σ hh hl K hk=>by
 have h0:=hl x (by simp[ho,Op.operands])
 have hr:(execOp σ o).run P w=.ok (.value (σ x)) w:=by
  unfold execOp;generalize ρ x=c at *;generalize hu:σ x=u at *;cases h0 <;> first|(simp[F3]at hx;done)|(simp only[ho,hu];rfl)
 rw[hr];exact hk _ w E hh h0 (qj.refl w E H)
def qy.makeFunc(f:FuncId)(first caps:Array Operand)(ho:o.op=.makeFunc (.func f) first caps):qy P o ρ H (.fn f (first.toList.map ρ) (caps.toList.map ρ)) H:=λw E σ hh hl K hk=>by
 have hr:(execOp σ o).run P w=.ok (.value (.func (.func f) (first.map σ) (caps.map σ))) w:=by
  unfold execOp;simp only[ho]
  rfl
 rw[hr];refine hk _ w E hh (.fn f _ _ _ _ (by simp) (by simp) ?_ ?_) (qj.refl w E H)
 .intro i c y hc hy;rw[gM]at hc;rw[ud]at hy;cases ha:first[i]? with
  |none=>rw[ha]at hy;cases hy
  |some a=>
   rw[pK,ha]at hc;rw[ha]at hy;cases hc
   cases hy
   exact hl a (by simp[ho,Op.operands];left;exact rX ha)
 .intro i c y hc hy;rw[gM]at hc;rw[ud]at hy;cases ha:caps[i]? with
  |none=>rw[ha]at hy;cases hy
  |some a=>
   rw[pK,ha]at hc;rw[ha]at hy;cases hc
   cases hy
   exact hl a (by simp[ho,Op.operands];right;exact rX ha)
def nF(place:Nat->Option (Nat×Nat)):List C->List (Nat×C)->Option (List C)
 |cells,[]=>some cells
 |cells,(i,c)::rest=>match place i with
  |none=>none
  |some (off,size)=>if lQ c && (c.cells.length == size) && decide (off+size<=cells.length) then nF place (xZ off c.cells cells) rest else none
def Km:∀(vs:List Value) (off k:Nat) (cells:Array Value),off+k+vs.length<=cells.size->
  ((vs.zipIdx k).foldl (λcs (p:Value×Nat)=>cs.setIfInBounds (off+p.2) p.1) cells).size=cells.size/\
  ∀j:Nat,((vs.zipIdx k).foldl (λcs (p:Value×Nat)=>cs.setIfInBounds (off+p.2) p.1) cells)[j]?=if off+k<=j/\j<off+k+vs.length then vs[j-(off+k)]? else cells[j]?
 |[],off,k,cells,h=>⟨rfl,λj=>by rw[gP (by simp)];rfl⟩
 |v::vs,off,k,cells,h=>by
  simp only[List.zipIdx_cons,eI,rK]at h|-;have ih:=Km vs off (k+1) (cells.setIfInBounds (off+k) v) (by simp;omega);refine⟨by rw[ih.1];simp,?_⟩;intro j;rw[ih.2 j];by_cases h1:off+k=j
  .subst h1;rw[gP (by omega),gS (by omega),u7];simp;omega
  .by_cases h2:off+(k+1)<=j/\j<off+(k+1)+vs.length
   .rw[gS h2,gS (by omega),show j-(off+k)=(j-(off+(k+1)))+1 from by omega];simp
   .rw[gP h2,gP (by omega),u7];simp[h1]
def CC{E:Env}{place:Nat->Option (Nat×Nat)}{ρ:Operand->C}{σ:Operand->Value}:∀(parts:List (Nat×Operand)) (cs:List C) (arr:Array Value),LL E cs arr.toList->(∀u∈arr,u.oneCell'=true)->cs.all zG=true->
  (∀p∈parts,L E (ρ p.2) (σ p.2))->∀cs',nF place cs (parts.map λp=>(p.1,ρ p.2))=some cs'->
  ∃arr',Instr.fill place arr (parts.map λp=>(p.1,σ p.2))=some arr'/\LL E cs' arr'.toList/\(∀u∈arr',u.oneCell'=true)/\cs'.all zG=true
 |[],cs,arr,hl,h1,hno,_,cs',h=>by
  simp only[List.map_nil,nF,pG]at h;subst h;exact⟨arr,rfl,hl,h1,hno⟩
 |(i,x)::rest,cs,arr,hl,h1,hno,hp,cs',h=>by
  simp only[sM,nF]at h;split at h
  .cases h
  .rename_i off size hpl;split at h
   .rename_i hcond;simp only[gY,pU,pE]at hcond;obtain⟨⟨hv,hsz⟩,hfit⟩:=hcond;have hx:=hp (i,x) (by simp);obtain⟨hll,hone,hnoc⟩:=Fy hx hv;have hlen:(σ x).cells.size=size:=by have:=hll.1;simp at this;omega
    have hal:arr.size=cs.length:=by have:=hl.1;simp at this;omega
    obtain⟨vs,hvs⟩:∃vs,vs=(σ x).cells.toList:=⟨_,rfl⟩;have hvl:vs.length=size:=by rw[hvs];simpa using hlen
    have hfold:=Km vs off 0 arr (by omega)
    have hfe:(σ x).cells.zipIdx.foldl (λcs (p:Value×Nat)=>cs.setIfInBounds (off+p.2) p.1) arr=(vs.zipIdx 0).foldl (λcs (p:Value×Nat)=>cs.setIfInBounds (off+p.2) p.1) arr:=by
     rw[<-Array.foldl_toList,Array.toList_zipIdx,hvs]
    obtain⟨arr2,harr2⟩:∃arr2,arr2=(vs.zipIdx 0).foldl (λcs (p:Value×Nat)=>cs.setIfInBounds (off+p.2) p.1) arr:=⟨_,rfl⟩;rw[<-harr2]at hfold hfe;have hcl:(ρ x).cells.length=size:=hsz
    have hl2:LL E (xZ off (ρ x).cells cs) arr2.toList:=by
     refine⟨by rw[Ia (by omega)];simp[hfold.1,hal],?_⟩;intro j c y hc hy;rw[IQ (by omega)]at hc;rw[pK,hfold.2 j]at hy;simp only[sQ]at hy;split at hc
     .rename_i hin;rw[gS (by omega)]at hy;exact hll.2 _ c y hc (by rw[<-hvs];exact hy)
     .rename_i hin;rw[gP (by omega)]at hy;exact hl.2 j c y hc (by simpa using hy)
    have hone2:∀u∈arr2,u.oneCell'=true:=by
     intro u hu;obtain⟨j,hj⟩:=sX.1 hu;rw[hfold.2 j]at hj;split at hj
     .have:=gT hj;rw[hvs]at this;exact hone u (by simpa using this)
     .exact h1 u (rX hj)
    have hno2:(xZ off (ρ x).cells cs).all zG=true:=by
     rw[gV];intro c hc;unfold xZ at hc;simp only[pw]at hc;rcases hc with(hc|hc)|hc
     .exact gV.1 hno c (gU hc)
     .exact gV.1 hnoc c hc
     .exact gV.1 hno c (sO hc)
    obtain⟨arr',e1,e2,e3,e4⟩:=CC rest _ arr2 hl2 hone2 hno2 (λp hpm=>hp p (by simp[hpm])) cs' h;refine⟨arr',?_,e2,e3,e4⟩;simp only[sM,Instr.fill,hpl];rw[gP (by simp[hlen];omega),hfe];exact e1
   .cases h
def Ea(P:Program)(t:TypeId)(parts:List (Nat×C)):Option (List C):=
 match wZ P t,P.underlying t with
 |some z,some (.array _ e)=>
  match P.info? e with
  |some ie=>nF (λi=>some (i*ie.size,ie.size)) z parts
  |none=>none
 |some z,some (.struct fields)=>
  match fields.toList.mapM (λf=>(P.info? f.type).map λi=>(f.offset,i.size)) with
  |some places=>nF (places.toArray[·]?) z parts
  |none=>none
 |_,_=>none
def qy.build(t:TypeId)(parts:Array (Nat×Operand))(ho:o.op=.build t parts)(hb:Ea P t (parts.toList.map λp=>(p.1,ρ p.2))=some cs):qy P o ρ H (.agg cs) H:=λw E σ hh hl K hk=>by
 have hp:∀p∈parts.toList,L E (ρ p.2) (σ p.2):=λp hpm=>hl p.2 (by
  simp only[ho,Op.operands];exact(ej).2 (pO.2 ⟨p,hpm,rfl⟩))
 have main:∃arr,P.built t (parts.map λ(i,x)=>(i,σ x)).toList=some arr/\LL E cs arr.toList/\(∀u∈arr,u.oneCell'=true):=by
  have e0:(parts.map λ(i,x)=>(i,σ x)).toList=parts.toList.map λp=>(p.1,σ p.2):=by simp
  rw[e0];unfold Ea at hb;split at hb
  .rename_i z n e hz hu;split at hb
   .rename_i ie hie;obtain⟨it,zv,h1,h2,h3,h4,h5,h6,h7⟩:=vX hz E;obtain⟨arr,a1,a2,a3,a4⟩:=CC parts.toList z zv.cells h3 h4 h6 hp cs hb;exact⟨arr,by simp only[Program.built,h1,hu,h2,hie];exact a1,a2,a3⟩
   .cases hb
  .rename_i z fields hz hu;split at hb
   .rename_i places hpl;obtain⟨it,zv,h1,h2,h3,h4,h5,h6,h7⟩:=vX hz E;obtain⟨arr,a1,a2,a3,a4⟩:=CC parts.toList z zv.cells h3 h4 h6 hp cs hb;exact⟨arr,by simp only[Program.built,h1,hu,h2,hpl];exact a1,a2,a3⟩
   .cases hb
  .cases hb
 obtain⟨arr,h1,h2,h3⟩:=main
 have hr:(execOp σ o).run P w=.ok (.value (.agg arr)) w:=by
  unfold execOp;simp only[ho,Sem.run_bind,run_build w t _ arr h1,Result.andThen_ok]
  rfl
 rw[hr];exact hk _ w E hh (.agg cs arr (by simpa using h2.1) (λi c y e1 e2=>h2.2 i c y e1 (by simpa using e2)) h3) (qj.refl w E H)
def qy.len(cl:Call)(ho:o.op=.call cl)(hcl:cl.callee=.builtin .len)(x:Operand)(hx:cl.args= #[x])(ht:cl.argTypes= #[t])(hu:P.underlying t=some (.slice e))
 {n:Nat}(hn:EC (ρ x)=some n):qy P o ρ H (.v (.int .i64 n)) H:=λw E σ hh hl K hk=>by
 have h0:=hl x (by simp[ho,Op.operands,Call.operands,hcl,hx])
 have hv:∃a cap,σ x=.slice a n cap:=by
  generalize ρ x=c at *;generalize σ x=u at *;cases h0 <;> first|(simp[EC]at hn;done)|(simp only[EC,pG]at hn;subst hn;exact⟨_,_,rfl⟩)
 obtain⟨a,cap,hv⟩:=hv
 have hr:(execOp σ o).run P w=.ok (.value (.int .i64 n)) w:=by
  unfold execOp;simp[ho,resolve,hcl,hx,ht,invoke,builtin,Builtin.len_,hv,run_underlying hu,goInt]
 rw[hr];exact hk _ w E hh (.v _ V) (qj.refl w E H)
def oh(P:Program)(t:TypeId)(cs:List C)(off:Nat):Option C:=
 match P.underlying t,P.info? t with
 |some d,some i=>if Bw d then (if decide (off+i.size<=cs.length) then some (.agg ((cs.drop off).take i.size)) else none) else cs[off]?
 |_,_=>none
def Bl{ys:Array Value}(hll:LL E cs ys.toList)(h1:∀y∈ys,y.oneCell'=true)(hc:oh P t cs off=some c):
  ∃y,(part t ys off).run P w=.ok y w/\L E c y:=by
 unfold oh at hc;split at hc
 .rename_i d i hd hi;split at hc
  .rename_i hag;split at hc
   .rename_i hlen;simp only[pE]at hlen;cases hc
    have hy:=hll.1;simp at hy;refine⟨.agg (ys.extract off (off+i.size)),by simp[part,wc hd,hag,qV hi],.agg _ _ (by simp;omega) ?_ ?_⟩
    .intro k c y hc hy';rw[pF]at hc;split at hc
     .rename_i hk;rw[rj]at hc;rw[Array.getElem?_extract]at hy';split at hy'
      .exact hll.2 _ c y hc (by simpa using hy')
      .cases hy'
     .cases hc
    .intro y hym;obtain⟨k,hk⟩:=sX.1 hym;rw[Array.getElem?_extract]at hk;split at hk
     .exact h1 y (rX hk)
     .cases hk
   .cases hc
  .rename_i hag;obtain⟨y,hy,hly⟩:=hll.get hc;rw[pK]at hy;exact⟨y,by simp[part,wc hd,hag,hy],hly⟩
 .cases hc
def qy.field(t:TypeId)(x:Operand)(f:Nat)(ho:o.op=.field t x f){fs:Array Field}{fd:Field}(ht:P.underlying t=some (.struct fs))(hf:fs[f]?=some fd){cs:List C}(hx:ρ x=.agg cs){c:C}
 (hc:oh P fd.type cs fd.offset=some c):qy P o ρ H c H:=λw E σ hh hl K hk=>by
 have h0:=hl x (by simp[ho,Op.operands]);rw[hx]at h0
 obtain⟨ys,hy,hll,h1⟩:∃ys,σ x=.agg ys/\LL E cs ys.toList/\∀y∈ys,y.oneCell'=true:=by
  generalize σ x=u at *;cases h0 with
  |agg _ ys h1 h2 h3=>exact⟨ys,rfl,⟨by simpa using h1,λi c y e1 e2=>h2 i c y e1 (by simpa using e2)⟩,h3⟩
 obtain⟨y,hr0,hly⟩:=Bl (w:=w) hll h1 hc
 have hr:(execOp σ o).run P w=.ok (.value y) w:=by
  unfold execOp;simp[ho,Instr.field,run_underlying ht,hf,hy,asAgg,hr0]
 rw[hr];exact hk _ w E hh hly (qj.refl w E H)
def qy.RA(t:TypeId)(x y:Operand)(ho:o.op=.index t x y){n:Nat}(ht:P.underlying t=some (.array n e))(hi:P.info? e=some i)(hx:ρ x=.agg cs)
 {k:IntKind}{j:Int}(hy:ρ y=.v (.int k j))(h0:0<=j)(h1:j<n){c:C}(hc:oh P e cs (j.toNat*i.size)=some c):qy P o ρ H c H:=λw E σ hh hl K hk=>by
 have hlx:=hl x (by simp[ho,Op.operands]);have hly:=hl y (by simp[ho,Op.operands]);rw[hx]at hlx;rw[hy]at hly
 obtain⟨ys,hyx,hll,hone⟩:∃ys,σ x=.agg ys/\LL E cs ys.toList/\∀y∈ys,y.oneCell'=true:=by
  generalize σ x=u at *;cases hlx with
  |agg _ ys h1 h2 h3=>exact⟨ys,rfl,⟨by simpa using h1,λi c y e1 e2=>h2 i c y e1 (by simpa using e2)⟩,h3⟩
 have hyv:σ y=.int k j:=by generalize σ y=u at *;cases hly;rfl
 obtain⟨y',hr0,hly'⟩:=Bl (w:=w) hll hone hc
 have hr:(execOp σ o).run P w=.ok (.value y') w:=by
  unfold execOp;simp[ho,Instr.index,asIntOf,hyv,run_underlying ht,hyx,h0,h1,qV hi,hr0]
 rw[hr];exact hk _ w E hh hly' (qj.refl w E H)
end
section
variable {P:Program} {o:Oper} {ρ:Operand->C} {H:zq}
def xt(H:zq):C->Option (Nat×List (List C))
 |.eM o sz rows=>if o == 0 || o == 1 then some (sz,rows) else none
 |.sl id hops sz lo len _=>match H[id]?,qd H id hops with
  |some ob,some (sz',rows)=>if (sz' == sz) && (ob.kind == 2) && decide (lo+len<=rows.length) && ((rows.drop lo).take len).all (·.all zG) then some (sz,(rows.drop lo).take len) else none
  |_,_=>none
 |_=>none
structure yX(E:Env)(sz:Nat)(rows:List (List C))(vals:List Value):Prop where
 len:vals.length=rows.length*sz
 row:∀r∈rows,r.length=sz
 cell:∀i k c,cellAt rows i k=some c->∃u,vals[i*sz+k]?=some u/\L E.shut c u
 one:∀u∈vals,u.oneCell'=true
def Cg(hrow:∀r∈rows,r.length=sz){i k:Nat}(h:cellAt rows i k=some c):i<rows.length/\k<sz:=by
 unfold cellAt at h;cases hx:rows[i]? with
 |none=>rw[hx]at h;cases h
 |some r=>
  rw[hx]at h;refine⟨(gN.1 hx).1,?_⟩;rw[<-hrow r (gT hx)];exact(gN.1 h).1
def kc(hrow:∀r∈rows,r.length=sz){i k:Nat}(hi:i<rows.length)(hk:k<sz):∃c,cellAt rows i k=some c:=by
 have hr:rows[i]?=some rows[i]:=by simp[hi]
 have hl:=hrow _ (gT hr);exact⟨rows[i][k]'(by omega),by simp only[cellAt,hr,pJ];exact gL (by omega)⟩
def wT{n j:Nat}(h:j<n*sz):j / sz<n/\j%sz<sz/\j / sz*sz+j%sz=j:=by
 have hsz:0<sz:=by rcases sW sz with rfl|h' <;> simp_all
 refine⟨Nat.div_lt_of_lt_mul (by rw[s6];exact h),eL _ hsz,?_⟩;rw[s6];exact Nat.div_add_mod j sz
def yX.append{vals vals':List Value}(h:yX E sz rows vals)(h':yX E sz rows' vals'):yX E sz (rows++rows') (vals++vals') where
 len:=by rw[pW,pW,h.len,h'.len,rp]
 row r hr:=by rcases pw.1 hr with hr|hr;exact h.row r hr;exact h'.row r hr
 cell i k c hc:=by
  by_cases hi:i<rows.length
  .have hc':cellAt rows i k=some c:=by unfold cellAt at hc|-;rw[gW hi]at hc;exact hc
   obtain⟨u,hu,hl⟩:=h.cell i k c hc';exact⟨u,by rw[gW ((gN.1 hu).1)];exact hu,hl⟩
  .have hc':cellAt rows' (i-rows.length) k=some c:=by unfold cellAt at hc|-;rw[pq (by omega)]at hc;exact hc
   obtain⟨u,hu,hl⟩:=h'.cell _ k c hc';refine⟨u,?_,hl⟩;have hge:rows.length*sz<=i*sz:=pQ _ (by omega);rw[pq (by rw[h.len];omega),h.len];have:i*sz+k-rows.length*sz=(i-rows.length)*sz+k:=by rw[Nat.sub_mul];omega
   rw[this];exact hu
 one u hu:=by rcases pw.1 hu with hu|hu;exact h.one u hu;exact h'.one u hu
def xD(h:z8 w E H)(hl:L E c y)(hr:xt H c=some (sz,rows)):
  (rows=[]/\y=.slice none 0 0)\/∃a cap vals,y=.slice (some a) rows.length cap/\rows.length<=cap/\yX E sz rows vals/\(∀(j:Nat) u,vals[j]?=some u->w.cell? (a.add j)=some u):=by
 cases hl with
 |xu o sz' ho a=>
  simp only[xt]at hr;split at hr
  .cases hr
   cases a with
   |none=>exact .inl ⟨rfl,rfl⟩
   |some a=>exact .inr ⟨a,0,[],rfl,pj _,⟨by simp,by simp,by simp[cellAt],by simp⟩,by simp⟩
  .cases hr
 |eM o sz' rows' b off cap us ho hc hsz hst hL=>
  simp only[xt]at hr;split at hr
  .cases hr
   right
   have key:∀j,j<rows.length*sz->∃c,cellAt rows (j / sz) (j%sz)=some c/\E.St b (off+j)=some (us (j / sz) (j%sz)):=by
    intro j hj;obtain⟨h1,h2,h3⟩:=wT hj;obtain⟨c,hcc⟩:=kc hsz h1 h2;refine⟨c,hcc,?_⟩;have hr0:rows[j / sz]?=some rows[j / sz]:=by simp[h1]
    have:=hst (j / sz) _ (j%sz) c hr0 (by unfold cellAt at hcc;rw[hr0]at hcc;exact hcc);rw[sf,h3]at this;exact this
   refine⟨_,cap,(List.range (rows.length*sz)).map (λj=>us (j / sz) (j%sz)),rfl,hc,⟨by simp,hsz,?_,?_⟩,?_⟩
   .intro i k c hcc;obtain⟨h1,h2⟩:=Cg hsz hcc;have hr0:rows[i]?=some rows[i]:=by simp[h1]
    have eP:i*sz+k<rows.length*sz:=by
     have:(i+1)*sz<=rows.length*sz:=pQ _ h1;rw[rp]at this;omega
    have e1:(i*sz+k) / sz=i:=by rw[s6,Nat.mul_add_div (by omega),Nat.div_eq_of_lt h2];rfl
    have e2:(i*sz+k)%sz=k:=by rw[s6,eJ,ur h2]
    refine⟨us i k,by simp[eP,e1,e2],hL i _ k c hr0 (by unfold cellAt at hcc;rw[hr0]at hcc;exact hcc)⟩
   .intro u hu;obtain⟨j,hj,rfl⟩:=pO.1 hu;obtain⟨c,_,hs⟩:=key j (by simpa using hj);exact(h.qn _ _ _ hs).2
   .intro j u hj;rw[gM]at hj;cases hjr:(List.range (rows.length*sz))[j]? with
    |none=>rw[hjr]at hj;cases hj
    |some j'=>
     rw[hjr]at hj;obtain⟨hjlt,hj'⟩:=gN.1 hjr;simp at hj' hjlt;subst hj';cases hj
     obtain⟨c,_,hs⟩:=key j hjlt;rw[j0];exact(h.qn _ _ _ hs).1
  .cases hr
 |sl id hops sz' lo len full cap hn hlen hf hf'=>
  simp only[xt]at hr;split at hr
  rotate_left
  .cases hr
  rename_i ob sz2 rows2 hob hb;split at hr
  rotate_left
  .cases hr
  rename_i hcond;simp only[gY,pU,pE,gV]at hcond;obtain⟨⟨⟨rfl,hkd⟩,hfit⟩,hno⟩:=hcond;cases hr
  right
  have hB:=h.fb id ob hops _ rows2 hob hb;obtain⟨cur,e,hg,hcs,hcell⟩:=hB.fb;have hrl:((rows2.drop lo).take len).length=len:=by simp;omega
  have hsub:∀i k,cellAt ((rows2.drop lo).take len) i k=if i<len then cellAt rows2 (lo+i) k else none:=by
   intro i k;unfold cellAt;rw[pF];split
   .rw[rj]
   .rfl
  have hrow:∀r∈(rows2.drop lo).take len,r.length=sz:=λr hr=>hB.row r (sO (gU hr))
  have key:∀j,j<len*sz->∃c u,cellAt ((rows2.drop lo).take len) (j / sz) (j%sz)=some c/\cur[lo*sz+j]?=some u/\L E.shut c u/\u.oneCell'=true:=by
   intro j hj;obtain⟨h1,h2,h3⟩:=wT hj;obtain⟨c,hcc⟩:=kc hrow (by rw[hrl];exact h1) h2;have hcc2:=hcc;rw[hsub,gS h1]at hcc2;obtain⟨u,hu,ho⟩:=hcell _ _ c hcc2
   have hnc:zG c=true:=by
    unfold cellAt at hcc;cases hx:((rows2.drop lo).take len)[j / sz]? with
    |none=>rw[hx]at hcc;cases hcc
    |some r=>
     rw[hx]at hcc;exact hno r (gT hx) c (gT hcc)
   rw[qN.loose hnc]at ho;refine⟨c,u,hcc,?_,by simpa [Env.at,hkd] using ho.1,ho.2⟩;have:(lo+j / sz)*sz+j%sz=lo*sz+j:=by rw[rp];omega
   rw[<-this];exact hu
  have hlen2:len=((rows2.drop lo).take len).length:=hrl.symm;refine⟨_,cap,(List.range (len*sz)).map (λj=>cur.getD (lo*sz+j) undef),by rw[<-hlen2],by rw[<-hlen2];exact hlen,⟨by simp[hrl],hrow,?_,?_⟩,?_⟩
  .intro i k c hcc;obtain⟨h1,h2⟩:=Cg hrow hcc;rw[hrl]at h1
   have eP:i*sz+k<len*sz:=by
    have:(i+1)*sz<=len*sz:=pQ _ h1;rw[rp]at this;omega
   obtain⟨c',u,h3,h4,h5,_⟩:=key _ eP;have e1:(i*sz+k) / sz=i:=by rw[s6,Nat.mul_add_div (by omega),Nat.div_eq_of_lt h2];rfl
   have e2:(i*sz+k)%sz=k:=by rw[s6,eJ,ur h2]
   rw[e1,e2,hcc]at h3;cases h3
   refine⟨u,?_,h5⟩;simp only[gM,sa eP,g9,pY,h4,rm]
  .intro u hu;obtain⟨j,hj,rfl⟩:=pO.1 hu;obtain⟨c,u,_,h4,_,h6⟩:=key j (by simpa using hj);simpa [pY,h4] using h6
  .intro j u hj;rw[gM]at hj;cases hjr:(List.range (len*sz))[j]? with
   |none=>rw[hjr]at hj;cases hj
   |some j'=>
    rw[hjr]at hj;obtain⟨hjlt,hj'⟩:=gN.1 hjr;simp at hj' hjlt;subst hj';obtain⟨c,u',_,h4,_,_⟩:=key j hjlt;simp only[g9,pY,h4,rm,pG]at hj;subst hj;rw[j0];unfold World.cell?;rw[hg];simpa using h4
 |_=>simp[xt]at hr
end
abbrev mK(l:List C):List C:=.za::.za::.za::.za::.za::.za::.za::.za::l
abbrev jp(l:List C):List C:=mK (mK (mK (mK l)))
abbrev tf:List C:=[.ref 5 [] 8 0 0,.ref 6 [] 44 0 0]
abbrev tg:List C:=[.ref 0 [] 8 0 0,.ref 1 [] 44 0 0]
def zz(h:q):H=H/\q:=⟨rfl,h⟩
def dd(h:q)(e:q→p:=by intro zh;(conv=>whnf);(try apply zz;conv=>whnf);exact zh):p:=e h
def ya(h:p):(true=true→p)/\(true=false→q):=⟨λ_=>h,λh=>nomatch h⟩
def yb(h:q):(false=true→p)/\(false=false→q):=⟨λh=>(nomatch h),λ_=>h⟩
def ta(n:p:=by (conv=>whnf);(repeat (refine⟨rfl,?_⟩;(conv=>whnf)));exact trivial):p:=n
def tc(h:q)(e:q->g:=by intro zh;(repeat (refine⟨rfl,?_⟩;(conv=>whnf)));exact zh):g:=e h
def td(h:q)(e:q->g:=by intro zh;(repeat ((first|apply ya|apply yb);(conv=>whnf);(try apply zz;conv=>whnf)));exact zh):g:=e h
def te{l:List α}{k:Nat}{x:α}{P:α->Prop}(hg:l[k]?=some x)(h:q)(e:q->P x:=by intro zh;(conv=>whnf);(try apply zz;conv=>whnf);exact zh):0<=(k:Int)/\∃r,l[(k:Int).toNat]?=some r/\P r:=⟨u9 k,x,hg,e h⟩
def uA{a b s:Prop}(h:q)(n:b->False:=by intro h;first|(simp[hpc]at h;done)|(have h:=gQ h;omega)|(have h:=gR h;omega))(e:q->p:=by intro zh;(conv=>whnf);(try apply zz;conv=>whnf);exact zh):(a->p)/\(b->s):=⟨λ_=>e h,λx=>(n x).elim⟩
def uB{a b s:Prop}(h:q)(n:a->False:=by intro h;first|(simp[hpc]at h;done)|(have h:=gQ h;omega)|(have h:=gR h;omega))(e:q->s:=by intro zh;(conv=>whnf);(try apply zz;conv=>whnf);exact zh):(a->p)/\(b->s):=⟨λx=>(n x).elim,λ_=>e h⟩
def uC(h:q)(e:q->g:=by intro zh;(first|apply ya|apply yb);(conv=>whnf);(try apply zz;conv=>whnf);exact zh):g:=e h
def uD(h:q)(e:q->g:=by intro zh;(conv=>whnf);(refine⟨λh=>absurd h (by simp),λ_=>?_⟩);(conv=>whnf);(try apply zz;conv=>whnf);(refine⟨by simp,?_⟩);(conv=>whnf);exact zh):g:=e h
def uE(h:q)(e:q->g:=by intro zh;refine .inl ⟨⟨false,[],[],[]⟩,by kernel_rfl,?_⟩;(conv=>whnf);exact zh):g:=e h
def uF{a b s:Prop}(h:q)(n:b->False:=by intro h;exact absurd h (by simp;omega))(e:q->p:=by intro zh;(conv=>whnf);(try apply zz;conv=>whnf);exact zh):(a->p)/\(b->s):=⟨λ_=>e h,λx=>(n x).elim⟩
def uG(h:q)(e:q->g:=by intro zh;refine⟨λh=>absurd h (by simp),λ_=>?_⟩;(conv=>whnf);(try apply zz;conv=>whnf);exact zh):g:=e h
def uH(h:q)(e:q->g:=by intro zh;(conv=>whnf);exact zh):g:=e h
def uI(e:g:=by exact⟨.inl V,_,.refl _,rfl⟩):g:=e
def uJ(e:g:=by exact⟨.inl V,_,.refl _,rfl,rfl⟩):g:=e
def uK(n:p->q:=by intro h;dsimp only at h;omega):p->q:=n
def uL(n:p:=by dsimp only;omega):p:=n
def uM(n:p:=by (try dsimp only);(repeat' split) <;> omega):p:=n
def uN{b b2:Bool}(h:b=b2):some (C.v (Value.bool b))=some (C.v (Value.bool b2)):=r6 (λb=>some (C.v (Value.bool b))) h
def uO(n:p:=by exact⟨tm.listen,tm.word,tm.link,tm.host,tm.path,tm.d0,tm.d1,tm.cfg,tm.o7⟩):p:=n
def uP(n:p:=by exact⟨tm.listen,tm.word,tm.link,tm.host,tm.path,tm.d0,tm.d1,tm.cfg,(λh=>absurd ((show m.op.kind=6 from h).symm.trans hk) (by decide))⟩):p:=n
def uQ(n:p:=by show _::_::_::_::_::zM _ ⟨1,0,5,_,0⟩::zM _ ⟨1,0,2,_,0⟩::zM _ ⟨1,0,3,_,0⟩::_=_;rw[zD (enc:=zt) (λ_=>V),zD (enc:=zy) (λ_=>V),zD (enc:=zu) (λ_=>V)];rfl):p:=n
def uR(n:p:=by (show zJ _ _::zJ _ _::zJ _ ⟨1,0,5,_,0⟩::zJ _ ⟨1,0,2,_,0⟩::zJ _ ⟨1,0,3,_,0⟩::_=_);(rw[zI (enc:=zt) (λ_=>V),zI (enc:=zy) (λ_=>V),zI (enc:=zu) (λ_=>V)]);rfl):p:=n
def uS(n:p:=by (show zM _ _::zM _ _::zM _ ⟨1,0,5,_,0⟩::zM _ ⟨1,0,2,_,0⟩::zM _ ⟨1,0,3,_,0⟩::_=_);(rw[zD (enc:=zt) (λ_=>V),zD (enc:=zy) (λ_=>V),zD (enc:=zu) (λ_=>V)]);rfl):p:=n
def uT(n:p:=by rw[h];decide):p:=n
def uU(n:p:=by simp[ho,Op.operands]):p:=n
def uV(n:p:=by simp[ho,Op.operands,Call.operands,ht.callee,ht.args]):p:=n
def uW(n:p:=by simpa using h):p:=n
def uX(n:p:=by simpa using e2):p:=n
def uY(n:p:=by rw[hx];exact pH hk):p:=n
def uZ(n:p:=by simpa using h1):p:=n
def tA(n:p:=by rw[hs.heap.n];exact hs.base):p:=n
def tB(n:p:=by show zJ _ _::zJ _ _::zJ _ ⟨1,0,5,_,0⟩::zJ _ ⟨1,0,2,_,0⟩::zJ _ ⟨1,0,3,_,0⟩::_=_;rw[zI (enc:=zt) (λ_=>V),zI (enc:=zy) (λ_=>V),zI (enc:=zu) (λ_=>V)];rfl):p:=n
def tD(n:p:=by show _::_::_::_::_::zM _ ⟨1,0,1,_,0⟩::_=_;rw[zD (enc:=zA) (λ_=>V)];rfl):p:=n
def tE(n:p:=by rw[<-hh.n];exact hi):p:=n
def tG(n:p:=by dsimp only;omega):p:=n
def tH(n:p:=by rw[hg];exact pH hj):p:=n
def tI(n:p:=by rw[he];exact pH hn):p:=n
def tJ(n:p:=by rw[hr];exact pH hk):p:=n
def tK(n:p:=by show k+1<=maxLen;simp only[maxLen];omega):p:=n
def tL(n:p:=by show 0+1<=1;decide):p:=n
def tM(n:p:=by simpa using h2):p:=n
def tN(n:p:=by rw[hv];exact pH hk):p:=n
def tO(n:p:=by unfold xH;rw[gP (by simp at h1;omega)]):p:=n
def tP(n:p:=by unfold xr;rw[gP (by simp at q1;omega)]):p:=n
def tR(n:p:=by unfold xr;rw[gP (by simp at q2;omega)]):p:=n
def tS(n:p:=by unfold xH;rw[gP (by simp at h2;omega)]):p:=n
def tT(n:p:=by rw[hk];decide):p:=n
def tU(n:p:=by rw[q];decide):p:=n
def tX(n:p:=by rw[show B=0 from by simpa using h];rfl):p:=n
def tY(n:p:=by show 2+1<=4;decide):p:=n
def tZ(n:p:=by subst e;simp[ho,Op.operands]):p:=n
def hO(n:p:=by show 3+1<=5;decide):p:=n
def hZ(n:p:=by rw[hh.n];exact hi):p:=n
def mB(n:p:=by show 1+1<=2;decide):p:=n
def mC(n:p:=by show 0+1<=3;decide):p:=n
def mD(n:p:=by simpa using eP):p:=n
def mE(n:p:=by rw[hz];exact pH hn):p:=n
def mF(n:p:=by show 2+1<=3;decide):p:=n
def mG(n:p:=by simpa using q):p:=n
end Go.Ab
structure zaa(q:Prop):Prop where
 o:q
def zab{p q:Prop}(h:q)(n:zaa q->p:=by intro zh;refine af (zP w m ok hl) ?_;refine⟨λ_=>dd ?_,λh=>absurd ((hs).symm.trans h:true=false) aj⟩;exact zh.o):p:=n ⟨h⟩
def zac{p q:Prop}(h:q)(n:zaa q->p:=by intro zh;refine dd ?_;refine td ?_;exact zh.o):p:=n ⟨h⟩
def zad{p q:Prop}(h:q)(n:zaa q->p:=by intro zh;(repeat (first|refine uA ?_|refine uB ?_));exact zh.o):p:=n ⟨h⟩
def zae{p q:Prop}(h:q)(n:zaa q->p:=by intro zh;(repeat (first|(refine⟨uH ?_,trivial⟩)|(refine⟨rfl,uH ?_⟩)));exact zh.o):p:=n ⟨h⟩
def zaf{p q:Prop}(h:q)(n:zaa q->p:=by intro zh;refine⟨λh=>absurd h ah,λ_=>dd ?_⟩;refine⟨ah,uH ?_⟩;exact zh.o):p:=n ⟨h⟩
def zag{p:Prop}(n:p:=by (try (refine td ?_));(refine .inl ⟨⟨false,[0,1],[0,1],[]⟩,ak,uH ?_⟩);refine tc ?_;(exact uI)):p:=n
def zah{p q:Prop}(h:q)(n:zaa q->p:=by intro zh;refine zW [] [oW w,oM m,⟨1,38,8,[fX],0⟩,⟨1,64,44,[fW],0⟩,oE zY,⟨1,0,5,fy w m v0 (6),0⟩,⟨1,0,2,fp m v0 g0 (g0.zC) (7),0⟩,⟨1,0,3,fk m g0 e0 (e0.head) (8) (e0.zo),0⟩,oN e0] (rx:=.agg (fL w 5)) (yB w sw w.zd V hp) (ze (zf (ownV 1)) (ze (zf (ownG 2 _)) (ze (zf (ownE 3 _ _)) V))) V V V V V uQ V (dd ?_);refine zW [9,10,5,6,7,8] [oW w,oM m,⟨1,38,8,[fX],0⟩,⟨1,64,44,[fW],0⟩,oE zY,⟨1,0,5,fy w m v0 (6),0⟩,⟨1,0,2,fp m v0 g0 (tk) (7),0⟩,⟨1,0,3,fk m g0 e0 (hd) (8) (ac),0⟩,oN e0,⟨1,38,8,[(fL w 5)],0⟩,oM m'] (rx:=Ce e) h (ze V (ze V (ze (zf (ownV 3)) (ze (zf (ownG 4 _)) (ze (zf (ownE 5 _ _)) V))))) tB V V V (ze V (ze V (ze V (ze V (ze V (ze (zf (ownV 6)) (ze (zf (ownG 7 _)) (ze (zf (ownE 8 _ _)) V)))))))) uQ V (dd ?_);refine .inl ⟨⟨false,[0,1,2],[9,10,11],[]⟩,ak,uH ?_⟩;refine tc ?_;exact zh.o):p:=n ⟨h⟩
def zai{p q:Prop}(h:q)(n:zaa q->p:=by intro zh;refine .inl ⟨rfl,?_,trivial⟩;exact zh.o):p:=n ⟨h⟩
def zaj{p q:Prop}(h:q)(n:zaa q->p:=by intro zh;refine zW [] [oW w,oM m,⟨1,38,8,[fX],0⟩,⟨1,64,44,[fW],0⟩,oE zY,⟨1,0,5,fy w m v0 (6),0⟩,⟨1,0,2,fp m v0 g0 (g0.zC) (7),0⟩,⟨1,0,3,fk m g0 e0 (e0.head) (8) (e0.zo),0⟩,⟨2,3,1,(e0.next).map Go.Hy.encI,0⟩] (rx:=.agg (fL w 5)) (yz w sw hp) (ze (zf (ownV 1)) (ze (zf (ownG 2 _)) (ze (zf (ownE 3 _ _)) V))) V V V V V uQ V (dd ?_);exact zh.o):p:=n ⟨h⟩
def zak{p q:Prop}(h:q)(n:zaa q->p:=by intro zh;refine⟨.inl V,_,(((zk.zN 7 m.end_.toNat 1 V (ge _ _) V V (.inr V) ah ah (shut_map (enc:=encI) (λ_=>V) _) (ownE 8 _ _)).trans (zk.zN 6 m.zp.toNat 1 V (gg _) V V (.inl V) ah ah eshE (ownG 7 _))).trans (zk.zN 5 m.version.toNat 3 V gv V V (.inl V) ah ah eshG (ownV 6))).trans (zk.zN 2 0 4 V V V V (.inl V) ah ah eshV (zB V)),?_⟩;exact zh.o):p:=n ⟨h⟩
def zal{p q:Prop}(h:q)(n:zaa q->p:=by intro zh;(refine⟨λq=>absurd (eq_of_beq q) an,λ_=>dd ?_⟩);exact zh.o):p:=n ⟨h⟩
def zam{p q:Prop}(h:q)(n:zaa q->p:=by intro zh;refine⟨c0,hat.ln.le,dd ?_⟩;rw[e3];refine af (Slp.qG m.word hw) ?_;refine .inr ⟨⟨[0,1,5,6,7],[0,1,7],true⟩,ak,λ_=>(ze V (ze V (ze V (ze V (ze V (ze (zf (ownV 6)) (ze (zf (ownG 7 _)) (ze (zf (ownE 8 _ _)) V)))))))),_,uH ?_,λt2 H2 h=>h⟩;refine⟨_,ge _ _,mC,uH ?_⟩;refine⟨_,ag [] (Slp.qG e0.head hh),uH ?_⟩;refine⟨_,ag [] (yW w m v0 hat.tolS 1 8 (e0.head%4294967296-1)),uH ?_⟩;(refine⟨uH ?_,trivial⟩);(refine⟨(ze V (ze V (ze V (ze V (ze V (ze (zf (ownV 6)) (ze (zf (ownG 7 _)) (ze (zf (ownE 8 _ _)) V)))))))),uH ?_⟩);exact zh.o):p:=n ⟨h⟩
def zan{p q:Prop}(h:q)(n:zaa q->p:=by intro zh;(refine af (zQ w m ok hl) ?_);(rw[hs]);(try (refine td ?_));exact zh.o):p:=n ⟨h⟩
def zao{p q:Prop}(h:q)(n:zaa q->p:=by intro zh;refine⟨.inl V,_,(((zk.zN 7 m.end_.toNat 1 V (ge _ _) V V (.inr V) ah ah (shut_map (enc:=Go.Hy.encI) (λ_=>V) _) (ownE 8 _ _)).trans (zk.zN 6 m.zp.toNat 1 V (gg _) V V (.inl V) ah ah eshE (ownG 7 _))).trans (zk.zN 5 m.version.toNat 3 V gv V V (.inl V) ah ah eshG (ownV 6))).trans (zk.zN 2 0 4 V V V V (.inl V) ah ah eshV (zB V)),?_⟩;exact zh.o):p:=n ⟨h⟩
def zap{p q:Prop}(h:q)(n:zaa q->p:=by intro zh;(refine .inr ⟨ah,uH ?_⟩);exact zh.o):p:=n ⟨h⟩
def zaq{p q:Prop}(h:q)(n:zaa q->p:=by intro zh;refine .inl ⟨.inl V,.inr V,aq,aH,uH ?_⟩;exact zh.o):p:=n ⟨h⟩
def zar{p q:Prop}(h:q)(n:zaa q->p:=by intro zh;refine zW [] [oW w,oM m,⟨1,38,8,[fX],0⟩,⟨1,64,44,[fW],0⟩,oE zY,⟨1,0,5,fy w m v0 (6),0⟩,⟨1,0,2,fp m v0 g0 (g0.zC) (7),0⟩,⟨1,0,3,fk m g0 e0 (e0.head) (8) (e0.zo),0⟩,oN e0] (rx:=.agg (fL w 5)) (yB w sw w.zd V hp) (ze (zf (ownV 1)) (ze (zf (ownG 2 _)) (ze (zf (ownE 3 _ _)) V))) V V V V V uQ V (dd ?_);refine uE ?_;refine⟨a0,hat.ln.lv,dd ?_⟩;rw[e1];refine⟨_,gv,hO,dd ?_⟩;refine⟨b0,hat.ln.lg,dd ?_⟩;rw[e2];refine⟨_,gg _,mB,dd ?_⟩;refine zam ?_;exact zh.o):p:=n ⟨h⟩
def zas{p:Prop}(n:p:=by (rw[pL]);refine uE ?_;refine⟨_,_,e6.mapUpdate (id:=1) _ _ _ _ (.inl V) underlying145 mP V V (e.zl) (λE u h=>jE h) (qk 0) (λE u h=>jE h),dd ?_⟩;rw[v7];(rw[hmd h5,gS h5]);exact uJ):p:=n
def zat{p q:Prop}(h:q)(n:zaa q->p:=by intro zh;refine .inl ⟨⟨false,[0,1,2],[5,6,7],[]⟩,ak,uH ?_⟩;refine tc ?_;exact zh.o):p:=n ⟨h⟩
def zau{p q:Prop}(h:q)(n:zaa q->p:=by intro zh;refine .inl ⟨⟨true,[2],[1],[0]⟩,ak,uH ?_⟩;refine af jk ?_;refine tc ?_;exact zh.o):p:=n ⟨h⟩
def zav{p q:Prop}(h:q)(n:zaa q->p:=by intro zh;(repeat (first|((refine ya (dd ?_)))|((refine yb (dd ?_)))));exact zh.o):p:=n ⟨h⟩
def zaw{p q:Prop}(h:q)(n:zaa q->p:=by intro zh;refine af (hp x hxm) ?_;refine⟨an,ar,dd ?_⟩;rw[e1];refine⟨_,jQ ah hk,rfl,dd ?_⟩;refine zai ?_;rw[zm an,<-qX hF hk];exact zh.o):p:=n ⟨h⟩
def zax{p q:Prop}(h:q)(n:zaa q->p:=by intro zh;refine af (Slp.qG m.word hw) ?_;refine .inr ⟨⟨[0,1,5,6,7],[0,1],true⟩,ak,λ_=>V,_,uH ?_,λt2 H2 h=>h⟩;refine⟨_,ag [] (Slp.qG e.head hh),uH ?_⟩;refine⟨_,ag [] (yW w m v hat.tolS 1 8 (e.head%4294967296-1)),uH ?_⟩;(refine⟨uH ?_,trivial⟩);refine tc ?_;exact zh.o):p:=n ⟨h⟩
def zay{p q:Prop}(h:q)(n:zaa q->p:=by intro zh;refine uF ?_;(refine te hg ?_);exact zh.o):p:=n ⟨h⟩
def zaz{p q:Prop}(h:q)(n:zaa q->p:=by intro zh;show _=some (C.eR [C.agg [I w.zr,I w.current,I w.lock,lI w.pins,C.eM 0 5 ((w.zd.set m.version.toNat (xE m v0 g0 e0 tk hd ac)).map zt),lL w.zc,ff w.counts,lR w.zn],Cm m',Ce e]);rw[<-estV,<-estG,<-estE];exact zh.o):p:=n ⟨h⟩
def zaA{p q:Prop}(h:q)(n:zaa q->p:=by intro zh;refine uF ?_;(refine te hgv ?_);exact zh.o):p:=n ⟨h⟩
def zaB{p q:Prop}(h:q)(n:zaa q->p:=by intro zh;refine ae [] (wO w.zd h.zd.1 λv hv=>jC v (h.zd.2 v hv)) ?_;refine af (ke w.zc h.zc) ?_;refine ae [] (wN w.counts h.counts.1 λr hr=>xU r (h.counts.2 r hr)) ?_;exact zh.o):p:=n ⟨h⟩
def zaC{p q:Prop}(h:q)(n:zaa q->p:=by intro zh;(refine⟨_,_,.refl _,uH ?_⟩);exact zh.o):p:=n ⟨h⟩
def zaD{p q:Prop}(h:q)(n:zaa q->p:=by intro zh;refine dd ?_;refine jy.qo (id:=10) _ _ _ _ (.inr V) underlying243 underlying3 V V V V V ?_;exact zh.o):p:=n ⟨h⟩
def zaE{p q:Prop}(h:q)(n:zaa q->p:=by intro zh;refine dd ?_;refine jy.qo (id:=8) _ _ _ _ (.inr V) underlying243 underlying3 V V V V V ?_;exact zh.o):p:=n ⟨h⟩
def zaF{p q:Prop}(h:q)(n:zaa q->p:=by intro zh;refine dd ?_;refine jy.qo (id:=9) _ _ _ _ (.inr V) underlying243 underlying3 V V V V V ?_;exact zh.o):p:=n ⟨h⟩
def zaG{p q:Prop}(h:q)(n:zaa q->p:=by intro zh;refine zW [] [oW w,oM m,⟨1,38,8,[fX],0⟩,⟨1,64,44,[fW],0⟩,oE zY,⟨1,0,1,(w.counts.map zA).set m.zl.toNat [C.sl (6) [] 1 0 r0.length false],0⟩,⟨2,52,1,(r0).map qB,0⟩] (rx:=.agg (ik 5 w)) (Iv w sw w.counts V hp) (ze (zf (own 1)) V) V V V V V tD V (dd ?_);refine zW [7,8,5,6] [oW w,oM m,⟨1,38,8,[fX],0⟩,⟨1,64,44,[fW],0⟩,oE zY,⟨1,0,1,(w.counts.map zA).set m.zl.toNat [C.sl (6) [] 1 0 r0.length false],0⟩,⟨2,52,1,(r1).map qB,0⟩,⟨1,38,8,[ik 5 w],0⟩,oM m'] (rx:=Ce e) h (ze V (ze V (ze (zf (own 3)) V))) cW V V V (ze V (ze V (ze V (ze V (ze V (ze (zf (own 6)) V)))))) tD V (dd ?_);refine .inl ⟨⟨false,[0,1,2],[7,8,9],[]⟩,ak,uH ?_⟩;refine tc ?_;exact zh.o):p:=n ⟨h⟩
def zaH{p q:Prop}(h:q)(n:zaa q->p:=by intro zh;(refine uE ?_);(refine⟨hat.v0,_,hat.row,uH ?_⟩);(refine⟨hat.g0,_,hat.nR,uH ?_⟩);(refine⟨hat.e0,_,hat.o3,uH ?_⟩);exact zh.o):p:=n ⟨h⟩
def zaI{p q:Prop}(h:q)(n:zaa q->p:=by intro zh;refine aa func217 ?_;refine .inl ⟨⟨true,[],[],[8]⟩,ak,uH ?_⟩;refine zW [] (hE w m m v0 g0 e0 g0.zC e0.head e0.zo [⟨1,229,2,[tg],0⟩,oE zY]) (rx:=.eR [U (Slp.y9 m.word m.link),I 0]) (Slp.Fq m.word m.link hw l0 l1) V V V V V (ze V (ze V (ze (zf ownV) (ze (zf ownG) (ze (zf ownE) V))))) V V (dd ?_);refine .inl ⟨⟨true,[],[],[1]⟩,ak,uH ?_⟩;refine zW [0,1,2,3,4,5] (hE w m m v0 g0 e0 g0.zC e0.head e0.zo [⟨1,229,2,[tg],0⟩,oE zY]) (rx:=.ref 4 [] 3 m.end_.toNat 0) (vF w m v0 g0 e0 hv) (ze V (ze V (ze (zf ownV) (ze (zf ownG) (ze (zf ownE) V))))) uR V V V (ze V (ze V (ze (zf ownV) (ze (zf ownG) (ze (zf ownE) V))))) uS V (dd ?_);refine⟨_,ge,mC,dd ?_⟩;exact zh.o):p:=n ⟨h⟩
def zaJ{p q:Prop}(h:q)(n:zaa q->p:=by intro zh;refine⟨.inl V,_,(zk.zN 5 m.zl.toNat 0 V gt V V (.inr V) ah (by rw[ml1,hll]) (shut_map (enc:=qB) (λ_=>V) _) (own 6)).trans (zk.zN 2 0 6 V V V V (.inl V) ah ah esh (zB V)),?_⟩;show _=some (C.eR [C.agg [I w.zr,I w.current,I w.lock,lI w.pins,lV w.zd,lL w.zc,C.eM 0 1 ((w.counts.set m.zl.toNat r1).map zA),lR w.zn],Cm m',Ce e]);rw[<-est];exact zh.o):p:=n ⟨h⟩
def zaK{p:Prop}(n:p:=by (refine⟨h0,eP,dd ?_⟩);(rw[e1]);(refine⟨_,gt,tL,dd ?_⟩);(refine⟨k0,k1,dd ?_⟩);(refine⟨_,gx,tL,dd ?_⟩);(refine⟨k0,k1,dd ?_⟩);(refine⟨_,gx,rfl,dd ?_⟩);(rw[hst]);(refine zW [1] [⟨1,38,8,[ik 2 w],0⟩,oM ({m with pc:=21}),⟨1,0,1,(w.counts.map zA).set m.zl.toNat [C.sl 3 [] 1 0 r0.length false],0⟩,⟨2,52,1,(r0.set ((0:Int)).toNat (IntKind.u64.wrap (x+1))).map qB,0⟩,⟨1,229,2,[tg],0⟩,oE zY] (rx:=Ce (fc {m with pc:=21} 3 10 ((0:Int)))) (ji {m with pc:=21} 3 10 ((0:Int))) V V V V V (ze V (ze V (ze (zf own) V))) V V (dd ?_));exact dh):p:=n
def zaL{p q:Prop}(h:q)(n:zaa q->p:=by intro zh;refine .inl ⟨⟨true,[],[],[]⟩,ak,uH ?_⟩;exact zh.o):p:=n ⟨h⟩
def zaM{p q:Prop}(h:q)(n:zaa q->p:=by intro zh;(refine⟨λq=>absurd (eq_of_beq q) tT,λ_=>dd ?_⟩);exact zh.o):p:=n ⟨h⟩
def zaN{p q:Prop}(h:q)(n:zaa q->p:=by intro zh;refine .inr ⟨ah,uH ?_⟩;exact zh.o):p:=n ⟨h⟩
def zaO{p:Prop}(n:p:=by refine af (zP w m ok hl) ?_;refine⟨λh=>absurd ((hs).symm.trans h:false=true) aj,λ_=>dd ?_⟩;exact zag):p:=n
def zaP{p q:Prop}(h:q)(n:zaa q->p:=by intro zh;refine zW [5,6,7,8] [oW w,oM m,⟨1,38,8,[fX],0⟩,⟨1,64,44,[fW],0⟩,oE zY,⟨1,0,5,fy w m v0 (6),0⟩,⟨1,0,2,fp m v0 g0 (tk) (7),0⟩,⟨1,0,3,fk m g0 e0 (hd) (8) (ac),0⟩,⟨2,3,1,(e0.next).map Go.Hy.encI,0⟩,⟨1,38,8,[(fL w 5)],0⟩] (rx:=.eR [.agg (fL w 5),Cm m',Ce e]) h (ze (zf (ownV 1)) (ze (zf (ownG 2 _)) (ze (zf (ownE 3 _ _)) V))) cR V V V (ze V (ze V (ze V (ze V (ze V (ze (zf (ownV 6)) (ze (zf (ownG 7 _)) (ze (zf (ownE 8 _ _)) V)))))))) uQ V (dd ?_);refine .inl ⟨⟨false,[0,1,2],[10,11,12],[]⟩,ak,uH ?_⟩;refine tc ?_;exact zh.o):p:=n ⟨h⟩
def zaQ{p q:Prop}(h:q)(n:zaa q->p:=by intro zh;rw[m8];refine uF ?_;refine .inr ⟨⟨[4,7],[0],false⟩,ak,λh=>absurd h aj,_,uH ?_,λt2 H2 h=>h⟩;(refine te hgr ?_);exact zh.o):p:=n ⟨h⟩
def zaR{p q:Prop}(h:q)(n:zaa q->p:=by intro zh;refine zac ?_;(refine⟨bJ,_,gq,dd ?_⟩);(refine⟨rfl,.inr V,bD,bU,dd ?_⟩);(refine .inl ⟨rfl,?_,trivial⟩);exact zh.o):p:=n ⟨h⟩
def zaS{p q:Prop}(h:q)(n:zaa q->p:=by intro zh;refine dd ?_;refine⟨_,gX eP,rfl,?_⟩;refine dd ?_;rw[pL];refine uE ?_;refine⟨_,gX eP,aK,?_⟩;refine dd ?_;refine⟨rfl,.inr V,aM,aN,dd ?_⟩;refine⟨_,gX eP,rfl,?_⟩;exact zh.o):p:=n ⟨h⟩
def zaT{p q:Prop}(h:q)(n:zaa q->p:=by intro zh;refine⟨.inr V,cy,cz,uH ?_⟩;refine zae ?_;exact zh.o):p:=n ⟨h⟩
def zaU{p q:Prop}(h:q)(n:zaa q->p:=by intro zh;refine zaj ?_;(refine .inl ⟨⟨false,[1,3,6,8,11,13],[1,5,6,9],[]⟩,ak,uH ?_⟩);(refine⟨hat.v0,hat.ln.lv,?_⟩);(refine dd ?_);(rw[e1]);(refine⟨_,gv,hO,?_⟩);(refine dd ?_);(refine⟨hat.g0,hat.ln.lg,?_⟩);(refine dd ?_);exact zh.o):p:=n ⟨h⟩
def zaV{p q:Prop}(h:q)(n:zaa q->p:=by intro zh;(refine⟨λ_=>dd ?_,λq=>absurd (pU.2 hp) tU⟩);exact zh.o):p:=n ⟨h⟩
def zaW{p:Prop}(n:p:=by refine zac ?_;refine zap ?_;exact uI):p:=n
def zaX{p q:Prop}(h:q)(n:zaa q->p:=by intro zh;refine zaN ?_;refine⟨.inl V,_,.refl _,rfl,?_⟩;exact zh.o):p:=n ⟨h⟩
def zaY{p:Prop}(n:p:=by refine zW [1] [⟨1,38,8,[ik 2 w],0⟩,oM ({m with pc:=23}),⟨1,0,1,(w.counts.map zA).set m.zl.toNat [C.sl 3 [] 1 0 r0.length false],0⟩,⟨2,52,1,(r0.set 0 (IntKind.u64.wrap (x+1))).map qB,0⟩,⟨1,229,2,[tg],0⟩,oE zY] (rx:=Ce (fc {m with pc:=23} 3 10 0)) (ji {m with pc:=23} 3 10 0) V V V V V (ze V (ze V (ze (zf own) V))) V V (dd ?_);exact dh):p:=n
def zaZ{p q:Prop}(h:q)(n:zaa q->p:=by intro zh;refine uF ?_;refine uE ?_;(refine te hg ?_);exact zh.o):p:=n ⟨h⟩
def za0{p q:Prop}(h:q)(n:zaa q->p:=by intro zh;(conv=>whnf);(refine⟨λh=>absurd h bu,λ_=>dd ?_⟩);(refine⟨ah,uH ?_⟩);exact zh.o):p:=n ⟨h⟩
def za1{p q:Prop}(h:q)(n:zaa q->p:=by intro zh;show _::_::_::_::_::_::_::zJ [0,1,2,3,4,5,6,7,8,9,10,11,12,13,14,15,20,17] ⟨1,106,5,List.take k (((w.zd.map zt).set v (fl 8 v0))),0⟩::_::_::_::_::zJ [0,1,2,3,4,5,6,7,8,9,10,11,12,13,14,15,20,17] ⟨1,111,2,List.take j (((v0.zg.map zy).set g (fi 13 g0))),0⟩::_::_::_::zJ [0,1,2,3,4,5,6,7,8,9,10,11,12,13,14,15,20,17] ⟨1,151,3,List.take n (((g0.ends.map zu).set e (fh 17 e0)))++[_],0⟩::_=_;exact zh.o):p:=n ⟨h⟩
def za2{p q:Prop}(h:q)(n:zaa q->p:=by intro zh;refine uG ?_;(refine⟨ah,uH ?_⟩);exact zh.o):p:=n ⟨h⟩
def za3{p q:Prop}(h:q)(n:zaa q->p:=by intro zh;refine⟨.inl V,_,_,(zk.zN 1 0 4 V V V V (.inr V) V ah (shut_map (enc:=zt) (λ_=>V) w.zd) (zB V)).trans (zk.zN 1 0 6 V V V V (.inr V) V ah (shut_map (enc:=zA) (λ_=>V) w.counts) (zB V)),rfl,?_⟩;exact zh.o):p:=n ⟨h⟩
def za4{p:Prop}(n:p:=by refine ab func84 ?_;refine td ?_;(refine⟨aj,_,rfl,dd ?_⟩);exact uI):p:=n
def za5{p q:Prop}(h:q)(n:zaa q->p:=by intro zh;(refine⟨uH ?_,trivial⟩);refine tc ?_;exact zh.o):p:=n ⟨h⟩
def za6{p q:Prop}(h:q)(n:zaa q->p:=by intro zh;rw[m8];refine uF ?_;refine .inr ⟨⟨[4,7],[3],false⟩,ak,λh=>absurd h aj,_,uH ?_,λt2 H2 h=>h⟩;exact zh.o):p:=n ⟨h⟩
def za7{p q:Prop}(h:q)(n:zaa q->p:=by intro zh;(refine te hgg ?_);exact zh.o):p:=n ⟨h⟩
def za8{p q:Prop}(h:q)(n:zaa q->p:=by intro zh;refine⟨h0,eP,dd ?_⟩;rw[e1];refine⟨_,gx,rfl,dd ?_⟩;refine tc ?_;exact zh.o):p:=n ⟨h⟩
def za9{p q:Prop}(h:q)(n:zaa q->p:=by intro zh;refine .inl ⟨⟨false,[0,1,2],[1,2,6],[]⟩,ak,uH ?_⟩;refine tc ?_;exact zh.o):p:=n ⟨h⟩
def zba{p q:Prop}(h:q)(n:zaa q->p:=by intro zh;(refine af (qw w sw) ?_);(refine af (zT m 1 10 m.k) ?_);(rw[hk]);(refine uE ?_);(refine⟨aj,aj,?_⟩);(refine dd ?_);(refine⟨i0,_,cr,?_⟩);(refine dd ?_);(refine⟨aj,_,cn,?_⟩);exact zh.o):p:=n ⟨h⟩
def zbb{p q:Prop}(h:q)(n:zaa q->p:=by intro zh;refine DL [0,1,2,3,4,5] (hE w m m v0 g0 e0 g0.zC e0.head e0.zo [⟨1,229,2,[tg],0⟩,oE zY]) (rx:=.ref 3 [] 2 m.zp.toNat 0) (EX w m v0 g0 e0 hv) (ze V (ze V (ze (zf ownV) (ze (zf ownG) (ze (zf ownE) V))))) uR V V V (ze V (ze V (ze (zf ownV) (ze (zf ownG) (ze (zf ownE) V))))) uS V (dd ?_);refine⟨_,gg,(by show 0+1<=2;decide),dd ?_⟩;exact zh.o):p:=n ⟨h⟩
def zbc{p q:Prop}(h:q)(n:zaa q->p:=by intro zh;refine dd ?_;refine⟨_,gX eP,rfl,?_⟩;refine dd ?_;rw[pL];refine⟨_,gX eP,aJ,?_⟩;refine zaS ?_;refine dd ?_;rw[pL];exact zh.o):p:=n ⟨h⟩
def zbd{p q:Prop}(h:q)(n:zaa q->p:=by intro zh;refine zab ?_;refine td ?_;exact zh.o):p:=n ⟨h⟩
def zbe{p q:Prop}(h:q)(n:zaa q->p:=by intro zh;refine zaq ?_;refine⟨rfl,.inr V,cb,cg,dd ?_⟩;refine zai ?_;rw[zm an,eE];exact zh.o):p:=n ⟨h⟩
def zbf{p q:Prop}(h:q)(n:zaa q->p:=by intro zh;(refine⟨uH ?_,trivial⟩);(refine⟨(ze V (ze V (ze V (ze V (ze V (ze (zf (ownV 6)) (ze (zf (ownG 7 _)) (ze (zf (ownE 8 _ _)) V)))))))),uH ?_⟩);refine tc ?_;exact zh.o):p:=n ⟨h⟩
def zbg{p q:Prop}(h:q)(n:zaa q->p:=by intro zh;rw[show decide ((match l.findIdx? p with|some i=>((i:Nat):Int)|none=>(-1:Int))≥(0:Int))=l.any p from Bx l p];exact zh.o):p:=n ⟨h⟩
def zbh{p q:Prop}(h:q)(n:zaa q->p:=by intro zh;rw[m8];refine zaf ?_;rw[px];refine .inl ⟨.inl V,.inr V,aq,bG,uH ?_⟩;refine⟨.inl V,_,_,.refl _,rfl,?_⟩;exact zh.o):p:=n ⟨h⟩
def zbi{p q:Prop}(h:q)(n:zaa q->p:=by intro zh;refine kA (fn:=f173) func173 V (uH ?_);refine af (vg w.pins h.pins) ?_;exact zh.o):p:=n ⟨h⟩
def zbj{p q:Prop}(h:q)(n:zaa q->p:=by intro zh;refine .inl ⟨⟨false,[0,1,2],[5,1,6],[]⟩,ak,uH ?_⟩;refine tc ?_;exact zh.o):p:=n ⟨h⟩
def zbk{p q:Prop}(h:q)(n:zaa q->p:=by intro zh;refine .inl ⟨rfl,_,_,.refl _,iR (uH ?_)⟩;exact zh.o):p:=n ⟨h⟩
def zbl{p q:Prop}(h:q)(n:zaa q->p:=by intro zh;refine DL [0,1,2,3,4,5] (hE w m m v0 g0 e0 g0.zC e0.head e0.zo [⟨1,229,2,[tg],0⟩,oE zY]) (rx:=.ref 4 [] 3 m.end_.toNat 0) (vF w m v0 g0 e0 hv) (ze V (ze V (ze (zf ownV) (ze (zf ownG) (ze (zf ownE) V))))) uR V V V (ze V (ze V (ze (zf ownV) (ze (zf ownG) (ze (zf ownE) V))))) uS V (dd ?_);exact zh.o):p:=n ⟨h⟩
def zbm{p q:Prop}(h:q)(n:zaa q->p:=by intro zh;refine ab func88 ?_;refine zan ?_;(refine⟨λq=>absurd (gQ q) an,λ_=>?_⟩);(refine dd ?_);(refine⟨λq=>absurd (gQ q) an,λ_=>?_⟩);(refine dd ?_);exact zh.o):p:=n ⟨h⟩
def zbn{p q:Prop}(h:q)(n:zaa q->p:=by intro zh;refine af (qx w sw) ?_;refine ae [5,6] (h) ?_;refine zat ?_;exact zh.o):p:=n ⟨h⟩
def zbo{p q:Prop}(h:q)(n:zaa q->p:=by intro zh;(refine te hgv ?_);exact zh.o):p:=n ⟨h⟩
def zbp{p q:Prop}(h:q)(n:zaa q->p:=by intro zh;refine ab func137 ?_;refine zad ?_;exact zh.o):p:=n ⟨h⟩
def zbq{p q:Prop}(h:q)(n:zaa q->p:=by intro zh;(refine⟨λ_=>dd ?_,λq=>absurd (q.symm.trans (pU.2 hk)) aj⟩);(refine af h ?_);exact zh.o):p:=n ⟨h⟩
def zbr{p:Prop}(n:p:=by (rw[m1]);(refine⟨λh=>absurd q cA,λ_=>?_⟩);(refine dd ?_);(refine .inl ⟨⟨true,[0,1,2],[0,1,2],[4]⟩,ak,uH ?_⟩);(refine af (zT {m with i:=IntKind.i64.wrap (m.i+1),pc:=2} 1 2 p) ?_);refine tc ?_;(exact uI)):p:=n
def zbs{p:Prop}(n:p:=by (rw[m1]);(refine⟨λ_=>?_,λh=>absurd (gR h) an⟩);(refine dd ?_);(refine .inl ⟨⟨true,[0,1,2],[0,1,2],[4]⟩,ak,uH ?_⟩);(refine af (zT (fJ m 3 (IntKind.i64.wrap (m.i+1))) 1 2 p) ?_);refine tc ?_;(exact uI)):p:=n
def zbt{p q:Prop}(h:q)(n:zaa q->p:=by intro zh;refine ab func52 ?_;(refine af (yM w m ok hl hs ca) ?_);(try (refine td ?_));exact zh.o):p:=n ⟨h⟩
def zbu{p q:Prop}(h:q)(n:zaa q->p:=by intro zh;refine⟨λq=>absurd (gQ q) an,λ_=>dd ?_⟩;exact zh.o):p:=n ⟨h⟩
def zbv{p q:Prop}(h:q)(n:zaa q->p:=by intro zh;refine⟨λh=>absurd h ar,λ_=>dd ?_⟩;exact zh.o):p:=n ⟨h⟩
def zbw{p q:Prop}(h:q)(n:zaa q->p:=by intro zh;refine dd ?_;refine zap ?_;exact zh.o):p:=n ⟨h⟩
def zbx{p q:Prop}(h:q)(n:zaa q->p:=by intro zh;refine .inl ⟨⟨false,[0,1,2],[6,7,8],[]⟩,ak,uH ?_⟩;refine tc ?_;exact zh.o):p:=n ⟨h⟩
def zby{p q:Prop}(h:q)(n:zaa q->p:=by intro zh;rw[m6];refine zaf ?_;rw[px];refine⟨rfl,.inr V,ck,cm,dd ?_⟩;refine zai ?_;rw[zm an,eG];exact zh.o):p:=n ⟨h⟩
def zbz{p:Prop}(n:p:=by (rw[gP (ai q3)]);refine dd ?_;refine zaL ?_;refine ae [1] (xh m 3 (IntKind.i64.wrap (m.i+1))) ?_;refine tc ?_;refine ae [1] (qC (fJ m 3 (IntKind.i64.wrap (m.i+1))) 1 2 p) ?_;exact dq):p:=n
def zbA{p q:Prop}(h:q)(n:zaa q->p:=by intro zh;(refine⟨h0,eP,?_⟩);(refine dd ?_);(rw[e1]);(refine⟨_,gt,tL,?_⟩);(refine dd ?_);exact zh.o):p:=n ⟨h⟩
def zbB{p q:Prop}(h:q)(n:zaa q->p:=by intro zh;rw[m6];refine zaf ?_;rw[px];(refine(e6.je _ V _ _ ⟨rfl,rfl,⟨_,rfl,underlying104⟩,rfl,rfl,rfl⟩ (id:=12) (n:=j) V V (.inl V) V lG (λr hr=>ownG 13 r (gU hr)) (.inl V) (zB V) (rJ _ _) cJ (by show(j+1)*32<=_;omega)).fM (uH ?_));exact zh.o):p:=n ⟨h⟩
def zbC{p q:Prop}(h:q)(n:zaa q->p:=by intro zh;refine zaU ?_;(rw[e2]);(refine⟨_,gg _,mB,?_⟩);(refine dd ?_);(refine⟨hat.e0,hat.ln.le,?_⟩);(refine dd ?_);(rw[e3]);exact zh.o):p:=n ⟨h⟩
def zbD{p q:Prop}(h:q)(n:zaa q->p:=by intro zh;refine⟨ah,uH ?_⟩;exact zh.o):p:=n ⟨h⟩
def zbE{p q:Prop}(h:q)(n:zaa q->p:=by intro zh;(refine⟨_,xP hc2,rfl,dd ?_⟩);(refine⟨rfl,dd ?_⟩);exact zh.o):p:=n ⟨h⟩
def zbF{p q:Prop}(h:q)(n:zaa q->p:=by intro zh;refine .inl ⟨.inl V,.inr V,aq,cw,uH ?_⟩;exact zh.o):p:=n ⟨h⟩
def zbG{p q:Prop}(h:q)(n:zaa q->p:=by intro zh;refine aa func92 ?_;(refine .inl ⟨⟨false,[1,3,6,8,11,13],[0,1,5,6],[]⟩,ak,uH ?_⟩);(refine⟨hat.v0,lv,?_⟩);(refine dd ?_);(rw[z1]);(refine⟨_,gv,hO,?_⟩);(refine dd ?_);(refine⟨hat.g0,lg,?_⟩);(refine dd ?_);exact zh.o):p:=n ⟨h⟩
def zbH{p q:Prop}(h:q)(n:zaa q->p:=by intro zh;refine⟨λ_=>dd ?_,λh=>absurd h ar⟩;exact zh.o):p:=n ⟨h⟩
def zbI{p:Prop}(n:p:=by refine dd ?_;(rw[hmk h5,gP ao]);exact uJ):p:=n
def zbJ{p q:Prop}(h:q)(n:zaa q->p:=by intro zh;refine zb.vZ func141 V ?_;show qW prog 0 ((f141.body).getD .skip) _ _;refine iR (uH ?_);refine zbk ?_;refine zbd ?_;exact zh.o):p:=n ⟨h⟩
def zbK{p q:Prop}(h:q)(n:zaa q->p:=by intro zh;refine zaq ?_;(refine(e6.je _ V _ _ ⟨rfl,rfl,⟨_,rfl,underlying109⟩,rfl,rfl,rfl⟩ (id:=16) (n:=n) V V (.inl V) V lE (λr hr=>ownE 17 r (gU hr)) (.inl V) (zB V) (rJ _ _) cK (by show(n+1)*40<=_;omega)).fM (uH ?_));exact zh.o):p:=n ⟨h⟩
def zbL{p q:Prop}(h:q)(n:zaa q->p:=by intro zh;(refine af (zQ w m ok hl) ?_);(rw[hs]);exact zh.o):p:=n ⟨h⟩
def zbM{p:Prop}(n:p:=by refine ae [1] (xM {m with word:=e.head} 4) ?_;refine ae [0,1] (k8 w (kf {m with word:=e.head} 4) v ⟨hv.v0,hv.at_⟩ 1 8 (e.head%4294967296-1)) ?_;exact cX):p:=n
def zbN{p q:Prop}(h:q)(n:zaa q->p:=by intro zh;refine .inl ⟨⟨false,[1],[1],[]⟩,ak,uH ?_⟩;refine tc ?_;exact zh.o):p:=n ⟨h⟩
def zbO{p:Prop}(n:p:=by refine zap ?_;(try (refine .inr ⟨ah,uH ?_⟩));exact uI):p:=n
def zbP{p q:Prop}(h:q)(n:zaa q->p:=by intro zh;refine⟨.inl V,_,_,zk.zN 1 0 6 V V V V (.inr V) V ah (shut_map (enc:=zA) (λ_=>V) w.counts) (zB V),rfl,?_⟩;exact zh.o):p:=n ⟨h⟩
def zbQ{p q:Prop}(h:q)(n:zaa q->p:=by intro zh;refine jn.zZ (id:=6) V h1 h2 h3 h4 h5 V V V (uH ?_);refine⟨rfl,rfl,uH ?_⟩;exact zh.o):p:=n ⟨h⟩
def zbR{p q:Prop}(h:q)(n:zaa q->p:=by intro zh;rw[m5];refine zaf ?_;rw[px];(refine(e6.je _ V _ _ ⟨rfl,rfl,⟨_,rfl,underlying33⟩,rfl,rfl,rfl⟩ (id:=7) (n:=k) V V (.inl V) V lV (λr hr=>ownV 8 r (gU hr)) (.inl V) (zB V) (rJ _ _) tK cF).fM (uH ?_));exact zh.o):p:=n ⟨h⟩
def zbS{p:Prop}(n:p:=by refine⟨rfl,rfl,uH ?_⟩;refine af (yw p (hple _ _ hp)) ?_;refine⟨λ_=>dd ?_,λh=>absurd ((hname _ _ hp).symm.trans h:true=false) aj⟩;exact dw):p:=n
def zbT{p q:Prop}(h:q)(n:zaa q->p:=by intro zh;refine dd ?_;refine .inl ⟨⟨false,[4],[5],[]⟩,ak,uH ?_⟩;(try rw[gZ]);exact zh.o):p:=n ⟨h⟩
def zbU{p q:Prop}(h:q)(n:zaa q->p:=by intro zh;refine⟨λh=>absurd (gQ h) an,λ_=>dd ?_⟩;exact zh.o):p:=n ⟨h⟩
def zbV{p q:Prop}(h:q)(n:zaa q->p:=by intro zh;rw[m8];refine zaf ?_;rw[px];refine .inr ?_;rw[hq2];refine⟨.inl V,aq,bG,uH ?_⟩;rw[hq3,<-hq2,show([]:List (List C)).length+w.zn.length=w.zn.length from gZ _];refine⟨.inl V,_,_,.refl _,rfl,?_⟩;exact zh.o):p:=n ⟨h⟩
def zbW{p q:Prop}(h:q)(n:zaa q->p:=by intro zh;refine .inl ⟨⟨true,[0,1,2,4],[1,2,6],[5]⟩,ak,uH ?_⟩;exact zh.o):p:=n ⟨h⟩
def zbX{p q:Prop}(h:q)(n:zaa q->p:=by intro zh;refine⟨an,_,gj,dd ?_⟩;refine⟨rfl,.inr V,aq,aH,dd ?_⟩;refine zai ?_;exact zh.o):p:=n ⟨h⟩
def zbY{p:Prop}(n:p:=by rw[ml];refine⟨λh=>absurd h ah,λ_=>dd ?_⟩;refine⟨ah,dd ?_⟩;rw[zm an,px,<-hst];refine zai ?_;exact zk.eZ [1] [0,2,3,4] _ _ V V V V):p:=n
def zbZ{p q:Prop}(h:q)(n:zaa q->p:=by intro zh;refine .inr ⟨⟨[0,1,3,4,6,8],[1],true⟩,ak,λ_=>V,_,uH ?_,λt2 H2 h=>h⟩;refine⟨_,ag [] (zT m 2 11 m.version),uH ?_⟩;refine⟨_,ag [] (xJ m (fc m 2 11 m.version) (np m)),uH (uH ?_)⟩;exact zh.o):p:=n ⟨h⟩
def zb0{p q:Prop}(h:q)(n:zaa q->p:=by intro zh;(show _::_::_::_::_::_::_::_::_::zJ [0,1,2,3,4,5,6,7,8,12,10] ⟨1,155,1,List.take k (((w.counts.map zA).set t [C.sl 10 [] 1 0 r0.length false]))++[_],0⟩::_=_;rw[yP (enc:=zA) (λ_=>V)];rfl);exact zh.o):p:=n ⟨h⟩
def zb1{p:Prop}(n:p:=by refine⟨λh=>absurd ((hd).symm.trans h:false=true) aj,λ_=>dd ?_⟩;rw[zm an];exact .inl ⟨rfl,i-1,_,_,an,cE 6,k+1,_,_,an,hg,rfl,rfl⟩):p:=n
def zb2{p q:Prop}(h:q)(n:zaa q->p:=by intro zh;refine ab func42 ?_;refine af ho ?_;refine td ?_;exact zh.o):p:=n ⟨h⟩
def zb3{p q:Prop}(h:q)(n:zaa q->p:=by intro zh;(refine(e6.same (qy.buildSlice _ _ _ V (c:=.eM 1 3 []) V)).fM (uH ?_));exact zh.o):p:=n ⟨h⟩
def zb4{p q:Prop}(h:q)(n:zaa q->p:=by intro zh;(refine⟨λ_=>dd ?_,λh=>absurd h bt⟩);exact zh.o):p:=n ⟨h⟩
def zb5{p:Prop}(n:p:=by refine .inl ⟨rfl,?_,an⟩;rw[zm an];exact zk.jq 5 ta V V V hrec V):p:=n
def zb6{p:Prop}(n:p:=by rw[e];refine dd ?_;exact⟨.inl V,_,zk.var 1 V V V (.cons (WC.nil 0 1) (.cons (WC.nil 0 4) (.cons (WC.nil 0 4) .nil))),rfl⟩):p:=n
def zb7{p q:Prop}(h:q)(n:zaa q->p:=by intro zh;refine⟨λh=>absurd h ah,λ_=>uH ?_⟩;refine zbD ?_;exact zh.o):p:=n ⟨h⟩
def zb8{p q:Prop}(h:q)(n:zaa q->p:=by intro zh;(refine te hg ?_);exact zh.o):p:=n ⟨h⟩
def zb9{p:Prop}(n:p:=by refine dd ?_;refine .inr ⟨rfl,dd ?_⟩;exact⟨.inl V,_,zk.cell 2 V ((WC.none 1 1 1).trans (WC.share 1 1 [])),rfl⟩):p:=n
def zca{p q:Prop}(h:q)(n:zaa q->p:=by intro zh;refine dd ?_;refine zaN ?_;exact zh.o):p:=n ⟨h⟩
def zcb{p q:Prop}(h:q)(n:zaa q->p:=by intro zh;refine⟨λ_=>dd ?_,λh=>absurd h ah⟩;exact zh.o):p:=n ⟨h⟩
def zcc{p q:Prop}(h:q)(n:zaa q->p:=by intro zh;refine .inr ⟨⟨[1,4,8,10],[0,1,2],true⟩,ak,λ_=>V,_,uH ?_,λt2 H2 h=>h⟩;refine tc ?_;exact zh.o):p:=n ⟨h⟩
def zcd{p:Prop}(n:p:=by refine⟨_,_,hA _ (ze V (ze (zf (own k)) V)),dd ?_⟩;exact dx):p:=n
def zce{p q:Prop}(h:q)(n:zaa q->p:=by intro zh;refine zab ?_;refine zad ?_;exact zh.o):p:=n ⟨h⟩
def zcf{p q:Prop}(h:q)(n:zaa q->p:=by intro zh;refine dd ?_;refine jy.qo (id:=0) _ _ _ _ (.inr V) underlying257 underlying3 V V V V V ?_;exact zh.o):p:=n ⟨h⟩
def zcg{p q:Prop}(h:q)(n:zaa q->p:=by intro zh;refine af hN ?_;(repeat (first|((refine ya (dd ?_)))|((refine yb (dd ?_)))|(rw[ml])|(rw[mb])|(refine⟨aj,_,rfl,dd ?_⟩)|(refine af hH ?_)|(refine⟨ak,dd ?_⟩)));exact zh.o):p:=n ⟨h⟩
def zch{p:Prop}(n:p:=by refine zaR ?_;(rw[zm an,eg,<-hv _ _ (by unfold xH;rw[gS bW,gL h3]) (by unfold xr;rw[gS bV,gL q3])]);exact cE 4):p:=n
def zci{p q:Prop}(h:q)(n:zaa q->p:=by intro zh;refine .inl ⟨⟨false,[1],[13],[]⟩,ak,uH ?_⟩;refine tc ?_;exact zh.o):p:=n ⟨h⟩
def zcj{p q:Prop}(h:q)(n:zaa q->p:=by intro zh;refine .inl ⟨⟨false,[1],[12],[]⟩,ak,uH ?_⟩;refine tc ?_;exact zh.o):p:=n ⟨h⟩
def zck{p:Prop}(n:p:=by refine zbD ?_;refine .inr ⟨.inl V,aq,aH,uH ?_⟩;exact uJ):p:=n
def zcl{p q:Prop}(h:q)(n:zaa q->p:=by intro zh;(refine⟨_,gx,rfl,?_⟩);(refine dd ?_);refine tc ?_;(rw[hst]);exact zh.o):p:=n ⟨h⟩
def zcm{p q:Prop}(h:q)(n:zaa q->p:=by intro zh;refine af h ?_;(refine .inl ⟨⟨false,[0,1,2],[6,7,8],[]⟩,ak,uH ?_⟩);refine tc ?_;exact zh.o):p:=n ⟨h⟩
