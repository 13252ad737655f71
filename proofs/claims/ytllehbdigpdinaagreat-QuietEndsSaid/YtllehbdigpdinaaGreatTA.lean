import Derived.WalkKit
import Derived.Still
import Derived.LoopN
import Derived.LoopNIn
import Derived.ControlIn
import Derived.CallsIn
import Derived.TacticsIn
import Derived.OrdersIn
import Derived.Scope
import Derived.RangeFuncLeaves
import Derived.RangeFuncRecord
set_option linter.all false
set_option maxRecDepth 100000
set_option maxHeartbeats 4000000
def V{α:Sort _}{a:α}:a=a:=rfl
def aw{p:Prop}(n:p:=by omega):p:=n
def aj{p:Prop}(n:p:=by simp):p:=n
def ar{p:Prop}(n:p:=by decide):p:=n
def au{p:Prop}(n:p:=by kernel_rfl):p:=n
def aA{p:Prop}(n:p:=by simp;omega):p:=n
def aJ{p:Prop}(n:p:=by show(0:Int)<_;omega):p:=n
def ay{p:Prop}(n:p:=by simp[maxLen];omega):p:=n
def bY{p:Prop}(n:p:=by rw[hlg];simp[maxLen];omega):p:=n
def cI{p:Prop}(n:p:=by rw[hlg];show(k+1)*64<=_;omega):p:=n
def bb{p:Prop}(n:p:=by unfold qk;rw[hon];rfl):p:=n
def bV{p:Prop}(n:p:=by rw[hx];exact pt hk):p:=n
def cD{p:Prop}(n:p:=by rfl):p:=n
def bX{p:Prop}(n:p:=by rw[rj hk,<-hx];simp):p:=n
def cU{p:Prop}(n:p:=by rw[hpc];rfl):p:=n
def bZ{p:Prop}(n:p:=by rw[rp];rfl):p:=n
def bW{p:Prop}(n:p:=by intro ob hob;simp at hob;rcases hob with rfl|rfl|rfl|rfl|rfl|rfl|rfl <;> first|exact hX _|exact hY|rfl):p:=n
def bj{p:Prop}(n:p:=by show _*8<=_;simp;omega):p:=n
def aQ{p:Prop}(n:p:=by show w.current<((w.ze++[vm m.op.config]).length:Nat);simp only[pz,rP];omega):p:=n
def aV{p:Prop}(n:p:=by show(0<=m.pc/\m.pc<=6)\/_;omega):p:=n
def bn{p:Prop}(n:p:=by show 1+1<=48;decide):p:=n
def aG{p:Prop}(n:p:=by have:=hs.base;simp;omega):p:=n
def cm{p:Prop}(n:p:=by intro u hu;simp at hu;subst hu;rfl):p:=n
def aE{p:Prop}(n:p:=by have:=(jP gv.snap).zo.1;have:=gv.len;omega):p:=n
def aR{p:Prop}(n:p:=by cases h):p:=n
def ba{p:Prop}(n:p:=by show x.done+1<=x.ops.length;omega):p:=n
def bd{p:Prop}(n:p:=by simp at h2;omega):p:=n
def bG{p:Prop}(n:p:=by have h1:=rW hB;have h2:=rW hn;simp;omega):p:=n
def cV{p:Prop}(n:p:=by show zL _ _::zL _ _::zL _ ⟨1,0,1,_,0⟩::_=_;rw[zH (enc:=zQ) (λ_=>V)];rfl):p:=n
def ck{p:Prop}(n:p:=by simp only[lJ,f.VJ (by rw[<-f.h0.n];exact hi)]):p:=n
def aY{p:Prop}(n:p:=by rw[ho];exact hk):p:=n
def aI{p:Prop}(n:p:=by show i64 (zT w.zc m.op.listen);unfold i64;omega):p:=n
def bt{p:Prop}(n:p:=by rw[mA];show _*104<=_;simp;omega):p:=n
def cy{p:Prop}(n:p:=by show m.i+1=_;omega):p:=n
def cT{p:Prop}(n:p:=by show 0+1<=3;decide):p:=n
def aN{p:Prop}(n:p:=by show(4:Int)≠0;decide):p:=n
def aO{p:Prop}(n:p:=by show(5:Int)≠0;decide):p:=n
def bF{p:Prop}(n:p:=by rw[h]at hr;cases hr):p:=n
def bc{p:Prop}(n:p:=by simp[fE]):p:=n
def aW{p:Prop}(n:p:=by cases hgo:r.gone with|false=>rfl|true=>exact absurd (.inl hgo) q):p:=n
def bD{p:Prop}(n:p:=by rw[hrows.len,hcs,<-rk];exact p7 _ hroom):p:=n
def bL{p:Prop}(n:p:=by simp[ho,hv,hc,eqGuard,binOp,run_equal_slice_nil w t e _ len cap ht]):p:=n
def cJ{p:Prop}(n:p:=by unfold An;rw[gp (by simp at h1;omega)]):p:=n
def cM{p:Prop}(n:p:=by unfold An;rw[gp (by simp at h2;omega)]):p:=n
def aF{p:Prop}(n:p:=by simpa [Env.at] using ho.1):p:=n
def cK{p:Prop}(n:p:=by unfold kM;rw[gp (by simp at q1;omega)]):p:=n
def cL{p:Prop}(n:p:=by unfold kM;rw[gp (by simp at q2;omega)]):p:=n
def bS{p:Prop}(n:p:=by rcases rJ.1 h with h|h;exact absurd h.symm e;exact h):p:=n
def cz{p:Prop}(n:p:=by unfold Al;simp at h1;simp[h1]):p:=n
def cf{p:Prop}(n:p:=by simp at q1;omega):p:=n
def aX{p:Prop}(n:p:=by have:=st.i5.fP l (gu hl);show l.zj<=_;omega):p:=n
def bB{p:Prop}(n:p:=by rw[hh.n];exact fE):p:=n
def bH{p:Prop}(n:p:=by show _<=w2.heap.size;rw[a4];exact g.size):p:=n
def bR{p:Prop}(n:p:=by rw[<-l1];exact h2):p:=n
def cq{p:Prop}(n:p:=by have:=st.ty.fP;show w.zc.length<=_;omega):p:=n
def aZ{p:Prop}(n:p:=by rw[ho];omega):p:=n
def cH{p:Prop}(n:p:=by rw[ui];simp[od,Lq,vd,ha,@eq_comm _ 1 b.kind]):p:=n
def aB{p:Prop}(n:p:=by rw[CP];decide):p:=n
def bN{p:Prop}(n:p:=by simp[ho,Op.operands,Call.operands,hcl]):p:=n
def cP{p:Prop}(n:p:=by show 2+1<=4;decide):p:=n
def bQ{p:Prop}(n:p:=by unfold qd;rw[h2];exact(show kF sz0 rows0 hops=_ from hg')):p:=n
def aH{p:Prop}(n:p:=by simp[h]):p:=n
def aD{p:Prop}(n:p:=by simp[h1]):p:=n
def br{p:Prop}(n:p:=by rw[mA];simp[maxLen];omega):p:=n
def bw{p:Prop}(n:p:=by (try simp at a1);simp[kD];first|omega|(rw[a1];simp)):p:=n
def bz{p:Prop}(n:p:=by (try simp at a2);simp[kD];first|omega|(rw[a2];simp)):p:=n
def bA{p:Prop}(n:p:=by (try simp at a3);simp[kD];first|omega|(rw[a3];simp)):p:=n
def bf{p:Prop}(n:p:=by rw[h1];decide):p:=n
def bp{p:Prop}(n:p:=by show 47+1<=48;decide):p:=n
def b9{p:Prop}(n:p:=by rw[gC];exact hll.symm):p:=n
def cG{p:Prop}(n:p:=by simp at h1;omega):p:=n
def bE{p:Prop}(n:p:=by rw[j6 hs.tmps hw];decide):p:=n
def bO{p:Prop}(n:p:=by intro hb;simp[hb]at hcb):p:=n
def bM{p:Prop}(n:p:=by simpa [fC,Env.cut] using h):p:=n
def aT{p:Prop}(n:p:=by show 0<=m.i+1;omega):p:=n
def cN{p:Prop}(n:p:=by simp at h1 h2;omega):p:=n
def bh{p:Prop}(n:p:=by rw[h2];trivial):p:=n
def bm{p:Prop}(n:p:=by rw[pR];rfl):p:=n
def bJ{p:Prop}(n:p:=by rw[hh.n,hs.heap.n];exact hs.base):p:=n
def bP{p:Prop}(n:p:=by simp[h2]):p:=n
def cb{p:Prop}(n:p:=by rw[<-hh.n,<-h2.n];exact g.le.n):p:=n
def cw{p:Prop}(n:p:=by unfold zZ;rw[gz hb]):p:=n
def cg{p:Prop}(n:p:=by rw[<-f.h0.n];exact hi):p:=n
def bu{p:Prop}(n:p:=by (try dsimp only);omega):p:=n
def bC{p:Prop}(n:p:=by simp only[maxLen]at hm;omega):p:=n
def aC{p:Prop}(n:p:=by unfold nY;rw[hnext,hev];rfl):p:=n
def aL{p:Prop}(n:p:=by show m.slot<_;omega):p:=n
def aP{p:Prop}(n:p:=by show(0:Int)<=n;omega):p:=n
def aU{p:Prop}(n:p:=by have:=gr.pins.2;omega):p:=n
def cp{p:Prop}(n:p:=by simp[hx]):p:=n
def aK{p:Prop}(n:p:=by show 0<=m.slot;omega):p:=n
def bq{p:Prop}(n:p:=by show 3+44<=48;decide):p:=n
def bT{p:Prop}(n:p:=by simp_all[HD]):p:=n
def ax{p:Prop}(n:p:=by simp[h5]):p:=n
def aM{p:Prop}(n:p:=by show e.zj<=_;omega):p:=n
def bU{p:Prop}(n:p:=by simp[h3]):p:=n
def cO{p:Prop}(n:p:=by simp at h2|-;omega):p:=n
def cQ{p:Prop}(n:p:=by show 3+1<=5;decide):p:=n
def cR{p:Prop}(n:p:=by show 1+1<=2;decide):p:=n
def cS{p:Prop}(n:p:=by show 2+1<=3;decide):p:=n
def cF{p:Prop}(n:p:=by grind [qk]):p:=n
def aq{p q:Prop}(h:q)(e:q->p:=by intro zh;simpa using zh):p:=e h
def cW{p:Prop}(n:p:=by exact⟨.inl V,_,_,.refl _,rfl,cE 2⟩):p:=n
def cX{p:Prop}(n:p:=by exact⟨.inl V,_,zp.var 1 V V V (.cons (.refl _) (.cons (.refl _) (.cons (.refl _) (.cons (WC.nil 0 1) (.cons (WC.nil 0 5) (.cons (WC.nil 0 4) (.cons (WC.nil 0 1) (.cons (WC.nil 0 3) .nil)))))))),rfl⟩):p:=n
def cY{p:Prop}(n:p:=by exact⟨.inl V,_,_,.refl _,rfl,zp.xO 6 hC V V V (zI V (zI V (zI (qp lowV) (zI (qp lowG) (zI (qp lowE) V))))) V⟩):p:=n
def cZ{p:Prop}(n:p:=by exact⟨.inl V,_,_,.refl _,rfl,zp.xO 9 hC V V V (zI (qp (Vv (b:=1) (n:=9) ar hX V)) V) V⟩):p:=n
def c7{p:Prop}(n:p:=by exact h.elim):p:=n
def c8{p:Prop}(n:p:=by refine dd ?_;refine hZ ?_;exact uI):p:=n
def c9{p:Prop}(n:p:=by exact⟨_,_,zp.mask [0,1,4,7,8] _ _,0,aj,rfl,aj,rfl⟩):p:=n
def da{p:Prop}(n:p:=by exact⟨.inl V,_,_,.refl _,rfl,zp.xO 4 hC V V V (zI V (zI V (zI (qp low) V))) V⟩):p:=n
def db{p:Prop}(n:p:=by exact⟨.inl V,_,zp.keep [3] 1 _ _ V V V V,rfl,rfl⟩):p:=n
def dc{p:Prop}(n:p:=by simp at this;omega):p:=n
def de{p:Prop}(n:p:=by exact⟨.inr V,_,.refl _,rfl,rfl⟩):p:=n
def df{p:Prop}(n:p:=by refine hU ?_;exact cW):p:=n
def dg{p:Prop}(n:p:=by exact⟨_,_,.refl _,rfl,.inl ⟨rfl,rfl,rfl⟩⟩):p:=n
def dh{p:Prop}(n:p:=by refine⟨aw,aA,dd ?_⟩;rw[e1];refine⟨_,xp aj hk,rfl,dd ?_⟩;refine .inl ⟨rfl,?_,trivial⟩;rw[zw aw,<-jh hF hk];exact cC):p:=n
def di{p:Prop}(n:p:=by refine dd ?_;exact uJ):p:=n
def dj{p:Prop}(n:p:=by exact(g2.frame k (pN hk g.size) λhc=>(g.own k hc).elim (λh=>by omega) ho).trans (g.frame k hk ho)):p:=n
def dk{p:Prop}(n:p:=by rw[hr];exact hk _ w E hh (.v _ V) (qL.refl w E H)):p:=n
def dm{p:Prop}(n:p:=by have g:=g1.trans g2;exact⟨E1,⟨hR,hs.tmps.mono g.le,hs.defers.grow hs.heap g,aG⟩,g.iX tB⟩):p:=n
def dp{p:Prop}(n:p:=by refine dd ?_;exact uI):p:=n
def dq{p:Prop}(n:p:=by refine uD ?_;rw[vR aj];exact⟨.inl V,_,zp.fL [1] [6] _ _ V V V V,rfl,rfl⟩):p:=n
def dt{p:Prop}(n:p:=by exact⟨.inl V,_,zp.JY 2 V V (.inr V) aj (shut_map (λ_=>V) (x::l)),rfl⟩):p:=n
def du{p:Prop}(n:p:=by rw[zw aw];exact cE 1):p:=n
def dw{p:Prop}(n:p:=by refine ab func277 ?_;refine ah h ?_;exact uI):p:=n
def dx{p:Prop}(n:p:=by exact qH hd V V):p:=n
def dy{p:Prop}(n:p:=by exact⟨.inl V,_,zp.cell 2 V (WC.nil 0 1),rfl⟩):p:=n
def dz{p:Prop}(n:p:=by simp only[r7,tX,sF] at *;rw[h1,h2];rfl):p:=n
def dA{p:Prop}(n:p:=by have:=(gh.1 ho).1;exact dc):p:=n
def dB{p:Prop}(n:p:=by exact xC V V hd):p:=n
def dC{p:Prop}(n:p:=by exact wz V V (by exact gL au)):p:=n
def dD{p:Prop}(n:p:=by exact .agg _ ys (aq this.1) (λi c y e1 e2=>this.2 i c y e1 uZ) h3):p:=n
def dE{p:Prop}(n:p:=by exact zF V ⟨uX,st1,tg1,uO,rfl,rfl,xb.refl w _,qs w (wQ p6 (lZ su.done hk uM)),.inr ⟨v,g,e,uR,⟨uL,uK,uK,uK,uK⟩⟩⟩):p:=n
def dF{p:Prop}(n:p:=by have:=(getC h q aw).1;omega):p:=n
def dG{p:Prop}(n:p:=by exact this):p:=n
def dH{p:Prop}(n:p:=by simp only[pP,rI];omega):p:=n
def dI{p:Prop}(n:p:=by exact⟨rfl,λ_=>V,rfl⟩):p:=n
def dJ{p:Prop}(n:p:=by exact⟨.inl V,_,zp.zV 2 0 5 V V V V (.inr V) aj b9 (shut_map (enc:=qO) (λ_=>V) _) (qa V),rfl⟩):p:=n
def dK{p:Prop}(n:p:=by refine uD ?_;rw[pI];exact uI):p:=n
def dL{p:Prop}(n:p:=by refine .inl ⟨rfl,?_,trivial⟩;exact cE 1):p:=n
def dM{p:Prop}(n:p:=by exact .fn f _ _ ys zs (aq t1.1) (aq t2.1) (λi c y e1 e2=>t1.2 i c y e1 uZ) (λi c y e1 e2=>t2.2 i c y e1 uZ)):p:=n
def dN{p:Prop}(n:p:=by exact⟨rfl,rfl⟩):p:=n
def dO{p:Prop}(n:p:=by exact⟨.inl V,_,_,.refl _,rfl,cE 1⟩):p:=n
def dP{p:Prop}(n:p:=by exact hl a (by simp[ho,Op.operands,Call.operands];right;have:=gu ha;simpa using this)):p:=n
def dQ{p:Prop}(n:p:=by refine .inl ⟨⟨true,[0,2,3],[0,1,5],[1]⟩,au,uH ?_⟩;refine ah (qE w sw) ?_;refine hU ?_;exact uI):p:=n
def dR{p:Prop}(n:p:=by exact⟨.inl V,_,zp.cell 2 V (WC.nil 0 18),rfl⟩):p:=n
def dS{p:Prop}(n:p:=by rw[gS];exact⟨hk,h2,λj hj=>by simp only[hr j aw hj];decide⟩):p:=n
def dT{p:Prop}(n:p:=by have:=(hno4 h4).1;omega):p:=n
def dU{p:Prop}(n:p:=by exact hno j aw x hj):p:=n
def dV{p:Prop}(n:p:=by exact hno j aw r hr):p:=n
def dW{p:Prop}(n:p:=by rw[e];exact c8):p:=n
def dX{p:Prop}(n:p:=by exact FQ _ t (by rw[gy,ho];rfl)):p:=n
def dY{p:Prop}(n:p:=by exact absurd h3 ar):p:=n
def dZ{p:Prop}(n:p:=by rw[gp aw];refine uD ?_;rw[vR aj];exact uJ):p:=n
def gf{p:Prop}(n:p:=by refine uD ?_;exact uI):p:=n
def gh:=@List.getElem?_eq_some_iff
def gk:=@List.getElem?_eq_getElem
def gp:=@if_neg
def gu:=@List.mem_of_getElem?
def gy:=@List.getElem?_map
def gz:=@if_pos
def gA:=@Option.some.inj
def gC:=@List.length_map
def gD:=@List.getElem?_set_self
def gE:=@List.all_eq_true
def gF:=@List.getElem?_append_left
def gG:=@Nat.le_refl
def gH:=@Bool.and_eq_true
def gI:=@List.mem_iff_getElem?
def gJ:=@List.getElem?_set
def gK:=@Option.map_some
def gL:=@of_decide_eq_true
def gM:=@Array.getElem?_eq_some_iff
def gO:=@Int.le_refl
def gP:=@List.getElem?_append_right
def gQ:=@Option.bind_eq_some_iff
def gR:=@decide_eq_true_eq
def gS:=@List.findIdx?_eq_some_iff_getElem
def gT:=@Option.map_eq_some_iff
def gU:=@Nat.zero_add
def gV:=@List.findIdx?_eq_none_iff
def gW:=@Option.bind_some
def gX:=@Option.some.injEq
def gY:=@List.mem_map
def gZ:=@List.mem_singleton
def pa:=@Nat.zero_le
def pj:=@List.getElem?_set_ne
def pq:=@List.any_eq_false
def pt:=@List.getElem_mem
def pw:=@List.mem_append
def pz:=@List.length_append
def pA:=@List.set_set
def pB:=@List.getElem?_take
def pC:=@List.ext_getElem?
def pD:=@Array.getElem?_toList
def pE:=@List.mem_or_eq_of_mem_set
def pF:=@List.getElem?_mapIdx
def pG:=@Nat.not_lt_zero
def pH:=@Nat.le_trans
def pI:=@List.take_length
def pJ:=@List.mem_iff_getElem
def pK:=@Bool.not_eq_true'
def pL:=@List.mem_cons_of_mem
def pM:=@List.getElem?_eq_none
def pN:=@Nat.lt_of_lt_of_le
def pO:=@Array.getD_eq_getD_getElem?
def pP:=@List.map_cons
def pQ:=@List.map_congr_left
def pR:=@List.map_append
def pS:=@List.eq_of_mem_replicate
def pT:=@beq_iff_eq
def pU:=@Bool.or_eq_false_iff
def pV:=@List.length_set
def pW:=@List.getElem?_eq_none_iff
def pX:=@List.mem_cons_self
def pY:=@decide_eq_false_iff_not
def pZ:=@List.getElem?_modify
def p7:=@Nat.mul_le_mul_right
def rb:=@List.getElem?_drop
def rh:=@List.any_eq_true
def rj:=@List.take_succ_eq_append_getElem
def rk:=@Nat.add_mul
def rp:=@List.map_set
def rq:=@congrArg
def ru:=@Nat.le_succ
def ry:=@List.length_cons
def rz:=@decide_eq_false
def rA:=@List.append_nil
def rB:=@List.getElem?_cons_succ
def rC:=@List.map_map
def rD:=@Bool.or_eq_true
def rE:=@of_decide_eq_false
def rF:=@List.length_eq_zero_iff
def rG:=@List.mem_range
def rH:=@List.mem_of_mem_take
def rI:=@List.sum_cons
def rJ:=@List.mem_cons
def rK:=@Int.toNat_natCast
def rL:=@Array.eq_empty_of_size_eq_zero
def rM:=@Int.toNat_of_nonneg
def rO:=@List.append_assoc
def rP:=@List.length_singleton
def rQ:=@List.findIdx?_cons
def rR:=@Nat.sub_self
def rS:=@Nat.sub_zero
def rT:=@decide_eq_true
def rU:=@List.getElem?_range
def rV:=@Array.getElem?_eq_getElem
def rW:=@Nat.le_of_ble_eq_true
def rX:=@Bool.not_eq_false'
def rY:=@Bool.false_or
def rZ:=@Nat.lt_trichotomy
def r5:=@Option.map_eq_map
def r6:=@Nat.lt_or_ge
def r7:=@List.all_cons
def r8:=@Array.mem_of_getElem?
def r9:=@Array.getElem?_modify
def sa:=@List.mem_of_mem_drop
def sd:=@List.flatMap_cons
def se:=@Nat.add_assoc
def sg:=@List.length_pos_iff
def sj:=@Array.getElem?_eq_none
def sr:=@List.take_of_length_le
def sy:=@Nat.add_zero
def sA:=@List.set_cons_zero
def sB:=@Bool.false_eq_true
def sC:=@List.take_append_drop
def sD:=@Int.tmod_eq_emod_of_nonneg
def sF:=@Bool.and_true
def sG:=@List.findIdx?_map
def sI:=@List.all_eq_false
def sJ:=@Bool.and_false
def sK:=@List.drop_zero
def sL:=@Nat.zero_mul
def sM:=@Array.all_toList
def sN:=@List.replicate_succ
def sO:=@Array.toList_append
def sP:=@List.getElem?_replicate
def sR:=@Nat.lt_irrefl
def sS:=@Int.emod_nonneg
def sT:=@Int.emod_lt_of_pos
def sU:=@List.mem_replicate
def sV:=@Nat.eq_zero_or_pos
def sW:=@List.filter_append
def sX:=@List.pairwise_cons
def sY:=@Nat.mul_one
def sZ:=@List.take_append_of_le_length
def tn:=@List.length_replicate
def tq:=@Nat.ne_of_lt
def tt:=@List.getElem?_toArray
def tu:=@Nat.mul_comm
def tw:=@List.mapM_cons
def tz:=@List.take_zero
def tT:=@List.map_nil
def tU:=@Array.getElem?_setIfInBounds
def tX:=@List.all_nil
def tZ:=@Array.toList_inj
def ua:=@List.length_take
def ub:=@List.range_eq_range'
def uc:=@List.mem_flatMap
def ud:=@List.prefix_refl
def ue:=@Array.getElem?_append_left
def uf:=@List.exists_cons_of_ne_nil
def ug:=@List.takeWhile_cons
def uh:=@List.mem_mapIdx
def ui:=@Bool.eq_iff_iff
def uj:=@List.all_append
def uk:=@List.drop_eq_getElem_cons
def um:=@List.countP_append
def uo:=@List.set_cons_succ
def uq:=@Nat.le_of_eq
def ur:=@Bool.or_true
def uu:=@Array.setIfInBounds_comm
def uv:=@List.take_left
def uw:=@List.getElem?_cons_zero
def ux:=@List.size_toArray
def uy:=@List.nodup_append
def uz:=@Array.mem_iff_getElem?
def u1:=@List.drop_eq_nil_of_le
def u3:=@Bool.not_true
def u4:=@List.map_take
def u5:=@Bool.true_and
def u6:=@Option.bind_none
def u7:=@Nat.mod_eq_of_lt
def u9:=@Array.toList_map
def ed:=@List.countP_cons
def eh:=@List.countP_singleton
def eu:=@List.set_getElem_self
def ey:=@List.set_append_right
def ez:=@Nat.ble_eq_true_of_le
def eC:=@List.length_mergeSort
def eD:=@List.findIdx?_append
def eE:=@List.set_append_left
def eF:=@List.replicate_succ'
def eG:=@List.mem_append_left
def eI:=@List.eq_nil_iff_forall_not_mem
def eJ:=@List.getElem?_append
def eK:=@Nat.not_lt
def eL:=@List.eq_nil_of_length_eq_zero
def eM:=@Nat.mul_le_mul
def eP:=@Array.getElem?_map
def eQ:=@Array.ext_getElem?
def eR:=@Int.natCast_nonneg
def eU:=@List.getD_eq_getElem?_getD
def eV:=@List.mergeSort_of_pairwise
def eX:=@List.foldl_append
def eZ:=@Array.size_append
def fb:=@List.getElem_take
def fc:=@List.take_add_one
def fe:=@List.length_range
def ff:=@Bool.not_eq_true
def fg:=@Nat.lt_succ_self
def fh:=@Nat.add_comm
def fi:=@List.mapIdx_cons
def fj:=@List.isEmpty_iff
def fk:=@Bool.true_or
def fm:=@List.filter_cons
def fp:=@List.sum_append
def fq:=@List.foldl_cons
def ft:=@Nat.mul_add_mod
def fx:=@List.range_succ
def fy:=@List.mem_filter
def fA:=@List.nil_append
def fB:=@Bool.false_and
def fC:=@Nat.blt_eq
namespace Go.Ab
variable{i:TypeInfo}{t e:TypeId}{α:Type}{y u:Value}{ys:List Value}{o:Oper}{w w':World}{b B off kd sz:Nat}{l:List Oper}{a:Act}{ops:Array Oper}{P:Program}{p q g:Prop}
abbrev ig:=Nat×Nat
variable{hops:List ig}
inductive C where
 |v (x:Value)
 |fF (o sz:Nat) (rows:List (List C))
 |jy (cells:List C)
 |ref (id:Nat) (hops:List ig) (sz i k:Nat)
 |sl (id:Nat) (hops:List ig) (sz lo len:Nat) (full:Bool)
 |fn (f:FuncId) (first caps:List C)
 |mp (id:Nat)
 |agg (cs:List C)
 |fJ (vs:List C)
 |un
 |za
 |gl (id sz:Nat) (rows:List (List C))
 |iF (t:TypeId) (c:C)
 |rc (o:Obj)
variable{c:C}{cs:List C}{ρ:Operand->C}{x:Nat×List (List C)}{rows rows':List (List C)}{f:List (List C)->List (List C)}
structure Ob where
 kind:Nat
 ty:TypeId
 sz:Nat
 rows:List (List C)
 fz:Nat:=0
abbrev zn:=List Ob
variable{H H':zn}{R:C->zn->Prop}
structure Env where
 n:Nat
 β:Nat->List ig->Nat
 κ:Nat->List ig->Nat
 St:Nat->Nat->Option Value
 G:Nat->Nat->Option Value:=λ_ _=>none
variable{E E':Env}
def Env.shut(E:Env):Env:={E with n:=0}
def Env.at(E:Env)(kd:Nat):Env:=if kd=2 then E.shut else E
inductive L:Env->C->Value->Prop
 |v {E:Env} (x:Value) (h:x.oneCell'=true):L E (.v x) x
 |fF {E:Env} (o sz:Nat) (rows:List (List C)) (b off cap:Nat) (us:Nat->Nat->Value) (ho:o=0\/o=1/\cap=rows.length) (hc:rows.length<=cap)
   (hsz:∀r∈rows,r.length=sz)
   (hst:∀(i:Nat) r (k:Nat) c,rows[i]?=some r->r[k]?=some c->E.St b (off+i*sz+k)=some (us i k))
   (hL:∀(i:Nat) r (k:Nat) c,rows[i]?=some r->r[k]?=some c->L E.shut c (us i k)):
   L E (.fF o sz rows) (.slice (some ⟨b,off,none⟩) rows.length cap)
 |xE {E:Env} (o sz:Nat) (ho:o=0\/o=1) (a:Option Addr:=none):L E (.fF o sz []) (.slice a 0 0)
 |jy {E:Env} (cells:List C) (b off:Nat) (us:Nat->Value) (hst:∀(k:Nat) c,cells[k]?=some c->E.St b (off+k)=some (us k))
   (hL:∀(k:Nat) c,cells[k]?=some c->L E.shut c (us k)):L E (.jy cells) (.pointer (some ⟨b,off,none⟩))
 |ref {E:Env} (id:Nat) (hops:List ig) (sz i k:Nat) (hn:id<E.n):L E (.ref id hops sz i k) (.pointer (some ⟨E.β id hops,i*sz+k,none⟩))
 |sl {E:Env} (id:Nat) (hops:List ig) (sz lo len:Nat) (full:Bool) (cap:Nat) (hn:id<E.n) (hlen:len<=cap) (hf:full=true->cap=len) (hf':full=false->lo+cap=E.κ id hops):
   L E (.sl id hops sz lo len full) (.slice (some ⟨E.β id hops,lo*sz,none⟩) len cap)
 |fn {E:Env} (f:FuncId) (first caps:List C) (ys zs:Array Value) (h1:first.length=ys.size) (h2:caps.length=zs.size)
   (h3:∀(i:Nat) c y,first[i]?=some c->ys[i]?=some y->L E c y) (h4:∀(i:Nat) c y,caps[i]?=some c->zs[i]?=some y->L E c y):
   L E (.fn f first caps) (.func (.func f) ys zs)
 |mp {E:Env} (id:Nat) (hn:id<E.n):L E (.mp id) (.map (some (E.β id [])))
 |agg {E:Env} (cs:List C) (ys:Array Value) (h1:cs.length=ys.size) (h2:∀(i:Nat) c y,cs[i]?=some c->ys[i]?=some y->L E c y) (h3:∀y∈ys,y.oneCell'=true):L E (.agg cs) (.agg ys)
 |fJ {E:Env} (cs:List C) (ys:Array Value) (h1:cs.length=ys.size) (h2:∀(i:Nat) c y,cs[i]?=some c->ys[i]?=some y->L E c y):L E (.fJ cs) (.tuple ys)
 |un {E:Env}:L E .un undef
 |za {E:Env} (y:Value):L E .za y
 |gl {E:Env} (id sz:Nat) (rows:List (List C)) (y:Value) (hn:id<E.n) (hg:E.G id rows.length=some y) (h:L E.shut (.fF 0 sz rows) y):L E (.gl id sz rows) y
 |iF {E:Env} (t:TypeId) (c:C) (y:Value) (h:L E c y):L E (.iF t c) (.iface t y)
structure Env.le(E E':Env):Prop where
 n:E.n<=E'.n
 β:∀id hops,id<E.n->E'.β id hops=E.β id hops
 κ:∀id hops,id<E.n->E'.κ id hops=E.κ id hops
 St:∀b o u,E.St b o=some u->E'.St b o=some u
 G:∀id k u,id<E.n->E.G id k=some u->E'.G id k=some u
theorem Env.le.refl(E:Env):E.le E:=⟨gG _,λ_ _ _=>V,λ_ _ _=>V,λ_ _ _ h=>h,λ_ _ _ _ h=>h⟩
def Env.le.trans{E E' E'':Env}(h:E.le E')(h':E'.le E''):E.le E'':=
 ⟨pH h.n h'.n,λid hops hi=>(h'.β id hops (pN hi h.n)).trans (h.β id hops hi),λid hops hi=>(h'.κ id hops (pN hi h.n)).trans (h.κ id hops hi),
  λb o u hu=>h'.St b o u (h.St b o u hu),λid k u hi hu=>h'.G id k u (pN hi h.n) (h.G id k u hi hu)⟩
def Env.FW(E:Env):E.shut.le E:=⟨pa _,λ_ _ h=>absurd h (pG _),λ_ _ h=>absurd h (pG _),λ_ _ _ h=>h,λ_ _ _ h _=>absurd h (pG _)⟩
def Env.le.shut{E E':Env}(h:E.le E'):E.shut.le E'.shut:=⟨gG _,λ_ _ h=>absurd h (pG _),λ_ _ h=>absurd h (pG _),h.St,λ_ _ _ h _=>absurd h (pG _)⟩
def Env.le.at{E E':Env}(h:E.le E')(kd:Nat):(E.at kd).le (E'.at kd):=by unfold Env.at;split;exact h.shut;exact h
def Env.Tl(E:Env)(kd:Nat):(E.at kd).le E:=by unfold Env.at;split;exact E.FW;exact .refl E
def L.mono(h:E.le E')(hl:L E c y):L E' c y:=by
 induction hl generalizing E' with
 |v x hx=>exact .v x hx
 |fF o sz rows b off cap us ho hc hsz hst _ ih=>exact .fF o sz rows b off cap us ho hc hsz (λi r k c h1 h2=>h.St _ _ _ (hst i r k c h1 h2)) (λi r k c h1 h2=>ih i r k c h1 h2 h.shut)
 |xE o sz ho a=>exact .xE o sz ho a
 |jy cells b off us hst _ ih=>exact .jy cells b off us (λk c h1=>h.St _ _ _ (hst k c h1)) (λk c h1=>ih k c h1 h.shut)
 |ref id hops sz i k hn=>rw[<-h.β id hops hn];exact .ref id hops sz i k (pN hn h.n)
 |sl id hops sz lo len full cap hn hlen hf hf'=>
  rw[<-h.β id hops hn];exact .sl id hops sz lo len full cap (pN hn h.n) hlen hf (λe=>by rw[h.κ id hops hn];exact hf' e)
 |fn f first caps ys zs h1 h2 _ _ ih1 ih2=>exact .fn f first caps ys zs h1 h2 (λi c y e1 e2=>ih1 i c y e1 e2 h) (λi c y e1 e2=>ih2 i c y e1 e2 h)
 |mp id hn=>rw[<-h.β id [] hn];exact .mp id (pN hn h.n)
 |agg cs ys h1 _ h3 ih=>exact .agg cs ys h1 (λi c y e1 e2=>ih i c y e1 e2 h) h3
 |fJ cs ys h1 _ ih=>exact .fJ cs ys h1 (λi c y e1 e2=>ih i c y e1 e2 h)
 |un=>exact .un
 |za y=>exact .za y
 |gl id sz rows y hn hg _ ih=>exact .gl id sz rows y (pN hn h.n) (h.G _ _ _ hn hg) (ih h.shut)
 |iF t c y _ ih=>exact .iF t c y (ih h)
def B6:C->Bool
 |.v _|.fF .. |.jy _=>true
 |_=>false
def EO:C->Bool
 |.agg cs=>cs.all B6
 |c=>B6 c
def xm:C->Bool
 |.fn _ first caps=>first.all EO && caps.all EO
 |c=>B6 c
def L.BX(h:L E c y)(hc:B6 c=true):L E.shut c y:=by
 cases h with
 |v x hx=>exact .v _ hx
 |fF o sz rows b off cap us ho h2 hsz hst hL=>exact .fF o sz rows b off cap us ho h2 hsz hst hL
 |xE o sz ho a=>exact .xE o sz ho a
 |jy cells b off us hst hL=>exact .jy cells b off us hst hL
 |_=>simp[B6]at hc
def L.Ss(h:L E c y)(hc:EO c=true):L E.shut c y:=by
 cases h with
 |agg cs ys h1 h2 h3=>
  refine .agg cs ys h1 (λi c y e1 e2=>(h2 i c y e1 e2).BX ?_) h3;exact gE.1 (show cs.all B6=true from hc) _ (gu e1)
 |v x hx=>exact(L.v (E:=E) _ hx).BX hc
 |fF o sz rows b off cap us ho h2 hsz hst hL=>exact(L.fF (E:=E) o sz rows b off cap us ho h2 hsz hst hL).BX hc
 |xE o sz ho a=>exact(L.xE (E:=E) o sz ho a).BX hc
 |jy cells b off us hst hL=>exact(L.jy (E:=E) cells b off us hst hL).BX hc
 |_=>simp[EO,B6]at hc
def L.wj(h:L E c y)(hc:xm c=true):L E.shut c y:=by
 cases h with
 |fn f first caps ys zs h1 h2 h3 h4=>
  have hc:(first.all EO && caps.all EO)=true:=hc;rw[gH]at hc;exact .fn f first caps ys zs h1 h2 (λi c y e1 e2=>(h3 i c y e1 e2).Ss (gE.1 hc.1 _ (gu e1))) (λi c y e1 e2=>(h4 i c y e1 e2).Ss (gE.1 hc.2 _ (gu e1)))
 |v x hx=>exact(L.v (E:=E) _ hx).BX hc
 |fF o sz rows b off cap us ho h2 hsz hst hL=>exact(L.fF (E:=E) o sz rows b off cap us ho h2 hsz hst hL).BX hc
 |xE o sz ho a=>exact(L.xE (E:=E) o sz ho a).BX hc
 |jy cells b off us hst hL=>exact(L.jy (E:=E) cells b off us hst hL).BX hc
 |_=>simp[xm,B6]at hc
def LL(E:Env)(cs:List C)(ys:List Value):Prop:=cs.length=ys.length/\∀(i:Nat) c y,cs[i]?=some c->ys[i]?=some y->L E c y
def LL.mono{E E':Env}(h:E.le E'){cs:List C}{ys:List Value}(hl:LL E cs ys):LL E' cs ys:=
 ⟨hl.1,λi c y h1 h2=>(hl.2 i c y h1 h2).mono h⟩
def LL.nil:LL E [] []:=⟨rfl,by simp⟩
def LL.cons(h:L E c y)(hl:LL E cs ys):LL E (c::cs) (y::ys):=by
 refine⟨by simp[hl.1],?_⟩;intro i c' y' h1 h2;cases i with
 |zero=>simp at h1 h2;subst h1;subst h2;exact h
 |succ i=>simp at h1 h2;exact hl.2 i c' y' h1 h2
def LL.cons_inv(h:LL E (c::cs) (y::ys)):L E c y/\LL E cs ys:=
 ⟨h.2 0 c y V V,by simpa using h.1,λi c' y' h1 h2=>h.2 (i+1) c' y' (by simpa using h1) (by simpa using h2)⟩
def LL.one(h:L E c y):LL E [c] [y]:=LL.cons h LL.nil
def LL.append{cs':List C}{ys':List Value}(h:LL E cs ys)(h':LL E cs' ys'):LL E (cs++cs') (ys++ys'):=by
 refine⟨by simp[h.1,h'.1],?_⟩;intro i c y h1 h2;by_cases hi:i<cs.length
 .rw[gF hi]at h1;rw[gF (by rw[<-h.1];exact hi)]at h2;exact h.2 i c y h1 h2
 .rw[gP (by omega)]at h1;rw[gP (by rw[<-h.1];omega),<-h.1]at h2;exact h'.2 _ c y h1 h2
def LL.get(h:LL E cs ys){i:Nat}(hc:cs[i]?=some c):∃y,ys[i]?=some y/\L E c y:=by
 have hi:i<ys.length:=by rw[<-h.1];exact(gh.1 hc).1
 exact⟨ys[i],by simp[hi],h.2 i c ys[i] hc (by simp[hi])⟩
def LL.take{E:Env}{cs:List C}{ys:List Value}(h:LL E cs ys)(n:Nat):LL E (cs.take n) (ys.take n):=by
 refine⟨by simp[h.1],?_⟩;intro i c y h1 h2;rw[pB]at h1 h2;split at h1
 .rename_i hi;rw[gz hi]at h2;exact h.2 i c y h1 h2
 .cases h1
def LL.drop{E:Env}{cs:List C}{ys:List Value}(h:LL E cs ys)(n:Nat):LL E (cs.drop n) (ys.drop n):=by
 refine⟨by simp[h.1],?_⟩;intro i c y h1 h2;rw[rb]at h1 h2;exact h.2 _ c y h1 h2
def LL.set{E:Env}{cs:List C}{ys:List Value}(h:LL E cs ys){c:C}{y:Value}(hl:L E c y)(i:Nat):LL E (cs.set i c) (ys.set i y):=by
 refine⟨by simp[h.1],?_⟩;intro j c' y' h1 h2;rw[gJ]at h1 h2;by_cases hij:i=j
 .subst hij;rw[gz V]at h1 h2;split at h1
  .split at h2
   .cases h1;cases h2;exact hl
   .cases h2
  .cases h1
 .rw[gp hij]at h1 h2;exact h.2 j c' y' h1 h2
def C.cells:C->List C
 |.agg cs=>cs
 |c=>[c]
def L.cells{E:Env}{c:C}{y:Value}(h:L E c y)(hj:c≠.za)(hu:c≠.un):LL E c.cells y.cells.toList:=by
 have one:∀(c:C) (y:Value),L E c y->c.cells=[c]->y.cells= #[y]->LL E c.cells y.cells.toList:=λc y h e1 e2=>by
  rw[e1,e2];exact LL.cons h LL.nil
 cases h with
 |v x hx=>exact one _ _ (.v _ hx) V (by cases y <;> simp_all[Value.cells,Value.oneCell'])
 |agg cs ys h1 h2 h3=>exact⟨by simpa [C.cells,Value.cells] using h1,λi c y e1 e2=>h2 i c y e1 (by simpa [Value.cells] using e2)⟩
 |un=>exact absurd V hu
 |za=>exact absurd V hj
 |fJ cs ys h1 h2=>exact one _ _ (.fJ cs ys h1 h2) V V
 |fF o sz rows b off cap us ho hc hsz hst hL=>exact one _ _ (.fF o sz rows b off cap us ho hc hsz hst hL) V V
 |xE o sz ho a=>exact one _ _ (.xE o sz ho a) V V
 |jy cells b off us hst hL=>exact one _ _ (.jy cells b off us hst hL) V V
 |ref id hops sz i k hn=>exact one _ _ (.ref id hops sz i k hn) V V
 |sl id hops sz lo len full cap hn hlen hf hf'=>exact one _ _ (.sl id hops sz lo len full cap hn hlen hf hf') V V
 |fn f first caps ys zs h1 h2 h3 h4=>exact one _ _ (.fn f first caps ys zs h1 h2 h3 h4) rfl rfl
 |mp id hn=>exact one _ _ (.mp id hn) V V
 |gl id sz rows y hn hg h=>exact one _ _ (.gl id sz rows y hn hg h) V (by cases h <;> rfl)
 |iF t c y h=>exact one _ _ (.iF t c y h) V V
def cellAt(rows:List (List C))(i k:Nat):Option C:=(rows[i]?).bind (·[k]?)
def kF:Nat->List (List C)->List ig->Option (Nat×List (List C))
 |sz,rows,[]=>some (sz,rows)
 |_,rows,(i,k)::hs=>match cellAt rows i k with
  |some (.fF 2 sz' rows')=>kF sz' rows' hs
  |_=>none
def qd(H:zn)(id:Nat)(hops:List ig):Option (Nat×List (List C)):=
 match H[id]? with
 |some ob=>if ob.kind=1\/ob.kind=2 then kF ob.sz ob.rows hops else none
 |none=>none
def jf(E:Env)(kd:Nat)(id:Nat)(hops:List ig)(i k:Nat)(c:C)(u:Value):Prop:=
 match c with
 |.fF 2 _ rows'=>u=.slice (some ⟨E.β id (hops++[(i,k)]),0,none⟩) rows'.length (E.κ id (hops++[(i,k)]))
 |c=>L (E.at kd) c u/\u.oneCell'=true
structure EH(w:World)(E:Env)(kd:Nat)(id:Nat)(hops:List ig)(sz:Nat)(rows:List (List C)):Prop where
 len:rows.length<=E.κ id hops
 row:∀r∈rows,r.length=sz
 fR:∃cur e,w.heap[E.β id hops]?=some (.cells cur e (0,0))/\cur.size=E.κ id hops*sz/\
  ∀i k c,cellAt rows i k=some c->∃u,cur[i*sz+k]?=some u/\jf E kd id hops i k c u
structure qn(w:World)(E:Env)(H:zn):Prop where
 n:E.n=H.length
 fR:∀id ob hops sz rows,H[id]?=some ob->qd H id hops=some (sz,rows)->EH w E ob.kind id hops sz rows
 inj:∀id hops id' hops' x y,qd H id hops=some x->qd H id' hops'=some y->E.β id hops=E.β id' hops'->id=id'/\hops=hops'
 qA:∀b o u,E.St b o=some u->w.cell? ⟨b,o,none⟩=some u/\u.oneCell'=true
 sep:∀id hops x o u,qd H id hops=some x->E.St (E.β id hops) o=some u->hops=[]/\∃ob,H[id]?=some ob/\o<ob.fz*ob.sz
 ty:∀id ob,H[id]?=some ob->ob.kind=2->∃cur,w.heap[E.β id []]?=some (.cells cur ob.ty (0,0))
 fz:∀(id:Nat) (ob:Ob),H[id]?=some ob->ob.fz<=ob.rows.length
structure S where
 tmps:List C
 H:zn
variable{s:S}
def jr(E:Env)(H:zn)(b:Nat):Prop:=∃id hops x,qd H id hops=some x/\E.β id hops=b
structure qL(w:World)(E:Env)(H:zn)(w':World)(E':Env)(H':zn):Prop where
 le:E.le E'
 Gh:∀(id k:Nat),id<E.n->E'.G id k=E.G id k
 os:w'.os=w.os
 tape:w'.tape=w.tape
 output:w'.output=w.output
 size:w.heap.size<=w'.heap.size
 frame:∀k,k<w.heap.size->¬jr E H k->w'.heap[k]?=w.heap[k]?
 jZ:∀b o u,E'.St b o=some u->E.St b o=some u\/w.heap.size<=b\/jr E H b
 own:∀b,jr E' H' b->w.heap.size<=b\/jr E H b
theorem qL.refl(w:World)(E:Env)(H:zn):qL w E H w E H:=
 ⟨Env.le.refl E,λ_ _ _=>V,rfl,rfl,rfl,gG _,λ_ _ _=>V,λ_ _ _ h=>.inl h,λ_ h=>.inr h⟩
def qL.trans{w w1 w2:World}{E E1 E2:Env}{H H1 H2:zn}(g:qL w E H w1 E1 H1)(h:qL w1 E1 H1 w2 E2 H2):qL w E H w2 E2 H2 where
 le:=g.le.trans h.le
 Gh id k hi:=(h.Gh id k (pN hi g.le.n)).trans (g.Gh id k hi)
 os:=h.os.trans g.os
 tape:=h.tape.trans g.tape
 output:=h.output.trans g.output
 size:=pH g.size h.size
 frame k hk ho:=(h.frame k (pN hk g.size) λhc=>(g.own k hc).elim (λhs=>by omega) ho).trans (g.frame k hk ho)
 jZ b o u hu:=by
  rcases h.jZ b o u hu with h1|h1|h1
  .exact g.jZ b o u h1
  .exact .inr (.inl (pH g.size h1))
  .rcases g.own b h1 with h2|h2
   .exact .inr (.inl h2)
   .exact .inr (.inr h2)
 own b hb:=by
  rcases h.own b hb with h1|h1
  .exact .inl (pH g.size h1)
  .exact g.own b h1
def qP(E:Env)(H:zn)(id b:Nat):Prop:=∃ob cap,H[id]?=some ob/\ob.kind=4/\E.G id ob.rows.length=some (.slice (some ⟨b,0,none⟩) ob.rows.length cap)/\cap≠ob.rows.length
def jQ(H:zn)(id b:Nat):Prop:=∃ob o t,H[id]?=some ob/\ob.kind=4/\(ob.rows=[.rc o::t]/\ob.fz=1)/\ob.ty=b
def Em:Obj->Bool
 |.loop _=>true
 |.map ..=>true
 |.mapIter ..=>true
 |_=>false
def JN:Obj->List Value
 |.loop r=>r.tmps.toList
 |_=>[]
def m9(E:Env)(t:List C)(o:Obj):Prop:=LL E t (JN o)\/∃es k,o=.map es k/\LL E t (es.toList.map (·.val))
def m9.map{t:List C}{o:Obj}(h:m9 E t o)(hf:∀ys,LL E t ys->LL E' t ys):m9 E' t o:=h.imp (hf _) λ⟨es,k,e,hl⟩=>⟨es,k,e,hf _ hl⟩
def m9.mono{E E':Env}{t:List C}{o:Obj}(h:m9 E t o)(hle:E.le E'):m9 E' t o:=h.map λ_ hl=>hl.mono hle
def m9.loop{t:List C}{r:Loop}(h:m9 E t (.loop r)):LL E t r.tmps.toList:=h.elim id λ⟨_,_,e,_⟩=>by cases e
def qn.F6(h:qn w E H)(ho:jr E H b):∃cur e,w.heap[b]?=some (.cells cur e (0,0)):=by
 obtain⟨id,hops,x,hx,rfl⟩:=ho;have hx':=hx;unfold qd at hx';split at hx'
 .rename_i ob hob;obtain⟨cur,e,h1,_⟩:=(h.fR id ob hops x.1 x.2 hob hx).fR;exact⟨cur,e,h1⟩
 .cases hx'
structure nX(w:World)(E:Env)(H:zn):Prop where
 val:∀(id:Nat) (ob:Ob),H[id]?=some ob->ob.kind=4->∃a cap,E.G id ob.rows.length=some (.slice a ob.rows.length cap)/\(cap=ob.rows.length\/∃b,a=some ⟨b,0,none⟩/\ob.rows.length<=cap)
 fR:∀(id b:Nat) (ob:Ob),qP E H id b->H[id]?=some ob->∃cur cap,E.G id ob.rows.length=some (.slice (some ⟨b,0,none⟩) ob.rows.length cap)/\w.heap[b]?=some (.cells cur ob.ty (0,0))/\cur.size=cap*ob.sz
 sep:∀id b,qP E H id b->¬jr E H b
 inj:∀id id' b,qP E H id b->qP E H id' b->id=id'
 st:∀(id b:Nat) (ob:Ob) o u,qP E H id b->H[id]?=some ob->E.St b o=some u->o<ob.rows.length*ob.sz
 top:∀(id:Nat) (ob:Ob) (k:Nat) u,H[id]?=some ob->ob.kind=4->E.G id k=some u->k<=ob.rows.length
 iW:∀(id:Nat) (ob:Ob) (o:Obj) (t:List C),H[id]?=some ob->ob.kind=4->(ob.rows=[.rc o::t]/\ob.fz=1)->(w.heap[ob.ty]?=some o/\Em o=true)/\m9 E t o
 mb:∀id id' b,jQ H id b->jQ H id' b->id=id'
def jL(H H':zn):Prop:=∀(id:Nat) (ob:Ob),ob.kind=4->(H'[id]?=some ob↔H[id]?=some ob)
theorem jL.refl(H:zn):jL H H:=λ_ _ _=>Iff.rfl
structure qC(w:World)(E:Env)(H:zn):Prop where
 base:qn w E H
 fH:nX w E H
def qC.n{w:World}{E:Env}{H:zn}(h:qC w E H):E.n=H.length:=h.base.n
def xF(E:Env)(H:zn)(b:Nat):Prop:=jr E H b\/∃id,(qP E H id b\/jQ H id b)
structure Grow(w:World)(E:Env)(H:zn)(w':World)(E':Env)(H':zn):Prop where
 le:E.le E'
 os:w'.os=w.os
 tape:w'.tape=w.tape
 output:w'.output=w.output
 size:w.heap.size<=w'.heap.size
 frame:∀k,k<w.heap.size->¬xF E H k->w'.heap[k]?=w.heap[k]?
 jZ:∀b o u,E'.St b o=some u->E.St b o=some u\/w.heap.size<=b\/xF E H b
 own:∀b,xF E' H' b->w.heap.size<=b\/xF E H b
theorem Grow.refl(w:World)(E:Env)(H:zn):Grow w E H w E H:=
 ⟨Env.le.refl E,rfl,rfl,rfl,gG _,λ_ _ _=>V,λ_ _ _ h=>.inl h,λ_ h=>.inr h⟩
def Grow.trans{w w1 w2:World}{E E1 E2:Env}{H H1 H2:zn}(g:Grow w E H w1 E1 H1)(h:Grow w1 E1 H1 w2 E2 H2):Grow w E H w2 E2 H2 where
 le:=g.le.trans h.le
 os:=h.os.trans g.os
 tape:=h.tape.trans g.tape
 output:=h.output.trans g.output
 size:=pH g.size h.size
 frame k hk ho:=(h.frame k (pN hk g.size) λhc=>(g.own k hc).elim (λhs=>by omega) ho).trans (g.frame k hk ho)
 jZ b o u hu:=by
  rcases h.jZ b o u hu with h1|h1|h1
  .exact g.jZ b o u h1
  .exact .inr (.inl (pH g.size h1))
  .rcases g.own b h1 with h2|h2
   .exact .inr (.inl h2)
   .exact .inr (.inr h2)
 own b hb:=by
  rcases h.own b hb with h1|h1
  .exact .inl (pH g.size h1)
  .exact g.own b h1
def qP.back(hg:nX w E H)(hn:E.n=H.length)(hle:E.le E')(hk:jL H H'){id:Nat}(h:qP E' H' id b):qP E H id b:=by
 obtain⟨ob,cap,h1,h2,h3,h4⟩:=h;have h1':=(hk id ob h2).1 h1;obtain⟨a,cap',e1,_⟩:=hg.val id ob h1' h2;have e2:=hle.G id ob.rows.length _ (by rw[hn];exact(gh.1 h1').1) e1;rw[h3]at e2;cases e2
 exact⟨ob,cap,h1',h2,e1,h4⟩
def jQ.back(hk:jL H H'){id:Nat}(h:jQ H' id b):jQ H id b:=by
 obtain⟨ob,r,t,h1,h2,h3⟩:=h;exact⟨ob,r,t,(hk id ob h2).1 h1,h2,h3⟩
def nX.step(h:qC w E H)(g:qL w E H w' E' H')(hk:jL H H'):nX w' E' H' where
 val id ob hob hkd:=by
  have hob':=(hk id ob hkd).1 hob;obtain⟨a,cap,e1,e2⟩:=h.fH.val id ob hob' hkd;exact⟨a,cap,g.le.G id ob.rows.length _ (by rw[h.n];exact(gh.1 hob').1) e1,e2⟩
 fR id b ob ho hob:=by
  have ho':=ho.back h.fH h.n g.le hk;obtain⟨ob2,_,e1,e2,_⟩:=ho;rw[hob]at e1;cases e1
  have hob':=(hk id ob e2).1 hob;obtain⟨cur,cap,e3,e4,e5⟩:=h.fH.fR id b ob ho' hob';refine⟨cur,cap,g.le.G id ob.rows.length _ (by rw[h.n];exact(gh.1 hob').1) e3,?_,e5⟩;rw[g.frame b (gM.1 e4).1 (h.fH.sep id b ho')];exact e4
 sep id b ho:=by
  have ho':=ho.back h.fH h.n g.le hk;intro hc;rcases g.own b hc with h1|h1
  .obtain⟨ob,_,e1,_⟩:=ho';obtain⟨cur,cap,e3,e4,e5⟩:=h.fH.fR id b ob (ho.back h.fH h.n g.le hk) e1;have:=(gM.1 e4).1;omega
  .exact h.fH.sep id b ho' h1
 inj id id' b h1 h2:=h.fH.inj id id' b (h1.back h.fH h.n g.le hk) (h2.back h.fH h.n g.le hk)
 st id b ob o u ho hob hu:=by
  have ho':=ho.back h.fH h.n g.le hk;obtain⟨ob2,_,e1,e2,_⟩:=ho;rw[hob]at e1;cases e1
  have hob':=(hk id ob e2).1 hob;rcases g.jZ b o u hu with h1|h1|h1
  .exact h.fH.st id b ob o u ho' hob' h1
  .obtain⟨cur,cap,e3,e4,e5⟩:=h.fH.fR id b ob ho' hob';have:=(gM.1 e4).1;omega
  .exact absurd h1 (h.fH.sep id b ho')
 top id ob k u hob hkd hu:=by
  have hob':=(hk id ob hkd).1 hob;rw[g.Gh id k (by rw[h.n];exact(gh.1 hob').1)]at hu;exact h.fH.top id ob k u hob' hkd hu
 iW id ob r t hob hkd hr:=by
  obtain⟨⟨h1,hf⟩,hl⟩:=h.fH.iW id ob r t ((hk id ob hkd).1 hob) hkd hr;refine⟨⟨?_,hf⟩,hl.mono g.le⟩;rw[g.frame ob.ty (gM.1 h1).1 λhc=>by obtain⟨cur,e,h2⟩:=h.base.F6 hc;rw[h1]at h2;cases h2;cases hf];exact h1
 mb id id' b h1 h2:=h.fH.mb id id' b (h1.back hk) (h2.back hk)
def qL.up(h:qC w E H)(g:qL w E H w' E' H')(hk:jL H H'):Grow w E H w' E' H' where
 le:=g.le
 os:=g.os
 tape:=g.tape
 output:=g.output
 size:=g.size
 frame k h1 h2:=g.frame k h1 λhc=>h2 (.inl hc)
 jZ b o u hu:=(g.jZ b o u hu).imp_right λh=>h.imp_right .inl
 own b hb:=by
  rcases hb with hb|⟨id,hb|hb⟩
  .exact(g.own b hb).imp_right .inl
  .exact .inr (.inr ⟨id,.inl (hb.back h.fH h.n g.le hk)⟩)
  .exact .inr (.inr ⟨id,.inr (hb.back hk)⟩)
abbrev C7(D:Nat):Deferred:={target:=.collected D,args:= #[]}
def Marks(m:Nat)(w:World):List Deferred->Prop
 |[]=>m<=w.heap.size
 |d::ds=>(∃D,d=C7 D/\m<=D/\w.heap[D]?=some (.deferred (some []))/\C7 D∉ds)/\Marks m w ds
def Marks.mono{m:Nat}{w w':World}(hsz:w.heap.size<=w'.heap.size):∀{ds:List Deferred},Marks m w ds->(∀D,C7 D∈ds->w.heap[D]?=some (.deferred (some []))->w'.heap[D]?=w.heap[D]?)->Marks m w' ds
 |[],h,_=>pH h hsz
 |d::ds,⟨⟨D,h1,h2,h3,h4⟩,ht⟩,hk=>⟨⟨D,h1,h2,(hk D (by rw[h1];exact pX ..) h3).trans h3,h4⟩,Marks.mono hsz ht λD' hm hd=>hk D' (pL _ hm) hd⟩
def Marks.le{m:Nat}{w:World}:∀{ds:List Deferred},Marks m w ds->m<=w.heap.size
 |[],h=>h
 |_::_,⟨_,h⟩=>Marks.le h
def qC.free{D:Nat}{ds:Option (List Deferred)}(h:qC w E H)(hd:w.heap[D]?=some (.deferred ds)):¬xF E H D:=by
 rintro(ho|⟨id,⟨ob,cap,hob,h4,hG,hne⟩|⟨ob,r,t,hob,h4,hr,rfl⟩⟩)
 .obtain⟨cur,e,h1⟩:=h.base.F6 ho;rw[hd]at h1;cases h1
 .obtain⟨cur,cap',_,h1,_⟩:=h.fH.fR id D ob ⟨ob,cap,hob,h4,hG,hne⟩ hob;rw[hd]at h1;cases h1
 .obtain⟨h1,hf⟩:=(h.fH.iW id ob r t hob h4 hr).1;rw[hd]at h1;cases h1
  cases hf
def Marks.grow{m:Nat}{ds:List Deferred}(h:Marks m w ds)(hh:qC w E H)(g:Grow w E H w' E' H'):Marks m w' ds:=
 Marks.mono g.size h λD _ hD=>g.frame D (gM.1 hD).1 (hh.free hD)
def qC.cells(hk:∀(k:Nat) (o:Obj),w.heap[k]?=some o->(∀ds,o≠.deferred ds)->w'.heap[k]?=w.heap[k]?)(h:qC w E H):qC w' E H where
 base:={
  n:=h.base.n
  fR:=λid ob hops sz rows e1 e2=>
   let b:=h.base.fR id ob hops sz rows e1 e2
   ⟨b.len,b.row,let ⟨cur,e,h1,h2⟩:=b.fR;⟨cur,e,(hk _ _ h1 (by simp)).trans h1,h2⟩⟩
  inj:=h.base.inj
  qA:=λb o u hu=>by
   obtain⟨h1,h2⟩:=h.base.qA b o u hu;refine⟨?_,h2⟩;unfold World.cell? at h1|-;split at h1
   .rename_i c t z hc;rw[hk _ _ hc (by simp),hc];exact h1
   .cases h1
  sep:=h.base.sep
  ty:=λid ob e1 e2=>let ⟨cur,h1⟩:=h.base.ty id ob e1 e2;⟨cur,(hk _ _ h1 (by simp)).trans h1⟩
  fz:=h.base.fz}
 fH:={
  val:=h.fH.val
  fR:=λid b ob e1 e2=>let ⟨cur,cap,h1,h2,h3⟩:=h.fH.fR id b ob e1 e2;⟨cur,cap,h1,(hk _ _ h2 (by simp)).trans h2,h3⟩
  sep:=h.fH.sep
  inj:=h.fH.inj
  st:=h.fH.st
  top:=h.fH.top
  iW:=λid ob r t e1 e2 e3=>let h1:=h.fH.iW id ob r t e1 e2 e3;⟨⟨(hk _ _ h1.1.1 (by intro ds e;have:=h1.1.2;rw[e]at this;cases this)).trans h1.1.1,h1.1.2⟩,h1.2⟩
  mb:=h.fH.mb}
structure yi(B m:Nat)(w:World)(E:Env)(s:S)(a:Act):Prop where
 heap:qC w E s.H
 tmps:LL E s.tmps a.tmps.toList
 defers:Marks m w a.defers
 base:B<=s.H.length
structure Env.AK(B:Nat)(E E':Env):Prop where
 β:∀id hops,id<B->E'.β id hops=E.β id hops
 κ:∀id hops,id<B->E'.κ id hops=E.κ id hops
 St:∀b o u,E.St b o=some u->E'.St b o=some u
 G:∀id k u,id<B->E.G id k=some u->E'.G id k=some u
theorem Env.AK.refl(B:Nat)(E:Env):E.AK B E:=⟨λ_ _ _=>V,λ_ _ _=>V,λ_ _ _ h=>h,λ_ _ _ _ h=>h⟩
def Env.AK.trans{B:Nat}{E E' E'':Env}(h:E.AK B E')(h':E'.AK B E''):E.AK B E'':=
 ⟨λid hops hi=>(h'.β id hops hi).trans (h.β id hops hi),λid hops hi=>(h'.κ id hops hi).trans (h.κ id hops hi),λb o u hu=>h'.St b o u (h.St b o u hu),λid k u hi hu=>h'.G id k u hi (h.G id k u hi hu)⟩
def Env.le.iX(h:E.le E')(hB:B<=E.n):E.AK B E':=
 ⟨λid hops hi=>h.β id hops (pN hi hB),λid hops hi=>h.κ id hops (pN hi hB),h.St,λid k u hi=>h.G id k u (pN hi hB)⟩
structure jS(B:Nat)(w:World)(E:Env)(H:zn)(w':World)(E':Env)(H':zn):Prop where
 le:E.AK B E'
 os:w'.os=w.os
 tape:w'.tape=w.tape
 output:w'.output=w.output
 size:w.heap.size<=w'.heap.size
 frame:∀k,k<w.heap.size->¬xF E H k->w'.heap[k]?=w.heap[k]?
 jZ:∀b o u,E'.St b o=some u->E.St b o=some u\/w.heap.size<=b\/xF E H b
 own:∀b,xF E' H' b->w.heap.size<=b\/xF E H b
def Grow.iX{B:Nat}{w w':World}{E E':Env}{H H':zn}(g:Grow w E H w' E' H')(hB:B<=E.n):jS B w E H w' E' H':=
 ⟨g.le.iX hB,g.os,g.tape,g.output,g.size,g.frame,g.jZ,g.own⟩
theorem jS.refl(B:Nat)(w:World)(E:Env)(H:zn):jS B w E H w E H:=
 ⟨Env.AK.refl B E,rfl,rfl,rfl,gG _,λ_ _ _=>V,λ_ _ _ h=>.inl h,λ_ h=>.inr h⟩
def jS.trans{B:Nat}{w w1 w2:World}{E E1 E2:Env}{H H1 H2:zn}(g:jS B w E H w1 E1 H1)(h:jS B w1 E1 H1 w2 E2 H2):jS B w E H w2 E2 H2 where
 le:=g.le.trans h.le
 os:=h.os.trans g.os
 tape:=h.tape.trans g.tape
 output:=h.output.trans g.output
 size:=pH g.size h.size
 frame k hk ho:=(h.frame k (pN hk g.size) λhc=>(g.own k hc).elim (λhs=>by omega) ho).trans (g.frame k hk ho)
 jZ b o u hu:=by
  rcases h.jZ b o u hu with h1|h1|h1
  .exact g.jZ b o u h1
  .exact .inr (.inl (pH g.size h1))
  .rcases g.own b h1 with h2|h2
   .exact .inr (.inl h2)
   .exact .inr (.inr h2)
 own b hb:=by
  rcases h.own b hb with h1|h1
  .exact .inl (pH g.size h1)
  .exact g.own b h1
def fw(q:Option Nat):Fence:={Fence.wide with round:=q}
def xW:Code->Bool
 |.seq a b=>xW a || xW b
 |.cond _ a b=>xW a || xW b
 |.block _ a=>xW a
 |.loop a=>xW a
 |.scope a=>xW a
 |.rangeFunc ..=>true
 |_=>false
def jb(P:Program)(B:Nat)(c:Code)(s:S)(R:Exit->S->Prop):Prop:=
 ∀(q:Option Nat) (m:Nat) (w:World) (E:Env) (a:Act) (Q:Exit->Act->World->Prop),(xW c=true->q=none)->yi B m w E s a->
  (∀ex s' w' E' a',R ex s'->yi B m w' E' s' a'->jS B w E s.H w' E' s'.H->Q ex a' w')->c.wpIn (fw q) 0 P Q a w
abbrev Run(P:Program)(B:Nat)(c:Code)(s:S)(ex:Exit)(s':S):Prop:=jb P B c s λe t=>e=ex/\t=s'
def mu(P:Program)(B:Nat)(c:Code)(n:Nat)(s:S)(R:Exit->S->Prop):Prop:=
 ∀(q:Option Nat) (m:Nat) (w:World) (E:Env) (a:Act) (Q:Exit->Act->World->Prop),(xW c=true->q=none)->yi B m w E s a->
  (∀ex s' w' E' a',R ex s'->yi B m w' E' s' a'->jS B w E s.H w' E' s'.H->Q ex a' w')->Code.roundsIn (fw q) 0 P c Q n a w
def vC(P:Program)(B:Nat)(ops:Array Oper)(l:List Oper)(s:S)(R:S->Prop):Prop:=
 ∀(q:Option Nat) (m:Nat) (w:World) (E:Env) (a:Act) (Q:Exit->Act->World->Prop),yi B m w E s a->
  (∀s' w' E' a',R s'->yi B m w' E' s' a'->jS B w E s.H w' E' s'.H->Q .normal a' w')->wpListIn (fw q) 0 P ops Q l a w
def Ax(P:Program)(B:Nat)(o:Oper)(s:S)(R:S->Prop):Prop:=
 ∀(q:Option Nat) (m:Nat) (w:World) (E:Env) (a:Act) (K:Act->World->Prop) (Q:Exit->Act->World->Prop),yi B m w E s a->
  (∀s' w' E' a',R s'->yi B m w' E' s' a'->jS B w E s.H w' E' s'.H->K a' w')->o.wpIn (fw q) 0 P a w K Q
def zp(B:Nat)(s s':S):Prop:=
 ∀(m:Nat) (w:World) (E:Env) (a:Act),yi B m w E s a->∃E',yi B m w E' s' a/\jS B w E s.H w E' s'.H
def Pc{F:Fence}{k:Nat}{P:Program}{c:Code}{Q:Exit->Act->World->Prop}:∀{n m:Nat},n<=m->∀{a:Act} {w:World},Code.roundsIn F k P c Q n a w->Code.roundsIn F k P c Q m a w
 |0,_,_,_,_,h=>(h:False).elim
 |n+1,0,hm,_,_,_=>absurd hm (Nat.not_succ_le_zero n)
 |n+1,m+1,hm,a,w,h=>by
  rw[roundsIn_succ]at h|-;refine wpIn_mono h λe a1 w1 h1=>?_
  cases e with
  |normal=>exact Pc (Nat.le_of_succ_le_succ hm) h1
  |_=>exact h1
section scopes
variable {F:Fence} {n:Nat} {P:Program} {b:Frame} {a:Act} {k:List Item} {cs:List Frame} {w:World} {Q:Exit->Act->World->Prop}
def ym{c:Code}:step P (lone (b.atR a (.code (.scope c)::k)) cs w)=.next (lone (b.atR a (.code c:: .inScope c::k)) cs w):=
 step_lone_go (by simp[stepG,stepG.exec,Frame.atR])
def Og{c:Code}:step P (lone (b.atR a (.inScope c::k)) cs w)=.next (lone (b.atR a k) cs w):=
 step_lone_go (by simp[stepG,stepG.exec,Frame.atR])
def VC{c:Code}(h:c.wpIn F n P (Exit.noGoto Q) a w):(Code.scope c).wpIn F n P Q a w:=by
 intro b k cs hro hb hr;have h0:(lone (b.atR a (.code (.scope c)::k)) cs w).fenced P F:=fenced_calm hb hr V;obtain⟨e,a₁,w₁,hq,harr⟩:=h b (.inScope c::k) cs hro hb hr;cases e with
 |normal=>exact⟨.normal,a₁,w₁,hq,.head h0 ym (StepsIn.trans harr (.one (fenced_calm hb hr V) Og))⟩
 |exit id=>
  have hx:exitTo id (.inScope c::k)=exitTo id k:=by simp[exitTo]
  exact⟨.exit id,a₁,w₁,hq,λk' hk=>.head h0 ym (harr.1 k' (by rw[hx];exact hk)),
   λhr' hk=>let ⟨k₁,h1,h2⟩:=harr.2 hr' (by rw[hx];exact hk);⟨k₁,h1,.head h0 ym h2⟩⟩
 |goto l=>exact hq.elim
 |ret=>exact⟨_,a₁,w₁,hq,.of_steps (.one h0 ym) harr⟩
 |panic ch=>exact⟨_,a₁,w₁,hq,.of_steps (.one h0 ym) harr⟩
 |outgrown=>exact⟨_,a₁,w₁,hq,.of_steps (.one h0 ym) harr⟩
inductive F3(F:Fence)(n:Nat)(P:Program)(c:Code)(Q:Exit->Act->World->Prop):Nat->Act->World->Prop
 |mk {l:Nat} {a:Act} {w:World} {rest:Code} (Q':Exit->Act->World->Prop):findLabel c l=some rest->rest.wpIn F n P Q' a w->(∀e a w,Q' e a w->(∀l,e≠.goto l)->Q e a w)->
   (∀l a w,Q' (.goto l) a w->F3 F n P c Q l a w)->F3 F n P c Q l a w
def Oe{c:Code}{m:Machine}{e:Exit}(hb:F.fn b.fn)(hr:F.room (cs.length+1+n))(he:∀l,e≠.goto l)(h:ArrivesIn (Machine.fenced P F) P m b (.inScope c::k) cs e a w):ArrivesIn (Machine.fenced P F) P m b k cs e a w:=by
 cases e with
 |normal=>exact StepsIn.trans h (.one (fenced_calm hb hr V) Og)
 |exit id=>
  have hx:exitTo id (.inScope c::k)=exitTo id k:=by simp[exitTo]
  exact⟨λk' hk=>h.1 k' (by rw[hx];exact hk),λhr' hk=>h.2 hr' (by rw[hx];exact hk)⟩
 |goto l=>exact absurd V (he l)
 |ret=>exact h
 |panic ch=>exact h
 |outgrown=>exact h
def VH{c:Code}{Q':Exit->Act->World->Prop}(h:c.wpIn F n P Q' a w)(hQ:∀e a w,Q' e a w->(∀l,e≠.goto l)->Q e a w)(hJ:∀l a w,Q' (.goto l) a w->F3 F n P c Q l a w):(Code.scope c).wpIn F n P Q a w:=by
 intro b k cs hro hb hr;have h0:(lone (b.atR a (.code (.scope c)::k)) cs w).fenced P F:=fenced_calm hb hr V
 have key:∀l a w,F3 F n P c Q l a w->∀rest,findLabel c l=some rest->∃e a' w',Q e a' w'/\ArrivesIn (Machine.fenced P F) P (lone (b.atR a (.code rest:: .inScope c::k)) cs w) b k cs e a' w':=by
  intro l a w hj
  induction hj with
  |mk Q1 hf h1 h2 h3 ih=>
   intro rest hf';rw[hf]at hf';cases hf'
   obtain⟨e,a₁,w₁,hq,harr⟩:=h1 b (.inScope c::k) cs hro hb hr;by_cases he:∀l,e≠.goto l
   .exact⟨e,a₁,w₁,h2 _ _ _ hq he,Oe hb hr he harr⟩
   .obtain⟨l',rfl⟩:∃l',e=.goto l':=by
     cases e with
     |goto l'=>exact⟨l',rfl⟩
     |_=>exact absurd (by simp) he
    have hj:=h3 _ _ _ hq;cases hj with
    |mk Q2 hf2 _ _ _=>
     obtain⟨e₂,a₂,w₂,hq₂,harr₂⟩:=ih _ _ _ hq _ hf2;exact⟨e₂,a₂,w₂,hq₂,.of_steps (harr.1 _ (by simp[gotoIn,hf2])) harr₂⟩
 obtain⟨e,a₁,w₁,hq,harr⟩:=h b (.inScope c::k) cs hro hb hr;by_cases he:∀l,e≠.goto l
 .exact⟨e,a₁,w₁,hQ _ _ _ hq he,.of_steps (.one h0 ym) (Oe hb hr he harr)⟩
 .obtain⟨l',rfl⟩:∃l',e=.goto l':=by
   cases e with
   |goto l'=>exact⟨l',rfl⟩
   |_=>exact absurd (by simp) he
  have hj:=hJ _ _ _ hq;have hj':=hj;cases hj' with
  |mk Q2 hf2 _ _ _=>
   obtain⟨e₂,a₂,w₂,hq₂,harr₂⟩:=key _ _ _ hj _ hf2;exact⟨e₂,a₂,w₂,hq₂,.of_steps (.head h0 ym (harr.1 _ (by simp[gotoIn,hf2]))) harr₂⟩
end scopes
section
variable {P:Program} {B:Nat} {s s1 s2 s':S} {ex:Exit}
theorem zp.refl(s:S):zp B s s:=λm w E a h=>⟨E,h,jS.refl B w E s.H⟩
def zp.trans(h:zp B s s1)(h':zp B s1 s2):zp B s s2:=λm w E a hs=>by
 obtain⟨E1,h1,g1⟩:=h m w E a hs;obtain⟨E2,h2,g2⟩:=h' m w E1 a h1;exact⟨E2,h2,g1.trans g2⟩
variable {R R':Exit->S->Prop}
def jb.pre{c:Code}(hw:zp B s s1)(h:jb P B c s1 R):jb P B c s R:=λq m w E a Q hr hs hq=>by
 obtain⟨E1,h1,g1⟩:=hw m w E a hs;exact h q m w E1 a Q hr h1 λex s' w' E' a' hR h2 g2=>hq ex s' w' E' a' hR h2 (g1.trans g2)
def jb.post{c:Code}(h:jb P B c s R')(hw:∀ex s1,R' ex s1->∃s2,zp B s1 s2/\R ex s2):jb P B c s R:=λq m w E a Q hr hs hq=>
 h q m w E a Q hr hs λex s1 w' E' a' hR h1 g1=>by
  obtain⟨s2,hw2,hR2⟩:=hw ex s1 hR;obtain⟨E2,h2,g2⟩:=hw2 m w' E' a' h1;exact hq ex s2 w' E2 a' hR2 h2 (g1.trans g2)
def jb.mono{c:Code}(h:jb P B c s R')(hw:∀ex s1,R' ex s1->R ex s1):jb P B c s R:=h.post λex s1 hR=>⟨s1,.refl s1,hw ex s1 hR⟩
def mu.pre{c:Code}{n:Nat}(hw:zp B s s1)(h:mu P B c n s1 R):mu P B c n s R:=λq m w E a Q hr hs hq=>by
 obtain⟨E1,h1,g1⟩:=hw m w E a hs;exact h q m w E1 a Q hr h1 λex s' w' E' a' hR h2 g2=>hq ex s' w' E' a' hR h2 (g1.trans g2)
def jb.skip(h:R .normal s):jb P B .skip s R:=λq m w E a Q hr hs hq=>wpIn_skip (hq _ _ w E a h hs (jS.refl B w E s.H))
def jb.exit(id:Nat)(h:R (.exit id) s):jb P B (.exit id) s R:=λq m w E a Q hr hs hq=>wpIn_exit (hq _ _ w E a h hs (jS.refl B w E s.H))
def jb.label(l:Nat)(h:R .normal s):jb P B (.label l) s R:=λq m w E a Q hr hs hq=>wpIn_label (hq _ _ w E a h hs (jS.refl B w E s.H))
def jb.ret(h:R .ret s):jb P B .ret s R:=λq m w E a Q hr hs hq=>wpIn_ret (hq _ _ w E a h hs (jS.refl B w E s.H))
def NK(next:S->Prop)(R:Exit->S->Prop):Exit->S->Prop
 |.normal,s=>next s
 |ex,s=>R ex s
def jb.seq{x y:Code}(h:jb P B x s (NK (λs1=>jb P B y s1 R) R)):jb P B (.seq x y) s R:=λq m w E a Q hr hs hq=>
 wpIn_seq (h q m w E a _ (λe=>hr (by simp[xW,e])) hs λex s1 w1 E1 a1 hR h1 g1=>by
  cases ex with
  |normal=>exact(hR:jb P B y s1 R) q m w1 E1 a1 Q (λe=>hr (by simp[xW,e])) h1 λex s2 w2 E2 a2 hR2 h2 g2=>hq ex s2 w2 E2 a2 hR2 h2 (g1.trans g2)
  |_=>exact hq _ s1 w1 E1 a1 hR h1 g1)
def SB(id:Nat)(R:Exit->S->Prop):Exit->S->Prop
 |.exit id',s=>if id'=id then R .normal s else R (.exit id') s
 |ex,s=>R ex s
def jb.block{id:Nat}{c:Code}(h:jb P B c s (SB id R)):jb P B (.block id c) s R:=λq m w E a Q hr hs hq=>
 wpIn_block (h q m w E a _ hr hs λex s1 w1 E1 a1 hR h1 g1=>by
  cases ex with
  |exit id'=>
   simp only[Exit.inBlock,SB] at *;split
   .rename_i hi;rw[gz hi]at hR;exact hq _ s1 w1 E1 a1 hR h1 g1
   .rename_i hi;rw[gp hi]at hR;exact hq _ s1 w1 E1 a1 hR h1 g1
  |_=>exact hq _ s1 w1 E1 a1 hR h1 g1)
def T7(R:Exit->S->Prop):Exit->S->Prop
 |.goto _,_=>False
 |ex,s=>R ex s
def jb.scope{c:Code}(h:jb P B c s (T7 R)):jb P B (.scope c) s R:=λq m w E a Q hr hs hq=>
 VC (h q m w E a _ hr hs λex s1 w1 E1 a1 hR h1 g1=>by
  cases ex with
  |goto l=>exact(hR:False).elim
  |_=>exact hq _ s1 w1 E1 a1 hR h1 g1)
def jb.goto(l:Nat)(h:R (.goto l) s):jb P B (.goto l) s R:=λq m w E a Q hr hs hq=>wpIn_goto (hq _ _ w E a h hs (jS.refl B w E s.H))
def VS:∀{c:Code} {l:Nat} {rest:Code},findLabel c l=some rest->xW rest=true->xW c=true:=by
 intro c
 induction c with
 |seq x y ihx ihy=>
  intro l rest h hr;simp only[findLabel]at h;split at h
  .rename_i r hx;cases h
   simp only[xW,rD]at hr|-;exact hr.imp (ihx hx) id
  .simp only[xW,rD];exact .inr (ihy h hr)
 |label l'=>
  intro l rest h hr;simp only[findLabel]at h;split at h
  .cases h;cases hr
  .cases h
 |_=>intro l rest h;simp[findLabel]at h
inductive Dr(P:Program)(B:Nat)(c:Code)(R:Exit->S->Prop):Nat->S->Prop
 |mk {l:Nat} {s:S} {rest:Code} (R':Exit->S->Prop):findLabel c l=some rest->jb P B rest s R'->(∀e s,R' e s->(∀l,e≠.goto l)->R e s)->(∀l s,R' (.goto l) s->Dr P B c R l s)->Dr P B c R l s
def Dr.Vu{c:Code}{l:Nat}(h:Dr P B c R l s):∀(q:Option Nat) (m:Nat) (w:World) (E:Env) (a:Act) (Q:Exit->Act->World->Prop),(xW c=true->q=none)->yi B m w E s a->
  (∀ex s' w' E' a',R ex s'->yi B m w' E' s' a'->jS B w E s.H w' E' s'.H->Q ex a' w')->F3 (fw q) 0 P c Q l a w:=by
 induction h with
 | @mk l s rest R1 hf h1 h2 h3 ih=>
  intro q m w E a Q hr hs hq
  refine .mk (λe a' w'=>∃s' E',R1 e s'/\yi B m w' E' s' a'/\jS B w E s.H w' E' s'.H) hf (h1 q m w E a _ (λe=>hr (VS hf e)) hs λex s' w' E' a' hR h g=>⟨s',E',hR,h,g⟩)
   (λe a' w' ⟨s',E',hR,h,g⟩ he=>hq _ _ _ _ _ (h2 _ _ hR he) h g) (λl' a' w' ⟨s',E',hR,h,g⟩=>?_)
  exact ih _ _ hR q m w' E' a' Q hr h λex s2 w2 E2 a2 hR2 hs2 g2=>hq ex s2 w2 E2 a2 hR2 hs2 (g.trans g2)
def Tu(P:Program)(B:Nat)(c:Code)(R:Exit->S->Prop):Exit->S->Prop
 |.goto l,s=>Dr P B c R l s
 |ex,s=>R ex s
def jb.T5{c:Code}(h:jb P B c s (Tu P B c R)):jb P B (.scope c) s R:=λq m w E a Q hr hs hq=>
 VH (Q':=λe a' w'=>∃s' E',Tu P B c R e s'/\yi B m w' E' s' a'/\jS B w E s.H w' E' s'.H) (h q m w E a _ hr hs λex s' w' E' a' hR h g=>⟨s',E',hR,h,g⟩)
  (λe a' w' ⟨s',E',hR,h,g⟩ he=>by
   cases e with
   |goto l=>exact absurd V (he l)
   |_=>exact hq _ _ _ _ _ hR h g)
  (λl a' w' ⟨s',E',hR,h,g⟩=>Dr.Vu hR q m w' E' a' Q hr h λex s2 w2 E2 a2 hR2 hs2 g2=>hq ex s2 w2 E2 a2 hR2 hs2 (g.trans g2))
def mu.step{c:Code}{n:Nat}(h:jb P B c s (NK (λs1=>mu P B c n s1 R) R)):mu P B c (n+1) s R:=λq m w E a Q hr hs hq=>by
 rw[roundsIn_succ]
 exact h q m w E a _ hr hs λex s1 w1 E1 a1 hR h1 g1=>by
  cases ex with
  |normal=>exact(hR:mu P B c n s1 R) q m w1 E1 a1 Q hr h1 λex s2 w2 E2 a2 hR2 h2 g2=>hq ex s2 w2 E2 a2 hR2 h2 (g1.trans g2)
  |_=>exact hq _ s1 w1 E1 a1 hR h1 g1
def mu.more{c:Code}{n m:Nat}(hm:n<=m)(h:mu P B c n s R):mu P B c m s R:=λq k w E a Q hr hs hq=>Pc hm (h q k w E a Q hr hs hq)
def qg(P:Program)(B:Nat)(c:Code)(s:S)(R:Exit->S->Prop):Prop:=∃n,mu P B c n s R
def qg.pre{c:Code}(hw:zp B s s1)(h:qg P B c s1 R):qg P B c s R:=let ⟨n,hn⟩:=h;⟨n,.pre hw hn⟩
def jb.loop{c:Code}(h:qg P B c s R):jb P B (.loop c) s R:=λq m w E a Q hr hs hq=>let ⟨n,hn⟩:=h;wpIn_loop_rounds n (hn q m w E a Q hr hs hq)
def iH:Value->C
 |.slice none 0 0=>.fF 1 0 []
 |.func (.func f) first caps=>if first.size=0/\caps.size=0 then .fn f [] [] else .za
 |.tuple vs=>if vs.size=0 then .un else .za
 |.agg _=>.za
 |x=>.v x
def Ty(E:Env)(x:Value):L E (iH x) x:=by
 unfold iH;split
 .exact .xE _ _ (.inr V)
 .rename_i f first caps;split
  .rename_i h;obtain⟨h1,h2⟩:=h;obtain rfl:first= #[]:=rL h1;obtain rfl:caps= #[]:=rL h2;exact .fn f [] [] #[] #[] V V (by simp) (by simp)
  .exact .za _
 .rename_i vs;split
  .rename_i h;obtain rfl:vs= #[]:=rL h;exact .un
  .exact .za _
 .exact .za _
 .rename_i h1 h2;refine .v _ ?_;cases x <;> simp_all[Value.oneCell']
def ev(tmps:List C):Operand->C
 |.tmp t=>(tmps[t]?).getD .za
 |.const v=>iH v
 |.global g=>.v (.pointer (some ⟨g,0,none⟩))
 |.func f=>.fn f [] []
def Gz{tmps:List C}(h:LL E tmps a.tmps.toList)(x:Operand):L E (ev tmps x) (a.eval x):=by
 cases x with
 |tmp t=>
  simp only[ev,Act.eval];cases ht:tmps[t]? with
  |none=>exact .za _
  |some c=>
   obtain⟨y,hy,hl⟩:=h.get ht
   have:a.tmps.getD t undef=y:=by
    rw[pD]at hy;rw[pO,hy];rfl
   rw[this];exact hl
 |const v=>exact Ty E v
 |global g=>exact .v _ V
 |func f=>exact .fn f [] [] #[] #[] V V (by simp) (by simp)
def Ey(ops:Array Oper)(tmps:List C)(j:Nat):Option (Option Bool):=
 match (ops[j]?).bind (·.dst) with
 |none=>some none
 |some d=>match tmps[d]? with
  |none=>some none
  |some (.v (.bool b))=>some (some b)
  |some .un=>some none
  |_=>none
def Qr{tmps:List C}(h:LL E tmps a.tmps.toList){j:Nat}{r:Option Bool}(hr:Ey ops tmps j=some r):yielded ops a.tmps j=r:=by
 unfold Ey at hr;unfold yielded;cases hd:(ops[j]?).bind (·.dst) with
 |none=>simp only[hd]at hr;cases hr;rfl
 |some d=>
  simp only[hd,gW]at hr|-;cases ht:tmps[d]? with
  |none=>
   simp only[ht]at hr;cases hr
   have hn:a.tmps[d]?=none:=by
    rw[Array.getElem?_eq_none_iff];have:=pW.1 ht;have h1:=h.1;simp at h1;omega
   rw[hn]
  |some c=>
   simp only[ht]at hr;obtain⟨y,hy,hl⟩:=h.get ht;rw[pD]at hy;rw[hy];split at hr
   .rename_i e;cases e
   .rename_i e;cases e;cases hr;cases hl;rfl
   .rename_i e;cases e;cases hr;cases hl;rfl
   .cases hr
def jt(ops:Array Oper)(tmps:List C)(o:Oper):Option Bool:=
 match o.guard with
 |none=>some true
 |some (j,want)=>match Ey ops tmps j with
  |some (some b)=>some (b == want)
  |some none=>some false
  |none=>none
def j6{tmps:List C}(h:LL E tmps a.tmps.toList){b:Bool}(hb:jt ops tmps o=some b):
  Region.wanted o (yielded ops a.tmps)=b:=by
 unfold jt at hb;unfold Region.wanted;split at hb
 .rename_i hg;simp only[hg];cases hb;rfl
 .rename_i j want hg;simp only[hg];split at hb
  .rename_i x hx;rw[Qr h hx];cases hb;cases x <;> cases want <;> rfl
  .rename_i hx;rw[Qr h hx];cases hb;rfl
  .cases hb
def put(tmps:List C)(dst:Option Tmp)(c:C):List C:=
 match dst with
 |some d=>tmps.set d c
 |none=>tmps
def IA{tmps:List C}(h:LL E tmps a.tmps.toList)(hl:L E c y)(dst:Option Tmp):LL E (put tmps dst c) (a.put dst y).tmps.toList:=by
 cases dst with
 |none=>exact h
 |some d=>simpa [put,Act.put] using h.set hl d
def yi.put{m:Nat}{w:World}{E:Env}{s:S}{a:Act}(h:yi B m w E s a){c:C}{y:Value}(hl:L E c y)(dst:Option Tmp):
  yi B m w E ⟨Ab.put s.tmps dst c,s.H⟩ (a.put dst y):=
 ⟨h.heap,IA h.tmps hl dst,by cases dst <;> exact h.defers,h.base⟩
def vC.nil{R:S->Prop}(h:R s):vC P B ops [] s R:=λq m w E a Q hs hq=>wpListIn_nil (hq s w E a h hs (jS.refl B w E s.H))
def vC.run{R1 R:S->Prop}(hw:jt ops s.tmps o=some true)(h:Ax P B o s R1)(h':∀s1,R1 s1->vC P B ops l s1 R):vC P B ops (o::l) s R:=λq m w E a Q hs hq=>by
 unfold wpListIn;rw[gz (j6 hs.tmps hw)];exact h q m w E a _ Q hs λs1 w1 E1 a1 hR h1 g1=>h' s1 hR q m w1 E1 a1 Q h1 λs2 w2 E2 a2 hR2 h2 g2=>hq s2 w2 E2 a2 hR2 h2 (g1.trans g2)
def vC.pass{R:S->Prop}(hw:jt ops s.tmps o=some false)(h':vC P B ops l ⟨put s.tmps o.dst .un,s.H⟩ R):vC P B ops (o::l) s R:=λq m w E a Q hs hq=>by
 unfold wpListIn;rw[gp (by rw[j6 hs.tmps hw];decide)];exact⟨λ_ _=>trivial,h' q m w E _ Q (hs.put (.un) o.dst) hq⟩
def jb.region{id:Nat}{ops:Array Oper}{R:Exit->S->Prop}(h:vC P B ops ops.toList s (R .normal)):jb P B (.region id ops false) s R:=λq m w E a Q hs0 hs hq=>
 wpIn_region_list (h q m w E a Q hs λs' w' E' a' hR h1 g1=>hq _ s' w' E' a' hR h1 g1)
def jb.cond{c:Operand}{x y:Code}{b:Bool}{R:Exit->S->Prop}(hc:ev s.tmps c=.v (.bool b))(h:jb P B (if b then x else y) s R):jb P B (.cond c x y) s R:=λq m w E a Q hr hs hq=>by
 have:=Gz hs.tmps c;rw[hc]at this;have hb:a.eval c=.bool b:=by generalize a.eval c=z at *;cases this;rfl
 exact wpIn_cond hb (h q m w E a Q (λe=>hr (by cases b <;> simp_all[xW])) hs hq)
end
def oQ(P:Program)(K:Value->World->Prop):Result Next->Prop
 |.ok (.value v) w=>K v w
 |.ok .skip w=>K undef w
 |.ok (.enter f args) w=>Calls P f args w λe w'=>∃v,e=.returned v/\K v w'
 |.ok (.round l f tmps assign body) w=>RoundIn (fw none) 0 P l f tmps assign body w λe w'=>∃v,e=.returned v/\K v w'
 |_=>False
def fO(P:Program)(o:Oper)(ρ:Operand->C)(H:zn)(c:C)(H':zn):Prop:=
 ∀(w:World) (E:Env) (σ:Operand->Value),qC w E H->(∀x∈o.op.operands,L E (ρ x) (σ x))->
  ∀K:Value->World->Prop,(∀v w' E',qC w' E' H'->L E' c v->Grow w E H w' E' H'->K v w')->oQ P K ((execOp σ o).run P w)
def qU(P:Program)(o:Oper)(ρ:Operand->C)(H:zn)(c:C)(H':zn):Prop:=
 ∀(w:World) (E:Env) (σ:Operand->Value),qn w E H->(∀x∈o.op.operands,L E (ρ x) (σ x))->
  ∀K:Value->World->Prop,(∀v w' E',qn w' E' H'->L E' c v->qL w E H w' E' H'->K v w')->oQ P K ((execOp σ o).run P w)
def oH(P:Program)(o:Oper)(ρ:Operand->C)(H:zn)(c:C)(H':zn):Prop:=
 ∀(w:World) (E:Env) (σ:Operand->Value),qC w E H->(∀x∈o.op.operands,L E (ρ x) (σ x))->(∀v,σ (.const v)=v)->
  ∀K:Value->World->Prop,(∀v w' E',qC w' E' H'->L E' c v->Grow w E H w' E' H'->K v w')->oQ P K ((execOp σ o).run P w)
def jK(P:Program)(o:Oper)(ρ:Operand->C)(H:zn)(R:C->zn->Prop):Prop:=
 ∀(w:World) (E:Env) (σ:Operand->Value),qC w E H->(∀x∈o.op.operands,L E (ρ x) (σ x))->(∀v,σ (.const v)=v)->
  ∀K:Value->World->Prop,(∀c H' v w' E',R c H'->qC w' E' H'->L E' c v->Grow w E H w' E' H'->K v w')->oQ P K ((execOp σ o).run P w)
def oH.lh(h:oH P o ρ H c H')(hR:R c H'):jK P o ρ H R:=λw E σ hh hl hc K hk=>h w E σ hh hl hc K λv w' E'=>hk c H' v w' E' hR
def fO.lh(h:fO P o ρ H c H')(hR:R c H'):jK P o ρ H R:=λw E σ hh hl _ K hk=>h w E σ hh hl K λv w' E'=>hk c H' v w' E' hR
def Ax.Dh(h:jK P o (ev s.tmps) s.H R):Ax P B o s (λs'=>∃c H',R c H'/\s'=⟨put s.tmps o.dst c,H'⟩):=λq m w E a K Q hs hk=>by
 have:=h w E a.eval hs.heap (λx _=>Gz hs.tmps x) (λ_=>V) (λv w'=>K (a.put o.dst v) w') λc H' v w' E' hR h1 h2 g=>
  hk _ w' E' _ ⟨c,H',hR,rfl⟩ ⟨h1,IA (hs.tmps.mono g.le) h2 o.dst,by have:=hs.defers.grow hs.heap g;cases o.dst <;> exact this,by have:=g.le.n;rw[hs.heap.n,h1.n]at this;exact pH hs.base this⟩ (g.iX (by rw[hs.heap.n];exact hs.base))
 have iL:∀d,o.op≠.defer d:=λd hd=>by
  have h2:=this;unfold execOp at h2;simp only[hd,Sem.run_bind]at h2;cases hr:(resolve a.eval d o.type).run P w with
  |ok x w1=>simp[hr,Result.andThen,oQ]at h2
  |halt x w1=>simp[hr,Result.andThen,oQ]at h2
 unfold Oper.wpIn;refine⟨λ_ _=>trivial,?_⟩;rw[Oper.semAt_eq _ _ _ iL];generalize (execOp a.eval o).run P w=r at this|-;unfold oQ at this;split at this
 .exact this
 .exact this
 .rw[Oper.uponIn_enter];refine⟨λh=>(by cases h),callsIn_wide.2 (Calls.mono this ?_)⟩;rintro e w' ⟨v,rfl,hv⟩;exact hv
 .rw[Oper.uponIn_round];refine⟨λh=>(by cases h),RoundIn.mono (F:=fw q) this ?_⟩;rintro e w' ⟨v,rfl,hv⟩;exact hv
 .exact this.elim
def Ax.Iy(h:fO P o (ev s.tmps) s.H c H')(q:Option Nat)(m:Nat)(w:World)(E:Env)(a:Act)(K:Act->World->Prop)(Q:Exit->Act->World->Prop)(hs:yi B m w E s a)
 (hq:∀w' E' a',yi B m w' E' ⟨put s.tmps o.dst c,H'⟩ a'->jS B w E s.H w' E' H'->K a' w'):o.wpIn (fw q) 0 P a w K Q:=
 Ax.Dh (B:=B) (h.lh (R:=λx X=>x=c/\X=H') ⟨rfl,rfl⟩) q m w E a K Q hs λs' w' E' a' ⟨x,X,⟨e1,e2⟩,e3⟩ h1 g1=>by subst e1 e2 e3;exact hq w' E' a' h1 g1
def fO.congr{ρ':Operand->C}(h:fO P o ρ H c H')(he:∀x∈o.op.operands,ρ' x=ρ x):fO P o ρ' H c H':=
 λw E σ hh hl K hk=>h w E σ hh (λx hx=>he x hx ▸ hl x hx) K hk
def qU.congr{ρ':Operand->C}(h:qU P o ρ H c H')(he:∀x∈o.op.operands,ρ' x=ρ x):qU P o ρ' H c H':=
 λw E σ hh hl K hk=>h w E σ hh (λx hx=>he x hx ▸ hl x hx) K hk
def fO.Bp(h:qU P o ρ H c H')(hk:jL H H'):fO P o ρ H c H':=λw E σ hh hl K hK=>
 h w E σ hh.base hl K λv w' E' h1 h2 g=>hK v w' E' ⟨h1,nX.step hh g hk⟩ h2 (g.up hh hk)
def fO.same(h:qU P o ρ H c H):fO P o ρ H c H:=.Bp h (jL.refl H)
def jL.push(H:zn)(ob:Ob)(hk:ob.kind≠4):jL H (H++[ob]):=λid ob' h4=>by
 by_cases fE:id<H.length
 .rw[gF fE]
 .rw[gP (by omega),pM (l:=H) (by omega)];constructor
  .intro h;cases hd:id-H.length with
   |zero=>rw[hd]at h;cases h;exact absurd h4 hk
   |succ n=>rw[hd]at h;simp at h
  .intro h;cases h
def jL.modify(H:zn)(id:Nat)(f:Ob->Ob)(hf:∀ob,H[id]?=some ob->ob.kind≠4/\(f ob).kind≠4):jL H (H.modify id f):=λid' ob' h4=>by
 rw[pZ];by_cases he:id=id'
 .subst he;cases hx:H[id]? with
  |none=>simp
  |some ob=>
   obtain⟨h1,h2⟩:=hf ob hx;simp only[r5,gK,if_true];constructor
   .intro h;cases h;exact absurd h4 h2
   .intro h;cases h;exact absurd h4 h1
 .cases hx:H[id']? with
  |none=>simp
  |some ob=>simp[he]
def jL.trans{H H' H'':zn}(h:jL H H')(h':jL H' H''):jL H H'':=λid ob h4=>(h' id ob h4).trans (h id ob h4)
def nh(P:Program){α:Type}:Sem α->Option α
 |.pure a=>some a
 |.program k=>nh P (k P)
 |_=>none
def zwP(e:Sem α){a:α}(h:nh P e=some a)(w:World):e.run P w=.ok a w:=by
 induction e with
 |pure a'=>simp only[nh,gX]at h;subst h;rfl
 |program k ih=>simp only[nh]at h;exact ih P h
 |_=>simp[nh]at h
def BP:C->Value
 |.v x=>x
 |_=>undef
def fV:C->Bool
 |.v _=>true
 |_=>false
def x8(o:Oper):Bool:=match o.op with|.select ..=>false|_=>true
def qU.scalar{v:Value}(hs:x8 o=true)(hv:o.op.operands.all (λx=>fV (ρ x))=true)
 (hr:nh P (execOp (λx=>BP (ρ x)) o)=some (.value v))(h1:v.oneCell'=true):qU P o ρ H (.v v) H:=λw E σ hh hl K hk=>by
 have he:execOp σ o=execOp (λx=>BP (ρ x)) o:=execOp_congr o (λcs b hc=>by simp[x8,hc]at hs) λx hx=>by
  have h1:fV (ρ x)=true:=by
   have:=Array.all_eq_true_iff_forall_mem.1 hv x hx;simpa using this
  have h2:=hl x hx;cases hc:ρ x with
  |v y=>rw[hc]at h2;cases h2;rfl
  |_=>rw[hc]at h1;cases h1
 rw[he,zwP _ hr w];exact hk v w E hh (.v v h1) (qL.refl w E H)
def Pu{o:Obj}(h:b<w.heap.size):(w.alloc o).cell? ⟨b,off,none⟩=w.cell? ⟨b,off,none⟩:=
 World.cell?_alloc_lt _ _ _ h
def Ek(h:w.cell? ⟨b,off,none⟩=some u):b<w.heap.size:=World.block_lt_of_cell? w _ h
def Env.push(E:Env)(g κ:Nat):Env:=
 {n:=E.n+1,β:=λid hops=>if id=E.n then g else E.β id hops,κ:=λid hops=>if id=E.n then κ else E.κ id hops,St:=E.St,G:=E.G}
def Env.LU(E:Env)(g κ:Nat):E.le (E.push g κ):=
 ⟨ru _,λid hops h=>by simp[Env.push,tq h],λid hops h=>by simp[Env.push,tq h],λb o u h=>h,λ_ _ _ _ h=>h⟩
def zB:C->Bool
 |.fF 2 _ _=>false
 |_=>true
def jf.loose{id:Nat}{i k:Nat}(hn:zB c=true):jf E kd id hops i k c u↔L (E.at kd) c u/\u.oneCell'=true:=by
 unfold jf;split
 .simp[zB]at hn
 .rfl
def jf.mono{E E':Env}(h:E.le E'){kd id:Nat}(hid:id<E.n){hops:List ig}{i k:Nat}{c:C}{u:Value}(hc:jf E kd id hops i k c u):jf E' kd id hops i k c u:=by
 unfold jf at *;split at hc
 .rw[h.β id _ hid,h.κ id _ hid];exact hc
 .exact⟨hc.1.mono (h.at kd),hc.2⟩
def Dg{id:Nat}(h:qd H id hops=some x):id<H.length:=by
 unfold qd at h;split at h
 .rename_i ob ho;exact(gh.1 ho).1
 .cases h
def ju{id:Nat}(h:qd H id hops=some x):∃ob,H[id]?=some ob/\(ob.kind=1\/ob.kind=2)/\kF ob.sz ob.rows hops=some x:=by
 unfold qd at h;split at h
 .rename_i ob ho;split at h
  .rename_i hk;exact⟨ob,ho,hk,h⟩
  .cases h
 .cases h
def qn.lt(h:qn w E H){id:Nat}(hx:qd H id hops=some x):E.β id hops<w.heap.size:=by
 obtain⟨ob,ho,_,_⟩:=ju hx;obtain⟨cur,e,hg,_⟩:=(h.fR id ob hops x.1 x.2 ho (by simpa using hx)).fR;exact(gM.1 hg).1
def wL{id:Nat}(h:id<H.length)(X:zn):qd (H++X) id hops=qd H id hops:=by
 unfold qd;rw[gF h]
def EH.Lk{id:Nat}(h:EH w E kd id hops sz rows):E.β id hops<w.heap.size:=by
 obtain⟨cur,e,hg,_⟩:=h.fR;exact(gM.1 hg).1
def EH.step(hle:E.le E'){id:Nat}(hid:id<E.n)(h:EH w E kd id hops sz rows)
 (hh:w'.heap[E.β id hops]?=w.heap[E.β id hops]?):EH w' E' kd id hops sz rows:=by
 obtain⟨cur,e,hg,hsz,hc⟩:=h.fR;refine⟨by rw[hle.κ id hops hid];exact h.len,h.row,cur,e,by rw[hle.β id hops hid,hh];exact hg,by rw[hle.κ id hops hid];exact hsz,?_⟩;intro i k c hcc;obtain⟨u,hu,ho⟩:=hc i k c hcc;exact⟨u,hu,ho.mono hle hid⟩
def DW(hn:∀i k c,cellAt rows i k=some c->zB c=true)(h:kF sz rows hops=some x):hops=[]/\x=(sz,rows):=by
 cases hops with
 |nil=>simp[kF]at h;exact⟨rfl,h.symm⟩
 |cons hd tl=>
  obtain⟨i,k⟩:=hd;simp only[kF]at h;split at h
  .rename_i h1;have:=hn _ _ _ h1;simp[zB]at this
  .cases h
def qn.push{w:World}{E:Env}{H:zn}(h:qn w E H)(kind:Nat)(ty:TypeId)(sz κ:Nat)(rows:List (List C))(cur:Array Value)(hk:kind=1\/kind=2)(hrow:∀r∈rows,r.length=sz)
 (hlen:rows.length<=κ)(hcur:cur.size=κ*sz)(hn:∀i k c,cellAt rows i k=some c->zB c=true)
 (hc:∀i k c,cellAt rows i k=some c->∃u,cur[i*sz+k]?=some u/\L (E.at kind) c u/\u.oneCell'=true):
  qn (w.alloc (.cells cur ty)) (E.push w.heap.size κ) (H++[⟨kind,ty,sz,rows,0⟩])/\qL w E H (w.alloc (.cells cur ty)) (E.push w.heap.size κ) (H++[⟨kind,ty,sz,rows,0⟩]):=by
 have hle:=E.LU w.heap.size κ
 have get:∀id hops x,qd (H++[⟨kind,ty,sz,rows,0⟩]) id hops=some x->(id<H.length/\qd H id hops=some x)\/(id=H.length/\hops=[]/\x=(sz,rows)):=by
  intro id hops x hx;by_cases fE:id<H.length
  .exact .inl ⟨fE,by rw[wL fE]at hx;exact hx⟩
  .have h1:=Dg hx;simp at h1;have:id=H.length:=by omega
   subst this;simp only[qd,gP (gG _),rR,uw]at hx;rw[gz hk]at hx;obtain⟨e1,e2⟩:=DW hn hx;exact .inr ⟨rfl,e1,e2⟩
 have hnew:∀hops,(E.push w.heap.size κ).β H.length hops=w.heap.size:=λhops=>by simp[Env.push,h.n]
 have hold:∀id hops,id<H.length->(E.push w.heap.size κ).β id hops=E.β id hops:=λid hops fE=>hle.β id hops (by rw[h.n];exact fE)
 refine⟨⟨by simp[Env.push,h.n],?_,?_,?_,?_,?_,?_⟩,⟨hle,λ_ _ _=>V,rfl,rfl,rfl,by show _<=(w.heap.push _).size;simp,?_,?_,?_⟩⟩
 .intro id ob hops sz' rows' hob hx;rcases get id hops _ hx with⟨fE,hx'⟩|⟨rfl,rfl,hx'⟩
  .rw[gF fE]at hob;have hb:=h.fR id ob hops sz' rows' hob hx';exact hb.step hle (by rw[h.n];exact fE) (heap_alloc_old w _ hb.Lk)
  .cases hx'
   simp at hob;subst hob;refine⟨by simp[Env.push,h.n,hlen],hrow,cur,ty,by rw[hnew];exact heap_alloc_new w _,by simp[Env.push,h.n,hcur],?_⟩;intro i k c hcc;obtain⟨u,hu,hl,ho⟩:=hc i k c hcc;exact⟨u,hu,(jf.loose (hn i k c hcc)).2 ⟨hl.mono (hle.at kind),ho⟩⟩
 .intro id hops id' hops' x y hx hy he;rcases get id hops _ hx with⟨fE,hx'⟩|⟨rfl,rfl,hx'⟩ <;> rcases get id' hops' _ hy with⟨hlt',hy'⟩|⟨rfl,rfl,hy'⟩
  .rw[hold id hops fE,hold id' hops' hlt']at he;exact h.inj id hops id' hops' x y hx' hy' he
  .rw[hold id hops fE,hnew]at he;have:=h.lt hx';omega
  .rw[hold id' hops' hlt',hnew]at he;have:=h.lt hy';omega
  .exact⟨rfl,rfl⟩
 .intro b o u hu;have hs:=h.qA b o u hu;rw[Pu (Ek hs.1)];exact hs
 .intro id hops x o u hx hu;rcases get id hops _ hx with⟨fE,hx'⟩|⟨rfl,rfl,hx'⟩
  .rw[hold id hops fE]at hu;obtain⟨e1,ob,e2,e3⟩:=h.sep id hops x o u hx' hu;exact⟨e1,ob,by rw[gF fE];exact e2,e3⟩
  .rw[hnew]at hu;have:=Ek (h.qA _ _ _ hu).1;omega
 .intro id ob hob hkd;by_cases fE:id<H.length
  .rw[gF fE]at hob;obtain⟨cur',hc'⟩:=h.ty id ob hob hkd;refine⟨cur',?_⟩;rw[hold id [] fE,heap_alloc_old w _ (gM.1 hc').1];exact hc'
  .have h1:=(gh.1 hob).1;simp at h1;have:id=H.length:=by omega
   subst this;simp at hob;subst hob;exact⟨cur,by rw[hnew];exact heap_alloc_new w _⟩
 .intro id ob hob;by_cases fE:id<H.length
  .rw[gF fE]at hob;exact h.fz id ob hob
  .have h1:=(gh.1 hob).1;simp at h1;have:id=H.length:=by omega
   subst this;simp at hob;subst hob;exact pa _
 .intro k hk' ho;exact heap_alloc_old w _ hk'
 .intro b o u hu;exact .inl hu
 .rintro b ⟨id,hops,x,hx,rfl⟩;rcases get id hops _ hx with⟨fE,hx'⟩|⟨rfl,rfl,hx'⟩
  .exact .inr ⟨id,hops,x,hx',by rw[hold id hops fE]⟩
  .exact .inl (by rw[hnew];exact gG _)
section
variable {P:Program} {o:Oper} {ρ:Operand->C} {H:zn}
def jD(h:P.info? t=some i)(w:World):(sizeOf t).run P w=.ok i.size w:=by
 simp[sizeOf,typeInfo,h]
def yd{z:Value}(h:P.info? t=some i)(hz:i.zero=some z)(w:World):(zeroValue t).run P w=.ok z w:=by
 simp[zeroValue,typeInfo,h,hz]
def qU.move(x:Operand)(ho:o.op=.move x\/o.op=.assign x):qU P o ρ H (ρ x) H:=λw E σ hh hl K hk=>by
 have h1:(execOp σ o).run P w=.ok (.value (σ x)) w:=by
  unfold execOp;rcases ho with ho|ho <;> simp only[ho] <;> rfl
 rw[h1];exact hk _ w E hh (hl x (by rcases ho with ho|ho <;> simp[ho,Op.operands])) (qL.refl w E H)
def qU.pick(x y z:Operand)(ho:o.op=.pick x y z)(b:Bool)(hb:ρ x=.v (.bool b)):qU P o ρ H (if b then ρ y else ρ z) H:=λw E σ hh hl K hk=>by
 have h0:=hl x (by simp[ho,Op.operands]);rw[hb]at h0;have hx:σ x=.bool b:=by generalize σ x=u at *;cases h0;rfl
 have h1:(execOp σ o).run P w=.ok (.value (if b then σ y else σ z)) w:=by
  unfold execOp;simp only[ho,hx];cases b <;> rfl
 rw[h1];refine hk _ w E hh ?_ (qL.refl w E H);cases b
 .exact hl z (by simp[ho,Op.operands])
 .exact hl y (by simp[ho,Op.operands])
def vE{i k:Nat}:cellAt [cs] i k=some c↔i=0/\cs[k]?=some c:=by
 unfold cellAt;cases i <;> simp
def qn.Sk(h:qn w E H)(ty:TypeId)(cs:List C)(ys:Array Value)(hl:LL E cs ys.toList)(hn:cs.all zB=true)(h1:∀y∈ys,y.oneCell'=true):
  qn (w.alloc (.cells ys ty)) (E.push w.heap.size 1) (H++[⟨1,ty,cs.length,[cs],0⟩])/\qL w E H (w.alloc (.cells ys ty)) (E.push w.heap.size 1) (H++[⟨1,ty,cs.length,[cs],0⟩]):=by
 refine h.push 1 ty cs.length 1 [cs] ys (.inl V) (by simp) (by simp) (by have:=hl.1;simp at this;omega) ?_ ?_
 .intro i k c hc;obtain⟨_,hc⟩:=vE.1 hc;exact gE.1 hn c (gu hc)
 .intro i k c hc;obtain⟨rfl,hc⟩:=vE.1 hc;obtain⟨y,hy,hly⟩:=hl.get hc;refine⟨y,by simpa using hy,by simpa [Env.at] using hly,h1 y ?_⟩;have:=gu hy;simpa using this
def ox(P:Program)(t:TypeId):Option (List C):=
 match P.info? t with
 |some i=>match i.zero with
  |some z=>if z.cells.toList.all (·.oneCell') && (z.cells.size == i.size) then some (z.cells.toList.map iH) else none
  |none=>none
 |none=>none
def Fy(h:ox P t=some cs)(E:Env):∃i z,P.info? t=some i/\i.zero=some z/\LL E cs z.cells.toList/\(∀y∈z.cells,y.oneCell'=true)/\z.cells.size=i.size/\cs.all zB=true/\cs.length=i.size:=by
 unfold ox at h;split at h
 .rename_i i hi;split at h
  .rename_i z hz;split at h
   .rename_i hc;cases h
    simp only[gH,pT,gE]at hc;refine⟨i,z,hi,hz,⟨by simp,?_⟩,λy hy=>hc.1 y (by simpa using hy),hc.2,?_,by simp[hc.2]⟩
    .intro k c y h1 h2;rw[gy,h2]at h1;cases h1
     exact Ty E y
    .rw[gE];intro c hcm;obtain⟨y,hy,rfl⟩:=gY.1 hcm;unfold iH;split <;> (try split) <;> rfl
   .cases h
  .cases h
 .cases h
def Tk(h:qn w E H)(g κ sz:Nat):L (E.push g κ) (.ref H.length [] sz 0 0) (.pointer (some ⟨g,0,none⟩)):=by
 have:=L.ref (E:=E.push g κ) H.length [] sz 0 0 (by simp[Env.push,h.n]);have hb:(E.push g κ).β H.length []=g:=by simp[Env.push,h.n]
 rw[hb]at this;simpa using this
def qU.alloc(t:TypeId)(ho:o.op=.alloc t){cs:List C}(hz:ox P t=some cs):qU P o ρ H (.ref H.length [] cs.length 0 0) (H++[⟨1,t,cs.length,[cs],0⟩]):=λw E σ hh hl K hk=>by
 obtain⟨i,z,hi,hz,hll,h1,hsz,hn,hlen⟩:=Fy hz E
 have hr:(execOp σ o).run P w=.ok (.value (.pointer (some ⟨w.heap.size,0,none⟩))) (w.alloc (.cells z.cells t)):=by
  unfold execOp;simp only[ho,Instr.alloc,Sem.run_bind,yd hi hz,Result.andThen_ok,newVar,newRow]
  rfl
 rw[hr];obtain⟨a,b⟩:=hh.Sk t cs z.cells hll hn h1;exact hk _ _ _ a (Tk hh _ _ _) b
def AW:C->Bool
 |.v _=>true
 |.fF o _ _=>o != 2
 |.jy _|.ref .. |.sl .. |.fn .. |.mp _|.gl .. |.iF .. |.rc _=>true
 |_=>false
def zsG(h:L E c y)(hc:AW c=true):y.oneCell'=true:=by
 cases h with
 |v x hx=>exact hx
 |agg=>simp[AW]at hc
 |fJ=>simp[AW]at hc
 |un=>simp[AW]at hc
 |za=>simp[AW]at hc
 |gl id sz rows y hn hg h=>cases h <;> rfl
 |_=>rfl
def zsH(hc:AW c=true):zB c=true:=by
 unfold AW at hc;unfold zB;split at hc <;> first|rfl|(split <;> simp_all)|cases hc
def nr:C->Bool
 |.agg cs=>cs.all zB
 |c=>AW c
def J7(h:L E c y)(hc:nr c=true):LL E c.cells y.cells.toList/\(∀u∈y.cells,u.oneCell'=true)/\c.cells.all zB=true:=by
 cases c with
 |agg cs=>
  cases h with
  |agg _ ys h1 h2 h3=>exact⟨⟨by simpa [C.cells,Value.cells] using h1,λi c y e1 e2=>h2 i c y e1 (by simpa [Value.cells] using e2)⟩,h3,by simpa [nr,C.cells] using hc⟩
 |za=>simp[nr,AW]at hc
 |un=>simp[nr,AW]at hc
 |fJ=>simp[nr,AW]at hc
 |_=>
  have ho:=zsG h (by simpa [nr] using hc);have hcell:y.cells= #[y]:=by cases y <;> first|rfl|(simp[Value.oneCell']at ho)
  refine⟨h.cells (by simp) (by simp),by rw[hcell];simpa using ho,?_⟩;have:=zsH (by simpa [nr] using hc);simpa [C.cells] using this
def qU.box(t:TypeId)(x:Operand)(ho:o.op=.box t x)(hc:nr (ρ x)=true):qU P o ρ H (.ref H.length [] (ρ x).cells.length 0 0) (H++[⟨1,t,(ρ x).cells.length,[(ρ x).cells],0⟩]):=λw E σ hh hl K hk=>by
 obtain⟨hll,h1,hn⟩:=J7 (hl x (by simp[ho,Op.operands])) hc
 have hr:(execOp σ o).run P w=.ok (.value (.pointer (some ⟨w.heap.size,0,none⟩))) (w.alloc (.cells (σ x).cells t)):=by
  unfold execOp;simp only[ho,Instr.box,newVar,newRow]
  rfl
 rw[hr];obtain⟨a,b⟩:=hh.Sk t _ _ hll hn h1;exact hk _ _ _ a (Tk hh _ _ _) b
def xY(b off n:Nat):(⟨b,off,none⟩:Addr).add n=⟨b,off+n,none⟩:=by
 unfold Addr.add;split <;> simp_all
def CA(c:C)(n:Nat):Option C:=
 match c with
 |.ref id hops sz i k=>some (.ref id hops sz i (k+n))
 |.jy cells=>some (.jy (cells.drop n))
 |_=>none
def Qa{c':C}{n:Nat}(h:L E c y)(hf:CA c n=some c'):∃a,y=.pointer (some a)/\L E c' (.pointer (some (a.add n))):=by
 cases h with
 |ref id hops sz i k hn=>
  simp only[CA]at hf;cases hf
  refine⟨_,rfl,?_⟩;rw[xY,se];exact .ref id hops sz i (k+n) hn
 |jy cells b off us hst hL=>
  simp only[CA]at hf;cases hf
  refine⟨_,rfl,?_⟩;rw[xY];exact .jy _ b (off+n) (λk=>us (n+k)) (λk c hc=>by rw[rb]at hc;rw[se];exact hst _ c hc) (λk c hc=>by rw[rb]at hc;exact hL _ c hc)
 |_=>simp[CA]at hf
def qU.fieldAddr(t:TypeId)(x:Operand)(f:Nat)(ho:o.op=.fieldAddr t x f){fs:Array Field}{fd:Field}(ht:P.underlying t=some (.struct fs))(hf:fs[f]?=some fd)
 (hi:P.info? fd.type=some i)(hsz:i.size≠0){c:C}(hc:CA (ρ x) fd.offset=some c):qU P o ρ H c H:=λw E σ hh hl K hk=>by
 obtain⟨a,ha,hla⟩:=Qa (hl x (by simp[ho,Op.operands])) hc
 have hr:(execOp σ o).run P w=.ok (.value (.pointer (some (a.add fd.offset)))) w:=by
  unfold execOp;simp[ho,Instr.fieldAt,run_underlying ht,hf,ha,Instr.sureAddr,fieldPlace,jD hi,hsz]
 rw[hr];exact hk _ w E hh hla (qL.refl w E H)
def CQ(c:C)(size n:Nat):Option C:=
 match c with
 |.fF o sz rows=>if (o == 0 || o == 1) && (sz == size) then (rows[n]?).map .jy else none
 |.sl id hops sz lo len _=>if decide (n<len) && (sz == size) then some (.ref id hops sz (lo+n) 0) else none
 |_=>none
def IV:C->Option Nat
 |.fF _ _ rows=>some rows.length
 |.sl _ _ _ _ len _=>some len
 |_=>none
def zxS{c':C}{size n:Nat}(h:L E c y)(hf:CQ c size n=some c'):
  ∃a len cap,y=.slice (some a) len cap/\n<len/\L E c' (.pointer (some (a.add (n*size)))):=by
 cases h with
 |fF o sz rows b off cap us ho hc hsz hst hL=>
  simp only[CQ]at hf;split at hf
  .rename_i hcond;simp only[gH,pT]at hcond;obtain⟨_,rfl⟩:=hcond;cases hr:rows[n]? with
   |none=>rw[hr]at hf;cases hf
   |some r=>
    rw[hr]at hf;cases hf
    refine⟨_,_,_,rfl,(gh.1 hr).1,?_⟩;rw[xY];exact .jy r b (off+n*sz) (us n) (λk c hc=>hst n r k c hr hc) (λk c hc=>hL n r k c hr hc)
  .cases hf
 |xE o sz ho=>
  simp[CQ]at hf
 |sl id hops sz lo len full cap hn hlen hfull hf'=>
  simp only[CQ]at hf;split at hf
  .rename_i hcond;simp only[gH,pT,gR]at hcond;obtain⟨fE,rfl⟩:=hcond;cases hf
   refine⟨_,_,_,rfl,fE,?_⟩;rw[xY,<-rk];exact .ref id hops sz (lo+n) 0 hn
  .cases hf
 |_=>simp[CQ]at hf
def qU.indexAddr(t:TypeId)(x y:Operand)(ho:o.op=.indexAddr t x y)(ht:P.underlying t=some (.slice e))(hi:P.info? e=some i)
 {k:IntKind}{n:Int}(hy:ρ y=.v (.int k n))(h0:0<=n){c:C}(hc:CQ (ρ x) i.size n.toNat=some c):qU P o ρ H c H:=λw E σ hh hl K hk=>by
 obtain⟨a,len,cap,ha,fE,hla⟩:=zxS (hl x (by simp[ho,Op.operands])) hc;have h1:=hl y (by simp[ho,Op.operands]);rw[hy]at h1;have hyv:σ y=.int k n:=by generalize σ y=u at *;cases h1;rfl
 have hn:0<=n/\n<(len:Int):=⟨h0,by omega⟩
 have hr:(execOp σ o).run P w=.ok (.value (.pointer (some (a.add (n.toNat*i.size))))) w:=by
  unfold execOp;simp[ho,Instr.indexAt,asIntOf,hyv,ha,run_underlying ht,hn.1,hn.2,jD hi]
 rw[hr];exact hk _ w E hh hla (qL.refl w E H)
def qU.zvP(t:TypeId)(x y:Operand)(ho:o.op=.indexAddr t x y){len:Nat}(ht:P.underlying t=some (.array len e))(hi:P.info? e=some i)
 {k:IntKind}{n:Int}(hy:ρ y=.v (.int k n))(h0:0<=n)(h1:n<len){c:C}(hc:CA (ρ x) (n.toNat*i.size)=some c):qU P o ρ H c H:=λw E σ hh hl K hk=>by
 obtain⟨a,ha,hla⟩:=Qa (hl x (by simp[ho,Op.operands])) hc;have hy1:=hl y (by simp[ho,Op.operands]);rw[hy]at hy1;have hyv:σ y=.int k n:=by generalize σ y=u at *;cases hy1;rfl
 have hr:(execOp σ o).run P w=.ok (.value (.pointer (some (a.add (n.toNat*i.size))))) w:=by
  unfold execOp;simp[ho,Instr.indexAt,asIntOf,hyv,ha,run_underlying ht,h0,h1,jD hi,Instr.sureAddr]
 rw[hr];exact hk _ w E hh hla (qL.refl w E H)
end
def Gl(id:Nat)(hops:List ig)(i k:Nat):C->C
 |.fF 2 sz rows=>.sl id (hops++[(i,k)]) sz 0 rows.length false
 |c=>c
def kB(id:Nat)(hops:List ig)(i:Nat):Nat->List C->List C
 |_,[]=>[]
 |k,c::cs=>Gl id hops i k c::kB id hops i (k+1) cs
theorem jc(sz:Nat)(rows:List (List C)):kF sz rows []=some (sz,rows):=rfl
def x7(sz:Nat)(rows:List (List C))(i k:Nat)(hs:List ig):kF sz rows ((i,k)::hs)=match cellAt rows i k with
  |some (.fF 2 sz' rows')=>kF sz' rows' hs
  |_=>none:=rfl
def Qd{i k sz2:Nat}{rows2:List (List C)}:∀(hops:List ig) (sz:Nat) (rows:List (List C)) (sz':Nat) (rows':List (List C)),kF sz rows hops=some (sz',rows')->
  cellAt rows' i k=some (.fF 2 sz2 rows2)->kF sz rows (hops++[(i,k)])=some (sz2,rows2)
 |[],sz,rows,sz',rows',h,hc=>by
  rw[jc]at h;cases h
  rw[fA,x7,hc]
  rfl
 |(i',k')::tl,sz,rows,sz',rows',h,hc=>by
  rw[x7]at h;rw[List.cons_append,x7];split at h
  .exact Qd tl _ _ _ _ h hc
  .cases h
def ZX{id:Nat}{sz':Nat}(h:qd H id hops=some (sz',rows')){i k:Nat}{sz2:Nat}{rows2:List (List C)}
 (hc:cellAt rows' i k=some (.fF 2 sz2 rows2)):qd H id (hops++[(i,k)])=some (sz2,rows2):=by
 obtain⟨ob,ho,hk,hg⟩:=ju h;unfold qd;rw[ho];simp only[hk,if_true];exact Qd _ _ _ _ _ hg hc
def Uj(h:qn w E H){id:Nat}(hb:qd H id hops=some (sz,rows)){i k:Nat}
 (hc:cellAt rows i k=some c)(ho:jf E kd id hops i k c u):L E (Gl id hops i k c) u:=by
 unfold jf at ho;split at ho
 .rename_i sz' rows';subst ho;have hb':=ZX hb hc;obtain⟨ob,hob,_,_⟩:=ju hb';have hlen:=(h.fR id ob _ _ _ hob hb').len;have:=L.sl (E:=E) id (hops++[(i,k)]) sz' 0 rows'.length false _ (by rw[h.n];exact Dg hb') hlen (by simp) (by intro _;rw[gU]);rw[sL]at this;exact this
 .rename_i h2
  have:Gl id hops i k c=c:=by
   unfold Gl;split
   .exact absurd V (h2 _ _)
   .rfl
  rw[this];exact ho.1.mono (E.Tl kd)
def OQ{id:Nat}{hops:List ig}{i:Nat}:∀(cs:List C) (k j:Nat) (c':C),(kB id hops i k cs)[j]?=some c'->∃c,cs[j]?=some c/\c'=Gl id hops i (k+j) c
 |[],k,j,c',h=>by simp[kB]at h
 |c::cs,k,0,c',h=>by simp[kB]at h;exact⟨c,rfl,h.symm⟩
 |c::cs,k,j+1,c',h=>by
  simp[kB]at h;obtain⟨c0,h0,e⟩:=OQ cs (k+1) j c' h;exact⟨c0,by simpa using h0,by rw[e];congr 1;omega⟩
def N6{id:Nat}{hops:List ig}{i:Nat}:∀(cs:List C) (k:Nat),(kB id hops i k cs).length=cs.length
 |[],_=>rfl
 |c::cs,k=>by simp[kB,N6 cs (k+1)]
def A3(H:zn)(c:C)(n:Nat):Option (List C):=
 match c with
 |.ref id hops sz i k=>match qd H id hops with
  |some (sz',rows)=>if sz' == sz then match rows[i]? with
    |some r=>if decide (k+n<=r.length) then some (kB id hops i k ((r.drop k).take n)) else none
    |none=>none
   else none
  |none=>none
 |.jy cells=>if decide (n<=cells.length) then some (cells.take n) else none
 |_=>none
def H7(h:qn w E H)(hl:L E c y){n:Nat}(hr:A3 H c n=some cs):
  ∃a us,y=.pointer (some a)/\(∀(j:Nat) u,us[j]?=some u->w.cell? (a.add j)=some u)/\LL E cs us/\us.length=n/\(∀u∈us,u.oneCell'=true):=by
 cases hl with
 |ref id hops sz i k hn=>
  simp only[A3]at hr;split at hr
  .rename_i sz' rows hb;split at hr
   .rename_i hsz;have hsz:sz'=sz:=by simpa using hsz
    subst hsz;split at hr
    .rename_i r hrow;split at hr
     .rename_i hlen;simp only[gR]at hlen;cases hr
      obtain⟨ob,hob,_,_⟩:=ju hb;have hB:=h.fR id ob hops sz' rows hob hb;obtain⟨cur,e,hg,hcs,hcell⟩:=hB.fR;have hrl:r.length=sz':=hB.row r (gu hrow)
      have hcc:∀j,j<n->∃c u,r[k+j]?=some c/\cellAt rows i (k+j)=some c/\cur[i*sz'+(k+j)]?=some u/\jf E ob.kind id hops i (k+j) c u:=λj hj=>by
       have hj':k+j<r.length:=by omega
       have h1:r[k+j]?=some r[k+j]:=by simp[hj']
       have h2:cellAt rows i (k+j)=some r[k+j]:=by simp[cellAt,hrow,hj']
       obtain⟨u,hu,ho⟩:=hcell i (k+j) _ h2;exact⟨_,u,h1,h2,hu,ho⟩
      refine⟨_,(List.range n).map (λj=>cur.getD (i*sz'+(k+j)) undef),rfl,?_,⟨?_,?_⟩,by simp,?_⟩
      .intro j u hju;simp only[gy]at hju;cases hjr:(List.range n)[j]? with
       |none=>rw[hjr]at hju;cases hju
       |some j'=>
        rw[hjr]at hju;obtain⟨hjlt,hj'⟩:=gh.1 hjr;simp at hj' hjlt;subst hj';obtain⟨c,u',h1,h2,hu,ho⟩:=hcc j hjlt;simp only[gK,gX]at hju;rw[pO,hu]at hju;simp at hju;subst hju;rw[xY];unfold World.cell?;simp only[hg];rw[gp (by simp),se];exact hu
      .rw[N6];simp;omega
      .intro j c' u hc' hu';obtain⟨c,hc,rfl⟩:=OQ _ _ _ _ hc';rw[pB]at hc;split at hc
       .rename_i hj;rw[rb]at hc;obtain⟨c2,u2,h1,h2,hu,ho⟩:=hcc j hj;rw[h1]at hc;cases hc
        simp only[gy,rU hj,gK,gX]at hu';rw[pO,hu]at hu';simp at hu';subst hu';exact Uj h hb h2 ho
       .cases hc
      .intro u hu;obtain⟨j,hj,rfl⟩:=gY.1 hu;obtain⟨c,u',h1,h2,hu',ho⟩:=hcc j (by simpa using hj);rw[pO,hu'];simp only[Option.getD_some];unfold jf at ho;split at ho
       .rw[ho];rfl
       .exact ho.2
     .cases hr
    .cases hr
   .cases hr
  .cases hr
 |jy cells b off us hst hL=>
  simp only[A3]at hr;split at hr
  .rename_i hlen;simp only[gR]at hlen;cases hr
   refine⟨_,(List.range n).map us,rfl,?_,⟨by simp;omega,?_⟩,by simp,?_⟩
   .intro j u hju;simp only[gy]at hju;cases hjr:(List.range n)[j]? with
    |none=>rw[hjr]at hju;cases hju
    |some j'=>
     rw[hjr]at hju;obtain⟨hjlt,hj'⟩:=gh.1 hjr;simp at hj' hjlt;subst hj';cases hju
     rw[xY];have hj2:j<cells.length:=by omega
     exact(h.qA _ _ _ (hst j cells[j] (by simp[hj2]))).1
   .intro j c u hc hu;rw[pB]at hc;split at hc
    .rename_i hj;simp only[gy,rU hj,gK,gX]at hu;subst hu;exact(hL j c hc).mono E.FW
    .cases hc
   .intro u hu;obtain⟨j,hj,rfl⟩:=gY.1 hu
    have hj2:j<cells.length:=by
      have:j<n:=by simpa using hj
      omega
    exact(h.qA _ _ _ (hst j cells[j] (by simp[hj2]))).2
  .cases hr
 |_=>simp[A3]at hr
def El:TypeDesc->Bool
 |.struct _|.array _ _=>true
 |_=>false
def D1{d:TypeDesc}(h:P.underlying t=some d)(w:World):(isAgg t).run P w=.ok (El d) w:=by
 simp only[isAgg,Sem.run_bind,run_underlying h,Result.andThen_ok];cases d <;> rfl
def nK(P:Program)(H:zn)(t:TypeId)(c:C):Option C:=
 match P.underlying t,P.info? t with
 |some d,some i=>
  if El d then (A3 H c i.size).map .agg
  else match A3 H c 1 with
   |some [x]=>some x
   |_=>none
 |_,_=>none
section
variable {P:Program} {o:Oper} {ρ:Operand->C} {H:zn}
def qU.load(t:TypeId)(x:Operand)(ho:o.op=.load t x)(hc:nK P H t (ρ x)=some c):qU P o ρ H c H:=λw E σ hh hl K hk=>by
 have hx:=hl x (by simp[ho,Op.operands]);unfold nK at hc;split at hc
 .rename_i d i hd hi;by_cases hag:El d=true
  .rw[gz hag]at hc;cases hr:A3 H (ρ x) i.size with
   |none=>rw[hr]at hc;cases hc
   |some cs=>
    rw[hr]at hc;cases hc
    obtain⟨a,us,ha,hcell,hll,hlen,hone⟩:=H7 hh hx hr
    have hr':(execOp σ o).run P w=.ok (.value (.agg us.toArray)) w:=by
     unfold execOp;have h3:=run_loadCells_list (P:=P) (w:=w) a us (λj v hj=>hcell j v hj);rw[hlen]at h3;simp[ho,Instr.loadAt,Instr.sureAddr,ha,loadVar,D1 hd,hag,jD hi,h3]
    rw[hr'];exact hk _ w E hh (.agg cs us.toArray (by simpa using hll.1) (λi c y e1 e2=>hll.2 i c y e1 (by simpa using e2)) (λu hu=>hone u (by simpa using hu))) (qL.refl w E H)
  .rw[gp hag]at hc;split at hc
   .rename_i x0 hr;cases hc
    obtain⟨a,us,ha,hcell,hll,hlen,hone⟩:=H7 hh hx hr
    obtain⟨u,rfl⟩:∃u,us=[u]:=by
     match us,hlen with
     |[u],_=>exact⟨u,rfl⟩
    have hu:=hcell 0 u V;have ha0:a.add 0=a:=by simp[Addr.add]
    rw[ha0]at hu
    have hr':(execOp σ o).run P w=.ok (.value u) w:=by
     unfold execOp;simp[ho,Instr.loadAt,Instr.sureAddr,ha,loadVar,D1 hd,hag,hu]
    rw[hr'];exact hk _ w E hh hll.cons_inv.1 (qL.refl w E H)
   .cases hc
 .cases hc
end
def setCell(rows:List (List C))(i k:Nat)(c:C):List (List C):=rows.modify i (·.set k c)
def ql:List (List C)->List ig->(List (List C)->List (List C))->List (List C)
 |rows,[],f=>f rows
 |rows,(i,k)::hs,f=>match cellAt rows i k with
  |some (.fF 2 sz' rows')=>setCell rows i k (.fF 2 sz' (ql rows' hs f))
  |_=>rows
theorem HG(rows:List (List C))(f:List (List C)->List (List C)):ql rows [] f=f rows:=rfl
def HA(rows:List (List C))(i k:Nat)(hs:List ig)(f:List (List C)->List (List C)):ql rows ((i,k)::hs) f=match cellAt rows i k with
  |some (.fF 2 sz' rows')=>setCell rows i k (.fF 2 sz' (ql rows' hs f))
  |_=>rows:=rfl
def Oa(rows:List (List C))(i k:Nat)(c:C):(setCell rows i k c).length=rows.length:=by simp[setCell]
def N4(rows:List (List C))(i k:Nat)(c:C)(i' k':Nat):cellAt (setCell rows i k c) i' k'=if i=i'/\k=k' then (cellAt rows i' k').map (λ_=>c) else cellAt rows i' k':=by
 unfold cellAt setCell;rw[pZ];by_cases hi:i=i'
 .subst hi;cases hr:rows[i]? with
  |none=>simp
  |some r=>
   simp only[if_true,r5,gK,gW,true_and];rw[gJ];by_cases hk:k=k'
   .subst hk;simp only[if_true];by_cases fE:k<r.length
    .simp[fE]
    .simp[fE]
   .simp[hk]
 .simp[hi]
def Ye(h:∀r∈rows,r.length=sz)(i k:Nat)(c:C):∀r∈setCell rows i k c,r.length=sz:=by
 intro r hr;obtain⟨j,hj⟩:=gI.1 hr;unfold setCell at hj;rw[pZ]at hj;cases hx:rows[j]? with
 |none=>rw[hx]at hj;cases hj
 |some r0=>
  rw[hx]at hj;have h0:=h r0 (gu hx);simp only[r5,gK,gX]at hj;subst hj;split <;> simp[h0]
structure Gt(rows rows':List (List C)):Prop where
 len:rows'.length=rows.length
 own:∀i k s r,cellAt rows' i k=some (.fF 2 s r)↔cellAt rows i k=some (.fF 2 s r)
structure Dx(rows rows':List (List C)):Prop where
 len:rows'.length=rows.length
 cell:∀i k c',cellAt rows' i k=some c'->∃c,cellAt rows i k=some c/\(c=c'\/∃s r r',c=.fF 2 s r/\c'=.fF 2 s r'/\r'.length=r.length)
 row:∀sz,(∀r∈rows,r.length=sz)->∀r∈rows',r.length=sz
theorem Dx.refl(rows:List (List C)):Dx rows rows:=⟨rfl,λi k c h=>⟨c,h,.inl V⟩,λ_ h=>h⟩
def OH:∀(hops:List ig) (sz:Nat) (rows:List (List C)) (sz':Nat) (rows':List (List C)),kF sz rows hops=some (sz',rows')->Gt rows' (f rows')->(ql rows hops f).length=rows.length
 |[],sz,rows,sz',rows',h,ht=>by rw[jc]at h;cases h;rw[HG];exact ht.len
 |(i,k)::hs,sz,rows,sz',rows',h,ht=>by
  rw[HA];split
  .exact Oa _ _ _ _
  .rfl
def Qb{f:List (List C)->List (List C)}:∀(hops:List ig) (sz:Nat) (rows:List (List C)) (sz':Nat) (rows':List (List C)),kF sz rows hops=some (sz',rows')->Gt rows' (f rows')->
  ∀(p:List ig) (sz2:Nat) (rows2':List (List C)),kF sz (ql rows hops f) p=some (sz2,rows2')->
   ∃rows2,kF sz rows p=some (sz2,rows2)/\((p=hops/\rows2'=f rows2)\/(p≠hops/\Dx rows2 rows2'))
 |[],sz,rows,sz',rows',h,ht,p,sz2,rows2',hp=>by
  rw[jc]at h;cases h
  rw[HG]at hp;cases p with
  |nil=>rw[jc]at hp;cases hp;exact⟨rows,rfl,.inl ⟨rfl,rfl⟩⟩
  |cons hd q=>
   obtain⟨i,k⟩:=hd;rw[x7]at hp;split at hp
   .rename_i s r hc;rw[ht.own]at hc;exact⟨rows2',by rw[x7,hc];exact hp,.inr ⟨by simp,Dx.refl _⟩⟩
   .cases hp
 |(i,k)::hs,sz,rows,sz',rows',h,ht,p,sz2,rows2',hp=>by
  rw[x7]at h;split at h
  .rename_i s r hc;have hset:ql rows ((i,k)::hs) f=setCell rows i k (.fF 2 s (ql r hs f)):=by rw[HA,hc];rfl
   rw[hset]at hp;cases p with
   |nil=>
    rw[jc]at hp;cases hp
    refine⟨rows,rfl,.inr ⟨by simp,Oa _ _ _ _,?_,λsz0 h0=>Ye h0 _ _ _⟩⟩;intro i' k' c' hcc;rw[N4]at hcc;split at hcc
    .rename_i hik;obtain⟨rfl,rfl⟩:=hik;rw[hc]at hcc;simp only[gK,gX]at hcc;subst hcc;exact⟨_,hc,.inr ⟨s,r,_,rfl,rfl,OH hs s r sz' rows' h ht⟩⟩
    .exact⟨c',hcc,.inl V⟩
   |cons hd q=>
    obtain⟨i',k'⟩:=hd;rw[x7,N4]at hp;by_cases hik:i=i'/\k=k'
    .obtain⟨rfl,rfl⟩:=hik;rw[gz ⟨rfl,rfl⟩,hc]at hp;simp only[gK]at hp;obtain⟨rows2,h2,h3⟩:=Qb hs s r sz' rows' h ht q sz2 rows2' hp;refine⟨rows2,by rw[x7,hc];exact h2,?_⟩;rcases h3 with⟨rfl,e⟩|⟨hne,hlk⟩
     .exact .inl ⟨rfl,e⟩
     .exact .inr ⟨λe=>hne (by simpa using e),hlk⟩
    .rw[gp hik]at hp;refine⟨rows2',by rw[x7];exact hp,.inr ⟨?_,Dx.refl _⟩⟩;intro e;simp at e;exact hik ⟨e.1.1.symm,e.1.2.symm⟩
  .cases h
def nP(H:zn)(id:Nat)(hops:List ig)(f:List (List C)->List (List C)):zn:=H.modify id λob=>match ob with
 |⟨kind,ty,sz,rows,fz⟩=>⟨kind,ty,sz,ql rows hops f,fz⟩
def FP(H:zn)(id:Nat)(hops:List ig)(f:List (List C)->List (List C))(j:Nat):(nP H id hops f)[j]?=(H[j]?).map λob=>if id=j then {ob with rows:=ql ob.rows hops f} else ob:=by
 unfold nP;rw[pZ]
 rfl
def FD{id:Nat}(hb:qd H id hops=some (sz,rows))(ht:Gt rows (f rows)){id':Nat}{p:List ig}
 {sz2:Nat}{rows2':List (List C)}(hp:qd (nP H id hops f) id' p=some (sz2,rows2')):
  ∃rows2,qd H id' p=some (sz2,rows2)/\((id'=id/\p=hops/\rows2'=f rows2)\/(¬(id'=id/\p=hops)/\Dx rows2 rows2')):=by
 obtain⟨ob,hob,hk,hg⟩:=ju hb;obtain⟨ob',hob',hk',hg'⟩:=ju hp;rw[FP]at hob';by_cases hid:id=id'
 .subst hid;rw[hob]at hob';simp only[gK,if_true,gX]at hob';subst hob';obtain⟨rows2,h2,h3⟩:=Qb hops ob.sz ob.rows sz rows hg ht p sz2 rows2' hg';refine⟨rows2,?_,?_⟩
  .unfold qd;rw[hob];simp only[hk,if_true];exact h2
  .rcases h3 with⟨rfl,e⟩|⟨hne,hlk⟩
   .exact .inl ⟨rfl,rfl,e⟩
   .exact .inr ⟨λe=>hne e.2,hlk⟩
 .cases hx:H[id']? with
  |none=>rw[hx]at hob';cases hob'
  |some ob2=>
   rw[hx]at hob';simp only[gK,hid,if_false,gX]at hob';subst hob';refine⟨rows2',?_,.inr ⟨λe=>hid e.1.symm,Dx.refl _⟩⟩;unfold qd;rw[hx];simp only[hk',if_true];exact hg'
def qn.write(h:qn w E H){id:Nat}{ob:Ob}(hob:H[id]?=some ob)
 (hb:qd H id hops=some (sz,rows))(ht:Gt rows (f rows))(hrow:∀r∈f rows,r.length=sz){cur cur':Array Value}{e:TypeId}(hg:w.heap[E.β id hops]?=some (.cells cur e (0,0)))(hsz:cur'.size=cur.size)
 (hst:∀o u,E.St (E.β id hops) o=some u->cur'[o]?=some u)
 (hc:∀i k c,cellAt (f rows) i k=some c->∃u,cur'[i*sz+k]?=some u/\jf E ob.kind id hops i k c u):
  qn (w.setRow (E.β id hops) cur') E (nP H id hops f)/\qL w E H (w.setRow (E.β id hops) cur') E (nP H id hops f):=by
 have hown:∀b,jr E (nP H id hops f) b->jr E H b:=by
  rintro b ⟨id',p,⟨s2,r2⟩,hx,rfl⟩;obtain⟨rows2,h2,_⟩:=FD hb ht hx;exact⟨id',p,_,h2,rfl⟩
 refine⟨⟨by rw[h.n];simp[nP],?_,?_,?_,?_,?_,?_⟩,⟨Env.le.refl E,λ_ _ _=>V,rfl,rfl,rfl,by simp[World.setRow],?_,λb o u hu=>.inl hu,λb hb'=>.inr (hown b hb')⟩⟩
 .intro id' ob' p sz2 rows2' hob' hx;obtain⟨rows2,h2,h3⟩:=FD hb ht hx
  have hkd:∃ob0,H[id']?=some ob0/\ob'.kind=ob0.kind:=by
   rw[FP]at hob';cases hx':H[id']? with
   |none=>rw[hx']at hob';cases hob'
   |some ob0=>
    rw[hx']at hob';simp only[gK,gX]at hob';subst hob';exact⟨ob0,rfl,by split <;> rfl⟩
  obtain⟨ob0,hob0,hkd⟩:=hkd;have hB:=h.fR id' ob0 p sz2 rows2 hob0 h2;rw[hkd];rcases h3 with⟨rfl,rfl,rfl⟩|⟨hne,hlk⟩
  .rw[hb]at h2;cases h2
   rw[hob]at hob0;cases hob0
   obtain⟨cur0,e0,hg0,hs0,_⟩:=hB.fR;rw[hg]at hg0;cases hg0
   exact⟨by rw[ht.len];exact hB.len,hrow,cur',e,setRow_heap w _ cur cur' e _ hg,by rw[hsz];exact hs0,hc⟩
  .obtain⟨cur0,e0,hg0,hs0,hc0⟩:=hB.fR
   have hdiff:E.β id' p≠E.β id hops:=λhe=>hne (by
    have:=h.inj id' p id hops _ _ h2 hb he;exact this)
   refine⟨by rw[hlk.len];exact hB.len,hlk.row sz2 hB.row,cur0,e0,by rw[setRow_other w _ _ _ hdiff];exact hg0,hs0,?_⟩;intro i k c' hcc;obtain⟨c,h4,h5⟩:=hlk.cell i k c' hcc;obtain⟨u,hu,ho⟩:=hc0 i k c h4;refine⟨u,hu,?_⟩;rcases h5 with rfl|⟨s,r,r',rfl,rfl,hl⟩
   .exact ho
   .simp only[jf]at ho|-;rw[hl];exact ho
 .intro id1 p1 id2 p2 x y hx hy he;obtain⟨r1,h1,_⟩:=FD hb ht (rows2':=x.2) (sz2:=x.1) (by simpa using hx);obtain⟨r2,h2,_⟩:=FD hb ht (rows2':=y.2) (sz2:=y.1) (by simpa using hy);exact h.inj id1 p1 id2 p2 _ _ h1 h2 he
 .intro b o u hu;refine⟨?_,(h.qA b o u hu).2⟩;by_cases hbb:b=E.β id hops
  .subst hbb;unfold World.cell?;rw[setRow_heap w _ cur cur' e _ hg];simp;exact hst o u hu
  .have:=(h.qA b o u hu).1;unfold World.cell? at this|-;simp only[setRow_other w _ _ _ hbb];exact this
 .intro id' p x o u hx hu;obtain⟨r1,h1,_⟩:=FD hb ht (rows2':=x.2) (sz2:=x.1) (by simpa using hx);obtain⟨e1,ob',e2,e3⟩:=h.sep id' p _ o u h1 hu;refine⟨e1,?_⟩;rw[FP,e2];exact⟨_,rfl,by split <;> exact e3⟩
 .intro id' ob' hob' hk;rw[FP]at hob';cases hx':H[id']? with
  |none=>rw[hx']at hob';cases hob'
  |some ob0=>
   rw[hx']at hob';simp only[gK,gX]at hob';have hk0:ob0.kind=2/\ob'.ty=ob0.ty:=by subst hob';revert hk;split <;> exactλh=>⟨h,rfl⟩
   obtain⟨cur0,hc0⟩:=h.ty id' ob0 hx' hk0.1;rw[hk0.2];by_cases hbb:E.β id' []=E.β id hops
   .rw[hbb]at hc0|-;rw[hg]at hc0;cases hc0
    exact⟨cur',setRow_heap w _ cur cur' _ _ hg⟩
   .exact⟨cur0,by rw[setRow_other w _ _ _ hbb];exact hc0⟩
 .intro id' ob' hob';rw[FP]at hob';cases hx':H[id']? with
  |none=>rw[hx']at hob';cases hob'
  |some ob0=>
   rw[hx']at hob';simp only[gK,gX]at hob';have h0:=h.fz id' ob0 hx';subst hob';split
   .rename_i hid;subst hid;rw[hob]at hx';cases hx'
    obtain⟨ob2,h1,_,h2⟩:=ju hb;rw[hob]at h1;cases h1
    dsimp only;rw[OH hops _ _ _ _ h2 ht];exact h0
   .exact h0
 .intro k hk ho;rw[setRow_other w _ _ _ (λe'=>ho ⟨id,hops,_,hb,e'.symm⟩)]
def yh(k:Nat)(cs:List C)(r:List C):List C:=r.take k++cs++r.drop (k+cs.length)
def wv(i k:Nat)(cs:List C)(rows:List (List C)):List (List C):=rows.modify i (yh k cs)
def N3{k:Nat}{r:List C}(h:k+cs.length<=r.length):(yh k cs r).length=r.length:=by
 simp[yh];omega
def OG{k:Nat}{r:List C}(h:k+cs.length<=r.length)(j:Nat):(yh k cs r)[j]?=if k<=j/\j<k+cs.length then cs[j-k]? else r[j]?:=by
 unfold yh;rw[rO];by_cases h1:j<k
 .rw[gF (by simp;omega),pB,gz h1,gp (by omega)]
 .rw[gP (by simp;omega)];have hk:(r.take k).length=k:=by simp;omega
  rw[hk];by_cases h2:j<k+cs.length
  .rw[gF (by omega),gz ⟨by omega,h2⟩]
  .rw[gP (by omega),rb,gp (by omega)]
   congr 1
   omega
def N5{i k:Nat}{r:List C}(hr:rows[i]?=some r)(h:k+cs.length<=r.length)(i' k':Nat):
  cellAt (wv i k cs rows) i' k'=if i=i'/\k<=k'/\k'<k+cs.length then cs[k'-k]? else cellAt rows i' k':=by
 unfold cellAt wv;rw[pZ];by_cases hi:i=i'
 .subst hi;rw[hr];simp only[if_true,r5,gK,gW,true_and];rw[OG h]
 .simp[hi]
def vq(P:Program)(H:zn)(t:TypeId)(a x:C):Option zn:=
 match a,P.info? t with
 |.ref id hops sz i k,some inf=>
  match qd H id hops,H[id]? with
  |some (sz',rows),some ob=>
   match rows[i]? with
   |some r=>
    if (sz' == sz) && nr x && (x.cells.length == inf.size) && decide (k+x.cells.length<=r.length) && ((r.drop k).take x.cells.length).all zB && (ob.kind == 1 || x.cells.all xm) && (!hops.isEmpty || decide (ob.fz<=i)) && (hops.isEmpty || ob.fz == 0)
    then some (nP H id hops (wv i k x.cells)) else none
   |none=>none
  |_,_=>none
 |_,_=>none
section
variable {P:Program} {o:Oper} {ρ:Operand->C} {H:zn}
def qU.store(t:TypeId)(x y:Operand)(ho:o.op=.store t x y)(hs:vq P H t (ρ x) (ρ y)=some H'):qU P o ρ H .un H':=λw E σ hh hl K hk=>by
 have hx:=hl x (by simp[ho,Op.operands]);have hy:=hl y (by simp[ho,Op.operands]);unfold vq at hs;split at hs
 rotate_left
 .cases hs
 rename_i id hops sz i k inf ha hinf;split at hs
 rotate_left
 .cases hs
 rename_i sz' rows ob hb hob;split at hs
 rotate_left
 .cases hs
 rename_i r hr;split at hs
 rotate_left
 .cases hs
 rename_i hcond;cases hs
 simp only[gH,pT,gR,rD,gE]at hcond;obtain⟨⟨⟨⟨⟨⟨⟨rfl,hval⟩,hlen⟩,hfit⟩,hold⟩,hkd⟩,hfz⟩,_⟩:=hcond;obtain⟨hll,hone,hno⟩:=J7 hy hval;rw[ha]at hx;have hB:=hh.fR id ob hops sz' rows hob hb;obtain⟨cur,e,hg,hcs,hcell⟩:=hB.fR;have hrl:r.length=sz':=hB.row r (gu hr);have hil:i<rows.length:=(gh.1 hr).1;have hx':σ x=.pointer (some ⟨E.β id hops,i*sz'+k,none⟩):=by generalize σ x=u at *;cases hx;rfl
 obtain⟨vs,hvs⟩:∃vs,vs=(σ y).cells.toList:=⟨_,rfl⟩;rw[<-hvs]at hll;have hvl:vs.length=(ρ y).cells.length:=hll.1.symm
 have hend:i*sz'+k+vs.length<=cur.size:=by
  have h1:(i+1)*sz'<=E.κ id hops*sz':=p7 _ (pH hil hB.len);rw[rk]at h1;omega
 have hrun:=run_storeCells_at P (E.β id hops) (i*sz'+k) e vs 0 cur w hg (by simpa using hend) (λv hv=>hone v (by rw[hvs]at hv;simpa using hv));simp only[sy]at hrun;obtain⟨cur',hcur'⟩:∃cur',cur'=(cur.toList.take (i*sz'+k)++vs++cur.toList.drop (i*sz'+k+vs.length)).toArray:=⟨_,rfl⟩;rw[<-hcur']at hrun
 have hcget:∀j:Nat,cur'[j]?=if i*sz'+k<=j/\j<i*sz'+k+vs.length then vs[j-(i*sz'+k)]? else cur[j]?:=by
  intro j;rw[hcur'];simp only[tt];rw[rO];by_cases h1:j<i*sz'+k
  .rw[gF (by simp;omega),pB,gz h1,gp (by omega),pD]
  .rw[gP (by simp;omega)];have hk':(cur.toList.take (i*sz'+k)).length=i*sz'+k:=by simp;omega
   rw[hk'];by_cases h2:j<i*sz'+k+vs.length
   .rw[gF (by omega),gz ⟨by omega,h2⟩]
   .rw[gP (by omega),rb,gp (by omega),pD]
    congr 1
    omega
 have hr':(execOp σ o).run P w=.ok .skip (w.setRow (E.β id hops) cur'):=by
  unfold execOp
  have hsz2:(σ y).cells.size=inf.size:=by
   have:vs.length=(σ y).cells.size:=by rw[hvs];simp
   omega
  simp[ho,Instr.storeAt,Instr.sureAddr,hx',storeVar,jD hinf,hsz2,<-hvs,hrun]
 rw[hr']
 have hpos:∀i' k',i'<rows.length->k'<sz'->(i*sz'+k<=i'*sz'+k'/\i'*sz'+k'<i*sz'+k+vs.length↔i=i'/\k<=k'/\k'<k+vs.length):=by
  intro i' k' hi' hk';constructor
  .rintro⟨h1,h2⟩
   have:i=i':=by
    rcases rZ i i' with h|h|h
    .exfalso
     have:(i+1)*sz'<=i'*sz':=p7 _ h;rw[rk]at this;omega
    .exact h
    .exfalso
     have:(i'+1)*sz'<=i*sz':=p7 _ h;rw[rk]at this;omega
   subst this;omega
  .rintro⟨rfl,h1,h2⟩;omega
 have htame:Gt rows (wv i k (ρ y).cells rows):=by
  refine⟨by simp[wv],?_⟩;intro i' k' s r0;rw[N5 hr hfit];split
  .rename_i hin;obtain⟨rfl,h1,h2⟩:=hin;constructor
   .intro h;have:=gE.1 hno _ (gu h);simp[zB]at this
   .intro h;simp only[cellAt,hr,gW]at h
    have hm:C.fF 2 s r0∈(r.drop k).take (ρ y).cells.length:=by
     apply gI.2
     refine⟨k'-k,?_⟩;rw[pB,gz (by omega),rb,show k+(k'-k)=k' from by omega];exact h
    have:=hold _ hm;simp[zB]at this
  .rfl
 have hW:=hh.write hob hb htame (cur:=cur) (cur':=cur') (e:=e) ?_ hg ?_ ?_ ?_
 .exact hk _ _ E hW.1 .un hW.2
 .intro r0 hr0;obtain⟨j,hj⟩:=gI.1 hr0;unfold wv at hj;rw[pZ]at hj;cases hx0:rows[j]? with
  |none=>rw[hx0]at hj;cases hj
  |some r1=>
   rw[hx0]at hj;simp only[r5,gK,gX]at hj;subst hj;by_cases hij:i=j
   .subst hij;rw[hr]at hx0;cases hx0
    rw[gz V,N3 hfit];exact hrl
   .rw[gp hij];exact hB.row r1 (gu hx0)
 .rw[hcur'];simp;omega
 .intro off u hu;obtain⟨e1,ob',e2,e3⟩:=hh.sep id hops _ off u hb hu;rw[hob]at e2;cases e2
  subst e1;simp at hfz
  have hsz0:ob.sz=sz':=by
   obtain⟨ob2,h1,_,h2⟩:=ju hb;rw[hob]at h1;cases h1
   rw[jc]at h2;cases h2
   rfl
  have fE:off<i*sz':=by
   rw[hsz0]at e3;exact pN e3 (p7 _ hfz)
  rw[hcget,gp (by omega)];have:=(hh.qA _ _ _ hu).1;unfold World.cell? at this;rw[hg]at this;simpa using this
 .intro i' k' c hcc;rw[N5 hr hfit]at hcc;split at hcc
  .rename_i hin;obtain⟨rfl,h1,h2⟩:=hin;obtain⟨u,hu,hlu⟩:=hll.get hcc;have hnoc:=gE.1 hno _ (gu hcc);refine⟨u,?_,(jf.loose hnoc).2 ⟨?_,hone u ?_⟩⟩
   .rw[hcget,gz (by omega),show i*sz'+k'-(i*sz'+k)=k'-k from by omega];exact hu
   .rcases hkd with hkd|hkd
    .simpa [Env.at,hkd] using hlu
    .unfold Env.at
     split
     .exact hlu.wj (hkd _ (gu hcc))
     .exact hlu
   .have:=gu hu;rw[hvs]at this;simpa using this
  .rename_i hnot;obtain⟨u,hu,hou⟩:=hcell i' k' c hcc;refine⟨u,?_,hou⟩
   have hi'k':i'<rows.length/\k'<sz':=by
    unfold cellAt at hcc;cases hx0:rows[i']? with
    |none=>rw[hx0]at hcc;cases hcc
    |some r1=>
     rw[hx0]at hcc;refine⟨(gh.1 hx0).1,?_⟩;have:=hB.row r1 (gu hx0);rw[<-this];exact(gh.1 hcc).1
   rw[hcget,gp]
   .exact hu
   .rw[hpos i' k' hi'k'.1 hi'k'.2,hvl];exact hnot
def zb(P:Program)(f:FuncId)(H:zn)(args:List C)(r:C)(H':zn):Prop:=
 ∀(w:World) (E:Env) (vs:Array Value),qC w E H->LL E args vs.toList->
  Calls P f vs w λe w'=>∃v E',e=.returned v/\qC w' E' H'/\L E' r v/\Grow w E H w' E' H'
def qh(P:Program)(f:FuncId):Bool:=
 match P.funcs[f]? with
 |some fn => !(fn.name == "runtime.NumGoroutine") && fn.body.isSome
 |none=>false
def fO.call(cl:Call)(ho:o.op=.call cl)(x:Operand)(hcl:cl.callee=.value x){f:FuncId}{first caps:List C}(hf:ρ x=.fn f first caps)(hcb:qh P f=true){r:C}
 (hs:zb P f H (first++(cl.args.toList.map ρ)++caps) r H'):fO P o ρ H r H':=λw E σ hh hl K hk=>by
 have h0:=hl x (by simp[ho,Op.operands,Call.operands,hcl]);rw[hf]at h0
 obtain⟨ys,zs,hv,h1,h2,h3,h4⟩:∃ys zs,σ x=.func (.func f) ys zs/\first.length=ys.size/\caps.length=zs.size/\(∀(i:Nat) c y,first[i]?=some c->ys[i]?=some y->L E c y)/\(∀(i:Nat) c y,caps[i]?=some c->zs[i]?=some y->L E c y):=by
  generalize σ x=u at *;cases h0 with
  |fn f first caps ys zs h1 h2 h3 h4=>exact⟨ys,zs,rfl,h1,h2,h3,h4⟩
 unfold qh at hcb;split at hcb
 rotate_left
 .cases hcb
 rename_i fn hfn;simp only[gH,pK]at hcb;have hname : fn.name ≠ "runtime.NumGoroutine" := by simpa using hcb.1
 have hbody:fn.body≠none:=by intro hb;simp[hb]at hcb
 have hr:(execOp σ o).run P w=.ok (.enter f (ys++cl.args.map σ++zs)) w:=by
  unfold execOp;simp[ho,resolve,hcl,hv,Deferred.ofValue,invoke,callFunc,hfn,hname,hbody]
 rw[hr];refine(hs w E (ys++cl.args.map σ++zs) hh ?_).mono ?_
 .have e1:LL E first ys.toList:=⟨by simpa using h1,λi c y e1 e2=>h3 i c y e1 (by simpa using e2)⟩;have e2:LL E caps zs.toList:=⟨by simpa using h2,λi c y e1 e2=>h4 i c y e1 (by simpa using e2)⟩
  have e3:LL E (cl.args.toList.map ρ) (cl.args.map σ).toList:=by
   refine⟨by simp,?_⟩;intro i c y hc hy;rw[gy]at hc;rw[u9,gy]at hy;cases ha:cl.args.toList[i]? with
   |none=>rw[ha]at hc;cases hc
   |some a=>
    rw[ha]at hc hy;cases hc
    cases hy
    exact hl a (by simp[ho,Op.operands,Call.operands];right;have:=gu ha;simpa using this)
  have:=(e1.append e3).append e2;simpa using this
 .rintro e w' ⟨v,E',rfl,h5,h6,h7⟩;exact⟨v,rfl,hk v w' E' h5 h6 h7⟩
end
section
variable {P:Program} {o:Oper} {ρ:Operand->C} {H:zn}
def qU.extract(x:Operand)(n:Nat)(ho:o.op=.extract x n){vs:List C}(hx:ρ x=.fJ vs){c:C}(hc:vs[n]?=some c):qU P o ρ H c H:=λw E σ hh hl K hk=>by
 have h0:=hl x (by simp[ho,Op.operands]);rw[hx]at h0
 obtain⟨ys,hy,hlen,hll⟩:∃ys,σ x=.tuple ys/\vs.length=ys.size/\∀(i:Nat) c y,vs[i]?=some c->ys[i]?=some y->L E c y:=by
  generalize σ x=u at *;cases h0 with
  |fJ _ ys h1 h2=>exact⟨ys,rfl,h1,h2⟩
 have fE:n<ys.size:=by rw[<-hlen];exact(gh.1 hc).1
 have hr:(execOp σ o).run P w=.ok (.value ys[n]) w:=by
  unfold execOp;simp[ho,Instr.extract,hy,fE]
 rw[hr];exact hk _ w E hh (hll n c _ hc (by simp[fE])) (qL.refl w E H)
def LN:C->Bool
 |.ref .. |.jy _|.fn ..=>true
 |_=>false
def qU.nilCheck(x:Operand)(ho:o.op=.nilCheck x)(hx:LN (ρ x)=true):qU P o ρ H (ρ x) H:=λw E σ hh hl K hk=>by
 have h0:=hl x (by simp[ho,Op.operands])
 have hr:(execOp σ o).run P w=.ok (.value (σ x)) w:=by
  unfold execOp;generalize ρ x=c at *;generalize hu:σ x=u at *;cases h0 <;> first|(simp[LN]at hx;done)|(simp only[ho,hu];rfl)
 rw[hr];exact hk _ w E hh h0 (qL.refl w E H)
def qU.makeFunc(f:FuncId)(first caps:Array Operand)(ho:o.op=.makeFunc (.func f) first caps):qU P o ρ H (.fn f (first.toList.map ρ) (caps.toList.map ρ)) H:=λw E σ hh hl K hk=>by
 have hr:(execOp σ o).run P w=.ok (.value (.func (.func f) (first.map σ) (caps.map σ))) w:=by
  unfold execOp;simp only[ho]
  rfl
 rw[hr];refine hk _ w E hh (.fn f _ _ _ _ (by simp) (by simp) ?_ ?_) (qL.refl w E H)
 .intro i c y hc hy;rw[gy]at hc;rw[eP]at hy;cases ha:first[i]? with
  |none=>rw[ha]at hy;cases hy
  |some a=>
   rw[pD,ha]at hc;rw[ha]at hy;cases hc
   cases hy
   exact hl a (by simp[ho,Op.operands];left;exact r8 ha)
 .intro i c y hc hy;rw[gy]at hc;rw[eP]at hy;cases ha:caps[i]? with
  |none=>rw[ha]at hy;cases hy
  |some a=>
   rw[pD,ha]at hc;rw[ha]at hy;cases hc
   cases hy
   exact hl a (by simp[ho,Op.operands];right;exact r8 ha)
def Cb(place:Nat->Option (Nat×Nat)):List C->List (Nat×C)->Option (List C)
 |cells,[]=>some cells
 |cells,(i,c)::rest=>match place i with
  |none=>none
  |some (off,size)=>if nr c && (c.cells.length == size) && decide (off+size<=cells.length) then Cb place (yh off c.cells cells) rest else none
def P8:∀(vs:List Value) (off k:Nat) (cells:Array Value),off+k+vs.length<=cells.size->
  ((vs.zipIdx k).foldl (λcs (p:Value×Nat)=>cs.setIfInBounds (off+p.2) p.1) cells).size=cells.size/\
  ∀j:Nat,((vs.zipIdx k).foldl (λcs (p:Value×Nat)=>cs.setIfInBounds (off+p.2) p.1) cells)[j]?=if off+k<=j/\j<off+k+vs.length then vs[j-(off+k)]? else cells[j]?
 |[],off,k,cells,h=>⟨rfl,λj=>by rw[gp (by simp)];rfl⟩
 |v::vs,off,k,cells,h=>by
  simp only[List.zipIdx_cons,fq,ry]at h|-;have ih:=P8 vs off (k+1) (cells.setIfInBounds (off+k) v) (by simp;omega);refine⟨by rw[ih.1];simp,?_⟩;intro j;rw[ih.2 j];by_cases h1:off+k=j
  .subst h1;rw[gp (by omega),gz (by omega),tU];simp;omega
  .by_cases h2:off+(k+1)<=j/\j<off+(k+1)+vs.length
   .rw[gz h2,gz (by omega),show j-(off+k)=(j-(off+(k+1)))+1 from by omega];simp
   .rw[gp h2,gp (by omega),tU];simp[h1]
def HY{E:Env}{place:Nat->Option (Nat×Nat)}{ρ:Operand->C}{σ:Operand->Value}:∀(parts:List (Nat×Operand)) (cs:List C) (arr:Array Value),LL E cs arr.toList->(∀u∈arr,u.oneCell'=true)->cs.all zB=true->
  (∀p∈parts,L E (ρ p.2) (σ p.2))->∀cs',Cb place cs (parts.map λp=>(p.1,ρ p.2))=some cs'->
  ∃arr',Instr.fill place arr (parts.map λp=>(p.1,σ p.2))=some arr'/\LL E cs' arr'.toList/\(∀u∈arr',u.oneCell'=true)/\cs'.all zB=true
 |[],cs,arr,hl,h1,hno,_,cs',h=>by
  simp only[tT,Cb,gX]at h;subst h;exact⟨arr,rfl,hl,h1,hno⟩
 |(i,x)::rest,cs,arr,hl,h1,hno,hp,cs',h=>by
  simp only[pP,Cb]at h;split at h
  .cases h
  .rename_i off size hpl;split at h
   .rename_i hcond;simp only[gH,pT,gR]at hcond;obtain⟨⟨hv,hsz⟩,hfit⟩:=hcond;have hx:=hp (i,x) (by simp);obtain⟨hll,hone,hnoc⟩:=J7 hx hv;have hlen:(σ x).cells.size=size:=by have:=hll.1;simp at this;omega
    have hal:arr.size=cs.length:=by have:=hl.1;simp at this;omega
    obtain⟨vs,hvs⟩:∃vs,vs=(σ x).cells.toList:=⟨_,rfl⟩;have hvl:vs.length=size:=by rw[hvs];simpa using hlen
    have hfold:=P8 vs off 0 arr (by omega)
    have hfe:(σ x).cells.zipIdx.foldl (λcs (p:Value×Nat)=>cs.setIfInBounds (off+p.2) p.1) arr=(vs.zipIdx 0).foldl (λcs (p:Value×Nat)=>cs.setIfInBounds (off+p.2) p.1) arr:=by
     rw[<-Array.foldl_toList,Array.toList_zipIdx,hvs]
    obtain⟨arr2,harr2⟩:∃arr2,arr2=(vs.zipIdx 0).foldl (λcs (p:Value×Nat)=>cs.setIfInBounds (off+p.2) p.1) arr:=⟨_,rfl⟩;rw[<-harr2]at hfold hfe;have hcl:(ρ x).cells.length=size:=hsz
    have hl2:LL E (yh off (ρ x).cells cs) arr2.toList:=by
     refine⟨by rw[N3 (by omega)];simp[hfold.1,hal],?_⟩;intro j c y hc hy;rw[OG (by omega)]at hc;rw[pD,hfold.2 j]at hy;simp only[sy]at hy;split at hc
     .rename_i hin;rw[gz (by omega)]at hy;exact hll.2 _ c y hc (by rw[<-hvs];exact hy)
     .rename_i hin;rw[gp (by omega)]at hy;exact hl.2 j c y hc (by simpa using hy)
    have hone2:∀u∈arr2,u.oneCell'=true:=by
     intro u hu;obtain⟨j,hj⟩:=uz.1 hu;rw[hfold.2 j]at hj;split at hj
     .have:=gu hj;rw[hvs]at this;exact hone u (by simpa using this)
     .exact h1 u (r8 hj)
    have hno2:(yh off (ρ x).cells cs).all zB=true:=by
     rw[gE];intro c hc;unfold yh at hc;simp only[pw]at hc;rcases hc with(hc|hc)|hc
     .exact gE.1 hno c (rH hc)
     .exact gE.1 hnoc c hc
     .exact gE.1 hno c (sa hc)
    obtain⟨arr',e1,e2,e3,e4⟩:=HY rest _ arr2 hl2 hone2 hno2 (λp hpm=>hp p (by simp[hpm])) cs' h;refine⟨arr',?_,e2,e3,e4⟩;simp only[pP,Instr.fill,hpl];rw[gp (by simp[hlen];omega),hfe];exact e1
   .cases h
def Il(P:Program)(t:TypeId)(parts:List (Nat×C)):Option (List C):=
 match ox P t,P.underlying t with
 |some z,some (.array _ e)=>
  match P.info? e with
  |some ie=>Cb (λi=>some (i*ie.size,ie.size)) z parts
  |none=>none
 |some z,some (.struct fields)=>
  match fields.toList.mapM (λf=>(P.info? f.type).map λi=>(f.offset,i.size)) with
  |some places=>Cb (places.toArray[·]?) z parts
  |none=>none
 |_,_=>none
def qU.build(t:TypeId)(parts:Array (Nat×Operand))(ho:o.op=.build t parts)(hb:Il P t (parts.toList.map λp=>(p.1,ρ p.2))=some cs):qU P o ρ H (.agg cs) H:=λw E σ hh hl K hk=>by
 have hp:∀p∈parts.toList,L E (ρ p.2) (σ p.2):=λp hpm=>hl p.2 (by
  simp only[ho,Op.operands];exact(List.mem_toArray).2 (gY.2 ⟨p,hpm,rfl⟩))
 have main:∃arr,P.built t (parts.map λ(i,x)=>(i,σ x)).toList=some arr/\LL E cs arr.toList/\(∀u∈arr,u.oneCell'=true):=by
  have e0:(parts.map λ(i,x)=>(i,σ x)).toList=parts.toList.map λp=>(p.1,σ p.2):=by simp
  rw[e0];unfold Il at hb;split at hb
  .rename_i z n e hz hu;split at hb
   .rename_i ie hie;obtain⟨it,zv,h1,h2,h3,h4,h5,h6,h7⟩:=Fy hz E;obtain⟨arr,a1,a2,a3,a4⟩:=HY parts.toList z zv.cells h3 h4 h6 hp cs hb;exact⟨arr,by simp only[Program.built,h1,hu,h2,hie];exact a1,a2,a3⟩
   .cases hb
  .rename_i z fields hz hu;split at hb
   .rename_i places hpl;obtain⟨it,zv,h1,h2,h3,h4,h5,h6,h7⟩:=Fy hz E;obtain⟨arr,a1,a2,a3,a4⟩:=HY parts.toList z zv.cells h3 h4 h6 hp cs hb;exact⟨arr,by simp only[Program.built,h1,hu,h2,hpl];exact a1,a2,a3⟩
   .cases hb
  .cases hb
 obtain⟨arr,h1,h2,h3⟩:=main
 have hr:(execOp σ o).run P w=.ok (.value (.agg arr)) w:=by
  unfold execOp;simp only[ho,Sem.run_bind,run_build w t _ arr h1,Result.andThen_ok]
  rfl
 rw[hr];exact hk _ w E hh (.agg cs arr (by simpa using h2.1) (λi c y e1 e2=>h2.2 i c y e1 (by simpa using e2)) h3) (qL.refl w E H)
def qU.len(cl:Call)(ho:o.op=.call cl)(hcl:cl.callee=.builtin .len)(x:Operand)(hx:cl.args= #[x])(ht:cl.argTypes= #[t])(hu:P.underlying t=some (.slice e))
 {n:Nat}(hn:IV (ρ x)=some n):qU P o ρ H (.v (.int .i64 n)) H:=λw E σ hh hl K hk=>by
 have h0:=hl x (by simp[ho,Op.operands,Call.operands,hcl,hx])
 have hv:∃a cap,σ x=.slice a n cap:=by
  generalize ρ x=c at *;generalize σ x=u at *;cases h0 <;> first|(simp[IV]at hn;done)|(simp only[IV,gX]at hn;subst hn;exact⟨_,_,rfl⟩)
 obtain⟨a,cap,hv⟩:=hv
 have hr:(execOp σ o).run P w=.ok (.value (.int .i64 n)) w:=by
  unfold execOp;simp[ho,resolve,hcl,hx,ht,invoke,builtin,Builtin.len_,hv,run_underlying hu,goInt]
 rw[hr];exact hk _ w E hh (.v _ V) (qL.refl w E H)
def BC(P:Program)(t:TypeId)(cs:List C)(off:Nat):Option C:=
 match P.underlying t,P.info? t with
 |some d,some i=>if El d then (if decide (off+i.size<=cs.length) then some (.agg ((cs.drop off).take i.size)) else none) else cs[off]?
 |_,_=>none
def D4{ys:Array Value}(hll:LL E cs ys.toList)(h1:∀y∈ys,y.oneCell'=true)(hc:BC P t cs off=some c):
  ∃y,(part t ys off).run P w=.ok y w/\L E c y:=by
 unfold BC at hc;split at hc
 .rename_i d i hd hi;split at hc
  .rename_i hag;split at hc
   .rename_i hlen;simp only[gR]at hlen;cases hc
    have hy:=hll.1;simp at hy;refine⟨.agg (ys.extract off (off+i.size)),by simp[part,D1 hd,hag,jD hi],.agg _ _ (by simp;omega) ?_ ?_⟩
    .intro k c y hc hy';rw[pB]at hc;split at hc
     .rename_i hk;rw[rb]at hc;rw[Array.getElem?_extract]at hy';split at hy'
      .exact hll.2 _ c y hc (by simpa using hy')
      .cases hy'
     .cases hc
    .intro y hym;obtain⟨k,hk⟩:=uz.1 hym;rw[Array.getElem?_extract]at hk;split at hk
     .exact h1 y (r8 hk)
     .cases hk
   .cases hc
  .rename_i hag;obtain⟨y,hy,hly⟩:=hll.get hc;rw[pD]at hy;exact⟨y,by simp[part,D1 hd,hag,hy],hly⟩
 .cases hc
def qU.field(t:TypeId)(x:Operand)(f:Nat)(ho:o.op=.field t x f){fs:Array Field}{fd:Field}(ht:P.underlying t=some (.struct fs))(hf:fs[f]?=some fd){cs:List C}(hx:ρ x=.agg cs){c:C}
 (hc:BC P fd.type cs fd.offset=some c):qU P o ρ H c H:=λw E σ hh hl K hk=>by
 have h0:=hl x (by simp[ho,Op.operands]);rw[hx]at h0
 obtain⟨ys,hy,hll,h1⟩:∃ys,σ x=.agg ys/\LL E cs ys.toList/\∀y∈ys,y.oneCell'=true:=by
  generalize σ x=u at *;cases h0 with
  |agg _ ys h1 h2 h3=>exact⟨ys,rfl,⟨by simpa using h1,λi c y e1 e2=>h2 i c y e1 (by simpa using e2)⟩,h3⟩
 obtain⟨y,hr0,hly⟩:=D4 (w:=w) hll h1 hc
 have hr:(execOp σ o).run P w=.ok (.value y) w:=by
  unfold execOp;simp[ho,Instr.field,run_underlying ht,hf,hy,asAgg,hr0]
 rw[hr];exact hk _ w E hh hly (qL.refl w E H)
def qU.Yk(t:TypeId)(x y:Operand)(ho:o.op=.index t x y){n:Nat}(ht:P.underlying t=some (.array n e))(hi:P.info? e=some i)(hx:ρ x=.agg cs)
 {k:IntKind}{j:Int}(hy:ρ y=.v (.int k j))(h0:0<=j)(h1:j<n){c:C}(hc:BC P e cs (j.toNat*i.size)=some c):qU P o ρ H c H:=λw E σ hh hl K hk=>by
 have hlx:=hl x (by simp[ho,Op.operands]);have hly:=hl y (by simp[ho,Op.operands]);rw[hx]at hlx;rw[hy]at hly
 obtain⟨ys,hyx,hll,hone⟩:∃ys,σ x=.agg ys/\LL E cs ys.toList/\∀y∈ys,y.oneCell'=true:=by
  generalize σ x=u at *;cases hlx with
  |agg _ ys h1 h2 h3=>exact⟨ys,rfl,⟨by simpa using h1,λi c y e1 e2=>h2 i c y e1 (by simpa using e2)⟩,h3⟩
 have hyv:σ y=.int k j:=by generalize σ y=u at *;cases hly;rfl
 obtain⟨y',hr0,hly'⟩:=D4 (w:=w) hll hone hc
 have hr:(execOp σ o).run P w=.ok (.value y') w:=by
  unfold execOp;simp[ho,Instr.index,asIntOf,hyv,run_underlying ht,hyx,h0,h1,jD hi,hr0]
 rw[hr];exact hk _ w E hh hly' (qL.refl w E H)
end
section
variable {P:Program} {o:Oper} {ρ:Operand->C} {H:zn}
def xU(H:zn):C->Option (Nat×List (List C))
 |.fF o sz rows=>if o == 0 || o == 1 then some (sz,rows) else none
 |.sl id hops sz lo len _=>match H[id]?,qd H id hops with
  |some ob,some (sz',rows)=>if (sz' == sz) && (ob.kind == 2) && decide (lo+len<=rows.length) && ((rows.drop lo).take len).all (·.all zB) then some (sz,(rows.drop lo).take len) else none
  |_,_=>none
 |_=>none
structure mZ(E:Env)(sz:Nat)(rows:List (List C))(vals:List Value):Prop where
 len:vals.length=rows.length*sz
 row:∀r∈rows,r.length=sz
 cell:∀i k c,cellAt rows i k=some c->∃u,vals[i*sz+k]?=some u/\L E.shut c u
 one:∀u∈vals,u.oneCell'=true
def Hq(hrow:∀r∈rows,r.length=sz){i k:Nat}(h:cellAt rows i k=some c):i<rows.length/\k<sz:=by
 unfold cellAt at h;cases hx:rows[i]? with
 |none=>rw[hx]at h;cases h
 |some r=>
  rw[hx]at h;refine⟨(gh.1 hx).1,?_⟩;rw[<-hrow r (gu hx)];exact(gh.1 h).1
def GU(hrow:∀r∈rows,r.length=sz){i k:Nat}(hi:i<rows.length)(hk:k<sz):∃c,cellAt rows i k=some c:=by
 have hr:rows[i]?=some rows[i]:=by simp[hi]
 have hl:=hrow _ (gu hr);exact⟨rows[i][k]'(by omega),by simp only[cellAt,hr,gW];exact gk (by omega)⟩
def JS{n j:Nat}(h:j<n*sz):j / sz<n/\j%sz<sz/\j / sz*sz+j%sz=j:=by
 have hsz:0<sz:=by rcases sV sz with rfl|h' <;> simp_all
 refine⟨Nat.div_lt_of_lt_mul (by rw[tu];exact h),Nat.mod_lt _ hsz,?_⟩;rw[tu];exact Nat.div_add_mod j sz
def mZ.append{vals vals':List Value}(h:mZ E sz rows vals)(h':mZ E sz rows' vals'):mZ E sz (rows++rows') (vals++vals') where
 len:=by rw[pz,pz,h.len,h'.len,rk]
 row r hr:=by rcases pw.1 hr with hr|hr;exact h.row r hr;exact h'.row r hr
 cell i k c hc:=by
  by_cases hi:i<rows.length
  .have hc':cellAt rows i k=some c:=by unfold cellAt at hc|-;rw[gF hi]at hc;exact hc
   obtain⟨u,hu,hl⟩:=h.cell i k c hc';exact⟨u,by rw[gF ((gh.1 hu).1)];exact hu,hl⟩
  .have hc':cellAt rows' (i-rows.length) k=some c:=by unfold cellAt at hc|-;rw[gP (by omega)]at hc;exact hc
   obtain⟨u,hu,hl⟩:=h'.cell _ k c hc';refine⟨u,?_,hl⟩;have hge:rows.length*sz<=i*sz:=p7 _ (by omega);rw[gP (by rw[h.len];omega),h.len];have:i*sz+k-rows.length*sz=(i-rows.length)*sz+k:=by rw[Nat.sub_mul];omega
   rw[this];exact hu
 one u hu:=by rcases pw.1 hu with hu|hu;exact h.one u hu;exact h'.one u hu
def yJ(h:qn w E H)(hl:L E c y)(hr:xU H c=some (sz,rows)):
  (rows=[]/\y=.slice none 0 0)\/∃a cap vals,y=.slice (some a) rows.length cap/\rows.length<=cap/\mZ E sz rows vals/\(∀(j:Nat) u,vals[j]?=some u->w.cell? (a.add j)=some u):=by
 cases hl with
 |xE o sz' ho a=>
  simp only[xU]at hr;split at hr
  .cases hr
   cases a with
   |none=>exact .inl ⟨rfl,rfl⟩
   |some a=>exact .inr ⟨a,0,[],rfl,gG _,⟨by simp,by simp,by simp[cellAt],by simp⟩,by simp⟩
  .cases hr
 |fF o sz' rows' b off cap us ho hc hsz hst hL=>
  simp only[xU]at hr;split at hr
  .cases hr
   right
   have key:∀j,j<rows.length*sz->∃c,cellAt rows (j / sz) (j%sz)=some c/\E.St b (off+j)=some (us (j / sz) (j%sz)):=by
    intro j hj;obtain⟨h1,h2,h3⟩:=JS hj;obtain⟨c,hcc⟩:=GU hsz h1 h2;refine⟨c,hcc,?_⟩;have hr0:rows[j / sz]?=some rows[j / sz]:=by simp[h1]
    have:=hst (j / sz) _ (j%sz) c hr0 (by unfold cellAt at hcc;rw[hr0]at hcc;exact hcc);rw[se,h3]at this;exact this
   refine⟨_,cap,(List.range (rows.length*sz)).map (λj=>us (j / sz) (j%sz)),rfl,hc,⟨by simp,hsz,?_,?_⟩,?_⟩
   .intro i k c hcc;obtain⟨h1,h2⟩:=Hq hsz hcc;have hr0:rows[i]?=some rows[i]:=by simp[h1]
    have fE:i*sz+k<rows.length*sz:=by
     have:(i+1)*sz<=rows.length*sz:=p7 _ h1;rw[rk]at this;omega
    have e1:(i*sz+k) / sz=i:=by rw[tu,Nat.mul_add_div (by omega),Nat.div_eq_of_lt h2];rfl
    have e2:(i*sz+k)%sz=k:=by rw[tu,ft,u7 h2]
    refine⟨us i k,by simp[fE,e1,e2],hL i _ k c hr0 (by unfold cellAt at hcc;rw[hr0]at hcc;exact hcc)⟩
   .intro u hu;obtain⟨j,hj,rfl⟩:=gY.1 hu;obtain⟨c,_,hs⟩:=key j (by simpa using hj);exact(h.qA _ _ _ hs).2
   .intro j u hj;rw[gy]at hj;cases hjr:(List.range (rows.length*sz))[j]? with
    |none=>rw[hjr]at hj;cases hj
    |some j'=>
     rw[hjr]at hj;obtain⟨hjlt,hj'⟩:=gh.1 hjr;simp at hj' hjlt;subst hj';cases hj
     obtain⟨c,_,hs⟩:=key j hjlt;rw[xY];exact(h.qA _ _ _ hs).1
  .cases hr
 |sl id hops sz' lo len full cap hn hlen hf hf'=>
  simp only[xU]at hr;split at hr
  rotate_left
  .cases hr
  rename_i ob sz2 rows2 hob hb;split at hr
  rotate_left
  .cases hr
  rename_i hcond;simp only[gH,pT,gR,gE]at hcond;obtain⟨⟨⟨rfl,hkd⟩,hfit⟩,hno⟩:=hcond;cases hr
  right
  have hB:=h.fR id ob hops _ rows2 hob hb;obtain⟨cur,e,hg,hcs,hcell⟩:=hB.fR;have hrl:((rows2.drop lo).take len).length=len:=by simp;omega
  have hsub:∀i k,cellAt ((rows2.drop lo).take len) i k=if i<len then cellAt rows2 (lo+i) k else none:=by
   intro i k;unfold cellAt;rw[pB];split
   .rw[rb]
   .rfl
  have hrow:∀r∈(rows2.drop lo).take len,r.length=sz:=λr hr=>hB.row r (sa (rH hr))
  have key:∀j,j<len*sz->∃c u,cellAt ((rows2.drop lo).take len) (j / sz) (j%sz)=some c/\cur[lo*sz+j]?=some u/\L E.shut c u/\u.oneCell'=true:=by
   intro j hj;obtain⟨h1,h2,h3⟩:=JS hj;obtain⟨c,hcc⟩:=GU hrow (by rw[hrl];exact h1) h2;have hcc2:=hcc;rw[hsub,gz h1]at hcc2;obtain⟨u,hu,ho⟩:=hcell _ _ c hcc2
   have hnc:zB c=true:=by
    unfold cellAt at hcc;cases hx:((rows2.drop lo).take len)[j / sz]? with
    |none=>rw[hx]at hcc;cases hcc
    |some r=>
     rw[hx]at hcc;exact hno r (gu hx) c (gu hcc)
   rw[jf.loose hnc]at ho;refine⟨c,u,hcc,?_,by simpa [Env.at,hkd] using ho.1,ho.2⟩;have:(lo+j / sz)*sz+j%sz=lo*sz+j:=by rw[rk];omega
   rw[<-this];exact hu
  have hlen2:len=((rows2.drop lo).take len).length:=hrl.symm;refine⟨_,cap,(List.range (len*sz)).map (λj=>cur.getD (lo*sz+j) undef),by rw[<-hlen2],by rw[<-hlen2];exact hlen,⟨by simp[hrl],hrow,?_,?_⟩,?_⟩
  .intro i k c hcc;obtain⟨h1,h2⟩:=Hq hrow hcc;rw[hrl]at h1
   have fE:i*sz+k<len*sz:=by
    have:(i+1)*sz<=len*sz:=p7 _ h1;rw[rk]at this;omega
   obtain⟨c',u,h3,h4,h5,_⟩:=key _ fE;have e1:(i*sz+k) / sz=i:=by rw[tu,Nat.mul_add_div (by omega),Nat.div_eq_of_lt h2];rfl
   have e2:(i*sz+k)%sz=k:=by rw[tu,ft,u7 h2]
   rw[e1,e2,hcc]at h3;cases h3
   refine⟨u,?_,h5⟩;simp only[gy,rU fE,gK,pO,h4,Option.getD_some]
  .intro u hu;obtain⟨j,hj,rfl⟩:=gY.1 hu;obtain⟨c,u,_,h4,_,h6⟩:=key j (by simpa using hj);simpa [pO,h4] using h6
  .intro j u hj;rw[gy]at hj;cases hjr:(List.range (len*sz))[j]? with
   |none=>rw[hjr]at hj;cases hj
   |some j'=>
    rw[hjr]at hj;obtain⟨hjlt,hj'⟩:=gh.1 hjr;simp at hj' hjlt;subst hj';obtain⟨c,u',_,h4,_,_⟩:=key j hjlt;simp only[gK,pO,h4,Option.getD_some,gX]at hj;subst hj;rw[xY];unfold World.cell?;rw[hg];simpa using h4
 |_=>simp[xU]at hr
end
abbrev tY(l:List C):List C:=.za::.za::.za::.za::.za::.za::.za::.za::l
abbrev jp(l:List C):List C:=tY (tY (tY (tY l)))
abbrev td:List C:=[.ref 5 [] 8 0 0,.ref 6 [] 44 0 0]
abbrev tf:List C:=[.ref 0 [] 8 0 0,.ref 1 [] 44 0 0]
def zz(h:q):H=H/\q:=⟨rfl,h⟩
def dd(h:q)(e:q→p:=by intro zh;(conv=>whnf);(try apply zz;conv=>whnf);exact zh):p:=e h
def ya(h:p):(true=true→p)/\(true=false→q):=⟨λ_=>h,λh=>nomatch h⟩
def yb(h:q):(false=true→p)/\(false=false→q):=⟨λh=>(nomatch h),λ_=>h⟩
def hC(n:p:=by (conv=>whnf);(repeat (refine⟨rfl,?_⟩;(conv=>whnf)));exact trivial):p:=n
def hU(h:q)(e:q->g:=by intro zh;(repeat (refine⟨rfl,?_⟩;(conv=>whnf)));exact zh):g:=e h
def hZ(h:q)(e:q->g:=by intro zh;(repeat ((first|apply ya|apply yb);(conv=>whnf);(try apply zz;conv=>whnf)));exact zh):g:=e h
def tc{l:List α}{k:Nat}{x:α}{P:α->Prop}(hg:l[k]?=some x)(h:q)(e:q->P x:=by intro zh;(conv=>whnf);(try apply zz;conv=>whnf);exact zh):0<=(k:Int)/\∃r,l[(k:Int).toNat]?=some r/\P r:=⟨eR k,x,hg,e h⟩
def uA{a b s:Prop}(h:q)(n:b->False:=by intro h;first|(simp[hpc]at h;done)|(have h:=gL h;omega)|(have h:=rE h;omega))(e:q->p:=by intro zh;(conv=>whnf);(try apply zz;conv=>whnf);exact zh):(a->p)/\(b->s):=⟨λ_=>e h,λx=>(n x).elim⟩
def uB{a b s:Prop}(h:q)(n:a->False:=by intro h;first|(simp[hpc]at h;done)|(have h:=gL h;omega)|(have h:=rE h;omega))(e:q->s:=by intro zh;(conv=>whnf);(try apply zz;conv=>whnf);exact zh):(a->p)/\(b->s):=⟨λx=>(n x).elim,λ_=>e h⟩
def uC(h:q)(e:q->g:=by intro zh;(first|apply ya|apply yb);(conv=>whnf);(try apply zz;conv=>whnf);exact zh):g:=e h
def uD(h:q)(e:q->g:=by intro zh;(conv=>whnf);(refine⟨λh=>absurd h (by simp),λ_=>?_⟩);(conv=>whnf);(try apply zz;conv=>whnf);(refine⟨by simp,?_⟩);(conv=>whnf);exact zh):g:=e h
def uE(h:q)(e:q->g:=by intro zh;refine .inl ⟨⟨false,[],[],[]⟩,by kernel_rfl,?_⟩;(conv=>whnf);exact zh):g:=e h
def uF{a b s:Prop}(h:q)(n:b->False:=by intro h;exact absurd h (by simp;omega))(e:q->p:=by intro zh;(conv=>whnf);(try apply zz;conv=>whnf);exact zh):(a->p)/\(b->s):=⟨λ_=>e h,λx=>(n x).elim⟩
def uG(h:q)(e:q->g:=by intro zh;refine⟨λh=>absurd h (by simp),λ_=>?_⟩;(conv=>whnf);(try apply zz;conv=>whnf);exact zh):g:=e h
def uH(h:q)(e:q->g:=by intro zh;(conv=>whnf);exact zh):g:=e h
def uI(e:g:=by exact⟨.inl V,_,.refl _,rfl⟩):g:=e
def uJ(e:g:=by exact⟨.inl V,_,.refl _,rfl,rfl⟩):g:=e
def uK(n:p->q:=by intro h;dsimp only at h;omega):p->q:=n
def uL(n:p:=by dsimp only;omega):p:=n
def uM(n:p:=by (try dsimp only);(repeat' split) <;> omega):p:=n
def uN{b b2:Bool}(h:b=b2):some (C.v (Value.bool b))=some (C.v (Value.bool b2)):=rq (λb=>some (C.v (Value.bool b))) h
def uO(n:p:=by exact⟨tm.listen,tm.word,tm.link,tm.host,tm.path,tm.d0,tm.d1,tm.cfg,tm.nA⟩):p:=n
def uP(n:p:=by exact⟨tm.listen,tm.word,tm.link,tm.host,tm.path,tm.d0,tm.d1,tm.cfg,(λh=>absurd ((show m.op.kind=6 from h).symm.trans hk) (by decide))⟩):p:=n
def uQ(n:p:=by exact⟨su.world,su.zf,su.done,su.version,su.fZ,su.zg,su.fY,su.end_,su.ib,su.other,su.slot,su.listen,su.i,su.k⟩):p:=n
def uR(n:p:=by exact⟨su.world,su.zf,su.done,su.version,su.fZ,su.zg,su.fY,su.end_,su.ib,su.other,su.slot,su.listen,(by show 0<=m.i+1;omega),su.k⟩):p:=n
def uS(n:p:=by exact⟨su.world,su.zf,su.done,su.version,su.fZ,su.zg,su.fY,su.end_,su.ib,su.other,su.slot,su.listen,gO _,su.k⟩):p:=n
def uT(n:p:=by exact⟨su.world,su.zf,su.done,su.version,su.fZ,su.zg,su.fY,su.end_,su.ib,su.other,su.slot,su.listen,su.i,(by show 0<=m.k+1;omega)⟩):p:=n
def uU(n:p:=by (show zL _ _::zL _ _::zL _ ⟨1,0,5,_,0⟩::zL _ ⟨1,0,2,_,0⟩::zL _ ⟨1,0,3,_,0⟩::_=_);(rw[zH (enc:=zM) (λ_=>V),zH (enc:=zK) (λ_=>V),zH (enc:=zE) (λ_=>V)]);rfl):p:=n
def uV(n:p:=by (show zG _ _::zG _ _::zG _ ⟨1,0,5,_,0⟩::zG _ ⟨1,0,2,_,0⟩::zG _ ⟨1,0,3,_,0⟩::_=_);(rw[zy (enc:=zM) (λ_=>V),zy (enc:=zK) (λ_=>V),zy (enc:=zE) (λ_=>V)]);rfl):p:=n
def uW(n:p:=by show _::_::_::_::_::zG _ ⟨1,0,5,_,0⟩::zG _ ⟨1,0,2,_,0⟩::zG _ ⟨1,0,3,_,0⟩::_=_;rw[zy (enc:=zM) (λ_=>V),zy (enc:=zK) (λ_=>V),zy (enc:=zE) (λ_=>V)];rfl):p:=n
def uX(n:p:=by show(1:Int)≠0;decide):p:=n
def uY(n:p:=by simp[ho,Op.operands]):p:=n
def uZ(n:p:=by simpa using e2):p:=n
def tA(n:p:=by simp[ho,Op.operands,Call.operands,ht.callee,ht.args]):p:=n
def tB(n:p:=by rw[hs.heap.n];exact hs.base):p:=n
def tD(n:p:=by show zL _ _::zL _ _::zL _ ⟨1,0,5,_,0⟩::zL _ ⟨1,0,2,_,0⟩::zL _ ⟨1,0,3,_,0⟩::_=_;rw[zH (enc:=zM) (λ_=>V),zH (enc:=zK) (λ_=>V),zH (enc:=zE) (λ_=>V)];rfl):p:=n
def tE(n:p:=by rw[<-hh.n];exact hi):p:=n
def tG(n:p:=by simpa using h1):p:=n
def tH(n:p:=by rw[hx];exact pt hk):p:=n
def tI(n:p:=by show(2:Int)≠0;decide):p:=n
def tJ(n:p:=by show _::_::_::_::_::zG _ ⟨1,0,1,_,0⟩::_=_;rw[zy (enc:=zQ) (λ_=>V)];rfl):p:=n
def tK(n:p:=by rw[show B=0 from by simpa using h];rfl):p:=n
def tL(n:p:=by subst e;simp[ho,Op.operands]):p:=n
def tM(n:p:=by show(3:Int)≠0;decide):p:=n
def tN(n:p:=by rw[hh.n];exact hi):p:=n
def tO(n:p:=by simpa using h):p:=n
def tP(n:p:=by show 0+1<=1;decide):p:=n
def tR(n:p:=by simpa using fE):p:=n
def tS(n:p:=by simpa using h2):p:=n
end Go.Ab
structure zaa(q:Prop):Prop where
 o:q
def zab{p q:Prop}(h:q)(n:zaa q->p:=by intro zh;refine ah (zP w m ok hl) ?_;refine⟨λ_=>dd ?_,λh=>absurd ((hs).symm.trans h:true=false) ar⟩;exact zh.o):p:=n ⟨h⟩
def zac{p q:Prop}(h:q)(n:zaa q->p:=by intro zh;(repeat (first|refine uA ?_|refine uB ?_));exact zh.o):p:=n ⟨h⟩
def zad{p q:Prop}(h:q)(n:zaa q->p:=by intro zh;refine dd ?_;refine hZ ?_;exact zh.o):p:=n ⟨h⟩
def zae{p q:Prop}(h:q)(n:zaa q->p:=by intro zh;refine zX [] [oW w,oM m,⟨1,38,8,[lu],0⟩,⟨1,68,44,[lq],0⟩,oE qJ,⟨1,0,5,iO w m v0 (6),0⟩,⟨1,0,2,iK m v0 g0 (g0.zx) (7),0⟩,⟨1,0,3,iD m g0 e0 (e0.head) (8) (e0.zj),0⟩,oN e0] (rx:=.agg (l7 w 5)) (vb w sw w.ze V hp) (zd (zi (ownV 1)) (zd (zi (ownG 2 _)) (zd (zi (ownE 3 _ _)) V))) V V V V V uW V (dd ?_);refine zX [9,10,5,6,7,8] [oW w,oM m,⟨1,38,8,[lu],0⟩,⟨1,68,44,[lq],0⟩,oE qJ,⟨1,0,5,iO w m v0 (6),0⟩,⟨1,0,2,iK m v0 g0 (tk) (7),0⟩,⟨1,0,3,iD m g0 e0 (hd) (8) (ac),0⟩,oN e0,⟨1,38,8,[(l7 w 5)],0⟩,oM m'] (rx:=Ce e) h (zd V (zd V (zd (zi (ownV 3)) (zd (zi (ownG 4 _)) (zd (zi (ownE 5 _ _)) V))))) tD V V V (zd V (zd V (zd V (zd V (zd V (zd (zi (ownV 6)) (zd (zi (ownG 7 _)) (zd (zi (ownE 8 _ _)) V)))))))) uW V (dd ?_);refine .inl ⟨⟨false,[0,1,2],[9,10,11],[]⟩,au,uH ?_⟩;refine hU ?_;exact zh.o):p:=n ⟨h⟩
def zaf{p q:Prop}(h:q)(n:zaa q->p:=by intro zh;refine⟨.inl V,_,(((zp.zV 7 m.end_.toNat 1 V (ge _ _) V V (.inr V) aj aj (shut_map (enc:=encI) (λ_=>V) _) (ownE 8 _ _)).trans (zp.zV 6 m.zg.toNat 1 V (gg _) V V (.inl V) aj aj eshE (ownG 7 _))).trans (zp.zV 5 m.version.toNat 3 V gv V V (.inl V) aj aj eshG (ownV 6))).trans (zp.zV 2 0 4 V V V V (.inl V) aj aj eshV (qa V)),?_⟩;exact zh.o):p:=n ⟨h⟩
def zag{p q:Prop}(h:q)(n:zaa q->p:=by intro zh;refine⟨c0,hat.ln.le,dd ?_⟩;rw[e3];refine ah (Slp.qT m.word hw) ?_;refine .inr ⟨⟨[0,1,5,6,7],[0,1,7],true⟩,au,λ_=>(zd V (zd V (zd V (zd V (zd V (zd (zi (ownV 6)) (zd (zi (ownG 7 _)) (zd (zi (ownE 8 _ _)) V)))))))),_,uH ?_,λt2 H2 h=>h⟩;refine⟨_,ge _ _,cT,uH ?_⟩;refine⟨_,ai [] (Slp.qT e0.head hh),uH ?_⟩;refine⟨_,ai [] (vK w m v0 hat.toAH 1 8 (e0.head%4294967296-1)),uH ?_⟩;(refine⟨uH ?_,trivial⟩);(refine⟨(zd V (zd V (zd V (zd V (zd V (zd (zi (ownV 6)) (zd (zi (ownG 7 _)) (zd (zi (ownE 8 _ _)) V)))))))),uH ?_⟩);exact zh.o):p:=n ⟨h⟩
def zah{p q:Prop}(h:q)(n:zaa q->p:=by intro zh;refine zX [] [oW w,oM m,⟨1,38,8,[lu],0⟩,⟨1,68,44,[lq],0⟩,oE qJ,⟨1,0,5,iO w m v0 (6),0⟩,⟨1,0,2,iK m v0 g0 (g0.zx) (7),0⟩,⟨1,0,3,iD m g0 e0 (e0.head) (8) (e0.zj),0⟩,oN e0] (rx:=.agg (l7 w 5)) (vb w sw w.ze V hp) (zd (zi (ownV 1)) (zd (zi (ownG 2 _)) (zd (zi (ownE 3 _ _)) V))) V V V V V uW V (dd ?_);refine uE ?_;refine⟨a0,hat.ln.lv,dd ?_⟩;rw[e1];refine⟨_,gv,cQ,dd ?_⟩;refine⟨b0,hat.ln.lg,dd ?_⟩;rw[e2];refine⟨_,gg _,cR,dd ?_⟩;refine zag ?_;exact zh.o):p:=n ⟨h⟩
def zai{p:Prop}(n:p:=by (rw[pA]);refine uE ?_;refine⟨_,_,fO.mapUpdate (id:=1) _ _ _ _ (.inl V) underlying96 oA V V (e.zf) (λE u h=>jU h) (qo 0) (λE u h=>jU h),dd ?_⟩;rw[wq];(rw[hmd h5,gz h5]);exact uJ):p:=n
def zaj{p q:Prop}(h:q)(n:zaa q->p:=by intro zh;refine ah (hp x hxm) ?_;refine⟨aw,aA,dd ?_⟩;rw[e1];refine⟨_,xp aj hk,rfl,dd ?_⟩;refine .inl ⟨rfl,?_,trivial⟩;rw[zw aw,<-jh hF hk];exact zh.o):p:=n ⟨h⟩
def zak{p q:Prop}(h:q)(n:zaa q->p:=by intro zh;refine .inl ⟨⟨true,[2],[1],[0]⟩,au,uH ?_⟩;refine ah jE ?_;refine hU ?_;exact zh.o):p:=n ⟨h⟩
def zal{p q:Prop}(h:q)(n:zaa q->p:=by intro zh;refine .inr ⟨aj,uH ?_⟩;refine⟨.inl V,_,.refl _,rfl,?_⟩;exact zh.o):p:=n ⟨h⟩
def zam{p q:Prop}(h:q)(n:zaa q->p:=by intro zh;refine ah (Slp.qT m.word hw) ?_;refine .inr ⟨⟨[0,1,5,6,7],[0,1],true⟩,au,λ_=>V,_,uH ?_,λt2 H2 h=>h⟩;refine⟨_,ai [] (Slp.qT e.head hh),uH ?_⟩;refine⟨_,ai [] (vK w m v hat.toAH 1 8 (e.head%4294967296-1)),uH ?_⟩;(refine⟨uH ?_,trivial⟩);refine hU ?_;exact zh.o):p:=n ⟨h⟩
def zan{p q:Prop}(h:q)(n:zaa q->p:=by intro zh;refine uF ?_;(refine tc hg ?_);exact zh.o):p:=n ⟨h⟩
def zao{p q:Prop}(h:q)(n:zaa q->p:=by intro zh;refine af [] (Cz w.ze h.ze.1 λv hv=>jX v (h.ze.2 v hv)) ?_;refine ah (wA w.zc h.zc) ?_;refine af [] (Cy w.counts h.counts.1 λr hr=>yz r (h.counts.2 r hr)) ?_;exact zh.o):p:=n ⟨h⟩
def zap{p q:Prop}(h:q)(n:zaa q->p:=by intro zh;refine dd ?_;refine jK.qq (id:=10) _ _ _ _ (.inr V) underlying277 underlying3 V V V V V ?_;exact zh.o):p:=n ⟨h⟩
def zaq{p q:Prop}(h:q)(n:zaa q->p:=by intro zh;refine dd ?_;refine jK.qq (id:=8) _ _ _ _ (.inr V) underlying277 underlying3 V V V V V ?_;exact zh.o):p:=n ⟨h⟩
def zar{p q:Prop}(h:q)(n:zaa q->p:=by intro zh;refine dd ?_;refine jK.qq (id:=9) _ _ _ _ (.inr V) underlying277 underlying3 V V V V V ?_;exact zh.o):p:=n ⟨h⟩
def zas{p q:Prop}(h:q)(n:zaa q->p:=by intro zh;refine zX [] [oW w,oM m,⟨1,38,8,[lu],0⟩,⟨1,68,44,[lq],0⟩,oE qJ,⟨1,0,1,(w.counts.map zQ).set m.zf.toNat [C.sl (6) [] 1 0 r0.length false],0⟩,⟨2,63,1,(r0).map j4,0⟩] (rx:=.agg (mH 5 w)) (Oq w sw w.counts V hp) (zd (zi (own 1)) V) V V V V V tJ V (dd ?_);refine zX [7,8,5,6] [oW w,oM m,⟨1,38,8,[lu],0⟩,⟨1,68,44,[lq],0⟩,oE qJ,⟨1,0,1,(w.counts.map zQ).set m.zf.toNat [C.sl (6) [] 1 0 r0.length false],0⟩,⟨2,63,1,(r1).map j4,0⟩,⟨1,38,8,[mH 5 w],0⟩,oM m'] (rx:=Ce e) h (zd V (zd V (zd (zi (own 3)) V))) cV V V V (zd V (zd V (zd V (zd V (zd V (zd (zi (own 6)) V)))))) tJ V (dd ?_);refine .inl ⟨⟨false,[0,1,2],[7,8,9],[]⟩,au,uH ?_⟩;refine hU ?_;exact zh.o):p:=n ⟨h⟩
def zat{p q:Prop}(h:q)(n:zaa q->p:=by intro zh;refine aa func204 ?_;refine .inl ⟨⟨true,[],[],[8]⟩,au,uH ?_⟩;refine zX [] (hE w m m v0 g0 e0 g0.zx e0.head e0.zj [⟨1,260,2,[tf],0⟩,oE qJ]) (rx:=.fJ [U (Slp.qY m.word m.link),I 0]) (Slp.Kh m.word m.link hw l0 l1) V V V V V (zd V (zd V (zd (zi ownV) (zd (zi ownG) (zd (zi ownE) V))))) V V (dd ?_);refine .inl ⟨⟨true,[],[],[1]⟩,au,uH ?_⟩;refine zX [0,1,2,3,4,5] (hE w m m v0 g0 e0 g0.zx e0.head e0.zj [⟨1,260,2,[tf],0⟩,oE qJ]) (rx:=.ref 4 [] 3 m.end_.toNat 0) (kQ w m v0 g0 e0 hv) (zd V (zd V (zd (zi ownV) (zd (zi ownG) (zd (zi ownE) V))))) uU V V V (zd V (zd V (zd (zi ownV) (zd (zi ownG) (zd (zi ownE) V))))) uV V (dd ?_);refine⟨_,ge,cT,dd ?_⟩;exact zh.o):p:=n ⟨h⟩
def zau{p q:Prop}(h:q)(n:zaa q->p:=by intro zh;refine ah (qE w sw) ?_;refine af [5,6] (h) ?_;refine .inl ⟨⟨false,[0,1,2],[5,6,7],[]⟩,au,uH ?_⟩;refine hU ?_;exact zh.o):p:=n ⟨h⟩
def zav{p:Prop}(n:p:=by (refine⟨h0,fE,dd ?_⟩);(rw[e1]);(refine⟨_,gt,tP,dd ?_⟩);(refine⟨k0,k1,dd ?_⟩);(refine⟨_,gx,tP,dd ?_⟩);(refine⟨k0,k1,dd ?_⟩);(refine⟨_,gx,rfl,dd ?_⟩);(rw[hst]);(refine zX [1] [⟨1,38,8,[mH 2 w],0⟩,oM ({m with pc:=21}),⟨1,0,1,(w.counts.map zQ).set m.zf.toNat [C.sl 3 [] 1 0 r0.length false],0⟩,⟨2,63,1,(r0.set ((0:Int)).toNat (IntKind.u64.wrap (x+1))).map j4,0⟩,⟨1,260,2,[tf],0⟩,oE qJ] (rx:=Ce (fX {m with pc:=21} 3 10 ((0:Int)))) (jC {m with pc:=21} 3 10 ((0:Int))) V V V V V (zd V (zd V (zd (zi own) V))) V V (dd ?_));exact da):p:=n
def zaw{p q:Prop}(h:q)(n:zaa q->p:=by intro zh;(refine .inr ⟨aj,uH ?_⟩);exact zh.o):p:=n ⟨h⟩
def zax{p q:Prop}(h:q)(n:zaa q->p:=by intro zh;rw[show decide ((match l.findIdx? p with|some i=>((i:Nat):Int)|none=>(-1:Int))≥(0:Int))=l.any p from CB l p];exact zh.o):p:=n ⟨h⟩
def zay{p q:Prop}(h:q)(n:zaa q->p:=by intro zh;refine .n8 (uH ?_);refine .inr ⟨⟨[2,5,8],[],false⟩,au,λh=>absurd h ar,_,uH ?_,λt2 H2 h=>h⟩;refine⟨uH ?_,trivial⟩;refine⟨_,_,fO.Kr (id:=0) _ _ _ _ V V V V V V V V ((hE.find x.zf).trans hf) (λE=>.xE 1 99 (.inr V)),dd ?_⟩;refine⟨uH ?_,trivial⟩;refine(fO.JP _ V _ _ ⟨rfl,rfl,⟨_,rfl,underlying49⟩,rfl,rfl,rfl⟩ V (.inl V) V (.inr V) (by show 0+1<=maxLen;decide) (by show(0+1)*104<=_;decide)).lh (dd ?_);refine⟨uH ?_,trivial⟩;refine jK.qq (id:=0) _ _ _ _ (.inl V) V V V hce V V ((hE.find x.zf).trans hf) ?_;exact zh.o):p:=n ⟨h⟩
def zaz{p q:Prop}(h:q)(n:zaa q->p:=by intro zh;refine .inl ⟨⟨true,[],[],[]⟩,au,uH ?_⟩;exact zh.o):p:=n ⟨h⟩
def zaA{p q:Prop}(h:q)(n:zaa q->p:=by intro zh;refine dd ?_;refine⟨_,gD fE,rfl,?_⟩;refine dd ?_;rw[pA];refine uE ?_;refine⟨_,gD fE,bp,?_⟩;refine dd ?_;refine⟨rfl,.inr V,br,bt,dd ?_⟩;refine⟨_,gD fE,rfl,?_⟩;exact zh.o):p:=n ⟨h⟩
def zaB{p q:Prop}(h:q)(n:zaa q->p:=by intro zh;(repeat (first|((refine ya (dd ?_)))|((refine yb (dd ?_)))));exact zh.o):p:=n ⟨h⟩
def zaC{p q:Prop}(h:q)(n:zaa q->p:=by intro zh;refine .inl ⟨rfl,_,_,.refl _,wC (uH ?_)⟩;exact zh.o):p:=n ⟨h⟩
def zaD{p q:Prop}(h:q)(n:zaa q->p:=by intro zh;refine zaf ?_;show _=some (C.fJ [C.agg [I w.zl,I w.current,I w.lock,lI w.pins,C.fF 0 5 ((w.ze.set m.version.toNat (vN m v0 g0 e0 tk hd ac)).map zM),lL w.zc,iG w.counts,lR w.zm],Cm m',Ce e]);rw[<-estV,<-estG,<-estE];exact zh.o):p:=n ⟨h⟩
def zaE{p:Prop}(n:p:=by refine zX [1] [⟨1,38,8,[mH 2 w],0⟩,oM ({m with pc:=23}),⟨1,0,1,(w.counts.map zQ).set m.zf.toNat [C.sl 3 [] 1 0 r0.length false],0⟩,⟨2,63,1,(r0.set 0 (IntKind.u64.wrap (x+1))).map j4,0⟩,⟨1,260,2,[tf],0⟩,oE qJ] (rx:=Ce (fX {m with pc:=23} 3 10 0)) (jC {m with pc:=23} 3 10 0) V V V V V (zd V (zd V (zd (zi own) V))) V V (dd ?_);exact da):p:=n
def zaF{p q:Prop}(h:q)(n:zaa q->p:=by intro zh;refine .inl ⟨rfl,?_,trivial⟩;exact zh.o):p:=n ⟨h⟩
def zaG{p q:Prop}(h:q)(n:zaa q->p:=by intro zh;refine⟨λh=>absurd h aj,λ_=>dd ?_⟩;refine⟨aj,uH ?_⟩;exact zh.o):p:=n ⟨h⟩
def zaH{p q:Prop}(h:q)(n:zaa q->p:=by intro zh;refine⟨.inl V,_,_,(zp.zV 1 0 4 V V V V (.inr V) V aj (shut_map (enc:=zM) (λ_=>V) w.ze) (qa V)).trans (zp.zV 1 0 6 V V V V (.inr V) V aj (shut_map (enc:=zQ) (λ_=>V) w.counts) (qa V)),rfl,?_⟩;exact zh.o):p:=n ⟨h⟩
def zaI{p:Prop}(n:p:=by refine ab func90 ?_;refine hZ ?_;(refine⟨ar,_,rfl,dd ?_⟩);exact uI):p:=n
def zaJ{p q:Prop}(h:q)(n:zaa q->p:=by intro zh;refine .inr ⟨aj,uH ?_⟩;exact zh.o):p:=n ⟨h⟩
def zaK{p q:Prop}(h:q)(n:zaa q->p:=by intro zh;(refine⟨uH ?_,trivial⟩);refine hU ?_;exact zh.o):p:=n ⟨h⟩
def zaL{p q:Prop}(h:q)(n:zaa q->p:=by intro zh;refine⟨.inl V,_,(zp.zV 5 m.zf.toNat 0 V gt V V (.inr V) aj (by rw[ml1,hll]) (shut_map (enc:=j4) (λ_=>V) _) (own 6)).trans (zp.zV 2 0 6 V V V V (.inl V) aj aj esh (qa V)),?_⟩;show _=some (C.fJ [C.agg [I w.zl,I w.current,I w.lock,lI w.pins,lV w.ze,lL w.zc,C.fF 0 1 ((w.counts.set m.zf.toNat r1).map zQ),lR w.zm],Cm m',Ce e]);rw[<-est];exact zh.o):p:=n ⟨h⟩
def zaM{p q:Prop}(h:q)(n:zaa q->p:=by intro zh;refine HS [0,1,2,3,4,5] (hE w m m v0 g0 e0 g0.zx e0.head e0.zj [⟨1,260,2,[tf],0⟩,oE qJ]) (rx:=.ref 3 [] 2 m.zg.toNat 0) (JW w m v0 g0 e0 hv) (zd V (zd V (zd (zi ownV) (zd (zi ownG) (zd (zi ownE) V))))) uU V V V (zd V (zd V (zd (zi ownV) (zd (zi ownG) (zd (zi ownE) V))))) uV V (dd ?_);refine⟨_,gg,(by show 0+1<=2;decide),dd ?_⟩;exact zh.o):p:=n ⟨h⟩
def zaN{p q:Prop}(h:q)(n:zaa q->p:=by intro zh;refine dd ?_;refine⟨_,gD fE,rfl,?_⟩;refine dd ?_;rw[pA];refine⟨_,gD fE,bn,?_⟩;refine zaA ?_;refine dd ?_;rw[pA];exact zh.o):p:=n ⟨h⟩
def zaO{p q:Prop}(h:q)(n:zaa q->p:=by intro zh;refine zab ?_;refine hZ ?_;exact zh.o):p:=n ⟨h⟩
def zaP{p q:Prop}(h:q)(n:zaa q->p:=by intro zh;(refine⟨uH ?_,trivial⟩);(refine⟨(zd V (zd V (zd V (zd V (zd V (zd (zi (ownV 6)) (zd (zi (ownG 7 _)) (zd (zi (ownE 8 _ _)) V)))))))),uH ?_⟩);refine hU ?_;exact zh.o):p:=n ⟨h⟩
def zaQ{p q:Prop}(h:q)(n:zaa q->p:=by intro zh;refine Dm (fn:=f162) func162 V (uH ?_);refine ah (ki w.pins h.pins) ?_;exact zh.o):p:=n ⟨h⟩
def zaR{p q:Prop}(h:q)(n:zaa q->p:=by intro zh;refine HS [0,1,2,3,4,5] (hE w m m v0 g0 e0 g0.zx e0.head e0.zj [⟨1,260,2,[tf],0⟩,oE qJ]) (rx:=.ref 4 [] 3 m.end_.toNat 0) (kQ w m v0 g0 e0 hv) (zd V (zd V (zd (zi ownV) (zd (zi ownG) (zd (zi ownE) V))))) uU V V V (zd V (zd V (zd (zi ownV) (zd (zi ownG) (zd (zi ownE) V))))) uV V (dd ?_);exact zh.o):p:=n ⟨h⟩
def zaS{p q:Prop}(h:q)(n:zaa q->p:=by intro zh;refine ab func133 ?_;refine zac ?_;exact zh.o):p:=n ⟨h⟩
def zaT{p:Prop}(n:p:=by (rw[gp (aq q3)]);refine dd ?_;refine zaz ?_;refine af [1] (xL m 3 (IntKind.i64.wrap (m.i+1))) ?_;refine hU ?_;refine af [1] (qN (iV m 3 (IntKind.i64.wrap (m.i+1))) 1 2 p) ?_;exact df):p:=n
def zaU{p q:Prop}(h:q)(n:zaa q->p:=by intro zh;(refine⟨_,_,.refl _,uH ?_⟩);exact zh.o):p:=n ⟨h⟩
def zaV{p q:Prop}(h:q)(n:zaa q->p:=by intro zh;(refine⟨_,yr hc2,rfl,dd ?_⟩);(refine⟨rfl,dd ?_⟩);exact zh.o):p:=n ⟨h⟩
def zaW{p:Prop}(n:p:=by refine zad ?_;refine zaw ?_;exact uI):p:=n
def zaX{p:Prop}(n:p:=by refine dd ?_;(rw[hmk h5,gp ax]);exact uJ):p:=n
def zaY{p q:Prop}(h:q)(n:zaa q->p:=by intro zh;refine zb.CC func137 V ?_;show jb prog 0 ((f137.body).getD .skip) _ _;refine wC (uH ?_);refine zaC ?_;refine zaO ?_;exact zh.o):p:=n ⟨h⟩
def zaZ{p q:Prop}(h:q)(n:zaa q->p:=by intro zh;refine zad ?_;(refine⟨cf,_,gq,dd ?_⟩);(refine⟨rfl,.inr V,bY,cI,dd ?_⟩);(refine .inl ⟨rfl,?_,trivial⟩);exact zh.o):p:=n ⟨h⟩
def za0{p:Prop}(n:p:=by refine af [1] (kS {m with word:=e.head} 4) ?_;refine af [0,1] (D0 w (oX {m with word:=e.head} 4) v ⟨hv.v0,hv.at_⟩ 1 8 (e.head%4294967296-1)) ?_;exact cW):p:=n
def za1{p q:Prop}(h:q)(n:zaa q->p:=by intro zh;refine .inl ⟨⟨false,[1],[1],[]⟩,au,uH ?_⟩;refine hU ?_;exact zh.o):p:=n ⟨h⟩
def za2{p q:Prop}(h:q)(n:zaa q->p:=by intro zh;refine⟨.inl V,_,_,zp.zV 1 0 6 V V V V (.inr V) V aj (shut_map (enc:=zQ) (λ_=>V) w.counts) (qa V),rfl,?_⟩;exact zh.o):p:=n ⟨h⟩
def za3{p q:Prop}(h:q)(n:zaa q->p:=by intro zh;refine jM.zN (id:=6) V h1 h2 h3 h4 h5 V V V (uH ?_);refine⟨rfl,rfl,uH ?_⟩;exact zh.o):p:=n ⟨h⟩
def za4{p:Prop}(n:p:=by refine⟨rfl,rfl,uH ?_⟩;refine ah (yv p (hple _ _ hp)) ?_;refine⟨λ_=>dd ?_,λh=>absurd ((hname _ _ hp).symm.trans h:true=false) ar⟩;exact dg):p:=n
def za5{p q:Prop}(h:q)(n:zaa q->p:=by intro zh;refine dd ?_;refine .inl ⟨⟨false,[4],[5],[]⟩,au,uH ?_⟩;(try rw[gU]);exact zh.o):p:=n ⟨h⟩
def za6{p:Prop}(n:p:=by refine⟨λh=>absurd ((hd).symm.trans h:false=true) ar,λ_=>dd ?_⟩;rw[zw aw];exact .inl ⟨rfl,_,_,_,fg _,cE 6,k+1,_,_,aw,hg,rfl,rfl⟩):p:=n
def za7{p q:Prop}(h:q)(n:zaa q->p:=by intro zh;refine⟨aj,uH ?_⟩;refine .inr ⟨.inl V,ay,bj,uH ?_⟩;exact zh.o):p:=n ⟨h⟩
def za8{p q:Prop}(h:q)(n:zaa q->p:=by intro zh;refine ab func49 ?_;refine ah ho ?_;refine hZ ?_;exact zh.o):p:=n ⟨h⟩
def za9{p q:Prop}(h:q)(n:zaa q->p:=by intro zh;rw[hcb];refine⟨_,_,hp _ (pt fE),uH ?_⟩;exact zh.o):p:=n ⟨h⟩
def zba{p q:Prop}(h:q)(n:zaa q->p:=by intro zh;refine .inl ⟨⟨false,[0,1,2],[5,1,6],[]⟩,au,uH ?_⟩;refine hU ?_;exact zh.o):p:=n ⟨h⟩
def zbb{p:Prop}(n:p:=by refine .inl ⟨rfl,?_,aw⟩;rw[zw aw];exact zp.xO 5 hC V V V hrec V):p:=n
def zbc{p:Prop}(n:p:=by refine dd ?_;refine .inr ⟨rfl,dd ?_⟩;exact⟨.inl V,_,zp.cell 2 V ((WC.none 1 1 1).trans (WC.share 1 1 [])),rfl⟩):p:=n
def zbd{p q:Prop}(h:q)(n:zaa q->p:=by intro zh;refine⟨λh=>absurd h aA,λ_=>dd ?_⟩;exact zh.o):p:=n ⟨h⟩
def zbe{p q:Prop}(h:q)(n:zaa q->p:=by intro zh;refine .inr ⟨⟨[1,4,8,10],[0,1,2],true⟩,au,λ_=>V,_,uH ?_,λt2 H2 h=>h⟩;refine hU ?_;exact zh.o):p:=n ⟨h⟩
def zbf{p:Prop}(n:p:=by refine⟨_,_,hA _ (zd V (zd (zi (own k)) V)),dd ?_⟩;exact dh):p:=n
def zbg{p:Prop}(n:p:=by refine ah Go.Wor.vz ?_;refine hZ ?_;exact uI):p:=n
def zbh{p q:Prop}(h:q)(n:zaa q->p:=by intro zh;refine zab ?_;refine zac ?_;exact zh.o):p:=n ⟨h⟩
def zbi{p:Prop}(n:p:=by refine dd ?_;exact⟨.inl V,_,zp.var 0 V V V (.cons (.refl _) (.cons (WC.nil 0 1) (.cons (.refl _) .nil))),rfl⟩):p:=n
def zbj{p q:Prop}(h:q)(n:zaa q->p:=by intro zh;refine dd ?_;refine jK.qq (id:=0) _ _ _ _ (.inr V) underlying294 underlying3 V V V V V ?_;exact zh.o):p:=n ⟨h⟩
def zbk{p q:Prop}(h:q)(n:zaa q->p:=by intro zh;refine .inl ⟨⟨false,[1],[13],[]⟩,au,uH ?_⟩;refine hU ?_;exact zh.o):p:=n ⟨h⟩
def zbl{p q:Prop}(h:q)(n:zaa q->p:=by intro zh;refine .inl ⟨⟨false,[1],[12],[]⟩,au,uH ?_⟩;refine hU ?_;exact zh.o):p:=n ⟨h⟩
