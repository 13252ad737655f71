import Derived.WalkKit
import Derived.Still
import Derived.LoopN
import Derived.LoopNIn
import Derived.ControlIn
import Derived.CallsIn
import Derived.TacticsIn
import Derived.OrdersIn
import Derived.Scope
import Derived.RangeFuncLeaves
import Derived.RangeFuncRecord
set_option linter.all false
set_option maxRecDepth 100000
set_option maxHeartbeats 4000000
def aw {p:Prop}(n:p:=by omega):p:=n
def aj {p:Prop}(n:p:=by simp):p:=n
def au {p:Prop}(n:p:=by kernel_rfl):p:=n
def ar {p:Prop}(n:p:=by decide):p:=n
def aA {p:Prop}(n:p:=by simp;omega):p:=n
def aK {p:Prop}(n:p:=by show (0:Int) < _;omega):p:=n
def cF {p:Prop}(n:p:=by rw [gA];exact jk zF _ _ (j9 m v0 g0 e0 tk hd ac) _ rfl):p:=n
def cD {p:Prop}(n:p:=by rw [gA];exact jk zE _ _ (yq m g0 e0 tk hd ac) _ rfl):p:=n
def bO {p:Prop}(n:p:=by rw [hlg];simp [maxLen];omega):p:=n
def cB {p:Prop}(n:p:=by rw [gA];exact jk zx _ _ (qq e0 hd ac) _ rfl):p:=n
def ay {p:Prop}(n:p:=by simp [maxLen];omega):p:=n
def b8 {p:Prop}(n:p:=by rw [hlg];show (k+1) * 64<=_;omega):p:=n
def bL {p:Prop}(n:p:=by rw [hx];exact gH hk):p:=n
def bN {p:Prop}(n:p:=by rw [pq hk,<- hx];simp):p:=n
def cz {p:Prop}(n:p:=by rw [hpc];rfl):p:=n
def bP {p:Prop}(n:p:=by rw [pH];rfl):p:=n
def aJ {p:Prop}(n:p:=by show i64 (zT w.zd m.op.listen);unfold i64;omega):p:=n
def bM {p:Prop}(n:p:=by intro ob hob;simp at hob;rcases hob with rfl | rfl | rfl | rfl | rfl | rfl | rfl <;> first | exact hX _ | exact hY | rfl):p:=n
def aR {p:Prop}(n:p:=by show w.current < ((w.ze++[yN m.op.config]).length:Nat);simp only [gN,pW];omega):p:=n
def aE {p:Prop}(n:p:=by have:=(jq gv.snap).zk.1;have:=gv.len;omega):p:=n
def ba {p:Prop}(n:p:=by show _ * 8<=_;simp;omega):p:=n
def bc {p:Prop}(n:p:=by show 1+1<=48;decide):p:=n
def aG {p:Prop}(n:p:=by have:=hs.base;simp;omega):p:=n
def bW {p:Prop}(n:p:=by intro u hu;simp at hu;subst hu;rfl):p:=n
def aV {p:Prop}(n:p:=by show x.done+1<=x.ops.length;omega):p:=n
def aX {p:Prop}(n:p:=by simp at h2;omega):p:=n
def bt {p:Prop}(n:p:=by have h1:=rp hB;have h2:=rp hn;simp;omega):p:=n
def cA {p:Prop}(n:p:=by show zK _ _::zK _ _::zK _ ⟨1,0,1,_,0⟩::_=_;rw [zH (enc:=zN) (fun _=>rfl)];rfl):p:=n
def bV {p:Prop}(n:p:=by simp only [fB,f.L0 (by rw [<- f.h0.n];exact hi)]):p:=n
def aT {p:Prop}(n:p:=by rw [ho];exact hk):p:=n
def bj {p:Prop}(n:p:=by rw [mA];show _ * 104<=_;simp;omega):p:=n
def cy {p:Prop}(n:p:=by show 0+1<=3;decide):p:=n
def br {p:Prop}(n:p:=by rw [h] at hr;cases hr):p:=n
def bp {p:Prop}(n:p:=by rw [hrows.len,hcs,<- pA];exact pb _ hroom):p:=n
def bz {p:Prop}(n:p:=by simp [ho,hv,hc,eqGuard,binOp,run_equal_slice_nil w t e _ len cap ht]):p:=n
def aF {p:Prop}(n:p:=by simpa [Env.at] using ho.1):p:=n
def b9 {p:Prop}(n:p:=by unfold vZ;rw [dL (by simp at h1;omega)]):p:=n
def cb {p:Prop}(n:p:=by unfold vd;rw [dL (by simp at q1;omega)]):p:=n
def cf {p:Prop}(n:p:=by unfold vd;rw [dL (by simp at q2;omega)]):p:=n
def cg {p:Prop}(n:p:=by unfold vZ;rw [dL (by simp at h2;omega)]):p:=n
def bG {p:Prop}(n:p:=by rcases rj.1 h with h | h;exact absurd h.symm e;exact h):p:=n
def bS {p:Prop}(n:p:=by simp at q1;omega):p:=n
def bn {p:Prop}(n:p:=by rw [hh.n];exact uj):p:=n
def bu {p:Prop}(n:p:=by show _<=w2.heap.size;rw [a4];exact g.size):p:=n
def bF {p:Prop}(n:p:=by rw [<- l1];exact h2):p:=n
def bX {p:Prop}(n:p:=by have:=st.ty.uz;show w.zd.length<=_;omega):p:=n
def aU {p:Prop}(n:p:=by rw [ho];omega):p:=n
def bY {p:Prop}(n:p:=by rw [ug];simp [kL,Fi,iA,ha,@eq_comm _ 1 b.kind]):p:=n
def aB {p:Prop}(n:p:=by rw [oa];decide):p:=n
def bB {p:Prop}(n:p:=by simp [ho,Op.operands,Call.operands,hcl]):p:=n
def cp {p:Prop}(n:p:=by show 2+1<=4;decide):p:=n
def bE {p:Prop}(n:p:=by unfold z6;rw [h2];exact (show vn sz0 rows0 hops=_ from hg')):p:=n
def aH {p:Prop}(n:p:=by simp [h]):p:=n
def aD {p:Prop}(n:p:=by simp [h1]):p:=n
def bh {p:Prop}(n:p:=by rw [mA];simp [maxLen];omega):p:=n
def aY {p:Prop}(n:p:=by rw [h1];decide):p:=n
def bd {p:Prop}(n:p:=by show 47+1<=48;decide):p:=n
def bQ {p:Prop}(n:p:=by rw [dP];exact hll.symm):p:=n
def bT {p:Prop}(n:p:=by have:=g.counts.1;have:=g.pins;omega):p:=n
def bZ {p:Prop}(n:p:=by simp at h1;omega):p:=n
def bq {p:Prop}(n:p:=by rw [jJ hs.tmps hw];decide):p:=n
def bC {p:Prop}(n:p:=by intro hb;simp [hb] at hcb):p:=n
def bA {p:Prop}(n:p:=by simpa [Nat.blt_eq,Env.cut] using h):p:=n
def ck {p:Prop}(n:p:=by simp at h1 h2;omega):p:=n
def aI {p:Prop}(n:p:=by simp [hd]):p:=n
def aZ {p:Prop}(n:p:=by rw [h2];trivial):p:=n
def bb {p:Prop}(n:p:=by rw [pw];rfl):p:=n
def bw {p:Prop}(n:p:=by rw [hh.n,hs.heap.n];exact hs.base):p:=n
def bD {p:Prop}(n:p:=by simp [h2]):p:=n
def bR {p:Prop}(n:p:=by rw [<- hh.n,<- h2.n];exact g.le.n):p:=n
def aW {p:Prop}(n:p:=by simp [uj]):p:=n
def bU {p:Prop}(n:p:=by rw [<- f.h0.n];exact hi):p:=n
def bm {p:Prop}(n:p:=by (try dsimp only);omega):p:=n
def aS {p:Prop}(n:p:=by show (0<=m.pc∧m.pc<=6)∨_;omega):p:=n
def bo {p:Prop}(n:p:=by simp only [maxLen] at hm;omega):p:=n
def aC {p:Prop}(n:p:=by unfold iP;rw [hnext,hev];rfl):p:=n
def aM {p:Prop}(n:p:=by show m.slot < _;omega):p:=n
def aO {p:Prop}(n:p:=by show (4:Int)≠0;decide):p:=n
def aP {p:Prop}(n:p:=by show (5:Int)≠0;decide):p:=n
def aQ {p:Prop}(n:p:=by show (0:Int)<=n;omega):p:=n
def aL {p:Prop}(n:p:=by show 0<=m.slot;omega):p:=n
def bf {p:Prop}(n:p:=by show 3+44<=48;decide):p:=n
def bH {p:Prop}(n:p:=by simp_all [Cl]):p:=n
def ax {p:Prop}(n:p:=by simp [h5]):p:=n
def aN {p:Prop}(n:p:=by show e.zf<=_;omega):p:=n
def bJ {p:Prop}(n:p:=by simp [h3]):p:=n
def cm {p:Prop}(n:p:=by simp at h2 ⊢;omega):p:=n
def cq {p:Prop}(n:p:=by show 3+1<=5;decide):p:=n
def cw {p:Prop}(n:p:=by show 1+1<=2;decide):p:=n
def cx {p:Prop}(n:p:=by show 2+1<=3;decide):p:=n
def aq {p q:Prop}(h:q)(e:q->p:=by intro zh;simpa using zh):p:=e h
def cG {p:Prop}(n:p:=by exact ⟨.inl rfl,_,_,.refl _,rfl,cE 2⟩):p:=n
def cH {p:Prop}(n:p:=by exact ⟨.inl rfl,_,_,.refl _,rfl,zo.xi 6 hU rfl rfl rfl (zI rfl (zI rfl (zI (qd lowV) (zI (qd lowG) (zI (qd lowE) rfl))))) rfl⟩):p:=n
def cI {p:Prop}(n:p:=by exact ⟨.inl rfl,_,zo.var 1 rfl rfl rfl (.cons (.refl _) (.cons (.refl _) (.cons (.refl _) (.cons (WC.nil 0 1) (.cons (WC.nil 0 5) (.cons (WC.nil 0 4) (.cons (WC.nil 0 1) (.cons (WC.nil 0 3) .nil)))))))),rfl⟩):p:=n
def cJ {p:Prop}(n:p:=by exact ⟨.inl rfl,_,_,.refl _,rfl,zo.xi 9 hU rfl rfl rfl (zI (qd (wq (b:=1) (n:=9) ar hX rfl)) rfl) rfl⟩):p:=n
def cK {p:Prop}(n:p:=by exact h.elim):p:=n
def cL {p:Prop}(n:p:=by refine dd ?_;refine tc ?_;exact uI):p:=n
def cM {p:Prop}(n:p:=by exact ⟨.inl rfl,_,_,.refl _,rfl,zo.xi 4 hU rfl rfl rfl (zI rfl (zI rfl (zI (qd low) rfl))) rfl⟩):p:=n
def cN {p:Prop}(n:p:=by simp at this;omega):p:=n
def cO {p:Prop}(n:p:=by have a0:=hat.v0;have a1:=hat.tomr.row;have b0:=hat.g0;have b1:(v.zm.map zE)[m.zg.toNat]?= some (zE g):=by rw [dN,hat.u9];rfl):p:=n
def cP {p:Prop}(n:p:=by refine hZ ?_;exact cG):p:=n
def cQ {p:Prop}(n:p:=by exact ⟨_,_,.refl _,rfl,.inl ⟨rfl,rfl,rfl⟩⟩):p:=n
def cR {p:Prop}(n:p:=by refine ⟨aw,aA,dd ?_⟩;rw [e1];refine ⟨_,jU aj hk,rfl,dd ?_⟩;refine .inl ⟨rfl,?_,trivial⟩;rw [zu aw,<- qR hF hk];exact cC):p:=n
def cS {p:Prop}(n:p:=by exact ⟨_,_,zo.mask [0,1,4,7,8] _ _,0,aj,rfl,aj,rfl⟩):p:=n
def cT {p:Prop}(n:p:=by refine .inl ⟨rfl,?_,trivial⟩;rw [zu aw];exact cE 0):p:=n
def cU {p:Prop}(n:p:=by exact ⟨.inl rfl,_,zo.keep [3] 1 _ _ rfl rfl rfl rfl,rfl,rfl⟩):p:=n
def cV {p:Prop}(n:p:=by exact (g2.frame k (gO hk g.size) fun hc=>(g.own k hc).elim (fun h=>by omega) ho).trans (g.frame k hk ho)):p:=n
def cW {p:Prop}(n:p:=by rw [hr];exact hk _ w E hh (.v _ rfl) (qA.refl w E H)):p:=n
def cX {p:Prop}(n:p:=by rw [estE,estG,estV];exact shut_map (enc:=zF) (fun _=>rfl) _):p:=n
def cY {p:Prop}(n:p:=by refine ⟨fun h=>absurd h aj,fun _=>dd ?_⟩;refine ⟨aj,uH ?_⟩;exact uI):p:=n
def cZ {p:Prop}(n:p:=by have c0:=hat.e0;have c1:(g.ends.map zx)[m.end_.toNat]?= some (zx e):=by rw [dN,hat.eE];rfl):p:=n
def c6 {p:Prop}(n:p:=by rw [estE,estG];exact shut_map (enc:=zE) (fun _=>rfl) _):p:=n
def c7 {p:Prop}(n:p:=by have g:=g1.trans g2;exact ⟨E1,⟨hR,hs.tmps.mono g.le,hs.defers.grow hs.heap g,aG⟩,g.fh tB⟩):p:=n
def c8 {p:Prop}(n:p:=by exact ⟨.inr rfl,_,.refl _,rfl,rfl⟩):p:=n
def c9 {p:Prop}(n:p:=by rw [estE];exact shut_map (enc:=zx) (fun _=>rfl) _):p:=n
def da {p:Prop}(n:p:=by refine uD ?_;rw [yK aj];exact ⟨.inl rfl,_,zo.ur [1] [6] _ _ rfl rfl rfl rfl,rfl,rfl⟩):p:=n
def db {p:Prop}(n:p:=by exact ⟨.inl rfl,_,zo.Hv 2 rfl rfl (.inr rfl) aj (shut_map (fun _=>rfl) (x::l)),rfl⟩):p:=n
def dc {p:Prop}(n:p:=by refine dd ?_;exact uJ):p:=n
def de {p:Prop}(n:p:=by refine dd ?_;exact uI):p:=n
def df {p:Prop}(n:p:=by exact .agg _ ys tR (fun i c y e1 e2=>this.2 i c y e1 uY) h3):p:=n
def dg {p:Prop}(n:p:=by refine ab func229 ?_;refine ah h ?_;exact uI):p:=n
def dh {p:Prop}(n:p:=by exact qv hd rfl rfl):p:=n
def di {p:Prop}(n:p:=by refine .inl ⟨rfl,?_,trivial⟩;rw [zu aw];exact cE 2):p:=n
def dj {p:Prop}(n:p:=by exact ⟨.inl rfl,_,zo.cell 2 rfl (WC.nil 0 1),rfl⟩):p:=n
def dk {p:Prop}(n:p:=by have:=(dJ.1 ho).1;exact cN):p:=n
def dm {p:Prop}(n:p:=by exact zM rfl ⟨uW,st1,tg1,uO,rfl,rfl,jN.refl w _,qg w (vR p6 (fJ su.done hk uM)),.inr ⟨v,g,e,uR,⟨uL,uK,uK,uK,uK⟩⟩⟩):p:=n
def dp {p:Prop}(n:p:=by rw [zu aw];exact cE 1):p:=n
def dq {p:Prop}(n:p:=by exact ⟨rfl,fun _=>rfl,rfl⟩):p:=n
def dt {p:Prop}(n:p:=by exact ⟨.inl rfl,_,zo.zU 2 0 5 rfl rfl rfl rfl (.inr rfl) aj bQ (shut_map (enc:=qF) (fun _=>rfl) _) (zZ rfl),rfl⟩):p:=n
def du {p:Prop}(n:p:=by exact .fn f _ _ ys zs (aq t1.1) (aq t2.1) (fun i c y e1 e2=>t1.2 i c y e1 uY) (fun i c y e1 e2=>t2.2 i c y e1 uY)):p:=n
def dw {p:Prop}(n:p:=by exact this):p:=n
def dx {p:Prop}(n:p:=by exact ⟨.inl rfl,_,_,.refl _,rfl,cE 1⟩):p:=n
def dy {p:Prop}(n:p:=by exact hl a (by simp [ho,Op.operands,Call.operands];right;have:=dM ha;simpa using this)):p:=n
def dz {p:Prop}(n:p:=by refine .inl ⟨⟨true,[0,2,3],[0,1,5],[1]⟩,au,uH ?_⟩;refine ah (qt w sw) ?_;refine hZ ?_;exact uI):p:=n
def dA {p:Prop}(n:p:=by exact ⟨.inl rfl,_,zo.cell 2 rfl (WC.nil 0 18),rfl⟩):p:=n
def dB {p:Prop}(n:p:=by rw [gk];exact ⟨hk,h2,fun j hj=>by simp only [hr j aw hj];decide⟩):p:=n
def dC {p:Prop}(n:p:=by have:=(hno4 h4).1;omega):p:=n
def dD {p:Prop}(n:p:=by refine .inl ⟨rfl,?_,trivial⟩;rw [zu aw];exact cC):p:=n
def dE {p:Prop}(n:p:=by exact ⟨rfl,rfl,fun _=>rfl⟩):p:=n
def dF {p:Prop}(n:p:=by exact gH hk):p:=n
def dG {p:Prop}(n:p:=by rw [e];exact cL):p:=n
def dH {p:Prop}(n:p:=by exact absurd h3 ar):p:=n
def dI {p:Prop}(n:p:=by rw [dL aw];refine uD ?_;rw [yK aj];exact uJ):p:=n
def dJ:=@List.getElem?_eq_some_iff
def dK:=@List.getElem?_eq_getElem
def dL:=@if_neg
def dM:=@List.mem_of_getElem?
def dN:=@List.getElem?_map
def dO:=@if_pos
def dP:=@List.length_map
def dQ:=@List.getElem?_set_self
def dR:=@List.getElem?_append_left
def dS:=@Bool.and_eq_true
def dT:=@List.all_eq_true
def dU:=@Nat.le_refl
def dV:=@Option.map_some
def dW:=@List.getElem?_set
def dX:=@Array.getElem?_eq_some_iff
def dY:=@List.getElem?_append_right
def dZ:=@decide_eq_true_eq
def gd:=@Int.le_refl
def gf:=@Nat.zero_add
def gh:=@List.mem_iff_getElem?
def gj:=@Option.some.injEq
def gk:=@List.findIdx?_eq_some_iff_getElem
def gm:=@Option.some.inj
def gp:=@Option.bind_some
def gu:=@Nat.zero_le
def gy:=@List.findIdx?_eq_none_iff
def gz:=@List.getElem?_take
def gA:=@List.set_set
def gC:=@List.mem_map
def gD:=@List.mem_append
def gE:=@Array.getElem?_toList
def gF:=@List.mem_singleton
def gG:=@Nat.not_lt_zero
def gH:=@List.getElem_mem
def gI:=@List.any_eq_false
def gJ:=@Option.map_eq_some_iff
def gK:=@List.take_length
def gL:=@List.eq_of_mem_replicate
def gM:=@beq_iff_eq
def gN:=@List.length_append
def gO:=@Nat.lt_of_lt_of_le
def gP:=@Array.getD_eq_getD_getElem?
def gQ:=@Nat.le_trans
def gR:=@Bool.not_eq_true'
def gS:=@Option.getD_some
def gT:=@decide_eq_false_iff_not
def gU:=@List.ext_getElem?
def gV:=@List.getElem?_mapIdx
def gW:=@List.mem_or_eq_of_mem_set
def gX:=@List.mem_iff_getElem
def gY:=@Bool.or_eq_false_iff
def gZ:=@List.getElem?_modify
def g9:=@List.mem_cons_of_mem
def pa:=@List.getElem?_set_ne
def pb:=@Nat.mul_le_mul_right
def pd:=@Option.bind_eq_some_iff
def pj:=@List.getElem?_eq_none
def pn:=@of_decide_eq_true
def pq:=@List.take_succ_eq_append_getElem
def pt:=@List.getElem?_drop
def pw:=@List.map_append
def px:=@List.mem_cons_self
def pz:=@Nat.le_succ
def pA:=@Nat.add_mul
def pB:=@Bool.or_eq_true
def pC:=@of_decide_eq_false
def pD:=@List.mem_range
def pE:=@List.map_cons
def pF:=@List.getElem?_eq_none_iff
def pG:=@decide_eq_false
def pH:=@List.map_set
def pI:=@List.any_eq_true
def pJ:=@List.getElem?_cons_succ
def pK:=@Array.eq_empty_of_size_eq_zero
def pL:=@List.mem_of_mem_take
def pM:=@Int.toNat_of_nonneg
def pN:=@List.append_assoc
def pO:=@List.sum_cons
def pP:=@List.findIdx?_cons
def pQ:=@Bool.not_eq_false'
def pR:=@List.length_eq_zero_iff
def pS:=@List.length_cons
def pT:=@List.map_map
def pU:=@Nat.sub_zero
def pV:=@Array.getElem?_eq_getElem
def pW:=@List.length_singleton
def pX:=@congrArg
def pY:=@Nat.sub_self
def pZ:=@Bool.false_or
def p9:=@Option.map_eq_map
def rb:=@List.getElem?_range
def rh:=@Nat.lt_or_ge
def ri:=@Nat.add_assoc
def rj:=@List.mem_cons
def rk:=@decide_eq_true
def rm:=@Array.mem_of_getElem?
def rp:=@Nat.le_of_ble_eq_true
def rq:=@List.length_set
def ru:=@Nat.lt_trichotomy
def ry:=@List.all_cons
def rz:=@List.map_congr_left
def rA:=@Array.getElem?_eq_none
def rB:=@Nat.add_zero
def rC:=@Array.getElem?_modify
def rD:=@List.append_nil
def rE:=@Int.tmod_eq_emod_of_nonneg
def rF:=@List.foldl_append
def rG:=@List.all_eq_false
def rH:=@List.map_eq_cons_iff
def rI:=@List.mem_of_mem_drop
def rJ:=@Array.all_toList
def rK:=@List.replicate_succ
def rL:=@Array.toList_append
def rM:=@List.getElem?_replicate
def rO:=@Bool.false_eq_true
def rP:=@Int.emod_nonneg
def rQ:=@Int.emod_lt_of_pos
def rR:=@Nat.eq_zero_or_pos
def rS:=@List.eq_nil_iff_forall_not_mem
def rT:=@List.take_of_length_le
def rU:=@List.findIdx?_map
def rV:=@List.take_append_drop
def rW:=@Nat.le_of_eq
def rX:=@List.length_replicate
def rY:=@Bool.and_false
def rZ:=@Nat.ne_of_lt
def r4:=@List.getElem?_toArray
def r5:=@Nat.mul_comm
def r6:=@List.mapM_cons
def r7:=@List.drop_zero
def r8:=@List.findIdx?_append
def r9:=@Array.toList_inj
def sa:=@List.range_eq_range'
def sb:=@List.prefix_refl
def sd:=@Array.getElem?_append_left
def se:=@List.exists_cons_of_ne_nil
def sf:=@Bool.and_true
def sg:=@Nat.mul_one
def sq:=@List.length_pos_iff
def sr:=@List.takeWhile_cons
def sx:=@List.nil_append
def sy:=@List.set_cons_zero
def sA:=@Bool.or_true
def sB:=@List.mem_replicate
def sC:=@Array.setIfInBounds_comm
def sD:=@List.all_nil
def sE:=@List.take_left
def sF:=@List.getElem?_cons_zero
def sG:=@List.size_toArray
def sH:=@Array.mem_iff_getElem?
def sI:=@Bool.not_true
def sJ:=@List.map_take
def sK:=@true_and
def sL:=@Option.bind_none
def sM:=@Nat.mod_eq_of_lt
def sN:=@Array.toList_map
def sO:=@List.countP_singleton
def sP:=@List.set_append_right
def sQ:=@List.set_append_left
def sR:=@List.replicate_succ'
def sS:=@List.mem_mapIdx
def sT:=@List.foldl_cons
def sU:=@Nat.zero_mul
def sV:=@List.mem_append_left
def sW:=@Nat.not_lt
def sX:=@List.eq_nil_of_length_eq_zero
def sY:=@List.take_zero
def sZ:=@Array.getElem?_setIfInBounds
def tp:=@List.countP_append
def tq:=@Array.getElem?_map
def tt:=@Int.natCast_nonneg
def tu:=@List.getD_eq_getElem?_getD
def tx:=@Bool.true_and
def tz:=@List.flatMap_cons
def tU:=@Array.size_append
def tX:=@List.getElem_take
def tY:=@Int.toNat_natCast
def ua:=@Nat.add_comm
def ub:=@List.isEmpty_iff
def uc:=@Bool.true_or
def ud:=@List.sum_append
def ue:=@List.range_succ
def uf:=@Nat.mul_add_mod
def ug:=@Bool.eq_iff_iff
def uh:=@List.all_append
namespace Go.Ab
abbrev ey:=Nat × Nat
inductive C where
 | v (x:Value)
 | ui (o sz:Nat) (rows:List (List C))
 | jH (cells:List C)
 | ref (id:Nat) (hops:List ey) (sz i k:Nat)
 | sl (id:Nat) (hops:List ey) (sz lo len:Nat) (full:Bool)
 | fn (f:FuncId) (first caps:List C)
 | mp (id:Nat)
 | agg (cs:List C)
 | uo (vs:List C)
 | un
 | za
 | gl (id sz:Nat) (rows:List (List C))
 | eM (t:TypeId) (c:C)
 | rc (o:Obj)
structure Ob where
 kind:Nat
 ty:TypeId
 sz:Nat
 rows:List (List C)
 fz:Nat:=0
abbrev zl:=List Ob
structure Env where
 n:Nat
 β:Nat->List ey->Nat
 κ:Nat->List ey->Nat
 St:Nat->Nat->Option Value
 G:Nat->Nat->Option Value:=fun _ _=>none
def Env.shut (E:Env):Env:={ E with n:=0 }
def Env.at (E:Env) (kd:Nat):Env:=if kd=2 then E.shut else E
inductive L:Env->C->Value->Prop
 | v {E:Env} (x:Value) (h:x.oneCell'=true):L E (.v x) x
 | ui {E:Env} (o sz:Nat) (rows:List (List C)) (b off cap:Nat) (us:Nat->Nat->Value) (ho:o=0∨o=1∧cap=rows.length) (hc:rows.length<=cap)
   (hsz:∀ r ∈ rows,r.length=sz)
   (hst:∀ (i:Nat) r (k:Nat) c,rows[i]?= some r->r[k]?= some c->E.St b (off+i * sz+k)=some (us i k))
   (hL:∀ (i:Nat) r (k:Nat) c,rows[i]?= some r->r[k]?= some c->L E.shut c (us i k)):
   L E (.ui o sz rows) (.slice (some ⟨b,off,none⟩) rows.length cap)
 | xf {E:Env} (o sz:Nat) (ho:o=0∨o=1) (a:Option Addr:=none):L E (.ui o sz []) (.slice a 0 0)
 | jH {E:Env} (cells:List C) (b off:Nat) (us:Nat->Value) (hst:∀ (k:Nat) c,cells[k]?= some c->E.St b (off+k)=some (us k))
   (hL:∀ (k:Nat) c,cells[k]?= some c->L E.shut c (us k)):L E (.jH cells) (.pointer (some ⟨b,off,none⟩))
 | ref {E:Env} (id:Nat) (hops:List ey) (sz i k:Nat) (hn:id < E.n):L E (.ref id hops sz i k) (.pointer (some ⟨E.β id hops,i * sz+k,none⟩))
 | sl {E:Env} (id:Nat) (hops:List ey) (sz lo len:Nat) (full:Bool) (cap:Nat) (hn:id < E.n) (hlen:len<=cap) (hf:full=true->cap=len) (hf':full=false->lo+cap=E.κ id hops):
   L E (.sl id hops sz lo len full) (.slice (some ⟨E.β id hops,lo * sz,none⟩) len cap)
 | fn {E:Env} (f:FuncId) (first caps:List C) (ys zs:Array Value) (h1:first.length=ys.size) (h2:caps.length=zs.size)
   (h3:∀ (i:Nat) c y,first[i]?= some c->ys[i]?= some y->L E c y) (h4:∀ (i:Nat) c y,caps[i]?= some c->zs[i]?= some y->L E c y):
   L E (.fn f first caps) (.func (.func f) ys zs)
 | mp {E:Env} (id:Nat) (hn:id < E.n):L E (.mp id) (.map (some (E.β id [])))
 | agg {E:Env} (cs:List C) (ys:Array Value) (h1:cs.length=ys.size) (h2:∀ (i:Nat) c y,cs[i]?= some c->ys[i]?= some y->L E c y) (h3:∀ y ∈ ys,y.oneCell'=true):L E (.agg cs) (.agg ys)
 | uo {E:Env} (cs:List C) (ys:Array Value) (h1:cs.length=ys.size) (h2:∀ (i:Nat) c y,cs[i]?= some c->ys[i]?= some y->L E c y):L E (.uo cs) (.tuple ys)
 | un {E:Env}:L E .un undef
 | za {E:Env} (y:Value):L E .za y
 | gl {E:Env} (id sz:Nat) (rows:List (List C)) (y:Value) (hn:id < E.n) (hg:E.G id rows.length=some y) (h:L E.shut (.ui 0 sz rows) y):L E (.gl id sz rows) y
 | eM {E:Env} (t:TypeId) (c:C) (y:Value) (h:L E c y):L E (.eM t c) (.iface t y)
structure Env.le (E E':Env):Prop where
 n:E.n<=E'.n
 β:∀ id hops,id < E.n->E'.β id hops=E.β id hops
 κ:∀ id hops,id < E.n->E'.κ id hops=E.κ id hops
 St:∀ b o u,E.St b o=some u->E'.St b o=some u
 G:∀ id k u,id < E.n->E.G id k=some u->E'.G id k=some u
def Env.le.refl (E:Env):E.le E:=⟨dU _,fun _ _ _=>rfl,fun _ _ _=>rfl,fun _ _ _ h=>h,fun _ _ _ _ h=>h⟩
def Env.le.trans {E E' E'':Env} (h:E.le E') (h':E'.le E''):E.le E'':=
 ⟨gQ h.n h'.n,fun id hops hi=>(h'.β id hops (gO hi h.n)).trans (h.β id hops hi),fun id hops hi=>(h'.κ id hops (gO hi h.n)).trans (h.κ id hops hi),
  fun b o u hu=>h'.St b o u (h.St b o u hu),fun id k u hi hu=>h'.G id k u (gO hi h.n) (h.G id k u hi hu)⟩
def Env.Bq (E:Env):E.shut.le E:=⟨gu _,fun _ _ h=>absurd h (gG _),fun _ _ h=>absurd h (gG _),fun _ _ _ h=>h,fun _ _ _ h _=>absurd h (gG _)⟩
def Env.le.shut {E E':Env} (h:E.le E'):E.shut.le E'.shut:=⟨dU _,fun _ _ h=>absurd h (gG _),fun _ _ h=>absurd h (gG _),h.St,fun _ _ _ h _=>absurd h (gG _)⟩
def Env.le.at {E E':Env} (h:E.le E') (kd:Nat):(E.at kd).le (E'.at kd):=by unfold Env.at;split;exact h.shut;exact h
def Env.K7 (E:Env) (kd:Nat):(E.at kd).le E:=by unfold Env.at;split;exact E.Bq;exact .refl E
def L.mono {E E':Env} (h:E.le E') {c:C} {y:Value} (hl:L E c y):L E' c y:=by
 induction hl generalizing E' with
 | v x hx=>exact .v x hx
 | ui o sz rows b off cap us ho hc hsz hst _ ih=>exact .ui o sz rows b off cap us ho hc hsz (fun i r k c h1 h2=>h.St _ _ _ (hst i r k c h1 h2)) (fun i r k c h1 h2=>ih i r k c h1 h2 h.shut)
 | xf o sz ho a=>exact .xf o sz ho a
 | jH cells b off us hst _ ih=>exact .jH cells b off us (fun k c h1=>h.St _ _ _ (hst k c h1)) (fun k c h1=>ih k c h1 h.shut)
 | ref id hops sz i k hn=>rw [<- h.β id hops hn];exact .ref id hops sz i k (gO hn h.n)
 | sl id hops sz lo len full cap hn hlen hf hf'=>
  rw [<- h.β id hops hn];exact .sl id hops sz lo len full cap (gO hn h.n) hlen hf (fun e=>by rw [h.κ id hops hn];exact hf' e)
 | fn f first caps ys zs h1 h2 _ _ ih1 ih2=>exact .fn f first caps ys zs h1 h2 (fun i c y e1 e2=>ih1 i c y e1 e2 h) (fun i c y e1 e2=>ih2 i c y e1 e2 h)
 | mp id hn=>rw [<- h.β id [] hn];exact .mp id (gO hn h.n)
 | agg cs ys h1 _ h3 ih=>exact .agg cs ys h1 (fun i c y e1 e2=>ih i c y e1 e2 h) h3
 | uo cs ys h1 _ ih=>exact .uo cs ys h1 (fun i c y e1 e2=>ih i c y e1 e2 h)
 | un=>exact .un
 | za y=>exact .za y
 | gl id sz rows y hn hg _ ih=>exact .gl id sz rows y (gO hn h.n) (h.G _ _ _ hn hg) (ih h.shut)
 | eM t c y _ ih=>exact .eM t c y (ih h)
def nI:C->Bool
 | .v _ | .ui .. | .jH _=>true
 | _=>false
def AB:C->Bool
 | .agg cs=>cs.all nI
 | c=>nI c
def jc:C->Bool
 | .fn _ first caps=>first.all AB && caps.all AB
 | c=>nI c
def L.kh {E:Env} {c:C} {y:Value} (h:L E c y) (hc:nI c=true):L E.shut c y:=by
 cases h with
 | v x hx=>exact .v _ hx
 | ui o sz rows b off cap us ho h2 hsz hst hL=>exact .ui o sz rows b off cap us ho h2 hsz hst hL
 | xf o sz ho a=>exact .xf o sz ho a
 | jH cells b off us hst hL=>exact .jH cells b off us hst hL
 | _=>simp [nI] at hc
def L.Kj {E:Env} {c:C} {y:Value} (h:L E c y) (hc:AB c=true):L E.shut c y:=by
 cases h with
 | agg cs ys h1 h2 h3=>
  refine .agg cs ys h1 (fun i c y e1 e2=>(h2 i c y e1 e2).kh ?_) h3;exact dT.1 (show cs.all nI=true from hc) _ (dM e1)
 | v x hx=>exact (L.v (E:=E) _ hx).kh hc
 | ui o sz rows b off cap us ho h2 hsz hst hL=>exact (L.ui (E:=E) o sz rows b off cap us ho h2 hsz hst hL).kh hc
 | xf o sz ho a=>exact (L.xf (E:=E) o sz ho a).kh hc
 | jH cells b off us hst hL=>exact (L.jH (E:=E) cells b off us hst hL).kh hc
 | _=>simp [AB,nI] at hc
def L.vy {E:Env} {c:C} {y:Value} (h:L E c y) (hc:jc c=true):L E.shut c y:=by
 cases h with
 | fn f first caps ys zs h1 h2 h3 h4=>
  have hc:(first.all AB && caps.all AB)=true:=hc;rw [dS] at hc;exact .fn f first caps ys zs h1 h2 (fun i c y e1 e2=>(h3 i c y e1 e2).Kj (dT.1 hc.1 _ (dM e1))) (fun i c y e1 e2=>(h4 i c y e1 e2).Kj (dT.1 hc.2 _ (dM e1)))
 | v x hx=>exact (L.v (E:=E) _ hx).kh hc
 | ui o sz rows b off cap us ho h2 hsz hst hL=>exact (L.ui (E:=E) o sz rows b off cap us ho h2 hsz hst hL).kh hc
 | xf o sz ho a=>exact (L.xf (E:=E) o sz ho a).kh hc
 | jH cells b off us hst hL=>exact (L.jH (E:=E) cells b off us hst hL).kh hc
 | _=>simp [jc,nI] at hc
def LL (E:Env) (cs:List C) (ys:List Value):Prop:=cs.length=ys.length∧∀ (i:Nat) c y,cs[i]?= some c->ys[i]?= some y->L E c y
def LL.mono {E E':Env} (h:E.le E') {cs:List C} {ys:List Value} (hl:LL E cs ys):LL E' cs ys:=
 ⟨hl.1,fun i c y h1 h2=>(hl.2 i c y h1 h2).mono h⟩
def LL.nil {E:Env}:LL E [] []:=⟨rfl,by simp⟩
def LL.cons {E:Env} {c:C} {y:Value} {cs:List C} {ys:List Value} (h:L E c y) (hl:LL E cs ys):LL E (c::cs) (y::ys):=by
 refine ⟨by simp [hl.1],?_⟩;intro i c' y' h1 h2;cases i with
 | zero=>simp at h1 h2;subst h1;subst h2;exact h
 | succ i=>simp at h1 h2;exact hl.2 i c' y' h1 h2
def LL.cons_inv {E:Env} {c:C} {y:Value} {cs:List C} {ys:List Value} (h:LL E (c::cs) (y::ys)):L E c y∧LL E cs ys:=
 ⟨h.2 0 c y rfl rfl,by simpa using h.1,fun i c' y' h1 h2=>h.2 (i+1) c' y' (by simpa using h1) (by simpa using h2)⟩
def LL.one {E:Env} {c:C} {y:Value} (h:L E c y):LL E [c] [y]:=LL.cons h LL.nil
def LL.append {E:Env} {cs cs':List C} {ys ys':List Value} (h:LL E cs ys) (h':LL E cs' ys'):LL E (cs++cs') (ys++ys'):=by
 refine ⟨by simp [h.1,h'.1],?_⟩;intro i c y h1 h2;by_cases hi:i < cs.length
 ·rw [dR hi] at h1;rw [dR (by rw [<- h.1];exact hi)] at h2;exact h.2 i c y h1 h2
 ·rw [dY (by omega)] at h1;rw [dY (by rw [<- h.1];omega),<- h.1] at h2;exact h'.2 _ c y h1 h2
def LL.get {E:Env} {cs:List C} {ys:List Value} (h:LL E cs ys) {i:Nat} {c:C} (hc:cs[i]?= some c):∃ y,ys[i]?= some y∧L E c y:=by
 have hi:i < ys.length:=by rw [<- h.1];exact (dJ.1 hc).1
 exact ⟨ys[i],by simp [hi],h.2 i c ys[i] hc (by simp [hi])⟩
def LL.take {E:Env} {cs:List C} {ys:List Value} (h:LL E cs ys) (n:Nat):LL E (cs.take n) (ys.take n):=by
 refine ⟨by simp [h.1],?_⟩;intro i c y h1 h2;rw [gz] at h1 h2;split at h1
 ·rename_i hi;rw [dO hi] at h2;exact h.2 i c y h1 h2
 ·cases h1
def LL.drop {E:Env} {cs:List C} {ys:List Value} (h:LL E cs ys) (n:Nat):LL E (cs.drop n) (ys.drop n):=by
 refine ⟨by simp [h.1],?_⟩;intro i c y h1 h2;rw [pt] at h1 h2;exact h.2 _ c y h1 h2
def LL.set {E:Env} {cs:List C} {ys:List Value} (h:LL E cs ys) {c:C} {y:Value} (hl:L E c y) (i:Nat):LL E (cs.set i c) (ys.set i y):=by
 refine ⟨by simp [h.1],?_⟩;intro j c' y' h1 h2;rw [dW] at h1 h2;by_cases hij:i=j
 ·subst hij;rw [dO rfl] at h1 h2;split at h1
  ·split at h2
   ·cases h1;cases h2;exact hl
   ·cases h2
  ·cases h1
 ·rw [dL hij] at h1 h2;exact h.2 j c' y' h1 h2
def C.cells:C->List C
 | .agg cs=>cs
 | c=>[c]
def L.cells {E:Env} {c:C} {y:Value} (h:L E c y) (hj:c≠.za) (hu:c≠.un):LL E c.cells y.cells.toList:=by
 have one:∀ (c:C) (y:Value),L E c y->c.cells=[c]->y.cells= #[y]->LL E c.cells y.cells.toList:=fun c y h e1 e2=>by
  rw [e1,e2];exact LL.cons h LL.nil
 cases h with
 | v x hx=>exact one _ _ (.v _ hx) rfl (by cases y <;> simp_all [Value.cells,Value.oneCell'])
 | agg cs ys h1 h2 h3=>exact ⟨by simpa [C.cells,Value.cells] using h1,fun i c y e1 e2=>h2 i c y e1 (by simpa [Value.cells] using e2)⟩
 | un=>exact absurd rfl hu
 | za=>exact absurd rfl hj
 | uo cs ys h1 h2=>exact one _ _ (.uo cs ys h1 h2) rfl rfl
 | ui o sz rows b off cap us ho hc hsz hst hL=>exact one _ _ (.ui o sz rows b off cap us ho hc hsz hst hL) rfl rfl
 | xf o sz ho a=>exact one _ _ (.xf o sz ho a) rfl rfl
 | jH cells b off us hst hL=>exact one _ _ (.jH cells b off us hst hL) rfl rfl
 | ref id hops sz i k hn=>exact one _ _ (.ref id hops sz i k hn) rfl rfl
 | sl id hops sz lo len full cap hn hlen hf hf'=>exact one _ _ (.sl id hops sz lo len full cap hn hlen hf hf') rfl rfl
 | fn f first caps ys zs h1 h2 h3 h4=>exact one _ _ (.fn f first caps ys zs h1 h2 h3 h4) rfl rfl
 | mp id hn=>exact one _ _ (.mp id hn) rfl rfl
 | gl id sz rows y hn hg h=>exact one _ _ (.gl id sz rows y hn hg h) rfl (by cases h <;> rfl)
 | eM t c y h=>exact one _ _ (.eM t c y h) rfl rfl
def cellAt (rows:List (List C)) (i k:Nat):Option C:=(rows[i]?).bind (·[k]?)
def vn:Nat->List (List C)->List ey->Option (Nat × List (List C))
 | sz,rows,[]=>some (sz,rows)
 | _,rows,(i,k)::hs=>match cellAt rows i k with
  | some (.ui 2 sz' rows')=>vn sz' rows' hs
  | _=>none
def z6 (H:zl) (id:Nat) (hops:List ey):Option (Nat × List (List C)):=
 match H[id]? with
 | some ob=>if ob.kind=1∨ob.kind=2 then vn ob.sz ob.rows hops else none
 | none=>none
def qQ (E:Env) (kd:Nat) (id:Nat) (hops:List ey) (i k:Nat) (c:C) (u:Value):Prop:=
 match c with
 | .ui 2 _ rows'=>u=.slice (some ⟨E.β id (hops++[(i,k)]),0,none⟩) rows'.length (E.κ id (hops++[(i,k)]))
 | c=>L (E.at kd) c u∧u.oneCell'=true
structure Ay (w:World) (E:Env) (kd:Nat) (id:Nat) (hops:List ey) (sz:Nat) (rows:List (List C)):Prop where
 len:rows.length<=E.κ id hops
 row:∀ r ∈ rows,r.length=sz
 uy:∃ cur e,w.heap[E.β id hops]?= some (.cells cur e (0,0))∧cur.size=E.κ id hops * sz∧
  ∀ i k c,cellAt rows i k=some c->∃ u,cur[i * sz+k]?= some u∧qQ E kd id hops i k c u
structure qb (w:World) (E:Env) (H:zl):Prop where
 n:E.n=H.length
 uy:∀ id ob hops sz rows,H[id]?= some ob->z6 H id hops=some (sz,rows)->Ay w E ob.kind id hops sz rows
 inj:∀ id hops id' hops' x y,z6 H id hops=some x->z6 H id' hops'=some y->E.β id hops=E.β id' hops'->id=id'∧hops=hops'
 qo:∀ b o u,E.St b o=some u->w.cell? ⟨b,o,none⟩=some u∧u.oneCell'=true
 sep:∀ id hops x o u,z6 H id hops=some x->E.St (E.β id hops) o=some u->hops=[]∧∃ ob,H[id]?= some ob∧o < ob.fz * ob.sz
 ty:∀ id ob,H[id]?= some ob->ob.kind=2->∃ cur,w.heap[E.β id []]?= some (.cells cur ob.ty (0,0))
 fz:∀ (id:Nat) (ob:Ob),H[id]?= some ob->ob.fz<=ob.rows.length
structure S where
 tmps:List C
 H:zl
def q7 (E:Env) (H:zl) (b:Nat):Prop:=∃ id hops x,z6 H id hops=some x∧E.β id hops=b
structure qA (w:World) (E:Env) (H:zl) (w':World) (E':Env) (H':zl):Prop where
 le:E.le E'
 BN:∀ (id k:Nat),id < E.n->E'.G id k=E.G id k
 os:w'.os=w.os
 tape:w'.tape=w.tape
 output:w'.output=w.output
 size:w.heap.size<=w'.heap.size
 frame:∀ k,k < w.heap.size->¬q7 E H k->w'.heap[k]?= w.heap[k]?
 jE:∀ b o u,E'.St b o=some u->E.St b o=some u∨w.heap.size<=b∨q7 E H b
 own:∀ b,q7 E' H' b->w.heap.size<=b∨q7 E H b
def qA.refl (w:World) (E:Env) (H:zl):qA w E H w E H:=
 ⟨Env.le.refl E,fun _ _ _=>rfl,rfl,rfl,rfl,dU _,fun _ _ _=>rfl,fun _ _ _ h=>.inl h,fun _ h=>.inr h⟩
def qA.trans {w w1 w2:World} {E E1 E2:Env} {H H1 H2:zl} (g:qA w E H w1 E1 H1) (h:qA w1 E1 H1 w2 E2 H2):qA w E H w2 E2 H2 where
 le:=g.le.trans h.le
 BN id k hi:=(h.BN id k (gO hi g.le.n)).trans (g.BN id k hi)
 os:=h.os.trans g.os
 tape:=h.tape.trans g.tape
 output:=h.output.trans g.output
 size:=gQ g.size h.size
 frame k hk ho:=(h.frame k (gO hk g.size) fun hc=>(g.own k hc).elim (fun hs=>by omega) ho).trans (g.frame k hk ho)
 jE b o u hu:=by
  rcases h.jE b o u hu with h1 | h1 | h1
  ·exact g.jE b o u h1
  ·exact .inr (.inl (gQ g.size h1))
  ·rcases g.own b h1 with h2 | h2
   ·exact .inr (.inl h2)
   ·exact .inr (.inr h2)
 own b hb:=by
  rcases h.own b hb with h1 | h1
  ·exact .inl (gQ g.size h1)
  ·exact g.own b h1
def qD (E:Env) (H:zl) (id b:Nat):Prop:=∃ ob cap,H[id]?= some ob∧ob.kind=4∧E.G id ob.rows.length=some (.slice (some ⟨b,0,none⟩) ob.rows.length cap)∧cap≠ob.rows.length
def jt (H:zl) (id b:Nat):Prop:=∃ ob o t,H[id]?= some ob∧ob.kind=4∧(ob.rows=[.rc o::t]∧ob.fz=1)∧ob.ty=b
def Bs:Obj->Bool
 | .loop _=>true
 | .map ..=>true
 | .mapIter ..=>true
 | _=>false
def Gj:Obj->List Value
 | .loop r=>r.tmps.toList
 | _=>[]
def ir (E:Env) (t:List C) (o:Obj):Prop:=LL E t (Gj o)∨∃ es k,o=.map es k∧LL E t (es.toList.map (·.val))
def ir.map {E E':Env} {t:List C} {o:Obj} (h:ir E t o) (hf:∀ ys,LL E t ys->LL E' t ys):ir E' t o:=h.imp (hf _) fun ⟨es,k,e,hl⟩=>⟨es,k,e,hf _ hl⟩
def ir.mono {E E':Env} {t:List C} {o:Obj} (h:ir E t o) (hle:E.le E'):ir E' t o:=h.map fun _ hl=>hl.mono hle
def ir.loop {E:Env} {t:List C} {r:Loop} (h:ir E t (.loop r)):LL E t r.tmps.toList:=h.elim id fun ⟨_,_,e,_⟩=>by cases e
def qb.Bm {w:World} {E:Env} {H:zl} {b:Nat} (h:qb w E H) (ho:q7 E H b):∃ cur e,w.heap[b]?= some (.cells cur e (0,0)):=by
 obtain ⟨id,hops,x,hx,rfl⟩:=ho;have hx':=hx;unfold z6 at hx';split at hx'
 ·rename_i ob hob;obtain ⟨cur,e,h1,_⟩:=(h.uy id ob hops x.1 x.2 hob hx).uy;exact ⟨cur,e,h1⟩
 ·cases hx'
structure iN (w:World) (E:Env) (H:zl):Prop where
 val:∀ (id:Nat) (ob:Ob),H[id]?= some ob->ob.kind=4->∃ a cap,E.G id ob.rows.length=some (.slice a ob.rows.length cap)∧(cap=ob.rows.length∨∃ b,a=some ⟨b,0,none⟩∧ob.rows.length<=cap)
 uy:∀ (id b:Nat) (ob:Ob),qD E H id b->H[id]?= some ob->∃ cur cap,E.G id ob.rows.length=some (.slice (some ⟨b,0,none⟩) ob.rows.length cap)∧w.heap[b]?= some (.cells cur ob.ty (0,0))∧cur.size=cap * ob.sz
 sep:∀ id b,qD E H id b->¬q7 E H b
 inj:∀ id id' b,qD E H id b->qD E H id' b->id=id'
 st:∀ (id b:Nat) (ob:Ob) o u,qD E H id b->H[id]?= some ob->E.St b o=some u->o < ob.rows.length * ob.sz
 top:∀ (id:Nat) (ob:Ob) (k:Nat) u,H[id]?= some ob->ob.kind=4->E.G id k=some u->k<=ob.rows.length
 fg:∀ (id:Nat) (ob:Ob) (o:Obj) (t:List C),H[id]?= some ob->ob.kind=4->(ob.rows=[.rc o::t]∧ob.fz=1)->(w.heap[ob.ty]?= some o∧Bs o=true)∧ir E t o
 wb:∀ id id' b,jt H id b->jt H id' b->id=id'
def jw (H H':zl):Prop:=∀ (id:Nat) (ob:Ob),ob.kind=4->(H'[id]?= some ob↔H[id]?= some ob)
def jw.refl (H:zl):jw H H:=fun _ _ _=>Iff.rfl
structure qs (w:World) (E:Env) (H:zl):Prop where
 base:qb w E H
 um:iN w E H
def qs.n {w:World} {E:Env} {H:zl} (h:qs w E H):E.n=H.length:=h.base.n
def j7 (E:Env) (H:zl) (b:Nat):Prop:=q7 E H b∨∃ id,(qD E H id b∨jt H id b)
structure Grow (w:World) (E:Env) (H:zl) (w':World) (E':Env) (H':zl):Prop where
 le:E.le E'
 os:w'.os=w.os
 tape:w'.tape=w.tape
 output:w'.output=w.output
 size:w.heap.size<=w'.heap.size
 frame:∀ k,k < w.heap.size->¬j7 E H k->w'.heap[k]?= w.heap[k]?
 jE:∀ b o u,E'.St b o=some u->E.St b o=some u∨w.heap.size<=b∨j7 E H b
 own:∀ b,j7 E' H' b->w.heap.size<=b∨j7 E H b
def Grow.refl (w:World) (E:Env) (H:zl):Grow w E H w E H:=
 ⟨Env.le.refl E,rfl,rfl,rfl,dU _,fun _ _ _=>rfl,fun _ _ _ h=>.inl h,fun _ h=>.inr h⟩
def Grow.trans {w w1 w2:World} {E E1 E2:Env} {H H1 H2:zl} (g:Grow w E H w1 E1 H1) (h:Grow w1 E1 H1 w2 E2 H2):Grow w E H w2 E2 H2 where
 le:=g.le.trans h.le
 os:=h.os.trans g.os
 tape:=h.tape.trans g.tape
 output:=h.output.trans g.output
 size:=gQ g.size h.size
 frame k hk ho:=(h.frame k (gO hk g.size) fun hc=>(g.own k hc).elim (fun hs=>by omega) ho).trans (g.frame k hk ho)
 jE b o u hu:=by
  rcases h.jE b o u hu with h1 | h1 | h1
  ·exact g.jE b o u h1
  ·exact .inr (.inl (gQ g.size h1))
  ·rcases g.own b h1 with h2 | h2
   ·exact .inr (.inl h2)
   ·exact .inr (.inr h2)
 own b hb:=by
  rcases h.own b hb with h1 | h1
  ·exact .inl (gQ g.size h1)
  ·exact g.own b h1
def qD.back {w:World} {E E':Env} {H H':zl} (hg:iN w E H) (hn:E.n=H.length) (hle:E.le E') (hk:jw H H') {id b:Nat} (h:qD E' H' id b):qD E H id b:=by
 obtain ⟨ob,cap,h1,h2,h3,h4⟩:=h;have h1':=(hk id ob h2).1 h1;obtain ⟨a,cap',e1,_⟩:=hg.val id ob h1' h2;have e2:=hle.G id ob.rows.length _ (by rw [hn];exact (dJ.1 h1').1) e1;rw [h3] at e2;cases e2
 exact ⟨ob,cap,h1',h2,e1,h4⟩
def jt.back {H H':zl} (hk:jw H H') {id b:Nat} (h:jt H' id b):jt H id b:=by
 obtain ⟨ob,r,t,h1,h2,h3⟩:=h;exact ⟨ob,r,t,(hk id ob h2).1 h1,h2,h3⟩
def iN.step {w w':World} {E E':Env} {H H':zl} (h:qs w E H) (g:qA w E H w' E' H') (hk:jw H H'):iN w' E' H' where
 val id ob hob hkd:=by
  have hob':=(hk id ob hkd).1 hob;obtain ⟨a,cap,e1,e2⟩:=h.um.val id ob hob' hkd;exact ⟨a,cap,g.le.G id ob.rows.length _ (by rw [h.n];exact (dJ.1 hob').1) e1,e2⟩
 uy id b ob ho hob:=by
  have ho':=ho.back h.um h.n g.le hk;obtain ⟨ob2,_,e1,e2,_⟩:=ho;rw [hob] at e1;cases e1
  have hob':=(hk id ob e2).1 hob;obtain ⟨cur,cap,e3,e4,e5⟩:=h.um.uy id b ob ho' hob';refine ⟨cur,cap,g.le.G id ob.rows.length _ (by rw [h.n];exact (dJ.1 hob').1) e3,?_,e5⟩;rw [g.frame b (dX.1 e4).1 (h.um.sep id b ho')];exact e4
 sep id b ho:=by
  have ho':=ho.back h.um h.n g.le hk;intro hc;rcases g.own b hc with h1 | h1
  ·obtain ⟨ob,_,e1,_⟩:=ho';obtain ⟨cur,cap,e3,e4,e5⟩:=h.um.uy id b ob (ho.back h.um h.n g.le hk) e1;have:=(dX.1 e4).1;omega
  ·exact h.um.sep id b ho' h1
 inj id id' b h1 h2:=h.um.inj id id' b (h1.back h.um h.n g.le hk) (h2.back h.um h.n g.le hk)
 st id b ob o u ho hob hu:=by
  have ho':=ho.back h.um h.n g.le hk;obtain ⟨ob2,_,e1,e2,_⟩:=ho;rw [hob] at e1;cases e1
  have hob':=(hk id ob e2).1 hob;rcases g.jE b o u hu with h1 | h1 | h1
  ·exact h.um.st id b ob o u ho' hob' h1
  ·obtain ⟨cur,cap,e3,e4,e5⟩:=h.um.uy id b ob ho' hob';have:=(dX.1 e4).1;omega
  ·exact absurd h1 (h.um.sep id b ho')
 top id ob k u hob hkd hu:=by
  have hob':=(hk id ob hkd).1 hob;rw [g.BN id k (by rw [h.n];exact (dJ.1 hob').1)] at hu;exact h.um.top id ob k u hob' hkd hu
 fg id ob r t hob hkd hr:=by
  obtain ⟨⟨h1,hf⟩,hl⟩:=h.um.fg id ob r t ((hk id ob hkd).1 hob) hkd hr;refine ⟨⟨?_,hf⟩,hl.mono g.le⟩;rw [g.frame ob.ty (dX.1 h1).1 fun hc=>by obtain ⟨cur,e,h2⟩:=h.base.Bm hc;rw [h1] at h2;cases h2;cases hf];exact h1
 wb id id' b h1 h2:=h.um.wb id id' b (h1.back hk) (h2.back hk)
def qA.up {w w':World} {E E':Env} {H H':zl} (h:qs w E H) (g:qA w E H w' E' H') (hk:jw H H'):Grow w E H w' E' H' where
 le:=g.le
 os:=g.os
 tape:=g.tape
 output:=g.output
 size:=g.size
 frame k h1 h2:=g.frame k h1 fun hc=>h2 (.inl hc)
 jE b o u hu:=(g.jE b o u hu).imp_right fun h=>h.imp_right .inl
 own b hb:=by
  rcases hb with hb | ⟨id,hb | hb⟩
  ·exact (g.own b hb).imp_right .inl
  ·exact .inr (.inr ⟨id,.inl (hb.back h.um h.n g.le hk)⟩)
  ·exact .inr (.inr ⟨id,.inr (hb.back hk)⟩)
abbrev oH (D:Nat):Deferred:={ target:=.collected D,args:= #[] }
def Marks (m:Nat) (w:World):List Deferred->Prop
 | []=>m<=w.heap.size
 | d::ds=>(∃ D,d=oH D∧m<=D∧w.heap[D]?= some (.deferred (some []))∧oH D ∉ ds)∧Marks m w ds
def Marks.mono {m:Nat} {w w':World} (hsz:w.heap.size<=w'.heap.size):∀ {ds:List Deferred},Marks m w ds->(∀ D,oH D ∈ ds->w.heap[D]?= some (.deferred (some []))->w'.heap[D]?= w.heap[D]?)->Marks m w' ds
 | [],h,_=>gQ h hsz
 | d::ds,⟨⟨D,h1,h2,h3,h4⟩,ht⟩,hk=>⟨⟨D,h1,h2,(hk D (by rw [h1];exact px ..) h3).trans h3,h4⟩,Marks.mono hsz ht fun D' hm hd=>hk D' (g9 _ hm) hd⟩
def Marks.le {m:Nat} {w:World}:∀ {ds:List Deferred},Marks m w ds->m<=w.heap.size
 | [],h=>h
 | _::_,⟨_,h⟩=>Marks.le h
def qs.free {w:World} {E:Env} {H:zl} {D:Nat} {ds:Option (List Deferred)} (h:qs w E H) (hd:w.heap[D]?= some (.deferred ds)):¬j7 E H D:=by
 rintro (ho | ⟨id,⟨ob,cap,hob,h4,hG,hne⟩ | ⟨ob,r,t,hob,h4,hr,rfl⟩⟩)
 ·obtain ⟨cur,e,h1⟩:=h.base.Bm ho;rw [hd] at h1;cases h1
 ·obtain ⟨cur,cap',_,h1,_⟩:=h.um.uy id D ob ⟨ob,cap,hob,h4,hG,hne⟩ hob;rw [hd] at h1;cases h1
 ·obtain ⟨h1,hf⟩:=(h.um.fg id ob r t hob h4 hr).1;rw [hd] at h1;cases h1
  cases hf
def Marks.grow {m:Nat} {w w':World} {E E':Env} {H H':zl} {ds:List Deferred} (h:Marks m w ds) (hh:qs w E H) (g:Grow w E H w' E' H'):Marks m w' ds:=
 Marks.mono g.size h fun D _ hD=>g.frame D (dX.1 hD).1 (hh.free hD)
def qs.cells {w w':World} {E:Env} {H:zl} (hk:∀ (k:Nat) (o:Obj),w.heap[k]?= some o->(∀ ds,o≠.deferred ds)->w'.heap[k]?= w.heap[k]?) (h:qs w E H):qs w' E H where
 base:={
  n:=h.base.n
  uy:=fun id ob hops sz rows e1 e2=>
   let b:=h.base.uy id ob hops sz rows e1 e2
   ⟨b.len,b.row,let ⟨cur,e,h1,h2⟩:=b.uy;⟨cur,e,(hk _ _ h1 (by simp)).trans h1,h2⟩⟩
  inj:=h.base.inj
  qo:=fun b o u hu=>by
   obtain ⟨h1,h2⟩:=h.base.qo b o u hu;refine ⟨?_,h2⟩;unfold World.cell? at h1 ⊢;split at h1
   ·rename_i c t z hc;rw [hk _ _ hc (by simp),hc];exact h1
   ·cases h1
  sep:=h.base.sep
  ty:=fun id ob e1 e2=>let ⟨cur,h1⟩:=h.base.ty id ob e1 e2;⟨cur,(hk _ _ h1 (by simp)).trans h1⟩
  fz:=h.base.fz }
 um:={
  val:=h.um.val
  uy:=fun id b ob e1 e2=>let ⟨cur,cap,h1,h2,h3⟩:=h.um.uy id b ob e1 e2;⟨cur,cap,h1,(hk _ _ h2 (by simp)).trans h2,h3⟩
  sep:=h.um.sep
  inj:=h.um.inj
  st:=h.um.st
  top:=h.um.top
  fg:=fun id ob r t e1 e2 e3=>let h1:=h.um.fg id ob r t e1 e2 e3;⟨⟨(hk _ _ h1.1.1 (by intro ds e;have:=h1.1.2;rw [e] at this;cases this)).trans h1.1.1,h1.1.2⟩,h1.2⟩
  wb:=h.um.wb }
structure xD (B m:Nat) (w:World) (E:Env) (s:S) (a:Act):Prop where
 heap:qs w E s.H
 tmps:LL E s.tmps a.tmps.toList
 defers:Marks m w a.defers
 base:B<=s.H.length
structure Env.mw (B:Nat) (E E':Env):Prop where
 β:∀ id hops,id < B->E'.β id hops=E.β id hops
 κ:∀ id hops,id < B->E'.κ id hops=E.κ id hops
 St:∀ b o u,E.St b o=some u->E'.St b o=some u
 G:∀ id k u,id < B->E.G id k=some u->E'.G id k=some u
def Env.mw.refl (B:Nat) (E:Env):E.mw B E:=⟨fun _ _ _=>rfl,fun _ _ _=>rfl,fun _ _ _ h=>h,fun _ _ _ _ h=>h⟩
def Env.mw.trans {B:Nat} {E E' E'':Env} (h:E.mw B E') (h':E'.mw B E''):E.mw B E'':=
 ⟨fun id hops hi=>(h'.β id hops hi).trans (h.β id hops hi),fun id hops hi=>(h'.κ id hops hi).trans (h.κ id hops hi),fun b o u hu=>h'.St b o u (h.St b o u hu),fun id k u hi hu=>h'.G id k u hi (h.G id k u hi hu)⟩
def Env.le.fh {B:Nat} {E E':Env} (h:E.le E') (hB:B<=E.n):E.mw B E':=
 ⟨fun id hops hi=>h.β id hops (gO hi hB),fun id hops hi=>h.κ id hops (gO hi hB),h.St,fun id k u hi=>h.G id k u (gO hi hB)⟩
structure ju (B:Nat) (w:World) (E:Env) (H:zl) (w':World) (E':Env) (H':zl):Prop where
 le:E.mw B E'
 os:w'.os=w.os
 tape:w'.tape=w.tape
 output:w'.output=w.output
 size:w.heap.size<=w'.heap.size
 frame:∀ k,k < w.heap.size->¬j7 E H k->w'.heap[k]?= w.heap[k]?
 jE:∀ b o u,E'.St b o=some u->E.St b o=some u∨w.heap.size<=b∨j7 E H b
 own:∀ b,j7 E' H' b->w.heap.size<=b∨j7 E H b
def Grow.fh {B:Nat} {w w':World} {E E':Env} {H H':zl} (g:Grow w E H w' E' H') (hB:B<=E.n):ju B w E H w' E' H':=
 ⟨g.le.fh hB,g.os,g.tape,g.output,g.size,g.frame,g.jE,g.own⟩
def ju.refl (B:Nat) (w:World) (E:Env) (H:zl):ju B w E H w E H:=
 ⟨Env.mw.refl B E,rfl,rfl,rfl,dU _,fun _ _ _=>rfl,fun _ _ _ h=>.inl h,fun _ h=>.inr h⟩
def ju.trans {B:Nat} {w w1 w2:World} {E E1 E2:Env} {H H1 H2:zl} (g:ju B w E H w1 E1 H1) (h:ju B w1 E1 H1 w2 E2 H2):ju B w E H w2 E2 H2 where
 le:=g.le.trans h.le
 os:=h.os.trans g.os
 tape:=h.tape.trans g.tape
 output:=h.output.trans g.output
 size:=gQ g.size h.size
 frame k hk ho:=(h.frame k (gO hk g.size) fun hc=>(g.own k hc).elim (fun hs=>by omega) ho).trans (g.frame k hk ho)
 jE b o u hu:=by
  rcases h.jE b o u hu with h1 | h1 | h1
  ·exact g.jE b o u h1
  ·exact .inr (.inl (gQ g.size h1))
  ·rcases g.own b h1 with h2 | h2
   ·exact .inr (.inl h2)
   ·exact .inr (.inr h2)
 own b hb:=by
  rcases h.own b hb with h1 | h1
  ·exact .inl (gQ g.size h1)
  ·exact g.own b h1
def fw (q:Option Nat):Fence:={ Fence.wide with round:=q }
def xj:Code->Bool
 | .seq a b=>xj a || xj b
 | .cond _ a b=>xj a || xj b
 | .block _ a=>xj a
 | .loop a=>xj a
 | .scope a=>xj a
 | .rangeFunc ..=>true
 | _=>false
def qU (P:Program) (B:Nat) (c:Code) (s:S) (R:Exit->S->Prop):Prop:=
 ∀ (q:Option Nat) (m:Nat) (w:World) (E:Env) (a:Act) (Q:Exit->Act->World->Prop),(xj c=true->q=none)->xD B m w E s a->
  (∀ ex s' w' E' a',R ex s'->xD B m w' E' s' a'->ju B w E s.H w' E' s'.H->Q ex a' w')->c.wpIn (fw q) 0 P Q a w
abbrev Run (P:Program) (B:Nat) (c:Code) (s:S) (ex:Exit) (s':S):Prop:=qU P B c s fun e t=>e=ex∧t=s'
def ia (P:Program) (B:Nat) (c:Code) (n:Nat) (s:S) (R:Exit->S->Prop):Prop:=
 ∀ (q:Option Nat) (m:Nat) (w:World) (E:Env) (a:Act) (Q:Exit->Act->World->Prop),(xj c=true->q=none)->xD B m w E s a->
  (∀ ex s' w' E' a',R ex s'->xD B m w' E' s' a'->ju B w E s.H w' E' s'.H->Q ex a' w')->Code.roundsIn (fw q) 0 P c Q n a w
def kF (P:Program) (B:Nat) (ops:Array Oper) (l:List Oper) (s:S) (R:S->Prop):Prop:=
 ∀ (q:Option Nat) (m:Nat) (w:World) (E:Env) (a:Act) (Q:Exit->Act->World->Prop),xD B m w E s a->
  (∀ s' w' E' a',R s'->xD B m w' E' s' a'->ju B w E s.H w' E' s'.H->Q .normal a' w')->wpListIn (fw q) 0 P ops Q l a w
def mT (P:Program) (B:Nat) (o:Oper) (s:S) (R:S->Prop):Prop:=
 ∀ (q:Option Nat) (m:Nat) (w:World) (E:Env) (a:Act) (K:Act->World->Prop) (Q:Exit->Act->World->Prop),xD B m w E s a->
  (∀ s' w' E' a',R s'->xD B m w' E' s' a'->ju B w E s.H w' E' s'.H->K a' w')->o.wpIn (fw q) 0 P a w K Q
def zo (B:Nat) (s s':S):Prop:=
 ∀ (m:Nat) (w:World) (E:Env) (a:Act),xD B m w E s a->∃ E',xD B m w E' s' a∧ju B w E s.H w E' s'.H
def Hz {F:Fence} {k:Nat} {P:Program} {c:Code} {Q:Exit->Act->World->Prop}:∀ {n m:Nat},n<=m->∀ {a:Act} {w:World},Code.roundsIn F k P c Q n a w->Code.roundsIn F k P c Q m a w
 | 0,_,_,_,_,h=>(h:False).elim
 | n+1,0,hm,_,_,_=>absurd hm (Nat.not_succ_le_zero n)
 | n+1,m+1,hm,a,w,h=>by
  rw [roundsIn_succ] at h ⊢;refine wpIn_mono h fun e a1 w1 h1=>?_
  cases e with
  | normal=>exact Hz (Nat.le_of_succ_le_succ hm) h1
  | _=>exact h1
section scopes
variable {F:Fence} {n:Nat} {P:Program} {b:Frame} {a:Act} {k:List Item} {cs:List Frame} {w:World} {Q:Exit->Act->World->Prop}
def xH {c:Code}:step P (lone (b.atR a (.code (.scope c)::k)) cs w)=.next (lone (b.atR a (.code c:: .inScope c::k)) cs w):=
 step_lone_go (by simp [stepG,stepG.exec,Frame.atR])
def Hn {c:Code}:step P (lone (b.atR a (.inScope c::k)) cs w)=.next (lone (b.atR a k) cs w):=
 step_lone_go (by simp [stepG,stepG.exec,Frame.atR])
def LR {c:Code} (h:c.wpIn F n P (Exit.noGoto Q) a w):(Code.scope c).wpIn F n P Q a w:=by
 intro b k cs hro hb hr;have h0:(lone (b.atR a (.code (.scope c)::k)) cs w).fenced P F:=fenced_calm hb hr rfl;obtain ⟨e,a₁,w₁,hq,harr⟩:=h b (.inScope c::k) cs hro hb hr;cases e with
 | normal=>exact ⟨.normal,a₁,w₁,hq,.head h0 xH (StepsIn.trans harr (.one (fenced_calm hb hr rfl) Hn))⟩
 | exit id=>
  have hx:exitTo id (.inScope c::k)=exitTo id k:=by simp [exitTo]
  exact ⟨.exit id,a₁,w₁,hq,fun k' hk=>.head h0 xH (harr.1 k' (by rw [hx];exact hk)),
   fun hr' hk=>let ⟨k₁,h1,h2⟩:=harr.2 hr' (by rw [hx];exact hk);⟨k₁,h1,.head h0 xH h2⟩⟩
 | goto l=>exact hq.elim
 | ret=>exact ⟨_,a₁,w₁,hq,.of_steps (.one h0 xH) harr⟩
 | panic ch=>exact ⟨_,a₁,w₁,hq,.of_steps (.one h0 xH) harr⟩
 | outgrown=>exact ⟨_,a₁,w₁,hq,.of_steps (.one h0 xH) harr⟩
inductive Bn (F:Fence) (n:Nat) (P:Program) (c:Code) (Q:Exit->Act->World->Prop):Nat->Act->World->Prop
 | mk {l:Nat} {a:Act} {w:World} {rest:Code} (Q':Exit->Act->World->Prop):findLabel c l=some rest->rest.wpIn F n P Q' a w->(∀ e a w,Q' e a w->(∀ l,e≠.goto l)->Q e a w)->
   (∀ l a w,Q' (.goto l) a w->Bn F n P c Q l a w)->Bn F n P c Q l a w
def Hl {c:Code} {m:Machine} {e:Exit} (hb:F.fn b.fn) (hr:F.room (cs.length+1+n)) (he:∀ l,e≠.goto l) (h:ArrivesIn (Machine.fenced P F) P m b (.inScope c::k) cs e a w):ArrivesIn (Machine.fenced P F) P m b k cs e a w:=by
 cases e with
 | normal=>exact StepsIn.trans h (.one (fenced_calm hb hr rfl) Hn)
 | exit id=>
  have hx:exitTo id (.inScope c::k)=exitTo id k:=by simp [exitTo]
  exact ⟨fun k' hk=>h.1 k' (by rw [hx];exact hk),fun hr' hk=>h.2 hr' (by rw [hx];exact hk)⟩
 | goto l=>exact absurd rfl (he l)
 | ret=>exact h
 | panic ch=>exact h
 | outgrown=>exact h
def Md {c:Code} {Q':Exit->Act->World->Prop} (h:c.wpIn F n P Q' a w) (hQ:∀ e a w,Q' e a w->(∀ l,e≠.goto l)->Q e a w) (hJ:∀ l a w,Q' (.goto l) a w->Bn F n P c Q l a w):(Code.scope c).wpIn F n P Q a w:=by
 intro b k cs hro hb hr;have h0:(lone (b.atR a (.code (.scope c)::k)) cs w).fenced P F:=fenced_calm hb hr rfl
 have key:∀ l a w,Bn F n P c Q l a w->∀ rest,findLabel c l=some rest->∃ e a' w',Q e a' w'∧ArrivesIn (Machine.fenced P F) P (lone (b.atR a (.code rest:: .inScope c::k)) cs w) b k cs e a' w':=by
  intro l a w hj
  induction hj with
  | mk Q1 hf h1 h2 h3 ih=>
   intro rest hf';rw [hf] at hf';cases hf'
   obtain ⟨e,a₁,w₁,hq,harr⟩:=h1 b (.inScope c::k) cs hro hb hr;by_cases he:∀ l,e≠.goto l
   ·exact ⟨e,a₁,w₁,h2 _ _ _ hq he,Hl hb hr he harr⟩
   ·obtain ⟨l',rfl⟩:∃ l',e=.goto l':=by
     cases e with
     | goto l'=>exact ⟨l',rfl⟩
     | _=>exact absurd (by simp) he
    have hj:=h3 _ _ _ hq;cases hj with
    | mk Q2 hf2 _ _ _=>
     obtain ⟨e₂,a₂,w₂,hq₂,harr₂⟩:=ih _ _ _ hq _ hf2;exact ⟨e₂,a₂,w₂,hq₂,.of_steps (harr.1 _ (by simp [gotoIn,hf2])) harr₂⟩
 obtain ⟨e,a₁,w₁,hq,harr⟩:=h b (.inScope c::k) cs hro hb hr;by_cases he:∀ l,e≠.goto l
 ·exact ⟨e,a₁,w₁,hQ _ _ _ hq he,.of_steps (.one h0 xH) (Hl hb hr he harr)⟩
 ·obtain ⟨l',rfl⟩:∃ l',e=.goto l':=by
   cases e with
   | goto l'=>exact ⟨l',rfl⟩
   | _=>exact absurd (by simp) he
  have hj:=hJ _ _ _ hq;have hj':=hj;cases hj' with
  | mk Q2 hf2 _ _ _=>
   obtain ⟨e₂,a₂,w₂,hq₂,harr₂⟩:=key _ _ _ hj _ hf2;exact ⟨e₂,a₂,w₂,hq₂,.of_steps (.head h0 xH (harr.1 _ (by simp [gotoIn,hf2]))) harr₂⟩
end scopes
section
variable {P:Program} {B:Nat} {s s1 s2 s':S} {ex:Exit}
def zo.refl (s:S):zo B s s:=fun m w E a h=>⟨E,h,ju.refl B w E s.H⟩
def zo.trans (h:zo B s s1) (h':zo B s1 s2):zo B s s2:=fun m w E a hs=>by
 obtain ⟨E1,h1,g1⟩:=h m w E a hs;obtain ⟨E2,h2,g2⟩:=h' m w E1 a h1;exact ⟨E2,h2,g1.trans g2⟩
variable {R R':Exit->S->Prop}
def qU.pre {c:Code} (hw:zo B s s1) (h:qU P B c s1 R):qU P B c s R:=fun q m w E a Q hr hs hq=>by
 obtain ⟨E1,h1,g1⟩:=hw m w E a hs;exact h q m w E1 a Q hr h1 fun ex s' w' E' a' hR h2 g2=>hq ex s' w' E' a' hR h2 (g1.trans g2)
def qU.post {c:Code} (h:qU P B c s R') (hw:∀ ex s1,R' ex s1->∃ s2,zo B s1 s2∧R ex s2):qU P B c s R:=fun q m w E a Q hr hs hq=>
 h q m w E a Q hr hs fun ex s1 w' E' a' hR h1 g1=>by
  obtain ⟨s2,hw2,hR2⟩:=hw ex s1 hR;obtain ⟨E2,h2,g2⟩:=hw2 m w' E' a' h1;exact hq ex s2 w' E2 a' hR2 h2 (g1.trans g2)
def qU.mono {c:Code} (h:qU P B c s R') (hw:∀ ex s1,R' ex s1->R ex s1):qU P B c s R:=h.post fun ex s1 hR=>⟨s1,.refl s1,hw ex s1 hR⟩
def ia.pre {c:Code} {n:Nat} (hw:zo B s s1) (h:ia P B c n s1 R):ia P B c n s R:=fun q m w E a Q hr hs hq=>by
 obtain ⟨E1,h1,g1⟩:=hw m w E a hs;exact h q m w E1 a Q hr h1 fun ex s' w' E' a' hR h2 g2=>hq ex s' w' E' a' hR h2 (g1.trans g2)
def qU.skip (h:R .normal s):qU P B .skip s R:=fun q m w E a Q hr hs hq=>wpIn_skip (hq _ _ w E a h hs (ju.refl B w E s.H))
def qU.exit (id:Nat) (h:R (.exit id) s):qU P B (.exit id) s R:=fun q m w E a Q hr hs hq=>wpIn_exit (hq _ _ w E a h hs (ju.refl B w E s.H))
def qU.label (l:Nat) (h:R .normal s):qU P B (.label l) s R:=fun q m w E a Q hr hs hq=>wpIn_label (hq _ _ w E a h hs (ju.refl B w E s.H))
def qU.ret (h:R .ret s):qU P B .ret s R:=fun q m w E a Q hr hs hq=>wpIn_ret (hq _ _ w E a h hs (ju.refl B w E s.H))
def Ln (next:S->Prop) (R:Exit->S->Prop):Exit->S->Prop
 | .normal,s=>next s
 | ex,s=>R ex s
def qU.seq {x y:Code} (h:qU P B x s (Ln (fun s1=>qU P B y s1 R) R)):qU P B (.seq x y) s R:=fun q m w E a Q hr hs hq=>
 wpIn_seq (h q m w E a _ (fun e=>hr (by simp [xj,e])) hs fun ex s1 w1 E1 a1 hR h1 g1=>by
  cases ex with
  | normal=>exact (hR:qU P B y s1 R) q m w1 E1 a1 Q (fun e=>hr (by simp [xj,e])) h1 fun ex s2 w2 E2 a2 hR2 h2 g2=>hq ex s2 w2 E2 a2 hR2 h2 (g1.trans g2)
  | _=>exact hq _ s1 w1 E1 a1 hR h1 g1)
def KP (id:Nat) (R:Exit->S->Prop):Exit->S->Prop
 | .exit id',s=>if id'=id then R .normal s else R (.exit id') s
 | ex,s=>R ex s
def qU.block {id:Nat} {c:Code} (h:qU P B c s (KP id R)):qU P B (.block id c) s R:=fun q m w E a Q hr hs hq=>
 wpIn_block (h q m w E a _ hr hs fun ex s1 w1 E1 a1 hR h1 g1=>by
  cases ex with
  | exit id'=>
   simp only [Exit.inBlock,KP] at *;split
   ·rename_i hi;rw [dO hi] at hR;exact hq _ s1 w1 E1 a1 hR h1 g1
   ·rename_i hi;rw [dL hi] at hR;exact hq _ s1 w1 E1 a1 hR h1 g1
  | _=>exact hq _ s1 w1 E1 a1 hR h1 g1)
def U5 (R:Exit->S->Prop):Exit->S->Prop
 | .goto _,_=>False
 | ex,s=>R ex s
def qU.scope {c:Code} (h:qU P B c s (U5 R)):qU P B (.scope c) s R:=fun q m w E a Q hr hs hq=>
 LR (h q m w E a _ hr hs fun ex s1 w1 E1 a1 hR h1 g1=>by
  cases ex with
  | goto l=>exact (hR:False).elim
  | _=>exact hq _ s1 w1 E1 a1 hR h1 g1)
def qU.goto (l:Nat) (h:R (.goto l) s):qU P B (.goto l) s R:=fun q m w E a Q hr hs hq=>wpIn_goto (hq _ _ w E a h hs (ju.refl B w E s.H))
def LZ:∀ {c:Code} {l:Nat} {rest:Code},findLabel c l=some rest->xj rest=true->xj c=true:=by
 intro c
 induction c with
 | seq x y ihx ihy=>
  intro l rest h hr;simp only [findLabel] at h;split at h
  ·rename_i r hx;cases h
   simp only [xj,pB] at hr ⊢;exact hr.imp (ihx hx) id
  ·simp only [xj,pB];exact .inr (ihy h hr)
 | label l'=>
  intro l rest h hr;simp only [findLabel] at h;split at h
  ·cases h;cases hr
  ·cases h
 | _=>intro l rest h;simp [findLabel] at h
inductive oV (P:Program) (B:Nat) (c:Code) (R:Exit->S->Prop):Nat->S->Prop
 | mk {l:Nat} {s:S} {rest:Code} (R':Exit->S->Prop):findLabel c l=some rest->qU P B rest s R'->(∀ e s,R' e s->(∀ l,e≠.goto l)->R e s)->(∀ l s,R' (.goto l) s->oV P B c R l s)->oV P B c R l s
def oV.Vz {c:Code} {l:Nat} (h:oV P B c R l s):∀ (q:Option Nat) (m:Nat) (w:World) (E:Env) (a:Act) (Q:Exit->Act->World->Prop),(xj c=true->q=none)->xD B m w E s a->
  (∀ ex s' w' E' a',R ex s'->xD B m w' E' s' a'->ju B w E s.H w' E' s'.H->Q ex a' w')->Bn (fw q) 0 P c Q l a w:=by
 induction h with
 | @mk l s rest R1 hf h1 h2 h3 ih=>
  intro q m w E a Q hr hs hq
  refine .mk (fun e a' w'=>∃ s' E',R1 e s'∧xD B m w' E' s' a'∧ju B w E s.H w' E' s'.H) hf (h1 q m w E a _ (fun e=>hr (LZ hf e)) hs fun ex s' w' E' a' hR h g=>⟨s',E',hR,h,g⟩)
   (fun e a' w' ⟨s',E',hR,h,g⟩ he=>hq _ _ _ _ _ (h2 _ _ hR he) h g) (fun l' a' w' ⟨s',E',hR,h,g⟩=>?_)
  exact ih _ _ hR q m w' E' a' Q hr h fun ex s2 w2 E2 a2 hR2 hs2 g2=>hq ex s2 w2 E2 a2 hR2 hs2 (g.trans g2)
def Le (P:Program) (B:Nat) (c:Code) (R:Exit->S->Prop):Exit->S->Prop
 | .goto l,s=>oV P B c R l s
 | ex,s=>R ex s
def qU.U3 {c:Code} (h:qU P B c s (Le P B c R)):qU P B (.scope c) s R:=fun q m w E a Q hr hs hq=>
 Md (Q':=fun e a' w'=>∃ s' E',Le P B c R e s'∧xD B m w' E' s' a'∧ju B w E s.H w' E' s'.H) (h q m w E a _ hr hs fun ex s' w' E' a' hR h g=>⟨s',E',hR,h,g⟩)
  (fun e a' w' ⟨s',E',hR,h,g⟩ he=>by
   cases e with
   | goto l=>exact absurd rfl (he l)
   | _=>exact hq _ _ _ _ _ hR h g)
  (fun l a' w' ⟨s',E',hR,h,g⟩=>oV.Vz hR q m w' E' a' Q hr h fun ex s2 w2 E2 a2 hR2 hs2 g2=>hq ex s2 w2 E2 a2 hR2 hs2 (g.trans g2))
def ia.step {c:Code} {n:Nat} (h:qU P B c s (Ln (fun s1=>ia P B c n s1 R) R)):ia P B c (n+1) s R:=fun q m w E a Q hr hs hq=>by
 rw [roundsIn_succ]
 exact h q m w E a _ hr hs fun ex s1 w1 E1 a1 hR h1 g1=>by
  cases ex with
  | normal=>exact (hR:ia P B c n s1 R) q m w1 E1 a1 Q hr h1 fun ex s2 w2 E2 a2 hR2 h2 g2=>hq ex s2 w2 E2 a2 hR2 h2 (g1.trans g2)
  | _=>exact hq _ s1 w1 E1 a1 hR h1 g1
def ia.more {c:Code} {n m:Nat} (hm:n<=m) {s:S} (h:ia P B c n s R):ia P B c m s R:=fun q k w E a Q hr hs hq=>Hz hm (h q k w E a Q hr hs hq)
def z5 (P:Program) (B:Nat) (c:Code) (s:S) (R:Exit->S->Prop):Prop:=∃ n,ia P B c n s R
def z5.pre {c:Code} (hw:zo B s s1) (h:z5 P B c s1 R):z5 P B c s R:=let ⟨n,hn⟩:=h;⟨n,.pre hw hn⟩
def qU.loop {c:Code} (h:z5 P B c s R):qU P B (.loop c) s R:=fun q m w E a Q hr hs hq=>let ⟨n,hn⟩:=h;wpIn_loop_rounds n (hn q m w E a Q hr hs hq)
def fI:Value->C
 | .slice none 0 0=>.ui 1 0 []
 | .func (.func f) first caps=>if first.size=0∧caps.size=0 then .fn f [] [] else .za
 | .tuple vs=>if vs.size=0 then .un else .za
 | .agg _=>.za
 | x=>.v x
def Lj (E:Env) (x:Value):L E (fI x) x:=by
 unfold fI;split
 ·exact .xf _ _ (.inr rfl)
 ·rename_i f first caps;split
  ·rename_i h;obtain ⟨h1,h2⟩:=h;obtain rfl:first= #[]:=pK h1;obtain rfl:caps= #[]:=pK h2;exact .fn f [] [] #[] #[] rfl rfl (by simp) (by simp)
  ·exact .za _
 ·rename_i vs;split
  ·rename_i h;obtain rfl:vs= #[]:=pK h;exact .un
  ·exact .za _
 ·exact .za _
 ·rename_i h1 h2;refine .v _ ?_;cases x <;> simp_all [Value.oneCell']
def ev (tmps:List C):Operand->C
 | .tmp t=>(tmps[t]?).getD .za
 | .const v=>fI v
 | .global g=>.v (.pointer (some ⟨g,0,none⟩))
 | .func f=>.fn f [] []
def B3 {E:Env} {tmps:List C} {a:Act} (h:LL E tmps a.tmps.toList) (x:Operand):L E (ev tmps x) (a.eval x):=by
 cases x with
 | tmp t=>
  simp only [ev,Act.eval];cases ht:tmps[t]? with
  | none=>exact .za _
  | some c=>
   obtain ⟨y,hy,hl⟩:=h.get ht
   have:a.tmps.getD t undef=y:=by
    rw [gE] at hy;rw [gP,hy];rfl
   rw [this];exact hl
 | const v=>exact Lj E v
 | global g=>exact .v _ rfl
 | func f=>exact .fn f [] [] #[] #[] rfl rfl (by simp) (by simp)
def Aq (ops:Array Oper) (tmps:List C) (j:Nat):Option (Option Bool):=
 match (ops[j]?).bind (·.dst) with
 | none=>some none
 | some d=>match tmps[d]? with
  | none=>some none
  | some (.v (.bool b))=>some (some b)
  | some .un=>some none
  | _=>none
def IX {E:Env} {ops:Array Oper} {tmps:List C} {a:Act} (h:LL E tmps a.tmps.toList) {j:Nat} {r:Option Bool} (hr:Aq ops tmps j=some r):yielded ops a.tmps j=r:=by
 unfold Aq at hr;unfold yielded;cases hd:(ops[j]?).bind (·.dst) with
 | none=>simp only [hd] at hr;cases hr;rfl
 | some d=>
  simp only [hd,gp] at hr ⊢;cases ht:tmps[d]? with
  | none=>
   simp only [ht] at hr;cases hr
   have hn:a.tmps[d]?= none:=by
    rw [Array.getElem?_eq_none_iff];have:=pF.1 ht;have h1:=h.1;simp at h1;omega
   rw [hn]
  | some c=>
   simp only [ht] at hr;obtain ⟨y,hy,hl⟩:=h.get ht;rw [gE] at hy;rw [hy];split at hr
   ·rename_i e;cases e
   ·rename_i e;cases e;cases hr;cases hl;rfl
   ·rename_i e;cases e;cases hr;cases hl;rfl
   ·cases hr
def jy (ops:Array Oper) (tmps:List C) (o:Oper):Option Bool:=
 match o.guard with
 | none=>some true
 | some (j,want)=>match Aq ops tmps j with
  | some (some b)=>some (b == want)
  | some none=>some false
  | none=>none
def jJ {E:Env} {ops:Array Oper} {tmps:List C} {a:Act} (h:LL E tmps a.tmps.toList) {o:Oper} {b:Bool} (hb:jy ops tmps o=some b):
  Region.wanted o (yielded ops a.tmps)=b:=by
 unfold jy at hb;unfold Region.wanted;split at hb
 ·rename_i hg;simp only [hg];cases hb;rfl
 ·rename_i j want hg;simp only [hg];split at hb
  ·rename_i x hx;rw [IX h hx];cases hb;cases x <;> cases want <;> rfl
  ·rename_i hx;rw [IX h hx];cases hb;rfl
  ·cases hb
def put (tmps:List C) (dst:Option Tmp) (c:C):List C:=
 match dst with
 | some d=>tmps.set d c
 | none=>tmps
def Dg {E:Env} {tmps:List C} {a:Act} (h:LL E tmps a.tmps.toList) {c:C} {y:Value} (hl:L E c y) (dst:Option Tmp):LL E (put tmps dst c) (a.put dst y).tmps.toList:=by
 cases dst with
 | none=>exact h
 | some d=>simpa [put,Act.put] using h.set hl d
def xD.put {m:Nat} {w:World} {E:Env} {s:S} {a:Act} (h:xD B m w E s a) {c:C} {y:Value} (hl:L E c y) (dst:Option Tmp):
  xD B m w E ⟨Ab.put s.tmps dst c,s.H⟩ (a.put dst y):=
 ⟨h.heap,Dg h.tmps hl dst,by cases dst <;> exact h.defers,h.base⟩
def kF.nil {ops:Array Oper} {R:S->Prop} (h:R s):kF P B ops [] s R:=fun q m w E a Q hs hq=>wpListIn_nil (hq s w E a h hs (ju.refl B w E s.H))
def kF.run {ops:Array Oper} {o:Oper} {l:List Oper} {R1 R:S->Prop} (hw:jy ops s.tmps o=some true) (h:mT P B o s R1) (h':∀ s1,R1 s1->kF P B ops l s1 R):kF P B ops (o::l) s R:=fun q m w E a Q hs hq=>by
 unfold wpListIn;rw [dO (jJ hs.tmps hw)];exact h q m w E a _ Q hs fun s1 w1 E1 a1 hR h1 g1=>h' s1 hR q m w1 E1 a1 Q h1 fun s2 w2 E2 a2 hR2 h2 g2=>hq s2 w2 E2 a2 hR2 h2 (g1.trans g2)
def kF.pass {ops:Array Oper} {o:Oper} {l:List Oper} {R:S->Prop} (hw:jy ops s.tmps o=some false) (h':kF P B ops l ⟨put s.tmps o.dst .un,s.H⟩ R):kF P B ops (o::l) s R:=fun q m w E a Q hs hq=>by
 unfold wpListIn;rw [dL (by rw [jJ hs.tmps hw];decide)];exact ⟨fun _ _=>trivial,h' q m w E _ Q (hs.put (.un) o.dst) hq⟩
def qU.region {id:Nat} {ops:Array Oper} {R:Exit->S->Prop} (h:kF P B ops ops.toList s (R .normal)):qU P B (.region id ops false) s R:=fun q m w E a Q hs0 hs hq=>
 wpIn_region_list (h q m w E a Q hs fun s' w' E' a' hR h1 g1=>hq _ s' w' E' a' hR h1 g1)
def qU.cond {c:Operand} {x y:Code} {b:Bool} {R:Exit->S->Prop} (hc:ev s.tmps c=.v (.bool b)) (h:qU P B (if b then x else y) s R):qU P B (.cond c x y) s R:=fun q m w E a Q hr hs hq=>by
 have:=B3 hs.tmps c;rw [hc] at this;have hb:a.eval c=.bool b:=by generalize a.eval c=z at *;cases this;rfl
 exact wpIn_cond hb (h q m w E a Q (fun e=>hr (by cases b <;> simp_all [xj])) hs hq)
end
def lh (P:Program) (K:Value->World->Prop):Result Next->Prop
 | .ok (.value v) w=>K v w
 | .ok .skip w=>K undef w
 | .ok (.enter f args) w=>Calls P f args w fun e w'=>∃ v,e=.returned v∧K v w'
 | .ok (.round l f tmps assign body) w=>RoundIn (fw none) 0 P l f tmps assign body w fun e w'=>∃ v,e=.returned v∧K v w'
 | _=>False
def uw (P:Program) (o:Oper) (ρ:Operand->C) (H:zl) (c:C) (H':zl):Prop:=
 ∀ (w:World) (E:Env) (σ:Operand->Value),qs w E H->(∀ x ∈ o.op.operands,L E (ρ x) (σ x))->
  ∀ K:Value->World->Prop,(∀ v w' E',qs w' E' H'->L E' c v->Grow w E H w' E' H'->K v w')->lh P K ((execOp σ o).run P w)
def qG (P:Program) (o:Oper) (ρ:Operand->C) (H:zl) (c:C) (H':zl):Prop:=
 ∀ (w:World) (E:Env) (σ:Operand->Value),qb w E H->(∀ x ∈ o.op.operands,L E (ρ x) (σ x))->
  ∀ K:Value->World->Prop,(∀ v w' E',qb w' E' H'->L E' c v->qA w E H w' E' H'->K v w')->lh P K ((execOp σ o).run P w)
def iU (P:Program) (o:Oper) (ρ:Operand->C) (H:zl) (c:C) (H':zl):Prop:=
 ∀ (w:World) (E:Env) (σ:Operand->Value),qs w E H->(∀ x ∈ o.op.operands,L E (ρ x) (σ x))->(∀ v,σ (.const v)=v)->
  ∀ K:Value->World->Prop,(∀ v w' E',qs w' E' H'->L E' c v->Grow w E H w' E' H'->K v w')->lh P K ((execOp σ o).run P w)
def jx (P:Program) (o:Oper) (ρ:Operand->C) (H:zl) (R:C->zl->Prop):Prop:=
 ∀ (w:World) (E:Env) (σ:Operand->Value),qs w E H->(∀ x ∈ o.op.operands,L E (ρ x) (σ x))->(∀ v,σ (.const v)=v)->
  ∀ K:Value->World->Prop,(∀ c H' v w' E',R c H'->qs w' E' H'->L E' c v->Grow w E H w' E' H'->K v w')->lh P K ((execOp σ o).run P w)
def iU.iG {P:Program} {o:Oper} {ρ:Operand->C} {H H':zl} {c:C} {R:C->zl->Prop} (h:iU P o ρ H c H') (hR:R c H'):jx P o ρ H R:=fun w E σ hh hl hc K hk=>h w E σ hh hl hc K fun v w' E'=>hk c H' v w' E' hR
def uw.iG {P:Program} {o:Oper} {ρ:Operand->C} {H H':zl} {c:C} {R:C->zl->Prop} (h:uw P o ρ H c H') (hR:R c H'):jx P o ρ H R:=fun w E σ hh hl _ K hk=>h w E σ hh hl K fun v w' E'=>hk c H' v w' E' hR
def mT.C2 {P:Program} {B:Nat} {o:Oper} {s:S} {R:C->zl->Prop} (h:jx P o (ev s.tmps) s.H R):mT P B o s (fun s'=>∃ c H',R c H'∧s'=⟨put s.tmps o.dst c,H'⟩):=fun q m w E a K Q hs hk=>by
 have:=h w E a.eval hs.heap (fun x _=>B3 hs.tmps x) (fun _=>rfl) (fun v w'=>K (a.put o.dst v) w') fun c H' v w' E' hR h1 h2 g=>
  hk _ w' E' _ ⟨c,H',hR,rfl⟩ ⟨h1,Dg (hs.tmps.mono g.le) h2 o.dst,by have:=hs.defers.grow hs.heap g;cases o.dst <;> exact this,by have:=g.le.n;rw [hs.heap.n,h1.n] at this;exact gQ hs.base this⟩ (g.fh (by rw [hs.heap.n];exact hs.base))
 have eS:∀ d,o.op≠.defer d:=fun d hd=>by
  have h2:=this;unfold execOp at h2;simp only [hd,Sem.run_bind] at h2;cases hr:(resolve a.eval d o.type).run P w with
  | ok x w1=>simp [hr,Result.andThen,lh] at h2
  | halt x w1=>simp [hr,Result.andThen,lh] at h2
 unfold Oper.wpIn;refine ⟨fun _ _=>trivial,?_⟩;rw [Oper.semAt_eq _ _ _ eS];generalize (execOp a.eval o).run P w=r at this ⊢;unfold lh at this;split at this
 ·exact this
 ·exact this
 ·rw [Oper.uponIn_enter];refine ⟨fun h=>(by cases h),callsIn_wide.2 (Calls.mono this ?_)⟩;rintro e w' ⟨v,rfl,hv⟩;exact hv
 ·rw [Oper.uponIn_round];refine ⟨fun h=>(by cases h),RoundIn.mono (F:=fw q) this ?_⟩;rintro e w' ⟨v,rfl,hv⟩;exact hv
 ·exact this.elim
def mT.Df {P:Program} {B:Nat} {o:Oper} {s:S} {c:C} {H':zl} (h:uw P o (ev s.tmps) s.H c H') (q:Option Nat) (m:Nat) (w:World) (E:Env) (a:Act) (K:Act->World->Prop) (Q:Exit->Act->World->Prop) (hs:xD B m w E s a)
  (hq:∀ w' E' a',xD B m w' E' ⟨put s.tmps o.dst c,H'⟩ a'->ju B w E s.H w' E' H'->K a' w'):o.wpIn (fw q) 0 P a w K Q:=
 mT.C2 (B:=B) (h.iG (R:=fun x X=>x=c∧X=H') ⟨rfl,rfl⟩) q m w E a K Q hs fun s' w' E' a' ⟨x,X,⟨e1,e2⟩,e3⟩ h1 g1=>by subst e1 e2 e3;exact hq w' E' a' h1 g1
def uw.congr {P:Program} {o:Oper} {ρ ρ':Operand->C} {H H':zl} {c:C} (h:uw P o ρ H c H') (he:∀ x ∈ o.op.operands,ρ' x=ρ x):uw P o ρ' H c H':=
 fun w E σ hh hl K hk=>h w E σ hh (fun x hx=>he x hx ▸ hl x hx) K hk
def qG.congr {P:Program} {o:Oper} {ρ ρ':Operand->C} {H H':zl} {c:C} (h:qG P o ρ H c H') (he:∀ x ∈ o.op.operands,ρ' x=ρ x):qG P o ρ' H c H':=
 fun w E σ hh hl K hk=>h w E σ hh (fun x hx=>he x hx ▸ hl x hx) K hk
def uw.AW {P:Program} {o:Oper} {ρ:Operand->C} {H H':zl} {c:C} (h:qG P o ρ H c H') (hk:jw H H'):uw P o ρ H c H':=fun w E σ hh hl K hK=>
 h w E σ hh.base hl K fun v w' E' h1 h2 g=>hK v w' E' ⟨h1,iN.step hh g hk⟩ h2 (g.up hh hk)
def uw.same {P:Program} {o:Oper} {ρ:Operand->C} {H:zl} {c:C} (h:qG P o ρ H c H):uw P o ρ H c H:=.AW h (jw.refl H)
def jw.push (H:zl) (ob:Ob) (hk:ob.kind≠4):jw H (H++[ob]):=fun id ob' h4=>by
 by_cases uj:id < H.length
 ·rw [dR uj]
 ·rw [dY (by omega),pj (l:=H) (by omega)];constructor
  ·intro h;cases hd:id - H.length with
   | zero=>rw [hd] at h;cases h;exact absurd h4 hk
   | succ n=>rw [hd] at h;simp at h
  ·intro h;cases h
def jw.modify (H:zl) (id:Nat) (f:Ob->Ob) (hf:∀ ob,H[id]?= some ob->ob.kind≠4∧(f ob).kind≠4):jw H (H.modify id f):=fun id' ob' h4=>by
 rw [gZ];by_cases he:id=id'
 ·subst he;cases hx:H[id]? with
  | none=>simp
  | some ob=>
   obtain ⟨h1,h2⟩:=hf ob hx;simp only [p9,dV,if_true];constructor
   ·intro h;cases h;exact absurd h4 h2
   ·intro h;cases h;exact absurd h4 h1
 ·cases hx:H[id']? with
  | none=>simp
  | some ob=>simp [he]
def jw.trans {H H' H'':zl} (h:jw H H') (h':jw H' H''):jw H H'':=fun id ob h4=>(h' id ob h4).trans (h id ob h4)
def ix (P:Program) {α:Type}:Sem α->Option α
 | .pure a=>some a
 | .program k=>ix P (k P)
 | _=>none
def S7 {P:Program} {α:Type} (e:Sem α) {a:α} (h:ix P e=some a) (w:World):e.run P w=.ok a w:=by
 induction e with
 | pure a'=>simp only [ix,gj] at h;subst h;rfl
 | program k ih=>simp only [ix] at h;exact ih P h
 | _=>simp [ix] at h
def nn:C->Value
 | .v x=>x
 | _=>undef
def u5:C->Bool
 | .v _=>true
 | _=>false
def xw (o:Oper):Bool:=match o.op with | .select ..=>false | _=>true
def qG.scalar {P:Program} {o:Oper} {ρ:Operand->C} {H:zl} {v:Value} (hs:xw o=true) (hv:o.op.operands.all (fun x=>u5 (ρ x))=true)
  (hr:ix P (execOp (fun x=>nn (ρ x)) o)=some (.value v)) (h1:v.oneCell'=true):qG P o ρ H (.v v) H:=fun w E σ hh hl K hk=>by
 have he:execOp σ o=execOp (fun x=>nn (ρ x)) o:=execOp_congr o (fun cs b hc=>by simp [xw,hc] at hs) fun x hx=>by
  have h1:u5 (ρ x)=true:=by
   have:=Array.all_eq_true_iff_forall_mem.1 hv x hx;simpa using this
  have h2:=hl x hx;cases hc:ρ x with
  | v y=>rw [hc] at h2;cases h2;rfl
  | _=>rw [hc] at h1;cases h1
 rw [he,S7 _ hr w];exact hk v w E hh (.v v h1) (qA.refl w E H)
def Ih {w:World} {o:Obj} {b off:Nat} (h:b < w.heap.size):(w.alloc o).cell? ⟨b,off,none⟩=w.cell? ⟨b,off,none⟩:=
 World.cell?_alloc_lt _ _ _ h
def Al {w:World} {b off:Nat} {u:Value} (h:w.cell? ⟨b,off,none⟩=some u):b < w.heap.size:=World.block_lt_of_cell? w _ h
def Env.push (E:Env) (g κ:Nat):Env:=
 { n:=E.n+1,β:=fun id hops=>if id=E.n then g else E.β id hops,κ:=fun id hops=>if id=E.n then κ else E.κ id hops,St:=E.St,G:=E.G }
def Env.Fx (E:Env) (g κ:Nat):E.le (E.push g κ):=
 ⟨pz _,fun id hops h=>by simp [Env.push,rZ h],fun id hops h=>by simp [Env.push,rZ h],fun b o u h=>h,fun _ _ _ _ h=>h⟩
def zy:C->Bool
 | .ui 2 _ _=>false
 | _=>true
def qQ.loose {E:Env} {kd id:Nat} {hops:List ey} {i k:Nat} {c:C} {u:Value} (hn:zy c=true):qQ E kd id hops i k c u↔L (E.at kd) c u∧u.oneCell'=true:=by
 unfold qQ;split
 ·simp [zy] at hn
 ·rfl
def qQ.mono {E E':Env} (h:E.le E') {kd id:Nat} (hid:id < E.n) {hops:List ey} {i k:Nat} {c:C} {u:Value} (hc:qQ E kd id hops i k c u):qQ E' kd id hops i k c u:=by
 unfold qQ at *;split at hc
 ·rw [h.β id _ hid,h.κ id _ hid];exact hc
 ·exact ⟨hc.1.mono (h.at kd),hc.2⟩
def oO {H:zl} {id:Nat} {hops:List ey} {x:Nat × List (List C)} (h:z6 H id hops=some x):id < H.length:=by
 unfold z6 at h;split at h
 ·rename_i ob ho;exact (dJ.1 ho).1
 ·cases h
def q9 {H:zl} {id:Nat} {hops:List ey} {x:Nat × List (List C)} (h:z6 H id hops=some x):∃ ob,H[id]?= some ob∧(ob.kind=1∨ob.kind=2)∧vn ob.sz ob.rows hops=some x:=by
 unfold z6 at h;split at h
 ·rename_i ob ho;split at h
  ·rename_i hk;exact ⟨ob,ho,hk,h⟩
  ·cases h
 ·cases h
def qb.lt {w:World} {E:Env} {H:zl} (h:qb w E H) {id:Nat} {hops:List ey} {x:Nat × List (List C)} (hx:z6 H id hops=some x):E.β id hops < w.heap.size:=by
 obtain ⟨ob,ho,_,_⟩:=q9 hx;obtain ⟨cur,e,hg,_⟩:=(h.uy id ob hops x.1 x.2 ho (by simpa using hx)).uy;exact (dX.1 hg).1
def vL {H:zl} {id:Nat} {hops:List ey} (h:id < H.length) (X:zl):z6 (H++X) id hops=z6 H id hops:=by
 unfold z6;rw [dR h]
def Ay.Fc {w:World} {E:Env} {kd id:Nat} {hops:List ey} {sz:Nat} {rows:List (List C)} (h:Ay w E kd id hops sz rows):E.β id hops < w.heap.size:=by
 obtain ⟨cur,e,hg,_⟩:=h.uy;exact (dX.1 hg).1
def Ay.step {w w':World} {E E':Env} (hle:E.le E') {kd id:Nat} (hid:id < E.n) {hops:List ey} {sz:Nat} {rows:List (List C)} (h:Ay w E kd id hops sz rows)
  (hh:w'.heap[E.β id hops]?= w.heap[E.β id hops]?):Ay w' E' kd id hops sz rows:=by
 obtain ⟨cur,e,hg,hsz,hc⟩:=h.uy;refine ⟨by rw [hle.κ id hops hid];exact h.len,h.row,cur,e,by rw [hle.β id hops hid,hh];exact hg,by rw [hle.κ id hops hid];exact hsz,?_⟩;intro i k c hcc;obtain ⟨u,hu,ho⟩:=hc i k c hcc;exact ⟨u,hu,ho.mono hle hid⟩
def ks {sz:Nat} {rows:List (List C)} (hn:∀ i k c,cellAt rows i k=some c->zy c=true) {hops:List ey} {x:Nat × List (List C)} (h:vn sz rows hops=some x):hops=[]∧x=(sz,rows):=by
 cases hops with
 | nil=>simp [vn] at h;exact ⟨rfl,h.symm⟩
 | cons hd tl=>
  obtain ⟨i,k⟩:=hd;simp only [vn] at h;split at h
  ·rename_i h1;have:=hn _ _ _ h1;simp [zy] at this
  ·cases h
def qb.push {w:World} {E:Env} {H:zl} (h:qb w E H) (kind:Nat) (ty:TypeId) (sz κ:Nat) (rows:List (List C)) (cur:Array Value) (hk:kind=1∨kind=2) (hrow:∀ r ∈ rows,r.length=sz)
  (hlen:rows.length<=κ) (hcur:cur.size=κ * sz) (hn:∀ i k c,cellAt rows i k=some c->zy c=true)
  (hc:∀ i k c,cellAt rows i k=some c->∃ u,cur[i * sz+k]?= some u∧L (E.at kind) c u∧u.oneCell'=true):
  qb (w.alloc (.cells cur ty)) (E.push w.heap.size κ) (H++[⟨kind,ty,sz,rows,0⟩])∧qA w E H (w.alloc (.cells cur ty)) (E.push w.heap.size κ) (H++[⟨kind,ty,sz,rows,0⟩]):=by
 have hle:=E.Fx w.heap.size κ
 have get:∀ id hops x,z6 (H++[⟨kind,ty,sz,rows,0⟩]) id hops=some x->(id < H.length∧z6 H id hops=some x)∨(id=H.length∧hops=[]∧x=(sz,rows)):=by
  intro id hops x hx;by_cases uj:id < H.length
  ·exact .inl ⟨uj,by rw [vL uj] at hx;exact hx⟩
  ·have h1:=oO hx;simp at h1;have:id=H.length:=by omega
   subst this;simp only [z6,dY (dU _),pY,sF] at hx;rw [dO hk] at hx;obtain ⟨e1,e2⟩:=ks hn hx;exact .inr ⟨rfl,e1,e2⟩
 have hnew:∀ hops,(E.push w.heap.size κ).β H.length hops=w.heap.size:=fun hops=>by simp [Env.push,h.n]
 have hold:∀ id hops,id < H.length->(E.push w.heap.size κ).β id hops=E.β id hops:=fun id hops uj=>hle.β id hops (by rw [h.n];exact uj)
 refine ⟨⟨by simp [Env.push,h.n],?_,?_,?_,?_,?_,?_⟩,⟨hle,fun _ _ _=>rfl,rfl,rfl,rfl,by show _<=(w.heap.push _).size;simp,?_,?_,?_⟩⟩
 ·intro id ob hops sz' rows' hob hx;rcases get id hops _ hx with ⟨uj,hx'⟩ | ⟨rfl,rfl,hx'⟩
  ·rw [dR uj] at hob;have hb:=h.uy id ob hops sz' rows' hob hx';exact hb.step hle (by rw [h.n];exact uj) (heap_alloc_old w _ hb.Fc)
  ·cases hx'
   simp at hob;subst hob;refine ⟨by simp [Env.push,h.n,hlen],hrow,cur,ty,by rw [hnew];exact heap_alloc_new w _,by simp [Env.push,h.n,hcur],?_⟩;intro i k c hcc;obtain ⟨u,hu,hl,ho⟩:=hc i k c hcc;exact ⟨u,hu,(qQ.loose (hn i k c hcc)).2 ⟨hl.mono (hle.at kind),ho⟩⟩
 ·intro id hops id' hops' x y hx hy he;rcases get id hops _ hx with ⟨uj,hx'⟩ | ⟨rfl,rfl,hx'⟩ <;> rcases get id' hops' _ hy with ⟨hlt',hy'⟩ | ⟨rfl,rfl,hy'⟩
  ·rw [hold id hops uj,hold id' hops' hlt'] at he;exact h.inj id hops id' hops' x y hx' hy' he
  ·rw [hold id hops uj,hnew] at he;have:=h.lt hx';omega
  ·rw [hold id' hops' hlt',hnew] at he;have:=h.lt hy';omega
  ·exact ⟨rfl,rfl⟩
 ·intro b o u hu;have hs:=h.qo b o u hu;rw [Ih (Al hs.1)];exact hs
 ·intro id hops x o u hx hu;rcases get id hops _ hx with ⟨uj,hx'⟩ | ⟨rfl,rfl,hx'⟩
  ·rw [hold id hops uj] at hu;obtain ⟨e1,ob,e2,e3⟩:=h.sep id hops x o u hx' hu;exact ⟨e1,ob,by rw [dR uj];exact e2,e3⟩
  ·rw [hnew] at hu;have:=Al (h.qo _ _ _ hu).1;omega
 ·intro id ob hob hkd;by_cases uj:id < H.length
  ·rw [dR uj] at hob;obtain ⟨cur',hc'⟩:=h.ty id ob hob hkd;refine ⟨cur',?_⟩;rw [hold id [] uj,heap_alloc_old w _ (dX.1 hc').1];exact hc'
  ·have h1:=(dJ.1 hob).1;simp at h1;have:id=H.length:=by omega
   subst this;simp at hob;subst hob;exact ⟨cur,by rw [hnew];exact heap_alloc_new w _⟩
 ·intro id ob hob;by_cases uj:id < H.length
  ·rw [dR uj] at hob;exact h.fz id ob hob
  ·have h1:=(dJ.1 hob).1;simp at h1;have:id=H.length:=by omega
   subst this;simp at hob;subst hob;exact gu _
 ·intro k hk' ho;exact heap_alloc_old w _ hk'
 ·intro b o u hu;exact .inl hu
 ·rintro b ⟨id,hops,x,hx,rfl⟩;rcases get id hops _ hx with ⟨uj,hx'⟩ | ⟨rfl,rfl,hx'⟩
  ·exact .inr ⟨id,hops,x,hx',by rw [hold id hops uj]⟩
  ·exact .inl (by rw [hnew];exact dU _)
section
variable {P:Program} {o:Oper} {ρ:Operand->C} {H:zl}
def jh {t:TypeId} {i:TypeInfo} (h:P.info? t=some i) (w:World):(sizeOf t).run P w=.ok i.size w:=by
 simp [sizeOf,typeInfo,h]
def xA {t:TypeId} {i:TypeInfo} {z:Value} (h:P.info? t=some i) (hz:i.zero=some z) (w:World):(zeroValue t).run P w=.ok z w:=by
 simp [zeroValue,typeInfo,h,hz]
def qG.move (x:Operand) (ho:o.op=.move x∨o.op=.assign x):qG P o ρ H (ρ x) H:=fun w E σ hh hl K hk=>by
 have h1:(execOp σ o).run P w=.ok (.value (σ x)) w:=by
  unfold execOp;rcases ho with ho | ho <;> simp only [ho] <;> rfl
 rw [h1];exact hk _ w E hh (hl x (by rcases ho with ho | ho <;> simp [ho,Op.operands])) (qA.refl w E H)
def qG.pick (x y z:Operand) (ho:o.op=.pick x y z) (b:Bool) (hb:ρ x=.v (.bool b)):qG P o ρ H (if b then ρ y else ρ z) H:=fun w E σ hh hl K hk=>by
 have h0:=hl x (by simp [ho,Op.operands]);rw [hb] at h0;have hx:σ x=.bool b:=by generalize σ x=u at *;cases h0;rfl
 have h1:(execOp σ o).run P w=.ok (.value (if b then σ y else σ z)) w:=by
  unfold execOp;simp only [ho,hx];cases b <;> rfl
 rw [h1];refine hk _ w E hh ?_ (qA.refl w E H);cases b
 ·exact hl z (by simp [ho,Op.operands])
 ·exact hl y (by simp [ho,Op.operands])
def yC {cs:List C} {i k:Nat} {c:C}:cellAt [cs] i k=some c↔i=0∧cs[k]?= some c:=by
 unfold cellAt;cases i <;> simp
def qb.Kh {w:World} {E:Env} (h:qb w E H) (ty:TypeId) (cs:List C) (ys:Array Value) (hl:LL E cs ys.toList) (hn:cs.all zy=true) (h1:∀ y ∈ ys,y.oneCell'=true):
  qb (w.alloc (.cells ys ty)) (E.push w.heap.size 1) (H++[⟨1,ty,cs.length,[cs],0⟩])∧qA w E H (w.alloc (.cells ys ty)) (E.push w.heap.size 1) (H++[⟨1,ty,cs.length,[cs],0⟩]):=by
 refine h.push 1 ty cs.length 1 [cs] ys (.inl rfl) (by simp) (by simp) (by have:=hl.1;simp at this;omega) ?_ ?_
 ·intro i k c hc;obtain ⟨_,hc⟩:=yC.1 hc;exact dT.1 hn c (dM hc)
 ·intro i k c hc;obtain ⟨rfl,hc⟩:=yC.1 hc;obtain ⟨y,hy,hly⟩:=hl.get hc;refine ⟨y,by simpa using hy,by simpa [Env.at] using hly,h1 y ?_⟩;have:=dM hy;simpa using this
def l9 (P:Program) (t:TypeId):Option (List C):=
 match P.info? t with
 | some i=>match i.zero with
  | some z=>if z.cells.toList.all (·.oneCell') && (z.cells.size == i.size) then some (z.cells.toList.map fI) else none
  | none=>none
 | none=>none
def k8 {t:TypeId} {cs:List C} (h:l9 P t=some cs) (E:Env):∃ i z,P.info? t=some i∧i.zero=some z∧LL E cs z.cells.toList∧(∀ y ∈ z.cells,y.oneCell'=true)∧z.cells.size=i.size∧cs.all zy=true∧cs.length=i.size:=by
 unfold l9 at h;split at h
 ·rename_i i hi;split at h
  ·rename_i z hz;split at h
   ·rename_i hc;cases h
    simp only [dS,gM,dT] at hc;refine ⟨i,z,hi,hz,⟨by simp,?_⟩,fun y hy=>hc.1 y (by simpa using hy),hc.2,?_,by simp [hc.2]⟩
    ·intro k c y h1 h2;rw [dN,h2] at h1;cases h1
     exact Lj E y
    ·rw [dT];intro c hcm;obtain ⟨y,hy,rfl⟩:=gC.1 hcm;unfold fI;split <;> (try split) <;> rfl
   ·cases h
  ·cases h
 ·cases h
def K6 {w:World} {E:Env} (h:qb w E H) (g κ sz:Nat):L (E.push g κ) (.ref H.length [] sz 0 0) (.pointer (some ⟨g,0,none⟩)):=by
 have:=L.ref (E:=E.push g κ) H.length [] sz 0 0 (by simp [Env.push,h.n]);have hb:(E.push g κ).β H.length []=g:=by simp [Env.push,h.n]
 rw [hb] at this;simpa using this
def qG.alloc (t:TypeId) (ho:o.op=.alloc t) {cs:List C} (hz:l9 P t=some cs):qG P o ρ H (.ref H.length [] cs.length 0 0) (H++[⟨1,t,cs.length,[cs],0⟩]):=fun w E σ hh hl K hk=>by
 obtain ⟨i,z,hi,hz,hll,h1,hsz,hn,hlen⟩:=k8 hz E
 have hr:(execOp σ o).run P w=.ok (.value (.pointer (some ⟨w.heap.size,0,none⟩))) (w.alloc (.cells z.cells t)):=by
  unfold execOp;simp only [ho,Instr.alloc,Sem.run_bind,xA hi hz,Result.andThen_ok,newVar,newRow]
  rfl
 rw [hr];obtain ⟨a,b⟩:=hh.Kh t cs z.cells hll hn h1;exact hk _ _ _ a (K6 hh _ _ _) b
def mB:C->Bool
 | .v _=>true
 | .ui o _ _=>o != 2
 | .jH _ | .ref .. | .sl .. | .fn .. | .mp _ | .gl .. | .eM .. | .rc _=>true
 | _=>false
def QM {E:Env} {c:C} {y:Value} (h:L E c y) (hc:mB c=true):y.oneCell'=true:=by
 cases h with
 | v x hx=>exact hx
 | agg=>simp [mB] at hc
 | uo=>simp [mB] at hc
 | un=>simp [mB] at hc
 | za=>simp [mB] at hc
 | gl id sz rows y hn hg h=>cases h <;> rfl
 | _=>rfl
def QN {c:C} (hc:mB c=true):zy c=true:=by
 unfold mB at hc;unfold zy;split at hc <;> first | rfl | (split <;> simp_all) | cases hc
def iI:C->Bool
 | .agg cs=>cs.all zy
 | c=>mB c
def Ed {E:Env} {c:C} {y:Value} (h:L E c y) (hc:iI c=true):LL E c.cells y.cells.toList∧(∀ u ∈ y.cells,u.oneCell'=true)∧c.cells.all zy=true:=by
 cases c with
 | agg cs=>
  cases h with
  | agg _ ys h1 h2 h3=>exact ⟨⟨by simpa [C.cells,Value.cells] using h1,fun i c y e1 e2=>h2 i c y e1 (by simpa [Value.cells] using e2)⟩,h3,by simpa [iI,C.cells] using hc⟩
 | za=>simp [iI,mB] at hc
 | un=>simp [iI,mB] at hc
 | uo=>simp [iI,mB] at hc
 | _=>
  have ho:=QM h (by simpa [iI] using hc);have hcell:y.cells= #[y]:=by cases y <;> first | rfl | (simp [Value.oneCell'] at ho)
  refine ⟨h.cells (by simp) (by simp),by rw [hcell];simpa using ho,?_⟩;have:=QN (by simpa [iI] using hc);simpa [C.cells] using this
def qG.box (t:TypeId) (x:Operand) (ho:o.op=.box t x) (hc:iI (ρ x)=true):qG P o ρ H (.ref H.length [] (ρ x).cells.length 0 0) (H++[⟨1,t,(ρ x).cells.length,[(ρ x).cells],0⟩]):=fun w E σ hh hl K hk=>by
 obtain ⟨hll,h1,hn⟩:=Ed (hl x (by simp [ho,Op.operands])) hc
 have hr:(execOp σ o).run P w=.ok (.value (.pointer (some ⟨w.heap.size,0,none⟩))) (w.alloc (.cells (σ x).cells t)):=by
  unfold execOp;simp only [ho,Instr.box,newVar,newRow]
  rfl
 rw [hr];obtain ⟨a,b⟩:=hh.Kh t _ _ hll hn h1;exact hk _ _ _ a (K6 hh _ _ _) b
def xq (b off n:Nat):(⟨b,off,none⟩:Addr).add n=⟨b,off+n,none⟩:=by
 unfold Addr.add;split <;> simp_all
def wi (c:C) (n:Nat):Option C:=
 match c with
 | .ref id hops sz i k=>some (.ref id hops sz i (k+n))
 | .jH cells=>some (.jH (cells.drop n))
 | _=>none
def Jh {E:Env} {c c':C} {y:Value} {n:Nat} (h:L E c y) (hf:wi c n=some c'):∃ a,y=.pointer (some a)∧L E c' (.pointer (some (a.add n))):=by
 cases h with
 | ref id hops sz i k hn=>
  simp only [wi] at hf;cases hf
  refine ⟨_,rfl,?_⟩;rw [xq,ri];exact .ref id hops sz i (k+n) hn
 | jH cells b off us hst hL=>
  simp only [wi] at hf;cases hf
  refine ⟨_,rfl,?_⟩;rw [xq];exact .jH _ b (off+n) (fun k=>us (n+k)) (fun k c hc=>by rw [pt] at hc;rw [ri];exact hst _ c hc) (fun k c hc=>by rw [pt] at hc;exact hL _ c hc)
 | _=>simp [wi] at hf
def qG.fieldAddr (t:TypeId) (x:Operand) (f:Nat) (ho:o.op=.fieldAddr t x f) {fs:Array Field} {fd:Field} {i:TypeInfo} (ht:P.underlying t=some (.struct fs)) (hf:fs[f]?= some fd)
  (hi:P.info? fd.type=some i) (hsz:i.size≠0) {c:C} (hc:wi (ρ x) fd.offset=some c):qG P o ρ H c H:=fun w E σ hh hl K hk=>by
 obtain ⟨a,ha,hla⟩:=Jh (hl x (by simp [ho,Op.operands])) hc
 have hr:(execOp σ o).run P w=.ok (.value (.pointer (some (a.add fd.offset)))) w:=by
  unfold execOp;simp [ho,Instr.fieldAt,run_underlying ht,hf,ha,Instr.sureAddr,fieldPlace,jh hi,hsz]
 rw [hr];exact hk _ w E hh hla (qA.refl w E H)
def og (c:C) (size n:Nat):Option C:=
 match c with
 | .ui o sz rows=>if (o == 0 || o == 1) && (sz == size) then (rows[n]?).map .jH else none
 | .sl id hops sz lo len _=>if decide (n < len) && (sz == size) then some (.ref id hops sz (lo+n) 0) else none
 | _=>none
def DF:C->Option Nat
 | .ui _ _ rows=>some rows.length
 | .sl _ _ _ _ len _=>some len
 | _=>none
def SG {E:Env} {c c':C} {y:Value} {size n:Nat} (h:L E c y) (hf:og c size n=some c'):
  ∃ a len cap,y=.slice (some a) len cap∧n < len∧L E c' (.pointer (some (a.add (n * size)))):=by
 cases h with
 | ui o sz rows b off cap us ho hc hsz hst hL=>
  simp only [og] at hf;split at hf
  ·rename_i hcond;simp only [dS,gM] at hcond;obtain ⟨_,rfl⟩:=hcond;cases hr:rows[n]? with
   | none=>rw [hr] at hf;cases hf
   | some r=>
    rw [hr] at hf;cases hf
    refine ⟨_,_,_,rfl,(dJ.1 hr).1,?_⟩;rw [xq];exact .jH r b (off+n * sz) (us n) (fun k c hc=>hst n r k c hr hc) (fun k c hc=>hL n r k c hr hc)
  ·cases hf
 | xf o sz ho=>
  simp [og] at hf
 | sl id hops sz lo len full cap hn hlen hfull hf'=>
  simp only [og] at hf;split at hf
  ·rename_i hcond;simp only [dS,gM,dZ] at hcond;obtain ⟨uj,rfl⟩:=hcond;cases hf
   refine ⟨_,_,_,rfl,uj,?_⟩;rw [xq,<- pA];exact .ref id hops sz (lo+n) 0 hn
  ·cases hf
 | _=>simp [og] at hf
def qG.indexAddr (t:TypeId) (x y:Operand) (ho:o.op=.indexAddr t x y) {e:TypeId} {i:TypeInfo} (ht:P.underlying t=some (.slice e)) (hi:P.info? e=some i)
  {k:IntKind} {n:Int} (hy:ρ y=.v (.int k n)) (h0:0<=n) {c:C} (hc:og (ρ x) i.size n.toNat=some c):qG P o ρ H c H:=fun w E σ hh hl K hk=>by
 obtain ⟨a,len,cap,ha,uj,hla⟩:=SG (hl x (by simp [ho,Op.operands])) hc;have h1:=hl y (by simp [ho,Op.operands]);rw [hy] at h1;have hyv:σ y=.int k n:=by generalize σ y=u at *;cases h1;rfl
 have hn:0<=n∧n < (len:Int):=⟨h0,by omega⟩
 have hr:(execOp σ o).run P w=.ok (.value (.pointer (some (a.add (n.toNat * i.size))))) w:=by
  unfold execOp;simp [ho,Instr.indexAt,asIntOf,hyv,ha,run_underlying ht,hn.1,hn.2,jh hi]
 rw [hr];exact hk _ w E hh hla (qA.refl w E H)
def qG.RZ (t:TypeId) (x y:Operand) (ho:o.op=.indexAddr t x y) {len:Nat} {e:TypeId} {i:TypeInfo} (ht:P.underlying t=some (.array len e)) (hi:P.info? e=some i)
  {k:IntKind} {n:Int} (hy:ρ y=.v (.int k n)) (h0:0<=n) (h1:n < len) {c:C} (hc:wi (ρ x) (n.toNat * i.size)=some c):qG P o ρ H c H:=fun w E σ hh hl K hk=>by
 obtain ⟨a,ha,hla⟩:=Jh (hl x (by simp [ho,Op.operands])) hc;have hy1:=hl y (by simp [ho,Op.operands]);rw [hy] at hy1;have hyv:σ y=.int k n:=by generalize σ y=u at *;cases hy1;rfl
 have hr:(execOp σ o).run P w=.ok (.value (.pointer (some (a.add (n.toNat * i.size))))) w:=by
  unfold execOp;simp [ho,Instr.indexAt,asIntOf,hyv,ha,run_underlying ht,h0,h1,jh hi,Instr.sureAddr]
 rw [hr];exact hk _ w E hh hla (qA.refl w E H)
end
def BQ (id:Nat) (hops:List ey) (i k:Nat):C->C
 | .ui 2 sz rows=>.sl id (hops++[(i,k)]) sz 0 rows.length false
 | c=>c
def y4 (id:Nat) (hops:List ey) (i:Nat):Nat->List C->List C
 | _,[]=>[]
 | k,c::cs=>BQ id hops i k c::y4 id hops i (k+1) cs
theorem qO (sz:Nat) (rows:List (List C)):vn sz rows []=some (sz,rows):=rfl
def xu (sz:Nat) (rows:List (List C)) (i k:Nat) (hs:List ey):vn sz rows ((i,k)::hs)=match cellAt rows i k with
  | some (.ui 2 sz' rows')=>vn sz' rows' hs
  | _=>none:=rfl
def Jj {i k sz2:Nat} {rows2:List (List C)}:∀ (hops:List ey) (sz:Nat) (rows:List (List C)) (sz':Nat) (rows':List (List C)),vn sz rows hops=some (sz',rows')->
  cellAt rows' i k=some (.ui 2 sz2 rows2)->vn sz rows (hops++[(i,k)])=some (sz2,rows2)
 | [],sz,rows,sz',rows',h,hc=>by
  rw [qO] at h;cases h
  rw [sx,xu,hc]
  rfl
 | (i',k')::tl,sz,rows,sz',rows',h,hc=>by
  rw [xu] at h;rw [List.cons_append,xu];split at h
  ·exact Jj tl _ _ _ _ h hc
  ·cases h
def QW {H:zl} {id:Nat} {hops:List ey} {sz':Nat} {rows':List (List C)} (h:z6 H id hops=some (sz',rows')) {i k:Nat} {sz2:Nat} {rows2:List (List C)}
  (hc:cellAt rows' i k=some (.ui 2 sz2 rows2)):z6 H id (hops++[(i,k)])=some (sz2,rows2):=by
 obtain ⟨ob,ho,hk,hg⟩:=q9 h;unfold z6;rw [ho];simp only [hk,if_true];exact Jj _ _ _ _ _ hg hc
def Vf {w:World} {E:Env} {H:zl} (h:qb w E H) {id:Nat} {hops:List ey} {sz:Nat} {rows:List (List C)} (hb:z6 H id hops=some (sz,rows)) {kd i k:Nat} {c:C} {u:Value}
  (hc:cellAt rows i k=some c) (ho:qQ E kd id hops i k c u):L E (BQ id hops i k c) u:=by
 unfold qQ at ho;split at ho
 ·rename_i sz' rows';subst ho;have hb':=QW hb hc;obtain ⟨ob,hob,_,_⟩:=q9 hb';have hlen:=(h.uy id ob _ _ _ hob hb').len;have:=L.sl (E:=E) id (hops++[(i,k)]) sz' 0 rows'.length false _ (by rw [h.n];exact oO hb') hlen (by simp) (by intro _;rw [gf]);rw [sU] at this;exact this
 ·rename_i h2
  have:BQ id hops i k c=c:=by
   unfold BQ;split
   ·exact absurd rfl (h2 _ _)
   ·rfl
  rw [this];exact ho.1.mono (E.K7 kd)
def Ir {id:Nat} {hops:List ey} {i:Nat}:∀ (cs:List C) (k j:Nat) (c':C),(y4 id hops i k cs)[j]?= some c'->∃ c,cs[j]?= some c∧c'=BQ id hops i (k+j) c
 | [],k,j,c',h=>by simp [y4] at h
 | c::cs,k,0,c',h=>by simp [y4] at h;exact ⟨c,rfl,h.symm⟩
 | c::cs,k,j+1,c',h=>by
  simp [y4] at h;obtain ⟨c0,h0,e⟩:=Ir cs (k+1) j c' h;exact ⟨c0,by simpa using h0,by rw [e];congr 1;omega⟩
def G0 {id:Nat} {hops:List ey} {i:Nat}:∀ (cs:List C) (k:Nat),(y4 id hops i k cs).length=cs.length
 | [],_=>rfl
 | c::cs,k=>by simp [y4,G0 cs (k+1)]
def mH (H:zl) (c:C) (n:Nat):Option (List C):=
 match c with
 | .ref id hops sz i k=>match z6 H id hops with
  | some (sz',rows)=>if sz' == sz then match rows[i]? with
    | some r=>if decide (k+n<=r.length) then some (y4 id hops i k ((r.drop k).take n)) else none
    | none=>none
   else none
  | none=>none
 | .jH cells=>if decide (n<=cells.length) then some (cells.take n) else none
 | _=>none
def C4 {w:World} {E:Env} {H:zl} (h:qb w E H) {c:C} {y:Value} (hl:L E c y) {n:Nat} {cs:List C} (hr:mH H c n=some cs):
  ∃ a us,y=.pointer (some a)∧(∀ (j:Nat) u,us[j]?= some u->w.cell? (a.add j)=some u)∧LL E cs us∧us.length=n∧(∀ u ∈ us,u.oneCell'=true):=by
 cases hl with
 | ref id hops sz i k hn=>
  simp only [mH] at hr;split at hr
  ·rename_i sz' rows hb;split at hr
   ·rename_i hsz;have hsz:sz'=sz:=by simpa using hsz
    subst hsz;split at hr
    ·rename_i r hrow;split at hr
     ·rename_i hlen;simp only [dZ] at hlen;cases hr
      obtain ⟨ob,hob,_,_⟩:=q9 hb;have hB:=h.uy id ob hops sz' rows hob hb;obtain ⟨cur,e,hg,hcs,hcell⟩:=hB.uy;have hrl:r.length=sz':=hB.row r (dM hrow)
      have hcc:∀ j,j < n->∃ c u,r[k+j]?= some c∧cellAt rows i (k+j)=some c∧cur[i * sz'+(k+j)]?= some u∧qQ E ob.kind id hops i (k+j) c u:=fun j hj=>by
       have hj':k+j < r.length:=by omega
       have h1:r[k+j]?= some r[k+j]:=by simp [hj']
       have h2:cellAt rows i (k+j)=some r[k+j]:=by simp [cellAt,hrow,hj']
       obtain ⟨u,hu,ho⟩:=hcell i (k+j) _ h2;exact ⟨_,u,h1,h2,hu,ho⟩
      refine ⟨_,(List.range n).map (fun j=>cur.getD (i * sz'+(k+j)) undef),rfl,?_,⟨?_,?_⟩,by simp,?_⟩
      ·intro j u hju;simp only [dN] at hju;cases hjr:(List.range n)[j]? with
       | none=>rw [hjr] at hju;cases hju
       | some j'=>
        rw [hjr] at hju;obtain ⟨hjlt,hj'⟩:=dJ.1 hjr;simp at hj' hjlt;subst hj';obtain ⟨c,u',h1,h2,hu,ho⟩:=hcc j hjlt;simp only [dV,gj] at hju;rw [gP,hu] at hju;simp at hju;subst hju;rw [xq];unfold World.cell?;simp only [hg];rw [dL (by simp),ri];exact hu
      ·rw [G0];simp;omega
      ·intro j c' u hc' hu';obtain ⟨c,hc,rfl⟩:=Ir _ _ _ _ hc';rw [gz] at hc;split at hc
       ·rename_i hj;rw [pt] at hc;obtain ⟨c2,u2,h1,h2,hu,ho⟩:=hcc j hj;rw [h1] at hc;cases hc
        simp only [dN,rb hj,dV,gj] at hu';rw [gP,hu] at hu';simp at hu';subst hu';exact Vf h hb h2 ho
       ·cases hc
      ·intro u hu;obtain ⟨j,hj,rfl⟩:=gC.1 hu;obtain ⟨c,u',h1,h2,hu',ho⟩:=hcc j (by simpa using hj);rw [gP,hu'];simp only [gS];unfold qQ at ho;split at ho
       ·rw [ho];rfl
       ·exact ho.2
     ·cases hr
    ·cases hr
   ·cases hr
  ·cases hr
 | jH cells b off us hst hL=>
  simp only [mH] at hr;split at hr
  ·rename_i hlen;simp only [dZ] at hlen;cases hr
   refine ⟨_,(List.range n).map us,rfl,?_,⟨by simp;omega,?_⟩,by simp,?_⟩
   ·intro j u hju;simp only [dN] at hju;cases hjr:(List.range n)[j]? with
    | none=>rw [hjr] at hju;cases hju
    | some j'=>
     rw [hjr] at hju;obtain ⟨hjlt,hj'⟩:=dJ.1 hjr;simp at hj' hjlt;subst hj';cases hju
     rw [xq];have hj2:j < cells.length:=by omega
     exact (h.qo _ _ _ (hst j cells[j] (by simp [hj2]))).1
   ·intro j c u hc hu;rw [gz] at hc;split at hc
    ·rename_i hj;simp only [dN,rb hj,dV,gj] at hu;subst hu;exact (hL j c hc).mono E.Bq
    ·cases hc
   ·intro u hu;obtain ⟨j,hj,rfl⟩:=gC.1 hu
    have hj2:j < cells.length:=by
      have:j < n:=by simpa using hj
      omega
    exact (h.qo _ _ _ (hst j cells[j] (by simp [hj2]))).2
  ·cases hr
 | _=>simp [mH] at hr
def An:TypeDesc->Bool
 | .struct _ | .array _ _=>true
 | _=>false
def kB {P:Program} {t:TypeId} {d:TypeDesc} (h:P.underlying t=some d) (w:World):(isAgg t).run P w=.ok (An d) w:=by
 simp only [isAgg,Sem.run_bind,run_underlying h,Result.andThen_ok];cases d <;> rfl
def kS (P:Program) (H:zl) (t:TypeId) (c:C):Option C:=
 match P.underlying t,P.info? t with
 | some d,some i=>
  if An d then (mH H c i.size).map .agg
  else match mH H c 1 with
   | some [x]=>some x
   | _=>none
 | _,_=>none
section
variable {P:Program} {o:Oper} {ρ:Operand->C} {H:zl}
def qG.load (t:TypeId) (x:Operand) (ho:o.op=.load t x) {c:C} (hc:kS P H t (ρ x)=some c):qG P o ρ H c H:=fun w E σ hh hl K hk=>by
 have hx:=hl x (by simp [ho,Op.operands]);unfold kS at hc;split at hc
 ·rename_i d i hd hi;by_cases hag:An d=true
  ·rw [dO hag] at hc;cases hr:mH H (ρ x) i.size with
   | none=>rw [hr] at hc;cases hc
   | some cs=>
    rw [hr] at hc;cases hc
    obtain ⟨a,us,ha,hcell,hll,hlen,hone⟩:=C4 hh hx hr
    have hr':(execOp σ o).run P w=.ok (.value (.agg us.toArray)) w:=by
     unfold execOp;have h3:=run_loadCells_list (P:=P) (w:=w) a us (fun j v hj=>hcell j v hj);rw [hlen] at h3;simp [ho,Instr.loadAt,Instr.sureAddr,ha,loadVar,kB hd,hag,jh hi,h3]
    rw [hr'];exact hk _ w E hh (.agg cs us.toArray (by simpa using hll.1) (fun i c y e1 e2=>hll.2 i c y e1 (by simpa using e2)) (fun u hu=>hone u (by simpa using hu))) (qA.refl w E H)
  ·rw [dL hag] at hc;split at hc
   ·rename_i x0 hr;cases hc
    obtain ⟨a,us,ha,hcell,hll,hlen,hone⟩:=C4 hh hx hr
    obtain ⟨u,rfl⟩:∃ u,us=[u]:=by
     match us,hlen with
     | [u],_=>exact ⟨u,rfl⟩
    have hu:=hcell 0 u rfl;have ha0:a.add 0=a:=by simp [Addr.add]
    rw [ha0] at hu
    have hr':(execOp σ o).run P w=.ok (.value u) w:=by
     unfold execOp;simp [ho,Instr.loadAt,Instr.sureAddr,ha,loadVar,kB hd,hag,hu]
    rw [hr'];exact hk _ w E hh hll.cons_inv.1 (qA.refl w E H)
   ·cases hc
 ·cases hc
end
def setCell (rows:List (List C)) (i k:Nat) (c:C):List (List C):=rows.modify i (·.set k c)
def xh:List (List C)->List ey->(List (List C)->List (List C))->List (List C)
 | rows,[],f=>f rows
 | rows,(i,k)::hs,f=>match cellAt rows i k with
  | some (.ui 2 sz' rows')=>setCell rows i k (.ui 2 sz' (xh rows' hs f))
  | _=>rows
theorem CH (rows:List (List C)) (f:List (List C)->List (List C)):xh rows [] f=f rows:=rfl
def Cz (rows:List (List C)) (i k:Nat) (hs:List ey) (f:List (List C)->List (List C)):xh rows ((i,k)::hs) f=match cellAt rows i k with
  | some (.ui 2 sz' rows')=>setCell rows i k (.ui 2 sz' (xh rows' hs f))
  | _=>rows:=rfl
def Ha (rows:List (List C)) (i k:Nat) (c:C):(setCell rows i k c).length=rows.length:=by simp [setCell]
def GV (rows:List (List C)) (i k:Nat) (c:C) (i' k':Nat):cellAt (setCell rows i k c) i' k'=if i=i'∧k=k' then (cellAt rows i' k').map (fun _=>c) else cellAt rows i' k':=by
 unfold cellAt setCell;rw [gZ];by_cases hi:i=i'
 ·subst hi;cases hr:rows[i]? with
  | none=>simp
  | some r=>
   simp only [if_true,p9,dV,gp,sK];rw [dW];by_cases hk:k=k'
   ·subst hk;simp only [if_true];by_cases uj:k < r.length
    ·simp [uj]
    ·simp [uj]
   ·simp [hk]
 ·simp [hi]
def NY {rows:List (List C)} {sz:Nat} (h:∀ r ∈ rows,r.length=sz) (i k:Nat) (c:C):∀ r ∈ setCell rows i k c,r.length=sz:=by
 intro r hr;obtain ⟨j,hj⟩:=gh.1 hr;unfold setCell at hj;rw [gZ] at hj;cases hx:rows[j]? with
 | none=>rw [hx] at hj;cases hj
 | some r0=>
  rw [hx] at hj;have h0:=h r0 (dM hx);simp only [p9,dV,gj] at hj;subst hj;split <;> simp [h0]
structure BZ (rows rows':List (List C)):Prop where
 len:rows'.length=rows.length
 own:∀ i k s r,cellAt rows' i k=some (.ui 2 s r)↔cellAt rows i k=some (.ui 2 s r)
structure o5 (rows rows':List (List C)):Prop where
 len:rows'.length=rows.length
 cell:∀ i k c',cellAt rows' i k=some c'->∃ c,cellAt rows i k=some c∧(c=c'∨∃ s r r',c=.ui 2 s r∧c'=.ui 2 s r'∧r'.length=r.length)
 row:∀ sz,(∀ r ∈ rows,r.length=sz)->∀ r ∈ rows',r.length=sz
def o5.refl (rows:List (List C)):o5 rows rows:=⟨rfl,fun i k c h=>⟨c,h,.inl rfl⟩,fun _ h=>h⟩
def HD {f:List (List C)->List (List C)}:∀ (hops:List ey) (sz:Nat) (rows:List (List C)) (sz':Nat) (rows':List (List C)),vn sz rows hops=some (sz',rows')->BZ rows' (f rows')->(xh rows hops f).length=rows.length
 | [],sz,rows,sz',rows',h,ht=>by rw [qO] at h;cases h;rw [CH];exact ht.len
 | (i,k)::hs,sz,rows,sz',rows',h,ht=>by
  rw [Cz];split
  ·exact Ha _ _ _ _
  ·rfl
def Ji {f:List (List C)->List (List C)}:∀ (hops:List ey) (sz:Nat) (rows:List (List C)) (sz':Nat) (rows':List (List C)),vn sz rows hops=some (sz',rows')->BZ rows' (f rows')->
  ∀ (p:List ey) (sz2:Nat) (rows2':List (List C)),vn sz (xh rows hops f) p=some (sz2,rows2')->
   ∃ rows2,vn sz rows p=some (sz2,rows2)∧((p=hops∧rows2'=f rows2)∨(p≠hops∧o5 rows2 rows2'))
 | [],sz,rows,sz',rows',h,ht,p,sz2,rows2',hp=>by
  rw [qO] at h;cases h
  rw [CH] at hp;cases p with
  | nil=>rw [qO] at hp;cases hp;exact ⟨rows,rfl,.inl ⟨rfl,rfl⟩⟩
  | cons hd q=>
   obtain ⟨i,k⟩:=hd;rw [xu] at hp;split at hp
   ·rename_i s r hc;rw [ht.own] at hc;exact ⟨rows2',by rw [xu,hc];exact hp,.inr ⟨by simp,o5.refl _⟩⟩
   ·cases hp
 | (i,k)::hs,sz,rows,sz',rows',h,ht,p,sz2,rows2',hp=>by
  rw [xu] at h;split at h
  ·rename_i s r hc;have hset:xh rows ((i,k)::hs) f=setCell rows i k (.ui 2 s (xh r hs f)):=by rw [Cz,hc];rfl
   rw [hset] at hp;cases p with
   | nil=>
    rw [qO] at hp;cases hp
    refine ⟨rows,rfl,.inr ⟨by simp,Ha _ _ _ _,?_,fun sz0 h0=>NY h0 _ _ _⟩⟩;intro i' k' c' hcc;rw [GV] at hcc;split at hcc
    ·rename_i hik;obtain ⟨rfl,rfl⟩:=hik;rw [hc] at hcc;simp only [dV,gj] at hcc;subst hcc;exact ⟨_,hc,.inr ⟨s,r,_,rfl,rfl,HD hs s r sz' rows' h ht⟩⟩
    ·exact ⟨c',hcc,.inl rfl⟩
   | cons hd q=>
    obtain ⟨i',k'⟩:=hd;rw [xu,GV] at hp;by_cases hik:i=i'∧k=k'
    ·obtain ⟨rfl,rfl⟩:=hik;rw [dO ⟨rfl,rfl⟩,hc] at hp;simp only [dV] at hp;obtain ⟨rows2,h2,h3⟩:=Ji hs s r sz' rows' h ht q sz2 rows2' hp;refine ⟨rows2,by rw [xu,hc];exact h2,?_⟩;rcases h3 with ⟨rfl,e⟩ | ⟨hne,hlk⟩
     ·exact .inl ⟨rfl,e⟩
     ·exact .inr ⟨fun e=>hne (by simpa using e),hlk⟩
    ·rw [dL hik] at hp;refine ⟨rows2',by rw [xu];exact hp,.inr ⟨?_,o5.refl _⟩⟩;intro e;simp at e;exact hik ⟨e.1.1.symm,e.1.2.symm⟩
  ·cases h
def iW (H:zl) (id:Nat) (hops:List ey) (f:List (List C)->List (List C)):zl:=H.modify id fun ob=>match ob with
 | ⟨kind,ty,sz,rows,fz⟩=>⟨kind,ty,sz,xh rows hops f,fz⟩
def Bl (H:zl) (id:Nat) (hops:List ey) (f:List (List C)->List (List C)) (j:Nat):(iW H id hops f)[j]?= (H[j]?).map fun ob=>if id=j then { ob with rows:=xh ob.rows hops f } else ob:=by
 unfold iW;rw [gZ]
 rfl
def wR {H:zl} {id:Nat} {hops:List ey} {f:List (List C)->List (List C)} {sz:Nat} {rows:List (List C)} (hb:z6 H id hops=some (sz,rows)) (ht:BZ rows (f rows)) {id':Nat} {p:List ey}
  {sz2:Nat} {rows2':List (List C)} (hp:z6 (iW H id hops f) id' p=some (sz2,rows2')):
  ∃ rows2,z6 H id' p=some (sz2,rows2)∧((id'=id∧p=hops∧rows2'=f rows2)∨(¬(id'=id∧p=hops)∧o5 rows2 rows2')):=by
 obtain ⟨ob,hob,hk,hg⟩:=q9 hb;obtain ⟨ob',hob',hk',hg'⟩:=q9 hp;rw [Bl] at hob';by_cases hid:id=id'
 ·subst hid;rw [hob] at hob';simp only [dV,if_true,gj] at hob';subst hob';obtain ⟨rows2,h2,h3⟩:=Ji hops ob.sz ob.rows sz rows hg ht p sz2 rows2' hg';refine ⟨rows2,?_,?_⟩
  ·unfold z6;rw [hob];simp only [hk,if_true];exact h2
  ·rcases h3 with ⟨rfl,e⟩ | ⟨hne,hlk⟩
   ·exact .inl ⟨rfl,rfl,e⟩
   ·exact .inr ⟨fun e=>hne e.2,hlk⟩
 ·cases hx:H[id']? with
  | none=>rw [hx] at hob';cases hob'
  | some ob2=>
   rw [hx] at hob';simp only [dV,hid,if_false,gj] at hob';subst hob';refine ⟨rows2',?_,.inr ⟨fun e=>hid e.1.symm,o5.refl _⟩⟩;unfold z6;rw [hx];simp only [hk',if_true];exact hg'
def qb.write {w:World} {E:Env} {H:zl} (h:qb w E H) {id:Nat} {hops:List ey} {ob:Ob} {sz:Nat} {rows:List (List C)} {f:List (List C)->List (List C)} (hob:H[id]?= some ob)
  (hb:z6 H id hops=some (sz,rows)) (ht:BZ rows (f rows)) (hrow:∀ r ∈ f rows,r.length=sz) {cur cur':Array Value} {e:TypeId} (hg:w.heap[E.β id hops]?= some (.cells cur e (0,0))) (hsz:cur'.size=cur.size)
  (hst:∀ o u,E.St (E.β id hops) o=some u->cur'[o]?= some u)
  (hc:∀ i k c,cellAt (f rows) i k=some c->∃ u,cur'[i * sz+k]?= some u∧qQ E ob.kind id hops i k c u):
  qb (w.setRow (E.β id hops) cur') E (iW H id hops f)∧qA w E H (w.setRow (E.β id hops) cur') E (iW H id hops f):=by
 have hown:∀ b,q7 E (iW H id hops f) b->q7 E H b:=by
  rintro b ⟨id',p,⟨s2,r2⟩,hx,rfl⟩;obtain ⟨rows2,h2,_⟩:=wR hb ht hx;exact ⟨id',p,_,h2,rfl⟩
 refine ⟨⟨by rw [h.n];simp [iW],?_,?_,?_,?_,?_,?_⟩,⟨Env.le.refl E,fun _ _ _=>rfl,rfl,rfl,rfl,by simp [World.setRow],?_,fun b o u hu=>.inl hu,fun b hb'=>.inr (hown b hb')⟩⟩
 ·intro id' ob' p sz2 rows2' hob' hx;obtain ⟨rows2,h2,h3⟩:=wR hb ht hx
  have hkd:∃ ob0,H[id']?= some ob0∧ob'.kind=ob0.kind:=by
   rw [Bl] at hob';cases hx':H[id']? with
   | none=>rw [hx'] at hob';cases hob'
   | some ob0=>
    rw [hx'] at hob';simp only [dV,gj] at hob';subst hob';exact ⟨ob0,rfl,by split <;> rfl⟩
  obtain ⟨ob0,hob0,hkd⟩:=hkd;have hB:=h.uy id' ob0 p sz2 rows2 hob0 h2;rw [hkd];rcases h3 with ⟨rfl,rfl,rfl⟩ | ⟨hne,hlk⟩
  ·rw [hb] at h2;cases h2
   rw [hob] at hob0;cases hob0
   obtain ⟨cur0,e0,hg0,hs0,_⟩:=hB.uy;rw [hg] at hg0;cases hg0
   exact ⟨by rw [ht.len];exact hB.len,hrow,cur',e,setRow_heap w _ cur cur' e _ hg,by rw [hsz];exact hs0,hc⟩
  ·obtain ⟨cur0,e0,hg0,hs0,hc0⟩:=hB.uy
   have hdiff:E.β id' p≠E.β id hops:=fun he=>hne (by
    have:=h.inj id' p id hops _ _ h2 hb he;exact this)
   refine ⟨by rw [hlk.len];exact hB.len,hlk.row sz2 hB.row,cur0,e0,by rw [setRow_other w _ _ _ hdiff];exact hg0,hs0,?_⟩;intro i k c' hcc;obtain ⟨c,h4,h5⟩:=hlk.cell i k c' hcc;obtain ⟨u,hu,ho⟩:=hc0 i k c h4;refine ⟨u,hu,?_⟩;rcases h5 with rfl | ⟨s,r,r',rfl,rfl,hl⟩
   ·exact ho
   ·simp only [qQ] at ho ⊢;rw [hl];exact ho
 ·intro id1 p1 id2 p2 x y hx hy he;obtain ⟨r1,h1,_⟩:=wR hb ht (rows2':=x.2) (sz2:=x.1) (by simpa using hx);obtain ⟨r2,h2,_⟩:=wR hb ht (rows2':=y.2) (sz2:=y.1) (by simpa using hy);exact h.inj id1 p1 id2 p2 _ _ h1 h2 he
 ·intro b o u hu;refine ⟨?_,(h.qo b o u hu).2⟩;by_cases hbb:b=E.β id hops
  ·subst hbb;unfold World.cell?;rw [setRow_heap w _ cur cur' e _ hg];simp;exact hst o u hu
  ·have:=(h.qo b o u hu).1;unfold World.cell? at this ⊢;simp only [setRow_other w _ _ _ hbb];exact this
 ·intro id' p x o u hx hu;obtain ⟨r1,h1,_⟩:=wR hb ht (rows2':=x.2) (sz2:=x.1) (by simpa using hx);obtain ⟨e1,ob',e2,e3⟩:=h.sep id' p _ o u h1 hu;refine ⟨e1,?_⟩;rw [Bl,e2];exact ⟨_,rfl,by split <;> exact e3⟩
 ·intro id' ob' hob' hk;rw [Bl] at hob';cases hx':H[id']? with
  | none=>rw [hx'] at hob';cases hob'
  | some ob0=>
   rw [hx'] at hob';simp only [dV,gj] at hob';have hk0:ob0.kind=2∧ob'.ty=ob0.ty:=by subst hob';revert hk;split <;> exact fun h=>⟨h,rfl⟩
   obtain ⟨cur0,hc0⟩:=h.ty id' ob0 hx' hk0.1;rw [hk0.2];by_cases hbb:E.β id' []=E.β id hops
   ·rw [hbb] at hc0 ⊢;rw [hg] at hc0;cases hc0
    exact ⟨cur',setRow_heap w _ cur cur' _ _ hg⟩
   ·exact ⟨cur0,by rw [setRow_other w _ _ _ hbb];exact hc0⟩
 ·intro id' ob' hob';rw [Bl] at hob';cases hx':H[id']? with
  | none=>rw [hx'] at hob';cases hob'
  | some ob0=>
   rw [hx'] at hob';simp only [dV,gj] at hob';have h0:=h.fz id' ob0 hx';subst hob';split
   ·rename_i hid;subst hid;rw [hob] at hx';cases hx'
    obtain ⟨ob2,h1,_,h2⟩:=q9 hb;rw [hob] at h1;cases h1
    dsimp only;rw [HD hops _ _ _ _ h2 ht];exact h0
   ·exact h0
 ·intro k hk ho;rw [setRow_other w _ _ _ (fun e'=>ho ⟨id,hops,_,hb,e'.symm⟩)]
def xV (k:Nat) (cs:List C) (r:List C):List C:=r.take k++cs++r.drop (k+cs.length)
def ki (i k:Nat) (cs:List C) (rows:List (List C)):List (List C):=rows.modify i (xV k cs)
def GY {k:Nat} {cs r:List C} (h:k+cs.length<=r.length):(xV k cs r).length=r.length:=by
 simp [xV];omega
def Hu {k:Nat} {cs r:List C} (h:k+cs.length<=r.length) (j:Nat):(xV k cs r)[j]?= if k<=j∧j < k+cs.length then cs[j - k]? else r[j]?:=by
 unfold xV;rw [pN];by_cases h1:j < k
 ·rw [dR (by simp;omega),gz,dO h1,dL (by omega)]
 ·rw [dY (by simp;omega)];have hk:(r.take k).length=k:=by simp;omega
  rw [hk];by_cases h2:j < k+cs.length
  ·rw [dR (by omega),dO ⟨by omega,h2⟩]
  ·rw [dY (by omega),pt,dL (by omega)]
   congr 1
   omega
def GW {i k:Nat} {cs:List C} {rows:List (List C)} {r:List C} (hr:rows[i]?= some r) (h:k+cs.length<=r.length) (i' k':Nat):
  cellAt (ki i k cs rows) i' k'=if i=i'∧k<=k'∧k' < k+cs.length then cs[k' - k]? else cellAt rows i' k':=by
 unfold cellAt ki;rw [gZ];by_cases hi:i=i'
 ·subst hi;rw [hr];simp only [if_true,p9,dV,gp,sK];rw [Hu h]
 ·simp [hi]
def y3 (P:Program) (H:zl) (t:TypeId) (a x:C):Option zl:=
 match a,P.info? t with
 | .ref id hops sz i k,some inf=>
  match z6 H id hops,H[id]? with
  | some (sz',rows),some ob=>
   match rows[i]? with
   | some r=>
    if (sz' == sz) && iI x && (x.cells.length == inf.size) && decide (k+x.cells.length<=r.length) && ((r.drop k).take x.cells.length).all zy && (ob.kind == 1 || x.cells.all jc) && (!hops.isEmpty || decide (ob.fz<=i)) && (hops.isEmpty || ob.fz == 0)
    then some (iW H id hops (ki i k x.cells)) else none
   | none=>none
  | _,_=>none
 | _,_=>none
section
variable {P:Program} {o:Oper} {ρ:Operand->C} {H:zl}
def qG.store (t:TypeId) (x y:Operand) (ho:o.op=.store t x y) {H':zl} (hs:y3 P H t (ρ x) (ρ y)=some H'):qG P o ρ H .un H':=fun w E σ hh hl K hk=>by
 have hx:=hl x (by simp [ho,Op.operands]);have hy:=hl y (by simp [ho,Op.operands]);unfold y3 at hs;split at hs
 rotate_left
 ·cases hs
 rename_i id hops sz i k inf ha hinf;split at hs
 rotate_left
 ·cases hs
 rename_i sz' rows ob hb hob;split at hs
 rotate_left
 ·cases hs
 rename_i r hr;split at hs
 rotate_left
 ·cases hs
 rename_i hcond;cases hs
 simp only [dS,gM,dZ,pB,dT] at hcond;obtain ⟨⟨⟨⟨⟨⟨⟨rfl,hval⟩,hlen⟩,hfit⟩,hold⟩,hkd⟩,hfz⟩,_⟩:=hcond;obtain ⟨hll,hone,hno⟩:=Ed hy hval;rw [ha] at hx;have hB:=hh.uy id ob hops sz' rows hob hb;obtain ⟨cur,e,hg,hcs,hcell⟩:=hB.uy;have hrl:r.length=sz':=hB.row r (dM hr);have hil:i < rows.length:=(dJ.1 hr).1;have hx':σ x=.pointer (some ⟨E.β id hops,i * sz'+k,none⟩):=by generalize σ x=u at *;cases hx;rfl
 obtain ⟨vs,hvs⟩:∃ vs,vs=(σ y).cells.toList:=⟨_,rfl⟩;rw [<- hvs] at hll;have hvl:vs.length=(ρ y).cells.length:=hll.1.symm
 have hend:i * sz'+k+vs.length<=cur.size:=by
  have h1:(i+1) * sz'<=E.κ id hops * sz':=pb _ (gQ hil hB.len);rw [pA] at h1;omega
 have hrun:=run_storeCells_at P (E.β id hops) (i * sz'+k) e vs 0 cur w hg (by simpa using hend) (fun v hv=>hone v (by rw [hvs] at hv;simpa using hv));simp only [rB] at hrun;obtain ⟨cur',hcur'⟩:∃ cur',cur'=(cur.toList.take (i * sz'+k)++vs++cur.toList.drop (i * sz'+k+vs.length)).toArray:=⟨_,rfl⟩;rw [<- hcur'] at hrun
 have hcget:∀ j:Nat,cur'[j]?= if i * sz'+k<=j∧j < i * sz'+k+vs.length then vs[j - (i * sz'+k)]? else cur[j]?:=by
  intro j;rw [hcur'];simp only [r4];rw [pN];by_cases h1:j < i * sz'+k
  ·rw [dR (by simp;omega),gz,dO h1,dL (by omega),gE]
  ·rw [dY (by simp;omega)];have hk':(cur.toList.take (i * sz'+k)).length=i * sz'+k:=by simp;omega
   rw [hk'];by_cases h2:j < i * sz'+k+vs.length
   ·rw [dR (by omega),dO ⟨by omega,h2⟩]
   ·rw [dY (by omega),pt,dL (by omega),gE]
    congr 1
    omega
 have hr':(execOp σ o).run P w=.ok .skip (w.setRow (E.β id hops) cur'):=by
  unfold execOp
  have hsz2:(σ y).cells.size=inf.size:=by
   have:vs.length=(σ y).cells.size:=by rw [hvs];simp
   omega
  simp [ho,Instr.storeAt,Instr.sureAddr,hx',storeVar,jh hinf,hsz2,<- hvs,hrun]
 rw [hr']
 have hpos:∀ i' k',i' < rows.length->k' < sz'->(i * sz'+k<=i' * sz'+k'∧i' * sz'+k' < i * sz'+k+vs.length↔i=i'∧k<=k'∧k' < k+vs.length):=by
  intro i' k' hi' hk';constructor
  ·rintro ⟨h1,h2⟩
   have:i=i':=by
    rcases ru i i' with h | h | h
    ·exfalso
     have:(i+1) * sz'<=i' * sz':=pb _ h;rw [pA] at this;omega
    ·exact h
    ·exfalso
     have:(i'+1) * sz'<=i * sz':=pb _ h;rw [pA] at this;omega
   subst this;omega
  ·rintro ⟨rfl,h1,h2⟩;omega
 have htame:BZ rows (ki i k (ρ y).cells rows):=by
  refine ⟨by simp [ki],?_⟩;intro i' k' s r0;rw [GW hr hfit];split
  ·rename_i hin;obtain ⟨rfl,h1,h2⟩:=hin;constructor
   ·intro h;have:=dT.1 hno _ (dM h);simp [zy] at this
   ·intro h;simp only [cellAt,hr,gp] at h
    have hm:C.ui 2 s r0 ∈ (r.drop k).take (ρ y).cells.length:=by
     apply gh.2
     refine ⟨k' - k,?_⟩;rw [gz,dO (by omega),pt,show k+(k' - k)=k' from by omega];exact h
    have:=hold _ hm;simp [zy] at this
  ·rfl
 have hW:=hh.write hob hb htame (cur:=cur) (cur':=cur') (e:=e) ?_ hg ?_ ?_ ?_
 ·exact hk _ _ E hW.1 .un hW.2
 ·intro r0 hr0;obtain ⟨j,hj⟩:=gh.1 hr0;unfold ki at hj;rw [gZ] at hj;cases hx0:rows[j]? with
  | none=>rw [hx0] at hj;cases hj
  | some r1=>
   rw [hx0] at hj;simp only [p9,dV,gj] at hj;subst hj;by_cases hij:i=j
   ·subst hij;rw [hr] at hx0;cases hx0
    rw [dO rfl,GY hfit];exact hrl
   ·rw [dL hij];exact hB.row r1 (dM hx0)
 ·rw [hcur'];simp;omega
 ·intro off u hu;obtain ⟨e1,ob',e2,e3⟩:=hh.sep id hops _ off u hb hu;rw [hob] at e2;cases e2
  subst e1;simp at hfz
  have hsz0:ob.sz=sz':=by
   obtain ⟨ob2,h1,_,h2⟩:=q9 hb;rw [hob] at h1;cases h1
   rw [qO] at h2;cases h2
   rfl
  have uj:off < i * sz':=by
   rw [hsz0] at e3;exact gO e3 (pb _ hfz)
  rw [hcget,dL (by omega)];have:=(hh.qo _ _ _ hu).1;unfold World.cell? at this;rw [hg] at this;simpa using this
 ·intro i' k' c hcc;rw [GW hr hfit] at hcc;split at hcc
  ·rename_i hin;obtain ⟨rfl,h1,h2⟩:=hin;obtain ⟨u,hu,hlu⟩:=hll.get hcc;have hnoc:=dT.1 hno _ (dM hcc);refine ⟨u,?_,(qQ.loose hnoc).2 ⟨?_,hone u ?_⟩⟩
   ·rw [hcget,dO (by omega),show i * sz'+k' - (i * sz'+k)=k' - k from by omega];exact hu
   ·rcases hkd with hkd | hkd
    ·simpa [Env.at,hkd] using hlu
    ·unfold Env.at
     split
     ·exact hlu.vy (hkd _ (dM hcc))
     ·exact hlu
   ·have:=dM hu;rw [hvs] at this;simpa using this
  ·rename_i hnot;obtain ⟨u,hu,hou⟩:=hcell i' k' c hcc;refine ⟨u,?_,hou⟩
   have hi'k':i' < rows.length∧k' < sz':=by
    unfold cellAt at hcc;cases hx0:rows[i']? with
    | none=>rw [hx0] at hcc;cases hcc
    | some r1=>
     rw [hx0] at hcc;refine ⟨(dJ.1 hx0).1,?_⟩;have:=hB.row r1 (dM hx0);rw [<- this];exact (dJ.1 hcc).1
   rw [hcget,dL]
   ·exact hu
   ·rw [hpos i' k' hi'k'.1 hi'k'.2,hvl];exact hnot
def zb (P:Program) (f:FuncId) (H:zl) (args:List C) (r:C) (H':zl):Prop:=
 ∀ (w:World) (E:Env) (vs:Array Value),qs w E H->LL E args vs.toList->
  Calls P f vs w fun e w'=>∃ v E',e=.returned v∧qs w' E' H'∧L E' r v∧Grow w E H w' E' H'
def qm (P:Program) (f:FuncId):Bool:=
 match P.funcs[f]? with
 | some fn => !(fn.name == "runtime.NumGoroutine") && fn.body.isSome
 | none=>false
def uw.call (cl:Call) (ho:o.op=.call cl) (x:Operand) (hcl:cl.callee=.value x) {f:FuncId} {first caps:List C} (hf:ρ x=.fn f first caps) (hcb:qm P f=true) {r:C} {H':zl}
  (hs:zb P f H (first++(cl.args.toList.map ρ)++caps) r H'):uw P o ρ H r H':=fun w E σ hh hl K hk=>by
 have h0:=hl x (by simp [ho,Op.operands,Call.operands,hcl]);rw [hf] at h0
 obtain ⟨ys,zs,hv,h1,h2,h3,h4⟩:∃ ys zs,σ x=.func (.func f) ys zs∧first.length=ys.size∧caps.length=zs.size∧(∀ (i:Nat) c y,first[i]?= some c->ys[i]?= some y->L E c y)∧(∀ (i:Nat) c y,caps[i]?= some c->zs[i]?= some y->L E c y):=by
  generalize σ x=u at *;cases h0 with
  | fn f first caps ys zs h1 h2 h3 h4=>exact ⟨ys,zs,rfl,h1,h2,h3,h4⟩
 unfold qm at hcb;split at hcb
 rotate_left
 ·cases hcb
 rename_i fn hfn;simp only [dS,gR] at hcb;have hname : fn.name ≠ "runtime.NumGoroutine" := by simpa using hcb.1
 have hbody:fn.body≠none:=by intro hb;simp [hb] at hcb
 have hr:(execOp σ o).run P w=.ok (.enter f (ys++cl.args.map σ++zs)) w:=by
  unfold execOp;simp [ho,resolve,hcl,hv,Deferred.ofValue,invoke,callFunc,hfn,hname,hbody]
 rw [hr];refine (hs w E (ys++cl.args.map σ++zs) hh ?_).mono ?_
 ·have e1:LL E first ys.toList:=⟨by simpa using h1,fun i c y e1 e2=>h3 i c y e1 (by simpa using e2)⟩;have e2:LL E caps zs.toList:=⟨by simpa using h2,fun i c y e1 e2=>h4 i c y e1 (by simpa using e2)⟩
  have e3:LL E (cl.args.toList.map ρ) (cl.args.map σ).toList:=by
   refine ⟨by simp,?_⟩;intro i c y hc hy;rw [dN] at hc;rw [sN,dN] at hy;cases ha:cl.args.toList[i]? with
   | none=>rw [ha] at hc;cases hc
   | some a=>
    rw [ha] at hc hy;cases hc
    cases hy
    exact hl a (by simp [ho,Op.operands,Call.operands];right;have:=dM ha;simpa using this)
  have:=(e1.append e3).append e2;simpa using this
 ·rintro e w' ⟨v,E',rfl,h5,h6,h7⟩;exact ⟨v,rfl,hk v w' E' h5 h6 h7⟩
end
section
variable {P:Program} {o:Oper} {ρ:Operand->C} {H:zl}
def qG.extract (x:Operand) (n:Nat) (ho:o.op=.extract x n) {vs:List C} (hx:ρ x=.uo vs) {c:C} (hc:vs[n]?= some c):qG P o ρ H c H:=fun w E σ hh hl K hk=>by
 have h0:=hl x (by simp [ho,Op.operands]);rw [hx] at h0
 obtain ⟨ys,hy,hlen,hll⟩:∃ ys,σ x=.tuple ys∧vs.length=ys.size∧∀ (i:Nat) c y,vs[i]?= some c->ys[i]?= some y->L E c y:=by
  generalize σ x=u at *;cases h0 with
  | uo _ ys h1 h2=>exact ⟨ys,rfl,h1,h2⟩
 have uj:n < ys.size:=by rw [<- hlen];exact (dJ.1 hc).1
 have hr:(execOp σ o).run P w=.ok (.value ys[n]) w:=by
  unfold execOp;simp [ho,Instr.extract,hy,uj]
 rw [hr];exact hk _ w E hh (hll n c _ hc (by simp [uj])) (qA.refl w E H)
def Fs:C->Bool
 | .ref .. | .jH _ | .fn ..=>true
 | _=>false
def qG.nilCheck (x:Operand) (ho:o.op=.nilCheck x) (hx:Fs (ρ x)=true):qG P o ρ H (ρ x) H:=fun w E σ hh hl K hk=>by
 have h0:=hl x (by simp [ho,Op.operands])
 have hr:(execOp σ o).run P w=.ok (.value (σ x)) w:=by
  unfold execOp;generalize ρ x=c at *;generalize hu:σ x=u at *;cases h0 <;> first | (simp [Fs] at hx;done) | (simp only [ho,hu];rfl)
 rw [hr];exact hk _ w E hh h0 (qA.refl w E H)
def qG.makeFunc (f:FuncId) (first caps:Array Operand) (ho:o.op=.makeFunc (.func f) first caps):qG P o ρ H (.fn f (first.toList.map ρ) (caps.toList.map ρ)) H:=fun w E σ hh hl K hk=>by
 have hr:(execOp σ o).run P w=.ok (.value (.func (.func f) (first.map σ) (caps.map σ))) w:=by
  unfold execOp;simp only [ho]
  rfl
 rw [hr];refine hk _ w E hh (.fn f _ _ _ _ (by simp) (by simp) ?_ ?_) (qA.refl w E H)
 ·intro i c y hc hy;rw [dN] at hc;rw [tq] at hy;cases ha:first[i]? with
  | none=>rw [ha] at hy;cases hy
  | some a=>
   rw [gE,ha] at hc;rw [ha] at hy;cases hc
   cases hy
   exact hl a (by simp [ho,Op.operands];left;exact rm ha)
 ·intro i c y hc hy;rw [dN] at hc;rw [tq] at hy;cases ha:caps[i]? with
  | none=>rw [ha] at hy;cases hy
  | some a=>
   rw [gE,ha] at hc;rw [ha] at hy;cases hc
   cases hy
   exact hl a (by simp [ho,Op.operands];right;exact rm ha)
def nD (place:Nat->Option (Nat × Nat)):List C->List (Nat × C)->Option (List C)
 | cells,[]=>some cells
 | cells,(i,c)::rest=>match place i with
  | none=>none
  | some (off,size)=>if iI c && (c.cells.length == size) && decide (off+size<=cells.length) then nD place (xV off c.cells cells) rest else none
def Je:∀ (vs:List Value) (off k:Nat) (cells:Array Value),off+k+vs.length<=cells.size->
  ((vs.zipIdx k).foldl (fun cs (p:Value × Nat)=>cs.setIfInBounds (off+p.2) p.1) cells).size=cells.size∧
  ∀ j:Nat,((vs.zipIdx k).foldl (fun cs (p:Value × Nat)=>cs.setIfInBounds (off+p.2) p.1) cells)[j]?= if off+k<=j∧j < off+k+vs.length then vs[j - (off+k)]? else cells[j]?
 | [],off,k,cells,h=>⟨rfl,fun j=>by rw [dL (by simp)];rfl⟩
 | v::vs,off,k,cells,h=>by
  simp only [List.zipIdx_cons,sT,pS] at h ⊢;have ih:=Je vs off (k+1) (cells.setIfInBounds (off+k) v) (by simp;omega);refine ⟨by rw [ih.1];simp,?_⟩;intro j;rw [ih.2 j];by_cases h1:off+k=j
  ·subst h1;rw [dL (by omega),dO (by omega),sZ];simp;omega
  ·by_cases h2:off+(k+1)<=j∧j < off+(k+1)+vs.length
   ·rw [dO h2,dO (by omega),show j - (off+k)=(j - (off+(k+1)))+1 from by omega];simp
   ·rw [dL h2,dL (by omega),sZ];simp [h1]
def C0 {E:Env} {place:Nat->Option (Nat × Nat)} {ρ:Operand->C} {σ:Operand->Value}:∀ (parts:List (Nat × Operand)) (cs:List C) (arr:Array Value),LL E cs arr.toList->(∀ u ∈ arr,u.oneCell'=true)->cs.all zy=true->
  (∀ p ∈ parts,L E (ρ p.2) (σ p.2))->∀ cs',nD place cs (parts.map fun p=>(p.1,ρ p.2))=some cs'->
  ∃ arr',Instr.fill place arr (parts.map fun p=>(p.1,σ p.2))=some arr'∧LL E cs' arr'.toList∧(∀ u ∈ arr',u.oneCell'=true)∧cs'.all zy=true
 | [],cs,arr,hl,h1,hno,_,cs',h=>by
  simp only [List.map_nil,nD,gj] at h;subst h;exact ⟨arr,rfl,hl,h1,hno⟩
 | (i,x)::rest,cs,arr,hl,h1,hno,hp,cs',h=>by
  simp only [pE,nD] at h;split at h
  ·cases h
  ·rename_i off size hpl;split at h
   ·rename_i hcond;simp only [dS,gM,dZ] at hcond;obtain ⟨⟨hv,hsz⟩,hfit⟩:=hcond;have hx:=hp (i,x) (by simp);obtain ⟨hll,hone,hnoc⟩:=Ed hx hv;have hlen:(σ x).cells.size=size:=by have:=hll.1;simp at this;omega
    have hal:arr.size=cs.length:=by have:=hl.1;simp at this;omega
    obtain ⟨vs,hvs⟩:∃ vs,vs=(σ x).cells.toList:=⟨_,rfl⟩;have hvl:vs.length=size:=by rw [hvs];simpa using hlen
    have hfold:=Je vs off 0 arr (by omega)
    have hfe:(σ x).cells.zipIdx.foldl (fun cs (p:Value × Nat)=>cs.setIfInBounds (off+p.2) p.1) arr=(vs.zipIdx 0).foldl (fun cs (p:Value × Nat)=>cs.setIfInBounds (off+p.2) p.1) arr:=by
     rw [<- Array.foldl_toList,Array.toList_zipIdx,hvs]
    obtain ⟨arr2,harr2⟩:∃ arr2,arr2=(vs.zipIdx 0).foldl (fun cs (p:Value × Nat)=>cs.setIfInBounds (off+p.2) p.1) arr:=⟨_,rfl⟩;rw [<- harr2] at hfold hfe;have hcl:(ρ x).cells.length=size:=hsz
    have hl2:LL E (xV off (ρ x).cells cs) arr2.toList:=by
     refine ⟨by rw [GY (by omega)];simp [hfold.1,hal],?_⟩;intro j c y hc hy;rw [Hu (by omega)] at hc;rw [gE,hfold.2 j] at hy;simp only [rB] at hy;split at hc
     ·rename_i hin;rw [dO (by omega)] at hy;exact hll.2 _ c y hc (by rw [<- hvs];exact hy)
     ·rename_i hin;rw [dL (by omega)] at hy;exact hl.2 j c y hc (by simpa using hy)
    have hone2:∀ u ∈ arr2,u.oneCell'=true:=by
     intro u hu;obtain ⟨j,hj⟩:=sH.1 hu;rw [hfold.2 j] at hj;split at hj
     ·have:=dM hj;rw [hvs] at this;exact hone u (by simpa using this)
     ·exact h1 u (rm hj)
    have hno2:(xV off (ρ x).cells cs).all zy=true:=by
     rw [dT];intro c hc;unfold xV at hc;simp only [gD] at hc;rcases hc with (hc | hc) | hc
     ·exact dT.1 hno c (pL hc)
     ·exact dT.1 hnoc c hc
     ·exact dT.1 hno c (rI hc)
    obtain ⟨arr',e1,e2,e3,e4⟩:=C0 rest _ arr2 hl2 hone2 hno2 (fun p hpm=>hp p (by simp [hpm])) cs' h;refine ⟨arr',?_,e2,e3,e4⟩;simp only [pE,Instr.fill,hpl];rw [dL (by simp [hlen];omega),hfe];exact e1
   ·cases h
def C7 (P:Program) (t:TypeId) (parts:List (Nat × C)):Option (List C):=
 match l9 P t,P.underlying t with
 | some z,some (.array _ e)=>
  match P.info? e with
  | some ie=>nD (fun i=>some (i * ie.size,ie.size)) z parts
  | none=>none
 | some z,some (.struct fields)=>
  match fields.toList.mapM (fun f=>(P.info? f.type).map fun i=>(f.offset,i.size)) with
  | some places=>nD (places.toArray[·]?) z parts
  | none=>none
 | _,_=>none
def qG.build (t:TypeId) (parts:Array (Nat × Operand)) (ho:o.op=.build t parts) {cs:List C} (hb:C7 P t (parts.toList.map fun p=>(p.1,ρ p.2))=some cs):qG P o ρ H (.agg cs) H:=fun w E σ hh hl K hk=>by
 have hp:∀ p ∈ parts.toList,L E (ρ p.2) (σ p.2):=fun p hpm=>hl p.2 (by
  simp only [ho,Op.operands];exact (List.mem_toArray).2 (gC.2 ⟨p,hpm,rfl⟩))
 have main:∃ arr,P.built t (parts.map fun (i,x)=>(i,σ x)).toList=some arr∧LL E cs arr.toList∧(∀ u ∈ arr,u.oneCell'=true):=by
  have e0:(parts.map fun (i,x)=>(i,σ x)).toList=parts.toList.map fun p=>(p.1,σ p.2):=by simp
  rw [e0];unfold C7 at hb;split at hb
  ·rename_i z n e hz hu;split at hb
   ·rename_i ie hie;obtain ⟨it,zv,h1,h2,h3,h4,h5,h6,h7⟩:=k8 hz E;obtain ⟨arr,a1,a2,a3,a4⟩:=C0 parts.toList z zv.cells h3 h4 h6 hp cs hb;exact ⟨arr,by simp only [Program.built,h1,hu,h2,hie];exact a1,a2,a3⟩
   ·cases hb
  ·rename_i z fields hz hu;split at hb
   ·rename_i places hpl;obtain ⟨it,zv,h1,h2,h3,h4,h5,h6,h7⟩:=k8 hz E;obtain ⟨arr,a1,a2,a3,a4⟩:=C0 parts.toList z zv.cells h3 h4 h6 hp cs hb;exact ⟨arr,by simp only [Program.built,h1,hu,h2,hpl];exact a1,a2,a3⟩
   ·cases hb
  ·cases hb
 obtain ⟨arr,h1,h2,h3⟩:=main
 have hr:(execOp σ o).run P w=.ok (.value (.agg arr)) w:=by
  unfold execOp;simp only [ho,Sem.run_bind,run_build w t _ arr h1,Result.andThen_ok]
  rfl
 rw [hr];exact hk _ w E hh (.agg cs arr (by simpa using h2.1) (fun i c y e1 e2=>h2.2 i c y e1 (by simpa using e2)) h3) (qA.refl w E H)
def qG.len (cl:Call) (ho:o.op=.call cl) (hcl:cl.callee=.builtin .len) (x:Operand) (hx:cl.args= #[x]) {t:TypeId} (ht:cl.argTypes= #[t]) {e:TypeId} (hu:P.underlying t=some (.slice e))
  {n:Nat} (hn:DF (ρ x)=some n):qG P o ρ H (.v (.int .i64 n)) H:=fun w E σ hh hl K hk=>by
 have h0:=hl x (by simp [ho,Op.operands,Call.operands,hcl,hx])
 have hv:∃ a cap,σ x=.slice a n cap:=by
  generalize ρ x=c at *;generalize σ x=u at *;cases h0 <;> first | (simp [DF] at hn;done) | (simp only [DF,gj] at hn;subst hn;exact ⟨_,_,rfl⟩)
 obtain ⟨a,cap,hv⟩:=hv
 have hr:(execOp σ o).run P w=.ok (.value (.int .i64 n)) w:=by
  unfold execOp;simp [ho,resolve,hcl,hx,ht,invoke,builtin,Builtin.len_,hv,run_underlying hu,goInt]
 rw [hr];exact hk _ w E hh (.v _ rfl) (qA.refl w E H)
def mY (P:Program) (t:TypeId) (cs:List C) (off:Nat):Option C:=
 match P.underlying t,P.info? t with
 | some d,some i=>if An d then (if decide (off+i.size<=cs.length) then some (.agg ((cs.drop off).take i.size)) else none) else cs[off]?
 | _,_=>none
def Aj {E:Env} {w:World} {t:TypeId} {cs:List C} {ys:Array Value} (hll:LL E cs ys.toList) (h1:∀ y ∈ ys,y.oneCell'=true) {off:Nat} {c:C} (hc:mY P t cs off=some c):
  ∃ y,(part t ys off).run P w=.ok y w∧L E c y:=by
 unfold mY at hc;split at hc
 ·rename_i d i hd hi;split at hc
  ·rename_i hag;split at hc
   ·rename_i hlen;simp only [dZ] at hlen;cases hc
    have hy:=hll.1;simp at hy;refine ⟨.agg (ys.extract off (off+i.size)),by simp [part,kB hd,hag,jh hi],.agg _ _ (by simp;omega) ?_ ?_⟩
    ·intro k c y hc hy';rw [gz] at hc;split at hc
     ·rename_i hk;rw [pt] at hc;rw [Array.getElem?_extract] at hy';split at hy'
      ·exact hll.2 _ c y hc (by simpa using hy')
      ·cases hy'
     ·cases hc
    ·intro y hym;obtain ⟨k,hk⟩:=sH.1 hym;rw [Array.getElem?_extract] at hk;split at hk
     ·exact h1 y (rm hk)
     ·cases hk
   ·cases hc
  ·rename_i hag;obtain ⟨y,hy,hly⟩:=hll.get hc;rw [gE] at hy;exact ⟨y,by simp [part,kB hd,hag,hy],hly⟩
 ·cases hc
def qG.field (t:TypeId) (x:Operand) (f:Nat) (ho:o.op=.field t x f) {fs:Array Field} {fd:Field} (ht:P.underlying t=some (.struct fs)) (hf:fs[f]?= some fd) {cs:List C} (hx:ρ x=.agg cs) {c:C}
  (hc:mY P fd.type cs fd.offset=some c):qG P o ρ H c H:=fun w E σ hh hl K hk=>by
 have h0:=hl x (by simp [ho,Op.operands]);rw [hx] at h0
 obtain ⟨ys,hy,hll,h1⟩:∃ ys,σ x=.agg ys∧LL E cs ys.toList∧∀ y ∈ ys,y.oneCell'=true:=by
  generalize σ x=u at *;cases h0 with
  | agg _ ys h1 h2 h3=>exact ⟨ys,rfl,⟨by simpa using h1,fun i c y e1 e2=>h2 i c y e1 (by simpa using e2)⟩,h3⟩
 obtain ⟨y,hr0,hly⟩:=Aj (w:=w) hll h1 hc
 have hr:(execOp σ o).run P w=.ok (.value y) w:=by
  unfold execOp;simp [ho,Instr.field,run_underlying ht,hf,hy,asAgg,hr0]
 rw [hr];exact hk _ w E hh hly (qA.refl w E H)
def qG.PB (t:TypeId) (x y:Operand) (ho:o.op=.index t x y) {n:Nat} {e:TypeId} {i:TypeInfo} (ht:P.underlying t=some (.array n e)) (hi:P.info? e=some i) {cs:List C} (hx:ρ x=.agg cs)
  {k:IntKind} {j:Int} (hy:ρ y=.v (.int k j)) (h0:0<=j) (h1:j < n) {c:C} (hc:mY P e cs (j.toNat * i.size)=some c):qG P o ρ H c H:=fun w E σ hh hl K hk=>by
 have hlx:=hl x (by simp [ho,Op.operands]);have hly:=hl y (by simp [ho,Op.operands]);rw [hx] at hlx;rw [hy] at hly
 obtain ⟨ys,hyx,hll,hone⟩:∃ ys,σ x=.agg ys∧LL E cs ys.toList∧∀ y ∈ ys,y.oneCell'=true:=by
  generalize σ x=u at *;cases hlx with
  | agg _ ys h1 h2 h3=>exact ⟨ys,rfl,⟨by simpa using h1,fun i c y e1 e2=>h2 i c y e1 (by simpa using e2)⟩,h3⟩
 have hyv:σ y=.int k j:=by generalize σ y=u at *;cases hly;rfl
 obtain ⟨y',hr0,hly'⟩:=Aj (w:=w) hll hone hc
 have hr:(execOp σ o).run P w=.ok (.value y') w:=by
  unfold execOp;simp [ho,Instr.index,asIntOf,hyv,run_underlying ht,hyx,h0,h1,jh hi,hr0]
 rw [hr];exact hk _ w E hh hly' (qA.refl w E H)
end
section
variable {P:Program} {o:Oper} {ρ:Operand->C} {H:zl}
def xz (H:zl):C->Option (Nat × List (List C))
 | .ui o sz rows=>if o == 0 || o == 1 then some (sz,rows) else none
 | .sl id hops sz lo len _=>match H[id]?,z6 H id hops with
  | some ob,some (sz',rows)=>if (sz' == sz) && (ob.kind == 2) && decide (lo+len<=rows.length) && ((rows.drop lo).take len).all (·.all zy) then some (sz,(rows.drop lo).take len) else none
  | _,_=>none
 | _=>none
structure vX (E:Env) (sz:Nat) (rows:List (List C)) (vals:List Value):Prop where
 len:vals.length=rows.length * sz
 row:∀ r ∈ rows,r.length=sz
 cell:∀ i k c,cellAt rows i k=some c->∃ u,vals[i * sz+k]?= some u∧L E.shut c u
 one:∀ u ∈ vals,u.oneCell'=true
def Cn {rows:List (List C)} {sz:Nat} (hrow:∀ r ∈ rows,r.length=sz) {i k:Nat} {c:C} (h:cellAt rows i k=some c):i < rows.length∧k < sz:=by
 unfold cellAt at h;cases hx:rows[i]? with
 | none=>rw [hx] at h;cases h
 | some r=>
  rw [hx] at h;refine ⟨(dJ.1 hx).1,?_⟩;rw [<- hrow r (dM hx)];exact (dJ.1 h).1
def we {rows:List (List C)} {sz:Nat} (hrow:∀ r ∈ rows,r.length=sz) {i k:Nat} (hi:i < rows.length) (hk:k < sz):∃ c,cellAt rows i k=some c:=by
 have hr:rows[i]?= some rows[i]:=by simp [hi]
 have hl:=hrow _ (dM hr);exact ⟨rows[i][k]'(by omega),by simp only [cellAt,hr,gp];exact dK (by omega)⟩
def D2 {sz n j:Nat} (h:j < n * sz):j / sz < n∧j % sz < sz∧j / sz * sz+j % sz=j:=by
 have hsz:0 < sz:=by rcases rR sz with rfl | h' <;> simp_all
 refine ⟨Nat.div_lt_of_lt_mul (by rw [r5];exact h),Nat.mod_lt _ hsz,?_⟩;rw [r5];exact Nat.div_add_mod j sz
def vX.append {E:Env} {sz:Nat} {rows rows':List (List C)} {vals vals':List Value} (h:vX E sz rows vals) (h':vX E sz rows' vals'):vX E sz (rows++rows') (vals++vals') where
 len:=by rw [gN,gN,h.len,h'.len,pA]
 row r hr:=by rcases gD.1 hr with hr | hr;exact h.row r hr;exact h'.row r hr
 cell i k c hc:=by
  by_cases hi:i < rows.length
  ·have hc':cellAt rows i k=some c:=by unfold cellAt at hc ⊢;rw [dR hi] at hc;exact hc
   obtain ⟨u,hu,hl⟩:=h.cell i k c hc';exact ⟨u,by rw [dR ((dJ.1 hu).1)];exact hu,hl⟩
  ·have hc':cellAt rows' (i - rows.length) k=some c:=by unfold cellAt at hc ⊢;rw [dY (by omega)] at hc;exact hc
   obtain ⟨u,hu,hl⟩:=h'.cell _ k c hc';refine ⟨u,?_,hl⟩;have hge:rows.length * sz<=i * sz:=pb _ (by omega);rw [dY (by rw [h.len];omega),h.len];have:i * sz+k - rows.length * sz=(i - rows.length) * sz+k:=by rw [Nat.sub_mul];omega
   rw [this];exact hu
 one u hu:=by rcases gD.1 hu with hu | hu;exact h.one u hu;exact h'.one u hu
def xY {w:World} {E:Env} (h:qb w E H) {c:C} {y:Value} (hl:L E c y) {sz:Nat} {rows:List (List C)} (hr:xz H c=some (sz,rows)):
  (rows=[]∧y=.slice none 0 0)∨∃ a cap vals,y=.slice (some a) rows.length cap∧rows.length<=cap∧vX E sz rows vals∧(∀ (j:Nat) u,vals[j]?= some u->w.cell? (a.add j)=some u):=by
 cases hl with
 | xf o sz' ho a=>
  simp only [xz] at hr;split at hr
  ·cases hr
   cases a with
   | none=>exact .inl ⟨rfl,rfl⟩
   | some a=>exact .inr ⟨a,0,[],rfl,dU _,⟨by simp,by simp,by simp [cellAt],by simp⟩,by simp⟩
  ·cases hr
 | ui o sz' rows' b off cap us ho hc hsz hst hL=>
  simp only [xz] at hr;split at hr
  ·cases hr
   right
   have key:∀ j,j < rows.length * sz->∃ c,cellAt rows (j / sz) (j % sz)=some c∧E.St b (off+j)=some (us (j / sz) (j % sz)):=by
    intro j hj;obtain ⟨h1,h2,h3⟩:=D2 hj;obtain ⟨c,hcc⟩:=we hsz h1 h2;refine ⟨c,hcc,?_⟩;have hr0:rows[j / sz]?= some rows[j / sz]:=by simp [h1]
    have:=hst (j / sz) _ (j % sz) c hr0 (by unfold cellAt at hcc;rw [hr0] at hcc;exact hcc);rw [ri,h3] at this;exact this
   refine ⟨_,cap,(List.range (rows.length * sz)).map (fun j=>us (j / sz) (j % sz)),rfl,hc,⟨by simp,hsz,?_,?_⟩,?_⟩
   ·intro i k c hcc;obtain ⟨h1,h2⟩:=Cn hsz hcc;have hr0:rows[i]?= some rows[i]:=by simp [h1]
    have uj:i * sz+k < rows.length * sz:=by
     have:(i+1) * sz<=rows.length * sz:=pb _ h1;rw [pA] at this;omega
    have e1:(i * sz+k) / sz=i:=by rw [r5,Nat.mul_add_div (by omega),Nat.div_eq_of_lt h2];rfl
    have e2:(i * sz+k) % sz=k:=by rw [r5,uf,sM h2]
    refine ⟨us i k,by simp [uj,e1,e2],hL i _ k c hr0 (by unfold cellAt at hcc;rw [hr0] at hcc;exact hcc)⟩
   ·intro u hu;obtain ⟨j,hj,rfl⟩:=gC.1 hu;obtain ⟨c,_,hs⟩:=key j (by simpa using hj);exact (h.qo _ _ _ hs).2
   ·intro j u hj;rw [dN] at hj;cases hjr:(List.range (rows.length * sz))[j]? with
    | none=>rw [hjr] at hj;cases hj
    | some j'=>
     rw [hjr] at hj;obtain ⟨hjlt,hj'⟩:=dJ.1 hjr;simp at hj' hjlt;subst hj';cases hj
     obtain ⟨c,_,hs⟩:=key j hjlt;rw [xq];exact (h.qo _ _ _ hs).1
  ·cases hr
 | sl id hops sz' lo len full cap hn hlen hf hf'=>
  simp only [xz] at hr;split at hr
  rotate_left
  ·cases hr
  rename_i ob sz2 rows2 hob hb;split at hr
  rotate_left
  ·cases hr
  rename_i hcond;simp only [dS,gM,dZ,dT] at hcond;obtain ⟨⟨⟨rfl,hkd⟩,hfit⟩,hno⟩:=hcond;cases hr
  right
  have hB:=h.uy id ob hops _ rows2 hob hb;obtain ⟨cur,e,hg,hcs,hcell⟩:=hB.uy;have hrl:((rows2.drop lo).take len).length=len:=by simp;omega
  have hsub:∀ i k,cellAt ((rows2.drop lo).take len) i k=if i < len then cellAt rows2 (lo+i) k else none:=by
   intro i k;unfold cellAt;rw [gz];split
   ·rw [pt]
   ·rfl
  have hrow:∀ r ∈ (rows2.drop lo).take len,r.length=sz:=fun r hr=>hB.row r (rI (pL hr))
  have key:∀ j,j < len * sz->∃ c u,cellAt ((rows2.drop lo).take len) (j / sz) (j % sz)=some c∧cur[lo * sz+j]?= some u∧L E.shut c u∧u.oneCell'=true:=by
   intro j hj;obtain ⟨h1,h2,h3⟩:=D2 hj;obtain ⟨c,hcc⟩:=we hrow (by rw [hrl];exact h1) h2;have hcc2:=hcc;rw [hsub,dO h1] at hcc2;obtain ⟨u,hu,ho⟩:=hcell _ _ c hcc2
   have hnc:zy c=true:=by
    unfold cellAt at hcc;cases hx:((rows2.drop lo).take len)[j / sz]? with
    | none=>rw [hx] at hcc;cases hcc
    | some r=>
     rw [hx] at hcc;exact hno r (dM hx) c (dM hcc)
   rw [qQ.loose hnc] at ho;refine ⟨c,u,hcc,?_,by simpa [Env.at,hkd] using ho.1,ho.2⟩;have:(lo+j / sz) * sz+j % sz=lo * sz+j:=by rw [pA];omega
   rw [<- this];exact hu
  have hlen2:len=((rows2.drop lo).take len).length:=hrl.symm;refine ⟨_,cap,(List.range (len * sz)).map (fun j=>cur.getD (lo * sz+j) undef),by rw [<- hlen2],by rw [<- hlen2];exact hlen,⟨by simp [hrl],hrow,?_,?_⟩,?_⟩
  ·intro i k c hcc;obtain ⟨h1,h2⟩:=Cn hrow hcc;rw [hrl] at h1
   have uj:i * sz+k < len * sz:=by
    have:(i+1) * sz<=len * sz:=pb _ h1;rw [pA] at this;omega
   obtain ⟨c',u,h3,h4,h5,_⟩:=key _ uj;have e1:(i * sz+k) / sz=i:=by rw [r5,Nat.mul_add_div (by omega),Nat.div_eq_of_lt h2];rfl
   have e2:(i * sz+k) % sz=k:=by rw [r5,uf,sM h2]
   rw [e1,e2,hcc] at h3;cases h3
   refine ⟨u,?_,h5⟩;simp only [dN,rb uj,dV,gP,h4,gS]
  ·intro u hu;obtain ⟨j,hj,rfl⟩:=gC.1 hu;obtain ⟨c,u,_,h4,_,h6⟩:=key j (by simpa using hj);simpa [gP,h4] using h6
  ·intro j u hj;rw [dN] at hj;cases hjr:(List.range (len * sz))[j]? with
   | none=>rw [hjr] at hj;cases hj
   | some j'=>
    rw [hjr] at hj;obtain ⟨hjlt,hj'⟩:=dJ.1 hjr;simp at hj' hjlt;subst hj';obtain ⟨c,u',_,h4,_,_⟩:=key j hjlt;simp only [dV,gP,h4,gS,gj] at hj;subst hj;rw [xq];unfold World.cell?;rw [hg];simpa using h4
 | _=>simp [xz] at hr
end
abbrev tZ (l:List C):List C:=.za::.za::.za::.za::.za::.za::.za::.za::l
abbrev tf:List C:=[.ref 5 [] 8 0 0,.ref 6 [] 44 0 0]
abbrev tj:List C:=[.ref 0 [] 8 0 0,.ref 1 [] 44 0 0]
def zz {H:zl}{q:Prop}(h:q):H=H∧q:=⟨rfl,h⟩
def dd {p q:Prop}(h:q)(e:q→p:=by intro zh;(conv=>whnf);(try apply zz;conv=>whnf);exact zh):p:=e h
def ya {p q:Prop}(h:p):(true=true→p)∧(true=false→q):=⟨fun _=>h,fun h=>nomatch h⟩
def yb {p q:Prop}(h:q):(false=true→p)∧(false=false→q):=⟨fun h=>(nomatch h),fun _=>h⟩
def hU {p:Prop}(n:p:=by (conv=>whnf);(repeat (refine ⟨rfl,?_⟩;(conv=>whnf)));exact trivial):p:=n
def hZ {g q:Prop}(h:q)(e:q->g:=by intro zh;(repeat (refine ⟨rfl,?_⟩;(conv=>whnf)));exact zh):g:=e h
def tc {g q:Prop}(h:q)(e:q->g:=by intro zh;(repeat ((first | apply ya | apply yb);(conv=>whnf);(try apply zz;conv=>whnf)));exact zh):g:=e h
def td {α:Type}{l:List α}{k:Nat}{x:α}{P:α->Prop}{q:Prop}(hg:l[k]?= some x)(h:q)(e:q->P x:=by intro zh;(conv=>whnf);(try apply zz;conv=>whnf);exact zh):0<=(k:Int)∧∃ r,l[(k:Int).toNat]?= some r∧P r:=⟨tt k,x,hg,e h⟩
def uA {a b p s q:Prop}(h:q)(n:b->False:=by intro h;first | (simp [hpc] at h;done) | (have h:=pn h;omega) | (have h:=pC h;omega))(e:q->p:=by intro zh;(conv=>whnf);(try apply zz;conv=>whnf);exact zh):(a->p)∧(b->s):=⟨fun _=>e h,fun x=>(n x).elim⟩
def uB {a b p s q:Prop}(h:q)(n:a->False:=by intro h;first | (simp [hpc] at h;done) | (have h:=pn h;omega) | (have h:=pC h;omega))(e:q->s:=by intro zh;(conv=>whnf);(try apply zz;conv=>whnf);exact zh):(a->p)∧(b->s):=⟨fun x=>(n x).elim,fun _=>e h⟩
def uC {g q:Prop}(h:q)(e:q->g:=by intro zh;(first | apply ya | apply yb);(conv=>whnf);(try apply zz;conv=>whnf);exact zh):g:=e h
def uD {g q:Prop}(h:q)(e:q->g:=by intro zh;(conv=>whnf);(refine ⟨fun h=>absurd h (by simp),fun _=>?_⟩);(conv=>whnf);(try apply zz;conv=>whnf);(refine ⟨by simp,?_⟩);(conv=>whnf);exact zh):g:=e h
def uE {g q:Prop}(h:q)(e:q->g:=by intro zh;refine .inl ⟨⟨false,[],[],[]⟩,by kernel_rfl,?_⟩;(conv=>whnf);exact zh):g:=e h
def uF {a b p s q:Prop}(h:q)(n:b->False:=by intro h;exact absurd h (by simp;omega))(e:q->p:=by intro zh;(conv=>whnf);(try apply zz;conv=>whnf);exact zh):(a->p)∧(b->s):=⟨fun _=>e h,fun x=>(n x).elim⟩
def uG {g q:Prop}(h:q)(e:q->g:=by intro zh;refine ⟨fun h=>absurd h (by simp),fun _=>?_⟩;(conv=>whnf);(try apply zz;conv=>whnf);exact zh):g:=e h
def uH {g q:Prop}(h:q)(e:q->g:=by intro zh;(conv=>whnf);exact zh):g:=e h
def uI {g:Prop}(e:g:=by exact ⟨.inl rfl,_,.refl _,rfl⟩):g:=e
def uJ {g:Prop}(e:g:=by exact ⟨.inl rfl,_,.refl _,rfl,rfl⟩):g:=e
def uK {p q:Prop}(n:p->q:=by intro h;dsimp only at h;omega):p->q:=n
def uL {p:Prop}(n:p:=by dsimp only;omega):p:=n
def uM {p:Prop}(n:p:=by (try dsimp only);(repeat' split) <;> omega):p:=n
def uN {b b2:Bool}(h:b=b2):some (C.v (Value.bool b))=some (C.v (Value.bool b2)):=pX (fun b=>some (C.v (Value.bool b))) h
def uO {p:Prop}(n:p:=by exact ⟨tm.listen,tm.word,tm.link,tm.host,tm.path,tm.d0,tm.d1,tm.cfg,tm.iO⟩):p:=n
def uP {p:Prop}(n:p:=by exact ⟨tm.listen,tm.word,tm.link,tm.host,tm.path,tm.d0,tm.d1,tm.cfg,(fun h=>absurd ((show m.op.kind=6 from h).symm.trans hk) (by decide))⟩):p:=n
def uQ {p:Prop}(n:p:=by exact ⟨su.world,su.zj,su.done,su.version,su.eF,su.zg,su.u9,su.end_,su.eE,su.other,su.slot,su.listen,su.i,su.k⟩):p:=n
def uR {p:Prop}(n:p:=by exact ⟨su.world,su.zj,su.done,su.version,su.eF,su.zg,su.u9,su.end_,su.eE,su.other,su.slot,su.listen,(by show 0<=m.i+1;omega),su.k⟩):p:=n
def uS {p:Prop}(n:p:=by exact ⟨su.world,su.zj,su.done,su.version,su.eF,su.zg,su.u9,su.end_,su.eE,su.other,su.slot,su.listen,gd _,su.k⟩):p:=n
def uT {p:Prop}(n:p:=by (show zK _ _::zK _ _::zK _ ⟨1,0,5,_,0⟩::zK _ ⟨1,0,2,_,0⟩::zK _ ⟨1,0,3,_,0⟩::_=_);(rw [zH (enc:=zF) (fun _=>rfl),zH (enc:=zE) (fun _=>rfl),zH (enc:=zx) (fun _=>rfl)]);rfl):p:=n
def uU {p:Prop}(n:p:=by (show zG _ _::zG _ _::zG _ ⟨1,0,5,_,0⟩::zG _ ⟨1,0,2,_,0⟩::zG _ ⟨1,0,3,_,0⟩::_=_);(rw [zB (enc:=zF) (fun _=>rfl),zB (enc:=zE) (fun _=>rfl),zB (enc:=zx) (fun _=>rfl)]);rfl):p:=n
def uV {p:Prop}(n:p:=by show _::_::_::_::_::zG _ ⟨1,0,5,_,0⟩::zG _ ⟨1,0,2,_,0⟩::zG _ ⟨1,0,3,_,0⟩::_=_;rw [zB (enc:=zF) (fun _=>rfl),zB (enc:=zE) (fun _=>rfl),zB (enc:=zx) (fun _=>rfl)];rfl):p:=n
def uW {p:Prop}(n:p:=by show (1:Int)≠0;decide):p:=n
def uX {p:Prop}(n:p:=by simp [ho,Op.operands]):p:=n
def uY {p:Prop}(n:p:=by simpa using e2):p:=n
def uZ {p:Prop}(n:p:=by simp [ho,Op.operands,Call.operands,ht.callee,ht.args]):p:=n
def tA {p:Prop}(n:p:=by show zK _ _::zK _ _::zK _ ⟨1,0,5,_,0⟩::zK _ ⟨1,0,2,_,0⟩::zK _ ⟨1,0,3,_,0⟩::_=_;rw [zH (enc:=zF) (fun _=>rfl),zH (enc:=zE) (fun _=>rfl),zH (enc:=zx) (fun _=>rfl)];rfl):p:=n
def tB {p:Prop}(n:p:=by rw [hs.heap.n];exact hs.base):p:=n
def tD {p:Prop}(n:p:=by rw [<- hh.n];exact hi):p:=n
def tE {p:Prop}(n:p:=by rw [hx];exact gH hk):p:=n
def tG {p:Prop}(n:p:=by simpa using h1):p:=n
def tH {p:Prop}(n:p:=by show _::_::_::_::_::zG _ ⟨1,0,1,_,0⟩::_=_;rw [zB (enc:=zN) (fun _=>rfl)];rfl):p:=n
def tI {p:Prop}(n:p:=by show (2:Int)≠0;decide):p:=n
def tJ {p:Prop}(n:p:=by rw [show B=0 from by simpa using h];rfl):p:=n
def tK {p:Prop}(n:p:=by simpa using le):p:=n
def tL {p:Prop}(n:p:=by subst e;simp [ho,Op.operands]):p:=n
def tM {p:Prop}(n:p:=by show (3:Int)≠0;decide):p:=n
def tN {p:Prop}(n:p:=by simpa using lg):p:=n
def tO {p:Prop}(n:p:=by rw [hh.n];exact hi):p:=n
def tP {p:Prop}(n:p:=by simpa using lv):p:=n
def tR {p:Prop}(n:p:=by simpa using this.1):p:=n
def tS {p:Prop}(n:p:=by show 0+1<=1;decide):p:=n
def tT {p:Prop}(n:p:=by simpa using h2):p:=n
end Go.Ab
