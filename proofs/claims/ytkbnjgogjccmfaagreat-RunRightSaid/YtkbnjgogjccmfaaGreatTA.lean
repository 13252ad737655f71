import Derived.WalkKit
import Derived.Still
import Derived.LoopN
import Derived.LoopNIn
import Derived.ControlIn
import Derived.CallsIn
import Derived.TacticsIn
import Derived.OrdersIn
import Derived.Scope
import Derived.RangeFuncLeaves
import Derived.RangeFuncRecord
set_option linter.all false
set_option maxRecDepth 100000
set_option maxHeartbeats 4000000
def aw {p:Prop}(n:p:=by omega):p:=n
def aj {p:Prop}(n:p:=by simp):p:=n
def au {p:Prop}(n:p:=by kernel_rfl):p:=n
def ar {p:Prop}(n:p:=by decide):p:=n
def aA {p:Prop}(n:p:=by simp;omega):p:=n
def aK {p:Prop}(n:p:=by show (0:Int) < _;omega):p:=n
def cH {p:Prop}(n:p:=by rw [gF];exact jr zF _ _ (xk m v0 g0 e0 tk hd ac) _ rfl):p:=n
def cG {p:Prop}(n:p:=by rw [gF];exact jr zE _ _ (yE m g0 e0 tk hd ac) _ rfl):p:=n
def bQ {p:Prop}(n:p:=by rw [hlg];simp [maxLen];omega):p:=n
def cF {p:Prop}(n:p:=by rw [gF];exact jr zx _ _ (qt e0 hd ac) _ rfl):p:=n
def ay {p:Prop}(n:p:=by simp [maxLen];omega):p:=n
def cb {p:Prop}(n:p:=by rw [hlg];show (k+1) * 64<=_;omega):p:=n
def bN {p:Prop}(n:p:=by rw [hx];exact gQ hk):p:=n
def bP {p:Prop}(n:p:=by rw [px hk,<- hx];simp):p:=n
def cB {p:Prop}(n:p:=by rw [hpc];rfl):p:=n
def bR {p:Prop}(n:p:=by rw [pM];rfl):p:=n
def aJ {p:Prop}(n:p:=by show i64 (zS w.zd m.op.listen);unfold i64;omega):p:=n
def bO {p:Prop}(n:p:=by intro ob hob;simp at hob;rcases hob with rfl | rfl | rfl | rfl | rfl | rfl | rfl <;> first | exact hX _ | exact hY | rfl):p:=n
def aR {p:Prop}(n:p:=by show w.current < ((w.ze++[y4 m.op.config]).length:Nat);simp only [gR,p9];omega):p:=n
def aE {p:Prop}(n:p:=by have:=(jx gv.snap).zk.1;have:=gv.len;omega):p:=n
def bc {p:Prop}(n:p:=by show _ * 8<=_;simp;omega):p:=n
def bf {p:Prop}(n:p:=by show 1+1<=48;decide):p:=n
def aG {p:Prop}(n:p:=by have:=hs.base;simp;omega):p:=n
def bY {p:Prop}(n:p:=by intro u hu;simp at hu;subst hu;rfl):p:=n
def aW {p:Prop}(n:p:=by show x.done+1<=x.ops.length;omega):p:=n
def aZ {p:Prop}(n:p:=by simp at h2;omega):p:=n
def bw {p:Prop}(n:p:=by have h1:=rz hB;have h2:=rz hn;simp;omega):p:=n
def cD {p:Prop}(n:p:=by show zK _ _::zK _ _::zK _ ⟨1,0,1,_,0⟩::_=_;rw [zH (enc:=zN) (fun _=>rfl)];rfl):p:=n
def bX {p:Prop}(n:p:=by simp only [fM,f.M7 (by rw [<- f.h0.n];exact hi)]):p:=n
def aU {p:Prop}(n:p:=by rw [ho];exact hk):p:=n
def aX {p:Prop}(n:p:=by unfold yA;rw [hon];rfl):p:=n
def bn {p:Prop}(n:p:=by rw [mA];show _ * 104<=_;simp;omega):p:=n
def cA {p:Prop}(n:p:=by show 0+1<=3;decide):p:=n
def bu {p:Prop}(n:p:=by rw [h] at hr;cases hr):p:=n
def br {p:Prop}(n:p:=by rw [hrows.len,hcs,<- pD];exact pt _ hroom):p:=n
def bB {p:Prop}(n:p:=by simp [ho,hv,hc,eqGuard,binOp,run_equal_slice_nil w t e _ len cap ht]):p:=n
def aF {p:Prop}(n:p:=by simpa [Env.at] using ho.1):p:=n
def cf {p:Prop}(n:p:=by unfold kB;rw [dN (by simp at h1;omega)]):p:=n
def cg {p:Prop}(n:p:=by unfold vw;rw [dN (by simp at q1;omega)]):p:=n
def ck {p:Prop}(n:p:=by unfold vw;rw [dN (by simp at q2;omega)]):p:=n
def cm {p:Prop}(n:p:=by unfold kB;rw [dN (by simp at h2;omega)]):p:=n
def bJ {p:Prop}(n:p:=by rcases rq.1 h with h | h;exact absurd h.symm e;exact h):p:=n
def bU {p:Prop}(n:p:=by simp at q1;omega):p:=n
def b9 {p:Prop}(n:p:=by simp at h1;omega):p:=n
def aH {p:Prop}(n:p:=by simp [h]):p:=n
def bp {p:Prop}(n:p:=by rw [hh.n];exact ux):p:=n
def bz {p:Prop}(n:p:=by show _<=w2.heap.size;rw [a4];exact g.size):p:=n
def bH {p:Prop}(n:p:=by rw [<- l1];exact h2):p:=n
def bZ {p:Prop}(n:p:=by have:=st.ty.ec;show w.zd.length<=_;omega):p:=n
def aV {p:Prop}(n:p:=by rw [ho];omega):p:=n
def b8 {p:Prop}(n:p:=by rw [ur];simp [we,Gm,fY,ha,@eq_comm _ 1 b.kind]):p:=n
def aB {p:Prop}(n:p:=by rw [oN];decide):p:=n
def bD {p:Prop}(n:p:=by simp [ho,Op.operands,Call.operands,hcl]):p:=n
def cw {p:Prop}(n:p:=by show 2+1<=4;decide):p:=n
def bG {p:Prop}(n:p:=by unfold z6;rw [h2];exact (show vA sz0 rows0 hops=_ from hg')):p:=n
def aD {p:Prop}(n:p:=by simp [h1]):p:=n
def bm {p:Prop}(n:p:=by rw [mA];simp [maxLen];omega):p:=n
def ba {p:Prop}(n:p:=by rw [h1];decide):p:=n
def bh {p:Prop}(n:p:=by show 47+1<=48;decide):p:=n
def bS {p:Prop}(n:p:=by rw [dR];exact hll.symm):p:=n
def bV {p:Prop}(n:p:=by have:=g.counts.1;have:=g.pins;omega):p:=n
def bt {p:Prop}(n:p:=by rw [jQ hs.tmps hw];decide):p:=n
def bE {p:Prop}(n:p:=by intro hb;simp [hb] at hcb):p:=n
def bC {p:Prop}(n:p:=by simpa [Nat.blt_eq,Env.cut] using h):p:=n
def cp {p:Prop}(n:p:=by simp at h1 h2;omega):p:=n
def aI {p:Prop}(n:p:=by simp [hd]):p:=n
def bb {p:Prop}(n:p:=by rw [h2];trivial):p:=n
def bd {p:Prop}(n:p:=by rw [pB];rfl):p:=n
def bA {p:Prop}(n:p:=by rw [hh.n,hs.heap.n];exact hs.base):p:=n
def bF {p:Prop}(n:p:=by simp [h2]):p:=n
def bT {p:Prop}(n:p:=by rw [<- hh.n,<- h2.n];exact g.le.n):p:=n
def aY {p:Prop}(n:p:=by simp [ux]):p:=n
def bW {p:Prop}(n:p:=by rw [<- f.h0.n];exact hi):p:=n
def bo {p:Prop}(n:p:=by (try dsimp only);omega):p:=n
def aT {p:Prop}(n:p:=by show (0<=m.pc∧m.pc<=6)∨_;omega):p:=n
def bq {p:Prop}(n:p:=by simp only [maxLen] at hm;omega):p:=n
def aC {p:Prop}(n:p:=by unfold lf;rw [hnext,hev];rfl):p:=n
def aM {p:Prop}(n:p:=by show m.slot < _;omega):p:=n
def aO {p:Prop}(n:p:=by show (4:Int)≠0;decide):p:=n
def aP {p:Prop}(n:p:=by show (5:Int)≠0;decide):p:=n
def aQ {p:Prop}(n:p:=by show (0:Int)<=n;omega):p:=n
def aL {p:Prop}(n:p:=by show 0<=m.slot;omega):p:=n
def bj {p:Prop}(n:p:=by show 3+44<=48;decide):p:=n
def bL {p:Prop}(n:p:=by simp_all [C8]):p:=n
def ax {p:Prop}(n:p:=by simp [h5]):p:=n
def aN {p:Prop}(n:p:=by show e.zg<=_;omega):p:=n
def bM {p:Prop}(n:p:=by simp [h3]):p:=n
def cq {p:Prop}(n:p:=by simp at h2 ⊢;omega):p:=n
def cx {p:Prop}(n:p:=by show 3+1<=5;decide):p:=n
def cy {p:Prop}(n:p:=by show 1+1<=2;decide):p:=n
def cz {p:Prop}(n:p:=by show 2+1<=3;decide):p:=n
def aS {p:Prop}(n:p:=by cases h):p:=n
def aq {p q:Prop}(h:q)(e:q->p:=by intro zh;simpa using zh):p:=e h
def cI {p:Prop}(n:p:=by exact ⟨.inl rfl,_,_,.refl _,rfl,cE 2⟩):p:=n
def cJ {p:Prop}(n:p:=by exact ⟨.inl rfl,_,_,.refl _,rfl,zo.xv 6 hU rfl rfl rfl (zI rfl (zI rfl (zI (qg lowV) (zI (qg lowG) (zI (qg lowE) rfl))))) rfl⟩):p:=n
def cK {p:Prop}(n:p:=by exact ⟨.inl rfl,_,zo.var 1 rfl rfl rfl (.cons (.refl _) (.cons (.refl _) (.cons (.refl _) (.cons (WC.nil 0 1) (.cons (WC.nil 0 5) (.cons (WC.nil 0 4) (.cons (WC.nil 0 1) (.cons (WC.nil 0 3) .nil)))))))),rfl⟩):p:=n
def cL {p:Prop}(n:p:=by exact ⟨.inl rfl,_,_,.refl _,rfl,zo.xv 9 hU rfl rfl rfl (zI (qg (wQ (b:=1) (n:=9) ar hX rfl)) rfl) rfl⟩):p:=n
def cM {p:Prop}(n:p:=by exact h.elim):p:=n
def cN {p:Prop}(n:p:=by refine dd ?_;refine tc ?_;exact uI):p:=n
def cO {p:Prop}(n:p:=by exact ⟨.inl rfl,_,_,.refl _,rfl,zo.xv 4 hU rfl rfl rfl (zI rfl (zI rfl (zI (qg low) rfl))) rfl⟩):p:=n
def cP {p:Prop}(n:p:=by simp at this;omega):p:=n
def cQ {p:Prop}(n:p:=by refine hZ ?_;exact cI):p:=n
def cR {p:Prop}(n:p:=by exact ⟨_,_,.refl _,rfl,.inl ⟨rfl,rfl,rfl⟩⟩):p:=n
def cS {p:Prop}(n:p:=by refine ⟨aw,aA,dd ?_⟩;rw [e1];refine ⟨_,j0 aj hk,rfl,dd ?_⟩;refine .inl ⟨rfl,?_,trivial⟩;rw [zu aw,<- qU hF hk];exact cC):p:=n
def cT {p:Prop}(n:p:=by exact ⟨_,_,zo.mask [0,1,4,7,8] _ _,0,aj,rfl,aj,rfl⟩):p:=n
def cU {p:Prop}(n:p:=by refine .inl ⟨rfl,?_,trivial⟩;rw [zu aw];exact cE 0):p:=n
def cV {p:Prop}(n:p:=by exact ⟨.inl rfl,_,zo.keep [3] 1 _ _ rfl rfl rfl rfl,rfl,rfl⟩):p:=n
def cW {p:Prop}(n:p:=by exact (g2.frame k (gU hk g.size) fun hc=>(g.own k hc).elim (fun h=>by omega) ho).trans (g.frame k hk ho)):p:=n
def cX {p:Prop}(n:p:=by rw [hr];exact hk _ w E hh (.v _ rfl) (qB.refl w E H)):p:=n
def cY {p:Prop}(n:p:=by rw [estE,estG,estV];exact shut_map (enc:=zF) (fun _=>rfl) _):p:=n
def cZ {p:Prop}(n:p:=by refine ⟨fun h=>absurd h aj,fun _=>dd ?_⟩;refine ⟨aj,uH ?_⟩;exact uI):p:=n
def c6 {p:Prop}(n:p:=by rw [estE,estG];exact shut_map (enc:=zE) (fun _=>rfl) _):p:=n
def c7 {p:Prop}(n:p:=by refine .inl ⟨rfl,?_,trivial⟩;rw [zu aw];exact cE 2):p:=n
def c8 {p:Prop}(n:p:=by have g:=g1.trans g2;exact ⟨E1,⟨hR,hs.tmps.mono g.le,hs.defers.grow hs.heap g,aG⟩,g.fA tB⟩):p:=n
def c9 {p:Prop}(n:p:=by exact ⟨.inr rfl,_,.refl _,rfl,rfl⟩):p:=n
def da {p:Prop}(n:p:=by rw [estE];exact shut_map (enc:=zx) (fun _=>rfl) _):p:=n
def db {p:Prop}(n:p:=by refine uD ?_;rw [yW aj];exact ⟨.inl rfl,_,zo.u5 [1] [6] _ _ rfl rfl rfl rfl,rfl,rfl⟩):p:=n
def dc {p:Prop}(n:p:=by exact ⟨.inl rfl,_,zo.Ik 2 rfl rfl (.inr rfl) aj (shut_map (fun _=>rfl) (x::l)),rfl⟩):p:=n
def de {p:Prop}(n:p:=by refine dd ?_;exact uJ):p:=n
def df {p:Prop}(n:p:=by refine dd ?_;exact uI):p:=n
def dg {p:Prop}(n:p:=by exact .agg _ ys tR (fun i c y e1 e2=>this.2 i c y e1 uY) h3):p:=n
def dh {p:Prop}(n:p:=by refine ab func229 ?_;refine ah h ?_;exact uI):p:=n
def di {p:Prop}(n:p:=by exact qx hd rfl rfl):p:=n
def dj {p:Prop}(n:p:=by exact ⟨.inl rfl,_,zo.cell 2 rfl (WC.nil 0 1),rfl⟩):p:=n
def dk {p:Prop}(n:p:=by have:=(dL.1 ho).1;exact cP):p:=n
def dm {p:Prop}(n:p:=by exact xf rfl rfl hd):p:=n
def dp {p:Prop}(n:p:=by exact vS rfl rfl (by exact gK au)):p:=n
def dq {p:Prop}(n:p:=by exact zM rfl ⟨uW,st1,tg1,uO,rfl,rfl,jT.refl w _,qi w (kh p6 (fR su.done hk uM)),.inr ⟨v,g,e,uR,⟨uL,uK,uK,uK,uK⟩⟩⟩):p:=n
def dt {p:Prop}(n:p:=by rw [zu aw];exact cE 1):p:=n
def du {p:Prop}(n:p:=by exact ⟨rfl,fun _=>rfl,rfl⟩):p:=n
def dw {p:Prop}(n:p:=by exact ⟨.inl rfl,_,zo.zV 2 0 5 rfl rfl rfl rfl (.inr rfl) aj bS (shut_map (enc:=qH) (fun _=>rfl) _) (z5 rfl),rfl⟩):p:=n
def dx {p:Prop}(n:p:=by exact .fn f _ _ ys zs (aq t1.1) (aq t2.1) (fun i c y e1 e2=>t1.2 i c y e1 uY) (fun i c y e1 e2=>t2.2 i c y e1 uY)):p:=n
def dy {p:Prop}(n:p:=by exact this):p:=n
def dz {p:Prop}(n:p:=by exact ⟨.inl rfl,_,_,.refl _,rfl,cE 1⟩):p:=n
def dA {p:Prop}(n:p:=by exact hl a (by simp [ho,Op.operands,Call.operands];right;have:=dO ha;simpa using this)):p:=n
def dB {p:Prop}(n:p:=by refine .inl ⟨⟨true,[0,2,3],[0,1,5],[1]⟩,au,uH ?_⟩;refine ah (qw w sw) ?_;refine hZ ?_;exact uI):p:=n
def dC {p:Prop}(n:p:=by exact ⟨.inl rfl,_,zo.cell 2 rfl (WC.nil 0 18),rfl⟩):p:=n
def dD {p:Prop}(n:p:=by rw [gy];exact ⟨hk,h2,fun j hj=>by simp only [hr j aw hj];decide⟩):p:=n
def dE {p:Prop}(n:p:=by have:=(hno4 h4).1;omega):p:=n
def dF {p:Prop}(n:p:=by refine .inl ⟨rfl,?_,trivial⟩;rw [zu aw];exact cC):p:=n
def dG {p:Prop}(n:p:=by exact ⟨rfl,rfl,fun _=>rfl⟩):p:=n
def dH {p:Prop}(n:p:=by exact gQ hk):p:=n
def dI {p:Prop}(n:p:=by rw [e];exact cN):p:=n
def dJ {p:Prop}(n:p:=by exact absurd h3 ar):p:=n
def dK {p:Prop}(n:p:=by rw [dN aw];refine uD ?_;rw [yW aj];exact uJ):p:=n
def dL:=@List.getElem?_eq_some_iff
def dM:=@List.getElem?_eq_getElem
def dN:=@if_neg
def dO:=@List.mem_of_getElem?
def dP:=@List.getElem?_map
def dQ:=@if_pos
def dR:=@List.length_map
def dS:=@List.getElem?_set_self
def dT:=@List.getElem?_append_left
def dU:=@Bool.and_eq_true
def dV:=@List.all_eq_true
def dW:=@Nat.le_refl
def dX:=@Option.map_some
def dY:=@List.getElem?_set
def dZ:=@Option.some.inj
def gf:=@Array.getElem?_eq_some_iff
def gh:=@decide_eq_true_eq
def gj:=@List.getElem?_append_right
def gk:=@Int.le_refl
def gm:=@List.mem_iff_getElem?
def gp:=@Nat.zero_add
def gu:=@Option.some.injEq
def gy:=@List.findIdx?_eq_some_iff_getElem
def gz:=@Option.bind_some
def gA:=@Nat.zero_le
def gC:=@List.findIdx?_eq_none_iff
def gD:=@Option.map_eq_some_iff
def gE:=@List.getElem?_take
def gF:=@List.set_set
def gG:=@List.mem_map
def gH:=@List.mem_append
def gI:=@List.mem_singleton
def gJ:=@List.getElem?_set_ne
def gK:=@of_decide_eq_true
def gL:=@Array.getElem?_toList
def gM:=@Option.bind_eq_some_iff
def gN:=@Nat.not_lt_zero
def gO:=@List.take_length
def gP:=@List.any_eq_false
def gQ:=@List.getElem_mem
def gR:=@List.length_append
def gS:=@List.eq_of_mem_replicate
def gT:=@beq_iff_eq
def gU:=@Nat.lt_of_lt_of_le
def gV:=@Array.getD_eq_getD_getElem?
def gW:=@Nat.le_trans
def gX:=@Bool.not_eq_true'
def gY:=@Option.getD_some
def gZ:=@decide_eq_false_iff_not
def g9:=@List.ext_getElem?
def pa:=@List.mem_iff_getElem
def pb:=@List.getElem?_mapIdx
def pd:=@List.mem_or_eq_of_mem_set
def pj:=@List.mem_cons_of_mem
def pn:=@Bool.or_eq_false_iff
def pq:=@List.getElem?_modify
def pt:=@Nat.mul_le_mul_right
def pw:=@List.getElem?_eq_none
def px:=@List.take_succ_eq_append_getElem
def pz:=@List.mem_cons_self
def pA:=@List.getElem?_drop
def pB:=@List.map_append
def pC:=@Nat.le_succ
def pD:=@Nat.add_mul
def pE:=@Bool.or_eq_true
def pF:=@of_decide_eq_false
def pG:=@List.mem_range
def pH:=@List.any_eq_true
def pI:=@List.map_cons
def pJ:=@List.mem_of_mem_take
def pK:=@List.getElem?_eq_none_iff
def pL:=@decide_eq_false
def pM:=@List.map_set
def pN:=@List.getElem?_cons_succ
def pO:=@Array.eq_empty_of_size_eq_zero
def pP:=@Int.toNat_of_nonneg
def pQ:=@List.append_assoc
def pR:=@List.sum_cons
def pS:=@List.findIdx?_cons
def pT:=@Bool.not_eq_false'
def pU:=@List.length_eq_zero_iff
def pV:=@List.length_cons
def pW:=@congrArg
def pX:=@List.map_map
def pY:=@Nat.sub_zero
def pZ:=@Array.getElem?_eq_getElem
def p9:=@List.length_singleton
def rb:=@Nat.sub_self
def rh:=@Bool.false_or
def rj:=@Option.map_eq_map
def rk:=@List.getElem?_range
def rm:=@Nat.lt_or_ge
def rp:=@Nat.add_assoc
def rq:=@List.mem_cons
def ru:=@decide_eq_true
def ry:=@Array.mem_of_getElem?
def rz:=@Nat.le_of_ble_eq_true
def rA:=@List.length_set
def rB:=@Nat.add_zero
def rC:=@Nat.lt_trichotomy
def rD:=@List.all_cons
def rE:=@List.map_congr_left
def rF:=@Array.getElem?_eq_none
def rG:=@List.take_of_length_le
def rH:=@List.countP_append
def rI:=@Array.getElem?_modify
def rJ:=@List.append_nil
def rK:=@Int.tmod_eq_emod_of_nonneg
def rL:=@List.foldl_append
def rM:=@List.all_eq_false
def rO:=@List.map_eq_cons_iff
def rP:=@List.mem_of_mem_drop
def rQ:=@Array.all_toList
def rR:=@List.replicate_succ
def rS:=@Array.toList_append
def rT:=@List.getElem?_replicate
def rU:=@Bool.false_eq_true
def rV:=@Int.emod_nonneg
def rW:=@Int.emod_lt_of_pos
def rX:=@Nat.eq_zero_or_pos
def rY:=@List.eq_nil_iff_forall_not_mem
def rZ:=@List.take_append_of_le_length
def r4:=@List.findIdx?_map
def r5:=@List.countP_singleton
def r6:=@List.take_append_drop
def r7:=@Nat.le_of_eq
def r8:=@List.length_replicate
def r9:=@Bool.and_false
def sa:=@Nat.ne_of_lt
def sb:=@List.getElem?_toArray
def sd:=@Nat.mul_comm
def se:=@List.mapM_cons
def sf:=@List.drop_zero
def sg:=@List.findIdx?_append
def sq:=@Array.toList_inj
def sr:=@List.range_eq_range'
def sx:=@List.prefix_refl
def sy:=@Array.getElem?_append_left
def sA:=@List.exists_cons_of_ne_nil
def sB:=@Bool.true_and
def sC:=@Bool.and_true
def sD:=@Nat.mul_one
def sE:=@List.length_pos_iff
def sF:=@List.takeWhile_cons
def sG:=@List.nil_append
def sH:=@List.set_cons_zero
def sI:=@Bool.or_true
def sJ:=@List.mem_replicate
def sK:=@Array.setIfInBounds_comm
def sL:=@Int.natCast_nonneg
def sM:=@List.all_nil
def sN:=@List.take_left
def sO:=@List.getElem?_cons_zero
def sP:=@List.size_toArray
def sQ:=@Array.mem_iff_getElem?
def sR:=@Bool.not_true
def sS:=@List.map_take
def sT:=@true_and
def sU:=@Option.bind_none
def sV:=@Nat.mod_eq_of_lt
def sW:=@Array.toList_map
def sX:=@List.set_append_right
def sY:=@List.countP_le_length
def sZ:=@List.set_append_left
def tp:=@List.replicate_succ'
def tq:=@List.mem_mapIdx
def tt:=@List.foldl_cons
def tu:=@Nat.zero_mul
def tz:=@List.mem_append_left
def tU:=@Nat.not_lt
def tX:=@List.eq_nil_of_length_eq_zero
def tY:=@List.take_zero
def ua:=@Array.getElem?_setIfInBounds
def ub:=@Array.getElem?_map
def uc:=@List.getD_eq_getElem?_getD
def ud:=@List.flatMap_cons
def ue:=@Array.size_append
def uf:=@List.getElem_take
def ug:=@Int.toNat_natCast
def uh:=@Nat.add_comm
def ui:=@List.isEmpty_iff
def uj:=@Bool.true_or
def uk:=@List.countP_cons
def um:=@List.sum_append
def uo:=@List.range_succ
def uq:=@Nat.mul_add_mod
def ur:=@Bool.eq_iff_iff
def uu:=@List.all_append
namespace Go.Ab
abbrev eK:=Nat × Nat
inductive C where
 | v (x:Value)
 | uv (o sz:Nat) (rows:List (List C))
 | jN (cells:List C)
 | ref (id:Nat) (hops:List eK) (sz i k:Nat)
 | sl (id:Nat) (hops:List eK) (sz lo len:Nat) (full:Bool)
 | fn (f:FuncId) (first caps:List C)
 | mp (id:Nat)
 | agg (cs:List C)
 | u1 (vs:List C)
 | un
 | za
 | gl (id sz:Nat) (rows:List (List C))
 | eZ (t:TypeId) (c:C)
 | rc (o:Obj)
structure Ob where
 kind:Nat
 ty:TypeId
 sz:Nat
 rows:List (List C)
 fz:Nat:=0
abbrev zl:=List Ob
structure Env where
 n:Nat
 β:Nat->List eK->Nat
 κ:Nat->List eK->Nat
 St:Nat->Nat->Option Value
 G:Nat->Nat->Option Value:=fun _ _=>none
def Env.shut (E:Env):Env:={ E with n:=0 }
def Env.at (E:Env) (kd:Nat):Env:=if kd=2 then E.shut else E
inductive L:Env->C->Value->Prop
 | v {E:Env} (x:Value) (h:x.oneCell'=true):L E (.v x) x
 | uv {E:Env} (o sz:Nat) (rows:List (List C)) (b off cap:Nat) (us:Nat->Nat->Value) (ho:o=0∨o=1∧cap=rows.length) (hc:rows.length<=cap)
   (hsz:∀ r ∈ rows,r.length=sz)
   (hst:∀ (i:Nat) r (k:Nat) c,rows[i]?= some r->r[k]?= some c->E.St b (off+i * sz+k)=some (us i k))
   (hL:∀ (i:Nat) r (k:Nat) c,rows[i]?= some r->r[k]?= some c->L E.shut c (us i k)):
   L E (.uv o sz rows) (.slice (some ⟨b,off,none⟩) rows.length cap)
 | xt {E:Env} (o sz:Nat) (ho:o=0∨o=1) (a:Option Addr:=none):L E (.uv o sz []) (.slice a 0 0)
 | jN {E:Env} (cells:List C) (b off:Nat) (us:Nat->Value) (hst:∀ (k:Nat) c,cells[k]?= some c->E.St b (off+k)=some (us k))
   (hL:∀ (k:Nat) c,cells[k]?= some c->L E.shut c (us k)):L E (.jN cells) (.pointer (some ⟨b,off,none⟩))
 | ref {E:Env} (id:Nat) (hops:List eK) (sz i k:Nat) (hn:id < E.n):L E (.ref id hops sz i k) (.pointer (some ⟨E.β id hops,i * sz+k,none⟩))
 | sl {E:Env} (id:Nat) (hops:List eK) (sz lo len:Nat) (full:Bool) (cap:Nat) (hn:id < E.n) (hlen:len<=cap) (hf:full=true->cap=len) (hf':full=false->lo+cap=E.κ id hops):
   L E (.sl id hops sz lo len full) (.slice (some ⟨E.β id hops,lo * sz,none⟩) len cap)
 | fn {E:Env} (f:FuncId) (first caps:List C) (ys zs:Array Value) (h1:first.length=ys.size) (h2:caps.length=zs.size)
   (h3:∀ (i:Nat) c y,first[i]?= some c->ys[i]?= some y->L E c y) (h4:∀ (i:Nat) c y,caps[i]?= some c->zs[i]?= some y->L E c y):
   L E (.fn f first caps) (.func (.func f) ys zs)
 | mp {E:Env} (id:Nat) (hn:id < E.n):L E (.mp id) (.map (some (E.β id [])))
 | agg {E:Env} (cs:List C) (ys:Array Value) (h1:cs.length=ys.size) (h2:∀ (i:Nat) c y,cs[i]?= some c->ys[i]?= some y->L E c y) (h3:∀ y ∈ ys,y.oneCell'=true):L E (.agg cs) (.agg ys)
 | u1 {E:Env} (cs:List C) (ys:Array Value) (h1:cs.length=ys.size) (h2:∀ (i:Nat) c y,cs[i]?= some c->ys[i]?= some y->L E c y):L E (.u1 cs) (.tuple ys)
 | un {E:Env}:L E .un undef
 | za {E:Env} (y:Value):L E .za y
 | gl {E:Env} (id sz:Nat) (rows:List (List C)) (y:Value) (hn:id < E.n) (hg:E.G id rows.length=some y) (h:L E.shut (.uv 0 sz rows) y):L E (.gl id sz rows) y
 | eZ {E:Env} (t:TypeId) (c:C) (y:Value) (h:L E c y):L E (.eZ t c) (.iface t y)
structure Env.le (E E':Env):Prop where
 n:E.n<=E'.n
 β:∀ id hops,id < E.n->E'.β id hops=E.β id hops
 κ:∀ id hops,id < E.n->E'.κ id hops=E.κ id hops
 St:∀ b o u,E.St b o=some u->E'.St b o=some u
 G:∀ id k u,id < E.n->E.G id k=some u->E'.G id k=some u
def Env.le.refl (E:Env):E.le E:=⟨dW _,fun _ _ _=>rfl,fun _ _ _=>rfl,fun _ _ _ h=>h,fun _ _ _ _ h=>h⟩
def Env.le.trans {E E' E'':Env} (h:E.le E') (h':E'.le E''):E.le E'':=
 ⟨gW h.n h'.n,fun id hops hi=>(h'.β id hops (gU hi h.n)).trans (h.β id hops hi),fun id hops hi=>(h'.κ id hops (gU hi h.n)).trans (h.κ id hops hi),
  fun b o u hu=>h'.St b o u (h.St b o u hu),fun id k u hi hu=>h'.G id k u (gU hi h.n) (h.G id k u hi hu)⟩
def Env.B4 (E:Env):E.shut.le E:=⟨gA _,fun _ _ h=>absurd h (gN _),fun _ _ h=>absurd h (gN _),fun _ _ _ h=>h,fun _ _ _ h _=>absurd h (gN _)⟩
def Env.le.shut {E E':Env} (h:E.le E'):E.shut.le E'.shut:=⟨dW _,fun _ _ h=>absurd h (gN _),fun _ _ h=>absurd h (gN _),h.St,fun _ _ _ h _=>absurd h (gN _)⟩
def Env.le.at {E E':Env} (h:E.le E') (kd:Nat):(E.at kd).le (E'.at kd):=by unfold Env.at;split;exact h.shut;exact h
def Env.Mc (E:Env) (kd:Nat):(E.at kd).le E:=by unfold Env.at;split;exact E.B4;exact .refl E
def L.mono {E E':Env} (h:E.le E') {c:C} {y:Value} (hl:L E c y):L E' c y:=by
 induction hl generalizing E' with
 | v x hx=>exact .v x hx
 | uv o sz rows b off cap us ho hc hsz hst _ ih=>exact .uv o sz rows b off cap us ho hc hsz (fun i r k c h1 h2=>h.St _ _ _ (hst i r k c h1 h2)) (fun i r k c h1 h2=>ih i r k c h1 h2 h.shut)
 | xt o sz ho a=>exact .xt o sz ho a
 | jN cells b off us hst _ ih=>exact .jN cells b off us (fun k c h1=>h.St _ _ _ (hst k c h1)) (fun k c h1=>ih k c h1 h.shut)
 | ref id hops sz i k hn=>rw [<- h.β id hops hn];exact .ref id hops sz i k (gU hn h.n)
 | sl id hops sz lo len full cap hn hlen hf hf'=>
  rw [<- h.β id hops hn];exact .sl id hops sz lo len full cap (gU hn h.n) hlen hf (fun e=>by rw [h.κ id hops hn];exact hf' e)
 | fn f first caps ys zs h1 h2 _ _ ih1 ih2=>exact .fn f first caps ys zs h1 h2 (fun i c y e1 e2=>ih1 i c y e1 e2 h) (fun i c y e1 e2=>ih2 i c y e1 e2 h)
 | mp id hn=>rw [<- h.β id [] hn];exact .mp id (gU hn h.n)
 | agg cs ys h1 _ h3 ih=>exact .agg cs ys h1 (fun i c y e1 e2=>ih i c y e1 e2 h) h3
 | u1 cs ys h1 _ ih=>exact .u1 cs ys h1 (fun i c y e1 e2=>ih i c y e1 e2 h)
 | un=>exact .un
 | za y=>exact .za y
 | gl id sz rows y hn hg _ ih=>exact .gl id sz rows y (gU hn h.n) (h.G _ _ _ hn hg) (ih h.shut)
 | eZ t c y _ ih=>exact .eZ t c y (ih h)
def n5:C->Bool
 | .v _ | .uv .. | .jN _=>true
 | _=>false
def Bh:C->Bool
 | .agg cs=>cs.all n5
 | c=>n5 c
def jf:C->Bool
 | .fn _ first caps=>first.all Bh && caps.all Bh
 | c=>n5 c
def L.kJ {E:Env} {c:C} {y:Value} (h:L E c y) (hc:n5 c=true):L E.shut c y:=by
 cases h with
 | v x hx=>exact .v _ hx
 | uv o sz rows b off cap us ho h2 hsz hst hL=>exact .uv o sz rows b off cap us ho h2 hsz hst hL
 | xt o sz ho a=>exact .xt o sz ho a
 | jN cells b off us hst hL=>exact .jN cells b off us hst hL
 | _=>simp [n5] at hc
def L.Ln {E:Env} {c:C} {y:Value} (h:L E c y) (hc:Bh c=true):L E.shut c y:=by
 cases h with
 | agg cs ys h1 h2 h3=>
  refine .agg cs ys h1 (fun i c y e1 e2=>(h2 i c y e1 e2).kJ ?_) h3;exact dV.1 (show cs.all n5=true from hc) _ (dO e1)
 | v x hx=>exact (L.v (E:=E) _ hx).kJ hc
 | uv o sz rows b off cap us ho h2 hsz hst hL=>exact (L.uv (E:=E) o sz rows b off cap us ho h2 hsz hst hL).kJ hc
 | xt o sz ho a=>exact (L.xt (E:=E) o sz ho a).kJ hc
 | jN cells b off us hst hL=>exact (L.jN (E:=E) cells b off us hst hL).kJ hc
 | _=>simp [Bh,n5] at hc
def L.vL {E:Env} {c:C} {y:Value} (h:L E c y) (hc:jf c=true):L E.shut c y:=by
 cases h with
 | fn f first caps ys zs h1 h2 h3 h4=>
  have hc:(first.all Bh && caps.all Bh)=true:=hc;rw [dU] at hc;exact .fn f first caps ys zs h1 h2 (fun i c y e1 e2=>(h3 i c y e1 e2).Ln (dV.1 hc.1 _ (dO e1))) (fun i c y e1 e2=>(h4 i c y e1 e2).Ln (dV.1 hc.2 _ (dO e1)))
 | v x hx=>exact (L.v (E:=E) _ hx).kJ hc
 | uv o sz rows b off cap us ho h2 hsz hst hL=>exact (L.uv (E:=E) o sz rows b off cap us ho h2 hsz hst hL).kJ hc
 | xt o sz ho a=>exact (L.xt (E:=E) o sz ho a).kJ hc
 | jN cells b off us hst hL=>exact (L.jN (E:=E) cells b off us hst hL).kJ hc
 | _=>simp [jf,n5] at hc
def LL (E:Env) (cs:List C) (ys:List Value):Prop:=cs.length=ys.length∧∀ (i:Nat) c y,cs[i]?= some c->ys[i]?= some y->L E c y
def LL.mono {E E':Env} (h:E.le E') {cs:List C} {ys:List Value} (hl:LL E cs ys):LL E' cs ys:=
 ⟨hl.1,fun i c y h1 h2=>(hl.2 i c y h1 h2).mono h⟩
def LL.nil {E:Env}:LL E [] []:=⟨rfl,by simp⟩
def LL.cons {E:Env} {c:C} {y:Value} {cs:List C} {ys:List Value} (h:L E c y) (hl:LL E cs ys):LL E (c::cs) (y::ys):=by
 refine ⟨by simp [hl.1],?_⟩;intro i c' y' h1 h2;cases i with
 | zero=>simp at h1 h2;subst h1;subst h2;exact h
 | succ i=>simp at h1 h2;exact hl.2 i c' y' h1 h2
def LL.cons_inv {E:Env} {c:C} {y:Value} {cs:List C} {ys:List Value} (h:LL E (c::cs) (y::ys)):L E c y∧LL E cs ys:=
 ⟨h.2 0 c y rfl rfl,by simpa using h.1,fun i c' y' h1 h2=>h.2 (i+1) c' y' (by simpa using h1) (by simpa using h2)⟩
def LL.one {E:Env} {c:C} {y:Value} (h:L E c y):LL E [c] [y]:=LL.cons h LL.nil
def LL.append {E:Env} {cs cs':List C} {ys ys':List Value} (h:LL E cs ys) (h':LL E cs' ys'):LL E (cs++cs') (ys++ys'):=by
 refine ⟨by simp [h.1,h'.1],?_⟩;intro i c y h1 h2;by_cases hi:i < cs.length
 ·rw [dT hi] at h1;rw [dT (by rw [<- h.1];exact hi)] at h2;exact h.2 i c y h1 h2
 ·rw [gj (by omega)] at h1;rw [gj (by rw [<- h.1];omega),<- h.1] at h2;exact h'.2 _ c y h1 h2
def LL.get {E:Env} {cs:List C} {ys:List Value} (h:LL E cs ys) {i:Nat} {c:C} (hc:cs[i]?= some c):∃ y,ys[i]?= some y∧L E c y:=by
 have hi:i < ys.length:=by rw [<- h.1];exact (dL.1 hc).1
 exact ⟨ys[i],by simp [hi],h.2 i c ys[i] hc (by simp [hi])⟩
def LL.take {E:Env} {cs:List C} {ys:List Value} (h:LL E cs ys) (n:Nat):LL E (cs.take n) (ys.take n):=by
 refine ⟨by simp [h.1],?_⟩;intro i c y h1 h2;rw [gE] at h1 h2;split at h1
 ·rename_i hi;rw [dQ hi] at h2;exact h.2 i c y h1 h2
 ·cases h1
def LL.drop {E:Env} {cs:List C} {ys:List Value} (h:LL E cs ys) (n:Nat):LL E (cs.drop n) (ys.drop n):=by
 refine ⟨by simp [h.1],?_⟩;intro i c y h1 h2;rw [pA] at h1 h2;exact h.2 _ c y h1 h2
def LL.set {E:Env} {cs:List C} {ys:List Value} (h:LL E cs ys) {c:C} {y:Value} (hl:L E c y) (i:Nat):LL E (cs.set i c) (ys.set i y):=by
 refine ⟨by simp [h.1],?_⟩;intro j c' y' h1 h2;rw [dY] at h1 h2;by_cases hij:i=j
 ·subst hij;rw [dQ rfl] at h1 h2;split at h1
  ·split at h2
   ·cases h1;cases h2;exact hl
   ·cases h2
  ·cases h1
 ·rw [dN hij] at h1 h2;exact h.2 j c' y' h1 h2
def C.cells:C->List C
 | .agg cs=>cs
 | c=>[c]
def L.cells {E:Env} {c:C} {y:Value} (h:L E c y) (hj:c≠.za) (hu:c≠.un):LL E c.cells y.cells.toList:=by
 have one:∀ (c:C) (y:Value),L E c y->c.cells=[c]->y.cells= #[y]->LL E c.cells y.cells.toList:=fun c y h e1 e2=>by
  rw [e1,e2];exact LL.cons h LL.nil
 cases h with
 | v x hx=>exact one _ _ (.v _ hx) rfl (by cases y <;> simp_all [Value.cells,Value.oneCell'])
 | agg cs ys h1 h2 h3=>exact ⟨by simpa [C.cells,Value.cells] using h1,fun i c y e1 e2=>h2 i c y e1 (by simpa [Value.cells] using e2)⟩
 | un=>exact absurd rfl hu
 | za=>exact absurd rfl hj
 | u1 cs ys h1 h2=>exact one _ _ (.u1 cs ys h1 h2) rfl rfl
 | uv o sz rows b off cap us ho hc hsz hst hL=>exact one _ _ (.uv o sz rows b off cap us ho hc hsz hst hL) rfl rfl
 | xt o sz ho a=>exact one _ _ (.xt o sz ho a) rfl rfl
 | jN cells b off us hst hL=>exact one _ _ (.jN cells b off us hst hL) rfl rfl
 | ref id hops sz i k hn=>exact one _ _ (.ref id hops sz i k hn) rfl rfl
 | sl id hops sz lo len full cap hn hlen hf hf'=>exact one _ _ (.sl id hops sz lo len full cap hn hlen hf hf') rfl rfl
 | fn f first caps ys zs h1 h2 h3 h4=>exact one _ _ (.fn f first caps ys zs h1 h2 h3 h4) rfl rfl
 | mp id hn=>exact one _ _ (.mp id hn) rfl rfl
 | gl id sz rows y hn hg h=>exact one _ _ (.gl id sz rows y hn hg h) rfl (by cases h <;> rfl)
 | eZ t c y h=>exact one _ _ (.eZ t c y h) rfl rfl
def cellAt (rows:List (List C)) (i k:Nat):Option C:=(rows[i]?).bind (·[k]?)
def vA:Nat->List (List C)->List eK->Option (Nat × List (List C))
 | sz,rows,[]=>some (sz,rows)
 | _,rows,(i,k)::hs=>match cellAt rows i k with
  | some (.uv 2 sz' rows')=>vA sz' rows' hs
  | _=>none
def z6 (H:zl) (id:Nat) (hops:List eK):Option (Nat × List (List C)):=
 match H[id]? with
 | some ob=>if ob.kind=1∨ob.kind=2 then vA ob.sz ob.rows hops else none
 | none=>none
def qT (E:Env) (kd:Nat) (id:Nat) (hops:List eK) (i k:Nat) (c:C) (u:Value):Prop:=
 match c with
 | .uv 2 _ rows'=>u=.slice (some ⟨E.β id (hops++[(i,k)]),0,none⟩) rows'.length (E.κ id (hops++[(i,k)]))
 | c=>L (E.at kd) c u∧u.oneCell'=true
structure A3 (w:World) (E:Env) (kd:Nat) (id:Nat) (hops:List eK) (sz:Nat) (rows:List (List C)):Prop where
 len:rows.length<=E.κ id hops
 row:∀ r ∈ rows,r.length=sz
 u9:∃ cur e,w.heap[E.β id hops]?= some (.cells cur e (0,0))∧cur.size=E.κ id hops * sz∧
  ∀ i k c,cellAt rows i k=some c->∃ u,cur[i * sz+k]?= some u∧qT E kd id hops i k c u
structure qd (w:World) (E:Env) (H:zl):Prop where
 n:E.n=H.length
 u9:∀ id ob hops sz rows,H[id]?= some ob->z6 H id hops=some (sz,rows)->A3 w E ob.kind id hops sz rows
 inj:∀ id hops id' hops' x y,z6 H id hops=some x->z6 H id' hops'=some y->E.β id hops=E.β id' hops'->id=id'∧hops=hops'
 qs:∀ b o u,E.St b o=some u->w.cell? ⟨b,o,none⟩=some u∧u.oneCell'=true
 sep:∀ id hops x o u,z6 H id hops=some x->E.St (E.β id hops) o=some u->hops=[]∧∃ ob,H[id]?= some ob∧o < ob.fz * ob.sz
 ty:∀ id ob,H[id]?= some ob->ob.kind=2->∃ cur,w.heap[E.β id []]?= some (.cells cur ob.ty (0,0))
 fz:∀ (id:Nat) (ob:Ob),H[id]?= some ob->ob.fz<=ob.rows.length
structure S where
 tmps:List C
 H:zl
def jb (E:Env) (H:zl) (b:Nat):Prop:=∃ id hops x,z6 H id hops=some x∧E.β id hops=b
structure qB (w:World) (E:Env) (H:zl) (w':World) (E':Env) (H':zl):Prop where
 le:E.le E'
 Cr:∀ (id k:Nat),id < E.n->E'.G id k=E.G id k
 os:w'.os=w.os
 tape:w'.tape=w.tape
 output:w'.output=w.output
 size:w.heap.size<=w'.heap.size
 frame:∀ k,k < w.heap.size->¬jb E H k->w'.heap[k]?= w.heap[k]?
 jK:∀ b o u,E'.St b o=some u->E.St b o=some u∨w.heap.size<=b∨jb E H b
 own:∀ b,jb E' H' b->w.heap.size<=b∨jb E H b
def qB.refl (w:World) (E:Env) (H:zl):qB w E H w E H:=
 ⟨Env.le.refl E,fun _ _ _=>rfl,rfl,rfl,rfl,dW _,fun _ _ _=>rfl,fun _ _ _ h=>.inl h,fun _ h=>.inr h⟩
def qB.trans {w w1 w2:World} {E E1 E2:Env} {H H1 H2:zl} (g:qB w E H w1 E1 H1) (h:qB w1 E1 H1 w2 E2 H2):qB w E H w2 E2 H2 where
 le:=g.le.trans h.le
 Cr id k hi:=(h.Cr id k (gU hi g.le.n)).trans (g.Cr id k hi)
 os:=h.os.trans g.os
 tape:=h.tape.trans g.tape
 output:=h.output.trans g.output
 size:=gW g.size h.size
 frame k hk ho:=(h.frame k (gU hk g.size) fun hc=>(g.own k hc).elim (fun hs=>by omega) ho).trans (g.frame k hk ho)
 jK b o u hu:=by
  rcases h.jK b o u hu with h1 | h1 | h1
  ·exact g.jK b o u h1
  ·exact .inr (.inl (gW g.size h1))
  ·rcases g.own b h1 with h2 | h2
   ·exact .inr (.inl h2)
   ·exact .inr (.inr h2)
 own b hb:=by
  rcases h.own b hb with h1 | h1
  ·exact .inl (gW g.size h1)
  ·exact g.own b h1
def qE (E:Env) (H:zl) (id b:Nat):Prop:=∃ ob cap,H[id]?= some ob∧ob.kind=4∧E.G id ob.rows.length=some (.slice (some ⟨b,0,none⟩) ob.rows.length cap)∧cap≠ob.rows.length
def jz (H:zl) (id b:Nat):Prop:=∃ ob o t,H[id]?= some ob∧ob.kind=4∧(ob.rows=[.rc o::t]∧ob.fz=1)∧ob.ty=b
def B5:Obj->Bool
 | .loop _=>true
 | .map ..=>true
 | .mapIter ..=>true
 | _=>false
def Hh:Obj->List Value
 | .loop r=>r.tmps.toList
 | _=>[]
def iH (E:Env) (t:List C) (o:Obj):Prop:=LL E t (Hh o)∨∃ es k,o=.map es k∧LL E t (es.toList.map (·.val))
def iH.map {E E':Env} {t:List C} {o:Obj} (h:iH E t o) (hf:∀ ys,LL E t ys->LL E' t ys):iH E' t o:=h.imp (hf _) fun ⟨es,k,e,hl⟩=>⟨es,k,e,hf _ hl⟩
def iH.mono {E E':Env} {t:List C} {o:Obj} (h:iH E t o) (hle:E.le E'):iH E' t o:=h.map fun _ hl=>hl.mono hle
def iH.loop {E:Env} {t:List C} {r:Loop} (h:iH E t (.loop r)):LL E t r.tmps.toList:=h.elim id fun ⟨_,_,e,_⟩=>by cases e
def qd.Ci {w:World} {E:Env} {H:zl} {b:Nat} (h:qd w E H) (ho:jb E H b):∃ cur e,w.heap[b]?= some (.cells cur e (0,0)):=by
 obtain ⟨id,hops,x,hx,rfl⟩:=ho;have hx':=hx;unfold z6 at hx';split at hx'
 ·rename_i ob hob;obtain ⟨cur,e,h1,_⟩:=(h.u9 id ob hops x.1 x.2 hob hx).u9;exact ⟨cur,e,h1⟩
 ·cases hx'
structure iZ (w:World) (E:Env) (H:zl):Prop where
 val:∀ (id:Nat) (ob:Ob),H[id]?= some ob->ob.kind=4->∃ a cap,E.G id ob.rows.length=some (.slice a ob.rows.length cap)∧(cap=ob.rows.length∨∃ b,a=some ⟨b,0,none⟩∧ob.rows.length<=cap)
 u9:∀ (id b:Nat) (ob:Ob),qE E H id b->H[id]?= some ob->∃ cur cap,E.G id ob.rows.length=some (.slice (some ⟨b,0,none⟩) ob.rows.length cap)∧w.heap[b]?= some (.cells cur ob.ty (0,0))∧cur.size=cap * ob.sz
 sep:∀ id b,qE E H id b->¬jb E H b
 inj:∀ id id' b,qE E H id b->qE E H id' b->id=id'
 st:∀ (id b:Nat) (ob:Ob) o u,qE E H id b->H[id]?= some ob->E.St b o=some u->o < ob.rows.length * ob.sz
 top:∀ (id:Nat) (ob:Ob) (k:Nat) u,H[id]?= some ob->ob.kind=4->E.G id k=some u->k<=ob.rows.length
 fy:∀ (id:Nat) (ob:Ob) (o:Obj) (t:List C),H[id]?= some ob->ob.kind=4->(ob.rows=[.rc o::t]∧ob.fz=1)->(w.heap[ob.ty]?= some o∧B5 o=true)∧iH E t o
 wF:∀ id id' b,jz H id b->jz H id' b->id=id'
def jD (H H':zl):Prop:=∀ (id:Nat) (ob:Ob),ob.kind=4->(H'[id]?= some ob↔H[id]?= some ob)
def jD.refl (H:zl):jD H H:=fun _ _ _=>Iff.rfl
structure qu (w:World) (E:Env) (H:zl):Prop where
 base:qd w E H
 uy:iZ w E H
def qu.n {w:World} {E:Env} {H:zl} (h:qu w E H):E.n=H.length:=h.base.n
def xg (E:Env) (H:zl) (b:Nat):Prop:=jb E H b∨∃ id,(qE E H id b∨jz H id b)
structure Grow (w:World) (E:Env) (H:zl) (w':World) (E':Env) (H':zl):Prop where
 le:E.le E'
 os:w'.os=w.os
 tape:w'.tape=w.tape
 output:w'.output=w.output
 size:w.heap.size<=w'.heap.size
 frame:∀ k,k < w.heap.size->¬xg E H k->w'.heap[k]?= w.heap[k]?
 jK:∀ b o u,E'.St b o=some u->E.St b o=some u∨w.heap.size<=b∨xg E H b
 own:∀ b,xg E' H' b->w.heap.size<=b∨xg E H b
def Grow.refl (w:World) (E:Env) (H:zl):Grow w E H w E H:=
 ⟨Env.le.refl E,rfl,rfl,rfl,dW _,fun _ _ _=>rfl,fun _ _ _ h=>.inl h,fun _ h=>.inr h⟩
def Grow.trans {w w1 w2:World} {E E1 E2:Env} {H H1 H2:zl} (g:Grow w E H w1 E1 H1) (h:Grow w1 E1 H1 w2 E2 H2):Grow w E H w2 E2 H2 where
 le:=g.le.trans h.le
 os:=h.os.trans g.os
 tape:=h.tape.trans g.tape
 output:=h.output.trans g.output
 size:=gW g.size h.size
 frame k hk ho:=(h.frame k (gU hk g.size) fun hc=>(g.own k hc).elim (fun hs=>by omega) ho).trans (g.frame k hk ho)
 jK b o u hu:=by
  rcases h.jK b o u hu with h1 | h1 | h1
  ·exact g.jK b o u h1
  ·exact .inr (.inl (gW g.size h1))
  ·rcases g.own b h1 with h2 | h2
   ·exact .inr (.inl h2)
   ·exact .inr (.inr h2)
 own b hb:=by
  rcases h.own b hb with h1 | h1
  ·exact .inl (gW g.size h1)
  ·exact g.own b h1
def qE.back {w:World} {E E':Env} {H H':zl} (hg:iZ w E H) (hn:E.n=H.length) (hle:E.le E') (hk:jD H H') {id b:Nat} (h:qE E' H' id b):qE E H id b:=by
 obtain ⟨ob,cap,h1,h2,h3,h4⟩:=h;have h1':=(hk id ob h2).1 h1;obtain ⟨a,cap',e1,_⟩:=hg.val id ob h1' h2;have e2:=hle.G id ob.rows.length _ (by rw [hn];exact (dL.1 h1').1) e1;rw [h3] at e2;cases e2
 exact ⟨ob,cap,h1',h2,e1,h4⟩
def jz.back {H H':zl} (hk:jD H H') {id b:Nat} (h:jz H' id b):jz H id b:=by
 obtain ⟨ob,r,t,h1,h2,h3⟩:=h;exact ⟨ob,r,t,(hk id ob h2).1 h1,h2,h3⟩
def iZ.step {w w':World} {E E':Env} {H H':zl} (h:qu w E H) (g:qB w E H w' E' H') (hk:jD H H'):iZ w' E' H' where
 val id ob hob hkd:=by
  have hob':=(hk id ob hkd).1 hob;obtain ⟨a,cap,e1,e2⟩:=h.uy.val id ob hob' hkd;exact ⟨a,cap,g.le.G id ob.rows.length _ (by rw [h.n];exact (dL.1 hob').1) e1,e2⟩
 u9 id b ob ho hob:=by
  have ho':=ho.back h.uy h.n g.le hk;obtain ⟨ob2,_,e1,e2,_⟩:=ho;rw [hob] at e1;cases e1
  have hob':=(hk id ob e2).1 hob;obtain ⟨cur,cap,e3,e4,e5⟩:=h.uy.u9 id b ob ho' hob';refine ⟨cur,cap,g.le.G id ob.rows.length _ (by rw [h.n];exact (dL.1 hob').1) e3,?_,e5⟩;rw [g.frame b (gf.1 e4).1 (h.uy.sep id b ho')];exact e4
 sep id b ho:=by
  have ho':=ho.back h.uy h.n g.le hk;intro hc;rcases g.own b hc with h1 | h1
  ·obtain ⟨ob,_,e1,_⟩:=ho';obtain ⟨cur,cap,e3,e4,e5⟩:=h.uy.u9 id b ob (ho.back h.uy h.n g.le hk) e1;have:=(gf.1 e4).1;omega
  ·exact h.uy.sep id b ho' h1
 inj id id' b h1 h2:=h.uy.inj id id' b (h1.back h.uy h.n g.le hk) (h2.back h.uy h.n g.le hk)
 st id b ob o u ho hob hu:=by
  have ho':=ho.back h.uy h.n g.le hk;obtain ⟨ob2,_,e1,e2,_⟩:=ho;rw [hob] at e1;cases e1
  have hob':=(hk id ob e2).1 hob;rcases g.jK b o u hu with h1 | h1 | h1
  ·exact h.uy.st id b ob o u ho' hob' h1
  ·obtain ⟨cur,cap,e3,e4,e5⟩:=h.uy.u9 id b ob ho' hob';have:=(gf.1 e4).1;omega
  ·exact absurd h1 (h.uy.sep id b ho')
 top id ob k u hob hkd hu:=by
  have hob':=(hk id ob hkd).1 hob;rw [g.Cr id k (by rw [h.n];exact (dL.1 hob').1)] at hu;exact h.uy.top id ob k u hob' hkd hu
 fy id ob r t hob hkd hr:=by
  obtain ⟨⟨h1,hf⟩,hl⟩:=h.uy.fy id ob r t ((hk id ob hkd).1 hob) hkd hr;refine ⟨⟨?_,hf⟩,hl.mono g.le⟩;rw [g.frame ob.ty (gf.1 h1).1 fun hc=>by obtain ⟨cur,e,h2⟩:=h.base.Ci hc;rw [h1] at h2;cases h2;cases hf];exact h1
 wF id id' b h1 h2:=h.uy.wF id id' b (h1.back hk) (h2.back hk)
def qB.up {w w':World} {E E':Env} {H H':zl} (h:qu w E H) (g:qB w E H w' E' H') (hk:jD H H'):Grow w E H w' E' H' where
 le:=g.le
 os:=g.os
 tape:=g.tape
 output:=g.output
 size:=g.size
 frame k h1 h2:=g.frame k h1 fun hc=>h2 (.inl hc)
 jK b o u hu:=(g.jK b o u hu).imp_right fun h=>h.imp_right .inl
 own b hb:=by
  rcases hb with hb | ⟨id,hb | hb⟩
  ·exact (g.own b hb).imp_right .inl
  ·exact .inr (.inr ⟨id,.inl (hb.back h.uy h.n g.le hk)⟩)
  ·exact .inr (.inr ⟨id,.inr (hb.back hk)⟩)
abbrev o7 (D:Nat):Deferred:={ target:=.collected D,args:= #[] }
def Marks (m:Nat) (w:World):List Deferred->Prop
 | []=>m<=w.heap.size
 | d::ds=>(∃ D,d=o7 D∧m<=D∧w.heap[D]?= some (.deferred (some []))∧o7 D ∉ ds)∧Marks m w ds
def Marks.mono {m:Nat} {w w':World} (hsz:w.heap.size<=w'.heap.size):∀ {ds:List Deferred},Marks m w ds->(∀ D,o7 D ∈ ds->w.heap[D]?= some (.deferred (some []))->w'.heap[D]?= w.heap[D]?)->Marks m w' ds
 | [],h,_=>gW h hsz
 | d::ds,⟨⟨D,h1,h2,h3,h4⟩,ht⟩,hk=>⟨⟨D,h1,h2,(hk D (by rw [h1];exact pz ..) h3).trans h3,h4⟩,Marks.mono hsz ht fun D' hm hd=>hk D' (pj _ hm) hd⟩
def Marks.le {m:Nat} {w:World}:∀ {ds:List Deferred},Marks m w ds->m<=w.heap.size
 | [],h=>h
 | _::_,⟨_,h⟩=>Marks.le h
def qu.free {w:World} {E:Env} {H:zl} {D:Nat} {ds:Option (List Deferred)} (h:qu w E H) (hd:w.heap[D]?= some (.deferred ds)):¬xg E H D:=by
 rintro (ho | ⟨id,⟨ob,cap,hob,h4,hG,hne⟩ | ⟨ob,r,t,hob,h4,hr,rfl⟩⟩)
 ·obtain ⟨cur,e,h1⟩:=h.base.Ci ho;rw [hd] at h1;cases h1
 ·obtain ⟨cur,cap',_,h1,_⟩:=h.uy.u9 id D ob ⟨ob,cap,hob,h4,hG,hne⟩ hob;rw [hd] at h1;cases h1
 ·obtain ⟨h1,hf⟩:=(h.uy.fy id ob r t hob h4 hr).1;rw [hd] at h1;cases h1
  cases hf
def Marks.grow {m:Nat} {w w':World} {E E':Env} {H H':zl} {ds:List Deferred} (h:Marks m w ds) (hh:qu w E H) (g:Grow w E H w' E' H'):Marks m w' ds:=
 Marks.mono g.size h fun D _ hD=>g.frame D (gf.1 hD).1 (hh.free hD)
def qu.cells {w w':World} {E:Env} {H:zl} (hk:∀ (k:Nat) (o:Obj),w.heap[k]?= some o->(∀ ds,o≠.deferred ds)->w'.heap[k]?= w.heap[k]?) (h:qu w E H):qu w' E H where
 base:={
  n:=h.base.n
  u9:=fun id ob hops sz rows e1 e2=>
   let b:=h.base.u9 id ob hops sz rows e1 e2
   ⟨b.len,b.row,let ⟨cur,e,h1,h2⟩:=b.u9;⟨cur,e,(hk _ _ h1 (by simp)).trans h1,h2⟩⟩
  inj:=h.base.inj
  qs:=fun b o u hu=>by
   obtain ⟨h1,h2⟩:=h.base.qs b o u hu;refine ⟨?_,h2⟩;unfold World.cell? at h1 ⊢;split at h1
   ·rename_i c t z hc;rw [hk _ _ hc (by simp),hc];exact h1
   ·cases h1
  sep:=h.base.sep
  ty:=fun id ob e1 e2=>let ⟨cur,h1⟩:=h.base.ty id ob e1 e2;⟨cur,(hk _ _ h1 (by simp)).trans h1⟩
  fz:=h.base.fz }
 uy:={
  val:=h.uy.val
  u9:=fun id b ob e1 e2=>let ⟨cur,cap,h1,h2,h3⟩:=h.uy.u9 id b ob e1 e2;⟨cur,cap,h1,(hk _ _ h2 (by simp)).trans h2,h3⟩
  sep:=h.uy.sep
  inj:=h.uy.inj
  st:=h.uy.st
  top:=h.uy.top
  fy:=fun id ob r t e1 e2 e3=>let h1:=h.uy.fy id ob r t e1 e2 e3;⟨⟨(hk _ _ h1.1.1 (by intro ds e;have:=h1.1.2;rw [e] at this;cases this)).trans h1.1.1,h1.1.2⟩,h1.2⟩
  wF:=h.uy.wF }
structure xN (B m:Nat) (w:World) (E:Env) (s:S) (a:Act):Prop where
 heap:qu w E s.H
 tmps:LL E s.tmps a.tmps.toList
 defers:Marks m w a.defers
 base:B<=s.H.length
structure Env.mR (B:Nat) (E E':Env):Prop where
 β:∀ id hops,id < B->E'.β id hops=E.β id hops
 κ:∀ id hops,id < B->E'.κ id hops=E.κ id hops
 St:∀ b o u,E.St b o=some u->E'.St b o=some u
 G:∀ id k u,id < B->E.G id k=some u->E'.G id k=some u
def Env.mR.refl (B:Nat) (E:Env):E.mR B E:=⟨fun _ _ _=>rfl,fun _ _ _=>rfl,fun _ _ _ h=>h,fun _ _ _ _ h=>h⟩
def Env.mR.trans {B:Nat} {E E' E'':Env} (h:E.mR B E') (h':E'.mR B E''):E.mR B E'':=
 ⟨fun id hops hi=>(h'.β id hops hi).trans (h.β id hops hi),fun id hops hi=>(h'.κ id hops hi).trans (h.κ id hops hi),fun b o u hu=>h'.St b o u (h.St b o u hu),fun id k u hi hu=>h'.G id k u hi (h.G id k u hi hu)⟩
def Env.le.fA {B:Nat} {E E':Env} (h:E.le E') (hB:B<=E.n):E.mR B E':=
 ⟨fun id hops hi=>h.β id hops (gU hi hB),fun id hops hi=>h.κ id hops (gU hi hB),h.St,fun id k u hi=>h.G id k u (gU hi hB)⟩
structure jA (B:Nat) (w:World) (E:Env) (H:zl) (w':World) (E':Env) (H':zl):Prop where
 le:E.mR B E'
 os:w'.os=w.os
 tape:w'.tape=w.tape
 output:w'.output=w.output
 size:w.heap.size<=w'.heap.size
 frame:∀ k,k < w.heap.size->¬xg E H k->w'.heap[k]?= w.heap[k]?
 jK:∀ b o u,E'.St b o=some u->E.St b o=some u∨w.heap.size<=b∨xg E H b
 own:∀ b,xg E' H' b->w.heap.size<=b∨xg E H b
def Grow.fA {B:Nat} {w w':World} {E E':Env} {H H':zl} (g:Grow w E H w' E' H') (hB:B<=E.n):jA B w E H w' E' H':=
 ⟨g.le.fA hB,g.os,g.tape,g.output,g.size,g.frame,g.jK,g.own⟩
def jA.refl (B:Nat) (w:World) (E:Env) (H:zl):jA B w E H w E H:=
 ⟨Env.mR.refl B E,rfl,rfl,rfl,dW _,fun _ _ _=>rfl,fun _ _ _ h=>.inl h,fun _ h=>.inr h⟩
def jA.trans {B:Nat} {w w1 w2:World} {E E1 E2:Env} {H H1 H2:zl} (g:jA B w E H w1 E1 H1) (h:jA B w1 E1 H1 w2 E2 H2):jA B w E H w2 E2 H2 where
 le:=g.le.trans h.le
 os:=h.os.trans g.os
 tape:=h.tape.trans g.tape
 output:=h.output.trans g.output
 size:=gW g.size h.size
 frame k hk ho:=(h.frame k (gU hk g.size) fun hc=>(g.own k hc).elim (fun hs=>by omega) ho).trans (g.frame k hk ho)
 jK b o u hu:=by
  rcases h.jK b o u hu with h1 | h1 | h1
  ·exact g.jK b o u h1
  ·exact .inr (.inl (gW g.size h1))
  ·rcases g.own b h1 with h2 | h2
   ·exact .inr (.inl h2)
   ·exact .inr (.inr h2)
 own b hb:=by
  rcases h.own b hb with h1 | h1
  ·exact .inl (gW g.size h1)
  ·exact g.own b h1
def fw (q:Option Nat):Fence:={ Fence.wide with round:=q }
def xw:Code->Bool
 | .seq a b=>xw a || xw b
 | .cond _ a b=>xw a || xw b
 | .block _ a=>xw a
 | .loop a=>xw a
 | .scope a=>xw a
 | .rangeFunc ..=>true
 | _=>false
def qW (P:Program) (B:Nat) (c:Code) (s:S) (R:Exit->S->Prop):Prop:=
 ∀ (q:Option Nat) (m:Nat) (w:World) (E:Env) (a:Act) (Q:Exit->Act->World->Prop),(xw c=true->q=none)->xN B m w E s a->
  (∀ ex s' w' E' a',R ex s'->xN B m w' E' s' a'->jA B w E s.H w' E' s'.H->Q ex a' w')->c.wpIn (fw q) 0 P Q a w
abbrev Run (P:Program) (B:Nat) (c:Code) (s:S) (ex:Exit) (s':S):Prop:=qW P B c s fun e t=>e=ex∧t=s'
def iz (P:Program) (B:Nat) (c:Code) (n:Nat) (s:S) (R:Exit->S->Prop):Prop:=
 ∀ (q:Option Nat) (m:Nat) (w:World) (E:Env) (a:Act) (Q:Exit->Act->World->Prop),(xw c=true->q=none)->xN B m w E s a->
  (∀ ex s' w' E' a',R ex s'->xN B m w' E' s' a'->jA B w E s.H w' E' s'.H->Q ex a' w')->Code.roundsIn (fw q) 0 P c Q n a w
def kY (P:Program) (B:Nat) (ops:Array Oper) (l:List Oper) (s:S) (R:S->Prop):Prop:=
 ∀ (q:Option Nat) (m:Nat) (w:World) (E:Env) (a:Act) (Q:Exit->Act->World->Prop),xN B m w E s a->
  (∀ s' w' E' a',R s'->xN B m w' E' s' a'->jA B w E s.H w' E' s'.H->Q .normal a' w')->wpListIn (fw q) 0 P ops Q l a w
def nD (P:Program) (B:Nat) (o:Oper) (s:S) (R:S->Prop):Prop:=
 ∀ (q:Option Nat) (m:Nat) (w:World) (E:Env) (a:Act) (K:Act->World->Prop) (Q:Exit->Act->World->Prop),xN B m w E s a->
  (∀ s' w' E' a',R s'->xN B m w' E' s' a'->jA B w E s.H w' E' s'.H->K a' w')->o.wpIn (fw q) 0 P a w K Q
def zo (B:Nat) (s s':S):Prop:=
 ∀ (m:Nat) (w:World) (E:Env) (a:Act),xN B m w E s a->∃ E',xN B m w E' s' a∧jA B w E s.H w E' s'.H
def I4 {F:Fence} {k:Nat} {P:Program} {c:Code} {Q:Exit->Act->World->Prop}:∀ {n m:Nat},n<=m->∀ {a:Act} {w:World},Code.roundsIn F k P c Q n a w->Code.roundsIn F k P c Q m a w
 | 0,_,_,_,_,h=>(h:False).elim
 | n+1,0,hm,_,_,_=>absurd hm (Nat.not_succ_le_zero n)
 | n+1,m+1,hm,a,w,h=>by
  rw [roundsIn_succ] at h ⊢;refine wpIn_mono h fun e a1 w1 h1=>?_
  cases e with
  | normal=>exact I4 (Nat.le_of_succ_le_succ hm) h1
  | _=>exact h1
section scopes
variable {F:Fence} {n:Nat} {P:Program} {b:Frame} {a:Act} {k:List Item} {cs:List Frame} {w:World} {Q:Exit->Act->World->Prop}
def xS {c:Code}:step P (lone (b.atR a (.code (.scope c)::k)) cs w)=.next (lone (b.atR a (.code c:: .inScope c::k)) cs w):=
 step_lone_go (by simp [stepG,stepG.exec,Frame.atR])
def Ih {c:Code}:step P (lone (b.atR a (.inScope c::k)) cs w)=.next (lone (b.atR a k) cs w):=
 step_lone_go (by simp [stepG,stepG.exec,Frame.atR])
def M1 {c:Code} (h:c.wpIn F n P (Exit.noGoto Q) a w):(Code.scope c).wpIn F n P Q a w:=by
 intro b k cs hro hb hr;have h0:(lone (b.atR a (.code (.scope c)::k)) cs w).fenced P F:=fenced_calm hb hr rfl;obtain ⟨e,a₁,w₁,hq,harr⟩:=h b (.inScope c::k) cs hro hb hr;cases e with
 | normal=>exact ⟨.normal,a₁,w₁,hq,.head h0 xS (StepsIn.trans harr (.one (fenced_calm hb hr rfl) Ih))⟩
 | exit id=>
  have hx:exitTo id (.inScope c::k)=exitTo id k:=by simp [exitTo]
  exact ⟨.exit id,a₁,w₁,hq,fun k' hk=>.head h0 xS (harr.1 k' (by rw [hx];exact hk)),
   fun hr' hk=>let ⟨k₁,h1,h2⟩:=harr.2 hr' (by rw [hx];exact hk);⟨k₁,h1,.head h0 xS h2⟩⟩
 | goto l=>exact hq.elim
 | ret=>exact ⟨_,a₁,w₁,hq,.of_steps (.one h0 xS) harr⟩
 | panic ch=>exact ⟨_,a₁,w₁,hq,.of_steps (.one h0 xS) harr⟩
 | outgrown=>exact ⟨_,a₁,w₁,hq,.of_steps (.one h0 xS) harr⟩
inductive Cg (F:Fence) (n:Nat) (P:Program) (c:Code) (Q:Exit->Act->World->Prop):Nat->Act->World->Prop
 | mk {l:Nat} {a:Act} {w:World} {rest:Code} (Q':Exit->Act->World->Prop):findLabel c l=some rest->rest.wpIn F n P Q' a w->(∀ e a w,Q' e a w->(∀ l,e≠.goto l)->Q e a w)->
   (∀ l a w,Q' (.goto l) a w->Cg F n P c Q l a w)->Cg F n P c Q l a w
def Ie {c:Code} {m:Machine} {e:Exit} (hb:F.fn b.fn) (hr:F.room (cs.length+1+n)) (he:∀ l,e≠.goto l) (h:ArrivesIn (Machine.fenced P F) P m b (.inScope c::k) cs e a w):ArrivesIn (Machine.fenced P F) P m b k cs e a w:=by
 cases e with
 | normal=>exact StepsIn.trans h (.one (fenced_calm hb hr rfl) Ih)
 | exit id=>
  have hx:exitTo id (.inScope c::k)=exitTo id k:=by simp [exitTo]
  exact ⟨fun k' hk=>h.1 k' (by rw [hx];exact hk),fun hr' hk=>h.2 hr' (by rw [hx];exact hk)⟩
 | goto l=>exact absurd rfl (he l)
 | ret=>exact h
 | panic ch=>exact h
 | outgrown=>exact h
def Nf {c:Code} {Q':Exit->Act->World->Prop} (h:c.wpIn F n P Q' a w) (hQ:∀ e a w,Q' e a w->(∀ l,e≠.goto l)->Q e a w) (hJ:∀ l a w,Q' (.goto l) a w->Cg F n P c Q l a w):(Code.scope c).wpIn F n P Q a w:=by
 intro b k cs hro hb hr;have h0:(lone (b.atR a (.code (.scope c)::k)) cs w).fenced P F:=fenced_calm hb hr rfl
 have key:∀ l a w,Cg F n P c Q l a w->∀ rest,findLabel c l=some rest->∃ e a' w',Q e a' w'∧ArrivesIn (Machine.fenced P F) P (lone (b.atR a (.code rest:: .inScope c::k)) cs w) b k cs e a' w':=by
  intro l a w hj
  induction hj with
  | mk Q1 hf h1 h2 h3 ih=>
   intro rest hf';rw [hf] at hf';cases hf'
   obtain ⟨e,a₁,w₁,hq,harr⟩:=h1 b (.inScope c::k) cs hro hb hr;by_cases he:∀ l,e≠.goto l
   ·exact ⟨e,a₁,w₁,h2 _ _ _ hq he,Ie hb hr he harr⟩
   ·obtain ⟨l',rfl⟩:∃ l',e=.goto l':=by
     cases e with
     | goto l'=>exact ⟨l',rfl⟩
     | _=>exact absurd (by simp) he
    have hj:=h3 _ _ _ hq;cases hj with
    | mk Q2 hf2 _ _ _=>
     obtain ⟨e₂,a₂,w₂,hq₂,harr₂⟩:=ih _ _ _ hq _ hf2;exact ⟨e₂,a₂,w₂,hq₂,.of_steps (harr.1 _ (by simp [gotoIn,hf2])) harr₂⟩
 obtain ⟨e,a₁,w₁,hq,harr⟩:=h b (.inScope c::k) cs hro hb hr;by_cases he:∀ l,e≠.goto l
 ·exact ⟨e,a₁,w₁,hQ _ _ _ hq he,.of_steps (.one h0 xS) (Ie hb hr he harr)⟩
 ·obtain ⟨l',rfl⟩:∃ l',e=.goto l':=by
   cases e with
   | goto l'=>exact ⟨l',rfl⟩
   | _=>exact absurd (by simp) he
  have hj:=hJ _ _ _ hq;have hj':=hj;cases hj' with
  | mk Q2 hf2 _ _ _=>
   obtain ⟨e₂,a₂,w₂,hq₂,harr₂⟩:=key _ _ _ hj _ hf2;exact ⟨e₂,a₂,w₂,hq₂,.of_steps (.head h0 xS (harr.1 _ (by simp [gotoIn,hf2]))) harr₂⟩
end scopes
section
variable {P:Program} {B:Nat} {s s1 s2 s':S} {ex:Exit}
def zo.refl (s:S):zo B s s:=fun m w E a h=>⟨E,h,jA.refl B w E s.H⟩
def zo.trans (h:zo B s s1) (h':zo B s1 s2):zo B s s2:=fun m w E a hs=>by
 obtain ⟨E1,h1,g1⟩:=h m w E a hs;obtain ⟨E2,h2,g2⟩:=h' m w E1 a h1;exact ⟨E2,h2,g1.trans g2⟩
variable {R R':Exit->S->Prop}
def qW.pre {c:Code} (hw:zo B s s1) (h:qW P B c s1 R):qW P B c s R:=fun q m w E a Q hr hs hq=>by
 obtain ⟨E1,h1,g1⟩:=hw m w E a hs;exact h q m w E1 a Q hr h1 fun ex s' w' E' a' hR h2 g2=>hq ex s' w' E' a' hR h2 (g1.trans g2)
def qW.post {c:Code} (h:qW P B c s R') (hw:∀ ex s1,R' ex s1->∃ s2,zo B s1 s2∧R ex s2):qW P B c s R:=fun q m w E a Q hr hs hq=>
 h q m w E a Q hr hs fun ex s1 w' E' a' hR h1 g1=>by
  obtain ⟨s2,hw2,hR2⟩:=hw ex s1 hR;obtain ⟨E2,h2,g2⟩:=hw2 m w' E' a' h1;exact hq ex s2 w' E2 a' hR2 h2 (g1.trans g2)
def qW.mono {c:Code} (h:qW P B c s R') (hw:∀ ex s1,R' ex s1->R ex s1):qW P B c s R:=h.post fun ex s1 hR=>⟨s1,.refl s1,hw ex s1 hR⟩
def iz.pre {c:Code} {n:Nat} (hw:zo B s s1) (h:iz P B c n s1 R):iz P B c n s R:=fun q m w E a Q hr hs hq=>by
 obtain ⟨E1,h1,g1⟩:=hw m w E a hs;exact h q m w E1 a Q hr h1 fun ex s' w' E' a' hR h2 g2=>hq ex s' w' E' a' hR h2 (g1.trans g2)
def qW.skip (h:R .normal s):qW P B .skip s R:=fun q m w E a Q hr hs hq=>wpIn_skip (hq _ _ w E a h hs (jA.refl B w E s.H))
def qW.exit (id:Nat) (h:R (.exit id) s):qW P B (.exit id) s R:=fun q m w E a Q hr hs hq=>wpIn_exit (hq _ _ w E a h hs (jA.refl B w E s.H))
def qW.label (l:Nat) (h:R .normal s):qW P B (.label l) s R:=fun q m w E a Q hr hs hq=>wpIn_label (hq _ _ w E a h hs (jA.refl B w E s.H))
def qW.ret (h:R .ret s):qW P B .ret s R:=fun q m w E a Q hr hs hq=>wpIn_ret (hq _ _ w E a h hs (jA.refl B w E s.H))
def MA (next:S->Prop) (R:Exit->S->Prop):Exit->S->Prop
 | .normal,s=>next s
 | ex,s=>R ex s
def qW.seq {x y:Code} (h:qW P B x s (MA (fun s1=>qW P B y s1 R) R)):qW P B (.seq x y) s R:=fun q m w E a Q hr hs hq=>
 wpIn_seq (h q m w E a _ (fun e=>hr (by simp [xw,e])) hs fun ex s1 w1 E1 a1 hR h1 g1=>by
  cases ex with
  | normal=>exact (hR:qW P B y s1 R) q m w1 E1 a1 Q (fun e=>hr (by simp [xw,e])) h1 fun ex s2 w2 E2 a2 hR2 h2 g2=>hq ex s2 w2 E2 a2 hR2 h2 (g1.trans g2)
  | _=>exact hq _ s1 w1 E1 a1 hR h1 g1)
def LM (id:Nat) (R:Exit->S->Prop):Exit->S->Prop
 | .exit id',s=>if id'=id then R .normal s else R (.exit id') s
 | ex,s=>R ex s
def qW.block {id:Nat} {c:Code} (h:qW P B c s (LM id R)):qW P B (.block id c) s R:=fun q m w E a Q hr hs hq=>
 wpIn_block (h q m w E a _ hr hs fun ex s1 w1 E1 a1 hR h1 g1=>by
  cases ex with
  | exit id'=>
   simp only [Exit.inBlock,LM] at *;split
   ·rename_i hi;rw [dQ hi] at hR;exact hq _ s1 w1 E1 a1 hR h1 g1
   ·rename_i hi;rw [dN hi] at hR;exact hq _ s1 w1 E1 a1 hR h1 g1
  | _=>exact hq _ s1 w1 E1 a1 hR h1 g1)
def Vy (R:Exit->S->Prop):Exit->S->Prop
 | .goto _,_=>False
 | ex,s=>R ex s
def qW.scope {c:Code} (h:qW P B c s (Vy R)):qW P B (.scope c) s R:=fun q m w E a Q hr hs hq=>
 M1 (h q m w E a _ hr hs fun ex s1 w1 E1 a1 hR h1 g1=>by
  cases ex with
  | goto l=>exact (hR:False).elim
  | _=>exact hq _ s1 w1 E1 a1 hR h1 g1)
def qW.goto (l:Nat) (h:R (.goto l) s):qW P B (.goto l) s R:=fun q m w E a Q hr hs hq=>wpIn_goto (hq _ _ w E a h hs (jA.refl B w E s.H))
def Nk:∀ {c:Code} {l:Nat} {rest:Code},findLabel c l=some rest->xw rest=true->xw c=true:=by
 intro c
 induction c with
 | seq x y ihx ihy=>
  intro l rest h hr;simp only [findLabel] at h;split at h
  ·rename_i r hx;cases h
   simp only [xw,pE] at hr ⊢;exact hr.imp (ihx hx) id
  ·simp only [xw,pE];exact .inr (ihy h hr)
 | label l'=>
  intro l rest h hr;simp only [findLabel] at h;split at h
  ·cases h;cases hr
  ·cases h
 | _=>intro l rest h;simp [findLabel] at h
inductive Am (P:Program) (B:Nat) (c:Code) (R:Exit->S->Prop):Nat->S->Prop
 | mk {l:Nat} {s:S} {rest:Code} (R':Exit->S->Prop):findLabel c l=some rest->qW P B rest s R'->(∀ e s,R' e s->(∀ l,e≠.goto l)->R e s)->(∀ l s,R' (.goto l) s->Am P B c R l s)->Am P B c R l s
def Am.W0 {c:Code} {l:Nat} (h:Am P B c R l s):∀ (q:Option Nat) (m:Nat) (w:World) (E:Env) (a:Act) (Q:Exit->Act->World->Prop),(xw c=true->q=none)->xN B m w E s a->
  (∀ ex s' w' E' a',R ex s'->xN B m w' E' s' a'->jA B w E s.H w' E' s'.H->Q ex a' w')->Cg (fw q) 0 P c Q l a w:=by
 induction h with
 | @mk l s rest R1 hf h1 h2 h3 ih=>
  intro q m w E a Q hr hs hq
  refine .mk (fun e a' w'=>∃ s' E',R1 e s'∧xN B m w' E' s' a'∧jA B w E s.H w' E' s'.H) hf (h1 q m w E a _ (fun e=>hr (Nk hf e)) hs fun ex s' w' E' a' hR h g=>⟨s',E',hR,h,g⟩)
   (fun e a' w' ⟨s',E',hR,h,g⟩ he=>hq _ _ _ _ _ (h2 _ _ hR he) h g) (fun l' a' w' ⟨s',E',hR,h,g⟩=>?_)
  exact ih _ _ hR q m w' E' a' Q hr h fun ex s2 w2 E2 a2 hR2 hs2 g2=>hq ex s2 w2 E2 a2 hR2 hs2 (g.trans g2)
def Mi (P:Program) (B:Nat) (c:Code) (R:Exit->S->Prop):Exit->S->Prop
 | .goto l,s=>Am P B c R l s
 | ex,s=>R ex s
def qW.Vw {c:Code} (h:qW P B c s (Mi P B c R)):qW P B (.scope c) s R:=fun q m w E a Q hr hs hq=>
 Nf (Q':=fun e a' w'=>∃ s' E',Mi P B c R e s'∧xN B m w' E' s' a'∧jA B w E s.H w' E' s'.H) (h q m w E a _ hr hs fun ex s' w' E' a' hR h g=>⟨s',E',hR,h,g⟩)
  (fun e a' w' ⟨s',E',hR,h,g⟩ he=>by
   cases e with
   | goto l=>exact absurd rfl (he l)
   | _=>exact hq _ _ _ _ _ hR h g)
  (fun l a' w' ⟨s',E',hR,h,g⟩=>Am.W0 hR q m w' E' a' Q hr h fun ex s2 w2 E2 a2 hR2 hs2 g2=>hq ex s2 w2 E2 a2 hR2 hs2 (g.trans g2))
def iz.step {c:Code} {n:Nat} (h:qW P B c s (MA (fun s1=>iz P B c n s1 R) R)):iz P B c (n+1) s R:=fun q m w E a Q hr hs hq=>by
 rw [roundsIn_succ]
 exact h q m w E a _ hr hs fun ex s1 w1 E1 a1 hR h1 g1=>by
  cases ex with
  | normal=>exact (hR:iz P B c n s1 R) q m w1 E1 a1 Q hr h1 fun ex s2 w2 E2 a2 hR2 h2 g2=>hq ex s2 w2 E2 a2 hR2 h2 (g1.trans g2)
  | _=>exact hq _ s1 w1 E1 a1 hR h1 g1
def iz.more {c:Code} {n m:Nat} (hm:n<=m) {s:S} (h:iz P B c n s R):iz P B c m s R:=fun q k w E a Q hr hs hq=>I4 hm (h q k w E a Q hr hs hq)
def zZ (P:Program) (B:Nat) (c:Code) (s:S) (R:Exit->S->Prop):Prop:=∃ n,iz P B c n s R
def zZ.pre {c:Code} (hw:zo B s s1) (h:zZ P B c s1 R):zZ P B c s R:=let ⟨n,hn⟩:=h;⟨n,.pre hw hn⟩
def qW.loop {c:Code} (h:zZ P B c s R):qW P B (.loop c) s R:=fun q m w E a Q hr hs hq=>let ⟨n,hn⟩:=h;wpIn_loop_rounds n (hn q m w E a Q hr hs hq)
def fK:Value->C
 | .slice none 0 0=>.uv 1 0 []
 | .func (.func f) first caps=>if first.size=0∧caps.size=0 then .fn f [] [] else .za
 | .tuple vs=>if vs.size=0 then .un else .za
 | .agg _=>.za
 | x=>.v x
def Mm (E:Env) (x:Value):L E (fK x) x:=by
 unfold fK;split
 ·exact .xt _ _ (.inr rfl)
 ·rename_i f first caps;split
  ·rename_i h;obtain ⟨h1,h2⟩:=h;obtain rfl:first= #[]:=pO h1;obtain rfl:caps= #[]:=pO h2;exact .fn f [] [] #[] #[] rfl rfl (by simp) (by simp)
  ·exact .za _
 ·rename_i vs;split
  ·rename_i h;obtain rfl:vs= #[]:=pO h;exact .un
  ·exact .za _
 ·exact .za _
 ·rename_i h1 h2;refine .v _ ?_;cases x <;> simp_all [Value.oneCell']
def ev (tmps:List C):Operand->C
 | .tmp t=>(tmps[t]?).getD .za
 | .const v=>fK v
 | .global g=>.v (.pointer (some ⟨g,0,none⟩))
 | .func f=>.fn f [] []
def CG {E:Env} {tmps:List C} {a:Act} (h:LL E tmps a.tmps.toList) (x:Operand):L E (ev tmps x) (a.eval x):=by
 cases x with
 | tmp t=>
  simp only [ev,Act.eval];cases ht:tmps[t]? with
  | none=>exact .za _
  | some c=>
   obtain ⟨y,hy,hl⟩:=h.get ht
   have:a.tmps.getD t undef=y:=by
    rw [gL] at hy;rw [gV,hy];rfl
   rw [this];exact hl
 | const v=>exact Mm E v
 | global g=>exact .v _ rfl
 | func f=>exact .fn f [] [] #[] #[] rfl rfl (by simp) (by simp)
def AW (ops:Array Oper) (tmps:List C) (j:Nat):Option (Option Bool):=
 match (ops[j]?).bind (·.dst) with
 | none=>some none
 | some d=>match tmps[d]? with
  | none=>some none
  | some (.v (.bool b))=>some (some b)
  | some .un=>some none
  | _=>none
def J6 {E:Env} {ops:Array Oper} {tmps:List C} {a:Act} (h:LL E tmps a.tmps.toList) {j:Nat} {r:Option Bool} (hr:AW ops tmps j=some r):yielded ops a.tmps j=r:=by
 unfold AW at hr;unfold yielded;cases hd:(ops[j]?).bind (·.dst) with
 | none=>simp only [hd] at hr;cases hr;rfl
 | some d=>
  simp only [hd,gz] at hr ⊢;cases ht:tmps[d]? with
  | none=>
   simp only [ht] at hr;cases hr
   have hn:a.tmps[d]?= none:=by
    rw [Array.getElem?_eq_none_iff];have:=pK.1 ht;have h1:=h.1;simp at h1;omega
   rw [hn]
  | some c=>
   simp only [ht] at hr;obtain ⟨y,hy,hl⟩:=h.get ht;rw [gL] at hy;rw [hy];split at hr
   ·rename_i e;cases e
   ·rename_i e;cases e;cases hr;cases hl;rfl
   ·rename_i e;cases e;cases hr;cases hl;rfl
   ·cases hr
def jF (ops:Array Oper) (tmps:List C) (o:Oper):Option Bool:=
 match o.guard with
 | none=>some true
 | some (j,want)=>match AW ops tmps j with
  | some (some b)=>some (b == want)
  | some none=>some false
  | none=>none
def jQ {E:Env} {ops:Array Oper} {tmps:List C} {a:Act} (h:LL E tmps a.tmps.toList) {o:Oper} {b:Bool} (hb:jF ops tmps o=some b):
  Region.wanted o (yielded ops a.tmps)=b:=by
 unfold jF at hb;unfold Region.wanted;split at hb
 ·rename_i hg;simp only [hg];cases hb;rfl
 ·rename_i j want hg;simp only [hg];split at hb
  ·rename_i x hx;rw [J6 h hx];cases hb;cases x <;> cases want <;> rfl
  ·rename_i hx;rw [J6 h hx];cases hb;rfl
  ·cases hb
def put (tmps:List C) (dst:Option Tmp) (c:C):List C:=
 match dst with
 | some d=>tmps.set d c
 | none=>tmps
def DT {E:Env} {tmps:List C} {a:Act} (h:LL E tmps a.tmps.toList) {c:C} {y:Value} (hl:L E c y) (dst:Option Tmp):LL E (put tmps dst c) (a.put dst y).tmps.toList:=by
 cases dst with
 | none=>exact h
 | some d=>simpa [put,Act.put] using h.set hl d
def xN.put {m:Nat} {w:World} {E:Env} {s:S} {a:Act} (h:xN B m w E s a) {c:C} {y:Value} (hl:L E c y) (dst:Option Tmp):
  xN B m w E ⟨Ab.put s.tmps dst c,s.H⟩ (a.put dst y):=
 ⟨h.heap,DT h.tmps hl dst,by cases dst <;> exact h.defers,h.base⟩
def kY.nil {ops:Array Oper} {R:S->Prop} (h:R s):kY P B ops [] s R:=fun q m w E a Q hs hq=>wpListIn_nil (hq s w E a h hs (jA.refl B w E s.H))
def kY.run {ops:Array Oper} {o:Oper} {l:List Oper} {R1 R:S->Prop} (hw:jF ops s.tmps o=some true) (h:nD P B o s R1) (h':∀ s1,R1 s1->kY P B ops l s1 R):kY P B ops (o::l) s R:=fun q m w E a Q hs hq=>by
 unfold wpListIn;rw [dQ (jQ hs.tmps hw)];exact h q m w E a _ Q hs fun s1 w1 E1 a1 hR h1 g1=>h' s1 hR q m w1 E1 a1 Q h1 fun s2 w2 E2 a2 hR2 h2 g2=>hq s2 w2 E2 a2 hR2 h2 (g1.trans g2)
def kY.pass {ops:Array Oper} {o:Oper} {l:List Oper} {R:S->Prop} (hw:jF ops s.tmps o=some false) (h':kY P B ops l ⟨put s.tmps o.dst .un,s.H⟩ R):kY P B ops (o::l) s R:=fun q m w E a Q hs hq=>by
 unfold wpListIn;rw [dN (by rw [jQ hs.tmps hw];decide)];exact ⟨fun _ _=>trivial,h' q m w E _ Q (hs.put (.un) o.dst) hq⟩
def qW.region {id:Nat} {ops:Array Oper} {R:Exit->S->Prop} (h:kY P B ops ops.toList s (R .normal)):qW P B (.region id ops false) s R:=fun q m w E a Q hs0 hs hq=>
 wpIn_region_list (h q m w E a Q hs fun s' w' E' a' hR h1 g1=>hq _ s' w' E' a' hR h1 g1)
def qW.cond {c:Operand} {x y:Code} {b:Bool} {R:Exit->S->Prop} (hc:ev s.tmps c=.v (.bool b)) (h:qW P B (if b then x else y) s R):qW P B (.cond c x y) s R:=fun q m w E a Q hr hs hq=>by
 have:=CG hs.tmps c;rw [hc] at this;have hb:a.eval c=.bool b:=by generalize a.eval c=z at *;cases this;rfl
 exact wpIn_cond hb (h q m w E a Q (fun e=>hr (by cases b <;> simp_all [xw])) hs hq)
end
def lM (P:Program) (K:Value->World->Prop):Result Next->Prop
 | .ok (.value v) w=>K v w
 | .ok .skip w=>K undef w
 | .ok (.enter f args) w=>Calls P f args w fun e w'=>∃ v,e=.returned v∧K v w'
 | .ok (.round l f tmps assign body) w=>RoundIn (fw none) 0 P l f tmps assign body w fun e w'=>∃ v,e=.returned v∧K v w'
 | _=>False
def u6 (P:Program) (o:Oper) (ρ:Operand->C) (H:zl) (c:C) (H':zl):Prop:=
 ∀ (w:World) (E:Env) (σ:Operand->Value),qu w E H->(∀ x ∈ o.op.operands,L E (ρ x) (σ x))->
  ∀ K:Value->World->Prop,(∀ v w' E',qu w' E' H'->L E' c v->Grow w E H w' E' H'->K v w')->lM P K ((execOp σ o).run P w)
def qI (P:Program) (o:Oper) (ρ:Operand->C) (H:zl) (c:C) (H':zl):Prop:=
 ∀ (w:World) (E:Env) (σ:Operand->Value),qd w E H->(∀ x ∈ o.op.operands,L E (ρ x) (σ x))->
  ∀ K:Value->World->Prop,(∀ v w' E',qd w' E' H'->L E' c v->qB w E H w' E' H'->K v w')->lM P K ((execOp σ o).run P w)
def lF (P:Program) (o:Oper) (ρ:Operand->C) (H:zl) (c:C) (H':zl):Prop:=
 ∀ (w:World) (E:Env) (σ:Operand->Value),qu w E H->(∀ x ∈ o.op.operands,L E (ρ x) (σ x))->(∀ v,σ (.const v)=v)->
  ∀ K:Value->World->Prop,(∀ v w' E',qu w' E' H'->L E' c v->Grow w E H w' E' H'->K v w')->lM P K ((execOp σ o).run P w)
def jE (P:Program) (o:Oper) (ρ:Operand->C) (H:zl) (R:C->zl->Prop):Prop:=
 ∀ (w:World) (E:Env) (σ:Operand->Value),qu w E H->(∀ x ∈ o.op.operands,L E (ρ x) (σ x))->(∀ v,σ (.const v)=v)->
  ∀ K:Value->World->Prop,(∀ c H' v w' E',R c H'->qu w' E' H'->L E' c v->Grow w E H w' E' H'->K v w')->lM P K ((execOp σ o).run P w)
def lF.iS {P:Program} {o:Oper} {ρ:Operand->C} {H H':zl} {c:C} {R:C->zl->Prop} (h:lF P o ρ H c H') (hR:R c H'):jE P o ρ H R:=fun w E σ hh hl hc K hk=>h w E σ hh hl hc K fun v w' E'=>hk c H' v w' E' hR
def u6.iS {P:Program} {o:Oper} {ρ:Operand->C} {H H':zl} {c:C} {R:C->zl->Prop} (h:u6 P o ρ H c H') (hR:R c H'):jE P o ρ H R:=fun w E σ hh hl _ K hk=>h w E σ hh hl K fun v w' E'=>hk c H' v w' E' hR
def nD.DE {P:Program} {B:Nat} {o:Oper} {s:S} {R:C->zl->Prop} (h:jE P o (ev s.tmps) s.H R):nD P B o s (fun s'=>∃ c H',R c H'∧s'=⟨put s.tmps o.dst c,H'⟩):=fun q m w E a K Q hs hk=>by
 have:=h w E a.eval hs.heap (fun x _=>CG hs.tmps x) (fun _=>rfl) (fun v w'=>K (a.put o.dst v) w') fun c H' v w' E' hR h1 h2 g=>
  hk _ w' E' _ ⟨c,H',hR,rfl⟩ ⟨h1,DT (hs.tmps.mono g.le) h2 o.dst,by have:=hs.defers.grow hs.heap g;cases o.dst <;> exact this,by have:=g.le.n;rw [hs.heap.n,h1.n] at this;exact gW hs.base this⟩ (g.fA (by rw [hs.heap.n];exact hs.base))
 have ff:∀ d,o.op≠.defer d:=fun d hd=>by
  have h2:=this;unfold execOp at h2;simp only [hd,Sem.run_bind] at h2;cases hr:(resolve a.eval d o.type).run P w with
  | ok x w1=>simp [hr,Result.andThen,lM] at h2
  | halt x w1=>simp [hr,Result.andThen,lM] at h2
 unfold Oper.wpIn;refine ⟨fun _ _=>trivial,?_⟩;rw [Oper.semAt_eq _ _ _ ff];generalize (execOp a.eval o).run P w=r at this ⊢;unfold lM at this;split at this
 ·exact this
 ·exact this
 ·rw [Oper.uponIn_enter];refine ⟨fun h=>(by cases h),callsIn_wide.2 (Calls.mono this ?_)⟩;rintro e w' ⟨v,rfl,hv⟩;exact hv
 ·rw [Oper.uponIn_round];refine ⟨fun h=>(by cases h),RoundIn.mono (F:=fw q) this ?_⟩;rintro e w' ⟨v,rfl,hv⟩;exact hv
 ·exact this.elim
def nD.DW {P:Program} {B:Nat} {o:Oper} {s:S} {c:C} {H':zl} (h:u6 P o (ev s.tmps) s.H c H') (q:Option Nat) (m:Nat) (w:World) (E:Env) (a:Act) (K:Act->World->Prop) (Q:Exit->Act->World->Prop) (hs:xN B m w E s a)
  (hq:∀ w' E' a',xN B m w' E' ⟨put s.tmps o.dst c,H'⟩ a'->jA B w E s.H w' E' H'->K a' w'):o.wpIn (fw q) 0 P a w K Q:=
 nD.DE (B:=B) (h.iS (R:=fun x X=>x=c∧X=H') ⟨rfl,rfl⟩) q m w E a K Q hs fun s' w' E' a' ⟨x,X,⟨e1,e2⟩,e3⟩ h1 g1=>by subst e1 e2 e3;exact hq w' E' a' h1 g1
def u6.congr {P:Program} {o:Oper} {ρ ρ':Operand->C} {H H':zl} {c:C} (h:u6 P o ρ H c H') (he:∀ x ∈ o.op.operands,ρ' x=ρ x):u6 P o ρ' H c H':=
 fun w E σ hh hl K hk=>h w E σ hh (fun x hx=>he x hx ▸ hl x hx) K hk
def qI.congr {P:Program} {o:Oper} {ρ ρ':Operand->C} {H H':zl} {c:C} (h:qI P o ρ H c H') (he:∀ x ∈ o.op.operands,ρ' x=ρ x):qI P o ρ' H c H':=
 fun w E σ hh hl K hk=>h w E σ hh (fun x hx=>he x hx ▸ hl x hx) K hk
def u6.BC {P:Program} {o:Oper} {ρ:Operand->C} {H H':zl} {c:C} (h:qI P o ρ H c H') (hk:jD H H'):u6 P o ρ H c H':=fun w E σ hh hl K hK=>
 h w E σ hh.base hl K fun v w' E' h1 h2 g=>hK v w' E' ⟨h1,iZ.step hh g hk⟩ h2 (g.up hh hk)
def u6.same {P:Program} {o:Oper} {ρ:Operand->C} {H:zl} {c:C} (h:qI P o ρ H c H):u6 P o ρ H c H:=.BC h (jD.refl H)
def jD.push (H:zl) (ob:Ob) (hk:ob.kind≠4):jD H (H++[ob]):=fun id ob' h4=>by
 by_cases ux:id < H.length
 ·rw [dT ux]
 ·rw [gj (by omega),pw (l:=H) (by omega)];constructor
  ·intro h;cases hd:id - H.length with
   | zero=>rw [hd] at h;cases h;exact absurd h4 hk
   | succ n=>rw [hd] at h;simp at h
  ·intro h;cases h
def jD.modify (H:zl) (id:Nat) (f:Ob->Ob) (hf:∀ ob,H[id]?= some ob->ob.kind≠4∧(f ob).kind≠4):jD H (H.modify id f):=fun id' ob' h4=>by
 rw [pq];by_cases he:id=id'
 ·subst he;cases hx:H[id]? with
  | none=>simp
  | some ob=>
   obtain ⟨h1,h2⟩:=hf ob hx;simp only [rj,dX,if_true];constructor
   ·intro h;cases h;exact absurd h4 h2
   ·intro h;cases h;exact absurd h4 h1
 ·cases hx:H[id']? with
  | none=>simp
  | some ob=>simp [he]
def jD.trans {H H' H'':zl} (h:jD H H') (h':jD H' H''):jD H H'':=fun id ob h4=>(h' id ob h4).trans (h id ob h4)
def iK (P:Program) {α:Type}:Sem α->Option α
 | .pure a=>some a
 | .program k=>iK P (k P)
 | _=>none
def Uu {P:Program} {α:Type} (e:Sem α) {a:α} (h:iK P e=some a) (w:World):e.run P w=.ok a w:=by
 induction e with
 | pure a'=>simp only [iK,gu] at h;subst h;rfl
 | program k ih=>simp only [iK] at h;exact ih P h
 | _=>simp [iK] at h
def nH:C->Value
 | .v x=>x
 | _=>undef
def eu:C->Bool
 | .v _=>true
 | _=>false
def xG (o:Oper):Bool:=match o.op with | .select ..=>false | _=>true
def qI.scalar {P:Program} {o:Oper} {ρ:Operand->C} {H:zl} {v:Value} (hs:xG o=true) (hv:o.op.operands.all (fun x=>eu (ρ x))=true)
  (hr:iK P (execOp (fun x=>nH (ρ x)) o)=some (.value v)) (h1:v.oneCell'=true):qI P o ρ H (.v v) H:=fun w E σ hh hl K hk=>by
 have he:execOp σ o=execOp (fun x=>nH (ρ x)) o:=execOp_congr o (fun cs b hc=>by simp [xG,hc] at hs) fun x hx=>by
  have h1:eu (ρ x)=true:=by
   have:=Array.all_eq_true_iff_forall_mem.1 hv x hx;simpa using this
  have h2:=hl x hx;cases hc:ρ x with
  | v y=>rw [hc] at h2;cases h2;rfl
  | _=>rw [hc] at h1;cases h1
 rw [he,Uu _ hr w];exact hk v w E hh (.v v h1) (qB.refl w E H)
def Jq {w:World} {o:Obj} {b off:Nat} (h:b < w.heap.size):(w.alloc o).cell? ⟨b,off,none⟩=w.cell? ⟨b,off,none⟩:=
 World.cell?_alloc_lt _ _ _ h
def AP {w:World} {b off:Nat} {u:Value} (h:w.cell? ⟨b,off,none⟩=some u):b < w.heap.size:=World.block_lt_of_cell? w _ h
def Env.push (E:Env) (g κ:Nat):Env:=
 { n:=E.n+1,β:=fun id hops=>if id=E.n then g else E.β id hops,κ:=fun id hops=>if id=E.n then κ else E.κ id hops,St:=E.St,G:=E.G }
def Env.F3 (E:Env) (g κ:Nat):E.le (E.push g κ):=
 ⟨pC _,fun id hops h=>by simp [Env.push,sa h],fun id hops h=>by simp [Env.push,sa h],fun b o u h=>h,fun _ _ _ _ h=>h⟩
def zy:C->Bool
 | .uv 2 _ _=>false
 | _=>true
def qT.loose {E:Env} {kd id:Nat} {hops:List eK} {i k:Nat} {c:C} {u:Value} (hn:zy c=true):qT E kd id hops i k c u↔L (E.at kd) c u∧u.oneCell'=true:=by
 unfold qT;split
 ·simp [zy] at hn
 ·rfl
def qT.mono {E E':Env} (h:E.le E') {kd id:Nat} (hid:id < E.n) {hops:List eK} {i k:Nat} {c:C} {u:Value} (hc:qT E kd id hops i k c u):qT E' kd id hops i k c u:=by
 unfold qT at *;split at hc
 ·rw [h.β id _ hid,h.κ id _ hid];exact hc
 ·exact ⟨hc.1.mono (h.at kd),hc.2⟩
def Ad {H:zl} {id:Nat} {hops:List eK} {x:Nat × List (List C)} (h:z6 H id hops=some x):id < H.length:=by
 unfold z6 at h;split at h
 ·rename_i ob ho;exact (dL.1 ho).1
 ·cases h
def jc {H:zl} {id:Nat} {hops:List eK} {x:Nat × List (List C)} (h:z6 H id hops=some x):∃ ob,H[id]?= some ob∧(ob.kind=1∨ob.kind=2)∧vA ob.sz ob.rows hops=some x:=by
 unfold z6 at h;split at h
 ·rename_i ob ho;split at h
  ·rename_i hk;exact ⟨ob,ho,hk,h⟩
  ·cases h
 ·cases h
def qd.lt {w:World} {E:Env} {H:zl} (h:qd w E H) {id:Nat} {hops:List eK} {x:Nat × List (List C)} (hx:z6 H id hops=some x):E.β id hops < w.heap.size:=by
 obtain ⟨ob,ho,_,_⟩:=jc hx;obtain ⟨cur,e,hg,_⟩:=(h.u9 id ob hops x.1 x.2 ho (by simpa using hx)).u9;exact (gf.1 hg).1
def vZ {H:zl} {id:Nat} {hops:List eK} (h:id < H.length) (X:zl):z6 (H++X) id hops=z6 H id hops:=by
 unfold z6;rw [dT h]
def A3.Ga {w:World} {E:Env} {kd id:Nat} {hops:List eK} {sz:Nat} {rows:List (List C)} (h:A3 w E kd id hops sz rows):E.β id hops < w.heap.size:=by
 obtain ⟨cur,e,hg,_⟩:=h.u9;exact (gf.1 hg).1
def A3.step {w w':World} {E E':Env} (hle:E.le E') {kd id:Nat} (hid:id < E.n) {hops:List eK} {sz:Nat} {rows:List (List C)} (h:A3 w E kd id hops sz rows)
  (hh:w'.heap[E.β id hops]?= w.heap[E.β id hops]?):A3 w' E' kd id hops sz rows:=by
 obtain ⟨cur,e,hg,hsz,hc⟩:=h.u9;refine ⟨by rw [hle.κ id hops hid];exact h.len,h.row,cur,e,by rw [hle.β id hops hid,hh];exact hg,by rw [hle.κ id hops hid];exact hsz,?_⟩;intro i k c hcc;obtain ⟨u,hu,ho⟩:=hc i k c hcc;exact ⟨u,hu,ho.mono hle hid⟩
def kQ {sz:Nat} {rows:List (List C)} (hn:∀ i k c,cellAt rows i k=some c->zy c=true) {hops:List eK} {x:Nat × List (List C)} (h:vA sz rows hops=some x):hops=[]∧x=(sz,rows):=by
 cases hops with
 | nil=>simp [vA] at h;exact ⟨rfl,h.symm⟩
 | cons hd tl=>
  obtain ⟨i,k⟩:=hd;simp only [vA] at h;split at h
  ·rename_i h1;have:=hn _ _ _ h1;simp [zy] at this
  ·cases h
def qd.push {w:World} {E:Env} {H:zl} (h:qd w E H) (kind:Nat) (ty:TypeId) (sz κ:Nat) (rows:List (List C)) (cur:Array Value) (hk:kind=1∨kind=2) (hrow:∀ r ∈ rows,r.length=sz)
  (hlen:rows.length<=κ) (hcur:cur.size=κ * sz) (hn:∀ i k c,cellAt rows i k=some c->zy c=true)
  (hc:∀ i k c,cellAt rows i k=some c->∃ u,cur[i * sz+k]?= some u∧L (E.at kind) c u∧u.oneCell'=true):
  qd (w.alloc (.cells cur ty)) (E.push w.heap.size κ) (H++[⟨kind,ty,sz,rows,0⟩])∧qB w E H (w.alloc (.cells cur ty)) (E.push w.heap.size κ) (H++[⟨kind,ty,sz,rows,0⟩]):=by
 have hle:=E.F3 w.heap.size κ
 have get:∀ id hops x,z6 (H++[⟨kind,ty,sz,rows,0⟩]) id hops=some x->(id < H.length∧z6 H id hops=some x)∨(id=H.length∧hops=[]∧x=(sz,rows)):=by
  intro id hops x hx;by_cases ux:id < H.length
  ·exact .inl ⟨ux,by rw [vZ ux] at hx;exact hx⟩
  ·have h1:=Ad hx;simp at h1;have:id=H.length:=by omega
   subst this;simp only [z6,gj (dW _),rb,sO] at hx;rw [dQ hk] at hx;obtain ⟨e1,e2⟩:=kQ hn hx;exact .inr ⟨rfl,e1,e2⟩
 have hnew:∀ hops,(E.push w.heap.size κ).β H.length hops=w.heap.size:=fun hops=>by simp [Env.push,h.n]
 have hold:∀ id hops,id < H.length->(E.push w.heap.size κ).β id hops=E.β id hops:=fun id hops ux=>hle.β id hops (by rw [h.n];exact ux)
 refine ⟨⟨by simp [Env.push,h.n],?_,?_,?_,?_,?_,?_⟩,⟨hle,fun _ _ _=>rfl,rfl,rfl,rfl,by show _<=(w.heap.push _).size;simp,?_,?_,?_⟩⟩
 ·intro id ob hops sz' rows' hob hx;rcases get id hops _ hx with ⟨ux,hx'⟩ | ⟨rfl,rfl,hx'⟩
  ·rw [dT ux] at hob;have hb:=h.u9 id ob hops sz' rows' hob hx';exact hb.step hle (by rw [h.n];exact ux) (heap_alloc_old w _ hb.Ga)
  ·cases hx'
   simp at hob;subst hob;refine ⟨by simp [Env.push,h.n,hlen],hrow,cur,ty,by rw [hnew];exact heap_alloc_new w _,by simp [Env.push,h.n,hcur],?_⟩;intro i k c hcc;obtain ⟨u,hu,hl,ho⟩:=hc i k c hcc;exact ⟨u,hu,(qT.loose (hn i k c hcc)).2 ⟨hl.mono (hle.at kind),ho⟩⟩
 ·intro id hops id' hops' x y hx hy he;rcases get id hops _ hx with ⟨ux,hx'⟩ | ⟨rfl,rfl,hx'⟩ <;> rcases get id' hops' _ hy with ⟨hlt',hy'⟩ | ⟨rfl,rfl,hy'⟩
  ·rw [hold id hops ux,hold id' hops' hlt'] at he;exact h.inj id hops id' hops' x y hx' hy' he
  ·rw [hold id hops ux,hnew] at he;have:=h.lt hx';omega
  ·rw [hold id' hops' hlt',hnew] at he;have:=h.lt hy';omega
  ·exact ⟨rfl,rfl⟩
 ·intro b o u hu;have hs:=h.qs b o u hu;rw [Jq (AP hs.1)];exact hs
 ·intro id hops x o u hx hu;rcases get id hops _ hx with ⟨ux,hx'⟩ | ⟨rfl,rfl,hx'⟩
  ·rw [hold id hops ux] at hu;obtain ⟨e1,ob,e2,e3⟩:=h.sep id hops x o u hx' hu;exact ⟨e1,ob,by rw [dT ux];exact e2,e3⟩
  ·rw [hnew] at hu;have:=AP (h.qs _ _ _ hu).1;omega
 ·intro id ob hob hkd;by_cases ux:id < H.length
  ·rw [dT ux] at hob;obtain ⟨cur',hc'⟩:=h.ty id ob hob hkd;refine ⟨cur',?_⟩;rw [hold id [] ux,heap_alloc_old w _ (gf.1 hc').1];exact hc'
  ·have h1:=(dL.1 hob).1;simp at h1;have:id=H.length:=by omega
   subst this;simp at hob;subst hob;exact ⟨cur,by rw [hnew];exact heap_alloc_new w _⟩
 ·intro id ob hob;by_cases ux:id < H.length
  ·rw [dT ux] at hob;exact h.fz id ob hob
  ·have h1:=(dL.1 hob).1;simp at h1;have:id=H.length:=by omega
   subst this;simp at hob;subst hob;exact gA _
 ·intro k hk' ho;exact heap_alloc_old w _ hk'
 ·intro b o u hu;exact .inl hu
 ·rintro b ⟨id,hops,x,hx,rfl⟩;rcases get id hops _ hx with ⟨ux,hx'⟩ | ⟨rfl,rfl,hx'⟩
  ·exact .inr ⟨id,hops,x,hx',by rw [hold id hops ux]⟩
  ·exact .inl (by rw [hnew];exact dW _)
section
variable {P:Program} {o:Oper} {ρ:Operand->C} {H:zl}
def jl {t:TypeId} {i:TypeInfo} (h:P.info? t=some i) (w:World):(sizeOf t).run P w=.ok i.size w:=by
 simp [sizeOf,typeInfo,h]
def xK {t:TypeId} {i:TypeInfo} {z:Value} (h:P.info? t=some i) (hz:i.zero=some z) (w:World):(zeroValue t).run P w=.ok z w:=by
 simp [zeroValue,typeInfo,h,hz]
def qI.move (x:Operand) (ho:o.op=.move x∨o.op=.assign x):qI P o ρ H (ρ x) H:=fun w E σ hh hl K hk=>by
 have h1:(execOp σ o).run P w=.ok (.value (σ x)) w:=by
  unfold execOp;rcases ho with ho | ho <;> simp only [ho] <;> rfl
 rw [h1];exact hk _ w E hh (hl x (by rcases ho with ho | ho <;> simp [ho,Op.operands])) (qB.refl w E H)
def qI.pick (x y z:Operand) (ho:o.op=.pick x y z) (b:Bool) (hb:ρ x=.v (.bool b)):qI P o ρ H (if b then ρ y else ρ z) H:=fun w E σ hh hl K hk=>by
 have h0:=hl x (by simp [ho,Op.operands]);rw [hb] at h0;have hx:σ x=.bool b:=by generalize σ x=u at *;cases h0;rfl
 have h1:(execOp σ o).run P w=.ok (.value (if b then σ y else σ z)) w:=by
  unfold execOp;simp only [ho,hx];cases b <;> rfl
 rw [h1];refine hk _ w E hh ?_ (qB.refl w E H);cases b
 ·exact hl z (by simp [ho,Op.operands])
 ·exact hl y (by simp [ho,Op.operands])
def yN {cs:List C} {i k:Nat} {c:C}:cellAt [cs] i k=some c↔i=0∧cs[k]?= some c:=by
 unfold cellAt;cases i <;> simp
def qd.Lk {w:World} {E:Env} (h:qd w E H) (ty:TypeId) (cs:List C) (ys:Array Value) (hl:LL E cs ys.toList) (hn:cs.all zy=true) (h1:∀ y ∈ ys,y.oneCell'=true):
  qd (w.alloc (.cells ys ty)) (E.push w.heap.size 1) (H++[⟨1,ty,cs.length,[cs],0⟩])∧qB w E H (w.alloc (.cells ys ty)) (E.push w.heap.size 1) (H++[⟨1,ty,cs.length,[cs],0⟩]):=by
 refine h.push 1 ty cs.length 1 [cs] ys (.inl rfl) (by simp) (by simp) (by have:=hl.1;simp at this;omega) ?_ ?_
 ·intro i k c hc;obtain ⟨_,hc⟩:=yN.1 hc;exact dV.1 hn c (dO hc)
 ·intro i k c hc;obtain ⟨rfl,hc⟩:=yN.1 hc;obtain ⟨y,hy,hly⟩:=hl.get hc;refine ⟨y,by simpa using hy,by simpa [Env.at] using hly,h1 y ?_⟩;have:=dO hy;simpa using this
def mE (P:Program) (t:TypeId):Option (List C):=
 match P.info? t with
 | some i=>match i.zero with
  | some z=>if z.cells.toList.all (·.oneCell') && (z.cells.size == i.size) then some (z.cells.toList.map fK) else none
  | none=>none
 | none=>none
def wC {t:TypeId} {cs:List C} (h:mE P t=some cs) (E:Env):∃ i z,P.info? t=some i∧i.zero=some z∧LL E cs z.cells.toList∧(∀ y ∈ z.cells,y.oneCell'=true)∧z.cells.size=i.size∧cs.all zy=true∧cs.length=i.size:=by
 unfold mE at h;split at h
 ·rename_i i hi;split at h
  ·rename_i z hz;split at h
   ·rename_i hc;cases h
    simp only [dU,gT,dV] at hc;refine ⟨i,z,hi,hz,⟨by simp,?_⟩,fun y hy=>hc.1 y (by simpa using hy),hc.2,?_,by simp [hc.2]⟩
    ·intro k c y h1 h2;rw [dP,h2] at h1;cases h1
     exact Mm E y
    ·rw [dV];intro c hcm;obtain ⟨y,hy,rfl⟩:=gG.1 hcm;unfold fK;split <;> (try split) <;> rfl
   ·cases h
  ·cases h
 ·cases h
def Mb {w:World} {E:Env} (h:qd w E H) (g κ sz:Nat):L (E.push g κ) (.ref H.length [] sz 0 0) (.pointer (some ⟨g,0,none⟩)):=by
 have:=L.ref (E:=E.push g κ) H.length [] sz 0 0 (by simp [Env.push,h.n]);have hb:(E.push g κ).β H.length []=g:=by simp [Env.push,h.n]
 rw [hb] at this;simpa using this
def qI.alloc (t:TypeId) (ho:o.op=.alloc t) {cs:List C} (hz:mE P t=some cs):qI P o ρ H (.ref H.length [] cs.length 0 0) (H++[⟨1,t,cs.length,[cs],0⟩]):=fun w E σ hh hl K hk=>by
 obtain ⟨i,z,hi,hz,hll,h1,hsz,hn,hlen⟩:=wC hz E
 have hr:(execOp σ o).run P w=.ok (.value (.pointer (some ⟨w.heap.size,0,none⟩))) (w.alloc (.cells z.cells t)):=by
  unfold execOp;simp only [ho,Instr.alloc,Sem.run_bind,xK hi hz,Result.andThen_ok,newVar,newRow]
  rfl
 rw [hr];obtain ⟨a,b⟩:=hh.Lk t cs z.cells hll hn h1;exact hk _ _ _ a (Mb hh _ _ _) b
def m7:C->Bool
 | .v _=>true
 | .uv o _ _=>o != 2
 | .jN _ | .ref .. | .sl .. | .fn .. | .mp _ | .gl .. | .eZ .. | .rc _=>true
 | _=>false
def Rc {E:Env} {c:C} {y:Value} (h:L E c y) (hc:m7 c=true):y.oneCell'=true:=by
 cases h with
 | v x hx=>exact hx
 | agg=>simp [m7] at hc
 | u1=>simp [m7] at hc
 | un=>simp [m7] at hc
 | za=>simp [m7] at hc
 | gl id sz rows y hn hg h=>cases h <;> rfl
 | _=>rfl
def Rd {c:C} (hc:m7 c=true):zy c=true:=by
 unfold m7 at hc;unfold zy;split at hc <;> first | rfl | (split <;> simp_all) | cases hc
def iX:C->Bool
 | .agg cs=>cs.all zy
 | c=>m7 c
def Ff {E:Env} {c:C} {y:Value} (h:L E c y) (hc:iX c=true):LL E c.cells y.cells.toList∧(∀ u ∈ y.cells,u.oneCell'=true)∧c.cells.all zy=true:=by
 cases c with
 | agg cs=>
  cases h with
  | agg _ ys h1 h2 h3=>exact ⟨⟨by simpa [C.cells,Value.cells] using h1,fun i c y e1 e2=>h2 i c y e1 (by simpa [Value.cells] using e2)⟩,h3,by simpa [iX,C.cells] using hc⟩
 | za=>simp [iX,m7] at hc
 | un=>simp [iX,m7] at hc
 | u1=>simp [iX,m7] at hc
 | _=>
  have ho:=Rc h (by simpa [iX] using hc);have hcell:y.cells= #[y]:=by cases y <;> first | rfl | (simp [Value.oneCell'] at ho)
  refine ⟨h.cells (by simp) (by simp),by rw [hcell];simpa using ho,?_⟩;have:=Rd (by simpa [iX] using hc);simpa [C.cells] using this
def qI.box (t:TypeId) (x:Operand) (ho:o.op=.box t x) (hc:iX (ρ x)=true):qI P o ρ H (.ref H.length [] (ρ x).cells.length 0 0) (H++[⟨1,t,(ρ x).cells.length,[(ρ x).cells],0⟩]):=fun w E σ hh hl K hk=>by
 obtain ⟨hll,h1,hn⟩:=Ff (hl x (by simp [ho,Op.operands])) hc
 have hr:(execOp σ o).run P w=.ok (.value (.pointer (some ⟨w.heap.size,0,none⟩))) (w.alloc (.cells (σ x).cells t)):=by
  unfold execOp;simp only [ho,Instr.box,newVar,newRow]
  rfl
 rw [hr];obtain ⟨a,b⟩:=hh.Lk t _ _ hll hn h1;exact hk _ _ _ a (Mb hh _ _ _) b
def xC (b off n:Nat):(⟨b,off,none⟩:Addr).add n=⟨b,off+n,none⟩:=by
 unfold Addr.add;split <;> simp_all
def wM (c:C) (n:Nat):Option C:=
 match c with
 | .ref id hops sz i k=>some (.ref id hops sz i (k+n))
 | .jN cells=>some (.jN (cells.drop n))
 | _=>none
def Kp {E:Env} {c c':C} {y:Value} {n:Nat} (h:L E c y) (hf:wM c n=some c'):∃ a,y=.pointer (some a)∧L E c' (.pointer (some (a.add n))):=by
 cases h with
 | ref id hops sz i k hn=>
  simp only [wM] at hf;cases hf
  refine ⟨_,rfl,?_⟩;rw [xC,rp];exact .ref id hops sz i (k+n) hn
 | jN cells b off us hst hL=>
  simp only [wM] at hf;cases hf
  refine ⟨_,rfl,?_⟩;rw [xC];exact .jN _ b (off+n) (fun k=>us (n+k)) (fun k c hc=>by rw [pA] at hc;rw [rp];exact hst _ c hc) (fun k c hc=>by rw [pA] at hc;exact hL _ c hc)
 | _=>simp [wM] at hf
def qI.fieldAddr (t:TypeId) (x:Operand) (f:Nat) (ho:o.op=.fieldAddr t x f) {fs:Array Field} {fd:Field} {i:TypeInfo} (ht:P.underlying t=some (.struct fs)) (hf:fs[f]?= some fd)
  (hi:P.info? fd.type=some i) (hsz:i.size≠0) {c:C} (hc:wM (ρ x) fd.offset=some c):qI P o ρ H c H:=fun w E σ hh hl K hk=>by
 obtain ⟨a,ha,hla⟩:=Kp (hl x (by simp [ho,Op.operands])) hc
 have hr:(execOp σ o).run P w=.ok (.value (.pointer (some (a.add fd.offset)))) w:=by
  unfold execOp;simp [ho,Instr.fieldAt,run_underlying ht,hf,ha,Instr.sureAddr,fieldPlace,jl hi,hsz]
 rw [hr];exact hk _ w E hh hla (qB.refl w E H)
def oO (c:C) (size n:Nat):Option C:=
 match c with
 | .uv o sz rows=>if (o == 0 || o == 1) && (sz == size) then (rows[n]?).map .jN else none
 | .sl id hops sz lo len _=>if decide (n < len) && (sz == size) then some (.ref id hops sz (lo+n) 0) else none
 | _=>none
def Ef:C->Option Nat
 | .uv _ _ rows=>some rows.length
 | .sl _ _ _ _ len _=>some len
 | _=>none
def Uo {E:Env} {c c':C} {y:Value} {size n:Nat} (h:L E c y) (hf:oO c size n=some c'):
  ∃ a len cap,y=.slice (some a) len cap∧n < len∧L E c' (.pointer (some (a.add (n * size)))):=by
 cases h with
 | uv o sz rows b off cap us ho hc hsz hst hL=>
  simp only [oO] at hf;split at hf
  ·rename_i hcond;simp only [dU,gT] at hcond;obtain ⟨_,rfl⟩:=hcond;cases hr:rows[n]? with
   | none=>rw [hr] at hf;cases hf
   | some r=>
    rw [hr] at hf;cases hf
    refine ⟨_,_,_,rfl,(dL.1 hr).1,?_⟩;rw [xC];exact .jN r b (off+n * sz) (us n) (fun k c hc=>hst n r k c hr hc) (fun k c hc=>hL n r k c hr hc)
  ·cases hf
 | xt o sz ho=>
  simp [oO] at hf
 | sl id hops sz lo len full cap hn hlen hfull hf'=>
  simp only [oO] at hf;split at hf
  ·rename_i hcond;simp only [dU,gT,gh] at hcond;obtain ⟨ux,rfl⟩:=hcond;cases hf
   refine ⟨_,_,_,rfl,ux,?_⟩;rw [xC,<- pD];exact .ref id hops sz (lo+n) 0 hn
  ·cases hf
 | _=>simp [oO] at hf
def qI.indexAddr (t:TypeId) (x y:Operand) (ho:o.op=.indexAddr t x y) {e:TypeId} {i:TypeInfo} (ht:P.underlying t=some (.slice e)) (hi:P.info? e=some i)
  {k:IntKind} {n:Int} (hy:ρ y=.v (.int k n)) (h0:0<=n) {c:C} (hc:oO (ρ x) i.size n.toNat=some c):qI P o ρ H c H:=fun w E σ hh hl K hk=>by
 obtain ⟨a,len,cap,ha,ux,hla⟩:=Uo (hl x (by simp [ho,Op.operands])) hc;have h1:=hl y (by simp [ho,Op.operands]);rw [hy] at h1;have hyv:σ y=.int k n:=by generalize σ y=u at *;cases h1;rfl
 have hn:0<=n∧n < (len:Int):=⟨h0,by omega⟩
 have hr:(execOp σ o).run P w=.ok (.value (.pointer (some (a.add (n.toNat * i.size))))) w:=by
  unfold execOp;simp [ho,Instr.indexAt,asIntOf,hyv,ha,run_underlying ht,hn.1,hn.2,jl hi]
 rw [hr];exact hk _ w E hh hla (qB.refl w E H)
def qI.TR (t:TypeId) (x y:Operand) (ho:o.op=.indexAddr t x y) {len:Nat} {e:TypeId} {i:TypeInfo} (ht:P.underlying t=some (.array len e)) (hi:P.info? e=some i)
  {k:IntKind} {n:Int} (hy:ρ y=.v (.int k n)) (h0:0<=n) (h1:n < len) {c:C} (hc:wM (ρ x) (n.toNat * i.size)=some c):qI P o ρ H c H:=fun w E σ hh hl K hk=>by
 obtain ⟨a,ha,hla⟩:=Kp (hl x (by simp [ho,Op.operands])) hc;have hy1:=hl y (by simp [ho,Op.operands]);rw [hy] at hy1;have hyv:σ y=.int k n:=by generalize σ y=u at *;cases hy1;rfl
 have hr:(execOp σ o).run P w=.ok (.value (.pointer (some (a.add (n.toNat * i.size))))) w:=by
  unfold execOp;simp [ho,Instr.indexAt,asIntOf,hyv,ha,run_underlying ht,h0,h1,jl hi,Instr.sureAddr]
 rw [hr];exact hk _ w E hh hla (qB.refl w E H)
end
def CA (id:Nat) (hops:List eK) (i k:Nat):C->C
 | .uv 2 sz rows=>.sl id (hops++[(i,k)]) sz 0 rows.length false
 | c=>c
def vn (id:Nat) (hops:List eK) (i:Nat):Nat->List C->List C
 | _,[]=>[]
 | k,c::cs=>CA id hops i k c::vn id hops i (k+1) cs
theorem qQ (sz:Nat) (rows:List (List C)):vA sz rows []=some (sz,rows):=rfl
def xF (sz:Nat) (rows:List (List C)) (i k:Nat) (hs:List eK):vA sz rows ((i,k)::hs)=match cellAt rows i k with
  | some (.uv 2 sz' rows')=>vA sz' rows' hs
  | _=>none:=rfl
def Kr {i k sz2:Nat} {rows2:List (List C)}:∀ (hops:List eK) (sz:Nat) (rows:List (List C)) (sz':Nat) (rows':List (List C)),vA sz rows hops=some (sz',rows')->
  cellAt rows' i k=some (.uv 2 sz2 rows2)->vA sz rows (hops++[(i,k)])=some (sz2,rows2)
 | [],sz,rows,sz',rows',h,hc=>by
  rw [qQ] at h;cases h
  rw [sG,xF,hc]
  rfl
 | (i',k')::tl,sz,rows,sz',rows',h,hc=>by
  rw [xF] at h;rw [List.cons_append,xF];split at h
  ·exact Kr tl _ _ _ _ h hc
  ·cases h
def R8 {H:zl} {id:Nat} {hops:List eK} {sz':Nat} {rows':List (List C)} (h:z6 H id hops=some (sz',rows')) {i k:Nat} {sz2:Nat} {rows2:List (List C)}
  (hc:cellAt rows' i k=some (.uv 2 sz2 rows2)):z6 H id (hops++[(i,k)])=some (sz2,rows2):=by
 obtain ⟨ob,ho,hk,hg⟩:=jc h;unfold z6;rw [ho];simp only [hk,if_true];exact Kr _ _ _ _ _ hg hc
def WA {w:World} {E:Env} {H:zl} (h:qd w E H) {id:Nat} {hops:List eK} {sz:Nat} {rows:List (List C)} (hb:z6 H id hops=some (sz,rows)) {kd i k:Nat} {c:C} {u:Value}
  (hc:cellAt rows i k=some c) (ho:qT E kd id hops i k c u):L E (CA id hops i k c) u:=by
 unfold qT at ho;split at ho
 ·rename_i sz' rows';subst ho;have hb':=R8 hb hc;obtain ⟨ob,hob,_,_⟩:=jc hb';have hlen:=(h.u9 id ob _ _ _ hob hb').len;have:=L.sl (E:=E) id (hops++[(i,k)]) sz' 0 rows'.length false _ (by rw [h.n];exact Ad hb') hlen (by simp) (by intro _;rw [gp]);rw [tu] at this;exact this
 ·rename_i h2
  have:CA id hops i k c=c:=by
   unfold CA;split
   ·exact absurd rfl (h2 _ _)
   ·rfl
  rw [this];exact ho.1.mono (E.Mc kd)
def IN {id:Nat} {hops:List eK} {i:Nat}:∀ (cs:List C) (k j:Nat) (c':C),(vn id hops i k cs)[j]?= some c'->∃ c,cs[j]?= some c∧c'=CA id hops i (k+j) c
 | [],k,j,c',h=>by simp [vn] at h
 | c::cs,k,0,c',h=>by simp [vn] at h;exact ⟨c,rfl,h.symm⟩
 | c::cs,k,j+1,c',h=>by
  simp [vn] at h;obtain ⟨c0,h0,e⟩:=IN cs (k+1) j c' h;exact ⟨c0,by simpa using h0,by rw [e];congr 1;omega⟩
def HX {id:Nat} {hops:List eK} {i:Nat}:∀ (cs:List C) (k:Nat),(vn id hops i k cs).length=cs.length
 | [],_=>rfl
 | c::cs,k=>by simp [vn,HX cs (k+1)]
def mY (H:zl) (c:C) (n:Nat):Option (List C):=
 match c with
 | .ref id hops sz i k=>match z6 H id hops with
  | some (sz',rows)=>if sz' == sz then match rows[i]? with
    | some r=>if decide (k+n<=r.length) then some (vn id hops i k ((r.drop k).take n)) else none
    | none=>none
   else none
  | none=>none
 | .jN cells=>if decide (n<=cells.length) then some (cells.take n) else none
 | _=>none
def DG {w:World} {E:Env} {H:zl} (h:qd w E H) {c:C} {y:Value} (hl:L E c y) {n:Nat} {cs:List C} (hr:mY H c n=some cs):
  ∃ a us,y=.pointer (some a)∧(∀ (j:Nat) u,us[j]?= some u->w.cell? (a.add j)=some u)∧LL E cs us∧us.length=n∧(∀ u ∈ us,u.oneCell'=true):=by
 cases hl with
 | ref id hops sz i k hn=>
  simp only [mY] at hr;split at hr
  ·rename_i sz' rows hb;split at hr
   ·rename_i hsz;have hsz:sz'=sz:=by simpa using hsz
    subst hsz;split at hr
    ·rename_i r hrow;split at hr
     ·rename_i hlen;simp only [gh] at hlen;cases hr
      obtain ⟨ob,hob,_,_⟩:=jc hb;have hB:=h.u9 id ob hops sz' rows hob hb;obtain ⟨cur,e,hg,hcs,hcell⟩:=hB.u9;have hrl:r.length=sz':=hB.row r (dO hrow)
      have hcc:∀ j,j < n->∃ c u,r[k+j]?= some c∧cellAt rows i (k+j)=some c∧cur[i * sz'+(k+j)]?= some u∧qT E ob.kind id hops i (k+j) c u:=fun j hj=>by
       have hj':k+j < r.length:=by omega
       have h1:r[k+j]?= some r[k+j]:=by simp [hj']
       have h2:cellAt rows i (k+j)=some r[k+j]:=by simp [cellAt,hrow,hj']
       obtain ⟨u,hu,ho⟩:=hcell i (k+j) _ h2;exact ⟨_,u,h1,h2,hu,ho⟩
      refine ⟨_,(List.range n).map (fun j=>cur.getD (i * sz'+(k+j)) undef),rfl,?_,⟨?_,?_⟩,by simp,?_⟩
      ·intro j u hju;simp only [dP] at hju;cases hjr:(List.range n)[j]? with
       | none=>rw [hjr] at hju;cases hju
       | some j'=>
        rw [hjr] at hju;obtain ⟨hjlt,hj'⟩:=dL.1 hjr;simp at hj' hjlt;subst hj';obtain ⟨c,u',h1,h2,hu,ho⟩:=hcc j hjlt;simp only [dX,gu] at hju;rw [gV,hu] at hju;simp at hju;subst hju;rw [xC];unfold World.cell?;simp only [hg];rw [dN (by simp),rp];exact hu
      ·rw [HX];simp;omega
      ·intro j c' u hc' hu';obtain ⟨c,hc,rfl⟩:=IN _ _ _ _ hc';rw [gE] at hc;split at hc
       ·rename_i hj;rw [pA] at hc;obtain ⟨c2,u2,h1,h2,hu,ho⟩:=hcc j hj;rw [h1] at hc;cases hc
        simp only [dP,rk hj,dX,gu] at hu';rw [gV,hu] at hu';simp at hu';subst hu';exact WA h hb h2 ho
       ·cases hc
      ·intro u hu;obtain ⟨j,hj,rfl⟩:=gG.1 hu;obtain ⟨c,u',h1,h2,hu',ho⟩:=hcc j (by simpa using hj);rw [gV,hu'];simp only [gY];unfold qT at ho;split at ho
       ·rw [ho];rfl
       ·exact ho.2
     ·cases hr
    ·cases hr
   ·cases hr
  ·cases hr
 | jN cells b off us hst hL=>
  simp only [mY] at hr;split at hr
  ·rename_i hlen;simp only [gh] at hlen;cases hr
   refine ⟨_,(List.range n).map us,rfl,?_,⟨by simp;omega,?_⟩,by simp,?_⟩
   ·intro j u hju;simp only [dP] at hju;cases hjr:(List.range n)[j]? with
    | none=>rw [hjr] at hju;cases hju
    | some j'=>
     rw [hjr] at hju;obtain ⟨hjlt,hj'⟩:=dL.1 hjr;simp at hj' hjlt;subst hj';cases hju
     rw [xC];have hj2:j < cells.length:=by omega
     exact (h.qs _ _ _ (hst j cells[j] (by simp [hj2]))).1
   ·intro j c u hc hu;rw [gE] at hc;split at hc
    ·rename_i hj;simp only [dP,rk hj,dX,gu] at hu;subst hu;exact (hL j c hc).mono E.B4
    ·cases hc
   ·intro u hu;obtain ⟨j,hj,rfl⟩:=gG.1 hu
    have hj2:j < cells.length:=by
      have:j < n:=by simpa using hj
      omega
    exact (h.qs _ _ _ (hst j cells[j] (by simp [hj2]))).2
  ·cases hr
 | _=>simp [mY] at hr
def AR:TypeDesc->Bool
 | .struct _ | .array _ _=>true
 | _=>false
def kV {P:Program} {t:TypeId} {d:TypeDesc} (h:P.underlying t=some d) (w:World):(isAgg t).run P w=.ok (AR d) w:=by
 simp only [isAgg,Sem.run_bind,run_underlying h,Result.andThen_ok];cases d <;> rfl
def wq (P:Program) (H:zl) (t:TypeId) (c:C):Option C:=
 match P.underlying t,P.info? t with
 | some d,some i=>
  if AR d then (mY H c i.size).map .agg
  else match mY H c 1 with
   | some [x]=>some x
   | _=>none
 | _,_=>none
section
variable {P:Program} {o:Oper} {ρ:Operand->C} {H:zl}
def qI.load (t:TypeId) (x:Operand) (ho:o.op=.load t x) {c:C} (hc:wq P H t (ρ x)=some c):qI P o ρ H c H:=fun w E σ hh hl K hk=>by
 have hx:=hl x (by simp [ho,Op.operands]);unfold wq at hc;split at hc
 ·rename_i d i hd hi;by_cases hag:AR d=true
  ·rw [dQ hag] at hc;cases hr:mY H (ρ x) i.size with
   | none=>rw [hr] at hc;cases hc
   | some cs=>
    rw [hr] at hc;cases hc
    obtain ⟨a,us,ha,hcell,hll,hlen,hone⟩:=DG hh hx hr
    have hr':(execOp σ o).run P w=.ok (.value (.agg us.toArray)) w:=by
     unfold execOp;have h3:=run_loadCells_list (P:=P) (w:=w) a us (fun j v hj=>hcell j v hj);rw [hlen] at h3;simp [ho,Instr.loadAt,Instr.sureAddr,ha,loadVar,kV hd,hag,jl hi,h3]
    rw [hr'];exact hk _ w E hh (.agg cs us.toArray (by simpa using hll.1) (fun i c y e1 e2=>hll.2 i c y e1 (by simpa using e2)) (fun u hu=>hone u (by simpa using hu))) (qB.refl w E H)
  ·rw [dN hag] at hc;split at hc
   ·rename_i x0 hr;cases hc
    obtain ⟨a,us,ha,hcell,hll,hlen,hone⟩:=DG hh hx hr
    obtain ⟨u,rfl⟩:∃ u,us=[u]:=by
     match us,hlen with
     | [u],_=>exact ⟨u,rfl⟩
    have hu:=hcell 0 u rfl;have ha0:a.add 0=a:=by simp [Addr.add]
    rw [ha0] at hu
    have hr':(execOp σ o).run P w=.ok (.value u) w:=by
     unfold execOp;simp [ho,Instr.loadAt,Instr.sureAddr,ha,loadVar,kV hd,hag,hu]
    rw [hr'];exact hk _ w E hh hll.cons_inv.1 (qB.refl w E H)
   ·cases hc
 ·cases hc
end
def setCell (rows:List (List C)) (i k:Nat) (c:C):List (List C):=rows.modify i (·.set k c)
def jw:List (List C)->List eK->(List (List C)->List (List C))->List (List C)
 | rows,[],f=>f rows
 | rows,(i,k)::hs,f=>match cellAt rows i k with
  | some (.uv 2 sz' rows')=>setCell rows i k (.uv 2 sz' (jw rows' hs f))
  | _=>rows
theorem Dm (rows:List (List C)) (f:List (List C)->List (List C)):jw rows [] f=f rows:=rfl
def Dh (rows:List (List C)) (i k:Nat) (hs:List eK) (f:List (List C)->List (List C)):jw rows ((i,k)::hs) f=match cellAt rows i k with
  | some (.uv 2 sz' rows')=>setCell rows i k (.uv 2 sz' (jw rows' hs f))
  | _=>rows:=rfl
def HW (rows:List (List C)) (i k:Nat) (c:C):(setCell rows i k c).length=rows.length:=by simp [setCell]
def Ia (rows:List (List C)) (i k:Nat) (c:C) (i' k':Nat):cellAt (setCell rows i k c) i' k'=if i=i'∧k=k' then (cellAt rows i' k').map (fun _=>c) else cellAt rows i' k':=by
 unfold cellAt setCell;rw [pq];by_cases hi:i=i'
 ·subst hi;cases hr:rows[i]? with
  | none=>simp
  | some r=>
   simp only [if_true,rj,dX,gz,sT];rw [dY];by_cases hk:k=k'
   ·subst hk;simp only [if_true];by_cases ux:k < r.length
    ·simp [ux]
    ·simp [ux]
   ·simp [hk]
 ·simp [hi]
def OX {rows:List (List C)} {sz:Nat} (h:∀ r ∈ rows,r.length=sz) (i k:Nat) (c:C):∀ r ∈ setCell rows i k c,r.length=sz:=by
 intro r hr;obtain ⟨j,hj⟩:=gm.1 hr;unfold setCell at hj;rw [pq] at hj;cases hx:rows[j]? with
 | none=>rw [hx] at hj;cases hj
 | some r0=>
  rw [hx] at hj;have h0:=h r0 (dO hx);simp only [rj,dX,gu] at hj;subst hj;split <;> simp [h0]
structure CM (rows rows':List (List C)):Prop where
 len:rows'.length=rows.length
 own:∀ i k s r,cellAt rows' i k=some (.uv 2 s r)↔cellAt rows i k=some (.uv 2 s r)
structure Aq (rows rows':List (List C)):Prop where
 len:rows'.length=rows.length
 cell:∀ i k c',cellAt rows' i k=some c'->∃ c,cellAt rows i k=some c∧(c=c'∨∃ s r r',c=.uv 2 s r∧c'=.uv 2 s r'∧r'.length=r.length)
 row:∀ sz,(∀ r ∈ rows,r.length=sz)->∀ r ∈ rows',r.length=sz
def Aq.refl (rows:List (List C)):Aq rows rows:=⟨rfl,fun i k c h=>⟨c,h,.inl rfl⟩,fun _ h=>h⟩
def I8 {f:List (List C)->List (List C)}:∀ (hops:List eK) (sz:Nat) (rows:List (List C)) (sz':Nat) (rows':List (List C)),vA sz rows hops=some (sz',rows')->CM rows' (f rows')->(jw rows hops f).length=rows.length
 | [],sz,rows,sz',rows',h,ht=>by rw [qQ] at h;cases h;rw [Dm];exact ht.len
 | (i,k)::hs,sz,rows,sz',rows',h,ht=>by
  rw [Dh];split
  ·exact HW _ _ _ _
  ·rfl
def Kq {f:List (List C)->List (List C)}:∀ (hops:List eK) (sz:Nat) (rows:List (List C)) (sz':Nat) (rows':List (List C)),vA sz rows hops=some (sz',rows')->CM rows' (f rows')->
  ∀ (p:List eK) (sz2:Nat) (rows2':List (List C)),vA sz (jw rows hops f) p=some (sz2,rows2')->
   ∃ rows2,vA sz rows p=some (sz2,rows2)∧((p=hops∧rows2'=f rows2)∨(p≠hops∧Aq rows2 rows2'))
 | [],sz,rows,sz',rows',h,ht,p,sz2,rows2',hp=>by
  rw [qQ] at h;cases h
  rw [Dm] at hp;cases p with
  | nil=>rw [qQ] at hp;cases hp;exact ⟨rows,rfl,.inl ⟨rfl,rfl⟩⟩
  | cons hd q=>
   obtain ⟨i,k⟩:=hd;rw [xF] at hp;split at hp
   ·rename_i s r hc;rw [ht.own] at hc;exact ⟨rows2',by rw [xF,hc];exact hp,.inr ⟨by simp,Aq.refl _⟩⟩
   ·cases hp
 | (i,k)::hs,sz,rows,sz',rows',h,ht,p,sz2,rows2',hp=>by
  rw [xF] at h;split at h
  ·rename_i s r hc;have hset:jw rows ((i,k)::hs) f=setCell rows i k (.uv 2 s (jw r hs f)):=by rw [Dh,hc];rfl
   rw [hset] at hp;cases p with
   | nil=>
    rw [qQ] at hp;cases hp
    refine ⟨rows,rfl,.inr ⟨by simp,HW _ _ _ _,?_,fun sz0 h0=>OX h0 _ _ _⟩⟩;intro i' k' c' hcc;rw [Ia] at hcc;split at hcc
    ·rename_i hik;obtain ⟨rfl,rfl⟩:=hik;rw [hc] at hcc;simp only [dX,gu] at hcc;subst hcc;exact ⟨_,hc,.inr ⟨s,r,_,rfl,rfl,I8 hs s r sz' rows' h ht⟩⟩
    ·exact ⟨c',hcc,.inl rfl⟩
   | cons hd q=>
    obtain ⟨i',k'⟩:=hd;rw [xF,Ia] at hp;by_cases hik:i=i'∧k=k'
    ·obtain ⟨rfl,rfl⟩:=hik;rw [dQ ⟨rfl,rfl⟩,hc] at hp;simp only [dX] at hp;obtain ⟨rows2,h2,h3⟩:=Kq hs s r sz' rows' h ht q sz2 rows2' hp;refine ⟨rows2,by rw [xF,hc];exact h2,?_⟩;rcases h3 with ⟨rfl,e⟩ | ⟨hne,hlk⟩
     ·exact .inl ⟨rfl,e⟩
     ·exact .inr ⟨fun e=>hne (by simpa using e),hlk⟩
    ·rw [dN hik] at hp;refine ⟨rows2',by rw [xF];exact hp,.inr ⟨?_,Aq.refl _⟩⟩;intro e;simp at e;exact hik ⟨e.1.1.symm,e.1.2.symm⟩
  ·cases h
def lx (H:zl) (id:Nat) (hops:List eK) (f:List (List C)->List (List C)):zl:=H.modify id fun ob=>match ob with
 | ⟨kind,ty,sz,rows,fz⟩=>⟨kind,ty,sz,jw rows hops f,fz⟩
def B1 (H:zl) (id:Nat) (hops:List eK) (f:List (List C)->List (List C)) (j:Nat):(lx H id hops f)[j]?= (H[j]?).map fun ob=>if id=j then { ob with rows:=jw ob.rows hops f } else ob:=by
 unfold lx;rw [pq]
 rfl
def BN {H:zl} {id:Nat} {hops:List eK} {f:List (List C)->List (List C)} {sz:Nat} {rows:List (List C)} (hb:z6 H id hops=some (sz,rows)) (ht:CM rows (f rows)) {id':Nat} {p:List eK}
  {sz2:Nat} {rows2':List (List C)} (hp:z6 (lx H id hops f) id' p=some (sz2,rows2')):
  ∃ rows2,z6 H id' p=some (sz2,rows2)∧((id'=id∧p=hops∧rows2'=f rows2)∨(¬(id'=id∧p=hops)∧Aq rows2 rows2')):=by
 obtain ⟨ob,hob,hk,hg⟩:=jc hb;obtain ⟨ob',hob',hk',hg'⟩:=jc hp;rw [B1] at hob';by_cases hid:id=id'
 ·subst hid;rw [hob] at hob';simp only [dX,if_true,gu] at hob';subst hob';obtain ⟨rows2,h2,h3⟩:=Kq hops ob.sz ob.rows sz rows hg ht p sz2 rows2' hg';refine ⟨rows2,?_,?_⟩
  ·unfold z6;rw [hob];simp only [hk,if_true];exact h2
  ·rcases h3 with ⟨rfl,e⟩ | ⟨hne,hlk⟩
   ·exact .inl ⟨rfl,rfl,e⟩
   ·exact .inr ⟨fun e=>hne e.2,hlk⟩
 ·cases hx:H[id']? with
  | none=>rw [hx] at hob';cases hob'
  | some ob2=>
   rw [hx] at hob';simp only [dX,hid,if_false,gu] at hob';subst hob';refine ⟨rows2',?_,.inr ⟨fun e=>hid e.1.symm,Aq.refl _⟩⟩;unfold z6;rw [hx];simp only [hk',if_true];exact hg'
def qd.write {w:World} {E:Env} {H:zl} (h:qd w E H) {id:Nat} {hops:List eK} {ob:Ob} {sz:Nat} {rows:List (List C)} {f:List (List C)->List (List C)} (hob:H[id]?= some ob)
  (hb:z6 H id hops=some (sz,rows)) (ht:CM rows (f rows)) (hrow:∀ r ∈ f rows,r.length=sz) {cur cur':Array Value} {e:TypeId} (hg:w.heap[E.β id hops]?= some (.cells cur e (0,0))) (hsz:cur'.size=cur.size)
  (hst:∀ o u,E.St (E.β id hops) o=some u->cur'[o]?= some u)
  (hc:∀ i k c,cellAt (f rows) i k=some c->∃ u,cur'[i * sz+k]?= some u∧qT E ob.kind id hops i k c u):
  qd (w.setRow (E.β id hops) cur') E (lx H id hops f)∧qB w E H (w.setRow (E.β id hops) cur') E (lx H id hops f):=by
 have hown:∀ b,jb E (lx H id hops f) b->jb E H b:=by
  rintro b ⟨id',p,⟨s2,r2⟩,hx,rfl⟩;obtain ⟨rows2,h2,_⟩:=BN hb ht hx;exact ⟨id',p,_,h2,rfl⟩
 refine ⟨⟨by rw [h.n];simp [lx],?_,?_,?_,?_,?_,?_⟩,⟨Env.le.refl E,fun _ _ _=>rfl,rfl,rfl,rfl,by simp [World.setRow],?_,fun b o u hu=>.inl hu,fun b hb'=>.inr (hown b hb')⟩⟩
 ·intro id' ob' p sz2 rows2' hob' hx;obtain ⟨rows2,h2,h3⟩:=BN hb ht hx
  have hkd:∃ ob0,H[id']?= some ob0∧ob'.kind=ob0.kind:=by
   rw [B1] at hob';cases hx':H[id']? with
   | none=>rw [hx'] at hob';cases hob'
   | some ob0=>
    rw [hx'] at hob';simp only [dX,gu] at hob';subst hob';exact ⟨ob0,rfl,by split <;> rfl⟩
  obtain ⟨ob0,hob0,hkd⟩:=hkd;have hB:=h.u9 id' ob0 p sz2 rows2 hob0 h2;rw [hkd];rcases h3 with ⟨rfl,rfl,rfl⟩ | ⟨hne,hlk⟩
  ·rw [hb] at h2;cases h2
   rw [hob] at hob0;cases hob0
   obtain ⟨cur0,e0,hg0,hs0,_⟩:=hB.u9;rw [hg] at hg0;cases hg0
   exact ⟨by rw [ht.len];exact hB.len,hrow,cur',e,setRow_heap w _ cur cur' e _ hg,by rw [hsz];exact hs0,hc⟩
  ·obtain ⟨cur0,e0,hg0,hs0,hc0⟩:=hB.u9
   have hdiff:E.β id' p≠E.β id hops:=fun he=>hne (by
    have:=h.inj id' p id hops _ _ h2 hb he;exact this)
   refine ⟨by rw [hlk.len];exact hB.len,hlk.row sz2 hB.row,cur0,e0,by rw [setRow_other w _ _ _ hdiff];exact hg0,hs0,?_⟩;intro i k c' hcc;obtain ⟨c,h4,h5⟩:=hlk.cell i k c' hcc;obtain ⟨u,hu,ho⟩:=hc0 i k c h4;refine ⟨u,hu,?_⟩;rcases h5 with rfl | ⟨s,r,r',rfl,rfl,hl⟩
   ·exact ho
   ·simp only [qT] at ho ⊢;rw [hl];exact ho
 ·intro id1 p1 id2 p2 x y hx hy he;obtain ⟨r1,h1,_⟩:=BN hb ht (rows2':=x.2) (sz2:=x.1) (by simpa using hx);obtain ⟨r2,h2,_⟩:=BN hb ht (rows2':=y.2) (sz2:=y.1) (by simpa using hy);exact h.inj id1 p1 id2 p2 _ _ h1 h2 he
 ·intro b o u hu;refine ⟨?_,(h.qs b o u hu).2⟩;by_cases hbb:b=E.β id hops
  ·subst hbb;unfold World.cell?;rw [setRow_heap w _ cur cur' e _ hg];simp;exact hst o u hu
  ·have:=(h.qs b o u hu).1;unfold World.cell? at this ⊢;simp only [setRow_other w _ _ _ hbb];exact this
 ·intro id' p x o u hx hu;obtain ⟨r1,h1,_⟩:=BN hb ht (rows2':=x.2) (sz2:=x.1) (by simpa using hx);obtain ⟨e1,ob',e2,e3⟩:=h.sep id' p _ o u h1 hu;refine ⟨e1,?_⟩;rw [B1,e2];exact ⟨_,rfl,by split <;> exact e3⟩
 ·intro id' ob' hob' hk;rw [B1] at hob';cases hx':H[id']? with
  | none=>rw [hx'] at hob';cases hob'
  | some ob0=>
   rw [hx'] at hob';simp only [dX,gu] at hob';have hk0:ob0.kind=2∧ob'.ty=ob0.ty:=by subst hob';revert hk;split <;> exact fun h=>⟨h,rfl⟩
   obtain ⟨cur0,hc0⟩:=h.ty id' ob0 hx' hk0.1;rw [hk0.2];by_cases hbb:E.β id' []=E.β id hops
   ·rw [hbb] at hc0 ⊢;rw [hg] at hc0;cases hc0
    exact ⟨cur',setRow_heap w _ cur cur' _ _ hg⟩
   ·exact ⟨cur0,by rw [setRow_other w _ _ _ hbb];exact hc0⟩
 ·intro id' ob' hob';rw [B1] at hob';cases hx':H[id']? with
  | none=>rw [hx'] at hob';cases hob'
  | some ob0=>
   rw [hx'] at hob';simp only [dX,gu] at hob';have h0:=h.fz id' ob0 hx';subst hob';split
   ·rename_i hid;subst hid;rw [hob] at hx';cases hx'
    obtain ⟨ob2,h1,_,h2⟩:=jc hb;rw [hob] at h1;cases h1
    dsimp only;rw [I8 hops _ _ _ _ h2 ht];exact h0
   ·exact h0
 ·intro k hk ho;rw [setRow_other w _ _ _ (fun e'=>ho ⟨id,hops,_,hb,e'.symm⟩)]
def yh (k:Nat) (cs:List C) (r:List C):List C:=r.take k++cs++r.drop (k+cs.length)
def kK (i k:Nat) (cs:List C) (rows:List (List C)):List (List C):=rows.modify i (yh k cs)
def H9 {k:Nat} {cs r:List C} (h:k+cs.length<=r.length):(yh k cs r).length=r.length:=by
 simp [yh];omega
def IG {k:Nat} {cs r:List C} (h:k+cs.length<=r.length) (j:Nat):(yh k cs r)[j]?= if k<=j∧j < k+cs.length then cs[j - k]? else r[j]?:=by
 unfold yh;rw [pQ];by_cases h1:j < k
 ·rw [dT (by simp;omega),gE,dQ h1,dN (by omega)]
 ·rw [gj (by simp;omega)];have hk:(r.take k).length=k:=by simp;omega
  rw [hk];by_cases h2:j < k+cs.length
  ·rw [dT (by omega),dQ ⟨by omega,h2⟩]
  ·rw [gj (by omega),pA,dN (by omega)]
   congr 1
   omega
def Ib {i k:Nat} {cs:List C} {rows:List (List C)} {r:List C} (hr:rows[i]?= some r) (h:k+cs.length<=r.length) (i' k':Nat):
  cellAt (kK i k cs rows) i' k'=if i=i'∧k<=k'∧k' < k+cs.length then cs[k' - k]? else cellAt rows i' k':=by
 unfold cellAt kK;rw [pq];by_cases hi:i=i'
 ·subst hi;rw [hr];simp only [if_true,rj,dX,gz,sT];rw [IG h]
 ·simp [hi]
def vm (P:Program) (H:zl) (t:TypeId) (a x:C):Option zl:=
 match a,P.info? t with
 | .ref id hops sz i k,some inf=>
  match z6 H id hops,H[id]? with
  | some (sz',rows),some ob=>
   match rows[i]? with
   | some r=>
    if (sz' == sz) && iX x && (x.cells.length == inf.size) && decide (k+x.cells.length<=r.length) && ((r.drop k).take x.cells.length).all zy && (ob.kind == 1 || x.cells.all jf) && (!hops.isEmpty || decide (ob.fz<=i)) && (hops.isEmpty || ob.fz == 0)
    then some (lx H id hops (kK i k x.cells)) else none
   | none=>none
  | _,_=>none
 | _,_=>none
section
variable {P:Program} {o:Oper} {ρ:Operand->C} {H:zl}
def qI.store (t:TypeId) (x y:Operand) (ho:o.op=.store t x y) {H':zl} (hs:vm P H t (ρ x) (ρ y)=some H'):qI P o ρ H .un H':=fun w E σ hh hl K hk=>by
 have hx:=hl x (by simp [ho,Op.operands]);have hy:=hl y (by simp [ho,Op.operands]);unfold vm at hs;split at hs
 rotate_left
 ·cases hs
 rename_i id hops sz i k inf ha hinf;split at hs
 rotate_left
 ·cases hs
 rename_i sz' rows ob hb hob;split at hs
 rotate_left
 ·cases hs
 rename_i r hr;split at hs
 rotate_left
 ·cases hs
 rename_i hcond;cases hs
 simp only [dU,gT,gh,pE,dV] at hcond;obtain ⟨⟨⟨⟨⟨⟨⟨rfl,hval⟩,hlen⟩,hfit⟩,hold⟩,hkd⟩,hfz⟩,_⟩:=hcond;obtain ⟨hll,hone,hno⟩:=Ff hy hval;rw [ha] at hx;have hB:=hh.u9 id ob hops sz' rows hob hb;obtain ⟨cur,e,hg,hcs,hcell⟩:=hB.u9;have hrl:r.length=sz':=hB.row r (dO hr);have hil:i < rows.length:=(dL.1 hr).1;have hx':σ x=.pointer (some ⟨E.β id hops,i * sz'+k,none⟩):=by generalize σ x=u at *;cases hx;rfl
 obtain ⟨vs,hvs⟩:∃ vs,vs=(σ y).cells.toList:=⟨_,rfl⟩;rw [<- hvs] at hll;have hvl:vs.length=(ρ y).cells.length:=hll.1.symm
 have hend:i * sz'+k+vs.length<=cur.size:=by
  have h1:(i+1) * sz'<=E.κ id hops * sz':=pt _ (gW hil hB.len);rw [pD] at h1;omega
 have hrun:=run_storeCells_at P (E.β id hops) (i * sz'+k) e vs 0 cur w hg (by simpa using hend) (fun v hv=>hone v (by rw [hvs] at hv;simpa using hv));simp only [rB] at hrun;obtain ⟨cur',hcur'⟩:∃ cur',cur'=(cur.toList.take (i * sz'+k)++vs++cur.toList.drop (i * sz'+k+vs.length)).toArray:=⟨_,rfl⟩;rw [<- hcur'] at hrun
 have hcget:∀ j:Nat,cur'[j]?= if i * sz'+k<=j∧j < i * sz'+k+vs.length then vs[j - (i * sz'+k)]? else cur[j]?:=by
  intro j;rw [hcur'];simp only [sb];rw [pQ];by_cases h1:j < i * sz'+k
  ·rw [dT (by simp;omega),gE,dQ h1,dN (by omega),gL]
  ·rw [gj (by simp;omega)];have hk':(cur.toList.take (i * sz'+k)).length=i * sz'+k:=by simp;omega
   rw [hk'];by_cases h2:j < i * sz'+k+vs.length
   ·rw [dT (by omega),dQ ⟨by omega,h2⟩]
   ·rw [gj (by omega),pA,dN (by omega),gL]
    congr 1
    omega
 have hr':(execOp σ o).run P w=.ok .skip (w.setRow (E.β id hops) cur'):=by
  unfold execOp
  have hsz2:(σ y).cells.size=inf.size:=by
   have:vs.length=(σ y).cells.size:=by rw [hvs];simp
   omega
  simp [ho,Instr.storeAt,Instr.sureAddr,hx',storeVar,jl hinf,hsz2,<- hvs,hrun]
 rw [hr']
 have hpos:∀ i' k',i' < rows.length->k' < sz'->(i * sz'+k<=i' * sz'+k'∧i' * sz'+k' < i * sz'+k+vs.length↔i=i'∧k<=k'∧k' < k+vs.length):=by
  intro i' k' hi' hk';constructor
  ·rintro ⟨h1,h2⟩
   have:i=i':=by
    rcases rC i i' with h | h | h
    ·exfalso
     have:(i+1) * sz'<=i' * sz':=pt _ h;rw [pD] at this;omega
    ·exact h
    ·exfalso
     have:(i'+1) * sz'<=i * sz':=pt _ h;rw [pD] at this;omega
   subst this;omega
  ·rintro ⟨rfl,h1,h2⟩;omega
 have htame:CM rows (kK i k (ρ y).cells rows):=by
  refine ⟨by simp [kK],?_⟩;intro i' k' s r0;rw [Ib hr hfit];split
  ·rename_i hin;obtain ⟨rfl,h1,h2⟩:=hin;constructor
   ·intro h;have:=dV.1 hno _ (dO h);simp [zy] at this
   ·intro h;simp only [cellAt,hr,gz] at h
    have hm:C.uv 2 s r0 ∈ (r.drop k).take (ρ y).cells.length:=by
     apply gm.2
     refine ⟨k' - k,?_⟩;rw [gE,dQ (by omega),pA,show k+(k' - k)=k' from by omega];exact h
    have:=hold _ hm;simp [zy] at this
  ·rfl
 have hW:=hh.write hob hb htame (cur:=cur) (cur':=cur') (e:=e) ?_ hg ?_ ?_ ?_
 ·exact hk _ _ E hW.1 .un hW.2
 ·intro r0 hr0;obtain ⟨j,hj⟩:=gm.1 hr0;unfold kK at hj;rw [pq] at hj;cases hx0:rows[j]? with
  | none=>rw [hx0] at hj;cases hj
  | some r1=>
   rw [hx0] at hj;simp only [rj,dX,gu] at hj;subst hj;by_cases hij:i=j
   ·subst hij;rw [hr] at hx0;cases hx0
    rw [dQ rfl,H9 hfit];exact hrl
   ·rw [dN hij];exact hB.row r1 (dO hx0)
 ·rw [hcur'];simp;omega
 ·intro off u hu;obtain ⟨e1,ob',e2,e3⟩:=hh.sep id hops _ off u hb hu;rw [hob] at e2;cases e2
  subst e1;simp at hfz
  have hsz0:ob.sz=sz':=by
   obtain ⟨ob2,h1,_,h2⟩:=jc hb;rw [hob] at h1;cases h1
   rw [qQ] at h2;cases h2
   rfl
  have ux:off < i * sz':=by
   rw [hsz0] at e3;exact gU e3 (pt _ hfz)
  rw [hcget,dN (by omega)];have:=(hh.qs _ _ _ hu).1;unfold World.cell? at this;rw [hg] at this;simpa using this
 ·intro i' k' c hcc;rw [Ib hr hfit] at hcc;split at hcc
  ·rename_i hin;obtain ⟨rfl,h1,h2⟩:=hin;obtain ⟨u,hu,hlu⟩:=hll.get hcc;have hnoc:=dV.1 hno _ (dO hcc);refine ⟨u,?_,(qT.loose hnoc).2 ⟨?_,hone u ?_⟩⟩
   ·rw [hcget,dQ (by omega),show i * sz'+k' - (i * sz'+k)=k' - k from by omega];exact hu
   ·rcases hkd with hkd | hkd
    ·simpa [Env.at,hkd] using hlu
    ·unfold Env.at
     split
     ·exact hlu.vL (hkd _ (dO hcc))
     ·exact hlu
   ·have:=dO hu;rw [hvs] at this;simpa using this
  ·rename_i hnot;obtain ⟨u,hu,hou⟩:=hcell i' k' c hcc;refine ⟨u,?_,hou⟩
   have hi'k':i' < rows.length∧k' < sz':=by
    unfold cellAt at hcc;cases hx0:rows[i']? with
    | none=>rw [hx0] at hcc;cases hcc
    | some r1=>
     rw [hx0] at hcc;refine ⟨(dL.1 hx0).1,?_⟩;have:=hB.row r1 (dO hx0);rw [<- this];exact (dL.1 hcc).1
   rw [hcget,dN]
   ·exact hu
   ·rw [hpos i' k' hi'k'.1 hi'k'.2,hvl];exact hnot
def zb (P:Program) (f:FuncId) (H:zl) (args:List C) (r:C) (H':zl):Prop:=
 ∀ (w:World) (E:Env) (vs:Array Value),qu w E H->LL E args vs.toList->
  Calls P f vs w fun e w'=>∃ v E',e=.returned v∧qu w' E' H'∧L E' r v∧Grow w E H w' E' H'
def qp (P:Program) (f:FuncId):Bool:=
 match P.funcs[f]? with
 | some fn => !(fn.name == "runtime.NumGoroutine") && fn.body.isSome
 | none=>false
def u6.call (cl:Call) (ho:o.op=.call cl) (x:Operand) (hcl:cl.callee=.value x) {f:FuncId} {first caps:List C} (hf:ρ x=.fn f first caps) (hcb:qp P f=true) {r:C} {H':zl}
  (hs:zb P f H (first++(cl.args.toList.map ρ)++caps) r H'):u6 P o ρ H r H':=fun w E σ hh hl K hk=>by
 have h0:=hl x (by simp [ho,Op.operands,Call.operands,hcl]);rw [hf] at h0
 obtain ⟨ys,zs,hv,h1,h2,h3,h4⟩:∃ ys zs,σ x=.func (.func f) ys zs∧first.length=ys.size∧caps.length=zs.size∧(∀ (i:Nat) c y,first[i]?= some c->ys[i]?= some y->L E c y)∧(∀ (i:Nat) c y,caps[i]?= some c->zs[i]?= some y->L E c y):=by
  generalize σ x=u at *;cases h0 with
  | fn f first caps ys zs h1 h2 h3 h4=>exact ⟨ys,zs,rfl,h1,h2,h3,h4⟩
 unfold qp at hcb;split at hcb
 rotate_left
 ·cases hcb
 rename_i fn hfn;simp only [dU,gX] at hcb;have hname : fn.name ≠ "runtime.NumGoroutine" := by simpa using hcb.1
 have hbody:fn.body≠none:=by intro hb;simp [hb] at hcb
 have hr:(execOp σ o).run P w=.ok (.enter f (ys++cl.args.map σ++zs)) w:=by
  unfold execOp;simp [ho,resolve,hcl,hv,Deferred.ofValue,invoke,callFunc,hfn,hname,hbody]
 rw [hr];refine (hs w E (ys++cl.args.map σ++zs) hh ?_).mono ?_
 ·have e1:LL E first ys.toList:=⟨by simpa using h1,fun i c y e1 e2=>h3 i c y e1 (by simpa using e2)⟩;have e2:LL E caps zs.toList:=⟨by simpa using h2,fun i c y e1 e2=>h4 i c y e1 (by simpa using e2)⟩
  have e3:LL E (cl.args.toList.map ρ) (cl.args.map σ).toList:=by
   refine ⟨by simp,?_⟩;intro i c y hc hy;rw [dP] at hc;rw [sW,dP] at hy;cases ha:cl.args.toList[i]? with
   | none=>rw [ha] at hc;cases hc
   | some a=>
    rw [ha] at hc hy;cases hc
    cases hy
    exact hl a (by simp [ho,Op.operands,Call.operands];right;have:=dO ha;simpa using this)
  have:=(e1.append e3).append e2;simpa using this
 ·rintro e w' ⟨v,E',rfl,h5,h6,h7⟩;exact ⟨v,rfl,hk v w' E' h5 h6 h7⟩
end
section
variable {P:Program} {o:Oper} {ρ:Operand->C} {H:zl}
def qI.extract (x:Operand) (n:Nat) (ho:o.op=.extract x n) {vs:List C} (hx:ρ x=.u1 vs) {c:C} (hc:vs[n]?= some c):qI P o ρ H c H:=fun w E σ hh hl K hk=>by
 have h0:=hl x (by simp [ho,Op.operands]);rw [hx] at h0
 obtain ⟨ys,hy,hlen,hll⟩:∃ ys,σ x=.tuple ys∧vs.length=ys.size∧∀ (i:Nat) c y,vs[i]?= some c->ys[i]?= some y->L E c y:=by
  generalize σ x=u at *;cases h0 with
  | u1 _ ys h1 h2=>exact ⟨ys,rfl,h1,h2⟩
 have ux:n < ys.size:=by rw [<- hlen];exact (dL.1 hc).1
 have hr:(execOp σ o).run P w=.ok (.value ys[n]) w:=by
  unfold execOp;simp [ho,Instr.extract,hy,ux]
 rw [hr];exact hk _ w E hh (hll n c _ hc (by simp [ux])) (qB.refl w E H)
def Gg:C->Bool
 | .ref .. | .jN _ | .fn ..=>true
 | _=>false
def qI.nilCheck (x:Operand) (ho:o.op=.nilCheck x) (hx:Gg (ρ x)=true):qI P o ρ H (ρ x) H:=fun w E σ hh hl K hk=>by
 have h0:=hl x (by simp [ho,Op.operands])
 have hr:(execOp σ o).run P w=.ok (.value (σ x)) w:=by
  unfold execOp;generalize ρ x=c at *;generalize hu:σ x=u at *;cases h0 <;> first | (simp [Gg] at hx;done) | (simp only [ho,hu];rfl)
 rw [hr];exact hk _ w E hh h0 (qB.refl w E H)
def qI.makeFunc (f:FuncId) (first caps:Array Operand) (ho:o.op=.makeFunc (.func f) first caps):qI P o ρ H (.fn f (first.toList.map ρ) (caps.toList.map ρ)) H:=fun w E σ hh hl K hk=>by
 have hr:(execOp σ o).run P w=.ok (.value (.func (.func f) (first.map σ) (caps.map σ))) w:=by
  unfold execOp;simp only [ho]
  rfl
 rw [hr];refine hk _ w E hh (.fn f _ _ _ _ (by simp) (by simp) ?_ ?_) (qB.refl w E H)
 ·intro i c y hc hy;rw [dP] at hc;rw [ub] at hy;cases ha:first[i]? with
  | none=>rw [ha] at hy;cases hy
  | some a=>
   rw [gL,ha] at hc;rw [ha] at hy;cases hc
   cases hy
   exact hl a (by simp [ho,Op.operands];left;exact ry ha)
 ·intro i c y hc hy;rw [dP] at hc;rw [ub] at hy;cases ha:caps[i]? with
  | none=>rw [ha] at hy;cases hy
  | some a=>
   rw [gL,ha] at hc;rw [ha] at hy;cases hc
   cases hy
   exact hl a (by simp [ho,Op.operands];right;exact ry ha)
def n6 (place:Nat->Option (Nat × Nat)):List C->List (Nat × C)->Option (List C)
 | cells,[]=>some cells
 | cells,(i,c)::rest=>match place i with
  | none=>none
  | some (off,size)=>if iX c && (c.cells.length == size) && decide (off+size<=cells.length) then n6 place (yh off c.cells cells) rest else none
def Kn:∀ (vs:List Value) (off k:Nat) (cells:Array Value),off+k+vs.length<=cells.size->
  ((vs.zipIdx k).foldl (fun cs (p:Value × Nat)=>cs.setIfInBounds (off+p.2) p.1) cells).size=cells.size∧
  ∀ j:Nat,((vs.zipIdx k).foldl (fun cs (p:Value × Nat)=>cs.setIfInBounds (off+p.2) p.1) cells)[j]?= if off+k<=j∧j < off+k+vs.length then vs[j - (off+k)]? else cells[j]?
 | [],off,k,cells,h=>⟨rfl,fun j=>by rw [dN (by simp)];rfl⟩
 | v::vs,off,k,cells,h=>by
  simp only [List.zipIdx_cons,tt,pV] at h ⊢;have ih:=Kn vs off (k+1) (cells.setIfInBounds (off+k) v) (by simp;omega);refine ⟨by rw [ih.1];simp,?_⟩;intro j;rw [ih.2 j];by_cases h1:off+k=j
  ·subst h1;rw [dN (by omega),dQ (by omega),ua];simp;omega
  ·by_cases h2:off+(k+1)<=j∧j < off+(k+1)+vs.length
   ·rw [dQ h2,dQ (by omega),show j - (off+k)=(j - (off+(k+1)))+1 from by omega];simp
   ·rw [dN h2,dN (by omega),ua];simp [h1]
def DB {E:Env} {place:Nat->Option (Nat × Nat)} {ρ:Operand->C} {σ:Operand->Value}:∀ (parts:List (Nat × Operand)) (cs:List C) (arr:Array Value),LL E cs arr.toList->(∀ u ∈ arr,u.oneCell'=true)->cs.all zy=true->
  (∀ p ∈ parts,L E (ρ p.2) (σ p.2))->∀ cs',n6 place cs (parts.map fun p=>(p.1,ρ p.2))=some cs'->
  ∃ arr',Instr.fill place arr (parts.map fun p=>(p.1,σ p.2))=some arr'∧LL E cs' arr'.toList∧(∀ u ∈ arr',u.oneCell'=true)∧cs'.all zy=true
 | [],cs,arr,hl,h1,hno,_,cs',h=>by
  simp only [List.map_nil,n6,gu] at h;subst h;exact ⟨arr,rfl,hl,h1,hno⟩
 | (i,x)::rest,cs,arr,hl,h1,hno,hp,cs',h=>by
  simp only [pI,n6] at h;split at h
  ·cases h
  ·rename_i off size hpl;split at h
   ·rename_i hcond;simp only [dU,gT,gh] at hcond;obtain ⟨⟨hv,hsz⟩,hfit⟩:=hcond;have hx:=hp (i,x) (by simp);obtain ⟨hll,hone,hnoc⟩:=Ff hx hv;have hlen:(σ x).cells.size=size:=by have:=hll.1;simp at this;omega
    have hal:arr.size=cs.length:=by have:=hl.1;simp at this;omega
    obtain ⟨vs,hvs⟩:∃ vs,vs=(σ x).cells.toList:=⟨_,rfl⟩;have hvl:vs.length=size:=by rw [hvs];simpa using hlen
    have hfold:=Kn vs off 0 arr (by omega)
    have hfe:(σ x).cells.zipIdx.foldl (fun cs (p:Value × Nat)=>cs.setIfInBounds (off+p.2) p.1) arr=(vs.zipIdx 0).foldl (fun cs (p:Value × Nat)=>cs.setIfInBounds (off+p.2) p.1) arr:=by
     rw [<- Array.foldl_toList,Array.toList_zipIdx,hvs]
    obtain ⟨arr2,harr2⟩:∃ arr2,arr2=(vs.zipIdx 0).foldl (fun cs (p:Value × Nat)=>cs.setIfInBounds (off+p.2) p.1) arr:=⟨_,rfl⟩;rw [<- harr2] at hfold hfe;have hcl:(ρ x).cells.length=size:=hsz
    have hl2:LL E (yh off (ρ x).cells cs) arr2.toList:=by
     refine ⟨by rw [H9 (by omega)];simp [hfold.1,hal],?_⟩;intro j c y hc hy;rw [IG (by omega)] at hc;rw [gL,hfold.2 j] at hy;simp only [rB] at hy;split at hc
     ·rename_i hin;rw [dQ (by omega)] at hy;exact hll.2 _ c y hc (by rw [<- hvs];exact hy)
     ·rename_i hin;rw [dN (by omega)] at hy;exact hl.2 j c y hc (by simpa using hy)
    have hone2:∀ u ∈ arr2,u.oneCell'=true:=by
     intro u hu;obtain ⟨j,hj⟩:=sQ.1 hu;rw [hfold.2 j] at hj;split at hj
     ·have:=dO hj;rw [hvs] at this;exact hone u (by simpa using this)
     ·exact h1 u (ry hj)
    have hno2:(yh off (ρ x).cells cs).all zy=true:=by
     rw [dV];intro c hc;unfold yh at hc;simp only [gH] at hc;rcases hc with (hc | hc) | hc
     ·exact dV.1 hno c (pJ hc)
     ·exact dV.1 hnoc c hc
     ·exact dV.1 hno c (rP hc)
    obtain ⟨arr',e1,e2,e3,e4⟩:=DB rest _ arr2 hl2 hone2 hno2 (fun p hpm=>hp p (by simp [hpm])) cs' h;refine ⟨arr',?_,e2,e3,e4⟩;simp only [pI,Instr.fill,hpl];rw [dN (by simp [hlen];omega),hfe];exact e1
   ·cases h
def DZ (P:Program) (t:TypeId) (parts:List (Nat × C)):Option (List C):=
 match mE P t,P.underlying t with
 | some z,some (.array _ e)=>
  match P.info? e with
  | some ie=>n6 (fun i=>some (i * ie.size,ie.size)) z parts
  | none=>none
 | some z,some (.struct fields)=>
  match fields.toList.mapM (fun f=>(P.info? f.type).map fun i=>(f.offset,i.size)) with
  | some places=>n6 (places.toArray[·]?) z parts
  | none=>none
 | _,_=>none
def qI.build (t:TypeId) (parts:Array (Nat × Operand)) (ho:o.op=.build t parts) {cs:List C} (hb:DZ P t (parts.toList.map fun p=>(p.1,ρ p.2))=some cs):qI P o ρ H (.agg cs) H:=fun w E σ hh hl K hk=>by
 have hp:∀ p ∈ parts.toList,L E (ρ p.2) (σ p.2):=fun p hpm=>hl p.2 (by
  simp only [ho,Op.operands];exact (List.mem_toArray).2 (gG.2 ⟨p,hpm,rfl⟩))
 have main:∃ arr,P.built t (parts.map fun (i,x)=>(i,σ x)).toList=some arr∧LL E cs arr.toList∧(∀ u ∈ arr,u.oneCell'=true):=by
  have e0:(parts.map fun (i,x)=>(i,σ x)).toList=parts.toList.map fun p=>(p.1,σ p.2):=by simp
  rw [e0];unfold DZ at hb;split at hb
  ·rename_i z n e hz hu;split at hb
   ·rename_i ie hie;obtain ⟨it,zv,h1,h2,h3,h4,h5,h6,h7⟩:=wC hz E;obtain ⟨arr,a1,a2,a3,a4⟩:=DB parts.toList z zv.cells h3 h4 h6 hp cs hb;exact ⟨arr,by simp only [Program.built,h1,hu,h2,hie];exact a1,a2,a3⟩
   ·cases hb
  ·rename_i z fields hz hu;split at hb
   ·rename_i places hpl;obtain ⟨it,zv,h1,h2,h3,h4,h5,h6,h7⟩:=wC hz E;obtain ⟨arr,a1,a2,a3,a4⟩:=DB parts.toList z zv.cells h3 h4 h6 hp cs hb;exact ⟨arr,by simp only [Program.built,h1,hu,h2,hpl];exact a1,a2,a3⟩
   ·cases hb
  ·cases hb
 obtain ⟨arr,h1,h2,h3⟩:=main
 have hr:(execOp σ o).run P w=.ok (.value (.agg arr)) w:=by
  unfold execOp;simp only [ho,Sem.run_bind,run_build w t _ arr h1,Result.andThen_ok]
  rfl
 rw [hr];exact hk _ w E hh (.agg cs arr (by simpa using h2.1) (fun i c y e1 e2=>h2.2 i c y e1 (by simpa using e2)) h3) (qB.refl w E H)
def qI.len (cl:Call) (ho:o.op=.call cl) (hcl:cl.callee=.builtin .len) (x:Operand) (hx:cl.args= #[x]) {t:TypeId} (ht:cl.argTypes= #[t]) {e:TypeId} (hu:P.underlying t=some (.slice e))
  {n:Nat} (hn:Ef (ρ x)=some n):qI P o ρ H (.v (.int .i64 n)) H:=fun w E σ hh hl K hk=>by
 have h0:=hl x (by simp [ho,Op.operands,Call.operands,hcl,hx])
 have hv:∃ a cap,σ x=.slice a n cap:=by
  generalize ρ x=c at *;generalize σ x=u at *;cases h0 <;> first | (simp [Ef] at hn;done) | (simp only [Ef,gu] at hn;subst hn;exact ⟨_,_,rfl⟩)
 obtain ⟨a,cap,hv⟩:=hv
 have hr:(execOp σ o).run P w=.ok (.value (.int .i64 n)) w:=by
  unfold execOp;simp [ho,resolve,hcl,hx,ht,invoke,builtin,Builtin.len_,hv,run_underlying hu,goInt]
 rw [hr];exact hk _ w E hh (.v _ rfl) (qB.refl w E H)
def nA (P:Program) (t:TypeId) (cs:List C) (off:Nat):Option C:=
 match P.underlying t,P.info? t with
 | some d,some i=>if AR d then (if decide (off+i.size<=cs.length) then some (.agg ((cs.drop off).take i.size)) else none) else cs[off]?
 | _,_=>none
def AE {E:Env} {w:World} {t:TypeId} {cs:List C} {ys:Array Value} (hll:LL E cs ys.toList) (h1:∀ y ∈ ys,y.oneCell'=true) {off:Nat} {c:C} (hc:nA P t cs off=some c):
  ∃ y,(part t ys off).run P w=.ok y w∧L E c y:=by
 unfold nA at hc;split at hc
 ·rename_i d i hd hi;split at hc
  ·rename_i hag;split at hc
   ·rename_i hlen;simp only [gh] at hlen;cases hc
    have hy:=hll.1;simp at hy;refine ⟨.agg (ys.extract off (off+i.size)),by simp [part,kV hd,hag,jl hi],.agg _ _ (by simp;omega) ?_ ?_⟩
    ·intro k c y hc hy';rw [gE] at hc;split at hc
     ·rename_i hk;rw [pA] at hc;rw [Array.getElem?_extract] at hy';split at hy'
      ·exact hll.2 _ c y hc (by simpa using hy')
      ·cases hy'
     ·cases hc
    ·intro y hym;obtain ⟨k,hk⟩:=sQ.1 hym;rw [Array.getElem?_extract] at hk;split at hk
     ·exact h1 y (ry hk)
     ·cases hk
   ·cases hc
  ·rename_i hag;obtain ⟨y,hy,hly⟩:=hll.get hc;rw [gL] at hy;exact ⟨y,by simp [part,kV hd,hag,hy],hly⟩
 ·cases hc
def qI.field (t:TypeId) (x:Operand) (f:Nat) (ho:o.op=.field t x f) {fs:Array Field} {fd:Field} (ht:P.underlying t=some (.struct fs)) (hf:fs[f]?= some fd) {cs:List C} (hx:ρ x=.agg cs) {c:C}
  (hc:nA P fd.type cs fd.offset=some c):qI P o ρ H c H:=fun w E σ hh hl K hk=>by
 have h0:=hl x (by simp [ho,Op.operands]);rw [hx] at h0
 obtain ⟨ys,hy,hll,h1⟩:∃ ys,σ x=.agg ys∧LL E cs ys.toList∧∀ y ∈ ys,y.oneCell'=true:=by
  generalize σ x=u at *;cases h0 with
  | agg _ ys h1 h2 h3=>exact ⟨ys,rfl,⟨by simpa using h1,fun i c y e1 e2=>h2 i c y e1 (by simpa using e2)⟩,h3⟩
 obtain ⟨y,hr0,hly⟩:=AE (w:=w) hll h1 hc
 have hr:(execOp σ o).run P w=.ok (.value y) w:=by
  unfold execOp;simp [ho,Instr.field,run_underlying ht,hf,hy,asAgg,hr0]
 rw [hr];exact hk _ w E hh hly (qB.refl w E H)
def qI.PB (t:TypeId) (x y:Operand) (ho:o.op=.index t x y) {n:Nat} {e:TypeId} {i:TypeInfo} (ht:P.underlying t=some (.array n e)) (hi:P.info? e=some i) {cs:List C} (hx:ρ x=.agg cs)
  {k:IntKind} {j:Int} (hy:ρ y=.v (.int k j)) (h0:0<=j) (h1:j < n) {c:C} (hc:nA P e cs (j.toNat * i.size)=some c):qI P o ρ H c H:=fun w E σ hh hl K hk=>by
 have hlx:=hl x (by simp [ho,Op.operands]);have hly:=hl y (by simp [ho,Op.operands]);rw [hx] at hlx;rw [hy] at hly
 obtain ⟨ys,hyx,hll,hone⟩:∃ ys,σ x=.agg ys∧LL E cs ys.toList∧∀ y ∈ ys,y.oneCell'=true:=by
  generalize σ x=u at *;cases hlx with
  | agg _ ys h1 h2 h3=>exact ⟨ys,rfl,⟨by simpa using h1,fun i c y e1 e2=>h2 i c y e1 (by simpa using e2)⟩,h3⟩
 have hyv:σ y=.int k j:=by generalize σ y=u at *;cases hly;rfl
 obtain ⟨y',hr0,hly'⟩:=AE (w:=w) hll hone hc
 have hr:(execOp σ o).run P w=.ok (.value y') w:=by
  unfold execOp;simp [ho,Instr.index,asIntOf,hyv,run_underlying ht,hyx,h0,h1,jl hi,hr0]
 rw [hr];exact hk _ w E hh hly' (qB.refl w E H)
end
section
variable {P:Program} {o:Oper} {ρ:Operand->C} {H:zl}
def xJ (H:zl):C->Option (Nat × List (List C))
 | .uv o sz rows=>if o == 0 || o == 1 then some (sz,rows) else none
 | .sl id hops sz lo len _=>match H[id]?,z6 H id hops with
  | some ob,some (sz',rows)=>if (sz' == sz) && (ob.kind == 2) && decide (lo+len<=rows.length) && ((rows.drop lo).take len).all (·.all zy) then some (sz,(rows.drop lo).take len) else none
  | _,_=>none
 | _=>none
structure ky (E:Env) (sz:Nat) (rows:List (List C)) (vals:List Value):Prop where
 len:vals.length=rows.length * sz
 row:∀ r ∈ rows,r.length=sz
 cell:∀ i k c,cellAt rows i k=some c->∃ u,vals[i * sz+k]?= some u∧L E.shut c u
 one:∀ u ∈ vals,u.oneCell'=true
def C9 {rows:List (List C)} {sz:Nat} (hrow:∀ r ∈ rows,r.length=sz) {i k:Nat} {c:C} (h:cellAt rows i k=some c):i < rows.length∧k < sz:=by
 unfold cellAt at h;cases hx:rows[i]? with
 | none=>rw [hx] at h;cases h
 | some r=>
  rw [hx] at h;refine ⟨(dL.1 hx).1,?_⟩;rw [<- hrow r (dO hx)];exact (dL.1 h).1
def wI {rows:List (List C)} {sz:Nat} (hrow:∀ r ∈ rows,r.length=sz) {i k:Nat} (hi:i < rows.length) (hk:k < sz):∃ c,cellAt rows i k=some c:=by
 have hr:rows[i]?= some rows[i]:=by simp [hi]
 have hl:=hrow _ (dO hr);exact ⟨rows[i][k]'(by omega),by simp only [cellAt,hr,gz];exact dM (by omega)⟩
def EP {sz n j:Nat} (h:j < n * sz):j / sz < n∧j % sz < sz∧j / sz * sz+j % sz=j:=by
 have hsz:0 < sz:=by rcases rX sz with rfl | h' <;> simp_all
 refine ⟨Nat.div_lt_of_lt_mul (by rw [sd];exact h),Nat.mod_lt _ hsz,?_⟩;rw [sd];exact Nat.div_add_mod j sz
def ky.append {E:Env} {sz:Nat} {rows rows':List (List C)} {vals vals':List Value} (h:ky E sz rows vals) (h':ky E sz rows' vals'):ky E sz (rows++rows') (vals++vals') where
 len:=by rw [gR,gR,h.len,h'.len,pD]
 row r hr:=by rcases gH.1 hr with hr | hr;exact h.row r hr;exact h'.row r hr
 cell i k c hc:=by
  by_cases hi:i < rows.length
  ·have hc':cellAt rows i k=some c:=by unfold cellAt at hc ⊢;rw [dT hi] at hc;exact hc
   obtain ⟨u,hu,hl⟩:=h.cell i k c hc';exact ⟨u,by rw [dT ((dL.1 hu).1)];exact hu,hl⟩
  ·have hc':cellAt rows' (i - rows.length) k=some c:=by unfold cellAt at hc ⊢;rw [gj (by omega)] at hc;exact hc
   obtain ⟨u,hu,hl⟩:=h'.cell _ k c hc';refine ⟨u,?_,hl⟩;have hge:rows.length * sz<=i * sz:=pt _ (by omega);rw [gj (by rw [h.len];omega),h.len];have:i * sz+k - rows.length * sz=(i - rows.length) * sz+k:=by rw [Nat.sub_mul];omega
   rw [this];exact hu
 one u hu:=by rcases gH.1 hu with hu | hu;exact h.one u hu;exact h'.one u hu
def yk {w:World} {E:Env} (h:qd w E H) {c:C} {y:Value} (hl:L E c y) {sz:Nat} {rows:List (List C)} (hr:xJ H c=some (sz,rows)):
  (rows=[]∧y=.slice none 0 0)∨∃ a cap vals,y=.slice (some a) rows.length cap∧rows.length<=cap∧ky E sz rows vals∧(∀ (j:Nat) u,vals[j]?= some u->w.cell? (a.add j)=some u):=by
 cases hl with
 | xt o sz' ho a=>
  simp only [xJ] at hr;split at hr
  ·cases hr
   cases a with
   | none=>exact .inl ⟨rfl,rfl⟩
   | some a=>exact .inr ⟨a,0,[],rfl,dW _,⟨by simp,by simp,by simp [cellAt],by simp⟩,by simp⟩
  ·cases hr
 | uv o sz' rows' b off cap us ho hc hsz hst hL=>
  simp only [xJ] at hr;split at hr
  ·cases hr
   right
   have key:∀ j,j < rows.length * sz->∃ c,cellAt rows (j / sz) (j % sz)=some c∧E.St b (off+j)=some (us (j / sz) (j % sz)):=by
    intro j hj;obtain ⟨h1,h2,h3⟩:=EP hj;obtain ⟨c,hcc⟩:=wI hsz h1 h2;refine ⟨c,hcc,?_⟩;have hr0:rows[j / sz]?= some rows[j / sz]:=by simp [h1]
    have:=hst (j / sz) _ (j % sz) c hr0 (by unfold cellAt at hcc;rw [hr0] at hcc;exact hcc);rw [rp,h3] at this;exact this
   refine ⟨_,cap,(List.range (rows.length * sz)).map (fun j=>us (j / sz) (j % sz)),rfl,hc,⟨by simp,hsz,?_,?_⟩,?_⟩
   ·intro i k c hcc;obtain ⟨h1,h2⟩:=C9 hsz hcc;have hr0:rows[i]?= some rows[i]:=by simp [h1]
    have ux:i * sz+k < rows.length * sz:=by
     have:(i+1) * sz<=rows.length * sz:=pt _ h1;rw [pD] at this;omega
    have e1:(i * sz+k) / sz=i:=by rw [sd,Nat.mul_add_div (by omega),Nat.div_eq_of_lt h2];rfl
    have e2:(i * sz+k) % sz=k:=by rw [sd,uq,sV h2]
    refine ⟨us i k,by simp [ux,e1,e2],hL i _ k c hr0 (by unfold cellAt at hcc;rw [hr0] at hcc;exact hcc)⟩
   ·intro u hu;obtain ⟨j,hj,rfl⟩:=gG.1 hu;obtain ⟨c,_,hs⟩:=key j (by simpa using hj);exact (h.qs _ _ _ hs).2
   ·intro j u hj;rw [dP] at hj;cases hjr:(List.range (rows.length * sz))[j]? with
    | none=>rw [hjr] at hj;cases hj
    | some j'=>
     rw [hjr] at hj;obtain ⟨hjlt,hj'⟩:=dL.1 hjr;simp at hj' hjlt;subst hj';cases hj
     obtain ⟨c,_,hs⟩:=key j hjlt;rw [xC];exact (h.qs _ _ _ hs).1
  ·cases hr
 | sl id hops sz' lo len full cap hn hlen hf hf'=>
  simp only [xJ] at hr;split at hr
  rotate_left
  ·cases hr
  rename_i ob sz2 rows2 hob hb;split at hr
  rotate_left
  ·cases hr
  rename_i hcond;simp only [dU,gT,gh,dV] at hcond;obtain ⟨⟨⟨rfl,hkd⟩,hfit⟩,hno⟩:=hcond;cases hr
  right
  have hB:=h.u9 id ob hops _ rows2 hob hb;obtain ⟨cur,e,hg,hcs,hcell⟩:=hB.u9;have hrl:((rows2.drop lo).take len).length=len:=by simp;omega
  have hsub:∀ i k,cellAt ((rows2.drop lo).take len) i k=if i < len then cellAt rows2 (lo+i) k else none:=by
   intro i k;unfold cellAt;rw [gE];split
   ·rw [pA]
   ·rfl
  have hrow:∀ r ∈ (rows2.drop lo).take len,r.length=sz:=fun r hr=>hB.row r (rP (pJ hr))
  have key:∀ j,j < len * sz->∃ c u,cellAt ((rows2.drop lo).take len) (j / sz) (j % sz)=some c∧cur[lo * sz+j]?= some u∧L E.shut c u∧u.oneCell'=true:=by
   intro j hj;obtain ⟨h1,h2,h3⟩:=EP hj;obtain ⟨c,hcc⟩:=wI hrow (by rw [hrl];exact h1) h2;have hcc2:=hcc;rw [hsub,dQ h1] at hcc2;obtain ⟨u,hu,ho⟩:=hcell _ _ c hcc2
   have hnc:zy c=true:=by
    unfold cellAt at hcc;cases hx:((rows2.drop lo).take len)[j / sz]? with
    | none=>rw [hx] at hcc;cases hcc
    | some r=>
     rw [hx] at hcc;exact hno r (dO hx) c (dO hcc)
   rw [qT.loose hnc] at ho;refine ⟨c,u,hcc,?_,by simpa [Env.at,hkd] using ho.1,ho.2⟩;have:(lo+j / sz) * sz+j % sz=lo * sz+j:=by rw [pD];omega
   rw [<- this];exact hu
  have hlen2:len=((rows2.drop lo).take len).length:=hrl.symm;refine ⟨_,cap,(List.range (len * sz)).map (fun j=>cur.getD (lo * sz+j) undef),by rw [<- hlen2],by rw [<- hlen2];exact hlen,⟨by simp [hrl],hrow,?_,?_⟩,?_⟩
  ·intro i k c hcc;obtain ⟨h1,h2⟩:=C9 hrow hcc;rw [hrl] at h1
   have ux:i * sz+k < len * sz:=by
    have:(i+1) * sz<=len * sz:=pt _ h1;rw [pD] at this;omega
   obtain ⟨c',u,h3,h4,h5,_⟩:=key _ ux;have e1:(i * sz+k) / sz=i:=by rw [sd,Nat.mul_add_div (by omega),Nat.div_eq_of_lt h2];rfl
   have e2:(i * sz+k) % sz=k:=by rw [sd,uq,sV h2]
   rw [e1,e2,hcc] at h3;cases h3
   refine ⟨u,?_,h5⟩;simp only [dP,rk ux,dX,gV,h4,gY]
  ·intro u hu;obtain ⟨j,hj,rfl⟩:=gG.1 hu;obtain ⟨c,u,_,h4,_,h6⟩:=key j (by simpa using hj);simpa [gV,h4] using h6
  ·intro j u hj;rw [dP] at hj;cases hjr:(List.range (len * sz))[j]? with
   | none=>rw [hjr] at hj;cases hj
   | some j'=>
    rw [hjr] at hj;obtain ⟨hjlt,hj'⟩:=dL.1 hjr;simp at hj' hjlt;subst hj';obtain ⟨c,u',_,h4,_,_⟩:=key j hjlt;simp only [dX,gV,h4,gY,gu] at hj;subst hj;rw [xC];unfold World.cell?;rw [hg];simpa using h4
 | _=>simp [xJ] at hr
end
abbrev tZ (l:List C):List C:=.za::.za::.za::.za::.za::.za::.za::.za::l
abbrev tf:List C:=[.ref 5 [] 8 0 0,.ref 6 [] 44 0 0]
abbrev tj:List C:=[.ref 0 [] 8 0 0,.ref 1 [] 44 0 0]
def zz {H:zl}{q:Prop}(h:q):H=H∧q:=⟨rfl,h⟩
def dd {p q:Prop}(h:q)(e:q→p:=by intro zh;(conv=>whnf);(try apply zz;conv=>whnf);exact zh):p:=e h
def ya {p q:Prop}(h:p):(true=true→p)∧(true=false→q):=⟨fun _=>h,fun h=>nomatch h⟩
def yb {p q:Prop}(h:q):(false=true→p)∧(false=false→q):=⟨fun h=>(nomatch h),fun _=>h⟩
def hU {p:Prop}(n:p:=by (conv=>whnf);(repeat (refine ⟨rfl,?_⟩;(conv=>whnf)));exact trivial):p:=n
def hZ {g q:Prop}(h:q)(e:q->g:=by intro zh;(repeat (refine ⟨rfl,?_⟩;(conv=>whnf)));exact zh):g:=e h
def tc {g q:Prop}(h:q)(e:q->g:=by intro zh;(repeat ((first | apply ya | apply yb);(conv=>whnf);(try apply zz;conv=>whnf)));exact zh):g:=e h
def td {α:Type}{l:List α}{k:Nat}{x:α}{P:α->Prop}{q:Prop}(hg:l[k]?= some x)(h:q)(e:q->P x:=by intro zh;(conv=>whnf);(try apply zz;conv=>whnf);exact zh):0<=(k:Int)∧∃ r,l[(k:Int).toNat]?= some r∧P r:=⟨sL k,x,hg,e h⟩
def uA {a b p s q:Prop}(h:q)(n:b->False:=by intro h;first | (simp [hpc] at h;done) | (have h:=gK h;omega) | (have h:=pF h;omega))(e:q->p:=by intro zh;(conv=>whnf);(try apply zz;conv=>whnf);exact zh):(a->p)∧(b->s):=⟨fun _=>e h,fun x=>(n x).elim⟩
def uB {a b p s q:Prop}(h:q)(n:a->False:=by intro h;first | (simp [hpc] at h;done) | (have h:=gK h;omega) | (have h:=pF h;omega))(e:q->s:=by intro zh;(conv=>whnf);(try apply zz;conv=>whnf);exact zh):(a->p)∧(b->s):=⟨fun x=>(n x).elim,fun _=>e h⟩
def uC {g q:Prop}(h:q)(e:q->g:=by intro zh;(first | apply ya | apply yb);(conv=>whnf);(try apply zz;conv=>whnf);exact zh):g:=e h
def uD {g q:Prop}(h:q)(e:q->g:=by intro zh;(conv=>whnf);(refine ⟨fun h=>absurd h (by simp),fun _=>?_⟩);(conv=>whnf);(try apply zz;conv=>whnf);(refine ⟨by simp,?_⟩);(conv=>whnf);exact zh):g:=e h
def uE {g q:Prop}(h:q)(e:q->g:=by intro zh;refine .inl ⟨⟨false,[],[],[]⟩,by kernel_rfl,?_⟩;(conv=>whnf);exact zh):g:=e h
def uF {a b p s q:Prop}(h:q)(n:b->False:=by intro h;exact absurd h (by simp;omega))(e:q->p:=by intro zh;(conv=>whnf);(try apply zz;conv=>whnf);exact zh):(a->p)∧(b->s):=⟨fun _=>e h,fun x=>(n x).elim⟩
def uG {g q:Prop}(h:q)(e:q->g:=by intro zh;refine ⟨fun h=>absurd h (by simp),fun _=>?_⟩;(conv=>whnf);(try apply zz;conv=>whnf);exact zh):g:=e h
def uH {g q:Prop}(h:q)(e:q->g:=by intro zh;(conv=>whnf);exact zh):g:=e h
def uI {g:Prop}(e:g:=by exact ⟨.inl rfl,_,.refl _,rfl⟩):g:=e
def uJ {g:Prop}(e:g:=by exact ⟨.inl rfl,_,.refl _,rfl,rfl⟩):g:=e
def uK {p q:Prop}(n:p->q:=by intro h;dsimp only at h;omega):p->q:=n
def uL {p:Prop}(n:p:=by dsimp only;omega):p:=n
def uM {p:Prop}(n:p:=by (try dsimp only);(repeat' split) <;> omega):p:=n
def uN {b b2:Bool}(h:b=b2):some (C.v (Value.bool b))=some (C.v (Value.bool b2)):=pW (fun b=>some (C.v (Value.bool b))) h
def uO {p:Prop}(n:p:=by exact ⟨tm.listen,tm.word,tm.link,tm.host,tm.path,tm.d0,tm.d1,tm.cfg,tm.iF⟩):p:=n
def uP {p:Prop}(n:p:=by exact ⟨tm.listen,tm.word,tm.link,tm.host,tm.path,tm.d0,tm.d1,tm.cfg,(fun h=>absurd ((show m.op.kind=6 from h).symm.trans hk) (by decide))⟩):p:=n
def uQ {p:Prop}(n:p:=by exact ⟨su.world,su.zf,su.done,su.version,su.eQ,su.zi,su.ey,su.end_,su.eL,su.other,su.slot,su.listen,su.i,su.k⟩):p:=n
def uR {p:Prop}(n:p:=by exact ⟨su.world,su.zf,su.done,su.version,su.eQ,su.zi,su.ey,su.end_,su.eL,su.other,su.slot,su.listen,(by show 0<=m.i+1;omega),su.k⟩):p:=n
def uS {p:Prop}(n:p:=by exact ⟨su.world,su.zf,su.done,su.version,su.eQ,su.zi,su.ey,su.end_,su.eL,su.other,su.slot,su.listen,gk _,su.k⟩):p:=n
def uT {p:Prop}(n:p:=by (show zK _ _::zK _ _::zK _ ⟨1,0,5,_,0⟩::zK _ ⟨1,0,2,_,0⟩::zK _ ⟨1,0,3,_,0⟩::_=_);(rw [zH (enc:=zF) (fun _=>rfl),zH (enc:=zE) (fun _=>rfl),zH (enc:=zx) (fun _=>rfl)]);rfl):p:=n
def uU {p:Prop}(n:p:=by (show zG _ _::zG _ _::zG _ ⟨1,0,5,_,0⟩::zG _ ⟨1,0,2,_,0⟩::zG _ ⟨1,0,3,_,0⟩::_=_);(rw [zB (enc:=zF) (fun _=>rfl),zB (enc:=zE) (fun _=>rfl),zB (enc:=zx) (fun _=>rfl)]);rfl):p:=n
def uV {p:Prop}(n:p:=by show _::_::_::_::_::zG _ ⟨1,0,5,_,0⟩::zG _ ⟨1,0,2,_,0⟩::zG _ ⟨1,0,3,_,0⟩::_=_;rw [zB (enc:=zF) (fun _=>rfl),zB (enc:=zE) (fun _=>rfl),zB (enc:=zx) (fun _=>rfl)];rfl):p:=n
def uW {p:Prop}(n:p:=by show (1:Int)≠0;decide):p:=n
def uX {p:Prop}(n:p:=by simp [ho,Op.operands]):p:=n
def uY {p:Prop}(n:p:=by simpa using e2):p:=n
def uZ {p:Prop}(n:p:=by simp [ho,Op.operands,Call.operands,ht.callee,ht.args]):p:=n
def tA {p:Prop}(n:p:=by show zK _ _::zK _ _::zK _ ⟨1,0,5,_,0⟩::zK _ ⟨1,0,2,_,0⟩::zK _ ⟨1,0,3,_,0⟩::_=_;rw [zH (enc:=zF) (fun _=>rfl),zH (enc:=zE) (fun _=>rfl),zH (enc:=zx) (fun _=>rfl)];rfl):p:=n
def tB {p:Prop}(n:p:=by rw [hs.heap.n];exact hs.base):p:=n
def tD {p:Prop}(n:p:=by rw [hx];exact gQ hk):p:=n
def tE {p:Prop}(n:p:=by rw [<- hh.n];exact hi):p:=n
def tG {p:Prop}(n:p:=by simpa using h1):p:=n
def tH {p:Prop}(n:p:=by show _::_::_::_::_::zG _ ⟨1,0,1,_,0⟩::_=_;rw [zB (enc:=zN) (fun _=>rfl)];rfl):p:=n
def tI {p:Prop}(n:p:=by show (2:Int)≠0;decide):p:=n
def tJ {p:Prop}(n:p:=by rw [show B=0 from by simpa using h];rfl):p:=n
def tK {p:Prop}(n:p:=by simpa using le):p:=n
def tL {p:Prop}(n:p:=by subst e;simp [ho,Op.operands]):p:=n
def tM {p:Prop}(n:p:=by show (3:Int)≠0;decide):p:=n
def tN {p:Prop}(n:p:=by simpa using lg):p:=n
def tO {p:Prop}(n:p:=by rw [hh.n];exact hi):p:=n
def tP {p:Prop}(n:p:=by simpa using lv):p:=n
def tR {p:Prop}(n:p:=by simpa using this.1):p:=n
def tS {p:Prop}(n:p:=by show 0+1<=1;decide):p:=n
def tT {p:Prop}(n:p:=by simpa using h2):p:=n
end Go.Ab
