import Derived.WalkKit
import Derived.Still
import Derived.LoopN
import Derived.LoopNIn
import Derived.ControlIn
import Derived.CallsIn
import Derived.TacticsIn
import Derived.OrdersIn
import Derived.Scope
import Derived.RangeFuncLeaves
import Derived.RangeFuncRecord
set_option linter.all false
set_option maxRecDepth 100000
set_option maxHeartbeats 4000000
def aw {p:Prop}(n:p:=by omega):p:=n
def au {p:Prop}(n:p:=by kernel_rfl):p:=n
def aj {p:Prop}(n:p:=by simp):p:=n
def ar {p:Prop}(n:p:=by decide):p:=n
def aA {p:Prop}(n:p:=by simp;omega):p:=n
def aK {p:Prop}(n:p:=by show (0:Int) < _;omega):p:=n
def cI {p:Prop}(n:p:=by rw [gI];exact jv zF _ _ (xp m v0 g0 e0 tk hd ac) _ rfl):p:=n
def cH {p:Prop}(n:p:=by rw [gI];exact jv zE _ _ (yJ m g0 e0 tk hd ac) _ rfl):p:=n
def bQ {p:Prop}(n:p:=by rw [hlg];simp [maxLen];omega):p:=n
def cG {p:Prop}(n:p:=by rw [gI];exact jv zx _ _ (qw e0 hd ac) _ rfl):p:=n
def ay {p:Prop}(n:p:=by simp [maxLen];omega):p:=n
def bN {p:Prop}(n:p:=by rw [hx];exact gS hk):p:=n
def cb {p:Prop}(n:p:=by rw [hlg];show (k+1) * 64<=_;omega):p:=n
def bP {p:Prop}(n:p:=by rw [gR hk,<- hx];simp):p:=n
def cD {p:Prop}(n:p:=by rw [hpc];rfl):p:=n
def bR {p:Prop}(n:p:=by rw [pL];rfl):p:=n
def aJ {p:Prop}(n:p:=by show i64 (zU w.zd m.op.listen);unfold i64;omega):p:=n
def bO {p:Prop}(n:p:=by intro ob hob;simp at hob;rcases hob with rfl | rfl | rfl | rfl | rfl | rfl | rfl <;> first | exact hX _ | exact hY | rfl):p:=n
def aR {p:Prop}(n:p:=by show w.current < ((w.ze++[y9 m.op.config]).length:Nat);simp only [gW,rk];omega):p:=n
def aE {p:Prop}(n:p:=by have:=(jB gv.snap).zk.1;have:=gv.len;omega):p:=n
def bb {p:Prop}(n:p:=by show _ * 8<=_;simp;omega):p:=n
def bf {p:Prop}(n:p:=by show 1+1<=48;decide):p:=n
def aG {p:Prop}(n:p:=by have:=hs.base;simp;omega):p:=n
def bY {p:Prop}(n:p:=by intro u hu;simp at hu;subst hu;rfl):p:=n
def aV {p:Prop}(n:p:=by show x.done+1<=x.ops.length;omega):p:=n
def aY {p:Prop}(n:p:=by simp at h2;omega):p:=n
def bw {p:Prop}(n:p:=by have h1:=rE hB;have h2:=rE hn;simp;omega):p:=n
def cF {p:Prop}(n:p:=by show zK _ _::zK _ _::zK _ ⟨1,0,1,_,0⟩::_=_;rw [zH (enc:=zN) (fun _=>rfl)];rfl):p:=n
def bX {p:Prop}(n:p:=by simp only [fT,f.NF (by rw [<- f.h0.n];exact hi)]):p:=n
def aT {p:Prop}(n:p:=by rw [ho];exact hk):p:=n
def aW {p:Prop}(n:p:=by unfold yr;rw [hon];rfl):p:=n
def bn {p:Prop}(n:p:=by rw [mA];show _ * 104<=_;simp;omega):p:=n
def cB {p:Prop}(n:p:=by show 0+1<=3;decide):p:=n
def bu {p:Prop}(n:p:=by rw [h] at hr;cases hr):p:=n
def br {p:Prop}(n:p:=by rw [hrows.len,hcs,<- pI];exact pB _ hroom):p:=n
def bB {p:Prop}(n:p:=by simp [ho,hv,hc,eqGuard,binOp,run_equal_slice_nil w t e _ len cap ht]):p:=n
def aF {p:Prop}(n:p:=by simpa [Env.at] using ho.1):p:=n
def cf {p:Prop}(n:p:=by unfold kH;rw [dR (by simp at h1;omega)]):p:=n
def cg {p:Prop}(n:p:=by unfold vx;rw [dR (by simp at q1;omega)]):p:=n
def cm {p:Prop}(n:p:=by unfold vx;rw [dR (by simp at q2;omega)]):p:=n
def cp {p:Prop}(n:p:=by unfold kH;rw [dR (by simp at h2;omega)]):p:=n
def bJ {p:Prop}(n:p:=by rcases rB.1 h with h | h;exact absurd h.symm e;exact h):p:=n
def bU {p:Prop}(n:p:=by simp at q1;omega):p:=n
def b9 {p:Prop}(n:p:=by simp at h1;omega):p:=n
def aH {p:Prop}(n:p:=by simp [h]):p:=n
def bp {p:Prop}(n:p:=by rw [hh.n];exact u4):p:=n
def bz {p:Prop}(n:p:=by show _<=w2.heap.size;rw [a4];exact g.size):p:=n
def bH {p:Prop}(n:p:=by rw [<- l1];exact h2):p:=n
def bZ {p:Prop}(n:p:=by have:=st.ty.ey;show w.zd.length<=_;omega):p:=n
def aU {p:Prop}(n:p:=by rw [ho];omega):p:=n
def b8 {p:Prop}(n:p:=by rw [uy];simp [wm,GB,iu,ha,@eq_comm _ 1 b.kind]):p:=n
def aB {p:Prop}(n:p:=by rw [oW];decide):p:=n
def bD {p:Prop}(n:p:=by simp [ho,Op.operands,Call.operands,hcl]):p:=n
def cx {p:Prop}(n:p:=by show 2+1<=4;decide):p:=n
def bG {p:Prop}(n:p:=by unfold qb;rw [h2];exact (show vD sz0 rows0 hops=_ from hg')):p:=n
def aD {p:Prop}(n:p:=by simp [h1]):p:=n
def bm {p:Prop}(n:p:=by rw [mA];simp [maxLen];omega):p:=n
def aZ {p:Prop}(n:p:=by rw [h1];decide):p:=n
def bh {p:Prop}(n:p:=by show 47+1<=48;decide):p:=n
def bS {p:Prop}(n:p:=by rw [dV];exact hll.symm):p:=n
def bV {p:Prop}(n:p:=by have:=g.counts.1;have:=g.pins;omega):p:=n
def bt {p:Prop}(n:p:=by rw [jV hs.tmps hw];decide):p:=n
def bE {p:Prop}(n:p:=by intro hb;simp [hb] at hcb):p:=n
def bC {p:Prop}(n:p:=by simpa [Nat.blt_eq,Env.cut] using h):p:=n
def cq {p:Prop}(n:p:=by simp at h1 h2;omega):p:=n
def aI {p:Prop}(n:p:=by simp [hd]):p:=n
def ba {p:Prop}(n:p:=by rw [h2];trivial):p:=n
def bc {p:Prop}(n:p:=by rw [pb];rfl):p:=n
def bA {p:Prop}(n:p:=by rw [hh.n,hs.heap.n];exact hs.base):p:=n
def bF {p:Prop}(n:p:=by simp [h2]):p:=n
def bT {p:Prop}(n:p:=by rw [<- hh.n,<- h2.n];exact g.le.n):p:=n
def aX {p:Prop}(n:p:=by simp [u4]):p:=n
def bW {p:Prop}(n:p:=by rw [<- f.h0.n];exact hi):p:=n
def bo {p:Prop}(n:p:=by (try dsimp only);omega):p:=n
def aS {p:Prop}(n:p:=by show (0<=m.pc∧m.pc<=6)∨_;omega):p:=n
def bq {p:Prop}(n:p:=by simp only [maxLen] at hm;omega):p:=n
def aC {p:Prop}(n:p:=by unfold lD;rw [hnext,hev];rfl):p:=n
def aM {p:Prop}(n:p:=by show m.slot < _;omega):p:=n
def aO {p:Prop}(n:p:=by show (4:Int)≠0;decide):p:=n
def aP {p:Prop}(n:p:=by show (5:Int)≠0;decide):p:=n
def aQ {p:Prop}(n:p:=by show (0:Int)<=n;omega):p:=n
def aL {p:Prop}(n:p:=by show 0<=m.slot;omega):p:=n
def bj {p:Prop}(n:p:=by show 3+44<=48;decide):p:=n
def bL {p:Prop}(n:p:=by simp_all [Di]):p:=n
def ax {p:Prop}(n:p:=by simp [h5]):p:=n
def aN {p:Prop}(n:p:=by show e.zf<=_;omega):p:=n
def bM {p:Prop}(n:p:=by simp [h3]):p:=n
def cw {p:Prop}(n:p:=by simp at h2 ⊢;omega):p:=n
def cy {p:Prop}(n:p:=by show 3+1<=5;decide):p:=n
def cz {p:Prop}(n:p:=by show 1+1<=2;decide):p:=n
def cA {p:Prop}(n:p:=by show 2+1<=3;decide):p:=n
def aq {p q:Prop}(h:q)(e:q->p:=by intro zh;simpa using zh):p:=e h
def cJ {p:Prop}(n:p:=by exact ⟨.inl rfl,_,_,.refl _,rfl,cE 2⟩):p:=n
def cK {p:Prop}(n:p:=by exact ⟨.inl rfl,_,_,.refl _,rfl,zp.xx 6 hU rfl rfl rfl (zI rfl (zI rfl (zI (qh lowV) (zI (qh lowG) (zI (qh lowE) rfl))))) rfl⟩):p:=n
def cL {p:Prop}(n:p:=by exact ⟨.inl rfl,_,zp.var 1 rfl rfl rfl (.cons (.refl _) (.cons (.refl _) (.cons (.refl _) (.cons (WC.nil 0 1) (.cons (WC.nil 0 5) (.cons (WC.nil 0 4) (.cons (WC.nil 0 1) (.cons (WC.nil 0 3) .nil)))))))),rfl⟩):p:=n
def cM {p:Prop}(n:p:=by exact ⟨.inl rfl,_,_,.refl _,rfl,zp.xx 9 hU rfl rfl rfl (zI (qh (wV (b:=1) (n:=9) ar hX rfl)) rfl) rfl⟩):p:=n
def cN {p:Prop}(n:p:=by exact h.elim):p:=n
def cO {p:Prop}(n:p:=by refine dd ?_;refine td ?_;exact uI):p:=n
def cP {p:Prop}(n:p:=by exact ⟨.inl rfl,_,_,.refl _,rfl,zp.xx 4 hU rfl rfl rfl (zI rfl (zI rfl (zI (qh low) rfl))) rfl⟩):p:=n
def cQ {p:Prop}(n:p:=by simp at this;omega):p:=n
def cR {p:Prop}(n:p:=by refine tc ?_;exact cJ):p:=n
def cS {p:Prop}(n:p:=by exact ⟨_,_,.refl _,rfl,.inl ⟨rfl,rfl,rfl⟩⟩):p:=n
def cT {p:Prop}(n:p:=by refine ⟨aw,aA,dd ?_⟩;rw [e1];refine ⟨_,j9 aj hk,rfl,dd ?_⟩;refine .inl ⟨rfl,?_,trivial⟩;rw [zu aw,<- qV hF hk];exact cC):p:=n
def cU {p:Prop}(n:p:=by exact ⟨_,_,zp.mask [0,1,4,7,8] _ _,0,aj,rfl,aj,rfl⟩):p:=n
def cV {p:Prop}(n:p:=by refine .inl ⟨rfl,?_,trivial⟩;rw [zu aw];exact cE 0):p:=n
def cW {p:Prop}(n:p:=by exact ⟨.inl rfl,_,zp.keep [3] 1 _ _ rfl rfl rfl rfl,rfl,rfl⟩):p:=n
def cX {p:Prop}(n:p:=by exact (g2.frame k (g9 hk g.size) fun hc=>(g.own k hc).elim (fun h=>by omega) ho).trans (g.frame k hk ho)):p:=n
def cY {p:Prop}(n:p:=by rw [hr];exact hk _ w E hh (.v _ rfl) (qD.refl w E H)):p:=n
def cZ {p:Prop}(n:p:=by rw [estE,estG,estV];exact shut_map (enc:=zF) (fun _=>rfl) _):p:=n
def c7 {p:Prop}(n:p:=by refine ah jx ?_;refine td ?_;exact uI):p:=n
def c8 {p:Prop}(n:p:=by refine ⟨fun h=>absurd h aj,fun _=>dd ?_⟩;refine ⟨aj,uH ?_⟩;exact uI):p:=n
def c9 {p:Prop}(n:p:=by rw [estE,estG];exact shut_map (enc:=zE) (fun _=>rfl) _):p:=n
def da {p:Prop}(n:p:=by have g:=g1.trans g2;exact ⟨E1,⟨hR,hs.tmps.mono g.le,hs.defers.grow hs.heap g,aG⟩,g.fI tD⟩):p:=n
def db {p:Prop}(n:p:=by exact ⟨.inr rfl,_,.refl _,rfl,rfl⟩):p:=n
def dc {p:Prop}(n:p:=by rw [estE];exact shut_map (enc:=zx) (fun _=>rfl) _):p:=n
def de {p:Prop}(n:p:=by refine uD ?_;rw [y5 aj];exact ⟨.inl rfl,_,zp.ed [1] [6] _ _ rfl rfl rfl rfl,rfl,rfl⟩):p:=n
def df {p:Prop}(n:p:=by exact ⟨.inl rfl,_,zp.IH 2 rfl rfl (.inr rfl) aj (shut_map (fun _=>rfl) (x::l)),rfl⟩):p:=n
def dg {p:Prop}(n:p:=by rw [zu aw];exact cE 1):p:=n
def dh {p:Prop}(n:p:=by refine dd ?_;exact uJ):p:=n
def di {p:Prop}(n:p:=by refine dd ?_;exact uI):p:=n
def dj {p:Prop}(n:p:=by exact .agg _ ys tS (fun i c y e1 e2=>this.2 i c y e1 uZ) h3):p:=n
def dk {p:Prop}(n:p:=by refine ab func229 ?_;refine ah h ?_;exact uI):p:=n
def dm {p:Prop}(n:p:=by exact qz hd rfl rfl):p:=n
def dp {p:Prop}(n:p:=by refine .inl ⟨rfl,?_,trivial⟩;rw [zu aw];exact cE 2):p:=n
def dq {p:Prop}(n:p:=by exact ⟨.inl rfl,_,zp.cell 2 rfl (WC.nil 0 1),rfl⟩):p:=n
def dt {p:Prop}(n:p:=by have:=(dP.1 ho).1;exact cQ):p:=n
def du {p:Prop}(n:p:=by exact xi rfl rfl hd):p:=n
def dw {p:Prop}(n:p:=by exact zM rfl ⟨uW,st1,tg1,uO,rfl,rfl,jY.refl w _,qj w (kq p6 (ib su.done hk uM)),.inr ⟨v,g,e,uR,⟨uL,uK,uK,uK,uK⟩⟩⟩):p:=n
def dx {p:Prop}(n:p:=by exact ⟨rfl,fun _=>rfl,rfl⟩):p:=n
def dy {p:Prop}(n:p:=by exact ⟨.inl rfl,_,zp.zV 2 0 5 rfl rfl rfl rfl (.inr rfl) aj bS (shut_map (enc:=qK) (fun _=>rfl) _) (qa rfl),rfl⟩):p:=n
def dz {p:Prop}(n:p:=by refine uD ?_;rw [gX];exact uI):p:=n
def dA {p:Prop}(n:p:=by exact .fn f _ _ ys zs (aq t1.1) (aq t2.1) (fun i c y e1 e2=>t1.2 i c y e1 uZ) (fun i c y e1 e2=>t2.2 i c y e1 uZ)):p:=n
def dB {p:Prop}(n:p:=by exact this):p:=n
def dC {p:Prop}(n:p:=by exact ⟨.inl rfl,_,_,.refl _,rfl,cE 1⟩):p:=n
def dD {p:Prop}(n:p:=by exact hl a (by simp [ho,Op.operands,Call.operands];right;have:=dS ha;simpa using this)):p:=n
def dE {p:Prop}(n:p:=by refine .inl ⟨⟨true,[0,2,3],[0,1,5],[1]⟩,au,uH ?_⟩;refine ah (qy w sw) ?_;refine tc ?_;exact uI):p:=n
def dF {p:Prop}(n:p:=by exact ⟨.inl rfl,_,zp.cell 2 rfl (WC.nil 0 18),rfl⟩):p:=n
def dG {p:Prop}(n:p:=by rw [gD];exact ⟨hk,h2,fun j hj=>by simp only [hr j aw hj];decide⟩):p:=n
def dH {p:Prop}(n:p:=by have:=(hno4 h4).1;omega):p:=n
def dI {p:Prop}(n:p:=by refine .inl ⟨rfl,?_,trivial⟩;rw [zu aw];exact cC):p:=n
def dJ {p:Prop}(n:p:=by exact ⟨rfl,rfl⟩):p:=n
def dK {p:Prop}(n:p:=by exact ⟨rfl,rfl,fun _=>rfl⟩):p:=n
def dL {p:Prop}(n:p:=by exact gS hk):p:=n
def dM {p:Prop}(n:p:=by rw [e];exact cO):p:=n
def dN {p:Prop}(n:p:=by exact absurd h3 ar):p:=n
def dO {p:Prop}(n:p:=by rw [dR aw];refine uD ?_;rw [y5 aj];exact uJ):p:=n
def dP:=@List.getElem?_eq_some_iff
def dQ:=@List.getElem?_eq_getElem
def dR:=@if_neg
def dS:=@List.mem_of_getElem?
def dT:=@List.getElem?_map
def dU:=@if_pos
def dV:=@List.length_map
def dW:=@List.getElem?_set_self
def dX:=@List.getElem?_append_left
def dY:=@Bool.and_eq_true
def dZ:=@List.all_eq_true
def gd:=@of_decide_eq_true
def gf:=@Nat.le_refl
def gh:=@Option.map_some
def gj:=@List.getElem?_set
def gk:=@Option.some.inj
def gm:=@Array.getElem?_eq_some_iff
def gp:=@decide_eq_true_eq
def gu:=@List.getElem?_append_right
def gy:=@Int.le_refl
def gz:=@Nat.zero_add
def gA:=@List.mem_iff_getElem?
def gC:=@Option.some.injEq
def gD:=@List.findIdx?_eq_some_iff_getElem
def gE:=@Option.bind_some
def gF:=@Nat.zero_le
def gG:=@List.findIdx?_eq_none_iff
def gH:=@List.getElem?_take
def gI:=@List.set_set
def gJ:=@List.mem_append
def gK:=@Option.map_eq_some_iff
def gL:=@List.mem_map
def gM:=@List.mem_singleton
def gN:=@Array.getElem?_toList
def gO:=@Nat.not_lt_zero
def gP:=@Option.bind_eq_some_iff
def gQ:=@List.eq_of_mem_replicate
def gR:=@List.take_succ_eq_append_getElem
def gS:=@List.getElem_mem
def gT:=@beq_iff_eq
def gU:=@List.any_eq_false
def gV:=@List.mem_or_eq_of_mem_set
def gW:=@List.length_append
def gX:=@List.take_length
def gY:=@Nat.le_trans
def gZ:=@List.getElem?_set_ne
def g9:=@Nat.lt_of_lt_of_le
def pa:=@Array.getD_eq_getD_getElem?
def pb:=@List.map_append
def pd:=@Bool.not_eq_true'
def pj:=@Option.getD_some
def pn:=@decide_eq_false_iff_not
def pq:=@List.ext_getElem?
def pt:=@List.mem_iff_getElem
def pw:=@List.getElem?_mapIdx
def px:=@List.mem_cons_of_mem
def pz:=@Bool.or_eq_false_iff
def pA:=@List.getElem?_modify
def pB:=@Nat.mul_le_mul_right
def pC:=@List.getElem?_eq_none
def pD:=@List.mem_cons_self
def pE:=@List.getElem?_drop
def pF:=@List.map_cons
def pG:=@List.sum_cons
def pH:=@Nat.le_succ
def pI:=@Nat.add_mul
def pJ:=@Bool.or_eq_true
def pK:=@List.mem_of_mem_take
def pL:=@List.map_set
def pM:=@of_decide_eq_false
def pN:=@List.mem_range
def pO:=@List.getElem?_eq_none_iff
def pP:=@decide_eq_false
def pQ:=@List.any_eq_true
def pR:=@List.length_cons
def pS:=@congrArg
def pT:=@List.getElem?_cons_succ
def pU:=@Array.eq_empty_of_size_eq_zero
def pV:=@Int.toNat_of_nonneg
def pW:=@List.append_assoc
def pX:=@List.map_map
def pY:=@List.countP_append
def pZ:=@List.findIdx?_cons
def p9:=@Bool.not_eq_false'
def rb:=@List.length_eq_zero_iff
def rh:=@Nat.sub_zero
def ri:=@List.map_congr_left
def rj:=@Array.getElem?_eq_getElem
def rk:=@List.length_singleton
def rm:=@List.countP_singleton
def rp:=@Nat.sub_self
def rq:=@Bool.false_or
def ru:=@Option.map_eq_map
def ry:=@List.getElem?_range
def rz:=@Nat.lt_or_ge
def rA:=@Nat.add_assoc
def rB:=@List.mem_cons
def rC:=@decide_eq_true
def rD:=@Array.mem_of_getElem?
def rE:=@Nat.le_of_ble_eq_true
def rF:=@List.length_set
def rG:=@Nat.add_zero
def rH:=@List.sum_append
def rI:=@Nat.lt_trichotomy
def rJ:=@List.all_cons
def rK:=@List.replicate_succ
def rL:=@Array.getElem?_eq_none
def rM:=@List.take_of_length_le
def rO:=@List.set_cons_zero
def rP:=@Array.getElem?_modify
def rQ:=@List.append_nil
def rR:=@Int.tmod_eq_emod_of_nonneg
def rS:=@List.foldl_append
def rT:=@List.all_eq_false
def rU:=@List.map_eq_cons_iff
def rV:=@List.mem_of_mem_drop
def rW:=@Array.all_toList
def rX:=@Array.toList_append
def rY:=@List.getElem?_replicate
def rZ:=@Bool.false_eq_true
def r4:=@Int.emod_nonneg
def r5:=@Int.emod_lt_of_pos
def r6:=@Nat.eq_zero_or_pos
def r7:=@List.eq_nil_iff_forall_not_mem
def r8:=@List.findIdx?_map
def r9:=@List.take_append_drop
def sa:=@Nat.le_of_eq
def sb:=@List.length_replicate
def sd:=@Bool.and_false
def se:=@Nat.ne_of_lt
def sf:=@List.getElem?_toArray
def sg:=@Nat.mul_comm
def sq:=@List.mapM_cons
def sr:=@List.drop_zero
def sx:=@List.countP_le_length
def sy:=@List.findIdx?_append
def sA:=@Array.toList_inj
def sB:=@List.range_eq_range'
def sC:=@List.prefix_refl
def sD:=@Array.getElem?_append_left
def sE:=@List.exists_cons_of_ne_nil
def sF:=@Bool.and_true
def sG:=@Nat.mul_one
def sH:=@List.length_pos_iff
def sI:=@List.takeWhile_cons
def sJ:=@List.nil_append
def sK:=@List.set_cons_succ
def sL:=@List.map_singleton
def sM:=@List.sum_singleton
def sN:=@Bool.or_true
def sO:=@List.mem_replicate
def sP:=@Array.setIfInBounds_comm
def sQ:=@List.all_nil
def sR:=@List.take_left
def sS:=@List.getElem?_cons_zero
def sT:=@List.size_toArray
def sU:=@Array.mem_iff_getElem?
def sV:=@Bool.not_true
def sW:=@List.map_take
def sX:=@Bool.true_and
def sY:=@true_and
def sZ:=@Option.bind_none
def tp:=@Nat.mod_eq_of_lt
def tq:=@Array.toList_map
def tt:=@List.set_append_right
def tu:=@List.set_append_left
def tx:=@List.replicate_succ'
def tz:=@List.mem_mapIdx
def tY:=@List.foldl_cons
def tZ:=@Nat.zero_mul
def ua:=@List.mem_append_left
def ub:=@Nat.not_lt
def uc:=@List.eq_nil_of_length_eq_zero
def ud:=@List.countP_eq_zero
def ue:=@List.take_zero
def uf:=@Array.getElem?_setIfInBounds
def ug:=@Array.getElem?_map
def uh:=@Int.natCast_nonneg
def ui:=@List.getD_eq_getElem?_getD
def uj:=@List.flatMap_cons
def uk:=@Array.size_append
def um:=@List.getElem_take
def uo:=@Int.toNat_natCast
def uq:=@Nat.add_comm
def ur:=@List.isEmpty_iff
def uu:=@Bool.true_or
def uv:=@List.countP_cons
def uw:=@List.range_succ
def ux:=@Nat.mul_add_mod
def uy:=@Bool.eq_iff_iff
def uz:=@List.all_append
namespace Go.Ab
abbrev eU:=Nat × Nat
inductive C where
 | v (x:Value)
 | u1 (o sz:Nat) (rows:List (List C))
 | jS (cells:List C)
 | ref (id:Nat) (hops:List eU) (sz i k:Nat)
 | sl (id:Nat) (hops:List eU) (sz lo len:Nat) (full:Bool)
 | fn (f:FuncId) (first caps:List C)
 | mp (id:Nat)
 | agg (cs:List C)
 | u7 (vs:List C)
 | un
 | za
 | gl (id sz:Nat) (rows:List (List C))
 | fh (t:TypeId) (c:C)
 | rc (o:Obj)
structure Ob where
 kind:Nat
 ty:TypeId
 sz:Nat
 rows:List (List C)
 fz:Nat:=0
abbrev zl:=List Ob
structure Env where
 n:Nat
 β:Nat->List eU->Nat
 κ:Nat->List eU->Nat
 St:Nat->Nat->Option Value
 G:Nat->Nat->Option Value:=fun _ _=>none
def Env.shut (E:Env):Env:={ E with n:=0 }
def Env.at (E:Env) (kd:Nat):Env:=if kd=2 then E.shut else E
inductive L:Env->C->Value->Prop
 | v {E:Env} (x:Value) (h:x.oneCell'=true):L E (.v x) x
 | u1 {E:Env} (o sz:Nat) (rows:List (List C)) (b off cap:Nat) (us:Nat->Nat->Value) (ho:o=0∨o=1∧cap=rows.length) (hc:rows.length<=cap)
   (hsz:∀ r ∈ rows,r.length=sz)
   (hst:∀ (i:Nat) r (k:Nat) c,rows[i]?= some r->r[k]?= some c->E.St b (off+i * sz+k)=some (us i k))
   (hL:∀ (i:Nat) r (k:Nat) c,rows[i]?= some r->r[k]?= some c->L E.shut c (us i k)):
   L E (.u1 o sz rows) (.slice (some ⟨b,off,none⟩) rows.length cap)
 | xv {E:Env} (o sz:Nat) (ho:o=0∨o=1) (a:Option Addr:=none):L E (.u1 o sz []) (.slice a 0 0)
 | jS {E:Env} (cells:List C) (b off:Nat) (us:Nat->Value) (hst:∀ (k:Nat) c,cells[k]?= some c->E.St b (off+k)=some (us k))
   (hL:∀ (k:Nat) c,cells[k]?= some c->L E.shut c (us k)):L E (.jS cells) (.pointer (some ⟨b,off,none⟩))
 | ref {E:Env} (id:Nat) (hops:List eU) (sz i k:Nat) (hn:id < E.n):L E (.ref id hops sz i k) (.pointer (some ⟨E.β id hops,i * sz+k,none⟩))
 | sl {E:Env} (id:Nat) (hops:List eU) (sz lo len:Nat) (full:Bool) (cap:Nat) (hn:id < E.n) (hlen:len<=cap) (hf:full=true->cap=len) (hf':full=false->lo+cap=E.κ id hops):
   L E (.sl id hops sz lo len full) (.slice (some ⟨E.β id hops,lo * sz,none⟩) len cap)
 | fn {E:Env} (f:FuncId) (first caps:List C) (ys zs:Array Value) (h1:first.length=ys.size) (h2:caps.length=zs.size)
   (h3:∀ (i:Nat) c y,first[i]?= some c->ys[i]?= some y->L E c y) (h4:∀ (i:Nat) c y,caps[i]?= some c->zs[i]?= some y->L E c y):
   L E (.fn f first caps) (.func (.func f) ys zs)
 | mp {E:Env} (id:Nat) (hn:id < E.n):L E (.mp id) (.map (some (E.β id [])))
 | agg {E:Env} (cs:List C) (ys:Array Value) (h1:cs.length=ys.size) (h2:∀ (i:Nat) c y,cs[i]?= some c->ys[i]?= some y->L E c y) (h3:∀ y ∈ ys,y.oneCell'=true):L E (.agg cs) (.agg ys)
 | u7 {E:Env} (cs:List C) (ys:Array Value) (h1:cs.length=ys.size) (h2:∀ (i:Nat) c y,cs[i]?= some c->ys[i]?= some y->L E c y):L E (.u7 cs) (.tuple ys)
 | un {E:Env}:L E .un undef
 | za {E:Env} (y:Value):L E .za y
 | gl {E:Env} (id sz:Nat) (rows:List (List C)) (y:Value) (hn:id < E.n) (hg:E.G id rows.length=some y) (h:L E.shut (.u1 0 sz rows) y):L E (.gl id sz rows) y
 | fh {E:Env} (t:TypeId) (c:C) (y:Value) (h:L E c y):L E (.fh t c) (.iface t y)
structure Env.le (E E':Env):Prop where
 n:E.n<=E'.n
 β:∀ id hops,id < E.n->E'.β id hops=E.β id hops
 κ:∀ id hops,id < E.n->E'.κ id hops=E.κ id hops
 St:∀ b o u,E.St b o=some u->E'.St b o=some u
 G:∀ id k u,id < E.n->E.G id k=some u->E'.G id k=some u
def Env.le.refl (E:Env):E.le E:=⟨gf _,fun _ _ _=>rfl,fun _ _ _=>rfl,fun _ _ _ h=>h,fun _ _ _ _ h=>h⟩
def Env.le.trans {E E' E'':Env} (h:E.le E') (h':E'.le E''):E.le E'':=
 ⟨gY h.n h'.n,fun id hops hi=>(h'.β id hops (g9 hi h.n)).trans (h.β id hops hi),fun id hops hi=>(h'.κ id hops (g9 hi h.n)).trans (h.κ id hops hi),
  fun b o u hu=>h'.St b o u (h.St b o u hu),fun id k u hi hu=>h'.G id k u (g9 hi h.n) (h.G id k u hi hu)⟩
def Env.Cx (E:Env):E.shut.le E:=⟨gF _,fun _ _ h=>absurd h (gO _),fun _ _ h=>absurd h (gO _),fun _ _ _ h=>h,fun _ _ _ h _=>absurd h (gO _)⟩
def Env.le.shut {E E':Env} (h:E.le E'):E.shut.le E'.shut:=⟨gf _,fun _ _ h=>absurd h (gO _),fun _ _ h=>absurd h (gO _),h.St,fun _ _ _ h _=>absurd h (gO _)⟩
def Env.le.at {E E':Env} (h:E.le E') (kd:Nat):(E.at kd).le (E'.at kd):=by unfold Env.at;split;exact h.shut;exact h
def Env.MM (E:Env) (kd:Nat):(E.at kd).le E:=by unfold Env.at;split;exact E.Cx;exact .refl E
def L.mono {E E':Env} (h:E.le E') {c:C} {y:Value} (hl:L E c y):L E' c y:=by
 induction hl generalizing E' with
 | v x hx=>exact .v x hx
 | u1 o sz rows b off cap us ho hc hsz hst _ ih=>exact .u1 o sz rows b off cap us ho hc hsz (fun i r k c h1 h2=>h.St _ _ _ (hst i r k c h1 h2)) (fun i r k c h1 h2=>ih i r k c h1 h2 h.shut)
 | xv o sz ho a=>exact .xv o sz ho a
 | jS cells b off us hst _ ih=>exact .jS cells b off us (fun k c h1=>h.St _ _ _ (hst k c h1)) (fun k c h1=>ih k c h1 h.shut)
 | ref id hops sz i k hn=>rw [<- h.β id hops hn];exact .ref id hops sz i k (g9 hn h.n)
 | sl id hops sz lo len full cap hn hlen hf hf'=>
  rw [<- h.β id hops hn];exact .sl id hops sz lo len full cap (g9 hn h.n) hlen hf (fun e=>by rw [h.κ id hops hn];exact hf' e)
 | fn f first caps ys zs h1 h2 _ _ ih1 ih2=>exact .fn f first caps ys zs h1 h2 (fun i c y e1 e2=>ih1 i c y e1 e2 h) (fun i c y e1 e2=>ih2 i c y e1 e2 h)
 | mp id hn=>rw [<- h.β id [] hn];exact .mp id (g9 hn h.n)
 | agg cs ys h1 _ h3 ih=>exact .agg cs ys h1 (fun i c y e1 e2=>ih i c y e1 e2 h) h3
 | u7 cs ys h1 _ ih=>exact .u7 cs ys h1 (fun i c y e1 e2=>ih i c y e1 e2 h)
 | un=>exact .un
 | za y=>exact .za y
 | gl id sz rows y hn hg _ ih=>exact .gl id sz rows y (g9 hn h.n) (h.G _ _ _ hn hg) (ih h.shut)
 | fh t c y _ ih=>exact .fh t c y (ih h)
def oz:C->Bool
 | .v _ | .u1 .. | .jS _=>true
 | _=>false
def Bm:C->Bool
 | .agg cs=>cs.all oz
 | c=>oz c
def jl:C->Bool
 | .fn _ first caps=>first.all Bm && caps.all Bm
 | c=>oz c
def L.kN {E:Env} {c:C} {y:Value} (h:L E c y) (hc:oz c=true):L E.shut c y:=by
 cases h with
 | v x hx=>exact .v _ hx
 | u1 o sz rows b off cap us ho h2 hsz hst hL=>exact .u1 o sz rows b off cap us ho h2 hsz hst hL
 | xv o sz ho a=>exact .xv o sz ho a
 | jS cells b off us hst hL=>exact .jS cells b off us hst hL
 | _=>simp [oz] at hc
def L.LD {E:Env} {c:C} {y:Value} (h:L E c y) (hc:Bm c=true):L E.shut c y:=by
 cases h with
 | agg cs ys h1 h2 h3=>
  refine .agg cs ys h1 (fun i c y e1 e2=>(h2 i c y e1 e2).kN ?_) h3;exact dZ.1 (show cs.all oz=true from hc) _ (dS e1)
 | v x hx=>exact (L.v (E:=E) _ hx).kN hc
 | u1 o sz rows b off cap us ho h2 hsz hst hL=>exact (L.u1 (E:=E) o sz rows b off cap us ho h2 hsz hst hL).kN hc
 | xv o sz ho a=>exact (L.xv (E:=E) o sz ho a).kN hc
 | jS cells b off us hst hL=>exact (L.jS (E:=E) cells b off us hst hL).kN hc
 | _=>simp [Bm,oz] at hc
def L.vP {E:Env} {c:C} {y:Value} (h:L E c y) (hc:jl c=true):L E.shut c y:=by
 cases h with
 | fn f first caps ys zs h1 h2 h3 h4=>
  have hc:(first.all Bm && caps.all Bm)=true:=hc;rw [dY] at hc;exact .fn f first caps ys zs h1 h2 (fun i c y e1 e2=>(h3 i c y e1 e2).LD (dZ.1 hc.1 _ (dS e1))) (fun i c y e1 e2=>(h4 i c y e1 e2).LD (dZ.1 hc.2 _ (dS e1)))
 | v x hx=>exact (L.v (E:=E) _ hx).kN hc
 | u1 o sz rows b off cap us ho h2 hsz hst hL=>exact (L.u1 (E:=E) o sz rows b off cap us ho h2 hsz hst hL).kN hc
 | xv o sz ho a=>exact (L.xv (E:=E) o sz ho a).kN hc
 | jS cells b off us hst hL=>exact (L.jS (E:=E) cells b off us hst hL).kN hc
 | _=>simp [jl,oz] at hc
def LL (E:Env) (cs:List C) (ys:List Value):Prop:=cs.length=ys.length∧∀ (i:Nat) c y,cs[i]?= some c->ys[i]?= some y->L E c y
def LL.mono {E E':Env} (h:E.le E') {cs:List C} {ys:List Value} (hl:LL E cs ys):LL E' cs ys:=
 ⟨hl.1,fun i c y h1 h2=>(hl.2 i c y h1 h2).mono h⟩
def LL.nil {E:Env}:LL E [] []:=⟨rfl,by simp⟩
def LL.cons {E:Env} {c:C} {y:Value} {cs:List C} {ys:List Value} (h:L E c y) (hl:LL E cs ys):LL E (c::cs) (y::ys):=by
 refine ⟨by simp [hl.1],?_⟩;intro i c' y' h1 h2;cases i with
 | zero=>simp at h1 h2;subst h1;subst h2;exact h
 | succ i=>simp at h1 h2;exact hl.2 i c' y' h1 h2
def LL.cons_inv {E:Env} {c:C} {y:Value} {cs:List C} {ys:List Value} (h:LL E (c::cs) (y::ys)):L E c y∧LL E cs ys:=
 ⟨h.2 0 c y rfl rfl,by simpa using h.1,fun i c' y' h1 h2=>h.2 (i+1) c' y' (by simpa using h1) (by simpa using h2)⟩
def LL.one {E:Env} {c:C} {y:Value} (h:L E c y):LL E [c] [y]:=LL.cons h LL.nil
def LL.append {E:Env} {cs cs':List C} {ys ys':List Value} (h:LL E cs ys) (h':LL E cs' ys'):LL E (cs++cs') (ys++ys'):=by
 refine ⟨by simp [h.1,h'.1],?_⟩;intro i c y h1 h2;by_cases hi:i < cs.length
 ·rw [dX hi] at h1;rw [dX (by rw [<- h.1];exact hi)] at h2;exact h.2 i c y h1 h2
 ·rw [gu (by omega)] at h1;rw [gu (by rw [<- h.1];omega),<- h.1] at h2;exact h'.2 _ c y h1 h2
def LL.get {E:Env} {cs:List C} {ys:List Value} (h:LL E cs ys) {i:Nat} {c:C} (hc:cs[i]?= some c):∃ y,ys[i]?= some y∧L E c y:=by
 have hi:i < ys.length:=by rw [<- h.1];exact (dP.1 hc).1
 exact ⟨ys[i],by simp [hi],h.2 i c ys[i] hc (by simp [hi])⟩
def LL.take {E:Env} {cs:List C} {ys:List Value} (h:LL E cs ys) (n:Nat):LL E (cs.take n) (ys.take n):=by
 refine ⟨by simp [h.1],?_⟩;intro i c y h1 h2;rw [gH] at h1 h2;split at h1
 ·rename_i hi;rw [dU hi] at h2;exact h.2 i c y h1 h2
 ·cases h1
def LL.drop {E:Env} {cs:List C} {ys:List Value} (h:LL E cs ys) (n:Nat):LL E (cs.drop n) (ys.drop n):=by
 refine ⟨by simp [h.1],?_⟩;intro i c y h1 h2;rw [pE] at h1 h2;exact h.2 _ c y h1 h2
def LL.set {E:Env} {cs:List C} {ys:List Value} (h:LL E cs ys) {c:C} {y:Value} (hl:L E c y) (i:Nat):LL E (cs.set i c) (ys.set i y):=by
 refine ⟨by simp [h.1],?_⟩;intro j c' y' h1 h2;rw [gj] at h1 h2;by_cases hij:i=j
 ·subst hij;rw [dU rfl] at h1 h2;split at h1
  ·split at h2
   ·cases h1;cases h2;exact hl
   ·cases h2
  ·cases h1
 ·rw [dR hij] at h1 h2;exact h.2 j c' y' h1 h2
def C.cells:C->List C
 | .agg cs=>cs
 | c=>[c]
def L.cells {E:Env} {c:C} {y:Value} (h:L E c y) (hj:c≠.za) (hu:c≠.un):LL E c.cells y.cells.toList:=by
 have one:∀ (c:C) (y:Value),L E c y->c.cells=[c]->y.cells= #[y]->LL E c.cells y.cells.toList:=fun c y h e1 e2=>by
  rw [e1,e2];exact LL.cons h LL.nil
 cases h with
 | v x hx=>exact one _ _ (.v _ hx) rfl (by cases y <;> simp_all [Value.cells,Value.oneCell'])
 | agg cs ys h1 h2 h3=>exact ⟨by simpa [C.cells,Value.cells] using h1,fun i c y e1 e2=>h2 i c y e1 (by simpa [Value.cells] using e2)⟩
 | un=>exact absurd rfl hu
 | za=>exact absurd rfl hj
 | u7 cs ys h1 h2=>exact one _ _ (.u7 cs ys h1 h2) rfl rfl
 | u1 o sz rows b off cap us ho hc hsz hst hL=>exact one _ _ (.u1 o sz rows b off cap us ho hc hsz hst hL) rfl rfl
 | xv o sz ho a=>exact one _ _ (.xv o sz ho a) rfl rfl
 | jS cells b off us hst hL=>exact one _ _ (.jS cells b off us hst hL) rfl rfl
 | ref id hops sz i k hn=>exact one _ _ (.ref id hops sz i k hn) rfl rfl
 | sl id hops sz lo len full cap hn hlen hf hf'=>exact one _ _ (.sl id hops sz lo len full cap hn hlen hf hf') rfl rfl
 | fn f first caps ys zs h1 h2 h3 h4=>exact one _ _ (.fn f first caps ys zs h1 h2 h3 h4) rfl rfl
 | mp id hn=>exact one _ _ (.mp id hn) rfl rfl
 | gl id sz rows y hn hg h=>exact one _ _ (.gl id sz rows y hn hg h) rfl (by cases h <;> rfl)
 | fh t c y h=>exact one _ _ (.fh t c y h) rfl rfl
def cellAt (rows:List (List C)) (i k:Nat):Option C:=(rows[i]?).bind (·[k]?)
def vD:Nat->List (List C)->List eU->Option (Nat × List (List C))
 | sz,rows,[]=>some (sz,rows)
 | _,rows,(i,k)::hs=>match cellAt rows i k with
  | some (.u1 2 sz' rows')=>vD sz' rows' hs
  | _=>none
def qb (H:zl) (id:Nat) (hops:List eU):Option (Nat × List (List C)):=
 match H[id]? with
 | some ob=>if ob.kind=1∨ob.kind=2 then vD ob.sz ob.rows hops else none
 | none=>none
def qU (E:Env) (kd:Nat) (id:Nat) (hops:List eU) (i k:Nat) (c:C) (u:Value):Prop:=
 match c with
 | .u1 2 _ rows'=>u=.slice (some ⟨E.β id (hops++[(i,k)]),0,none⟩) rows'.length (E.κ id (hops++[(i,k)]))
 | c=>L (E.at kd) c u∧u.oneCell'=true
structure Bu (w:World) (E:Env) (kd:Nat) (id:Nat) (hops:List eU) (sz:Nat) (rows:List (List C)):Prop where
 len:rows.length<=E.κ id hops
 row:∀ r ∈ rows,r.length=sz
 eu:∃ cur e,w.heap[E.β id hops]?= some (.cells cur e (0,0))∧cur.size=E.κ id hops * sz∧
  ∀ i k c,cellAt rows i k=some c->∃ u,cur[i * sz+k]?= some u∧qU E kd id hops i k c u
structure qe (w:World) (E:Env) (H:zl):Prop where
 n:E.n=H.length
 eu:∀ id ob hops sz rows,H[id]?= some ob->qb H id hops=some (sz,rows)->Bu w E ob.kind id hops sz rows
 inj:∀ id hops id' hops' x y,qb H id hops=some x->qb H id' hops'=some y->E.β id hops=E.β id' hops'->id=id'∧hops=hops'
 qv:∀ b o u,E.St b o=some u->w.cell? ⟨b,o,none⟩=some u∧u.oneCell'=true
 sep:∀ id hops x o u,qb H id hops=some x->E.St (E.β id hops) o=some u->hops=[]∧∃ ob,H[id]?= some ob∧o < ob.fz * ob.sz
 ty:∀ id ob,H[id]?= some ob->ob.kind=2->∃ cur,w.heap[E.β id []]?= some (.cells cur ob.ty (0,0))
 fz:∀ (id:Nat) (ob:Ob),H[id]?= some ob->ob.fz<=ob.rows.length
structure S where
 tmps:List C
 H:zl
def je (E:Env) (H:zl) (b:Nat):Prop:=∃ id hops x,qb H id hops=some x∧E.β id hops=b
structure qD (w:World) (E:Env) (H:zl) (w':World) (E':Env) (H':zl):Prop where
 le:E.le E'
 CL:∀ (id k:Nat),id < E.n->E'.G id k=E.G id k
 os:w'.os=w.os
 tape:w'.tape=w.tape
 output:w'.output=w.output
 size:w.heap.size<=w'.heap.size
 frame:∀ k,k < w.heap.size->¬je E H k->w'.heap[k]?= w.heap[k]?
 jP:∀ b o u,E'.St b o=some u->E.St b o=some u∨w.heap.size<=b∨je E H b
 own:∀ b,je E' H' b->w.heap.size<=b∨je E H b
def qD.refl (w:World) (E:Env) (H:zl):qD w E H w E H:=
 ⟨Env.le.refl E,fun _ _ _=>rfl,rfl,rfl,rfl,gf _,fun _ _ _=>rfl,fun _ _ _ h=>.inl h,fun _ h=>.inr h⟩
def qD.trans {w w1 w2:World} {E E1 E2:Env} {H H1 H2:zl} (g:qD w E H w1 E1 H1) (h:qD w1 E1 H1 w2 E2 H2):qD w E H w2 E2 H2 where
 le:=g.le.trans h.le
 CL id k hi:=(h.CL id k (g9 hi g.le.n)).trans (g.CL id k hi)
 os:=h.os.trans g.os
 tape:=h.tape.trans g.tape
 output:=h.output.trans g.output
 size:=gY g.size h.size
 frame k hk ho:=(h.frame k (g9 hk g.size) fun hc=>(g.own k hc).elim (fun hs=>by omega) ho).trans (g.frame k hk ho)
 jP b o u hu:=by
  rcases h.jP b o u hu with h1 | h1 | h1
  ·exact g.jP b o u h1
  ·exact .inr (.inl (gY g.size h1))
  ·rcases g.own b h1 with h2 | h2
   ·exact .inr (.inl h2)
   ·exact .inr (.inr h2)
 own b hb:=by
  rcases h.own b hb with h1 | h1
  ·exact .inl (gY g.size h1)
  ·exact g.own b h1
def qI (E:Env) (H:zl) (id b:Nat):Prop:=∃ ob cap,H[id]?= some ob∧ob.kind=4∧E.G id ob.rows.length=some (.slice (some ⟨b,0,none⟩) ob.rows.length cap)∧cap≠ob.rows.length
def jD (H:zl) (id b:Nat):Prop:=∃ ob o t,H[id]?= some ob∧ob.kind=4∧(ob.rows=[.rc o::t]∧ob.fz=1)∧ob.ty=b
def Cj:Obj->Bool
 | .loop _=>true
 | .map ..=>true
 | .mapIter ..=>true
 | _=>false
def HW:Obj->List Value
 | .loop r=>r.tmps.toList
 | _=>[]
def iT (E:Env) (t:List C) (o:Obj):Prop:=LL E t (HW o)∨∃ es k,o=.map es k∧LL E t (es.toList.map (·.val))
def iT.map {E E':Env} {t:List C} {o:Obj} (h:iT E t o) (hf:∀ ys,LL E t ys->LL E' t ys):iT E' t o:=h.imp (hf _) fun ⟨es,k,e,hl⟩=>⟨es,k,e,hf _ hl⟩
def iT.mono {E E':Env} {t:List C} {o:Obj} (h:iT E t o) (hle:E.le E'):iT E' t o:=h.map fun _ hl=>hl.mono hle
def iT.loop {E:Env} {t:List C} {r:Loop} (h:iT E t (.loop r)):LL E t r.tmps.toList:=h.elim id fun ⟨_,_,e,_⟩=>by cases e
def qe.Ci {w:World} {E:Env} {H:zl} {b:Nat} (h:qe w E H) (ho:je E H b):∃ cur e,w.heap[b]?= some (.cells cur e (0,0)):=by
 obtain ⟨id,hops,x,hx,rfl⟩:=ho;have hx':=hx;unfold qb at hx';split at hx'
 ·rename_i ob hob;obtain ⟨cur,e,h1,_⟩:=(h.eu id ob hops x.1 x.2 hob hx).eu;exact ⟨cur,e,h1⟩
 ·cases hx'
structure ly (w:World) (E:Env) (H:zl):Prop where
 val:∀ (id:Nat) (ob:Ob),H[id]?= some ob->ob.kind=4->∃ a cap,E.G id ob.rows.length=some (.slice a ob.rows.length cap)∧(cap=ob.rows.length∨∃ b,a=some ⟨b,0,none⟩∧ob.rows.length<=cap)
 eu:∀ (id b:Nat) (ob:Ob),qI E H id b->H[id]?= some ob->∃ cur cap,E.G id ob.rows.length=some (.slice (some ⟨b,0,none⟩) ob.rows.length cap)∧w.heap[b]?= some (.cells cur ob.ty (0,0))∧cur.size=cap * ob.sz
 sep:∀ id b,qI E H id b->¬je E H b
 inj:∀ id id' b,qI E H id b->qI E H id' b->id=id'
 st:∀ (id b:Nat) (ob:Ob) o u,qI E H id b->H[id]?= some ob->E.St b o=some u->o < ob.rows.length * ob.sz
 top:∀ (id:Nat) (ob:Ob) (k:Nat) u,H[id]?= some ob->ob.kind=4->E.G id k=some u->k<=ob.rows.length
 fG:∀ (id:Nat) (ob:Ob) (o:Obj) (t:List C),H[id]?= some ob->ob.kind=4->(ob.rows=[.rc o::t]∧ob.fz=1)->(w.heap[ob.ty]?= some o∧Cj o=true)∧iT E t o
 wK:∀ id id' b,jD H id b->jD H id' b->id=id'
def jH (H H':zl):Prop:=∀ (id:Nat) (ob:Ob),ob.kind=4->(H'[id]?= some ob↔H[id]?= some ob)
def jH.refl (H:zl):jH H H:=fun _ _ _=>Iff.rfl
structure qx (w:World) (E:Env) (H:zl):Prop where
 base:qe w E H
 u5:ly w E H
def qx.n {w:World} {E:Env} {H:zl} (h:qx w E H):E.n=H.length:=h.base.n
def xk (E:Env) (H:zl) (b:Nat):Prop:=je E H b∨∃ id,(qI E H id b∨jD H id b)
structure Grow (w:World) (E:Env) (H:zl) (w':World) (E':Env) (H':zl):Prop where
 le:E.le E'
 os:w'.os=w.os
 tape:w'.tape=w.tape
 output:w'.output=w.output
 size:w.heap.size<=w'.heap.size
 frame:∀ k,k < w.heap.size->¬xk E H k->w'.heap[k]?= w.heap[k]?
 jP:∀ b o u,E'.St b o=some u->E.St b o=some u∨w.heap.size<=b∨xk E H b
 own:∀ b,xk E' H' b->w.heap.size<=b∨xk E H b
def Grow.refl (w:World) (E:Env) (H:zl):Grow w E H w E H:=
 ⟨Env.le.refl E,rfl,rfl,rfl,gf _,fun _ _ _=>rfl,fun _ _ _ h=>.inl h,fun _ h=>.inr h⟩
def Grow.trans {w w1 w2:World} {E E1 E2:Env} {H H1 H2:zl} (g:Grow w E H w1 E1 H1) (h:Grow w1 E1 H1 w2 E2 H2):Grow w E H w2 E2 H2 where
 le:=g.le.trans h.le
 os:=h.os.trans g.os
 tape:=h.tape.trans g.tape
 output:=h.output.trans g.output
 size:=gY g.size h.size
 frame k hk ho:=(h.frame k (g9 hk g.size) fun hc=>(g.own k hc).elim (fun hs=>by omega) ho).trans (g.frame k hk ho)
 jP b o u hu:=by
  rcases h.jP b o u hu with h1 | h1 | h1
  ·exact g.jP b o u h1
  ·exact .inr (.inl (gY g.size h1))
  ·rcases g.own b h1 with h2 | h2
   ·exact .inr (.inl h2)
   ·exact .inr (.inr h2)
 own b hb:=by
  rcases h.own b hb with h1 | h1
  ·exact .inl (gY g.size h1)
  ·exact g.own b h1
def qI.back {w:World} {E E':Env} {H H':zl} (hg:ly w E H) (hn:E.n=H.length) (hle:E.le E') (hk:jH H H') {id b:Nat} (h:qI E' H' id b):qI E H id b:=by
 obtain ⟨ob,cap,h1,h2,h3,h4⟩:=h;have h1':=(hk id ob h2).1 h1;obtain ⟨a,cap',e1,_⟩:=hg.val id ob h1' h2;have e2:=hle.G id ob.rows.length _ (by rw [hn];exact (dP.1 h1').1) e1;rw [h3] at e2;cases e2
 exact ⟨ob,cap,h1',h2,e1,h4⟩
def jD.back {H H':zl} (hk:jH H H') {id b:Nat} (h:jD H' id b):jD H id b:=by
 obtain ⟨ob,r,t,h1,h2,h3⟩:=h;exact ⟨ob,r,t,(hk id ob h2).1 h1,h2,h3⟩
def ly.step {w w':World} {E E':Env} {H H':zl} (h:qx w E H) (g:qD w E H w' E' H') (hk:jH H H'):ly w' E' H' where
 val id ob hob hkd:=by
  have hob':=(hk id ob hkd).1 hob;obtain ⟨a,cap,e1,e2⟩:=h.u5.val id ob hob' hkd;exact ⟨a,cap,g.le.G id ob.rows.length _ (by rw [h.n];exact (dP.1 hob').1) e1,e2⟩
 eu id b ob ho hob:=by
  have ho':=ho.back h.u5 h.n g.le hk;obtain ⟨ob2,_,e1,e2,_⟩:=ho;rw [hob] at e1;cases e1
  have hob':=(hk id ob e2).1 hob;obtain ⟨cur,cap,e3,e4,e5⟩:=h.u5.eu id b ob ho' hob';refine ⟨cur,cap,g.le.G id ob.rows.length _ (by rw [h.n];exact (dP.1 hob').1) e3,?_,e5⟩;rw [g.frame b (gm.1 e4).1 (h.u5.sep id b ho')];exact e4
 sep id b ho:=by
  have ho':=ho.back h.u5 h.n g.le hk;intro hc;rcases g.own b hc with h1 | h1
  ·obtain ⟨ob,_,e1,_⟩:=ho';obtain ⟨cur,cap,e3,e4,e5⟩:=h.u5.eu id b ob (ho.back h.u5 h.n g.le hk) e1;have:=(gm.1 e4).1;omega
  ·exact h.u5.sep id b ho' h1
 inj id id' b h1 h2:=h.u5.inj id id' b (h1.back h.u5 h.n g.le hk) (h2.back h.u5 h.n g.le hk)
 st id b ob o u ho hob hu:=by
  have ho':=ho.back h.u5 h.n g.le hk;obtain ⟨ob2,_,e1,e2,_⟩:=ho;rw [hob] at e1;cases e1
  have hob':=(hk id ob e2).1 hob;rcases g.jP b o u hu with h1 | h1 | h1
  ·exact h.u5.st id b ob o u ho' hob' h1
  ·obtain ⟨cur,cap,e3,e4,e5⟩:=h.u5.eu id b ob ho' hob';have:=(gm.1 e4).1;omega
  ·exact absurd h1 (h.u5.sep id b ho')
 top id ob k u hob hkd hu:=by
  have hob':=(hk id ob hkd).1 hob;rw [g.CL id k (by rw [h.n];exact (dP.1 hob').1)] at hu;exact h.u5.top id ob k u hob' hkd hu
 fG id ob r t hob hkd hr:=by
  obtain ⟨⟨h1,hf⟩,hl⟩:=h.u5.fG id ob r t ((hk id ob hkd).1 hob) hkd hr;refine ⟨⟨?_,hf⟩,hl.mono g.le⟩;rw [g.frame ob.ty (gm.1 h1).1 fun hc=>by obtain ⟨cur,e,h2⟩:=h.base.Ci hc;rw [h1] at h2;cases h2;cases hf];exact h1
 wK id id' b h1 h2:=h.u5.wK id id' b (h1.back hk) (h2.back hk)
def qD.up {w w':World} {E E':Env} {H H':zl} (h:qx w E H) (g:qD w E H w' E' H') (hk:jH H H'):Grow w E H w' E' H' where
 le:=g.le
 os:=g.os
 tape:=g.tape
 output:=g.output
 size:=g.size
 frame k h1 h2:=g.frame k h1 fun hc=>h2 (.inl hc)
 jP b o u hu:=(g.jP b o u hu).imp_right fun h=>h.imp_right .inl
 own b hb:=by
  rcases hb with hb | ⟨id,hb | hb⟩
  ·exact (g.own b hb).imp_right .inl
  ·exact .inr (.inr ⟨id,.inl (hb.back h.u5 h.n g.le hk)⟩)
  ·exact .inr (.inr ⟨id,.inr (hb.back hk)⟩)
abbrev Ai (D:Nat):Deferred:={ target:=.collected D,args:= #[] }
def Marks (m:Nat) (w:World):List Deferred->Prop
 | []=>m<=w.heap.size
 | d::ds=>(∃ D,d=Ai D∧m<=D∧w.heap[D]?= some (.deferred (some []))∧Ai D ∉ ds)∧Marks m w ds
def Marks.mono {m:Nat} {w w':World} (hsz:w.heap.size<=w'.heap.size):∀ {ds:List Deferred},Marks m w ds->(∀ D,Ai D ∈ ds->w.heap[D]?= some (.deferred (some []))->w'.heap[D]?= w.heap[D]?)->Marks m w' ds
 | [],h,_=>gY h hsz
 | d::ds,⟨⟨D,h1,h2,h3,h4⟩,ht⟩,hk=>⟨⟨D,h1,h2,(hk D (by rw [h1];exact pD ..) h3).trans h3,h4⟩,Marks.mono hsz ht fun D' hm hd=>hk D' (px _ hm) hd⟩
def Marks.le {m:Nat} {w:World}:∀ {ds:List Deferred},Marks m w ds->m<=w.heap.size
 | [],h=>h
 | _::_,⟨_,h⟩=>Marks.le h
def qx.free {w:World} {E:Env} {H:zl} {D:Nat} {ds:Option (List Deferred)} (h:qx w E H) (hd:w.heap[D]?= some (.deferred ds)):¬xk E H D:=by
 rintro (ho | ⟨id,⟨ob,cap,hob,h4,hG,hne⟩ | ⟨ob,r,t,hob,h4,hr,rfl⟩⟩)
 ·obtain ⟨cur,e,h1⟩:=h.base.Ci ho;rw [hd] at h1;cases h1
 ·obtain ⟨cur,cap',_,h1,_⟩:=h.u5.eu id D ob ⟨ob,cap,hob,h4,hG,hne⟩ hob;rw [hd] at h1;cases h1
 ·obtain ⟨h1,hf⟩:=(h.u5.fG id ob r t hob h4 hr).1;rw [hd] at h1;cases h1
  cases hf
def Marks.grow {m:Nat} {w w':World} {E E':Env} {H H':zl} {ds:List Deferred} (h:Marks m w ds) (hh:qx w E H) (g:Grow w E H w' E' H'):Marks m w' ds:=
 Marks.mono g.size h fun D _ hD=>g.frame D (gm.1 hD).1 (hh.free hD)
def qx.cells {w w':World} {E:Env} {H:zl} (hk:∀ (k:Nat) (o:Obj),w.heap[k]?= some o->(∀ ds,o≠.deferred ds)->w'.heap[k]?= w.heap[k]?) (h:qx w E H):qx w' E H where
 base:={
  n:=h.base.n
  eu:=fun id ob hops sz rows e1 e2=>
   let b:=h.base.eu id ob hops sz rows e1 e2
   ⟨b.len,b.row,let ⟨cur,e,h1,h2⟩:=b.eu;⟨cur,e,(hk _ _ h1 (by simp)).trans h1,h2⟩⟩
  inj:=h.base.inj
  qv:=fun b o u hu=>by
   obtain ⟨h1,h2⟩:=h.base.qv b o u hu;refine ⟨?_,h2⟩;unfold World.cell? at h1 ⊢;split at h1
   ·rename_i c t z hc;rw [hk _ _ hc (by simp),hc];exact h1
   ·cases h1
  sep:=h.base.sep
  ty:=fun id ob e1 e2=>let ⟨cur,h1⟩:=h.base.ty id ob e1 e2;⟨cur,(hk _ _ h1 (by simp)).trans h1⟩
  fz:=h.base.fz }
 u5:={
  val:=h.u5.val
  eu:=fun id b ob e1 e2=>let ⟨cur,cap,h1,h2,h3⟩:=h.u5.eu id b ob e1 e2;⟨cur,cap,h1,(hk _ _ h2 (by simp)).trans h2,h3⟩
  sep:=h.u5.sep
  inj:=h.u5.inj
  st:=h.u5.st
  top:=h.u5.top
  fG:=fun id ob r t e1 e2 e3=>let h1:=h.u5.fG id ob r t e1 e2 e3;⟨⟨(hk _ _ h1.1.1 (by intro ds e;have:=h1.1.2;rw [e] at this;cases this)).trans h1.1.1,h1.1.2⟩,h1.2⟩
  wK:=h.u5.wK }
structure xR (B m:Nat) (w:World) (E:Env) (s:S) (a:Act):Prop where
 heap:qx w E s.H
 tmps:LL E s.tmps a.tmps.toList
 defers:Marks m w a.defers
 base:B<=s.H.length
structure Env.mZ (B:Nat) (E E':Env):Prop where
 β:∀ id hops,id < B->E'.β id hops=E.β id hops
 κ:∀ id hops,id < B->E'.κ id hops=E.κ id hops
 St:∀ b o u,E.St b o=some u->E'.St b o=some u
 G:∀ id k u,id < B->E.G id k=some u->E'.G id k=some u
def Env.mZ.refl (B:Nat) (E:Env):E.mZ B E:=⟨fun _ _ _=>rfl,fun _ _ _=>rfl,fun _ _ _ h=>h,fun _ _ _ _ h=>h⟩
def Env.mZ.trans {B:Nat} {E E' E'':Env} (h:E.mZ B E') (h':E'.mZ B E''):E.mZ B E'':=
 ⟨fun id hops hi=>(h'.β id hops hi).trans (h.β id hops hi),fun id hops hi=>(h'.κ id hops hi).trans (h.κ id hops hi),fun b o u hu=>h'.St b o u (h.St b o u hu),fun id k u hi hu=>h'.G id k u hi (h.G id k u hi hu)⟩
def Env.le.fI {B:Nat} {E E':Env} (h:E.le E') (hB:B<=E.n):E.mZ B E':=
 ⟨fun id hops hi=>h.β id hops (g9 hi hB),fun id hops hi=>h.κ id hops (g9 hi hB),h.St,fun id k u hi=>h.G id k u (g9 hi hB)⟩
structure jF (B:Nat) (w:World) (E:Env) (H:zl) (w':World) (E':Env) (H':zl):Prop where
 le:E.mZ B E'
 os:w'.os=w.os
 tape:w'.tape=w.tape
 output:w'.output=w.output
 size:w.heap.size<=w'.heap.size
 frame:∀ k,k < w.heap.size->¬xk E H k->w'.heap[k]?= w.heap[k]?
 jP:∀ b o u,E'.St b o=some u->E.St b o=some u∨w.heap.size<=b∨xk E H b
 own:∀ b,xk E' H' b->w.heap.size<=b∨xk E H b
def Grow.fI {B:Nat} {w w':World} {E E':Env} {H H':zl} (g:Grow w E H w' E' H') (hB:B<=E.n):jF B w E H w' E' H':=
 ⟨g.le.fI hB,g.os,g.tape,g.output,g.size,g.frame,g.jP,g.own⟩
def jF.refl (B:Nat) (w:World) (E:Env) (H:zl):jF B w E H w E H:=
 ⟨Env.mZ.refl B E,rfl,rfl,rfl,gf _,fun _ _ _=>rfl,fun _ _ _ h=>.inl h,fun _ h=>.inr h⟩
def jF.trans {B:Nat} {w w1 w2:World} {E E1 E2:Env} {H H1 H2:zl} (g:jF B w E H w1 E1 H1) (h:jF B w1 E1 H1 w2 E2 H2):jF B w E H w2 E2 H2 where
 le:=g.le.trans h.le
 os:=h.os.trans g.os
 tape:=h.tape.trans g.tape
 output:=h.output.trans g.output
 size:=gY g.size h.size
 frame k hk ho:=(h.frame k (g9 hk g.size) fun hc=>(g.own k hc).elim (fun hs=>by omega) ho).trans (g.frame k hk ho)
 jP b o u hu:=by
  rcases h.jP b o u hu with h1 | h1 | h1
  ·exact g.jP b o u h1
  ·exact .inr (.inl (gY g.size h1))
  ·rcases g.own b h1 with h2 | h2
   ·exact .inr (.inl h2)
   ·exact .inr (.inr h2)
 own b hb:=by
  rcases h.own b hb with h1 | h1
  ·exact .inl (gY g.size h1)
  ·exact g.own b h1
def fw (q:Option Nat):Fence:={ Fence.wide with round:=q }
def xy:Code->Bool
 | .seq a b=>xy a || xy b
 | .cond _ a b=>xy a || xy b
 | .block _ a=>xy a
 | .loop a=>xy a
 | .scope a=>xy a
 | .rangeFunc ..=>true
 | _=>false
def qX (P:Program) (B:Nat) (c:Code) (s:S) (R:Exit->S->Prop):Prop:=
 ∀ (q:Option Nat) (m:Nat) (w:World) (E:Env) (a:Act) (Q:Exit->Act->World->Prop),(xy c=true->q=none)->xR B m w E s a->
  (∀ ex s' w' E' a',R ex s'->xR B m w' E' s' a'->jF B w E s.H w' E' s'.H->Q ex a' w')->c.wpIn (fw q) 0 P Q a w
abbrev Run (P:Program) (B:Nat) (c:Code) (s:S) (ex:Exit) (s':S):Prop:=qX P B c s fun e t=>e=ex∧t=s'
def iJ (P:Program) (B:Nat) (c:Code) (n:Nat) (s:S) (R:Exit->S->Prop):Prop:=
 ∀ (q:Option Nat) (m:Nat) (w:World) (E:Env) (a:Act) (Q:Exit->Act->World->Prop),(xy c=true->q=none)->xR B m w E s a->
  (∀ ex s' w' E' a',R ex s'->xR B m w' E' s' a'->jF B w E s.H w' E' s'.H->Q ex a' w')->Code.roundsIn (fw q) 0 P c Q n a w
def wa (P:Program) (B:Nat) (ops:Array Oper) (l:List Oper) (s:S) (R:S->Prop):Prop:=
 ∀ (q:Option Nat) (m:Nat) (w:World) (E:Env) (a:Act) (Q:Exit->Act->World->Prop),xR B m w E s a->
  (∀ s' w' E' a',R s'->xR B m w' E' s' a'->jF B w E s.H w' E' s'.H->Q .normal a' w')->wpListIn (fw q) 0 P ops Q l a w
def nI (P:Program) (B:Nat) (o:Oper) (s:S) (R:S->Prop):Prop:=
 ∀ (q:Option Nat) (m:Nat) (w:World) (E:Env) (a:Act) (K:Act->World->Prop) (Q:Exit->Act->World->Prop),xR B m w E s a->
  (∀ s' w' E' a',R s'->xR B m w' E' s' a'->jF B w E s.H w' E' s'.H->K a' w')->o.wpIn (fw q) 0 P a w K Q
def zp (B:Nat) (s s':S):Prop:=
 ∀ (m:Nat) (w:World) (E:Env) (a:Act),xR B m w E s a->∃ E',xR B m w E' s' a∧jF B w E s.H w E' s'.H
def IW {F:Fence} {k:Nat} {P:Program} {c:Code} {Q:Exit->Act->World->Prop}:∀ {n m:Nat},n<=m->∀ {a:Act} {w:World},Code.roundsIn F k P c Q n a w->Code.roundsIn F k P c Q m a w
 | 0,_,_,_,_,h=>(h:False).elim
 | n+1,0,hm,_,_,_=>absurd hm (Nat.not_succ_le_zero n)
 | n+1,m+1,hm,a,w,h=>by
  rw [roundsIn_succ] at h ⊢;refine wpIn_mono h fun e a1 w1 h1=>?_
  cases e with
  | normal=>exact IW (Nat.le_of_succ_le_succ hm) h1
  | _=>exact h1
section scopes
variable {F:Fence} {n:Nat} {P:Program} {b:Frame} {a:Act} {k:List Item} {cs:List Frame} {w:World} {Q:Exit->Act->World->Prop}
def xW {c:Code}:step P (lone (b.atR a (.code (.scope c)::k)) cs w)=.next (lone (b.atR a (.code c:: .inScope c::k)) cs w):=
 step_lone_go (by simp [stepG,stepG.exec,Frame.atR])
def Ix {c:Code}:step P (lone (b.atR a (.inScope c::k)) cs w)=.next (lone (b.atR a k) cs w):=
 step_lone_go (by simp [stepG,stepG.exec,Frame.atR])
def Ns {c:Code} (h:c.wpIn F n P (Exit.noGoto Q) a w):(Code.scope c).wpIn F n P Q a w:=by
 intro b k cs hro hb hr;have h0:(lone (b.atR a (.code (.scope c)::k)) cs w).fenced P F:=fenced_calm hb hr rfl;obtain ⟨e,a₁,w₁,hq,harr⟩:=h b (.inScope c::k) cs hro hb hr;cases e with
 | normal=>exact ⟨.normal,a₁,w₁,hq,.head h0 xW (StepsIn.trans harr (.one (fenced_calm hb hr rfl) Ix))⟩
 | exit id=>
  have hx:exitTo id (.inScope c::k)=exitTo id k:=by simp [exitTo]
  exact ⟨.exit id,a₁,w₁,hq,fun k' hk=>.head h0 xW (harr.1 k' (by rw [hx];exact hk)),
   fun hr' hk=>let ⟨k₁,h1,h2⟩:=harr.2 hr' (by rw [hx];exact hk);⟨k₁,h1,.head h0 xW h2⟩⟩
 | goto l=>exact hq.elim
 | ret=>exact ⟨_,a₁,w₁,hq,.of_steps (.one h0 xW) harr⟩
 | panic ch=>exact ⟨_,a₁,w₁,hq,.of_steps (.one h0 xW) harr⟩
 | outgrown=>exact ⟨_,a₁,w₁,hq,.of_steps (.one h0 xW) harr⟩
inductive Cq (F:Fence) (n:Nat) (P:Program) (c:Code) (Q:Exit->Act->World->Prop):Nat->Act->World->Prop
 | mk {l:Nat} {a:Act} {w:World} {rest:Code} (Q':Exit->Act->World->Prop):findLabel c l=some rest->rest.wpIn F n P Q' a w->(∀ e a w,Q' e a w->(∀ l,e≠.goto l)->Q e a w)->
   (∀ l a w,Q' (.goto l) a w->Cq F n P c Q l a w)->Cq F n P c Q l a w
def Iu {c:Code} {m:Machine} {e:Exit} (hb:F.fn b.fn) (hr:F.room (cs.length+1+n)) (he:∀ l,e≠.goto l) (h:ArrivesIn (Machine.fenced P F) P m b (.inScope c::k) cs e a w):ArrivesIn (Machine.fenced P F) P m b k cs e a w:=by
 cases e with
 | normal=>exact StepsIn.trans h (.one (fenced_calm hb hr rfl) Ix)
 | exit id=>
  have hx:exitTo id (.inScope c::k)=exitTo id k:=by simp [exitTo]
  exact ⟨fun k' hk=>h.1 k' (by rw [hx];exact hk),fun hr' hk=>h.2 hr' (by rw [hx];exact hk)⟩
 | goto l=>exact absurd rfl (he l)
 | ret=>exact h
 | panic ch=>exact h
 | outgrown=>exact h
def NA {c:Code} {Q':Exit->Act->World->Prop} (h:c.wpIn F n P Q' a w) (hQ:∀ e a w,Q' e a w->(∀ l,e≠.goto l)->Q e a w) (hJ:∀ l a w,Q' (.goto l) a w->Cq F n P c Q l a w):(Code.scope c).wpIn F n P Q a w:=by
 intro b k cs hro hb hr;have h0:(lone (b.atR a (.code (.scope c)::k)) cs w).fenced P F:=fenced_calm hb hr rfl
 have key:∀ l a w,Cq F n P c Q l a w->∀ rest,findLabel c l=some rest->∃ e a' w',Q e a' w'∧ArrivesIn (Machine.fenced P F) P (lone (b.atR a (.code rest:: .inScope c::k)) cs w) b k cs e a' w':=by
  intro l a w hj
  induction hj with
  | mk Q1 hf h1 h2 h3 ih=>
   intro rest hf';rw [hf] at hf';cases hf'
   obtain ⟨e,a₁,w₁,hq,harr⟩:=h1 b (.inScope c::k) cs hro hb hr;by_cases he:∀ l,e≠.goto l
   ·exact ⟨e,a₁,w₁,h2 _ _ _ hq he,Iu hb hr he harr⟩
   ·obtain ⟨l',rfl⟩:∃ l',e=.goto l':=by
     cases e with
     | goto l'=>exact ⟨l',rfl⟩
     | _=>exact absurd (by simp) he
    have hj:=h3 _ _ _ hq;cases hj with
    | mk Q2 hf2 _ _ _=>
     obtain ⟨e₂,a₂,w₂,hq₂,harr₂⟩:=ih _ _ _ hq _ hf2;exact ⟨e₂,a₂,w₂,hq₂,.of_steps (harr.1 _ (by simp [gotoIn,hf2])) harr₂⟩
 obtain ⟨e,a₁,w₁,hq,harr⟩:=h b (.inScope c::k) cs hro hb hr;by_cases he:∀ l,e≠.goto l
 ·exact ⟨e,a₁,w₁,hQ _ _ _ hq he,.of_steps (.one h0 xW) (Iu hb hr he harr)⟩
 ·obtain ⟨l',rfl⟩:∃ l',e=.goto l':=by
   cases e with
   | goto l'=>exact ⟨l',rfl⟩
   | _=>exact absurd (by simp) he
  have hj:=hJ _ _ _ hq;have hj':=hj;cases hj' with
  | mk Q2 hf2 _ _ _=>
   obtain ⟨e₂,a₂,w₂,hq₂,harr₂⟩:=key _ _ _ hj _ hf2;exact ⟨e₂,a₂,w₂,hq₂,.of_steps (.head h0 xW (harr.1 _ (by simp [gotoIn,hf2]))) harr₂⟩
end scopes
section
variable {P:Program} {B:Nat} {s s1 s2 s':S} {ex:Exit}
def zp.refl (s:S):zp B s s:=fun m w E a h=>⟨E,h,jF.refl B w E s.H⟩
def zp.trans (h:zp B s s1) (h':zp B s1 s2):zp B s s2:=fun m w E a hs=>by
 obtain ⟨E1,h1,g1⟩:=h m w E a hs;obtain ⟨E2,h2,g2⟩:=h' m w E1 a h1;exact ⟨E2,h2,g1.trans g2⟩
variable {R R':Exit->S->Prop}
def qX.pre {c:Code} (hw:zp B s s1) (h:qX P B c s1 R):qX P B c s R:=fun q m w E a Q hr hs hq=>by
 obtain ⟨E1,h1,g1⟩:=hw m w E a hs;exact h q m w E1 a Q hr h1 fun ex s' w' E' a' hR h2 g2=>hq ex s' w' E' a' hR h2 (g1.trans g2)
def qX.post {c:Code} (h:qX P B c s R') (hw:∀ ex s1,R' ex s1->∃ s2,zp B s1 s2∧R ex s2):qX P B c s R:=fun q m w E a Q hr hs hq=>
 h q m w E a Q hr hs fun ex s1 w' E' a' hR h1 g1=>by
  obtain ⟨s2,hw2,hR2⟩:=hw ex s1 hR;obtain ⟨E2,h2,g2⟩:=hw2 m w' E' a' h1;exact hq ex s2 w' E2 a' hR2 h2 (g1.trans g2)
def qX.mono {c:Code} (h:qX P B c s R') (hw:∀ ex s1,R' ex s1->R ex s1):qX P B c s R:=h.post fun ex s1 hR=>⟨s1,.refl s1,hw ex s1 hR⟩
def iJ.pre {c:Code} {n:Nat} (hw:zp B s s1) (h:iJ P B c n s1 R):iJ P B c n s R:=fun q m w E a Q hr hs hq=>by
 obtain ⟨E1,h1,g1⟩:=hw m w E a hs;exact h q m w E1 a Q hr h1 fun ex s' w' E' a' hR h2 g2=>hq ex s' w' E' a' hR h2 (g1.trans g2)
def qX.skip (h:R .normal s):qX P B .skip s R:=fun q m w E a Q hr hs hq=>wpIn_skip (hq _ _ w E a h hs (jF.refl B w E s.H))
def qX.exit (id:Nat) (h:R (.exit id) s):qX P B (.exit id) s R:=fun q m w E a Q hr hs hq=>wpIn_exit (hq _ _ w E a h hs (jF.refl B w E s.H))
def qX.label (l:Nat) (h:R .normal s):qX P B (.label l) s R:=fun q m w E a Q hr hs hq=>wpIn_label (hq _ _ w E a h hs (jF.refl B w E s.H))
def qX.ret (h:R .ret s):qX P B .ret s R:=fun q m w E a Q hr hs hq=>wpIn_ret (hq _ _ w E a h hs (jF.refl B w E s.H))
def M3 (next:S->Prop) (R:Exit->S->Prop):Exit->S->Prop
 | .normal,s=>next s
 | ex,s=>R ex s
def qX.seq {x y:Code} (h:qX P B x s (M3 (fun s1=>qX P B y s1 R) R)):qX P B (.seq x y) s R:=fun q m w E a Q hr hs hq=>
 wpIn_seq (h q m w E a _ (fun e=>hr (by simp [xy,e])) hs fun ex s1 w1 E1 a1 hR h1 g1=>by
  cases ex with
  | normal=>exact (hR:qX P B y s1 R) q m w1 E1 a1 Q (fun e=>hr (by simp [xy,e])) h1 fun ex s2 w2 E2 a2 hR2 h2 g2=>hq ex s2 w2 E2 a2 hR2 h2 (g1.trans g2)
  | _=>exact hq _ s1 w1 E1 a1 hR h1 g1)
def Mc (id:Nat) (R:Exit->S->Prop):Exit->S->Prop
 | .exit id',s=>if id'=id then R .normal s else R (.exit id') s
 | ex,s=>R ex s
def qX.block {id:Nat} {c:Code} (h:qX P B c s (Mc id R)):qX P B (.block id c) s R:=fun q m w E a Q hr hs hq=>
 wpIn_block (h q m w E a _ hr hs fun ex s1 w1 E1 a1 hR h1 g1=>by
  cases ex with
  | exit id'=>
   simp only [Exit.inBlock,Mc] at *;split
   ·rename_i hi;rw [dU hi] at hR;exact hq _ s1 w1 E1 a1 hR h1 g1
   ·rename_i hi;rw [dR hi] at hR;exact hq _ s1 w1 E1 a1 hR h1 g1
  | _=>exact hq _ s1 w1 E1 a1 hR h1 g1)
def WY (R:Exit->S->Prop):Exit->S->Prop
 | .goto _,_=>False
 | ex,s=>R ex s
def qX.scope {c:Code} (h:qX P B c s (WY R)):qX P B (.scope c) s R:=fun q m w E a Q hr hs hq=>
 Ns (h q m w E a _ hr hs fun ex s1 w1 E1 a1 hR h1 g1=>by
  cases ex with
  | goto l=>exact (hR:False).elim
  | _=>exact hq _ s1 w1 E1 a1 hR h1 g1)
def qX.goto (l:Nat) (h:R (.goto l) s):qX P B (.goto l) s R:=fun q m w E a Q hr hs hq=>wpIn_goto (hq _ _ w E a h hs (jF.refl B w E s.H))
def ND:∀ {c:Code} {l:Nat} {rest:Code},findLabel c l=some rest->xy rest=true->xy c=true:=by
 intro c
 induction c with
 | seq x y ihx ihy=>
  intro l rest h hr;simp only [findLabel] at h;split at h
  ·rename_i r hx;cases h
   simp only [xy,pJ] at hr ⊢;exact hr.imp (ihx hx) id
  ·simp only [xy,pJ];exact .inr (ihy h hr)
 | label l'=>
  intro l rest h hr;simp only [findLabel] at h;split at h
  ·cases h;cases hr
  ·cases h
 | _=>intro l rest h;simp [findLabel] at h
inductive Au (P:Program) (B:Nat) (c:Code) (R:Exit->S->Prop):Nat->S->Prop
 | mk {l:Nat} {s:S} {rest:Code} (R':Exit->S->Prop):findLabel c l=some rest->qX P B rest s R'->(∀ e s,R' e s->(∀ l,e≠.goto l)->R e s)->(∀ l s,R' (.goto l) s->Au P B c R l s)->Au P B c R l s
def Au.Xb {c:Code} {l:Nat} (h:Au P B c R l s):∀ (q:Option Nat) (m:Nat) (w:World) (E:Env) (a:Act) (Q:Exit->Act->World->Prop),(xy c=true->q=none)->xR B m w E s a->
  (∀ ex s' w' E' a',R ex s'->xR B m w' E' s' a'->jF B w E s.H w' E' s'.H->Q ex a' w')->Cq (fw q) 0 P c Q l a w:=by
 induction h with
 | @mk l s rest R1 hf h1 h2 h3 ih=>
  intro q m w E a Q hr hs hq
  refine .mk (fun e a' w'=>∃ s' E',R1 e s'∧xR B m w' E' s' a'∧jF B w E s.H w' E' s'.H) hf (h1 q m w E a _ (fun e=>hr (ND hf e)) hs fun ex s' w' E' a' hR h g=>⟨s',E',hR,h,g⟩)
   (fun e a' w' ⟨s',E',hR,h,g⟩ he=>hq _ _ _ _ _ (h2 _ _ hR he) h g) (fun l' a' w' ⟨s',E',hR,h,g⟩=>?_)
  exact ih _ _ hR q m w' E' a' Q hr h fun ex s2 w2 E2 a2 hR2 hs2 g2=>hq ex s2 w2 E2 a2 hR2 hs2 (g.trans g2)
def Mz (P:Program) (B:Nat) (c:Code) (R:Exit->S->Prop):Exit->S->Prop
 | .goto l,s=>Au P B c R l s
 | ex,s=>R ex s
def qX.WW {c:Code} (h:qX P B c s (Mz P B c R)):qX P B (.scope c) s R:=fun q m w E a Q hr hs hq=>
 NA (Q':=fun e a' w'=>∃ s' E',Mz P B c R e s'∧xR B m w' E' s' a'∧jF B w E s.H w' E' s'.H) (h q m w E a _ hr hs fun ex s' w' E' a' hR h g=>⟨s',E',hR,h,g⟩)
  (fun e a' w' ⟨s',E',hR,h,g⟩ he=>by
   cases e with
   | goto l=>exact absurd rfl (he l)
   | _=>exact hq _ _ _ _ _ hR h g)
  (fun l a' w' ⟨s',E',hR,h,g⟩=>Au.Xb hR q m w' E' a' Q hr h fun ex s2 w2 E2 a2 hR2 hs2 g2=>hq ex s2 w2 E2 a2 hR2 hs2 (g.trans g2))
def iJ.step {c:Code} {n:Nat} (h:qX P B c s (M3 (fun s1=>iJ P B c n s1 R) R)):iJ P B c (n+1) s R:=fun q m w E a Q hr hs hq=>by
 rw [roundsIn_succ]
 exact h q m w E a _ hr hs fun ex s1 w1 E1 a1 hR h1 g1=>by
  cases ex with
  | normal=>exact (hR:iJ P B c n s1 R) q m w1 E1 a1 Q hr h1 fun ex s2 w2 E2 a2 hR2 h2 g2=>hq ex s2 w2 E2 a2 hR2 h2 (g1.trans g2)
  | _=>exact hq _ s1 w1 E1 a1 hR h1 g1
def iJ.more {c:Code} {n m:Nat} (hm:n<=m) {s:S} (h:iJ P B c n s R):iJ P B c m s R:=fun q k w E a Q hr hs hq=>IW hm (h q k w E a Q hr hs hq)
def zW (P:Program) (B:Nat) (c:Code) (s:S) (R:Exit->S->Prop):Prop:=∃ n,iJ P B c n s R
def zW.pre {c:Code} (hw:zp B s s1) (h:zW P B c s1 R):zW P B c s R:=let ⟨n,hn⟩:=h;⟨n,.pre hw hn⟩
def qX.loop {c:Code} (h:zW P B c s R):qX P B (.loop c) s R:=fun q m w E a Q hr hs hq=>let ⟨n,hn⟩:=h;wpIn_loop_rounds n (hn q m w E a Q hr hs hq)
def fK:Value->C
 | .slice none 0 0=>.u1 1 0 []
 | .func (.func f) first caps=>if first.size=0∧caps.size=0 then .fn f [] [] else .za
 | .tuple vs=>if vs.size=0 then .un else .za
 | .agg _=>.za
 | x=>.v x
def MD (E:Env) (x:Value):L E (fK x) x:=by
 unfold fK;split
 ·exact .xv _ _ (.inr rfl)
 ·rename_i f first caps;split
  ·rename_i h;obtain ⟨h1,h2⟩:=h;obtain rfl:first= #[]:=pU h1;obtain rfl:caps= #[]:=pU h2;exact .fn f [] [] #[] #[] rfl rfl (by simp) (by simp)
  ·exact .za _
 ·rename_i vs;split
  ·rename_i h;obtain rfl:vs= #[]:=pU h;exact .un
  ·exact .za _
 ·exact .za _
 ·rename_i h1 h2;refine .v _ ?_;cases x <;> simp_all [Value.oneCell']
def ev (tmps:List C):Operand->C
 | .tmp t=>(tmps[t]?).getD .za
 | .const v=>fK v
 | .global g=>.v (.pointer (some ⟨g,0,none⟩))
 | .func f=>.fn f [] []
def C1 {E:Env} {tmps:List C} {a:Act} (h:LL E tmps a.tmps.toList) (x:Operand):L E (ev tmps x) (a.eval x):=by
 cases x with
 | tmp t=>
  simp only [ev,Act.eval];cases ht:tmps[t]? with
  | none=>exact .za _
  | some c=>
   obtain ⟨y,hy,hl⟩:=h.get ht
   have:a.tmps.getD t undef=y:=by
    rw [gN] at hy;rw [pa,hy];rfl
   rw [this];exact hl
 | const v=>exact MD E v
 | global g=>exact .v _ rfl
 | func f=>exact .fn f [] [] #[] #[] rfl rfl (by simp) (by simp)
def Bi (ops:Array Oper) (tmps:List C) (j:Nat):Option (Option Bool):=
 match (ops[j]?).bind (·.dst) with
 | none=>some none
 | some d=>match tmps[d]? with
  | none=>some none
  | some (.v (.bool b))=>some (some b)
  | some .un=>some none
  | _=>none
def Kt {E:Env} {ops:Array Oper} {tmps:List C} {a:Act} (h:LL E tmps a.tmps.toList) {j:Nat} {r:Option Bool} (hr:Bi ops tmps j=some r):yielded ops a.tmps j=r:=by
 unfold Bi at hr;unfold yielded;cases hd:(ops[j]?).bind (·.dst) with
 | none=>simp only [hd] at hr;cases hr;rfl
 | some d=>
  simp only [hd,gE] at hr ⊢;cases ht:tmps[d]? with
  | none=>
   simp only [ht] at hr;cases hr
   have hn:a.tmps[d]?= none:=by
    rw [Array.getElem?_eq_none_iff];have:=pO.1 ht;have h1:=h.1;simp at h1;omega
   rw [hn]
  | some c=>
   simp only [ht] at hr;obtain ⟨y,hy,hl⟩:=h.get ht;rw [gN] at hy;rw [hy];split at hr
   ·rename_i e;cases e
   ·rename_i e;cases e;cases hr;cases hl;rfl
   ·rename_i e;cases e;cases hr;cases hl;rfl
   ·cases hr
def jJ (ops:Array Oper) (tmps:List C) (o:Oper):Option Bool:=
 match o.guard with
 | none=>some true
 | some (j,want)=>match Bi ops tmps j with
  | some (some b)=>some (b == want)
  | some none=>some false
  | none=>none
def jV {E:Env} {ops:Array Oper} {tmps:List C} {a:Act} (h:LL E tmps a.tmps.toList) {o:Oper} {b:Bool} (hb:jJ ops tmps o=some b):
  Region.wanted o (yielded ops a.tmps)=b:=by
 unfold jJ at hb;unfold Region.wanted;split at hb
 ·rename_i hg;simp only [hg];cases hb;rfl
 ·rename_i j want hg;simp only [hg];split at hb
  ·rename_i x hx;rw [Kt h hx];cases hb;cases x <;> cases want <;> rfl
  ·rename_i hx;rw [Kt h hx];cases hb;rfl
  ·cases hb
def put (tmps:List C) (dst:Option Tmp) (c:C):List C:=
 match dst with
 | some d=>tmps.set d c
 | none=>tmps
def D9 {E:Env} {tmps:List C} {a:Act} (h:LL E tmps a.tmps.toList) {c:C} {y:Value} (hl:L E c y) (dst:Option Tmp):LL E (put tmps dst c) (a.put dst y).tmps.toList:=by
 cases dst with
 | none=>exact h
 | some d=>simpa [put,Act.put] using h.set hl d
def xR.put {m:Nat} {w:World} {E:Env} {s:S} {a:Act} (h:xR B m w E s a) {c:C} {y:Value} (hl:L E c y) (dst:Option Tmp):
  xR B m w E ⟨Ab.put s.tmps dst c,s.H⟩ (a.put dst y):=
 ⟨h.heap,D9 h.tmps hl dst,by cases dst <;> exact h.defers,h.base⟩
def wa.nil {ops:Array Oper} {R:S->Prop} (h:R s):wa P B ops [] s R:=fun q m w E a Q hs hq=>wpListIn_nil (hq s w E a h hs (jF.refl B w E s.H))
def wa.run {ops:Array Oper} {o:Oper} {l:List Oper} {R1 R:S->Prop} (hw:jJ ops s.tmps o=some true) (h:nI P B o s R1) (h':∀ s1,R1 s1->wa P B ops l s1 R):wa P B ops (o::l) s R:=fun q m w E a Q hs hq=>by
 unfold wpListIn;rw [dU (jV hs.tmps hw)];exact h q m w E a _ Q hs fun s1 w1 E1 a1 hR h1 g1=>h' s1 hR q m w1 E1 a1 Q h1 fun s2 w2 E2 a2 hR2 h2 g2=>hq s2 w2 E2 a2 hR2 h2 (g1.trans g2)
def wa.pass {ops:Array Oper} {o:Oper} {l:List Oper} {R:S->Prop} (hw:jJ ops s.tmps o=some false) (h':wa P B ops l ⟨put s.tmps o.dst .un,s.H⟩ R):wa P B ops (o::l) s R:=fun q m w E a Q hs hq=>by
 unfold wpListIn;rw [dR (by rw [jV hs.tmps hw];decide)];exact ⟨fun _ _=>trivial,h' q m w E _ Q (hs.put (.un) o.dst) hq⟩
def qX.region {id:Nat} {ops:Array Oper} {R:Exit->S->Prop} (h:wa P B ops ops.toList s (R .normal)):qX P B (.region id ops false) s R:=fun q m w E a Q hs0 hs hq=>
 wpIn_region_list (h q m w E a Q hs fun s' w' E' a' hR h1 g1=>hq _ s' w' E' a' hR h1 g1)
def qX.cond {c:Operand} {x y:Code} {b:Bool} {R:Exit->S->Prop} (hc:ev s.tmps c=.v (.bool b)) (h:qX P B (if b then x else y) s R):qX P B (.cond c x y) s R:=fun q m w E a Q hr hs hq=>by
 have:=C1 hs.tmps c;rw [hc] at this;have hb:a.eval c=.bool b:=by generalize a.eval c=z at *;cases this;rfl
 exact wpIn_cond hb (h q m w E a Q (fun e=>hr (by cases b <;> simp_all [xy])) hs hq)
end
def mf (P:Program) (K:Value->World->Prop):Result Next->Prop
 | .ok (.value v) w=>K v w
 | .ok .skip w=>K undef w
 | .ok (.enter f args) w=>Calls P f args w fun e w'=>∃ v,e=.returned v∧K v w'
 | .ok (.round l f tmps assign body) w=>RoundIn (fw none) 0 P l f tmps assign body w fun e w'=>∃ v,e=.returned v∧K v w'
 | _=>False
def eh (P:Program) (o:Oper) (ρ:Operand->C) (H:zl) (c:C) (H':zl):Prop:=
 ∀ (w:World) (E:Env) (σ:Operand->Value),qx w E H->(∀ x ∈ o.op.operands,L E (ρ x) (σ x))->
  ∀ K:Value->World->Prop,(∀ v w' E',qx w' E' H'->L E' c v->Grow w E H w' E' H'->K v w')->mf P K ((execOp σ o).run P w)
def qL (P:Program) (o:Oper) (ρ:Operand->C) (H:zl) (c:C) (H':zl):Prop:=
 ∀ (w:World) (E:Env) (σ:Operand->Value),qe w E H->(∀ x ∈ o.op.operands,L E (ρ x) (σ x))->
  ∀ K:Value->World->Prop,(∀ v w' E',qe w' E' H'->L E' c v->qD w E H w' E' H'->K v w')->mf P K ((execOp σ o).run P w)
def lW (P:Program) (o:Oper) (ρ:Operand->C) (H:zl) (c:C) (H':zl):Prop:=
 ∀ (w:World) (E:Env) (σ:Operand->Value),qx w E H->(∀ x ∈ o.op.operands,L E (ρ x) (σ x))->(∀ v,σ (.const v)=v)->
  ∀ K:Value->World->Prop,(∀ v w' E',qx w' E' H'->L E' c v->Grow w E H w' E' H'->K v w')->mf P K ((execOp σ o).run P w)
def jI (P:Program) (o:Oper) (ρ:Operand->C) (H:zl) (R:C->zl->Prop):Prop:=
 ∀ (w:World) (E:Env) (σ:Operand->Value),qx w E H->(∀ x ∈ o.op.operands,L E (ρ x) (σ x))->(∀ v,σ (.const v)=v)->
  ∀ K:Value->World->Prop,(∀ c H' v w' E',R c H'->qx w' E' H'->L E' c v->Grow w E H w' E' H'->K v w')->mf P K ((execOp σ o).run P w)
def lW.lf {P:Program} {o:Oper} {ρ:Operand->C} {H H':zl} {c:C} {R:C->zl->Prop} (h:lW P o ρ H c H') (hR:R c H'):jI P o ρ H R:=fun w E σ hh hl hc K hk=>h w E σ hh hl hc K fun v w' E'=>hk c H' v w' E' hR
def eh.lf {P:Program} {o:Oper} {ρ:Operand->C} {H H':zl} {c:C} {R:C->zl->Prop} (h:eh P o ρ H c H') (hR:R c H'):jI P o ρ H R:=fun w E σ hh hl _ K hk=>h w E σ hh hl K fun v w' E'=>hk c H' v w' E' hR
def nI.DU {P:Program} {B:Nat} {o:Oper} {s:S} {R:C->zl->Prop} (h:jI P o (ev s.tmps) s.H R):nI P B o s (fun s'=>∃ c H',R c H'∧s'=⟨put s.tmps o.dst c,H'⟩):=fun q m w E a K Q hs hk=>by
 have:=h w E a.eval hs.heap (fun x _=>C1 hs.tmps x) (fun _=>rfl) (fun v w'=>K (a.put o.dst v) w') fun c H' v w' E' hR h1 h2 g=>
  hk _ w' E' _ ⟨c,H',hR,rfl⟩ ⟨h1,D9 (hs.tmps.mono g.le) h2 o.dst,by have:=hs.defers.grow hs.heap g;cases o.dst <;> exact this,by have:=g.le.n;rw [hs.heap.n,h1.n] at this;exact gY hs.base this⟩ (g.fI (by rw [hs.heap.n];exact hs.base))
 have fp:∀ d,o.op≠.defer d:=fun d hd=>by
  have h2:=this;unfold execOp at h2;simp only [hd,Sem.run_bind] at h2;cases hr:(resolve a.eval d o.type).run P w with
  | ok x w1=>simp [hr,Result.andThen,mf] at h2
  | halt x w1=>simp [hr,Result.andThen,mf] at h2
 unfold Oper.wpIn;refine ⟨fun _ _=>trivial,?_⟩;rw [Oper.semAt_eq _ _ _ fp];generalize (execOp a.eval o).run P w=r at this ⊢;unfold mf at this;split at this
 ·exact this
 ·exact this
 ·rw [Oper.uponIn_enter];refine ⟨fun h=>(by cases h),callsIn_wide.2 (Calls.mono this ?_)⟩;rintro e w' ⟨v,rfl,hv⟩;exact hv
 ·rw [Oper.uponIn_round];refine ⟨fun h=>(by cases h),RoundIn.mono (F:=fw q) this ?_⟩;rintro e w' ⟨v,rfl,hv⟩;exact hv
 ·exact this.elim
def nI.D2 {P:Program} {B:Nat} {o:Oper} {s:S} {c:C} {H':zl} (h:eh P o (ev s.tmps) s.H c H') (q:Option Nat) (m:Nat) (w:World) (E:Env) (a:Act) (K:Act->World->Prop) (Q:Exit->Act->World->Prop) (hs:xR B m w E s a)
  (hq:∀ w' E' a',xR B m w' E' ⟨put s.tmps o.dst c,H'⟩ a'->jF B w E s.H w' E' H'->K a' w'):o.wpIn (fw q) 0 P a w K Q:=
 nI.DU (B:=B) (h.lf (R:=fun x X=>x=c∧X=H') ⟨rfl,rfl⟩) q m w E a K Q hs fun s' w' E' a' ⟨x,X,⟨e1,e2⟩,e3⟩ h1 g1=>by subst e1 e2 e3;exact hq w' E' a' h1 g1
def eh.congr {P:Program} {o:Oper} {ρ ρ':Operand->C} {H H':zl} {c:C} (h:eh P o ρ H c H') (he:∀ x ∈ o.op.operands,ρ' x=ρ x):eh P o ρ' H c H':=
 fun w E σ hh hl K hk=>h w E σ hh (fun x hx=>he x hx ▸ hl x hx) K hk
def qL.congr {P:Program} {o:Oper} {ρ ρ':Operand->C} {H H':zl} {c:C} (h:qL P o ρ H c H') (he:∀ x ∈ o.op.operands,ρ' x=ρ x):qL P o ρ' H c H':=
 fun w E σ hh hl K hk=>h w E σ hh (fun x hx=>he x hx ▸ hl x hx) K hk
def eh.BL {P:Program} {o:Oper} {ρ:Operand->C} {H H':zl} {c:C} (h:qL P o ρ H c H') (hk:jH H H'):eh P o ρ H c H':=fun w E σ hh hl K hK=>
 h w E σ hh.base hl K fun v w' E' h1 h2 g=>hK v w' E' ⟨h1,ly.step hh g hk⟩ h2 (g.up hh hk)
def eh.same {P:Program} {o:Oper} {ρ:Operand->C} {H:zl} {c:C} (h:qL P o ρ H c H):eh P o ρ H c H:=.BL h (jH.refl H)
def jH.push (H:zl) (ob:Ob) (hk:ob.kind≠4):jH H (H++[ob]):=fun id ob' h4=>by
 by_cases u4:id < H.length
 ·rw [dX u4]
 ·rw [gu (by omega),pC (l:=H) (by omega)];constructor
  ·intro h;cases hd:id - H.length with
   | zero=>rw [hd] at h;cases h;exact absurd h4 hk
   | succ n=>rw [hd] at h;simp at h
  ·intro h;cases h
def jH.modify (H:zl) (id:Nat) (f:Ob->Ob) (hf:∀ ob,H[id]?= some ob->ob.kind≠4∧(f ob).kind≠4):jH H (H.modify id f):=fun id' ob' h4=>by
 rw [pA];by_cases he:id=id'
 ·subst he;cases hx:H[id]? with
  | none=>simp
  | some ob=>
   obtain ⟨h1,h2⟩:=hf ob hx;simp only [ru,gh,if_true];constructor
   ·intro h;cases h;exact absurd h4 h2
   ·intro h;cases h;exact absurd h4 h1
 ·cases hx:H[id']? with
  | none=>simp
  | some ob=>simp [he]
def jH.trans {H H' H'':zl} (h:jH H H') (h':jH H' H''):jH H H'':=fun id ob h4=>(h' id ob h4).trans (h id ob h4)
def iQ (P:Program) {α:Type}:Sem α->Option α
 | .pure a=>some a
 | .program k=>iQ P (k P)
 | _=>none
def UK {P:Program} {α:Type} (e:Sem α) {a:α} (h:iQ P e=some a) (w:World):e.run P w=.ok a w:=by
 induction e with
 | pure a'=>simp only [iQ,gC] at h;subst h;rfl
 | program k ih=>simp only [iQ] at h;exact ih P h
 | _=>simp [iQ] at h
def nT:C->Value
 | .v x=>x
 | _=>undef
def eF:C->Bool
 | .v _=>true
 | _=>false
def xK (o:Oper):Bool:=match o.op with | .select ..=>false | _=>true
def qL.scalar {P:Program} {o:Oper} {ρ:Operand->C} {H:zl} {v:Value} (hs:xK o=true) (hv:o.op.operands.all (fun x=>eF (ρ x))=true)
  (hr:iQ P (execOp (fun x=>nT (ρ x)) o)=some (.value v)) (h1:v.oneCell'=true):qL P o ρ H (.v v) H:=fun w E σ hh hl K hk=>by
 have he:execOp σ o=execOp (fun x=>nT (ρ x)) o:=execOp_congr o (fun cs b hc=>by simp [xK,hc] at hs) fun x hx=>by
  have h1:eF (ρ x)=true:=by
   have:=Array.all_eq_true_iff_forall_mem.1 hv x hx;simpa using this
  have h2:=hl x hx;cases hc:ρ x with
  | v y=>rw [hc] at h2;cases h2;rfl
  | _=>rw [hc] at h1;cases h1
 rw [he,UK _ hr w];exact hk v w E hh (.v v h1) (qD.refl w E H)
def JH {w:World} {o:Obj} {b off:Nat} (h:b < w.heap.size):(w.alloc o).cell? ⟨b,off,none⟩=w.cell? ⟨b,off,none⟩:=
 World.cell?_alloc_lt _ _ _ h
def A3 {w:World} {b off:Nat} {u:Value} (h:w.cell? ⟨b,off,none⟩=some u):b < w.heap.size:=World.block_lt_of_cell? w _ h
def Env.push (E:Env) (g κ:Nat):Env:=
 { n:=E.n+1,β:=fun id hops=>if id=E.n then g else E.β id hops,κ:=fun id hops=>if id=E.n then κ else E.κ id hops,St:=E.St,G:=E.G }
def Env.GF (E:Env) (g κ:Nat):E.le (E.push g κ):=
 ⟨pH _,fun id hops h=>by simp [Env.push,se h],fun id hops h=>by simp [Env.push,se h],fun b o u h=>h,fun _ _ _ _ h=>h⟩
def zy:C->Bool
 | .u1 2 _ _=>false
 | _=>true
def qU.loose {E:Env} {kd id:Nat} {hops:List eU} {i k:Nat} {c:C} {u:Value} (hn:zy c=true):qU E kd id hops i k c u↔L (E.at kd) c u∧u.oneCell'=true:=by
 unfold qU;split
 ·simp [zy] at hn
 ·rfl
def qU.mono {E E':Env} (h:E.le E') {kd id:Nat} (hid:id < E.n) {hops:List eU} {i k:Nat} {c:C} {u:Value} (hc:qU E kd id hops i k c u):qU E' kd id hops i k c u:=by
 unfold qU at *;split at hc
 ·rw [h.β id _ hid,h.κ id _ hid];exact hc
 ·exact ⟨hc.1.mono (h.at kd),hc.2⟩
def An {H:zl} {id:Nat} {hops:List eU} {x:Nat × List (List C)} (h:qb H id hops=some x):id < H.length:=by
 unfold qb at h;split at h
 ·rename_i ob ho;exact (dP.1 ho).1
 ·cases h
def jh {H:zl} {id:Nat} {hops:List eU} {x:Nat × List (List C)} (h:qb H id hops=some x):∃ ob,H[id]?= some ob∧(ob.kind=1∨ob.kind=2)∧vD ob.sz ob.rows hops=some x:=by
 unfold qb at h;split at h
 ·rename_i ob ho;split at h
  ·rename_i hk;exact ⟨ob,ho,hk,h⟩
  ·cases h
 ·cases h
def qe.lt {w:World} {E:Env} {H:zl} (h:qe w E H) {id:Nat} {hops:List eU} {x:Nat × List (List C)} (hx:qb H id hops=some x):E.β id hops < w.heap.size:=by
 obtain ⟨ob,ho,_,_⟩:=jh hx;obtain ⟨cur,e,hg,_⟩:=(h.eu id ob hops x.1 x.2 ho (by simpa using hx)).eu;exact (gm.1 hg).1
def kf {H:zl} {id:Nat} {hops:List eU} (h:id < H.length) (X:zl):qb (H++X) id hops=qb H id hops:=by
 unfold qb;rw [dX h]
def Bu.Gs {w:World} {E:Env} {kd id:Nat} {hops:List eU} {sz:Nat} {rows:List (List C)} (h:Bu w E kd id hops sz rows):E.β id hops < w.heap.size:=by
 obtain ⟨cur,e,hg,_⟩:=h.eu;exact (gm.1 hg).1
def Bu.step {w w':World} {E E':Env} (hle:E.le E') {kd id:Nat} (hid:id < E.n) {hops:List eU} {sz:Nat} {rows:List (List C)} (h:Bu w E kd id hops sz rows)
  (hh:w'.heap[E.β id hops]?= w.heap[E.β id hops]?):Bu w' E' kd id hops sz rows:=by
 obtain ⟨cur,e,hg,hsz,hc⟩:=h.eu;refine ⟨by rw [hle.κ id hops hid];exact h.len,h.row,cur,e,by rw [hle.β id hops hid,hh];exact hg,by rw [hle.κ id hops hid];exact hsz,?_⟩;intro i k c hcc;obtain ⟨u,hu,ho⟩:=hc i k c hcc;exact ⟨u,hu,ho.mono hle hid⟩
def kU {sz:Nat} {rows:List (List C)} (hn:∀ i k c,cellAt rows i k=some c->zy c=true) {hops:List eU} {x:Nat × List (List C)} (h:vD sz rows hops=some x):hops=[]∧x=(sz,rows):=by
 cases hops with
 | nil=>simp [vD] at h;exact ⟨rfl,h.symm⟩
 | cons hd tl=>
  obtain ⟨i,k⟩:=hd;simp only [vD] at h;split at h
  ·rename_i h1;have:=hn _ _ _ h1;simp [zy] at this
  ·cases h
def qe.push {w:World} {E:Env} {H:zl} (h:qe w E H) (kind:Nat) (ty:TypeId) (sz κ:Nat) (rows:List (List C)) (cur:Array Value) (hk:kind=1∨kind=2) (hrow:∀ r ∈ rows,r.length=sz)
  (hlen:rows.length<=κ) (hcur:cur.size=κ * sz) (hn:∀ i k c,cellAt rows i k=some c->zy c=true)
  (hc:∀ i k c,cellAt rows i k=some c->∃ u,cur[i * sz+k]?= some u∧L (E.at kind) c u∧u.oneCell'=true):
  qe (w.alloc (.cells cur ty)) (E.push w.heap.size κ) (H++[⟨kind,ty,sz,rows,0⟩])∧qD w E H (w.alloc (.cells cur ty)) (E.push w.heap.size κ) (H++[⟨kind,ty,sz,rows,0⟩]):=by
 have hle:=E.GF w.heap.size κ
 have get:∀ id hops x,qb (H++[⟨kind,ty,sz,rows,0⟩]) id hops=some x->(id < H.length∧qb H id hops=some x)∨(id=H.length∧hops=[]∧x=(sz,rows)):=by
  intro id hops x hx;by_cases u4:id < H.length
  ·exact .inl ⟨u4,by rw [kf u4] at hx;exact hx⟩
  ·have h1:=An hx;simp at h1;have:id=H.length:=by omega
   subst this;simp only [qb,gu (gf _),rp,sS] at hx;rw [dU hk] at hx;obtain ⟨e1,e2⟩:=kU hn hx;exact .inr ⟨rfl,e1,e2⟩
 have hnew:∀ hops,(E.push w.heap.size κ).β H.length hops=w.heap.size:=fun hops=>by simp [Env.push,h.n]
 have hold:∀ id hops,id < H.length->(E.push w.heap.size κ).β id hops=E.β id hops:=fun id hops u4=>hle.β id hops (by rw [h.n];exact u4)
 refine ⟨⟨by simp [Env.push,h.n],?_,?_,?_,?_,?_,?_⟩,⟨hle,fun _ _ _=>rfl,rfl,rfl,rfl,by show _<=(w.heap.push _).size;simp,?_,?_,?_⟩⟩
 ·intro id ob hops sz' rows' hob hx;rcases get id hops _ hx with ⟨u4,hx'⟩ | ⟨rfl,rfl,hx'⟩
  ·rw [dX u4] at hob;have hb:=h.eu id ob hops sz' rows' hob hx';exact hb.step hle (by rw [h.n];exact u4) (heap_alloc_old w _ hb.Gs)
  ·cases hx'
   simp at hob;subst hob;refine ⟨by simp [Env.push,h.n,hlen],hrow,cur,ty,by rw [hnew];exact heap_alloc_new w _,by simp [Env.push,h.n,hcur],?_⟩;intro i k c hcc;obtain ⟨u,hu,hl,ho⟩:=hc i k c hcc;exact ⟨u,hu,(qU.loose (hn i k c hcc)).2 ⟨hl.mono (hle.at kind),ho⟩⟩
 ·intro id hops id' hops' x y hx hy he;rcases get id hops _ hx with ⟨u4,hx'⟩ | ⟨rfl,rfl,hx'⟩ <;> rcases get id' hops' _ hy with ⟨hlt',hy'⟩ | ⟨rfl,rfl,hy'⟩
  ·rw [hold id hops u4,hold id' hops' hlt'] at he;exact h.inj id hops id' hops' x y hx' hy' he
  ·rw [hold id hops u4,hnew] at he;have:=h.lt hx';omega
  ·rw [hold id' hops' hlt',hnew] at he;have:=h.lt hy';omega
  ·exact ⟨rfl,rfl⟩
 ·intro b o u hu;have hs:=h.qv b o u hu;rw [JH (A3 hs.1)];exact hs
 ·intro id hops x o u hx hu;rcases get id hops _ hx with ⟨u4,hx'⟩ | ⟨rfl,rfl,hx'⟩
  ·rw [hold id hops u4] at hu;obtain ⟨e1,ob,e2,e3⟩:=h.sep id hops x o u hx' hu;exact ⟨e1,ob,by rw [dX u4];exact e2,e3⟩
  ·rw [hnew] at hu;have:=A3 (h.qv _ _ _ hu).1;omega
 ·intro id ob hob hkd;by_cases u4:id < H.length
  ·rw [dX u4] at hob;obtain ⟨cur',hc'⟩:=h.ty id ob hob hkd;refine ⟨cur',?_⟩;rw [hold id [] u4,heap_alloc_old w _ (gm.1 hc').1];exact hc'
  ·have h1:=(dP.1 hob).1;simp at h1;have:id=H.length:=by omega
   subst this;simp at hob;subst hob;exact ⟨cur,by rw [hnew];exact heap_alloc_new w _⟩
 ·intro id ob hob;by_cases u4:id < H.length
  ·rw [dX u4] at hob;exact h.fz id ob hob
  ·have h1:=(dP.1 hob).1;simp at h1;have:id=H.length:=by omega
   subst this;simp at hob;subst hob;exact gF _
 ·intro k hk' ho;exact heap_alloc_old w _ hk'
 ·intro b o u hu;exact .inl hu
 ·rintro b ⟨id,hops,x,hx,rfl⟩;rcases get id hops _ hx with ⟨u4,hx'⟩ | ⟨rfl,rfl,hx'⟩
  ·exact .inr ⟨id,hops,x,hx',by rw [hold id hops u4]⟩
  ·exact .inl (by rw [hnew];exact gf _)
section
variable {P:Program} {o:Oper} {ρ:Operand->C} {H:zl}
def jr {t:TypeId} {i:TypeInfo} (h:P.info? t=some i) (w:World):(sizeOf t).run P w=.ok i.size w:=by
 simp [sizeOf,typeInfo,h]
def xO {t:TypeId} {i:TypeInfo} {z:Value} (h:P.info? t=some i) (hz:i.zero=some z) (w:World):(zeroValue t).run P w=.ok z w:=by
 simp [zeroValue,typeInfo,h,hz]
def qL.move (x:Operand) (ho:o.op=.move x∨o.op=.assign x):qL P o ρ H (ρ x) H:=fun w E σ hh hl K hk=>by
 have h1:(execOp σ o).run P w=.ok (.value (σ x)) w:=by
  unfold execOp;rcases ho with ho | ho <;> simp only [ho] <;> rfl
 rw [h1];exact hk _ w E hh (hl x (by rcases ho with ho | ho <;> simp [ho,Op.operands])) (qD.refl w E H)
def qL.pick (x y z:Operand) (ho:o.op=.pick x y z) (b:Bool) (hb:ρ x=.v (.bool b)):qL P o ρ H (if b then ρ y else ρ z) H:=fun w E σ hh hl K hk=>by
 have h0:=hl x (by simp [ho,Op.operands]);rw [hb] at h0;have hx:σ x=.bool b:=by generalize σ x=u at *;cases h0;rfl
 have h1:(execOp σ o).run P w=.ok (.value (if b then σ y else σ z)) w:=by
  unfold execOp;simp only [ho,hx];cases b <;> rfl
 rw [h1];refine hk _ w E hh ?_ (qD.refl w E H);cases b
 ·exact hl z (by simp [ho,Op.operands])
 ·exact hl y (by simp [ho,Op.operands])
def yU {cs:List C} {i k:Nat} {c:C}:cellAt [cs] i k=some c↔i=0∧cs[k]?= some c:=by
 unfold cellAt;cases i <;> simp
def qe.L5 {w:World} {E:Env} (h:qe w E H) (ty:TypeId) (cs:List C) (ys:Array Value) (hl:LL E cs ys.toList) (hn:cs.all zy=true) (h1:∀ y ∈ ys,y.oneCell'=true):
  qe (w.alloc (.cells ys ty)) (E.push w.heap.size 1) (H++[⟨1,ty,cs.length,[cs],0⟩])∧qD w E H (w.alloc (.cells ys ty)) (E.push w.heap.size 1) (H++[⟨1,ty,cs.length,[cs],0⟩]):=by
 refine h.push 1 ty cs.length 1 [cs] ys (.inl rfl) (by simp) (by simp) (by have:=hl.1;simp at this;omega) ?_ ?_
 ·intro i k c hc;obtain ⟨_,hc⟩:=yU.1 hc;exact dZ.1 hn c (dS hc)
 ·intro i k c hc;obtain ⟨rfl,hc⟩:=yU.1 hc;obtain ⟨y,hy,hly⟩:=hl.get hc;refine ⟨y,by simpa using hy,by simpa [Env.at] using hly,h1 y ?_⟩;have:=dS hy;simpa using this
def mN (P:Program) (t:TypeId):Option (List C):=
 match P.info? t with
 | some i=>match i.zero with
  | some z=>if z.cells.toList.all (·.oneCell') && (z.cells.size == i.size) then some (z.cells.toList.map fK) else none
  | none=>none
 | none=>none
def wH {t:TypeId} {cs:List C} (h:mN P t=some cs) (E:Env):∃ i z,P.info? t=some i∧i.zero=some z∧LL E cs z.cells.toList∧(∀ y ∈ z.cells,y.oneCell'=true)∧z.cells.size=i.size∧cs.all zy=true∧cs.length=i.size:=by
 unfold mN at h;split at h
 ·rename_i i hi;split at h
  ·rename_i z hz;split at h
   ·rename_i hc;cases h
    simp only [dY,gT,dZ] at hc;refine ⟨i,z,hi,hz,⟨by simp,?_⟩,fun y hy=>hc.1 y (by simpa using hy),hc.2,?_,by simp [hc.2]⟩
    ·intro k c y h1 h2;rw [dT,h2] at h1;cases h1
     exact MD E y
    ·rw [dZ];intro c hcm;obtain ⟨y,hy,rfl⟩:=gL.1 hcm;unfold fK;split <;> (try split) <;> rfl
   ·cases h
  ·cases h
 ·cases h
def ML {w:World} {E:Env} (h:qe w E H) (g κ sz:Nat):L (E.push g κ) (.ref H.length [] sz 0 0) (.pointer (some ⟨g,0,none⟩)):=by
 have:=L.ref (E:=E.push g κ) H.length [] sz 0 0 (by simp [Env.push,h.n]);have hb:(E.push g κ).β H.length []=g:=by simp [Env.push,h.n]
 rw [hb] at this;simpa using this
def qL.alloc (t:TypeId) (ho:o.op=.alloc t) {cs:List C} (hz:mN P t=some cs):qL P o ρ H (.ref H.length [] cs.length 0 0) (H++[⟨1,t,cs.length,[cs],0⟩]):=fun w E σ hh hl K hk=>by
 obtain ⟨i,z,hi,hz,hll,h1,hsz,hn,hlen⟩:=wH hz E
 have hr:(execOp σ o).run P w=.ok (.value (.pointer (some ⟨w.heap.size,0,none⟩))) (w.alloc (.cells z.cells t)):=by
  unfold execOp;simp only [ho,Instr.alloc,Sem.run_bind,xO hi hz,Result.andThen_ok,newVar,newRow]
  rfl
 rw [hr];obtain ⟨a,b⟩:=hh.L5 t cs z.cells hll hn h1;exact hk _ _ _ a (ML hh _ _ _) b
def m9:C->Bool
 | .v _=>true
 | .u1 o _ _=>o != 2
 | .jS _ | .ref .. | .sl .. | .fn .. | .mp _ | .gl .. | .fh .. | .rc _=>true
 | _=>false
def Sk {E:Env} {c:C} {y:Value} (h:L E c y) (hc:m9 c=true):y.oneCell'=true:=by
 cases h with
 | v x hx=>exact hx
 | agg=>simp [m9] at hc
 | u7=>simp [m9] at hc
 | un=>simp [m9] at hc
 | za=>simp [m9] at hc
 | gl id sz rows y hn hg h=>cases h <;> rfl
 | _=>rfl
def Sl {c:C} (hc:m9 c=true):zy c=true:=by
 unfold m9 at hc;unfold zy;split at hc <;> first | rfl | (split <;> simp_all) | cases hc
def lu:C->Bool
 | .agg cs=>cs.all zy
 | c=>m9 c
def Fy {E:Env} {c:C} {y:Value} (h:L E c y) (hc:lu c=true):LL E c.cells y.cells.toList∧(∀ u ∈ y.cells,u.oneCell'=true)∧c.cells.all zy=true:=by
 cases c with
 | agg cs=>
  cases h with
  | agg _ ys h1 h2 h3=>exact ⟨⟨by simpa [C.cells,Value.cells] using h1,fun i c y e1 e2=>h2 i c y e1 (by simpa [Value.cells] using e2)⟩,h3,by simpa [lu,C.cells] using hc⟩
 | za=>simp [lu,m9] at hc
 | un=>simp [lu,m9] at hc
 | u7=>simp [lu,m9] at hc
 | _=>
  have ho:=Sk h (by simpa [lu] using hc);have hcell:y.cells= #[y]:=by cases y <;> first | rfl | (simp [Value.oneCell'] at ho)
  refine ⟨h.cells (by simp) (by simp),by rw [hcell];simpa using ho,?_⟩;have:=Sl (by simpa [lu] using hc);simpa [C.cells] using this
def qL.box (t:TypeId) (x:Operand) (ho:o.op=.box t x) (hc:lu (ρ x)=true):qL P o ρ H (.ref H.length [] (ρ x).cells.length 0 0) (H++[⟨1,t,(ρ x).cells.length,[(ρ x).cells],0⟩]):=fun w E σ hh hl K hk=>by
 obtain ⟨hll,h1,hn⟩:=Fy (hl x (by simp [ho,Op.operands])) hc
 have hr:(execOp σ o).run P w=.ok (.value (.pointer (some ⟨w.heap.size,0,none⟩))) (w.alloc (.cells (σ x).cells t)):=by
  unfold execOp;simp only [ho,Instr.box,newVar,newRow]
  rfl
 rw [hr];obtain ⟨a,b⟩:=hh.L5 t _ _ hll hn h1;exact hk _ _ _ a (ML hh _ _ _) b
def xE (b off n:Nat):(⟨b,off,none⟩:Addr).add n=⟨b,off+n,none⟩:=by
 unfold Addr.add;split <;> simp_all
def wR (c:C) (n:Nat):Option C:=
 match c with
 | .ref id hops sz i k=>some (.ref id hops sz i (k+n))
 | .jS cells=>some (.jS (cells.drop n))
 | _=>none
def J8 {E:Env} {c c':C} {y:Value} {n:Nat} (h:L E c y) (hf:wR c n=some c'):∃ a,y=.pointer (some a)∧L E c' (.pointer (some (a.add n))):=by
 cases h with
 | ref id hops sz i k hn=>
  simp only [wR] at hf;cases hf
  refine ⟨_,rfl,?_⟩;rw [xE,rA];exact .ref id hops sz i (k+n) hn
 | jS cells b off us hst hL=>
  simp only [wR] at hf;cases hf
  refine ⟨_,rfl,?_⟩;rw [xE];exact .jS _ b (off+n) (fun k=>us (n+k)) (fun k c hc=>by rw [pE] at hc;rw [rA];exact hst _ c hc) (fun k c hc=>by rw [pE] at hc;exact hL _ c hc)
 | _=>simp [wR] at hf
def qL.fieldAddr (t:TypeId) (x:Operand) (f:Nat) (ho:o.op=.fieldAddr t x f) {fs:Array Field} {fd:Field} {i:TypeInfo} (ht:P.underlying t=some (.struct fs)) (hf:fs[f]?= some fd)
  (hi:P.info? fd.type=some i) (hsz:i.size≠0) {c:C} (hc:wR (ρ x) fd.offset=some c):qL P o ρ H c H:=fun w E σ hh hl K hk=>by
 obtain ⟨a,ha,hla⟩:=J8 (hl x (by simp [ho,Op.operands])) hc
 have hr:(execOp σ o).run P w=.ok (.value (.pointer (some (a.add fd.offset)))) w:=by
  unfold execOp;simp [ho,Instr.fieldAt,run_underlying ht,hf,ha,Instr.sureAddr,fieldPlace,jr hi,hsz]
 rw [hr];exact hk _ w E hh hla (qD.refl w E H)
def oZ (c:C) (size n:Nat):Option C:=
 match c with
 | .u1 o sz rows=>if (o == 0 || o == 1) && (sz == size) then (rows[n]?).map .jS else none
 | .sl id hops sz lo len _=>if decide (n < len) && (sz == size) then some (.ref id hops sz (lo+n) 0) else none
 | _=>none
def ED:C->Option Nat
 | .u1 _ _ rows=>some rows.length
 | .sl _ _ _ _ len _=>some len
 | _=>none
def Vu {E:Env} {c c':C} {y:Value} {size n:Nat} (h:L E c y) (hf:oZ c size n=some c'):
  ∃ a len cap,y=.slice (some a) len cap∧n < len∧L E c' (.pointer (some (a.add (n * size)))):=by
 cases h with
 | u1 o sz rows b off cap us ho hc hsz hst hL=>
  simp only [oZ] at hf;split at hf
  ·rename_i hcond;simp only [dY,gT] at hcond;obtain ⟨_,rfl⟩:=hcond;cases hr:rows[n]? with
   | none=>rw [hr] at hf;cases hf
   | some r=>
    rw [hr] at hf;cases hf
    refine ⟨_,_,_,rfl,(dP.1 hr).1,?_⟩;rw [xE];exact .jS r b (off+n * sz) (us n) (fun k c hc=>hst n r k c hr hc) (fun k c hc=>hL n r k c hr hc)
  ·cases hf
 | xv o sz ho=>
  simp [oZ] at hf
 | sl id hops sz lo len full cap hn hlen hfull hf'=>
  simp only [oZ] at hf;split at hf
  ·rename_i hcond;simp only [dY,gT,gp] at hcond;obtain ⟨u4,rfl⟩:=hcond;cases hf
   refine ⟨_,_,_,rfl,u4,?_⟩;rw [xE,<- pI];exact .ref id hops sz (lo+n) 0 hn
  ·cases hf
 | _=>simp [oZ] at hf
def qL.indexAddr (t:TypeId) (x y:Operand) (ho:o.op=.indexAddr t x y) {e:TypeId} {i:TypeInfo} (ht:P.underlying t=some (.slice e)) (hi:P.info? e=some i)
  {k:IntKind} {n:Int} (hy:ρ y=.v (.int k n)) (h0:0<=n) {c:C} (hc:oZ (ρ x) i.size n.toNat=some c):qL P o ρ H c H:=fun w E σ hh hl K hk=>by
 obtain ⟨a,len,cap,ha,u4,hla⟩:=Vu (hl x (by simp [ho,Op.operands])) hc;have h1:=hl y (by simp [ho,Op.operands]);rw [hy] at h1;have hyv:σ y=.int k n:=by generalize σ y=u at *;cases h1;rfl
 have hn:0<=n∧n < (len:Int):=⟨h0,by omega⟩
 have hr:(execOp σ o).run P w=.ok (.value (.pointer (some (a.add (n.toNat * i.size))))) w:=by
  unfold execOp;simp [ho,Instr.indexAt,asIntOf,hyv,ha,run_underlying ht,hn.1,hn.2,jr hi]
 rw [hr];exact hk _ w E hh hla (qD.refl w E H)
def qL.TK (t:TypeId) (x y:Operand) (ho:o.op=.indexAddr t x y) {len:Nat} {e:TypeId} {i:TypeInfo} (ht:P.underlying t=some (.array len e)) (hi:P.info? e=some i)
  {k:IntKind} {n:Int} (hy:ρ y=.v (.int k n)) (h0:0<=n) (h1:n < len) {c:C} (hc:wR (ρ x) (n.toNat * i.size)=some c):qL P o ρ H c H:=fun w E σ hh hl K hk=>by
 obtain ⟨a,ha,hla⟩:=J8 (hl x (by simp [ho,Op.operands])) hc;have hy1:=hl y (by simp [ho,Op.operands]);rw [hy] at hy1;have hyv:σ y=.int k n:=by generalize σ y=u at *;cases hy1;rfl
 have hr:(execOp σ o).run P w=.ok (.value (.pointer (some (a.add (n.toNat * i.size))))) w:=by
  unfold execOp;simp [ho,Instr.indexAt,asIntOf,hyv,ha,run_underlying ht,h0,h1,jr hi,Instr.sureAddr]
 rw [hr];exact hk _ w E hh hla (qD.refl w E H)
end
def CO (id:Nat) (hops:List eU) (i k:Nat):C->C
 | .u1 2 sz rows=>.sl id (hops++[(i,k)]) sz 0 rows.length false
 | c=>c
def vp (id:Nat) (hops:List eU) (i:Nat):Nat->List C->List C
 | _,[]=>[]
 | k,c::cs=>CO id hops i k c::vp id hops i (k+1) cs
theorem qT (sz:Nat) (rows:List (List C)):vD sz rows []=some (sz,rows):=rfl
def xH (sz:Nat) (rows:List (List C)) (i k:Nat) (hs:List eU):vD sz rows ((i,k)::hs)=match cellAt rows i k with
  | some (.u1 2 sz' rows')=>vD sz' rows' hs
  | _=>none:=rfl
def Ka {i k sz2:Nat} {rows2:List (List C)}:∀ (hops:List eU) (sz:Nat) (rows:List (List C)) (sz':Nat) (rows':List (List C)),vD sz rows hops=some (sz',rows')->
  cellAt rows' i k=some (.u1 2 sz2 rows2)->vD sz rows (hops++[(i,k)])=some (sz2,rows2)
 | [],sz,rows,sz',rows',h,hc=>by
  rw [qT] at h;cases h
  rw [sJ,xH,hc]
  rfl
 | (i',k')::tl,sz,rows,sz',rows',h,hc=>by
  rw [xH] at h;rw [List.cons_append,xH];split at h
  ·exact Ka tl _ _ _ _ h hc
  ·cases h
def Sz {H:zl} {id:Nat} {hops:List eU} {sz':Nat} {rows':List (List C)} (h:qb H id hops=some (sz',rows')) {i k:Nat} {sz2:Nat} {rows2:List (List C)}
  (hc:cellAt rows' i k=some (.u1 2 sz2 rows2)):qb H id (hops++[(i,k)])=some (sz2,rows2):=by
 obtain ⟨ob,ho,hk,hg⟩:=jh h;unfold qb;rw [ho];simp only [hk,if_true];exact Ka _ _ _ _ _ hg hc
def Wq {w:World} {E:Env} {H:zl} (h:qe w E H) {id:Nat} {hops:List eU} {sz:Nat} {rows:List (List C)} (hb:qb H id hops=some (sz,rows)) {kd i k:Nat} {c:C} {u:Value}
  (hc:cellAt rows i k=some c) (ho:qU E kd id hops i k c u):L E (CO id hops i k c) u:=by
 unfold qU at ho;split at ho
 ·rename_i sz' rows';subst ho;have hb':=Sz hb hc;obtain ⟨ob,hob,_,_⟩:=jh hb';have hlen:=(h.eu id ob _ _ _ hob hb').len;have:=L.sl (E:=E) id (hops++[(i,k)]) sz' 0 rows'.length false _ (by rw [h.n];exact An hb') hlen (by simp) (by intro _;rw [gz]);rw [tZ] at this;exact this
 ·rename_i h2
  have:CO id hops i k c=c:=by
   unfold CO;split
   ·exact absurd rfl (h2 _ _)
   ·rfl
  rw [this];exact ho.1.mono (E.MM kd)
def I8 {id:Nat} {hops:List eU} {i:Nat}:∀ (cs:List C) (k j:Nat) (c':C),(vp id hops i k cs)[j]?= some c'->∃ c,cs[j]?= some c∧c'=CO id hops i (k+j) c
 | [],k,j,c',h=>by simp [vp] at h
 | c::cs,k,0,c',h=>by simp [vp] at h;exact ⟨c,rfl,h.symm⟩
 | c::cs,k,j+1,c',h=>by
  simp [vp] at h;obtain ⟨c0,h0,e⟩:=I8 cs (k+1) j c' h;exact ⟨c0,by simpa using h0,by rw [e];congr 1;omega⟩
def Iy {id:Nat} {hops:List eU} {i:Nat}:∀ (cs:List C) (k:Nat),(vp id hops i k cs).length=cs.length
 | [],_=>rfl
 | c::cs,k=>by simp [vp,Iy cs (k+1)]
def m8 (H:zl) (c:C) (n:Nat):Option (List C):=
 match c with
 | .ref id hops sz i k=>match qb H id hops with
  | some (sz',rows)=>if sz' == sz then match rows[i]? with
    | some r=>if decide (k+n<=r.length) then some (vp id hops i k ((r.drop k).take n)) else none
    | none=>none
   else none
  | none=>none
 | .jS cells=>if decide (n<=cells.length) then some (cells.take n) else none
 | _=>none
def DW {w:World} {E:Env} {H:zl} (h:qe w E H) {c:C} {y:Value} (hl:L E c y) {n:Nat} {cs:List C} (hr:m8 H c n=some cs):
  ∃ a us,y=.pointer (some a)∧(∀ (j:Nat) u,us[j]?= some u->w.cell? (a.add j)=some u)∧LL E cs us∧us.length=n∧(∀ u ∈ us,u.oneCell'=true):=by
 cases hl with
 | ref id hops sz i k hn=>
  simp only [m8] at hr;split at hr
  ·rename_i sz' rows hb;split at hr
   ·rename_i hsz;have hsz:sz'=sz:=by simpa using hsz
    subst hsz;split at hr
    ·rename_i r hrow;split at hr
     ·rename_i hlen;simp only [gp] at hlen;cases hr
      obtain ⟨ob,hob,_,_⟩:=jh hb;have hB:=h.eu id ob hops sz' rows hob hb;obtain ⟨cur,e,hg,hcs,hcell⟩:=hB.eu;have hrl:r.length=sz':=hB.row r (dS hrow)
      have hcc:∀ j,j < n->∃ c u,r[k+j]?= some c∧cellAt rows i (k+j)=some c∧cur[i * sz'+(k+j)]?= some u∧qU E ob.kind id hops i (k+j) c u:=fun j hj=>by
       have hj':k+j < r.length:=by omega
       have h1:r[k+j]?= some r[k+j]:=by simp [hj']
       have h2:cellAt rows i (k+j)=some r[k+j]:=by simp [cellAt,hrow,hj']
       obtain ⟨u,hu,ho⟩:=hcell i (k+j) _ h2;exact ⟨_,u,h1,h2,hu,ho⟩
      refine ⟨_,(List.range n).map (fun j=>cur.getD (i * sz'+(k+j)) undef),rfl,?_,⟨?_,?_⟩,by simp,?_⟩
      ·intro j u hju;simp only [dT] at hju;cases hjr:(List.range n)[j]? with
       | none=>rw [hjr] at hju;cases hju
       | some j'=>
        rw [hjr] at hju;obtain ⟨hjlt,hj'⟩:=dP.1 hjr;simp at hj' hjlt;subst hj';obtain ⟨c,u',h1,h2,hu,ho⟩:=hcc j hjlt;simp only [gh,gC] at hju;rw [pa,hu] at hju;simp at hju;subst hju;rw [xE];unfold World.cell?;simp only [hg];rw [dR (by simp),rA];exact hu
      ·rw [Iy];simp;omega
      ·intro j c' u hc' hu';obtain ⟨c,hc,rfl⟩:=I8 _ _ _ _ hc';rw [gH] at hc;split at hc
       ·rename_i hj;rw [pE] at hc;obtain ⟨c2,u2,h1,h2,hu,ho⟩:=hcc j hj;rw [h1] at hc;cases hc
        simp only [dT,ry hj,gh,gC] at hu';rw [pa,hu] at hu';simp at hu';subst hu';exact Wq h hb h2 ho
       ·cases hc
      ·intro u hu;obtain ⟨j,hj,rfl⟩:=gL.1 hu;obtain ⟨c,u',h1,h2,hu',ho⟩:=hcc j (by simpa using hj);rw [pa,hu'];simp only [pj];unfold qU at ho;split at ho
       ·rw [ho];rfl
       ·exact ho.2
     ·cases hr
    ·cases hr
   ·cases hr
  ·cases hr
 | jS cells b off us hst hL=>
  simp only [m8] at hr;split at hr
  ·rename_i hlen;simp only [gp] at hlen;cases hr
   refine ⟨_,(List.range n).map us,rfl,?_,⟨by simp;omega,?_⟩,by simp,?_⟩
   ·intro j u hju;simp only [dT] at hju;cases hjr:(List.range n)[j]? with
    | none=>rw [hjr] at hju;cases hju
    | some j'=>
     rw [hjr] at hju;obtain ⟨hjlt,hj'⟩:=dP.1 hjr;simp at hj' hjlt;subst hj';cases hju
     rw [xE];have hj2:j < cells.length:=by omega
     exact (h.qv _ _ _ (hst j cells[j] (by simp [hj2]))).1
   ·intro j c u hc hu;rw [gH] at hc;split at hc
    ·rename_i hj;simp only [dT,ry hj,gh,gC] at hu;subst hu;exact (hL j c hc).mono E.Cx
    ·cases hc
   ·intro u hu;obtain ⟨j,hj,rfl⟩:=gL.1 hu
    have hj2:j < cells.length:=by
      have:j < n:=by simpa using hj
      omega
    exact (h.qv _ _ _ (hst j cells[j] (by simp [hj2]))).2
  ·cases hr
 | _=>simp [m8] at hr
def Bb:TypeDesc->Bool
 | .struct _ | .array _ _=>true
 | _=>false
def kZ {P:Program} {t:TypeId} {d:TypeDesc} (h:P.underlying t=some d) (w:World):(isAgg t).run P w=.ok (Bb d) w:=by
 simp only [isAgg,Sem.run_bind,run_underlying h,Result.andThen_ok];cases d <;> rfl
def wy (P:Program) (H:zl) (t:TypeId) (c:C):Option C:=
 match P.underlying t,P.info? t with
 | some d,some i=>
  if Bb d then (m8 H c i.size).map .agg
  else match m8 H c 1 with
   | some [x]=>some x
   | _=>none
 | _,_=>none
section
variable {P:Program} {o:Oper} {ρ:Operand->C} {H:zl}
def qL.load (t:TypeId) (x:Operand) (ho:o.op=.load t x) {c:C} (hc:wy P H t (ρ x)=some c):qL P o ρ H c H:=fun w E σ hh hl K hk=>by
 have hx:=hl x (by simp [ho,Op.operands]);unfold wy at hc;split at hc
 ·rename_i d i hd hi;by_cases hag:Bb d=true
  ·rw [dU hag] at hc;cases hr:m8 H (ρ x) i.size with
   | none=>rw [hr] at hc;cases hc
   | some cs=>
    rw [hr] at hc;cases hc
    obtain ⟨a,us,ha,hcell,hll,hlen,hone⟩:=DW hh hx hr
    have hr':(execOp σ o).run P w=.ok (.value (.agg us.toArray)) w:=by
     unfold execOp;have h3:=run_loadCells_list (P:=P) (w:=w) a us (fun j v hj=>hcell j v hj);rw [hlen] at h3;simp [ho,Instr.loadAt,Instr.sureAddr,ha,loadVar,kZ hd,hag,jr hi,h3]
    rw [hr'];exact hk _ w E hh (.agg cs us.toArray (by simpa using hll.1) (fun i c y e1 e2=>hll.2 i c y e1 (by simpa using e2)) (fun u hu=>hone u (by simpa using hu))) (qD.refl w E H)
  ·rw [dR hag] at hc;split at hc
   ·rename_i x0 hr;cases hc
    obtain ⟨a,us,ha,hcell,hll,hlen,hone⟩:=DW hh hx hr
    obtain ⟨u,rfl⟩:∃ u,us=[u]:=by
     match us,hlen with
     | [u],_=>exact ⟨u,rfl⟩
    have hu:=hcell 0 u rfl;have ha0:a.add 0=a:=by simp [Addr.add]
    rw [ha0] at hu
    have hr':(execOp σ o).run P w=.ok (.value u) w:=by
     unfold execOp;simp [ho,Instr.loadAt,Instr.sureAddr,ha,loadVar,kZ hd,hag,hu]
    rw [hr'];exact hk _ w E hh hll.cons_inv.1 (qD.refl w E H)
   ·cases hc
 ·cases hc
end
def setCell (rows:List (List C)) (i k:Nat) (c:C):List (List C):=rows.modify i (·.set k c)
def jE:List (List C)->List eU->(List (List C)->List (List C))->List (List C)
 | rows,[],f=>f rows
 | rows,(i,k)::hs,f=>match cellAt rows i k with
  | some (.u1 2 sz' rows')=>setCell rows i k (.u1 2 sz' (jE rows' hs f))
  | _=>rows
theorem DH (rows:List (List C)) (f:List (List C)->List (List C)):jE rows [] f=f rows:=rfl
def Dt (rows:List (List C)) (i k:Nat) (hs:List eU) (f:List (List C)->List (List C)):jE rows ((i,k)::hs) f=match cellAt rows i k with
  | some (.u1 2 sz' rows')=>setCell rows i k (.u1 2 sz' (jE rows' hs f))
  | _=>rows:=rfl
def Ik (rows:List (List C)) (i k:Nat) (c:C):(setCell rows i k c).length=rows.length:=by simp [setCell]
def Il (rows:List (List C)) (i k:Nat) (c:C) (i' k':Nat):cellAt (setCell rows i k c) i' k'=if i=i'∧k=k' then (cellAt rows i' k').map (fun _=>c) else cellAt rows i' k':=by
 unfold cellAt setCell;rw [pA];by_cases hi:i=i'
 ·subst hi;cases hr:rows[i]? with
  | none=>simp
  | some r=>
   simp only [if_true,ru,gh,gE,sY];rw [gj];by_cases hk:k=k'
   ·subst hk;simp only [if_true];by_cases u4:k < r.length
    ·simp [u4]
    ·simp [u4]
   ·simp [hk]
 ·simp [hi]
def Pu {rows:List (List C)} {sz:Nat} (h:∀ r ∈ rows,r.length=sz) (i k:Nat) (c:C):∀ r ∈ setCell rows i k c,r.length=sz:=by
 intro r hr;obtain ⟨j,hj⟩:=gA.1 hr;unfold setCell at hj;rw [pA] at hj;cases hx:rows[j]? with
 | none=>rw [hx] at hj;cases hj
 | some r0=>
  rw [hx] at hj;have h0:=h r0 (dS hx);simp only [ru,gh,gC] at hj;subst hj;split <;> simp [h0]
structure CV (rows rows':List (List C)):Prop where
 len:rows'.length=rows.length
 own:∀ i k s r,cellAt rows' i k=some (.u1 2 s r)↔cellAt rows i k=some (.u1 2 s r)
structure AB (rows rows':List (List C)):Prop where
 len:rows'.length=rows.length
 cell:∀ i k c',cellAt rows' i k=some c'->∃ c,cellAt rows i k=some c∧(c=c'∨∃ s r r',c=.u1 2 s r∧c'=.u1 2 s r'∧r'.length=r.length)
 row:∀ sz,(∀ r ∈ rows,r.length=sz)->∀ r ∈ rows',r.length=sz
def AB.refl (rows:List (List C)):AB rows rows:=⟨rfl,fun i k c h=>⟨c,h,.inl rfl⟩,fun _ h=>h⟩
def I0 {f:List (List C)->List (List C)}:∀ (hops:List eU) (sz:Nat) (rows:List (List C)) (sz':Nat) (rows':List (List C)),vD sz rows hops=some (sz',rows')->CV rows' (f rows')->(jE rows hops f).length=rows.length
 | [],sz,rows,sz',rows',h,ht=>by rw [qT] at h;cases h;rw [DH];exact ht.len
 | (i,k)::hs,sz,rows,sz',rows',h,ht=>by
  rw [Dt];split
  ·exact Ik _ _ _ _
  ·rfl
def J9 {f:List (List C)->List (List C)}:∀ (hops:List eU) (sz:Nat) (rows:List (List C)) (sz':Nat) (rows':List (List C)),vD sz rows hops=some (sz',rows')->CV rows' (f rows')->
  ∀ (p:List eU) (sz2:Nat) (rows2':List (List C)),vD sz (jE rows hops f) p=some (sz2,rows2')->
   ∃ rows2,vD sz rows p=some (sz2,rows2)∧((p=hops∧rows2'=f rows2)∨(p≠hops∧AB rows2 rows2'))
 | [],sz,rows,sz',rows',h,ht,p,sz2,rows2',hp=>by
  rw [qT] at h;cases h
  rw [DH] at hp;cases p with
  | nil=>rw [qT] at hp;cases hp;exact ⟨rows,rfl,.inl ⟨rfl,rfl⟩⟩
  | cons hd q=>
   obtain ⟨i,k⟩:=hd;rw [xH] at hp;split at hp
   ·rename_i s r hc;rw [ht.own] at hc;exact ⟨rows2',by rw [xH,hc];exact hp,.inr ⟨by simp,AB.refl _⟩⟩
   ·cases hp
 | (i,k)::hs,sz,rows,sz',rows',h,ht,p,sz2,rows2',hp=>by
  rw [xH] at h;split at h
  ·rename_i s r hc;have hset:jE rows ((i,k)::hs) f=setCell rows i k (.u1 2 s (jE r hs f)):=by rw [Dt,hc];rfl
   rw [hset] at hp;cases p with
   | nil=>
    rw [qT] at hp;cases hp
    refine ⟨rows,rfl,.inr ⟨by simp,Ik _ _ _ _,?_,fun sz0 h0=>Pu h0 _ _ _⟩⟩;intro i' k' c' hcc;rw [Il] at hcc;split at hcc
    ·rename_i hik;obtain ⟨rfl,rfl⟩:=hik;rw [hc] at hcc;simp only [gh,gC] at hcc;subst hcc;exact ⟨_,hc,.inr ⟨s,r,_,rfl,rfl,I0 hs s r sz' rows' h ht⟩⟩
    ·exact ⟨c',hcc,.inl rfl⟩
   | cons hd q=>
    obtain ⟨i',k'⟩:=hd;rw [xH,Il] at hp;by_cases hik:i=i'∧k=k'
    ·obtain ⟨rfl,rfl⟩:=hik;rw [dU ⟨rfl,rfl⟩,hc] at hp;simp only [gh] at hp;obtain ⟨rows2,h2,h3⟩:=J9 hs s r sz' rows' h ht q sz2 rows2' hp;refine ⟨rows2,by rw [xH,hc];exact h2,?_⟩;rcases h3 with ⟨rfl,e⟩ | ⟨hne,hlk⟩
     ·exact .inl ⟨rfl,e⟩
     ·exact .inr ⟨fun e=>hne (by simpa using e),hlk⟩
    ·rw [dR hik] at hp;refine ⟨rows2',by rw [xH];exact hp,.inr ⟨?_,AB.refl _⟩⟩;intro e;simp at e;exact hik ⟨e.1.1.symm,e.1.2.symm⟩
  ·cases h
def lY (H:zl) (id:Nat) (hops:List eU) (f:List (List C)->List (List C)):zl:=H.modify id fun ob=>match ob with
 | ⟨kind,ty,sz,rows,fz⟩=>⟨kind,ty,sz,jE rows hops f,fz⟩
def B1 (H:zl) (id:Nat) (hops:List eU) (f:List (List C)->List (List C)) (j:Nat):(lY H id hops f)[j]?= (H[j]?).map fun ob=>if id=j then { ob with rows:=jE ob.rows hops f } else ob:=by
 unfold lY;rw [pA]
 rfl
def BW {H:zl} {id:Nat} {hops:List eU} {f:List (List C)->List (List C)} {sz:Nat} {rows:List (List C)} (hb:qb H id hops=some (sz,rows)) (ht:CV rows (f rows)) {id':Nat} {p:List eU}
  {sz2:Nat} {rows2':List (List C)} (hp:qb (lY H id hops f) id' p=some (sz2,rows2')):
  ∃ rows2,qb H id' p=some (sz2,rows2)∧((id'=id∧p=hops∧rows2'=f rows2)∨(¬(id'=id∧p=hops)∧AB rows2 rows2')):=by
 obtain ⟨ob,hob,hk,hg⟩:=jh hb;obtain ⟨ob',hob',hk',hg'⟩:=jh hp;rw [B1] at hob';by_cases hid:id=id'
 ·subst hid;rw [hob] at hob';simp only [gh,if_true,gC] at hob';subst hob';obtain ⟨rows2,h2,h3⟩:=J9 hops ob.sz ob.rows sz rows hg ht p sz2 rows2' hg';refine ⟨rows2,?_,?_⟩
  ·unfold qb;rw [hob];simp only [hk,if_true];exact h2
  ·rcases h3 with ⟨rfl,e⟩ | ⟨hne,hlk⟩
   ·exact .inl ⟨rfl,rfl,e⟩
   ·exact .inr ⟨fun e=>hne e.2,hlk⟩
 ·cases hx:H[id']? with
  | none=>rw [hx] at hob';cases hob'
  | some ob2=>
   rw [hx] at hob';simp only [gh,hid,if_false,gC] at hob';subst hob';refine ⟨rows2',?_,.inr ⟨fun e=>hid e.1.symm,AB.refl _⟩⟩;unfold qb;rw [hx];simp only [hk',if_true];exact hg'
def qe.write {w:World} {E:Env} {H:zl} (h:qe w E H) {id:Nat} {hops:List eU} {ob:Ob} {sz:Nat} {rows:List (List C)} {f:List (List C)->List (List C)} (hob:H[id]?= some ob)
  (hb:qb H id hops=some (sz,rows)) (ht:CV rows (f rows)) (hrow:∀ r ∈ f rows,r.length=sz) {cur cur':Array Value} {e:TypeId} (hg:w.heap[E.β id hops]?= some (.cells cur e (0,0))) (hsz:cur'.size=cur.size)
  (hst:∀ o u,E.St (E.β id hops) o=some u->cur'[o]?= some u)
  (hc:∀ i k c,cellAt (f rows) i k=some c->∃ u,cur'[i * sz+k]?= some u∧qU E ob.kind id hops i k c u):
  qe (w.setRow (E.β id hops) cur') E (lY H id hops f)∧qD w E H (w.setRow (E.β id hops) cur') E (lY H id hops f):=by
 have hown:∀ b,je E (lY H id hops f) b->je E H b:=by
  rintro b ⟨id',p,⟨s2,r2⟩,hx,rfl⟩;obtain ⟨rows2,h2,_⟩:=BW hb ht hx;exact ⟨id',p,_,h2,rfl⟩
 refine ⟨⟨by rw [h.n];simp [lY],?_,?_,?_,?_,?_,?_⟩,⟨Env.le.refl E,fun _ _ _=>rfl,rfl,rfl,rfl,by simp [World.setRow],?_,fun b o u hu=>.inl hu,fun b hb'=>.inr (hown b hb')⟩⟩
 ·intro id' ob' p sz2 rows2' hob' hx;obtain ⟨rows2,h2,h3⟩:=BW hb ht hx
  have hkd:∃ ob0,H[id']?= some ob0∧ob'.kind=ob0.kind:=by
   rw [B1] at hob';cases hx':H[id']? with
   | none=>rw [hx'] at hob';cases hob'
   | some ob0=>
    rw [hx'] at hob';simp only [gh,gC] at hob';subst hob';exact ⟨ob0,rfl,by split <;> rfl⟩
  obtain ⟨ob0,hob0,hkd⟩:=hkd;have hB:=h.eu id' ob0 p sz2 rows2 hob0 h2;rw [hkd];rcases h3 with ⟨rfl,rfl,rfl⟩ | ⟨hne,hlk⟩
  ·rw [hb] at h2;cases h2
   rw [hob] at hob0;cases hob0
   obtain ⟨cur0,e0,hg0,hs0,_⟩:=hB.eu;rw [hg] at hg0;cases hg0
   exact ⟨by rw [ht.len];exact hB.len,hrow,cur',e,setRow_heap w _ cur cur' e _ hg,by rw [hsz];exact hs0,hc⟩
  ·obtain ⟨cur0,e0,hg0,hs0,hc0⟩:=hB.eu
   have hdiff:E.β id' p≠E.β id hops:=fun he=>hne (by
    have:=h.inj id' p id hops _ _ h2 hb he;exact this)
   refine ⟨by rw [hlk.len];exact hB.len,hlk.row sz2 hB.row,cur0,e0,by rw [setRow_other w _ _ _ hdiff];exact hg0,hs0,?_⟩;intro i k c' hcc;obtain ⟨c,h4,h5⟩:=hlk.cell i k c' hcc;obtain ⟨u,hu,ho⟩:=hc0 i k c h4;refine ⟨u,hu,?_⟩;rcases h5 with rfl | ⟨s,r,r',rfl,rfl,hl⟩
   ·exact ho
   ·simp only [qU] at ho ⊢;rw [hl];exact ho
 ·intro id1 p1 id2 p2 x y hx hy he;obtain ⟨r1,h1,_⟩:=BW hb ht (rows2':=x.2) (sz2:=x.1) (by simpa using hx);obtain ⟨r2,h2,_⟩:=BW hb ht (rows2':=y.2) (sz2:=y.1) (by simpa using hy);exact h.inj id1 p1 id2 p2 _ _ h1 h2 he
 ·intro b o u hu;refine ⟨?_,(h.qv b o u hu).2⟩;by_cases hbb:b=E.β id hops
  ·subst hbb;unfold World.cell?;rw [setRow_heap w _ cur cur' e _ hg];simp;exact hst o u hu
  ·have:=(h.qv b o u hu).1;unfold World.cell? at this ⊢;simp only [setRow_other w _ _ _ hbb];exact this
 ·intro id' p x o u hx hu;obtain ⟨r1,h1,_⟩:=BW hb ht (rows2':=x.2) (sz2:=x.1) (by simpa using hx);obtain ⟨e1,ob',e2,e3⟩:=h.sep id' p _ o u h1 hu;refine ⟨e1,?_⟩;rw [B1,e2];exact ⟨_,rfl,by split <;> exact e3⟩
 ·intro id' ob' hob' hk;rw [B1] at hob';cases hx':H[id']? with
  | none=>rw [hx'] at hob';cases hob'
  | some ob0=>
   rw [hx'] at hob';simp only [gh,gC] at hob';have hk0:ob0.kind=2∧ob'.ty=ob0.ty:=by subst hob';revert hk;split <;> exact fun h=>⟨h,rfl⟩
   obtain ⟨cur0,hc0⟩:=h.ty id' ob0 hx' hk0.1;rw [hk0.2];by_cases hbb:E.β id' []=E.β id hops
   ·rw [hbb] at hc0 ⊢;rw [hg] at hc0;cases hc0
    exact ⟨cur',setRow_heap w _ cur cur' _ _ hg⟩
   ·exact ⟨cur0,by rw [setRow_other w _ _ _ hbb];exact hc0⟩
 ·intro id' ob' hob';rw [B1] at hob';cases hx':H[id']? with
  | none=>rw [hx'] at hob';cases hob'
  | some ob0=>
   rw [hx'] at hob';simp only [gh,gC] at hob';have h0:=h.fz id' ob0 hx';subst hob';split
   ·rename_i hid;subst hid;rw [hob] at hx';cases hx'
    obtain ⟨ob2,h1,_,h2⟩:=jh hb;rw [hob] at h1;cases h1
    dsimp only;rw [I0 hops _ _ _ _ h2 ht];exact h0
   ·exact h0
 ·intro k hk ho;rw [setRow_other w _ _ _ (fun e'=>ho ⟨id,hops,_,hb,e'.symm⟩)]
def yl (k:Nat) (cs:List C) (r:List C):List C:=r.take k++cs++r.drop (k+cs.length)
def kO (i k:Nat) (cs:List C) (rows:List (List C)):List (List C):=rows.modify i (yl k cs)
def Is {k:Nat} {cs r:List C} (h:k+cs.length<=r.length):(yl k cs r).length=r.length:=by
 simp [yl];omega
def IV {k:Nat} {cs r:List C} (h:k+cs.length<=r.length) (j:Nat):(yl k cs r)[j]?= if k<=j∧j < k+cs.length then cs[j - k]? else r[j]?:=by
 unfold yl;rw [pW];by_cases h1:j < k
 ·rw [dX (by simp;omega),gH,dU h1,dR (by omega)]
 ·rw [gu (by simp;omega)];have hk:(r.take k).length=k:=by simp;omega
  rw [hk];by_cases h2:j < k+cs.length
  ·rw [dX (by omega),dU ⟨by omega,h2⟩]
  ·rw [gu (by omega),pE,dR (by omega)]
   congr 1
   omega
def Im {i k:Nat} {cs:List C} {rows:List (List C)} {r:List C} (hr:rows[i]?= some r) (h:k+cs.length<=r.length) (i' k':Nat):
  cellAt (kO i k cs rows) i' k'=if i=i'∧k<=k'∧k' < k+cs.length then cs[k' - k]? else cellAt rows i' k':=by
 unfold cellAt kO;rw [pA];by_cases hi:i=i'
 ·subst hi;rw [hr];simp only [if_true,ru,gh,gE,sY];rw [IV h]
 ·simp [hi]
def vo (P:Program) (H:zl) (t:TypeId) (a x:C):Option zl:=
 match a,P.info? t with
 | .ref id hops sz i k,some inf=>
  match qb H id hops,H[id]? with
  | some (sz',rows),some ob=>
   match rows[i]? with
   | some r=>
    if (sz' == sz) && lu x && (x.cells.length == inf.size) && decide (k+x.cells.length<=r.length) && ((r.drop k).take x.cells.length).all zy && (ob.kind == 1 || x.cells.all jl) && (!hops.isEmpty || decide (ob.fz<=i)) && (hops.isEmpty || ob.fz == 0)
    then some (lY H id hops (kO i k x.cells)) else none
   | none=>none
  | _,_=>none
 | _,_=>none
section
variable {P:Program} {o:Oper} {ρ:Operand->C} {H:zl}
def qL.store (t:TypeId) (x y:Operand) (ho:o.op=.store t x y) {H':zl} (hs:vo P H t (ρ x) (ρ y)=some H'):qL P o ρ H .un H':=fun w E σ hh hl K hk=>by
 have hx:=hl x (by simp [ho,Op.operands]);have hy:=hl y (by simp [ho,Op.operands]);unfold vo at hs;split at hs
 rotate_left
 ·cases hs
 rename_i id hops sz i k inf ha hinf;split at hs
 rotate_left
 ·cases hs
 rename_i sz' rows ob hb hob;split at hs
 rotate_left
 ·cases hs
 rename_i r hr;split at hs
 rotate_left
 ·cases hs
 rename_i hcond;cases hs
 simp only [dY,gT,gp,pJ,dZ] at hcond;obtain ⟨⟨⟨⟨⟨⟨⟨rfl,hval⟩,hlen⟩,hfit⟩,hold⟩,hkd⟩,hfz⟩,_⟩:=hcond;obtain ⟨hll,hone,hno⟩:=Fy hy hval;rw [ha] at hx;have hB:=hh.eu id ob hops sz' rows hob hb;obtain ⟨cur,e,hg,hcs,hcell⟩:=hB.eu;have hrl:r.length=sz':=hB.row r (dS hr);have hil:i < rows.length:=(dP.1 hr).1;have hx':σ x=.pointer (some ⟨E.β id hops,i * sz'+k,none⟩):=by generalize σ x=u at *;cases hx;rfl
 obtain ⟨vs,hvs⟩:∃ vs,vs=(σ y).cells.toList:=⟨_,rfl⟩;rw [<- hvs] at hll;have hvl:vs.length=(ρ y).cells.length:=hll.1.symm
 have hend:i * sz'+k+vs.length<=cur.size:=by
  have h1:(i+1) * sz'<=E.κ id hops * sz':=pB _ (gY hil hB.len);rw [pI] at h1;omega
 have hrun:=run_storeCells_at P (E.β id hops) (i * sz'+k) e vs 0 cur w hg (by simpa using hend) (fun v hv=>hone v (by rw [hvs] at hv;simpa using hv));simp only [rG] at hrun;obtain ⟨cur',hcur'⟩:∃ cur',cur'=(cur.toList.take (i * sz'+k)++vs++cur.toList.drop (i * sz'+k+vs.length)).toArray:=⟨_,rfl⟩;rw [<- hcur'] at hrun
 have hcget:∀ j:Nat,cur'[j]?= if i * sz'+k<=j∧j < i * sz'+k+vs.length then vs[j - (i * sz'+k)]? else cur[j]?:=by
  intro j;rw [hcur'];simp only [sf];rw [pW];by_cases h1:j < i * sz'+k
  ·rw [dX (by simp;omega),gH,dU h1,dR (by omega),gN]
  ·rw [gu (by simp;omega)];have hk':(cur.toList.take (i * sz'+k)).length=i * sz'+k:=by simp;omega
   rw [hk'];by_cases h2:j < i * sz'+k+vs.length
   ·rw [dX (by omega),dU ⟨by omega,h2⟩]
   ·rw [gu (by omega),pE,dR (by omega),gN]
    congr 1
    omega
 have hr':(execOp σ o).run P w=.ok .skip (w.setRow (E.β id hops) cur'):=by
  unfold execOp
  have hsz2:(σ y).cells.size=inf.size:=by
   have:vs.length=(σ y).cells.size:=by rw [hvs];simp
   omega
  simp [ho,Instr.storeAt,Instr.sureAddr,hx',storeVar,jr hinf,hsz2,<- hvs,hrun]
 rw [hr']
 have hpos:∀ i' k',i' < rows.length->k' < sz'->(i * sz'+k<=i' * sz'+k'∧i' * sz'+k' < i * sz'+k+vs.length↔i=i'∧k<=k'∧k' < k+vs.length):=by
  intro i' k' hi' hk';constructor
  ·rintro ⟨h1,h2⟩
   have:i=i':=by
    rcases rI i i' with h | h | h
    ·exfalso
     have:(i+1) * sz'<=i' * sz':=pB _ h;rw [pI] at this;omega
    ·exact h
    ·exfalso
     have:(i'+1) * sz'<=i * sz':=pB _ h;rw [pI] at this;omega
   subst this;omega
  ·rintro ⟨rfl,h1,h2⟩;omega
 have htame:CV rows (kO i k (ρ y).cells rows):=by
  refine ⟨by simp [kO],?_⟩;intro i' k' s r0;rw [Im hr hfit];split
  ·rename_i hin;obtain ⟨rfl,h1,h2⟩:=hin;constructor
   ·intro h;have:=dZ.1 hno _ (dS h);simp [zy] at this
   ·intro h;simp only [cellAt,hr,gE] at h
    have hm:C.u1 2 s r0 ∈ (r.drop k).take (ρ y).cells.length:=by
     apply gA.2
     refine ⟨k' - k,?_⟩;rw [gH,dU (by omega),pE,show k+(k' - k)=k' from by omega];exact h
    have:=hold _ hm;simp [zy] at this
  ·rfl
 have hW:=hh.write hob hb htame (cur:=cur) (cur':=cur') (e:=e) ?_ hg ?_ ?_ ?_
 ·exact hk _ _ E hW.1 .un hW.2
 ·intro r0 hr0;obtain ⟨j,hj⟩:=gA.1 hr0;unfold kO at hj;rw [pA] at hj;cases hx0:rows[j]? with
  | none=>rw [hx0] at hj;cases hj
  | some r1=>
   rw [hx0] at hj;simp only [ru,gh,gC] at hj;subst hj;by_cases hij:i=j
   ·subst hij;rw [hr] at hx0;cases hx0
    rw [dU rfl,Is hfit];exact hrl
   ·rw [dR hij];exact hB.row r1 (dS hx0)
 ·rw [hcur'];simp;omega
 ·intro off u hu;obtain ⟨e1,ob',e2,e3⟩:=hh.sep id hops _ off u hb hu;rw [hob] at e2;cases e2
  subst e1;simp at hfz
  have hsz0:ob.sz=sz':=by
   obtain ⟨ob2,h1,_,h2⟩:=jh hb;rw [hob] at h1;cases h1
   rw [qT] at h2;cases h2
   rfl
  have u4:off < i * sz':=by
   rw [hsz0] at e3;exact g9 e3 (pB _ hfz)
  rw [hcget,dR (by omega)];have:=(hh.qv _ _ _ hu).1;unfold World.cell? at this;rw [hg] at this;simpa using this
 ·intro i' k' c hcc;rw [Im hr hfit] at hcc;split at hcc
  ·rename_i hin;obtain ⟨rfl,h1,h2⟩:=hin;obtain ⟨u,hu,hlu⟩:=hll.get hcc;have hnoc:=dZ.1 hno _ (dS hcc);refine ⟨u,?_,(qU.loose hnoc).2 ⟨?_,hone u ?_⟩⟩
   ·rw [hcget,dU (by omega),show i * sz'+k' - (i * sz'+k)=k' - k from by omega];exact hu
   ·rcases hkd with hkd | hkd
    ·simpa [Env.at,hkd] using hlu
    ·unfold Env.at
     split
     ·exact hlu.vP (hkd _ (dS hcc))
     ·exact hlu
   ·have:=dS hu;rw [hvs] at this;simpa using this
  ·rename_i hnot;obtain ⟨u,hu,hou⟩:=hcell i' k' c hcc;refine ⟨u,?_,hou⟩
   have hi'k':i' < rows.length∧k' < sz':=by
    unfold cellAt at hcc;cases hx0:rows[i']? with
    | none=>rw [hx0] at hcc;cases hcc
    | some r1=>
     rw [hx0] at hcc;refine ⟨(dP.1 hx0).1,?_⟩;have:=hB.row r1 (dS hx0);rw [<- this];exact (dP.1 hcc).1
   rw [hcget,dR]
   ·exact hu
   ·rw [hpos i' k' hi'k'.1 hi'k'.2,hvl];exact hnot
def zb (P:Program) (f:FuncId) (H:zl) (args:List C) (r:C) (H':zl):Prop:=
 ∀ (w:World) (E:Env) (vs:Array Value),qx w E H->LL E args vs.toList->
  Calls P f vs w fun e w'=>∃ v E',e=.returned v∧qx w' E' H'∧L E' r v∧Grow w E H w' E' H'
def qt (P:Program) (f:FuncId):Bool:=
 match P.funcs[f]? with
 | some fn => !(fn.name == "runtime.NumGoroutine") && fn.body.isSome
 | none=>false
def eh.call (cl:Call) (ho:o.op=.call cl) (x:Operand) (hcl:cl.callee=.value x) {f:FuncId} {first caps:List C} (hf:ρ x=.fn f first caps) (hcb:qt P f=true) {r:C} {H':zl}
  (hs:zb P f H (first++(cl.args.toList.map ρ)++caps) r H'):eh P o ρ H r H':=fun w E σ hh hl K hk=>by
 have h0:=hl x (by simp [ho,Op.operands,Call.operands,hcl]);rw [hf] at h0
 obtain ⟨ys,zs,hv,h1,h2,h3,h4⟩:∃ ys zs,σ x=.func (.func f) ys zs∧first.length=ys.size∧caps.length=zs.size∧(∀ (i:Nat) c y,first[i]?= some c->ys[i]?= some y->L E c y)∧(∀ (i:Nat) c y,caps[i]?= some c->zs[i]?= some y->L E c y):=by
  generalize σ x=u at *;cases h0 with
  | fn f first caps ys zs h1 h2 h3 h4=>exact ⟨ys,zs,rfl,h1,h2,h3,h4⟩
 unfold qt at hcb;split at hcb
 rotate_left
 ·cases hcb
 rename_i fn hfn;simp only [dY,pd] at hcb;have hname : fn.name ≠ "runtime.NumGoroutine" := by simpa using hcb.1
 have hbody:fn.body≠none:=by intro hb;simp [hb] at hcb
 have hr:(execOp σ o).run P w=.ok (.enter f (ys++cl.args.map σ++zs)) w:=by
  unfold execOp;simp [ho,resolve,hcl,hv,Deferred.ofValue,invoke,callFunc,hfn,hname,hbody]
 rw [hr];refine (hs w E (ys++cl.args.map σ++zs) hh ?_).mono ?_
 ·have e1:LL E first ys.toList:=⟨by simpa using h1,fun i c y e1 e2=>h3 i c y e1 (by simpa using e2)⟩;have e2:LL E caps zs.toList:=⟨by simpa using h2,fun i c y e1 e2=>h4 i c y e1 (by simpa using e2)⟩
  have e3:LL E (cl.args.toList.map ρ) (cl.args.map σ).toList:=by
   refine ⟨by simp,?_⟩;intro i c y hc hy;rw [dT] at hc;rw [tq,dT] at hy;cases ha:cl.args.toList[i]? with
   | none=>rw [ha] at hc;cases hc
   | some a=>
    rw [ha] at hc hy;cases hc
    cases hy
    exact hl a (by simp [ho,Op.operands,Call.operands];right;have:=dS ha;simpa using this)
  have:=(e1.append e3).append e2;simpa using this
 ·rintro e w' ⟨v,E',rfl,h5,h6,h7⟩;exact ⟨v,rfl,hk v w' E' h5 h6 h7⟩
end
section
variable {P:Program} {o:Oper} {ρ:Operand->C} {H:zl}
def qL.extract (x:Operand) (n:Nat) (ho:o.op=.extract x n) {vs:List C} (hx:ρ x=.u7 vs) {c:C} (hc:vs[n]?= some c):qL P o ρ H c H:=fun w E σ hh hl K hk=>by
 have h0:=hl x (by simp [ho,Op.operands]);rw [hx] at h0
 obtain ⟨ys,hy,hlen,hll⟩:∃ ys,σ x=.tuple ys∧vs.length=ys.size∧∀ (i:Nat) c y,vs[i]?= some c->ys[i]?= some y->L E c y:=by
  generalize σ x=u at *;cases h0 with
  | u7 _ ys h1 h2=>exact ⟨ys,rfl,h1,h2⟩
 have u4:n < ys.size:=by rw [<- hlen];exact (dP.1 hc).1
 have hr:(execOp σ o).run P w=.ok (.value ys[n]) w:=by
  unfold execOp;simp [ho,Instr.extract,hy,u4]
 rw [hr];exact hk _ w E hh (hll n c _ hc (by simp [u4])) (qD.refl w E H)
def Gf:C->Bool
 | .ref .. | .jS _ | .fn ..=>true
 | _=>false
def qL.nilCheck (x:Operand) (ho:o.op=.nilCheck x) (hx:Gf (ρ x)=true):qL P o ρ H (ρ x) H:=fun w E σ hh hl K hk=>by
 have h0:=hl x (by simp [ho,Op.operands])
 have hr:(execOp σ o).run P w=.ok (.value (σ x)) w:=by
  unfold execOp;generalize ρ x=c at *;generalize hu:σ x=u at *;cases h0 <;> first | (simp [Gf] at hx;done) | (simp only [ho,hu];rfl)
 rw [hr];exact hk _ w E hh h0 (qD.refl w E H)
def qL.makeFunc (f:FuncId) (first caps:Array Operand) (ho:o.op=.makeFunc (.func f) first caps):qL P o ρ H (.fn f (first.toList.map ρ) (caps.toList.map ρ)) H:=fun w E σ hh hl K hk=>by
 have hr:(execOp σ o).run P w=.ok (.value (.func (.func f) (first.map σ) (caps.map σ))) w:=by
  unfold execOp;simp only [ho]
  rfl
 rw [hr];refine hk _ w E hh (.fn f _ _ _ _ (by simp) (by simp) ?_ ?_) (qD.refl w E H)
 ·intro i c y hc hy;rw [dT] at hc;rw [ug] at hy;cases ha:first[i]? with
  | none=>rw [ha] at hy;cases hy
  | some a=>
   rw [gN,ha] at hc;rw [ha] at hy;cases hc
   cases hy
   exact hl a (by simp [ho,Op.operands];left;exact rD ha)
 ·intro i c y hc hy;rw [dT] at hc;rw [ug] at hy;cases ha:caps[i]? with
  | none=>rw [ha] at hy;cases hy
  | some a=>
   rw [gN,ha] at hc;rw [ha] at hy;cases hc
   cases hy
   exact hl a (by simp [ho,Op.operands];right;exact rD ha)
def oq (place:Nat->Option (Nat × Nat)):List C->List (Nat × C)->Option (List C)
 | cells,[]=>some cells
 | cells,(i,c)::rest=>match place i with
  | none=>none
  | some (off,size)=>if lu c && (c.cells.length == size) && decide (off+size<=cells.length) then oq place (yl off c.cells cells) rest else none
def KN:∀ (vs:List Value) (off k:Nat) (cells:Array Value),off+k+vs.length<=cells.size->
  ((vs.zipIdx k).foldl (fun cs (p:Value × Nat)=>cs.setIfInBounds (off+p.2) p.1) cells).size=cells.size∧
  ∀ j:Nat,((vs.zipIdx k).foldl (fun cs (p:Value × Nat)=>cs.setIfInBounds (off+p.2) p.1) cells)[j]?= if off+k<=j∧j < off+k+vs.length then vs[j - (off+k)]? else cells[j]?
 | [],off,k,cells,h=>⟨rfl,fun j=>by rw [dR (by simp)];rfl⟩
 | v::vs,off,k,cells,h=>by
  simp only [List.zipIdx_cons,tY,pR] at h ⊢;have ih:=KN vs off (k+1) (cells.setIfInBounds (off+k) v) (by simp;omega);refine ⟨by rw [ih.1];simp,?_⟩;intro j;rw [ih.2 j];by_cases h1:off+k=j
  ·subst h1;rw [dR (by omega),dU (by omega),uf];simp;omega
  ·by_cases h2:off+(k+1)<=j∧j < off+(k+1)+vs.length
   ·rw [dU h2,dU (by omega),show j - (off+k)=(j - (off+(k+1)))+1 from by omega];simp
   ·rw [dR h2,dR (by omega),uf];simp [h1]
def DQ {E:Env} {place:Nat->Option (Nat × Nat)} {ρ:Operand->C} {σ:Operand->Value}:∀ (parts:List (Nat × Operand)) (cs:List C) (arr:Array Value),LL E cs arr.toList->(∀ u ∈ arr,u.oneCell'=true)->cs.all zy=true->
  (∀ p ∈ parts,L E (ρ p.2) (σ p.2))->∀ cs',oq place cs (parts.map fun p=>(p.1,ρ p.2))=some cs'->
  ∃ arr',Instr.fill place arr (parts.map fun p=>(p.1,σ p.2))=some arr'∧LL E cs' arr'.toList∧(∀ u ∈ arr',u.oneCell'=true)∧cs'.all zy=true
 | [],cs,arr,hl,h1,hno,_,cs',h=>by
  simp only [List.map_nil,oq,gC] at h;subst h;exact ⟨arr,rfl,hl,h1,hno⟩
 | (i,x)::rest,cs,arr,hl,h1,hno,hp,cs',h=>by
  simp only [pF,oq] at h;split at h
  ·cases h
  ·rename_i off size hpl;split at h
   ·rename_i hcond;simp only [dY,gT,gp] at hcond;obtain ⟨⟨hv,hsz⟩,hfit⟩:=hcond;have hx:=hp (i,x) (by simp);obtain ⟨hll,hone,hnoc⟩:=Fy hx hv;have hlen:(σ x).cells.size=size:=by have:=hll.1;simp at this;omega
    have hal:arr.size=cs.length:=by have:=hl.1;simp at this;omega
    obtain ⟨vs,hvs⟩:∃ vs,vs=(σ x).cells.toList:=⟨_,rfl⟩;have hvl:vs.length=size:=by rw [hvs];simpa using hlen
    have hfold:=KN vs off 0 arr (by omega)
    have hfe:(σ x).cells.zipIdx.foldl (fun cs (p:Value × Nat)=>cs.setIfInBounds (off+p.2) p.1) arr=(vs.zipIdx 0).foldl (fun cs (p:Value × Nat)=>cs.setIfInBounds (off+p.2) p.1) arr:=by
     rw [<- Array.foldl_toList,Array.toList_zipIdx,hvs]
    obtain ⟨arr2,harr2⟩:∃ arr2,arr2=(vs.zipIdx 0).foldl (fun cs (p:Value × Nat)=>cs.setIfInBounds (off+p.2) p.1) arr:=⟨_,rfl⟩;rw [<- harr2] at hfold hfe;have hcl:(ρ x).cells.length=size:=hsz
    have hl2:LL E (yl off (ρ x).cells cs) arr2.toList:=by
     refine ⟨by rw [Is (by omega)];simp [hfold.1,hal],?_⟩;intro j c y hc hy;rw [IV (by omega)] at hc;rw [gN,hfold.2 j] at hy;simp only [rG] at hy;split at hc
     ·rename_i hin;rw [dU (by omega)] at hy;exact hll.2 _ c y hc (by rw [<- hvs];exact hy)
     ·rename_i hin;rw [dR (by omega)] at hy;exact hl.2 j c y hc (by simpa using hy)
    have hone2:∀ u ∈ arr2,u.oneCell'=true:=by
     intro u hu;obtain ⟨j,hj⟩:=sU.1 hu;rw [hfold.2 j] at hj;split at hj
     ·have:=dS hj;rw [hvs] at this;exact hone u (by simpa using this)
     ·exact h1 u (rD hj)
    have hno2:(yl off (ρ x).cells cs).all zy=true:=by
     rw [dZ];intro c hc;unfold yl at hc;simp only [gJ] at hc;rcases hc with (hc | hc) | hc
     ·exact dZ.1 hno c (pK hc)
     ·exact dZ.1 hnoc c hc
     ·exact dZ.1 hno c (rV hc)
    obtain ⟨arr',e1,e2,e3,e4⟩:=DQ rest _ arr2 hl2 hone2 hno2 (fun p hpm=>hp p (by simp [hpm])) cs' h;refine ⟨arr',?_,e2,e3,e4⟩;simp only [pF,Instr.fill,hpl];rw [dR (by simp [hlen];omega),hfe];exact e1
   ·cases h
def D8 (P:Program) (t:TypeId) (parts:List (Nat × C)):Option (List C):=
 match mN P t,P.underlying t with
 | some z,some (.array _ e)=>
  match P.info? e with
  | some ie=>oq (fun i=>some (i * ie.size,ie.size)) z parts
  | none=>none
 | some z,some (.struct fields)=>
  match fields.toList.mapM (fun f=>(P.info? f.type).map fun i=>(f.offset,i.size)) with
  | some places=>oq (places.toArray[·]?) z parts
  | none=>none
 | _,_=>none
def qL.build (t:TypeId) (parts:Array (Nat × Operand)) (ho:o.op=.build t parts) {cs:List C} (hb:D8 P t (parts.toList.map fun p=>(p.1,ρ p.2))=some cs):qL P o ρ H (.agg cs) H:=fun w E σ hh hl K hk=>by
 have hp:∀ p ∈ parts.toList,L E (ρ p.2) (σ p.2):=fun p hpm=>hl p.2 (by
  simp only [ho,Op.operands];exact (List.mem_toArray).2 (gL.2 ⟨p,hpm,rfl⟩))
 have main:∃ arr,P.built t (parts.map fun (i,x)=>(i,σ x)).toList=some arr∧LL E cs arr.toList∧(∀ u ∈ arr,u.oneCell'=true):=by
  have e0:(parts.map fun (i,x)=>(i,σ x)).toList=parts.toList.map fun p=>(p.1,σ p.2):=by simp
  rw [e0];unfold D8 at hb;split at hb
  ·rename_i z n e hz hu;split at hb
   ·rename_i ie hie;obtain ⟨it,zv,h1,h2,h3,h4,h5,h6,h7⟩:=wH hz E;obtain ⟨arr,a1,a2,a3,a4⟩:=DQ parts.toList z zv.cells h3 h4 h6 hp cs hb;exact ⟨arr,by simp only [Program.built,h1,hu,h2,hie];exact a1,a2,a3⟩
   ·cases hb
  ·rename_i z fields hz hu;split at hb
   ·rename_i places hpl;obtain ⟨it,zv,h1,h2,h3,h4,h5,h6,h7⟩:=wH hz E;obtain ⟨arr,a1,a2,a3,a4⟩:=DQ parts.toList z zv.cells h3 h4 h6 hp cs hb;exact ⟨arr,by simp only [Program.built,h1,hu,h2,hpl];exact a1,a2,a3⟩
   ·cases hb
  ·cases hb
 obtain ⟨arr,h1,h2,h3⟩:=main
 have hr:(execOp σ o).run P w=.ok (.value (.agg arr)) w:=by
  unfold execOp;simp only [ho,Sem.run_bind,run_build w t _ arr h1,Result.andThen_ok]
  rfl
 rw [hr];exact hk _ w E hh (.agg cs arr (by simpa using h2.1) (fun i c y e1 e2=>h2.2 i c y e1 (by simpa using e2)) h3) (qD.refl w E H)
def qL.len (cl:Call) (ho:o.op=.call cl) (hcl:cl.callee=.builtin .len) (x:Operand) (hx:cl.args= #[x]) {t:TypeId} (ht:cl.argTypes= #[t]) {e:TypeId} (hu:P.underlying t=some (.slice e))
  {n:Nat} (hn:ED (ρ x)=some n):qL P o ρ H (.v (.int .i64 n)) H:=fun w E σ hh hl K hk=>by
 have h0:=hl x (by simp [ho,Op.operands,Call.operands,hcl,hx])
 have hv:∃ a cap,σ x=.slice a n cap:=by
  generalize ρ x=c at *;generalize σ x=u at *;cases h0 <;> first | (simp [ED] at hn;done) | (simp only [ED,gC] at hn;subst hn;exact ⟨_,_,rfl⟩)
 obtain ⟨a,cap,hv⟩:=hv
 have hr:(execOp σ o).run P w=.ok (.value (.int .i64 n)) w:=by
  unfold execOp;simp [ho,resolve,hcl,hx,ht,invoke,builtin,Builtin.len_,hv,run_underlying hu,goInt]
 rw [hr];exact hk _ w E hh (.v _ rfl) (qD.refl w E H)
def nO (P:Program) (t:TypeId) (cs:List C) (off:Nat):Option C:=
 match P.underlying t,P.info? t with
 | some d,some i=>if Bb d then (if decide (off+i.size<=cs.length) then some (.agg ((cs.drop off).take i.size)) else none) else cs[off]?
 | _,_=>none
def AR {E:Env} {w:World} {t:TypeId} {cs:List C} {ys:Array Value} (hll:LL E cs ys.toList) (h1:∀ y ∈ ys,y.oneCell'=true) {off:Nat} {c:C} (hc:nO P t cs off=some c):
  ∃ y,(part t ys off).run P w=.ok y w∧L E c y:=by
 unfold nO at hc;split at hc
 ·rename_i d i hd hi;split at hc
  ·rename_i hag;split at hc
   ·rename_i hlen;simp only [gp] at hlen;cases hc
    have hy:=hll.1;simp at hy;refine ⟨.agg (ys.extract off (off+i.size)),by simp [part,kZ hd,hag,jr hi],.agg _ _ (by simp;omega) ?_ ?_⟩
    ·intro k c y hc hy';rw [gH] at hc;split at hc
     ·rename_i hk;rw [pE] at hc;rw [Array.getElem?_extract] at hy';split at hy'
      ·exact hll.2 _ c y hc (by simpa using hy')
      ·cases hy'
     ·cases hc
    ·intro y hym;obtain ⟨k,hk⟩:=sU.1 hym;rw [Array.getElem?_extract] at hk;split at hk
     ·exact h1 y (rD hk)
     ·cases hk
   ·cases hc
  ·rename_i hag;obtain ⟨y,hy,hly⟩:=hll.get hc;rw [gN] at hy;exact ⟨y,by simp [part,kZ hd,hag,hy],hly⟩
 ·cases hc
def qL.field (t:TypeId) (x:Operand) (f:Nat) (ho:o.op=.field t x f) {fs:Array Field} {fd:Field} (ht:P.underlying t=some (.struct fs)) (hf:fs[f]?= some fd) {cs:List C} (hx:ρ x=.agg cs) {c:C}
  (hc:nO P fd.type cs fd.offset=some c):qL P o ρ H c H:=fun w E σ hh hl K hk=>by
 have h0:=hl x (by simp [ho,Op.operands]);rw [hx] at h0
 obtain ⟨ys,hy,hll,h1⟩:∃ ys,σ x=.agg ys∧LL E cs ys.toList∧∀ y ∈ ys,y.oneCell'=true:=by
  generalize σ x=u at *;cases h0 with
  | agg _ ys h1 h2 h3=>exact ⟨ys,rfl,⟨by simpa using h1,fun i c y e1 e2=>h2 i c y e1 (by simpa using e2)⟩,h3⟩
 obtain ⟨y,hr0,hly⟩:=AR (w:=w) hll h1 hc
 have hr:(execOp σ o).run P w=.ok (.value y) w:=by
  unfold execOp;simp [ho,Instr.field,run_underlying ht,hf,hy,asAgg,hr0]
 rw [hr];exact hk _ w E hh hly (qD.refl w E H)
def qL.Q5 (t:TypeId) (x y:Operand) (ho:o.op=.index t x y) {n:Nat} {e:TypeId} {i:TypeInfo} (ht:P.underlying t=some (.array n e)) (hi:P.info? e=some i) {cs:List C} (hx:ρ x=.agg cs)
  {k:IntKind} {j:Int} (hy:ρ y=.v (.int k j)) (h0:0<=j) (h1:j < n) {c:C} (hc:nO P e cs (j.toNat * i.size)=some c):qL P o ρ H c H:=fun w E σ hh hl K hk=>by
 have hlx:=hl x (by simp [ho,Op.operands]);have hly:=hl y (by simp [ho,Op.operands]);rw [hx] at hlx;rw [hy] at hly
 obtain ⟨ys,hyx,hll,hone⟩:∃ ys,σ x=.agg ys∧LL E cs ys.toList∧∀ y ∈ ys,y.oneCell'=true:=by
  generalize σ x=u at *;cases hlx with
  | agg _ ys h1 h2 h3=>exact ⟨ys,rfl,⟨by simpa using h1,fun i c y e1 e2=>h2 i c y e1 (by simpa using e2)⟩,h3⟩
 have hyv:σ y=.int k j:=by generalize σ y=u at *;cases hly;rfl
 obtain ⟨y',hr0,hly'⟩:=AR (w:=w) hll hone hc
 have hr:(execOp σ o).run P w=.ok (.value y') w:=by
  unfold execOp;simp [ho,Instr.index,asIntOf,hyv,run_underlying ht,hyx,h0,h1,jr hi,hr0]
 rw [hr];exact hk _ w E hh hly' (qD.refl w E H)
end
section
variable {P:Program} {o:Oper} {ρ:Operand->C} {H:zl}
def xN (H:zl):C->Option (Nat × List (List C))
 | .u1 o sz rows=>if o == 0 || o == 1 then some (sz,rows) else none
 | .sl id hops sz lo len _=>match H[id]?,qb H id hops with
  | some ob,some (sz',rows)=>if (sz' == sz) && (ob.kind == 2) && decide (lo+len<=rows.length) && ((rows.drop lo).take len).all (·.all zy) then some (sz,(rows.drop lo).take len) else none
  | _,_=>none
 | _=>none
structure kD (E:Env) (sz:Nat) (rows:List (List C)) (vals:List Value):Prop where
 len:vals.length=rows.length * sz
 row:∀ r ∈ rows,r.length=sz
 cell:∀ i k c,cellAt rows i k=some c->∃ u,vals[i * sz+k]?= some u∧L E.shut c u
 one:∀ u ∈ vals,u.oneCell'=true
def Dj {rows:List (List C)} {sz:Nat} (hrow:∀ r ∈ rows,r.length=sz) {i k:Nat} {c:C} (h:cellAt rows i k=some c):i < rows.length∧k < sz:=by
 unfold cellAt at h;cases hx:rows[i]? with
 | none=>rw [hx] at h;cases h
 | some r=>
  rw [hx] at h;refine ⟨(dP.1 hx).1,?_⟩;rw [<- hrow r (dS hx)];exact (dP.1 h).1
def wO {rows:List (List C)} {sz:Nat} (hrow:∀ r ∈ rows,r.length=sz) {i k:Nat} (hi:i < rows.length) (hk:k < sz):∃ c,cellAt rows i k=some c:=by
 have hr:rows[i]?= some rows[i]:=by simp [hi]
 have hl:=hrow _ (dS hr);exact ⟨rows[i][k]'(by omega),by simp only [cellAt,hr,gE];exact dQ (by omega)⟩
def E8 {sz n j:Nat} (h:j < n * sz):j / sz < n∧j % sz < sz∧j / sz * sz+j % sz=j:=by
 have hsz:0 < sz:=by rcases r6 sz with rfl | h' <;> simp_all
 refine ⟨Nat.div_lt_of_lt_mul (by rw [sg];exact h),Nat.mod_lt _ hsz,?_⟩;rw [sg];exact Nat.div_add_mod j sz
def kD.append {E:Env} {sz:Nat} {rows rows':List (List C)} {vals vals':List Value} (h:kD E sz rows vals) (h':kD E sz rows' vals'):kD E sz (rows++rows') (vals++vals') where
 len:=by rw [gW,gW,h.len,h'.len,pI]
 row r hr:=by rcases gJ.1 hr with hr | hr;exact h.row r hr;exact h'.row r hr
 cell i k c hc:=by
  by_cases hi:i < rows.length
  ·have hc':cellAt rows i k=some c:=by unfold cellAt at hc ⊢;rw [dX hi] at hc;exact hc
   obtain ⟨u,hu,hl⟩:=h.cell i k c hc';exact ⟨u,by rw [dX ((dP.1 hu).1)];exact hu,hl⟩
  ·have hc':cellAt rows' (i - rows.length) k=some c:=by unfold cellAt at hc ⊢;rw [gu (by omega)] at hc;exact hc
   obtain ⟨u,hu,hl⟩:=h'.cell _ k c hc';refine ⟨u,?_,hl⟩;have hge:rows.length * sz<=i * sz:=pB _ (by omega);rw [gu (by rw [h.len];omega),h.len];have:i * sz+k - rows.length * sz=(i - rows.length) * sz+k:=by rw [Nat.sub_mul];omega
   rw [this];exact hu
 one u hu:=by rcases gJ.1 hu with hu | hu;exact h.one u hu;exact h'.one u hu
def yo {w:World} {E:Env} (h:qe w E H) {c:C} {y:Value} (hl:L E c y) {sz:Nat} {rows:List (List C)} (hr:xN H c=some (sz,rows)):
  (rows=[]∧y=.slice none 0 0)∨∃ a cap vals,y=.slice (some a) rows.length cap∧rows.length<=cap∧kD E sz rows vals∧(∀ (j:Nat) u,vals[j]?= some u->w.cell? (a.add j)=some u):=by
 cases hl with
 | xv o sz' ho a=>
  simp only [xN] at hr;split at hr
  ·cases hr
   cases a with
   | none=>exact .inl ⟨rfl,rfl⟩
   | some a=>exact .inr ⟨a,0,[],rfl,gf _,⟨by simp,by simp,by simp [cellAt],by simp⟩,by simp⟩
  ·cases hr
 | u1 o sz' rows' b off cap us ho hc hsz hst hL=>
  simp only [xN] at hr;split at hr
  ·cases hr
   right
   have key:∀ j,j < rows.length * sz->∃ c,cellAt rows (j / sz) (j % sz)=some c∧E.St b (off+j)=some (us (j / sz) (j % sz)):=by
    intro j hj;obtain ⟨h1,h2,h3⟩:=E8 hj;obtain ⟨c,hcc⟩:=wO hsz h1 h2;refine ⟨c,hcc,?_⟩;have hr0:rows[j / sz]?= some rows[j / sz]:=by simp [h1]
    have:=hst (j / sz) _ (j % sz) c hr0 (by unfold cellAt at hcc;rw [hr0] at hcc;exact hcc);rw [rA,h3] at this;exact this
   refine ⟨_,cap,(List.range (rows.length * sz)).map (fun j=>us (j / sz) (j % sz)),rfl,hc,⟨by simp,hsz,?_,?_⟩,?_⟩
   ·intro i k c hcc;obtain ⟨h1,h2⟩:=Dj hsz hcc;have hr0:rows[i]?= some rows[i]:=by simp [h1]
    have u4:i * sz+k < rows.length * sz:=by
     have:(i+1) * sz<=rows.length * sz:=pB _ h1;rw [pI] at this;omega
    have e1:(i * sz+k) / sz=i:=by rw [sg,Nat.mul_add_div (by omega),Nat.div_eq_of_lt h2];rfl
    have e2:(i * sz+k) % sz=k:=by rw [sg,ux,tp h2]
    refine ⟨us i k,by simp [u4,e1,e2],hL i _ k c hr0 (by unfold cellAt at hcc;rw [hr0] at hcc;exact hcc)⟩
   ·intro u hu;obtain ⟨j,hj,rfl⟩:=gL.1 hu;obtain ⟨c,_,hs⟩:=key j (by simpa using hj);exact (h.qv _ _ _ hs).2
   ·intro j u hj;rw [dT] at hj;cases hjr:(List.range (rows.length * sz))[j]? with
    | none=>rw [hjr] at hj;cases hj
    | some j'=>
     rw [hjr] at hj;obtain ⟨hjlt,hj'⟩:=dP.1 hjr;simp at hj' hjlt;subst hj';cases hj
     obtain ⟨c,_,hs⟩:=key j hjlt;rw [xE];exact (h.qv _ _ _ hs).1
  ·cases hr
 | sl id hops sz' lo len full cap hn hlen hf hf'=>
  simp only [xN] at hr;split at hr
  rotate_left
  ·cases hr
  rename_i ob sz2 rows2 hob hb;split at hr
  rotate_left
  ·cases hr
  rename_i hcond;simp only [dY,gT,gp,dZ] at hcond;obtain ⟨⟨⟨rfl,hkd⟩,hfit⟩,hno⟩:=hcond;cases hr
  right
  have hB:=h.eu id ob hops _ rows2 hob hb;obtain ⟨cur,e,hg,hcs,hcell⟩:=hB.eu;have hrl:((rows2.drop lo).take len).length=len:=by simp;omega
  have hsub:∀ i k,cellAt ((rows2.drop lo).take len) i k=if i < len then cellAt rows2 (lo+i) k else none:=by
   intro i k;unfold cellAt;rw [gH];split
   ·rw [pE]
   ·rfl
  have hrow:∀ r ∈ (rows2.drop lo).take len,r.length=sz:=fun r hr=>hB.row r (rV (pK hr))
  have key:∀ j,j < len * sz->∃ c u,cellAt ((rows2.drop lo).take len) (j / sz) (j % sz)=some c∧cur[lo * sz+j]?= some u∧L E.shut c u∧u.oneCell'=true:=by
   intro j hj;obtain ⟨h1,h2,h3⟩:=E8 hj;obtain ⟨c,hcc⟩:=wO hrow (by rw [hrl];exact h1) h2;have hcc2:=hcc;rw [hsub,dU h1] at hcc2;obtain ⟨u,hu,ho⟩:=hcell _ _ c hcc2
   have hnc:zy c=true:=by
    unfold cellAt at hcc;cases hx:((rows2.drop lo).take len)[j / sz]? with
    | none=>rw [hx] at hcc;cases hcc
    | some r=>
     rw [hx] at hcc;exact hno r (dS hx) c (dS hcc)
   rw [qU.loose hnc] at ho;refine ⟨c,u,hcc,?_,by simpa [Env.at,hkd] using ho.1,ho.2⟩;have:(lo+j / sz) * sz+j % sz=lo * sz+j:=by rw [pI];omega
   rw [<- this];exact hu
  have hlen2:len=((rows2.drop lo).take len).length:=hrl.symm;refine ⟨_,cap,(List.range (len * sz)).map (fun j=>cur.getD (lo * sz+j) undef),by rw [<- hlen2],by rw [<- hlen2];exact hlen,⟨by simp [hrl],hrow,?_,?_⟩,?_⟩
  ·intro i k c hcc;obtain ⟨h1,h2⟩:=Dj hrow hcc;rw [hrl] at h1
   have u4:i * sz+k < len * sz:=by
    have:(i+1) * sz<=len * sz:=pB _ h1;rw [pI] at this;omega
   obtain ⟨c',u,h3,h4,h5,_⟩:=key _ u4;have e1:(i * sz+k) / sz=i:=by rw [sg,Nat.mul_add_div (by omega),Nat.div_eq_of_lt h2];rfl
   have e2:(i * sz+k) % sz=k:=by rw [sg,ux,tp h2]
   rw [e1,e2,hcc] at h3;cases h3
   refine ⟨u,?_,h5⟩;simp only [dT,ry u4,gh,pa,h4,pj]
  ·intro u hu;obtain ⟨j,hj,rfl⟩:=gL.1 hu;obtain ⟨c,u,_,h4,_,h6⟩:=key j (by simpa using hj);simpa [pa,h4] using h6
  ·intro j u hj;rw [dT] at hj;cases hjr:(List.range (len * sz))[j]? with
   | none=>rw [hjr] at hj;cases hj
   | some j'=>
    rw [hjr] at hj;obtain ⟨hjlt,hj'⟩:=dP.1 hjr;simp at hj' hjlt;subst hj';obtain ⟨c,u',_,h4,_,_⟩:=key j hjlt;simp only [gh,pa,h4,pj,gC] at hj;subst hj;rw [xE];unfold World.cell?;rw [hg];simpa using h4
 | _=>simp [xN] at hr
end
abbrev hZ (l:List C):List C:=.za::.za::.za::.za::.za::.za::.za::.za::l
abbrev tj:List C:=[.ref 5 [] 8 0 0,.ref 6 [] 44 0 0]
abbrev tn:List C:=[.ref 0 [] 8 0 0,.ref 1 [] 44 0 0]
def zz {H:zl}{q:Prop}(h:q):H=H∧q:=⟨rfl,h⟩
def dd {p q:Prop}(h:q)(e:q→p:=by intro zh;(conv=>whnf);(try apply zz;conv=>whnf);exact zh):p:=e h
def ya {p q:Prop}(h:p):(true=true→p)∧(true=false→q):=⟨fun _=>h,fun h=>nomatch h⟩
def yb {p q:Prop}(h:q):(false=true→p)∧(false=false→q):=⟨fun h=>(nomatch h),fun _=>h⟩
def hU {p:Prop}(n:p:=by (conv=>whnf);(repeat (refine ⟨rfl,?_⟩;(conv=>whnf)));exact trivial):p:=n
def tc {g q:Prop}(h:q)(e:q->g:=by intro zh;(repeat (refine ⟨rfl,?_⟩;(conv=>whnf)));exact zh):g:=e h
def td {g q:Prop}(h:q)(e:q->g:=by intro zh;(repeat ((first | apply ya | apply yb);(conv=>whnf);(try apply zz;conv=>whnf)));exact zh):g:=e h
def tf {α:Type}{l:List α}{k:Nat}{x:α}{P:α->Prop}{q:Prop}(hg:l[k]?= some x)(h:q)(e:q->P x:=by intro zh;(conv=>whnf);(try apply zz;conv=>whnf);exact zh):0<=(k:Int)∧∃ r,l[(k:Int).toNat]?= some r∧P r:=⟨uh k,x,hg,e h⟩
def uA {a b p s q:Prop}(h:q)(n:b->False:=by intro h;first | (simp [hpc] at h;done) | (have h:=gd h;omega) | (have h:=pM h;omega))(e:q->p:=by intro zh;(conv=>whnf);(try apply zz;conv=>whnf);exact zh):(a->p)∧(b->s):=⟨fun _=>e h,fun x=>(n x).elim⟩
def uB {a b p s q:Prop}(h:q)(n:a->False:=by intro h;first | (simp [hpc] at h;done) | (have h:=gd h;omega) | (have h:=pM h;omega))(e:q->s:=by intro zh;(conv=>whnf);(try apply zz;conv=>whnf);exact zh):(a->p)∧(b->s):=⟨fun x=>(n x).elim,fun _=>e h⟩
def uC {g q:Prop}(h:q)(e:q->g:=by intro zh;(first | apply ya | apply yb);(conv=>whnf);(try apply zz;conv=>whnf);exact zh):g:=e h
def uD {g q:Prop}(h:q)(e:q->g:=by intro zh;(conv=>whnf);(refine ⟨fun h=>absurd h (by simp),fun _=>?_⟩);(conv=>whnf);(try apply zz;conv=>whnf);(refine ⟨by simp,?_⟩);(conv=>whnf);exact zh):g:=e h
def uE {g q:Prop}(h:q)(e:q->g:=by intro zh;refine .inl ⟨⟨false,[],[],[]⟩,by kernel_rfl,?_⟩;(conv=>whnf);exact zh):g:=e h
def uF {a b p s q:Prop}(h:q)(n:b->False:=by intro h;exact absurd h (by simp;omega))(e:q->p:=by intro zh;(conv=>whnf);(try apply zz;conv=>whnf);exact zh):(a->p)∧(b->s):=⟨fun _=>e h,fun x=>(n x).elim⟩
def uG {g q:Prop}(h:q)(e:q->g:=by intro zh;refine ⟨fun h=>absurd h (by simp),fun _=>?_⟩;(conv=>whnf);(try apply zz;conv=>whnf);exact zh):g:=e h
def uH {g q:Prop}(h:q)(e:q->g:=by intro zh;(conv=>whnf);exact zh):g:=e h
def uI {g:Prop}(e:g:=by exact ⟨.inl rfl,_,.refl _,rfl⟩):g:=e
def uJ {g:Prop}(e:g:=by exact ⟨.inl rfl,_,.refl _,rfl,rfl⟩):g:=e
def uK {p q:Prop}(n:p->q:=by intro h;dsimp only at h;omega):p->q:=n
def uL {p:Prop}(n:p:=by dsimp only;omega):p:=n
def uM {p:Prop}(n:p:=by (try dsimp only);(repeat' split) <;> omega):p:=n
def uN {b b2:Bool}(h:b=b2):some (C.v (Value.bool b))=some (C.v (Value.bool b2)):=pS (fun b=>some (C.v (Value.bool b))) h
def uO {p:Prop}(n:p:=by exact ⟨tm.listen,tm.word,tm.link,tm.host,tm.path,tm.d0,tm.d1,tm.cfg,tm.iN⟩):p:=n
def uP {p:Prop}(n:p:=by exact ⟨tm.listen,tm.word,tm.link,tm.host,tm.path,tm.d0,tm.d1,tm.cfg,(fun h=>absurd ((show m.op.kind=6 from h).symm.trans hk) (by decide))⟩):p:=n
def uQ {p:Prop}(n:p:=by exact ⟨su.world,su.zg,su.done,su.version,su.eX,su.zi,su.eG,su.end_,su.eS,su.other,su.slot,su.listen,su.i,su.k⟩):p:=n
def uR {p:Prop}(n:p:=by exact ⟨su.world,su.zg,su.done,su.version,su.eX,su.zi,su.eG,su.end_,su.eS,su.other,su.slot,su.listen,(by show 0<=m.i+1;omega),su.k⟩):p:=n
def uS {p:Prop}(n:p:=by exact ⟨su.world,su.zg,su.done,su.version,su.eX,su.zi,su.eG,su.end_,su.eS,su.other,su.slot,su.listen,gy _,su.k⟩):p:=n
def uT {p:Prop}(n:p:=by (show zK _ _::zK _ _::zK _ ⟨1,0,5,_,0⟩::zK _ ⟨1,0,2,_,0⟩::zK _ ⟨1,0,3,_,0⟩::_=_);(rw [zH (enc:=zF) (fun _=>rfl),zH (enc:=zE) (fun _=>rfl),zH (enc:=zx) (fun _=>rfl)]);rfl):p:=n
def uU {p:Prop}(n:p:=by (show zG _ _::zG _ _::zG _ ⟨1,0,5,_,0⟩::zG _ ⟨1,0,2,_,0⟩::zG _ ⟨1,0,3,_,0⟩::_=_);(rw [zB (enc:=zF) (fun _=>rfl),zB (enc:=zE) (fun _=>rfl),zB (enc:=zx) (fun _=>rfl)]);rfl):p:=n
def uV {p:Prop}(n:p:=by show _::_::_::_::_::zG _ ⟨1,0,5,_,0⟩::zG _ ⟨1,0,2,_,0⟩::zG _ ⟨1,0,3,_,0⟩::_=_;rw [zB (enc:=zF) (fun _=>rfl),zB (enc:=zE) (fun _=>rfl),zB (enc:=zx) (fun _=>rfl)];rfl):p:=n
def uW {p:Prop}(n:p:=by show (1:Int)≠0;decide):p:=n
def uX {p:Prop}(n:p:=by simp [ho,Op.operands]):p:=n
def uY {p:Prop}(n:p:=by first | exact ⟨by decide,by decide⟩ | (dsimp only;decide) | exact gd (by kernel_rfl)):p:=n
def uZ {p:Prop}(n:p:=by simpa using e2):p:=n
def tA {p:Prop}(n:p:=by simp [ho,Op.operands,Call.operands,ht.callee,ht.args]):p:=n
def tB {p:Prop}(n:p:=by show zK _ _::zK _ _::zK _ ⟨1,0,5,_,0⟩::zK _ ⟨1,0,2,_,0⟩::zK _ ⟨1,0,3,_,0⟩::_=_;rw [zH (enc:=zF) (fun _=>rfl),zH (enc:=zE) (fun _=>rfl),zH (enc:=zx) (fun _=>rfl)];rfl):p:=n
def tD {p:Prop}(n:p:=by rw [hs.heap.n];exact hs.base):p:=n
def tE {p:Prop}(n:p:=by rw [hx];exact gS hk):p:=n
def tG {p:Prop}(n:p:=by rw [<- hh.n];exact hi):p:=n
def tH {p:Prop}(n:p:=by simpa using h1):p:=n
def tI {p:Prop}(n:p:=by show _::_::_::_::_::zG _ ⟨1,0,1,_,0⟩::_=_;rw [zB (enc:=zN) (fun _=>rfl)];rfl):p:=n
def tJ {p:Prop}(n:p:=by show (2:Int)≠0;decide):p:=n
def tK {p:Prop}(n:p:=by rw [show B=0 from by simpa using h];rfl):p:=n
def tL {p:Prop}(n:p:=by simpa using le):p:=n
def tM {p:Prop}(n:p:=by subst e;simp [ho,Op.operands]):p:=n
def tN {p:Prop}(n:p:=by show (3:Int)≠0;decide):p:=n
def tO {p:Prop}(n:p:=by simpa using lg):p:=n
def tP {p:Prop}(n:p:=by rw [hh.n];exact hi):p:=n
def tR {p:Prop}(n:p:=by simpa using lv):p:=n
def tS {p:Prop}(n:p:=by simpa using this.1):p:=n
def tT {p:Prop}(n:p:=by show 0+1<=1;decide):p:=n
def tU {p:Prop}(n:p:=by simpa using h2):p:=n
def tX {p:Prop}(n:p:=by simpa using h):p:=n
end Go.Ab
