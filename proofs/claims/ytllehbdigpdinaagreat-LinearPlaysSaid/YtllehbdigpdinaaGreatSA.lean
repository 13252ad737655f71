import Derived.WalkKit
import Derived.Still
import Derived.LoopN
import Derived.LoopNIn
import Derived.ControlIn
import Derived.CallsIn
import Derived.TacticsIn
import Derived.OrdersIn
import Derived.Scope
import Derived.RangeFuncLeaves
import Derived.RangeFuncRecord
set_option linter.all false
set_option maxRecDepth 100000
set_option maxHeartbeats 4000000
def O{α:Sort _}{a:α}:a=a:=rfl
def aw{p:Prop}(n:p:=by omega):p:=n
def aj{p:Prop}(n:p:=by simp):p:=n
def au{p:Prop}(n:p:=by kernel_rfl):p:=n
def ar{p:Prop}(n:p:=by decide):p:=n
def aA{p:Prop}(n:p:=by simp;omega):p:=n
def bM{p:Prop}(n:p:=by rw[qb (by omega) (by omega)];omega):p:=n
def aL{p:Prop}(n:p:=by show(0:Int)<_;omega):p:=n
def bS{p:Prop}(n:p:=by rw[hlg];simp[maxLen];omega):p:=n
def ck{p:Prop}(n:p:=by (rw[gI,pK,e1];exact jD _ _ _ uW)):p:=n
def ay{p:Prop}(n:p:=by simp[maxLen];omega):p:=n
def cf{p:Prop}(n:p:=by simp only[gE];omega):p:=n
def cJ{p:Prop}(n:p:=by rw[hlg];show(k+1)*64<=_;omega):p:=n
def cp{p:Prop}(n:p:=by (rw[gI,pK,e2];exact jD _ _ _ uW)):p:=n
def aY{p:Prop}(n:p:=by unfold jF;rw[hon];rfl):p:=n
def bP{p:Prop}(n:p:=by rw[hx];exact gW hk):p:=n
def bR{p:Prop}(n:p:=by rw[p7 hk,<-hx];simp):p:=n
def cU{p:Prop}(n:p:=by rw[hpc];rfl):p:=n
def bT{p:Prop}(n:p:=by rw[p9];rfl):p:=n
def bQ{p:Prop}(n:p:=by intro ob hob;simp at hob;rcases hob with rfl|rfl|rfl|rfl|rfl|rfl|rfl <;> first|exact hX _|exact hY|rfl):p:=n
def aS{p:Prop}(n:p:=by show w.current<((w.ze++[yK m.op.config]).length:Nat);simp only[gE,rP];omega):p:=n
def bd{p:Prop}(n:p:=by show _*8<=_;simp;omega):p:=n
def cq{p:Prop}(n:p:=by simp only[gE,pC,r8];omega):p:=n
def bh{p:Prop}(n:p:=by show 1+1<=48;decide):p:=n
def aH{p:Prop}(n:p:=by have:=hs.base;simp;omega):p:=n
def cG{p:Prop}(n:p:=by show(20:Int)<=20;decide):p:=n
def bZ{p:Prop}(n:p:=by intro u hu;simp at hu;subst hu;rfl):p:=n
def cw{p:Prop}(n:p:=by (rw[gI,pK,e3];exact jD _ _ _ uW)):p:=n
def aF{p:Prop}(n:p:=by have:=(jN gv.snap).zk.1;have:=gv.len;omega):p:=n
def aX{p:Prop}(n:p:=by show x.done+1<=x.ops.length;omega):p:=n
def bz{p:Prop}(n:p:=by have h1:=g9 hB;have h2:=g9 hn;simp;omega):p:=n
def cV{p:Prop}(n:p:=by show zL _ _::zL _ _::zL _ ⟨1,0,1,_,0⟩::_=_;rw[zF (enc:=zP) (λ_=>O)];rfl):p:=n
def bY{p:Prop}(n:p:=by simp only[iJ,f.Q5 (by rw[<-f.h0.n];exact hi)]):p:=n
def aV{p:Prop}(n:p:=by rw[ho];exact hk):p:=n
def ba{p:Prop}(n:p:=by simp at h2;omega):p:=n
def aK{p:Prop}(n:p:=by show i64 (zx w.zd m.op.listen);unfold i64;omega):p:=n
def bo{p:Prop}(n:p:=by rw[mA];show _*104<=_;simp;omega):p:=n
def cT{p:Prop}(n:p:=by show 0+1<=3;decide):p:=n
def aD{p:Prop}(n:p:=by simp[h1]):p:=n
def bw{p:Prop}(n:p:=by rw[h]at hr;cases hr):p:=n
def aI{p:Prop}(n:p:=by simp[h]):p:=n
def bt{p:Prop}(n:p:=by rw[hrows.len,hcs,<-rj];exact pU _ hroom):p:=n
def bC{p:Prop}(n:p:=by simp[ho,hv,hc,eqGuard,binOp,run_equal_slice_nil w t e _ len cap ht]):p:=n
def cx{p:Prop}(n:p:=by rw[gI,pK];exact rd h (by omega) (by omega)):p:=n
def aG{p:Prop}(n:p:=by simpa [Env.at] using ho.1):p:=n
def cF{p:Prop}(n:p:=by have:=rz List.length ha;simp at this;rw[<-this];exact hl.1):p:=n
def cK{p:Prop}(n:p:=by unfold we;rw[gf (by simp at h1;omega)]):p:=n
def cL{p:Prop}(n:p:=by unfold vR;rw[gf (by simp at q1;omega)]):p:=n
def cM{p:Prop}(n:p:=by unfold vR;rw[gf (by simp at q2;omega)]):p:=n
def cN{p:Prop}(n:p:=by unfold we;rw[gf (by simp at h2;omega)]):p:=n
def bL{p:Prop}(n:p:=by rcases pP.1 h with h|h;exact absurd h.symm e;exact h):p:=n
def bW{p:Prop}(n:p:=by simp at q1;omega):p:=n
def bq{p:Prop}(n:p:=by rw[hh.n];exact eU):p:=n
def bA{p:Prop}(n:p:=by show _<=w2.heap.size;rw[a4];exact g.size):p:=n
def bG{p:Prop}(n:p:=by simp[h2]):p:=n
def bJ{p:Prop}(n:p:=by rw[<-l1];exact h2):p:=n
def b8{p:Prop}(n:p:=by have:=st.ty.fi;show w.zd.length<=_;omega):p:=n
def cg{p:Prop}(n:p:=by simp only[gE] at *;omega):p:=n
def cy{p:Prop}(n:p:=by simp at h1 h2;omega):p:=n
def cD{p:Prop}(n:p:=by rcases ho with h|h <;> omega):p:=n
def aW{p:Prop}(n:p:=by rw[ho];omega):p:=n
def cI{p:Prop}(n:p:=by rw[ej];simp[wP,IZ,i4,ha,@eq_comm _ 1 b.kind]):p:=n
def aB{p:Prop}(n:p:=by rw[Bu];decide):p:=n
def bE{p:Prop}(n:p:=by simp[ho,Op.operands,Call.operands,hcl]):p:=n
def cP{p:Prop}(n:p:=by show 2+1<=4;decide):p:=n
def bH{p:Prop}(n:p:=by unfold z7;rw[h2];exact(show vY sz0 rows0 hops=_ from hg')):p:=n
def bn{p:Prop}(n:p:=by rw[mA];simp[maxLen];omega):p:=n
def bb{p:Prop}(n:p:=by rw[h1];decide):p:=n
def aZ{p:Prop}(n:p:=by simp[eU]):p:=n
def bj{p:Prop}(n:p:=by show 47+1<=48;decide):p:=n
def bU{p:Prop}(n:p:=by rw[gp];exact hll.symm):p:=n
def cz{p:Prop}(n:p:=by simp at h1;omega):p:=n
def bu{p:Prop}(n:p:=by rw[jU hs.tmps hw];decide):p:=n
def bF{p:Prop}(n:p:=by intro hb;simp[hb]at hcb):p:=n
def bD{p:Prop}(n:p:=by simpa [Nat.blt_eq,Env.cut] using h):p:=n
def aE{p:Prop}(n:p:=by show(-1:Int)<0;decide):p:=n
def aJ{p:Prop}(n:p:=by simp[hd]):p:=n
def bc{p:Prop}(n:p:=by rw[h2];trivial):p:=n
def bf{p:Prop}(n:p:=by rw[rb];rfl):p:=n
def bB{p:Prop}(n:p:=by rw[hh.n,hs.heap.n];exact hs.base):p:=n
def bV{p:Prop}(n:p:=by rw[<-hh.n,<-h2.n];exact g.le.n):p:=n
def b9{p:Prop}(n:p:=by rw[hlo];split <;> omega):p:=n
def cb{p:Prop}(n:p:=by rw[hhi];split <;> omega):p:=n
def bX{p:Prop}(n:p:=by rw[<-f.h0.n];exact hi):p:=n
def bp{p:Prop}(n:p:=by (try dsimp only);omega):p:=n
def aU{p:Prop}(n:p:=by show(0<=m.pc/\m.pc<=6)\/_;omega):p:=n
def br{p:Prop}(n:p:=by simp only[maxLen]at hm;omega):p:=n
def cH{p:Prop}(n:p:=by rw[hE];rfl):p:=n
def aC{p:Prop}(n:p:=by unfold mL;rw[hnext,hev];rfl):p:=n
def aN{p:Prop}(n:p:=by show m.slot<_;omega):p:=n
def aP{p:Prop}(n:p:=by show(4:Int)≠0;decide):p:=n
def aQ{p:Prop}(n:p:=by show(5:Int)≠0;decide):p:=n
def aR{p:Prop}(n:p:=by show(0:Int)<=n;omega):p:=n
def bO{p:Prop}(n:p:=by simp[h3]):p:=n
def aM{p:Prop}(n:p:=by show 0<=m.slot;omega):p:=n
def bm{p:Prop}(n:p:=by show 3+44<=48;decide):p:=n
def bN{p:Prop}(n:p:=by simp_all[Fk]):p:=n
def ax{p:Prop}(n:p:=by simp[h5]):p:=n
def aO{p:Prop}(n:p:=by show e.zi<=_;omega):p:=n
def cO{p:Prop}(n:p:=by simp at h2 ⊢;omega):p:=n
def cQ{p:Prop}(n:p:=by show 3+1<=5;decide):p:=n
def cR{p:Prop}(n:p:=by show 1+1<=2;decide):p:=n
def cS{p:Prop}(n:p:=by show 2+1<=3;decide):p:=n
def aT{p:Prop}(n:p:=by cases h):p:=n
def aq{p q:Prop}(h:q)(e:q->p:=by intro zh;simpa using zh):p:=e h
def cW{p:Prop}(n:p:=by exact⟨.inl O,_,_,.refl _,rfl,cE 2⟩):p:=n
def cX{p:Prop}(n:p:=by exact⟨.inl O,_,_,.refl _,rfl,zn.xw 6 hC O O O (zH O (zH O (zH (qh lowV) (zH (qh lowG) (zH (qh lowE) O))))) O⟩):p:=n
def cY{p:Prop}(n:p:=by exact⟨.inl O,_,zn.var 1 O O O (.cons (.refl _) (.cons (.refl _) (.cons (.refl _) (.cons (WC.nil 0 1) (.cons (WC.nil 0 5) (.cons (WC.nil 0 4) (.cons (WC.nil 0 1) (.cons (WC.nil 0 3) .nil)))))))),rfl⟩):p:=n
def cZ{p:Prop}(n:p:=by exact⟨.inl O,_,_,.refl _,rfl,zn.xw 9 hC O O O (zH (qh (QK (b:=1) (n:=9) ar hX O)) O) O⟩):p:=n
def c6{p:Prop}(n:p:=by exact h.elim):p:=n
def c7{p:Prop}(n:p:=by refine dd ?_;refine tc ?_;exact uI):p:=n
def c8{p:Prop}(n:p:=by exact⟨.inr O,_,.refl _,rfl,rfl⟩):p:=n
def c9{p:Prop}(n:p:=by exact⟨.inl O,_,_,.refl _,rfl,zn.xw 4 hC O O O (zH O (zH O (zH (qh low) O))) O⟩):p:=n
def da{p:Prop}(n:p:=by exact⟨.inl O,_,zn.keep [3] 1 _ _ O O O O,rfl,rfl⟩):p:=n
def db{p:Prop}(n:p:=by refine dd ?_;exact⟨.inl O,⟨(.za::.za::.za::.za::.za::.za::Bo false:: .za::hU (jp (jp (hU ([]))))),_⟩,cE 3,rfl,rfl⟩):p:=n
def dc{p:Prop}(n:p:=by exact⟨_,_,zn.mask [0,1,4,7,8] _ _,0,aj,rfl,aj,rfl⟩):p:=n
def de{p:Prop}(n:p:=by simp at this;omega):p:=n
def df{p:Prop}(n:p:=by refine hZ ?_;exact cW):p:=n
def dg{p:Prop}(n:p:=by exact⟨_,_,.refl _,rfl,.inl ⟨rfl,rfl,rfl⟩⟩):p:=n
def dh{p:Prop}(n:p:=by refine⟨aw,aA,dd ?_⟩;rw[e1];refine⟨_,j9 aj hk,rfl,dd ?_⟩;refine .inl ⟨rfl,?_,trivial⟩;rw[zw aw,<-ja hF hk];exact cC):p:=n
def di{p:Prop}(n:p:=by exact(g2.frame k (pF hk g.size) λhc=>(g.own k hc).elim (λh=>by omega) ho).trans (g.frame k hk ho)):p:=n
def dj{p:Prop}(n:p:=by rw[hr];exact hk _ w E hh (.v _ O) (qA.refl w E H)):p:=n
def dk{p:Prop}(n:p:=by refine dd ?_;exact uJ):p:=n
def dm{p:Prop}(n:p:=by have g:=g1.trans g2;exact⟨E1,⟨hR,hs.tmps.mono g.le,hs.defers.grow hs.heap g,aH⟩,g.ix tG⟩):p:=n
def dp{p:Prop}(n:p:=by exact⟨.inl O,_,zn.cell 2 O (WC.nil 0 1),rfl⟩):p:=n
def dq{p:Prop}(n:p:=by refine uD ?_;rw[vj aj];exact⟨.inl O,_,zn.fe [1] [6] _ _ O O O O,rfl,rfl⟩):p:=n
def dt{p:Prop}(n:p:=by exact⟨.inl O,_,zn.K8 2 O O (.inr O) aj (shut_map (λ_=>O) (x::l)),rfl⟩):p:=n
def du{p:Prop}(n:p:=by refine dd ?_;exact uI):p:=n
def dw{p:Prop}(n:p:=by exact .agg _ ys tT (λi c y e1 e2=>this.2 i c y e1 uZ) h3):p:=n
def dx{p:Prop}(n:p:=by refine ab func277 ?_;refine ah h ?_;exact uI):p:=n
def dy{p:Prop}(n:p:=by exact qx hd O O):p:=n
def dz{p:Prop}(n:p:=by exact⟨.inl O,⟨(.za::.za::.za::.za::.za::.za::Bo false:: .za::.za::.za::.za::.za::.za::hU (jp (hU ([])))),_⟩,cE 3,rfl,rfl⟩):p:=n
def dA{p:Prop}(n:p:=by refine .inr ⟨aj,uH ?_⟩;exact uI):p:=n
def dB{p:Prop}(n:p:=by have:=(dY.1 ho).1;exact de):p:=n
def dC{p:Prop}(n:p:=by exact xg O O hd):p:=n
def dD{p:Prop}(n:p:=by exact kE O O (by exact gH au)):p:=n
def dE{p:Prop}(n:p:=by exact zQ O ⟨uX,st1,tg1,uO,rfl,rfl,jR.refl w _,qj w (kP p6 (iS su.done hk uM)),.inr ⟨v,g,e,uR,⟨uL,uK,uK,uK,uK⟩⟩⟩):p:=n
def dF{p:Prop}(n:p:=by exact this):p:=n
def dG{p:Prop}(n:p:=by rw[zw aw];exact cE 1):p:=n
def dH{p:Prop}(n:p:=by exact⟨rfl,λ_=>O,rfl⟩):p:=n
def dI{p:Prop}(n:p:=by exact⟨.inl O,⟨(.za::.za::.za::.za::.za::.za::Bo true::hU (hU (hU (hU ([.za,.za,.za]))))),_⟩,cE 3,rfl,rfl⟩):p:=n
def dJ{p:Prop}(n:p:=by exact⟨.inl O,_,zn.zS 2 0 5 O O O O (.inr O) aj bU (shut_map (enc:=qN) (λ_=>O) _) (z5 O),rfl⟩):p:=n
def dK{p:Prop}(n:p:=by exact .fn f _ _ ys zs (aq t1.1) (aq t2.1) (λi c y e1 e2=>t1.2 i c y e1 uZ) (λi c y e1 e2=>t2.2 i c y e1 uZ)):p:=n
def dL{p:Prop}(n:p:=by exact qt O):p:=n
def dM{p:Prop}(n:p:=by exact⟨.inl O,_,_,.refl _,rfl,cE 1⟩):p:=n
def dN{p:Prop}(n:p:=by exact hl a (by simp[ho,Op.operands,Call.operands];right;have:=gh ha;simpa using this)):p:=n
def dO{p:Prop}(n:p:=by refine .inl ⟨⟨true,[0,2,3],[0,1,5],[1]⟩,au,uH ?_⟩;refine ah (qw w sw) ?_;refine hZ ?_;exact uI):p:=n
def dP{p:Prop}(n:p:=by exact⟨.inl O,_,zn.cell 2 O (WC.nil 0 18),rfl⟩):p:=n
def dQ{p:Prop}(n:p:=by rw[gJ];exact⟨hk,h2,λj hj=>by simp only[hr j aw hj];decide⟩):p:=n
def dR{p:Prop}(n:p:=by have:=(hno4 h4).1;omega):p:=n
def dS{p:Prop}(n:p:=by exact⟨rfl,rfl,λ_=>O⟩):p:=n
def dT{p:Prop}(n:p:=by exact .inl ⟨rfl,_,_,cC,hn⟩):p:=n
def dU{p:Prop}(n:p:=by rw[e];exact c7):p:=n
def dV{p:Prop}(n:p:=by refine .inr ⟨aj,uH ?_⟩;exact c8):p:=n
def dW{p:Prop}(n:p:=by exact absurd h3 ar):p:=n
def dX{p:Prop}(n:p:=by rw[gf aw];refine uD ?_;rw[vj aj];exact uJ):p:=n
def dY:=@List.getElem?_eq_some_iff
def dZ:=@List.getElem?_eq_getElem
def gf:=@if_neg
def gh:=@List.mem_of_getElem?
def gj:=@List.getElem?_map
def gk:=@if_pos
def gm:=@Option.some.inj
def gp:=@List.length_map
def gu:=@List.getElem?_set_self
def gz:=@List.getElem?_append_left
def gA:=@List.all_eq_true
def gC:=@Bool.and_eq_true
def gD:=@Nat.le_refl
def gE:=@List.length_append
def gF:=@Option.map_some
def gG:=@List.getElem?_set
def gH:=@of_decide_eq_true
def gI:=@Nat.zero_add
def gJ:=@List.findIdx?_eq_some_iff_getElem
def gK:=@List.getElem?_append_right
def gL:=@Array.getElem?_eq_some_iff
def gM:=@decide_eq_true_eq
def gN:=@List.mem_singleton
def gO:=@List.mem_append
def gP:=@List.findIdx?_eq_none_iff
def gQ:=@List.mem_iff_getElem?
def gR:=@Int.le_refl
def gS:=@Option.some.injEq
def gT:=@Option.map_eq_some_iff
def gU:=@Option.bind_eq_some_iff
def gV:=@List.getElem?_set_ne
def gW:=@List.getElem_mem
def gX:=@Option.bind_some
def gY:=@Nat.zero_le
def gZ:=@List.mem_map
def g5:=@List.getElem?_take
def g8:=@List.set_set
def g9:=@Nat.le_of_ble_eq_true
def pa:=@Array.getElem?_toList
def pd:=@List.any_eq_false
def pj:=@Nat.not_lt_zero
def pn:=@decide_eq_false_iff_not
def pq:=@beq_iff_eq
def pw:=@List.eq_of_mem_replicate
def pz:=@List.mem_iff_getElem
def pA:=@List.append_assoc
def pB:=@Nat.le_trans
def pC:=@List.length_cons
def pD:=@Bool.or_eq_false_iff
def pF:=@Nat.lt_of_lt_of_le
def pG:=@Array.getD_eq_getD_getElem?
def pH:=@List.eq_nil_of_length_eq_zero
def pI:=@List.ext_getElem?
def pJ:=@Bool.not_eq_true'
def pK:=@Int.toNat_natCast
def pL:=@Option.getD_some
def pM:=@List.mem_or_eq_of_mem_set
def pN:=@List.getElem?_mapIdx
def pO:=@List.pairwise_append
def pP:=@List.mem_cons
def pQ:=@List.take_length
def pR:=@Nat.lt_or_ge
def pS:=@List.getElem?_modify
def pT:=@List.mem_cons_of_mem
def pU:=@Nat.mul_le_mul_right
def pV:=@List.getElem?_eq_none
def pW:=@List.mem_cons_self
def pX:=@List.getElem?_drop
def pY:=@Nat.le_succ
def pZ:=@List.any_eq_true
def p7:=@List.take_succ_eq_append_getElem
def p8:=@Bool.or_eq_true
def p9:=@List.map_set
def rb:=@List.map_append
def rh:=@List.getElem?_eq_none_iff
def rj:=@Nat.add_mul
def rk:=@of_decide_eq_false
def rm:=@List.pairwise_cons
def rp:=@List.mem_range
def rq:=@List.take_append_drop
def ru:=@List.append_nil
def rz:=@congrArg
def rA:=@List.getD_eq_getElem?_getD
def rB:=@List.length_eq_zero_iff
def rC:=@decide_eq_false
def rD:=@List.getElem?_cons_succ
def rE:=@List.map_cons
def rF:=@Array.eq_empty_of_size_eq_zero
def rG:=@List.mem_of_mem_take
def rH:=@Int.toNat_of_nonneg
def rI:=@List.findIdx?_map
def rJ:=@Nat.sub_self
def rK:=@List.findIdx?_cons
def rL:=@Bool.not_eq_false'
def rM:=@Nat.sub_zero
def rO:=@Array.getElem?_eq_getElem
def rP:=@List.length_singleton
def rQ:=@List.map_map
def rR:=@List.sum_cons
def rS:=@Bool.false_or
def rT:=@Bool.false_and
def rU:=@Nat.lt_trichotomy
def rV:=@Option.map_eq_map
def rW:=@List.getElem?_range
def rX:=@Bool.true_and
def rY:=@decide_eq_true
def rZ:=@Array.mem_of_getElem?
def r4:=@List.length_set
def r6:=@Nat.add_zero
def r7:=@List.mem_append_left
def r8:=@List.length_nil
def r9:=@Nat.add_assoc
def sa:=@List.all_cons
def sb:=@List.map_congr_left
def sd:=@List.length_take
def se:=@Array.getElem?_eq_none
def sf:=@List.take_of_length_le
def sg:=@List.countP_append
def sj:=@Bool.false_eq_true
def sr:=@Int.emod_lt_of_pos
def sA:=@Int.emod_nonneg
def sB:=@Array.getElem?_modify
def sC:=@List.perm_append_comm
def sD:=@Int.tmod_eq_emod_of_nonneg
def sE:=@List.foldl_append
def sF:=@List.all_eq_false
def sG:=@List.mem_of_mem_drop
def sH:=@List.take_left
def sI:=@Array.all_toList
def sJ:=@List.replicate_succ
def sK:=@Array.toList_append
def sL:=@List.getElem?_replicate
def sM:=@Nat.eq_zero_or_pos
def sN:=@Int.natCast_nonneg
def sO:=@List.countP_singleton
def sP:=@List.length_replicate
def sQ:=@Bool.and_false
def sR:=@List.set_append_right
def sS:=@Nat.ne_of_lt
def sT:=@List.getElem?_toArray
def sU:=@Nat.mul_comm
def sV:=@List.mapM_cons
def sW:=@List.drop_zero
def sX:=@List.dropLast_concat_getLast
def sY:=@List.Pairwise.sublist
def sZ:=@Nat.le_of_lt
def tp:=@List.findIdx?_append
def tq:=@Array.toList_inj
def tt:=@List.range_eq_range'
def tu:=@Nat.not_lt
def tw:=@List.prefix_refl
def tz:=@Array.getElem?_append_left
def tY:=@List.exists_cons_of_ne_nil
def tZ:=@Bool.and_true
def ua:=@Nat.mul_one
def ub:=@List.length_pos_iff
def uc:=@List.takeWhile_cons
def ud:=@List.set_cons_zero
def ue:=@Nat.le_of_eq
def uf:=@Bool.or_true
def ug:=@List.mem_replicate
def uh:=@Array.setIfInBounds_comm
def ui:=@List.find?_range_eq_none
def uj:=@List.all_nil
def uk:=@List.getElem?_cons_zero
def um:=@List.size_toArray
def uo:=@List.getElem_take
def uq:=@Array.mem_iff_getElem?
def ur:=@Bool.not_true
def uu:=@List.map_take
def uv:=@true_and
def uw:=@Option.bind_none
def ux:=@Nat.mod_eq_of_lt
def uy:=@Array.toList_map
def uz:=@List.length_drop
def u1:=@List.perm_middle
def u3:=@List.set_getElem_self
def u4:=@List.mem_append_right
def u5:=@List.countP_le_length
def u6:=@List.set_append_left
def u7:=@List.replicate_succ'
def u9:=@List.mem_mapIdx
def eh:=@List.foldl_cons
def ei:=@Nat.zero_mul
def ej:=@Bool.eq_iff_iff
def eu:=@List.eq_nil_iff_forall_not_mem
def ez:=@List.getElem?_append
def eC:=@List.take_zero
def eD:=@Array.getElem?_setIfInBounds
def eE:=@Array.getElem?_map
def eF:=@List.flatMap_cons
def eG:=@Array.size_append
def eI:=@List.take_sublist
def eJ:=@Nat.add_comm
def eK:=@List.isEmpty_iff
def eL:=@Bool.true_or
def eM:=@List.countP_cons
def eP:=@Nat.mul_add_mod
def eQ:=@List.all_append
namespace Go.Ab
abbrev fJ:=Nat×Nat
inductive C where
 |v (x:Value)
 |eS (o sz:Nat) (rows:List (List C))
 |jP (cells:List C)
 |ref (id:Nat) (hops:List fJ) (sz i k:Nat)
 |sl (id:Nat) (hops:List fJ) (sz lo len:Nat) (full:Bool)
 |fn (f:FuncId) (first caps:List C)
 |mp (id:Nat)
 |agg (cs:List C)
 |fb (vs:List C)
 |un
 |za
 |gl (id sz:Nat) (rows:List (List C))
 |fR (t:TypeId) (c:C)
 |rc (o:Obj)
structure Ob where
 kind:Nat
 ty:TypeId
 sz:Nat
 rows:List (List C)
 fz:Nat:=0
abbrev zl:=List Ob
structure Env where
 n:Nat
 β:Nat->List fJ->Nat
 κ:Nat->List fJ->Nat
 St:Nat->Nat->Option Value
 G:Nat->Nat->Option Value:=λ_ _=>none
def Env.shut(E:Env):Env:={E with n:=0}
def Env.at(E:Env)(kd:Nat):Env:=if kd=2 then E.shut else E
inductive L:Env->C->Value->Prop
 |v {E:Env} (x:Value) (h:x.oneCell'=true):L E (.v x) x
 |eS {E:Env} (o sz:Nat) (rows:List (List C)) (b off cap:Nat) (us:Nat->Nat->Value) (ho:o=0\/o=1/\cap=rows.length) (hc:rows.length<=cap)
   (hsz:∀r∈rows,r.length=sz)
   (hst:∀(i:Nat) r (k:Nat) c,rows[i]?=some r->r[k]?=some c->E.St b (off+i*sz+k)=some (us i k))
   (hL:∀(i:Nat) r (k:Nat) c,rows[i]?=some r->r[k]?=some c->L E.shut c (us i k)):
   L E (.eS o sz rows) (.slice (some ⟨b,off,none⟩) rows.length cap)
 |xq {E:Env} (o sz:Nat) (ho:o=0\/o=1) (a:Option Addr:=none):L E (.eS o sz []) (.slice a 0 0)
 |jP {E:Env} (cells:List C) (b off:Nat) (us:Nat->Value) (hst:∀(k:Nat) c,cells[k]?=some c->E.St b (off+k)=some (us k))
   (hL:∀(k:Nat) c,cells[k]?=some c->L E.shut c (us k)):L E (.jP cells) (.pointer (some ⟨b,off,none⟩))
 |ref {E:Env} (id:Nat) (hops:List fJ) (sz i k:Nat) (hn:id<E.n):L E (.ref id hops sz i k) (.pointer (some ⟨E.β id hops,i*sz+k,none⟩))
 |sl {E:Env} (id:Nat) (hops:List fJ) (sz lo len:Nat) (full:Bool) (cap:Nat) (hn:id<E.n) (hlen:len<=cap) (hf:full=true->cap=len) (hf':full=false->lo+cap=E.κ id hops):
   L E (.sl id hops sz lo len full) (.slice (some ⟨E.β id hops,lo*sz,none⟩) len cap)
 |fn {E:Env} (f:FuncId) (first caps:List C) (ys zs:Array Value) (h1:first.length=ys.size) (h2:caps.length=zs.size)
   (h3:∀(i:Nat) c y,first[i]?=some c->ys[i]?=some y->L E c y) (h4:∀(i:Nat) c y,caps[i]?=some c->zs[i]?=some y->L E c y):
   L E (.fn f first caps) (.func (.func f) ys zs)
 |mp {E:Env} (id:Nat) (hn:id<E.n):L E (.mp id) (.map (some (E.β id [])))
 |agg {E:Env} (cs:List C) (ys:Array Value) (h1:cs.length=ys.size) (h2:∀(i:Nat) c y,cs[i]?=some c->ys[i]?=some y->L E c y) (h3:∀y∈ys,y.oneCell'=true):L E (.agg cs) (.agg ys)
 |fb {E:Env} (cs:List C) (ys:Array Value) (h1:cs.length=ys.size) (h2:∀(i:Nat) c y,cs[i]?=some c->ys[i]?=some y->L E c y):L E (.fb cs) (.tuple ys)
 |un {E:Env}:L E .un undef
 |za {E:Env} (y:Value):L E .za y
 |gl {E:Env} (id sz:Nat) (rows:List (List C)) (y:Value) (hn:id<E.n) (hg:E.G id rows.length=some y) (h:L E.shut (.eS 0 sz rows) y):L E (.gl id sz rows) y
 |fR {E:Env} (t:TypeId) (c:C) (y:Value) (h:L E c y):L E (.fR t c) (.iface t y)
structure Env.le(E E':Env):Prop where
 n:E.n<=E'.n
 β:∀id hops,id<E.n->E'.β id hops=E.β id hops
 κ:∀id hops,id<E.n->E'.κ id hops=E.κ id hops
 St:∀b o u,E.St b o=some u->E'.St b o=some u
 G:∀id k u,id<E.n->E.G id k=some u->E'.G id k=some u
def Env.le.refl(E:Env):E.le E:=⟨gD _,λ_ _ _=>O,λ_ _ _=>O,λ_ _ _ h=>h,λ_ _ _ _ h=>h⟩
def Env.le.trans{E E' E'':Env}(h:E.le E')(h':E'.le E''):E.le E'':=
 ⟨pB h.n h'.n,λid hops hi=>(h'.β id hops (pF hi h.n)).trans (h.β id hops hi),λid hops hi=>(h'.κ id hops (pF hi h.n)).trans (h.κ id hops hi),
  λb o u hu=>h'.St b o u (h.St b o u hu),λid k u hi hu=>h'.G id k u (pF hi h.n) (h.G id k u hi hu)⟩
def Env.D0(E:Env):E.shut.le E:=⟨gY _,λ_ _ h=>absurd h (pj _),λ_ _ h=>absurd h (pj _),λ_ _ _ h=>h,λ_ _ _ h _=>absurd h (pj _)⟩
def Env.le.shut{E E':Env}(h:E.le E'):E.shut.le E'.shut:=⟨gD _,λ_ _ h=>absurd h (pj _),λ_ _ h=>absurd h (pj _),h.St,λ_ _ _ h _=>absurd h (pj _)⟩
def Env.le.at{E E':Env}(h:E.le E')(kd:Nat):(E.at kd).le (E'.at kd):=by unfold Env.at;split;exact h.shut;exact h
def Env.Pv(E:Env)(kd:Nat):(E.at kd).le E:=by unfold Env.at;split;exact E.D0;exact .refl E
def L.mono{E E':Env}(h:E.le E'){c:C}{y:Value}(hl:L E c y):L E' c y:=by
 induction hl generalizing E' with
 |v x hx=>exact .v x hx
 |eS o sz rows b off cap us ho hc hsz hst _ ih=>exact .eS o sz rows b off cap us ho hc hsz (λi r k c h1 h2=>h.St _ _ _ (hst i r k c h1 h2)) (λi r k c h1 h2=>ih i r k c h1 h2 h.shut)
 |xq o sz ho a=>exact .xq o sz ho a
 |jP cells b off us hst _ ih=>exact .jP cells b off us (λk c h1=>h.St _ _ _ (hst k c h1)) (λk c h1=>ih k c h1 h.shut)
 |ref id hops sz i k hn=>rw[<-h.β id hops hn];exact .ref id hops sz i k (pF hn h.n)
 |sl id hops sz lo len full cap hn hlen hf hf'=>
  rw[<-h.β id hops hn];exact .sl id hops sz lo len full cap (pF hn h.n) hlen hf (λe=>by rw[h.κ id hops hn];exact hf' e)
 |fn f first caps ys zs h1 h2 _ _ ih1 ih2=>exact .fn f first caps ys zs h1 h2 (λi c y e1 e2=>ih1 i c y e1 e2 h) (λi c y e1 e2=>ih2 i c y e1 e2 h)
 |mp id hn=>rw[<-h.β id [] hn];exact .mp id (pF hn h.n)
 |agg cs ys h1 _ h3 ih=>exact .agg cs ys h1 (λi c y e1 e2=>ih i c y e1 e2 h) h3
 |fb cs ys h1 _ ih=>exact .fb cs ys h1 (λi c y e1 e2=>ih i c y e1 e2 h)
 |un=>exact .un
 |za y=>exact .za y
 |gl id sz rows y hn hg _ ih=>exact .gl id sz rows y (pF hn h.n) (h.G _ _ _ hn hg) (ih h.shut)
 |fR t c y _ ih=>exact .fR t c y (ih h)
def AM:C->Bool
 |.v _|.eS .. |.jP _=>true
 |_=>false
def C6:C->Bool
 |.agg cs=>cs.all AM
 |c=>AM c
def xm:C->Bool
 |.fn _ first caps=>first.all C6 && caps.all C6
 |c=>AM c
def L.wt{E:Env}{c:C}{y:Value}(h:L E c y)(hc:AM c=true):L E.shut c y:=by
 cases h with
 |v x hx=>exact .v _ hx
 |eS o sz rows b off cap us ho h2 hsz hst hL=>exact .eS o sz rows b off cap us ho h2 hsz hst hL
 |xq o sz ho a=>exact .xq o sz ho a
 |jP cells b off us hst hL=>exact .jP cells b off us hst hL
 |_=>simp[AM]at hc
def L.Ow{E:Env}{c:C}{y:Value}(h:L E c y)(hc:C6 c=true):L E.shut c y:=by
 cases h with
 |agg cs ys h1 h2 h3=>
  refine .agg cs ys h1 (λi c y e1 e2=>(h2 i c y e1 e2).wt ?_) h3;exact gA.1 (show cs.all AM=true from hc) _ (gh e1)
 |v x hx=>exact(L.v (E:=E) _ hx).wt hc
 |eS o sz rows b off cap us ho h2 hsz hst hL=>exact(L.eS (E:=E) o sz rows b off cap us ho h2 hsz hst hL).wt hc
 |xq o sz ho a=>exact(L.xq (E:=E) o sz ho a).wt hc
 |jP cells b off us hst hL=>exact(L.jP (E:=E) cells b off us hst hL).wt hc
 |_=>simp[C6,AM]at hc
def L.kz{E:Env}{c:C}{y:Value}(h:L E c y)(hc:xm c=true):L E.shut c y:=by
 cases h with
 |fn f first caps ys zs h1 h2 h3 h4=>
  have hc:(first.all C6 && caps.all C6)=true:=hc;rw[gC]at hc;exact .fn f first caps ys zs h1 h2 (λi c y e1 e2=>(h3 i c y e1 e2).Ow (gA.1 hc.1 _ (gh e1))) (λi c y e1 e2=>(h4 i c y e1 e2).Ow (gA.1 hc.2 _ (gh e1)))
 |v x hx=>exact(L.v (E:=E) _ hx).wt hc
 |eS o sz rows b off cap us ho h2 hsz hst hL=>exact(L.eS (E:=E) o sz rows b off cap us ho h2 hsz hst hL).wt hc
 |xq o sz ho a=>exact(L.xq (E:=E) o sz ho a).wt hc
 |jP cells b off us hst hL=>exact(L.jP (E:=E) cells b off us hst hL).wt hc
 |_=>simp[xm,AM]at hc
def LL(E:Env)(cs:List C)(ys:List Value):Prop:=cs.length=ys.length/\∀(i:Nat) c y,cs[i]?=some c->ys[i]?=some y->L E c y
def LL.mono{E E':Env}(h:E.le E'){cs:List C}{ys:List Value}(hl:LL E cs ys):LL E' cs ys:=
 ⟨hl.1,λi c y h1 h2=>(hl.2 i c y h1 h2).mono h⟩
def LL.nil{E:Env}:LL E [] []:=⟨rfl,by simp⟩
def LL.cons{E:Env}{c:C}{y:Value}{cs:List C}{ys:List Value}(h:L E c y)(hl:LL E cs ys):LL E (c::cs) (y::ys):=by
 refine⟨by simp[hl.1],?_⟩;intro i c' y' h1 h2;cases i with
 |zero=>simp at h1 h2;subst h1;subst h2;exact h
 |succ i=>simp at h1 h2;exact hl.2 i c' y' h1 h2
def LL.cons_inv{E:Env}{c:C}{y:Value}{cs:List C}{ys:List Value}(h:LL E (c::cs) (y::ys)):L E c y/\LL E cs ys:=
 ⟨h.2 0 c y O O,by simpa using h.1,λi c' y' h1 h2=>h.2 (i+1) c' y' (by simpa using h1) (by simpa using h2)⟩
def LL.one{E:Env}{c:C}{y:Value}(h:L E c y):LL E [c] [y]:=LL.cons h LL.nil
def LL.append{E:Env}{cs cs':List C}{ys ys':List Value}(h:LL E cs ys)(h':LL E cs' ys'):LL E (cs++cs') (ys++ys'):=by
 refine⟨by simp[h.1,h'.1],?_⟩;intro i c y h1 h2;by_cases hi:i<cs.length
 ·rw[gz hi]at h1;rw[gz (by rw[<-h.1];exact hi)]at h2;exact h.2 i c y h1 h2
 ·rw[gK (by omega)]at h1;rw[gK (by rw[<-h.1];omega),<-h.1]at h2;exact h'.2 _ c y h1 h2
def LL.get{E:Env}{cs:List C}{ys:List Value}(h:LL E cs ys){i:Nat}{c:C}(hc:cs[i]?=some c):∃y,ys[i]?=some y/\L E c y:=by
 have hi:i<ys.length:=by rw[<-h.1];exact(dY.1 hc).1
 exact⟨ys[i],by simp[hi],h.2 i c ys[i] hc (by simp[hi])⟩
def LL.take{E:Env}{cs:List C}{ys:List Value}(h:LL E cs ys)(n:Nat):LL E (cs.take n) (ys.take n):=by
 refine⟨by simp[h.1],?_⟩;intro i c y h1 h2;rw[g5]at h1 h2;split at h1
 ·rename_i hi;rw[gk hi]at h2;exact h.2 i c y h1 h2
 ·cases h1
def LL.drop{E:Env}{cs:List C}{ys:List Value}(h:LL E cs ys)(n:Nat):LL E (cs.drop n) (ys.drop n):=by
 refine⟨by simp[h.1],?_⟩;intro i c y h1 h2;rw[pX]at h1 h2;exact h.2 _ c y h1 h2
def LL.set{E:Env}{cs:List C}{ys:List Value}(h:LL E cs ys){c:C}{y:Value}(hl:L E c y)(i:Nat):LL E (cs.set i c) (ys.set i y):=by
 refine⟨by simp[h.1],?_⟩;intro j c' y' h1 h2;rw[gG]at h1 h2;by_cases hij:i=j
 ·subst hij;rw[gk O]at h1 h2;split at h1
  ·split at h2
   ·cases h1;cases h2;exact hl
   ·cases h2
  ·cases h1
 ·rw[gf hij]at h1 h2;exact h.2 j c' y' h1 h2
def C.cells:C->List C
 |.agg cs=>cs
 |c=>[c]
def L.cells{E:Env}{c:C}{y:Value}(h:L E c y)(hj:c≠.za)(hu:c≠.un):LL E c.cells y.cells.toList:=by
 have one:∀(c:C) (y:Value),L E c y->c.cells=[c]->y.cells= #[y]->LL E c.cells y.cells.toList:=λc y h e1 e2=>by
  rw[e1,e2];exact LL.cons h LL.nil
 cases h with
 |v x hx=>exact one _ _ (.v _ hx) O (by cases y <;> simp_all[Value.cells,Value.oneCell'])
 |agg cs ys h1 h2 h3=>exact⟨by simpa [C.cells,Value.cells] using h1,λi c y e1 e2=>h2 i c y e1 (by simpa [Value.cells] using e2)⟩
 |un=>exact absurd O hu
 |za=>exact absurd O hj
 |fb cs ys h1 h2=>exact one _ _ (.fb cs ys h1 h2) O O
 |eS o sz rows b off cap us ho hc hsz hst hL=>exact one _ _ (.eS o sz rows b off cap us ho hc hsz hst hL) O O
 |xq o sz ho a=>exact one _ _ (.xq o sz ho a) O O
 |jP cells b off us hst hL=>exact one _ _ (.jP cells b off us hst hL) O O
 |ref id hops sz i k hn=>exact one _ _ (.ref id hops sz i k hn) O O
 |sl id hops sz lo len full cap hn hlen hf hf'=>exact one _ _ (.sl id hops sz lo len full cap hn hlen hf hf') O O
 |fn f first caps ys zs h1 h2 h3 h4=>exact one _ _ (.fn f first caps ys zs h1 h2 h3 h4) rfl rfl
 |mp id hn=>exact one _ _ (.mp id hn) O O
 |gl id sz rows y hn hg h=>exact one _ _ (.gl id sz rows y hn hg h) O (by cases h <;> rfl)
 |fR t c y h=>exact one _ _ (.fR t c y h) O O
def cellAt(rows:List (List C))(i k:Nat):Option C:=(rows[i]?).bind (·[k]?)
def vY:Nat->List (List C)->List fJ->Option (Nat×List (List C))
 |sz,rows,[]=>some (sz,rows)
 |_,rows,(i,k)::hs=>match cellAt rows i k with
  |some (.eS 2 sz' rows')=>vY sz' rows' hs
  |_=>none
def z7(H:zl)(id:Nat)(hops:List fJ):Option (Nat×List (List C)):=
 match H[id]? with
 |some ob=>if ob.kind=1\/ob.kind=2 then vY ob.sz ob.rows hops else none
 |none=>none
def qW(E:Env)(kd:Nat)(id:Nat)(hops:List fJ)(i k:Nat)(c:C)(u:Value):Prop:=
 match c with
 |.eS 2 _ rows'=>u=.slice (some ⟨E.β id (hops++[(i,k)]),0,none⟩) rows'.length (E.κ id (hops++[(i,k)]))
 |c=>L (E.at kd) c u/\u.oneCell'=true
structure C8(w:World)(E:Env)(kd:Nat)(id:Nat)(hops:List fJ)(sz:Nat)(rows:List (List C)):Prop where
 len:rows.length<=E.κ id hops
 row:∀r∈rows,r.length=sz
 fj:∃cur e,w.heap[E.β id hops]?=some (.cells cur e (0,0))/\cur.size=E.κ id hops*sz/\
  ∀i k c,cellAt rows i k=some c->∃u,cur[i*sz+k]?=some u/\qW E kd id hops i k c u
structure qd(w:World)(E:Env)(H:zl):Prop where
 n:E.n=H.length
 fj:∀id ob hops sz rows,H[id]?=some ob->z7 H id hops=some (sz,rows)->C8 w E ob.kind id hops sz rows
 inj:∀id hops id' hops' x y,z7 H id hops=some x->z7 H id' hops'=some y->E.β id hops=E.β id' hops'->id=id'/\hops=hops'
 qs:∀b o u,E.St b o=some u->w.cell? ⟨b,o,none⟩=some u/\u.oneCell'=true
 sep:∀id hops x o u,z7 H id hops=some x->E.St (E.β id hops) o=some u->hops=[]/\∃ob,H[id]?=some ob/\o<ob.fz*ob.sz
 ty:∀id ob,H[id]?=some ob->ob.kind=2->∃cur,w.heap[E.β id []]?=some (.cells cur ob.ty (0,0))
 fz:∀(id:Nat) (ob:Ob),H[id]?=some ob->ob.fz<=ob.rows.length
structure S where
 tmps:List C
 H:zl
def jh(E:Env)(H:zl)(b:Nat):Prop:=∃id hops x,z7 H id hops=some x/\E.β id hops=b
structure qA(w:World)(E:Env)(H:zl)(w':World)(E':Env)(H':zl):Prop where
 le:E.le E'
 Et:∀(id k:Nat),id<E.n->E'.G id k=E.G id k
 os:w'.os=w.os
 tape:w'.tape=w.tape
 output:w'.output=w.output
 size:w.heap.size<=w'.heap.size
 frame:∀k,k<w.heap.size->¬jh E H k->w'.heap[k]?=w.heap[k]?
 jO:∀b o u,E'.St b o=some u->E.St b o=some u\/w.heap.size<=b\/jh E H b
 own:∀b,jh E' H' b->w.heap.size<=b\/jh E H b
def qA.refl(w:World)(E:Env)(H:zl):qA w E H w E H:=
 ⟨Env.le.refl E,λ_ _ _=>O,rfl,rfl,rfl,gD _,λ_ _ _=>O,λ_ _ _ h=>.inl h,λ_ h=>.inr h⟩
def qA.trans{w w1 w2:World}{E E1 E2:Env}{H H1 H2:zl}(g:qA w E H w1 E1 H1)(h:qA w1 E1 H1 w2 E2 H2):qA w E H w2 E2 H2 where
 le:=g.le.trans h.le
 Et id k hi:=(h.Et id k (pF hi g.le.n)).trans (g.Et id k hi)
 os:=h.os.trans g.os
 tape:=h.tape.trans g.tape
 output:=h.output.trans g.output
 size:=pB g.size h.size
 frame k hk ho:=(h.frame k (pF hk g.size) λhc=>(g.own k hc).elim (λhs=>by omega) ho).trans (g.frame k hk ho)
 jO b o u hu:=by
  rcases h.jO b o u hu with h1|h1|h1
  ·exact g.jO b o u h1
  ·exact .inr (.inl (pB g.size h1))
  ·rcases g.own b h1 with h2|h2
   ·exact .inr (.inl h2)
   ·exact .inr (.inr h2)
 own b hb:=by
  rcases h.own b hb with h1|h1
  ·exact .inl (pB g.size h1)
  ·exact g.own b h1
def qH(E:Env)(H:zl)(id b:Nat):Prop:=∃ob cap,H[id]?=some ob/\ob.kind=4/\E.G id ob.rows.length=some (.slice (some ⟨b,0,none⟩) ob.rows.length cap)/\cap≠ob.rows.length
def jE(H:zl)(id b:Nat):Prop:=∃ob o t,H[id]?=some ob/\ob.kind=4/\(ob.rows=[.rc o::t]/\ob.fz=1)/\ob.ty=b
def Ee:Obj->Bool
 |.loop _=>true
 |.map ..=>true
 |.mapIter ..=>true
 |_=>false
def J9:Obj->List Value
 |.loop r=>r.tmps.toList
 |_=>[]
def mb(E:Env)(t:List C)(o:Obj):Prop:=LL E t (J9 o)\/∃es k,o=.map es k/\LL E t (es.toList.map (·.val))
def mb.map{E E':Env}{t:List C}{o:Obj}(h:mb E t o)(hf:∀ys,LL E t ys->LL E' t ys):mb E' t o:=h.imp (hf _) λ⟨es,k,e,hl⟩=>⟨es,k,e,hf _ hl⟩
def mb.mono{E E':Env}{t:List C}{o:Obj}(h:mb E t o)(hle:E.le E'):mb E' t o:=h.map λ_ hl=>hl.mono hle
def mb.loop{E:Env}{t:List C}{r:Loop}(h:mb E t (.loop r)):LL E t r.tmps.toList:=h.elim id λ⟨_,_,e,_⟩=>by cases e
def qd.Eb{w:World}{E:Env}{H:zl}{b:Nat}(h:qd w E H)(ho:jh E H b):∃cur e,w.heap[b]?=some (.cells cur e (0,0)):=by
 obtain⟨id,hops,x,hx,rfl⟩:=ho;have hx':=hx;unfold z7 at hx';split at hx'
 ·rename_i ob hob;obtain⟨cur,e,h1,_⟩:=(h.fj id ob hops x.1 x.2 hob hx).fj;exact⟨cur,e,h1⟩
 ·cases hx'
structure mK(w:World)(E:Env)(H:zl):Prop where
 val:∀(id:Nat) (ob:Ob),H[id]?=some ob->ob.kind=4->∃a cap,E.G id ob.rows.length=some (.slice a ob.rows.length cap)/\(cap=ob.rows.length\/∃b,a=some ⟨b,0,none⟩/\ob.rows.length<=cap)
 fj:∀(id b:Nat) (ob:Ob),qH E H id b->H[id]?=some ob->∃cur cap,E.G id ob.rows.length=some (.slice (some ⟨b,0,none⟩) ob.rows.length cap)/\w.heap[b]?=some (.cells cur ob.ty (0,0))/\cur.size=cap*ob.sz
 sep:∀id b,qH E H id b->¬jh E H b
 inj:∀id id' b,qH E H id b->qH E H id' b->id=id'
 st:∀(id b:Nat) (ob:Ob) o u,qH E H id b->H[id]?=some ob->E.St b o=some u->o<ob.rows.length*ob.sz
 top:∀(id:Nat) (ob:Ob) (k:Nat) u,H[id]?=some ob->ob.kind=4->E.G id k=some u->k<=ob.rows.length
 iw:∀(id:Nat) (ob:Ob) (o:Obj) (t:List C),H[id]?=some ob->ob.kind=4->(ob.rows=[.rc o::t]/\ob.fz=1)->(w.heap[ob.ty]?=some o/\Ee o=true)/\mb E t o
 iO:∀id id' b,jE H id b->jE H id' b->id=id'
def jI(H H':zl):Prop:=∀(id:Nat) (ob:Ob),ob.kind=4->(H'[id]?=some ob↔H[id]?=some ob)
def jI.refl(H:zl):jI H H:=λ_ _ _=>Iff.rfl
structure qu(w:World)(E:Env)(H:zl):Prop where
 base:qd w E H
 eX:mK w E H
def qu.n{w:World}{E:Env}{H:zl}(h:qu w E H):E.n=H.length:=h.base.n
def xj(E:Env)(H:zl)(b:Nat):Prop:=jh E H b\/∃id,(qH E H id b\/jE H id b)
structure Grow(w:World)(E:Env)(H:zl)(w':World)(E':Env)(H':zl):Prop where
 le:E.le E'
 os:w'.os=w.os
 tape:w'.tape=w.tape
 output:w'.output=w.output
 size:w.heap.size<=w'.heap.size
 frame:∀k,k<w.heap.size->¬xj E H k->w'.heap[k]?=w.heap[k]?
 jO:∀b o u,E'.St b o=some u->E.St b o=some u\/w.heap.size<=b\/xj E H b
 own:∀b,xj E' H' b->w.heap.size<=b\/xj E H b
def Grow.refl(w:World)(E:Env)(H:zl):Grow w E H w E H:=
 ⟨Env.le.refl E,rfl,rfl,rfl,gD _,λ_ _ _=>O,λ_ _ _ h=>.inl h,λ_ h=>.inr h⟩
def Grow.trans{w w1 w2:World}{E E1 E2:Env}{H H1 H2:zl}(g:Grow w E H w1 E1 H1)(h:Grow w1 E1 H1 w2 E2 H2):Grow w E H w2 E2 H2 where
 le:=g.le.trans h.le
 os:=h.os.trans g.os
 tape:=h.tape.trans g.tape
 output:=h.output.trans g.output
 size:=pB g.size h.size
 frame k hk ho:=(h.frame k (pF hk g.size) λhc=>(g.own k hc).elim (λhs=>by omega) ho).trans (g.frame k hk ho)
 jO b o u hu:=by
  rcases h.jO b o u hu with h1|h1|h1
  ·exact g.jO b o u h1
  ·exact .inr (.inl (pB g.size h1))
  ·rcases g.own b h1 with h2|h2
   ·exact .inr (.inl h2)
   ·exact .inr (.inr h2)
 own b hb:=by
  rcases h.own b hb with h1|h1
  ·exact .inl (pB g.size h1)
  ·exact g.own b h1
def qH.back{w:World}{E E':Env}{H H':zl}(hg:mK w E H)(hn:E.n=H.length)(hle:E.le E')(hk:jI H H'){id b:Nat}(h:qH E' H' id b):qH E H id b:=by
 obtain⟨ob,cap,h1,h2,h3,h4⟩:=h;have h1':=(hk id ob h2).1 h1;obtain⟨a,cap',e1,_⟩:=hg.val id ob h1' h2;have e2:=hle.G id ob.rows.length _ (by rw[hn];exact(dY.1 h1').1) e1;rw[h3]at e2;cases e2
 exact⟨ob,cap,h1',h2,e1,h4⟩
def jE.back{H H':zl}(hk:jI H H'){id b:Nat}(h:jE H' id b):jE H id b:=by
 obtain⟨ob,r,t,h1,h2,h3⟩:=h;exact⟨ob,r,t,(hk id ob h2).1 h1,h2,h3⟩
def mK.step{w w':World}{E E':Env}{H H':zl}(h:qu w E H)(g:qA w E H w' E' H')(hk:jI H H'):mK w' E' H' where
 val id ob hob hkd:=by
  have hob':=(hk id ob hkd).1 hob;obtain⟨a,cap,e1,e2⟩:=h.eX.val id ob hob' hkd;exact⟨a,cap,g.le.G id ob.rows.length _ (by rw[h.n];exact(dY.1 hob').1) e1,e2⟩
 fj id b ob ho hob:=by
  have ho':=ho.back h.eX h.n g.le hk;obtain⟨ob2,_,e1,e2,_⟩:=ho;rw[hob]at e1;cases e1
  have hob':=(hk id ob e2).1 hob;obtain⟨cur,cap,e3,e4,e5⟩:=h.eX.fj id b ob ho' hob';refine⟨cur,cap,g.le.G id ob.rows.length _ (by rw[h.n];exact(dY.1 hob').1) e3,?_,e5⟩;rw[g.frame b (gL.1 e4).1 (h.eX.sep id b ho')];exact e4
 sep id b ho:=by
  have ho':=ho.back h.eX h.n g.le hk;intro hc;rcases g.own b hc with h1|h1
  ·obtain⟨ob,_,e1,_⟩:=ho';obtain⟨cur,cap,e3,e4,e5⟩:=h.eX.fj id b ob (ho.back h.eX h.n g.le hk) e1;have:=(gL.1 e4).1;omega
  ·exact h.eX.sep id b ho' h1
 inj id id' b h1 h2:=h.eX.inj id id' b (h1.back h.eX h.n g.le hk) (h2.back h.eX h.n g.le hk)
 st id b ob o u ho hob hu:=by
  have ho':=ho.back h.eX h.n g.le hk;obtain⟨ob2,_,e1,e2,_⟩:=ho;rw[hob]at e1;cases e1
  have hob':=(hk id ob e2).1 hob;rcases g.jO b o u hu with h1|h1|h1
  ·exact h.eX.st id b ob o u ho' hob' h1
  ·obtain⟨cur,cap,e3,e4,e5⟩:=h.eX.fj id b ob ho' hob';have:=(gL.1 e4).1;omega
  ·exact absurd h1 (h.eX.sep id b ho')
 top id ob k u hob hkd hu:=by
  have hob':=(hk id ob hkd).1 hob;rw[g.Et id k (by rw[h.n];exact(dY.1 hob').1)]at hu;exact h.eX.top id ob k u hob' hkd hu
 iw id ob r t hob hkd hr:=by
  obtain⟨⟨h1,hf⟩,hl⟩:=h.eX.iw id ob r t ((hk id ob hkd).1 hob) hkd hr;refine⟨⟨?_,hf⟩,hl.mono g.le⟩;rw[g.frame ob.ty (gL.1 h1).1 λhc=>by obtain⟨cur,e,h2⟩:=h.base.Eb hc;rw[h1]at h2;cases h2;cases hf];exact h1
 iO id id' b h1 h2:=h.eX.iO id id' b (h1.back hk) (h2.back hk)
def qA.up{w w':World}{E E':Env}{H H':zl}(h:qu w E H)(g:qA w E H w' E' H')(hk:jI H H'):Grow w E H w' E' H' where
 le:=g.le
 os:=g.os
 tape:=g.tape
 output:=g.output
 size:=g.size
 frame k h1 h2:=g.frame k h1 λhc=>h2 (.inl hc)
 jO b o u hu:=(g.jO b o u hu).imp_right λh=>h.imp_right .inl
 own b hb:=by
  rcases hb with hb|⟨id,hb|hb⟩
  ·exact(g.own b hb).imp_right .inl
  ·exact .inr (.inr ⟨id,.inl (hb.back h.eX h.n g.le hk)⟩)
  ·exact .inr (.inr ⟨id,.inr (hb.back hk)⟩)
abbrev BO(D:Nat):Deferred:={target:=.collected D,args:= #[]}
def Marks(m:Nat)(w:World):List Deferred->Prop
 |[]=>m<=w.heap.size
 |d::ds=>(∃D,d=BO D/\m<=D/\w.heap[D]?=some (.deferred (some []))/\BO D∉ds)/\Marks m w ds
def Marks.mono{m:Nat}{w w':World}(hsz:w.heap.size<=w'.heap.size):∀{ds:List Deferred},Marks m w ds->(∀D,BO D∈ds->w.heap[D]?=some (.deferred (some []))->w'.heap[D]?=w.heap[D]?)->Marks m w' ds
 |[],h,_=>pB h hsz
 |d::ds,⟨⟨D,h1,h2,h3,h4⟩,ht⟩,hk=>⟨⟨D,h1,h2,(hk D (by rw[h1];exact pW ..) h3).trans h3,h4⟩,Marks.mono hsz ht λD' hm hd=>hk D' (pT _ hm) hd⟩
def Marks.le{m:Nat}{w:World}:∀{ds:List Deferred},Marks m w ds->m<=w.heap.size
 |[],h=>h
 |_::_,⟨_,h⟩=>Marks.le h
def qu.free{w:World}{E:Env}{H:zl}{D:Nat}{ds:Option (List Deferred)}(h:qu w E H)(hd:w.heap[D]?=some (.deferred ds)):¬xj E H D:=by
 rintro(ho|⟨id,⟨ob,cap,hob,h4,hG,hne⟩|⟨ob,r,t,hob,h4,hr,rfl⟩⟩)
 ·obtain⟨cur,e,h1⟩:=h.base.Eb ho;rw[hd]at h1;cases h1
 ·obtain⟨cur,cap',_,h1,_⟩:=h.eX.fj id D ob ⟨ob,cap,hob,h4,hG,hne⟩ hob;rw[hd]at h1;cases h1
 ·obtain⟨h1,hf⟩:=(h.eX.iw id ob r t hob h4 hr).1;rw[hd]at h1;cases h1
  cases hf
def Marks.grow{m:Nat}{w w':World}{E E':Env}{H H':zl}{ds:List Deferred}(h:Marks m w ds)(hh:qu w E H)(g:Grow w E H w' E' H'):Marks m w' ds:=
 Marks.mono g.size h λD _ hD=>g.frame D (gL.1 hD).1 (hh.free hD)
def qu.cells{w w':World}{E:Env}{H:zl}(hk:∀(k:Nat) (o:Obj),w.heap[k]?=some o->(∀ds,o≠.deferred ds)->w'.heap[k]?=w.heap[k]?)(h:qu w E H):qu w' E H where
 base:={
  n:=h.base.n
  fj:=λid ob hops sz rows e1 e2=>
   let b:=h.base.fj id ob hops sz rows e1 e2
   ⟨b.len,b.row,let ⟨cur,e,h1,h2⟩:=b.fj;⟨cur,e,(hk _ _ h1 (by simp)).trans h1,h2⟩⟩
  inj:=h.base.inj
  qs:=λb o u hu=>by
   obtain⟨h1,h2⟩:=h.base.qs b o u hu;refine⟨?_,h2⟩;unfold World.cell? at h1 ⊢;split at h1
   ·rename_i c t z hc;rw[hk _ _ hc (by simp),hc];exact h1
   ·cases h1
  sep:=h.base.sep
  ty:=λid ob e1 e2=>let ⟨cur,h1⟩:=h.base.ty id ob e1 e2;⟨cur,(hk _ _ h1 (by simp)).trans h1⟩
  fz:=h.base.fz}
 eX:={
  val:=h.eX.val
  fj:=λid b ob e1 e2=>let ⟨cur,cap,h1,h2,h3⟩:=h.eX.fj id b ob e1 e2;⟨cur,cap,h1,(hk _ _ h2 (by simp)).trans h2,h3⟩
  sep:=h.eX.sep
  inj:=h.eX.inj
  st:=h.eX.st
  top:=h.eX.top
  iw:=λid ob r t e1 e2 e3=>let h1:=h.eX.iw id ob r t e1 e2 e3;⟨⟨(hk _ _ h1.1.1 (by intro ds e;have:=h1.1.2;rw[e]at this;cases this)).trans h1.1.1,h1.1.2⟩,h1.2⟩
  iO:=h.eX.iO}
structure xR(B m:Nat)(w:World)(E:Env)(s:S)(a:Act):Prop where
 heap:qu w E s.H
 tmps:LL E s.tmps a.tmps.toList
 defers:Marks m w a.defers
 base:B<=s.H.length
structure Env.oz(B:Nat)(E E':Env):Prop where
 β:∀id hops,id<B->E'.β id hops=E.β id hops
 κ:∀id hops,id<B->E'.κ id hops=E.κ id hops
 St:∀b o u,E.St b o=some u->E'.St b o=some u
 G:∀id k u,id<B->E.G id k=some u->E'.G id k=some u
def Env.oz.refl(B:Nat)(E:Env):E.oz B E:=⟨λ_ _ _=>O,λ_ _ _=>O,λ_ _ _ h=>h,λ_ _ _ _ h=>h⟩
def Env.oz.trans{B:Nat}{E E' E'':Env}(h:E.oz B E')(h':E'.oz B E''):E.oz B E'':=
 ⟨λid hops hi=>(h'.β id hops hi).trans (h.β id hops hi),λid hops hi=>(h'.κ id hops hi).trans (h.κ id hops hi),λb o u hu=>h'.St b o u (h.St b o u hu),λid k u hi hu=>h'.G id k u hi (h.G id k u hi hu)⟩
def Env.le.ix{B:Nat}{E E':Env}(h:E.le E')(hB:B<=E.n):E.oz B E':=
 ⟨λid hops hi=>h.β id hops (pF hi hB),λid hops hi=>h.κ id hops (pF hi hB),h.St,λid k u hi=>h.G id k u (pF hi hB)⟩
structure jG(B:Nat)(w:World)(E:Env)(H:zl)(w':World)(E':Env)(H':zl):Prop where
 le:E.oz B E'
 os:w'.os=w.os
 tape:w'.tape=w.tape
 output:w'.output=w.output
 size:w.heap.size<=w'.heap.size
 frame:∀k,k<w.heap.size->¬xj E H k->w'.heap[k]?=w.heap[k]?
 jO:∀b o u,E'.St b o=some u->E.St b o=some u\/w.heap.size<=b\/xj E H b
 own:∀b,xj E' H' b->w.heap.size<=b\/xj E H b
def Grow.ix{B:Nat}{w w':World}{E E':Env}{H H':zl}(g:Grow w E H w' E' H')(hB:B<=E.n):jG B w E H w' E' H':=
 ⟨g.le.ix hB,g.os,g.tape,g.output,g.size,g.frame,g.jO,g.own⟩
def jG.refl(B:Nat)(w:World)(E:Env)(H:zl):jG B w E H w E H:=
 ⟨Env.oz.refl B E,rfl,rfl,rfl,gD _,λ_ _ _=>O,λ_ _ _ h=>.inl h,λ_ h=>.inr h⟩
def jG.trans{B:Nat}{w w1 w2:World}{E E1 E2:Env}{H H1 H2:zl}(g:jG B w E H w1 E1 H1)(h:jG B w1 E1 H1 w2 E2 H2):jG B w E H w2 E2 H2 where
 le:=g.le.trans h.le
 os:=h.os.trans g.os
 tape:=h.tape.trans g.tape
 output:=h.output.trans g.output
 size:=pB g.size h.size
 frame k hk ho:=(h.frame k (pF hk g.size) λhc=>(g.own k hc).elim (λhs=>by omega) ho).trans (g.frame k hk ho)
 jO b o u hu:=by
  rcases h.jO b o u hu with h1|h1|h1
  ·exact g.jO b o u h1
  ·exact .inr (.inl (pB g.size h1))
  ·rcases g.own b h1 with h2|h2
   ·exact .inr (.inl h2)
   ·exact .inr (.inr h2)
 own b hb:=by
  rcases h.own b hb with h1|h1
  ·exact .inl (pB g.size h1)
  ·exact g.own b h1
def fw(q:Option Nat):Fence:={Fence.wide with round:=q}
def xx:Code->Bool
 |.seq a b=>xx a || xx b
 |.cond _ a b=>xx a || xx b
 |.block _ a=>xx a
 |.loop a=>xx a
 |.scope a=>xx a
 |.rangeFunc ..=>true
 |_=>false
def qO(P:Program)(B:Nat)(c:Code)(s:S)(R:Exit->S->Prop):Prop:=
 ∀(q:Option Nat) (m:Nat) (w:World) (E:Env) (a:Act) (Q:Exit->Act->World->Prop),(xx c=true->q=none)->xR B m w E s a->
  (∀ex s' w' E' a',R ex s'->xR B m w' E' s' a'->jG B w E s.H w' E' s'.H->Q ex a' w')->c.wpIn (fw q) 0 P Q a w
abbrev Run(P:Program)(B:Nat)(c:Code)(s:S)(ex:Exit)(s':S):Prop:=qO P B c s λe t=>e=ex/\t=s'
def lQ(P:Program)(B:Nat)(c:Code)(n:Nat)(s:S)(R:Exit->S->Prop):Prop:=
 ∀(q:Option Nat) (m:Nat) (w:World) (E:Env) (a:Act) (Q:Exit->Act->World->Prop),(xx c=true->q=none)->xR B m w E s a->
  (∀ex s' w' E' a',R ex s'->xR B m w' E' s' a'->jG B w E s.H w' E' s'.H->Q ex a' w')->Code.roundsIn (fw q) 0 P c Q n a w
def kS(P:Program)(B:Nat)(ops:Array Oper)(l:List Oper)(s:S)(R:S->Prop):Prop:=
 ∀(q:Option Nat) (m:Nat) (w:World) (E:Env) (a:Act) (Q:Exit->Act->World->Prop),xR B m w E s a->
  (∀s' w' E' a',R s'->xR B m w' E' s' a'->jG B w E s.H w' E' s'.H->Q .normal a' w')->wpListIn (fw q) 0 P ops Q l a w
def Ad(P:Program)(B:Nat)(o:Oper)(s:S)(R:S->Prop):Prop:=
 ∀(q:Option Nat) (m:Nat) (w:World) (E:Env) (a:Act) (K:Act->World->Prop) (Q:Exit->Act->World->Prop),xR B m w E s a->
  (∀s' w' E' a',R s'->xR B m w' E' s' a'->jG B w E s.H w' E' s'.H->K a' w')->o.wpIn (fw q) 0 P a w K Q
def zn(B:Nat)(s s':S):Prop:=
 ∀(m:Nat) (w:World) (E:Env) (a:Act),xR B m w E s a->∃E',xR B m w E' s' a/\jG B w E s.H w E' s'.H
def LB{F:Fence}{k:Nat}{P:Program}{c:Code}{Q:Exit->Act->World->Prop}:∀{n m:Nat},n<=m->∀{a:Act} {w:World},Code.roundsIn F k P c Q n a w->Code.roundsIn F k P c Q m a w
 |0,_,_,_,_,h=>(h:False).elim
 |n+1,0,hm,_,_,_=>absurd hm (Nat.not_succ_le_zero n)
 |n+1,m+1,hm,a,w,h=>by
  rw[roundsIn_succ]at h ⊢;refine wpIn_mono h λe a1 w1 h1=>?_
  cases e with
  |normal=>exact LB (Nat.le_of_succ_le_succ hm) h1
  |_=>exact h1
section scopes
variable {F:Fence} {n:Nat} {P:Program} {b:Frame} {a:Act} {k:List Item} {cs:List Frame} {w:World} {Q:Exit->Act->World->Prop}
def xX{c:Code}:step P (lone (b.atR a (.code (.scope c)::k)) cs w)=.next (lone (b.atR a (.code c:: .inScope c::k)) cs w):=
 step_lone_go (by simp[stepG,stepG.exec,Frame.atR])
def KV{c:Code}:step P (lone (b.atR a (.inScope c::k)) cs w)=.next (lone (b.atR a k) cs w):=
 step_lone_go (by simp[stepG,stepG.exec,Frame.atR])
def QP{c:Code}(h:c.wpIn F n P (Exit.noGoto Q) a w):(Code.scope c).wpIn F n P Q a w:=by
 intro b k cs hro hb hr;have h0:(lone (b.atR a (.code (.scope c)::k)) cs w).fenced P F:=fenced_calm hb hr O;obtain⟨e,a₁,w₁,hq,harr⟩:=h b (.inScope c::k) cs hro hb hr;cases e with
 |normal=>exact⟨.normal,a₁,w₁,hq,.head h0 xX (StepsIn.trans harr (.one (fenced_calm hb hr O) KV))⟩
 |exit id=>
  have hx:exitTo id (.inScope c::k)=exitTo id k:=by simp[exitTo]
  exact⟨.exit id,a₁,w₁,hq,λk' hk=>.head h0 xX (harr.1 k' (by rw[hx];exact hk)),
   λhr' hk=>let ⟨k₁,h1,h2⟩:=harr.2 hr' (by rw[hx];exact hk);⟨k₁,h1,.head h0 xX h2⟩⟩
 |goto l=>exact hq.elim
 |ret=>exact⟨_,a₁,w₁,hq,.of_steps (.one h0 xX) harr⟩
 |panic ch=>exact⟨_,a₁,w₁,hq,.of_steps (.one h0 xX) harr⟩
 |outgrown=>exact⟨_,a₁,w₁,hq,.of_steps (.one h0 xX) harr⟩
inductive DZ(F:Fence)(n:Nat)(P:Program)(c:Code)(Q:Exit->Act->World->Prop):Nat->Act->World->Prop
 |mk {l:Nat} {a:Act} {w:World} {rest:Code} (Q':Exit->Act->World->Prop):findLabel c l=some rest->rest.wpIn F n P Q' a w->(∀e a w,Q' e a w->(∀l,e≠.goto l)->Q e a w)->
   (∀l a w,Q' (.goto l) a w->DZ F n P c Q l a w)->DZ F n P c Q l a w
def KT{c:Code}{m:Machine}{e:Exit}(hb:F.fn b.fn)(hr:F.room (cs.length+1+n))(he:∀l,e≠.goto l)(h:ArrivesIn (Machine.fenced P F) P m b (.inScope c::k) cs e a w):ArrivesIn (Machine.fenced P F) P m b k cs e a w:=by
 cases e with
 |normal=>exact StepsIn.trans h (.one (fenced_calm hb hr O) KV)
 |exit id=>
  have hx:exitTo id (.inScope c::k)=exitTo id k:=by simp[exitTo]
  exact⟨λk' hk=>h.1 k' (by rw[hx];exact hk),λhr' hk=>h.2 hr' (by rw[hx];exact hk)⟩
 |goto l=>exact absurd O (he l)
 |ret=>exact h
 |panic ch=>exact h
 |outgrown=>exact h
def QW{c:Code}{Q':Exit->Act->World->Prop}(h:c.wpIn F n P Q' a w)(hQ:∀e a w,Q' e a w->(∀l,e≠.goto l)->Q e a w)(hJ:∀l a w,Q' (.goto l) a w->DZ F n P c Q l a w):(Code.scope c).wpIn F n P Q a w:=by
 intro b k cs hro hb hr;have h0:(lone (b.atR a (.code (.scope c)::k)) cs w).fenced P F:=fenced_calm hb hr O
 have key:∀l a w,DZ F n P c Q l a w->∀rest,findLabel c l=some rest->∃e a' w',Q e a' w'/\ArrivesIn (Machine.fenced P F) P (lone (b.atR a (.code rest:: .inScope c::k)) cs w) b k cs e a' w':=by
  intro l a w hj
  induction hj with
  |mk Q1 hf h1 h2 h3 ih=>
   intro rest hf';rw[hf]at hf';cases hf'
   obtain⟨e,a₁,w₁,hq,harr⟩:=h1 b (.inScope c::k) cs hro hb hr;by_cases he:∀l,e≠.goto l
   ·exact⟨e,a₁,w₁,h2 _ _ _ hq he,KT hb hr he harr⟩
   ·obtain⟨l',rfl⟩:∃l',e=.goto l':=by
     cases e with
     |goto l'=>exact⟨l',rfl⟩
     |_=>exact absurd (by simp) he
    have hj:=h3 _ _ _ hq;cases hj with
    |mk Q2 hf2 _ _ _=>
     obtain⟨e₂,a₂,w₂,hq₂,harr₂⟩:=ih _ _ _ hq _ hf2;exact⟨e₂,a₂,w₂,hq₂,.of_steps (harr.1 _ (by simp[gotoIn,hf2])) harr₂⟩
 obtain⟨e,a₁,w₁,hq,harr⟩:=h b (.inScope c::k) cs hro hb hr;by_cases he:∀l,e≠.goto l
 ·exact⟨e,a₁,w₁,hQ _ _ _ hq he,.of_steps (.one h0 xX) (KT hb hr he harr)⟩
 ·obtain⟨l',rfl⟩:∃l',e=.goto l':=by
   cases e with
   |goto l'=>exact⟨l',rfl⟩
   |_=>exact absurd (by simp) he
  have hj:=hJ _ _ _ hq;have hj':=hj;cases hj' with
  |mk Q2 hf2 _ _ _=>
   obtain⟨e₂,a₂,w₂,hq₂,harr₂⟩:=key _ _ _ hj _ hf2;exact⟨e₂,a₂,w₂,hq₂,.of_steps (.head h0 xX (harr.1 _ (by simp[gotoIn,hf2]))) harr₂⟩
end scopes
section
variable {P:Program} {B:Nat} {s s1 s2 s':S} {ex:Exit}
def zn.refl(s:S):zn B s s:=λm w E a h=>⟨E,h,jG.refl B w E s.H⟩
def zn.trans(h:zn B s s1)(h':zn B s1 s2):zn B s s2:=λm w E a hs=>by
 obtain⟨E1,h1,g1⟩:=h m w E a hs;obtain⟨E2,h2,g2⟩:=h' m w E1 a h1;exact⟨E2,h2,g1.trans g2⟩
variable {R R':Exit->S->Prop}
def qO.pre{c:Code}(hw:zn B s s1)(h:qO P B c s1 R):qO P B c s R:=λq m w E a Q hr hs hq=>by
 obtain⟨E1,h1,g1⟩:=hw m w E a hs;exact h q m w E1 a Q hr h1 λex s' w' E' a' hR h2 g2=>hq ex s' w' E' a' hR h2 (g1.trans g2)
def qO.post{c:Code}(h:qO P B c s R')(hw:∀ex s1,R' ex s1->∃s2,zn B s1 s2/\R ex s2):qO P B c s R:=λq m w E a Q hr hs hq=>
 h q m w E a Q hr hs λex s1 w' E' a' hR h1 g1=>by
  obtain⟨s2,hw2,hR2⟩:=hw ex s1 hR;obtain⟨E2,h2,g2⟩:=hw2 m w' E' a' h1;exact hq ex s2 w' E2 a' hR2 h2 (g1.trans g2)
def qO.mono{c:Code}(h:qO P B c s R')(hw:∀ex s1,R' ex s1->R ex s1):qO P B c s R:=h.post λex s1 hR=>⟨s1,.refl s1,hw ex s1 hR⟩
def lQ.pre{c:Code}{n:Nat}(hw:zn B s s1)(h:lQ P B c n s1 R):lQ P B c n s R:=λq m w E a Q hr hs hq=>by
 obtain⟨E1,h1,g1⟩:=hw m w E a hs;exact h q m w E1 a Q hr h1 λex s' w' E' a' hR h2 g2=>hq ex s' w' E' a' hR h2 (g1.trans g2)
def qO.skip(h:R .normal s):qO P B .skip s R:=λq m w E a Q hr hs hq=>wpIn_skip (hq _ _ w E a h hs (jG.refl B w E s.H))
def qO.exit(id:Nat)(h:R (.exit id) s):qO P B (.exit id) s R:=λq m w E a Q hr hs hq=>wpIn_exit (hq _ _ w E a h hs (jG.refl B w E s.H))
def qO.label(l:Nat)(h:R .normal s):qO P B (.label l) s R:=λq m w E a Q hr hs hq=>wpIn_label (hq _ _ w E a h hs (jG.refl B w E s.H))
def qO.ret(h:R .ret s):qO P B .ret s R:=λq m w E a Q hr hs hq=>wpIn_ret (hq _ _ w E a h hs (jG.refl B w E s.H))
def P1(next:S->Prop)(R:Exit->S->Prop):Exit->S->Prop
 |.normal,s=>next s
 |ex,s=>R ex s
def qO.seq{x y:Code}(h:qO P B x s (P1 (λs1=>qO P B y s1 R) R)):qO P B (.seq x y) s R:=λq m w E a Q hr hs hq=>
 wpIn_seq (h q m w E a _ (λe=>hr (by simp[xx,e])) hs λex s1 w1 E1 a1 hR h1 g1=>by
  cases ex with
  |normal=>exact(hR:qO P B y s1 R) q m w1 E1 a1 Q (λe=>hr (by simp[xx,e])) h1 λex s2 w2 E2 a2 hR2 h2 g2=>hq ex s2 w2 E2 a2 hR2 h2 (g1.trans g2)
  |_=>exact hq _ s1 w1 E1 a1 hR h1 g1)
def OX(id:Nat)(R:Exit->S->Prop):Exit->S->Prop
 |.exit id',s=>if id'=id then R .normal s else R (.exit id') s
 |ex,s=>R ex s
def qO.block{id:Nat}{c:Code}(h:qO P B c s (OX id R)):qO P B (.block id c) s R:=λq m w E a Q hr hs hq=>
 wpIn_block (h q m w E a _ hr hs λex s1 w1 E1 a1 hR h1 g1=>by
  cases ex with
  |exit id'=>
   simp only[Exit.inBlock,OX] at *;split
   ·rename_i hi;rw[gk hi]at hR;exact hq _ s1 w1 E1 a1 hR h1 g1
   ·rename_i hi;rw[gf hi]at hR;exact hq _ s1 w1 E1 a1 hR h1 g1
  |_=>exact hq _ s1 w1 E1 a1 hR h1 g1)
def zxS(R:Exit->S->Prop):Exit->S->Prop
 |.goto _,_=>False
 |ex,s=>R ex s
def qO.scope{c:Code}(h:qO P B c s (zxS R)):qO P B (.scope c) s R:=λq m w E a Q hr hs hq=>
 QP (h q m w E a _ hr hs λex s1 w1 E1 a1 hR h1 g1=>by
  cases ex with
  |goto l=>exact(hR:False).elim
  |_=>exact hq _ s1 w1 E1 a1 hR h1 g1)
def qO.goto(l:Nat)(h:R (.goto l) s):qO P B (.goto l) s R:=λq m w E a Q hr hs hq=>wpIn_goto (hq _ _ w E a h hs (jG.refl B w E s.H))
def Q4:∀{c:Code} {l:Nat} {rest:Code},findLabel c l=some rest->xx rest=true->xx c=true:=by
 intro c
 induction c with
 |seq x y ihx ihy=>
  intro l rest h hr;simp only[findLabel]at h;split at h
  ·rename_i r hx;cases h
   simp only[xx,p8]at hr ⊢;exact hr.imp (ihx hx) id
  ·simp only[xx,p8];exact .inr (ihy h hr)
 |label l'=>
  intro l rest h hr;simp only[findLabel]at h;split at h
  ·cases h;cases hr
  ·cases h
 |_=>intro l rest h;simp[findLabel]at h
inductive B3(P:Program)(B:Nat)(c:Code)(R:Exit->S->Prop):Nat->S->Prop
 |mk {l:Nat} {s:S} {rest:Code} (R':Exit->S->Prop):findLabel c l=some rest->qO P B rest s R'->(∀e s,R' e s->(∀l,e≠.goto l)->R e s)->(∀l s,R' (.goto l) s->B3 P B c R l s)->B3 P B c R l s
def B3.zzb{c:Code}{l:Nat}(h:B3 P B c R l s):∀(q:Option Nat) (m:Nat) (w:World) (E:Env) (a:Act) (Q:Exit->Act->World->Prop),(xx c=true->q=none)->xR B m w E s a->
  (∀ex s' w' E' a',R ex s'->xR B m w' E' s' a'->jG B w E s.H w' E' s'.H->Q ex a' w')->DZ (fw q) 0 P c Q l a w:=by
 induction h with
 | @mk l s rest R1 hf h1 h2 h3 ih=>
  intro q m w E a Q hr hs hq
  refine .mk (λe a' w'=>∃s' E',R1 e s'/\xR B m w' E' s' a'/\jG B w E s.H w' E' s'.H) hf (h1 q m w E a _ (λe=>hr (Q4 hf e)) hs λex s' w' E' a' hR h g=>⟨s',E',hR,h,g⟩)
   (λe a' w' ⟨s',E',hR,h,g⟩ he=>hq _ _ _ _ _ (h2 _ _ hR he) h g) (λl' a' w' ⟨s',E',hR,h,g⟩=>?_)
  exact ih _ _ hR q m w' E' a' Q hr h λex s2 w2 E2 a2 hR2 hs2 g2=>hq ex s2 w2 E2 a2 hR2 hs2 (g.trans g2)
def PE(P:Program)(B:Nat)(c:Code)(R:Exit->S->Prop):Exit->S->Prop
 |.goto l,s=>B3 P B c R l s
 |ex,s=>R ex s
def qO.zxQ{c:Code}(h:qO P B c s (PE P B c R)):qO P B (.scope c) s R:=λq m w E a Q hr hs hq=>
 QW (Q':=λe a' w'=>∃s' E',PE P B c R e s'/\xR B m w' E' s' a'/\jG B w E s.H w' E' s'.H) (h q m w E a _ hr hs λex s' w' E' a' hR h g=>⟨s',E',hR,h,g⟩)
  (λe a' w' ⟨s',E',hR,h,g⟩ he=>by
   cases e with
   |goto l=>exact absurd O (he l)
   |_=>exact hq _ _ _ _ _ hR h g)
  (λl a' w' ⟨s',E',hR,h,g⟩=>B3.zzb hR q m w' E' a' Q hr h λex s2 w2 E2 a2 hR2 hs2 g2=>hq ex s2 w2 E2 a2 hR2 hs2 (g.trans g2))
def lQ.step{c:Code}{n:Nat}(h:qO P B c s (P1 (λs1=>lQ P B c n s1 R) R)):lQ P B c (n+1) s R:=λq m w E a Q hr hs hq=>by
 rw[roundsIn_succ]
 exact h q m w E a _ hr hs λex s1 w1 E1 a1 hR h1 g1=>by
  cases ex with
  |normal=>exact(hR:lQ P B c n s1 R) q m w1 E1 a1 Q hr h1 λex s2 w2 E2 a2 hR2 h2 g2=>hq ex s2 w2 E2 a2 hR2 h2 (g1.trans g2)
  |_=>exact hq _ s1 w1 E1 a1 hR h1 g1
def lQ.more{c:Code}{n m:Nat}(hm:n<=m){s:S}(h:lQ P B c n s R):lQ P B c m s R:=λq k w E a Q hr hs hq=>LB hm (h q k w E a Q hr hs hq)
def qa(P:Program)(B:Nat)(c:Code)(s:S)(R:Exit->S->Prop):Prop:=∃n,lQ P B c n s R
def qa.pre{c:Code}(hw:zn B s s1)(h:qa P B c s1 R):qa P B c s R:=let ⟨n,hn⟩:=h;⟨n,.pre hw hn⟩
def qO.loop{c:Code}(h:qa P B c s R):qO P B (.loop c) s R:=λq m w E a Q hr hs hq=>let ⟨n,hn⟩:=h;wpIn_loop_rounds n (hn q m w E a Q hr hs hq)
def fC:Value->C
 |.slice none 0 0=>.eS 1 0 []
 |.func (.func f) first caps=>if first.size=0/\caps.size=0 then .fn f [] [] else .za
 |.tuple vs=>if vs.size=0 then .un else .za
 |.agg _=>.za
 |x=>.v x
def PJ(E:Env)(x:Value):L E (fC x) x:=by
 unfold fC;split
 ·exact .xq _ _ (.inr O)
 ·rename_i f first caps;split
  ·rename_i h;obtain⟨h1,h2⟩:=h;obtain rfl:first= #[]:=rF h1;obtain rfl:caps= #[]:=rF h2;exact .fn f [] [] #[] #[] O O (by simp) (by simp)
  ·exact .za _
 ·rename_i vs;split
  ·rename_i h;obtain rfl:vs= #[]:=rF h;exact .un
  ·exact .za _
 ·exact .za _
 ·rename_i h1 h2;refine .v _ ?_;cases x <;> simp_all[Value.oneCell']
def ev(tmps:List C):Operand->C
 |.tmp t=>(tmps[t]?).getD .za
 |.const v=>fC v
 |.global g=>.v (.pointer (some ⟨g,0,none⟩))
 |.func f=>.fn f [] []
def EL{E:Env}{tmps:List C}{a:Act}(h:LL E tmps a.tmps.toList)(x:Operand):L E (ev tmps x) (a.eval x):=by
 cases x with
 |tmp t=>
  simp only[ev,Act.eval];cases ht:tmps[t]? with
  |none=>exact .za _
  |some c=>
   obtain⟨y,hy,hl⟩:=h.get ht
   have:a.tmps.getD t undef=y:=by
    rw[pa]at hy;rw[pG,hy];rfl
   rw[this];exact hl
 |const v=>exact PJ E v
 |global g=>exact .v _ O
 |func f=>exact .fn f [] [] #[] #[] O O (by simp) (by simp)
def CV(ops:Array Oper)(tmps:List C)(j:Nat):Option (Option Bool):=
 match (ops[j]?).bind (·.dst) with
 |none=>some none
 |some d=>match tmps[d]? with
  |none=>some none
  |some (.v (.bool b))=>some (some b)
  |some .un=>some none
  |_=>none
def MW{E:Env}{ops:Array Oper}{tmps:List C}{a:Act}(h:LL E tmps a.tmps.toList){j:Nat}{r:Option Bool}(hr:CV ops tmps j=some r):yielded ops a.tmps j=r:=by
 unfold CV at hr;unfold yielded;cases hd:(ops[j]?).bind (·.dst) with
 |none=>simp only[hd]at hr;cases hr;rfl
 |some d=>
  simp only[hd,gX]at hr ⊢;cases ht:tmps[d]? with
  |none=>
   simp only[ht]at hr;cases hr
   have hn:a.tmps[d]?=none:=by
    rw[Array.getElem?_eq_none_iff];have:=rh.1 ht;have h1:=h.1;simp at h1;omega
   rw[hn]
  |some c=>
   simp only[ht]at hr;obtain⟨y,hy,hl⟩:=h.get ht;rw[pa]at hy;rw[hy];split at hr
   ·rename_i e;cases e
   ·rename_i e;cases e;cases hr;cases hl;rfl
   ·rename_i e;cases e;cases hr;cases hl;rfl
   ·cases hr
def jK(ops:Array Oper)(tmps:List C)(o:Oper):Option Bool:=
 match o.guard with
 |none=>some true
 |some (j,want)=>match CV ops tmps j with
  |some (some b)=>some (b == want)
  |some none=>some false
  |none=>none
def jU{E:Env}{ops:Array Oper}{tmps:List C}{a:Act}(h:LL E tmps a.tmps.toList){o:Oper}{b:Bool}(hb:jK ops tmps o=some b):
  Region.wanted o (yielded ops a.tmps)=b:=by
 unfold jK at hb;unfold Region.wanted;split at hb
 ·rename_i hg;simp only[hg];cases hb;rfl
 ·rename_i j want hg;simp only[hg];split at hb
  ·rename_i x hx;rw[MW h hx];cases hb;cases x <;> cases want <;> rfl
  ·rename_i hx;rw[MW h hx];cases hb;rfl
  ·cases hb
def put(tmps:List C)(dst:Option Tmp)(c:C):List C:=
 match dst with
 |some d=>tmps.set d c
 |none=>tmps
def Ga{E:Env}{tmps:List C}{a:Act}(h:LL E tmps a.tmps.toList){c:C}{y:Value}(hl:L E c y)(dst:Option Tmp):LL E (put tmps dst c) (a.put dst y).tmps.toList:=by
 cases dst with
 |none=>exact h
 |some d=>simpa [put,Act.put] using h.set hl d
def xR.put{m:Nat}{w:World}{E:Env}{s:S}{a:Act}(h:xR B m w E s a){c:C}{y:Value}(hl:L E c y)(dst:Option Tmp):
  xR B m w E ⟨Ab.put s.tmps dst c,s.H⟩ (a.put dst y):=
 ⟨h.heap,Ga h.tmps hl dst,by cases dst <;> exact h.defers,h.base⟩
def kS.nil{ops:Array Oper}{R:S->Prop}(h:R s):kS P B ops [] s R:=λq m w E a Q hs hq=>wpListIn_nil (hq s w E a h hs (jG.refl B w E s.H))
def kS.run{ops:Array Oper}{o:Oper}{l:List Oper}{R1 R:S->Prop}(hw:jK ops s.tmps o=some true)(h:Ad P B o s R1)(h':∀s1,R1 s1->kS P B ops l s1 R):kS P B ops (o::l) s R:=λq m w E a Q hs hq=>by
 unfold wpListIn;rw[gk (jU hs.tmps hw)];exact h q m w E a _ Q hs λs1 w1 E1 a1 hR h1 g1=>h' s1 hR q m w1 E1 a1 Q h1 λs2 w2 E2 a2 hR2 h2 g2=>hq s2 w2 E2 a2 hR2 h2 (g1.trans g2)
def kS.pass{ops:Array Oper}{o:Oper}{l:List Oper}{R:S->Prop}(hw:jK ops s.tmps o=some false)(h':kS P B ops l ⟨put s.tmps o.dst .un,s.H⟩ R):kS P B ops (o::l) s R:=λq m w E a Q hs hq=>by
 unfold wpListIn;rw[gf (by rw[jU hs.tmps hw];decide)];exact⟨λ_ _=>trivial,h' q m w E _ Q (hs.put (.un) o.dst) hq⟩
def qO.region{id:Nat}{ops:Array Oper}{R:Exit->S->Prop}(h:kS P B ops ops.toList s (R .normal)):qO P B (.region id ops false) s R:=λq m w E a Q hs0 hs hq=>
 wpIn_region_list (h q m w E a Q hs λs' w' E' a' hR h1 g1=>hq _ s' w' E' a' hR h1 g1)
def qO.cond{c:Operand}{x y:Code}{b:Bool}{R:Exit->S->Prop}(hc:ev s.tmps c=.v (.bool b))(h:qO P B (if b then x else y) s R):qO P B (.cond c x y) s R:=λq m w E a Q hr hs hq=>by
 have:=EL hs.tmps c;rw[hc]at this;have hb:a.eval c=.bool b:=by generalize a.eval c=z at *;cases this;rfl
 exact wpIn_cond hb (h q m w E a Q (λe=>hr (by cases b <;> simp_all[xx])) hs hq)
end
def nn(P:Program)(K:Value->World->Prop):Result Next->Prop
 |.ok (.value v) w=>K v w
 |.ok .skip w=>K undef w
 |.ok (.enter f args) w=>Calls P f args w λe w'=>∃v,e=.returned v/\K v w'
 |.ok (.round l f tmps assign body) w=>RoundIn (fw none) 0 P l f tmps assign body w λe w'=>∃v,e=.returned v/\K v w'
 |_=>False
def fg(P:Program)(o:Oper)(ρ:Operand->C)(H:zl)(c:C)(H':zl):Prop:=
 ∀(w:World) (E:Env) (σ:Operand->Value),qu w E H->(∀x∈o.op.operands,L E (ρ x) (σ x))->
  ∀K:Value->World->Prop,(∀v w' E',qu w' E' H'->L E' c v->Grow w E H w' E' H'->K v w')->nn P K ((execOp σ o).run P w)
def qJ(P:Program)(o:Oper)(ρ:Operand->C)(H:zl)(c:C)(H':zl):Prop:=
 ∀(w:World) (E:Env) (σ:Operand->Value),qd w E H->(∀x∈o.op.operands,L E (ρ x) (σ x))->
  ∀K:Value->World->Prop,(∀v w' E',qd w' E' H'->L E' c v->qA w E H w' E' H'->K v w')->nn P K ((execOp σ o).run P w)
def mT(P:Program)(o:Oper)(ρ:Operand->C)(H:zl)(c:C)(H':zl):Prop:=
 ∀(w:World) (E:Env) (σ:Operand->Value),qu w E H->(∀x∈o.op.operands,L E (ρ x) (σ x))->(∀v,σ (.const v)=v)->
  ∀K:Value->World->Prop,(∀v w' E',qu w' E' H'->L E' c v->Grow w E H w' E' H'->K v w')->nn P K ((execOp σ o).run P w)
def jJ(P:Program)(o:Oper)(ρ:Operand->C)(H:zl)(R:C->zl->Prop):Prop:=
 ∀(w:World) (E:Env) (σ:Operand->Value),qu w E H->(∀x∈o.op.operands,L E (ρ x) (σ x))->(∀v,σ (.const v)=v)->
  ∀K:Value->World->Prop,(∀c H' v w' E',R c H'->qu w' E' H'->L E' c v->Grow w E H w' E' H'->K v w')->nn P K ((execOp σ o).run P w)
def mT.lM{P:Program}{o:Oper}{ρ:Operand->C}{H H':zl}{c:C}{R:C->zl->Prop}(h:mT P o ρ H c H')(hR:R c H'):jJ P o ρ H R:=λw E σ hh hl hc K hk=>h w E σ hh hl hc K λv w' E'=>hk c H' v w' E' hR
def fg.lM{P:Program}{o:Oper}{ρ:Operand->C}{H H':zl}{c:C}{R:C->zl->Prop}(h:fg P o ρ H c H')(hR:R c H'):jJ P o ρ H R:=λw E σ hh hl _ K hk=>h w E σ hh hl K λv w' E'=>hk c H' v w' E' hR
def Ad.D6{P:Program}{B:Nat}{o:Oper}{s:S}{R:C->zl->Prop}(h:jJ P o (ev s.tmps) s.H R):Ad P B o s (λs'=>∃c H',R c H'/\s'=⟨put s.tmps o.dst c,H'⟩):=λq m w E a K Q hs hk=>by
 have:=h w E a.eval hs.heap (λx _=>EL hs.tmps x) (λ_=>O) (λv w'=>K (a.put o.dst v) w') λc H' v w' E' hR h1 h2 g=>
  hk _ w' E' _ ⟨c,H',hR,rfl⟩ ⟨h1,Ga (hs.tmps.mono g.le) h2 o.dst,by have:=hs.defers.grow hs.heap g;cases o.dst <;> exact this,by have:=g.le.n;rw[hs.heap.n,h1.n]at this;exact pB hs.base this⟩ (g.ix (by rw[hs.heap.n];exact hs.base))
 have fV:∀d,o.op≠.defer d:=λd hd=>by
  have h2:=this;unfold execOp at h2;simp only[hd,Sem.run_bind]at h2;cases hr:(resolve a.eval d o.type).run P w with
  |ok x w1=>simp[hr,Result.andThen,nn]at h2
  |halt x w1=>simp[hr,Result.andThen,nn]at h2
 unfold Oper.wpIn;refine⟨λ_ _=>trivial,?_⟩;rw[Oper.semAt_eq _ _ _ fV];generalize (execOp a.eval o).run P w=r at this ⊢;unfold nn at this;split at this
 ·exact this
 ·exact this
 ·rw[Oper.uponIn_enter];refine⟨λh=>(by cases h),callsIn_wide.2 (Calls.mono this ?_)⟩;rintro e w' ⟨v,rfl,hv⟩;exact hv
 ·rw[Oper.uponIn_round];refine⟨λh=>(by cases h),RoundIn.mono (F:=fw q) this ?_⟩;rintro e w' ⟨v,rfl,hv⟩;exact hv
 ·exact this.elim
def Ad.F2{P:Program}{B:Nat}{o:Oper}{s:S}{c:C}{H':zl}(h:fg P o (ev s.tmps) s.H c H')(q:Option Nat)(m:Nat)(w:World)(E:Env)(a:Act)(K:Act->World->Prop)(Q:Exit->Act->World->Prop)(hs:xR B m w E s a)
 (hq:∀w' E' a',xR B m w' E' ⟨put s.tmps o.dst c,H'⟩ a'->jG B w E s.H w' E' H'->K a' w'):o.wpIn (fw q) 0 P a w K Q:=
 Ad.D6 (B:=B) (h.lM (R:=λx X=>x=c/\X=H') ⟨rfl,rfl⟩) q m w E a K Q hs λs' w' E' a' ⟨x,X,⟨e1,e2⟩,e3⟩ h1 g1=>by subst e1 e2 e3;exact hq w' E' a' h1 g1
def fg.congr{P:Program}{o:Oper}{ρ ρ':Operand->C}{H H':zl}{c:C}(h:fg P o ρ H c H')(he:∀x∈o.op.operands,ρ' x=ρ x):fg P o ρ' H c H':=
 λw E σ hh hl K hk=>h w E σ hh (λx hx=>he x hx ▸ hl x hx) K hk
def qJ.congr{P:Program}{o:Oper}{ρ ρ':Operand->C}{H H':zl}{c:C}(h:qJ P o ρ H c H')(he:∀x∈o.op.operands,ρ' x=ρ x):qJ P o ρ' H c H':=
 λw E σ hh hl K hk=>h w E σ hh (λx hx=>he x hx ▸ hl x hx) K hk
def fg.Ct{P:Program}{o:Oper}{ρ:Operand->C}{H H':zl}{c:C}(h:qJ P o ρ H c H')(hk:jI H H'):fg P o ρ H c H':=λw E σ hh hl K hK=>
 h w E σ hh.base hl K λv w' E' h1 h2 g=>hK v w' E' ⟨h1,mK.step hh g hk⟩ h2 (g.up hh hk)
def fg.same{P:Program}{o:Oper}{ρ:Operand->C}{H:zl}{c:C}(h:qJ P o ρ H c H):fg P o ρ H c H:=.Ct h (jI.refl H)
def jI.push(H:zl)(ob:Ob)(hk:ob.kind≠4):jI H (H++[ob]):=λid ob' h4=>by
 by_cases eU:id<H.length
 ·rw[gz eU]
 ·rw[gK (by omega),pV (l:=H) (by omega)];constructor
  ·intro h;cases hd:id-H.length with
   |zero=>rw[hd]at h;cases h;exact absurd h4 hk
   |succ n=>rw[hd]at h;simp at h
  ·intro h;cases h
def jI.modify(H:zl)(id:Nat)(f:Ob->Ob)(hf:∀ob,H[id]?=some ob->ob.kind≠4/\(f ob).kind≠4):jI H (H.modify id f):=λid' ob' h4=>by
 rw[pS];by_cases he:id=id'
 ·subst he;cases hx:H[id]? with
  |none=>simp
  |some ob=>
   obtain⟨h1,h2⟩:=hf ob hx;simp only[rV,gF,if_true];constructor
   ·intro h;cases h;exact absurd h4 h2
   ·intro h;cases h;exact absurd h4 h1
 ·cases hx:H[id']? with
  |none=>simp
  |some ob=>simp[he]
def jI.trans{H H' H'':zl}(h:jI H H')(h':jI H' H''):jI H H'':=λid ob h4=>(h' id ob h4).trans (h id ob h4)
def mq(P:Program){α:Type}:Sem α->Option α
 |.pure a=>some a
 |.program k=>mq P (k P)
 |_=>none
def YP{P:Program}{α:Type}(e:Sem α){a:α}(h:mq P e=some a)(w:World):e.run P w=.ok a w:=by
 induction e with
 |pure a'=>simp only[mq,gS]at h;subst h;rfl
 |program k ih=>simp only[mq]at h;exact ih P h
 |_=>simp[mq]at h
def An:C->Value
 |.v x=>x
 |_=>undef
def ft:C->Bool
 |.v _=>true
 |_=>false
def xK(o:Oper):Bool:=match o.op with|.select ..=>false|_=>true
def qJ.scalar{P:Program}{o:Oper}{ρ:Operand->C}{H:zl}{v:Value}(hs:xK o=true)(hv:o.op.operands.all (λx=>ft (ρ x))=true)
 (hr:mq P (execOp (λx=>An (ρ x)) o)=some (.value v))(h1:v.oneCell'=true):qJ P o ρ H (.v v) H:=λw E σ hh hl K hk=>by
 have he:execOp σ o=execOp (λx=>An (ρ x)) o:=execOp_congr o (λcs b hc=>by simp[xK,hc]at hs) λx hx=>by
  have h1:ft (ρ x)=true:=by
   have:=Array.all_eq_true_iff_forall_mem.1 hv x hx;simpa using this
  have h2:=hl x hx;cases hc:ρ x with
  |v y=>rw[hc]at h2;cases h2;rfl
  |_=>rw[hc]at h1;cases h1
 rw[he,YP _ hr w];exact hk v w E hh (.v v h1) (qA.refl w E H)
def L6{w:World}{o:Obj}{b off:Nat}(h:b<w.heap.size):(w.alloc o).cell? ⟨b,off,none⟩=w.cell? ⟨b,off,none⟩:=
 World.cell?_alloc_lt _ _ _ h
def CR{w:World}{b off:Nat}{u:Value}(h:w.cell? ⟨b,off,none⟩=some u):b<w.heap.size:=World.block_lt_of_cell? w _ h
def Env.push(E:Env)(g κ:Nat):Env:=
 {n:=E.n+1,β:=λid hops=>if id=E.n then g else E.β id hops,κ:=λid hops=>if id=E.n then κ else E.κ id hops,St:=E.St,G:=E.G}
def Env.I5(E:Env)(g κ:Nat):E.le (E.push g κ):=
 ⟨pY _,λid hops h=>by simp[Env.push,sS h],λid hops h=>by simp[Env.push,sS h],λb o u h=>h,λ_ _ _ _ h=>h⟩
def zB:C->Bool
 |.eS 2 _ _=>false
 |_=>true
def qW.loose{E:Env}{kd id:Nat}{hops:List fJ}{i k:Nat}{c:C}{u:Value}(hn:zB c=true):qW E kd id hops i k c u↔L (E.at kd) c u/\u.oneCell'=true:=by
 unfold qW;split
 ·simp[zB]at hn
 ·rfl
def qW.mono{E E':Env}(h:E.le E'){kd id:Nat}(hid:id<E.n){hops:List fJ}{i k:Nat}{c:C}{u:Value}(hc:qW E kd id hops i k c u):qW E' kd id hops i k c u:=by
 unfold qW at *;split at hc
 ·rw[h.β id _ hid,h.κ id _ hid];exact hc
 ·exact⟨hc.1.mono (h.at kd),hc.2⟩
def BV{H:zl}{id:Nat}{hops:List fJ}{x:Nat×List (List C)}(h:z7 H id hops=some x):id<H.length:=by
 unfold z7 at h;split at h
 ·rename_i ob ho;exact(dY.1 ho).1
 ·cases h
def ji{H:zl}{id:Nat}{hops:List fJ}{x:Nat×List (List C)}(h:z7 H id hops=some x):∃ob,H[id]?=some ob/\(ob.kind=1\/ob.kind=2)/\vY ob.sz ob.rows hops=some x:=by
 unfold z7 at h;split at h
 ·rename_i ob ho;split at h
  ·rename_i hk;exact⟨ob,ho,hk,h⟩
  ·cases h
 ·cases h
def qd.lt{w:World}{E:Env}{H:zl}(h:qd w E H){id:Nat}{hops:List fJ}{x:Nat×List (List C)}(hx:z7 H id hops=some x):E.β id hops<w.heap.size:=by
 obtain⟨ob,ho,_,_⟩:=ji hx;obtain⟨cur,e,hg,_⟩:=(h.fj id ob hops x.1 x.2 ho (by simpa using hx)).fj;exact(gL.1 hg).1
def kJ{H:zl}{id:Nat}{hops:List fJ}(h:id<H.length)(X:zl):z7 (H++X) id hops=z7 H id hops:=by
 unfold z7;rw[gz h]
def C8.IN{w:World}{E:Env}{kd id:Nat}{hops:List fJ}{sz:Nat}{rows:List (List C)}(h:C8 w E kd id hops sz rows):E.β id hops<w.heap.size:=by
 obtain⟨cur,e,hg,_⟩:=h.fj;exact(gL.1 hg).1
def C8.step{w w':World}{E E':Env}(hle:E.le E'){kd id:Nat}(hid:id<E.n){hops:List fJ}{sz:Nat}{rows:List (List C)}(h:C8 w E kd id hops sz rows)
 (hh:w'.heap[E.β id hops]?=w.heap[E.β id hops]?):C8 w' E' kd id hops sz rows:=by
 obtain⟨cur,e,hg,hsz,hc⟩:=h.fj;refine⟨by rw[hle.κ id hops hid];exact h.len,h.row,cur,e,by rw[hle.β id hops hid,hh];exact hg,by rw[hle.κ id hops hid];exact hsz,?_⟩;intro i k c hcc;obtain⟨u,hu,ho⟩:=hc i k c hcc;exact⟨u,hu,ho.mono hle hid⟩
def wC{sz:Nat}{rows:List (List C)}(hn:∀i k c,cellAt rows i k=some c->zB c=true){hops:List fJ}{x:Nat×List (List C)}(h:vY sz rows hops=some x):hops=[]/\x=(sz,rows):=by
 cases hops with
 |nil=>simp[vY]at h;exact⟨rfl,h.symm⟩
 |cons hd tl=>
  obtain⟨i,k⟩:=hd;simp only[vY]at h;split at h
  ·rename_i h1;have:=hn _ _ _ h1;simp[zB]at this
  ·cases h
def qd.push{w:World}{E:Env}{H:zl}(h:qd w E H)(kind:Nat)(ty:TypeId)(sz κ:Nat)(rows:List (List C))(cur:Array Value)(hk:kind=1\/kind=2)(hrow:∀r∈rows,r.length=sz)
 (hlen:rows.length<=κ)(hcur:cur.size=κ*sz)(hn:∀i k c,cellAt rows i k=some c->zB c=true)
 (hc:∀i k c,cellAt rows i k=some c->∃u,cur[i*sz+k]?=some u/\L (E.at kind) c u/\u.oneCell'=true):
  qd (w.alloc (.cells cur ty)) (E.push w.heap.size κ) (H++[⟨kind,ty,sz,rows,0⟩])/\qA w E H (w.alloc (.cells cur ty)) (E.push w.heap.size κ) (H++[⟨kind,ty,sz,rows,0⟩]):=by
 have hle:=E.I5 w.heap.size κ
 have get:∀id hops x,z7 (H++[⟨kind,ty,sz,rows,0⟩]) id hops=some x->(id<H.length/\z7 H id hops=some x)\/(id=H.length/\hops=[]/\x=(sz,rows)):=by
  intro id hops x hx;by_cases eU:id<H.length
  ·exact .inl ⟨eU,by rw[kJ eU]at hx;exact hx⟩
  ·have h1:=BV hx;simp at h1;have:id=H.length:=by omega
   subst this;simp only[z7,gK (gD _),rJ,uk]at hx;rw[gk hk]at hx;obtain⟨e1,e2⟩:=wC hn hx;exact .inr ⟨rfl,e1,e2⟩
 have hnew:∀hops,(E.push w.heap.size κ).β H.length hops=w.heap.size:=λhops=>by simp[Env.push,h.n]
 have hold:∀id hops,id<H.length->(E.push w.heap.size κ).β id hops=E.β id hops:=λid hops eU=>hle.β id hops (by rw[h.n];exact eU)
 refine⟨⟨by simp[Env.push,h.n],?_,?_,?_,?_,?_,?_⟩,⟨hle,λ_ _ _=>O,rfl,rfl,rfl,by show _<=(w.heap.push _).size;simp,?_,?_,?_⟩⟩
 ·intro id ob hops sz' rows' hob hx;rcases get id hops _ hx with⟨eU,hx'⟩|⟨rfl,rfl,hx'⟩
  ·rw[gz eU]at hob;have hb:=h.fj id ob hops sz' rows' hob hx';exact hb.step hle (by rw[h.n];exact eU) (heap_alloc_old w _ hb.IN)
  ·cases hx'
   simp at hob;subst hob;refine⟨by simp[Env.push,h.n,hlen],hrow,cur,ty,by rw[hnew];exact heap_alloc_new w _,by simp[Env.push,h.n,hcur],?_⟩;intro i k c hcc;obtain⟨u,hu,hl,ho⟩:=hc i k c hcc;exact⟨u,hu,(qW.loose (hn i k c hcc)).2 ⟨hl.mono (hle.at kind),ho⟩⟩
 ·intro id hops id' hops' x y hx hy he;rcases get id hops _ hx with⟨eU,hx'⟩|⟨rfl,rfl,hx'⟩ <;> rcases get id' hops' _ hy with⟨hlt',hy'⟩|⟨rfl,rfl,hy'⟩
  ·rw[hold id hops eU,hold id' hops' hlt']at he;exact h.inj id hops id' hops' x y hx' hy' he
  ·rw[hold id hops eU,hnew]at he;have:=h.lt hx';omega
  ·rw[hold id' hops' hlt',hnew]at he;have:=h.lt hy';omega
  ·exact⟨rfl,rfl⟩
 ·intro b o u hu;have hs:=h.qs b o u hu;rw[L6 (CR hs.1)];exact hs
 ·intro id hops x o u hx hu;rcases get id hops _ hx with⟨eU,hx'⟩|⟨rfl,rfl,hx'⟩
  ·rw[hold id hops eU]at hu;obtain⟨e1,ob,e2,e3⟩:=h.sep id hops x o u hx' hu;exact⟨e1,ob,by rw[gz eU];exact e2,e3⟩
  ·rw[hnew]at hu;have:=CR (h.qs _ _ _ hu).1;omega
 ·intro id ob hob hkd;by_cases eU:id<H.length
  ·rw[gz eU]at hob;obtain⟨cur',hc'⟩:=h.ty id ob hob hkd;refine⟨cur',?_⟩;rw[hold id [] eU,heap_alloc_old w _ (gL.1 hc').1];exact hc'
  ·have h1:=(dY.1 hob).1;simp at h1;have:id=H.length:=by omega
   subst this;simp at hob;subst hob;exact⟨cur,by rw[hnew];exact heap_alloc_new w _⟩
 ·intro id ob hob;by_cases eU:id<H.length
  ·rw[gz eU]at hob;exact h.fz id ob hob
  ·have h1:=(dY.1 hob).1;simp at h1;have:id=H.length:=by omega
   subst this;simp at hob;subst hob;exact gY _
 ·intro k hk' ho;exact heap_alloc_old w _ hk'
 ·intro b o u hu;exact .inl hu
 ·rintro b ⟨id,hops,x,hx,rfl⟩;rcases get id hops _ hx with⟨eU,hx'⟩|⟨rfl,rfl,hx'⟩
  ·exact .inr ⟨id,hops,x,hx',by rw[hold id hops eU]⟩
  ·exact .inl (by rw[hnew];exact gD _)
section
variable {P:Program} {o:Oper} {ρ:Operand->C} {H:zl}
def ju{t:TypeId}{i:TypeInfo}(h:P.info? t=some i)(w:World):(sizeOf t).run P w=.ok i.size w:=by
 simp[sizeOf,typeInfo,h]
def xO{t:TypeId}{i:TypeInfo}{z:Value}(h:P.info? t=some i)(hz:i.zero=some z)(w:World):(zeroValue t).run P w=.ok z w:=by
 simp[zeroValue,typeInfo,h,hz]
def qJ.move(x:Operand)(ho:o.op=.move x\/o.op=.assign x):qJ P o ρ H (ρ x) H:=λw E σ hh hl K hk=>by
 have h1:(execOp σ o).run P w=.ok (.value (σ x)) w:=by
  unfold execOp;rcases ho with ho|ho <;> simp only[ho] <;> rfl
 rw[h1];exact hk _ w E hh (hl x (by rcases ho with ho|ho <;> simp[ho,Op.operands])) (qA.refl w E H)
def qJ.pick(x y z:Operand)(ho:o.op=.pick x y z)(b:Bool)(hb:ρ x=.v (.bool b)):qJ P o ρ H (if b then ρ y else ρ z) H:=λw E σ hh hl K hk=>by
 have h0:=hl x (by simp[ho,Op.operands]);rw[hb]at h0;have hx:σ x=.bool b:=by generalize σ x=u at *;cases h0;rfl
 have h1:(execOp σ o).run P w=.ok (.value (if b then σ y else σ z)) w:=by
  unfold execOp;simp only[ho,hx];cases b <;> rfl
 rw[h1];refine hk _ w E hh ?_ (qA.refl w E H);cases b
 ·exact hl z (by simp[ho,Op.operands])
 ·exact hl y (by simp[ho,Op.operands])
def y7{cs:List C}{i k:Nat}{c:C}:cellAt [cs] i k=some c↔i=0/\cs[k]?=some c:=by
 unfold cellAt;cases i <;> simp
def qd.Oo{w:World}{E:Env}(h:qd w E H)(ty:TypeId)(cs:List C)(ys:Array Value)(hl:LL E cs ys.toList)(hn:cs.all zB=true)(h1:∀y∈ys,y.oneCell'=true):
  qd (w.alloc (.cells ys ty)) (E.push w.heap.size 1) (H++[⟨1,ty,cs.length,[cs],0⟩])/\qA w E H (w.alloc (.cells ys ty)) (E.push w.heap.size 1) (H++[⟨1,ty,cs.length,[cs],0⟩]):=by
 refine h.push 1 ty cs.length 1 [cs] ys (.inl O) (by simp) (by simp) (by have:=hl.1;simp at this;omega) ?_ ?_
 ·intro i k c hc;obtain⟨_,hc⟩:=y7.1 hc;exact gA.1 hn c (gh hc)
 ·intro i k c hc;obtain⟨rfl,hc⟩:=y7.1 hc;obtain⟨y,hy,hly⟩:=hl.get hc;refine⟨y,by simpa using hy,by simpa [Env.at] using hly,h1 y ?_⟩;have:=gh hy;simpa using this
def nV(P:Program)(t:TypeId):Option (List C):=
 match P.info? t with
 |some i=>match i.zero with
  |some z=>if z.cells.toList.all (·.oneCell') && (z.cells.size == i.size) then some (z.cells.toList.map fC) else none
  |none=>none
 |none=>none
def DL{t:TypeId}{cs:List C}(h:nV P t=some cs)(E:Env):∃i z,P.info? t=some i/\i.zero=some z/\LL E cs z.cells.toList/\(∀y∈z.cells,y.oneCell'=true)/\z.cells.size=i.size/\cs.all zB=true/\cs.length=i.size:=by
 unfold nV at h;split at h
 ·rename_i i hi;split at h
  ·rename_i z hz;split at h
   ·rename_i hc;cases h
    simp only[gC,pq,gA]at hc;refine⟨i,z,hi,hz,⟨by simp,?_⟩,λy hy=>hc.1 y (by simpa using hy),hc.2,?_,by simp[hc.2]⟩
    ·intro k c y h1 h2;rw[gj,h2]at h1;cases h1
     exact PJ E y
    ·rw[gA];intro c hcm;obtain⟨y,hy,rfl⟩:=gZ.1 hcm;unfold fC;split <;> (try split) <;> rfl
   ·cases h
  ·cases h
 ·cases h
def Pu{w:World}{E:Env}(h:qd w E H)(g κ sz:Nat):L (E.push g κ) (.ref H.length [] sz 0 0) (.pointer (some ⟨g,0,none⟩)):=by
 have:=L.ref (E:=E.push g κ) H.length [] sz 0 0 (by simp[Env.push,h.n]);have hb:(E.push g κ).β H.length []=g:=by simp[Env.push,h.n]
 rw[hb]at this;simpa using this
def qJ.alloc(t:TypeId)(ho:o.op=.alloc t){cs:List C}(hz:nV P t=some cs):qJ P o ρ H (.ref H.length [] cs.length 0 0) (H++[⟨1,t,cs.length,[cs],0⟩]):=λw E σ hh hl K hk=>by
 obtain⟨i,z,hi,hz,hll,h1,hsz,hn,hlen⟩:=DL hz E
 have hr:(execOp σ o).run P w=.ok (.value (.pointer (some ⟨w.heap.size,0,none⟩))) (w.alloc (.cells z.cells t)):=by
  unfold execOp;simp only[ho,Instr.alloc,Sem.run_bind,xO hi hz,Result.andThen_ok,newVar,newRow]
  rfl
 rw[hr];obtain⟨a,b⟩:=hh.Oo t cs z.cells hll hn h1;exact hk _ _ _ a (Pu hh _ _ _) b
def oI:C->Bool
 |.v _=>true
 |.eS o _ _=>o != 2
 |.jP _|.ref .. |.sl .. |.fn .. |.mp _|.gl .. |.fR .. |.rc _=>true
 |_=>false
def Vy{E:Env}{c:C}{y:Value}(h:L E c y)(hc:oI c=true):y.oneCell'=true:=by
 cases h with
 |v x hx=>exact hx
 |agg=>simp[oI]at hc
 |fb=>simp[oI]at hc
 |un=>simp[oI]at hc
 |za=>simp[oI]at hc
 |gl id sz rows y hn hg h=>cases h <;> rfl
 |_=>rfl
def Vz{c:C}(hc:oI c=true):zB c=true:=by
 unfold oI at hc;unfold zB;split at hc <;> first|rfl|(split <;> simp_all)|cases hc
def mF:C->Bool
 |.agg cs=>cs.all zB
 |c=>oI c
def Hq{E:Env}{c:C}{y:Value}(h:L E c y)(hc:mF c=true):LL E c.cells y.cells.toList/\(∀u∈y.cells,u.oneCell'=true)/\c.cells.all zB=true:=by
 cases c with
 |agg cs=>
  cases h with
  |agg _ ys h1 h2 h3=>exact⟨⟨by simpa [C.cells,Value.cells] using h1,λi c y e1 e2=>h2 i c y e1 (by simpa [Value.cells] using e2)⟩,h3,by simpa [mF,C.cells] using hc⟩
 |za=>simp[mF,oI]at hc
 |un=>simp[mF,oI]at hc
 |fb=>simp[mF,oI]at hc
 |_=>
  have ho:=Vy h (by simpa [mF] using hc);have hcell:y.cells= #[y]:=by cases y <;> first|rfl|(simp[Value.oneCell']at ho)
  refine⟨h.cells (by simp) (by simp),by rw[hcell];simpa using ho,?_⟩;have:=Vz (by simpa [mF] using hc);simpa [C.cells] using this
def qJ.box(t:TypeId)(x:Operand)(ho:o.op=.box t x)(hc:mF (ρ x)=true):qJ P o ρ H (.ref H.length [] (ρ x).cells.length 0 0) (H++[⟨1,t,(ρ x).cells.length,[(ρ x).cells],0⟩]):=λw E σ hh hl K hk=>by
 obtain⟨hll,h1,hn⟩:=Hq (hl x (by simp[ho,Op.operands])) hc
 have hr:(execOp σ o).run P w=.ok (.value (.pointer (some ⟨w.heap.size,0,none⟩))) (w.alloc (.cells (σ x).cells t)):=by
  unfold execOp;simp only[ho,Instr.box,newVar,newRow]
  rfl
 rw[hr];obtain⟨a,b⟩:=hh.Oo t _ _ hll hn h1;exact hk _ _ _ a (Pu hh _ _ _) b
def xC(b off n:Nat):(⟨b,off,none⟩:Addr).add n=⟨b,off+n,none⟩:=by
 unfold Addr.add;split <;> simp_all
def Bm(c:C)(n:Nat):Option C:=
 match c with
 |.ref id hops sz i k=>some (.ref id hops sz i (k+n))
 |.jP cells=>some (.jP (cells.drop n))
 |_=>none
def Nk{E:Env}{c c':C}{y:Value}{n:Nat}(h:L E c y)(hf:Bm c n=some c'):∃a,y=.pointer (some a)/\L E c' (.pointer (some (a.add n))):=by
 cases h with
 |ref id hops sz i k hn=>
  simp only[Bm]at hf;cases hf
  refine⟨_,rfl,?_⟩;rw[xC,r9];exact .ref id hops sz i (k+n) hn
 |jP cells b off us hst hL=>
  simp only[Bm]at hf;cases hf
  refine⟨_,rfl,?_⟩;rw[xC];exact .jP _ b (off+n) (λk=>us (n+k)) (λk c hc=>by rw[pX]at hc;rw[r9];exact hst _ c hc) (λk c hc=>by rw[pX]at hc;exact hL _ c hc)
 |_=>simp[Bm]at hf
def qJ.fieldAddr(t:TypeId)(x:Operand)(f:Nat)(ho:o.op=.fieldAddr t x f){fs:Array Field}{fd:Field}{i:TypeInfo}(ht:P.underlying t=some (.struct fs))(hf:fs[f]?=some fd)
 (hi:P.info? fd.type=some i)(hsz:i.size≠0){c:C}(hc:Bm (ρ x) fd.offset=some c):qJ P o ρ H c H:=λw E σ hh hl K hk=>by
 obtain⟨a,ha,hla⟩:=Nk (hl x (by simp[ho,Op.operands])) hc
 have hr:(execOp σ o).run P w=.ok (.value (.pointer (some (a.add fd.offset)))) w:=by
  unfold execOp;simp[ho,Instr.fieldAt,run_underlying ht,hf,ha,Instr.sureAddr,fieldPlace,ju hi,hsz]
 rw[hr];exact hk _ w E hh hla (qA.refl w E H)
def Bz(c:C)(size n:Nat):Option C:=
 match c with
 |.eS o sz rows=>if (o == 0 || o == 1) && (sz == size) then (rows[n]?).map .jP else none
 |.sl id hops sz lo len _=>if decide (n<len) && (sz == size) then some (.ref id hops sz (lo+n) 0) else none
 |_=>none
def GD:C->Option Nat
 |.eS _ _ rows=>some rows.length
 |.sl _ _ _ _ len _=>some len
 |_=>none
def ZG{E:Env}{c c':C}{y:Value}{size n:Nat}(h:L E c y)(hf:Bz c size n=some c'):
  ∃a len cap,y=.slice (some a) len cap/\n<len/\L E c' (.pointer (some (a.add (n*size)))):=by
 cases h with
 |eS o sz rows b off cap us ho hc hsz hst hL=>
  simp only[Bz]at hf;split at hf
  ·rename_i hcond;simp only[gC,pq]at hcond;obtain⟨_,rfl⟩:=hcond;cases hr:rows[n]? with
   |none=>rw[hr]at hf;cases hf
   |some r=>
    rw[hr]at hf;cases hf
    refine⟨_,_,_,rfl,(dY.1 hr).1,?_⟩;rw[xC];exact .jP r b (off+n*sz) (us n) (λk c hc=>hst n r k c hr hc) (λk c hc=>hL n r k c hr hc)
  ·cases hf
 |xq o sz ho=>
  simp[Bz]at hf
 |sl id hops sz lo len full cap hn hlen hfull hf'=>
  simp only[Bz]at hf;split at hf
  ·rename_i hcond;simp only[gC,pq,gM]at hcond;obtain⟨eU,rfl⟩:=hcond;cases hf
   refine⟨_,_,_,rfl,eU,?_⟩;rw[xC,<-rj];exact .ref id hops sz (lo+n) 0 hn
  ·cases hf
 |_=>simp[Bz]at hf
def qJ.indexAddr(t:TypeId)(x y:Operand)(ho:o.op=.indexAddr t x y){e:TypeId}{i:TypeInfo}(ht:P.underlying t=some (.slice e))(hi:P.info? e=some i)
 {k:IntKind}{n:Int}(hy:ρ y=.v (.int k n))(h0:0<=n){c:C}(hc:Bz (ρ x) i.size n.toNat=some c):qJ P o ρ H c H:=λw E σ hh hl K hk=>by
 obtain⟨a,len,cap,ha,eU,hla⟩:=ZG (hl x (by simp[ho,Op.operands])) hc;have h1:=hl y (by simp[ho,Op.operands]);rw[hy]at h1;have hyv:σ y=.int k n:=by generalize σ y=u at *;cases h1;rfl
 have hn:0<=n/\n<(len:Int):=⟨h0,by omega⟩
 have hr:(execOp σ o).run P w=.ok (.value (.pointer (some (a.add (n.toNat*i.size))))) w:=by
  unfold execOp;simp[ho,Instr.indexAt,asIntOf,hyv,ha,run_underlying ht,hn.1,hn.2,ju hi]
 rw[hr];exact hk _ w E hh hla (qA.refl w E H)
def qJ.XO(t:TypeId)(x y:Operand)(ho:o.op=.indexAddr t x y){len:Nat}{e:TypeId}{i:TypeInfo}(ht:P.underlying t=some (.array len e))(hi:P.info? e=some i)
 {k:IntKind}{n:Int}(hy:ρ y=.v (.int k n))(h0:0<=n)(h1:n<len){c:C}(hc:Bm (ρ x) (n.toNat*i.size)=some c):qJ P o ρ H c H:=λw E σ hh hl K hk=>by
 obtain⟨a,ha,hla⟩:=Nk (hl x (by simp[ho,Op.operands])) hc;have hy1:=hl y (by simp[ho,Op.operands]);rw[hy]at hy1;have hyv:σ y=.int k n:=by generalize σ y=u at *;cases hy1;rfl
 have hr:(execOp σ o).run P w=.ok (.value (.pointer (some (a.add (n.toNat*i.size))))) w:=by
  unfold execOp;simp[ho,Instr.indexAt,asIntOf,hyv,ha,run_underlying ht,h0,h1,ju hi,Instr.sureAddr]
 rw[hr];exact hk _ w E hh hla (qA.refl w E H)
end
def Ex(id:Nat)(hops:List fJ)(i k:Nat):C->C
 |.eS 2 sz rows=>.sl id (hops++[(i,k)]) sz 0 rows.length false
 |c=>c
def vJ(id:Nat)(hops:List fJ)(i:Nat):Nat->List C->List C
 |_,[]=>[]
 |k,c::cs=>Ex id hops i k c::vJ id hops i (k+1) cs
theorem qS(sz:Nat)(rows:List (List C)):vY sz rows []=some (sz,rows):=rfl
def xH(sz:Nat)(rows:List (List C))(i k:Nat)(hs:List fJ):vY sz rows ((i,k)::hs)=match cellAt rows i k with
  |some (.eS 2 sz' rows')=>vY sz' rows' hs
  |_=>none:=rfl
def Mz{i k sz2:Nat}{rows2:List (List C)}:∀(hops:List fJ) (sz:Nat) (rows:List (List C)) (sz':Nat) (rows':List (List C)),vY sz rows hops=some (sz',rows')->
  cellAt rows' i k=some (.eS 2 sz2 rows2)->vY sz rows (hops++[(i,k)])=some (sz2,rows2)
 |[],sz,rows,sz',rows',h,hc=>by
  rw[qS]at h;cases h
  rw[List.nil_append,xH,hc]
  rfl
 |(i',k')::tl,sz,rows,sz',rows',h,hc=>by
  rw[xH]at h;rw[List.cons_append,xH];split at h
  ·exact Mz tl _ _ _ _ h hc
  ·cases h
def Wy{H:zl}{id:Nat}{hops:List fJ}{sz':Nat}{rows':List (List C)}(h:z7 H id hops=some (sz',rows')){i k:Nat}{sz2:Nat}{rows2:List (List C)}
 (hc:cellAt rows' i k=some (.eS 2 sz2 rows2)):z7 H id (hops++[(i,k)])=some (sz2,rows2):=by
 obtain⟨ob,ho,hk,hg⟩:=ji h;unfold z7;rw[ho];simp only[hk,if_true];exact Mz _ _ _ _ _ hg hc
def zx3{w:World}{E:Env}{H:zl}(h:qd w E H){id:Nat}{hops:List fJ}{sz:Nat}{rows:List (List C)}(hb:z7 H id hops=some (sz,rows)){kd i k:Nat}{c:C}{u:Value}
 (hc:cellAt rows i k=some c)(ho:qW E kd id hops i k c u):L E (Ex id hops i k c) u:=by
 unfold qW at ho;split at ho
 ·rename_i sz' rows';subst ho;have hb':=Wy hb hc;obtain⟨ob,hob,_,_⟩:=ji hb';have hlen:=(h.fj id ob _ _ _ hob hb').len;have:=L.sl (E:=E) id (hops++[(i,k)]) sz' 0 rows'.length false _ (by rw[h.n];exact BV hb') hlen (by simp) (by intro _;rw[gI]);rw[ei]at this;exact this
 ·rename_i h2
  have:Ex id hops i k c=c:=by
   unfold Ex;split
   ·exact absurd O (h2 _ _)
   ·rfl
  rw[this];exact ho.1.mono (E.Pv kd)
def LQ{id:Nat}{hops:List fJ}{i:Nat}:∀(cs:List C) (k j:Nat) (c':C),(vJ id hops i k cs)[j]?=some c'->∃c,cs[j]?=some c/\c'=Ex id hops i (k+j) c
 |[],k,j,c',h=>by simp[vJ]at h
 |c::cs,k,0,c',h=>by simp[vJ]at h;exact⟨c,rfl,h.symm⟩
 |c::cs,k,j+1,c',h=>by
  simp[vJ]at h;obtain⟨c0,h0,e⟩:=LQ cs (k+1) j c' h;exact⟨c0,by simpa using h0,by rw[e];congr 1;omega⟩
def KM{id:Nat}{hops:List fJ}{i:Nat}:∀(cs:List C) (k:Nat),(vJ id hops i k cs).length=cs.length
 |[],_=>rfl
 |c::cs,k=>by simp[vJ,KM cs (k+1)]
def oP(H:zl)(c:C)(n:Nat):Option (List C):=
 match c with
 |.ref id hops sz i k=>match z7 H id hops with
  |some (sz',rows)=>if sz' == sz then match rows[i]? with
    |some r=>if decide (k+n<=r.length) then some (vJ id hops i k ((r.drop k).take n)) else none
    |none=>none
   else none
  |none=>none
 |.jP cells=>if decide (n<=cells.length) then some (cells.take n) else none
 |_=>none
def FK{w:World}{E:Env}{H:zl}(h:qd w E H){c:C}{y:Value}(hl:L E c y){n:Nat}{cs:List C}(hr:oP H c n=some cs):
  ∃a us,y=.pointer (some a)/\(∀(j:Nat) u,us[j]?=some u->w.cell? (a.add j)=some u)/\LL E cs us/\us.length=n/\(∀u∈us,u.oneCell'=true):=by
 cases hl with
 |ref id hops sz i k hn=>
  simp only[oP]at hr;split at hr
  ·rename_i sz' rows hb;split at hr
   ·rename_i hsz;have hsz:sz'=sz:=by simpa using hsz
    subst hsz;split at hr
    ·rename_i r hrow;split at hr
     ·rename_i hlen;simp only[gM]at hlen;cases hr
      obtain⟨ob,hob,_,_⟩:=ji hb;have hB:=h.fj id ob hops sz' rows hob hb;obtain⟨cur,e,hg,hcs,hcell⟩:=hB.fj;have hrl:r.length=sz':=hB.row r (gh hrow)
      have hcc:∀j,j<n->∃c u,r[k+j]?=some c/\cellAt rows i (k+j)=some c/\cur[i*sz'+(k+j)]?=some u/\qW E ob.kind id hops i (k+j) c u:=λj hj=>by
       have hj':k+j<r.length:=by omega
       have h1:r[k+j]?=some r[k+j]:=by simp[hj']
       have h2:cellAt rows i (k+j)=some r[k+j]:=by simp[cellAt,hrow,hj']
       obtain⟨u,hu,ho⟩:=hcell i (k+j) _ h2;exact⟨_,u,h1,h2,hu,ho⟩
      refine⟨_,(List.range n).map (λj=>cur.getD (i*sz'+(k+j)) undef),rfl,?_,⟨?_,?_⟩,by simp,?_⟩
      ·intro j u hju;simp only[gj]at hju;cases hjr:(List.range n)[j]? with
       |none=>rw[hjr]at hju;cases hju
       |some j'=>
        rw[hjr]at hju;obtain⟨hjlt,hj'⟩:=dY.1 hjr;simp at hj' hjlt;subst hj';obtain⟨c,u',h1,h2,hu,ho⟩:=hcc j hjlt;simp only[gF,gS]at hju;rw[pG,hu]at hju;simp at hju;subst hju;rw[xC];unfold World.cell?;simp only[hg];rw[gf (by simp),r9];exact hu
      ·rw[KM];simp;omega
      ·intro j c' u hc' hu';obtain⟨c,hc,rfl⟩:=LQ _ _ _ _ hc';rw[g5]at hc;split at hc
       ·rename_i hj;rw[pX]at hc;obtain⟨c2,u2,h1,h2,hu,ho⟩:=hcc j hj;rw[h1]at hc;cases hc
        simp only[gj,rW hj,gF,gS]at hu';rw[pG,hu]at hu';simp at hu';subst hu';exact zx3 h hb h2 ho
       ·cases hc
      ·intro u hu;obtain⟨j,hj,rfl⟩:=gZ.1 hu;obtain⟨c,u',h1,h2,hu',ho⟩:=hcc j (by simpa using hj);rw[pG,hu'];simp only[pL];unfold qW at ho;split at ho
       ·rw[ho];rfl
       ·exact ho.2
     ·cases hr
    ·cases hr
   ·cases hr
  ·cases hr
 |jP cells b off us hst hL=>
  simp only[oP]at hr;split at hr
  ·rename_i hlen;simp only[gM]at hlen;cases hr
   refine⟨_,(List.range n).map us,rfl,?_,⟨by simp;omega,?_⟩,by simp,?_⟩
   ·intro j u hju;simp only[gj]at hju;cases hjr:(List.range n)[j]? with
    |none=>rw[hjr]at hju;cases hju
    |some j'=>
     rw[hjr]at hju;obtain⟨hjlt,hj'⟩:=dY.1 hjr;simp at hj' hjlt;subst hj';cases hju
     rw[xC];have hj2:j<cells.length:=by omega
     exact(h.qs _ _ _ (hst j cells[j] (by simp[hj2]))).1
   ·intro j c u hc hu;rw[g5]at hc;split at hc
    ·rename_i hj;simp only[gj,rW hj,gF,gS]at hu;subst hu;exact(hL j c hc).mono E.D0
    ·cases hc
   ·intro u hu;obtain⟨j,hj,rfl⟩:=gZ.1 hu
    have hj2:j<cells.length:=by
      have:j<n:=by simpa using hj
      omega
    exact(h.qs _ _ _ (hst j cells[j] (by simp[hj2]))).2
  ·cases hr
 |_=>simp[oP]at hr
def CT:TypeDesc->Bool
 |.struct _|.array _ _=>true
 |_=>false
def wH{P:Program}{t:TypeId}{d:TypeDesc}(h:P.underlying t=some d)(w:World):(isAgg t).run P w=.ok (CT d) w:=by
 simp only[isAgg,Sem.run_bind,run_underlying h,Result.andThen_ok];cases d <;> rfl
def wX(P:Program)(H:zl)(t:TypeId)(c:C):Option C:=
 match P.underlying t,P.info? t with
 |some d,some i=>
  if CT d then (oP H c i.size).map .agg
  else match oP H c 1 with
   |some [x]=>some x
   |_=>none
 |_,_=>none
section
variable {P:Program} {o:Oper} {ρ:Operand->C} {H:zl}
def qJ.load(t:TypeId)(x:Operand)(ho:o.op=.load t x){c:C}(hc:wX P H t (ρ x)=some c):qJ P o ρ H c H:=λw E σ hh hl K hk=>by
 have hx:=hl x (by simp[ho,Op.operands]);unfold wX at hc;split at hc
 ·rename_i d i hd hi;by_cases hag:CT d=true
  ·rw[gk hag]at hc;cases hr:oP H (ρ x) i.size with
   |none=>rw[hr]at hc;cases hc
   |some cs=>
    rw[hr]at hc;cases hc
    obtain⟨a,us,ha,hcell,hll,hlen,hone⟩:=FK hh hx hr
    have hr':(execOp σ o).run P w=.ok (.value (.agg us.toArray)) w:=by
     unfold execOp;have h3:=run_loadCells_list (P:=P) (w:=w) a us (λj v hj=>hcell j v hj);rw[hlen]at h3;simp[ho,Instr.loadAt,Instr.sureAddr,ha,loadVar,wH hd,hag,ju hi,h3]
    rw[hr'];exact hk _ w E hh (.agg cs us.toArray (by simpa using hll.1) (λi c y e1 e2=>hll.2 i c y e1 (by simpa using e2)) (λu hu=>hone u (by simpa using hu))) (qA.refl w E H)
  ·rw[gf hag]at hc;split at hc
   ·rename_i x0 hr;cases hc
    obtain⟨a,us,ha,hcell,hll,hlen,hone⟩:=FK hh hx hr
    obtain⟨u,rfl⟩:∃u,us=[u]:=by
     match us,hlen with
     |[u],_=>exact⟨u,rfl⟩
    have hu:=hcell 0 u O;have ha0:a.add 0=a:=by simp[Addr.add]
    rw[ha0]at hu
    have hr':(execOp σ o).run P w=.ok (.value u) w:=by
     unfold execOp;simp[ho,Instr.loadAt,Instr.sureAddr,ha,loadVar,wH hd,hag,hu]
    rw[hr'];exact hk _ w E hh hll.cons_inv.1 (qA.refl w E H)
   ·cases hc
 ·cases hc
end
def setCell(rows:List (List C))(i k:Nat)(c:C):List (List C):=rows.modify i (·.set k c)
def jj:List (List C)->List fJ->(List (List C)->List (List C))->List (List C)
 |rows,[],f=>f rows
 |rows,(i,k)::hs,f=>match cellAt rows i k with
  |some (.eS 2 sz' rows')=>setCell rows i k (.eS 2 sz' (jj rows' hs f))
  |_=>rows
theorem Fx(rows:List (List C))(f:List (List C)->List (List C)):jj rows [] f=f rows:=rfl
def Fi(rows:List (List C))(i k:Nat)(hs:List fJ)(f:List (List C)->List (List C)):jj rows ((i,k)::hs) f=match cellAt rows i k with
  |some (.eS 2 sz' rows')=>setCell rows i k (.eS 2 sz' (jj rows' hs f))
  |_=>rows:=rfl
def KK(rows:List (List C))(i k:Nat)(c:C):(setCell rows i k c).length=rows.length:=by simp[setCell]
def KE(rows:List (List C))(i k:Nat)(c:C)(i' k':Nat):cellAt (setCell rows i k c) i' k'=if i=i'/\k=k' then (cellAt rows i' k').map (λ_=>c) else cellAt rows i' k':=by
 unfold cellAt setCell;rw[pS];by_cases hi:i=i'
 ·subst hi;cases hr:rows[i]? with
  |none=>simp
  |some r=>
   simp only[if_true,rV,gF,gX,uv];rw[gG];by_cases hk:k=k'
   ·subst hk;simp only[if_true];by_cases eU:k<r.length
    ·simp[eU]
    ·simp[eU]
   ·simp[hk]
 ·simp[hi]
def SV{rows:List (List C)}{sz:Nat}(h:∀r∈rows,r.length=sz)(i k:Nat)(c:C):∀r∈setCell rows i k c,r.length=sz:=by
 intro r hr;obtain⟨j,hj⟩:=gQ.1 hr;unfold setCell at hj;rw[pS]at hj;cases hx:rows[j]? with
 |none=>rw[hx]at hj;cases hj
 |some r0=>
  rw[hx]at hj;have h0:=h r0 (gh hx);simp only[rV,gF,gS]at hj;subst hj;split <;> simp[h0]
structure EE(rows rows':List (List C)):Prop where
 len:rows'.length=rows.length
 own:∀i k s r,cellAt rows' i k=some (.eS 2 s r)↔cellAt rows i k=some (.eS 2 s r)
structure Ci(rows rows':List (List C)):Prop where
 len:rows'.length=rows.length
 cell:∀i k c',cellAt rows' i k=some c'->∃c,cellAt rows i k=some c/\(c=c'\/∃s r r',c=.eS 2 s r/\c'=.eS 2 s r'/\r'.length=r.length)
 row:∀sz,(∀r∈rows,r.length=sz)->∀r∈rows',r.length=sz
def Ci.refl(rows:List (List C)):Ci rows rows:=⟨rfl,λi k c h=>⟨c,h,.inl O⟩,λ_ h=>h⟩
def LG{f:List (List C)->List (List C)}:∀(hops:List fJ) (sz:Nat) (rows:List (List C)) (sz':Nat) (rows':List (List C)),vY sz rows hops=some (sz',rows')->EE rows' (f rows')->(jj rows hops f).length=rows.length
 |[],sz,rows,sz',rows',h,ht=>by rw[qS]at h;cases h;rw[Fx];exact ht.len
 |(i,k)::hs,sz,rows,sz',rows',h,ht=>by
  rw[Fi];split
  ·exact KK _ _ _ _
  ·rfl
def Nl{f:List (List C)->List (List C)}:∀(hops:List fJ) (sz:Nat) (rows:List (List C)) (sz':Nat) (rows':List (List C)),vY sz rows hops=some (sz',rows')->EE rows' (f rows')->
  ∀(p:List fJ) (sz2:Nat) (rows2':List (List C)),vY sz (jj rows hops f) p=some (sz2,rows2')->
   ∃rows2,vY sz rows p=some (sz2,rows2)/\((p=hops/\rows2'=f rows2)\/(p≠hops/\Ci rows2 rows2'))
 |[],sz,rows,sz',rows',h,ht,p,sz2,rows2',hp=>by
  rw[qS]at h;cases h
  rw[Fx]at hp;cases p with
  |nil=>rw[qS]at hp;cases hp;exact⟨rows,rfl,.inl ⟨rfl,rfl⟩⟩
  |cons hd q=>
   obtain⟨i,k⟩:=hd;rw[xH]at hp;split at hp
   ·rename_i s r hc;rw[ht.own]at hc;exact⟨rows2',by rw[xH,hc];exact hp,.inr ⟨by simp,Ci.refl _⟩⟩
   ·cases hp
 |(i,k)::hs,sz,rows,sz',rows',h,ht,p,sz2,rows2',hp=>by
  rw[xH]at h;split at h
  ·rename_i s r hc;have hset:jj rows ((i,k)::hs) f=setCell rows i k (.eS 2 s (jj r hs f)):=by rw[Fi,hc];rfl
   rw[hset]at hp;cases p with
   |nil=>
    rw[qS]at hp;cases hp
    refine⟨rows,rfl,.inr ⟨by simp,KK _ _ _ _,?_,λsz0 h0=>SV h0 _ _ _⟩⟩;intro i' k' c' hcc;rw[KE]at hcc;split at hcc
    ·rename_i hik;obtain⟨rfl,rfl⟩:=hik;rw[hc]at hcc;simp only[gF,gS]at hcc;subst hcc;exact⟨_,hc,.inr ⟨s,r,_,rfl,rfl,LG hs s r sz' rows' h ht⟩⟩
    ·exact⟨c',hcc,.inl O⟩
   |cons hd q=>
    obtain⟨i',k'⟩:=hd;rw[xH,KE]at hp;by_cases hik:i=i'/\k=k'
    ·obtain⟨rfl,rfl⟩:=hik;rw[gk ⟨rfl,rfl⟩,hc]at hp;simp only[gF]at hp;obtain⟨rows2,h2,h3⟩:=Nl hs s r sz' rows' h ht q sz2 rows2' hp;refine⟨rows2,by rw[xH,hc];exact h2,?_⟩;rcases h3 with⟨rfl,e⟩|⟨hne,hlk⟩
     ·exact .inl ⟨rfl,e⟩
     ·exact .inr ⟨λe=>hne (by simpa using e),hlk⟩
    ·rw[gf hik]at hp;refine⟨rows2',by rw[xH];exact hp,.inr ⟨?_,Ci.refl _⟩⟩;intro e;simp at e;exact hik ⟨e.1.1.symm,e.1.2.symm⟩
  ·cases h
def mX(H:zl)(id:Nat)(hops:List fJ)(f:List (List C)->List (List C)):zl:=H.modify id λob=>match ob with
 |⟨kind,ty,sz,rows,fz⟩=>⟨kind,ty,sz,jj rows hops f,fz⟩
def DP(H:zl)(id:Nat)(hops:List fJ)(f:List (List C)->List (List C))(j:Nat):(mX H id hops f)[j]?=(H[j]?).map λob=>if id=j then {ob with rows:=jj ob.rows hops f} else ob:=by
 unfold mX;rw[pS]
 rfl
def DH{H:zl}{id:Nat}{hops:List fJ}{f:List (List C)->List (List C)}{sz:Nat}{rows:List (List C)}(hb:z7 H id hops=some (sz,rows))(ht:EE rows (f rows)){id':Nat}{p:List fJ}
 {sz2:Nat}{rows2':List (List C)}(hp:z7 (mX H id hops f) id' p=some (sz2,rows2')):
  ∃rows2,z7 H id' p=some (sz2,rows2)/\((id'=id/\p=hops/\rows2'=f rows2)\/(¬(id'=id/\p=hops)/\Ci rows2 rows2')):=by
 obtain⟨ob,hob,hk,hg⟩:=ji hb;obtain⟨ob',hob',hk',hg'⟩:=ji hp;rw[DP]at hob';by_cases hid:id=id'
 ·subst hid;rw[hob]at hob';simp only[gF,if_true,gS]at hob';subst hob';obtain⟨rows2,h2,h3⟩:=Nl hops ob.sz ob.rows sz rows hg ht p sz2 rows2' hg';refine⟨rows2,?_,?_⟩
  ·unfold z7;rw[hob];simp only[hk,if_true];exact h2
  ·rcases h3 with⟨rfl,e⟩|⟨hne,hlk⟩
   ·exact .inl ⟨rfl,rfl,e⟩
   ·exact .inr ⟨λe=>hne e.2,hlk⟩
 ·cases hx:H[id']? with
  |none=>rw[hx]at hob';cases hob'
  |some ob2=>
   rw[hx]at hob';simp only[gF,hid,if_false,gS]at hob';subst hob';refine⟨rows2',?_,.inr ⟨λe=>hid e.1.symm,Ci.refl _⟩⟩;unfold z7;rw[hx];simp only[hk',if_true];exact hg'
def qd.write{w:World}{E:Env}{H:zl}(h:qd w E H){id:Nat}{hops:List fJ}{ob:Ob}{sz:Nat}{rows:List (List C)}{f:List (List C)->List (List C)}(hob:H[id]?=some ob)
 (hb:z7 H id hops=some (sz,rows))(ht:EE rows (f rows))(hrow:∀r∈f rows,r.length=sz){cur cur':Array Value}{e:TypeId}(hg:w.heap[E.β id hops]?=some (.cells cur e (0,0)))(hsz:cur'.size=cur.size)
 (hst:∀o u,E.St (E.β id hops) o=some u->cur'[o]?=some u)
 (hc:∀i k c,cellAt (f rows) i k=some c->∃u,cur'[i*sz+k]?=some u/\qW E ob.kind id hops i k c u):
  qd (w.setRow (E.β id hops) cur') E (mX H id hops f)/\qA w E H (w.setRow (E.β id hops) cur') E (mX H id hops f):=by
 have hown:∀b,jh E (mX H id hops f) b->jh E H b:=by
  rintro b ⟨id',p,⟨s2,r2⟩,hx,rfl⟩;obtain⟨rows2,h2,_⟩:=DH hb ht hx;exact⟨id',p,_,h2,rfl⟩
 refine⟨⟨by rw[h.n];simp[mX],?_,?_,?_,?_,?_,?_⟩,⟨Env.le.refl E,λ_ _ _=>O,rfl,rfl,rfl,by simp[World.setRow],?_,λb o u hu=>.inl hu,λb hb'=>.inr (hown b hb')⟩⟩
 ·intro id' ob' p sz2 rows2' hob' hx;obtain⟨rows2,h2,h3⟩:=DH hb ht hx
  have hkd:∃ob0,H[id']?=some ob0/\ob'.kind=ob0.kind:=by
   rw[DP]at hob';cases hx':H[id']? with
   |none=>rw[hx']at hob';cases hob'
   |some ob0=>
    rw[hx']at hob';simp only[gF,gS]at hob';subst hob';exact⟨ob0,rfl,by split <;> rfl⟩
  obtain⟨ob0,hob0,hkd⟩:=hkd;have hB:=h.fj id' ob0 p sz2 rows2 hob0 h2;rw[hkd];rcases h3 with⟨rfl,rfl,rfl⟩|⟨hne,hlk⟩
  ·rw[hb]at h2;cases h2
   rw[hob]at hob0;cases hob0
   obtain⟨cur0,e0,hg0,hs0,_⟩:=hB.fj;rw[hg]at hg0;cases hg0
   exact⟨by rw[ht.len];exact hB.len,hrow,cur',e,setRow_heap w _ cur cur' e _ hg,by rw[hsz];exact hs0,hc⟩
  ·obtain⟨cur0,e0,hg0,hs0,hc0⟩:=hB.fj
   have hdiff:E.β id' p≠E.β id hops:=λhe=>hne (by
    have:=h.inj id' p id hops _ _ h2 hb he;exact this)
   refine⟨by rw[hlk.len];exact hB.len,hlk.row sz2 hB.row,cur0,e0,by rw[setRow_other w _ _ _ hdiff];exact hg0,hs0,?_⟩;intro i k c' hcc;obtain⟨c,h4,h5⟩:=hlk.cell i k c' hcc;obtain⟨u,hu,ho⟩:=hc0 i k c h4;refine⟨u,hu,?_⟩;rcases h5 with rfl|⟨s,r,r',rfl,rfl,hl⟩
   ·exact ho
   ·simp only[qW]at ho ⊢;rw[hl];exact ho
 ·intro id1 p1 id2 p2 x y hx hy he;obtain⟨r1,h1,_⟩:=DH hb ht (rows2':=x.2) (sz2:=x.1) (by simpa using hx);obtain⟨r2,h2,_⟩:=DH hb ht (rows2':=y.2) (sz2:=y.1) (by simpa using hy);exact h.inj id1 p1 id2 p2 _ _ h1 h2 he
 ·intro b o u hu;refine⟨?_,(h.qs b o u hu).2⟩;by_cases hbb:b=E.β id hops
  ·subst hbb;unfold World.cell?;rw[setRow_heap w _ cur cur' e _ hg];simp;exact hst o u hu
  ·have:=(h.qs b o u hu).1;unfold World.cell? at this ⊢;simp only[setRow_other w _ _ _ hbb];exact this
 ·intro id' p x o u hx hu;obtain⟨r1,h1,_⟩:=DH hb ht (rows2':=x.2) (sz2:=x.1) (by simpa using hx);obtain⟨e1,ob',e2,e3⟩:=h.sep id' p _ o u h1 hu;refine⟨e1,?_⟩;rw[DP,e2];exact⟨_,rfl,by split <;> exact e3⟩
 ·intro id' ob' hob' hk;rw[DP]at hob';cases hx':H[id']? with
  |none=>rw[hx']at hob';cases hob'
  |some ob0=>
   rw[hx']at hob';simp only[gF,gS]at hob';have hk0:ob0.kind=2/\ob'.ty=ob0.ty:=by subst hob';revert hk;split <;> exactλh=>⟨h,rfl⟩
   obtain⟨cur0,hc0⟩:=h.ty id' ob0 hx' hk0.1;rw[hk0.2];by_cases hbb:E.β id' []=E.β id hops
   ·rw[hbb]at hc0 ⊢;rw[hg]at hc0;cases hc0
    exact⟨cur',setRow_heap w _ cur cur' _ _ hg⟩
   ·exact⟨cur0,by rw[setRow_other w _ _ _ hbb];exact hc0⟩
 ·intro id' ob' hob';rw[DP]at hob';cases hx':H[id']? with
  |none=>rw[hx']at hob';cases hob'
  |some ob0=>
   rw[hx']at hob';simp only[gF,gS]at hob';have h0:=h.fz id' ob0 hx';subst hob';split
   ·rename_i hid;subst hid;rw[hob]at hx';cases hx'
    obtain⟨ob2,h1,_,h2⟩:=ji hb;rw[hob]at h1;cases h1
    dsimp only;rw[LG hops _ _ _ _ h2 ht];exact h0
   ·exact h0
 ·intro k hk ho;rw[setRow_other w _ _ _ (λe'=>ho ⟨id,hops,_,hb,e'.symm⟩)]
def ym(k:Nat)(cs:List C)(r:List C):List C:=r.take k++cs++r.drop (k+cs.length)
def wu(i k:Nat)(cs:List C)(rows:List (List C)):List (List C):=rows.modify i (ym k cs)
def KI{k:Nat}{cs r:List C}(h:k+cs.length<=r.length):(ym k cs r).length=r.length:=by
 simp[ym];omega
def KZ{k:Nat}{cs r:List C}(h:k+cs.length<=r.length)(j:Nat):(ym k cs r)[j]?=if k<=j/\j<k+cs.length then cs[j-k]? else r[j]?:=by
 unfold ym;rw[pA];by_cases h1:j<k
 ·rw[gz (by simp;omega),g5,gk h1,gf (by omega)]
 ·rw[gK (by simp;omega)];have hk:(r.take k).length=k:=by simp;omega
  rw[hk];by_cases h2:j<k+cs.length
  ·rw[gz (by omega),gk ⟨by omega,h2⟩]
  ·rw[gK (by omega),pX,gf (by omega)]
   congr 1
   omega
def KF{i k:Nat}{cs:List C}{rows:List (List C)}{r:List C}(hr:rows[i]?=some r)(h:k+cs.length<=r.length)(i' k':Nat):
  cellAt (wu i k cs rows) i' k'=if i=i'/\k<=k'/\k'<k+cs.length then cs[k'-k]? else cellAt rows i' k':=by
 unfold cellAt wu;rw[pS];by_cases hi:i=i'
 ·subst hi;rw[hr];simp only[if_true,rV,gF,gX,uv];rw[KZ h]
 ·simp[hi]
def vH(P:Program)(H:zl)(t:TypeId)(a x:C):Option zl:=
 match a,P.info? t with
 |.ref id hops sz i k,some inf=>
  match z7 H id hops,H[id]? with
  |some (sz',rows),some ob=>
   match rows[i]? with
   |some r=>
    if (sz' == sz) && mF x && (x.cells.length == inf.size) && decide (k+x.cells.length<=r.length) && ((r.drop k).take x.cells.length).all zB && (ob.kind == 1 || x.cells.all xm) && (!hops.isEmpty || decide (ob.fz<=i)) && (hops.isEmpty || ob.fz == 0)
    then some (mX H id hops (wu i k x.cells)) else none
   |none=>none
  |_,_=>none
 |_,_=>none
section
variable {P:Program} {o:Oper} {ρ:Operand->C} {H:zl}
def qJ.store(t:TypeId)(x y:Operand)(ho:o.op=.store t x y){H':zl}(hs:vH P H t (ρ x) (ρ y)=some H'):qJ P o ρ H .un H':=λw E σ hh hl K hk=>by
 have hx:=hl x (by simp[ho,Op.operands]);have hy:=hl y (by simp[ho,Op.operands]);unfold vH at hs;split at hs
 rotate_left
 ·cases hs
 rename_i id hops sz i k inf ha hinf;split at hs
 rotate_left
 ·cases hs
 rename_i sz' rows ob hb hob;split at hs
 rotate_left
 ·cases hs
 rename_i r hr;split at hs
 rotate_left
 ·cases hs
 rename_i hcond;cases hs
 simp only[gC,pq,gM,p8,gA]at hcond;obtain⟨⟨⟨⟨⟨⟨⟨rfl,hval⟩,hlen⟩,hfit⟩,hold⟩,hkd⟩,hfz⟩,_⟩:=hcond;obtain⟨hll,hone,hno⟩:=Hq hy hval;rw[ha]at hx;have hB:=hh.fj id ob hops sz' rows hob hb;obtain⟨cur,e,hg,hcs,hcell⟩:=hB.fj;have hrl:r.length=sz':=hB.row r (gh hr);have hil:i<rows.length:=(dY.1 hr).1;have hx':σ x=.pointer (some ⟨E.β id hops,i*sz'+k,none⟩):=by generalize σ x=u at *;cases hx;rfl
 obtain⟨vs,hvs⟩:∃vs,vs=(σ y).cells.toList:=⟨_,rfl⟩;rw[<-hvs]at hll;have hvl:vs.length=(ρ y).cells.length:=hll.1.symm
 have hend:i*sz'+k+vs.length<=cur.size:=by
  have h1:(i+1)*sz'<=E.κ id hops*sz':=pU _ (pB hil hB.len);rw[rj]at h1;omega
 have hrun:=run_storeCells_at P (E.β id hops) (i*sz'+k) e vs 0 cur w hg (by simpa using hend) (λv hv=>hone v (by rw[hvs]at hv;simpa using hv));simp only[r6]at hrun;obtain⟨cur',hcur'⟩:∃cur',cur'=(cur.toList.take (i*sz'+k)++vs++cur.toList.drop (i*sz'+k+vs.length)).toArray:=⟨_,rfl⟩;rw[<-hcur']at hrun
 have hcget:∀j:Nat,cur'[j]?=if i*sz'+k<=j/\j<i*sz'+k+vs.length then vs[j-(i*sz'+k)]? else cur[j]?:=by
  intro j;rw[hcur'];simp only[sT];rw[pA];by_cases h1:j<i*sz'+k
  ·rw[gz (by simp;omega),g5,gk h1,gf (by omega),pa]
  ·rw[gK (by simp;omega)];have hk':(cur.toList.take (i*sz'+k)).length=i*sz'+k:=by simp;omega
   rw[hk'];by_cases h2:j<i*sz'+k+vs.length
   ·rw[gz (by omega),gk ⟨by omega,h2⟩]
   ·rw[gK (by omega),pX,gf (by omega),pa]
    congr 1
    omega
 have hr':(execOp σ o).run P w=.ok .skip (w.setRow (E.β id hops) cur'):=by
  unfold execOp
  have hsz2:(σ y).cells.size=inf.size:=by
   have:vs.length=(σ y).cells.size:=by rw[hvs];simp
   omega
  simp[ho,Instr.storeAt,Instr.sureAddr,hx',storeVar,ju hinf,hsz2,<-hvs,hrun]
 rw[hr']
 have hpos:∀i' k',i'<rows.length->k'<sz'->(i*sz'+k<=i'*sz'+k'/\i'*sz'+k'<i*sz'+k+vs.length↔i=i'/\k<=k'/\k'<k+vs.length):=by
  intro i' k' hi' hk';constructor
  ·rintro⟨h1,h2⟩
   have:i=i':=by
    rcases rU i i' with h|h|h
    ·exfalso
     have:(i+1)*sz'<=i'*sz':=pU _ h;rw[rj]at this;omega
    ·exact h
    ·exfalso
     have:(i'+1)*sz'<=i*sz':=pU _ h;rw[rj]at this;omega
   subst this;omega
  ·rintro⟨rfl,h1,h2⟩;omega
 have htame:EE rows (wu i k (ρ y).cells rows):=by
  refine⟨by simp[wu],?_⟩;intro i' k' s r0;rw[KF hr hfit];split
  ·rename_i hin;obtain⟨rfl,h1,h2⟩:=hin;constructor
   ·intro h;have:=gA.1 hno _ (gh h);simp[zB]at this
   ·intro h;simp only[cellAt,hr,gX]at h
    have hm:C.eS 2 s r0∈(r.drop k).take (ρ y).cells.length:=by
     apply gQ.2
     refine⟨k'-k,?_⟩;rw[g5,gk (by omega),pX,show k+(k'-k)=k' from by omega];exact h
    have:=hold _ hm;simp[zB]at this
  ·rfl
 have hW:=hh.write hob hb htame (cur:=cur) (cur':=cur') (e:=e) ?_ hg ?_ ?_ ?_
 ·exact hk _ _ E hW.1 .un hW.2
 ·intro r0 hr0;obtain⟨j,hj⟩:=gQ.1 hr0;unfold wu at hj;rw[pS]at hj;cases hx0:rows[j]? with
  |none=>rw[hx0]at hj;cases hj
  |some r1=>
   rw[hx0]at hj;simp only[rV,gF,gS]at hj;subst hj;by_cases hij:i=j
   ·subst hij;rw[hr]at hx0;cases hx0
    rw[gk O,KI hfit];exact hrl
   ·rw[gf hij];exact hB.row r1 (gh hx0)
 ·rw[hcur'];simp;omega
 ·intro off u hu;obtain⟨e1,ob',e2,e3⟩:=hh.sep id hops _ off u hb hu;rw[hob]at e2;cases e2
  subst e1;simp at hfz
  have hsz0:ob.sz=sz':=by
   obtain⟨ob2,h1,_,h2⟩:=ji hb;rw[hob]at h1;cases h1
   rw[qS]at h2;cases h2
   rfl
  have eU:off<i*sz':=by
   rw[hsz0]at e3;exact pF e3 (pU _ hfz)
  rw[hcget,gf (by omega)];have:=(hh.qs _ _ _ hu).1;unfold World.cell? at this;rw[hg]at this;simpa using this
 ·intro i' k' c hcc;rw[KF hr hfit]at hcc;split at hcc
  ·rename_i hin;obtain⟨rfl,h1,h2⟩:=hin;obtain⟨u,hu,hlu⟩:=hll.get hcc;have hnoc:=gA.1 hno _ (gh hcc);refine⟨u,?_,(qW.loose hnoc).2 ⟨?_,hone u ?_⟩⟩
   ·rw[hcget,gk (by omega),show i*sz'+k'-(i*sz'+k)=k'-k from by omega];exact hu
   ·rcases hkd with hkd|hkd
    ·simpa [Env.at,hkd] using hlu
    ·unfold Env.at
     split
     ·exact hlu.kz (hkd _ (gh hcc))
     ·exact hlu
   ·have:=gh hu;rw[hvs]at this;simpa using this
  ·rename_i hnot;obtain⟨u,hu,hou⟩:=hcell i' k' c hcc;refine⟨u,?_,hou⟩
   have hi'k':i'<rows.length/\k'<sz':=by
    unfold cellAt at hcc;cases hx0:rows[i']? with
    |none=>rw[hx0]at hcc;cases hcc
    |some r1=>
     rw[hx0]at hcc;refine⟨(dY.1 hx0).1,?_⟩;have:=hB.row r1 (gh hx0);rw[<-this];exact(dY.1 hcc).1
   rw[hcget,gf]
   ·exact hu
   ·rw[hpos i' k' hi'k'.1 hi'k'.2,hvl];exact hnot
def zb(P:Program)(f:FuncId)(H:zl)(args:List C)(r:C)(H':zl):Prop:=
 ∀(w:World) (E:Env) (vs:Array Value),qu w E H->LL E args vs.toList->
  Calls P f vs w λe w'=>∃v E',e=.returned v/\qu w' E' H'/\L E' r v/\Grow w E H w' E' H'
def qi(P:Program)(f:FuncId):Bool:=
 match P.funcs[f]? with
 |some fn => !(fn.name == "runtime.NumGoroutine") && fn.body.isSome
 |none=>false
def fg.call(cl:Call)(ho:o.op=.call cl)(x:Operand)(hcl:cl.callee=.value x){f:FuncId}{first caps:List C}(hf:ρ x=.fn f first caps)(hcb:qi P f=true){r:C}{H':zl}
 (hs:zb P f H (first++(cl.args.toList.map ρ)++caps) r H'):fg P o ρ H r H':=λw E σ hh hl K hk=>by
 have h0:=hl x (by simp[ho,Op.operands,Call.operands,hcl]);rw[hf]at h0
 obtain⟨ys,zs,hv,h1,h2,h3,h4⟩:∃ys zs,σ x=.func (.func f) ys zs/\first.length=ys.size/\caps.length=zs.size/\(∀(i:Nat) c y,first[i]?=some c->ys[i]?=some y->L E c y)/\(∀(i:Nat) c y,caps[i]?=some c->zs[i]?=some y->L E c y):=by
  generalize σ x=u at *;cases h0 with
  |fn f first caps ys zs h1 h2 h3 h4=>exact⟨ys,zs,rfl,h1,h2,h3,h4⟩
 unfold qi at hcb;split at hcb
 rotate_left
 ·cases hcb
 rename_i fn hfn;simp only[gC,pJ]at hcb;have hname : fn.name ≠ "runtime.NumGoroutine" := by simpa using hcb.1
 have hbody:fn.body≠none:=by intro hb;simp[hb]at hcb
 have hr:(execOp σ o).run P w=.ok (.enter f (ys++cl.args.map σ++zs)) w:=by
  unfold execOp;simp[ho,resolve,hcl,hv,Deferred.ofValue,invoke,callFunc,hfn,hname,hbody]
 rw[hr];refine(hs w E (ys++cl.args.map σ++zs) hh ?_).mono ?_
 ·have e1:LL E first ys.toList:=⟨by simpa using h1,λi c y e1 e2=>h3 i c y e1 (by simpa using e2)⟩;have e2:LL E caps zs.toList:=⟨by simpa using h2,λi c y e1 e2=>h4 i c y e1 (by simpa using e2)⟩
  have e3:LL E (cl.args.toList.map ρ) (cl.args.map σ).toList:=by
   refine⟨by simp,?_⟩;intro i c y hc hy;rw[gj]at hc;rw[uy,gj]at hy;cases ha:cl.args.toList[i]? with
   |none=>rw[ha]at hc;cases hc
   |some a=>
    rw[ha]at hc hy;cases hc
    cases hy
    exact hl a (by simp[ho,Op.operands,Call.operands];right;have:=gh ha;simpa using this)
  have:=(e1.append e3).append e2;simpa using this
 ·rintro e w' ⟨v,E',rfl,h5,h6,h7⟩;exact⟨v,rfl,hk v w' E' h5 h6 h7⟩
end
section
variable {P:Program} {o:Oper} {ρ:Operand->C} {H:zl}
def qJ.extract(x:Operand)(n:Nat)(ho:o.op=.extract x n){vs:List C}(hx:ρ x=.fb vs){c:C}(hc:vs[n]?=some c):qJ P o ρ H c H:=λw E σ hh hl K hk=>by
 have h0:=hl x (by simp[ho,Op.operands]);rw[hx]at h0
 obtain⟨ys,hy,hlen,hll⟩:∃ys,σ x=.tuple ys/\vs.length=ys.size/\∀(i:Nat) c y,vs[i]?=some c->ys[i]?=some y->L E c y:=by
  generalize σ x=u at *;cases h0 with
  |fb _ ys h1 h2=>exact⟨ys,rfl,h1,h2⟩
 have eU:n<ys.size:=by rw[<-hlen];exact(dY.1 hc).1
 have hr:(execOp σ o).run P w=.ok (.value ys[n]) w:=by
  unfold execOp;simp[ho,Instr.extract,hy,eU]
 rw[hr];exact hk _ w E hh (hll n c _ hc (by simp[eU])) (qA.refl w E H)
def IF:C->Bool
 |.ref .. |.jP _|.fn ..=>true
 |_=>false
def qJ.nilCheck(x:Operand)(ho:o.op=.nilCheck x)(hx:IF (ρ x)=true):qJ P o ρ H (ρ x) H:=λw E σ hh hl K hk=>by
 have h0:=hl x (by simp[ho,Op.operands])
 have hr:(execOp σ o).run P w=.ok (.value (σ x)) w:=by
  unfold execOp;generalize ρ x=c at *;generalize hu:σ x=u at *;cases h0 <;> first|(simp[IF]at hx;done)|(simp only[ho,hu];rfl)
 rw[hr];exact hk _ w E hh h0 (qA.refl w E H)
def qJ.makeFunc(f:FuncId)(first caps:Array Operand)(ho:o.op=.makeFunc (.func f) first caps):qJ P o ρ H (.fn f (first.toList.map ρ) (caps.toList.map ρ)) H:=λw E σ hh hl K hk=>by
 have hr:(execOp σ o).run P w=.ok (.value (.func (.func f) (first.map σ) (caps.map σ))) w:=by
  unfold execOp;simp only[ho]
  rfl
 rw[hr];refine hk _ w E hh (.fn f _ _ _ _ (by simp) (by simp) ?_ ?_) (qA.refl w E H)
 ·intro i c y hc hy;rw[gj]at hc;rw[eE]at hy;cases ha:first[i]? with
  |none=>rw[ha]at hy;cases hy
  |some a=>
   rw[pa,ha]at hc;rw[ha]at hy;cases hc
   cases hy
   exact hl a (by simp[ho,Op.operands];left;exact rZ ha)
 ·intro i c y hc hy;rw[gj]at hc;rw[eE]at hy;cases ha:caps[i]? with
  |none=>rw[ha]at hy;cases hy
  |some a=>
   rw[pa,ha]at hc;rw[ha]at hy;cases hc
   cases hy
   exact hl a (by simp[ho,Op.operands];right;exact rZ ha)
def AQ(place:Nat->Option (Nat×Nat)):List C->List (Nat×C)->Option (List C)
 |cells,[]=>some cells
 |cells,(i,c)::rest=>match place i with
  |none=>none
  |some (off,size)=>if mF c && (c.cells.length == size) && decide (off+size<=cells.length) then AQ place (ym off c.cells cells) rest else none
def Nh:∀(vs:List Value) (off k:Nat) (cells:Array Value),off+k+vs.length<=cells.size->
  ((vs.zipIdx k).foldl (λcs (p:Value×Nat)=>cs.setIfInBounds (off+p.2) p.1) cells).size=cells.size/\
  ∀j:Nat,((vs.zipIdx k).foldl (λcs (p:Value×Nat)=>cs.setIfInBounds (off+p.2) p.1) cells)[j]?=if off+k<=j/\j<off+k+vs.length then vs[j-(off+k)]? else cells[j]?
 |[],off,k,cells,h=>⟨rfl,λj=>by rw[gf (by simp)];rfl⟩
 |v::vs,off,k,cells,h=>by
  simp only[List.zipIdx_cons,eh,pC]at h ⊢;have ih:=Nh vs off (k+1) (cells.setIfInBounds (off+k) v) (by simp;omega);refine⟨by rw[ih.1];simp,?_⟩;intro j;rw[ih.2 j];by_cases h1:off+k=j
  ·subst h1;rw[gf (by omega),gk (by omega),eD];simp;omega
  ·by_cases h2:off+(k+1)<=j/\j<off+(k+1)+vs.length
   ·rw[gk h2,gk (by omega),show j-(off+k)=(j-(off+(k+1)))+1 from by omega];simp
   ·rw[gf h2,gf (by omega),eD];simp[h1]
def FV{E:Env}{place:Nat->Option (Nat×Nat)}{ρ:Operand->C}{σ:Operand->Value}:∀(parts:List (Nat×Operand)) (cs:List C) (arr:Array Value),LL E cs arr.toList->(∀u∈arr,u.oneCell'=true)->cs.all zB=true->
  (∀p∈parts,L E (ρ p.2) (σ p.2))->∀cs',AQ place cs (parts.map λp=>(p.1,ρ p.2))=some cs'->
  ∃arr',Instr.fill place arr (parts.map λp=>(p.1,σ p.2))=some arr'/\LL E cs' arr'.toList/\(∀u∈arr',u.oneCell'=true)/\cs'.all zB=true
 |[],cs,arr,hl,h1,hno,_,cs',h=>by
  simp only[List.map_nil,AQ,gS]at h;subst h;exact⟨arr,rfl,hl,h1,hno⟩
 |(i,x)::rest,cs,arr,hl,h1,hno,hp,cs',h=>by
  simp only[rE,AQ]at h;split at h
  ·cases h
  ·rename_i off size hpl;split at h
   ·rename_i hcond;simp only[gC,pq,gM]at hcond;obtain⟨⟨hv,hsz⟩,hfit⟩:=hcond;have hx:=hp (i,x) (by simp);obtain⟨hll,hone,hnoc⟩:=Hq hx hv;have hlen:(σ x).cells.size=size:=by have:=hll.1;simp at this;omega
    have hal:arr.size=cs.length:=by have:=hl.1;simp at this;omega
    obtain⟨vs,hvs⟩:∃vs,vs=(σ x).cells.toList:=⟨_,rfl⟩;have hvl:vs.length=size:=by rw[hvs];simpa using hlen
    have hfold:=Nh vs off 0 arr (by omega)
    have hfe:(σ x).cells.zipIdx.foldl (λcs (p:Value×Nat)=>cs.setIfInBounds (off+p.2) p.1) arr=(vs.zipIdx 0).foldl (λcs (p:Value×Nat)=>cs.setIfInBounds (off+p.2) p.1) arr:=by
     rw[<-Array.foldl_toList,Array.toList_zipIdx,hvs]
    obtain⟨arr2,harr2⟩:∃arr2,arr2=(vs.zipIdx 0).foldl (λcs (p:Value×Nat)=>cs.setIfInBounds (off+p.2) p.1) arr:=⟨_,rfl⟩;rw[<-harr2]at hfold hfe;have hcl:(ρ x).cells.length=size:=hsz
    have hl2:LL E (ym off (ρ x).cells cs) arr2.toList:=by
     refine⟨by rw[KI (by omega)];simp[hfold.1,hal],?_⟩;intro j c y hc hy;rw[KZ (by omega)]at hc;rw[pa,hfold.2 j]at hy;simp only[r6]at hy;split at hc
     ·rename_i hin;rw[gk (by omega)]at hy;exact hll.2 _ c y hc (by rw[<-hvs];exact hy)
     ·rename_i hin;rw[gf (by omega)]at hy;exact hl.2 j c y hc (by simpa using hy)
    have hone2:∀u∈arr2,u.oneCell'=true:=by
     intro u hu;obtain⟨j,hj⟩:=uq.1 hu;rw[hfold.2 j]at hj;split at hj
     ·have:=gh hj;rw[hvs]at this;exact hone u (by simpa using this)
     ·exact h1 u (rZ hj)
    have hno2:(ym off (ρ x).cells cs).all zB=true:=by
     rw[gA];intro c hc;unfold ym at hc;simp only[gO]at hc;rcases hc with(hc|hc)|hc
     ·exact gA.1 hno c (rG hc)
     ·exact gA.1 hnoc c hc
     ·exact gA.1 hno c (sG hc)
    obtain⟨arr',e1,e2,e3,e4⟩:=FV rest _ arr2 hl2 hone2 hno2 (λp hpm=>hp p (by simp[hpm])) cs' h;refine⟨arr',?_,e2,e3,e4⟩;simp only[rE,Instr.fill,hpl];rw[gf (by simp[hlen];omega),hfe];exact e1
   ·cases h
def F8(P:Program)(t:TypeId)(parts:List (Nat×C)):Option (List C):=
 match nV P t,P.underlying t with
 |some z,some (.array _ e)=>
  match P.info? e with
  |some ie=>AQ (λi=>some (i*ie.size,ie.size)) z parts
  |none=>none
 |some z,some (.struct fields)=>
  match fields.toList.mapM (λf=>(P.info? f.type).map λi=>(f.offset,i.size)) with
  |some places=>AQ (places.toArray[·]?) z parts
  |none=>none
 |_,_=>none
def qJ.build(t:TypeId)(parts:Array (Nat×Operand))(ho:o.op=.build t parts){cs:List C}(hb:F8 P t (parts.toList.map λp=>(p.1,ρ p.2))=some cs):qJ P o ρ H (.agg cs) H:=λw E σ hh hl K hk=>by
 have hp:∀p∈parts.toList,L E (ρ p.2) (σ p.2):=λp hpm=>hl p.2 (by
  simp only[ho,Op.operands];exact(List.mem_toArray).2 (gZ.2 ⟨p,hpm,rfl⟩))
 have main:∃arr,P.built t (parts.map λ(i,x)=>(i,σ x)).toList=some arr/\LL E cs arr.toList/\(∀u∈arr,u.oneCell'=true):=by
  have e0:(parts.map λ(i,x)=>(i,σ x)).toList=parts.toList.map λp=>(p.1,σ p.2):=by simp
  rw[e0];unfold F8 at hb;split at hb
  ·rename_i z n e hz hu;split at hb
   ·rename_i ie hie;obtain⟨it,zv,h1,h2,h3,h4,h5,h6,h7⟩:=DL hz E;obtain⟨arr,a1,a2,a3,a4⟩:=FV parts.toList z zv.cells h3 h4 h6 hp cs hb;exact⟨arr,by simp only[Program.built,h1,hu,h2,hie];exact a1,a2,a3⟩
   ·cases hb
  ·rename_i z fields hz hu;split at hb
   ·rename_i places hpl;obtain⟨it,zv,h1,h2,h3,h4,h5,h6,h7⟩:=DL hz E;obtain⟨arr,a1,a2,a3,a4⟩:=FV parts.toList z zv.cells h3 h4 h6 hp cs hb;exact⟨arr,by simp only[Program.built,h1,hu,h2,hpl];exact a1,a2,a3⟩
   ·cases hb
  ·cases hb
 obtain⟨arr,h1,h2,h3⟩:=main
 have hr:(execOp σ o).run P w=.ok (.value (.agg arr)) w:=by
  unfold execOp;simp only[ho,Sem.run_bind,run_build w t _ arr h1,Result.andThen_ok]
  rfl
 rw[hr];exact hk _ w E hh (.agg cs arr (by simpa using h2.1) (λi c y e1 e2=>h2.2 i c y e1 (by simpa using e2)) h3) (qA.refl w E H)
def qJ.len(cl:Call)(ho:o.op=.call cl)(hcl:cl.callee=.builtin .len)(x:Operand)(hx:cl.args= #[x]){t:TypeId}(ht:cl.argTypes= #[t]){e:TypeId}(hu:P.underlying t=some (.slice e))
 {n:Nat}(hn:GD (ρ x)=some n):qJ P o ρ H (.v (.int .i64 n)) H:=λw E σ hh hl K hk=>by
 have h0:=hl x (by simp[ho,Op.operands,Call.operands,hcl,hx])
 have hv:∃a cap,σ x=.slice a n cap:=by
  generalize ρ x=c at *;generalize σ x=u at *;cases h0 <;> first|(simp[GD]at hn;done)|(simp only[GD,gS]at hn;subst hn;exact⟨_,_,rfl⟩)
 obtain⟨a,cap,hv⟩:=hv
 have hr:(execOp σ o).run P w=.ok (.value (.int .i64 n)) w:=by
  unfold execOp;simp[ho,resolve,hcl,hx,ht,invoke,builtin,Builtin.len_,hv,run_underlying hu,goInt]
 rw[hr];exact hk _ w E hh (.v _ O) (qA.refl w E H)
def Ag(P:Program)(t:TypeId)(cs:List C)(off:Nat):Option C:=
 match P.underlying t,P.info? t with
 |some d,some i=>if CT d then (if decide (off+i.size<=cs.length) then some (.agg ((cs.drop off).take i.size)) else none) else cs[off]?
 |_,_=>none
def CM{E:Env}{w:World}{t:TypeId}{cs:List C}{ys:Array Value}(hll:LL E cs ys.toList)(h1:∀y∈ys,y.oneCell'=true){off:Nat}{c:C}(hc:Ag P t cs off=some c):
  ∃y,(part t ys off).run P w=.ok y w/\L E c y:=by
 unfold Ag at hc;split at hc
 ·rename_i d i hd hi;split at hc
  ·rename_i hag;split at hc
   ·rename_i hlen;simp only[gM]at hlen;cases hc
    have hy:=hll.1;simp at hy;refine⟨.agg (ys.extract off (off+i.size)),by simp[part,wH hd,hag,ju hi],.agg _ _ (by simp;omega) ?_ ?_⟩
    ·intro k c y hc hy';rw[g5]at hc;split at hc
     ·rename_i hk;rw[pX]at hc;rw[Array.getElem?_extract]at hy';split at hy'
      ·exact hll.2 _ c y hc (by simpa using hy')
      ·cases hy'
     ·cases hc
    ·intro y hym;obtain⟨k,hk⟩:=uq.1 hym;rw[Array.getElem?_extract]at hk;split at hk
     ·exact h1 y (rZ hk)
     ·cases hk
   ·cases hc
  ·rename_i hag;obtain⟨y,hy,hly⟩:=hll.get hc;rw[pa]at hy;exact⟨y,by simp[part,wH hd,hag,hy],hly⟩
 ·cases hc
def qJ.field(t:TypeId)(x:Operand)(f:Nat)(ho:o.op=.field t x f){fs:Array Field}{fd:Field}(ht:P.underlying t=some (.struct fs))(hf:fs[f]?=some fd){cs:List C}(hx:ρ x=.agg cs){c:C}
 (hc:Ag P fd.type cs fd.offset=some c):qJ P o ρ H c H:=λw E σ hh hl K hk=>by
 have h0:=hl x (by simp[ho,Op.operands]);rw[hx]at h0
 obtain⟨ys,hy,hll,h1⟩:∃ys,σ x=.agg ys/\LL E cs ys.toList/\∀y∈ys,y.oneCell'=true:=by
  generalize σ x=u at *;cases h0 with
  |agg _ ys h1 h2 h3=>exact⟨ys,rfl,⟨by simpa using h1,λi c y e1 e2=>h2 i c y e1 (by simpa using e2)⟩,h3⟩
 obtain⟨y,hr0,hly⟩:=CM (w:=w) hll h1 hc
 have hr:(execOp σ o).run P w=.ok (.value y) w:=by
  unfold execOp;simp[ho,Instr.field,run_underlying ht,hf,hy,asAgg,hr0]
 rw[hr];exact hk _ w E hh hly (qA.refl w E H)
def qJ.Ui(t:TypeId)(x y:Operand)(ho:o.op=.index t x y){n:Nat}{e:TypeId}{i:TypeInfo}(ht:P.underlying t=some (.array n e))(hi:P.info? e=some i){cs:List C}(hx:ρ x=.agg cs)
 {k:IntKind}{j:Int}(hy:ρ y=.v (.int k j))(h0:0<=j)(h1:j<n){c:C}(hc:Ag P e cs (j.toNat*i.size)=some c):qJ P o ρ H c H:=λw E σ hh hl K hk=>by
 have hlx:=hl x (by simp[ho,Op.operands]);have hly:=hl y (by simp[ho,Op.operands]);rw[hx]at hlx;rw[hy]at hly
 obtain⟨ys,hyx,hll,hone⟩:∃ys,σ x=.agg ys/\LL E cs ys.toList/\∀y∈ys,y.oneCell'=true:=by
  generalize σ x=u at *;cases hlx with
  |agg _ ys h1 h2 h3=>exact⟨ys,rfl,⟨by simpa using h1,λi c y e1 e2=>h2 i c y e1 (by simpa using e2)⟩,h3⟩
 have hyv:σ y=.int k j:=by generalize σ y=u at *;cases hly;rfl
 obtain⟨y',hr0,hly'⟩:=CM (w:=w) hll hone hc
 have hr:(execOp σ o).run P w=.ok (.value y') w:=by
  unfold execOp;simp[ho,Instr.index,asIntOf,hyv,run_underlying ht,hyx,h0,h1,ju hi,hr0]
 rw[hr];exact hk _ w E hh hly' (qA.refl w E H)
end
section
variable {P:Program} {o:Oper} {ρ:Operand->C} {H:zl}
def xN(H:zl):C->Option (Nat×List (List C))
 |.eS o sz rows=>if o == 0 || o == 1 then some (sz,rows) else none
 |.sl id hops sz lo len _=>match H[id]?,z7 H id hops with
  |some ob,some (sz',rows)=>if (sz' == sz) && (ob.kind == 2) && decide (lo+len<=rows.length) && ((rows.drop lo).take len).all (·.all zB) then some (sz,(rows.drop lo).take len) else none
  |_,_=>none
 |_=>none
structure k9(E:Env)(sz:Nat)(rows:List (List C))(vals:List Value):Prop where
 len:vals.length=rows.length*sz
 row:∀r∈rows,r.length=sz
 cell:∀i k c,cellAt rows i k=some c->∃u,vals[i*sz+k]?=some u/\L E.shut c u
 one:∀u∈vals,u.oneCell'=true
def Fo{rows:List (List C)}{sz:Nat}(hrow:∀r∈rows,r.length=sz){i k:Nat}{c:C}(h:cellAt rows i k=some c):i<rows.length/\k<sz:=by
 unfold cellAt at h;cases hx:rows[i]? with
 |none=>rw[hx]at h;cases h
 |some r=>
  rw[hx]at h;refine⟨(dY.1 hx).1,?_⟩;rw[<-hrow r (gh hx)];exact(dY.1 h).1
def EX{rows:List (List C)}{sz:Nat}(hrow:∀r∈rows,r.length=sz){i k:Nat}(hi:i<rows.length)(hk:k<sz):∃c,cellAt rows i k=some c:=by
 have hr:rows[i]?=some rows[i]:=by simp[hi]
 have hl:=hrow _ (gh hr);exact⟨rows[i][k]'(by omega),by simp only[cellAt,hr,gX];exact dZ (by omega)⟩
def Hn{sz n j:Nat}(h:j<n*sz):j / sz<n/\j%sz<sz/\j / sz*sz+j%sz=j:=by
 have hsz:0<sz:=by rcases sM sz with rfl|h' <;> simp_all
 refine⟨Nat.div_lt_of_lt_mul (by rw[sU];exact h),Nat.mod_lt _ hsz,?_⟩;rw[sU];exact Nat.div_add_mod j sz
def k9.append{E:Env}{sz:Nat}{rows rows':List (List C)}{vals vals':List Value}(h:k9 E sz rows vals)(h':k9 E sz rows' vals'):k9 E sz (rows++rows') (vals++vals') where
 len:=by rw[gE,gE,h.len,h'.len,rj]
 row r hr:=by rcases gO.1 hr with hr|hr;exact h.row r hr;exact h'.row r hr
 cell i k c hc:=by
  by_cases hi:i<rows.length
  ·have hc':cellAt rows i k=some c:=by unfold cellAt at hc ⊢;rw[gz hi]at hc;exact hc
   obtain⟨u,hu,hl⟩:=h.cell i k c hc';exact⟨u,by rw[gz ((dY.1 hu).1)];exact hu,hl⟩
  ·have hc':cellAt rows' (i-rows.length) k=some c:=by unfold cellAt at hc ⊢;rw[gK (by omega)]at hc;exact hc
   obtain⟨u,hu,hl⟩:=h'.cell _ k c hc';refine⟨u,?_,hl⟩;have hge:rows.length*sz<=i*sz:=pU _ (by omega);rw[gK (by rw[h.len];omega),h.len];have:i*sz+k-rows.length*sz=(i-rows.length)*sz+k:=by rw[Nat.sub_mul];omega
   rw[this];exact hu
 one u hu:=by rcases gO.1 hu with hu|hu;exact h.one u hu;exact h'.one u hu
def yq{w:World}{E:Env}(h:qd w E H){c:C}{y:Value}(hl:L E c y){sz:Nat}{rows:List (List C)}(hr:xN H c=some (sz,rows)):
  (rows=[]/\y=.slice none 0 0)\/∃a cap vals,y=.slice (some a) rows.length cap/\rows.length<=cap/\k9 E sz rows vals/\(∀(j:Nat) u,vals[j]?=some u->w.cell? (a.add j)=some u):=by
 cases hl with
 |xq o sz' ho a=>
  simp only[xN]at hr;split at hr
  ·cases hr
   cases a with
   |none=>exact .inl ⟨rfl,rfl⟩
   |some a=>exact .inr ⟨a,0,[],rfl,gD _,⟨by simp,by simp,by simp[cellAt],by simp⟩,by simp⟩
  ·cases hr
 |eS o sz' rows' b off cap us ho hc hsz hst hL=>
  simp only[xN]at hr;split at hr
  ·cases hr
   right
   have key:∀j,j<rows.length*sz->∃c,cellAt rows (j / sz) (j%sz)=some c/\E.St b (off+j)=some (us (j / sz) (j%sz)):=by
    intro j hj;obtain⟨h1,h2,h3⟩:=Hn hj;obtain⟨c,hcc⟩:=EX hsz h1 h2;refine⟨c,hcc,?_⟩;have hr0:rows[j / sz]?=some rows[j / sz]:=by simp[h1]
    have:=hst (j / sz) _ (j%sz) c hr0 (by unfold cellAt at hcc;rw[hr0]at hcc;exact hcc);rw[r9,h3]at this;exact this
   refine⟨_,cap,(List.range (rows.length*sz)).map (λj=>us (j / sz) (j%sz)),rfl,hc,⟨by simp,hsz,?_,?_⟩,?_⟩
   ·intro i k c hcc;obtain⟨h1,h2⟩:=Fo hsz hcc;have hr0:rows[i]?=some rows[i]:=by simp[h1]
    have eU:i*sz+k<rows.length*sz:=by
     have:(i+1)*sz<=rows.length*sz:=pU _ h1;rw[rj]at this;omega
    have e1:(i*sz+k) / sz=i:=by rw[sU,Nat.mul_add_div (by omega),Nat.div_eq_of_lt h2];rfl
    have e2:(i*sz+k)%sz=k:=by rw[sU,eP,ux h2]
    refine⟨us i k,by simp[eU,e1,e2],hL i _ k c hr0 (by unfold cellAt at hcc;rw[hr0]at hcc;exact hcc)⟩
   ·intro u hu;obtain⟨j,hj,rfl⟩:=gZ.1 hu;obtain⟨c,_,hs⟩:=key j (by simpa using hj);exact(h.qs _ _ _ hs).2
   ·intro j u hj;rw[gj]at hj;cases hjr:(List.range (rows.length*sz))[j]? with
    |none=>rw[hjr]at hj;cases hj
    |some j'=>
     rw[hjr]at hj;obtain⟨hjlt,hj'⟩:=dY.1 hjr;simp at hj' hjlt;subst hj';cases hj
     obtain⟨c,_,hs⟩:=key j hjlt;rw[xC];exact(h.qs _ _ _ hs).1
  ·cases hr
 |sl id hops sz' lo len full cap hn hlen hf hf'=>
  simp only[xN]at hr;split at hr
  rotate_left
  ·cases hr
  rename_i ob sz2 rows2 hob hb;split at hr
  rotate_left
  ·cases hr
  rename_i hcond;simp only[gC,pq,gM,gA]at hcond;obtain⟨⟨⟨rfl,hkd⟩,hfit⟩,hno⟩:=hcond;cases hr
  right
  have hB:=h.fj id ob hops _ rows2 hob hb;obtain⟨cur,e,hg,hcs,hcell⟩:=hB.fj;have hrl:((rows2.drop lo).take len).length=len:=by simp;omega
  have hsub:∀i k,cellAt ((rows2.drop lo).take len) i k=if i<len then cellAt rows2 (lo+i) k else none:=by
   intro i k;unfold cellAt;rw[g5];split
   ·rw[pX]
   ·rfl
  have hrow:∀r∈(rows2.drop lo).take len,r.length=sz:=λr hr=>hB.row r (sG (rG hr))
  have key:∀j,j<len*sz->∃c u,cellAt ((rows2.drop lo).take len) (j / sz) (j%sz)=some c/\cur[lo*sz+j]?=some u/\L E.shut c u/\u.oneCell'=true:=by
   intro j hj;obtain⟨h1,h2,h3⟩:=Hn hj;obtain⟨c,hcc⟩:=EX hrow (by rw[hrl];exact h1) h2;have hcc2:=hcc;rw[hsub,gk h1]at hcc2;obtain⟨u,hu,ho⟩:=hcell _ _ c hcc2
   have hnc:zB c=true:=by
    unfold cellAt at hcc;cases hx:((rows2.drop lo).take len)[j / sz]? with
    |none=>rw[hx]at hcc;cases hcc
    |some r=>
     rw[hx]at hcc;exact hno r (gh hx) c (gh hcc)
   rw[qW.loose hnc]at ho;refine⟨c,u,hcc,?_,by simpa [Env.at,hkd] using ho.1,ho.2⟩;have:(lo+j / sz)*sz+j%sz=lo*sz+j:=by rw[rj];omega
   rw[<-this];exact hu
  have hlen2:len=((rows2.drop lo).take len).length:=hrl.symm;refine⟨_,cap,(List.range (len*sz)).map (λj=>cur.getD (lo*sz+j) undef),by rw[<-hlen2],by rw[<-hlen2];exact hlen,⟨by simp[hrl],hrow,?_,?_⟩,?_⟩
  ·intro i k c hcc;obtain⟨h1,h2⟩:=Fo hrow hcc;rw[hrl]at h1
   have eU:i*sz+k<len*sz:=by
    have:(i+1)*sz<=len*sz:=pU _ h1;rw[rj]at this;omega
   obtain⟨c',u,h3,h4,h5,_⟩:=key _ eU;have e1:(i*sz+k) / sz=i:=by rw[sU,Nat.mul_add_div (by omega),Nat.div_eq_of_lt h2];rfl
   have e2:(i*sz+k)%sz=k:=by rw[sU,eP,ux h2]
   rw[e1,e2,hcc]at h3;cases h3
   refine⟨u,?_,h5⟩;simp only[gj,rW eU,gF,pG,h4,pL]
  ·intro u hu;obtain⟨j,hj,rfl⟩:=gZ.1 hu;obtain⟨c,u,_,h4,_,h6⟩:=key j (by simpa using hj);simpa [pG,h4] using h6
  ·intro j u hj;rw[gj]at hj;cases hjr:(List.range (len*sz))[j]? with
   |none=>rw[hjr]at hj;cases hj
   |some j'=>
    rw[hjr]at hj;obtain⟨hjlt,hj'⟩:=dY.1 hjr;simp at hj' hjlt;subst hj';obtain⟨c,u',_,h4,_,_⟩:=key j hjlt;simp only[gF,pG,h4,pL,gS]at hj;subst hj;rw[xC];unfold World.cell?;rw[hg];simpa using h4
 |_=>simp[xN]at hr
end
abbrev hU(l:List C):List C:=.za::.za::.za::.za::.za::.za::.za::.za::l
abbrev jp(l:List C):List C:=hU (hU (hU (hU l)))
abbrev tf:List C:=[.ref 5 [] 8 0 0,.ref 6 [] 44 0 0]
abbrev tj:List C:=[.ref 0 [] 8 0 0,.ref 1 [] 44 0 0]
def zz{H:zl}{q:Prop}(h:q):H=H/\q:=⟨rfl,h⟩
def dd{p q:Prop}(h:q)(e:q→p:=by intro zh;(conv=>whnf);(try apply zz;conv=>whnf);exact zh):p:=e h
def ya{p q:Prop}(h:p):(true=true→p)/\(true=false→q):=⟨λ_=>h,λh=>nomatch h⟩
def yb{p q:Prop}(h:q):(false=true→p)/\(false=false→q):=⟨λh=>(nomatch h),λ_=>h⟩
def hC{p:Prop}(n:p:=by (conv=>whnf);(repeat (refine⟨rfl,?_⟩;(conv=>whnf)));exact trivial):p:=n
def hZ{g q:Prop}(h:q)(e:q->g:=by intro zh;(repeat (refine⟨rfl,?_⟩;(conv=>whnf)));exact zh):g:=e h
def tc{g q:Prop}(h:q)(e:q->g:=by intro zh;(repeat ((first|apply ya|apply yb);(conv=>whnf);(try apply zz;conv=>whnf)));exact zh):g:=e h
def td{α:Type}{l:List α}{k:Nat}{x:α}{P:α->Prop}{q:Prop}(hg:l[k]?=some x)(h:q)(e:q->P x:=by intro zh;(conv=>whnf);(try apply zz;conv=>whnf);exact zh):0<=(k:Int)/\∃r,l[(k:Int).toNat]?=some r/\P r:=⟨sN k,x,hg,e h⟩
def uA{a b p s q:Prop}(h:q)(n:b->False:=by intro h;first|(simp[hpc]at h;done)|(have h:=gH h;omega)|(have h:=rk h;omega))(e:q->p:=by intro zh;(conv=>whnf);(try apply zz;conv=>whnf);exact zh):(a->p)/\(b->s):=⟨λ_=>e h,λx=>(n x).elim⟩
def uB{a b p s q:Prop}(h:q)(n:a->False:=by intro h;first|(simp[hpc]at h;done)|(have h:=gH h;omega)|(have h:=rk h;omega))(e:q->s:=by intro zh;(conv=>whnf);(try apply zz;conv=>whnf);exact zh):(a->p)/\(b->s):=⟨λx=>(n x).elim,λ_=>e h⟩
def uC{g q:Prop}(h:q)(e:q->g:=by intro zh;(first|apply ya|apply yb);(conv=>whnf);(try apply zz;conv=>whnf);exact zh):g:=e h
def uD{g q:Prop}(h:q)(e:q->g:=by intro zh;(conv=>whnf);(refine⟨λh=>absurd h (by simp),λ_=>?_⟩);(conv=>whnf);(try apply zz;conv=>whnf);(refine⟨by simp,?_⟩);(conv=>whnf);exact zh):g:=e h
def uE{g q:Prop}(h:q)(e:q->g:=by intro zh;refine .inl ⟨⟨false,[],[],[]⟩,by kernel_rfl,?_⟩;(conv=>whnf);exact zh):g:=e h
def uF{a b p s q:Prop}(h:q)(n:b->False:=by intro h;exact absurd h (by simp;omega))(e:q->p:=by intro zh;(conv=>whnf);(try apply zz;conv=>whnf);exact zh):(a->p)/\(b->s):=⟨λ_=>e h,λx=>(n x).elim⟩
def uG{g q:Prop}(h:q)(e:q->g:=by intro zh;refine⟨λh=>absurd h (by simp),λ_=>?_⟩;(conv=>whnf);(try apply zz;conv=>whnf);exact zh):g:=e h
def uH{g q:Prop}(h:q)(e:q->g:=by intro zh;(conv=>whnf);exact zh):g:=e h
def uI{g:Prop}(e:g:=by exact⟨.inl O,_,.refl _,rfl⟩):g:=e
def uJ{g:Prop}(e:g:=by exact⟨.inl O,_,.refl _,rfl,rfl⟩):g:=e
def uK{p q:Prop}(n:p->q:=by intro h;dsimp only at h;omega):p->q:=n
def uL{p:Prop}(n:p:=by dsimp only;omega):p:=n
def uM{p:Prop}(n:p:=by (try dsimp only);(repeat' split) <;> omega):p:=n
def uN{b b2:Bool}(h:b=b2):some (C.v (Value.bool b))=some (C.v (Value.bool b2)):=rz (λb=>some (C.v (Value.bool b))) h
def uO{p:Prop}(n:p:=by exact⟨tm.listen,tm.word,tm.link,tm.host,tm.path,tm.d0,tm.d1,tm.cfg,tm.mz⟩):p:=n
def uP{p:Prop}(n:p:=by exact⟨tm.listen,tm.word,tm.link,tm.host,tm.path,tm.d0,tm.d1,tm.cfg,(λh=>absurd ((show m.op.kind=6 from h).symm.trans hk) (by decide))⟩):p:=n
def uQ{p:Prop}(n:p:=by exact⟨su.world,su.zf,su.done,su.version,su.fH,su.zj,su.fE,su.end_,su.fL,su.other,su.slot,su.listen,su.i,su.k⟩):p:=n
def uR{p:Prop}(n:p:=by exact⟨su.world,su.zf,su.done,su.version,su.fH,su.zj,su.fE,su.end_,su.fL,su.other,su.slot,su.listen,(by show 0<=m.i+1;omega),su.k⟩):p:=n
def uS{p:Prop}(n:p:=by exact⟨su.world,su.zf,su.done,su.version,su.fH,su.zj,su.fE,su.end_,su.fL,su.other,su.slot,su.listen,gR _,su.k⟩):p:=n
def uT{p:Prop}(n:p:=by (show zL _ _::zL _ _::zL _ ⟨1,0,5,_,0⟩::zL _ ⟨1,0,2,_,0⟩::zL _ ⟨1,0,3,_,0⟩::_=_);(rw[zF (enc:=zN) (λ_=>O),zF (enc:=zK) (λ_=>O),zF (enc:=zD) (λ_=>O)]);rfl):p:=n
def uU{p:Prop}(n:p:=by (show zE _ _::zE _ _::zE _ ⟨1,0,5,_,0⟩::zE _ ⟨1,0,2,_,0⟩::zE _ ⟨1,0,3,_,0⟩::_=_);(rw[zy (enc:=zN) (λ_=>O),zy (enc:=zK) (λ_=>O),zy (enc:=zD) (λ_=>O)]);rfl):p:=n
def uV{p:Prop}(n:p:=by show _::_::_::_::_::zE _ ⟨1,0,5,_,0⟩::zE _ ⟨1,0,2,_,0⟩::zE _ ⟨1,0,3,_,0⟩::_=_;rw[zy (enc:=zN) (λ_=>O),zy (enc:=zK) (λ_=>O),zy (enc:=zD) (λ_=>O)];rfl):p:=n
def uW{p:Prop}(n:p:=by simp only[gE,pC,r8];omega):p:=n
def uX{p:Prop}(n:p:=by show(1:Int)≠0;decide):p:=n
def uY{p:Prop}(n:p:=by simp[ho,Op.operands]):p:=n
def uZ{p:Prop}(n:p:=by simpa using e2):p:=n
def tB{p:Prop}(n:p:=by simp[ho,Op.operands,Call.operands,ht.callee,ht.args]):p:=n
def tD{p:Prop}(n:p:=by simpa using h1):p:=n
def tE{p:Prop}(n:p:=by show zL _ _::zL _ _::zL _ ⟨1,0,5,_,0⟩::zL _ ⟨1,0,2,_,0⟩::zL _ ⟨1,0,3,_,0⟩::_=_;rw[zF (enc:=zN) (λ_=>O),zF (enc:=zK) (λ_=>O),zF (enc:=zD) (λ_=>O)];rfl):p:=n
def tG{p:Prop}(n:p:=by rw[hs.heap.n];exact hs.base):p:=n
def tH{p:Prop}(n:p:=by rw[<-hh.n];exact hi):p:=n
def tI{p:Prop}(n:p:=by simp only[gE,pC];omega):p:=n
def tJ{p:Prop}(n:p:=by simp only[gE];omega):p:=n
def tK{p:Prop}(n:p:=by rw[hx];exact gW hk):p:=n
def tL{p:Prop}(n:p:=by show _::_::_::_::_::zE _ ⟨1,0,1,_,0⟩::_=_;rw[zy (enc:=zP) (λ_=>O)];rfl):p:=n
def tM{p:Prop}(n:p:=by rw[show B=0 from by simpa using h];rfl):p:=n
def tN{p:Prop}(n:p:=by show(2:Int)≠0;decide):p:=n
def tO{p:Prop}(n:p:=by subst e;simp[ho,Op.operands]):p:=n
def tP{p:Prop}(n:p:=by show(3:Int)≠0;decide):p:=n
def tR{p:Prop}(n:p:=by simpa using h2):p:=n
def tS{p:Prop}(n:p:=by rw[hh.n];exact hi):p:=n
def tT{p:Prop}(n:p:=by simpa using this.1):p:=n
def tU{p:Prop}(n:p:=by show 0+1<=1;decide):p:=n
end Go.Ab
