import Derived.WalkKit
import Derived.Still
import Derived.LoopN
import Derived.LoopNIn
import Derived.ControlIn
import Derived.CallsIn
import Derived.TacticsIn
import Derived.OrdersIn
import Derived.Scope
import Derived.RangeFuncLeaves
import Derived.RangeFuncRecord
set_option linter.all false
set_option maxRecDepth 100000
set_option maxHeartbeats 4000000
def V{α:Sort _}{a:α}:a=a:=rfl
def ah{p:Prop}(n:p:=by omega):p:=n
def aj{p:Prop}(n:p:=by simp):p:=n
def an{p:Prop}(n:p:=by kernel_rfl):p:=n
def aq{p:Prop}(n:p:=by decide):p:=n
def aw{p:Prop}(n:p:=by simp;omega):p:=n
def aH{p:Prop}(n:p:=by simp[maxLen];omega):p:=n
def aA{p:Prop}(n:p:=by rw[hlg];show(k+1)*64<=_;omega):p:=n
def ay{p:Prop}(n:p:=by rw[hlg];simp[maxLen];omega):p:=n
def aI{p:Prop}(n:p:=by show _*8<=_;simp;omega):p:=n
def au{p:Prop}(n:p:=by rw[hx];exact dn hk):p:=n
def ax{p:Prop}(n:p:=by rw[dO hk,<-hx];simp):p:=n
def aL{p:Prop}(n:p:=by rw[dO hj,<-hg];simp):p:=n
def aN{p:Prop}(n:p:=by rw[dO hn,<-he];simp):p:=n
def aS{p:Prop}(n:p:=by rw[dO hk,<-hv];simp):p:=n
def aX{p:Prop}(n:p:=by rw[lC];show(k+1)*24<=_;omega):p:=n
def aD{p:Prop}(n:p:=by simp at h1 h2;omega):p:=n
def bO{p:Prop}(n:p:=by intro u hu;simp at hu;subst hu;rfl):p:=n
def aW{p:Prop}(n:p:=by rw[lC];simp[maxLen];omega):p:=n
def bz{p:Prop}(n:p:=by simp[h2]):p:=n
def bD{p:Prop}(n:p:=by simp;intro e;subst e;exact h (gm ..)):p:=n
def aV{p:Prop}(n:p:=by rw[dO hk,<-hr];simp):p:=n
def bn{p:Prop}(n:p:=by have h1:=gk hB;have h2:=gk hn;simp;omega):p:=n
def bM{p:Prop}(n:p:=by simp only[sy,f.CV (by rw[<-f.h0.n];exact hi)]):p:=n
def al{p:Prop}(n:p:=by simp[rF]):p:=n
def ai{p:Prop}(n:p:=by show m.i+1=_;omega):p:=n
def aK{p:Prop}(n:p:=by rw[hg];exact dn hj):p:=n
def aM{p:Prop}(n:p:=by rw[he];exact dn hn):p:=n
def ba{p:Prop}(n:p:=by rw[g7];rfl):p:=n
def bk{p:Prop}(n:p:=by rw[h]at hr;cases hr):p:=n
def bh{p:Prop}(n:p:=by rw[hrows.len,hcs,<-dN];exact dJ _ hroom):p:=n
def bq{p:Prop}(n:p:=by simp[ho,hv,hc,eqGuard,binOp,run_equal_slice_nil w t e _ len cap ht]):p:=n
def aP{p:Prop}(n:p:=by rw[lE];show(n+1)*40<=_;omega):p:=n
def aR{p:Prop}(n:p:=by rw[lG];show(j+1)*32<=_;omega):p:=n
def aT{p:Prop}(n:p:=by show _*40<=_;simp;omega):p:=n
def aY{p:Prop}(n:p:=by show _*24<=_;simp;omega):p:=n
def bE{p:Prop}(n:p:=by rcases gS.1 h with h|h;exact absurd h.symm e;exact h):p:=n
def bm{p:Prop}(n:p:=by have:=hs.base;simp;omega):p:=n
def ao{p:Prop}(n:p:=by unfold vj;simp at h1;simp[h1]):p:=n
def aC{p:Prop}(n:p:=by simp at q1 q2;omega):p:=n
def bd{p:Prop}(n:p:=by rw[hh.n];exact rF):p:=n
def bo{p:Prop}(n:p:=by show _<=w2.heap.size;rw[a4];exact g.size):p:=n
def bB{p:Prop}(n:p:=by rw[<-l1];exact h2):p:=n
def bR{p:Prop}(n:p:=by rw[pT];simp[fq,mz,ux,ha,@eq_comm _ 1 b.kind]):p:=n
def bt{p:Prop}(n:p:=by simp[ho,Op.operands,Call.operands,hcl]):p:=n
def bN{p:Prop}(n:p:=by rw[hh.n];exact hi):p:=n
def bA{p:Prop}(n:p:=by unfold zB;rw[h2];exact(show xh sz0 rows0 hops=_ from hg')):p:=n
def aO{p:Prop}(n:p:=by rw[lE];simp[maxLen];omega):p:=n
def aQ{p:Prop}(n:p:=by rw[lG];simp[maxLen];omega):p:=n
def bw{p:Prop}(n:p:=by simp[h1]):p:=n
def bC{p:Prop}(n:p:=by have:=h1;simp at this;omega):p:=n
def bb{p:Prop}(n:p:=by rw[hk];decide):p:=n
def aB{p:Prop}(n:p:=by simp at q1;omega):p:=n
def bc{p:Prop}(n:p:=by have:=g.counts.1;have:=g.pins;omega):p:=n
def bj{p:Prop}(n:p:=by rw[qA hs.tmps hw];decide):p:=n
def bu{p:Prop}(n:p:=by intro hb;simp[hb]at hcb):p:=n
def bx{p:Prop}(n:p:=by simpa [Env.at] using ho.1):p:=n
def br{p:Prop}(n:p:=by simpa [Nat.blt_eq,Env.cut] using h):p:=n
def ar{p:Prop}(n:p:=by unfold qj;omega):p:=n
def aJ{p:Prop}(n:p:=by rw[hv];exact dn hk):p:=n
def aU{p:Prop}(n:p:=by rw[hr];exact dn hk):p:=n
def bp{p:Prop}(n:p:=by rw[hh.n,hs.heap.n];exact hs.base):p:=n
def bL{p:Prop}(n:p:=by rw[<-f.h0.n];exact hi):p:=n
def aZ{p:Prop}(n:p:=by have:=dq h;omega):p:=n
def aE{p:Prop}(n:p:=by unfold vX;exact h.symm):p:=n
def bG{p:Prop}(n:p:=by rw[he,c7 h2]):p:=n
def bQ{p:Prop}(n:p:=by show(0:Int)<_;omega):p:=n
def bf{p:Prop}(n:p:=by simp only[maxLen]at hm;omega):p:=n
def bP{p:Prop}(n:p:=by show(0<=m.pc/\m.pc<=6)\/_;omega):p:=n
def bS{p:Prop}(n:p:=by show _*8<=_;simp[hvk];omega):p:=n
def bF{p:Prop}(n:p:=by simp[h3]):p:=n
def bH{p:Prop}(n:p:=by simp at h6 h7|-;omega):p:=n
def bJ{p:Prop}(n:p:=by simp at h8 h9|-;omega):p:=n
def aF{p:Prop}(n:p:=by simp at h2;omega):p:=n
def aG{p:Prop}(n:p:=by simp[h]):p:=n
def bT{p:Prop}(n:p:=by simp at h2|-;omega):p:=n
def ak{p q:Prop}(h:q)(e:q->p:=by intro zh;simpa using zh):p:=e h
def bU{p:Prop}(n:p:=by refine hO ?_;exact⟨.inl V,_,_,.refl _,rfl,cE 2⟩):p:=n
def bV{p:Prop}(n:p:=by exact⟨.inl V,_,zm.var 1 V V V (.cons (.refl _) (.cons (.refl _) (.cons (.refl _) (.cons (WC.nil 0 1) (.cons (WC.nil 0 5) (.cons (WC.nil 0 4) (.cons (WC.nil 0 1) (.cons (WC.nil 0 3) .nil)))))))),rfl⟩):p:=n
def bW{p:Prop}(n:p:=by rw[e];refine dd ?_;refine hU ?_;exact uI):p:=n
def bX{p:Prop}(n:p:=by exact h.elim):p:=n
def bY{p:Prop}(n:p:=by rw[m6];refine⟨λh=>absurd h aj,λ_=>dd ?_⟩;refine⟨aj,uH ?_⟩;rw[dy];refine⟨rfl,.inr V,aQ,aR,dd ?_⟩;refine .inl ⟨rfl,?_,trivial⟩;rw[zk ah,eG];exact cE 7):p:=n
def bZ{p:Prop}(n:p:=by exact⟨_,_,zm.mask [0,1,4,7,8] _ _,0,aj,rfl,aj,rfl⟩):p:=n
def b9{p:Prop}(n:p:=by exact⟨.inl V,_,zm.keep [3] 1 _ _ V V V V,rfl,rfl⟩):p:=n
def cb{p:Prop}(n:p:=by refine .inl ⟨.inl V,.inr V,aH,aI,uH ?_⟩;refine⟨rfl,.inr V,aO,aP,dd ?_⟩;refine .inl ⟨rfl,?_,trivial⟩;rw[zk ah,eE];exact cE 9):p:=n
def cf{p:Prop}(n:p:=by exact⟨.inl V,_,zm.cell 2 V (WC.nil 0 1),rfl⟩):p:=n
def cg{p:Prop}(n:p:=by rw[zk ah];exact cE 0):p:=n
def ck{p:Prop}(n:p:=by refine .inl ⟨rfl,?_,trivial⟩;rw[zk ah];exact cE 2):p:=n
def cm{p:Prop}(n:p:=by rw[hr];exact hk _ w E hh (.v _ V) (zR.refl w E H)):p:=n
def cn{p:Prop}(n:p:=by refine⟨λh=>absurd h aj,λ_=>dd ?_⟩;refine⟨aj,uH ?_⟩;exact uI):p:=n
def cp{p:Prop}(n:p:=by refine .inl ⟨rfl,?_,trivial⟩;rw[zk ah,eC];exact cE 7):p:=n
def cq{p:Prop}(n:p:=by rw[zk ah];exact cE 1):p:=n
def cr{p:Prop}(n:p:=by refine dd ?_;exact uI):p:=n
def ct{p:Prop}(n:p:=by exact⟨_,_,.refl _,rfl,.inl ⟨rfl,rfl,rfl⟩⟩):p:=n
def cv{p:Prop}(n:p:=by refine .inl ⟨rfl,?_,trivial⟩;exact cg):p:=n
def cw{p:Prop}(n:p:=by refine uD ?_;rw[kj aj];exact⟨.inl V,_,zm.rJ [1] [6] _ _ V V V V,rfl,rfl⟩):p:=n
def cx{p:Prop}(n:p:=by exact⟨.inl V,_,zm.wI 2 V V (.inr V) aj (shut_map (λ_=>V) (x::l)),rfl⟩):p:=n
def cy{p:Prop}(n:p:=by have:=(cW.1 ho).1;simp at this;omega):p:=n
def cz{p:Prop}(n:p:=by have he:=he.trans (c6 (by simp[ha]));refine uD ?_;refine .inl ⟨rfl,?_,(λj hj=>by (by_cases e:j=k);(subst e;exact he);(exact hr j ah))⟩;exact cq):p:=n
def cA{p:Prop}(n:p:=by refine dd ?_;exact uJ):p:=n
def cB{p:Prop}(n:p:=by refine zm.trans (zm.xc 7 1 141 3 V V (.inl V) V V) ?_;exact cC):p:=n
def cD{p:Prop}(n:p:=by refine zm.trans (zm.xc 5 3 71 2 V V (.inl V) V V) ?_;exact cC):p:=n
def cF{p:Prop}(n:p:=by exact hr j hj ah):p:=n
def cG{p:Prop}(n:p:=by exact .agg _ ys (ak this.1) (λi c y e1 e2=>this.2 i c y e1 uS) h3):p:=n
def cH{p:Prop}(n:p:=by exact(g2.frame k (dD hk g.size) λhc=>(g.own k hc).elim (λh=>by omega) ho).trans (g.frame k hk ho)):p:=n
def cI{p:Prop}(n:p:=by rw[e];exact uI):p:=n
def cJ{p:Prop}(n:p:=by refine .inl ⟨rfl,?_,trivial⟩;exact cE 1):p:=n
def cK{p:Prop}(n:p:=by exact .fn f _ _ ys zs (ak t1.1) (ak t2.1) (λi c y e1 e2=>t1.2 i c y e1 uS) (λi c y e1 e2=>t2.2 i c y e1 uS)):p:=n
def cL{p:Prop}(n:p:=by rw[zk ah];exact cE 2):p:=n
def cM{p:Prop}(n:p:=by exact hl a (by simp[ho,Op.operands,Call.operands];right;have:=cZ ha;simpa using this)):p:=n
def cN{p:Prop}(n:p:=by simp at this;omega):p:=n
def cO{p:Prop}(n:p:=by have:=(hno4 h4).1;omega):p:=n
def cP{p:Prop}(n:p:=by have g:=g1.trans g2;exact⟨E1,⟨hR,hs.tmps.mono g.le,hs.defers.grow hs.heap g,bm⟩,g.sB uW⟩):p:=n
def cQ{p:Prop}(n:p:=by exact this):p:=n
def cR{p:Prop}(n:p:=by exact hno j ah x hj):p:=n
def cS{p:Prop}(n:p:=by exact hno j ah r hr):p:=n
def cT{p:Prop}(n:p:=by refine .inr ⟨aj,uH ?_⟩;exact uI):p:=n
def cU{p:Prop}(n:p:=by refine uD ?_;exact uI):p:=n
def cV:=@List.getElem?_eq_getElem
def cW:=@List.getElem?_eq_some_iff
def cX:=@List.getElem?_map
def cY:=@List.length_map
def cZ:=@List.mem_of_getElem?
def c6:=@if_neg
def c7:=@if_pos
def c8:=@List.all_eq_true
def c9:=@Bool.and_eq_true
def da:=@List.getElem?_append_left
def db:=@Array.getElem?_eq_some_iff
def dc:=@Option.map_some
def de:=@Nat.le_refl
def df:=@List.getElem?_set
def dg:=@List.getElem?_append_right
def dh:=@List.findIdx?_eq_some_iff_getElem
def di:=@List.mem_iff_getElem?
def dj:=@Option.some.injEq
def dk:=@List.mem_iff_getElem
def dm:=@decide_eq_true_eq
def dn:=@List.getElem_mem
def dp:=@of_decide_eq_false
def dq:=@of_decide_eq_true
def dt:=@List.findIdx?_eq_none_iff
def du:=@List.getElem?_take
def dv:=@List.any_eq_false
def dw:=@Array.getElem?_toList
def dx:=@Nat.not_lt_zero
def dy:=@List.take_length
def dz:=@decide_eq_false_iff_not
def dA:=@Nat.zero_le
def dB:=@Option.bind_some
def dC:=@List.mem_singleton
def dD:=@Nat.lt_of_lt_of_le
def dE:=@Array.getD_eq_getD_getElem?
def dF:=@Nat.zero_add
def dG:=@Bool.not_eq_true'
def dH:=@beq_iff_eq
def dI:=@List.getElem?_eq_none_iff
def dJ:=@Nat.mul_le_mul_right
def dK:=@Nat.le_trans
def dL:=@Option.getD_some
def dM:=@List.getElem?_drop
def dN:=@Nat.add_mul
def dO:=@List.take_succ_eq_append_getElem
def dP:=@Option.bind_eq_some_iff
def dQ:=@List.any_eq_true
def dR:=@List.getElem?_modify
def dS:=@List.ext_getElem?
def dT:=@List.mem_map
def dU:=@List.mem_append
def dV:=@List.mem_cons_of_mem
def dW:=@Bool.or_eq_false_iff
def dX:=@List.length_append
def dY:=@decide_eq_false
def dZ:=@List.getElem?_eq_none
def ga:=@List.getElem_take
def gd:=@Array.eq_empty_of_size_eq_zero
def gf:=@Bool.or_eq_true
def gh:=@Option.map_eq_some_iff
def gi:=@List.all_eq_false
def gj:=@decide_eq_true
def gk:=@Nat.le_of_ble_eq_true
def gm:=@List.mem_cons_self
def gp:=@List.getElem?_cons_succ
def gu:=@Nat.sub_zero
def gy:=@congrArg
def gz:=@Array.getElem?_eq_getElem
def gA:=@List.length_cons
def gC:=@Int.le_refl
def gD:=@Bool.false_or
def gE:=@Option.map_eq_map
def gF:=@List.getElem?_range
def gG:=@List.mem_range
def gH:=@List.drop_zero
def gI:=@Array.mem_of_getElem?
def gJ:=@List.mem_or_eq_of_mem_set
def gK:=@List.mem_of_mem_take
def gL:=@List.append_assoc
def gM:=@Nat.add_assoc
def gN:=@List.length_eq_zero_iff
def gO:=@Array.getElem?_eq_none
def gP:=@List.take_of_length_le
def gQ:=@Array.getElem?_modify
def gR:=@List.append_nil
def gS:=@List.mem_cons
def gT:=@Bool.and_false
def gU:=@Nat.sub_self
def gV:=@Array.all_toList
def gW:=@List.eq_of_mem_replicate
def gX:=@Array.toList_append
def gY:=@Nat.lt_irrefl
def gZ:=@List.map_take
def g4:=@List.map_append
def g5:=@Bool.not_eq_false'
def g6:=@Nat.lt_trichotomy
def g7:=@List.map_set
def g8:=@Nat.ne_of_lt
def g9:=@List.getElem?_toArray
def pa:=@Nat.mul_comm
def pb:=@List.mapM_cons
def pd:=@Bool.and_eq_false_iff
def pf:=@List.mem_of_mem_drop
def ph:=@Array.toList_inj
def pj:=@List.range_eq_range'
def pk:=@List.map_cons
def pn:=@List.all_cons
def po:=@Array.getElem?_append_left
def pq:=@List.exists_cons_of_ne_nil
def pr:=@Nat.mul_one
def pt:=@Int.toNat_of_nonneg
def pw:=@List.replicate_succ
def px:=@List.takeWhile_cons
def pz:=@List.drop_eq_getElem_cons
def pA:=@Nat.zero_mul
def pB:=@List.mem_replicate
def pC:=@Nat.eq_zero_or_pos
def pD:=@Nat.lt_or_ge
def pE:=@Array.setIfInBounds_comm
def pF:=@List.findIdx?_cons
def pG:=@Nat.add_zero
def pH:=@List.take_left
def pI:=@List.getElem?_cons_zero
def pJ:=@List.getElem?_replicate
def pK:=@List.size_toArray
def pL:=@Array.mem_iff_getElem?
def pM:=@Bool.not_true
def pN:=@Nat.mod_eq_of_lt
def pO:=@Array.toList_map
def pP:=@List.take_append_drop
def pQ:=@Nat.eq_of_beq_eq_true
def pR:=@List.getElem?_mapIdx
def pS:=@List.map_map
def pT:=@Bool.eq_iff_iff
def pU:=@List.mem_append_left
def pV:=@List.eq_nil_iff_forall_not_mem
def pW:=@List.eq_nil_of_length_eq_zero
def pX:=@List.drop_append_of_le_length
def pY:=@List.length_pos_iff
def pZ:=@List.take_zero
def p7:=@Array.getElem?_setIfInBounds
def rb:=@Array.getElem?_map
def rh:=@Bool.false_eq_true
def ri:=@Bool.or_false
def rj:=@List.getD_eq_getElem?_getD
def rk:=@Int.toNat_natCast
def rm:=@Array.size_append
def rp:=@List.length_take
def rq:=@Nat.lt_succ_self
def ru:=@Nat.add_comm
def ry:=@Option.bind_none
def rz:=@List.isEmpty_iff
def rA:=@Option.some.inj
def rB:=@Nat.mul_add_mod
def rC:=@List.all_append
def rD:=@List.length_set
def rE:=@Nat.mul_le_mul
namespace Go.Ab
variable{i:TypeInfo}{t e:TypeId}{α:Type}{y u:Value}{ys:List Value}{o:Oper}{w w':World}{b B off kd sz:Nat}{l:List Oper}{a:Act}{ops:Array Oper}{P:Program}{p q g:Prop}
abbrev rT:=Nat×Nat
variable{hops:List rT}
inductive C where
 |v (x:Value)
 |rG (o sz:Nat) (rows:List (List C))
 |qC (cells:List C)
 |ref (id:Nat) (hops:List rT) (sz i k:Nat)
 |sl (id:Nat) (hops:List rT) (sz lo len:Nat) (full:Bool)
 |fn (f:FuncId) (first caps:List C)
 |mp (id:Nat)
 |agg (cs:List C)
 |rO (vs:List C)
 |un
 |za
 |gl (id sz:Nat) (rows:List (List C))
 |r4 (t:TypeId) (c:C)
 |rc (o:Obj)
variable{c:C}{cs:List C}{ρ:Operand->C}{x:Nat×List (List C)}{rows rows':List (List C)}{f:List (List C)->List (List C)}
structure Ob where
 kind:Nat
 ty:TypeId
 sz:Nat
 rows:List (List C)
 fz:Nat:=0
abbrev zf:=List Ob
variable{H H':zf}{R:C->zf->Prop}
structure Env where
 n:Nat
 β:Nat->List rT->Nat
 κ:Nat->List rT->Nat
 St:Nat->Nat->Option Value
 G:Nat->Nat->Option Value:=λ_ _=>none
variable{E E':Env}
def Env.shut(E:Env):Env:={E with n:=0}
def Env.at(E:Env)(kd:Nat):Env:=if kd=2 then E.shut else E
inductive L:Env->C->Value->Prop
 |v {E:Env} (x:Value) (h:x.oneCell'=true):L E (.v x) x
 |rG {E:Env} (o sz:Nat) (rows:List (List C)) (b off cap:Nat) (us:Nat->Nat->Value) (ho:o=0\/o=1/\cap=rows.length) (hc:rows.length<=cap)
   (hsz:∀r∈rows,r.length=sz)
   (hst:∀(i:Nat) r (k:Nat) c,rows[i]?=some r->r[k]?=some c->E.St b (off+i*sz+k)=some (us i k))
   (hL:∀(i:Nat) r (k:Nat) c,rows[i]?=some r->r[k]?=some c->L E.shut c (us i k)):
   L E (.rG o sz rows) (.slice (some ⟨b,off,none⟩) rows.length cap)
 |q6 {E:Env} (o sz:Nat) (ho:o=0\/o=1) (a:Option Addr:=none):L E (.rG o sz []) (.slice a 0 0)
 |qC {E:Env} (cells:List C) (b off:Nat) (us:Nat->Value) (hst:∀(k:Nat) c,cells[k]?=some c->E.St b (off+k)=some (us k))
   (hL:∀(k:Nat) c,cells[k]?=some c->L E.shut c (us k)):L E (.qC cells) (.pointer (some ⟨b,off,none⟩))
 |ref {E:Env} (id:Nat) (hops:List rT) (sz i k:Nat) (hn:id<E.n):L E (.ref id hops sz i k) (.pointer (some ⟨E.β id hops,i*sz+k,none⟩))
 |sl {E:Env} (id:Nat) (hops:List rT) (sz lo len:Nat) (full:Bool) (cap:Nat) (hn:id<E.n) (hlen:len<=cap) (hf:full=true->cap=len) (hf':full=false->lo+cap=E.κ id hops):
   L E (.sl id hops sz lo len full) (.slice (some ⟨E.β id hops,lo*sz,none⟩) len cap)
 |fn {E:Env} (f:FuncId) (first caps:List C) (ys zs:Array Value) (h1:first.length=ys.size) (h2:caps.length=zs.size)
   (h3:∀(i:Nat) c y,first[i]?=some c->ys[i]?=some y->L E c y) (h4:∀(i:Nat) c y,caps[i]?=some c->zs[i]?=some y->L E c y):
   L E (.fn f first caps) (.func (.func f) ys zs)
 |mp {E:Env} (id:Nat) (hn:id<E.n):L E (.mp id) (.map (some (E.β id [])))
 |agg {E:Env} (cs:List C) (ys:Array Value) (h1:cs.length=ys.size) (h2:∀(i:Nat) c y,cs[i]?=some c->ys[i]?=some y->L E c y) (h3:∀y∈ys,y.oneCell'=true):L E (.agg cs) (.agg ys)
 |rO {E:Env} (cs:List C) (ys:Array Value) (h1:cs.length=ys.size) (h2:∀(i:Nat) c y,cs[i]?=some c->ys[i]?=some y->L E c y):L E (.rO cs) (.tuple ys)
 |un {E:Env}:L E .un undef
 |za {E:Env} (y:Value):L E .za y
 |gl {E:Env} (id sz:Nat) (rows:List (List C)) (y:Value) (hn:id<E.n) (hg:E.G id rows.length=some y) (h:L E.shut (.rG 0 sz rows) y):L E (.gl id sz rows) y
 |r4 {E:Env} (t:TypeId) (c:C) (y:Value) (h:L E c y):L E (.r4 t c) (.iface t y)
structure Env.le(E E':Env):Prop where
 n:E.n<=E'.n
 β:∀id hops,id<E.n->E'.β id hops=E.β id hops
 κ:∀id hops,id<E.n->E'.κ id hops=E.κ id hops
 St:∀b o u,E.St b o=some u->E'.St b o=some u
 G:∀id k u,id<E.n->E.G id k=some u->E'.G id k=some u
def Env.le.refl(E:Env):E.le E:=⟨de _,λ_ _ _=>V,λ_ _ _=>V,λ_ _ _ h=>h,λ_ _ _ _ h=>h⟩
def Env.le.trans{E E' E'':Env}(h:E.le E')(h':E'.le E''):E.le E'':=
 ⟨dK h.n h'.n,λid hops hi=>(h'.β id hops (dD hi h.n)).trans (h.β id hops hi),λid hops hi=>(h'.κ id hops (dD hi h.n)).trans (h.κ id hops hi),
  λb o u hu=>h'.St b o u (h.St b o u hu),λid k u hi hu=>h'.G id k u (dD hi h.n) (h.G id k u hi hu)⟩
def Env.fc(E:Env):E.shut.le E:=⟨dA _,λ_ _ h=>absurd h (dx _),λ_ _ h=>absurd h (dx _),λ_ _ _ h=>h,λ_ _ _ h _=>absurd h (dx _)⟩
def Env.le.shut{E E':Env}(h:E.le E'):E.shut.le E'.shut:=⟨de _,λ_ _ h=>absurd h (dx _),λ_ _ h=>absurd h (dx _),h.St,λ_ _ _ h _=>absurd h (dx _)⟩
def Env.le.at{E E':Env}(h:E.le E')(kd:Nat):(E.at kd).le (E'.at kd):=by unfold Env.at;split;exact h.shut;exact h
def Env.B0(E:Env)(kd:Nat):(E.at kd).le E:=by unfold Env.at;split;exact E.fc;exact .refl E
def L.mono(h:E.le E')(hl:L E c y):L E' c y:=by
 induction hl generalizing E' with
 |v x hx=>exact .v x hx
 |rG o sz rows b off cap us ho hc hsz hst _ ih=>exact .rG o sz rows b off cap us ho hc hsz (λi r k c h1 h2=>h.St _ _ _ (hst i r k c h1 h2)) (λi r k c h1 h2=>ih i r k c h1 h2 h.shut)
 |q6 o sz ho a=>exact .q6 o sz ho a
 |qC cells b off us hst _ ih=>exact .qC cells b off us (λk c h1=>h.St _ _ _ (hst k c h1)) (λk c h1=>ih k c h1 h.shut)
 |ref id hops sz i k hn=>rw[<-h.β id hops hn];exact .ref id hops sz i k (dD hn h.n)
 |sl id hops sz lo len full cap hn hlen hf hf'=>
  rw[<-h.β id hops hn];exact .sl id hops sz lo len full cap (dD hn h.n) hlen hf (λe=>by rw[h.κ id hops hn];exact hf' e)
 |fn f first caps ys zs h1 h2 _ _ ih1 ih2=>exact .fn f first caps ys zs h1 h2 (λi c y e1 e2=>ih1 i c y e1 e2 h) (λi c y e1 e2=>ih2 i c y e1 e2 h)
 |mp id hn=>rw[<-h.β id [] hn];exact .mp id (dD hn h.n)
 |agg cs ys h1 _ h3 ih=>exact .agg cs ys h1 (λi c y e1 e2=>ih i c y e1 e2 h) h3
 |rO cs ys h1 _ ih=>exact .rO cs ys h1 (λi c y e1 e2=>ih i c y e1 e2 h)
 |un=>exact .un
 |za y=>exact .za y
 |gl id sz rows y hn hg _ ih=>exact .gl id sz rows y (dD hn h.n) (h.G _ _ _ hn hg) (ih h.shut)
 |r4 t c y _ ih=>exact .r4 t c y (ih h)
def w9:C->Bool
 |.v _|.rG .. |.qC _=>true
 |_=>false
def eJ:C->Bool
 |.agg cs=>cs.all w9
 |c=>w9 c
def jF:C->Bool
 |.fn _ first caps=>first.all eJ && caps.all eJ
 |c=>w9 c
def L.xM(h:L E c y)(hc:w9 c=true):L E.shut c y:=by
 cases h with
 |v x hx=>exact .v _ hx
 |rG o sz rows b off cap us ho h2 hsz hst hL=>exact .rG o sz rows b off cap us ho h2 hsz hst hL
 |q6 o sz ho a=>exact .q6 o sz ho a
 |qC cells b off us hst hL=>exact .qC cells b off us hst hL
 |_=>simp[w9]at hc
def L.Bk(h:L E c y)(hc:eJ c=true):L E.shut c y:=by
 cases h with
 |agg cs ys h1 h2 h3=>
  refine .agg cs ys h1 (λi c y e1 e2=>(h2 i c y e1 e2).xM ?_) h3;exact c8.1 (show cs.all w9=true from hc) _ (cZ e1)
 |v x hx=>exact(L.v (E:=E) _ hx).xM hc
 |rG o sz rows b off cap us ho h2 hsz hst hL=>exact(L.rG (E:=E) o sz rows b off cap us ho h2 hsz hst hL).xM hc
 |q6 o sz ho a=>exact(L.q6 (E:=E) o sz ho a).xM hc
 |qC cells b off us hst hL=>exact(L.qC (E:=E) cells b off us hst hL).xM hc
 |_=>simp[eJ,w9]at hc
def L.xv(h:L E c y)(hc:jF c=true):L E.shut c y:=by
 cases h with
 |fn f first caps ys zs h1 h2 h3 h4=>
  have hc:(first.all eJ && caps.all eJ)=true:=hc;rw[c9]at hc;exact .fn f first caps ys zs h1 h2 (λi c y e1 e2=>(h3 i c y e1 e2).Bk (c8.1 hc.1 _ (cZ e1))) (λi c y e1 e2=>(h4 i c y e1 e2).Bk (c8.1 hc.2 _ (cZ e1)))
 |v x hx=>exact(L.v (E:=E) _ hx).xM hc
 |rG o sz rows b off cap us ho h2 hsz hst hL=>exact(L.rG (E:=E) o sz rows b off cap us ho h2 hsz hst hL).xM hc
 |q6 o sz ho a=>exact(L.q6 (E:=E) o sz ho a).xM hc
 |qC cells b off us hst hL=>exact(L.qC (E:=E) cells b off us hst hL).xM hc
 |_=>simp[jF,w9]at hc
def LL(E:Env)(cs:List C)(ys:List Value):Prop:=cs.length=ys.length/\∀(i:Nat) c y,cs[i]?=some c->ys[i]?=some y->L E c y
def LL.mono{E E':Env}(h:E.le E'){cs:List C}{ys:List Value}(hl:LL E cs ys):LL E' cs ys:=
 ⟨hl.1,λi c y h1 h2=>(hl.2 i c y h1 h2).mono h⟩
def LL.nil:LL E [] []:=⟨rfl,by simp⟩
def LL.cons(h:L E c y)(hl:LL E cs ys):LL E (c::cs) (y::ys):=by
 refine⟨by simp[hl.1],?_⟩;intro i c' y' h1 h2;cases i with
 |zero=>simp at h1 h2;subst h1;subst h2;exact h
 |succ i=>simp at h1 h2;exact hl.2 i c' y' h1 h2
def LL.cons_inv(h:LL E (c::cs) (y::ys)):L E c y/\LL E cs ys:=
 ⟨h.2 0 c y V V,by simpa using h.1,λi c' y' h1 h2=>h.2 (i+1) c' y' (by simpa using h1) (by simpa using h2)⟩
def LL.one(h:L E c y):LL E [c] [y]:=LL.cons h LL.nil
def LL.append{cs':List C}{ys':List Value}(h:LL E cs ys)(h':LL E cs' ys'):LL E (cs++cs') (ys++ys'):=by
 refine⟨by simp[h.1,h'.1],?_⟩;intro i c y h1 h2;by_cases hi:i<cs.length
 .rw[da hi]at h1;rw[da (by rw[<-h.1];exact hi)]at h2;exact h.2 i c y h1 h2
 .rw[dg (by omega)]at h1;rw[dg (by rw[<-h.1];omega),<-h.1]at h2;exact h'.2 _ c y h1 h2
def LL.get(h:LL E cs ys){i:Nat}(hc:cs[i]?=some c):∃y,ys[i]?=some y/\L E c y:=by
 have hi:i<ys.length:=by rw[<-h.1];exact(cW.1 hc).1
 exact⟨ys[i],by simp[hi],h.2 i c ys[i] hc (by simp[hi])⟩
def LL.take{E:Env}{cs:List C}{ys:List Value}(h:LL E cs ys)(n:Nat):LL E (cs.take n) (ys.take n):=by
 refine⟨by simp[h.1],?_⟩;intro i c y h1 h2;rw[du]at h1 h2;split at h1
 .rename_i hi;rw[c7 hi]at h2;exact h.2 i c y h1 h2
 .cases h1
def LL.drop{E:Env}{cs:List C}{ys:List Value}(h:LL E cs ys)(n:Nat):LL E (cs.drop n) (ys.drop n):=by
 refine⟨by simp[h.1],?_⟩;intro i c y h1 h2;rw[dM]at h1 h2;exact h.2 _ c y h1 h2
def LL.set{E:Env}{cs:List C}{ys:List Value}(h:LL E cs ys){c:C}{y:Value}(hl:L E c y)(i:Nat):LL E (cs.set i c) (ys.set i y):=by
 refine⟨by simp[h.1],?_⟩;intro j c' y' h1 h2;rw[df]at h1 h2;by_cases hij:i=j
 .subst hij;rw[c7 V]at h1 h2;split at h1
  .split at h2
   .cases h1;cases h2;exact hl
   .cases h2
  .cases h1
 .rw[c6 hij]at h1 h2;exact h.2 j c' y' h1 h2
def C.cells:C->List C
 |.agg cs=>cs
 |c=>[c]
def L.cells{E:Env}{c:C}{y:Value}(h:L E c y)(hj:c≠.za)(hu:c≠.un):LL E c.cells y.cells.toList:=by
 have one:∀(c:C) (y:Value),L E c y->c.cells=[c]->y.cells= #[y]->LL E c.cells y.cells.toList:=λc y h e1 e2=>by
  rw[e1,e2];exact LL.cons h LL.nil
 cases h with
 |v x hx=>exact one _ _ (.v _ hx) V (by cases y <;> simp_all[Value.cells,Value.oneCell'])
 |agg cs ys h1 h2 h3=>exact⟨by simpa [C.cells,Value.cells] using h1,λi c y e1 e2=>h2 i c y e1 (by simpa [Value.cells] using e2)⟩
 |un=>exact absurd V hu
 |za=>exact absurd V hj
 |rO cs ys h1 h2=>exact one _ _ (.rO cs ys h1 h2) V V
 |rG o sz rows b off cap us ho hc hsz hst hL=>exact one _ _ (.rG o sz rows b off cap us ho hc hsz hst hL) V V
 |q6 o sz ho a=>exact one _ _ (.q6 o sz ho a) V V
 |qC cells b off us hst hL=>exact one _ _ (.qC cells b off us hst hL) V V
 |ref id hops sz i k hn=>exact one _ _ (.ref id hops sz i k hn) V V
 |sl id hops sz lo len full cap hn hlen hf hf'=>exact one _ _ (.sl id hops sz lo len full cap hn hlen hf hf') V V
 |fn f first caps ys zs h1 h2 h3 h4=>exact one _ _ (.fn f first caps ys zs h1 h2 h3 h4) rfl rfl
 |mp id hn=>exact one _ _ (.mp id hn) V V
 |gl id sz rows y hn hg h=>exact one _ _ (.gl id sz rows y hn hg h) V (by cases h <;> rfl)
 |r4 t c y h=>exact one _ _ (.r4 t c y h) V V
def cellAt(rows:List (List C))(i k:Nat):Option C:=(rows[i]?).bind (·[k]?)
def xh:Nat->List (List C)->List rT->Option (Nat×List (List C))
 |sz,rows,[]=>some (sz,rows)
 |_,rows,(i,k)::hs=>match cellAt rows i k with
  |some (.rG 2 sz' rows')=>xh sz' rows' hs
  |_=>none
def zB(H:zf)(id:Nat)(hops:List rT):Option (Nat×List (List C)):=
 match H[id]? with
 |some ob=>if ob.kind=1\/ob.kind=2 then xh ob.sz ob.rows hops else none
 |none=>none
def z6(E:Env)(kd:Nat)(id:Nat)(hops:List rT)(i k:Nat)(c:C)(u:Value):Prop:=
 match c with
 |.rG 2 _ rows'=>u=.slice (some ⟨E.β id (hops++[(i,k)]),0,none⟩) rows'.length (E.κ id (hops++[(i,k)]))
 |c=>L (E.at kd) c u/\u.oneCell'=true
structure eM(w:World)(E:Env)(kd:Nat)(id:Nat)(hops:List rT)(sz:Nat)(rows:List (List C)):Prop where
 len:rows.length<=E.κ id hops
 row:∀r∈rows,r.length=sz
 rM:∃cur e,w.heap[E.β id hops]?=some (.cells cur e (0,0))/\cur.size=E.κ id hops*sz/\
  ∀i k c,cellAt rows i k=some c->∃u,cur[i*sz+k]?=some u/\z6 E kd id hops i k c u
structure zD(w:World)(E:Env)(H:zf):Prop where
 n:E.n=H.length
 rM:∀id ob hops sz rows,H[id]?=some ob->zB H id hops=some (sz,rows)->eM w E ob.kind id hops sz rows
 inj:∀id hops id' hops' x y,zB H id hops=some x->zB H id' hops'=some y->E.β id hops=E.β id' hops'->id=id'/\hops=hops'
 zK:∀b o u,E.St b o=some u->w.cell? ⟨b,o,none⟩=some u/\u.oneCell'=true
 sep:∀id hops x o u,zB H id hops=some x->E.St (E.β id hops) o=some u->hops=[]/\∃ob,H[id]?=some ob/\o<ob.fz*ob.sz
 ty:∀id ob,H[id]?=some ob->ob.kind=2->∃cur,w.heap[E.β id []]?=some (.cells cur ob.ty (0,0))
 fz:∀(id:Nat) (ob:Ob),H[id]?=some ob->ob.fz<=ob.rows.length
structure S where
 tmps:List C
 H:zf
variable{s:S}
def qc(E:Env)(H:zf)(b:Nat):Prop:=∃id hops x,zB H id hops=some x/\E.β id hops=b
structure zR(w:World)(E:Env)(H:zf)(w':World)(E':Env)(H':zf):Prop where
 le:E.le E'
 fA:∀(id k:Nat),id<E.n->E'.G id k=E.G id k
 os:w'.os=w.os
 tape:w'.tape=w.tape
 output:w'.output=w.output
 size:w.heap.size<=w'.heap.size
 frame:∀k,k<w.heap.size->¬qc E H k->w'.heap[k]?=w.heap[k]?
 qB:∀b o u,E'.St b o=some u->E.St b o=some u\/w.heap.size<=b\/qc E H b
 own:∀b,qc E' H' b->w.heap.size<=b\/qc E H b
def zR.refl(w:World)(E:Env)(H:zf):zR w E H w E H:=
 ⟨Env.le.refl E,λ_ _ _=>V,rfl,rfl,rfl,de _,λ_ _ _=>V,λ_ _ _ h=>.inl h,λ_ h=>.inr h⟩
def zR.trans{w w1 w2:World}{E E1 E2:Env}{H H1 H2:zf}(g:zR w E H w1 E1 H1)(h:zR w1 E1 H1 w2 E2 H2):zR w E H w2 E2 H2 where
 le:=g.le.trans h.le
 fA id k hi:=(h.fA id k (dD hi g.le.n)).trans (g.fA id k hi)
 os:=h.os.trans g.os
 tape:=h.tape.trans g.tape
 output:=h.output.trans g.output
 size:=dK g.size h.size
 frame k hk ho:=(h.frame k (dD hk g.size) λhc=>(g.own k hc).elim (λhs=>by omega) ho).trans (g.frame k hk ho)
 qB b o u hu:=by
  rcases h.qB b o u hu with h1|h1|h1
  .exact g.qB b o u h1
  .exact .inr (.inl (dK g.size h1))
  .rcases g.own b h1 with h2|h2
   .exact .inr (.inl h2)
   .exact .inr (.inr h2)
 own b hb:=by
  rcases h.own b hb with h1|h1
  .exact .inl (dK g.size h1)
  .exact g.own b h1
def zT(E:Env)(H:zf)(id b:Nat):Prop:=∃ob cap,H[id]?=some ob/\ob.kind=4/\E.G id ob.rows.length=some (.slice (some ⟨b,0,none⟩) ob.rows.length cap)/\cap≠ob.rows.length
def qo(H:zf)(id b:Nat):Prop:=∃ob o t,H[id]?=some ob/\ob.kind=4/\(ob.rows=[.rc o::t]/\ob.fz=1)/\ob.ty=b
def wH:Obj->Bool
 |.loop _=>true
 |.map ..=>true
 |.mapIter ..=>true
 |_=>false
def nR:Obj->List Value
 |.loop r=>r.tmps.toList
 |_=>[]
def kq(E:Env)(t:List C)(o:Obj):Prop:=LL E t (nR o)\/∃es k,o=.map es k/\LL E t (es.toList.map (·.val))
def kq.map{t:List C}{o:Obj}(h:kq E t o)(hf:∀ys,LL E t ys->LL E' t ys):kq E' t o:=h.imp (hf _) λ⟨es,k,e,hl⟩=>⟨es,k,e,hf _ hl⟩
def kq.mono{E E':Env}{t:List C}{o:Obj}(h:kq E t o)(hle:E.le E'):kq E' t o:=h.map λ_ hl=>hl.mono hle
def kq.loop{t:List C}{r:Loop}(h:kq E t (.loop r)):LL E t r.tmps.toList:=h.elim id λ⟨_,_,e,_⟩=>by cases e
def zD.wt(h:zD w E H)(ho:qc E H b):∃cur e,w.heap[b]?=some (.cells cur e (0,0)):=by
 obtain⟨id,hops,x,hx,rfl⟩:=ho;have hx':=hx;unfold zB at hx';split at hx'
 .rename_i ob hob;obtain⟨cur,e,h1,_⟩:=(h.rM id ob hops x.1 x.2 hob hx).rM;exact⟨cur,e,h1⟩
 .cases hx'
structure sR(w:World)(E:Env)(H:zf):Prop where
 val:∀(id:Nat) (ob:Ob),H[id]?=some ob->ob.kind=4->∃a cap,E.G id ob.rows.length=some (.slice a ob.rows.length cap)/\(cap=ob.rows.length\/∃b,a=some ⟨b,0,none⟩/\ob.rows.length<=cap)
 rM:∀(id b:Nat) (ob:Ob),zT E H id b->H[id]?=some ob->∃cur cap,E.G id ob.rows.length=some (.slice (some ⟨b,0,none⟩) ob.rows.length cap)/\w.heap[b]?=some (.cells cur ob.ty (0,0))/\cur.size=cap*ob.sz
 sep:∀id b,zT E H id b->¬qc E H b
 inj:∀id id' b,zT E H id b->zT E H id' b->id=id'
 st:∀(id b:Nat) (ob:Ob) o u,zT E H id b->H[id]?=some ob->E.St b o=some u->o<ob.rows.length*ob.sz
 top:∀(id:Nat) (ob:Ob) (k:Nat) u,H[id]?=some ob->ob.kind=4->E.G id k=some u->k<=ob.rows.length
 sa:∀(id:Nat) (ob:Ob) (o:Obj) (t:List C),H[id]?=some ob->ob.kind=4->(ob.rows=[.rc o::t]/\ob.fz=1)->(w.heap[ob.ty]?=some o/\wH o=true)/\kq E t o
 yq:∀id id' b,qo H id b->qo H id' b->id=id'
def qs(H H':zf):Prop:=∀(id:Nat) (ob:Ob),ob.kind=4->(H'[id]?=some ob↔H[id]?=some ob)
def qs.refl(H:zf):qs H H:=λ_ _ _=>Iff.rfl
structure zL(w:World)(E:Env)(H:zf):Prop where
 base:zD w E H
 rI:sR w E H
def zL.n{w:World}{E:Env}{H:zf}(h:zL w E H):E.n=H.length:=h.base.n
def qK(E:Env)(H:zf)(b:Nat):Prop:=qc E H b\/∃id,(zT E H id b\/qo H id b)
structure Grow(w:World)(E:Env)(H:zf)(w':World)(E':Env)(H':zf):Prop where
 le:E.le E'
 os:w'.os=w.os
 tape:w'.tape=w.tape
 output:w'.output=w.output
 size:w.heap.size<=w'.heap.size
 frame:∀k,k<w.heap.size->¬qK E H k->w'.heap[k]?=w.heap[k]?
 qB:∀b o u,E'.St b o=some u->E.St b o=some u\/w.heap.size<=b\/qK E H b
 own:∀b,qK E' H' b->w.heap.size<=b\/qK E H b
def Grow.refl(w:World)(E:Env)(H:zf):Grow w E H w E H:=
 ⟨Env.le.refl E,rfl,rfl,rfl,de _,λ_ _ _=>V,λ_ _ _ h=>.inl h,λ_ h=>.inr h⟩
def Grow.trans{w w1 w2:World}{E E1 E2:Env}{H H1 H2:zf}(g:Grow w E H w1 E1 H1)(h:Grow w1 E1 H1 w2 E2 H2):Grow w E H w2 E2 H2 where
 le:=g.le.trans h.le
 os:=h.os.trans g.os
 tape:=h.tape.trans g.tape
 output:=h.output.trans g.output
 size:=dK g.size h.size
 frame k hk ho:=(h.frame k (dD hk g.size) λhc=>(g.own k hc).elim (λhs=>by omega) ho).trans (g.frame k hk ho)
 qB b o u hu:=by
  rcases h.qB b o u hu with h1|h1|h1
  .exact g.qB b o u h1
  .exact .inr (.inl (dK g.size h1))
  .rcases g.own b h1 with h2|h2
   .exact .inr (.inl h2)
   .exact .inr (.inr h2)
 own b hb:=by
  rcases h.own b hb with h1|h1
  .exact .inl (dK g.size h1)
  .exact g.own b h1
def zT.back(hg:sR w E H)(hn:E.n=H.length)(hle:E.le E')(hk:qs H H'){id:Nat}(h:zT E' H' id b):zT E H id b:=by
 obtain⟨ob,cap,h1,h2,h3,h4⟩:=h;have h1':=(hk id ob h2).1 h1;obtain⟨a,cap',e1,_⟩:=hg.val id ob h1' h2;have e2:=hle.G id ob.rows.length _ (by rw[hn];exact(cW.1 h1').1) e1;rw[h3]at e2;cases e2
 exact⟨ob,cap,h1',h2,e1,h4⟩
def qo.back(hk:qs H H'){id:Nat}(h:qo H' id b):qo H id b:=by
 obtain⟨ob,r,t,h1,h2,h3⟩:=h;exact⟨ob,r,t,(hk id ob h2).1 h1,h2,h3⟩
def sR.step(h:zL w E H)(g:zR w E H w' E' H')(hk:qs H H'):sR w' E' H' where
 val id ob hob hkd:=by
  have hob':=(hk id ob hkd).1 hob;obtain⟨a,cap,e1,e2⟩:=h.rI.val id ob hob' hkd;exact⟨a,cap,g.le.G id ob.rows.length _ (by rw[h.n];exact(cW.1 hob').1) e1,e2⟩
 rM id b ob ho hob:=by
  have ho':=ho.back h.rI h.n g.le hk;obtain⟨ob2,_,e1,e2,_⟩:=ho;rw[hob]at e1;cases e1
  have hob':=(hk id ob e2).1 hob;obtain⟨cur,cap,e3,e4,e5⟩:=h.rI.rM id b ob ho' hob';refine⟨cur,cap,g.le.G id ob.rows.length _ (by rw[h.n];exact(cW.1 hob').1) e3,?_,e5⟩;rw[g.frame b (db.1 e4).1 (h.rI.sep id b ho')];exact e4
 sep id b ho:=by
  have ho':=ho.back h.rI h.n g.le hk;intro hc;rcases g.own b hc with h1|h1
  .obtain⟨ob,_,e1,_⟩:=ho';obtain⟨cur,cap,e3,e4,e5⟩:=h.rI.rM id b ob (ho.back h.rI h.n g.le hk) e1;have:=(db.1 e4).1;omega
  .exact h.rI.sep id b ho' h1
 inj id id' b h1 h2:=h.rI.inj id id' b (h1.back h.rI h.n g.le hk) (h2.back h.rI h.n g.le hk)
 st id b ob o u ho hob hu:=by
  have ho':=ho.back h.rI h.n g.le hk;obtain⟨ob2,_,e1,e2,_⟩:=ho;rw[hob]at e1;cases e1
  have hob':=(hk id ob e2).1 hob;rcases g.qB b o u hu with h1|h1|h1
  .exact h.rI.st id b ob o u ho' hob' h1
  .obtain⟨cur,cap,e3,e4,e5⟩:=h.rI.rM id b ob ho' hob';have:=(db.1 e4).1;omega
  .exact absurd h1 (h.rI.sep id b ho')
 top id ob k u hob hkd hu:=by
  have hob':=(hk id ob hkd).1 hob;rw[g.fA id k (by rw[h.n];exact(cW.1 hob').1)]at hu;exact h.rI.top id ob k u hob' hkd hu
 sa id ob r t hob hkd hr:=by
  obtain⟨⟨h1,hf⟩,hl⟩:=h.rI.sa id ob r t ((hk id ob hkd).1 hob) hkd hr;refine⟨⟨?_,hf⟩,hl.mono g.le⟩;rw[g.frame ob.ty (db.1 h1).1 λhc=>by obtain⟨cur,e,h2⟩:=h.base.wt hc;rw[h1]at h2;cases h2;cases hf];exact h1
 yq id id' b h1 h2:=h.rI.yq id id' b (h1.back hk) (h2.back hk)
def zR.up(h:zL w E H)(g:zR w E H w' E' H')(hk:qs H H'):Grow w E H w' E' H' where
 le:=g.le
 os:=g.os
 tape:=g.tape
 output:=g.output
 size:=g.size
 frame k h1 h2:=g.frame k h1 λhc=>h2 (.inl hc)
 qB b o u hu:=(g.qB b o u hu).imp_right λh=>h.imp_right .inl
 own b hb:=by
  rcases hb with hb|⟨id,hb|hb⟩
  .exact(g.own b hb).imp_right .inl
  .exact .inr (.inr ⟨id,.inl (hb.back h.rI h.n g.le hk)⟩)
  .exact .inr (.inr ⟨id,.inr (hb.back hk)⟩)
abbrev uo(D:Nat):Deferred:={target:=.collected D,args:= #[]}
def Marks(m:Nat)(w:World):List Deferred->Prop
 |[]=>m<=w.heap.size
 |d::ds=>(∃D,d=uo D/\m<=D/\w.heap[D]?=some (.deferred (some []))/\uo D∉ds)/\Marks m w ds
def Marks.mono{m:Nat}{w w':World}(hsz:w.heap.size<=w'.heap.size):∀{ds:List Deferred},Marks m w ds->(∀D,uo D∈ds->w.heap[D]?=some (.deferred (some []))->w'.heap[D]?=w.heap[D]?)->Marks m w' ds
 |[],h,_=>dK h hsz
 |d::ds,⟨⟨D,h1,h2,h3,h4⟩,ht⟩,hk=>⟨⟨D,h1,h2,(hk D (by rw[h1];exact gm ..) h3).trans h3,h4⟩,Marks.mono hsz ht λD' hm hd=>hk D' (dV _ hm) hd⟩
def Marks.le{m:Nat}{w:World}:∀{ds:List Deferred},Marks m w ds->m<=w.heap.size
 |[],h=>h
 |_::_,⟨_,h⟩=>Marks.le h
def zL.free{D:Nat}{ds:Option (List Deferred)}(h:zL w E H)(hd:w.heap[D]?=some (.deferred ds)):¬qK E H D:=by
 rintro(ho|⟨id,⟨ob,cap,hob,h4,hG,hne⟩|⟨ob,r,t,hob,h4,hr,rfl⟩⟩)
 .obtain⟨cur,e,h1⟩:=h.base.wt ho;rw[hd]at h1;cases h1
 .obtain⟨cur,cap',_,h1,_⟩:=h.rI.rM id D ob ⟨ob,cap,hob,h4,hG,hne⟩ hob;rw[hd]at h1;cases h1
 .obtain⟨h1,hf⟩:=(h.rI.sa id ob r t hob h4 hr).1;rw[hd]at h1;cases h1
  cases hf
def Marks.grow{m:Nat}{ds:List Deferred}(h:Marks m w ds)(hh:zL w E H)(g:Grow w E H w' E' H'):Marks m w' ds:=
 Marks.mono g.size h λD _ hD=>g.frame D (db.1 hD).1 (hh.free hD)
def zL.cells(hk:∀(k:Nat) (o:Obj),w.heap[k]?=some o->(∀ds,o≠.deferred ds)->w'.heap[k]?=w.heap[k]?)(h:zL w E H):zL w' E H where
 base:={
  n:=h.base.n
  rM:=λid ob hops sz rows e1 e2=>
   let b:=h.base.rM id ob hops sz rows e1 e2
   ⟨b.len,b.row,let ⟨cur,e,h1,h2⟩:=b.rM;⟨cur,e,(hk _ _ h1 (by simp)).trans h1,h2⟩⟩
  inj:=h.base.inj
  zK:=λb o u hu=>by
   obtain⟨h1,h2⟩:=h.base.zK b o u hu;refine⟨?_,h2⟩;unfold World.cell? at h1|-;split at h1
   .rename_i c t z hc;rw[hk _ _ hc (by simp),hc];exact h1
   .cases h1
  sep:=h.base.sep
  ty:=λid ob e1 e2=>let ⟨cur,h1⟩:=h.base.ty id ob e1 e2;⟨cur,(hk _ _ h1 (by simp)).trans h1⟩
  fz:=h.base.fz}
 rI:={
  val:=h.rI.val
  rM:=λid b ob e1 e2=>let ⟨cur,cap,h1,h2,h3⟩:=h.rI.rM id b ob e1 e2;⟨cur,cap,h1,(hk _ _ h2 (by simp)).trans h2,h3⟩
  sep:=h.rI.sep
  inj:=h.rI.inj
  st:=h.rI.st
  top:=h.rI.top
  sa:=λid ob r t e1 e2 e3=>let h1:=h.rI.sa id ob r t e1 e2 e3;⟨⟨(hk _ _ h1.1.1 (by intro ds e;have:=h1.1.2;rw[e]at this;cases this)).trans h1.1.1,h1.1.2⟩,h1.2⟩
  yq:=h.rI.yq}
structure je(B m:Nat)(w:World)(E:Env)(s:S)(a:Act):Prop where
 heap:zL w E s.H
 tmps:LL E s.tmps a.tmps.toList
 defers:Marks m w a.defers
 base:B<=s.H.length
structure Env.tt(B:Nat)(E E':Env):Prop where
 β:∀id hops,id<B->E'.β id hops=E.β id hops
 κ:∀id hops,id<B->E'.κ id hops=E.κ id hops
 St:∀b o u,E.St b o=some u->E'.St b o=some u
 G:∀id k u,id<B->E.G id k=some u->E'.G id k=some u
def Env.tt.refl(B:Nat)(E:Env):E.tt B E:=⟨λ_ _ _=>V,λ_ _ _=>V,λ_ _ _ h=>h,λ_ _ _ _ h=>h⟩
def Env.tt.trans{B:Nat}{E E' E'':Env}(h:E.tt B E')(h':E'.tt B E''):E.tt B E'':=
 ⟨λid hops hi=>(h'.β id hops hi).trans (h.β id hops hi),λid hops hi=>(h'.κ id hops hi).trans (h.κ id hops hi),λb o u hu=>h'.St b o u (h.St b o u hu),λid k u hi hu=>h'.G id k u hi (h.G id k u hi hu)⟩
def Env.le.sB(h:E.le E')(hB:B<=E.n):E.tt B E':=
 ⟨λid hops hi=>h.β id hops (dD hi hB),λid hops hi=>h.κ id hops (dD hi hB),h.St,λid k u hi=>h.G id k u (dD hi hB)⟩
structure qq(B:Nat)(w:World)(E:Env)(H:zf)(w':World)(E':Env)(H':zf):Prop where
 le:E.tt B E'
 os:w'.os=w.os
 tape:w'.tape=w.tape
 output:w'.output=w.output
 size:w.heap.size<=w'.heap.size
 frame:∀k,k<w.heap.size->¬qK E H k->w'.heap[k]?=w.heap[k]?
 qB:∀b o u,E'.St b o=some u->E.St b o=some u\/w.heap.size<=b\/qK E H b
 own:∀b,qK E' H' b->w.heap.size<=b\/qK E H b
def Grow.sB{B:Nat}{w w':World}{E E':Env}{H H':zf}(g:Grow w E H w' E' H')(hB:B<=E.n):qq B w E H w' E' H':=
 ⟨g.le.sB hB,g.os,g.tape,g.output,g.size,g.frame,g.qB,g.own⟩
def qq.refl(B:Nat)(w:World)(E:Env)(H:zf):qq B w E H w E H:=
 ⟨Env.tt.refl B E,rfl,rfl,rfl,de _,λ_ _ _=>V,λ_ _ _ h=>.inl h,λ_ h=>.inr h⟩
def qq.trans{B:Nat}{w w1 w2:World}{E E1 E2:Env}{H H1 H2:zf}(g:qq B w E H w1 E1 H1)(h:qq B w1 E1 H1 w2 E2 H2):qq B w E H w2 E2 H2 where
 le:=g.le.trans h.le
 os:=h.os.trans g.os
 tape:=h.tape.trans g.tape
 output:=h.output.trans g.output
 size:=dK g.size h.size
 frame k hk ho:=(h.frame k (dD hk g.size) λhc=>(g.own k hc).elim (λhs=>by omega) ho).trans (g.frame k hk ho)
 qB b o u hu:=by
  rcases h.qB b o u hu with h1|h1|h1
  .exact g.qB b o u h1
  .exact .inr (.inl (dK g.size h1))
  .rcases g.own b h1 with h2|h2
   .exact .inr (.inl h2)
   .exact .inr (.inr h2)
 own b hb:=by
  rcases h.own b hb with h1|h1
  .exact .inl (dK g.size h1)
  .exact g.own b h1
def fw(q:Option Nat):Fence:={Fence.wide with round:=q}
def qW:Code->Bool
 |.seq a b=>qW a || qW b
 |.cond _ a b=>qW a || qW b
 |.block _ a=>qW a
 |.loop a=>qW a
 |.scope a=>qW a
 |.rangeFunc ..=>true
 |_=>false
def qb(P:Program)(B:Nat)(c:Code)(s:S)(R:Exit->S->Prop):Prop:=
 ∀(q:Option Nat) (m:Nat) (w:World) (E:Env) (a:Act) (Q:Exit->Act->World->Prop),(qW c=true->q=none)->je B m w E s a->
  (∀ex s' w' E' a',R ex s'->je B m w' E' s' a'->qq B w E s.H w' E' s'.H->Q ex a' w')->c.wpIn (fw q) 0 P Q a w
abbrev tW(P:Program)(B:Nat)(c:Code)(s:S)(ex:Exit)(s':S):Prop:=qb P B c s λe t=>e=ex/\t=s'
def vx(P:Program)(B:Nat)(c:Code)(n:Nat)(s:S)(R:Exit->S->Prop):Prop:=
 ∀(q:Option Nat) (m:Nat) (w:World) (E:Env) (a:Act) (Q:Exit->Act->World->Prop),(qW c=true->q=none)->je B m w E s a->
  (∀ex s' w' E' a',R ex s'->je B m w' E' s' a'->qq B w E s.H w' E' s'.H->Q ex a' w')->Code.roundsIn (fw q) 0 P c Q n a w
def x2(P:Program)(B:Nat)(ops:Array Oper)(l:List Oper)(s:S)(R:S->Prop):Prop:=
 ∀(q:Option Nat) (m:Nat) (w:World) (E:Env) (a:Act) (Q:Exit->Act->World->Prop),je B m w E s a->
  (∀s' w' E' a',R s'->je B m w' E' s' a'->qq B w E s.H w' E' s'.H->Q .normal a' w')->wpListIn (fw q) 0 P ops Q l a w
def kB(P:Program)(B:Nat)(o:Oper)(s:S)(R:S->Prop):Prop:=
 ∀(q:Option Nat) (m:Nat) (w:World) (E:Env) (a:Act) (K:Act->World->Prop) (Q:Exit->Act->World->Prop),je B m w E s a->
  (∀s' w' E' a',R s'->je B m w' E' s' a'->qq B w E s.H w' E' s'.H->K a' w')->o.wpIn (fw q) 0 P a w K Q
def zm(B:Nat)(s s':S):Prop:=
 ∀(m:Nat) (w:World) (E:Env) (a:Act),je B m w E s a->∃E',je B m w E' s' a/\qq B w E s.H w E' s'.H
def o0{F:Fence}{k:Nat}{P:Program}{c:Code}{Q:Exit->Act->World->Prop}:∀{n m:Nat},n<=m->∀{a:Act} {w:World},Code.roundsIn F k P c Q n a w->Code.roundsIn F k P c Q m a w
 |0,_,_,_,_,h=>(h:False).elim
 |n+1,0,hm,_,_,_=>absurd hm (Nat.not_succ_le_zero n)
 |n+1,m+1,hm,a,w,h=>by
  rw[roundsIn_succ]at h|-;refine wpIn_mono h λe a1 w1 h1=>?_
  cases e with
  |normal=>exact o0 (Nat.le_of_succ_le_succ hm) h1
  |_=>exact h1
section scopes
variable {F:Fence} {n:Nat} {P:Program} {b:Frame} {a:Act} {k:List Item} {cs:List Frame} {w:World} {Q:Exit->Act->World->Prop}
def ji{c:Code}:step P (lone (b.atR a (.code (.scope c)::k)) cs w)=.next (lone (b.atR a (.code c:: .inScope c::k)) cs w):=
 step_lone_go (by simp[stepG,stepG.exec,Frame.atR])
def kI{c:Code}:step P (lone (b.atR a (.inScope c::k)) cs w)=.next (lone (b.atR a k) cs w):=
 step_lone_go (by simp[stepG,stepG.exec,Frame.atR])
def kz{c:Code}(h:c.wpIn F n P (Exit.noGoto Q) a w):(Code.scope c).wpIn F n P Q a w:=by
 intro b k cs hro hb hr;have h0:(lone (b.atR a (.code (.scope c)::k)) cs w).fenced P F:=fenced_calm hb hr V;obtain⟨e,a₁,w₁,hq,harr⟩:=h b (.inScope c::k) cs hro hb hr;cases e with
 |normal=>exact⟨.normal,a₁,w₁,hq,.head h0 ji (StepsIn.trans harr (.one (fenced_calm hb hr V) kI))⟩
 |exit id=>
  have hx:exitTo id (.inScope c::k)=exitTo id k:=by simp[exitTo]
  exact⟨.exit id,a₁,w₁,hq,λk' hk=>.head h0 ji (harr.1 k' (by rw[hx];exact hk)),
   λhr' hk=>let ⟨k₁,h1,h2⟩:=harr.2 hr' (by rw[hx];exact hk);⟨k₁,h1,.head h0 ji h2⟩⟩
 |goto l=>exact hq.elim
 |ret=>exact⟨_,a₁,w₁,hq,.of_steps (.one h0 ji) harr⟩
 |panic ch=>exact⟨_,a₁,w₁,hq,.of_steps (.one h0 ji) harr⟩
 |outgrown=>exact⟨_,a₁,w₁,hq,.of_steps (.one h0 ji) harr⟩
inductive wb(F:Fence)(n:Nat)(P:Program)(c:Code)(Q:Exit->Act->World->Prop):Nat->Act->World->Prop
 |mk {l:Nat} {a:Act} {w:World} {rest:Code} (Q':Exit->Act->World->Prop):findLabel c l=some rest->rest.wpIn F n P Q' a w->(∀e a w,Q' e a w->(∀l,e≠.goto l)->Q e a w)->
   (∀l a w,Q' (.goto l) a w->wb F n P c Q l a w)->wb F n P c Q l a w
def kD{c:Code}{m:Machine}{e:Exit}(hb:F.fn b.fn)(hr:F.room (cs.length+1+n))(he:∀l,e≠.goto l)(h:ArrivesIn (Machine.fenced P F) P m b (.inScope c::k) cs e a w):ArrivesIn (Machine.fenced P F) P m b k cs e a w:=by
 cases e with
 |normal=>exact StepsIn.trans h (.one (fenced_calm hb hr V) kI)
 |exit id=>
  have hx:exitTo id (.inScope c::k)=exitTo id k:=by simp[exitTo]
  exact⟨λk' hk=>h.1 k' (by rw[hx];exact hk),λhr' hk=>h.2 hr' (by rw[hx];exact hk)⟩
 |goto l=>exact absurd V (he l)
 |ret=>exact h
 |panic ch=>exact h
 |outgrown=>exact h
def CS{c:Code}{Q':Exit->Act->World->Prop}(h:c.wpIn F n P Q' a w)(hQ:∀e a w,Q' e a w->(∀l,e≠.goto l)->Q e a w)(hJ:∀l a w,Q' (.goto l) a w->wb F n P c Q l a w):(Code.scope c).wpIn F n P Q a w:=by
 intro b k cs hro hb hr;have h0:(lone (b.atR a (.code (.scope c)::k)) cs w).fenced P F:=fenced_calm hb hr V
 have key:∀l a w,wb F n P c Q l a w->∀rest,findLabel c l=some rest->∃e a' w',Q e a' w'/\ArrivesIn (Machine.fenced P F) P (lone (b.atR a (.code rest:: .inScope c::k)) cs w) b k cs e a' w':=by
  intro l a w hj
  induction hj with
  |mk Q1 hf h1 h2 h3 ih=>
   intro rest hf';rw[hf]at hf';cases hf'
   obtain⟨e,a₁,w₁,hq,harr⟩:=h1 b (.inScope c::k) cs hro hb hr;by_cases he:∀l,e≠.goto l
   .exact⟨e,a₁,w₁,h2 _ _ _ hq he,kD hb hr he harr⟩
   .obtain⟨l',rfl⟩:∃l',e=.goto l':=by
     cases e with
     |goto l'=>exact⟨l',rfl⟩
     |_=>exact absurd (by simp) he
    have hj:=h3 _ _ _ hq;cases hj with
    |mk Q2 hf2 _ _ _=>
     obtain⟨e₂,a₂,w₂,hq₂,harr₂⟩:=ih _ _ _ hq _ hf2;exact⟨e₂,a₂,w₂,hq₂,.of_steps (harr.1 _ (by simp[gotoIn,hf2])) harr₂⟩
 obtain⟨e,a₁,w₁,hq,harr⟩:=h b (.inScope c::k) cs hro hb hr;by_cases he:∀l,e≠.goto l
 .exact⟨e,a₁,w₁,hQ _ _ _ hq he,.of_steps (.one h0 ji) (kD hb hr he harr)⟩
 .obtain⟨l',rfl⟩:∃l',e=.goto l':=by
   cases e with
   |goto l'=>exact⟨l',rfl⟩
   |_=>exact absurd (by simp) he
  have hj:=hJ _ _ _ hq;have hj':=hj;cases hj' with
  |mk Q2 hf2 _ _ _=>
   obtain⟨e₂,a₂,w₂,hq₂,harr₂⟩:=key _ _ _ hj _ hf2;exact⟨e₂,a₂,w₂,hq₂,.of_steps (.head h0 ji (harr.1 _ (by simp[gotoIn,hf2]))) harr₂⟩
end scopes
section
variable {P:Program} {B:Nat} {s s1 s2 s':S} {ex:Exit}
def zm.refl(s:S):zm B s s:=λm w E a h=>⟨E,h,qq.refl B w E s.H⟩
def zm.trans(h:zm B s s1)(h':zm B s1 s2):zm B s s2:=λm w E a hs=>by
 obtain⟨E1,h1,g1⟩:=h m w E a hs;obtain⟨E2,h2,g2⟩:=h' m w E1 a h1;exact⟨E2,h2,g1.trans g2⟩
variable {R R':Exit->S->Prop}
def qb.pre{c:Code}(hw:zm B s s1)(h:qb P B c s1 R):qb P B c s R:=λq m w E a Q hr hs hq=>by
 obtain⟨E1,h1,g1⟩:=hw m w E a hs;exact h q m w E1 a Q hr h1 λex s' w' E' a' hR h2 g2=>hq ex s' w' E' a' hR h2 (g1.trans g2)
def qb.post{c:Code}(h:qb P B c s R')(hw:∀ex s1,R' ex s1->∃s2,zm B s1 s2/\R ex s2):qb P B c s R:=λq m w E a Q hr hs hq=>
 h q m w E a Q hr hs λex s1 w' E' a' hR h1 g1=>by
  obtain⟨s2,hw2,hR2⟩:=hw ex s1 hR;obtain⟨E2,h2,g2⟩:=hw2 m w' E' a' h1;exact hq ex s2 w' E2 a' hR2 h2 (g1.trans g2)
def qb.mono{c:Code}(h:qb P B c s R')(hw:∀ex s1,R' ex s1->R ex s1):qb P B c s R:=h.post λex s1 hR=>⟨s1,.refl s1,hw ex s1 hR⟩
def vx.pre{c:Code}{n:Nat}(hw:zm B s s1)(h:vx P B c n s1 R):vx P B c n s R:=λq m w E a Q hr hs hq=>by
 obtain⟨E1,h1,g1⟩:=hw m w E a hs;exact h q m w E1 a Q hr h1 λex s' w' E' a' hR h2 g2=>hq ex s' w' E' a' hR h2 (g1.trans g2)
def qb.skip(h:R .normal s):qb P B .skip s R:=λq m w E a Q hr hs hq=>wpIn_skip (hq _ _ w E a h hs (qq.refl B w E s.H))
def qb.exit(id:Nat)(h:R (.exit id) s):qb P B (.exit id) s R:=λq m w E a Q hr hs hq=>wpIn_exit (hq _ _ w E a h hs (qq.refl B w E s.H))
def qb.label(l:Nat)(h:R .normal s):qb P B (.label l) s R:=λq m w E a Q hr hs hq=>wpIn_label (hq _ _ w E a h hs (qq.refl B w E s.H))
def qb.ret(h:R .ret s):qb P B .ret s R:=λq m w E a Q hr hs hq=>wpIn_ret (hq _ _ w E a h hs (qq.refl B w E s.H))
def Ck(next:S->Prop)(R:Exit->S->Prop):Exit->S->Prop
 |.normal,s=>next s
 |ex,s=>R ex s
def qb.seq{x y:Code}(h:qb P B x s (Ck (λs1=>qb P B y s1 R) R)):qb P B (.seq x y) s R:=λq m w E a Q hr hs hq=>
 wpIn_seq (h q m w E a _ (λe=>hr (by simp[qW,e])) hs λex s1 w1 E1 a1 hR h1 g1=>by
  cases ex with
  |normal=>exact(hR:qb P B y s1 R) q m w1 E1 a1 Q (λe=>hr (by simp[qW,e])) h1 λex s2 w2 E2 a2 hR2 h2 g2=>hq ex s2 w2 E2 a2 hR2 h2 (g1.trans g2)
  |_=>exact hq _ s1 w1 E1 a1 hR h1 g1)
def BP(id:Nat)(R:Exit->S->Prop):Exit->S->Prop
 |.exit id',s=>if id'=id then R .normal s else R (.exit id') s
 |ex,s=>R ex s
def qb.block{id:Nat}{c:Code}(h:qb P B c s (BP id R)):qb P B (.block id c) s R:=λq m w E a Q hr hs hq=>
 wpIn_block (h q m w E a _ hr hs λex s1 w1 E1 a1 hR h1 g1=>by
  cases ex with
  |exit id'=>
   simp only[Exit.inBlock,BP] at *;split
   .rename_i hi;rw[c7 hi]at hR;exact hq _ s1 w1 E1 a1 hR h1 g1
   .rename_i hi;rw[c6 hi]at hR;exact hq _ s1 w1 E1 a1 hR h1 g1
  |_=>exact hq _ s1 w1 E1 a1 hR h1 g1)
def Ir(R:Exit->S->Prop):Exit->S->Prop
 |.goto _,_=>False
 |ex,s=>R ex s
def qb.scope{c:Code}(h:qb P B c s (Ir R)):qb P B (.scope c) s R:=λq m w E a Q hr hs hq=>
 kz (h q m w E a _ hr hs λex s1 w1 E1 a1 hR h1 g1=>by
  cases ex with
  |goto l=>exact(hR:False).elim
  |_=>exact hq _ s1 w1 E1 a1 hR h1 g1)
def qb.goto(l:Nat)(h:R (.goto l) s):qb P B (.goto l) s R:=λq m w E a Q hr hs hq=>wpIn_goto (hq _ _ w E a h hs (qq.refl B w E s.H))
def CU:∀{c:Code} {l:Nat} {rest:Code},findLabel c l=some rest->qW rest=true->qW c=true:=by
 intro c
 induction c with
 |seq x y ihx ihy=>
  intro l rest h hr;simp only[findLabel]at h;split at h
  .rename_i r hx;cases h
   simp only[qW,gf]at hr|-;exact hr.imp (ihx hx) id
  .simp only[qW,gf];exact .inr (ihy h hr)
 |label l'=>
  intro l rest h hr;simp only[findLabel]at h;split at h
  .cases h;cases hr
  .cases h
 |_=>intro l rest h;simp[findLabel]at h
inductive uv(P:Program)(B:Nat)(c:Code)(R:Exit->S->Prop):Nat->S->Prop
 |mk {l:Nat} {s:S} {rest:Code} (R':Exit->S->Prop):findLabel c l=some rest->qb P B rest s R'->(∀e s,R' e s->(∀l,e≠.goto l)->R e s)->(∀l s,R' (.goto l) s->uv P B c R l s)->uv P B c R l s
def uv.JD{c:Code}{l:Nat}(h:uv P B c R l s):∀(q:Option Nat) (m:Nat) (w:World) (E:Env) (a:Act) (Q:Exit->Act->World->Prop),(qW c=true->q=none)->je B m w E s a->
  (∀ex s' w' E' a',R ex s'->je B m w' E' s' a'->qq B w E s.H w' E' s'.H->Q ex a' w')->wb (fw q) 0 P c Q l a w:=by
 induction h with
 | @mk l s rest R1 hf h1 h2 h3 ih=>
  intro q m w E a Q hr hs hq
  refine .mk (λe a' w'=>∃s' E',R1 e s'/\je B m w' E' s' a'/\qq B w E s.H w' E' s'.H) hf (h1 q m w E a _ (λe=>hr (CU hf e)) hs λex s' w' E' a' hR h g=>⟨s',E',hR,h,g⟩)
   (λe a' w' ⟨s',E',hR,h,g⟩ he=>hq _ _ _ _ _ (h2 _ _ hR he) h g) (λl' a' w' ⟨s',E',hR,h,g⟩=>?_)
  exact ih _ _ hR q m w' E' a' Q hr h λex s2 w2 E2 a2 hR2 hs2 g2=>hq ex s2 w2 E2 a2 hR2 hs2 (g.trans g2)
def B4(P:Program)(B:Nat)(c:Code)(R:Exit->S->Prop):Exit->S->Prop
 |.goto l,s=>uv P B c R l s
 |ex,s=>R ex s
def qb.IN{c:Code}(h:qb P B c s (B4 P B c R)):qb P B (.scope c) s R:=λq m w E a Q hr hs hq=>
 CS (Q':=λe a' w'=>∃s' E',B4 P B c R e s'/\je B m w' E' s' a'/\qq B w E s.H w' E' s'.H) (h q m w E a _ hr hs λex s' w' E' a' hR h g=>⟨s',E',hR,h,g⟩)
  (λe a' w' ⟨s',E',hR,h,g⟩ he=>by
   cases e with
   |goto l=>exact absurd V (he l)
   |_=>exact hq _ _ _ _ _ hR h g)
  (λl a' w' ⟨s',E',hR,h,g⟩=>uv.JD hR q m w' E' a' Q hr h λex s2 w2 E2 a2 hR2 hs2 g2=>hq ex s2 w2 E2 a2 hR2 hs2 (g.trans g2))
def vx.step{c:Code}{n:Nat}(h:qb P B c s (Ck (λs1=>vx P B c n s1 R) R)):vx P B c (n+1) s R:=λq m w E a Q hr hs hq=>by
 rw[roundsIn_succ]
 exact h q m w E a _ hr hs λex s1 w1 E1 a1 hR h1 g1=>by
  cases ex with
  |normal=>exact(hR:vx P B c n s1 R) q m w1 E1 a1 Q hr h1 λex s2 w2 E2 a2 hR2 h2 g2=>hq ex s2 w2 E2 a2 hR2 h2 (g1.trans g2)
  |_=>exact hq _ s1 w1 E1 a1 hR h1 g1
def vx.more{c:Code}{n m:Nat}(hm:n<=m)(h:vx P B c n s R):vx P B c m s R:=λq k w E a Q hr hs hq=>o0 hm (h q k w E a Q hr hs hq)
def zp(P:Program)(B:Nat)(c:Code)(s:S)(R:Exit->S->Prop):Prop:=∃n,vx P B c n s R
def zp.pre{c:Code}(hw:zm B s s1)(h:zp P B c s1 R):zp P B c s R:=let ⟨n,hn⟩:=h;⟨n,.pre hw hn⟩
def qb.loop{c:Code}(h:zp P B c s R):qb P B (.loop c) s R:=λq m w E a Q hr hs hq=>let ⟨n,hn⟩:=h;wpIn_loop_rounds n (hn q m w E a Q hr hs hq)
def uq:Value->C
 |.slice none 0 0=>.rG 1 0 []
 |.func (.func f) first caps=>if first.size=0/\caps.size=0 then .fn f [] [] else .za
 |.tuple vs=>if vs.size=0 then .un else .za
 |.agg _=>.za
 |x=>.v x
def B6(E:Env)(x:Value):L E (uq x) x:=by
 unfold uq;split
 .exact .q6 _ _ (.inr V)
 .rename_i f first caps;split
  .rename_i h;obtain⟨h1,h2⟩:=h;obtain rfl:first= #[]:=gd h1;obtain rfl:caps= #[]:=gd h2;exact .fn f [] [] #[] #[] V V (by simp) (by simp)
  .exact .za _
 .rename_i vs;split
  .rename_i h;obtain rfl:vs= #[]:=gd h;exact .un
  .exact .za _
 .exact .za _
 .rename_i h1 h2;refine .v _ ?_;cases x <;> simp_all[Value.oneCell']
def ev(tmps:List C):Operand->C
 |.tmp t=>(tmps[t]?).getD .za
 |.const v=>uq v
 |.global g=>.v (.pointer (some ⟨g,0,none⟩))
 |.func f=>.fn f [] []
def fP{tmps:List C}(h:LL E tmps a.tmps.toList)(x:Operand):L E (ev tmps x) (a.eval x):=by
 cases x with
 |tmp t=>
  simp only[ev,Act.eval];cases ht:tmps[t]? with
  |none=>exact .za _
  |some c=>
   obtain⟨y,hy,hl⟩:=h.get ht
   have:a.tmps.getD t undef=y:=by
    rw[dw]at hy;rw[dE,hy];rfl
   rw[this];exact hl
 |const v=>exact B6 E v
 |global g=>exact .v _ V
 |func f=>exact .fn f [] [] #[] #[] V V (by simp) (by simp)
def ez(ops:Array Oper)(tmps:List C)(j:Nat):Option (Option Bool):=
 match (ops[j]?).bind (·.dst) with
 |none=>some none
 |some d=>match tmps[d]? with
  |none=>some none
  |some (.v (.bool b))=>some (some b)
  |some .un=>some none
  |_=>none
def AE{tmps:List C}(h:LL E tmps a.tmps.toList){j:Nat}{r:Option Bool}(hr:ez ops tmps j=some r):yielded ops a.tmps j=r:=by
 unfold ez at hr;unfold yielded;cases hd:(ops[j]?).bind (·.dst) with
 |none=>simp only[hd]at hr;cases hr;rfl
 |some d=>
  simp only[hd,dB]at hr|-;cases ht:tmps[d]? with
  |none=>
   simp only[ht]at hr;cases hr
   have hn:a.tmps[d]?=none:=by
    rw[Array.getElem?_eq_none_iff];have:=dI.1 ht;have h1:=h.1;simp at h1;omega
   rw[hn]
  |some c=>
   simp only[ht]at hr;obtain⟨y,hy,hl⟩:=h.get ht;rw[dw]at hy;rw[hy];split at hr
   .rename_i e;cases e
   .rename_i e;cases e;cases hr;cases hl;rfl
   .rename_i e;cases e;cases hr;cases hl;rfl
   .cases hr
def qt(ops:Array Oper)(tmps:List C)(o:Oper):Option Bool:=
 match o.guard with
 |none=>some true
 |some (j,want)=>match ez ops tmps j with
  |some (some b)=>some (b == want)
  |some none=>some false
  |none=>none
def qA{tmps:List C}(h:LL E tmps a.tmps.toList){b:Bool}(hb:qt ops tmps o=some b):
  Region.wanted o (yielded ops a.tmps)=b:=by
 unfold qt at hb;unfold Region.wanted;split at hb
 .rename_i hg;simp only[hg];cases hb;rfl
 .rename_i j want hg;simp only[hg];split at hb
  .rename_i x hx;rw[AE h hx];cases hb;cases x <;> cases want <;> rfl
  .rename_i hx;rw[AE h hx];cases hb;rfl
  .cases hb
def put(tmps:List C)(dst:Option Tmp)(c:C):List C:=
 match dst with
 |some d=>tmps.set d c
 |none=>tmps
def iA{tmps:List C}(h:LL E tmps a.tmps.toList)(hl:L E c y)(dst:Option Tmp):LL E (put tmps dst c) (a.put dst y).tmps.toList:=by
 cases dst with
 |none=>exact h
 |some d=>simpa [put,Act.put] using h.set hl d
def je.put{m:Nat}{w:World}{E:Env}{s:S}{a:Act}(h:je B m w E s a){c:C}{y:Value}(hl:L E c y)(dst:Option Tmp):
  je B m w E ⟨Ab.put s.tmps dst c,s.H⟩ (a.put dst y):=
 ⟨h.heap,iA h.tmps hl dst,by cases dst <;> exact h.defers,h.base⟩
def x2.nil{R:S->Prop}(h:R s):x2 P B ops [] s R:=λq m w E a Q hs hq=>wpListIn_nil (hq s w E a h hs (qq.refl B w E s.H))
def x2.run{R1 R:S->Prop}(hw:qt ops s.tmps o=some true)(h:kB P B o s R1)(h':∀s1,R1 s1->x2 P B ops l s1 R):x2 P B ops (o::l) s R:=λq m w E a Q hs hq=>by
 unfold wpListIn;rw[c7 (qA hs.tmps hw)];exact h q m w E a _ Q hs λs1 w1 E1 a1 hR h1 g1=>h' s1 hR q m w1 E1 a1 Q h1 λs2 w2 E2 a2 hR2 h2 g2=>hq s2 w2 E2 a2 hR2 h2 (g1.trans g2)
def x2.pass{R:S->Prop}(hw:qt ops s.tmps o=some false)(h':x2 P B ops l ⟨put s.tmps o.dst .un,s.H⟩ R):x2 P B ops (o::l) s R:=λq m w E a Q hs hq=>by
 unfold wpListIn;rw[c6 (by rw[qA hs.tmps hw];decide)];exact⟨λ_ _=>trivial,h' q m w E _ Q (hs.put (.un) o.dst) hq⟩
def qb.region{id:Nat}{ops:Array Oper}{R:Exit->S->Prop}(h:x2 P B ops ops.toList s (R .normal)):qb P B (.region id ops false) s R:=λq m w E a Q hs0 hs hq=>
 wpIn_region_list (h q m w E a Q hs λs' w' E' a' hR h1 g1=>hq _ s' w' E' a' hR h1 g1)
def qb.cond{c:Operand}{x y:Code}{b:Bool}{R:Exit->S->Prop}(hc:ev s.tmps c=.v (.bool b))(h:qb P B (if b then x else y) s R):qb P B (.cond c x y) s R:=λq m w E a Q hr hs hq=>by
 have:=fP hs.tmps c;rw[hc]at this;have hb:a.eval c=.bool b:=by generalize a.eval c=z at *;cases this;rfl
 exact wpIn_cond hb (h q m w E a Q (λe=>hr (by cases b <;> simp_all[qW])) hs hq)
end
def sY(P:Program)(K:Value->World->Prop):Result Next->Prop
 |.ok (.value v) w=>K v w
 |.ok .skip w=>K undef w
 |.ok (.enter f args) w=>Calls P f args w λe w'=>∃v,e=.returned v/\K v w'
 |.ok (.round l f tmps assign body) w=>RoundIn (fw none) 0 P l f tmps assign body w λe w'=>∃v,e=.returned v/\K v w'
 |_=>False
def rQ(P:Program)(o:Oper)(ρ:Operand->C)(H:zf)(c:C)(H':zf):Prop:=
 ∀(w:World) (E:Env) (σ:Operand->Value),zL w E H->(∀x∈o.op.operands,L E (ρ x) (σ x))->
  ∀K:Value->World->Prop,(∀v w' E',zL w' E' H'->L E' c v->Grow w E H w' E' H'->K v w')->sY P K ((execOp σ o).run P w)
def zU(P:Program)(o:Oper)(ρ:Operand->C)(H:zf)(c:C)(H':zf):Prop:=
 ∀(w:World) (E:Env) (σ:Operand->Value),zD w E H->(∀x∈o.op.operands,L E (ρ x) (σ x))->
  ∀K:Value->World->Prop,(∀v w' E',zD w' E' H'->L E' c v->zR w E H w' E' H'->K v w')->sY P K ((execOp σ o).run P w)
def wg(P:Program)(o:Oper)(ρ:Operand->C)(H:zf)(c:C)(H':zf):Prop:=
 ∀(w:World) (E:Env) (σ:Operand->Value),zL w E H->(∀x∈o.op.operands,L E (ρ x) (σ x))->(∀v,σ (.const v)=v)->
  ∀K:Value->World->Prop,(∀v w' E',zL w' E' H'->L E' c v->Grow w E H w' E' H'->K v w')->sY P K ((execOp σ o).run P w)
def qz(P:Program)(o:Oper)(ρ:Operand->C)(H:zf)(R:C->zf->Prop):Prop:=
 ∀(w:World) (E:Env) (σ:Operand->Value),zL w E H->(∀x∈o.op.operands,L E (ρ x) (σ x))->(∀v,σ (.const v)=v)->
  ∀K:Value->World->Prop,(∀c H' v w' E',R c H'->zL w' E' H'->L E' c v->Grow w E H w' E' H'->K v w')->sY P K ((execOp σ o).run P w)
def wg.sX(h:wg P o ρ H c H')(hR:R c H'):qz P o ρ H R:=λw E σ hh hl hc K hk=>h w E σ hh hl hc K λv w' E'=>hk c H' v w' E' hR
def rQ.sX(h:rQ P o ρ H c H')(hR:R c H'):qz P o ρ H R:=λw E σ hh hl _ K hk=>h w E σ hh hl K λv w' E'=>hk c H' v w' E' hR
def kB.ic(h:qz P o (ev s.tmps) s.H R):kB P B o s (λs'=>∃c H',R c H'/\s'=⟨put s.tmps o.dst c,H'⟩):=λq m w E a K Q hs hk=>by
 have:=h w E a.eval hs.heap (λx _=>fP hs.tmps x) (λ_=>V) (λv w'=>K (a.put o.dst v) w') λc H' v w' E' hR h1 h2 g=>
  hk _ w' E' _ ⟨c,H',hR,rfl⟩ ⟨h1,iA (hs.tmps.mono g.le) h2 o.dst,by have:=hs.defers.grow hs.heap g;cases o.dst <;> exact this,by have:=g.le.n;rw[hs.heap.n,h1.n]at this;exact dK hs.base this⟩ (g.sB (by rw[hs.heap.n];exact hs.base))
 have r9:∀d,o.op≠.defer d:=λd hd=>by
  have h2:=this;unfold execOp at h2;simp only[hd,Sem.run_bind]at h2;cases hr:(resolve a.eval d o.type).run P w with
  |ok x w1=>simp[hr,Result.andThen,sY]at h2
  |halt x w1=>simp[hr,Result.andThen,sY]at h2
 unfold Oper.wpIn;refine⟨λ_ _=>trivial,?_⟩;rw[Oper.semAt_eq _ _ _ r9];generalize (execOp a.eval o).run P w=r at this|-;unfold sY at this;split at this
 .exact this
 .exact this
 .rw[Oper.uponIn_enter];refine⟨λh=>(by cases h),callsIn_wide.2 (Calls.mono this ?_)⟩;rintro e w' ⟨v,rfl,hv⟩;exact hv
 .rw[Oper.uponIn_round];refine⟨λh=>(by cases h),RoundIn.mono (F:=fw q) this ?_⟩;rintro e w' ⟨v,rfl,hv⟩;exact hv
 .exact this.elim
def kB.iG(h:rQ P o (ev s.tmps) s.H c H')(q:Option Nat)(m:Nat)(w:World)(E:Env)(a:Act)(K:Act->World->Prop)(Q:Exit->Act->World->Prop)(hs:je B m w E s a)
 (hq:∀w' E' a',je B m w' E' ⟨put s.tmps o.dst c,H'⟩ a'->qq B w E s.H w' E' H'->K a' w'):o.wpIn (fw q) 0 P a w K Q:=
 kB.ic (B:=B) (h.sX (R:=λx X=>x=c/\X=H') ⟨rfl,rfl⟩) q m w E a K Q hs λs' w' E' a' ⟨x,X,⟨e1,e2⟩,e3⟩ h1 g1=>by subst e1 e2 e3;exact hq w' E' a' h1 g1
def rQ.congr{ρ':Operand->C}(h:rQ P o ρ H c H')(he:∀x∈o.op.operands,ρ' x=ρ x):rQ P o ρ' H c H':=
 λw E σ hh hl K hk=>h w E σ hh (λx hx=>he x hx ▸ hl x hx) K hk
def zU.congr{ρ':Operand->C}(h:zU P o ρ H c H')(he:∀x∈o.op.operands,ρ' x=ρ x):zU P o ρ' H c H':=
 λw E σ hh hl K hk=>h w E σ hh (λx hx=>he x hx ▸ hl x hx) K hk
def rQ.fa(h:zU P o ρ H c H')(hk:qs H H'):rQ P o ρ H c H':=λw E σ hh hl K hK=>
 h w E σ hh.base hl K λv w' E' h1 h2 g=>hK v w' E' ⟨h1,sR.step hh g hk⟩ h2 (g.up hh hk)
def rQ.same(h:zU P o ρ H c H):rQ P o ρ H c H:=.fa h (qs.refl H)
def qs.push(H:zf)(ob:Ob)(hk:ob.kind≠4):qs H (H++[ob]):=λid ob' h4=>by
 by_cases rF:id<H.length
 .rw[da rF]
 .rw[dg (by omega),dZ (l:=H) (by omega)];constructor
  .intro h;cases hd:id-H.length with
   |zero=>rw[hd]at h;cases h;exact absurd h4 hk
   |succ n=>rw[hd]at h;simp at h
  .intro h;cases h
def qs.modify(H:zf)(id:Nat)(f:Ob->Ob)(hf:∀ob,H[id]?=some ob->ob.kind≠4/\(f ob).kind≠4):qs H (H.modify id f):=λid' ob' h4=>by
 rw[dR];by_cases he:id=id'
 .subst he;cases hx:H[id]? with
  |none=>simp
  |some ob=>
   obtain⟨h1,h2⟩:=hf ob hx;simp only[gE,dc,if_true];constructor
   .intro h;cases h;exact absurd h4 h2
   .intro h;cases h;exact absurd h4 h1
 .cases hx:H[id']? with
  |none=>simp
  |some ob=>simp[he]
def qs.trans{H H' H'':zf}(h:qs H H')(h':qs H' H''):qs H H'':=λid ob h4=>(h' id ob h4).trans (h id ob h4)
def wZ(P:Program){α:Type}:Sem α->Option α
 |.pure a=>some a
 |.program k=>wZ P (k P)
 |_=>none
def H8(e:Sem α){a:α}(h:wZ P e=some a)(w:World):e.run P w=.ok a w:=by
 induction e with
 |pure a'=>simp only[wZ,dj]at h;subst h;rfl
 |program k ih=>simp only[wZ]at h;exact ih P h
 |_=>simp[wZ]at h
def tI:C->Value
 |.v x=>x
 |_=>undef
def rR:C->Bool
 |.v _=>true
 |_=>false
def q7(o:Oper):Bool:=match o.op with|.select ..=>false|_=>true
def zU.scalar{v:Value}(hs:q7 o=true)(hv:o.op.operands.all (λx=>rR (ρ x))=true)
 (hr:wZ P (execOp (λx=>tI (ρ x)) o)=some (.value v))(h1:v.oneCell'=true):zU P o ρ H (.v v) H:=λw E σ hh hl K hk=>by
 have he:execOp σ o=execOp (λx=>tI (ρ x)) o:=execOp_congr o (λcs b hc=>by simp[q7,hc]at hs) λx hx=>by
  have h1:rR (ρ x)=true:=by
   have:=Array.all_eq_true_iff_forall_mem.1 hv x hx;simpa using this
  have h2:=hl x hx;cases hc:ρ x with
  |v y=>rw[hc]at h2;cases h2;rfl
  |_=>rw[hc]at h1;cases h1
 rw[he,H8 _ hr w];exact hk v w E hh (.v v h1) (zR.refl w E H)
def oQ{o:Obj}(h:b<w.heap.size):(w.alloc o).cell? ⟨b,off,none⟩=w.cell? ⟨b,off,none⟩:=
 World.cell?_alloc_lt _ _ _ h
def kg(h:w.cell? ⟨b,off,none⟩=some u):b<w.heap.size:=World.block_lt_of_cell? w _ h
def Env.push(E:Env)(g κ:Nat):Env:=
 {n:=E.n+1,β:=λid hops=>if id=E.n then g else E.β id hops,κ:=λid hops=>if id=E.n then κ else E.κ id hops,St:=E.St,G:=E.G}
def Env.mC(E:Env)(g κ:Nat):E.le (E.push g κ):=
 ⟨Nat.le_succ _,λid hops h=>by simp[Env.push,g8 h],λid hops h=>by simp[Env.push,g8 h],λb o u h=>h,λ_ _ _ _ h=>h⟩
def zy:C->Bool
 |.rG 2 _ _=>false
 |_=>true
def z6.loose{id:Nat}{i k:Nat}(hn:zy c=true):z6 E kd id hops i k c u↔L (E.at kd) c u/\u.oneCell'=true:=by
 unfold z6;split
 .simp[zy]at hn
 .rfl
def z6.mono{E E':Env}(h:E.le E'){kd id:Nat}(hid:id<E.n){hops:List rT}{i k:Nat}{c:C}{u:Value}(hc:z6 E kd id hops i k c u):z6 E' kd id hops i k c u:=by
 unfold z6 at *;split at hc
 .rw[h.β id _ hid,h.κ id _ hid];exact hc
 .exact⟨hc.1.mono (h.at kd),hc.2⟩
def y8{id:Nat}(h:zB H id hops=some x):id<H.length:=by
 unfold zB at h;split at h
 .rename_i ob ho;exact(cW.1 ho).1
 .cases h
def qd{id:Nat}(h:zB H id hops=some x):∃ob,H[id]?=some ob/\(ob.kind=1\/ob.kind=2)/\xh ob.sz ob.rows hops=some x:=by
 unfold zB at h;split at h
 .rename_i ob ho;split at h
  .rename_i hk;exact⟨ob,ho,hk,h⟩
  .cases h
 .cases h
def zD.lt(h:zD w E H){id:Nat}(hx:zB H id hops=some x):E.β id hops<w.heap.size:=by
 obtain⟨ob,ho,_,_⟩:=qd hx;obtain⟨cur,e,hg,_⟩:=(h.rM id ob hops x.1 x.2 ho (by simpa using hx)).rM;exact(db.1 hg).1
def xB{id:Nat}(h:id<H.length)(X:zf):zB (H++X) id hops=zB H id hops:=by
 unfold zB;rw[da h]
def eM.mK{id:Nat}(h:eM w E kd id hops sz rows):E.β id hops<w.heap.size:=by
 obtain⟨cur,e,hg,_⟩:=h.rM;exact(db.1 hg).1
def eM.step(hle:E.le E'){id:Nat}(hid:id<E.n)(h:eM w E kd id hops sz rows)
 (hh:w'.heap[E.β id hops]?=w.heap[E.β id hops]?):eM w' E' kd id hops sz rows:=by
 obtain⟨cur,e,hg,hsz,hc⟩:=h.rM;refine⟨by rw[hle.κ id hops hid];exact h.len,h.row,cur,e,by rw[hle.β id hops hid,hh];exact hg,by rw[hle.κ id hops hid];exact hsz,?_⟩;intro i k c hcc;obtain⟨u,hu,ho⟩:=hc i k c hcc;exact⟨u,hu,ho.mono hle hid⟩
def xV(hn:∀i k c,cellAt rows i k=some c->zy c=true)(h:xh sz rows hops=some x):hops=[]/\x=(sz,rows):=by
 cases hops with
 |nil=>simp[xh]at h;exact⟨rfl,h.symm⟩
 |cons hd tl=>
  obtain⟨i,k⟩:=hd;simp only[xh]at h;split at h
  .rename_i h1;have:=hn _ _ _ h1;simp[zy]at this
  .cases h
def zD.push{w:World}{E:Env}{H:zf}(h:zD w E H)(kind:Nat)(ty:TypeId)(sz κ:Nat)(rows:List (List C))(cur:Array Value)(hk:kind=1\/kind=2)(hrow:∀r∈rows,r.length=sz)
 (hlen:rows.length<=κ)(hcur:cur.size=κ*sz)(hn:∀i k c,cellAt rows i k=some c->zy c=true)
 (hc:∀i k c,cellAt rows i k=some c->∃u,cur[i*sz+k]?=some u/\L (E.at kind) c u/\u.oneCell'=true):
  zD (w.alloc (.cells cur ty)) (E.push w.heap.size κ) (H++[⟨kind,ty,sz,rows,0⟩])/\zR w E H (w.alloc (.cells cur ty)) (E.push w.heap.size κ) (H++[⟨kind,ty,sz,rows,0⟩]):=by
 have hle:=E.mC w.heap.size κ
 have get:∀id hops x,zB (H++[⟨kind,ty,sz,rows,0⟩]) id hops=some x->(id<H.length/\zB H id hops=some x)\/(id=H.length/\hops=[]/\x=(sz,rows)):=by
  intro id hops x hx;by_cases rF:id<H.length
  .exact .inl ⟨rF,by rw[xB rF]at hx;exact hx⟩
  .have h1:=y8 hx;simp at h1;have:id=H.length:=by omega
   subst this;simp only[zB,dg (de _),gU,pI]at hx;rw[c7 hk]at hx;obtain⟨e1,e2⟩:=xV hn hx;exact .inr ⟨rfl,e1,e2⟩
 have hnew:∀hops,(E.push w.heap.size κ).β H.length hops=w.heap.size:=λhops=>by simp[Env.push,h.n]
 have hold:∀id hops,id<H.length->(E.push w.heap.size κ).β id hops=E.β id hops:=λid hops rF=>hle.β id hops (by rw[h.n];exact rF)
 refine⟨⟨by simp[Env.push,h.n],?_,?_,?_,?_,?_,?_⟩,⟨hle,λ_ _ _=>V,rfl,rfl,rfl,by show _<=(w.heap.push _).size;simp,?_,?_,?_⟩⟩
 .intro id ob hops sz' rows' hob hx;rcases get id hops _ hx with⟨rF,hx'⟩|⟨rfl,rfl,hx'⟩
  .rw[da rF]at hob;have hb:=h.rM id ob hops sz' rows' hob hx';exact hb.step hle (by rw[h.n];exact rF) (heap_alloc_old w _ hb.mK)
  .cases hx'
   simp at hob;subst hob;refine⟨by simp[Env.push,h.n,hlen],hrow,cur,ty,by rw[hnew];exact heap_alloc_new w _,by simp[Env.push,h.n,hcur],?_⟩;intro i k c hcc;obtain⟨u,hu,hl,ho⟩:=hc i k c hcc;exact⟨u,hu,(z6.loose (hn i k c hcc)).2 ⟨hl.mono (hle.at kind),ho⟩⟩
 .intro id hops id' hops' x y hx hy he;rcases get id hops _ hx with⟨rF,hx'⟩|⟨rfl,rfl,hx'⟩ <;> rcases get id' hops' _ hy with⟨hlt',hy'⟩|⟨rfl,rfl,hy'⟩
  .rw[hold id hops rF,hold id' hops' hlt']at he;exact h.inj id hops id' hops' x y hx' hy' he
  .rw[hold id hops rF,hnew]at he;have:=h.lt hx';omega
  .rw[hold id' hops' hlt',hnew]at he;have:=h.lt hy';omega
  .exact⟨rfl,rfl⟩
 .intro b o u hu;have hs:=h.zK b o u hu;rw[oQ (kg hs.1)];exact hs
 .intro id hops x o u hx hu;rcases get id hops _ hx with⟨rF,hx'⟩|⟨rfl,rfl,hx'⟩
  .rw[hold id hops rF]at hu;obtain⟨e1,ob,e2,e3⟩:=h.sep id hops x o u hx' hu;exact⟨e1,ob,by rw[da rF];exact e2,e3⟩
  .rw[hnew]at hu;have:=kg (h.zK _ _ _ hu).1;omega
 .intro id ob hob hkd;by_cases rF:id<H.length
  .rw[da rF]at hob;obtain⟨cur',hc'⟩:=h.ty id ob hob hkd;refine⟨cur',?_⟩;rw[hold id [] rF,heap_alloc_old w _ (db.1 hc').1];exact hc'
  .have h1:=(cW.1 hob).1;simp at h1;have:id=H.length:=by omega
   subst this;simp at hob;subst hob;exact⟨cur,by rw[hnew];exact heap_alloc_new w _⟩
 .intro id ob hob;by_cases rF:id<H.length
  .rw[da rF]at hob;exact h.fz id ob hob
  .have h1:=(cW.1 hob).1;simp at h1;have:id=H.length:=by omega
   subst this;simp at hob;subst hob;exact dA _
 .intro k hk' ho;exact heap_alloc_old w _ hk'
 .intro b o u hu;exact .inl hu
 .rintro b ⟨id,hops,x,hx,rfl⟩;rcases get id hops _ hx with⟨rF,hx'⟩|⟨rfl,rfl,hx'⟩
  .exact .inr ⟨id,hops,x,hx',by rw[hold id hops rF]⟩
  .exact .inl (by rw[hnew];exact de _)
section
variable {P:Program} {o:Oper} {ρ:Operand->C} {H:zf}
def qk(h:P.info? t=some i)(w:World):(sizeOf t).run P w=.ok i.size w:=by
 simp[sizeOf,typeInfo,h]
def jd{z:Value}(h:P.info? t=some i)(hz:i.zero=some z)(w:World):(zeroValue t).run P w=.ok z w:=by
 simp[zeroValue,typeInfo,h,hz]
def zU.move(x:Operand)(ho:o.op=.move x\/o.op=.assign x):zU P o ρ H (ρ x) H:=λw E σ hh hl K hk=>by
 have h1:(execOp σ o).run P w=.ok (.value (σ x)) w:=by
  unfold execOp;rcases ho with ho|ho <;> simp only[ho] <;> rfl
 rw[h1];exact hk _ w E hh (hl x (by rcases ho with ho|ho <;> simp[ho,Op.operands])) (zR.refl w E H)
def zU.pick(x y z:Operand)(ho:o.op=.pick x y z)(b:Bool)(hb:ρ x=.v (.bool b)):zU P o ρ H (if b then ρ y else ρ z) H:=λw E σ hh hl K hk=>by
 have h0:=hl x (by simp[ho,Op.operands]);rw[hb]at h0;have hx:σ x=.bool b:=by generalize σ x=u at *;cases h0;rfl
 have h1:(execOp σ o).run P w=.ok (.value (if b then σ y else σ z)) w:=by
  unfold execOp;simp only[ho,hx];cases b <;> rfl
 rw[h1];refine hk _ w E hh ?_ (zR.refl w E H);cases b
 .exact hl z (by simp[ho,Op.operands])
 .exact hl y (by simp[ho,Op.operands])
def jP{i k:Nat}:cellAt [cs] i k=some c↔i=0/\cs[k]?=some c:=by
 unfold cellAt;cases i <;> simp
def zD.Bi(h:zD w E H)(ty:TypeId)(cs:List C)(ys:Array Value)(hl:LL E cs ys.toList)(hn:cs.all zy=true)(h1:∀y∈ys,y.oneCell'=true):
  zD (w.alloc (.cells ys ty)) (E.push w.heap.size 1) (H++[⟨1,ty,cs.length,[cs],0⟩])/\zR w E H (w.alloc (.cells ys ty)) (E.push w.heap.size 1) (H++[⟨1,ty,cs.length,[cs],0⟩]):=by
 refine h.push 1 ty cs.length 1 [cs] ys (.inl V) (by simp) (by simp) (by have:=hl.1;simp at this;omega) ?_ ?_
 .intro i k c hc;obtain⟨_,hc⟩:=jP.1 hc;exact c8.1 hn c (cZ hc)
 .intro i k c hc;obtain⟨rfl,hc⟩:=jP.1 hc;obtain⟨y,hy,hly⟩:=hl.get hc;refine⟨y,by simpa using hy,by simpa [Env.at] using hly,h1 y ?_⟩;have:=cZ hy;simpa using this
def vr(P:Program)(t:TypeId):Option (List C):=
 match P.info? t with
 |some i=>match i.zero with
  |some z=>if z.cells.toList.all (·.oneCell') && (z.cells.size == i.size) then some (z.cells.toList.map uq) else none
  |none=>none
 |none=>none
def ym(h:vr P t=some cs)(E:Env):∃i z,P.info? t=some i/\i.zero=some z/\LL E cs z.cells.toList/\(∀y∈z.cells,y.oneCell'=true)/\z.cells.size=i.size/\cs.all zy=true/\cs.length=i.size:=by
 unfold vr at h;split at h
 .rename_i i hi;split at h
  .rename_i z hz;split at h
   .rename_i hc;cases h
    simp only[c9,dH,c8]at hc;refine⟨i,z,hi,hz,⟨by simp,?_⟩,λy hy=>hc.1 y (by simpa using hy),hc.2,?_,by simp[hc.2]⟩
    .intro k c y h1 h2;rw[cX,h2]at h1;cases h1
     exact B6 E y
    .rw[c8];intro c hcm;obtain⟨y,hy,rfl⟩:=dT.1 hcm;unfold uq;split <;> (try split) <;> rfl
   .cases h
  .cases h
 .cases h
def BX(h:zD w E H)(g κ sz:Nat):L (E.push g κ) (.ref H.length [] sz 0 0) (.pointer (some ⟨g,0,none⟩)):=by
 have:=L.ref (E:=E.push g κ) H.length [] sz 0 0 (by simp[Env.push,h.n]);have hb:(E.push g κ).β H.length []=g:=by simp[Env.push,h.n]
 rw[hb]at this;simpa using this
def zU.alloc(t:TypeId)(ho:o.op=.alloc t){cs:List C}(hz:vr P t=some cs):zU P o ρ H (.ref H.length [] cs.length 0 0) (H++[⟨1,t,cs.length,[cs],0⟩]):=λw E σ hh hl K hk=>by
 obtain⟨i,z,hi,hz,hll,h1,hsz,hn,hlen⟩:=ym hz E
 have hr:(execOp σ o).run P w=.ok (.value (.pointer (some ⟨w.heap.size,0,none⟩))) (w.alloc (.cells z.cells t)):=by
  unfold execOp;simp only[ho,Instr.alloc,Sem.run_bind,jd hi hz,Result.andThen_ok,newVar,newRow]
  rfl
 rw[hr];obtain⟨a,b⟩:=hh.Bi t cs z.cells hll hn h1;exact hk _ _ _ a (BX hh _ _ _) b
def vB:C->Bool
 |.v _=>true
 |.rG o _ _=>o != 2
 |.qC _|.ref .. |.sl .. |.fn .. |.mp _|.gl .. |.r4 .. |.rc _=>true
 |_=>false
def GI(h:L E c y)(hc:vB c=true):y.oneCell'=true:=by
 cases h with
 |v x hx=>exact hx
 |agg=>simp[vB]at hc
 |rO=>simp[vB]at hc
 |un=>simp[vB]at hc
 |za=>simp[vB]at hc
 |gl id sz rows y hn hg h=>cases h <;> rfl
 |_=>rfl
def GJ(hc:vB c=true):zy c=true:=by
 unfold vB at hc;unfold zy;split at hc <;> first|rfl|(split <;> simp_all)|cases hc
def k9:C->Bool
 |.agg cs=>cs.all zy
 |c=>vB c
def wa(h:L E c y)(hc:k9 c=true):LL E c.cells y.cells.toList/\(∀u∈y.cells,u.oneCell'=true)/\c.cells.all zy=true:=by
 cases c with
 |agg cs=>
  cases h with
  |agg _ ys h1 h2 h3=>exact⟨⟨by simpa [C.cells,Value.cells] using h1,λi c y e1 e2=>h2 i c y e1 (by simpa [Value.cells] using e2)⟩,h3,by simpa [k9,C.cells] using hc⟩
 |za=>simp[k9,vB]at hc
 |un=>simp[k9,vB]at hc
 |rO=>simp[k9,vB]at hc
 |_=>
  have ho:=GI h (by simpa [k9] using hc);have hcell:y.cells= #[y]:=by cases y <;> first|rfl|(simp[Value.oneCell']at ho)
  refine⟨h.cells (by simp) (by simp),by rw[hcell];simpa using ho,?_⟩;have:=GJ (by simpa [k9] using hc);simpa [C.cells] using this
def zU.box(t:TypeId)(x:Operand)(ho:o.op=.box t x)(hc:k9 (ρ x)=true):zU P o ρ H (.ref H.length [] (ρ x).cells.length 0 0) (H++[⟨1,t,(ρ x).cells.length,[(ρ x).cells],0⟩]):=λw E σ hh hl K hk=>by
 obtain⟨hll,h1,hn⟩:=wa (hl x (by simp[ho,Op.operands])) hc
 have hr:(execOp σ o).run P w=.ok (.value (.pointer (some ⟨w.heap.size,0,none⟩))) (w.alloc (.cells (σ x).cells t)):=by
  unfold execOp;simp only[ho,Instr.box,newVar,newRow]
  rfl
 rw[hr];obtain⟨a,b⟩:=hh.Bi t _ _ hll hn h1;exact hk _ _ _ a (BX hh _ _ _) b
def qX(b off n:Nat):(⟨b,off,none⟩:Addr).add n=⟨b,off+n,none⟩:=by
 unfold Addr.add;split <;> simp_all
def yw(c:C)(n:Nat):Option C:=
 match c with
 |.ref id hops sz i k=>some (.ref id hops sz i (k+n))
 |.qC cells=>some (.qC (cells.drop n))
 |_=>none
def AO{c':C}{n:Nat}(h:L E c y)(hf:yw c n=some c'):∃a,y=.pointer (some a)/\L E c' (.pointer (some (a.add n))):=by
 cases h with
 |ref id hops sz i k hn=>
  simp only[yw]at hf;cases hf
  refine⟨_,rfl,?_⟩;rw[qX,gM];exact .ref id hops sz i (k+n) hn
 |qC cells b off us hst hL=>
  simp only[yw]at hf;cases hf
  refine⟨_,rfl,?_⟩;rw[qX];exact .qC _ b (off+n) (λk=>us (n+k)) (λk c hc=>by rw[dM]at hc;rw[gM];exact hst _ c hc) (λk c hc=>by rw[dM]at hc;exact hL _ c hc)
 |_=>simp[yw]at hf
def zU.fieldAddr(t:TypeId)(x:Operand)(f:Nat)(ho:o.op=.fieldAddr t x f){fs:Array Field}{fd:Field}(ht:P.underlying t=some (.struct fs))(hf:fs[f]?=some fd)
 (hi:P.info? fd.type=some i)(hsz:i.size≠0){c:C}(hc:yw (ρ x) fd.offset=some c):zU P o ρ H c H:=λw E σ hh hl K hk=>by
 obtain⟨a,ha,hla⟩:=AO (hl x (by simp[ho,Op.operands])) hc
 have hr:(execOp σ o).run P w=.ok (.value (.pointer (some (a.add fd.offset)))) w:=by
  unfold execOp;simp[ho,Instr.fieldAt,run_underlying ht,hf,ha,Instr.sureAddr,fieldPlace,qk hi,hsz]
 rw[hr];exact hk _ w E hh hla (zR.refl w E H)
def uc(c:C)(size n:Nat):Option C:=
 match c with
 |.rG o sz rows=>if (o == 0 || o == 1) && (sz == size) then (rows[n]?).map .qC else none
 |.sl id hops sz lo len _=>if decide (n<len) && (sz == size) then some (.ref id hops sz (lo+n) 0) else none
 |_=>none
def iT:C->Option Nat
 |.rG _ _ rows=>some rows.length
 |.sl _ _ _ _ len _=>some len
 |_=>none
def HM{c':C}{size n:Nat}(h:L E c y)(hf:uc c size n=some c'):
  ∃a len cap,y=.slice (some a) len cap/\n<len/\L E c' (.pointer (some (a.add (n*size)))):=by
 cases h with
 |rG o sz rows b off cap us ho hc hsz hst hL=>
  simp only[uc]at hf;split at hf
  .rename_i hcond;simp only[c9,dH]at hcond;obtain⟨_,rfl⟩:=hcond;cases hr:rows[n]? with
   |none=>rw[hr]at hf;cases hf
   |some r=>
    rw[hr]at hf;cases hf
    refine⟨_,_,_,rfl,(cW.1 hr).1,?_⟩;rw[qX];exact .qC r b (off+n*sz) (us n) (λk c hc=>hst n r k c hr hc) (λk c hc=>hL n r k c hr hc)
  .cases hf
 |q6 o sz ho=>
  simp[uc]at hf
 |sl id hops sz lo len full cap hn hlen hfull hf'=>
  simp only[uc]at hf;split at hf
  .rename_i hcond;simp only[c9,dH,dm]at hcond;obtain⟨rF,rfl⟩:=hcond;cases hf
   refine⟨_,_,_,rfl,rF,?_⟩;rw[qX,<-dN];exact .ref id hops sz (lo+n) 0 hn
  .cases hf
 |_=>simp[uc]at hf
def zU.indexAddr(t:TypeId)(x y:Operand)(ho:o.op=.indexAddr t x y)(ht:P.underlying t=some (.slice e))(hi:P.info? e=some i)
 {k:IntKind}{n:Int}(hy:ρ y=.v (.int k n))(h0:0<=n){c:C}(hc:uc (ρ x) i.size n.toNat=some c):zU P o ρ H c H:=λw E σ hh hl K hk=>by
 obtain⟨a,len,cap,ha,rF,hla⟩:=HM (hl x (by simp[ho,Op.operands])) hc;have h1:=hl y (by simp[ho,Op.operands]);rw[hy]at h1;have hyv:σ y=.int k n:=by generalize σ y=u at *;cases h1;rfl
 have hn:0<=n/\n<(len:Int):=⟨h0,by omega⟩
 have hr:(execOp σ o).run P w=.ok (.value (.pointer (some (a.add (n.toNat*i.size))))) w:=by
  unfold execOp;simp[ho,Instr.indexAt,asIntOf,hyv,ha,run_underlying ht,hn.1,hn.2,qk hi]
 rw[hr];exact hk _ w E hh hla (zR.refl w E H)
def zU.G9(t:TypeId)(x y:Operand)(ho:o.op=.indexAddr t x y){len:Nat}(ht:P.underlying t=some (.array len e))(hi:P.info? e=some i)
 {k:IntKind}{n:Int}(hy:ρ y=.v (.int k n))(h0:0<=n)(h1:n<len){c:C}(hc:yw (ρ x) (n.toNat*i.size)=some c):zU P o ρ H c H:=λw E σ hh hl K hk=>by
 obtain⟨a,ha,hla⟩:=AO (hl x (by simp[ho,Op.operands])) hc;have hy1:=hl y (by simp[ho,Op.operands]);rw[hy]at hy1;have hyv:σ y=.int k n:=by generalize σ y=u at *;cases hy1;rfl
 have hr:(execOp σ o).run P w=.ok (.value (.pointer (some (a.add (n.toNat*i.size))))) w:=by
  unfold execOp;simp[ho,Instr.indexAt,asIntOf,hyv,ha,run_underlying ht,h0,h1,qk hi,Instr.sureAddr]
 rw[hr];exact hk _ w E hh hla (zR.refl w E H)
end
def fy(id:Nat)(hops:List rT)(i k:Nat):C->C
 |.rG 2 sz rows=>.sl id (hops++[(i,k)]) sz 0 rows.length false
 |c=>c
def j8(id:Nat)(hops:List rT)(i:Nat):Nat->List C->List C
 |_,[]=>[]
 |k,c::cs=>fy id hops i k c::j8 id hops i (k+1) cs
theorem z5(sz:Nat)(rows:List (List C)):xh sz rows []=some (sz,rows):=rfl
def q5(sz:Nat)(rows:List (List C))(i k:Nat)(hs:List rT):xh sz rows ((i,k)::hs)=match cellAt rows i k with
  |some (.rG 2 sz' rows')=>xh sz' rows' hs
  |_=>none:=rfl
def AQ{i k sz2:Nat}{rows2:List (List C)}:∀(hops:List rT) (sz:Nat) (rows:List (List C)) (sz':Nat) (rows':List (List C)),xh sz rows hops=some (sz',rows')->
  cellAt rows' i k=some (.rG 2 sz2 rows2)->xh sz rows (hops++[(i,k)])=some (sz2,rows2)
 |[],sz,rows,sz',rows',h,hc=>by
  rw[z5]at h;cases h
  rw[List.nil_append,q5,hc]
  rfl
 |(i',k')::tl,sz,rows,sz',rows',h,hc=>by
  rw[q5]at h;rw[List.cons_append,q5];split at h
  .exact AQ tl _ _ _ _ h hc
  .cases h
def GS{id:Nat}{sz':Nat}(h:zB H id hops=some (sz',rows')){i k:Nat}{sz2:Nat}{rows2:List (List C)}
 (hc:cellAt rows' i k=some (.rG 2 sz2 rows2)):zB H id (hops++[(i,k)])=some (sz2,rows2):=by
 obtain⟨ob,ho,hk,hg⟩:=qd h;unfold zB;rw[ho];simp only[hk,if_true];exact AQ _ _ _ _ _ hg hc
def Jp(h:zD w E H){id:Nat}(hb:zB H id hops=some (sz,rows)){i k:Nat}
 (hc:cellAt rows i k=some c)(ho:z6 E kd id hops i k c u):L E (fy id hops i k c) u:=by
 unfold z6 at ho;split at ho
 .rename_i sz' rows';subst ho;have hb':=GS hb hc;obtain⟨ob,hob,_,_⟩:=qd hb';have hlen:=(h.rM id ob _ _ _ hob hb').len;have:=L.sl (E:=E) id (hops++[(i,k)]) sz' 0 rows'.length false _ (by rw[h.n];exact y8 hb') hlen (by simp) (by intro _;rw[dF]);rw[pA]at this;exact this
 .rename_i h2
  have:fy id hops i k c=c:=by
   unfold fy;split
   .exact absurd V (h2 _ _)
   .rfl
  rw[this];exact ho.1.mono (E.B0 kd)
def Ae{id:Nat}{hops:List rT}{i:Nat}:∀(cs:List C) (k j:Nat) (c':C),(j8 id hops i k cs)[j]?=some c'->∃c,cs[j]?=some c/\c'=fy id hops i (k+j) c
 |[],k,j,c',h=>by simp[j8]at h
 |c::cs,k,0,c',h=>by simp[j8]at h;exact⟨c,rfl,h.symm⟩
 |c::cs,k,j+1,c',h=>by
  simp[j8]at h;obtain⟨c0,h0,e⟩:=Ae cs (k+1) j c' h;exact⟨c0,by simpa using h0,by rw[e];congr 1;omega⟩
def ka{id:Nat}{hops:List rT}{i:Nat}:∀(cs:List C) (k:Nat),(j8 id hops i k cs).length=cs.length
 |[],_=>rfl
 |c::cs,k=>by simp[j8,ka cs (k+1)]
def vN(H:zf)(c:C)(n:Nat):Option (List C):=
 match c with
 |.ref id hops sz i k=>match zB H id hops with
  |some (sz',rows)=>if sz' == sz then match rows[i]? with
    |some r=>if decide (k+n<=r.length) then some (j8 id hops i k ((r.drop k).take n)) else none
    |none=>none
   else none
  |none=>none
 |.qC cells=>if decide (n<=cells.length) then some (cells.take n) else none
 |_=>none
def ij(h:zD w E H)(hl:L E c y){n:Nat}(hr:vN H c n=some cs):
  ∃a us,y=.pointer (some a)/\(∀(j:Nat) u,us[j]?=some u->w.cell? (a.add j)=some u)/\LL E cs us/\us.length=n/\(∀u∈us,u.oneCell'=true):=by
 cases hl with
 |ref id hops sz i k hn=>
  simp only[vN]at hr;split at hr
  .rename_i sz' rows hb;split at hr
   .rename_i hsz;have hsz:sz'=sz:=by simpa using hsz
    subst hsz;split at hr
    .rename_i r hrow;split at hr
     .rename_i hlen;simp only[dm]at hlen;cases hr
      obtain⟨ob,hob,_,_⟩:=qd hb;have hB:=h.rM id ob hops sz' rows hob hb;obtain⟨cur,e,hg,hcs,hcell⟩:=hB.rM;have hrl:r.length=sz':=hB.row r (cZ hrow)
      have hcc:∀j,j<n->∃c u,r[k+j]?=some c/\cellAt rows i (k+j)=some c/\cur[i*sz'+(k+j)]?=some u/\z6 E ob.kind id hops i (k+j) c u:=λj hj=>by
       have hj':k+j<r.length:=by omega
       have h1:r[k+j]?=some r[k+j]:=by simp[hj']
       have h2:cellAt rows i (k+j)=some r[k+j]:=by simp[cellAt,hrow,hj']
       obtain⟨u,hu,ho⟩:=hcell i (k+j) _ h2;exact⟨_,u,h1,h2,hu,ho⟩
      refine⟨_,(List.range n).map (λj=>cur.getD (i*sz'+(k+j)) undef),rfl,?_,⟨?_,?_⟩,by simp,?_⟩
      .intro j u hju;simp only[cX]at hju;cases hjr:(List.range n)[j]? with
       |none=>rw[hjr]at hju;cases hju
       |some j'=>
        rw[hjr]at hju;obtain⟨hjlt,hj'⟩:=cW.1 hjr;simp at hj' hjlt;subst hj';obtain⟨c,u',h1,h2,hu,ho⟩:=hcc j hjlt;simp only[dc,dj]at hju;rw[dE,hu]at hju;simp at hju;subst hju;rw[qX];unfold World.cell?;simp only[hg];rw[c6 (by simp),gM];exact hu
      .rw[ka];simp;omega
      .intro j c' u hc' hu';obtain⟨c,hc,rfl⟩:=Ae _ _ _ _ hc';rw[du]at hc;split at hc
       .rename_i hj;rw[dM]at hc;obtain⟨c2,u2,h1,h2,hu,ho⟩:=hcc j hj;rw[h1]at hc;cases hc
        simp only[cX,gF hj,dc,dj]at hu';rw[dE,hu]at hu';simp at hu';subst hu';exact Jp h hb h2 ho
       .cases hc
      .intro u hu;obtain⟨j,hj,rfl⟩:=dT.1 hu;obtain⟨c,u',h1,h2,hu',ho⟩:=hcc j (by simpa using hj);rw[dE,hu'];simp only[dL];unfold z6 at ho;split at ho
       .rw[ho];rfl
       .exact ho.2
     .cases hr
    .cases hr
   .cases hr
  .cases hr
 |qC cells b off us hst hL=>
  simp only[vN]at hr;split at hr
  .rename_i hlen;simp only[dm]at hlen;cases hr
   refine⟨_,(List.range n).map us,rfl,?_,⟨by simp;omega,?_⟩,by simp,?_⟩
   .intro j u hju;simp only[cX]at hju;cases hjr:(List.range n)[j]? with
    |none=>rw[hjr]at hju;cases hju
    |some j'=>
     rw[hjr]at hju;obtain⟨hjlt,hj'⟩:=cW.1 hjr;simp at hj' hjlt;subst hj';cases hju
     rw[qX];have hj2:j<cells.length:=by omega
     exact(h.zK _ _ _ (hst j cells[j] (by simp[hj2]))).1
   .intro j c u hc hu;rw[du]at hc;split at hc
    .rename_i hj;simp only[cX,gF hj,dc,dj]at hu;subst hu;exact(hL j c hc).mono E.fc
    .cases hc
   .intro u hu;obtain⟨j,hj,rfl⟩:=dT.1 hu
    have hj2:j<cells.length:=by
      have:j<n:=by simpa using hj
      omega
    exact(h.zK _ _ _ (hst j cells[j] (by simp[hj2]))).2
  .cases hr
 |_=>simp[vN]at hr
def ki:TypeDesc->Bool
 |.struct _|.array _ _=>true
 |_=>false
def xY{d:TypeDesc}(h:P.underlying t=some d)(w:World):(isAgg t).run P w=.ok (ki d) w:=by
 simp only[isAgg,Sem.run_bind,run_underlying h,Result.andThen_ok];cases d <;> rfl
def yd(P:Program)(H:zf)(t:TypeId)(c:C):Option C:=
 match P.underlying t,P.info? t with
 |some d,some i=>
  if ki d then (vN H c i.size).map .agg
  else match vN H c 1 with
   |some [x]=>some x
   |_=>none
 |_,_=>none
section
variable {P:Program} {o:Oper} {ρ:Operand->C} {H:zf}
def zU.load(t:TypeId)(x:Operand)(ho:o.op=.load t x)(hc:yd P H t (ρ x)=some c):zU P o ρ H c H:=λw E σ hh hl K hk=>by
 have hx:=hl x (by simp[ho,Op.operands]);unfold yd at hc;split at hc
 .rename_i d i hd hi;by_cases hag:ki d=true
  .rw[c7 hag]at hc;cases hr:vN H (ρ x) i.size with
   |none=>rw[hr]at hc;cases hc
   |some cs=>
    rw[hr]at hc;cases hc
    obtain⟨a,us,ha,hcell,hll,hlen,hone⟩:=ij hh hx hr
    have hr':(execOp σ o).run P w=.ok (.value (.agg us.toArray)) w:=by
     unfold execOp;have h3:=run_loadCells_list (P:=P) (w:=w) a us (λj v hj=>hcell j v hj);rw[hlen]at h3;simp[ho,Instr.loadAt,Instr.sureAddr,ha,loadVar,xY hd,hag,qk hi,h3]
    rw[hr'];exact hk _ w E hh (.agg cs us.toArray (by simpa using hll.1) (λi c y e1 e2=>hll.2 i c y e1 (by simpa using e2)) (λu hu=>hone u (by simpa using hu))) (zR.refl w E H)
  .rw[c6 hag]at hc;split at hc
   .rename_i x0 hr;cases hc
    obtain⟨a,us,ha,hcell,hll,hlen,hone⟩:=ij hh hx hr
    obtain⟨u,rfl⟩:∃u,us=[u]:=by
     match us,hlen with
     |[u],_=>exact⟨u,rfl⟩
    have hu:=hcell 0 u V;have ha0:a.add 0=a:=by simp[Addr.add]
    rw[ha0]at hu
    have hr':(execOp σ o).run P w=.ok (.value u) w:=by
     unfold execOp;simp[ho,Instr.loadAt,Instr.sureAddr,ha,loadVar,xY hd,hag,hu]
    rw[hr'];exact hk _ w E hh hll.cons_inv.1 (zR.refl w E H)
   .cases hc
 .cases hc
end
def setCell(rows:List (List C))(i k:Nat)(c:C):List (List C):=rows.modify i (·.set k c)
def w7:List (List C)->List rT->(List (List C)->List (List C))->List (List C)
 |rows,[],f=>f rows
 |rows,(i,k)::hs,f=>match cellAt rows i k with
  |some (.rG 2 sz' rows')=>setCell rows i k (.rG 2 sz' (w7 rows' hs f))
  |_=>rows
theorem w8(rows:List (List C))(f:List (List C)->List (List C)):w7 rows [] f=f rows:=rfl
def km(rows:List (List C))(i k:Nat)(hs:List rT)(f:List (List C)->List (List C)):w7 rows ((i,k)::hs) f=match cellAt rows i k with
  |some (.rG 2 sz' rows')=>setCell rows i k (.rG 2 sz' (w7 rows' hs f))
  |_=>rows:=rfl
def vW(rows:List (List C))(i k:Nat)(c:C):(setCell rows i k c).length=rows.length:=by simp[setCell]
def vz(rows:List (List C))(i k:Nat)(c:C)(i' k':Nat):cellAt (setCell rows i k c) i' k'=if i=i'/\k=k' then (cellAt rows i' k').map (λ_=>c) else cellAt rows i' k':=by
 unfold cellAt setCell;rw[dR];by_cases hi:i=i'
 .subst hi;cases hr:rows[i]? with
  |none=>simp
  |some r=>
   simp only[if_true,gE,dc,dB,true_and];rw[df];by_cases hk:k=k'
   .subst hk;simp only[if_true];by_cases rF:k<r.length
    .simp[rF]
    .simp[rF]
   .simp[hk]
 .simp[hi]
def Ef(h:∀r∈rows,r.length=sz)(i k:Nat)(c:C):∀r∈setCell rows i k c,r.length=sz:=by
 intro r hr;obtain⟨j,hj⟩:=di.1 hr;unfold setCell at hj;rw[dR]at hj;cases hx:rows[j]? with
 |none=>rw[hx]at hj;cases hj
 |some r0=>
  rw[hx]at hj;have h0:=h r0 (cZ hx);simp only[gE,dc,dj]at hj;subst hj;split <;> simp[h0]
structure fJ(rows rows':List (List C)):Prop where
 len:rows'.length=rows.length
 own:∀i k s r,cellAt rows' i k=some (.rG 2 s r)↔cellAt rows i k=some (.rG 2 s r)
structure u3(rows rows':List (List C)):Prop where
 len:rows'.length=rows.length
 cell:∀i k c',cellAt rows' i k=some c'->∃c,cellAt rows i k=some c/\(c=c'\/∃s r r',c=.rG 2 s r/\c'=.rG 2 s r'/\r'.length=r.length)
 row:∀sz,(∀r∈rows,r.length=sz)->∀r∈rows',r.length=sz
def u3.refl(rows:List (List C)):u3 rows rows:=⟨rfl,λi k c h=>⟨c,h,.inl V⟩,λ_ h=>h⟩
def o6:∀(hops:List rT) (sz:Nat) (rows:List (List C)) (sz':Nat) (rows':List (List C)),xh sz rows hops=some (sz',rows')->fJ rows' (f rows')->(w7 rows hops f).length=rows.length
 |[],sz,rows,sz',rows',h,ht=>by rw[z5]at h;cases h;rw[w8];exact ht.len
 |(i,k)::hs,sz,rows,sz',rows',h,ht=>by
  rw[km];split
  .exact vW _ _ _ _
  .rfl
def AP{f:List (List C)->List (List C)}:∀(hops:List rT) (sz:Nat) (rows:List (List C)) (sz':Nat) (rows':List (List C)),xh sz rows hops=some (sz',rows')->fJ rows' (f rows')->
  ∀(p:List rT) (sz2:Nat) (rows2':List (List C)),xh sz (w7 rows hops f) p=some (sz2,rows2')->
   ∃rows2,xh sz rows p=some (sz2,rows2)/\((p=hops/\rows2'=f rows2)\/(p≠hops/\u3 rows2 rows2'))
 |[],sz,rows,sz',rows',h,ht,p,sz2,rows2',hp=>by
  rw[z5]at h;cases h
  rw[w8]at hp;cases p with
  |nil=>rw[z5]at hp;cases hp;exact⟨rows,rfl,.inl ⟨rfl,rfl⟩⟩
  |cons hd q=>
   obtain⟨i,k⟩:=hd;rw[q5]at hp;split at hp
   .rename_i s r hc;rw[ht.own]at hc;exact⟨rows2',by rw[q5,hc];exact hp,.inr ⟨by simp,u3.refl _⟩⟩
   .cases hp
 |(i,k)::hs,sz,rows,sz',rows',h,ht,p,sz2,rows2',hp=>by
  rw[q5]at h;split at h
  .rename_i s r hc;have hset:w7 rows ((i,k)::hs) f=setCell rows i k (.rG 2 s (w7 r hs f)):=by rw[km,hc];rfl
   rw[hset]at hp;cases p with
   |nil=>
    rw[z5]at hp;cases hp
    refine⟨rows,rfl,.inr ⟨by simp,vW _ _ _ _,?_,λsz0 h0=>Ef h0 _ _ _⟩⟩;intro i' k' c' hcc;rw[vz]at hcc;split at hcc
    .rename_i hik;obtain⟨rfl,rfl⟩:=hik;rw[hc]at hcc;simp only[dc,dj]at hcc;subst hcc;exact⟨_,hc,.inr ⟨s,r,_,rfl,rfl,o6 hs s r sz' rows' h ht⟩⟩
    .exact⟨c',hcc,.inl V⟩
   |cons hd q=>
    obtain⟨i',k'⟩:=hd;rw[q5,vz]at hp;by_cases hik:i=i'/\k=k'
    .obtain⟨rfl,rfl⟩:=hik;rw[c7 ⟨rfl,rfl⟩,hc]at hp;simp only[dc]at hp;obtain⟨rows2,h2,h3⟩:=AP hs s r sz' rows' h ht q sz2 rows2' hp;refine⟨rows2,by rw[q5,hc];exact h2,?_⟩;rcases h3 with⟨rfl,e⟩|⟨hne,hlk⟩
     .exact .inl ⟨rfl,e⟩
     .exact .inr ⟨λe=>hne (by simpa using e),hlk⟩
    .rw[c6 hik]at hp;refine⟨rows2',by rw[q5];exact hp,.inr ⟨?_,u3.refl _⟩⟩;intro e;simp at e;exact hik ⟨e.1.1.symm,e.1.2.symm⟩
  .cases h
def w6(H:zf)(id:Nat)(hops:List rT)(f:List (List C)->List (List C)):zf:=H.modify id λob=>match ob with
 |⟨kind,ty,sz,rows,fz⟩=>⟨kind,ty,sz,w7 rows hops f,fz⟩
def vV(H:zf)(id:Nat)(hops:List rT)(f:List (List C)->List (List C))(j:Nat):(w6 H id hops f)[j]?=(H[j]?).map λob=>if id=j then {ob with rows:=w7 ob.rows hops f} else ob:=by
 unfold w6;rw[dR]
 rfl
def yQ{id:Nat}(hb:zB H id hops=some (sz,rows))(ht:fJ rows (f rows)){id':Nat}{p:List rT}
 {sz2:Nat}{rows2':List (List C)}(hp:zB (w6 H id hops f) id' p=some (sz2,rows2')):
  ∃rows2,zB H id' p=some (sz2,rows2)/\((id'=id/\p=hops/\rows2'=f rows2)\/(¬(id'=id/\p=hops)/\u3 rows2 rows2')):=by
 obtain⟨ob,hob,hk,hg⟩:=qd hb;obtain⟨ob',hob',hk',hg'⟩:=qd hp;rw[vV]at hob';by_cases hid:id=id'
 .subst hid;rw[hob]at hob';simp only[dc,if_true,dj]at hob';subst hob';obtain⟨rows2,h2,h3⟩:=AP hops ob.sz ob.rows sz rows hg ht p sz2 rows2' hg';refine⟨rows2,?_,?_⟩
  .unfold zB;rw[hob];simp only[hk,if_true];exact h2
  .rcases h3 with⟨rfl,e⟩|⟨hne,hlk⟩
   .exact .inl ⟨rfl,rfl,e⟩
   .exact .inr ⟨λe=>hne e.2,hlk⟩
 .cases hx:H[id']? with
  |none=>rw[hx]at hob';cases hob'
  |some ob2=>
   rw[hx]at hob';simp only[dc,hid,if_false,dj]at hob';subst hob';refine⟨rows2',?_,.inr ⟨λe=>hid e.1.symm,u3.refl _⟩⟩;unfold zB;rw[hx];simp only[hk',if_true];exact hg'
def zD.write(h:zD w E H){id:Nat}{ob:Ob}(hob:H[id]?=some ob)
 (hb:zB H id hops=some (sz,rows))(ht:fJ rows (f rows))(hrow:∀r∈f rows,r.length=sz){cur cur':Array Value}{e:TypeId}(hg:w.heap[E.β id hops]?=some (.cells cur e (0,0)))(hsz:cur'.size=cur.size)
 (hst:∀o u,E.St (E.β id hops) o=some u->cur'[o]?=some u)
 (hc:∀i k c,cellAt (f rows) i k=some c->∃u,cur'[i*sz+k]?=some u/\z6 E ob.kind id hops i k c u):
  zD (w.setRow (E.β id hops) cur') E (w6 H id hops f)/\zR w E H (w.setRow (E.β id hops) cur') E (w6 H id hops f):=by
 have hown:∀b,qc E (w6 H id hops f) b->qc E H b:=by
  rintro b ⟨id',p,⟨s2,r2⟩,hx,rfl⟩;obtain⟨rows2,h2,_⟩:=yQ hb ht hx;exact⟨id',p,_,h2,rfl⟩
 refine⟨⟨by rw[h.n];simp[w6],?_,?_,?_,?_,?_,?_⟩,⟨Env.le.refl E,λ_ _ _=>V,rfl,rfl,rfl,by simp[World.setRow],?_,λb o u hu=>.inl hu,λb hb'=>.inr (hown b hb')⟩⟩
 .intro id' ob' p sz2 rows2' hob' hx;obtain⟨rows2,h2,h3⟩:=yQ hb ht hx
  have hkd:∃ob0,H[id']?=some ob0/\ob'.kind=ob0.kind:=by
   rw[vV]at hob';cases hx':H[id']? with
   |none=>rw[hx']at hob';cases hob'
   |some ob0=>
    rw[hx']at hob';simp only[dc,dj]at hob';subst hob';exact⟨ob0,rfl,by split <;> rfl⟩
  obtain⟨ob0,hob0,hkd⟩:=hkd;have hB:=h.rM id' ob0 p sz2 rows2 hob0 h2;rw[hkd];rcases h3 with⟨rfl,rfl,rfl⟩|⟨hne,hlk⟩
  .rw[hb]at h2;cases h2
   rw[hob]at hob0;cases hob0
   obtain⟨cur0,e0,hg0,hs0,_⟩:=hB.rM;rw[hg]at hg0;cases hg0
   exact⟨by rw[ht.len];exact hB.len,hrow,cur',e,setRow_heap w _ cur cur' e _ hg,by rw[hsz];exact hs0,hc⟩
  .obtain⟨cur0,e0,hg0,hs0,hc0⟩:=hB.rM
   have hdiff:E.β id' p≠E.β id hops:=λhe=>hne (by
    have:=h.inj id' p id hops _ _ h2 hb he;exact this)
   refine⟨by rw[hlk.len];exact hB.len,hlk.row sz2 hB.row,cur0,e0,by rw[setRow_other w _ _ _ hdiff];exact hg0,hs0,?_⟩;intro i k c' hcc;obtain⟨c,h4,h5⟩:=hlk.cell i k c' hcc;obtain⟨u,hu,ho⟩:=hc0 i k c h4;refine⟨u,hu,?_⟩;rcases h5 with rfl|⟨s,r,r',rfl,rfl,hl⟩
   .exact ho
   .simp only[z6]at ho|-;rw[hl];exact ho
 .intro id1 p1 id2 p2 x y hx hy he;obtain⟨r1,h1,_⟩:=yQ hb ht (rows2':=x.2) (sz2:=x.1) (by simpa using hx);obtain⟨r2,h2,_⟩:=yQ hb ht (rows2':=y.2) (sz2:=y.1) (by simpa using hy);exact h.inj id1 p1 id2 p2 _ _ h1 h2 he
 .intro b o u hu;refine⟨?_,(h.zK b o u hu).2⟩;by_cases hbb:b=E.β id hops
  .subst hbb;unfold World.cell?;rw[setRow_heap w _ cur cur' e _ hg];simp;exact hst o u hu
  .have:=(h.zK b o u hu).1;unfold World.cell? at this|-;simp only[setRow_other w _ _ _ hbb];exact this
 .intro id' p x o u hx hu;obtain⟨r1,h1,_⟩:=yQ hb ht (rows2':=x.2) (sz2:=x.1) (by simpa using hx);obtain⟨e1,ob',e2,e3⟩:=h.sep id' p _ o u h1 hu;refine⟨e1,?_⟩;rw[vV,e2];exact⟨_,rfl,by split <;> exact e3⟩
 .intro id' ob' hob' hk;rw[vV]at hob';cases hx':H[id']? with
  |none=>rw[hx']at hob';cases hob'
  |some ob0=>
   rw[hx']at hob';simp only[dc,dj]at hob';have hk0:ob0.kind=2/\ob'.ty=ob0.ty:=by subst hob';revert hk;split <;> exactλh=>⟨h,rfl⟩
   obtain⟨cur0,hc0⟩:=h.ty id' ob0 hx' hk0.1;rw[hk0.2];by_cases hbb:E.β id' []=E.β id hops
   .rw[hbb]at hc0|-;rw[hg]at hc0;cases hc0
    exact⟨cur',setRow_heap w _ cur cur' _ _ hg⟩
   .exact⟨cur0,by rw[setRow_other w _ _ _ hbb];exact hc0⟩
 .intro id' ob' hob';rw[vV]at hob';cases hx':H[id']? with
  |none=>rw[hx']at hob';cases hob'
  |some ob0=>
   rw[hx']at hob';simp only[dc,dj]at hob';have h0:=h.fz id' ob0 hx';subst hob';split
   .rename_i hid;subst hid;rw[hob]at hx';cases hx'
    obtain⟨ob2,h1,_,h2⟩:=qd hb;rw[hob]at h1;cases h1
    dsimp only;rw[o6 hops _ _ _ _ h2 ht];exact h0
   .exact h0
 .intro k hk ho;rw[setRow_other w _ _ _ (λe'=>ho ⟨id,hops,_,hb,e'.symm⟩)]
def jn(k:Nat)(cs:List C)(r:List C):List C:=r.take k++cs++r.drop (k+cs.length)
def xO(i k:Nat)(cs:List C)(rows:List (List C)):List (List C):=rows.modify i (jn k cs)
def vq{k:Nat}{r:List C}(h:k+cs.length<=r.length):(jn k cs r).length=r.length:=by
 simp[jn];omega
def oK{k:Nat}{r:List C}(h:k+cs.length<=r.length)(j:Nat):(jn k cs r)[j]?=if k<=j/\j<k+cs.length then cs[j-k]? else r[j]?:=by
 unfold jn;rw[gL];by_cases h1:j<k
 .rw[da (by simp;omega),du,c7 h1,c6 (by omega)]
 .rw[dg (by simp;omega)];have hk:(r.take k).length=k:=by simp;omega
  rw[hk];by_cases h2:j<k+cs.length
  .rw[da (by omega),c7 ⟨by omega,h2⟩]
  .rw[dg (by omega),dM,c6 (by omega)]
   congr 1
   omega
def vA{i k:Nat}{r:List C}(hr:rows[i]?=some r)(h:k+cs.length<=r.length)(i' k':Nat):
  cellAt (xO i k cs rows) i' k'=if i=i'/\k<=k'/\k'<k+cs.length then cs[k'-k]? else cellAt rows i' k':=by
 unfold cellAt xO;rw[dR];by_cases hi:i=i'
 .subst hi;rw[hr];simp only[if_true,gE,dc,dB,true_and];rw[oK h]
 .simp[hi]
def j7(P:Program)(H:zf)(t:TypeId)(a x:C):Option zf:=
 match a,P.info? t with
 |.ref id hops sz i k,some inf=>
  match zB H id hops,H[id]? with
  |some (sz',rows),some ob=>
   match rows[i]? with
   |some r=>
    if (sz' == sz) && k9 x && (x.cells.length == inf.size) && decide (k+x.cells.length<=r.length) && ((r.drop k).take x.cells.length).all zy && (ob.kind == 1 || x.cells.all jF) && (!hops.isEmpty || decide (ob.fz<=i)) && (hops.isEmpty || ob.fz == 0)
    then some (w6 H id hops (xO i k x.cells)) else none
   |none=>none
  |_,_=>none
 |_,_=>none
section
variable {P:Program} {o:Oper} {ρ:Operand->C} {H:zf}
def zU.store(t:TypeId)(x y:Operand)(ho:o.op=.store t x y)(hs:j7 P H t (ρ x) (ρ y)=some H'):zU P o ρ H .un H':=λw E σ hh hl K hk=>by
 have hx:=hl x (by simp[ho,Op.operands]);have hy:=hl y (by simp[ho,Op.operands]);unfold j7 at hs;split at hs
 rotate_left
 .cases hs
 rename_i id hops sz i k inf ha hinf;split at hs
 rotate_left
 .cases hs
 rename_i sz' rows ob hb hob;split at hs
 rotate_left
 .cases hs
 rename_i r hr;split at hs
 rotate_left
 .cases hs
 rename_i hcond;cases hs
 simp only[c9,dH,dm,gf,c8]at hcond;obtain⟨⟨⟨⟨⟨⟨⟨rfl,hval⟩,hlen⟩,hfit⟩,hold⟩,hkd⟩,hfz⟩,_⟩:=hcond;obtain⟨hll,hone,hno⟩:=wa hy hval;rw[ha]at hx;have hB:=hh.rM id ob hops sz' rows hob hb;obtain⟨cur,e,hg,hcs,hcell⟩:=hB.rM;have hrl:r.length=sz':=hB.row r (cZ hr);have hil:i<rows.length:=(cW.1 hr).1;have hx':σ x=.pointer (some ⟨E.β id hops,i*sz'+k,none⟩):=by generalize σ x=u at *;cases hx;rfl
 obtain⟨vs,hvs⟩:∃vs,vs=(σ y).cells.toList:=⟨_,rfl⟩;rw[<-hvs]at hll;have hvl:vs.length=(ρ y).cells.length:=hll.1.symm
 have hend:i*sz'+k+vs.length<=cur.size:=by
  have h1:(i+1)*sz'<=E.κ id hops*sz':=dJ _ (dK hil hB.len);rw[dN]at h1;omega
 have hrun:=run_storeCells_at P (E.β id hops) (i*sz'+k) e vs 0 cur w hg (by simpa using hend) (λv hv=>hone v (by rw[hvs]at hv;simpa using hv));simp only[pG]at hrun;obtain⟨cur',hcur'⟩:∃cur',cur'=(cur.toList.take (i*sz'+k)++vs++cur.toList.drop (i*sz'+k+vs.length)).toArray:=⟨_,rfl⟩;rw[<-hcur']at hrun
 have hcget:∀j:Nat,cur'[j]?=if i*sz'+k<=j/\j<i*sz'+k+vs.length then vs[j-(i*sz'+k)]? else cur[j]?:=by
  intro j;rw[hcur'];simp only[g9];rw[gL];by_cases h1:j<i*sz'+k
  .rw[da (by simp;omega),du,c7 h1,c6 (by omega),dw]
  .rw[dg (by simp;omega)];have hk':(cur.toList.take (i*sz'+k)).length=i*sz'+k:=by simp;omega
   rw[hk'];by_cases h2:j<i*sz'+k+vs.length
   .rw[da (by omega),c7 ⟨by omega,h2⟩]
   .rw[dg (by omega),dM,c6 (by omega),dw]
    congr 1
    omega
 have hr':(execOp σ o).run P w=.ok .skip (w.setRow (E.β id hops) cur'):=by
  unfold execOp
  have hsz2:(σ y).cells.size=inf.size:=by
   have:vs.length=(σ y).cells.size:=by rw[hvs];simp
   omega
  simp[ho,Instr.storeAt,Instr.sureAddr,hx',storeVar,qk hinf,hsz2,<-hvs,hrun]
 rw[hr']
 have hpos:∀i' k',i'<rows.length->k'<sz'->(i*sz'+k<=i'*sz'+k'/\i'*sz'+k'<i*sz'+k+vs.length↔i=i'/\k<=k'/\k'<k+vs.length):=by
  intro i' k' hi' hk';constructor
  .rintro⟨h1,h2⟩
   have:i=i':=by
    rcases g6 i i' with h|h|h
    .exfalso
     have:(i+1)*sz'<=i'*sz':=dJ _ h;rw[dN]at this;omega
    .exact h
    .exfalso
     have:(i'+1)*sz'<=i*sz':=dJ _ h;rw[dN]at this;omega
   subst this;omega
  .rintro⟨rfl,h1,h2⟩;omega
 have htame:fJ rows (xO i k (ρ y).cells rows):=by
  refine⟨by simp[xO],?_⟩;intro i' k' s r0;rw[vA hr hfit];split
  .rename_i hin;obtain⟨rfl,h1,h2⟩:=hin;constructor
   .intro h;have:=c8.1 hno _ (cZ h);simp[zy]at this
   .intro h;simp only[cellAt,hr,dB]at h
    have hm:C.rG 2 s r0∈(r.drop k).take (ρ y).cells.length:=by
     apply di.2
     refine⟨k'-k,?_⟩;rw[du,c7 (by omega),dM,show k+(k'-k)=k' from by omega];exact h
    have:=hold _ hm;simp[zy]at this
  .rfl
 have hW:=hh.write hob hb htame (cur:=cur) (cur':=cur') (e:=e) ?_ hg ?_ ?_ ?_
 .exact hk _ _ E hW.1 .un hW.2
 .intro r0 hr0;obtain⟨j,hj⟩:=di.1 hr0;unfold xO at hj;rw[dR]at hj;cases hx0:rows[j]? with
  |none=>rw[hx0]at hj;cases hj
  |some r1=>
   rw[hx0]at hj;simp only[gE,dc,dj]at hj;subst hj;by_cases hij:i=j
   .subst hij;rw[hr]at hx0;cases hx0
    rw[c7 V,vq hfit];exact hrl
   .rw[c6 hij];exact hB.row r1 (cZ hx0)
 .rw[hcur'];simp;omega
 .intro off u hu;obtain⟨e1,ob',e2,e3⟩:=hh.sep id hops _ off u hb hu;rw[hob]at e2;cases e2
  subst e1;simp at hfz
  have hsz0:ob.sz=sz':=by
   obtain⟨ob2,h1,_,h2⟩:=qd hb;rw[hob]at h1;cases h1
   rw[z5]at h2;cases h2
   rfl
  have rF:off<i*sz':=by
   rw[hsz0]at e3;exact dD e3 (dJ _ hfz)
  rw[hcget,c6 (by omega)];have:=(hh.zK _ _ _ hu).1;unfold World.cell? at this;rw[hg]at this;simpa using this
 .intro i' k' c hcc;rw[vA hr hfit]at hcc;split at hcc
  .rename_i hin;obtain⟨rfl,h1,h2⟩:=hin;obtain⟨u,hu,hlu⟩:=hll.get hcc;have hnoc:=c8.1 hno _ (cZ hcc);refine⟨u,?_,(z6.loose hnoc).2 ⟨?_,hone u ?_⟩⟩
   .rw[hcget,c7 (by omega),show i*sz'+k'-(i*sz'+k)=k'-k from by omega];exact hu
   .rcases hkd with hkd|hkd
    .simpa [Env.at,hkd] using hlu
    .unfold Env.at
     split
     .exact hlu.xv (hkd _ (cZ hcc))
     .exact hlu
   .have:=cZ hu;rw[hvs]at this;simpa using this
  .rename_i hnot;obtain⟨u,hu,hou⟩:=hcell i' k' c hcc;refine⟨u,?_,hou⟩
   have hi'k':i'<rows.length/\k'<sz':=by
    unfold cellAt at hcc;cases hx0:rows[i']? with
    |none=>rw[hx0]at hcc;cases hcc
    |some r1=>
     rw[hx0]at hcc;refine⟨(cW.1 hx0).1,?_⟩;have:=hB.row r1 (cZ hx0);rw[<-this];exact(cW.1 hcc).1
   rw[hcget,c6]
   .exact hu
   .rw[hpos i' k' hi'k'.1 hi'k'.2,hvl];exact hnot
def zb(P:Program)(f:FuncId)(H:zf)(args:List C)(r:C)(H':zf):Prop:=
 ∀(w:World) (E:Env) (vs:Array Value),zL w E H->LL E args vs.toList->
  Calls P f vs w λe w'=>∃v E',e=.returned v/\zL w' E' H'/\L E' r v/\Grow w E H w' E' H'
def zC(P:Program)(f:FuncId):Bool:=
 match P.funcs[f]? with
 |some fn => !(fn.name == "runtime.NumGoroutine") && fn.body.isSome
 |none=>false
def rQ.call(cl:Call)(ho:o.op=.call cl)(x:Operand)(hcl:cl.callee=.value x){f:FuncId}{first caps:List C}(hf:ρ x=.fn f first caps)(hcb:zC P f=true){r:C}
 (hs:zb P f H (first++(cl.args.toList.map ρ)++caps) r H'):rQ P o ρ H r H':=λw E σ hh hl K hk=>by
 have h0:=hl x (by simp[ho,Op.operands,Call.operands,hcl]);rw[hf]at h0
 obtain⟨ys,zs,hv,h1,h2,h3,h4⟩:∃ys zs,σ x=.func (.func f) ys zs/\first.length=ys.size/\caps.length=zs.size/\(∀(i:Nat) c y,first[i]?=some c->ys[i]?=some y->L E c y)/\(∀(i:Nat) c y,caps[i]?=some c->zs[i]?=some y->L E c y):=by
  generalize σ x=u at *;cases h0 with
  |fn f first caps ys zs h1 h2 h3 h4=>exact⟨ys,zs,rfl,h1,h2,h3,h4⟩
 unfold zC at hcb;split at hcb
 rotate_left
 .cases hcb
 rename_i fn hfn;simp only[c9,dG]at hcb;have hname : fn.name ≠ "runtime.NumGoroutine" := by simpa using hcb.1
 have hbody:fn.body≠none:=by intro hb;simp[hb]at hcb
 have hr:(execOp σ o).run P w=.ok (.enter f (ys++cl.args.map σ++zs)) w:=by
  unfold execOp;simp[ho,resolve,hcl,hv,Deferred.ofValue,invoke,callFunc,hfn,hname,hbody]
 rw[hr];refine(hs w E (ys++cl.args.map σ++zs) hh ?_).mono ?_
 .have e1:LL E first ys.toList:=⟨by simpa using h1,λi c y e1 e2=>h3 i c y e1 (by simpa using e2)⟩;have e2:LL E caps zs.toList:=⟨by simpa using h2,λi c y e1 e2=>h4 i c y e1 (by simpa using e2)⟩
  have e3:LL E (cl.args.toList.map ρ) (cl.args.map σ).toList:=by
   refine⟨by simp,?_⟩;intro i c y hc hy;rw[cX]at hc;rw[pO,cX]at hy;cases ha:cl.args.toList[i]? with
   |none=>rw[ha]at hc;cases hc
   |some a=>
    rw[ha]at hc hy;cases hc
    cases hy
    exact hl a (by simp[ho,Op.operands,Call.operands];right;have:=cZ ha;simpa using this)
  have:=(e1.append e3).append e2;simpa using this
 .rintro e w' ⟨v,E',rfl,h5,h6,h7⟩;exact⟨v,rfl,hk v w' E' h5 h6 h7⟩
end
section
variable {P:Program} {o:Oper} {ρ:Operand->C} {H:zf}
def zU.extract(x:Operand)(n:Nat)(ho:o.op=.extract x n){vs:List C}(hx:ρ x=.rO vs){c:C}(hc:vs[n]?=some c):zU P o ρ H c H:=λw E σ hh hl K hk=>by
 have h0:=hl x (by simp[ho,Op.operands]);rw[hx]at h0
 obtain⟨ys,hy,hlen,hll⟩:∃ys,σ x=.tuple ys/\vs.length=ys.size/\∀(i:Nat) c y,vs[i]?=some c->ys[i]?=some y->L E c y:=by
  generalize σ x=u at *;cases h0 with
  |rO _ ys h1 h2=>exact⟨ys,rfl,h1,h2⟩
 have rF:n<ys.size:=by rw[<-hlen];exact(cW.1 hc).1
 have hr:(execOp σ o).run P w=.ok (.value ys[n]) w:=by
  unfold execOp;simp[ho,Instr.extract,hy,rF]
 rw[hr];exact hk _ w E hh (hll n c _ hc (by simp[rF])) (zR.refl w E H)
def mP:C->Bool
 |.ref .. |.qC _|.fn ..=>true
 |_=>false
def zU.nilCheck(x:Operand)(ho:o.op=.nilCheck x)(hx:mP (ρ x)=true):zU P o ρ H (ρ x) H:=λw E σ hh hl K hk=>by
 have h0:=hl x (by simp[ho,Op.operands])
 have hr:(execOp σ o).run P w=.ok (.value (σ x)) w:=by
  unfold execOp;generalize ρ x=c at *;generalize hu:σ x=u at *;cases h0 <;> first|(simp[mP]at hx;done)|(simp only[ho,hu];rfl)
 rw[hr];exact hk _ w E hh h0 (zR.refl w E H)
def zU.makeFunc(f:FuncId)(first caps:Array Operand)(ho:o.op=.makeFunc (.func f) first caps):zU P o ρ H (.fn f (first.toList.map ρ) (caps.toList.map ρ)) H:=λw E σ hh hl K hk=>by
 have hr:(execOp σ o).run P w=.ok (.value (.func (.func f) (first.map σ) (caps.map σ))) w:=by
  unfold execOp;simp only[ho]
  rfl
 rw[hr];refine hk _ w E hh (.fn f _ _ _ _ (by simp) (by simp) ?_ ?_) (zR.refl w E H)
 .intro i c y hc hy;rw[cX]at hc;rw[rb]at hy;cases ha:first[i]? with
  |none=>rw[ha]at hy;cases hy
  |some a=>
   rw[dw,ha]at hc;rw[ha]at hy;cases hc
   cases hy
   exact hl a (by simp[ho,Op.operands];left;exact gI ha)
 .intro i c y hc hy;rw[cX]at hc;rw[rb]at hy;cases ha:caps[i]? with
  |none=>rw[ha]at hy;cases hy
  |some a=>
   rw[dw,ha]at hc;rw[ha]at hy;cases hc
   cases hy
   exact hl a (by simp[ho,Op.operands];right;exact gI ha)
def wC(place:Nat->Option (Nat×Nat)):List C->List (Nat×C)->Option (List C)
 |cells,[]=>some cells
 |cells,(i,c)::rest=>match place i with
  |none=>none
  |some (off,size)=>if k9 c && (c.cells.length == size) && decide (off+size<=cells.length) then wC place (jn off c.cells cells) rest else none
def AN:∀(vs:List Value) (off k:Nat) (cells:Array Value),off+k+vs.length<=cells.size->
  ((vs.zipIdx k).foldl (λcs (p:Value×Nat)=>cs.setIfInBounds (off+p.2) p.1) cells).size=cells.size/\
  ∀j:Nat,((vs.zipIdx k).foldl (λcs (p:Value×Nat)=>cs.setIfInBounds (off+p.2) p.1) cells)[j]?=if off+k<=j/\j<off+k+vs.length then vs[j-(off+k)]? else cells[j]?
 |[],off,k,cells,h=>⟨rfl,λj=>by rw[c6 (by simp)];rfl⟩
 |v::vs,off,k,cells,h=>by
  simp only[List.zipIdx_cons,List.foldl_cons,gA]at h|-;have ih:=AN vs off (k+1) (cells.setIfInBounds (off+k) v) (by simp;omega);refine⟨by rw[ih.1];simp,?_⟩;intro j;rw[ih.2 j];by_cases h1:off+k=j
  .subst h1;rw[c6 (by omega),c7 (by omega),p7];simp;omega
  .by_cases h2:off+(k+1)<=j/\j<off+(k+1)+vs.length
   .rw[c7 h2,c7 (by omega),show j-(off+k)=(j-(off+(k+1)))+1 from by omega];simp
   .rw[c6 h2,c6 (by omega),p7];simp[h1]
def iv{E:Env}{place:Nat->Option (Nat×Nat)}{ρ:Operand->C}{σ:Operand->Value}:∀(parts:List (Nat×Operand)) (cs:List C) (arr:Array Value),LL E cs arr.toList->(∀u∈arr,u.oneCell'=true)->cs.all zy=true->
  (∀p∈parts,L E (ρ p.2) (σ p.2))->∀cs',wC place cs (parts.map λp=>(p.1,ρ p.2))=some cs'->
  ∃arr',Instr.fill place arr (parts.map λp=>(p.1,σ p.2))=some arr'/\LL E cs' arr'.toList/\(∀u∈arr',u.oneCell'=true)/\cs'.all zy=true
 |[],cs,arr,hl,h1,hno,_,cs',h=>by
  simp only[List.map_nil,wC,dj]at h;subst h;exact⟨arr,rfl,hl,h1,hno⟩
 |(i,x)::rest,cs,arr,hl,h1,hno,hp,cs',h=>by
  simp only[pk,wC]at h;split at h
  .cases h
  .rename_i off size hpl;split at h
   .rename_i hcond;simp only[c9,dH,dm]at hcond;obtain⟨⟨hv,hsz⟩,hfit⟩:=hcond;have hx:=hp (i,x) (by simp);obtain⟨hll,hone,hnoc⟩:=wa hx hv;have hlen:(σ x).cells.size=size:=by have:=hll.1;simp at this;omega
    have hal:arr.size=cs.length:=by have:=hl.1;simp at this;omega
    obtain⟨vs,hvs⟩:∃vs,vs=(σ x).cells.toList:=⟨_,rfl⟩;have hvl:vs.length=size:=by rw[hvs];simpa using hlen
    have hfold:=AN vs off 0 arr (by omega)
    have hfe:(σ x).cells.zipIdx.foldl (λcs (p:Value×Nat)=>cs.setIfInBounds (off+p.2) p.1) arr=(vs.zipIdx 0).foldl (λcs (p:Value×Nat)=>cs.setIfInBounds (off+p.2) p.1) arr:=by
     rw[<-Array.foldl_toList,Array.toList_zipIdx,hvs]
    obtain⟨arr2,harr2⟩:∃arr2,arr2=(vs.zipIdx 0).foldl (λcs (p:Value×Nat)=>cs.setIfInBounds (off+p.2) p.1) arr:=⟨_,rfl⟩;rw[<-harr2]at hfold hfe;have hcl:(ρ x).cells.length=size:=hsz
    have hl2:LL E (jn off (ρ x).cells cs) arr2.toList:=by
     refine⟨by rw[vq (by omega)];simp[hfold.1,hal],?_⟩;intro j c y hc hy;rw[oK (by omega)]at hc;rw[dw,hfold.2 j]at hy;simp only[pG]at hy;split at hc
     .rename_i hin;rw[c7 (by omega)]at hy;exact hll.2 _ c y hc (by rw[<-hvs];exact hy)
     .rename_i hin;rw[c6 (by omega)]at hy;exact hl.2 j c y hc (by simpa using hy)
    have hone2:∀u∈arr2,u.oneCell'=true:=by
     intro u hu;obtain⟨j,hj⟩:=pL.1 hu;rw[hfold.2 j]at hj;split at hj
     .have:=cZ hj;rw[hvs]at this;exact hone u (by simpa using this)
     .exact h1 u (gI hj)
    have hno2:(jn off (ρ x).cells cs).all zy=true:=by
     rw[c8];intro c hc;unfold jn at hc;simp only[dU]at hc;rcases hc with(hc|hc)|hc
     .exact c8.1 hno c (gK hc)
     .exact c8.1 hnoc c hc
     .exact c8.1 hno c (pf hc)
    obtain⟨arr',e1,e2,e3,e4⟩:=iv rest _ arr2 hl2 hone2 hno2 (λp hpm=>hp p (by simp[hpm])) cs' h;refine⟨arr',?_,e2,e3,e4⟩;simp only[pk,Instr.fill,hpl];rw[c6 (by simp[hlen];omega),hfe];exact e1
   .cases h
def iy(P:Program)(t:TypeId)(parts:List (Nat×C)):Option (List C):=
 match vr P t,P.underlying t with
 |some z,some (.array _ e)=>
  match P.info? e with
  |some ie=>wC (λi=>some (i*ie.size,ie.size)) z parts
  |none=>none
 |some z,some (.struct fields)=>
  match fields.toList.mapM (λf=>(P.info? f.type).map λi=>(f.offset,i.size)) with
  |some places=>wC (places.toArray[·]?) z parts
  |none=>none
 |_,_=>none
def zU.build(t:TypeId)(parts:Array (Nat×Operand))(ho:o.op=.build t parts)(hb:iy P t (parts.toList.map λp=>(p.1,ρ p.2))=some cs):zU P o ρ H (.agg cs) H:=λw E σ hh hl K hk=>by
 have hp:∀p∈parts.toList,L E (ρ p.2) (σ p.2):=λp hpm=>hl p.2 (by
  simp only[ho,Op.operands];exact(List.mem_toArray).2 (dT.2 ⟨p,hpm,rfl⟩))
 have main:∃arr,P.built t (parts.map λ(i,x)=>(i,σ x)).toList=some arr/\LL E cs arr.toList/\(∀u∈arr,u.oneCell'=true):=by
  have e0:(parts.map λ(i,x)=>(i,σ x)).toList=parts.toList.map λp=>(p.1,σ p.2):=by simp
  rw[e0];unfold iy at hb;split at hb
  .rename_i z n e hz hu;split at hb
   .rename_i ie hie;obtain⟨it,zv,h1,h2,h3,h4,h5,h6,h7⟩:=ym hz E;obtain⟨arr,a1,a2,a3,a4⟩:=iv parts.toList z zv.cells h3 h4 h6 hp cs hb;exact⟨arr,by simp only[Program.built,h1,hu,h2,hie];exact a1,a2,a3⟩
   .cases hb
  .rename_i z fields hz hu;split at hb
   .rename_i places hpl;obtain⟨it,zv,h1,h2,h3,h4,h5,h6,h7⟩:=ym hz E;obtain⟨arr,a1,a2,a3,a4⟩:=iv parts.toList z zv.cells h3 h4 h6 hp cs hb;exact⟨arr,by simp only[Program.built,h1,hu,h2,hpl];exact a1,a2,a3⟩
   .cases hb
  .cases hb
 obtain⟨arr,h1,h2,h3⟩:=main
 have hr:(execOp σ o).run P w=.ok (.value (.agg arr)) w:=by
  unfold execOp;simp only[ho,Sem.run_bind,run_build w t _ arr h1,Result.andThen_ok]
  rfl
 rw[hr];exact hk _ w E hh (.agg cs arr (by simpa using h2.1) (λi c y e1 e2=>h2.2 i c y e1 (by simpa using e2)) h3) (zR.refl w E H)
def zU.len(cl:Call)(ho:o.op=.call cl)(hcl:cl.callee=.builtin .len)(x:Operand)(hx:cl.args= #[x])(ht:cl.argTypes= #[t])(hu:P.underlying t=some (.slice e))
 {n:Nat}(hn:iT (ρ x)=some n):zU P o ρ H (.v (.int .i64 n)) H:=λw E σ hh hl K hk=>by
 have h0:=hl x (by simp[ho,Op.operands,Call.operands,hcl,hx])
 have hv:∃a cap,σ x=.slice a n cap:=by
  generalize ρ x=c at *;generalize σ x=u at *;cases h0 <;> first|(simp[iT]at hn;done)|(simp only[iT,dj]at hn;subst hn;exact⟨_,_,rfl⟩)
 obtain⟨a,cap,hv⟩:=hv
 have hr:(execOp σ o).run P w=.ok (.value (.int .i64 n)) w:=by
  unfold execOp;simp[ho,resolve,hcl,hx,ht,invoke,builtin,Builtin.len_,hv,run_underlying hu,goInt]
 rw[hr];exact hk _ w E hh (.v _ V) (zR.refl w E H)
def kG(P:Program)(t:TypeId)(cs:List C)(off:Nat):Option C:=
 match P.underlying t,P.info? t with
 |some d,some i=>if ki d then (if decide (off+i.size<=cs.length) then some (.agg ((cs.drop off).take i.size)) else none) else cs[off]?
 |_,_=>none
def y1{ys:Array Value}(hll:LL E cs ys.toList)(h1:∀y∈ys,y.oneCell'=true)(hc:kG P t cs off=some c):
  ∃y,(part t ys off).run P w=.ok y w/\L E c y:=by
 unfold kG at hc;split at hc
 .rename_i d i hd hi;split at hc
  .rename_i hag;split at hc
   .rename_i hlen;simp only[dm]at hlen;cases hc
    have hy:=hll.1;simp at hy;refine⟨.agg (ys.extract off (off+i.size)),by simp[part,xY hd,hag,qk hi],.agg _ _ (by simp;omega) ?_ ?_⟩
    .intro k c y hc hy';rw[du]at hc;split at hc
     .rename_i hk;rw[dM]at hc;rw[Array.getElem?_extract]at hy';split at hy'
      .exact hll.2 _ c y hc (by simpa using hy')
      .cases hy'
     .cases hc
    .intro y hym;obtain⟨k,hk⟩:=pL.1 hym;rw[Array.getElem?_extract]at hk;split at hk
     .exact h1 y (gI hk)
     .cases hk
   .cases hc
  .rename_i hag;obtain⟨y,hy,hly⟩:=hll.get hc;rw[dw]at hy;exact⟨y,by simp[part,xY hd,hag,hy],hly⟩
 .cases hc
def zU.field(t:TypeId)(x:Operand)(f:Nat)(ho:o.op=.field t x f){fs:Array Field}{fd:Field}(ht:P.underlying t=some (.struct fs))(hf:fs[f]?=some fd){cs:List C}(hx:ρ x=.agg cs){c:C}
 (hc:kG P fd.type cs fd.offset=some c):zU P o ρ H c H:=λw E σ hh hl K hk=>by
 have h0:=hl x (by simp[ho,Op.operands]);rw[hx]at h0
 obtain⟨ys,hy,hll,h1⟩:∃ys,σ x=.agg ys/\LL E cs ys.toList/\∀y∈ys,y.oneCell'=true:=by
  generalize σ x=u at *;cases h0 with
  |agg _ ys h1 h2 h3=>exact⟨ys,rfl,⟨by simpa using h1,λi c y e1 e2=>h2 i c y e1 (by simpa using e2)⟩,h3⟩
 obtain⟨y,hr0,hly⟩:=y1 (w:=w) hll h1 hc
 have hr:(execOp σ o).run P w=.ok (.value y) w:=by
  unfold execOp;simp[ho,Instr.field,run_underlying ht,hf,hy,asAgg,hr0]
 rw[hr];exact hk _ w E hh hly (zR.refl w E H)
def zU.Fi(t:TypeId)(x y:Operand)(ho:o.op=.index t x y){n:Nat}(ht:P.underlying t=some (.array n e))(hi:P.info? e=some i)(hx:ρ x=.agg cs)
 {k:IntKind}{j:Int}(hy:ρ y=.v (.int k j))(h0:0<=j)(h1:j<n){c:C}(hc:kG P e cs (j.toNat*i.size)=some c):zU P o ρ H c H:=λw E σ hh hl K hk=>by
 have hlx:=hl x (by simp[ho,Op.operands]);have hly:=hl y (by simp[ho,Op.operands]);rw[hx]at hlx;rw[hy]at hly
 obtain⟨ys,hyx,hll,hone⟩:∃ys,σ x=.agg ys/\LL E cs ys.toList/\∀y∈ys,y.oneCell'=true:=by
  generalize σ x=u at *;cases hlx with
  |agg _ ys h1 h2 h3=>exact⟨ys,rfl,⟨by simpa using h1,λi c y e1 e2=>h2 i c y e1 (by simpa using e2)⟩,h3⟩
 have hyv:σ y=.int k j:=by generalize σ y=u at *;cases hly;rfl
 obtain⟨y',hr0,hly'⟩:=y1 (w:=w) hll hone hc
 have hr:(execOp σ o).run P w=.ok (.value y') w:=by
  unfold execOp;simp[ho,Instr.index,asIntOf,hyv,run_underlying ht,hyx,h0,h1,qk hi,hr0]
 rw[hr];exact hk _ w E hh hly' (zR.refl w E H)
end
section
variable {P:Program} {o:Oper} {ρ:Operand->C} {H:zf}
def jc(H:zf):C->Option (Nat×List (List C))
 |.rG o sz rows=>if o == 0 || o == 1 then some (sz,rows) else none
 |.sl id hops sz lo len _=>match H[id]?,zB H id hops with
  |some ob,some (sz',rows)=>if (sz' == sz) && (ob.kind == 2) && decide (lo+len<=rows.length) && ((rows.drop lo).take len).all (·.all zy) then some (sz,(rows.drop lo).take len) else none
  |_,_=>none
 |_=>none
structure xI(E:Env)(sz:Nat)(rows:List (List C))(vals:List Value):Prop where
 len:vals.length=rows.length*sz
 row:∀r∈rows,r.length=sz
 cell:∀i k c,cellAt rows i k=some c->∃u,vals[i*sz+k]?=some u/\L E.shut c u
 one:∀u∈vals,u.oneCell'=true
def kf(hrow:∀r∈rows,r.length=sz){i k:Nat}(h:cellAt rows i k=some c):i<rows.length/\k<sz:=by
 unfold cellAt at h;cases hx:rows[i]? with
 |none=>rw[hx]at h;cases h
 |some r=>
  rw[hx]at h;refine⟨(cW.1 hx).1,?_⟩;rw[<-hrow r (cZ hx)];exact(cW.1 h).1
def yt(hrow:∀r∈rows,r.length=sz){i k:Nat}(hi:i<rows.length)(hk:k<sz):∃c,cellAt rows i k=some c:=by
 have hr:rows[i]?=some rows[i]:=by simp[hi]
 have hl:=hrow _ (cZ hr);exact⟨rows[i][k]'(by omega),by simp only[cellAt,hr,dB];exact cV (by omega)⟩
def vI{n j:Nat}(h:j<n*sz):j / sz<n/\j%sz<sz/\j / sz*sz+j%sz=j:=by
 have hsz:0<sz:=by rcases pC sz with rfl|h' <;> simp_all
 refine⟨Nat.div_lt_of_lt_mul (by rw[pa];exact h),Nat.mod_lt _ hsz,?_⟩;rw[pa];exact Nat.div_add_mod j sz
def xI.append{vals vals':List Value}(h:xI E sz rows vals)(h':xI E sz rows' vals'):xI E sz (rows++rows') (vals++vals') where
 len:=by rw[dX,dX,h.len,h'.len,dN]
 row r hr:=by rcases dU.1 hr with hr|hr;exact h.row r hr;exact h'.row r hr
 cell i k c hc:=by
  by_cases hi:i<rows.length
  .have hc':cellAt rows i k=some c:=by unfold cellAt at hc|-;rw[da hi]at hc;exact hc
   obtain⟨u,hu,hl⟩:=h.cell i k c hc';exact⟨u,by rw[da ((cW.1 hu).1)];exact hu,hl⟩
  .have hc':cellAt rows' (i-rows.length) k=some c:=by unfold cellAt at hc|-;rw[dg (by omega)]at hc;exact hc
   obtain⟨u,hu,hl⟩:=h'.cell _ k c hc';refine⟨u,?_,hl⟩;have hge:rows.length*sz<=i*sz:=dJ _ (by omega);rw[dg (by rw[h.len];omega),h.len];have:i*sz+k-rows.length*sz=(i-rows.length)*sz+k:=by rw[Nat.sub_mul];omega
   rw[this];exact hu
 one u hu:=by rcases dU.1 hu with hu|hu;exact h.one u hu;exact h'.one u hu
def jt(h:zD w E H)(hl:L E c y)(hr:jc H c=some (sz,rows)):
  (rows=[]/\y=.slice none 0 0)\/∃a cap vals,y=.slice (some a) rows.length cap/\rows.length<=cap/\xI E sz rows vals/\(∀(j:Nat) u,vals[j]?=some u->w.cell? (a.add j)=some u):=by
 cases hl with
 |q6 o sz' ho a=>
  simp only[jc]at hr;split at hr
  .cases hr
   cases a with
   |none=>exact .inl ⟨rfl,rfl⟩
   |some a=>exact .inr ⟨a,0,[],rfl,de _,⟨by simp,by simp,by simp[cellAt],by simp⟩,by simp⟩
  .cases hr
 |rG o sz' rows' b off cap us ho hc hsz hst hL=>
  simp only[jc]at hr;split at hr
  .cases hr
   right
   have key:∀j,j<rows.length*sz->∃c,cellAt rows (j / sz) (j%sz)=some c/\E.St b (off+j)=some (us (j / sz) (j%sz)):=by
    intro j hj;obtain⟨h1,h2,h3⟩:=vI hj;obtain⟨c,hcc⟩:=yt hsz h1 h2;refine⟨c,hcc,?_⟩;have hr0:rows[j / sz]?=some rows[j / sz]:=by simp[h1]
    have:=hst (j / sz) _ (j%sz) c hr0 (by unfold cellAt at hcc;rw[hr0]at hcc;exact hcc);rw[gM,h3]at this;exact this
   refine⟨_,cap,(List.range (rows.length*sz)).map (λj=>us (j / sz) (j%sz)),rfl,hc,⟨by simp,hsz,?_,?_⟩,?_⟩
   .intro i k c hcc;obtain⟨h1,h2⟩:=kf hsz hcc;have hr0:rows[i]?=some rows[i]:=by simp[h1]
    have rF:i*sz+k<rows.length*sz:=by
     have:(i+1)*sz<=rows.length*sz:=dJ _ h1;rw[dN]at this;omega
    have e1:(i*sz+k) / sz=i:=by rw[pa,Nat.mul_add_div (by omega),Nat.div_eq_of_lt h2];rfl
    have e2:(i*sz+k)%sz=k:=by rw[pa,rB,pN h2]
    refine⟨us i k,by simp[rF,e1,e2],hL i _ k c hr0 (by unfold cellAt at hcc;rw[hr0]at hcc;exact hcc)⟩
   .intro u hu;obtain⟨j,hj,rfl⟩:=dT.1 hu;obtain⟨c,_,hs⟩:=key j (by simpa using hj);exact(h.zK _ _ _ hs).2
   .intro j u hj;rw[cX]at hj;cases hjr:(List.range (rows.length*sz))[j]? with
    |none=>rw[hjr]at hj;cases hj
    |some j'=>
     rw[hjr]at hj;obtain⟨hjlt,hj'⟩:=cW.1 hjr;simp at hj' hjlt;subst hj';cases hj
     obtain⟨c,_,hs⟩:=key j hjlt;rw[qX];exact(h.zK _ _ _ hs).1
  .cases hr
 |sl id hops sz' lo len full cap hn hlen hf hf'=>
  simp only[jc]at hr;split at hr
  rotate_left
  .cases hr
  rename_i ob sz2 rows2 hob hb;split at hr
  rotate_left
  .cases hr
  rename_i hcond;simp only[c9,dH,dm,c8]at hcond;obtain⟨⟨⟨rfl,hkd⟩,hfit⟩,hno⟩:=hcond;cases hr
  right
  have hB:=h.rM id ob hops _ rows2 hob hb;obtain⟨cur,e,hg,hcs,hcell⟩:=hB.rM;have hrl:((rows2.drop lo).take len).length=len:=by simp;omega
  have hsub:∀i k,cellAt ((rows2.drop lo).take len) i k=if i<len then cellAt rows2 (lo+i) k else none:=by
   intro i k;unfold cellAt;rw[du];split
   .rw[dM]
   .rfl
  have hrow:∀r∈(rows2.drop lo).take len,r.length=sz:=λr hr=>hB.row r (pf (gK hr))
  have key:∀j,j<len*sz->∃c u,cellAt ((rows2.drop lo).take len) (j / sz) (j%sz)=some c/\cur[lo*sz+j]?=some u/\L E.shut c u/\u.oneCell'=true:=by
   intro j hj;obtain⟨h1,h2,h3⟩:=vI hj;obtain⟨c,hcc⟩:=yt hrow (by rw[hrl];exact h1) h2;have hcc2:=hcc;rw[hsub,c7 h1]at hcc2;obtain⟨u,hu,ho⟩:=hcell _ _ c hcc2
   have hnc:zy c=true:=by
    unfold cellAt at hcc;cases hx:((rows2.drop lo).take len)[j / sz]? with
    |none=>rw[hx]at hcc;cases hcc
    |some r=>
     rw[hx]at hcc;exact hno r (cZ hx) c (cZ hcc)
   rw[z6.loose hnc]at ho;refine⟨c,u,hcc,?_,by simpa [Env.at,hkd] using ho.1,ho.2⟩;have:(lo+j / sz)*sz+j%sz=lo*sz+j:=by rw[dN];omega
   rw[<-this];exact hu
  have hlen2:len=((rows2.drop lo).take len).length:=hrl.symm;refine⟨_,cap,(List.range (len*sz)).map (λj=>cur.getD (lo*sz+j) undef),by rw[<-hlen2],by rw[<-hlen2];exact hlen,⟨by simp[hrl],hrow,?_,?_⟩,?_⟩
  .intro i k c hcc;obtain⟨h1,h2⟩:=kf hrow hcc;rw[hrl]at h1
   have rF:i*sz+k<len*sz:=by
    have:(i+1)*sz<=len*sz:=dJ _ h1;rw[dN]at this;omega
   obtain⟨c',u,h3,h4,h5,_⟩:=key _ rF;have e1:(i*sz+k) / sz=i:=by rw[pa,Nat.mul_add_div (by omega),Nat.div_eq_of_lt h2];rfl
   have e2:(i*sz+k)%sz=k:=by rw[pa,rB,pN h2]
   rw[e1,e2,hcc]at h3;cases h3
   refine⟨u,?_,h5⟩;simp only[cX,gF rF,dc,dE,h4,dL]
  .intro u hu;obtain⟨j,hj,rfl⟩:=dT.1 hu;obtain⟨c,u,_,h4,_,h6⟩:=key j (by simpa using hj);simpa [dE,h4] using h6
  .intro j u hj;rw[cX]at hj;cases hjr:(List.range (len*sz))[j]? with
   |none=>rw[hjr]at hj;cases hj
   |some j'=>
    rw[hjr]at hj;obtain⟨hjlt,hj'⟩:=cW.1 hjr;simp at hj' hjlt;subst hj';obtain⟨c,u',_,h4,_,_⟩:=key j hjlt;simp only[dc,dE,h4,dL,dj]at hj;subst hj;rw[qX];unfold World.cell?;rw[hg];simpa using h4
 |_=>simp[jc]at hr
end
abbrev tJ(l:List C):List C:=.za::.za::.za::.za::.za::.za::.za::.za::l
abbrev jp(l:List C):List C:=tJ (tJ (tJ (tJ l)))
abbrev hZ:List C:=[.ref 5 [] 8 0 0,.ref 6 [] 44 0 0]
abbrev ta:List C:=[.ref 0 [] 8 0 0,.ref 1 [] 44 0 0]
def zz(h:q):H=H/\q:=⟨rfl,h⟩
def dd(h:q)(e:q→p:=by intro zh;(conv=>whnf);(try apply zz;conv=>whnf);exact zh):p:=e h
def ya(h:p):(true=true→p)/\(true=false→q):=⟨λ_=>h,λh=>nomatch h⟩
def yb(h:q):(false=true→p)/\(false=false→q):=⟨λh=>(nomatch h),λ_=>h⟩
def hC(n:p:=by (conv=>whnf);(repeat (refine⟨rfl,?_⟩;(conv=>whnf)));exact trivial):p:=n
def hO(h:q)(e:q->g:=by intro zh;(repeat (refine⟨rfl,?_⟩;(conv=>whnf)));exact zh):g:=e h
def hU(h:q)(e:q->g:=by intro zh;(repeat ((first|apply ya|apply yb);(conv=>whnf);(try apply zz;conv=>whnf)));exact zh):g:=e h
def hY{l:List α}{k:Nat}{x:α}{P:α->Prop}(hg:l[k]?=some x)(h:q)(e:q->P x:=by intro zh;(conv=>whnf);(try apply zz;conv=>whnf);exact zh):0<=(k:Int)/\∃r,l[(k:Int).toNat]?=some r/\P r:=⟨Int.natCast_nonneg k,x,hg,e h⟩
def uA{a b s:Prop}(h:q)(n:b->False:=by intro h;first|(simp[hpc]at h;done)|(have h:=dq h;omega)|(have h:=dp h;omega))(e:q->p:=by intro zh;(conv=>whnf);(try apply zz;conv=>whnf);exact zh):(a->p)/\(b->s):=⟨λ_=>e h,λx=>(n x).elim⟩
def uB{a b s:Prop}(h:q)(n:a->False:=by intro h;first|(simp[hpc]at h;done)|(have h:=dq h;omega)|(have h:=dp h;omega))(e:q->s:=by intro zh;(conv=>whnf);(try apply zz;conv=>whnf);exact zh):(a->p)/\(b->s):=⟨λx=>(n x).elim,λ_=>e h⟩
def uC(h:q)(e:q->g:=by intro zh;(first|apply ya|apply yb);(conv=>whnf);(try apply zz;conv=>whnf);exact zh):g:=e h
def uD(h:q)(e:q->g:=by intro zh;(conv=>whnf);(refine⟨λh=>absurd h (by simp),λ_=>?_⟩);(conv=>whnf);(try apply zz;conv=>whnf);(refine⟨by simp,?_⟩);(conv=>whnf);exact zh):g:=e h
def uE(h:q)(e:q->g:=by intro zh;refine .inl ⟨⟨false,[],[],[]⟩,by kernel_rfl,?_⟩;(conv=>whnf);exact zh):g:=e h
def uF{a b s:Prop}(h:q)(n:b->False:=by intro h;exact absurd h (by simp;omega))(e:q->p:=by intro zh;(conv=>whnf);(try apply zz;conv=>whnf);exact zh):(a->p)/\(b->s):=⟨λ_=>e h,λx=>(n x).elim⟩
def uG(h:q)(e:q->g:=by intro zh;refine⟨λh=>absurd h (by simp),λ_=>?_⟩;(conv=>whnf);(try apply zz;conv=>whnf);exact zh):g:=e h
def uH(h:q)(e:q->g:=by intro zh;(conv=>whnf);exact zh):g:=e h
def uI(e:g:=by exact⟨.inl V,_,.refl _,rfl⟩):g:=e
def uJ(e:g:=by exact⟨.inl V,_,.refl _,rfl,rfl⟩):g:=e
def uK(n:p->q:=by intro h;dsimp only at h;omega):p->q:=n
def uL(n:p:=by dsimp only;omega):p:=n
def uM(n:p:=by (try dsimp only);(repeat' split) <;> omega):p:=n
def uN{b b2:Bool}(h:b=b2):some (C.v (Value.bool b))=some (C.v (Value.bool b2)):=gy (λb=>some (C.v (Value.bool b))) h
def uO(n:p:=by exact⟨tm.listen,tm.word,tm.link,tm.host,tm.path,tm.d0,tm.d1,tm.cfg,tm.nX⟩):p:=n
def uP(n:p:=by exact⟨su.world,su.zO,su.done,su.version,su.sC,su.zn,su.sG,su.end_,su.sJ,su.other,su.slot,su.listen,(by show 0<=m.i+1;omega),su.k⟩):p:=n
def uQ(n:p:=by exact⟨su.world,su.zO,su.done,su.version,su.sC,su.zn,su.sG,su.end_,su.sJ,su.other,su.slot,su.listen,gC _,su.k⟩):p:=n
def uR(n:p:=by simp[ho,Op.operands]):p:=n
def uS(n:p:=by simpa using e2):p:=n
def uT(n:p:=by simp[ho,Op.operands,Call.operands,ht.callee,ht.args]):p:=n
def uU(n:p:=by rw[<-hh.n];exact hi):p:=n
def uV(n:p:=by rw[hx];exact dn hk):p:=n
def uW(n:p:=by rw[hs.heap.n];exact hs.base):p:=n
def uX(n:p:=by show(1:Int)≠0;decide):p:=n
def uY(n:p:=by simpa using h):p:=n
def uZ(n:p:=by unfold jD;rw[c6 (by simp at h1;omega)]):p:=n
def tA(n:p:=by unfold jC;rw[c6 (by simp at q1;omega)]):p:=n
def tB(n:p:=by unfold jC;rw[c6 (by simp at q2;omega)]):p:=n
def tC(n:p:=by unfold jD;rw[c6 (by simp at h2;omega)]):p:=n
def tD(n:p:=by simpa using h1):p:=n
def tE(n:p:=by subst e;simp[ho,Op.operands]):p:=n
end Go.Ab
structure zaa(q:Prop):Prop where
 o:q
def zab{p q:Prop}(h:q)(n:zaa q->p:=by intro zh;refine dd ?_;refine hU ?_;exact zh.o):p:=n ⟨h⟩
def zac{p q:Prop}(h:q)(n:zaa q->p:=by intro zh;(repeat (first|(refine⟨uH ?_,trivial⟩)|(refine⟨rfl,uH ?_⟩)));exact zh.o):p:=n ⟨h⟩
def zad{p q:Prop}(h:q)(n:zaa q->p:=by intro zh;(refine .inr ⟨aj,uH ?_⟩);exact zh.o):p:=n ⟨h⟩
def zae{p q:Prop}(h:q)(n:zaa q->p:=by intro zh;refine .inr ⟨aj,uH ?_⟩;refine⟨.inl V,_,.refl _,rfl,?_⟩;exact zh.o):p:=n ⟨h⟩
def zaf{p q:Prop}(h:q)(n:zaa q->p:=by intro zh;refine dd ?_;refine qz.zQ (id:=10) _ _ _ _ (.inr V) underlying266 underlying3 V V V V V ?_;exact zh.o):p:=n ⟨h⟩
def zag{p q:Prop}(h:q)(n:zaa q->p:=by intro zh;refine dd ?_;refine qz.zQ (id:=8) _ _ _ _ (.inr V) underlying266 underlying3 V V V V V ?_;exact zh.o):p:=n ⟨h⟩
def zah{p q:Prop}(h:q)(n:zaa q->p:=by intro zh;refine dd ?_;refine qz.zQ (id:=9) _ _ _ _ (.inr V) underlying266 underlying3 V V V V V ?_;exact zh.o):p:=n ⟨h⟩
def zai{p q:Prop}(h:q)(n:zaa q->p:=by intro zh;refine⟨λh=>absurd h aj,λ_=>dd ?_⟩;refine⟨aj,uH ?_⟩;exact zh.o):p:=n ⟨h⟩
def zaj{p q:Prop}(h:q)(n:zaa q->p:=by intro zh;refine zab ?_;(refine⟨aB,_,gq,dd ?_⟩);(refine⟨rfl,.inr V,ay,aA,dd ?_⟩);(refine .inl ⟨rfl,?_,trivial⟩);exact zh.o):p:=n ⟨h⟩
def zak{p q:Prop}(h:q)(n:zaa q->p:=by intro zh;rw[show decide ((match l.findIdx? p with|some i=>((i:Nat):Int)|none=>(-1:Int))≥(0:Int))=l.any p from yz l p];exact zh.o):p:=n ⟨h⟩
def zal{p q:Prop}(h:q)(n:zaa q->p:=by intro zh;refine zb.ig func181 V ?_;show qb prog 0 ((f181.body).getD .skip) _ _;refine kO (uH ?_);refine .inl ⟨rfl,_,_,.refl _,kO (uH ?_)⟩;refine af (vY w m ok hl) ?_;refine⟨λ_=>dd ?_,λh=>absurd ((hs).symm.trans h:true=false) aq⟩;refine hU ?_;exact zh.o):p:=n ⟨h⟩
def zam{p:Prop}(n:p:=by refine zab ?_;refine zad ?_;exact uI):p:=n
def zan{p q:Prop}(h:q)(n:zaa q->p:=by intro zh;refine .inl ⟨⟨true,[],[],[]⟩,an,uH ?_⟩;exact zh.o):p:=n ⟨h⟩
def zao{p q:Prop}(h:q)(n:zaa q->p:=by intro zh;(repeat (first|((refine ya (dd ?_)))|((refine yb (dd ?_)))));exact zh.o):p:=n ⟨h⟩
def zap{p q:Prop}(h:q)(n:zaa q->p:=by intro zh;refine uG ?_;(refine⟨aj,uH ?_⟩);exact zh.o):p:=n ⟨h⟩
def zaq{p q:Prop}(h:q)(n:zaa q->p:=by intro zh;refine .inr ⟨aj,uH ?_⟩;exact zh.o):p:=n ⟨h⟩
def zar{p q:Prop}(h:q)(n:zaa q->p:=by intro zh;refine uF ?_;(refine hY hg ?_);exact zh.o):p:=n ⟨h⟩
def zas{p q:Prop}(h:q)(n:zaa q->p:=by intro zh;refine uF ?_;refine uE ?_;(refine hY hg ?_);exact zh.o):p:=n ⟨h⟩
def zat{p q:Prop}(h:q)(n:zaa q->p:=by intro zh;refine .inl ⟨rfl,?_,trivial⟩;exact zh.o):p:=n ⟨h⟩
def zau{p:Prop}(n:p:=by (rw[m1]);(refine⟨λh=>absurd q aZ,λ_=>?_⟩);(refine dd ?_);(refine .inl ⟨⟨true,[0,1,2],[0,1,2],[4]⟩,an,uH ?_⟩);(refine af (zN {m with i:=IntKind.i64.wrap (m.i+1),pc:=2} 1 2 p) ?_);refine hO ?_;(exact uI)):p:=n
def zav{p:Prop}(n:p:=by (rw[m1]);(refine⟨λ_=>?_,λh=>absurd (dp h) ah⟩);(refine dd ?_);(refine .inl ⟨⟨true,[0,1,2],[0,1,2],[4]⟩,an,uH ?_⟩);(refine af (zN (rW m 3 (IntKind.i64.wrap (m.i+1))) 1 2 p) ?_);refine hO ?_;(exact uI)):p:=n
def zaw{p q:Prop}(h:q)(n:zaa q->p:=by intro zh;refine ab func79 ?_;(refine af (jN w m ok hl hs ca) ?_);(try (refine hU ?_));exact zh.o):p:=n ⟨h⟩
def zax{p q:Prop}(h:q)(n:zaa q->p:=by intro zh;refine ab func227 ?_;(repeat (first|refine uA ?_|refine uB ?_));exact zh.o):p:=n ⟨h⟩
def zay{p q:Prop}(h:q)(n:zaa q->p:=by intro zh;refine .inl ⟨.inl V,.inr V,aH,aI,uH ?_⟩;exact zh.o):p:=n ⟨h⟩
def zaz{p:Prop}(n:p:=by (rw[c6 (ak q3)]);refine dd ?_;refine zan ?_;refine ae [1] (qN m 3 (IntKind.i64.wrap (m.i+1))) ?_;refine hO ?_;refine ae [1] (zS (rW m 3 (IntKind.i64.wrap (m.i+1))) 1 2 p) ?_;exact bU):p:=n
def zaA{p q:Prop}(h:q)(n:zaa q->p:=by intro zh;rw[m8];refine uF ?_;refine .inr ⟨⟨[4,7],[0],false⟩,an,λh=>absurd h aq,_,uH ?_,λt2 H2 h=>h⟩;(refine hY hgr ?_);exact zh.o):p:=n ⟨h⟩
def zaB{p q:Prop}(h:q)(n:zaa q->p:=by intro zh;refine uF ?_;(refine hY hgv ?_);exact zh.o):p:=n ⟨h⟩
def zaC{p q:Prop}(h:q)(n:zaa q->p:=by intro zh;(refine⟨_,_,.refl _,uH ?_⟩);exact zh.o):p:=n ⟨h⟩
def zaD{p:Prop}(n:p:=by refine zad ?_;(try (refine .inr ⟨aj,uH ?_⟩));exact uI):p:=n
def zaE{p q:Prop}(h:q)(n:zaa q->p:=by intro zh;refine qV.zJ (id:=6) V h1 h2 h3 h4 h5 V V V (uH ?_);refine⟨rfl,rfl,uH ?_⟩;exact zh.o):p:=n ⟨h⟩
def zaF{p q:Prop}(h:q)(n:zaa q->p:=by intro zh;(refine⟨uH ?_,trivial⟩);refine hO ?_;exact zh.o):p:=n ⟨h⟩
def zaG{p:Prop}(n:p:=by refine⟨rfl,rfl,uH ?_⟩;refine af (jB p (hple _ _ hp)) ?_;refine⟨λ_=>dd ?_,λh=>absurd ((hname _ _ hp).symm.trans h:true=false) aq⟩;exact ct):p:=n
def zaH{p q:Prop}(h:q)(n:zaa q->p:=by intro zh;refine .inl ⟨⟨true,[0,1,2,4],[1,2,6],[5]⟩,an,uH ?_⟩;exact zh.o):p:=n ⟨h⟩
def zaI{p q:Prop}(h:q)(n:zaa q->p:=by intro zh;refine⟨aj,uH ?_⟩;exact zh.o):p:=n ⟨h⟩
def zaJ{p:Prop}(n:p:=by refine⟨λh=>absurd ((hd).symm.trans h:false=true) aq,λ_=>dd ?_⟩;rw[zk ah];exact .inl ⟨rfl,_,_,_,rq _,cE 6,k+1,_,_,ah,hg,rfl,rfl⟩):p:=n
def zaK{p q:Prop}(h:q)(n:zaa q->p:=by intro zh;refine af (wy w.pins h.pins) ?_;refine ae [] (mH w.zd h.zd.1 λv hv=>yl v (h.zd.2 v hv)) ?_;refine af (A8 w.zc h.zc) ?_;refine ae [] (mG w.counts h.counts.1 λr hr=>kX r (h.counts.2 r hr)) ?_;exact zh.o):p:=n ⟨h⟩
def zaL{p q:Prop}(h:q)(n:zaa q->p:=by intro zh;rw[xR hr];(conv=>whnf);(refine⟨λh=>absurd h (by rw[m1];simp),λ_=>dd ?_⟩);(refine⟨aj,uH ?_⟩);exact zh.o):p:=n ⟨h⟩
def zaM{p q:Prop}(h:q)(n:zaa q->p:=by intro zh;refine⟨λh=>absurd (dq h) ah,λ_=>dd ?_⟩;refine⟨h0,_,hg,uH ?_⟩;exact zh.o):p:=n ⟨h⟩
def zaN{p q:Prop}(h:q)(n:zaa q->p:=by intro zh;refine⟨h0,rF,dd ?_⟩;rw[e1];refine⟨_,gx,rfl,dd ?_⟩;refine hO ?_;exact zh.o):p:=n ⟨h⟩
def zaO{p q:Prop}(h:q)(n:zaa q->p:=by intro zh;refine dd ?_;refine zad ?_;exact zh.o):p:=n ⟨h⟩
def zaP{p q:Prop}(h:q)(n:zaa q->p:=by intro zh;refine⟨λ_=>dd ?_,λh=>absurd h aw⟩;refine hY hg ?_;exact zh.o):p:=n ⟨h⟩
def zaQ{p:Prop}(n:p:=by refine dd ?_;refine .inr ⟨rfl,dd ?_⟩;exact⟨.inl V,_,zm.cell 2 V ((WC.none 1 1 1).trans (WC.share 1 1 [])),rfl⟩):p:=n
def zaR{p:Prop}(n:p:=by refine zm.trans (zm.xc 2 6 121 1 V V (.inl V) V V) ?_;exact cC):p:=n
def zaS{p q:Prop}(h:q)(n:zaa q->p:=by intro zh;refine .inr ⟨⟨[1,4,8,10],[0,1,2],true⟩,an,λ_=>V,_,uH ?_,λt2 H2 h=>h⟩;refine hO ?_;exact zh.o):p:=n ⟨h⟩
def zaT{p q:Prop}(h:q)(n:zaa q->p:=by intro zh;refine⟨.inr V,aW,aX,uH ?_⟩;refine zac ?_;exact zh.o):p:=n ⟨h⟩
def zaU{p q:Prop}(h:q)(n:zaa q->p:=by intro zh;refine⟨λq=>absurd (dq q) ah,λ_=>dd ?_⟩;exact zh.o):p:=n ⟨h⟩
def zaV{p q:Prop}(h:q)(n:zaa q->p:=by intro zh;refine .inl ⟨rfl,_,_,.refl _,kO (uH ?_)⟩;exact zh.o):p:=n ⟨h⟩
def zaW{p:Prop}(n:p:=by refine dd ?_;exact⟨.inl V,_,zm.var 0 V V V (.cons (.refl _) (.cons (WC.nil 0 1) (.cons (.refl _) .nil))),rfl⟩):p:=n
def zaX{p:Prop}(n:p:=by refine zaj ?_;(rw[zk ah,eg,<-hv _ _ (by unfold jD;rw[c7 aD,cV h3]) (by unfold jC;rw[c7 aC,cV q3])]);exact cE 4):p:=n
def zaY{p q:Prop}(h:q)(n:zaa q->p:=by intro zh;refine af h ?_;(refine .inl ⟨⟨false,[0,1,2],[6,7,8],[]⟩,an,uH ?_⟩);refine hO ?_;exact zh.o):p:=n ⟨h⟩
