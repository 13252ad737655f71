import Derived.WalkKit
import Derived.Still
import Derived.LoopN
import Derived.LoopNIn
import Derived.ControlIn
import Derived.CallsIn
import Derived.TacticsIn
import Derived.OrdersIn
import Derived.Scope
import Derived.RangeFuncLeaves
import Derived.RangeFuncRecord
set_option linter.all false
set_option maxRecDepth 100000
set_option maxHeartbeats 4000000
def O{α:Sort _}{a:α}:a=a:=rfl
def aw{p:Prop}(n:p:=by omega):p:=n
def aj{p:Prop}(n:p:=by simp):p:=n
def au{p:Prop}(n:p:=by kernel_rfl):p:=n
def ar{p:Prop}(n:p:=by decide):p:=n
def aA{p:Prop}(n:p:=by simp;omega):p:=n
def bN{p:Prop}(n:p:=by rw[qi (by omega) (by omega)];omega):p:=n
def aX{p:Prop}(n:p:=by unfold z8;rw[hon];rfl):p:=n
def ay{p:Prop}(n:p:=by simp[maxLen];omega):p:=n
def aL{p:Prop}(n:p:=by show(0:Int)<_;omega):p:=n
def dh{p:Prop}(n:p:=by rw[rz];exact j8 zJ _ _ (xN m v0 g0 e0 tk hd ac) _ O):p:=n
def dg{p:Prop}(n:p:=by rw[rz];exact j8 zI _ _ (vC m g0 e0 tk hd ac) _ O):p:=n
def bT{p:Prop}(n:p:=by rw[hlg];simp[maxLen];omega):p:=n
def cy{p:Prop}(n:p:=by (rw[pR,rA,e1];exact xi _ _ _ uW)):p:=n
def cp{p:Prop}(n:p:=by simp only[pL];omega):p:=n
def df{p:Prop}(n:p:=by rw[rz];exact j8 zF _ _ (qE e0 hd ac) _ O):p:=n
def cU{p:Prop}(n:p:=by rw[hlg];show(k+1)*64<=_;omega):p:=n
def cz{p:Prop}(n:p:=by (rw[pR,rA,e2];exact xi _ _ _ uW)):p:=n
def bQ{p:Prop}(n:p:=by rw[hx];exact pY hk):p:=n
def bf{p:Prop}(n:p:=by show _*8<=_;simp;omega):p:=n
def bS{p:Prop}(n:p:=by rw[rS hk,<-hx];simp):p:=n
def dc{p:Prop}(n:p:=by rw[hpc];rfl):p:=n
def bU{p:Prop}(n:p:=by rw[r6];rfl):p:=n
def bR{p:Prop}(n:p:=by intro ob hob;simp at hob;rcases hob with rfl|rfl|rfl|rfl|rfl|rfl|rfl <;> first|exact hX _|exact hY|rfl):p:=n
def cq{p:Prop}(n:p:=by rw[u5];omega):p:=n
def cD{p:Prop}(n:p:=by simp only[pL,rF,u1];omega):p:=n
def cL{p:Prop}(n:p:=by show(20:Int)<=20;decide):p:=n
def bj{p:Prop}(n:p:=by show 1+1<=48;decide):p:=n
def cI{p:Prop}(n:p:=by simp at h1;omega):p:=n
def aH{p:Prop}(n:p:=by have:=hs.base;simp;omega):p:=n
def cO{p:Prop}(n:p:=by unfold zK;rw[pA hb]):p:=n
def b8{p:Prop}(n:p:=by intro u hu;simp at hu;subst hu;rfl):p:=n
def cF{p:Prop}(n:p:=by (rw[pR,rA,e3];exact xi _ _ _ uW)):p:=n
def aW{p:Prop}(n:p:=by show x.done+1<=x.ops.length;omega):p:=n
def bA{p:Prop}(n:p:=by have h1:=rq hB;have h2:=rq hn;simp;omega):p:=n
def aS{p:Prop}(n:p:=by cases h):p:=n
def de{p:Prop}(n:p:=by show zR _ _::zR _ _::zR _ ⟨1,0,1,_,0⟩::_=_;rw[zN (enc:=zT) (λ_=>O)];rfl):p:=n
def bZ{p:Prop}(n:p:=by simp only[ou,f.zhu (by rw[<-f.h0.n];exact hi)]):p:=n
def cP{p:Prop}(n:p:=by split <;> exact pF (by kernel_rfl)):p:=n
def aU{p:Prop}(n:p:=by rw[ho];exact hk):p:=n
def aZ{p:Prop}(n:p:=by simp at h2;omega):p:=n
def bX{p:Prop}(n:p:=by simp at q1;omega):p:=n
def aK{p:Prop}(n:p:=by show i64 (zD w.zf m.op.listen);unfold i64;omega):p:=n
def bp{p:Prop}(n:p:=by rw[mA];show _*104<=_;simp;omega):p:=n
def db{p:Prop}(n:p:=by show 0+1<=3;decide):p:=n
def aD{p:Prop}(n:p:=by simp[h1]):p:=n
def bz{p:Prop}(n:p:=by rw[h]at hr;cases hr):p:=n
def aI{p:Prop}(n:p:=by simp[h]):p:=n
def bu{p:Prop}(n:p:=by rw[hrows.len,hcs,<-sL];exact sC _ hroom):p:=n
def bD{p:Prop}(n:p:=by simp[ho,hv,hc,eqGuard,binOp,run_equal_slice_nil w t e _ len cap ht]):p:=n
def cG{p:Prop}(n:p:=by rw[pR,rA];exact rd h (by omega) (by omega)):p:=n
def cV{p:Prop}(n:p:=by unfold Ck;rw[pw (by simp at h1;omega)]):p:=n
def cY{p:Prop}(n:p:=by unfold Ck;rw[pw (by simp at h2;omega)]):p:=n
def aG{p:Prop}(n:p:=by simpa [Env.at] using ho.1):p:=n
def cK{p:Prop}(n:p:=by have:=sF List.length ha;simp at this;rw[<-this];exact hl.1):p:=n
def cW{p:Prop}(n:p:=by unfold wH;rw[pw (by simp at q1;omega)]):p:=n
def cX{p:Prop}(n:p:=by unfold wH;rw[pw (by simp at q2;omega)]):p:=n
def bM{p:Prop}(n:p:=by rcases rO.1 h with h|h;exact absurd h.symm e;exact h):p:=n
def aE{p:Prop}(n:p:=by show(-1:Int)<0;decide):p:=n
def aF{p:Prop}(n:p:=by have:=(xh gv.snap).zm.1;have:=gv.len;omega):p:=n
def br{p:Prop}(n:p:=by rw[hh.n];exact lu):p:=n
def bB{p:Prop}(n:p:=by show _<=w2.heap.size;rw[a4];exact g.size):p:=n
def bH{p:Prop}(n:p:=by simp[h2]):p:=n
def bL{p:Prop}(n:p:=by rw[<-l1];exact h2):p:=n
def cb{p:Prop}(n:p:=by have:=st.ty.lY;show w.zf.length<=_;omega):p:=n
def cw{p:Prop}(n:p:=by simp only[pL] at *;omega):p:=n
def cH{p:Prop}(n:p:=by simp at h1 h2;omega):p:=n
def cJ{p:Prop}(n:p:=by rcases ho with h|h <;> omega):p:=n
def aV{p:Prop}(n:p:=by rw[ho];omega):p:=n
def cT{p:Prop}(n:p:=by rw[uz];simp[BD,Ox,kK,ha,@eq_comm _ 1 b.kind]):p:=n
def aB{p:Prop}(n:p:=by rw[ES];decide):p:=n
def bF{p:Prop}(n:p:=by simp[ho,Op.operands,Call.operands,hcl]):p:=n
def c7{p:Prop}(n:p:=by show 2+1<=4;decide):p:=n
def bJ{p:Prop}(n:p:=by unfold qm;rw[h2];exact(show wz sz0 rows0 hops=_ from hg')):p:=n
def bo{p:Prop}(n:p:=by rw[mA];simp[maxLen];omega):p:=n
def ba{p:Prop}(n:p:=by rw[h1];decide):p:=n
def aY{p:Prop}(n:p:=by simp[lu]):p:=n
def bm{p:Prop}(n:p:=by show 47+1<=48;decide):p:=n
def bV{p:Prop}(n:p:=by rw[pB];exact hll.symm):p:=n
def bw{p:Prop}(n:p:=by rw[xA hs.tmps hw];decide):p:=n
def bG{p:Prop}(n:p:=by intro hb;simp[hb]at hcb):p:=n
def bE{p:Prop}(n:p:=by simpa [lf,Env.cut] using h):p:=n
def aJ{p:Prop}(n:p:=by simp[hd]):p:=n
def bc{p:Prop}(n:p:=by rw[h2];trivial):p:=n
def bh{p:Prop}(n:p:=by rw[rD];rfl):p:=n
def bC{p:Prop}(n:p:=by rw[hh.n,hs.heap.n];exact hs.base):p:=n
def bW{p:Prop}(n:p:=by rw[<-hh.n,<-h2.n];exact g.le.n):p:=n
def b9{p:Prop}(n:p:=by simp[hx]):p:=n
def cf{p:Prop}(n:p:=by rw[hlo];split <;> omega):p:=n
def cg{p:Prop}(n:p:=by rw[hhi];split <;> omega):p:=n
def bY{p:Prop}(n:p:=by rw[<-f.h0.n];exact hi):p:=n
def bd{p:Prop}(n:p:=by unfold Op.intDiv;rw[pw hm]):p:=n
def bq{p:Prop}(n:p:=by (try dsimp only);omega):p:=n
def aT{p:Prop}(n:p:=by show(0<=m.pc/\m.pc<=6)\/_;omega):p:=n
def bt{p:Prop}(n:p:=by simp only[maxLen]at hm;omega):p:=n
def cQ{p:Prop}(n:p:=by show(!x.on)=true;rw[hon];rfl):p:=n
def cM{p:Prop}(n:p:=by rw[hE];rfl):p:=n
def aC{p:Prop}(n:p:=by unfold Bt;rw[hnext,hev];rfl):p:=n
def aN{p:Prop}(n:p:=by show m.slot<_;omega):p:=n
def aP{p:Prop}(n:p:=by show(4:Int)≠0;decide):p:=n
def aQ{p:Prop}(n:p:=by show(5:Int)≠0;decide):p:=n
def aR{p:Prop}(n:p:=by show(0:Int)<=n;omega):p:=n
def bP{p:Prop}(n:p:=by simp[h3]):p:=n
def cN{p:Prop}(n:p:=by rw[<-no,<-nc.op];exact h3):p:=n
def aM{p:Prop}(n:p:=by show 0<=m.slot;omega):p:=n
def bn{p:Prop}(n:p:=by show 3+44<=48;decide):p:=n
def cR{p:Prop}(n:p:=by have:=GC.zE.2;omega):p:=n
def bO{p:Prop}(n:p:=by simp_all[Kh]):p:=n
def ax{p:Prop}(n:p:=by simp[h5]):p:=n
def aO{p:Prop}(n:p:=by show e.zj<=_;omega):p:=n
def cS{p:Prop}(n:p:=by show i<n+1;omega):p:=n
def cZ{p:Prop}(n:p:=by simp at h2 ⊢;omega):p:=n
def c8{p:Prop}(n:p:=by show 3+1<=5;decide):p:=n
def c9{p:Prop}(n:p:=by show 1+1<=2;decide):p:=n
def da{p:Prop}(n:p:=by show 2+1<=3;decide):p:=n
def aq{p q:Prop}(h:q)(e:q->p:=by intro zh;simpa using zh):p:=e h
def di{p:Prop}(n:p:=by exact⟨.inl O,_,_,.refl _,rfl,cE 2⟩):p:=n
def dj{p:Prop}(n:p:=by exact⟨.inl O,⟨(.za::.za::.za::.za::.za::Bo (GP h e.value)::mF (mF (mF (mF ([.za,.za,.za,.za,.za]))))),_⟩,cE 2,rfl,rfl⟩):p:=n
def dk{p:Prop}(n:p:=by exact⟨.inl O,⟨(.za::.za::.za::.za::.za::Bo (false)::mF (mF (mF (mF ([.za,.za,.za,.za,.za]))))),_⟩,cE 2,rfl,rfl⟩):p:=n
def dp{p:Prop}(n:p:=by exact⟨.inl O,_,_,.refl _,rfl,zt.yi 6 tc O O O (zO O (zO O (zO (qx lowV) (zO (qx lowG) (zO (qx lowE) O))))) O⟩):p:=n
def dq{p:Prop}(n:p:=by exact⟨.inl O,_,zt.var 1 O O O (.cons (.refl _) (.cons (.refl _) (.cons (.refl _) (.cons (WC.nil 0 1) (.cons (WC.nil 0 5) (.cons (WC.nil 0 4) (.cons (WC.nil 0 1) (.cons (WC.nil 0 3) .nil)))))))),rfl⟩):p:=n
def dt{p:Prop}(n:p:=by exact⟨.inl O,_,_,.refl _,rfl,zt.yi 9 tc O O O (zO (qx (zbX (b:=1) (n:=9) ar hX O)) O) O⟩):p:=n
def du{p:Prop}(n:p:=by exact h.elim):p:=n
def dw{p:Prop}(n:p:=by refine dd ?_;refine tf ?_;exact uI):p:=n
def dx{p:Prop}(n:p:=by exact⟨.inr O,_,.refl _,rfl,rfl⟩):p:=n
def dy{p:Prop}(n:p:=by exact⟨.inl O,_,_,.refl _,rfl,zt.yi 4 tc O O O (zO O (zO O (zO (qx low) O))) O⟩):p:=n
def dz{p:Prop}(n:p:=by exact⟨.inl O,_,zt.keep [3] 1 _ _ O O O O,rfl,rfl⟩):p:=n
def dA{p:Prop}(n:p:=by refine dd ?_;exact⟨.inl O,⟨(.za::.za::.za::.za::.za::.za::Bo false:: .za::mF (jp (jp (mF ([]))))),_⟩,cE 3,rfl,rfl⟩):p:=n
def dB{p:Prop}(n:p:=by simp at this;omega):p:=n
def dC{p:Prop}(n:p:=by exact⟨_,_,zt.mask [0,1,4,7,8] _ _,0,aj,rfl,aj,rfl⟩):p:=n
def dD{p:Prop}(n:p:=by refine ah Saf.jm ?_;refine tf ?_;exact uI):p:=n
def dE{p:Prop}(n:p:=by refine td ?_;exact di):p:=n
def dF{p:Prop}(n:p:=by exact⟨_,_,.refl _,rfl,.inl ⟨rfl,rfl,rfl⟩⟩):p:=n
def dG{p:Prop}(n:p:=by refine⟨aw,aA,dd ?_⟩;rw[e1];refine⟨_,xO aj hk,rfl,dd ?_⟩;refine .inl ⟨rfl,?_,trivial⟩;rw[zy aw,<-jB hF hk];exact cC):p:=n
def dH{p:Prop}(n:p:=by have:=sF Prod.snd h;exact absurd (show(1:Int)=0 from this) ar):p:=n
def dI{p:Prop}(n:p:=by exact(g2.frame k (rU hk g.size) λhc=>(g.own k hc).elim (λh=>by omega) ho).trans (g.frame k hk ho)):p:=n
def dJ{p:Prop}(n:p:=by rw[hr];exact hk _ w E hh (.v _ O) (qW.refl w E H)):p:=n
def dK{p:Prop}(n:p:=by exact j9 (qS O)):p:=n
def dL{p:Prop}(n:p:=by rw[estE,estG,estV];exact shut_map (enc:=zJ) (λ_=>O) _):p:=n
def dM{p:Prop}(n:p:=by rw[estE,estG];exact shut_map (enc:=zI) (λ_=>O) _):p:=n
def dN{p:Prop}(n:p:=by refine dd ?_;exact uJ):p:=n
def dO{p:Prop}(n:p:=by have g:=g1.trans g2;exact⟨E1,⟨hR,hs.tmps.mono g.le,hs.defers.grow hs.heap g,aH⟩,g.nD tD⟩):p:=n
def dP{p:Prop}(n:p:=by exact⟨.inl O,_,zt.cell 2 O (WC.nil 0 1),rfl⟩):p:=n
def dQ{p:Prop}(n:p:=by rw[estE];exact shut_map (enc:=zF) (λ_=>O) _):p:=n
def dR{p:Prop}(n:p:=by refine uD ?_;rw[kQ aj];exact⟨.inl O,_,zt.lQ [1] [6] _ _ O O O O,rfl,rfl⟩):p:=n
def dS{p:Prop}(n:p:=by exact⟨.inl O,_,zt.MZ 2 O O (.inr O) aj (shut_map (λ_=>O) (x::l)),rfl⟩):p:=n
def dT{p:Prop}(n:p:=by refine dd ?_;exact uI):p:=n
def dU{p:Prop}(n:p:=by exact .agg _ ys hZ (λi c y e1 e2=>this.2 i c y e1 uZ) h3):p:=n
def dV{p:Prop}(n:p:=by refine ab func277 ?_;refine ah h ?_;exact uI):p:=n
def dW{p:Prop}(n:p:=by exact qR hd O O):p:=n
def dX{p:Prop}(n:p:=by exact⟨(ve O O O O O),w9 O⟩):p:=n
def dY{p:Prop}(n:p:=by exact⟨.inl O,⟨(.za::.za::.za::.za::.za::.za::Bo false:: .za::.za::.za::.za::.za::.za::mF (jp (mF ([])))),_⟩,cE 3,rfl,rfl⟩):p:=n
def dZ{p:Prop}(n:p:=by refine .inr ⟨aj,uH ?_⟩;exact uI):p:=n
def gf{p:Prop}(n:p:=by simp only[uq,fI,eJ] at *;rw[h1,h2];rfl):p:=n
def gh{p:Prop}(n:p:=by exact this):p:=n
def gk{p:Prop}(n:p:=by have:=(gZ.1 ho).1;exact dB):p:=n
def gp{p:Prop}(n:p:=by exact JO O O (by exact pF au)):p:=n
def gu{p:Prop}(n:p:=by exact x5 O O hd):p:=n
def gz{p:Prop}(n:p:=by exact zX O ⟨uY,st1,tg1,uO,rfl,rfl,xn.refl w _,qD w (Bb p6 (oB su.done hk uM)),.inr ⟨v,g,e,uR,⟨uL,uK,uK,uK,uK⟩⟩⟩):p:=n
def gA{p:Prop}(n:p:=by rw[zy aw];exact cE 1):p:=n
def gC{p:Prop}(n:p:=by have:=(getC h q aw).1;omega):p:=n
def gD{p:Prop}(n:p:=by exact⟨rfl,rfl⟩):p:=n
def gE{p:Prop}(n:p:=by exact⟨rfl,λ_=>O,rfl⟩):p:=n
def gF{p:Prop}(n:p:=by exact⟨.inl O,⟨(.za::.za::.za::.za::.za::.za::Bo true::mF (mF (mF (mF ([.za,.za,.za]))))),_⟩,cE 3,rfl,rfl⟩):p:=n
def gG{p:Prop}(n:p:=by exact⟨.inl O,_,zt.qa 2 0 5 O O O O (.inr O) aj bV (shut_map (enc:=ji) (λ_=>O) _) (qk O),rfl⟩):p:=n
def gH{p:Prop}(n:p:=by exact .inl ⟨rfl,_,_,_,by rw[hn];exact hls,zt.mask [0,1,2,4,5,6,12] _ _,seen.push y.2.2,rfl,by rw[hps];rfl,rfl⟩):p:=n
def gI{p:Prop}(n:p:=by exact .fn f _ _ ys zs (aq t1.1) (aq t2.1) (λi c y e1 e2=>t1.2 i c y e1 uZ) (λi c y e1 e2=>t2.2 i c y e1 uZ)):p:=n
def gJ{p:Prop}(n:p:=by exact qK O):p:=n
def gK{p:Prop}(n:p:=by exact⟨.inl O,_,_,.refl _,rfl,cE 1⟩):p:=n
def gL{p:Prop}(n:p:=by exact hl a (by simp[ho,Op.operands,Call.operands];right;have:=pq ha;simpa using this)):p:=n
def gM{p:Prop}(n:p:=by refine .inl ⟨⟨true,[0,2,3],[0,1,5],[1]⟩,au,uH ?_⟩;refine ah (qP w sw) ?_;refine td ?_;exact uI):p:=n
def gO{p:Prop}(n:p:=by exact⟨.inl O,_,zt.cell 2 O (WC.nil 0 18),rfl⟩):p:=n
def gP{p:Prop}(n:p:=by rw[pO];exact⟨hk,h2,λj hj=>by simp only[hr j aw hj];decide⟩):p:=n
def gQ{p:Prop}(n:p:=by have:=(hno4 h4).1;omega):p:=n
def gR{p:Prop}(n:p:=by exact⟨rfl,rfl,λ_=>O⟩):p:=n
def gS{p:Prop}(n:p:=by exact .inl ⟨rfl,_,_,cC,hn⟩):p:=n
def gT{p:Prop}(n:p:=by rw[hd,hL];rfl):p:=n
def gU{p:Prop}(n:p:=by rw[e];exact dw):p:=n
def gV{p:Prop}(n:p:=by refine .inr ⟨aj,uH ?_⟩;exact dx):p:=n
def gW{p:Prop}(n:p:=by exact Iq _ t (by rw[pj,ho];rfl)):p:=n
def gX{p:Prop}(n:p:=by exact absurd h3 ar):p:=n
def gY{p:Prop}(n:p:=by rw[pw aw];refine uD ?_;rw[kQ aj];exact uJ):p:=n
def gZ:=@List.getElem?_eq_some_iff
def pa:=@List.getElem?_eq_getElem
def pj:=@List.getElem?_map
def pq:=@List.mem_of_getElem?
def pw:=@if_neg
def pz:=@Option.some.inj
def pA:=@if_pos
def pB:=@List.length_map
def pC:=@List.getElem?_set_self
def pD:=@List.getElem?_append_left
def pF:=@of_decide_eq_true
def pG:=@Bool.and_eq_true
def pH:=@List.all_eq_true
def pI:=@Nat.le_refl
def pJ:=@List.mem_iff_getElem?
def pK:=@List.getElem?_set
def pL:=@List.length_append
def pM:=@Option.map_some
def pN:=@Option.bind_eq_some_iff
def pO:=@List.findIdx?_eq_some_iff_getElem
def pP:=@List.mem_singleton
def pQ:=@decide_eq_true_eq
def pR:=@Nat.zero_add
def pS:=@Option.map_eq_some_iff
def pT:=@List.getElem?_append_right
def pU:=@Array.getElem?_eq_some_iff
def pV:=@List.mem_append
def pW:=@List.findIdx?_eq_none_iff
def pX:=@List.getElem?_set_ne
def pY:=@List.getElem_mem
def pZ:=@List.mem_map
def p8:=@Int.le_refl
def p9:=@Option.some.injEq
def rh:=@Option.bind_some
def rj:=@List.take_length
def rk:=@Nat.zero_le
def rp:=@List.ext_getElem?
def rq:=@Nat.le_of_ble_eq_true
def ru:=@List.getElem?_take
def rz:=@List.set_set
def rA:=@Int.toNat_natCast
def rB:=@Nat.le_trans
def rC:=@List.mem_or_eq_of_mem_set
def rD:=@List.map_append
def rE:=@Nat.not_lt_zero
def rF:=@List.length_cons
def rG:=@Array.getElem?_toList
def rH:=@List.getElem?_eq_none_iff
def rI:=@List.any_eq_false
def rJ:=@beq_iff_eq
def rK:=@List.append_nil
def rL:=@decide_eq_false_iff_not
def rM:=@List.eq_of_mem_replicate
def rO:=@List.mem_cons
def rP:=@List.mem_iff_getElem
def rQ:=@List.getElem?_mapIdx
def rR:=@List.append_assoc
def rS:=@List.take_succ_eq_append_getElem
def rT:=@List.getElem?_eq_none
def rU:=@Nat.lt_of_lt_of_le
def rV:=@Array.getD_eq_getD_getElem?
def rW:=@List.eq_nil_of_length_eq_zero
def rX:=@List.length_set
def rY:=@Bool.or_eq_false_iff
def rZ:=@Bool.not_eq_true'
def r6:=@List.map_set
def r7:=@List.mem_cons_self
def r8:=@List.mem_cons_of_mem
def r9:=@List.pairwise_append
def sa:=@List.getElem?_modify
def sb:=@List.any_eq_true
def sd:=@Nat.lt_or_ge
def se:=@List.map_cons
def sr:=@List.getElem?_drop
def sA:=@List.pairwise_cons
def sB:=@Bool.or_eq_true
def sC:=@Nat.mul_le_mul_right
def sD:=@List.length_eq_zero_iff
def sE:=@List.take_append_drop
def sF:=@congrArg
def sG:=@List.map_congr_left
def sH:=@Nat.le_succ
def sI:=@List.getElem?_cons_succ
def sJ:=@List.mem_range
def sK:=@of_decide_eq_false
def sL:=@Nat.add_mul
def sM:=@List.map_map
def sN:=@List.findIdx?_map
def sO:=@List.flatMap_cons
def sP:=@List.countP_append
def sQ:=@List.countP_singleton
def sR:=@List.sum_cons
def sS:=@List.getD_eq_getElem?_getD
def sT:=@List.mem_of_mem_take
def sU:=@decide_eq_false
def sV:=@List.getElem?_range
def sW:=@List.countP_le_length
def sX:=@Nat.lt_trichotomy
def sY:=@Nat.sub_self
def sZ:=@Array.eq_empty_of_size_eq_zero
def tq:=@Int.toNat_of_nonneg
def tt:=@List.length_singleton
def tu:=@List.findIdx?_cons
def ua:=@Int.natCast_nonneg
def ub:=@Bool.not_eq_false'
def uc:=@Bool.false_or
def ud:=@Nat.sub_zero
def ue:=@Bool.false_and
def uf:=@Array.getElem?_eq_getElem
def ug:=@Bool.false_eq_true
def uh:=@Nat.add_assoc
def ui:=@Bool.true_and
def uj:=@Option.map_eq_map
def uk:=@Nat.add_zero
def um:=@List.take_of_length_le
def uo:=@Int.tmod_eq_emod_of_nonneg
def uq:=@List.all_cons
def ur:=@decide_eq_true
def uu:=@Array.mem_of_getElem?
def uv:=@Array.getElem?_modify
def uw:=@List.pairwise_iff_getElem
def ux:=@List.mem_append_left
def uy:=@List.mem_of_mem_drop
def uz:=@Bool.eq_iff_iff
def u1:=@List.length_nil
def u3:=@List.getElem?_replicate
def u4:=@List.length_pos_iff
def u5:=@List.length_take
def u6:=@Array.getElem?_eq_none
def u7:=@List.length_eq_one_iff
def u9:=@List.set_cons_zero
def eu:=@Int.emod_lt_of_pos
def ez:=@List.filter_append
def eC:=@Nat.le_of_lt
def eF:=@Int.emod_nonneg
def eG:=@List.set_append_right
def eI:=@List.perm_append_comm
def eJ:=@Bool.and_true
def eK:=@List.foldl_append
def eM:=@List.all_eq_false
def eP:=@List.getElem?_append
def eQ:=@Bool.and_false
def eS:=@List.take_left
def eU:=@Array.toList_inj
def eV:=@Array.all_toList
def eX:=@List.getElem_map
def eZ:=@List.filter_cons
def fc:=@List.replicate_succ
def fe:=@Array.toList_append
def ff:=@List.sum_append
def fg:=@List.mem_replicate
def fh:=@Nat.eq_zero_or_pos
def fi:=@List.range_succ
def fj:=@true_and
def fk:=@Nat.mul_one
def fm:=@List.take_append_of_le_length
def fp:=@List.length_range
def fq:=@Nat.le_of_eq
def ft:=@List.length_replicate
def fx:=@Nat.ne_of_lt
def fy:=@List.getElem?_toArray
def fA:=@Nat.mul_comm
def fB:=@List.mapM_cons
def fC:=@List.take_zero
def fD:=@List.drop_zero
def fE:=@List.map_nil
def fF:=@Array.getElem?_setIfInBounds
def fG:=@List.dropLast_concat_getLast
def fH:=@List.Pairwise.sublist
def fI:=@List.all_nil
def fJ:=@List.findIdx?_append
def fK:=@List.set_append_left
def fL:=@Option.bind_none
def fM:=@Nat.mod_eq_of_lt
def fN:=@List.length_drop
def fO:=@List.range_eq_range'
def fP:=@Nat.not_lt
def fQ:=@List.prefix_refl
def fR:=@Array.getElem?_append_left
def fS:=@List.exists_cons_of_ne_nil
def fT:=@List.length_filter_lt_length_iff_exists
def fU:=@List.takeWhile_cons
def fV:=@List.countP_eq_zero
def fW:=@List.mem_mapIdx
def fX:=@List.all_append
def fY:=@List.set_cons_succ
def fZ:=@Bool.or_true
def ia:=@Nat.zero_mul
def ib:=@Array.setIfInBounds_comm
def ic:=@List.find?_range_eq_none
def ij:=@List.getElem?_cons_zero
def im:=@List.size_toArray
def iq:=@List.getElem_take
def ir:=@List.nodup_append
def iu:=@Array.mem_iff_getElem?
def iv:=@List.drop_eq_nil_of_le
def iw:=@List.getElem?_eraseIdx
def iy:=@Bool.not_true
def iz:=@List.map_take
def iA:=@List.mem_toArray
def iB:=@Array.toList_map
def iC:=@List.perm_middle
def iD:=@List.set_getElem_self
def iE:=@List.mem_append_right
def iF:=@Nat.ble_eq_true_of_le
def iG:=@List.length_mergeSort
def iH:=@List.replicate_succ'
def iI:=@List.foldl_cons
def iJ:=@Nat.mod_lt
def iK:=@Bool.true_or
def iL:=@List.mem_filter
def iM:=@List.eq_nil_iff_forall_not_mem
def iN:=@List.mem_map_of_mem
def iO:=@Array.getElem?_map
def iP:=@Array.ext_getElem?
def iQ:=@List.map_singleton
def iR:=@List.map_replicate
def iS:=@List.mergeSort_of_pairwise
def iT:=@Array.size_append
def iU:=@List.take_sublist
def iV:=@List.filter_congr
def iW:=@List.take_add_one
def iX:=@Nat.add_comm
def iY:=@List.mapIdx_cons
def iZ:=@List.isEmpty_iff
def i4:=@Nat.div_eq_of_lt
def i5:=@List.countP_cons
def i6:=@Nat.mul_add_mod
def i7:=@List.nil_append
def lb:=@List.map_id
def lf:=@Nat.blt_eq
namespace Go.Ab
abbrev mP:=Nat×Nat
inductive C where
 |v (x:Value)
 |lq (o sz:Nat) (rows:List (List C))
 |jK (cells:List C)
 |ref (id:Nat) (hops:List mP) (sz i k:Nat)
 |sl (id:Nat) (hops:List mP) (sz lo len:Nat) (full:Bool)
 |fn (f:FuncId) (first caps:List C)
 |mp (id:Nat)
 |agg (cs:List C)
 |lK (vs:List C)
 |un
 |za
 |gl (id sz:Nat) (rows:List (List C))
 |mZ (t:TypeId) (c:C)
 |rc (o:Obj)
structure Ob where
 kind:Nat
 ty:TypeId
 sz:Nat
 rows:List (List C)
 fz:Nat:=0
abbrev zo:=List Ob
structure Env where
 n:Nat
 β:Nat->List mP->Nat
 κ:Nat->List mP->Nat
 St:Nat->Nat->Option Value
 G:Nat->Nat->Option Value:=λ_ _=>none
def Env.shut(E:Env):Env:={E with n:=0}
def Env.at(E:Env)(kd:Nat):Env:=if kd=2 then E.shut else E
inductive L:Env->C->Value->Prop
 |v {E:Env} (x:Value) (h:x.oneCell'=true):L E (.v x) x
 |lq {E:Env} (o sz:Nat) (rows:List (List C)) (b off cap:Nat) (us:Nat->Nat->Value) (ho:o=0\/o=1/\cap=rows.length) (hc:rows.length<=cap)
   (hsz:∀r∈rows,r.length=sz)
   (hst:∀(i:Nat) r (k:Nat) c,rows[i]?=some r->r[k]?=some c->E.St b (off+i*sz+k)=some (us i k))
   (hL:∀(i:Nat) r (k:Nat) c,rows[i]?=some r->r[k]?=some c->L E.shut c (us i k)):
   L E (.lq o sz rows) (.slice (some ⟨b,off,none⟩) rows.length cap)
 |xR {E:Env} (o sz:Nat) (ho:o=0\/o=1) (a:Option Addr:=none):L E (.lq o sz []) (.slice a 0 0)
 |jK {E:Env} (cells:List C) (b off:Nat) (us:Nat->Value) (hst:∀(k:Nat) c,cells[k]?=some c->E.St b (off+k)=some (us k))
   (hL:∀(k:Nat) c,cells[k]?=some c->L E.shut c (us k)):L E (.jK cells) (.pointer (some ⟨b,off,none⟩))
 |ref {E:Env} (id:Nat) (hops:List mP) (sz i k:Nat) (hn:id<E.n):L E (.ref id hops sz i k) (.pointer (some ⟨E.β id hops,i*sz+k,none⟩))
 |sl {E:Env} (id:Nat) (hops:List mP) (sz lo len:Nat) (full:Bool) (cap:Nat) (hn:id<E.n) (hlen:len<=cap) (hf:full=true->cap=len) (hf':full=false->lo+cap=E.κ id hops):
   L E (.sl id hops sz lo len full) (.slice (some ⟨E.β id hops,lo*sz,none⟩) len cap)
 |fn {E:Env} (f:FuncId) (first caps:List C) (ys zs:Array Value) (h1:first.length=ys.size) (h2:caps.length=zs.size)
   (h3:∀(i:Nat) c y,first[i]?=some c->ys[i]?=some y->L E c y) (h4:∀(i:Nat) c y,caps[i]?=some c->zs[i]?=some y->L E c y):
   L E (.fn f first caps) (.func (.func f) ys zs)
 |mp {E:Env} (id:Nat) (hn:id<E.n):L E (.mp id) (.map (some (E.β id [])))
 |agg {E:Env} (cs:List C) (ys:Array Value) (h1:cs.length=ys.size) (h2:∀(i:Nat) c y,cs[i]?=some c->ys[i]?=some y->L E c y) (h3:∀y∈ys,y.oneCell'=true):L E (.agg cs) (.agg ys)
 |lK {E:Env} (cs:List C) (ys:Array Value) (h1:cs.length=ys.size) (h2:∀(i:Nat) c y,cs[i]?=some c->ys[i]?=some y->L E c y):L E (.lK cs) (.tuple ys)
 |un {E:Env}:L E .un undef
 |za {E:Env} (y:Value):L E .za y
 |gl {E:Env} (id sz:Nat) (rows:List (List C)) (y:Value) (hn:id<E.n) (hg:E.G id rows.length=some y) (h:L E.shut (.lq 0 sz rows) y):L E (.gl id sz rows) y
 |mZ {E:Env} (t:TypeId) (c:C) (y:Value) (h:L E c y):L E (.mZ t c) (.iface t y)
structure Env.le(E E':Env):Prop where
 n:E.n<=E'.n
 β:∀id hops,id<E.n->E'.β id hops=E.β id hops
 κ:∀id hops,id<E.n->E'.κ id hops=E.κ id hops
 St:∀b o u,E.St b o=some u->E'.St b o=some u
 G:∀id k u,id<E.n->E.G id k=some u->E'.G id k=some u
def Env.le.refl(E:Env):E.le E:=⟨pI _,λ_ _ _=>O,λ_ _ _=>O,λ_ _ _ h=>h,λ_ _ _ _ h=>h⟩
def Env.le.trans{E E' E'':Env}(h:E.le E')(h':E'.le E''):E.le E'':=
 ⟨rB h.n h'.n,λid hops hi=>(h'.β id hops (rU hi h.n)).trans (h.β id hops hi),λid hops hi=>(h'.κ id hops (rU hi h.n)).trans (h.κ id hops hi),
  λb o u hu=>h'.St b o u (h.St b o u hu),λid k u hi hu=>h'.G id k u (rU hi h.n) (h.G id k u hi hu)⟩
def Env.Iw(E:Env):E.shut.le E:=⟨rk _,λ_ _ h=>absurd h (rE _),λ_ _ h=>absurd h (rE _),λ_ _ _ h=>h,λ_ _ _ h _=>absurd h (rE _)⟩
def Env.le.shut{E E':Env}(h:E.le E'):E.shut.le E'.shut:=⟨pI _,λ_ _ h=>absurd h (rE _),λ_ _ h=>absurd h (rE _),h.St,λ_ _ _ h _=>absurd h (rE _)⟩
def Env.le.at{E E':Env}(h:E.le E')(kd:Nat):(E.at kd).le (E'.at kd):=by unfold Env.at;split;exact h.shut;exact h
def Env.QK(E:Env)(kd:Nat):(E.at kd).le E:=by unfold Env.at;split;exact E.Iw;exact .refl E
def L.mono{E E':Env}(h:E.le E'){c:C}{y:Value}(hl:L E c y):L E' c y:=by
 induction hl generalizing E' with
 |v x hx=>exact .v x hx
 |lq o sz rows b off cap us ho hc hsz hst _ ih=>exact .lq o sz rows b off cap us ho hc hsz (λi r k c h1 h2=>h.St _ _ _ (hst i r k c h1 h2)) (λi r k c h1 h2=>ih i r k c h1 h2 h.shut)
 |xR o sz ho a=>exact .xR o sz ho a
 |jK cells b off us hst _ ih=>exact .jK cells b off us (λk c h1=>h.St _ _ _ (hst k c h1)) (λk c h1=>ih k c h1 h.shut)
 |ref id hops sz i k hn=>rw[<-h.β id hops hn];exact .ref id hops sz i k (rU hn h.n)
 |sl id hops sz lo len full cap hn hlen hf hf'=>
  rw[<-h.β id hops hn];exact .sl id hops sz lo len full cap (rU hn h.n) hlen hf (λe=>by rw[h.κ id hops hn];exact hf' e)
 |fn f first caps ys zs h1 h2 _ _ ih1 ih2=>exact .fn f first caps ys zs h1 h2 (λi c y e1 e2=>ih1 i c y e1 e2 h) (λi c y e1 e2=>ih2 i c y e1 e2 h)
 |mp id hn=>rw[<-h.β id [] hn];exact .mp id (rU hn h.n)
 |agg cs ys h1 _ h3 ih=>exact .agg cs ys h1 (λi c y e1 e2=>ih i c y e1 e2 h) h3
 |lK cs ys h1 _ ih=>exact .lK cs ys h1 (λi c y e1 e2=>ih i c y e1 e2 h)
 |un=>exact .un
 |za y=>exact .za y
 |gl id sz rows y hn hg _ ih=>exact .gl id sz rows y (rU hn h.n) (h.G _ _ _ hn hg) (ih h.shut)
 |mZ t c y _ ih=>exact .mZ t c y (ih h)
def Ec:C->Bool
 |.v _|.lq .. |.jK _=>true
 |_=>false
def G0:C->Bool
 |.agg cs=>cs.all Ec
 |c=>Ec c
def jE:C->Bool
 |.fn _ first caps=>first.all G0 && caps.all G0
 |c=>Ec c
def L.DY{E:Env}{c:C}{y:Value}(h:L E c y)(hc:Ec c=true):L E.shut c y:=by
 cases h with
 |v x hx=>exact .v _ hx
 |lq o sz rows b off cap us ho h2 hsz hst hL=>exact .lq o sz rows b off cap us ho h2 hsz hst hL
 |xR o sz ho a=>exact .xR o sz ho a
 |jK cells b off us hst hL=>exact .jK cells b off us hst hL
 |_=>simp[Ec]at hc
def L.VJ{E:Env}{c:C}{y:Value}(h:L E c y)(hc:G0 c=true):L E.shut c y:=by
 cases h with
 |agg cs ys h1 h2 h3=>
  refine .agg cs ys h1 (λi c y e1 e2=>(h2 i c y e1 e2).DY ?_) h3;exact pH.1 (show cs.all Ec=true from hc) _ (pq e1)
 |v x hx=>exact(L.v (E:=E) _ hx).DY hc
 |lq o sz rows b off cap us ho h2 hsz hst hL=>exact(L.lq (E:=E) o sz rows b off cap us ho h2 hsz hst hL).DY hc
 |xR o sz ho a=>exact(L.xR (E:=E) o sz ho a).DY hc
 |jK cells b off us hst hL=>exact(L.jK (E:=E) cells b off us hst hL).DY hc
 |_=>simp[G0,Ec]at hc
def L.w8{E:Env}{c:C}{y:Value}(h:L E c y)(hc:jE c=true):L E.shut c y:=by
 cases h with
 |fn f first caps ys zs h1 h2 h3 h4=>
  have hc:(first.all G0 && caps.all G0)=true:=hc;rw[pG]at hc;exact .fn f first caps ys zs h1 h2 (λi c y e1 e2=>(h3 i c y e1 e2).VJ (pH.1 hc.1 _ (pq e1))) (λi c y e1 e2=>(h4 i c y e1 e2).VJ (pH.1 hc.2 _ (pq e1)))
 |v x hx=>exact(L.v (E:=E) _ hx).DY hc
 |lq o sz rows b off cap us ho h2 hsz hst hL=>exact(L.lq (E:=E) o sz rows b off cap us ho h2 hsz hst hL).DY hc
 |xR o sz ho a=>exact(L.xR (E:=E) o sz ho a).DY hc
 |jK cells b off us hst hL=>exact(L.jK (E:=E) cells b off us hst hL).DY hc
 |_=>simp[jE,Ec]at hc
def LL(E:Env)(cs:List C)(ys:List Value):Prop:=cs.length=ys.length/\∀(i:Nat) c y,cs[i]?=some c->ys[i]?=some y->L E c y
def LL.mono{E E':Env}(h:E.le E'){cs:List C}{ys:List Value}(hl:LL E cs ys):LL E' cs ys:=
 ⟨hl.1,λi c y h1 h2=>(hl.2 i c y h1 h2).mono h⟩
def LL.nil{E:Env}:LL E [] []:=⟨rfl,by simp⟩
def LL.cons{E:Env}{c:C}{y:Value}{cs:List C}{ys:List Value}(h:L E c y)(hl:LL E cs ys):LL E (c::cs) (y::ys):=by
 refine⟨by simp[hl.1],?_⟩;intro i c' y' h1 h2;cases i with
 |zero=>simp at h1 h2;subst h1;subst h2;exact h
 |succ i=>simp at h1 h2;exact hl.2 i c' y' h1 h2
def LL.cons_inv{E:Env}{c:C}{y:Value}{cs:List C}{ys:List Value}(h:LL E (c::cs) (y::ys)):L E c y/\LL E cs ys:=
 ⟨h.2 0 c y O O,by simpa using h.1,λi c' y' h1 h2=>h.2 (i+1) c' y' (by simpa using h1) (by simpa using h2)⟩
def LL.one{E:Env}{c:C}{y:Value}(h:L E c y):LL E [c] [y]:=LL.cons h LL.nil
def LL.append{E:Env}{cs cs':List C}{ys ys':List Value}(h:LL E cs ys)(h':LL E cs' ys'):LL E (cs++cs') (ys++ys'):=by
 refine⟨by simp[h.1,h'.1],?_⟩;intro i c y h1 h2;by_cases hi:i<cs.length
 ·rw[pD hi]at h1;rw[pD (by rw[<-h.1];exact hi)]at h2;exact h.2 i c y h1 h2
 ·rw[pT (by omega)]at h1;rw[pT (by rw[<-h.1];omega),<-h.1]at h2;exact h'.2 _ c y h1 h2
def LL.get{E:Env}{cs:List C}{ys:List Value}(h:LL E cs ys){i:Nat}{c:C}(hc:cs[i]?=some c):∃y,ys[i]?=some y/\L E c y:=by
 have hi:i<ys.length:=by rw[<-h.1];exact(gZ.1 hc).1
 exact⟨ys[i],by simp[hi],h.2 i c ys[i] hc (by simp[hi])⟩
def LL.take{E:Env}{cs:List C}{ys:List Value}(h:LL E cs ys)(n:Nat):LL E (cs.take n) (ys.take n):=by
 refine⟨by simp[h.1],?_⟩;intro i c y h1 h2;rw[ru]at h1 h2;split at h1
 ·rename_i hi;rw[pA hi]at h2;exact h.2 i c y h1 h2
 ·cases h1
def LL.drop{E:Env}{cs:List C}{ys:List Value}(h:LL E cs ys)(n:Nat):LL E (cs.drop n) (ys.drop n):=by
 refine⟨by simp[h.1],?_⟩;intro i c y h1 h2;rw[sr]at h1 h2;exact h.2 _ c y h1 h2
def LL.set{E:Env}{cs:List C}{ys:List Value}(h:LL E cs ys){c:C}{y:Value}(hl:L E c y)(i:Nat):LL E (cs.set i c) (ys.set i y):=by
 refine⟨by simp[h.1],?_⟩;intro j c' y' h1 h2;rw[pK]at h1 h2;by_cases hij:i=j
 ·subst hij;rw[pA O]at h1 h2;split at h1
  ·split at h2
   ·cases h1;cases h2;exact hl
   ·cases h2
  ·cases h1
 ·rw[pw hij]at h1 h2;exact h.2 j c' y' h1 h2
def C.cells:C->List C
 |.agg cs=>cs
 |c=>[c]
def L.cells{E:Env}{c:C}{y:Value}(h:L E c y)(hj:c≠.za)(hu:c≠.un):LL E c.cells y.cells.toList:=by
 have one:∀(c:C) (y:Value),L E c y->c.cells=[c]->y.cells= #[y]->LL E c.cells y.cells.toList:=λc y h e1 e2=>by
  rw[e1,e2];exact LL.cons h LL.nil
 cases h with
 |v x hx=>exact one _ _ (.v _ hx) O (by cases y <;> simp_all[Value.cells,Value.oneCell'])
 |agg cs ys h1 h2 h3=>exact⟨by simpa [C.cells,Value.cells] using h1,λi c y e1 e2=>h2 i c y e1 (by simpa [Value.cells] using e2)⟩
 |un=>exact absurd O hu
 |za=>exact absurd O hj
 |lK cs ys h1 h2=>exact one _ _ (.lK cs ys h1 h2) O O
 |lq o sz rows b off cap us ho hc hsz hst hL=>exact one _ _ (.lq o sz rows b off cap us ho hc hsz hst hL) O O
 |xR o sz ho a=>exact one _ _ (.xR o sz ho a) O O
 |jK cells b off us hst hL=>exact one _ _ (.jK cells b off us hst hL) O O
 |ref id hops sz i k hn=>exact one _ _ (.ref id hops sz i k hn) O O
 |sl id hops sz lo len full cap hn hlen hf hf'=>exact one _ _ (.sl id hops sz lo len full cap hn hlen hf hf') O O
 |fn f first caps ys zs h1 h2 h3 h4=>exact one _ _ (.fn f first caps ys zs h1 h2 h3 h4) rfl rfl
 |mp id hn=>exact one _ _ (.mp id hn) O O
 |gl id sz rows y hn hg h=>exact one _ _ (.gl id sz rows y hn hg h) O (by cases h <;> rfl)
 |mZ t c y h=>exact one _ _ (.mZ t c y h) O O
def cellAt(rows:List (List C))(i k:Nat):Option C:=(rows[i]?).bind (·[k]?)
def wz:Nat->List (List C)->List mP->Option (Nat×List (List C))
 |sz,rows,[]=>some (sz,rows)
 |_,rows,(i,k)::hs=>match cellAt rows i k with
  |some (.lq 2 sz' rows')=>wz sz' rows' hs
  |_=>none
def qm(H:zo)(id:Nat)(hops:List mP):Option (Nat×List (List C)):=
 match H[id]? with
 |some ob=>if ob.kind=1\/ob.kind=2 then wz ob.sz ob.rows hops else none
 |none=>none
def jx(E:Env)(kd:Nat)(id:Nat)(hops:List mP)(i k:Nat)(c:C)(u:Value):Prop:=
 match c with
 |.lq 2 _ rows'=>u=.slice (some ⟨E.β id (hops++[(i,k)]),0,none⟩) rows'.length (E.κ id (hops++[(i,k)]))
 |c=>L (E.at kd) c u/\u.oneCell'=true
structure GS(w:World)(E:Env)(kd:Nat)(id:Nat)(hops:List mP)(sz:Nat)(rows:List (List C)):Prop where
 len:rows.length<=E.κ id hops
 row:∀r∈rows,r.length=sz
 lZ:∃cur e,w.heap[E.β id hops]?=some (.cells cur e (0,0))/\cur.size=E.κ id hops*sz/\
  ∀i k c,cellAt rows i k=some c->∃u,cur[i*sz+k]?=some u/\jx E kd id hops i k c u
structure qv(w:World)(E:Env)(H:zo):Prop where
 n:E.n=H.length
 lZ:∀id ob hops sz rows,H[id]?=some ob->qm H id hops=some (sz,rows)->GS w E ob.kind id hops sz rows
 inj:∀id hops id' hops' x y,qm H id hops=some x->qm H id' hops'=some y->E.β id hops=E.β id' hops'->id=id'/\hops=hops'
 qJ:∀b o u,E.St b o=some u->w.cell? ⟨b,o,none⟩=some u/\u.oneCell'=true
 sep:∀id hops x o u,qm H id hops=some x->E.St (E.β id hops) o=some u->hops=[]/\∃ob,H[id]?=some ob/\o<ob.fz*ob.sz
 ty:∀id ob,H[id]?=some ob->ob.kind=2->∃cur,w.heap[E.β id []]?=some (.cells cur ob.ty (0,0))
 fz:∀(id:Nat) (ob:Ob),H[id]?=some ob->ob.fz<=ob.rows.length
structure S where
 tmps:List C
 H:zo
def jM(E:Env)(H:zo)(b:Nat):Prop:=∃id hops x,qm H id hops=some x/\E.β id hops=b
structure qW(w:World)(E:Env)(H:zo)(w':World)(E':Env)(H':zo):Prop where
 le:E.le E'
 I3:∀(id k:Nat),id<E.n->E'.G id k=E.G id k
 os:w'.os=w.os
 tape:w'.tape=w.tape
 output:w'.output=w.output
 size:w.heap.size<=w'.heap.size
 frame:∀k,k<w.heap.size->¬jM E H k->w'.heap[k]?=w.heap[k]?
 xv:∀b o u,E'.St b o=some u->E.St b o=some u\/w.heap.size<=b\/jM E H b
 own:∀b,jM E' H' b->w.heap.size<=b\/jM E H b
def qW.refl(w:World)(E:Env)(H:zo):qW w E H w E H:=
 ⟨Env.le.refl E,λ_ _ _=>O,rfl,rfl,rfl,pI _,λ_ _ _=>O,λ_ _ _ h=>.inl h,λ_ h=>.inr h⟩
def qW.trans{w w1 w2:World}{E E1 E2:Env}{H H1 H2:zo}(g:qW w E H w1 E1 H1)(h:qW w1 E1 H1 w2 E2 H2):qW w E H w2 E2 H2 where
 le:=g.le.trans h.le
 I3 id k hi:=(h.I3 id k (rU hi g.le.n)).trans (g.I3 id k hi)
 os:=h.os.trans g.os
 tape:=h.tape.trans g.tape
 output:=h.output.trans g.output
 size:=rB g.size h.size
 frame k hk ho:=(h.frame k (rU hk g.size) λhc=>(g.own k hc).elim (λhs=>by omega) ho).trans (g.frame k hk ho)
 xv b o u hu:=by
  rcases h.xv b o u hu with h1|h1|h1
  ·exact g.xv b o u h1
  ·exact .inr (.inl (rB g.size h1))
  ·rcases g.own b h1 with h2|h2
   ·exact .inr (.inl h2)
   ·exact .inr (.inr h2)
 own b hb:=by
  rcases h.own b hb with h1|h1
  ·exact .inl (rB g.size h1)
  ·exact g.own b h1
def jc(E:Env)(H:zo)(id b:Nat):Prop:=∃ob cap,H[id]?=some ob/\ob.kind=4/\E.G id ob.rows.length=some (.slice (some ⟨b,0,none⟩) ob.rows.length cap)/\cap≠ob.rows.length
def xj(H:zo)(id b:Nat):Prop:=∃ob o t,H[id]?=some ob/\ob.kind=4/\(ob.rows=[.rc o::t]/\ob.fz=1)/\ob.ty=b
def GB:Obj->Bool
 |.loop _=>true
 |.map ..=>true
 |.mapIter ..=>true
 |_=>false
def Mq:Obj->List Value
 |.loop r=>r.tmps.toList
 |_=>[]
def AQ(E:Env)(t:List C)(o:Obj):Prop:=LL E t (Mq o)\/∃es k,o=.map es k/\LL E t (es.toList.map (·.val))
def AQ.map{E E':Env}{t:List C}{o:Obj}(h:AQ E t o)(hf:∀ys,LL E t ys->LL E' t ys):AQ E' t o:=h.imp (hf _) λ⟨es,k,e,hl⟩=>⟨es,k,e,hf _ hl⟩
def AQ.mono{E E':Env}{t:List C}{o:Obj}(h:AQ E t o)(hle:E.le E'):AQ E' t o:=h.map λ_ hl=>hl.mono hle
def AQ.loop{E:Env}{t:List C}{r:Loop}(h:AQ E t (.loop r)):LL E t r.tmps.toList:=h.elim id λ⟨_,_,e,_⟩=>by cases e
def qv.Iu{w:World}{E:Env}{H:zo}{b:Nat}(h:qv w E H)(ho:jM E H b):∃cur e,w.heap[b]?=some (.cells cur e (0,0)):=by
 obtain⟨id,hops,x,hx,rfl⟩:=ho;have hx':=hx;unfold qm at hx';split at hx'
 ·rename_i ob hob;obtain⟨cur,e,h1,_⟩:=(h.lZ id ob hops x.1 x.2 hob hx).lZ;exact⟨cur,e,h1⟩
 ·cases hx'
structure Br(w:World)(E:Env)(H:zo):Prop where
 val:∀(id:Nat) (ob:Ob),H[id]?=some ob->ob.kind=4->∃a cap,E.G id ob.rows.length=some (.slice a ob.rows.length cap)/\(cap=ob.rows.length\/∃b,a=some ⟨b,0,none⟩/\ob.rows.length<=cap)
 lZ:∀(id b:Nat) (ob:Ob),jc E H id b->H[id]?=some ob->∃cur cap,E.G id ob.rows.length=some (.slice (some ⟨b,0,none⟩) ob.rows.length cap)/\w.heap[b]?=some (.cells cur ob.ty (0,0))/\cur.size=cap*ob.sz
 sep:∀id b,jc E H id b->¬jM E H b
 inj:∀id id' b,jc E H id b->jc E H id' b->id=id'
 st:∀(id b:Nat) (ob:Ob) o u,jc E H id b->H[id]?=some ob->E.St b o=some u->o<ob.rows.length*ob.sz
 top:∀(id:Nat) (ob:Ob) (k:Nat) u,H[id]?=some ob->ob.kind=4->E.G id k=some u->k<=ob.rows.length
 nA:∀(id:Nat) (ob:Ob) (o:Obj) (t:List C),H[id]?=some ob->ob.kind=4->(ob.rows=[.rc o::t]/\ob.fz=1)->(w.heap[ob.ty]?=some o/\GB o=true)/\AQ E t o
 oJ:∀id id' b,xj H id b->xj H id' b->id=id'
def xc(H H':zo):Prop:=∀(id:Nat) (ob:Ob),ob.kind=4->(H'[id]?=some ob↔H[id]?=some ob)
def xc.refl(H:zo):xc H H:=λ_ _ _=>Iff.rfl
structure qL(w:World)(E:Env)(H:zo):Prop where
 base:qv w E H
 lF:Br w E H
def qL.n{w:World}{E:Env}{H:zo}(h:qL w E H):E.n=H.length:=h.base.n
def x8(E:Env)(H:zo)(b:Nat):Prop:=jM E H b\/∃id,(jc E H id b\/xj H id b)
structure Grow(w:World)(E:Env)(H:zo)(w':World)(E':Env)(H':zo):Prop where
 le:E.le E'
 os:w'.os=w.os
 tape:w'.tape=w.tape
 output:w'.output=w.output
 size:w.heap.size<=w'.heap.size
 frame:∀k,k<w.heap.size->¬x8 E H k->w'.heap[k]?=w.heap[k]?
 xv:∀b o u,E'.St b o=some u->E.St b o=some u\/w.heap.size<=b\/x8 E H b
 own:∀b,x8 E' H' b->w.heap.size<=b\/x8 E H b
def Grow.refl(w:World)(E:Env)(H:zo):Grow w E H w E H:=
 ⟨Env.le.refl E,rfl,rfl,rfl,pI _,λ_ _ _=>O,λ_ _ _ h=>.inl h,λ_ h=>.inr h⟩
def Grow.trans{w w1 w2:World}{E E1 E2:Env}{H H1 H2:zo}(g:Grow w E H w1 E1 H1)(h:Grow w1 E1 H1 w2 E2 H2):Grow w E H w2 E2 H2 where
 le:=g.le.trans h.le
 os:=h.os.trans g.os
 tape:=h.tape.trans g.tape
 output:=h.output.trans g.output
 size:=rB g.size h.size
 frame k hk ho:=(h.frame k (rU hk g.size) λhc=>(g.own k hc).elim (λhs=>by omega) ho).trans (g.frame k hk ho)
 xv b o u hu:=by
  rcases h.xv b o u hu with h1|h1|h1
  ·exact g.xv b o u h1
  ·exact .inr (.inl (rB g.size h1))
  ·rcases g.own b h1 with h2|h2
   ·exact .inr (.inl h2)
   ·exact .inr (.inr h2)
 own b hb:=by
  rcases h.own b hb with h1|h1
  ·exact .inl (rB g.size h1)
  ·exact g.own b h1
def jc.back{w:World}{E E':Env}{H H':zo}(hg:Br w E H)(hn:E.n=H.length)(hle:E.le E')(hk:xc H H'){id b:Nat}(h:jc E' H' id b):jc E H id b:=by
 obtain⟨ob,cap,h1,h2,h3,h4⟩:=h;have h1':=(hk id ob h2).1 h1;obtain⟨a,cap',e1,_⟩:=hg.val id ob h1' h2;have e2:=hle.G id ob.rows.length _ (by rw[hn];exact(gZ.1 h1').1) e1;rw[h3]at e2;cases e2
 exact⟨ob,cap,h1',h2,e1,h4⟩
def xj.back{H H':zo}(hk:xc H H'){id b:Nat}(h:xj H' id b):xj H id b:=by
 obtain⟨ob,r,t,h1,h2,h3⟩:=h;exact⟨ob,r,t,(hk id ob h2).1 h1,h2,h3⟩
def Br.step{w w':World}{E E':Env}{H H':zo}(h:qL w E H)(g:qW w E H w' E' H')(hk:xc H H'):Br w' E' H' where
 val id ob hob hkd:=by
  have hob':=(hk id ob hkd).1 hob;obtain⟨a,cap,e1,e2⟩:=h.lF.val id ob hob' hkd;exact⟨a,cap,g.le.G id ob.rows.length _ (by rw[h.n];exact(gZ.1 hob').1) e1,e2⟩
 lZ id b ob ho hob:=by
  have ho':=ho.back h.lF h.n g.le hk;obtain⟨ob2,_,e1,e2,_⟩:=ho;rw[hob]at e1;cases e1
  have hob':=(hk id ob e2).1 hob;obtain⟨cur,cap,e3,e4,e5⟩:=h.lF.lZ id b ob ho' hob';refine⟨cur,cap,g.le.G id ob.rows.length _ (by rw[h.n];exact(gZ.1 hob').1) e3,?_,e5⟩;rw[g.frame b (pU.1 e4).1 (h.lF.sep id b ho')];exact e4
 sep id b ho:=by
  have ho':=ho.back h.lF h.n g.le hk;intro hc;rcases g.own b hc with h1|h1
  ·obtain⟨ob,_,e1,_⟩:=ho';obtain⟨cur,cap,e3,e4,e5⟩:=h.lF.lZ id b ob (ho.back h.lF h.n g.le hk) e1;have:=(pU.1 e4).1;omega
  ·exact h.lF.sep id b ho' h1
 inj id id' b h1 h2:=h.lF.inj id id' b (h1.back h.lF h.n g.le hk) (h2.back h.lF h.n g.le hk)
 st id b ob o u ho hob hu:=by
  have ho':=ho.back h.lF h.n g.le hk;obtain⟨ob2,_,e1,e2,_⟩:=ho;rw[hob]at e1;cases e1
  have hob':=(hk id ob e2).1 hob;rcases g.xv b o u hu with h1|h1|h1
  ·exact h.lF.st id b ob o u ho' hob' h1
  ·obtain⟨cur,cap,e3,e4,e5⟩:=h.lF.lZ id b ob ho' hob';have:=(pU.1 e4).1;omega
  ·exact absurd h1 (h.lF.sep id b ho')
 top id ob k u hob hkd hu:=by
  have hob':=(hk id ob hkd).1 hob;rw[g.I3 id k (by rw[h.n];exact(gZ.1 hob').1)]at hu;exact h.lF.top id ob k u hob' hkd hu
 nA id ob r t hob hkd hr:=by
  obtain⟨⟨h1,hf⟩,hl⟩:=h.lF.nA id ob r t ((hk id ob hkd).1 hob) hkd hr;refine⟨⟨?_,hf⟩,hl.mono g.le⟩;rw[g.frame ob.ty (pU.1 h1).1 λhc=>by obtain⟨cur,e,h2⟩:=h.base.Iu hc;rw[h1]at h2;cases h2;cases hf];exact h1
 oJ id id' b h1 h2:=h.lF.oJ id id' b (h1.back hk) (h2.back hk)
def qW.up{w w':World}{E E':Env}{H H':zo}(h:qL w E H)(g:qW w E H w' E' H')(hk:xc H H'):Grow w E H w' E' H' where
 le:=g.le
 os:=g.os
 tape:=g.tape
 output:=g.output
 size:=g.size
 frame k h1 h2:=g.frame k h1 λhc=>h2 (.inl hc)
 xv b o u hu:=(g.xv b o u hu).imp_right λh=>h.imp_right .inl
 own b hb:=by
  rcases hb with hb|⟨id,hb|hb⟩
  ·exact(g.own b hb).imp_right .inl
  ·exact .inr (.inr ⟨id,.inl (hb.back h.lF h.n g.le hk)⟩)
  ·exact .inr (.inr ⟨id,.inr (hb.back hk)⟩)
abbrev Fh(D:Nat):Deferred:={target:=.collected D,args:= #[]}
def Marks(m:Nat)(w:World):List Deferred->Prop
 |[]=>m<=w.heap.size
 |d::ds=>(∃D,d=Fh D/\m<=D/\w.heap[D]?=some (.deferred (some []))/\Fh D∉ds)/\Marks m w ds
def Marks.mono{m:Nat}{w w':World}(hsz:w.heap.size<=w'.heap.size):∀{ds:List Deferred},Marks m w ds->(∀D,Fh D∈ds->w.heap[D]?=some (.deferred (some []))->w'.heap[D]?=w.heap[D]?)->Marks m w' ds
 |[],h,_=>rB h hsz
 |d::ds,⟨⟨D,h1,h2,h3,h4⟩,ht⟩,hk=>⟨⟨D,h1,h2,(hk D (by rw[h1];exact r7 ..) h3).trans h3,h4⟩,Marks.mono hsz ht λD' hm hd=>hk D' (r8 _ hm) hd⟩
def Marks.le{m:Nat}{w:World}:∀{ds:List Deferred},Marks m w ds->m<=w.heap.size
 |[],h=>h
 |_::_,⟨_,h⟩=>Marks.le h
def qL.free{w:World}{E:Env}{H:zo}{D:Nat}{ds:Option (List Deferred)}(h:qL w E H)(hd:w.heap[D]?=some (.deferred ds)):¬x8 E H D:=by
 rintro(ho|⟨id,⟨ob,cap,hob,h4,hG,hne⟩|⟨ob,r,t,hob,h4,hr,rfl⟩⟩)
 ·obtain⟨cur,e,h1⟩:=h.base.Iu ho;rw[hd]at h1;cases h1
 ·obtain⟨cur,cap',_,h1,_⟩:=h.lF.lZ id D ob ⟨ob,cap,hob,h4,hG,hne⟩ hob;rw[hd]at h1;cases h1
 ·obtain⟨h1,hf⟩:=(h.lF.nA id ob r t hob h4 hr).1;rw[hd]at h1;cases h1
  cases hf
def Marks.grow{m:Nat}{w w':World}{E E':Env}{H H':zo}{ds:List Deferred}(h:Marks m w ds)(hh:qL w E H)(g:Grow w E H w' E' H'):Marks m w' ds:=
 Marks.mono g.size h λD _ hD=>g.frame D (pU.1 hD).1 (hh.free hD)
def qL.cells{w w':World}{E:Env}{H:zo}(hk:∀(k:Nat) (o:Obj),w.heap[k]?=some o->(∀ds,o≠.deferred ds)->w'.heap[k]?=w.heap[k]?)(h:qL w E H):qL w' E H where
 base:={
  n:=h.base.n
  lZ:=λid ob hops sz rows e1 e2=>
   let b:=h.base.lZ id ob hops sz rows e1 e2
   ⟨b.len,b.row,let ⟨cur,e,h1,h2⟩:=b.lZ;⟨cur,e,(hk _ _ h1 (by simp)).trans h1,h2⟩⟩
  inj:=h.base.inj
  qJ:=λb o u hu=>by
   obtain⟨h1,h2⟩:=h.base.qJ b o u hu;refine⟨?_,h2⟩;unfold World.cell? at h1 ⊢;split at h1
   ·rename_i c t z hc;rw[hk _ _ hc (by simp),hc];exact h1
   ·cases h1
  sep:=h.base.sep
  ty:=λid ob e1 e2=>let ⟨cur,h1⟩:=h.base.ty id ob e1 e2;⟨cur,(hk _ _ h1 (by simp)).trans h1⟩
  fz:=h.base.fz}
 lF:={
  val:=h.lF.val
  lZ:=λid b ob e1 e2=>let ⟨cur,cap,h1,h2,h3⟩:=h.lF.lZ id b ob e1 e2;⟨cur,cap,h1,(hk _ _ h2 (by simp)).trans h2,h3⟩
  sep:=h.lF.sep
  inj:=h.lF.inj
  st:=h.lF.st
  top:=h.lF.top
  nA:=λid ob r t e1 e2 e3=>let h1:=h.lF.nA id ob r t e1 e2 e3;⟨⟨(hk _ _ h1.1.1 (by intro ds e;have:=h1.1.2;rw[e]at this;cases this)).trans h1.1.1,h1.1.2⟩,h1.2⟩
  oJ:=h.lF.oJ}
structure yS(B m:Nat)(w:World)(E:Env)(s:S)(a:Act):Prop where
 heap:qL w E s.H
 tmps:LL E s.tmps a.tmps.toList
 defers:Marks m w a.defers
 base:B<=s.H.length
structure Env.CV(B:Nat)(E E':Env):Prop where
 β:∀id hops,id<B->E'.β id hops=E.β id hops
 κ:∀id hops,id<B->E'.κ id hops=E.κ id hops
 St:∀b o u,E.St b o=some u->E'.St b o=some u
 G:∀id k u,id<B->E.G id k=some u->E'.G id k=some u
def Env.CV.refl(B:Nat)(E:Env):E.CV B E:=⟨λ_ _ _=>O,λ_ _ _=>O,λ_ _ _ h=>h,λ_ _ _ _ h=>h⟩
def Env.CV.trans{B:Nat}{E E' E'':Env}(h:E.CV B E')(h':E'.CV B E''):E.CV B E'':=
 ⟨λid hops hi=>(h'.β id hops hi).trans (h.β id hops hi),λid hops hi=>(h'.κ id hops hi).trans (h.κ id hops hi),λb o u hu=>h'.St b o u (h.St b o u hu),λid k u hi hu=>h'.G id k u hi (h.G id k u hi hu)⟩
def Env.le.nD{B:Nat}{E E':Env}(h:E.le E')(hB:B<=E.n):E.CV B E':=
 ⟨λid hops hi=>h.β id hops (rU hi hB),λid hops hi=>h.κ id hops (rU hi hB),h.St,λid k u hi=>h.G id k u (rU hi hB)⟩
structure xk(B:Nat)(w:World)(E:Env)(H:zo)(w':World)(E':Env)(H':zo):Prop where
 le:E.CV B E'
 os:w'.os=w.os
 tape:w'.tape=w.tape
 output:w'.output=w.output
 size:w.heap.size<=w'.heap.size
 frame:∀k,k<w.heap.size->¬x8 E H k->w'.heap[k]?=w.heap[k]?
 xv:∀b o u,E'.St b o=some u->E.St b o=some u\/w.heap.size<=b\/x8 E H b
 own:∀b,x8 E' H' b->w.heap.size<=b\/x8 E H b
def Grow.nD{B:Nat}{w w':World}{E E':Env}{H H':zo}(g:Grow w E H w' E' H')(hB:B<=E.n):xk B w E H w' E' H':=
 ⟨g.le.nD hB,g.os,g.tape,g.output,g.size,g.frame,g.xv,g.own⟩
def xk.refl(B:Nat)(w:World)(E:Env)(H:zo):xk B w E H w E H:=
 ⟨Env.CV.refl B E,rfl,rfl,rfl,pI _,λ_ _ _=>O,λ_ _ _ h=>.inl h,λ_ h=>.inr h⟩
def xk.trans{B:Nat}{w w1 w2:World}{E E1 E2:Env}{H H1 H2:zo}(g:xk B w E H w1 E1 H1)(h:xk B w1 E1 H1 w2 E2 H2):xk B w E H w2 E2 H2 where
 le:=g.le.trans h.le
 os:=h.os.trans g.os
 tape:=h.tape.trans g.tape
 output:=h.output.trans g.output
 size:=rB g.size h.size
 frame k hk ho:=(h.frame k (rU hk g.size) λhc=>(g.own k hc).elim (λhs=>by omega) ho).trans (g.frame k hk ho)
 xv b o u hu:=by
  rcases h.xv b o u hu with h1|h1|h1
  ·exact g.xv b o u h1
  ·exact .inr (.inl (rB g.size h1))
  ·rcases g.own b h1 with h2|h2
   ·exact .inr (.inl h2)
   ·exact .inr (.inr h2)
 own b hb:=by
  rcases h.own b hb with h1|h1
  ·exact .inl (rB g.size h1)
  ·exact g.own b h1
def fw(q:Option Nat):Fence:={Fence.wide with round:=q}
def yp:Code->Bool
 |.seq a b=>yp a || yp b
 |.cond _ a b=>yp a || yp b
 |.block _ a=>yp a
 |.loop a=>yp a
 |.scope a=>yp a
 |.rangeFunc ..=>true
 |_=>false
def jh(P:Program)(B:Nat)(c:Code)(s:S)(R:Exit->S->Prop):Prop:=
 ∀(q:Option Nat) (m:Nat) (w:World) (E:Env) (a:Act) (Q:Exit->Act->World->Prop),(yp c=true->q=none)->yS B m w E s a->
  (∀ex s' w' E' a',R ex s'->yS B m w' E' s' a'->xk B w E s.H w' E' s'.H->Q ex a' w')->c.wpIn (fw q) 0 P Q a w
abbrev Run(P:Program)(B:Nat)(c:Code)(s:S)(ex:Exit)(s':S):Prop:=jh P B c s λe t=>e=ex/\t=s'
def oY(P:Program)(B:Nat)(c:Code)(n:Nat)(s:S)(R:Exit->S->Prop):Prop:=
 ∀(q:Option Nat) (m:Nat) (w:World) (E:Env) (a:Act) (Q:Exit->Act->World->Prop),(yp c=true->q=none)->yS B m w E s a->
  (∀ex s' w' E' a',R ex s'->yS B m w' E' s' a'->xk B w E s.H w' E' s'.H->Q ex a' w')->Code.roundsIn (fw q) 0 P c Q n a w
def kA(P:Program)(B:Nat)(ops:Array Oper)(l:List Oper)(s:S)(R:S->Prop):Prop:=
 ∀(q:Option Nat) (m:Nat) (w:World) (E:Env) (a:Act) (Q:Exit->Act->World->Prop),yS B m w E s a->
  (∀s' w' E' a',R s'->yS B m w' E' s' a'->xk B w E s.H w' E' s'.H->Q .normal a' w')->wpListIn (fw q) 0 P ops Q l a w
def Cr(P:Program)(B:Nat)(o:Oper)(s:S)(R:S->Prop):Prop:=
 ∀(q:Option Nat) (m:Nat) (w:World) (E:Env) (a:Act) (K:Act->World->Prop) (Q:Exit->Act->World->Prop),yS B m w E s a->
  (∀s' w' E' a',R s'->yS B m w' E' s' a'->xk B w E s.H w' E' s'.H->K a' w')->o.wpIn (fw q) 0 P a w K Q
def zt(B:Nat)(s s':S):Prop:=
 ∀(m:Nat) (w:World) (E:Env) (a:Act),yS B m w E s a->∃E',yS B m w E' s' a/\xk B w E s.H w E' s'.H
def SP{F:Fence}{k:Nat}{P:Program}{c:Code}{Q:Exit->Act->World->Prop}:∀{n m:Nat},n<=m->∀{a:Act} {w:World},Code.roundsIn F k P c Q n a w->Code.roundsIn F k P c Q m a w
 |0,_,_,_,_,h=>(h:False).elim
 |n+1,0,hm,_,_,_=>absurd hm (Nat.not_succ_le_zero n)
 |n+1,m+1,hm,a,w,h=>by
  rw[roundsIn_succ]at h ⊢;refine wpIn_mono h λe a1 w1 h1=>?_
  cases e with
  |normal=>exact SP (Nat.le_of_succ_le_succ hm) h1
  |_=>exact h1
section scopes
variable {F:Fence} {n:Nat} {P:Program} {b:Frame} {a:Act} {k:List Item} {cs:List Frame} {w:World} {Q:Exit->Act->World->Prop}
def yV{c:Code}:step P (lone (b.atR a (.code (.scope c)::k)) cs w)=.next (lone (b.atR a (.code c:: .inScope c::k)) cs w):=
 step_lone_go (by simp[stepG,stepG.exec,Frame.atR])
def RN{c:Code}:step P (lone (b.atR a (.inScope c::k)) cs w)=.next (lone (b.atR a k) cs w):=
 step_lone_go (by simp[stepG,stepG.exec,Frame.atR])
def ze3{c:Code}(h:c.wpIn F n P (Exit.noGoto Q) a w):(Code.scope c).wpIn F n P Q a w:=by
 intro b k cs hro hb hr;have h0:(lone (b.atR a (.code (.scope c)::k)) cs w).fenced P F:=fenced_calm hb hr O;obtain⟨e,a₁,w₁,hq,harr⟩:=h b (.inScope c::k) cs hro hb hr;cases e with
 |normal=>exact⟨.normal,a₁,w₁,hq,.head h0 yV (StepsIn.trans harr (.one (fenced_calm hb hr O) RN))⟩
 |exit id=>
  have hx:exitTo id (.inScope c::k)=exitTo id k:=by simp[exitTo]
  exact⟨.exit id,a₁,w₁,hq,λk' hk=>.head h0 yV (harr.1 k' (by rw[hx];exact hk)),
   λhr' hk=>let ⟨k₁,h1,h2⟩:=harr.2 hr' (by rw[hx];exact hk);⟨k₁,h1,.head h0 yV h2⟩⟩
 |goto l=>exact hq.elim
 |ret=>exact⟨_,a₁,w₁,hq,.of_steps (.one h0 yV) harr⟩
 |panic ch=>exact⟨_,a₁,w₁,hq,.of_steps (.one h0 yV) harr⟩
 |outgrown=>exact⟨_,a₁,w₁,hq,.of_steps (.one h0 yV) harr⟩
inductive Iv(F:Fence)(n:Nat)(P:Program)(c:Code)(Q:Exit->Act->World->Prop):Nat->Act->World->Prop
 |mk {l:Nat} {a:Act} {w:World} {rest:Code} (Q':Exit->Act->World->Prop):findLabel c l=some rest->rest.wpIn F n P Q' a w->(∀e a w,Q' e a w->(∀l,e≠.goto l)->Q e a w)->
   (∀l a w,Q' (.goto l) a w->Iv F n P c Q l a w)->Iv F n P c Q l a w
def RC{c:Code}{m:Machine}{e:Exit}(hb:F.fn b.fn)(hr:F.room (cs.length+1+n))(he:∀l,e≠.goto l)(h:ArrivesIn (Machine.fenced P F) P m b (.inScope c::k) cs e a w):ArrivesIn (Machine.fenced P F) P m b k cs e a w:=by
 cases e with
 |normal=>exact StepsIn.trans h (.one (fenced_calm hb hr O) RN)
 |exit id=>
  have hx:exitTo id (.inScope c::k)=exitTo id k:=by simp[exitTo]
  exact⟨λk' hk=>h.1 k' (by rw[hx];exact hk),λhr' hk=>h.2 hr' (by rw[hx];exact hk)⟩
 |goto l=>exact absurd O (he l)
 |ret=>exact h
 |panic ch=>exact h
 |outgrown=>exact h
def zhV{c:Code}{Q':Exit->Act->World->Prop}(h:c.wpIn F n P Q' a w)(hQ:∀e a w,Q' e a w->(∀l,e≠.goto l)->Q e a w)(hJ:∀l a w,Q' (.goto l) a w->Iv F n P c Q l a w):(Code.scope c).wpIn F n P Q a w:=by
 intro b k cs hro hb hr;have h0:(lone (b.atR a (.code (.scope c)::k)) cs w).fenced P F:=fenced_calm hb hr O
 have key:∀l a w,Iv F n P c Q l a w->∀rest,findLabel c l=some rest->∃e a' w',Q e a' w'/\ArrivesIn (Machine.fenced P F) P (lone (b.atR a (.code rest:: .inScope c::k)) cs w) b k cs e a' w':=by
  intro l a w hj
  induction hj with
  |mk Q1 hf h1 h2 h3 ih=>
   intro rest hf';rw[hf]at hf';cases hf'
   obtain⟨e,a₁,w₁,hq,harr⟩:=h1 b (.inScope c::k) cs hro hb hr;by_cases he:∀l,e≠.goto l
   ·exact⟨e,a₁,w₁,h2 _ _ _ hq he,RC hb hr he harr⟩
   ·obtain⟨l',rfl⟩:∃l',e=.goto l':=by
     cases e with
     |goto l'=>exact⟨l',rfl⟩
     |_=>exact absurd (by simp) he
    have hj:=h3 _ _ _ hq;cases hj with
    |mk Q2 hf2 _ _ _=>
     obtain⟨e₂,a₂,w₂,hq₂,harr₂⟩:=ih _ _ _ hq _ hf2;exact⟨e₂,a₂,w₂,hq₂,.of_steps (harr.1 _ (by simp[gotoIn,hf2])) harr₂⟩
 obtain⟨e,a₁,w₁,hq,harr⟩:=h b (.inScope c::k) cs hro hb hr;by_cases he:∀l,e≠.goto l
 ·exact⟨e,a₁,w₁,hQ _ _ _ hq he,.of_steps (.one h0 yV) (RC hb hr he harr)⟩
 ·obtain⟨l',rfl⟩:∃l',e=.goto l':=by
   cases e with
   |goto l'=>exact⟨l',rfl⟩
   |_=>exact absurd (by simp) he
  have hj:=hJ _ _ _ hq;have hj':=hj;cases hj' with
  |mk Q2 hf2 _ _ _=>
   obtain⟨e₂,a₂,w₂,hq₂,harr₂⟩:=key _ _ _ hj _ hf2;exact⟨e₂,a₂,w₂,hq₂,.of_steps (.head h0 yV (harr.1 _ (by simp[gotoIn,hf2]))) harr₂⟩
end scopes
section
variable {P:Program} {B:Nat} {s s1 s2 s':S} {ex:Exit}
def zt.refl(s:S):zt B s s:=λm w E a h=>⟨E,h,xk.refl B w E s.H⟩
def zt.trans(h:zt B s s1)(h':zt B s1 s2):zt B s s2:=λm w E a hs=>by
 obtain⟨E1,h1,g1⟩:=h m w E a hs;obtain⟨E2,h2,g2⟩:=h' m w E1 a h1;exact⟨E2,h2,g1.trans g2⟩
variable {R R':Exit->S->Prop}
def jh.pre{c:Code}(hw:zt B s s1)(h:jh P B c s1 R):jh P B c s R:=λq m w E a Q hr hs hq=>by
 obtain⟨E1,h1,g1⟩:=hw m w E a hs;exact h q m w E1 a Q hr h1 λex s' w' E' a' hR h2 g2=>hq ex s' w' E' a' hR h2 (g1.trans g2)
def jh.post{c:Code}(h:jh P B c s R')(hw:∀ex s1,R' ex s1->∃s2,zt B s1 s2/\R ex s2):jh P B c s R:=λq m w E a Q hr hs hq=>
 h q m w E a Q hr hs λex s1 w' E' a' hR h1 g1=>by
  obtain⟨s2,hw2,hR2⟩:=hw ex s1 hR;obtain⟨E2,h2,g2⟩:=hw2 m w' E' a' h1;exact hq ex s2 w' E2 a' hR2 h2 (g1.trans g2)
def jh.mono{c:Code}(h:jh P B c s R')(hw:∀ex s1,R' ex s1->R ex s1):jh P B c s R:=h.post λex s1 hR=>⟨s1,.refl s1,hw ex s1 hR⟩
def oY.pre{c:Code}{n:Nat}(hw:zt B s s1)(h:oY P B c n s1 R):oY P B c n s R:=λq m w E a Q hr hs hq=>by
 obtain⟨E1,h1,g1⟩:=hw m w E a hs;exact h q m w E1 a Q hr h1 λex s' w' E' a' hR h2 g2=>hq ex s' w' E' a' hR h2 (g1.trans g2)
def jh.skip(h:R .normal s):jh P B .skip s R:=λq m w E a Q hr hs hq=>wpIn_skip (hq _ _ w E a h hs (xk.refl B w E s.H))
def jh.exit(id:Nat)(h:R (.exit id) s):jh P B (.exit id) s R:=λq m w E a Q hr hs hq=>wpIn_exit (hq _ _ w E a h hs (xk.refl B w E s.H))
def jh.label(l:Nat)(h:R .normal s):jh P B (.label l) s R:=λq m w E a Q hr hs hq=>wpIn_label (hq _ _ w E a h hs (xk.refl B w E s.H))
def jh.ret(h:R .ret s):jh P B .ret s R:=λq m w E a Q hr hs hq=>wpIn_ret (hq _ _ w E a h hs (xk.refl B w E s.H))
def Q7(next:S->Prop)(R:Exit->S->Prop):Exit->S->Prop
 |.normal,s=>next s
 |ex,s=>R ex s
def jh.seq{x y:Code}(h:jh P B x s (Q7 (λs1=>jh P B y s1 R) R)):jh P B (.seq x y) s R:=λq m w E a Q hr hs hq=>
 wpIn_seq (h q m w E a _ (λe=>hr (by simp[yp,e])) hs λex s1 w1 E1 a1 hR h1 g1=>by
  cases ex with
  |normal=>exact(hR:jh P B y s1 R) q m w1 E1 a1 Q (λe=>hr (by simp[yp,e])) h1 λex s2 w2 E2 a2 hR2 h2 g2=>hq ex s2 w2 E2 a2 hR2 h2 (g1.trans g2)
  |_=>exact hq _ s1 w1 E1 a1 hR h1 g1)
def Wr(id:Nat)(R:Exit->S->Prop):Exit->S->Prop
 |.exit id',s=>if id'=id then R .normal s else R (.exit id') s
 |ex,s=>R ex s
def jh.block{id:Nat}{c:Code}(h:jh P B c s (Wr id R)):jh P B (.block id c) s R:=λq m w E a Q hr hs hq=>
 wpIn_block (h q m w E a _ hr hs λex s1 w1 E1 a1 hR h1 g1=>by
  cases ex with
  |exit id'=>
   simp only[Exit.inBlock,Wr] at *;split
   ·rename_i hi;rw[pA hi]at hR;exact hq _ s1 w1 E1 a1 hR h1 g1
   ·rename_i hi;rw[pw hi]at hR;exact hq _ s1 w1 E1 a1 hR h1 g1
  |_=>exact hq _ s1 w1 E1 a1 hR h1 g1)
def zDa(R:Exit->S->Prop):Exit->S->Prop
 |.goto _,_=>False
 |ex,s=>R ex s
def jh.scope{c:Code}(h:jh P B c s (zDa R)):jh P B (.scope c) s R:=λq m w E a Q hr hs hq=>
 ze3 (h q m w E a _ hr hs λex s1 w1 E1 a1 hR h1 g1=>by
  cases ex with
  |goto l=>exact(hR:False).elim
  |_=>exact hq _ s1 w1 E1 a1 hR h1 g1)
def jh.goto(l:Nat)(h:R (.goto l) s):jh P B (.goto l) s R:=λq m w E a Q hr hs hq=>wpIn_goto (hq _ _ w E a h hs (xk.refl B w E s.H))
def zhs:∀{c:Code} {l:Nat} {rest:Code},findLabel c l=some rest->yp rest=true->yp c=true:=by
 intro c
 induction c with
 |seq x y ihx ihy=>
  intro l rest h hr;simp only[findLabel]at h;split at h
  ·rename_i r hx;cases h
   simp only[yp,sB]at hr ⊢;exact hr.imp (ihx hx) id
  ·simp only[yp,sB];exact .inr (ihy h hr)
 |label l'=>
  intro l rest h hr;simp only[findLabel]at h;split at h
  ·cases h;cases hr
  ·cases h
 |_=>intro l rest h;simp[findLabel]at h
inductive FF(P:Program)(B:Nat)(c:Code)(R:Exit->S->Prop):Nat->S->Prop
 |mk {l:Nat} {s:S} {rest:Code} (R':Exit->S->Prop):findLabel c l=some rest->jh P B rest s R'->(∀e s,R' e s->(∀l,e≠.goto l)->R e s)->(∀l s,R' (.goto l) s->FF P B c R l s)->FF P B c R l s
def FF.zEA{c:Code}{l:Nat}(h:FF P B c R l s):∀(q:Option Nat) (m:Nat) (w:World) (E:Env) (a:Act) (Q:Exit->Act->World->Prop),(yp c=true->q=none)->yS B m w E s a->
  (∀ex s' w' E' a',R ex s'->yS B m w' E' s' a'->xk B w E s.H w' E' s'.H->Q ex a' w')->Iv (fw q) 0 P c Q l a w:=by
 induction h with
 | @mk l s rest R1 hf h1 h2 h3 ih=>
  intro q m w E a Q hr hs hq
  refine .mk (λe a' w'=>∃s' E',R1 e s'/\yS B m w' E' s' a'/\xk B w E s.H w' E' s'.H) hf (h1 q m w E a _ (λe=>hr (zhs hf e)) hs λex s' w' E' a' hR h g=>⟨s',E',hR,h,g⟩)
   (λe a' w' ⟨s',E',hR,h,g⟩ he=>hq _ _ _ _ _ (h2 _ _ hR he) h g) (λl' a' w' ⟨s',E',hR,h,g⟩=>?_)
  exact ih _ _ hR q m w' E' a' Q hr h λex s2 w2 E2 a2 hR2 hs2 g2=>hq ex s2 w2 E2 a2 hR2 hs2 (g.trans g2)
def QU(P:Program)(B:Nat)(c:Code)(R:Exit->S->Prop):Exit->S->Prop
 |.goto l,s=>FF P B c R l s
 |ex,s=>R ex s
def jh.Y9{c:Code}(h:jh P B c s (QU P B c R)):jh P B (.scope c) s R:=λq m w E a Q hr hs hq=>
 zhV (Q':=λe a' w'=>∃s' E',QU P B c R e s'/\yS B m w' E' s' a'/\xk B w E s.H w' E' s'.H) (h q m w E a _ hr hs λex s' w' E' a' hR h g=>⟨s',E',hR,h,g⟩)
  (λe a' w' ⟨s',E',hR,h,g⟩ he=>by
   cases e with
   |goto l=>exact absurd O (he l)
   |_=>exact hq _ _ _ _ _ hR h g)
  (λl a' w' ⟨s',E',hR,h,g⟩=>FF.zEA hR q m w' E' a' Q hr h λex s2 w2 E2 a2 hR2 hs2 g2=>hq ex s2 w2 E2 a2 hR2 hs2 (g.trans g2))
def oY.step{c:Code}{n:Nat}(h:jh P B c s (Q7 (λs1=>oY P B c n s1 R) R)):oY P B c (n+1) s R:=λq m w E a Q hr hs hq=>by
 rw[roundsIn_succ]
 exact h q m w E a _ hr hs λex s1 w1 E1 a1 hR h1 g1=>by
  cases ex with
  |normal=>exact(hR:oY P B c n s1 R) q m w1 E1 a1 Q hr h1 λex s2 w2 E2 a2 hR2 h2 g2=>hq ex s2 w2 E2 a2 hR2 h2 (g1.trans g2)
  |_=>exact hq _ s1 w1 E1 a1 hR h1 g1
def oY.more{c:Code}{n m:Nat}(hm:n<=m){s:S}(h:oY P B c n s R):oY P B c m s R:=λq k w E a Q hr hs hq=>SP hm (h q k w E a Q hr hs hq)
def zW(P:Program)(B:Nat)(c:Code)(s:S)(R:Exit->S->Prop):Prop:=∃n,oY P B c n s R
def zW.pre{c:Code}(hw:zt B s s1)(h:zW P B c s1 R):zW P B c s R:=let ⟨n,hn⟩:=h;⟨n,.pre hw hn⟩
def jh.loop{c:Code}(h:zW P B c s R):jh P B (.loop c) s R:=λq m w E a Q hr hs hq=>let ⟨n,hn⟩:=h;wpIn_loop_rounds n (hn q m w E a Q hr hs hq)
def l8:Value->C
 |.slice none 0 0=>.lq 1 0 []
 |.func (.func f) first caps=>if first.size=0/\caps.size=0 then .fn f [] [] else .za
 |.tuple vs=>if vs.size=0 then .un else .za
 |.agg _=>.za
 |x=>.v x
def Q4(E:Env)(x:Value):L E (l8 x) x:=by
 unfold l8;split
 ·exact .xR _ _ (.inr O)
 ·rename_i f first caps;split
  ·rename_i h;obtain⟨h1,h2⟩:=h;obtain rfl:first= #[]:=sZ h1;obtain rfl:caps= #[]:=sZ h2;exact .fn f [] [] #[] #[] O O (by simp) (by simp)
  ·exact .za _
 ·rename_i vs;split
  ·rename_i h;obtain rfl:vs= #[]:=sZ h;exact .un
  ·exact .za _
 ·exact .za _
 ·rename_i h1 h2;refine .v _ ?_;cases x <;> simp_all[Value.oneCell']
def ev(tmps:List C):Operand->C
 |.tmp t=>(tmps[t]?).getD .za
 |.const v=>l8 v
 |.global g=>.v (.pointer (some ⟨g,0,none⟩))
 |.func f=>.fn f [] []
def Jj{E:Env}{tmps:List C}{a:Act}(h:LL E tmps a.tmps.toList)(x:Operand):L E (ev tmps x) (a.eval x):=by
 cases x with
 |tmp t=>
  simp only[ev,Act.eval];cases ht:tmps[t]? with
  |none=>exact .za _
  |some c=>
   obtain⟨y,hy,hl⟩:=h.get ht
   have:a.tmps.getD t undef=y:=by
    rw[rG]at hy;rw[rV,hy];rfl
   rw[this];exact hl
 |const v=>exact Q4 E v
 |global g=>exact .v _ O
 |func f=>exact .fn f [] [] #[] #[] O O (by simp) (by simp)
def GN(ops:Array Oper)(tmps:List C)(j:Nat):Option (Option Bool):=
 match (ops[j]?).bind (·.dst) with
 |none=>some none
 |some d=>match tmps[d]? with
  |none=>some none
  |some (.v (.bool b))=>some (some b)
  |some .un=>some none
  |_=>none
def TL{E:Env}{ops:Array Oper}{tmps:List C}{a:Act}(h:LL E tmps a.tmps.toList){j:Nat}{r:Option Bool}(hr:GN ops tmps j=some r):yielded ops a.tmps j=r:=by
 unfold GN at hr;unfold yielded;cases hd:(ops[j]?).bind (·.dst) with
 |none=>simp only[hd]at hr;cases hr;rfl
 |some d=>
  simp only[hd,rh]at hr ⊢;cases ht:tmps[d]? with
  |none=>
   simp only[ht]at hr;cases hr
   have hn:a.tmps[d]?=none:=by
    rw[Array.getElem?_eq_none_iff];have:=rH.1 ht;have h1:=h.1;simp at h1;omega
   rw[hn]
  |some c=>
   simp only[ht]at hr;obtain⟨y,hy,hl⟩:=h.get ht;rw[rG]at hy;rw[hy];split at hr
   ·rename_i e;cases e
   ·rename_i e;cases e;cases hr;cases hl;rfl
   ·rename_i e;cases e;cases hr;cases hl;rfl
   ·cases hr
def jN(ops:Array Oper)(tmps:List C)(o:Oper):Option Bool:=
 match o.guard with
 |none=>some true
 |some (j,want)=>match GN ops tmps j with
  |some (some b)=>some (b == want)
  |some none=>some false
  |none=>none
def xA{E:Env}{ops:Array Oper}{tmps:List C}{a:Act}(h:LL E tmps a.tmps.toList){o:Oper}{b:Bool}(hb:jN ops tmps o=some b):
  Region.wanted o (yielded ops a.tmps)=b:=by
 unfold jN at hb;unfold Region.wanted;split at hb
 ·rename_i hg;simp only[hg];cases hb;rfl
 ·rename_i j want hg;simp only[hg];split at hb
  ·rename_i x hx;rw[TL h hx];cases hb;cases x <;> cases want <;> rfl
  ·rename_i hx;rw[TL h hx];cases hb;rfl
  ·cases hb
def put(tmps:List C)(dst:Option Tmp)(c:C):List C:=
 match dst with
 |some d=>tmps.set d c
 |none=>tmps
def Lk{E:Env}{tmps:List C}{a:Act}(h:LL E tmps a.tmps.toList){c:C}{y:Value}(hl:L E c y)(dst:Option Tmp):LL E (put tmps dst c) (a.put dst y).tmps.toList:=by
 cases dst with
 |none=>exact h
 |some d=>simpa [put,Act.put] using h.set hl d
def yS.put{m:Nat}{w:World}{E:Env}{s:S}{a:Act}(h:yS B m w E s a){c:C}{y:Value}(hl:L E c y)(dst:Option Tmp):
  yS B m w E ⟨Ab.put s.tmps dst c,s.H⟩ (a.put dst y):=
 ⟨h.heap,Lk h.tmps hl dst,by cases dst <;> exact h.defers,h.base⟩
def kA.nil{ops:Array Oper}{R:S->Prop}(h:R s):kA P B ops [] s R:=λq m w E a Q hs hq=>wpListIn_nil (hq s w E a h hs (xk.refl B w E s.H))
def kA.run{ops:Array Oper}{o:Oper}{l:List Oper}{R1 R:S->Prop}(hw:jN ops s.tmps o=some true)(h:Cr P B o s R1)(h':∀s1,R1 s1->kA P B ops l s1 R):kA P B ops (o::l) s R:=λq m w E a Q hs hq=>by
 unfold wpListIn;rw[pA (xA hs.tmps hw)];exact h q m w E a _ Q hs λs1 w1 E1 a1 hR h1 g1=>h' s1 hR q m w1 E1 a1 Q h1 λs2 w2 E2 a2 hR2 h2 g2=>hq s2 w2 E2 a2 hR2 h2 (g1.trans g2)
def kA.pass{ops:Array Oper}{o:Oper}{l:List Oper}{R:S->Prop}(hw:jN ops s.tmps o=some false)(h':kA P B ops l ⟨put s.tmps o.dst .un,s.H⟩ R):kA P B ops (o::l) s R:=λq m w E a Q hs hq=>by
 unfold wpListIn;rw[pw (by rw[xA hs.tmps hw];decide)];exact⟨λ_ _=>trivial,h' q m w E _ Q (hs.put (.un) o.dst) hq⟩
def jh.region{id:Nat}{ops:Array Oper}{R:Exit->S->Prop}(h:kA P B ops ops.toList s (R .normal)):jh P B (.region id ops false) s R:=λq m w E a Q hs0 hs hq=>
 wpIn_region_list (h q m w E a Q hs λs' w' E' a' hR h1 g1=>hq _ s' w' E' a' hR h1 g1)
def jh.cond{c:Operand}{x y:Code}{b:Bool}{R:Exit->S->Prop}(hc:ev s.tmps c=.v (.bool b))(h:jh P B (if b then x else y) s R):jh P B (.cond c x y) s R:=λq m w E a Q hr hs hq=>by
 have:=Jj hs.tmps c;rw[hc]at this;have hb:a.eval c=.bool b:=by generalize a.eval c=z at *;cases this;rfl
 exact wpIn_cond hb (h q m w E a Q (λe=>hr (by cases b <;> simp_all[yp])) hs hq)
end
def BV(P:Program)(K:Value->World->Prop):Result Next->Prop
 |.ok (.value v) w=>K v w
 |.ok .skip w=>K undef w
 |.ok (.enter f args) w=>Calls P f args w λe w'=>∃v,e=.returned v/\K v w'
 |.ok (.round l f tmps assign body) w=>RoundIn (fw none) 0 P l f tmps assign body w λe w'=>∃v,e=.returned v/\K v w'
 |_=>False
def lS(P:Program)(o:Oper)(ρ:Operand->C)(H:zo)(c:C)(H':zo):Prop:=
 ∀(w:World) (E:Env) (σ:Operand->Value),qL w E H->(∀x∈o.op.operands,L E (ρ x) (σ x))->
  ∀K:Value->World->Prop,(∀v w' E',qL w' E' H'->L E' c v->Grow w E H w' E' H'->K v w')->BV P K ((execOp σ o).run P w)
def jg(P:Program)(o:Oper)(ρ:Operand->C)(H:zo)(c:C)(H':zo):Prop:=
 ∀(w:World) (E:Env) (σ:Operand->Value),qv w E H->(∀x∈o.op.operands,L E (ρ x) (σ x))->
  ∀K:Value->World->Prop,(∀v w' E',qv w' E' H'->L E' c v->qW w E H w' E' H'->K v w')->BV P K ((execOp σ o).run P w)
def BF(P:Program)(o:Oper)(ρ:Operand->C)(H:zo)(c:C)(H':zo):Prop:=
 ∀(w:World) (E:Env) (σ:Operand->Value),qL w E H->(∀x∈o.op.operands,L E (ρ x) (σ x))->(∀v,σ (.const v)=v)->
  ∀K:Value->World->Prop,(∀v w' E',qL w' E' H'->L E' c v->Grow w E H w' E' H'->K v w')->BV P K ((execOp σ o).run P w)
def jq(P:Program)(o:Oper)(ρ:Operand->C)(H:zo)(R:C->zo->Prop):Prop:=
 ∀(w:World) (E:Env) (σ:Operand->Value),qL w E H->(∀x∈o.op.operands,L E (ρ x) (σ x))->(∀v,σ (.const v)=v)->
  ∀K:Value->World->Prop,(∀c H' v w' E',R c H'->qL w' E' H'->L E' c v->Grow w E H w' E' H'->K v w')->BV P K ((execOp σ o).run P w)
def BF.nO{P:Program}{o:Oper}{ρ:Operand->C}{H H':zo}{c:C}{R:C->zo->Prop}(h:BF P o ρ H c H')(hR:R c H'):jq P o ρ H R:=λw E σ hh hl hc K hk=>h w E σ hh hl hc K λv w' E'=>hk c H' v w' E' hR
def lS.nO{P:Program}{o:Oper}{ρ:Operand->C}{H H':zo}{c:C}{R:C->zo->Prop}(h:lS P o ρ H c H')(hR:R c H'):jq P o ρ H R:=λw E σ hh hl _ K hk=>h w E σ hh hl K λv w' E'=>hk c H' v w' E' hR
def Cr.Fv{P:Program}{B:Nat}{o:Oper}{s:S}{R:C->zo->Prop}(h:jq P o (ev s.tmps) s.H R):Cr P B o s (λs'=>∃c H',R c H'/\s'=⟨put s.tmps o.dst c,H'⟩):=λq m w E a K Q hs hk=>by
 have:=h w E a.eval hs.heap (λx _=>Jj hs.tmps x) (λ_=>O) (λv w'=>K (a.put o.dst v) w') λc H' v w' E' hR h1 h2 g=>
  hk _ w' E' _ ⟨c,H',hR,rfl⟩ ⟨h1,Lk (hs.tmps.mono g.le) h2 o.dst,by have:=hs.defers.grow hs.heap g;cases o.dst <;> exact this,by have:=g.le.n;rw[hs.heap.n,h1.n]at this;exact rB hs.base this⟩ (g.nD (by rw[hs.heap.n];exact hs.base))
 have m8:∀d,o.op≠.defer d:=λd hd=>by
  have h2:=this;unfold execOp at h2;simp only[hd,Sem.run_bind]at h2;cases hr:(resolve a.eval d o.type).run P w with
  |ok x w1=>simp[hr,Result.andThen,BV]at h2
  |halt x w1=>simp[hr,Result.andThen,BV]at h2
 unfold Oper.wpIn;refine⟨λ_ _=>trivial,?_⟩;rw[Oper.semAt_eq _ _ _ m8];generalize (execOp a.eval o).run P w=r at this ⊢;unfold BV at this;split at this
 ·exact this
 ·exact this
 ·rw[Oper.uponIn_enter];refine⟨λh=>(by cases h),callsIn_wide.2 (Calls.mono this ?_)⟩;rintro e w' ⟨v,rfl,hv⟩;exact hv
 ·rw[Oper.uponIn_round];refine⟨λh=>(by cases h),RoundIn.mono (F:=fw q) this ?_⟩;rintro e w' ⟨v,rfl,hv⟩;exact hv
 ·exact this.elim
def Cr.Lj{P:Program}{B:Nat}{o:Oper}{s:S}{c:C}{H':zo}(h:lS P o (ev s.tmps) s.H c H')(q:Option Nat)(m:Nat)(w:World)(E:Env)(a:Act)(K:Act->World->Prop)(Q:Exit->Act->World->Prop)(hs:yS B m w E s a)
 (hq:∀w' E' a',yS B m w' E' ⟨put s.tmps o.dst c,H'⟩ a'->xk B w E s.H w' E' H'->K a' w'):o.wpIn (fw q) 0 P a w K Q:=
 Cr.Fv (B:=B) (h.nO (R:=λx X=>x=c/\X=H') ⟨rfl,rfl⟩) q m w E a K Q hs λs' w' E' a' ⟨x,X,⟨e1,e2⟩,e3⟩ h1 g1=>by subst e1 e2 e3;exact hq w' E' a' h1 g1
def lS.congr{P:Program}{o:Oper}{ρ ρ':Operand->C}{H H':zo}{c:C}(h:lS P o ρ H c H')(he:∀x∈o.op.operands,ρ' x=ρ x):lS P o ρ' H c H':=
 λw E σ hh hl K hk=>h w E σ hh (λx hx=>he x hx ▸ hl x hx) K hk
def jg.congr{P:Program}{o:Oper}{ρ ρ':Operand->C}{H H':zo}{c:C}(h:jg P o ρ H c H')(he:∀x∈o.op.operands,ρ' x=ρ x):jg P o ρ' H c H':=
 λw E σ hh hl K hk=>h w E σ hh (λx hx=>he x hx ▸ hl x hx) K hk
def lS.Dr{P:Program}{o:Oper}{ρ:Operand->C}{H H':zo}{c:C}(h:jg P o ρ H c H')(hk:xc H H'):lS P o ρ H c H':=λw E σ hh hl K hK=>
 h w E σ hh.base hl K λv w' E' h1 h2 g=>hK v w' E' ⟨h1,Br.step hh g hk⟩ h2 (g.up hh hk)
def lS.same{P:Program}{o:Oper}{ρ:Operand->C}{H:zo}{c:C}(h:jg P o ρ H c H):lS P o ρ H c H:=.Dr h (xc.refl H)
def xc.push(H:zo)(ob:Ob)(hk:ob.kind≠4):xc H (H++[ob]):=λid ob' h4=>by
 by_cases lu:id<H.length
 ·rw[pD lu]
 ·rw[pT (by omega),rT (l:=H) (by omega)];constructor
  ·intro h;cases hd:id-H.length with
   |zero=>rw[hd]at h;cases h;exact absurd h4 hk
   |succ n=>rw[hd]at h;simp at h
  ·intro h;cases h
def xc.modify(H:zo)(id:Nat)(f:Ob->Ob)(hf:∀ob,H[id]?=some ob->ob.kind≠4/\(f ob).kind≠4):xc H (H.modify id f):=λid' ob' h4=>by
 rw[sa];by_cases he:id=id'
 ·subst he;cases hx:H[id]? with
  |none=>simp
  |some ob=>
   obtain⟨h1,h2⟩:=hf ob hx;simp only[uj,pM,if_true];constructor
   ·intro h;cases h;exact absurd h4 h2
   ·intro h;cases h;exact absurd h4 h1
 ·cases hx:H[id']? with
  |none=>simp
  |some ob=>simp[he]
def xc.trans{H H' H'':zo}(h:xc H H')(h':xc H' H''):xc H H'':=λid ob h4=>(h' id ob h4).trans (h id ob h4)
def AA(P:Program){α:Type}:Sem α->Option α
 |.pure a=>some a
 |.program k=>AA P (k P)
 |_=>none
def zyO{P:Program}{α:Type}(e:Sem α){a:α}(h:AA P e=some a)(w:World):e.run P w=.ok a w:=by
 induction e with
 |pure a'=>simp only[AA,p9]at h;subst h;rfl
 |program k ih=>simp only[AA]at h;exact ih P h
 |_=>simp[AA]at h
def DR:C->Value
 |.v x=>x
 |_=>undef
def mq:C->Bool
 |.v _=>true
 |_=>false
def yJ(o:Oper):Bool:=match o.op with|.select ..=>false|_=>true
def jg.scalar{P:Program}{o:Oper}{ρ:Operand->C}{H:zo}{v:Value}(hs:yJ o=true)(hv:o.op.operands.all (λx=>mq (ρ x))=true)
 (hr:AA P (execOp (λx=>DR (ρ x)) o)=some (.value v))(h1:v.oneCell'=true):jg P o ρ H (.v v) H:=λw E σ hh hl K hk=>by
 have he:execOp σ o=execOp (λx=>DR (ρ x)) o:=execOp_congr o (λcs b hc=>by simp[yJ,hc]at hs) λx hx=>by
  have h1:mq (ρ x)=true:=by
   have:=Array.all_eq_true_iff_forall_mem.1 hv x hx;simpa using this
  have h2:=hl x hx;cases hc:ρ x with
  |v y=>rw[hc]at h2;cases h2;rfl
  |_=>rw[hc]at h1;cases h1
 rw[he,zyO _ hr w];exact hk v w E hh (.v v h1) (qW.refl w E H)
def SZ{w:World}{o:Obj}{b off:Nat}(h:b<w.heap.size):(w.alloc o).cell? ⟨b,off,none⟩=w.cell? ⟨b,off,none⟩:=
 World.cell?_alloc_lt _ _ _ h
def GJ{w:World}{b off:Nat}{u:Value}(h:w.cell? ⟨b,off,none⟩=some u):b<w.heap.size:=World.block_lt_of_cell? w _ h
def Env.push(E:Env)(g κ:Nat):Env:=
 {n:=E.n+1,β:=λid hops=>if id=E.n then g else E.β id hops,κ:=λid hops=>if id=E.n then κ else E.κ id hops,St:=E.St,G:=E.G}
def Env.OQ(E:Env)(g κ:Nat):E.le (E.push g κ):=
 ⟨sH _,λid hops h=>by simp[Env.push,fx h],λid hops h=>by simp[Env.push,fx h],λb o u h=>h,λ_ _ _ _ h=>h⟩
def zB:C->Bool
 |.lq 2 _ _=>false
 |_=>true
def jx.loose{E:Env}{kd id:Nat}{hops:List mP}{i k:Nat}{c:C}{u:Value}(hn:zB c=true):jx E kd id hops i k c u↔L (E.at kd) c u/\u.oneCell'=true:=by
 unfold jx;split
 ·simp[zB]at hn
 ·rfl
def jx.mono{E E':Env}(h:E.le E'){kd id:Nat}(hid:id<E.n){hops:List mP}{i k:Nat}{c:C}{u:Value}(hc:jx E kd id hops i k c u):jx E' kd id hops i k c u:=by
 unfold jx at *;split at hc
 ·rw[h.β id _ hid,h.κ id _ hid];exact hc
 ·exact⟨hc.1.mono (h.at kd),hc.2⟩
def Fo{H:zo}{id:Nat}{hops:List mP}{x:Nat×List (List C)}(h:qm H id hops=some x):id<H.length:=by
 unfold qm at h;split at h
 ·rename_i ob ho;exact(gZ.1 ho).1
 ·cases h
def jP{H:zo}{id:Nat}{hops:List mP}{x:Nat×List (List C)}(h:qm H id hops=some x):∃ob,H[id]?=some ob/\(ob.kind=1\/ob.kind=2)/\wz ob.sz ob.rows hops=some x:=by
 unfold qm at h;split at h
 ·rename_i ob ho;split at h
  ·rename_i hk;exact⟨ob,ho,hk,h⟩
  ·cases h
 ·cases h
def qv.lt{w:World}{E:Env}{H:zo}(h:qv w E H){id:Nat}{hops:List mP}{x:Nat×List (List C)}(hx:qm H id hops=some x):E.β id hops<w.heap.size:=by
 obtain⟨ob,ho,_,_⟩:=jP hx;obtain⟨cur,e,hg,_⟩:=(h.lZ id ob hops x.1 x.2 ho (by simpa using hx)).lZ;exact(pU.1 hg).1
def HL{H:zo}{id:Nat}{hops:List mP}(h:id<H.length)(X:zo):qm (H++X) id hops=qm H id hops:=by
 unfold qm;rw[pD h]
def GS.OX{w:World}{E:Env}{kd id:Nat}{hops:List mP}{sz:Nat}{rows:List (List C)}(h:GS w E kd id hops sz rows):E.β id hops<w.heap.size:=by
 obtain⟨cur,e,hg,_⟩:=h.lZ;exact(pU.1 hg).1
def GS.step{w w':World}{E E':Env}(hle:E.le E'){kd id:Nat}(hid:id<E.n){hops:List mP}{sz:Nat}{rows:List (List C)}(h:GS w E kd id hops sz rows)
 (hh:w'.heap[E.β id hops]?=w.heap[E.β id hops]?):GS w' E' kd id hops sz rows:=by
 obtain⟨cur,e,hg,hsz,hc⟩:=h.lZ;refine⟨by rw[hle.κ id hops hid];exact h.len,h.row,cur,e,by rw[hle.β id hops hid,hh];exact hg,by rw[hle.κ id hops hid];exact hsz,?_⟩;intro i k c hcc;obtain⟨u,hu,ho⟩:=hc i k c hcc;exact⟨u,hu,ho.mono hle hid⟩
def F8{sz:Nat}{rows:List (List C)}(hn:∀i k c,cellAt rows i k=some c->zB c=true){hops:List mP}{x:Nat×List (List C)}(h:wz sz rows hops=some x):hops=[]/\x=(sz,rows):=by
 cases hops with
 |nil=>simp[wz]at h;exact⟨rfl,h.symm⟩
 |cons hd tl=>
  obtain⟨i,k⟩:=hd;simp only[wz]at h;split at h
  ·rename_i h1;have:=hn _ _ _ h1;simp[zB]at this
  ·cases h
def qv.push{w:World}{E:Env}{H:zo}(h:qv w E H)(kind:Nat)(ty:TypeId)(sz κ:Nat)(rows:List (List C))(cur:Array Value)(hk:kind=1\/kind=2)(hrow:∀r∈rows,r.length=sz)
 (hlen:rows.length<=κ)(hcur:cur.size=κ*sz)(hn:∀i k c,cellAt rows i k=some c->zB c=true)
 (hc:∀i k c,cellAt rows i k=some c->∃u,cur[i*sz+k]?=some u/\L (E.at kind) c u/\u.oneCell'=true):
  qv (w.alloc (.cells cur ty)) (E.push w.heap.size κ) (H++[⟨kind,ty,sz,rows,0⟩])/\qW w E H (w.alloc (.cells cur ty)) (E.push w.heap.size κ) (H++[⟨kind,ty,sz,rows,0⟩]):=by
 have hle:=E.OQ w.heap.size κ
 have get:∀id hops x,qm (H++[⟨kind,ty,sz,rows,0⟩]) id hops=some x->(id<H.length/\qm H id hops=some x)\/(id=H.length/\hops=[]/\x=(sz,rows)):=by
  intro id hops x hx;by_cases lu:id<H.length
  ·exact .inl ⟨lu,by rw[HL lu]at hx;exact hx⟩
  ·have h1:=Fo hx;simp at h1;have:id=H.length:=by omega
   subst this;simp only[qm,pT (pI _),sY,ij]at hx;rw[pA hk]at hx;obtain⟨e1,e2⟩:=F8 hn hx;exact .inr ⟨rfl,e1,e2⟩
 have hnew:∀hops,(E.push w.heap.size κ).β H.length hops=w.heap.size:=λhops=>by simp[Env.push,h.n]
 have hold:∀id hops,id<H.length->(E.push w.heap.size κ).β id hops=E.β id hops:=λid hops lu=>hle.β id hops (by rw[h.n];exact lu)
 refine⟨⟨by simp[Env.push,h.n],?_,?_,?_,?_,?_,?_⟩,⟨hle,λ_ _ _=>O,rfl,rfl,rfl,by show _<=(w.heap.push _).size;simp,?_,?_,?_⟩⟩
 ·intro id ob hops sz' rows' hob hx;rcases get id hops _ hx with⟨lu,hx'⟩|⟨rfl,rfl,hx'⟩
  ·rw[pD lu]at hob;have hb:=h.lZ id ob hops sz' rows' hob hx';exact hb.step hle (by rw[h.n];exact lu) (heap_alloc_old w _ hb.OX)
  ·cases hx'
   simp at hob;subst hob;refine⟨by simp[Env.push,h.n,hlen],hrow,cur,ty,by rw[hnew];exact heap_alloc_new w _,by simp[Env.push,h.n,hcur],?_⟩;intro i k c hcc;obtain⟨u,hu,hl,ho⟩:=hc i k c hcc;exact⟨u,hu,(jx.loose (hn i k c hcc)).2 ⟨hl.mono (hle.at kind),ho⟩⟩
 ·intro id hops id' hops' x y hx hy he;rcases get id hops _ hx with⟨lu,hx'⟩|⟨rfl,rfl,hx'⟩ <;> rcases get id' hops' _ hy with⟨hlt',hy'⟩|⟨rfl,rfl,hy'⟩
  ·rw[hold id hops lu,hold id' hops' hlt']at he;exact h.inj id hops id' hops' x y hx' hy' he
  ·rw[hold id hops lu,hnew]at he;have:=h.lt hx';omega
  ·rw[hold id' hops' hlt',hnew]at he;have:=h.lt hy';omega
  ·exact⟨rfl,rfl⟩
 ·intro b o u hu;have hs:=h.qJ b o u hu;rw[SZ (GJ hs.1)];exact hs
 ·intro id hops x o u hx hu;rcases get id hops _ hx with⟨lu,hx'⟩|⟨rfl,rfl,hx'⟩
  ·rw[hold id hops lu]at hu;obtain⟨e1,ob,e2,e3⟩:=h.sep id hops x o u hx' hu;exact⟨e1,ob,by rw[pD lu];exact e2,e3⟩
  ·rw[hnew]at hu;have:=GJ (h.qJ _ _ _ hu).1;omega
 ·intro id ob hob hkd;by_cases lu:id<H.length
  ·rw[pD lu]at hob;obtain⟨cur',hc'⟩:=h.ty id ob hob hkd;refine⟨cur',?_⟩;rw[hold id [] lu,heap_alloc_old w _ (pU.1 hc').1];exact hc'
  ·have h1:=(gZ.1 hob).1;simp at h1;have:id=H.length:=by omega
   subst this;simp at hob;subst hob;exact⟨cur,by rw[hnew];exact heap_alloc_new w _⟩
 ·intro id ob hob;by_cases lu:id<H.length
  ·rw[pD lu]at hob;exact h.fz id ob hob
  ·have h1:=(gZ.1 hob).1;simp at h1;have:id=H.length:=by omega
   subst this;simp at hob;subst hob;exact rk _
 ·intro k hk' ho;exact heap_alloc_old w _ hk'
 ·intro b o u hu;exact .inl hu
 ·rintro b ⟨id,hops,x,hx,rfl⟩;rcases get id hops _ hx with⟨lu,hx'⟩|⟨rfl,rfl,hx'⟩
  ·exact .inr ⟨id,hops,x,hx',by rw[hold id hops lu]⟩
  ·exact .inl (by rw[hnew];exact pI _)
section
variable {P:Program} {o:Oper} {ρ:Operand->C} {H:zo}
def jZ{t:TypeId}{i:TypeInfo}(h:P.info? t=some i)(w:World):(sizeOf t).run P w=.ok i.size w:=by
 simp[sizeOf,typeInfo,h]
def yM{t:TypeId}{i:TypeInfo}{z:Value}(h:P.info? t=some i)(hz:i.zero=some z)(w:World):(zeroValue t).run P w=.ok z w:=by
 simp[zeroValue,typeInfo,h,hz]
def jg.move(x:Operand)(ho:o.op=.move x\/o.op=.assign x):jg P o ρ H (ρ x) H:=λw E σ hh hl K hk=>by
 have h1:(execOp σ o).run P w=.ok (.value (σ x)) w:=by
  unfold execOp;rcases ho with ho|ho <;> simp only[ho] <;> rfl
 rw[h1];exact hk _ w E hh (hl x (by rcases ho with ho|ho <;> simp[ho,Op.operands])) (qW.refl w E H)
def jg.pick(x y z:Operand)(ho:o.op=.pick x y z)(b:Bool)(hb:ρ x=.v (.bool b)):jg P o ρ H (if b then ρ y else ρ z) H:=λw E σ hh hl K hk=>by
 have h0:=hl x (by simp[ho,Op.operands]);rw[hb]at h0;have hx:σ x=.bool b:=by generalize σ x=u at *;cases h0;rfl
 have h1:(execOp σ o).run P w=.ok (.value (if b then σ y else σ z)) w:=by
  unfold execOp;simp only[ho,hx];cases b <;> rfl
 rw[h1];refine hk _ w E hh ?_ (qW.refl w E H);cases b
 ·exact hl z (by simp[ho,Op.operands])
 ·exact hl y (by simp[ho,Op.operands])
def kD{cs:List C}{i k:Nat}{c:C}:cellAt [cs] i k=some c↔i=0/\cs[k]?=some c:=by
 unfold cellAt;cases i <;> simp
def qv.VD{w:World}{E:Env}(h:qv w E H)(ty:TypeId)(cs:List C)(ys:Array Value)(hl:LL E cs ys.toList)(hn:cs.all zB=true)(h1:∀y∈ys,y.oneCell'=true):
  qv (w.alloc (.cells ys ty)) (E.push w.heap.size 1) (H++[⟨1,ty,cs.length,[cs],0⟩])/\qW w E H (w.alloc (.cells ys ty)) (E.push w.heap.size 1) (H++[⟨1,ty,cs.length,[cs],0⟩]):=by
 refine h.push 1 ty cs.length 1 [cs] ys (.inl O) (by simp) (by simp) (by have:=hl.1;simp at this;omega) ?_ ?_
 ·intro i k c hc;obtain⟨_,hc⟩:=kD.1 hc;exact pH.1 hn c (pq hc)
 ·intro i k c hc;obtain⟨rfl,hc⟩:=kD.1 hc;obtain⟨y,hy,hly⟩:=hl.get hc;refine⟨y,by simpa using hy,by simpa [Env.at] using hly,h1 y ?_⟩;have:=pq hy;simpa using this
def Bx(P:Program)(t:TypeId):Option (List C):=
 match P.info? t with
 |some i=>match i.zero with
  |some z=>if z.cells.toList.all (·.oneCell') && (z.cells.size == i.size) then some (z.cells.toList.map l8) else none
  |none=>none
 |none=>none
def HR{t:TypeId}{cs:List C}(h:Bx P t=some cs)(E:Env):∃i z,P.info? t=some i/\i.zero=some z/\LL E cs z.cells.toList/\(∀y∈z.cells,y.oneCell'=true)/\z.cells.size=i.size/\cs.all zB=true/\cs.length=i.size:=by
 unfold Bx at h;split at h
 ·rename_i i hi;split at h
  ·rename_i z hz;split at h
   ·rename_i hc;cases h
    simp only[pG,rJ,pH]at hc;refine⟨i,z,hi,hz,⟨by simp,?_⟩,λy hy=>hc.1 y (by simpa using hy),hc.2,?_,by simp[hc.2]⟩
    ·intro k c y h1 h2;rw[pj,h2]at h1;cases h1
     exact Q4 E y
    ·rw[pH];intro c hcm;obtain⟨y,hy,rfl⟩:=pZ.1 hcm;unfold l8;split <;> (try split) <;> rfl
   ·cases h
  ·cases h
 ·cases h
def QJ{w:World}{E:Env}(h:qv w E H)(g κ sz:Nat):L (E.push g κ) (.ref H.length [] sz 0 0) (.pointer (some ⟨g,0,none⟩)):=by
 have:=L.ref (E:=E.push g κ) H.length [] sz 0 0 (by simp[Env.push,h.n]);have hb:(E.push g κ).β H.length []=g:=by simp[Env.push,h.n]
 rw[hb]at this;simpa using this
def jg.alloc(t:TypeId)(ho:o.op=.alloc t){cs:List C}(hz:Bx P t=some cs):jg P o ρ H (.ref H.length [] cs.length 0 0) (H++[⟨1,t,cs.length,[cs],0⟩]):=λw E σ hh hl K hk=>by
 obtain⟨i,z,hi,hz,hll,h1,hsz,hn,hlen⟩:=HR hz E
 have hr:(execOp σ o).run P w=.ok (.value (.pointer (some ⟨w.heap.size,0,none⟩))) (w.alloc (.cells z.cells t)):=by
  unfold execOp;simp only[ho,Instr.alloc,Sem.run_bind,yM hi hz,Result.andThen_ok,newVar,newRow]
  rfl
 rw[hr];obtain⟨a,b⟩:=hh.VD t cs z.cells hll hn h1;exact hk _ _ _ a (QJ hh _ _ _) b
def Db:C->Bool
 |.v _=>true
 |.lq o _ _=>o != 2
 |.jK _|.ref .. |.sl .. |.fn .. |.mp _|.gl .. |.mZ .. |.rc _=>true
 |_=>false
def zuw{E:Env}{c:C}{y:Value}(h:L E c y)(hc:Db c=true):y.oneCell'=true:=by
 cases h with
 |v x hx=>exact hx
 |agg=>simp[Db]at hc
 |lK=>simp[Db]at hc
 |un=>simp[Db]at hc
 |za=>simp[Db]at hc
 |gl id sz rows y hn hg h=>cases h <;> rfl
 |_=>rfl
def zux{c:C}(hc:Db c=true):zB c=true:=by
 unfold Db at hc;unfold zB;split at hc <;> first|rfl|(split <;> simp_all)|cases hc
def AP:C->Bool
 |.agg cs=>cs.all zB
 |c=>Db c
def Ni{E:Env}{c:C}{y:Value}(h:L E c y)(hc:AP c=true):LL E c.cells y.cells.toList/\(∀u∈y.cells,u.oneCell'=true)/\c.cells.all zB=true:=by
 cases c with
 |agg cs=>
  cases h with
  |agg _ ys h1 h2 h3=>exact⟨⟨by simpa [C.cells,Value.cells] using h1,λi c y e1 e2=>h2 i c y e1 (by simpa [Value.cells] using e2)⟩,h3,by simpa [AP,C.cells] using hc⟩
 |za=>simp[AP,Db]at hc
 |un=>simp[AP,Db]at hc
 |lK=>simp[AP,Db]at hc
 |_=>
  have ho:=zuw h (by simpa [AP] using hc);have hcell:y.cells= #[y]:=by cases y <;> first|rfl|(simp[Value.oneCell']at ho)
  refine⟨h.cells (by simp) (by simp),by rw[hcell];simpa using ho,?_⟩;have:=zux (by simpa [AP] using hc);simpa [C.cells] using this
def jg.box(t:TypeId)(x:Operand)(ho:o.op=.box t x)(hc:AP (ρ x)=true):jg P o ρ H (.ref H.length [] (ρ x).cells.length 0 0) (H++[⟨1,t,(ρ x).cells.length,[(ρ x).cells],0⟩]):=λw E σ hh hl K hk=>by
 obtain⟨hll,h1,hn⟩:=Ni (hl x (by simp[ho,Op.operands])) hc
 have hr:(execOp σ o).run P w=.ok (.value (.pointer (some ⟨w.heap.size,0,none⟩))) (w.alloc (.cells (σ x).cells t)):=by
  unfold execOp;simp only[ho,Instr.box,newVar,newRow]
  rfl
 rw[hr];obtain⟨a,b⟩:=hh.VD t _ _ hll hn h1;exact hk _ _ _ a (QJ hh _ _ _) b
def yx(b off n:Nat):(⟨b,off,none⟩:Addr).add n=⟨b,off+n,none⟩:=by
 unfold Addr.add;split <;> simp_all
def EK(c:C)(n:Nat):Option C:=
 match c with
 |.ref id hops sz i k=>some (.ref id hops sz i (k+n))
 |.jK cells=>some (.jK (cells.drop n))
 |_=>none
def T6{E:Env}{c c':C}{y:Value}{n:Nat}(h:L E c y)(hf:EK c n=some c'):∃a,y=.pointer (some a)/\L E c' (.pointer (some (a.add n))):=by
 cases h with
 |ref id hops sz i k hn=>
  simp only[EK]at hf;cases hf
  refine⟨_,rfl,?_⟩;rw[yx,uh];exact .ref id hops sz i (k+n) hn
 |jK cells b off us hst hL=>
  simp only[EK]at hf;cases hf
  refine⟨_,rfl,?_⟩;rw[yx];exact .jK _ b (off+n) (λk=>us (n+k)) (λk c hc=>by rw[sr]at hc;rw[uh];exact hst _ c hc) (λk c hc=>by rw[sr]at hc;exact hL _ c hc)
 |_=>simp[EK]at hf
def jg.fieldAddr(t:TypeId)(x:Operand)(f:Nat)(ho:o.op=.fieldAddr t x f){fs:Array Field}{fd:Field}{i:TypeInfo}(ht:P.underlying t=some (.struct fs))(hf:fs[f]?=some fd)
 (hi:P.info? fd.type=some i)(hsz:i.size≠0){c:C}(hc:EK (ρ x) fd.offset=some c):jg P o ρ H c H:=λw E σ hh hl K hk=>by
 obtain⟨a,ha,hla⟩:=T6 (hl x (by simp[ho,Op.operands])) hc
 have hr:(execOp σ o).run P w=.ok (.value (.pointer (some (a.add fd.offset)))) w:=by
  unfold execOp;simp[ho,Instr.fieldAt,run_underlying ht,hf,ha,Instr.sureAddr,fieldPlace,jZ hi,hsz]
 rw[hr];exact hk _ w E hh hla (qW.refl w E H)
def ET(c:C)(size n:Nat):Option C:=
 match c with
 |.lq o sz rows=>if (o == 0 || o == 1) && (sz == size) then (rows[n]?).map .jK else none
 |.sl id hops sz lo len _=>if decide (n<len) && (sz == size) then some (.ref id hops sz (lo+n) 0) else none
 |_=>none
def JE:C->Option Nat
 |.lq _ _ rows=>some rows.length
 |.sl _ _ _ _ len _=>some len
 |_=>none
def zzZ{E:Env}{c c':C}{y:Value}{size n:Nat}(h:L E c y)(hf:ET c size n=some c'):
  ∃a len cap,y=.slice (some a) len cap/\n<len/\L E c' (.pointer (some (a.add (n*size)))):=by
 cases h with
 |lq o sz rows b off cap us ho hc hsz hst hL=>
  simp only[ET]at hf;split at hf
  ·rename_i hcond;simp only[pG,rJ]at hcond;obtain⟨_,rfl⟩:=hcond;cases hr:rows[n]? with
   |none=>rw[hr]at hf;cases hf
   |some r=>
    rw[hr]at hf;cases hf
    refine⟨_,_,_,rfl,(gZ.1 hr).1,?_⟩;rw[yx];exact .jK r b (off+n*sz) (us n) (λk c hc=>hst n r k c hr hc) (λk c hc=>hL n r k c hr hc)
  ·cases hf
 |xR o sz ho=>
  simp[ET]at hf
 |sl id hops sz lo len full cap hn hlen hfull hf'=>
  simp only[ET]at hf;split at hf
  ·rename_i hcond;simp only[pG,rJ,pQ]at hcond;obtain⟨lu,rfl⟩:=hcond;cases hf
   refine⟨_,_,_,rfl,lu,?_⟩;rw[yx,<-sL];exact .ref id hops sz (lo+n) 0 hn
  ·cases hf
 |_=>simp[ET]at hf
def jg.indexAddr(t:TypeId)(x y:Operand)(ho:o.op=.indexAddr t x y){e:TypeId}{i:TypeInfo}(ht:P.underlying t=some (.slice e))(hi:P.info? e=some i)
 {k:IntKind}{n:Int}(hy:ρ y=.v (.int k n))(h0:0<=n){c:C}(hc:ET (ρ x) i.size n.toNat=some c):jg P o ρ H c H:=λw E σ hh hl K hk=>by
 obtain⟨a,len,cap,ha,lu,hla⟩:=zzZ (hl x (by simp[ho,Op.operands])) hc;have h1:=hl y (by simp[ho,Op.operands]);rw[hy]at h1;have hyv:σ y=.int k n:=by generalize σ y=u at *;cases h1;rfl
 have hn:0<=n/\n<(len:Int):=⟨h0,by omega⟩
 have hr:(execOp σ o).run P w=.ok (.value (.pointer (some (a.add (n.toNat*i.size))))) w:=by
  unfold execOp;simp[ho,Instr.indexAt,asIntOf,hyv,ha,run_underlying ht,hn.1,hn.2,jZ hi]
 rw[hr];exact hk _ w E hh hla (qW.refl w E H)
def jg.zxQ(t:TypeId)(x y:Operand)(ho:o.op=.indexAddr t x y){len:Nat}{e:TypeId}{i:TypeInfo}(ht:P.underlying t=some (.array len e))(hi:P.info? e=some i)
 {k:IntKind}{n:Int}(hy:ρ y=.v (.int k n))(h0:0<=n)(h1:n<len){c:C}(hc:EK (ρ x) (n.toNat*i.size)=some c):jg P o ρ H c H:=λw E σ hh hl K hk=>by
 obtain⟨a,ha,hla⟩:=T6 (hl x (by simp[ho,Op.operands])) hc;have hy1:=hl y (by simp[ho,Op.operands]);rw[hy]at hy1;have hyv:σ y=.int k n:=by generalize σ y=u at *;cases hy1;rfl
 have hr:(execOp σ o).run P w=.ok (.value (.pointer (some (a.add (n.toNat*i.size))))) w:=by
  unfold execOp;simp[ho,Instr.indexAt,asIntOf,hyv,ha,run_underlying ht,h0,h1,jZ hi,Instr.sureAddr]
 rw[hr];exact hk _ w E hh hla (qW.refl w E H)
end
def I6(id:Nat)(hops:List mP)(i k:Nat):C->C
 |.lq 2 sz rows=>.sl id (hops++[(i,k)]) sz 0 rows.length false
 |c=>c
def wv(id:Nat)(hops:List mP)(i:Nat):Nat->List C->List C
 |_,[]=>[]
 |k,c::cs=>I6 id hops i k c::wv id hops i (k+1) cs
theorem jt(sz:Nat)(rows:List (List C)):wz sz rows []=some (sz,rows):=rfl
def yF(sz:Nat)(rows:List (List C))(i k:Nat)(hs:List mP):wz sz rows ((i,k)::hs)=match cellAt rows i k with
  |some (.lq 2 sz' rows')=>wz sz' rows' hs
  |_=>none:=rfl
def TD{i k sz2:Nat}{rows2:List (List C)}:∀(hops:List mP) (sz:Nat) (rows:List (List C)) (sz':Nat) (rows':List (List C)),wz sz rows hops=some (sz',rows')->
  cellAt rows' i k=some (.lq 2 sz2 rows2)->wz sz rows (hops++[(i,k)])=some (sz2,rows2)
 |[],sz,rows,sz',rows',h,hc=>by
  rw[jt]at h;cases h
  rw[i7,yF,hc]
  rfl
 |(i',k')::tl,sz,rows,sz',rows',h,hc=>by
  rw[yF]at h;rw[List.cons_append,yF];split at h
  ·exact TD tl _ _ _ _ h hc
  ·cases h
def zuT{H:zo}{id:Nat}{hops:List mP}{sz':Nat}{rows':List (List C)}(h:qm H id hops=some (sz',rows')){i k:Nat}{sz2:Nat}{rows2:List (List C)}
 (hc:cellAt rows' i k=some (.lq 2 sz2 rows2)):qm H id (hops++[(i,k)])=some (sz2,rows2):=by
 obtain⟨ob,ho,hk,hg⟩:=jP h;unfold qm;rw[ho];simp only[hk,if_true];exact TD _ _ _ _ _ hg hc
def zDm{w:World}{E:Env}{H:zo}(h:qv w E H){id:Nat}{hops:List mP}{sz:Nat}{rows:List (List C)}(hb:qm H id hops=some (sz,rows)){kd i k:Nat}{c:C}{u:Value}
 (hc:cellAt rows i k=some c)(ho:jx E kd id hops i k c u):L E (I6 id hops i k c) u:=by
 unfold jx at ho;split at ho
 ·rename_i sz' rows';subst ho;have hb':=zuT hb hc;obtain⟨ob,hob,_,_⟩:=jP hb';have hlen:=(h.lZ id ob _ _ _ hob hb').len;have:=L.sl (E:=E) id (hops++[(i,k)]) sz' 0 rows'.length false _ (by rw[h.n];exact Fo hb') hlen (by simp) (by intro _;rw[pR]);rw[ia]at this;exact this
 ·rename_i h2
  have:I6 id hops i k c=c:=by
   unfold I6;split
   ·exact absurd O (h2 _ _)
   ·rfl
  rw[this];exact ho.1.mono (E.QK kd)
def Sv{id:Nat}{hops:List mP}{i:Nat}:∀(cs:List C) (k j:Nat) (c':C),(wv id hops i k cs)[j]?=some c'->∃c,cs[j]?=some c/\c'=I6 id hops i (k+j) c
 |[],k,j,c',h=>by simp[wv]at h
 |c::cs,k,0,c',h=>by simp[wv]at h;exact⟨c,rfl,h.symm⟩
 |c::cs,k,j+1,c',h=>by
  simp[wv]at h;obtain⟨c0,h0,e⟩:=Sv cs (k+1) j c' h;exact⟨c0,by simpa using h0,by rw[e];congr 1;omega⟩
def RH{id:Nat}{hops:List mP}{i:Nat}:∀(cs:List C) (k:Nat),(wv id hops i k cs).length=cs.length
 |[],_=>rfl
 |c::cs,k=>by simp[wv,RH cs (k+1)]
def Da(H:zo)(c:C)(n:Nat):Option (List C):=
 match c with
 |.ref id hops sz i k=>match qm H id hops with
  |some (sz',rows)=>if sz' == sz then match rows[i]? with
    |some r=>if decide (k+n<=r.length) then some (wv id hops i k ((r.drop k).take n)) else none
    |none=>none
   else none
  |none=>none
 |.jK cells=>if decide (n<=cells.length) then some (cells.take n) else none
 |_=>none
def KZ{w:World}{E:Env}{H:zo}(h:qv w E H){c:C}{y:Value}(hl:L E c y){n:Nat}{cs:List C}(hr:Da H c n=some cs):
  ∃a us,y=.pointer (some a)/\(∀(j:Nat) u,us[j]?=some u->w.cell? (a.add j)=some u)/\LL E cs us/\us.length=n/\(∀u∈us,u.oneCell'=true):=by
 cases hl with
 |ref id hops sz i k hn=>
  simp only[Da]at hr;split at hr
  ·rename_i sz' rows hb;split at hr
   ·rename_i hsz;have hsz:sz'=sz:=by simpa using hsz
    subst hsz;split at hr
    ·rename_i r hrow;split at hr
     ·rename_i hlen;simp only[pQ]at hlen;cases hr
      obtain⟨ob,hob,_,_⟩:=jP hb;have hB:=h.lZ id ob hops sz' rows hob hb;obtain⟨cur,e,hg,hcs,hcell⟩:=hB.lZ;have hrl:r.length=sz':=hB.row r (pq hrow)
      have hcc:∀j,j<n->∃c u,r[k+j]?=some c/\cellAt rows i (k+j)=some c/\cur[i*sz'+(k+j)]?=some u/\jx E ob.kind id hops i (k+j) c u:=λj hj=>by
       have hj':k+j<r.length:=by omega
       have h1:r[k+j]?=some r[k+j]:=by simp[hj']
       have h2:cellAt rows i (k+j)=some r[k+j]:=by simp[cellAt,hrow,hj']
       obtain⟨u,hu,ho⟩:=hcell i (k+j) _ h2;exact⟨_,u,h1,h2,hu,ho⟩
      refine⟨_,(List.range n).map (λj=>cur.getD (i*sz'+(k+j)) undef),rfl,?_,⟨?_,?_⟩,by simp,?_⟩
      ·intro j u hju;simp only[pj]at hju;cases hjr:(List.range n)[j]? with
       |none=>rw[hjr]at hju;cases hju
       |some j'=>
        rw[hjr]at hju;obtain⟨hjlt,hj'⟩:=gZ.1 hjr;simp at hj' hjlt;subst hj';obtain⟨c,u',h1,h2,hu,ho⟩:=hcc j hjlt;simp only[pM,p9]at hju;rw[rV,hu]at hju;simp at hju;subst hju;rw[yx];unfold World.cell?;simp only[hg];rw[pw (by simp),uh];exact hu
      ·rw[RH];simp;omega
      ·intro j c' u hc' hu';obtain⟨c,hc,rfl⟩:=Sv _ _ _ _ hc';rw[ru]at hc;split at hc
       ·rename_i hj;rw[sr]at hc;obtain⟨c2,u2,h1,h2,hu,ho⟩:=hcc j hj;rw[h1]at hc;cases hc
        simp only[pj,sV hj,pM,p9]at hu';rw[rV,hu]at hu';simp at hu';subst hu';exact zDm h hb h2 ho
       ·cases hc
      ·intro u hu;obtain⟨j,hj,rfl⟩:=pZ.1 hu;obtain⟨c,u',h1,h2,hu',ho⟩:=hcc j (by simpa using hj);rw[rV,hu'];simp only[Option.getD_some];unfold jx at ho;split at ho
       ·rw[ho];rfl
       ·exact ho.2
     ·cases hr
    ·cases hr
   ·cases hr
  ·cases hr
 |jK cells b off us hst hL=>
  simp only[Da]at hr;split at hr
  ·rename_i hlen;simp only[pQ]at hlen;cases hr
   refine⟨_,(List.range n).map us,rfl,?_,⟨by simp;omega,?_⟩,by simp,?_⟩
   ·intro j u hju;simp only[pj]at hju;cases hjr:(List.range n)[j]? with
    |none=>rw[hjr]at hju;cases hju
    |some j'=>
     rw[hjr]at hju;obtain⟨hjlt,hj'⟩:=gZ.1 hjr;simp at hj' hjlt;subst hj';cases hju
     rw[yx];have hj2:j<cells.length:=by omega
     exact(h.qJ _ _ _ (hst j cells[j] (by simp[hj2]))).1
   ·intro j c u hc hu;rw[ru]at hc;split at hc
    ·rename_i hj;simp only[pj,sV hj,pM,p9]at hu;subst hu;exact(hL j c hc).mono E.Iw
    ·cases hc
   ·intro u hu;obtain⟨j,hj,rfl⟩:=pZ.1 hu
    have hj2:j<cells.length:=by
      have:j<n:=by simpa using hj
      omega
    exact(h.qJ _ _ _ (hst j cells[j] (by simp[hj2]))).2
  ·cases hr
 |_=>simp[Da]at hr
def GA:TypeDesc->Bool
 |.struct _|.array _ _=>true
 |_=>false
def Gf{P:Program}{t:TypeId}{d:TypeDesc}(h:P.underlying t=some d)(w:World):(isAgg t).run P w=.ok (GA d) w:=by
 simp only[isAgg,Sem.run_bind,run_underlying h,Result.andThen_ok];cases d <;> rfl
def Bf(P:Program)(H:zo)(t:TypeId)(c:C):Option C:=
 match P.underlying t,P.info? t with
 |some d,some i=>
  if GA d then (Da H c i.size).map .agg
  else match Da H c 1 with
   |some [x]=>some x
   |_=>none
 |_,_=>none
section
variable {P:Program} {o:Oper} {ρ:Operand->C} {H:zo}
def jg.load(t:TypeId)(x:Operand)(ho:o.op=.load t x){c:C}(hc:Bf P H t (ρ x)=some c):jg P o ρ H c H:=λw E σ hh hl K hk=>by
 have hx:=hl x (by simp[ho,Op.operands]);unfold Bf at hc;split at hc
 ·rename_i d i hd hi;by_cases hag:GA d=true
  ·rw[pA hag]at hc;cases hr:Da H (ρ x) i.size with
   |none=>rw[hr]at hc;cases hc
   |some cs=>
    rw[hr]at hc;cases hc
    obtain⟨a,us,ha,hcell,hll,hlen,hone⟩:=KZ hh hx hr
    have hr':(execOp σ o).run P w=.ok (.value (.agg us.toArray)) w:=by
     unfold execOp;have h3:=run_loadCells_list (P:=P) (w:=w) a us (λj v hj=>hcell j v hj);rw[hlen]at h3;simp[ho,Instr.loadAt,Instr.sureAddr,ha,loadVar,Gf hd,hag,jZ hi,h3]
    rw[hr'];exact hk _ w E hh (.agg cs us.toArray (by simpa using hll.1) (λi c y e1 e2=>hll.2 i c y e1 (by simpa using e2)) (λu hu=>hone u (by simpa using hu))) (qW.refl w E H)
  ·rw[pw hag]at hc;split at hc
   ·rename_i x0 hr;cases hc
    obtain⟨a,us,ha,hcell,hll,hlen,hone⟩:=KZ hh hx hr
    obtain⟨u,rfl⟩:∃u,us=[u]:=by
     match us,hlen with
     |[u],_=>exact⟨u,rfl⟩
    have hu:=hcell 0 u O;have ha0:a.add 0=a:=by simp[Addr.add]
    rw[ha0]at hu
    have hr':(execOp σ o).run P w=.ok (.value u) w:=by
     unfold execOp;simp[ho,Instr.loadAt,Instr.sureAddr,ha,loadVar,Gf hd,hag,hu]
    rw[hr'];exact hk _ w E hh hll.cons_inv.1 (qW.refl w E H)
   ·cases hc
 ·cases hc
end
def setCell(rows:List (List C))(i k:Nat)(c:C):List (List C):=rows.modify i (·.set k c)
def qq:List (List C)->List mP->(List (List C)->List (List C))->List (List C)
 |rows,[],f=>f rows
 |rows,(i,k)::hs,f=>match cellAt rows i k with
  |some (.lq 2 sz' rows')=>setCell rows i k (.lq 2 sz' (qq rows' hs f))
  |_=>rows
theorem Ks(rows:List (List C))(f:List (List C)->List (List C)):qq rows [] f=f rows:=rfl
def Kd(rows:List (List C))(i k:Nat)(hs:List mP)(f:List (List C)->List (List C)):qq rows ((i,k)::hs) f=match cellAt rows i k with
  |some (.lq 2 sz' rows')=>setCell rows i k (.lq 2 sz' (qq rows' hs f))
  |_=>rows:=rfl
def RF(rows:List (List C))(i k:Nat)(c:C):(setCell rows i k c).length=rows.length:=by simp[setCell]
def Ru(rows:List (List C))(i k:Nat)(c:C)(i' k':Nat):cellAt (setCell rows i k c) i' k'=if i=i'/\k=k' then (cellAt rows i' k').map (λ_=>c) else cellAt rows i' k':=by
 unfold cellAt setCell;rw[sa];by_cases hi:i=i'
 ·subst hi;cases hr:rows[i]? with
  |none=>simp
  |some r=>
   simp only[if_true,uj,pM,rh,fj];rw[pK];by_cases hk:k=k'
   ·subst hk;simp only[if_true];by_cases lu:k<r.length
    ·simp[lu]
    ·simp[lu]
   ·simp[hk]
 ·simp[hi]
def zqc{rows:List (List C)}{sz:Nat}(h:∀r∈rows,r.length=sz)(i k:Nat)(c:C):∀r∈setCell rows i k c,r.length=sz:=by
 intro r hr;obtain⟨j,hj⟩:=pJ.1 hr;unfold setCell at hj;rw[sa]at hj;cases hx:rows[j]? with
 |none=>rw[hx]at hj;cases hj
 |some r0=>
  rw[hx]at hj;have h0:=h r0 (pq hx);simp only[uj,pM,p9]at hj;subst hj;split <;> simp[h0]
structure Jb(rows rows':List (List C)):Prop where
 len:rows'.length=rows.length
 own:∀i k s r,cellAt rows' i k=some (.lq 2 s r)↔cellAt rows i k=some (.lq 2 s r)
structure FN(rows rows':List (List C)):Prop where
 len:rows'.length=rows.length
 cell:∀i k c',cellAt rows' i k=some c'->∃c,cellAt rows i k=some c/\(c=c'\/∃s r r',c=.lq 2 s r/\c'=.lq 2 s r'/\r'.length=r.length)
 row:∀sz,(∀r∈rows,r.length=sz)->∀r∈rows',r.length=sz
def FN.refl(rows:List (List C)):FN rows rows:=⟨rfl,λi k c h=>⟨c,h,.inl O⟩,λ_ h=>h⟩
def Si{f:List (List C)->List (List C)}:∀(hops:List mP) (sz:Nat) (rows:List (List C)) (sz':Nat) (rows':List (List C)),wz sz rows hops=some (sz',rows')->Jb rows' (f rows')->(qq rows hops f).length=rows.length
 |[],sz,rows,sz',rows',h,ht=>by rw[jt]at h;cases h;rw[Ks];exact ht.len
 |(i,k)::hs,sz,rows,sz',rows',h,ht=>by
  rw[Kd];split
  ·exact RF _ _ _ _
  ·rfl
def TC{f:List (List C)->List (List C)}:∀(hops:List mP) (sz:Nat) (rows:List (List C)) (sz':Nat) (rows':List (List C)),wz sz rows hops=some (sz',rows')->Jb rows' (f rows')->
  ∀(p:List mP) (sz2:Nat) (rows2':List (List C)),wz sz (qq rows hops f) p=some (sz2,rows2')->
   ∃rows2,wz sz rows p=some (sz2,rows2)/\((p=hops/\rows2'=f rows2)\/(p≠hops/\FN rows2 rows2'))
 |[],sz,rows,sz',rows',h,ht,p,sz2,rows2',hp=>by
  rw[jt]at h;cases h
  rw[Ks]at hp;cases p with
  |nil=>rw[jt]at hp;cases hp;exact⟨rows,rfl,.inl ⟨rfl,rfl⟩⟩
  |cons hd q=>
   obtain⟨i,k⟩:=hd;rw[yF]at hp;split at hp
   ·rename_i s r hc;rw[ht.own]at hc;exact⟨rows2',by rw[yF,hc];exact hp,.inr ⟨by simp,FN.refl _⟩⟩
   ·cases hp
 |(i,k)::hs,sz,rows,sz',rows',h,ht,p,sz2,rows2',hp=>by
  rw[yF]at h;split at h
  ·rename_i s r hc;have hset:qq rows ((i,k)::hs) f=setCell rows i k (.lq 2 s (qq r hs f)):=by rw[Kd,hc];rfl
   rw[hset]at hp;cases p with
   |nil=>
    rw[jt]at hp;cases hp
    refine⟨rows,rfl,.inr ⟨by simp,RF _ _ _ _,?_,λsz0 h0=>zqc h0 _ _ _⟩⟩;intro i' k' c' hcc;rw[Ru]at hcc;split at hcc
    ·rename_i hik;obtain⟨rfl,rfl⟩:=hik;rw[hc]at hcc;simp only[pM,p9]at hcc;subst hcc;exact⟨_,hc,.inr ⟨s,r,_,rfl,rfl,Si hs s r sz' rows' h ht⟩⟩
    ·exact⟨c',hcc,.inl O⟩
   |cons hd q=>
    obtain⟨i',k'⟩:=hd;rw[yF,Ru]at hp;by_cases hik:i=i'/\k=k'
    ·obtain⟨rfl,rfl⟩:=hik;rw[pA ⟨rfl,rfl⟩,hc]at hp;simp only[pM]at hp;obtain⟨rows2,h2,h3⟩:=TC hs s r sz' rows' h ht q sz2 rows2' hp;refine⟨rows2,by rw[yF,hc];exact h2,?_⟩;rcases h3 with⟨rfl,e⟩|⟨hne,hlk⟩
     ·exact .inl ⟨rfl,e⟩
     ·exact .inr ⟨λe=>hne (by simpa using e),hlk⟩
    ·rw[pw hik]at hp;refine⟨rows2',by rw[yF];exact hp,.inr ⟨?_,FN.refl _⟩⟩;intro e;simp at e;exact hik ⟨e.1.1.symm,e.1.2.symm⟩
  ·cases h
def Bi(H:zo)(id:Nat)(hops:List mP)(f:List (List C)->List (List C)):zo:=H.modify id λob=>match ob with
 |⟨kind,ty,sz,rows,fz⟩=>⟨kind,ty,sz,qq rows hops f,fz⟩
def Ip(H:zo)(id:Nat)(hops:List mP)(f:List (List C)->List (List C))(j:Nat):(Bi H id hops f)[j]?=(H[j]?).map λob=>if id=j then {ob with rows:=qq ob.rows hops f} else ob:=by
 unfold Bi;rw[sa]
 rfl
def Ib{H:zo}{id:Nat}{hops:List mP}{f:List (List C)->List (List C)}{sz:Nat}{rows:List (List C)}(hb:qm H id hops=some (sz,rows))(ht:Jb rows (f rows)){id':Nat}{p:List mP}
 {sz2:Nat}{rows2':List (List C)}(hp:qm (Bi H id hops f) id' p=some (sz2,rows2')):
  ∃rows2,qm H id' p=some (sz2,rows2)/\((id'=id/\p=hops/\rows2'=f rows2)\/(¬(id'=id/\p=hops)/\FN rows2 rows2')):=by
 obtain⟨ob,hob,hk,hg⟩:=jP hb;obtain⟨ob',hob',hk',hg'⟩:=jP hp;rw[Ip]at hob';by_cases hid:id=id'
 ·subst hid;rw[hob]at hob';simp only[pM,if_true,p9]at hob';subst hob';obtain⟨rows2,h2,h3⟩:=TC hops ob.sz ob.rows sz rows hg ht p sz2 rows2' hg';refine⟨rows2,?_,?_⟩
  ·unfold qm;rw[hob];simp only[hk,if_true];exact h2
  ·rcases h3 with⟨rfl,e⟩|⟨hne,hlk⟩
   ·exact .inl ⟨rfl,rfl,e⟩
   ·exact .inr ⟨λe=>hne e.2,hlk⟩
 ·cases hx:H[id']? with
  |none=>rw[hx]at hob';cases hob'
  |some ob2=>
   rw[hx]at hob';simp only[pM,hid,if_false,p9]at hob';subst hob';refine⟨rows2',?_,.inr ⟨λe=>hid e.1.symm,FN.refl _⟩⟩;unfold qm;rw[hx];simp only[hk',if_true];exact hg'
def qv.write{w:World}{E:Env}{H:zo}(h:qv w E H){id:Nat}{hops:List mP}{ob:Ob}{sz:Nat}{rows:List (List C)}{f:List (List C)->List (List C)}(hob:H[id]?=some ob)
 (hb:qm H id hops=some (sz,rows))(ht:Jb rows (f rows))(hrow:∀r∈f rows,r.length=sz){cur cur':Array Value}{e:TypeId}(hg:w.heap[E.β id hops]?=some (.cells cur e (0,0)))(hsz:cur'.size=cur.size)
 (hst:∀o u,E.St (E.β id hops) o=some u->cur'[o]?=some u)
 (hc:∀i k c,cellAt (f rows) i k=some c->∃u,cur'[i*sz+k]?=some u/\jx E ob.kind id hops i k c u):
  qv (w.setRow (E.β id hops) cur') E (Bi H id hops f)/\qW w E H (w.setRow (E.β id hops) cur') E (Bi H id hops f):=by
 have hown:∀b,jM E (Bi H id hops f) b->jM E H b:=by
  rintro b ⟨id',p,⟨s2,r2⟩,hx,rfl⟩;obtain⟨rows2,h2,_⟩:=Ib hb ht hx;exact⟨id',p,_,h2,rfl⟩
 refine⟨⟨by rw[h.n];simp[Bi],?_,?_,?_,?_,?_,?_⟩,⟨Env.le.refl E,λ_ _ _=>O,rfl,rfl,rfl,by simp[World.setRow],?_,λb o u hu=>.inl hu,λb hb'=>.inr (hown b hb')⟩⟩
 ·intro id' ob' p sz2 rows2' hob' hx;obtain⟨rows2,h2,h3⟩:=Ib hb ht hx
  have hkd:∃ob0,H[id']?=some ob0/\ob'.kind=ob0.kind:=by
   rw[Ip]at hob';cases hx':H[id']? with
   |none=>rw[hx']at hob';cases hob'
   |some ob0=>
    rw[hx']at hob';simp only[pM,p9]at hob';subst hob';exact⟨ob0,rfl,by split <;> rfl⟩
  obtain⟨ob0,hob0,hkd⟩:=hkd;have hB:=h.lZ id' ob0 p sz2 rows2 hob0 h2;rw[hkd];rcases h3 with⟨rfl,rfl,rfl⟩|⟨hne,hlk⟩
  ·rw[hb]at h2;cases h2
   rw[hob]at hob0;cases hob0
   obtain⟨cur0,e0,hg0,hs0,_⟩:=hB.lZ;rw[hg]at hg0;cases hg0
   exact⟨by rw[ht.len];exact hB.len,hrow,cur',e,setRow_heap w _ cur cur' e _ hg,by rw[hsz];exact hs0,hc⟩
  ·obtain⟨cur0,e0,hg0,hs0,hc0⟩:=hB.lZ
   have hdiff:E.β id' p≠E.β id hops:=λhe=>hne (by
    have:=h.inj id' p id hops _ _ h2 hb he;exact this)
   refine⟨by rw[hlk.len];exact hB.len,hlk.row sz2 hB.row,cur0,e0,by rw[setRow_other w _ _ _ hdiff];exact hg0,hs0,?_⟩;intro i k c' hcc;obtain⟨c,h4,h5⟩:=hlk.cell i k c' hcc;obtain⟨u,hu,ho⟩:=hc0 i k c h4;refine⟨u,hu,?_⟩;rcases h5 with rfl|⟨s,r,r',rfl,rfl,hl⟩
   ·exact ho
   ·simp only[jx]at ho ⊢;rw[hl];exact ho
 ·intro id1 p1 id2 p2 x y hx hy he;obtain⟨r1,h1,_⟩:=Ib hb ht (rows2':=x.2) (sz2:=x.1) (by simpa using hx);obtain⟨r2,h2,_⟩:=Ib hb ht (rows2':=y.2) (sz2:=y.1) (by simpa using hy);exact h.inj id1 p1 id2 p2 _ _ h1 h2 he
 ·intro b o u hu;refine⟨?_,(h.qJ b o u hu).2⟩;by_cases hbb:b=E.β id hops
  ·subst hbb;unfold World.cell?;rw[setRow_heap w _ cur cur' e _ hg];simp;exact hst o u hu
  ·have:=(h.qJ b o u hu).1;unfold World.cell? at this ⊢;simp only[setRow_other w _ _ _ hbb];exact this
 ·intro id' p x o u hx hu;obtain⟨r1,h1,_⟩:=Ib hb ht (rows2':=x.2) (sz2:=x.1) (by simpa using hx);obtain⟨e1,ob',e2,e3⟩:=h.sep id' p _ o u h1 hu;refine⟨e1,?_⟩;rw[Ip,e2];exact⟨_,rfl,by split <;> exact e3⟩
 ·intro id' ob' hob' hk;rw[Ip]at hob';cases hx':H[id']? with
  |none=>rw[hx']at hob';cases hob'
  |some ob0=>
   rw[hx']at hob';simp only[pM,p9]at hob';have hk0:ob0.kind=2/\ob'.ty=ob0.ty:=by subst hob';revert hk;split <;> exactλh=>⟨h,rfl⟩
   obtain⟨cur0,hc0⟩:=h.ty id' ob0 hx' hk0.1;rw[hk0.2];by_cases hbb:E.β id' []=E.β id hops
   ·rw[hbb]at hc0 ⊢;rw[hg]at hc0;cases hc0
    exact⟨cur',setRow_heap w _ cur cur' _ _ hg⟩
   ·exact⟨cur0,by rw[setRow_other w _ _ _ hbb];exact hc0⟩
 ·intro id' ob' hob';rw[Ip]at hob';cases hx':H[id']? with
  |none=>rw[hx']at hob';cases hob'
  |some ob0=>
   rw[hx']at hob';simp only[pM,p9]at hob';have h0:=h.fz id' ob0 hx';subst hob';split
   ·rename_i hid;subst hid;rw[hob]at hx';cases hx'
    obtain⟨ob2,h1,_,h2⟩:=jP hb;rw[hob]at h1;cases h1
    dsimp only;rw[Si hops _ _ _ _ h2 ht];exact h0
   ·exact h0
 ·intro k hk ho;rw[setRow_other w _ _ _ (λe'=>ho ⟨id,hops,_,hb,e'.symm⟩)]
def yR(k:Nat)(cs:List C)(r:List C):List C:=r.take k++cs++r.drop (k+cs.length)
def Dv(i k:Nat)(cs:List C)(rows:List (List C)):List (List C):=rows.modify i (yR k cs)
def RA{k:Nat}{cs r:List C}(h:k+cs.length<=r.length):(yR k cs r).length=r.length:=by
 simp[yR];omega
def Sh{k:Nat}{cs r:List C}(h:k+cs.length<=r.length)(j:Nat):(yR k cs r)[j]?=if k<=j/\j<k+cs.length then cs[j-k]? else r[j]?:=by
 unfold yR;rw[rR];by_cases h1:j<k
 ·rw[pD (by simp;omega),ru,pA h1,pw (by omega)]
 ·rw[pT (by simp;omega)];have hk:(r.take k).length=k:=by simp;omega
  rw[hk];by_cases h2:j<k+cs.length
  ·rw[pD (by omega),pA ⟨by omega,h2⟩]
  ·rw[pT (by omega),sr,pw (by omega)]
   congr 1
   omega
def Rv{i k:Nat}{cs:List C}{rows:List (List C)}{r:List C}(hr:rows[i]?=some r)(h:k+cs.length<=r.length)(i' k':Nat):
  cellAt (Dv i k cs rows) i' k'=if i=i'/\k<=k'/\k'<k+cs.length then cs[k'-k]? else cellAt rows i' k':=by
 unfold cellAt Dv;rw[sa];by_cases hi:i=i'
 ·subst hi;rw[hr];simp only[if_true,uj,pM,rh,fj];rw[Sh h]
 ·simp[hi]
def ki(P:Program)(H:zo)(t:TypeId)(a x:C):Option zo:=
 match a,P.info? t with
 |.ref id hops sz i k,some inf=>
  match qm H id hops,H[id]? with
  |some (sz',rows),some ob=>
   match rows[i]? with
   |some r=>
    if (sz' == sz) && AP x && (x.cells.length == inf.size) && decide (k+x.cells.length<=r.length) && ((r.drop k).take x.cells.length).all zB && (ob.kind == 1 || x.cells.all jE) && (!hops.isEmpty || decide (ob.fz<=i)) && (hops.isEmpty || ob.fz == 0)
    then some (Bi H id hops (Dv i k x.cells)) else none
   |none=>none
  |_,_=>none
 |_,_=>none
section
variable {P:Program} {o:Oper} {ρ:Operand->C} {H:zo}
def jg.store(t:TypeId)(x y:Operand)(ho:o.op=.store t x y){H':zo}(hs:ki P H t (ρ x) (ρ y)=some H'):jg P o ρ H .un H':=λw E σ hh hl K hk=>by
 have hx:=hl x (by simp[ho,Op.operands]);have hy:=hl y (by simp[ho,Op.operands]);unfold ki at hs;split at hs
 rotate_left
 ·cases hs
 rename_i id hops sz i k inf ha hinf;split at hs
 rotate_left
 ·cases hs
 rename_i sz' rows ob hb hob;split at hs
 rotate_left
 ·cases hs
 rename_i r hr;split at hs
 rotate_left
 ·cases hs
 rename_i hcond;cases hs
 simp only[pG,rJ,pQ,sB,pH]at hcond;obtain⟨⟨⟨⟨⟨⟨⟨rfl,hval⟩,hlen⟩,hfit⟩,hold⟩,hkd⟩,hfz⟩,_⟩:=hcond;obtain⟨hll,hone,hno⟩:=Ni hy hval;rw[ha]at hx;have hB:=hh.lZ id ob hops sz' rows hob hb;obtain⟨cur,e,hg,hcs,hcell⟩:=hB.lZ;have hrl:r.length=sz':=hB.row r (pq hr);have hil:i<rows.length:=(gZ.1 hr).1;have hx':σ x=.pointer (some ⟨E.β id hops,i*sz'+k,none⟩):=by generalize σ x=u at *;cases hx;rfl
 obtain⟨vs,hvs⟩:∃vs,vs=(σ y).cells.toList:=⟨_,rfl⟩;rw[<-hvs]at hll;have hvl:vs.length=(ρ y).cells.length:=hll.1.symm
 have hend:i*sz'+k+vs.length<=cur.size:=by
  have h1:(i+1)*sz'<=E.κ id hops*sz':=sC _ (rB hil hB.len);rw[sL]at h1;omega
 have hrun:=run_storeCells_at P (E.β id hops) (i*sz'+k) e vs 0 cur w hg (by simpa using hend) (λv hv=>hone v (by rw[hvs]at hv;simpa using hv));simp only[uk]at hrun;obtain⟨cur',hcur'⟩:∃cur',cur'=(cur.toList.take (i*sz'+k)++vs++cur.toList.drop (i*sz'+k+vs.length)).toArray:=⟨_,rfl⟩;rw[<-hcur']at hrun
 have hcget:∀j:Nat,cur'[j]?=if i*sz'+k<=j/\j<i*sz'+k+vs.length then vs[j-(i*sz'+k)]? else cur[j]?:=by
  intro j;rw[hcur'];simp only[fy];rw[rR];by_cases h1:j<i*sz'+k
  ·rw[pD (by simp;omega),ru,pA h1,pw (by omega),rG]
  ·rw[pT (by simp;omega)];have hk':(cur.toList.take (i*sz'+k)).length=i*sz'+k:=by simp;omega
   rw[hk'];by_cases h2:j<i*sz'+k+vs.length
   ·rw[pD (by omega),pA ⟨by omega,h2⟩]
   ·rw[pT (by omega),sr,pw (by omega),rG]
    congr 1
    omega
 have hr':(execOp σ o).run P w=.ok .skip (w.setRow (E.β id hops) cur'):=by
  unfold execOp
  have hsz2:(σ y).cells.size=inf.size:=by
   have:vs.length=(σ y).cells.size:=by rw[hvs];simp
   omega
  simp[ho,Instr.storeAt,Instr.sureAddr,hx',storeVar,jZ hinf,hsz2,<-hvs,hrun]
 rw[hr']
 have hpos:∀i' k',i'<rows.length->k'<sz'->(i*sz'+k<=i'*sz'+k'/\i'*sz'+k'<i*sz'+k+vs.length↔i=i'/\k<=k'/\k'<k+vs.length):=by
  intro i' k' hi' hk';constructor
  ·rintro⟨h1,h2⟩
   have:i=i':=by
    rcases sX i i' with h|h|h
    ·exfalso
     have:(i+1)*sz'<=i'*sz':=sC _ h;rw[sL]at this;omega
    ·exact h
    ·exfalso
     have:(i'+1)*sz'<=i*sz':=sC _ h;rw[sL]at this;omega
   subst this;omega
  ·rintro⟨rfl,h1,h2⟩;omega
 have htame:Jb rows (Dv i k (ρ y).cells rows):=by
  refine⟨by simp[Dv],?_⟩;intro i' k' s r0;rw[Rv hr hfit];split
  ·rename_i hin;obtain⟨rfl,h1,h2⟩:=hin;constructor
   ·intro h;have:=pH.1 hno _ (pq h);simp[zB]at this
   ·intro h;simp only[cellAt,hr,rh]at h
    have hm:C.lq 2 s r0∈(r.drop k).take (ρ y).cells.length:=by
     apply pJ.2
     refine⟨k'-k,?_⟩;rw[ru,pA (by omega),sr,show k+(k'-k)=k' from by omega];exact h
    have:=hold _ hm;simp[zB]at this
  ·rfl
 have hW:=hh.write hob hb htame (cur:=cur) (cur':=cur') (e:=e) ?_ hg ?_ ?_ ?_
 ·exact hk _ _ E hW.1 .un hW.2
 ·intro r0 hr0;obtain⟨j,hj⟩:=pJ.1 hr0;unfold Dv at hj;rw[sa]at hj;cases hx0:rows[j]? with
  |none=>rw[hx0]at hj;cases hj
  |some r1=>
   rw[hx0]at hj;simp only[uj,pM,p9]at hj;subst hj;by_cases hij:i=j
   ·subst hij;rw[hr]at hx0;cases hx0
    rw[pA O,RA hfit];exact hrl
   ·rw[pw hij];exact hB.row r1 (pq hx0)
 ·rw[hcur'];simp;omega
 ·intro off u hu;obtain⟨e1,ob',e2,e3⟩:=hh.sep id hops _ off u hb hu;rw[hob]at e2;cases e2
  subst e1;simp at hfz
  have hsz0:ob.sz=sz':=by
   obtain⟨ob2,h1,_,h2⟩:=jP hb;rw[hob]at h1;cases h1
   rw[jt]at h2;cases h2
   rfl
  have lu:off<i*sz':=by
   rw[hsz0]at e3;exact rU e3 (sC _ hfz)
  rw[hcget,pw (by omega)];have:=(hh.qJ _ _ _ hu).1;unfold World.cell? at this;rw[hg]at this;simpa using this
 ·intro i' k' c hcc;rw[Rv hr hfit]at hcc;split at hcc
  ·rename_i hin;obtain⟨rfl,h1,h2⟩:=hin;obtain⟨u,hu,hlu⟩:=hll.get hcc;have hnoc:=pH.1 hno _ (pq hcc);refine⟨u,?_,(jx.loose hnoc).2 ⟨?_,hone u ?_⟩⟩
   ·rw[hcget,pA (by omega),show i*sz'+k'-(i*sz'+k)=k'-k from by omega];exact hu
   ·rcases hkd with hkd|hkd
    ·simpa [Env.at,hkd] using hlu
    ·unfold Env.at
     split
     ·exact hlu.w8 (hkd _ (pq hcc))
     ·exact hlu
   ·have:=pq hu;rw[hvs]at this;simpa using this
  ·rename_i hnot;obtain⟨u,hu,hou⟩:=hcell i' k' c hcc;refine⟨u,?_,hou⟩
   have hi'k':i'<rows.length/\k'<sz':=by
    unfold cellAt at hcc;cases hx0:rows[i']? with
    |none=>rw[hx0]at hcc;cases hcc
    |some r1=>
     rw[hx0]at hcc;refine⟨(gZ.1 hx0).1,?_⟩;have:=hB.row r1 (pq hx0);rw[<-this];exact(gZ.1 hcc).1
   rw[hcget,pw]
   ·exact hu
   ·rw[hpos i' k' hi'k'.1 hi'k'.2,hvl];exact hnot
def zc(P:Program)(f:FuncId)(H:zo)(args:List C)(r:C)(H':zo):Prop:=
 ∀(w:World) (E:Env) (vs:Array Value),qL w E H->LL E args vs.toList->
  Calls P f vs w λe w'=>∃v E',e=.returned v/\qL w' E' H'/\L E' r v/\Grow w E H w' E' H'
def qw(P:Program)(f:FuncId):Bool:=
 match P.funcs[f]? with
 |some fn => !(fn.name == "runtime.NumGoroutine") && fn.body.isSome
 |none=>false
def lS.call(cl:Call)(ho:o.op=.call cl)(x:Operand)(hcl:cl.callee=.value x){f:FuncId}{first caps:List C}(hf:ρ x=.fn f first caps)(hcb:qw P f=true){r:C}{H':zo}
 (hs:zc P f H (first++(cl.args.toList.map ρ)++caps) r H'):lS P o ρ H r H':=λw E σ hh hl K hk=>by
 have h0:=hl x (by simp[ho,Op.operands,Call.operands,hcl]);rw[hf]at h0
 obtain⟨ys,zs,hv,h1,h2,h3,h4⟩:∃ys zs,σ x=.func (.func f) ys zs/\first.length=ys.size/\caps.length=zs.size/\(∀(i:Nat) c y,first[i]?=some c->ys[i]?=some y->L E c y)/\(∀(i:Nat) c y,caps[i]?=some c->zs[i]?=some y->L E c y):=by
  generalize σ x=u at *;cases h0 with
  |fn f first caps ys zs h1 h2 h3 h4=>exact⟨ys,zs,rfl,h1,h2,h3,h4⟩
 unfold qw at hcb;split at hcb
 rotate_left
 ·cases hcb
 rename_i fn hfn;simp only[pG,rZ]at hcb;have hname : fn.name ≠ "runtime.NumGoroutine" := by simpa using hcb.1
 have hbody:fn.body≠none:=by intro hb;simp[hb]at hcb
 have hr:(execOp σ o).run P w=.ok (.enter f (ys++cl.args.map σ++zs)) w:=by
  unfold execOp;simp[ho,resolve,hcl,hv,Deferred.ofValue,invoke,callFunc,hfn,hname,hbody]
 rw[hr];refine(hs w E (ys++cl.args.map σ++zs) hh ?_).mono ?_
 ·have e1:LL E first ys.toList:=⟨by simpa using h1,λi c y e1 e2=>h3 i c y e1 (by simpa using e2)⟩;have e2:LL E caps zs.toList:=⟨by simpa using h2,λi c y e1 e2=>h4 i c y e1 (by simpa using e2)⟩
  have e3:LL E (cl.args.toList.map ρ) (cl.args.map σ).toList:=by
   refine⟨by simp,?_⟩;intro i c y hc hy;rw[pj]at hc;rw[iB,pj]at hy;cases ha:cl.args.toList[i]? with
   |none=>rw[ha]at hc;cases hc
   |some a=>
    rw[ha]at hc hy;cases hc
    cases hy
    exact hl a (by simp[ho,Op.operands,Call.operands];right;have:=pq ha;simpa using this)
  have:=(e1.append e3).append e2;simpa using this
 ·rintro e w' ⟨v,E',rfl,h5,h6,h7⟩;exact⟨v,rfl,hk v w' E' h5 h6 h7⟩
end
section
variable {P:Program} {o:Oper} {ρ:Operand->C} {H:zo}
def jg.extract(x:Operand)(n:Nat)(ho:o.op=.extract x n){vs:List C}(hx:ρ x=.lK vs){c:C}(hc:vs[n]?=some c):jg P o ρ H c H:=λw E σ hh hl K hk=>by
 have h0:=hl x (by simp[ho,Op.operands]);rw[hx]at h0
 obtain⟨ys,hy,hlen,hll⟩:∃ys,σ x=.tuple ys/\vs.length=ys.size/\∀(i:Nat) c y,vs[i]?=some c->ys[i]?=some y->L E c y:=by
  generalize σ x=u at *;cases h0 with
  |lK _ ys h1 h2=>exact⟨ys,rfl,h1,h2⟩
 have lu:n<ys.size:=by rw[<-hlen];exact(gZ.1 hc).1
 have hr:(execOp σ o).run P w=.ok (.value ys[n]) w:=by
  unfold execOp;simp[ho,Instr.extract,hy,lu]
 rw[hr];exact hk _ w E hh (hll n c _ hc (by simp[lu])) (qW.refl w E H)
def OH:C->Bool
 |.ref .. |.jK _|.fn ..=>true
 |_=>false
def jg.nilCheck(x:Operand)(ho:o.op=.nilCheck x)(hx:OH (ρ x)=true):jg P o ρ H (ρ x) H:=λw E σ hh hl K hk=>by
 have h0:=hl x (by simp[ho,Op.operands])
 have hr:(execOp σ o).run P w=.ok (.value (σ x)) w:=by
  unfold execOp;generalize ρ x=c at *;generalize hu:σ x=u at *;cases h0 <;> first|(simp[OH]at hx;done)|(simp only[ho,hu];rfl)
 rw[hr];exact hk _ w E hh h0 (qW.refl w E H)
def jg.makeFunc(f:FuncId)(first caps:Array Operand)(ho:o.op=.makeFunc (.func f) first caps):jg P o ρ H (.fn f (first.toList.map ρ) (caps.toList.map ρ)) H:=λw E σ hh hl K hk=>by
 have hr:(execOp σ o).run P w=.ok (.value (.func (.func f) (first.map σ) (caps.map σ))) w:=by
  unfold execOp;simp only[ho]
  rfl
 rw[hr];refine hk _ w E hh (.fn f _ _ _ _ (by simp) (by simp) ?_ ?_) (qW.refl w E H)
 ·intro i c y hc hy;rw[pj]at hc;rw[iO]at hy;cases ha:first[i]? with
  |none=>rw[ha]at hy;cases hy
  |some a=>
   rw[rG,ha]at hc;rw[ha]at hy;cases hc
   cases hy
   exact hl a (by simp[ho,Op.operands];left;exact uu ha)
 ·intro i c y hc hy;rw[pj]at hc;rw[iO]at hy;cases ha:caps[i]? with
  |none=>rw[ha]at hy;cases hy
  |some a=>
   rw[rG,ha]at hc;rw[ha]at hy;cases hc
   cases hy
   exact hl a (by simp[ho,Op.operands];right;exact uu ha)
def Ef(place:Nat->Option (Nat×Nat)):List C->List (Nat×C)->Option (List C)
 |cells,[]=>some cells
 |cells,(i,c)::rest=>match place i with
  |none=>none
  |some (off,size)=>if AP c && (c.cells.length == size) && decide (off+size<=cells.length) then Ef place (yR off c.cells cells) rest else none
def T4:∀(vs:List Value) (off k:Nat) (cells:Array Value),off+k+vs.length<=cells.size->
  ((vs.zipIdx k).foldl (λcs (p:Value×Nat)=>cs.setIfInBounds (off+p.2) p.1) cells).size=cells.size/\
  ∀j:Nat,((vs.zipIdx k).foldl (λcs (p:Value×Nat)=>cs.setIfInBounds (off+p.2) p.1) cells)[j]?=if off+k<=j/\j<off+k+vs.length then vs[j-(off+k)]? else cells[j]?
 |[],off,k,cells,h=>⟨rfl,λj=>by rw[pw (by simp)];rfl⟩
 |v::vs,off,k,cells,h=>by
  simp only[List.zipIdx_cons,iI,rF]at h ⊢;have ih:=T4 vs off (k+1) (cells.setIfInBounds (off+k) v) (by simp;omega);refine⟨by rw[ih.1];simp,?_⟩;intro j;rw[ih.2 j];by_cases h1:off+k=j
  ·subst h1;rw[pw (by omega),pA (by omega),fF];simp;omega
  ·by_cases h2:off+(k+1)<=j/\j<off+(k+1)+vs.length
   ·rw[pA h2,pA (by omega),show j-(off+k)=(j-(off+(k+1)))+1 from by omega];simp
   ·rw[pw h2,pw (by omega),fF];simp[h1]
def KS{E:Env}{place:Nat->Option (Nat×Nat)}{ρ:Operand->C}{σ:Operand->Value}:∀(parts:List (Nat×Operand)) (cs:List C) (arr:Array Value),LL E cs arr.toList->(∀u∈arr,u.oneCell'=true)->cs.all zB=true->
  (∀p∈parts,L E (ρ p.2) (σ p.2))->∀cs',Ef place cs (parts.map λp=>(p.1,ρ p.2))=some cs'->
  ∃arr',Instr.fill place arr (parts.map λp=>(p.1,σ p.2))=some arr'/\LL E cs' arr'.toList/\(∀u∈arr',u.oneCell'=true)/\cs'.all zB=true
 |[],cs,arr,hl,h1,hno,_,cs',h=>by
  simp only[fE,Ef,p9]at h;subst h;exact⟨arr,rfl,hl,h1,hno⟩
 |(i,x)::rest,cs,arr,hl,h1,hno,hp,cs',h=>by
  simp only[se,Ef]at h;split at h
  ·cases h
  ·rename_i off size hpl;split at h
   ·rename_i hcond;simp only[pG,rJ,pQ]at hcond;obtain⟨⟨hv,hsz⟩,hfit⟩:=hcond;have hx:=hp (i,x) (by simp);obtain⟨hll,hone,hnoc⟩:=Ni hx hv;have hlen:(σ x).cells.size=size:=by have:=hll.1;simp at this;omega
    have hal:arr.size=cs.length:=by have:=hl.1;simp at this;omega
    obtain⟨vs,hvs⟩:∃vs,vs=(σ x).cells.toList:=⟨_,rfl⟩;have hvl:vs.length=size:=by rw[hvs];simpa using hlen
    have hfold:=T4 vs off 0 arr (by omega)
    have hfe:(σ x).cells.zipIdx.foldl (λcs (p:Value×Nat)=>cs.setIfInBounds (off+p.2) p.1) arr=(vs.zipIdx 0).foldl (λcs (p:Value×Nat)=>cs.setIfInBounds (off+p.2) p.1) arr:=by
     rw[<-Array.foldl_toList,Array.toList_zipIdx,hvs]
    obtain⟨arr2,harr2⟩:∃arr2,arr2=(vs.zipIdx 0).foldl (λcs (p:Value×Nat)=>cs.setIfInBounds (off+p.2) p.1) arr:=⟨_,rfl⟩;rw[<-harr2]at hfold hfe;have hcl:(ρ x).cells.length=size:=hsz
    have hl2:LL E (yR off (ρ x).cells cs) arr2.toList:=by
     refine⟨by rw[RA (by omega)];simp[hfold.1,hal],?_⟩;intro j c y hc hy;rw[Sh (by omega)]at hc;rw[rG,hfold.2 j]at hy;simp only[uk]at hy;split at hc
     ·rename_i hin;rw[pA (by omega)]at hy;exact hll.2 _ c y hc (by rw[<-hvs];exact hy)
     ·rename_i hin;rw[pw (by omega)]at hy;exact hl.2 j c y hc (by simpa using hy)
    have hone2:∀u∈arr2,u.oneCell'=true:=by
     intro u hu;obtain⟨j,hj⟩:=iu.1 hu;rw[hfold.2 j]at hj;split at hj
     ·have:=pq hj;rw[hvs]at this;exact hone u (by simpa using this)
     ·exact h1 u (uu hj)
    have hno2:(yR off (ρ x).cells cs).all zB=true:=by
     rw[pH];intro c hc;unfold yR at hc;simp only[pV]at hc;rcases hc with(hc|hc)|hc
     ·exact pH.1 hno c (sT hc)
     ·exact pH.1 hnoc c hc
     ·exact pH.1 hno c (uy hc)
    obtain⟨arr',e1,e2,e3,e4⟩:=KS rest _ arr2 hl2 hone2 hno2 (λp hpm=>hp p (by simp[hpm])) cs' h;refine⟨arr',?_,e2,e3,e4⟩;simp only[se,Instr.fill,hpl];rw[pw (by simp[hlen];omega),hfe];exact e1
   ·cases h
def Ld(P:Program)(t:TypeId)(parts:List (Nat×C)):Option (List C):=
 match Bx P t,P.underlying t with
 |some z,some (.array _ e)=>
  match P.info? e with
  |some ie=>Ef (λi=>some (i*ie.size,ie.size)) z parts
  |none=>none
 |some z,some (.struct fields)=>
  match fields.toList.mapM (λf=>(P.info? f.type).map λi=>(f.offset,i.size)) with
  |some places=>Ef (places.toArray[·]?) z parts
  |none=>none
 |_,_=>none
def jg.build(t:TypeId)(parts:Array (Nat×Operand))(ho:o.op=.build t parts){cs:List C}(hb:Ld P t (parts.toList.map λp=>(p.1,ρ p.2))=some cs):jg P o ρ H (.agg cs) H:=λw E σ hh hl K hk=>by
 have hp:∀p∈parts.toList,L E (ρ p.2) (σ p.2):=λp hpm=>hl p.2 (by
  simp only[ho,Op.operands];exact(iA).2 (pZ.2 ⟨p,hpm,rfl⟩))
 have main:∃arr,P.built t (parts.map λ(i,x)=>(i,σ x)).toList=some arr/\LL E cs arr.toList/\(∀u∈arr,u.oneCell'=true):=by
  have e0:(parts.map λ(i,x)=>(i,σ x)).toList=parts.toList.map λp=>(p.1,σ p.2):=by simp
  rw[e0];unfold Ld at hb;split at hb
  ·rename_i z n e hz hu;split at hb
   ·rename_i ie hie;obtain⟨it,zv,h1,h2,h3,h4,h5,h6,h7⟩:=HR hz E;obtain⟨arr,a1,a2,a3,a4⟩:=KS parts.toList z zv.cells h3 h4 h6 hp cs hb;exact⟨arr,by simp only[Program.built,h1,hu,h2,hie];exact a1,a2,a3⟩
   ·cases hb
  ·rename_i z fields hz hu;split at hb
   ·rename_i places hpl;obtain⟨it,zv,h1,h2,h3,h4,h5,h6,h7⟩:=HR hz E;obtain⟨arr,a1,a2,a3,a4⟩:=KS parts.toList z zv.cells h3 h4 h6 hp cs hb;exact⟨arr,by simp only[Program.built,h1,hu,h2,hpl];exact a1,a2,a3⟩
   ·cases hb
  ·cases hb
 obtain⟨arr,h1,h2,h3⟩:=main
 have hr:(execOp σ o).run P w=.ok (.value (.agg arr)) w:=by
  unfold execOp;simp only[ho,Sem.run_bind,run_build w t _ arr h1,Result.andThen_ok]
  rfl
 rw[hr];exact hk _ w E hh (.agg cs arr (by simpa using h2.1) (λi c y e1 e2=>h2.2 i c y e1 (by simpa using e2)) h3) (qW.refl w E H)
def jg.len(cl:Call)(ho:o.op=.call cl)(hcl:cl.callee=.builtin .len)(x:Operand)(hx:cl.args= #[x]){t:TypeId}(ht:cl.argTypes= #[t]){e:TypeId}(hu:P.underlying t=some (.slice e))
 {n:Nat}(hn:JE (ρ x)=some n):jg P o ρ H (.v (.int .i64 n)) H:=λw E σ hh hl K hk=>by
 have h0:=hl x (by simp[ho,Op.operands,Call.operands,hcl,hx])
 have hv:∃a cap,σ x=.slice a n cap:=by
  generalize ρ x=c at *;generalize σ x=u at *;cases h0 <;> first|(simp[JE]at hn;done)|(simp only[JE,p9]at hn;subst hn;exact⟨_,_,rfl⟩)
 obtain⟨a,cap,hv⟩:=hv
 have hr:(execOp σ o).run P w=.ok (.value (.int .i64 n)) w:=by
  unfold execOp;simp[ho,resolve,hcl,hx,ht,invoke,builtin,Builtin.len_,hv,run_underlying hu,goInt]
 rw[hr];exact hk _ w E hh (.v _ O) (qW.refl w E H)
def DF(P:Program)(t:TypeId)(cs:List C)(off:Nat):Option C:=
 match P.underlying t,P.info? t with
 |some d,some i=>if GA d then (if decide (off+i.size<=cs.length) then some (.agg ((cs.drop off).take i.size)) else none) else cs[off]?
 |_,_=>none
def Gn{E:Env}{w:World}{t:TypeId}{cs:List C}{ys:Array Value}(hll:LL E cs ys.toList)(h1:∀y∈ys,y.oneCell'=true){off:Nat}{c:C}(hc:DF P t cs off=some c):
  ∃y,(part t ys off).run P w=.ok y w/\L E c y:=by
 unfold DF at hc;split at hc
 ·rename_i d i hd hi;split at hc
  ·rename_i hag;split at hc
   ·rename_i hlen;simp only[pQ]at hlen;cases hc
    have hy:=hll.1;simp at hy;refine⟨.agg (ys.extract off (off+i.size)),by simp[part,Gf hd,hag,jZ hi],.agg _ _ (by simp;omega) ?_ ?_⟩
    ·intro k c y hc hy';rw[ru]at hc;split at hc
     ·rename_i hk;rw[sr]at hc;rw[Array.getElem?_extract]at hy';split at hy'
      ·exact hll.2 _ c y hc (by simpa using hy')
      ·cases hy'
     ·cases hc
    ·intro y hym;obtain⟨k,hk⟩:=iu.1 hym;rw[Array.getElem?_extract]at hk;split at hk
     ·exact h1 y (uu hk)
     ·cases hk
   ·cases hc
  ·rename_i hag;obtain⟨y,hy,hly⟩:=hll.get hc;rw[rG]at hy;exact⟨y,by simp[part,Gf hd,hag,hy],hly⟩
 ·cases hc
def jg.field(t:TypeId)(x:Operand)(f:Nat)(ho:o.op=.field t x f){fs:Array Field}{fd:Field}(ht:P.underlying t=some (.struct fs))(hf:fs[f]?=some fd){cs:List C}(hx:ρ x=.agg cs){c:C}
 (hc:DF P fd.type cs fd.offset=some c):jg P o ρ H c H:=λw E σ hh hl K hk=>by
 have h0:=hl x (by simp[ho,Op.operands]);rw[hx]at h0
 obtain⟨ys,hy,hll,h1⟩:∃ys,σ x=.agg ys/\LL E cs ys.toList/\∀y∈ys,y.oneCell'=true:=by
  generalize σ x=u at *;cases h0 with
  |agg _ ys h1 h2 h3=>exact⟨ys,rfl,⟨by simpa using h1,λi c y e1 e2=>h2 i c y e1 (by simpa using e2)⟩,h3⟩
 obtain⟨y,hr0,hly⟩:=Gn (w:=w) hll h1 hc
 have hr:(execOp σ o).run P w=.ok (.value y) w:=by
  unfold execOp;simp[ho,Instr.field,run_underlying ht,hf,hy,asAgg,hr0]
 rw[hr];exact hk _ w E hh hly (qW.refl w E H)
def jg.zrX(t:TypeId)(x y:Operand)(ho:o.op=.index t x y){n:Nat}{e:TypeId}{i:TypeInfo}(ht:P.underlying t=some (.array n e))(hi:P.info? e=some i){cs:List C}(hx:ρ x=.agg cs)
 {k:IntKind}{j:Int}(hy:ρ y=.v (.int k j))(h0:0<=j)(h1:j<n){c:C}(hc:DF P e cs (j.toNat*i.size)=some c):jg P o ρ H c H:=λw E σ hh hl K hk=>by
 have hlx:=hl x (by simp[ho,Op.operands]);have hly:=hl y (by simp[ho,Op.operands]);rw[hx]at hlx;rw[hy]at hly
 obtain⟨ys,hyx,hll,hone⟩:∃ys,σ x=.agg ys/\LL E cs ys.toList/\∀y∈ys,y.oneCell'=true:=by
  generalize σ x=u at *;cases hlx with
  |agg _ ys h1 h2 h3=>exact⟨ys,rfl,⟨by simpa using h1,λi c y e1 e2=>h2 i c y e1 (by simpa using e2)⟩,h3⟩
 have hyv:σ y=.int k j:=by generalize σ y=u at *;cases hly;rfl
 obtain⟨y',hr0,hly'⟩:=Gn (w:=w) hll hone hc
 have hr:(execOp σ o).run P w=.ok (.value y') w:=by
  unfold execOp;simp[ho,Instr.index,asIntOf,hyv,run_underlying ht,hyx,h0,h1,jZ hi,hr0]
 rw[hr];exact hk _ w E hh hly' (qW.refl w E H)
end
section
variable {P:Program} {o:Oper} {ρ:Operand->C} {H:zo}
def ym(H:zo):C->Option (Nat×List (List C))
 |.lq o sz rows=>if o == 0 || o == 1 then some (sz,rows) else none
 |.sl id hops sz lo len _=>match H[id]?,qm H id hops with
  |some ob,some (sz',rows)=>if (sz' == sz) && (ob.kind == 2) && decide (lo+len<=rows.length) && ((rows.drop lo).take len).all (·.all zB) then some (sz,(rows.drop lo).take len) else none
  |_,_=>none
 |_=>none
structure AH(E:Env)(sz:Nat)(rows:List (List C))(vals:List Value):Prop where
 len:vals.length=rows.length*sz
 row:∀r∈rows,r.length=sz
 cell:∀i k c,cellAt rows i k=some c->∃u,vals[i*sz+k]?=some u/\L E.shut c u
 one:∀u∈vals,u.oneCell'=true
def Kl{rows:List (List C)}{sz:Nat}(hrow:∀r∈rows,r.length=sz){i k:Nat}{c:C}(h:cellAt rows i k=some c):i<rows.length/\k<sz:=by
 unfold cellAt at h;cases hx:rows[i]? with
 |none=>rw[hx]at h;cases h
 |some r=>
  rw[hx]at h;refine⟨(gZ.1 hx).1,?_⟩;rw[<-hrow r (pq hx)];exact(gZ.1 h).1
def JR{rows:List (List C)}{sz:Nat}(hrow:∀r∈rows,r.length=sz){i k:Nat}(hi:i<rows.length)(hk:k<sz):∃c,cellAt rows i k=some c:=by
 have hr:rows[i]?=some rows[i]:=by simp[hi]
 have hl:=hrow _ (pq hr);exact⟨rows[i][k]'(by omega),by simp only[cellAt,hr,rh];exact pa (by omega)⟩
def MV{sz n j:Nat}(h:j<n*sz):j / sz<n/\j%sz<sz/\j / sz*sz+j%sz=j:=by
 have hsz:0<sz:=by rcases fh sz with rfl|h' <;> simp_all
 refine⟨Nat.div_lt_of_lt_mul (by rw[fA];exact h),iJ _ hsz,?_⟩;rw[fA];exact Nat.div_add_mod j sz
def AH.append{E:Env}{sz:Nat}{rows rows':List (List C)}{vals vals':List Value}(h:AH E sz rows vals)(h':AH E sz rows' vals'):AH E sz (rows++rows') (vals++vals') where
 len:=by rw[pL,pL,h.len,h'.len,sL]
 row r hr:=by rcases pV.1 hr with hr|hr;exact h.row r hr;exact h'.row r hr
 cell i k c hc:=by
  by_cases hi:i<rows.length
  ·have hc':cellAt rows i k=some c:=by unfold cellAt at hc ⊢;rw[pD hi]at hc;exact hc
   obtain⟨u,hu,hl⟩:=h.cell i k c hc';exact⟨u,by rw[pD ((gZ.1 hu).1)];exact hu,hl⟩
  ·have hc':cellAt rows' (i-rows.length) k=some c:=by unfold cellAt at hc ⊢;rw[pT (by omega)]at hc;exact hc
   obtain⟨u,hu,hl⟩:=h'.cell _ k c hc';refine⟨u,?_,hl⟩;have hge:rows.length*sz<=i*sz:=sC _ (by omega);rw[pT (by rw[h.len];omega),h.len];have:i*sz+k-rows.length*sz=(i-rows.length)*sz+k:=by rw[Nat.sub_mul];omega
   rw[this];exact hu
 one u hu:=by rcases pV.1 hu with hu|hu;exact h.one u hu;exact h'.one u hu
def vw{w:World}{E:Env}(h:qv w E H){c:C}{y:Value}(hl:L E c y){sz:Nat}{rows:List (List C)}(hr:ym H c=some (sz,rows)):
  (rows=[]/\y=.slice none 0 0)\/∃a cap vals,y=.slice (some a) rows.length cap/\rows.length<=cap/\AH E sz rows vals/\(∀(j:Nat) u,vals[j]?=some u->w.cell? (a.add j)=some u):=by
 cases hl with
 |xR o sz' ho a=>
  simp only[ym]at hr;split at hr
  ·cases hr
   cases a with
   |none=>exact .inl ⟨rfl,rfl⟩
   |some a=>exact .inr ⟨a,0,[],rfl,pI _,⟨by simp,by simp,by simp[cellAt],by simp⟩,by simp⟩
  ·cases hr
 |lq o sz' rows' b off cap us ho hc hsz hst hL=>
  simp only[ym]at hr;split at hr
  ·cases hr
   right
   have key:∀j,j<rows.length*sz->∃c,cellAt rows (j / sz) (j%sz)=some c/\E.St b (off+j)=some (us (j / sz) (j%sz)):=by
    intro j hj;obtain⟨h1,h2,h3⟩:=MV hj;obtain⟨c,hcc⟩:=JR hsz h1 h2;refine⟨c,hcc,?_⟩;have hr0:rows[j / sz]?=some rows[j / sz]:=by simp[h1]
    have:=hst (j / sz) _ (j%sz) c hr0 (by unfold cellAt at hcc;rw[hr0]at hcc;exact hcc);rw[uh,h3]at this;exact this
   refine⟨_,cap,(List.range (rows.length*sz)).map (λj=>us (j / sz) (j%sz)),rfl,hc,⟨by simp,hsz,?_,?_⟩,?_⟩
   ·intro i k c hcc;obtain⟨h1,h2⟩:=Kl hsz hcc;have hr0:rows[i]?=some rows[i]:=by simp[h1]
    have lu:i*sz+k<rows.length*sz:=by
     have:(i+1)*sz<=rows.length*sz:=sC _ h1;rw[sL]at this;omega
    have e1:(i*sz+k) / sz=i:=by rw[fA,Nat.mul_add_div (by omega),i4 h2];rfl
    have e2:(i*sz+k)%sz=k:=by rw[fA,i6,fM h2]
    refine⟨us i k,by simp[lu,e1,e2],hL i _ k c hr0 (by unfold cellAt at hcc;rw[hr0]at hcc;exact hcc)⟩
   ·intro u hu;obtain⟨j,hj,rfl⟩:=pZ.1 hu;obtain⟨c,_,hs⟩:=key j (by simpa using hj);exact(h.qJ _ _ _ hs).2
   ·intro j u hj;rw[pj]at hj;cases hjr:(List.range (rows.length*sz))[j]? with
    |none=>rw[hjr]at hj;cases hj
    |some j'=>
     rw[hjr]at hj;obtain⟨hjlt,hj'⟩:=gZ.1 hjr;simp at hj' hjlt;subst hj';cases hj
     obtain⟨c,_,hs⟩:=key j hjlt;rw[yx];exact(h.qJ _ _ _ hs).1
  ·cases hr
 |sl id hops sz' lo len full cap hn hlen hf hf'=>
  simp only[ym]at hr;split at hr
  rotate_left
  ·cases hr
  rename_i ob sz2 rows2 hob hb;split at hr
  rotate_left
  ·cases hr
  rename_i hcond;simp only[pG,rJ,pQ,pH]at hcond;obtain⟨⟨⟨rfl,hkd⟩,hfit⟩,hno⟩:=hcond;cases hr
  right
  have hB:=h.lZ id ob hops _ rows2 hob hb;obtain⟨cur,e,hg,hcs,hcell⟩:=hB.lZ;have hrl:((rows2.drop lo).take len).length=len:=by simp;omega
  have hsub:∀i k,cellAt ((rows2.drop lo).take len) i k=if i<len then cellAt rows2 (lo+i) k else none:=by
   intro i k;unfold cellAt;rw[ru];split
   ·rw[sr]
   ·rfl
  have hrow:∀r∈(rows2.drop lo).take len,r.length=sz:=λr hr=>hB.row r (uy (sT hr))
  have key:∀j,j<len*sz->∃c u,cellAt ((rows2.drop lo).take len) (j / sz) (j%sz)=some c/\cur[lo*sz+j]?=some u/\L E.shut c u/\u.oneCell'=true:=by
   intro j hj;obtain⟨h1,h2,h3⟩:=MV hj;obtain⟨c,hcc⟩:=JR hrow (by rw[hrl];exact h1) h2;have hcc2:=hcc;rw[hsub,pA h1]at hcc2;obtain⟨u,hu,ho⟩:=hcell _ _ c hcc2
   have hnc:zB c=true:=by
    unfold cellAt at hcc;cases hx:((rows2.drop lo).take len)[j / sz]? with
    |none=>rw[hx]at hcc;cases hcc
    |some r=>
     rw[hx]at hcc;exact hno r (pq hx) c (pq hcc)
   rw[jx.loose hnc]at ho;refine⟨c,u,hcc,?_,by simpa [Env.at,hkd] using ho.1,ho.2⟩;have:(lo+j / sz)*sz+j%sz=lo*sz+j:=by rw[sL];omega
   rw[<-this];exact hu
  have hlen2:len=((rows2.drop lo).take len).length:=hrl.symm;refine⟨_,cap,(List.range (len*sz)).map (λj=>cur.getD (lo*sz+j) undef),by rw[<-hlen2],by rw[<-hlen2];exact hlen,⟨by simp[hrl],hrow,?_,?_⟩,?_⟩
  ·intro i k c hcc;obtain⟨h1,h2⟩:=Kl hrow hcc;rw[hrl]at h1
   have lu:i*sz+k<len*sz:=by
    have:(i+1)*sz<=len*sz:=sC _ h1;rw[sL]at this;omega
   obtain⟨c',u,h3,h4,h5,_⟩:=key _ lu;have e1:(i*sz+k) / sz=i:=by rw[fA,Nat.mul_add_div (by omega),i4 h2];rfl
   have e2:(i*sz+k)%sz=k:=by rw[fA,i6,fM h2]
   rw[e1,e2,hcc]at h3;cases h3
   refine⟨u,?_,h5⟩;simp only[pj,sV lu,pM,rV,h4,Option.getD_some]
  ·intro u hu;obtain⟨j,hj,rfl⟩:=pZ.1 hu;obtain⟨c,u,_,h4,_,h6⟩:=key j (by simpa using hj);simpa [rV,h4] using h6
  ·intro j u hj;rw[pj]at hj;cases hjr:(List.range (len*sz))[j]? with
   |none=>rw[hjr]at hj;cases hj
   |some j'=>
    rw[hjr]at hj;obtain⟨hjlt,hj'⟩:=gZ.1 hjr;simp at hj' hjlt;subst hj';obtain⟨c,u',_,h4,_,_⟩:=key j hjlt;simp only[pM,rV,h4,Option.getD_some,p9]at hj;subst hj;rw[yx];unfold World.cell?;rw[hg];simpa using h4
 |_=>simp[ym]at hr
end
abbrev mF(l:List C):List C:=.za::.za::.za::.za::.za::.za::.za::.za::l
abbrev jp(l:List C):List C:=mF (mF (mF (mF l)))
abbrev tn:List C:=[.ref 5 [] 8 0 0,.ref 6 [] 44 0 0]
abbrev to:List C:=[.ref 0 [] 8 0 0,.ref 1 [] 44 0 0]
def zz{H:zo}{q:Prop}(h:q):H=H/\q:=⟨rfl,h⟩
def dd{p q:Prop}(h:q)(e:q→p:=by intro zh;(conv=>whnf);(try apply zz;conv=>whnf);exact zh):p:=e h
def ya{p q:Prop}(h:p):(true=true→p)/\(true=false→q):=⟨λ_=>h,λh=>nomatch h⟩
def yb{p q:Prop}(h:q):(false=true→p)/\(false=false→q):=⟨λh=>(nomatch h),λ_=>h⟩
def tc{p:Prop}(n:p:=by (conv=>whnf);(repeat (refine⟨rfl,?_⟩;(conv=>whnf)));exact trivial):p:=n
def td{g q:Prop}(h:q)(e:q->g:=by intro zh;(repeat (refine⟨rfl,?_⟩;(conv=>whnf)));exact zh):g:=e h
def tf{g q:Prop}(h:q)(e:q->g:=by intro zh;(repeat ((first|apply ya|apply yb);(conv=>whnf);(try apply zz;conv=>whnf)));exact zh):g:=e h
def tj{α:Type}{l:List α}{k:Nat}{x:α}{P:α->Prop}{q:Prop}(hg:l[k]?=some x)(h:q)(e:q->P x:=by intro zh;(conv=>whnf);(try apply zz;conv=>whnf);exact zh):0<=(k:Int)/\∃r,l[(k:Int).toNat]?=some r/\P r:=⟨ua k,x,hg,e h⟩
def uA{a b p s q:Prop}(h:q)(n:b->False:=by intro h;first|(simp[hpc]at h;done)|(have h:=pF h;omega)|(have h:=sK h;omega))(e:q->p:=by intro zh;(conv=>whnf);(try apply zz;conv=>whnf);exact zh):(a->p)/\(b->s):=⟨λ_=>e h,λx=>(n x).elim⟩
def uB{a b p s q:Prop}(h:q)(n:a->False:=by intro h;first|(simp[hpc]at h;done)|(have h:=pF h;omega)|(have h:=sK h;omega))(e:q->s:=by intro zh;(conv=>whnf);(try apply zz;conv=>whnf);exact zh):(a->p)/\(b->s):=⟨λx=>(n x).elim,λ_=>e h⟩
def uC{g q:Prop}(h:q)(e:q->g:=by intro zh;(first|apply ya|apply yb);(conv=>whnf);(try apply zz;conv=>whnf);exact zh):g:=e h
def uD{g q:Prop}(h:q)(e:q->g:=by intro zh;(conv=>whnf);(refine⟨λh=>absurd h (by simp),λ_=>?_⟩);(conv=>whnf);(try apply zz;conv=>whnf);(refine⟨by simp,?_⟩);(conv=>whnf);exact zh):g:=e h
def uE{g q:Prop}(h:q)(e:q->g:=by intro zh;refine .inl ⟨⟨false,[],[],[]⟩,by kernel_rfl,?_⟩;(conv=>whnf);exact zh):g:=e h
def uF{a b p s q:Prop}(h:q)(n:b->False:=by intro h;exact absurd h (by simp;omega))(e:q->p:=by intro zh;(conv=>whnf);(try apply zz;conv=>whnf);exact zh):(a->p)/\(b->s):=⟨λ_=>e h,λx=>(n x).elim⟩
def uG{g q:Prop}(h:q)(e:q->g:=by intro zh;refine⟨λh=>absurd h (by simp),λ_=>?_⟩;(conv=>whnf);(try apply zz;conv=>whnf);exact zh):g:=e h
def uH{g q:Prop}(h:q)(e:q->g:=by intro zh;(conv=>whnf);exact zh):g:=e h
def uI{g:Prop}(e:g:=by exact⟨.inl O,_,.refl _,rfl⟩):g:=e
def uJ{g:Prop}(e:g:=by exact⟨.inl O,_,.refl _,rfl,rfl⟩):g:=e
def uK{p q:Prop}(n:p->q:=by intro h;dsimp only at h;omega):p->q:=n
def uL{p:Prop}(n:p:=by dsimp only;omega):p:=n
def uM{p:Prop}(n:p:=by (try dsimp only);(repeat' split) <;> omega):p:=n
def uN{b b2:Bool}(h:b=b2):some (C.v (Value.bool b))=some (C.v (Value.bool b2)):=sF (λb=>some (C.v (Value.bool b))) h
def uO{p:Prop}(n:p:=by exact⟨tm.listen,tm.word,tm.link,tm.host,tm.path,tm.d0,tm.d1,tm.cfg,tm.AY⟩):p:=n
def uP{p:Prop}(n:p:=by exact⟨tm.listen,tm.word,tm.link,tm.host,tm.path,tm.d0,tm.d1,tm.cfg,(λh=>absurd ((show m.op.kind=6 from h).symm.trans hk) (by decide))⟩):p:=n
def uQ{p:Prop}(n:p:=by exact⟨su.world,su.zg,su.done,su.version,su.mu,su.zi,su.mn,su.end_,su.mM,su.other,su.slot,su.listen,su.i,su.k⟩):p:=n
def uR{p:Prop}(n:p:=by exact⟨su.world,su.zg,su.done,su.version,su.mu,su.zi,su.mn,su.end_,su.mM,su.other,su.slot,su.listen,(by show 0<=m.i+1;omega),su.k⟩):p:=n
def uS{p:Prop}(n:p:=by exact⟨su.world,su.zg,su.done,su.version,su.mu,su.zi,su.mn,su.end_,su.mM,su.other,su.slot,su.listen,p8 _,su.k⟩):p:=n
def uT{p:Prop}(n:p:=by (show zR _ _::zR _ _::zR _ ⟨1,0,5,_,0⟩::zR _ ⟨1,0,2,_,0⟩::zR _ ⟨1,0,3,_,0⟩::_=_);(rw[zN (enc:=zJ) (λ_=>O),zN (enc:=zI) (λ_=>O),zN (enc:=zF) (λ_=>O)]);rfl):p:=n
def uU{p:Prop}(n:p:=by (show zL _ _::zL _ _::zL _ ⟨1,0,5,_,0⟩::zL _ ⟨1,0,2,_,0⟩::zL _ ⟨1,0,3,_,0⟩::_=_);(rw[zH (enc:=zJ) (λ_=>O),zH (enc:=zI) (λ_=>O),zH (enc:=zF) (λ_=>O)]);rfl):p:=n
def uV{p:Prop}(n:p:=by show _::_::_::_::_::zL _ ⟨1,0,5,_,0⟩::zL _ ⟨1,0,2,_,0⟩::zL _ ⟨1,0,3,_,0⟩::_=_;rw[zH (enc:=zJ) (λ_=>O),zH (enc:=zI) (λ_=>O),zH (enc:=zF) (λ_=>O)];rfl):p:=n
def uW{p:Prop}(n:p:=by simp only[pL,rF,u1];omega):p:=n
def uX{p:Prop}(n:p:=by simp[ho,Op.operands]):p:=n
def uY{p:Prop}(n:p:=by show(1:Int)≠0;decide):p:=n
def uZ{p:Prop}(n:p:=by simpa using e2):p:=n
def tB{p:Prop}(n:p:=by simp[ho,Op.operands,Call.operands,ht.callee,ht.args]):p:=n
def tD{p:Prop}(n:p:=by rw[hs.heap.n];exact hs.base):p:=n
def tE{p:Prop}(n:p:=by simpa using h1):p:=n
def tG{p:Prop}(n:p:=by show zR _ _::zR _ _::zR _ ⟨1,0,5,_,0⟩::zR _ ⟨1,0,2,_,0⟩::zR _ ⟨1,0,3,_,0⟩::_=_;rw[zN (enc:=zJ) (λ_=>O),zN (enc:=zI) (λ_=>O),zN (enc:=zF) (λ_=>O)];rfl):p:=n
def tH{p:Prop}(n:p:=by rw[<-hh.n];exact hi):p:=n
def tI{p:Prop}(n:p:=by simp only[pL,rF];omega):p:=n
def tJ{p:Prop}(n:p:=by simp only[pL];omega):p:=n
def tK{p:Prop}(n:p:=by rw[hx];exact pY hk):p:=n
def tL{p:Prop}(n:p:=by show _::_::_::_::_::zL _ ⟨1,0,1,_,0⟩::_=_;rw[zH (enc:=zT) (λ_=>O)];rfl):p:=n
def tM{p:Prop}(n:p:=by show 0+1<=1;decide):p:=n
def tN{p:Prop}(n:p:=by rw[show B=0 from by simpa using h];rfl):p:=n
def tO{p:Prop}(n:p:=by simpa using le):p:=n
def tP{p:Prop}(n:p:=by subst e;simp[ho,Op.operands]):p:=n
def tR{p:Prop}(n:p:=by show(3:Int)≠0;decide):p:=n
def tS{p:Prop}(n:p:=by simpa using h2):p:=n
def tT{p:Prop}(n:p:=by simpa using lg):p:=n
def tU{p:Prop}(n:p:=by show(2:Int)≠0;decide):p:=n
def tY{p:Prop}(n:p:=by rw[hh.n];exact hi):p:=n
def tZ{p:Prop}(n:p:=by first|(simp;omega)|simp):p:=n
def hC{p:Prop}(n:p:=by rw[hx];exact pY hi):p:=n
def hU{p:Prop}(n:p:=by simpa using lv):p:=n
def hZ{p:Prop}(n:p:=by simpa using this.1):p:=n
def mB{p:Prop}(n:p:=by simpa using lu):p:=n
end Go.Ab
