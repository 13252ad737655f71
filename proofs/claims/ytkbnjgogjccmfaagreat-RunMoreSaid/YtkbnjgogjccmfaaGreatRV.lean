import Derived.Test.YtkbnjgogjccmfaaGreatRU
set_option linter.all false
set_option maxRecDepth 100000
set_option maxHeartbeats 4000000
namespace Go.Wor
open Go.Ab Go.Proofs Tryz Go.Hy Go.Gat Go.Nam Go.Hos Go.Con Go.Sna
abbrev Cm (m:uk):C:=.agg (zD m)
def zY (w:Wor) (m:uk):Bool:=xC w && fF m.zj w.pins.length && !m.done && fF m.version w.ze.length && (match w.ze[m.version.toNat]? with
 | none=>false
 | some v=>fF m.zg v.zm.length && (match v.zm[m.zg.toNat]? with
  | none=>false
  | some g=>fF m.end_ g.ends.length && fF m.other g.ends.length && (match g.ends[m.end_.toNat]? with
   | none=>false
   | some e=>fF m.slot e.next.length) && (fF (m.listen+1) (w.zd.length+1) && decide (0<=m.i) && decide (0<=m.k))))
def yT {i n:Int}:fF i n=true↔0<=i∧i < n:=by unfold fF;simp
structure qH (w:Wor) (m:uk) (v:uq) (g:Gr) (e:En):Prop where
 world:xC w=true
 zj:0<=m.zj∧m.zj < w.pins.length
 done:m.done=false
 version:0<=m.version∧m.version < w.ze.length
 eF:w.ze[m.version.toNat]?= some v
 zg:0<=m.zg∧m.zg < v.zm.length
 u9:v.zm[m.zg.toNat]?= some g
 end_ : 0 <= m.end_ ∧ m.end_ < g.ends.length
 eE:g.ends[m.end_.toNat]?= some e
 other:0<=m.other∧m.other < g.ends.length
 slot:0<=m.slot∧m.slot < e.next.length
 listen: -1<=m.listen∧m.listen < w.zd.length
 i:0<=m.i
 k:0<=m.k
def kD {w:Wor} {m:uk} (h:zY w m=true):∃ v g e,qH w m v g e:=by
 unfold zY at h;simp only [dS,gR,yT] at h;obtain ⟨⟨⟨⟨h1,h2⟩,h3⟩,h4⟩,h5⟩:=h;split at h5
 ·cases h5
 rename_i v hv;simp only [dS,yT] at h5;obtain ⟨h5,h6⟩:=h5;split at h6
 ·cases h6
 rename_i g hg;simp only [dS,yT,dZ] at h6;obtain ⟨⟨⟨h6,h7⟩,h8⟩,⟨h9,h10⟩,h11⟩:=h6;split at h8
 ·cases h8
 rename_i e he;simp only [yT] at h8;exact ⟨v,g,e,h1,h2,h3,h4,hv,h5,hg,h6,he,h7,h8,aw,h10,h11⟩
def zO (w:Wor) (m:uk) (hw:eR w) (hm:i64 m.listen):tn 112 [] [Cw w,Cm m] (Bo (zY w m)) []:=by
 have m1:(w.pins.map encI).length=w.pins.length:=dP ..;have m2:(w.ze.map zF).length=w.ze.length:=dP ..;have m3:(w.zd.map qF).length=w.zd.length:=dP ..;have b3:=hw.zd.1;have el:IntKind.i64.wrap ((w.zd.length:Int)+1)=(w.zd.length:Int)+1:=qZ aw aw
 have el2:fF (IntKind.i64.wrap (m.listen+1)) ((w.zd.length:Int)+1)=fF (m.listen+1) ((w.zd.length:Int)+1):=by
  by_cases hh:m.listen<=9223372036854775806
  ·rw [qZ (by have:=hm.1;omega) aw]
  ·have h9:m.listen=9223372036854775807:=by have:=hm.2;omega
   rw [h9];have h10:IntKind.i64.wrap (9223372036854775807+1)= -9223372036854775808:=ar
   rw [h10];unfold fF;rw [show decide ((0:Int)<= -9223372036854775808)=false from rfl,show decide ((9223372036854775807:Int)+1 < (w.zd.length:Int)+1)=false from aA];simp
 refine ab func112 ?_;refine ah (MR w hw) ?_;refine ⟨fun h1=>?_,fun h1=>?_⟩
 rotate_left
 ·(have e:zY w m=false:=by (unfold zY;(rw [h1]);simp));exact dG
 refine dd ?_;rw [m1];refine ah (kQ m.zj w.pins.length) ?_;refine ⟨fun h2=>?_,fun h2=>?_⟩
 rotate_left
 ·(have e:zY w m=false:=by (unfold zY;(rw [h2]);simp));exact dG
 refine dd ?_;refine ⟨fun h3=>?_,fun h3=>?_⟩
 ·(have e:zY w m=false:=by (unfold zY;(rw [h3]);simp));exact dG
 refine dd ?_;rw [m2];refine ah (kQ m.version w.ze.length) ?_;refine ⟨fun h4=>?_,fun h4=>?_⟩
 rotate_left
 ·(have e:zY w m=false:=by (unfold zY;(rw [h4]);simp));exact dG
 obtain ⟨c0,c1⟩:=yT.1 h4;have hv:w.ze[m.version.toNat]?= some (w.ze[m.version.toNat]'aw):=dK _;generalize w.ze[m.version.toNat]'aw=v at hv;have gv:(w.ze.map zF)[m.version.toNat]?= some (zF v):=by rw [dN,hv];rfl
 have m4:(v.zm.map zE).length=v.zm.length:=dP ..
 have g0:zY w m=(fF m.zg v.zm.length && (match v.zm[m.zg.toNat]? with
  | none=>false
  | some g=>fF m.end_ g.ends.length && fF m.other g.ends.length && (match g.ends[m.end_.toNat]? with
   | none=>false
   | some e=>fF m.slot e.next.length) && (fF (m.listen+1) (w.zd.length+1) && decide (0<=m.i) && decide (0<=m.k)))):=by
  unfold zY;rw [h1,h2,h3,h4,hv]
  rfl
 rw [g0];refine dd ?_;refine tc ?_
 refine ⟨c0,_,gv,dd ?_⟩;rw [m4];refine ah (kQ m.zg v.zm.length) ?_;refine ⟨fun h5=>?_,fun h5=>?_⟩
 rotate_left
 ·rw [h5];refine dd ?_;refine tc ?_
  exact uI
 obtain ⟨c2,c3⟩:=yT.1 h5;have hg:v.zm[m.zg.toNat]?= some (v.zm[m.zg.toNat]'aw):=dK _;generalize v.zm[m.zg.toNat]'aw=g at hg;have gg:(v.zm.map zE)[m.zg.toNat]?= some (zE g):=by rw [dN,hg];rfl
 have m5:(g.ends.map zx).length=g.ends.length:=dP ..;rw [h5,hg];dsimp only;refine dd ?_;refine tc ?_
 refine ⟨c2,_,gg,dd ?_⟩;refine uE ?_;rw [m5];refine ah (kQ m.end_ g.ends.length) ?_;refine ⟨fun h6=>?_,fun h6=>?_⟩
 rotate_left
 ·rw [h6];refine dd ?_;refine tc ?_
  exact uI
 obtain ⟨c4,c5⟩:=yT.1 h6;have he:g.ends[m.end_.toNat]?= some (g.ends[m.end_.toNat]'aw):=dK _;generalize g.ends[m.end_.toNat]'aw=e at he;have ge:(g.ends.map zx)[m.end_.toNat]?= some (zx e):=by rw [dN,he];rfl
 have m6:(e.next.map encI).length=e.next.length:=dP ..;rw [h6,he];dsimp only;refine dd ?_;rw [m5];refine ah (kQ m.other g.ends.length) ?_;refine ⟨fun h7=>?_,fun h7=>?_⟩
 rotate_left
 ·rw [h7];refine dd ?_;refine tc ?_
  exact uI
 rw [h7];refine dd ?_;refine ⟨c4,_,ge,dd ?_⟩;rw [m6];refine ah (kQ m.slot e.next.length) ?_;refine ⟨fun h8=>?_,fun h8=>?_⟩
 rotate_left
 ·rw [h8];refine dd ?_;refine tc ?_
  exact uI
 rw [h8];refine dd ?_;refine tc ?_
 rw [m3,el];have hin:=kQ (IntKind.i64.wrap (m.listen+1)) ((w.zd.length:Int)+1);rw [el2] at hin;refine ah hin ?_;refine ⟨fun h9=>?_,fun h9=>?_⟩
 rotate_left
 ·rw [h9];refine dd ?_;refine tc ?_
  exact uI
 rw [h9];refine dd ?_;refine ⟨fun h10=>?_,fun h10=>?_⟩
 rotate_left
 ·refine dd ?_;refine tc ?_
  (exact ⟨.inl rfl,_,.refl _,uN (by symm;simp at h10 ⊢;omega)⟩)
 refine dd ?_;refine ⟨fun h11=>?_,fun h11=>?_⟩
 ·refine dd ?_;refine tc ?_
  (exact ⟨.inl rfl,_,.refl _,uN (by symm;simp at h10 h11 ⊢;omega)⟩)
 ·refine dd ?_;refine tc ?_
  (exact ⟨.inl rfl,_,.refl _,uN (by symm;simp at h10 h11 ⊢;omega)⟩)
end Go.Wor
namespace Go.Ab
def vp {H:zl} {id i:Nat} {ob:Ob} (h:(xF H id)[i]?= some ob) (hk:ob.kind=4):H[i]?= some ob:=by
 rw [yM] at h;cases hx:H[i]? with
 | none=>rw [hx] at h;cases h
 | some o=>
  rw [hx] at h;simp only [dV,gj] at h;split at h
  ·subst h;cases hk
  ·rw [h]
def zo.forget {B:Nat} {s:S} (id:Nat):zo B s ⟨s.tmps,xF s.H id⟩:=fun m w E a hs=>by
 have hg:∀ {i b},qD E (xF s.H id) i b->qD E s.H i b:=fun ⟨ob,cap,h1,h2,h3,h4⟩=>⟨ob,cap,vp h1 h2,h2,h3,h4⟩
 have hr:∀ {i b},jt (xF s.H id) i b->jt s.H i b:=fun ⟨ob,o,t,h1,h2,h3,h4⟩=>⟨ob,o,t,vp h1 h2,h2,h3,h4⟩
 have h0:∀ {b},q7 E (xF s.H id) b->q7 E s.H b:=fun ⟨i,p,x,h1,h2⟩=>⟨i,p,x,(yD h1).2,h2⟩
 refine ⟨E,⟨⟨hs.heap.base.kill id,?_⟩,hs.tmps,hs.defers,by have:=hs.base;simp [xF];omega⟩,⟨Env.mw.refl B E,rfl,rfl,rfl,dU _,fun _ _ _=>rfl,fun _ _ _ h=>.inl h,?_⟩⟩
 ·exact {
   val:=fun i ob h1 h2=>hs.heap.um.val i ob (vp h1 h2) h2
   uy:=fun i b ob h1 h2=>hs.heap.um.uy i b ob (hg h1) (by obtain ⟨ob2,_,h3,h4,_⟩:=h1;rw [h2] at h3;cases h3;exact vp h2 h4)
   sep:=fun i b h1 h2=>hs.heap.um.sep i b (hg h1) (h0 h2)
   inj:=fun i j b h1 h2=>hs.heap.um.inj i j b (hg h1) (hg h2)
   st:=fun i b ob o u h1 h2 h3=>hs.heap.um.st i b ob o u (hg h1) (by obtain ⟨ob2,_,h4,h5,_⟩:=h1;rw [h2] at h4;cases h4;exact vp h2 h5) h3
   top:=fun i ob k u h1 h2 h3=>hs.heap.um.top i ob k u (vp h1 h2) h2 h3
   fg:=fun i ob o t h1 h2 h3=>hs.heap.um.fg i ob o t (vp h1 h2) h2 h3
   wb:=fun i j b h1 h2=>hs.heap.um.wb i j b (hr h1) (hr h2) }
 ·rintro b (hb | ⟨i,hb | hb⟩)
  ·exact .inr (.inl (h0 hb))
  ·exact .inr (.inr ⟨i,.inl (hg hb)⟩)
  ·exact .inr (.inr ⟨i,.inr (hr hb)⟩)
end Go.Ab
namespace Go.Wor
open Go.Ab Go.Proofs Tryz Go.Hy Go.Gat Go.Nam Go.Hos Go.Con Go.Sna
abbrev Ce (e:uv):C:=.agg (zR e)
abbrev wu:u3:=⟨0,0,0,0,0,0,0,⟨0,0,0,0,0,0⟩⟩
abbrev qz:uv:=⟨0,0,0,0,0,false,0,false,false,false,wu⟩
abbrev nq (n:Int):uv:=⟨0,0,1,1,0,false,n,false,false,false,wu⟩
def Uv (r:C) (H':zl):Prop:=∃ (b:Nat) (v0 v1 v2:Value),r=.v (.map (some b))∧H'=[Ag b [(0,v0,0),(1,v1,1),(2,v2,2)] 3 [.agg [.fn 174 [] []],.agg [.fn 176 [] []],.agg [.fn 177 [] []]]]
def NK:qB prog 139 [] [] Uv:=by
 refine qB.zS (fn:=f139) func139 rfl (uH ?_);intro b;refine dd ?_;refine jx.ql (id:=0) _ _ _ _ (.inr rfl) underlying240 underlying3 rfl rfl rfl rfl rfl ?_;intro v0;refine dd ?_;refine jx.ql (id:=0) _ _ _ _ (.inr rfl) underlying240 underlying3 rfl rfl rfl rfl rfl ?_;intro v1;refine dd ?_;refine jx.ql (id:=0) _ _ _ _ (.inr rfl) underlying240 underlying3 rfl rfl rfl rfl rfl ?_;intro v2;refine dd ?_;exact ⟨.inl rfl,_,_,.refl _,rfl,b,v0,v1,v2,rfl,rfl⟩
def z8 {P:Program} {f:FuncId} {fn:Func} {c:Code} {H H2:zl} {args:List C} {r:C} (hf:P.funcs[f]?= some fn) (hb:fn.body=some c) (hle:H.length<=H2.length)
  (h:wpA P H.length c (entry fn args) H fun ex t1 H1=>(ex=.ret∨ex=.normal)∧∃ s2 r1,zo H.length ⟨t1,H1⟩ s2∧kc P fn s2=some r1∧zo H.length ⟨[r1],s2.H⟩ ⟨[r],H2⟩):zb P f H args r H2:=fun w E vs hh hl0=>by
 have h1:qB P f H args fun r1 H1=>zo H.length ⟨[r1],H1⟩ ⟨[r],H2⟩:=qB.zS hf hb h
 refine (h1 w E vs hh hl0).mono ?_;rintro e w' ⟨r1,H1,v,E',hw,h0,h2,h3,g⟩;have hHH:H.length<=H1.length:=bR
 obtain ⟨E2,hs,g2⟩:=hw 0 w' E' ⟨#[v],[]⟩ ⟨h2,LL.one h3,gu _,hHH⟩;have hn2:=hs.heap.n;refine ⟨v,E2,h0,hs.heap,hs.tmps.cons_inv.1,⟨⟨by rw [hh.n,hn2];exact hle,fun id hops hi=>?_,fun id hops hi=>?_,fun b o u hu=>g2.le.St _ _ _ (g.le.St _ _ _ hu),fun id k u hi hu=>?_⟩,g2.os.trans g.os,g2.tape.trans g.tape,g2.output.trans g.output,gQ g.size g2.size,?_,?_,?_⟩⟩
 ·rw [hh.n] at hi;exact (g2.le.β id hops hi).trans (g.le.β id hops tO)
 ·rw [hh.n] at hi;exact (g2.le.κ id hops hi).trans (g.le.κ id hops tO)
 ·rw [hh.n] at hi;exact g2.le.G id k u hi (g.le.G id k u tO hu)
 ·intro k hk ho;exact cV
 ·intro b o u hu;rcases g2.jE b o u hu with h1 | h1 | h1
  ·exact g.jE b o u h1
  ·exact .inr (.inl (gQ g.size h1))
  ·rcases g.own b h1 with h4 | h4
   ·exact .inr (.inl h4)
   ·exact .inr (.inr h4)
 ·intro b hb;rcases g2.own b hb with h1 | h1
  ·exact .inl (gQ g.size h1)
  ·exact g.own b h1
def aa {P:Program}{f:FuncId}{fn:Func}{c:Code}{H H2:zl}{args:List C}{r:C}{zQ:Prop}(hf:P.funcs[f]?= some fn)(z0:zQ)(hb:fn.body=some c:=by exact rfl)(hle:H.length<=H2.length:=by exact dU _)(ze:zQ->wpA P H.length c (entry fn args) H fun ex t1 H1=>(ex=.ret∨ex=.normal)∧∃ s2 r1,zo H.length ⟨t1,H1⟩ s2∧kc P fn s2=some r1∧zo H.length ⟨[r1],s2.H⟩ ⟨[r],H2⟩:=by intro zh;(conv=>whnf);exact zh):zb P f H args r H2:=z8 hf hb hle (ze z0)
def D5 (w:Wor) (m:uk):tn 175 [⟨1,37,8,[zJ w],0⟩,⟨1,69,44,[zD (m)],0⟩] [.ref 0 [] 8 0 0] (Ce (nq w.zn)) [⟨1,37,8,[zJ w],0⟩,⟨1,69,44,[zD (m)],0⟩]:=by
 refine aa func175 ?_;exact cG
def Q9 (w:Wor) (m:uk):tn 174 [⟨1,37,8,[zJ w],0⟩,⟨1,69,44,[zD (m)],0⟩] tj (Ce (nq w.zn)) [⟨1,37,8,[zJ w],0⟩,⟨1,69,44,[zD ({ m with zn:=w.zn,pc:=1 })],0⟩]:=by
 refine aa func174 ?_;refine af [0,1] (D5 w { m with zn:=w.zn,pc:=1 }) ?_;exact cG
def Ra (w:Wor) (m:uk) (h0:0<=m.zj) (h1:m.zj < w.pins.length):tn 176 [⟨1,37,8,[[I w.zn,I w.current,I w.lock,.sl 2 [] 1 0 w.pins.length false,lV w.ze,lL w.zd,eh w.counts,lR w.zr]],0⟩,⟨1,69,44,[zD (m)],0⟩,⟨2,3,1,(w.pins).map encI,0⟩] tj (Ce ⟨0,0,2,2,0,false,IntKind.i64.wrap (m.zn+1),false,false,false,wu⟩) [⟨1,37,8,[[I w.zn,I w.current,I w.lock,.sl 2 [] 1 0 w.pins.length false,lV w.ze,lL w.zd,eh w.counts,lR w.zr]],0⟩,⟨1,69,44,[zD ({ m with pc:=2 })],0⟩,⟨2,3,1,(w.pins.set m.zj.toNat (IntKind.i64.wrap (m.zn+1))).map encI,0⟩]:=by
 have hs:(w.pins.map encI).set m.zj.toNat [I (IntKind.i64.wrap (m.zn+1))]=(w.pins.set m.zj.toNat (IntKind.i64.wrap (m.zn+1))).map encI:=bP
 rw [<- hs];have e1:0+m.zj.toNat=m.zj.toNat:=gf _;have hg:(w.pins.map encI)[m.zj.toNat]?= some (encI (w.pins[m.zj.toNat]'aw)):=by rw [dN,dK aw];rfl
 refine aa func176 ?_;refine uE ?_;refine ⟨h0,aw,dd ?_⟩;rw [e1];refine ⟨_,hg,rfl,dd ?_⟩;exact ⟨.inl rfl,_,_,.refl _,rfl,cE 3⟩
def Rb (w:Wor) (m:uk):tn 177 [⟨1,37,8,[zJ w],0⟩,⟨1,69,44,[zD (m)],0⟩] tj (Ce (nq w.zn)) [⟨1,37,8,[zJ w],0⟩,⟨1,69,44,[zD ({ m with zn:=w.zn,pc:=if w.zn=m.zn then 3 else 1 })],0⟩]:=by
 refine aa func177 ?_;refine uE ?_;refine ⟨fun h=>?_,fun h=>?_⟩
 ·conv=>whnf
  rw [dO (pn h)];refine af [0,1] (D5 w { m with zn:=w.zn,pc:=3 }) ?_;exact cG
 ·conv=>whnf
  rw [dL (pC h)];refine af [0,1] (D5 w { m with zn:=w.zn,pc:=1 }) ?_;exact cG
abbrev LD:List C:=[.fn 174 [] []]
abbrev LF:List C:=[.fn 176 [] []]
abbrev LG:List C:=[.fn 177 [] []]
abbrev fx:List C:=[I 0,I 0,I 0,.ui 1 0 [],.ui 1 0 [],.ui 1 0 [],.ui 1 0 [],.ui 1 0 []]
abbrev L9:List C:=[I 0,Tx [],Tx [],Tx [],I 0,I 0,I 0,.ui 1 0 [],.ui 1 0 [],.ui 1 0 []]
abbrev ft:List C:=L9++[I 0,I 0,I 0,I 0,I 0,I 0,I 0,I 0,I 0,U 0,I 0,I 0,I 0,I 0,Bo false]++xm wu++o4 ⟨0,0,0,0,0,0⟩
def Ig {P:Program} {f:FuncId} (sel:List Nat) {K H0:zl} {args args0:List C} {R:C->zl->Prop} (h:qB P f H0 args0 R) (hR:∀ r H',R r H'->qN H'=true)
  (hH:xn sel K=H0) (ha:args.map (xO sel 9)=args0) (z7:sel.all (fun id=>Nat.blt id K.length)=true) (eS:x9 sel=true) (eL:qN K=true) {k:C->zl->Prop}
  (hk:∀ r H',R r H'->n9 (kW sel K H') fun X=>qK (yF (qX sel K.length) 9 r) fun c=>k c X):∃ R',qB P f K args R'∧∀ r H2,R' r H2->k r H2:=
 ⟨_,h.part sel hR hH ha z7 eS eL,fun r H2 ⟨r0,H',h1,h2,h3⟩=>by subst h2 h3;exact zP (vJ (k:=fun X=>qK (yF (qX sel K.length) 9 r0) fun c=>k c X) (hk r0 H' h1))⟩
def zb.oK {P:Program} {f:FuncId} {fn:Func} {c:Code} {args:List C} {r:C} (hf:P.funcs[f]?= some fn) (hb:fn.body=some c)
  (h:qU P 0 c ⟨entry fn args,[]⟩ fun ex s=>(ex=.ret∨ex=.normal)∧∃ s2,zo 0 s s2∧(kc P fn s2).map (ye 0 9)=some r):zb P f [] args r []:=by
 refine qB.FH (qB.kT (H:=[]) hf hb (h.mono fun ex s1 ⟨hex,s2,hw,h2⟩=>?_));cases h3:kc P fn s2 with
 | none=>rw [h3] at h2;cases h2
 | some r0=>
  rw [h3] at h2;cases h2
  exact ⟨hex,s2,r0,hw,h3,rfl⟩
def EV (w:Wor) (m:uk) (j f:Nat) (R:Exit->S->Prop) (hf:∀ v0 v1 v2,vb [(0,v0,0),(1,v1,1),(2,v2,2)] m.pc=some j) (hc:[C.agg LD,.agg LF,.agg LG][j]?= some (.agg [.fn f [] []]))
  (hn:qU prog 0 (behind 2 ((f111.body).getD .skip)) ⟨(.za::.za::.ref 0 [] 8 0 0::.ref 1 [] 44 0 0::.ref 2 [] 8 0 0::.ref 3 [] 44 0 0::.ref 4 [] 23 0 0::.ref 5 [] 1 0 0::.v (.bool true)::tZ (tZ (tZ ([.za,.za,.za,.za,.za,.za,.za])))),[⟨1,37,8,[zJ w],0⟩,⟨1,69,44,[zD (m)],0⟩,⟨1,37,8,[fx],0⟩,⟨1,69,44,[ft],0⟩,⟨1,48,23,[zR qz],0⟩,⟨1,238,1,[[.fn f [] []]],0⟩]⟩ R):qU prog 0 ((f111.body).getD .skip) ⟨entry f111 [Cw w,Cm m],[]⟩ R:=by
 refine ij (uH ?_);refine .inl ⟨rfl,_,_,.refl _,ij (uH ?_)⟩;refine .inr ⟨⟨[2],[1],false⟩,au,fun h=>absurd h ar,fun t H=>qU prog 0 (behind 2 ((f111.body).getD .skip)) ⟨t,H⟩ R,uH ?_,fun t2 H2 h=>.inl ⟨rfl,_,_,.refl _,h⟩⟩;(repeat' (first | (exact trivial) | (refine ⟨fun _=>uH ?_,fun h=>absurd h ar⟩) | (refine ⟨fun h=>absurd h ar,fun _=>uH ?_⟩) | (refine ⟨(rfl:(_:zl)=_),uH ?_⟩) | (refine ⟨(rfl:(_:Option Ob)=_),uH ?_⟩) | ((refine Ig [] NK (fun r H' ⟨b,v0,v1,v2,h1,h2⟩=>h2 ▸ rfl) rfl rfl rfl rfl rfl ?_;rintro _ _ ⟨b,v0,v1,v2,rfl,rfl⟩;(refine dd ?_))) | (refine ⟨_,_,uw.Bg (id:=5) _ _ _ _ rfl rfl rfl rfl rfl rfl rfl rfl rfl (hf _ _ _) hc,?_⟩;(refine dd ?_)) | (refine ⟨_,_,uw.Bg (id:=6) _ _ _ _ rfl rfl rfl rfl rfl rfl rfl rfl rfl (hf _ _ _) hc,?_⟩;(refine dd ?_)) | (refine And.intro ?_ ?_ <;> (conv=>whnf))))
 all_goals (first | exact ⟨_,_,(zo.forget 5).trans ((zo.ur [0,1,2,3,4,6] [2,3,4,5,6,7,8] _ _ rfl rfl rfl rfl).trans (cC)),hn⟩ | exact ⟨_,_,(zo.forget 6).trans ((zo.ur [0,1,2,3,4,5] [2,3,4,5,6,7,8] _ _ rfl rfl rfl rfl).trans (cC)),hn⟩)
abbrev nd (m:uk) (e:uv):uv:={ e with zj:=m.zj,version:= -1 }
def Ph (w:Wor) (m:uk) (sw:qV w) (ok:eR w) (hl:i64 m.listen) (hpc:m.pc=0) (hs:zY w m=true):
  tn 111 [] [Cw w,Cm m] (.uo [Cw w,Cm { m with zn:=w.zn,pc:=1 },Ce (nd m (nq w.zn))]) []:=by
 refine zb.oK func111 rfl (EV w m 0 174 _ (fun _ _ _=>by rw [hpc];rfl) rfl ?_);(refine jr (K:=fun ex t H=>(ex=.ret∨ex=.normal)∧∃ s2,zo 0 ⟨t,H⟩ s2∧(kc prog f111 s2).map (ye 0 9)=some (.uo [Cw w,Cm { m with zn:=w.zn,pc:=1 },Ce (nd m (nq w.zn))])) (uH ?_))
 refine tc ?_
 refine ah (zO w m ok hl) ?_;refine ⟨fun _=>dd ?_,fun h=>absurd ((hs).symm.trans h:true=false) ar⟩;refine tc ?_
 refine ah (qt w sw) ?_;refine af [0,1] (Q9 w m) ?_;refine .inl ⟨⟨false,[1,2],[1,6],[]⟩,au,uH ?_⟩;refine hZ ?_
 exact uI
def Pk (w:Wor) (m:uk) (sw:qV w) (ok:eR w) (hl:i64 m.listen) (hpc:m.pc=2) (hs:zY w m=true):
  tn 111 [] [Cw w,Cm m] (.uo [Cw w,Cm { m with zn:=w.zn,pc:=if w.zn=m.zn then 3 else 1 },Ce (nd m (nq w.zn))]) []:=by
 refine zb.oK func111 rfl (EV w m 2 177 _ (fun _ _ _=>by rw [hpc];rfl) rfl ?_);(refine jr (K:=fun ex t H=>(ex=.ret∨ex=.normal)∧∃ s2,zo 0 ⟨t,H⟩ s2∧(kc prog f111 s2).map (ye 0 9)=some (.uo [Cw w,Cm { m with zn:=w.zn,pc:=if w.zn=m.zn then 3 else 1 },Ce (nd m (nq w.zn))])) (uH ?_))
 refine tc ?_
 refine ah (zO w m ok hl) ?_;refine ⟨fun _=>dd ?_,fun h=>absurd ((hs).symm.trans h:true=false) ar⟩;refine tc ?_
 refine ah (qt w sw) ?_;refine af [0,1] (Rb w m) ?_;refine .inl ⟨⟨false,[1,2],[1,6],[]⟩,au,uH ?_⟩;refine hZ ?_
 exact uI
abbrev mL (w:Wor) (t:Nat) (n:Int):Wor:={ w with pins:=w.pins.set t n }
def Pj (w:Wor) (m:uk) (sw:qV w) (ok:eR w) (hl:i64 m.listen) (hpc:m.pc=1) (hs:zY w m=true):
  tn 111 [] [Cw w,Cm m] (.uo [Cw (mL w m.zj.toNat (IntKind.i64.wrap (m.zn+1))),Cm { m with pc:=2 },Ce (nd m ⟨0,0,2,2,0,false,IntKind.i64.wrap (m.zn+1),false,false,false,wu⟩)]) []:=by
 obtain ⟨v,g,e,su⟩:=kD hs
 obtain ⟨x,l,hx⟩:∃ x l,w.pins=x::l:=by
  cases h:w.pins with
  | nil=>have:=su.zj;rw [h] at this;exact cN
  | cons x l=>exact ⟨x,l,rfl⟩
 refine zb.oK func111 rfl (EV w m 1 176 _ (fun _ _ _=>by rw [hpc];rfl) rfl ?_);(refine jr (K:=fun ex t H=>(ex=.ret∨ex=.normal)∧∃ s2,zo 0 ⟨t,H⟩ s2∧(kc prog f111 s2).map (ye 0 9)=some (.uo [Cw (mL w m.zj.toNat (IntKind.i64.wrap (m.zn+1))),Cm { m with pc:=2 },Ce (nd m ⟨0,0,2,2,0,false,IntKind.i64.wrap (m.zn+1),false,false,false,wu⟩)])) (uH ?_))
 refine tc ?_
 refine ah (zO w m ok hl) ?_;refine ⟨fun _=>dd ?_,fun h=>absurd ((hs).symm.trans h:true=false) ar⟩;refine tc ?_
 refine af [] (Hg w sw x l hx) ?_;refine af [0,1,6] (Ra w m su.zj.1 su.zj.2) ?_;refine .inl ⟨⟨false,[1,2],[1,7],[]⟩,au,uH ?_⟩;refine hZ ?_
 exact ⟨.inl rfl,_,zo.zU 2 0 3 rfl rfl rfl rfl (.inr rfl) aj aj (shut_map (enc:=encI) (fun _=>rfl) _) (zZ rfl),rfl⟩
abbrev B1 (m:uk):uv:=nd m ⟨0,0,2,2,0,false,0,false,false,false,wu⟩
def Rq (w:Wor) (m:uk) (sw:qV w) (ok:eR w) (hl:i64 m.listen) (hs:zY w m=true):
  tn 187 [] [Cw w,Cm m] (.uo [Cw (mL w m.zj.toNat 0),Ce (B1 m)]) []:=by
 obtain ⟨v,g,e,su⟩:=kD hs
 obtain ⟨x,l,hx⟩:∃ x l,w.pins=x::l:=by
  cases h:w.pins with
  | nil=>have:=su.zj;rw [h] at this;exact cN
  | cons x l=>exact ⟨x,l,rfl⟩
 have e1:0+m.zj.toNat=m.zj.toNat:=gf _;have h0:=su.zj.1;have h1:=su.zj.2;have hst:(w.pins.map encI).set m.zj.toNat [I 0]=(w.pins.set m.zj.toNat 0).map encI:=bP
 have hg:(w.pins.map encI)[m.zj.toNat]?= some (encI (w.pins[m.zj.toNat]'aw)):=by rw [dN,dK aw];rfl
 refine ab func187 ?_;refine ah (zO w m ok hl) ?_;refine ⟨fun _=>dd ?_,fun h=>absurd ((hs).symm.trans h:true=false) ar⟩;refine tc ?_
 refine af [] (Hg w sw x l hx) ?_;refine ⟨h0,aw,dd ?_⟩;rw [e1];refine ⟨_,hg,rfl,dd ?_⟩;rw [hst];refine .inl ⟨⟨false,[2],[1],[]⟩,au,uH ?_⟩;refine hZ ?_
 exact ⟨.inl rfl,_,zo.zU 2 0 3 rfl rfl rfl rfl (.inr rfl) aj aj (shut_map (enc:=encI) (fun _=>rfl) _) (zZ rfl),rfl⟩
def Aw (x:mR) (k n:Int):mR:=
 if k=0 then { x with c0:=IntKind.u64.wrap (x.c0+n) } else if k=1 then { x with c1:=IntKind.u64.wrap (x.c1+n) } else if k=2 then { x with c2:=IntKind.u64.wrap (x.c2+n) }
 else if k=3 then { x with c3:=IntKind.u64.wrap (x.c3+n) } else if k=4 then { x with c4:=IntKind.u64.wrap (x.c4+n) } else { x with c5:=IntKind.u64.wrap (x.c5+n) }
def more_sound (x:mR) (k n:Int) (h0:0<=k) (h6:k < 6):tn 134 [] [.agg (o4 x),I k,U n] (.agg (o4 (Aw x k n))) []:=by
 obtain ⟨a,b,c,d,e,f⟩:=x;obtain rfl | rfl | rfl | rfl | rfl | rfl:k=0∨k=1∨k=2∨k=3∨k=4∨k=5:=aw
 all_goals
  refine ab func134 ?_;(refine ⟨ar,ar,dd ?_⟩);(refine ⟨ar,ar,dd ?_⟩);exact uI
def jP (w:Wor) (m:uk) (n:Int):uk:=
 let m1:uk:={ m with counts:=Aw m.counts m.k n,k:=m.k+1 }
 let m2:uk:=if m.k+1=6 then { m1 with i:=m.i+1,k:=0 } else m1
 if m2.i=w.counts.length then { m2 with done:=true,answer:=⟨13,0,0,0,0,0,0,m2.counts⟩ } else m2
def AD (w:Wor) (m:uk) (n:Int):uv:={ qz with zj:=m.zj,access:=1,cell:=10,version:= -1,value:=m.k,done:=(jP w m n).done,answer:=if (jP w m n).done then (jP w m n).answer else wu }
structure Lz (w:Wor) (m:uk) (r:List Int) (n:Int):Prop where
 i0:0<=m.i
 at_:w.counts[m.i.toNat]?= some r
 k0:0<=m.k
 k6:m.k < 6
 row:r[m.k.toNat]?= some n
abbrev U9 (m:uk) (n:Int):uk:={ m with counts:=Aw m.counts m.k n,k:=m.k+1 }
abbrev Va (m:uk) (n:Int):uk:={ m with counts:=Aw m.counts m.k n,k:=0,i:=m.i+1 }
abbrev Vb (m:uk) (n:Int):uk:={ m with counts:=Aw m.counts m.k n,k:=0,i:=m.i+1,done:=true,answer:=⟨13,0,0,0,0,0,0,Aw m.counts m.k n⟩ }
def FA {w:Wor} {m:uk} {n:Int} (h:m.k+1≠6) (hi:m.i≠w.counts.length):jP w m n=U9 m n:=by
 unfold jP;dsimp only;rw [dL h];exact dL hi
def FB {w:Wor} {m:uk} {n:Int} (h:m.k+1=6) (hi:m.i+1≠w.counts.length):jP w m n=Va m n:=by
 unfold jP;dsimp only;rw [dO h];exact dL hi
def Fp {w:Wor} {m:uk} {n:Int} (h:m.k+1=6) (hi:m.i+1=w.counts.length):jP w m n=Vb m n:=by
 unfold jP;dsimp only;rw [dO h];exact dO hi
abbrev K0 (m:uk):uv:={ qz with zj:=m.zj,access:=1,cell:=10,version:= -1,value:=m.k }
def JW {w:Wor} {m:uk} {n:Int} (h:(jP w m n).done=false):AD w m n=K0 m:=by
 unfold AD;rw [h]
 rfl
def Rc {w:Wor} {m:uk} {n:Int} (h:(jP w m n).done=true):AD w m n={ K0 m with done:=true,answer:=(jP w m n).answer }:=by
 unfold AD;rw [h]
 rfl
def ND (w:Wor) (m:uk) (r:List Int) (n:Int) (sw:qV w) (ok:eR w) (hl:i64 m.listen) (hpc:m.pc=0) (hs:zY w m=true) (hd:m.done=false) (hc:Lz w m r n) (ha:m.answer=wu):
  tn 101 [] [Cw w,Cm m] (.uo [Cw w,Cm (jP w m n),Ce (AD w m n)]) []:=by
 have i0:=hc.i0;have k0:=hc.k0;have hi:m.i.toNat < w.counts.length:=(dJ.1 hc.at_).1;have ml:(w.counts.map zN).length=w.counts.length:=dP ..;have cr:(w.counts.map zN)[m.i.toNat]?= some (zN r):=by rw [dN,hc.at_];rfl
 have cn:(r.map jA)[m.k.toNat]?= some (jA n):=by rw [dN,hc.row];rfl
 refine ab func101 ?_;refine ⟨fun h=>absurd h (by simp [hpc]),fun _=>dd ?_⟩;refine ⟨fun h=>absurd h (by have:=hc.k6;simp;omega),fun _=>dd ?_⟩;rw [ml];refine ⟨fun h=>absurd h aA,fun _=>dd ?_⟩;refine ah (zO w m ok hl) ?_;refine ⟨fun _=>dd ?_,fun h=>absurd ((hs).symm.trans h:true=false) ar⟩;refine tc ?_
 refine .inl ⟨⟨true,[],[],[14]⟩,au,uH ?_⟩;(refine ⟨i0,_,cr,dd ?_⟩)
 (refine ⟨k0,_,cn,dd ?_⟩)
 refine ah (more_sound m.counts m.k n k0 hc.k6) ?_;refine hZ ?_
 rw [show IntKind.i64.wrap (m.k+1)=m.k+1 from qZ aw (by have:=hc.k6;omega)];refine ⟨fun h6=>?_,fun h6=>?_⟩
 ·have g6:m.k+1=6:=by simpa using h6
  refine dd ?_;rw [show IntKind.i64.wrap (m.i+1)=m.i+1 from qZ aw (by have:=sw.counts.1;omega)];rw [ml];refine ⟨fun h7=>?_,fun h7=>?_⟩
  ·have g7:m.i+1=w.counts.length:=by simpa using h7
   rw [Rc (by rw [Fp g6 g7]),Fp g6 g7];refine dd ?_;refine .inl ⟨⟨false,[1],[1],[]⟩,au,uH ?_⟩;refine hZ ?_
   exact dz
  ·have g7:m.i+1≠w.counts.length:=by simpa using h7
   rw [JW (by rw [FB g6 g7];exact hd),FB g6 g7];refine dd ?_;exact dz
 ·have g6:m.k+1≠6:=by simpa using h6
  have g7:m.i≠w.counts.length:=aw
  rw [JW (by rw [FA g6 g7];exact hd),FA g6 g7];refine dd ?_;rw [ml];refine ⟨fun h=>absurd h (aq g7),fun _=>dd ?_⟩;exact dz
end Go.Wor
