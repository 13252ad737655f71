import Derived.Test.YtkbnjgogjccmfaaGreatSU
set_option linter.all false
set_option maxRecDepth 100000
set_option maxHeartbeats 4000000
namespace Go.Wor
open Go.Ab Go.Proofs Tryz Go.Hy Go.Gat Go.Nam Go.Hos Go.Con Go.Sna
abbrev Cm (m:u3):C:=.agg (zD m)
def z6 (w:Wor) (m:u3):Bool:=xQ w && fX m.zg w.pins.length && !m.done && fX m.version w.ze.length && (match w.ze[m.version.toNat]? with
 | none=>false
 | some v=>fX m.zi v.zm.length && (match v.zm[m.zi.toNat]? with
  | none=>false
  | some g=>fX m.end_ g.ends.length && fX m.other g.ends.length && (match g.ends[m.end_.toNat]? with
   | none=>false
   | some e=>fX m.slot e.next.length) && (fX (m.listen+1) (w.zd.length+1) && decide (0<=m.i) && decide (0<=m.k))))
def vh {i n:Int}:fX i n=true↔0<=i∧i < n:=by unfold fX;simp
structure qG (w:Wor) (m:u3) (v:u9) (g:Gr) (e:En):Prop where
 world:xQ w=true
 zg:0<=m.zg∧m.zg < w.pins.length
 done:m.done=false
 version:0<=m.version∧m.version < w.ze.length
 eX:w.ze[m.version.toNat]?= some v
 zi:0<=m.zi∧m.zi < v.zm.length
 eG:v.zm[m.zi.toNat]?= some g
 end_ : 0 <= m.end_ ∧ m.end_ < g.ends.length
 eS:g.ends[m.end_.toNat]?= some e
 other:0<=m.other∧m.other < g.ends.length
 slot:0<=m.slot∧m.slot < e.next.length
 listen: -1<=m.listen∧m.listen < w.zd.length
 i:0<=m.i
 k:0<=m.k
def y8 {w:Wor} {m:u3} (h:z6 w m=true):∃ v g e,qG w m v g e:=by
 unfold z6 at h;simp only [dY,pd,vh] at h;obtain ⟨⟨⟨⟨h1,h2⟩,h3⟩,h4⟩,h5⟩:=h;split at h5
 ·cases h5
 rename_i v hv;simp only [dY,vh] at h5;obtain ⟨h5,h6⟩:=h5;split at h6
 ·cases h6
 rename_i g hg;simp only [dY,vh,gp] at h6;obtain ⟨⟨⟨h6,h7⟩,h8⟩,⟨h9,h10⟩,h11⟩:=h6;split at h8
 ·cases h8
 rename_i e he;simp only [vh] at h8;exact ⟨v,g,e,h1,h2,h3,h4,hv,h5,hg,h6,he,h7,h8,aw,h10,h11⟩
def zO (w:Wor) (m:u3) (hw:fm w) (hm:i64 m.listen):to 112 [] [Cw w,Cm m] (Bo (z6 w m)) []:=by
 have m1:(w.pins.map encI).length=w.pins.length:=dV ..;have m2:(w.ze.map zF).length=w.ze.length:=dV ..;have m3:(w.zd.map qK).length=w.zd.length:=dV ..;have b3:=hw.zd.1;have el:IntKind.i64.wrap ((w.zd.length:Int)+1)=(w.zd.length:Int)+1:=jc aw aw
 have el2:fX (IntKind.i64.wrap (m.listen+1)) ((w.zd.length:Int)+1)=fX (m.listen+1) ((w.zd.length:Int)+1):=by
  by_cases hh:m.listen<=9223372036854775806
  ·rw [jc (by have:=hm.1;omega) aw]
  ·have h9:m.listen=9223372036854775807:=by have:=hm.2;omega
   rw [h9];have h10:IntKind.i64.wrap (9223372036854775807+1)= -9223372036854775808:=ar
   rw [h10];unfold fX;rw [show decide ((0:Int)<= -9223372036854775808)=false from rfl,show decide ((9223372036854775807:Int)+1 < (w.zd.length:Int)+1)=false from aA];simp
 refine ab func112 ?_;refine ah (Oq w hw) ?_;refine ⟨fun h1=>?_,fun h1=>?_⟩
 rotate_left
 ·(have e:z6 w m=false:=by (unfold z6;(rw [h1]);simp));exact dM
 refine dd ?_;rw [m1];refine ah (wv m.zg w.pins.length) ?_;refine ⟨fun h2=>?_,fun h2=>?_⟩
 rotate_left
 ·(have e:z6 w m=false:=by (unfold z6;(rw [h2]);simp));exact dM
 refine dd ?_;refine ⟨fun h3=>?_,fun h3=>?_⟩
 ·(have e:z6 w m=false:=by (unfold z6;(rw [h3]);simp));exact dM
 refine dd ?_;rw [m2];refine ah (wv m.version w.ze.length) ?_;refine ⟨fun h4=>?_,fun h4=>?_⟩
 rotate_left
 ·(have e:z6 w m=false:=by (unfold z6;(rw [h4]);simp));exact dM
 obtain ⟨c0,c1⟩:=vh.1 h4;have hv:w.ze[m.version.toNat]?= some (w.ze[m.version.toNat]'aw):=dQ _;generalize w.ze[m.version.toNat]'aw=v at hv;have gv:(w.ze.map zF)[m.version.toNat]?= some (zF v):=by rw [dT,hv];rfl
 have m4:(v.zm.map zE).length=v.zm.length:=dV ..
 have g0:z6 w m=(fX m.zi v.zm.length && (match v.zm[m.zi.toNat]? with
  | none=>false
  | some g=>fX m.end_ g.ends.length && fX m.other g.ends.length && (match g.ends[m.end_.toNat]? with
   | none=>false
   | some e=>fX m.slot e.next.length) && (fX (m.listen+1) (w.zd.length+1) && decide (0<=m.i) && decide (0<=m.k)))):=by
  unfold z6;rw [h1,h2,h3,h4,hv]
  rfl
 rw [g0];refine dd ?_;refine td ?_
 refine ⟨c0,_,gv,dd ?_⟩;rw [m4];refine ah (wv m.zi v.zm.length) ?_;refine ⟨fun h5=>?_,fun h5=>?_⟩
 rotate_left
 ·rw [h5];refine dd ?_;refine td ?_
  exact uI
 obtain ⟨c2,c3⟩:=vh.1 h5;have hg:v.zm[m.zi.toNat]?= some (v.zm[m.zi.toNat]'aw):=dQ _;generalize v.zm[m.zi.toNat]'aw=g at hg;have gg:(v.zm.map zE)[m.zi.toNat]?= some (zE g):=by rw [dT,hg];rfl
 have m5:(g.ends.map zx).length=g.ends.length:=dV ..;rw [h5,hg];dsimp only;refine dd ?_;refine td ?_
 refine ⟨c2,_,gg,dd ?_⟩;refine uE ?_;rw [m5];refine ah (wv m.end_ g.ends.length) ?_;refine ⟨fun h6=>?_,fun h6=>?_⟩
 rotate_left
 ·rw [h6];refine dd ?_;refine td ?_
  exact uI
 obtain ⟨c4,c5⟩:=vh.1 h6;have he:g.ends[m.end_.toNat]?= some (g.ends[m.end_.toNat]'aw):=dQ _;generalize g.ends[m.end_.toNat]'aw=e at he;have ge:(g.ends.map zx)[m.end_.toNat]?= some (zx e):=by rw [dT,he];rfl
 have m6:(e.next.map encI).length=e.next.length:=dV ..;rw [h6,he];dsimp only;refine dd ?_;rw [m5];refine ah (wv m.other g.ends.length) ?_;refine ⟨fun h7=>?_,fun h7=>?_⟩
 rotate_left
 ·rw [h7];refine dd ?_;refine td ?_
  exact uI
 rw [h7];refine dd ?_;refine ⟨c4,_,ge,dd ?_⟩;rw [m6];refine ah (wv m.slot e.next.length) ?_;refine ⟨fun h8=>?_,fun h8=>?_⟩
 rotate_left
 ·rw [h8];refine dd ?_;refine td ?_
  exact uI
 rw [h8];refine dd ?_;refine td ?_
 rw [m3,el];have hin:=wv (IntKind.i64.wrap (m.listen+1)) ((w.zd.length:Int)+1);rw [el2] at hin;refine ah hin ?_;refine ⟨fun h9=>?_,fun h9=>?_⟩
 rotate_left
 ·rw [h9];refine dd ?_;refine td ?_
  exact uI
 rw [h9];refine dd ?_;refine ⟨fun h10=>?_,fun h10=>?_⟩
 rotate_left
 ·refine dd ?_;refine td ?_
  (exact ⟨.inl rfl,_,.refl _,uN (by symm;simp at h10 ⊢;omega)⟩)
 refine dd ?_;refine ⟨fun h11=>?_,fun h11=>?_⟩
 ·refine dd ?_;refine td ?_
  (exact ⟨.inl rfl,_,.refl _,uN (by symm;simp at h10 h11 ⊢;omega)⟩)
 ·refine dd ?_;refine td ?_
  (exact ⟨.inl rfl,_,.refl _,uN (by symm;simp at h10 h11 ⊢;omega)⟩)
end Go.Wor
namespace Go.Ab
def vF {H:zl} {id i:Nat} {ob:Ob} (h:(xU H id)[i]?= some ob) (hk:ob.kind=4):H[i]?= some ob:=by
 rw [y7] at h;cases hx:H[i]? with
 | none=>rw [hx] at h;cases h
 | some o=>
  rw [hx] at h;simp only [gh,gC] at h;split at h
  ·subst h;cases hk
  ·rw [h]
def zp.forget {B:Nat} {s:S} (id:Nat):zp B s ⟨s.tmps,xU s.H id⟩:=fun m w E a hs=>by
 have hg:∀ {i b},qI E (xU s.H id) i b->qI E s.H i b:=fun ⟨ob,cap,h1,h2,h3,h4⟩=>⟨ob,cap,vF h1 h2,h2,h3,h4⟩
 have hr:∀ {i b},jD (xU s.H id) i b->jD s.H i b:=fun ⟨ob,o,t,h1,h2,h3,h4⟩=>⟨ob,o,t,vF h1 h2,h2,h3,h4⟩
 have h0:∀ {b},je E (xU s.H id) b->je E s.H b:=fun ⟨i,p,x,h1,h2⟩=>⟨i,p,x,(yV h1).2,h2⟩
 refine ⟨E,⟨⟨hs.heap.base.kill id,?_⟩,hs.tmps,hs.defers,by have:=hs.base;simp [xU];omega⟩,⟨Env.mZ.refl B E,rfl,rfl,rfl,gf _,fun _ _ _=>rfl,fun _ _ _ h=>.inl h,?_⟩⟩
 ·exact {
   val:=fun i ob h1 h2=>hs.heap.u5.val i ob (vF h1 h2) h2
   eu:=fun i b ob h1 h2=>hs.heap.u5.eu i b ob (hg h1) (by obtain ⟨ob2,_,h3,h4,_⟩:=h1;rw [h2] at h3;cases h3;exact vF h2 h4)
   sep:=fun i b h1 h2=>hs.heap.u5.sep i b (hg h1) (h0 h2)
   inj:=fun i j b h1 h2=>hs.heap.u5.inj i j b (hg h1) (hg h2)
   st:=fun i b ob o u h1 h2 h3=>hs.heap.u5.st i b ob o u (hg h1) (by obtain ⟨ob2,_,h4,h5,_⟩:=h1;rw [h2] at h4;cases h4;exact vF h2 h5) h3
   top:=fun i ob k u h1 h2 h3=>hs.heap.u5.top i ob k u (vF h1 h2) h2 h3
   fG:=fun i ob o t h1 h2 h3=>hs.heap.u5.fG i ob o t (vF h1 h2) h2 h3
   wK:=fun i j b h1 h2=>hs.heap.u5.wK i j b (hr h1) (hr h2) }
 ·rintro b (hb | ⟨i,hb | hb⟩)
  ·exact .inr (.inl (h0 hb))
  ·exact .inr (.inr ⟨i,.inl (hg hb)⟩)
  ·exact .inr (.inr ⟨i,.inr (hr hb)⟩)
end Go.Ab
namespace Go.Wor
open Go.Ab Go.Proofs Tryz Go.Hy Go.Gat Go.Nam Go.Hos Go.Con Go.Sna
abbrev Ce (e:u6):C:=.agg (zP e)
abbrev wW:eC:=⟨0,0,0,0,0,0,0,⟨0,0,0,0,0,0⟩⟩
abbrev qC:u6:=⟨0,0,0,0,0,false,0,false,false,false,wW⟩
abbrev n4 (n:Int):u6:=⟨0,0,1,1,0,false,n,false,false,false,wW⟩
def VN (r:C) (H':zl):Prop:=∃ (b:Nat) (v0 v1 v2:Value),r=.v (.map (some b))∧H'=[AL b [(0,v0,0),(1,v1,1),(2,v2,2)] 3 [.agg [.fn 174 [] []],.agg [.fn 176 [] []],.agg [.fn 177 [] []]]]
def PA:qE prog 139 [] [] VN:=by
 refine qE.zT (fn:=f139) func139 rfl (uH ?_);intro b;refine dd ?_;refine jI.qo (id:=0) _ _ _ _ (.inr rfl) underlying240 underlying3 rfl rfl rfl rfl rfl ?_;intro v0;refine dd ?_;refine jI.qo (id:=0) _ _ _ _ (.inr rfl) underlying240 underlying3 rfl rfl rfl rfl rfl ?_;intro v1;refine dd ?_;refine jI.qo (id:=0) _ _ _ _ (.inr rfl) underlying240 underlying3 rfl rfl rfl rfl rfl ?_;intro v2;refine dd ?_;exact ⟨.inl rfl,_,_,.refl _,rfl,b,v0,v1,v2,rfl,rfl⟩
def qd {P:Program} {f:FuncId} {fn:Func} {c:Code} {H H2:zl} {args:List C} {r:C} (hf:P.funcs[f]?= some fn) (hb:fn.body=some c) (hle:H.length<=H2.length)
  (h:wpA P H.length c (entry fn args) H fun ex t1 H1=>(ex=.ret∨ex=.normal)∧∃ s2 r1,zp H.length ⟨t1,H1⟩ s2∧kL P fn s2=some r1∧zp H.length ⟨[r1],s2.H⟩ ⟨[r],H2⟩):zb P f H args r H2:=fun w E vs hh hl0=>by
 have h1:qE P f H args fun r1 H1=>zp H.length ⟨[r1],H1⟩ ⟨[r],H2⟩:=qE.zT hf hb h
 refine (h1 w E vs hh hl0).mono ?_;rintro e w' ⟨r1,H1,v,E',hw,h0,h2,h3,g⟩;have hHH:H.length<=H1.length:=bT
 obtain ⟨E2,hs,g2⟩:=hw 0 w' E' ⟨#[v],[]⟩ ⟨h2,LL.one h3,gF _,hHH⟩;have hn2:=hs.heap.n;refine ⟨v,E2,h0,hs.heap,hs.tmps.cons_inv.1,⟨⟨by rw [hh.n,hn2];exact hle,fun id hops hi=>?_,fun id hops hi=>?_,fun b o u hu=>g2.le.St _ _ _ (g.le.St _ _ _ hu),fun id k u hi hu=>?_⟩,g2.os.trans g.os,g2.tape.trans g.tape,g2.output.trans g.output,gY g.size g2.size,?_,?_,?_⟩⟩
 ·rw [hh.n] at hi;exact (g2.le.β id hops hi).trans (g.le.β id hops tP)
 ·rw [hh.n] at hi;exact (g2.le.κ id hops hi).trans (g.le.κ id hops tP)
 ·rw [hh.n] at hi;exact g2.le.G id k u hi (g.le.G id k u tP hu)
 ·intro k hk ho;exact cX
 ·intro b o u hu;rcases g2.jP b o u hu with h1 | h1 | h1
  ·exact g.jP b o u h1
  ·exact .inr (.inl (gY g.size h1))
  ·rcases g.own b h1 with h4 | h4
   ·exact .inr (.inl h4)
   ·exact .inr (.inr h4)
 ·intro b hb;rcases g2.own b hb with h1 | h1
  ·exact .inl (gY g.size h1)
  ·exact g.own b h1
def aa {P:Program}{f:FuncId}{fn:Func}{c:Code}{H H2:zl}{args:List C}{r:C}{zQ:Prop}(hf:P.funcs[f]?= some fn)(z0:zQ)(hb:fn.body=some c:=by exact rfl)(hle:H.length<=H2.length:=by exact gf _)(ze:zQ->wpA P H.length c (entry fn args) H fun ex t1 H1=>(ex=.ret∨ex=.normal)∧∃ s2 r1,zp H.length ⟨t1,H1⟩ s2∧kL P fn s2=some r1∧zp H.length ⟨[r1],s2.H⟩ ⟨[r],H2⟩:=by intro zh;(conv=>whnf);exact zh):zb P f H args r H2:=qd hf hb hle (ze z0)
def Fo (w:Wor) (m:u3):to 175 [⟨1,37,8,[zJ w],0⟩,⟨1,69,44,[zD (m)],0⟩] [.ref 0 [] 8 0 0] (Ce (n4 w.zn)) [⟨1,37,8,[zJ w],0⟩,⟨1,69,44,[zD (m)],0⟩]:=by
 refine aa func175 ?_;exact cJ
def Tm (w:Wor) (m:u3):to 174 [⟨1,37,8,[zJ w],0⟩,⟨1,69,44,[zD (m)],0⟩] tn (Ce (n4 w.zn)) [⟨1,37,8,[zJ w],0⟩,⟨1,69,44,[zD ({ m with zn:=w.zn,pc:=1 })],0⟩]:=by
 refine aa func174 ?_;refine af [0,1] (Fo w { m with zn:=w.zn,pc:=1 }) ?_;exact cJ
def SM (w:Wor) (m:u3) (h0:0<=m.zg) (h1:m.zg < w.pins.length):to 176 [⟨1,37,8,[[I w.zn,I w.current,I w.lock,.sl 2 [] 1 0 w.pins.length false,lV w.ze,lL w.zd,eM w.counts,lR w.zr]],0⟩,⟨1,69,44,[zD (m)],0⟩,⟨2,3,1,(w.pins).map encI,0⟩] tn (Ce ⟨0,0,2,2,0,false,IntKind.i64.wrap (m.zn+1),false,false,false,wW⟩) [⟨1,37,8,[[I w.zn,I w.current,I w.lock,.sl 2 [] 1 0 w.pins.length false,lV w.ze,lL w.zd,eM w.counts,lR w.zr]],0⟩,⟨1,69,44,[zD ({ m with pc:=2 })],0⟩,⟨2,3,1,(w.pins.set m.zg.toNat (IntKind.i64.wrap (m.zn+1))).map encI,0⟩]:=by
 have hs:(w.pins.map encI).set m.zg.toNat [I (IntKind.i64.wrap (m.zn+1))]=(w.pins.set m.zg.toNat (IntKind.i64.wrap (m.zn+1))).map encI:=bR
 rw [<- hs];have e1:0+m.zg.toNat=m.zg.toNat:=gz _;have hg:(w.pins.map encI)[m.zg.toNat]?= some (encI (w.pins[m.zg.toNat]'aw)):=by rw [dT,dQ aw];rfl
 refine aa func176 ?_;refine uE ?_;refine ⟨h0,aw,dd ?_⟩;rw [e1];refine ⟨_,hg,rfl,dd ?_⟩;exact ⟨.inl rfl,_,_,.refl _,rfl,cE 3⟩
def SN (w:Wor) (m:u3):to 177 [⟨1,37,8,[zJ w],0⟩,⟨1,69,44,[zD (m)],0⟩] tn (Ce (n4 w.zn)) [⟨1,37,8,[zJ w],0⟩,⟨1,69,44,[zD ({ m with zn:=w.zn,pc:=if w.zn=m.zn then 3 else 1 })],0⟩]:=by
 refine aa func177 ?_;refine uE ?_;refine ⟨fun h=>?_,fun h=>?_⟩
 ·conv=>whnf
  rw [dU (gd h)];refine af [0,1] (Fo w { m with zn:=w.zn,pc:=3 }) ?_;exact cJ
 ·conv=>whnf
  rw [dR (pM h)];refine af [0,1] (Fo w { m with zn:=w.zn,pc:=1 }) ?_;exact cJ
abbrev Nb:List C:=[.fn 174 [] []]
abbrev Nd:List C:=[.fn 176 [] []]
abbrev Nf:List C:=[.fn 177 [] []]
abbrev fQ:List C:=[I 0,I 0,I 0,.u1 1 0 [],.u1 1 0 [],.u1 1 0 [],.u1 1 0 [],.u1 1 0 []]
abbrev NK:List C:=[I 0,Tx [],Tx [],Tx [],I 0,I 0,I 0,.u1 1 0 [],.u1 1 0 [],.u1 1 0 []]
abbrev fP:List C:=NK++[I 0,I 0,I 0,I 0,I 0,I 0,I 0,I 0,I 0,U 0,I 0,I 0,I 0,I 0,Bo false]++xB wW++AA ⟨0,0,0,0,0,0⟩
def JE {P:Program} {f:FuncId} (sel:List Nat) {K H0:zl} {args args0:List C} {R:C->zl->Prop} (h:qE P f H0 args0 R) (hR:∀ r H',R r H'->qS H'=true)
  (hH:xC sel K=H0) (ha:args.map (yf sel 9)=args0) (z8:sel.all (fun id=>Nat.blt id K.length)=true) (fp:yq sel=true) (fg:qS K=true) {k:C->zl->Prop}
  (hk:∀ r H',R r H'->oU (wC sel K H') fun X=>qO (yX (ja sel K.length) 9 r) fun c=>k c X):∃ R',qE P f K args R'∧∀ r H2,R' r H2->k r H2:=
 ⟨_,h.part sel hR hH ha z8 fp fg,fun r H2 ⟨r0,H',h1,h2,h3⟩=>by subst h2 h3;exact zQ (ka (k:=fun X=>qO (yX (ja sel K.length) 9 r0) fun c=>k c X) (hk r0 H' h1))⟩
def zb.Al {P:Program} {f:FuncId} {fn:Func} {c:Code} {args:List C} {r:C} (hf:P.funcs[f]?= some fn) (hb:fn.body=some c)
  (h:qX P 0 c ⟨entry fn args,[]⟩ fun ex s=>(ex=.ret∨ex=.normal)∧∃ s2,zp 0 s s2∧(kL P fn s2).map (yw 0 9)=some r):zb P f [] args r []:=by
 refine qE.GO (qE.wz (H:=[]) hf hb (h.mono fun ex s1 ⟨hex,s2,hw,h2⟩=>?_));cases h3:kL P fn s2 with
 | none=>rw [h3] at h2;cases h2
 | some r0=>
  rw [h3] at h2;cases h2
  exact ⟨hex,s2,r0,hw,h3,rfl⟩
def F5 (w:Wor) (m:u3) (j f:Nat) (R:Exit->S->Prop) (hf:∀ v0 v1 v2,vv [(0,v0,0),(1,v1,1),(2,v2,2)] m.pc=some j) (hc:[C.agg Nb,.agg Nd,.agg Nf][j]?= some (.agg [.fn f [] []]))
  (hn:qX prog 0 (behind 2 ((f111.body).getD .skip)) ⟨(.za::.za::.ref 0 [] 8 0 0::.ref 1 [] 44 0 0::.ref 2 [] 8 0 0::.ref 3 [] 44 0 0::.ref 4 [] 23 0 0::.ref 5 [] 1 0 0::.v (.bool true)::hZ (hZ (hZ ([.za,.za,.za,.za,.za,.za,.za])))),[⟨1,37,8,[zJ w],0⟩,⟨1,69,44,[zD (m)],0⟩,⟨1,37,8,[fQ],0⟩,⟨1,69,44,[fP],0⟩,⟨1,48,23,[zP qC],0⟩,⟨1,238,1,[[.fn f [] []]],0⟩]⟩ R):qX prog 0 ((f111.body).getD .skip) ⟨entry f111 [Cw w,Cm m],[]⟩ R:=by
 refine iG (uH ?_);refine .inl ⟨rfl,_,_,.refl _,iG (uH ?_)⟩;refine .inr ⟨⟨[2],[1],false⟩,au,fun h=>absurd h ar,fun t H=>qX prog 0 (behind 2 ((f111.body).getD .skip)) ⟨t,H⟩ R,uH ?_,fun t2 H2 h=>.inl ⟨rfl,_,_,.refl _,h⟩⟩;(repeat' (first | (exact trivial) | (refine ⟨fun _=>uH ?_,fun h=>absurd h ar⟩) | (refine ⟨fun h=>absurd h ar,fun _=>uH ?_⟩) | (refine ⟨(rfl:(_:zl)=_),uH ?_⟩) | (refine ⟨(rfl:(_:Option Ob)=_),uH ?_⟩) | ((refine JE [] PA (fun r H' ⟨b,v0,v1,v2,h1,h2⟩=>h2 ▸ rfl) rfl rfl rfl rfl rfl ?_;rintro _ _ ⟨b,v0,v1,v2,rfl,rfl⟩;(refine dd ?_))) | (refine ⟨_,_,eh.B7 (id:=5) _ _ _ _ rfl rfl rfl rfl rfl rfl rfl rfl rfl (hf _ _ _) hc,?_⟩;(refine dd ?_)) | (refine ⟨_,_,eh.B7 (id:=6) _ _ _ _ rfl rfl rfl rfl rfl rfl rfl rfl rfl (hf _ _ _) hc,?_⟩;(refine dd ?_)) | (refine And.intro ?_ ?_ <;> (conv=>whnf))))
 all_goals (first | exact ⟨_,_,(zp.forget 5).trans ((zp.ed [0,1,2,3,4,6] [2,3,4,5,6,7,8] _ _ rfl rfl rfl rfl).trans (cC)),hn⟩ | exact ⟨_,_,(zp.forget 6).trans ((zp.ed [0,1,2,3,4,5] [2,3,4,5,6,7,8] _ _ rfl rfl rfl rfl).trans (cC)),hn⟩)
abbrev nX (m:u3) (e:u6):u6:={ e with zg:=m.zg,version:= -1 }
def QM (w:Wor) (m:u3) (sw:qZ w) (ok:fm w) (hl:i64 m.listen) (hpc:m.pc=0) (hs:z6 w m=true):
  to 111 [] [Cw w,Cm m] (.u7 [Cw w,Cm { m with zn:=w.zn,pc:=1 },Ce (nX m (n4 w.zn))]) []:=by
 refine zb.Al func111 rfl (F5 w m 0 174 _ (fun _ _ _=>by rw [hpc];rfl) rfl ?_);(refine jC (K:=fun ex t H=>(ex=.ret∨ex=.normal)∧∃ s2,zp 0 ⟨t,H⟩ s2∧(kL prog f111 s2).map (yw 0 9)=some (.u7 [Cw w,Cm { m with zn:=w.zn,pc:=1 },Ce (nX m (n4 w.zn))])) (uH ?_))
 refine td ?_
 refine ah (zO w m ok hl) ?_;refine ⟨fun _=>dd ?_,fun h=>absurd ((hs).symm.trans h:true=false) ar⟩;refine td ?_
 refine ah (qy w sw) ?_;refine af [0,1] (Tm w m) ?_;refine .inl ⟨⟨false,[1,2],[1,6],[]⟩,au,uH ?_⟩;refine tc ?_
 exact uI
def QO (w:Wor) (m:u3) (sw:qZ w) (ok:fm w) (hl:i64 m.listen) (hpc:m.pc=2) (hs:z6 w m=true):
  to 111 [] [Cw w,Cm m] (.u7 [Cw w,Cm { m with zn:=w.zn,pc:=if w.zn=m.zn then 3 else 1 },Ce (nX m (n4 w.zn))]) []:=by
 refine zb.Al func111 rfl (F5 w m 2 177 _ (fun _ _ _=>by rw [hpc];rfl) rfl ?_);(refine jC (K:=fun ex t H=>(ex=.ret∨ex=.normal)∧∃ s2,zp 0 ⟨t,H⟩ s2∧(kL prog f111 s2).map (yw 0 9)=some (.u7 [Cw w,Cm { m with zn:=w.zn,pc:=if w.zn=m.zn then 3 else 1 },Ce (nX m (n4 w.zn))])) (uH ?_))
 refine td ?_
 refine ah (zO w m ok hl) ?_;refine ⟨fun _=>dd ?_,fun h=>absurd ((hs).symm.trans h:true=false) ar⟩;refine td ?_
 refine ah (qy w sw) ?_;refine af [0,1] (SN w m) ?_;refine .inl ⟨⟨false,[1,2],[1,6],[]⟩,au,uH ?_⟩;refine tc ?_
 exact uI
abbrev nv (w:Wor) (t:Nat) (n:Int):Wor:={ w with pins:=w.pins.set t n }
def QN (w:Wor) (m:u3) (sw:qZ w) (ok:fm w) (hl:i64 m.listen) (hpc:m.pc=1) (hs:z6 w m=true):
  to 111 [] [Cw w,Cm m] (.u7 [Cw (nv w m.zg.toNat (IntKind.i64.wrap (m.zn+1))),Cm { m with pc:=2 },Ce (nX m ⟨0,0,2,2,0,false,IntKind.i64.wrap (m.zn+1),false,false,false,wW⟩)]) []:=by
 obtain ⟨v,g,e,su⟩:=y8 hs
 obtain ⟨x,l,hx⟩:∃ x l,w.pins=x::l:=by
  cases h:w.pins with
  | nil=>have:=su.zg;rw [h] at this;exact cQ
  | cons x l=>exact ⟨x,l,rfl⟩
 refine zb.Al func111 rfl (F5 w m 1 176 _ (fun _ _ _=>by rw [hpc];rfl) rfl ?_);(refine jC (K:=fun ex t H=>(ex=.ret∨ex=.normal)∧∃ s2,zp 0 ⟨t,H⟩ s2∧(kL prog f111 s2).map (yw 0 9)=some (.u7 [Cw (nv w m.zg.toNat (IntKind.i64.wrap (m.zn+1))),Cm { m with pc:=2 },Ce (nX m ⟨0,0,2,2,0,false,IntKind.i64.wrap (m.zn+1),false,false,false,wW⟩)])) (uH ?_))
 refine td ?_
 refine ah (zO w m ok hl) ?_;refine ⟨fun _=>dd ?_,fun h=>absurd ((hs).symm.trans h:true=false) ar⟩;refine td ?_
 refine af [] (IF w sw x l hx) ?_;refine af [0,1,6] (SM w m su.zg.1 su.zg.2) ?_;refine .inl ⟨⟨false,[1,2],[1,7],[]⟩,au,uH ?_⟩;refine tc ?_
 exact ⟨.inl rfl,_,zp.zV 2 0 3 rfl rfl rfl rfl (.inr rfl) aj aj (shut_map (enc:=encI) (fun _=>rfl) _) (qa rfl),rfl⟩
abbrev CZ (m:u3):u6:=nX m ⟨0,0,2,2,0,false,0,false,false,false,wW⟩
def S0 (w:Wor) (m:u3) (sw:qZ w) (ok:fm w) (hl:i64 m.listen) (hs:z6 w m=true):
  to 187 [] [Cw w,Cm m] (.u7 [Cw (nv w m.zg.toNat 0),Ce (CZ m)]) []:=by
 obtain ⟨v,g,e,su⟩:=y8 hs
 obtain ⟨x,l,hx⟩:∃ x l,w.pins=x::l:=by
  cases h:w.pins with
  | nil=>have:=su.zg;rw [h] at this;exact cQ
  | cons x l=>exact ⟨x,l,rfl⟩
 have e1:0+m.zg.toNat=m.zg.toNat:=gz _;have h0:=su.zg.1;have h1:=su.zg.2;have hst:(w.pins.map encI).set m.zg.toNat [I 0]=(w.pins.set m.zg.toNat 0).map encI:=bR
 have hg:(w.pins.map encI)[m.zg.toNat]?= some (encI (w.pins[m.zg.toNat]'aw)):=by rw [dT,dQ aw];rfl
 refine ab func187 ?_;refine ah (zO w m ok hl) ?_;refine ⟨fun _=>dd ?_,fun h=>absurd ((hs).symm.trans h:true=false) ar⟩;refine td ?_
 refine af [] (IF w sw x l hx) ?_;refine ⟨h0,aw,dd ?_⟩;rw [e1];refine ⟨_,hg,rfl,dd ?_⟩;rw [hst];refine .inl ⟨⟨false,[2],[1],[]⟩,au,uH ?_⟩;refine tc ?_
 exact ⟨.inl rfl,_,zp.zV 2 0 3 rfl rfl rfl rfl (.inr rfl) aj aj (shut_map (enc:=encI) (fun _=>rfl) _) (qa rfl),rfl⟩
def kG (x:mB) (k n:Int):mB:=
 if k=0 then { x with c0:=IntKind.u64.wrap (x.c0+n) } else if k=1 then { x with c1:=IntKind.u64.wrap (x.c1+n) } else if k=2 then { x with c2:=IntKind.u64.wrap (x.c2+n) }
 else if k=3 then { x with c3:=IntKind.u64.wrap (x.c3+n) } else if k=4 then { x with c4:=IntKind.u64.wrap (x.c4+n) } else { x with c5:=IntKind.u64.wrap (x.c5+n) }
def Ju (x:mB) (k n:Int) (h0:0<=k) (h6:k < 6):to 134 [] [.agg (AA x),I k,U n] (.agg (AA (kG x k n))) []:=by
 obtain ⟨a,b,c,d,e,f⟩:=x;obtain rfl | rfl | rfl | rfl | rfl | rfl:k=0∨k=1∨k=2∨k=3∨k=4∨k=5:=aw
 all_goals
  refine ab func134 ?_;(refine ⟨ar,ar,dd ?_⟩);(refine ⟨ar,ar,dd ?_⟩);exact uI
def jm (w:Wor) (m:u3) (n:Int):u3:=
 let m1:u3:={ m with counts:=kG m.counts m.k n,k:=m.k+1 }
 let m2:u3:=if m.k+1=6 then { m1 with i:=m.i+1,k:=0 } else m1
 if m2.i=w.counts.length then { m2 with done:=true,answer:=⟨13,0,0,0,0,0,0,m2.counts⟩ } else m2
def Bn (w:Wor) (m:u3) (n:Int):u6:={ qC with zg:=m.zg,access:=1,cell:=10,version:= -1,value:=m.k,done:=(jm w m n).done,answer:=if (jm w m n).done then (jm w m n).answer else wW }
structure M7 (w:Wor) (m:u3) (r:List Int) (n:Int):Prop where
 i0:0<=m.i
 at_:w.counts[m.i.toNat]?= some r
 k0:0<=m.k
 k6:m.k < 6
 row:r[m.k.toNat]?= some n
abbrev Wj (m:u3) (n:Int):u3:={ m with counts:=kG m.counts m.k n,k:=m.k+1 }
abbrev Wl (m:u3) (n:Int):u3:={ m with counts:=kG m.counts m.k n,k:=0,i:=m.i+1 }
abbrev Wm (m:u3) (n:Int):u3:={ m with counts:=kG m.counts m.k n,k:=0,i:=m.i+1,done:=true,answer:=⟨13,0,0,0,0,0,0,kG m.counts m.k n⟩ }
def GJ {w:Wor} {m:u3} {n:Int} (h:m.k+1≠6) (hi:m.i≠w.counts.length):jm w m n=Wj m n:=by
 unfold jm;dsimp only;rw [dR h];exact dR hi
def GK {w:Wor} {m:u3} {n:Int} (h:m.k+1=6) (hi:m.i+1≠w.counts.length):jm w m n=Wl m n:=by
 unfold jm;dsimp only;rw [dU h];exact dR hi
def GL {w:Wor} {m:u3} {n:Int} (h:m.k+1=6) (hi:m.i+1=w.counts.length):jm w m n=Wm m n:=by
 unfold jm;dsimp only;rw [dU h];exact dU hi
abbrev My (m:u3):u6:={ qC with zg:=m.zg,access:=1,cell:=10,version:= -1,value:=m.k }
def Ll {w:Wor} {m:u3} {n:Int} (h:(jm w m n).done=false):Bn w m n=My m:=by
 unfold Bn;rw [h]
 rfl
def SO {w:Wor} {m:u3} {n:Int} (h:(jm w m n).done=true):Bn w m n={ My m with done:=true,answer:=(jm w m n).answer }:=by
 unfold Bn;rw [h]
 rfl
def stats_sound (w:Wor) (m:u3) (r:List Int) (n:Int) (sw:qZ w) (ok:fm w) (hl:i64 m.listen) (hpc:m.pc=0) (hs:z6 w m=true) (hd:m.done=false) (hc:M7 w m r n) (ha:m.answer=wW):
  to 101 [] [Cw w,Cm m] (.u7 [Cw w,Cm (jm w m n),Ce (Bn w m n)]) []:=by
 have i0:=hc.i0;have k0:=hc.k0;have hi:m.i.toNat < w.counts.length:=(dP.1 hc.at_).1;have ml:(w.counts.map zN).length=w.counts.length:=dV ..;have cr:(w.counts.map zN)[m.i.toNat]?= some (zN r):=by rw [dT,hc.at_];rfl
 have cn:(r.map jL)[m.k.toNat]?= some (jL n):=by rw [dT,hc.row];rfl
 refine ab func101 ?_;refine ⟨fun h=>absurd h (by simp [hpc]),fun _=>dd ?_⟩;refine ⟨fun h=>absurd h (by have:=hc.k6;simp;omega),fun _=>dd ?_⟩;rw [ml];refine ⟨fun h=>absurd h aA,fun _=>dd ?_⟩;refine ah (zO w m ok hl) ?_;refine ⟨fun _=>dd ?_,fun h=>absurd ((hs).symm.trans h:true=false) ar⟩;refine td ?_
 refine .inl ⟨⟨true,[],[],[14]⟩,au,uH ?_⟩;(refine ⟨i0,_,cr,dd ?_⟩)
 (refine ⟨k0,_,cn,dd ?_⟩)
 refine ah (Ju m.counts m.k n k0 hc.k6) ?_;refine tc ?_
 rw [show IntKind.i64.wrap (m.k+1)=m.k+1 from jc aw (by have:=hc.k6;omega)];refine ⟨fun h6=>?_,fun h6=>?_⟩
 ·have g6:m.k+1=6:=by simpa using h6
  refine dd ?_;rw [show IntKind.i64.wrap (m.i+1)=m.i+1 from jc aw (by have:=sw.counts.1;omega)];rw [ml];refine ⟨fun h7=>?_,fun h7=>?_⟩
  ·have g7:m.i+1=w.counts.length:=by simpa using h7
   rw [SO (by rw [GL g6 g7]),GL g6 g7];refine dd ?_;refine .inl ⟨⟨false,[1],[1],[]⟩,au,uH ?_⟩;refine tc ?_
   exact dE
  ·have g7:m.i+1≠w.counts.length:=by simpa using h7
   rw [Ll (by rw [GK g6 g7];exact hd),GK g6 g7];refine dd ?_;exact dE
 ·have g6:m.k+1≠6:=by simpa using h6
  have g7:m.i≠w.counts.length:=aw
  rw [Ll (by rw [GJ g6 g7];exact hd),GJ g6 g7];refine dd ?_;rw [ml];refine ⟨fun h=>absurd h (aq g7),fun _=>dd ?_⟩;exact dE
end Go.Wor
