import Derived.Test.YtkbnjgogjccmfaaGreatTU
set_option linter.all false
set_option maxRecDepth 100000
set_option maxHeartbeats 4000000
namespace Go.Wor
open Go.Ab Go.Proofs Tryz Go.Hy Go.Gat Go.Nam Go.Hos Go.Con Go.Sna
abbrev Cm (m:uw):C:=.agg (zD m)
def zY (w:Wor) (m:uw):Bool:=xM w && fP m.zf w.pins.length && !m.done && fP m.version w.ze.length && (match w.ze[m.version.toNat]? with
 | none=>false
 | some v=>fP m.zi v.zm.length && (match v.zm[m.zi.toNat]? with
  | none=>false
  | some g=>fP m.end_ g.ends.length && fP m.other g.ends.length && (match g.ends[m.end_.toNat]? with
   | none=>false
   | some e=>fP m.slot e.next.length) && (fP (m.listen+1) (w.zd.length+1) && decide (0<=m.i) && decide (0<=m.k))))
def ve {i n:Int}:fP i n=true↔0<=i∧i < n:=by unfold fP;simp
structure qF (w:Wor) (m:uw) (v:u3) (g:Gr) (e:En):Prop where
 world:xM w=true
 zf:0<=m.zf∧m.zf < w.pins.length
 done:m.done=false
 version:0<=m.version∧m.version < w.ze.length
 eQ:w.ze[m.version.toNat]?= some v
 zi:0<=m.zi∧m.zi < v.zm.length
 ey:v.zm[m.zi.toNat]?= some g
 end_ : 0 <= m.end_ ∧ m.end_ < g.ends.length
 eL:g.ends[m.end_.toNat]?= some e
 other:0<=m.other∧m.other < g.ends.length
 slot:0<=m.slot∧m.slot < e.next.length
 listen: -1<=m.listen∧m.listen < w.zd.length
 i:0<=m.i
 k:0<=m.k
def y3 {w:Wor} {m:uw} (h:zY w m=true):∃ v g e,qF w m v g e:=by
 unfold zY at h;simp only [dU,gX,ve] at h;obtain ⟨⟨⟨⟨h1,h2⟩,h3⟩,h4⟩,h5⟩:=h;split at h5
 ·cases h5
 rename_i v hv;simp only [dU,ve] at h5;obtain ⟨h5,h6⟩:=h5;split at h6
 ·cases h6
 rename_i g hg;simp only [dU,ve,gh] at h6;obtain ⟨⟨⟨h6,h7⟩,h8⟩,⟨h9,h10⟩,h11⟩:=h6;split at h8
 ·cases h8
 rename_i e he;simp only [ve] at h8;exact ⟨v,g,e,h1,h2,h3,h4,hv,h5,hg,h6,he,h7,h8,aw,h10,h11⟩
def zO (w:Wor) (m:uw) (hw:fe w) (hm:i64 m.listen):tn 112 [] [Cw w,Cm m] (Bo (zY w m)) []:=by
 have m1:(w.pins.map encI).length=w.pins.length:=dR ..;have m2:(w.ze.map zF).length=w.ze.length:=dR ..;have m3:(w.zd.map qH).length=w.zd.length:=dR ..;have b3:=hw.zd.1;have el:IntKind.i64.wrap ((w.zd.length:Int)+1)=(w.zd.length:Int)+1:=q9 aw aw
 have el2:fP (IntKind.i64.wrap (m.listen+1)) ((w.zd.length:Int)+1)=fP (m.listen+1) ((w.zd.length:Int)+1):=by
  by_cases hh:m.listen<=9223372036854775806
  ·rw [q9 (by have:=hm.1;omega) aw]
  ·have h9:m.listen=9223372036854775807:=by have:=hm.2;omega
   rw [h9];have h10:IntKind.i64.wrap (9223372036854775807+1)= -9223372036854775808:=ar
   rw [h10];unfold fP;rw [show decide ((0:Int)<= -9223372036854775808)=false from rfl,show decide ((9223372036854775807:Int)+1 < (w.zd.length:Int)+1)=false from aA];simp
 refine ab func112 ?_;refine ah (Ii w hw) ?_;refine ⟨fun h1=>?_,fun h1=>?_⟩
 rotate_left
 ·(have e:zY w m=false:=by (unfold zY;(rw [h1]);simp));exact dI
 refine dd ?_;rw [m1];refine ah (wm m.zf w.pins.length) ?_;refine ⟨fun h2=>?_,fun h2=>?_⟩
 rotate_left
 ·(have e:zY w m=false:=by (unfold zY;(rw [h2]);simp));exact dI
 refine dd ?_;refine ⟨fun h3=>?_,fun h3=>?_⟩
 ·(have e:zY w m=false:=by (unfold zY;(rw [h3]);simp));exact dI
 refine dd ?_;rw [m2];refine ah (wm m.version w.ze.length) ?_;refine ⟨fun h4=>?_,fun h4=>?_⟩
 rotate_left
 ·(have e:zY w m=false:=by (unfold zY;(rw [h4]);simp));exact dI
 obtain ⟨c0,c1⟩:=ve.1 h4;have hv:w.ze[m.version.toNat]?= some (w.ze[m.version.toNat]'aw):=dM _;generalize w.ze[m.version.toNat]'aw=v at hv;have gv:(w.ze.map zF)[m.version.toNat]?= some (zF v):=by rw [dP,hv];rfl
 have m4:(v.zm.map zE).length=v.zm.length:=dR ..
 have g0:zY w m=(fP m.zi v.zm.length && (match v.zm[m.zi.toNat]? with
  | none=>false
  | some g=>fP m.end_ g.ends.length && fP m.other g.ends.length && (match g.ends[m.end_.toNat]? with
   | none=>false
   | some e=>fP m.slot e.next.length) && (fP (m.listen+1) (w.zd.length+1) && decide (0<=m.i) && decide (0<=m.k)))):=by
  unfold zY;rw [h1,h2,h3,h4,hv]
  rfl
 rw [g0];refine dd ?_;refine tc ?_
 refine ⟨c0,_,gv,dd ?_⟩;rw [m4];refine ah (wm m.zi v.zm.length) ?_;refine ⟨fun h5=>?_,fun h5=>?_⟩
 rotate_left
 ·rw [h5];refine dd ?_;refine tc ?_
  exact uI
 obtain ⟨c2,c3⟩:=ve.1 h5;have hg:v.zm[m.zi.toNat]?= some (v.zm[m.zi.toNat]'aw):=dM _;generalize v.zm[m.zi.toNat]'aw=g at hg;have gg:(v.zm.map zE)[m.zi.toNat]?= some (zE g):=by rw [dP,hg];rfl
 have m5:(g.ends.map zx).length=g.ends.length:=dR ..;rw [h5,hg];dsimp only;refine dd ?_;refine tc ?_
 refine ⟨c2,_,gg,dd ?_⟩;refine uE ?_;rw [m5];refine ah (wm m.end_ g.ends.length) ?_;refine ⟨fun h6=>?_,fun h6=>?_⟩
 rotate_left
 ·rw [h6];refine dd ?_;refine tc ?_
  exact uI
 obtain ⟨c4,c5⟩:=ve.1 h6;have he:g.ends[m.end_.toNat]?= some (g.ends[m.end_.toNat]'aw):=dM _;generalize g.ends[m.end_.toNat]'aw=e at he;have ge:(g.ends.map zx)[m.end_.toNat]?= some (zx e):=by rw [dP,he];rfl
 have m6:(e.next.map encI).length=e.next.length:=dR ..;rw [h6,he];dsimp only;refine dd ?_;rw [m5];refine ah (wm m.other g.ends.length) ?_;refine ⟨fun h7=>?_,fun h7=>?_⟩
 rotate_left
 ·rw [h7];refine dd ?_;refine tc ?_
  exact uI
 rw [h7];refine dd ?_;refine ⟨c4,_,ge,dd ?_⟩;rw [m6];refine ah (wm m.slot e.next.length) ?_;refine ⟨fun h8=>?_,fun h8=>?_⟩
 rotate_left
 ·rw [h8];refine dd ?_;refine tc ?_
  exact uI
 rw [h8];refine dd ?_;refine tc ?_
 rw [m3,el];have hin:=wm (IntKind.i64.wrap (m.listen+1)) ((w.zd.length:Int)+1);rw [el2] at hin;refine ah hin ?_;refine ⟨fun h9=>?_,fun h9=>?_⟩
 rotate_left
 ·rw [h9];refine dd ?_;refine tc ?_
  exact uI
 rw [h9];refine dd ?_;refine ⟨fun h10=>?_,fun h10=>?_⟩
 rotate_left
 ·refine dd ?_;refine tc ?_
  (exact ⟨.inl rfl,_,.refl _,uN (by symm;simp at h10 ⊢;omega)⟩)
 refine dd ?_;refine ⟨fun h11=>?_,fun h11=>?_⟩
 ·refine dd ?_;refine tc ?_
  (exact ⟨.inl rfl,_,.refl _,uN (by symm;simp at h10 h11 ⊢;omega)⟩)
 ·refine dd ?_;refine tc ?_
  (exact ⟨.inl rfl,_,.refl _,uN (by symm;simp at h10 h11 ⊢;omega)⟩)
end Go.Wor
namespace Go.Ab
def vC {H:zl} {id i:Nat} {ob:Ob} (h:(xQ H id)[i]?= some ob) (hk:ob.kind=4):H[i]?= some ob:=by
 rw [yY] at h;cases hx:H[i]? with
 | none=>rw [hx] at h;cases h
 | some o=>
  rw [hx] at h;simp only [dX,gu] at h;split at h
  ·subst h;cases hk
  ·rw [h]
def zo.forget {B:Nat} {s:S} (id:Nat):zo B s ⟨s.tmps,xQ s.H id⟩:=fun m w E a hs=>by
 have hg:∀ {i b},qE E (xQ s.H id) i b->qE E s.H i b:=fun ⟨ob,cap,h1,h2,h3,h4⟩=>⟨ob,cap,vC h1 h2,h2,h3,h4⟩
 have hr:∀ {i b},jz (xQ s.H id) i b->jz s.H i b:=fun ⟨ob,o,t,h1,h2,h3,h4⟩=>⟨ob,o,t,vC h1 h2,h2,h3,h4⟩
 have h0:∀ {b},jb E (xQ s.H id) b->jb E s.H b:=fun ⟨i,p,x,h1,h2⟩=>⟨i,p,x,(yO h1).2,h2⟩
 refine ⟨E,⟨⟨hs.heap.base.kill id,?_⟩,hs.tmps,hs.defers,by have:=hs.base;simp [xQ];omega⟩,⟨Env.mR.refl B E,rfl,rfl,rfl,dW _,fun _ _ _=>rfl,fun _ _ _ h=>.inl h,?_⟩⟩
 ·exact {
   val:=fun i ob h1 h2=>hs.heap.uy.val i ob (vC h1 h2) h2
   u9:=fun i b ob h1 h2=>hs.heap.uy.u9 i b ob (hg h1) (by obtain ⟨ob2,_,h3,h4,_⟩:=h1;rw [h2] at h3;cases h3;exact vC h2 h4)
   sep:=fun i b h1 h2=>hs.heap.uy.sep i b (hg h1) (h0 h2)
   inj:=fun i j b h1 h2=>hs.heap.uy.inj i j b (hg h1) (hg h2)
   st:=fun i b ob o u h1 h2 h3=>hs.heap.uy.st i b ob o u (hg h1) (by obtain ⟨ob2,_,h4,h5,_⟩:=h1;rw [h2] at h4;cases h4;exact vC h2 h5) h3
   top:=fun i ob k u h1 h2 h3=>hs.heap.uy.top i ob k u (vC h1 h2) h2 h3
   fy:=fun i ob o t h1 h2 h3=>hs.heap.uy.fy i ob o t (vC h1 h2) h2 h3
   wF:=fun i j b h1 h2=>hs.heap.uy.wF i j b (hr h1) (hr h2) }
 ·rintro b (hb | ⟨i,hb | hb⟩)
  ·exact .inr (.inl (h0 hb))
  ·exact .inr (.inr ⟨i,.inl (hg hb)⟩)
  ·exact .inr (.inr ⟨i,.inr (hr hb)⟩)
end Go.Ab
namespace Go.Wor
open Go.Ab Go.Proofs Tryz Go.Hy Go.Gat Go.Nam Go.Hos Go.Con Go.Sna
abbrev Ce (e:uz):C:=.agg (zR e)
abbrev wR:ef:=⟨0,0,0,0,0,0,0,⟨0,0,0,0,0,0⟩⟩
abbrev qA:uz:=⟨0,0,0,0,0,false,0,false,false,false,wR⟩
abbrev nP (n:Int):uz:=⟨0,0,1,1,0,false,n,false,false,false,wR⟩
def VS (r:C) (H':zl):Prop:=∃ (b:Nat) (v0 v1 v2:Value),r=.v (.map (some b))∧H'=[AA b [(0,v0,0),(1,v1,1),(2,v2,2)] 3 [.agg [.fn 174 [] []],.agg [.fn 176 [] []],.agg [.fn 177 [] []]]]
def O7:qC prog 139 [] [] VS:=by
 refine qC.zU (fn:=f139) func139 rfl (uH ?_);intro b;refine dd ?_;refine jE.qn (id:=0) _ _ _ _ (.inr rfl) underlying240 underlying3 rfl rfl rfl rfl rfl ?_;intro v0;refine dd ?_;refine jE.qn (id:=0) _ _ _ _ (.inr rfl) underlying240 underlying3 rfl rfl rfl rfl rfl ?_;intro v1;refine dd ?_;refine jE.qn (id:=0) _ _ _ _ (.inr rfl) underlying240 underlying3 rfl rfl rfl rfl rfl ?_;intro v2;refine dd ?_;exact ⟨.inl rfl,_,_,.refl _,rfl,b,v0,v1,v2,rfl,rfl⟩
def qc {P:Program} {f:FuncId} {fn:Func} {c:Code} {H H2:zl} {args:List C} {r:C} (hf:P.funcs[f]?= some fn) (hb:fn.body=some c) (hle:H.length<=H2.length)
  (h:wpA P H.length c (entry fn args) H fun ex t1 H1=>(ex=.ret∨ex=.normal)∧∃ s2 r1,zo H.length ⟨t1,H1⟩ s2∧kH P fn s2=some r1∧zo H.length ⟨[r1],s2.H⟩ ⟨[r],H2⟩):zb P f H args r H2:=fun w E vs hh hl0=>by
 have h1:qC P f H args fun r1 H1=>zo H.length ⟨[r1],H1⟩ ⟨[r],H2⟩:=qC.zU hf hb h
 refine (h1 w E vs hh hl0).mono ?_;rintro e w' ⟨r1,H1,v,E',hw,h0,h2,h3,g⟩;have hHH:H.length<=H1.length:=bT
 obtain ⟨E2,hs,g2⟩:=hw 0 w' E' ⟨#[v],[]⟩ ⟨h2,LL.one h3,gA _,hHH⟩;have hn2:=hs.heap.n;refine ⟨v,E2,h0,hs.heap,hs.tmps.cons_inv.1,⟨⟨by rw [hh.n,hn2];exact hle,fun id hops hi=>?_,fun id hops hi=>?_,fun b o u hu=>g2.le.St _ _ _ (g.le.St _ _ _ hu),fun id k u hi hu=>?_⟩,g2.os.trans g.os,g2.tape.trans g.tape,g2.output.trans g.output,gW g.size g2.size,?_,?_,?_⟩⟩
 ·rw [hh.n] at hi;exact (g2.le.β id hops hi).trans (g.le.β id hops tO)
 ·rw [hh.n] at hi;exact (g2.le.κ id hops hi).trans (g.le.κ id hops tO)
 ·rw [hh.n] at hi;exact g2.le.G id k u hi (g.le.G id k u tO hu)
 ·intro k hk ho;exact cW
 ·intro b o u hu;rcases g2.jK b o u hu with h1 | h1 | h1
  ·exact g.jK b o u h1
  ·exact .inr (.inl (gW g.size h1))
  ·rcases g.own b h1 with h4 | h4
   ·exact .inr (.inl h4)
   ·exact .inr (.inr h4)
 ·intro b hb;rcases g2.own b hb with h1 | h1
  ·exact .inl (gW g.size h1)
  ·exact g.own b h1
def aa {P:Program}{f:FuncId}{fn:Func}{c:Code}{H H2:zl}{args:List C}{r:C}{zQ:Prop}(hf:P.funcs[f]?= some fn)(z0:zQ)(hb:fn.body=some c:=by exact rfl)(hle:H.length<=H2.length:=by exact dW _)(ze:zQ->wpA P H.length c (entry fn args) H fun ex t1 H1=>(ex=.ret∨ex=.normal)∧∃ s2 r1,zo H.length ⟨t1,H1⟩ s2∧kH P fn s2=some r1∧zo H.length ⟨[r1],s2.H⟩ ⟨[r],H2⟩:=by intro zh;(conv=>whnf);exact zh):zb P f H args r H2:=qc hf hb hle (ze z0)
def EW (w:Wor) (m:uw):tn 175 [⟨1,37,8,[zJ w],0⟩,⟨1,69,44,[zD (m)],0⟩] [.ref 0 [] 8 0 0] (Ce (nP w.zn)) [⟨1,37,8,[zJ w],0⟩,⟨1,69,44,[zD (m)],0⟩]:=by
 refine aa func175 ?_;exact cI
def S1 (w:Wor) (m:uw):tn 174 [⟨1,37,8,[zJ w],0⟩,⟨1,69,44,[zD (m)],0⟩] tj (Ce (nP w.zn)) [⟨1,37,8,[zJ w],0⟩,⟨1,69,44,[zD ({ m with zn:=w.zn,pc:=1 })],0⟩]:=by
 refine aa func174 ?_;refine af [0,1] (EW w { m with zn:=w.zn,pc:=1 }) ?_;exact cI
def S2 (w:Wor) (m:uw) (h0:0<=m.zf) (h1:m.zf < w.pins.length):tn 176 [⟨1,37,8,[[I w.zn,I w.current,I w.lock,.sl 2 [] 1 0 w.pins.length false,lV w.ze,lL w.zd,eG w.counts,lR w.zr]],0⟩,⟨1,69,44,[zD (m)],0⟩,⟨2,3,1,(w.pins).map encI,0⟩] tj (Ce ⟨0,0,2,2,0,false,IntKind.i64.wrap (m.zn+1),false,false,false,wR⟩) [⟨1,37,8,[[I w.zn,I w.current,I w.lock,.sl 2 [] 1 0 w.pins.length false,lV w.ze,lL w.zd,eG w.counts,lR w.zr]],0⟩,⟨1,69,44,[zD ({ m with pc:=2 })],0⟩,⟨2,3,1,(w.pins.set m.zf.toNat (IntKind.i64.wrap (m.zn+1))).map encI,0⟩]:=by
 have hs:(w.pins.map encI).set m.zf.toNat [I (IntKind.i64.wrap (m.zn+1))]=(w.pins.set m.zf.toNat (IntKind.i64.wrap (m.zn+1))).map encI:=bR
 rw [<- hs];have e1:0+m.zf.toNat=m.zf.toNat:=gp _;have hg:(w.pins.map encI)[m.zf.toNat]?= some (encI (w.pins[m.zf.toNat]'aw)):=by rw [dP,dM aw];rfl
 refine aa func176 ?_;refine uE ?_;refine ⟨h0,aw,dd ?_⟩;rw [e1];refine ⟨_,hg,rfl,dd ?_⟩;exact ⟨.inl rfl,_,_,.refl _,rfl,cE 3⟩
def S3 (w:Wor) (m:uw):tn 177 [⟨1,37,8,[zJ w],0⟩,⟨1,69,44,[zD (m)],0⟩] tj (Ce (nP w.zn)) [⟨1,37,8,[zJ w],0⟩,⟨1,69,44,[zD ({ m with zn:=w.zn,pc:=if w.zn=m.zn then 3 else 1 })],0⟩]:=by
 refine aa func177 ?_;refine uE ?_;refine ⟨fun h=>?_,fun h=>?_⟩
 ·conv=>whnf
  rw [dQ (gK h)];refine af [0,1] (EW w { m with zn:=w.zn,pc:=3 }) ?_;exact cI
 ·conv=>whnf
  rw [dN (pF h)];refine af [0,1] (EW w { m with zn:=w.zn,pc:=1 }) ?_;exact cI
abbrev MJ:List C:=[.fn 174 [] []]
abbrev MK:List C:=[.fn 176 [] []]
abbrev ML:List C:=[.fn 177 [] []]
abbrev fI:List C:=[I 0,I 0,I 0,.uv 1 0 [],.uv 1 0 [],.uv 1 0 [],.uv 1 0 [],.uv 1 0 []]
abbrev Nd:List C:=[I 0,Tx [],Tx [],Tx [],I 0,I 0,I 0,.uv 1 0 [],.uv 1 0 [],.uv 1 0 []]
abbrev fH:List C:=Nd++[I 0,I 0,I 0,I 0,I 0,I 0,I 0,I 0,I 0,U 0,I 0,I 0,I 0,I 0,Bo false]++xz wR++Ar ⟨0,0,0,0,0,0⟩
def Jp {P:Program} {f:FuncId} (sel:List Nat) {K H0:zl} {args args0:List C} {R:C->zl->Prop} (h:qC P f H0 args0 R) (hR:∀ r H',R r H'->qP H'=true)
  (hH:xA sel K=H0) (ha:args.map (x9 sel 9)=args0) (z7:sel.all (fun id=>Nat.blt id K.length)=true) (ff:ym sel=true) (eX:qP K=true) {k:C->zl->Prop}
  (hk:∀ r H',R r H'->oL (wx sel K H') fun X=>qL (yQ (qZ sel K.length) 9 r) fun c=>k c X):∃ R',qC P f K args R'∧∀ r H2,R' r H2->k r H2:=
 ⟨_,h.part sel hR hH ha z7 ff eX,fun r H2 ⟨r0,H',h1,h2,h3⟩=>by subst h2 h3;exact zQ (vX (k:=fun X=>qL (yQ (qZ sel K.length) 9 r0) fun c=>k c X) (hk r0 H' h1))⟩
def zb.o9 {P:Program} {f:FuncId} {fn:Func} {c:Code} {args:List C} {r:C} (hf:P.funcs[f]?= some fn) (hb:fn.body=some c)
  (h:qW P 0 c ⟨entry fn args,[]⟩ fun ex s=>(ex=.ret∨ex=.normal)∧∃ s2,zo 0 s s2∧(kH P fn s2).map (yq 0 9)=some r):zb P f [] args r []:=by
 refine qC.GH (qC.wt (H:=[]) hf hb (h.mono fun ex s1 ⟨hex,s2,hw,h2⟩=>?_));cases h3:kH P fn s2 with
 | none=>rw [h3] at h2;cases h2
 | some r0=>
  rw [h3] at h2;cases h2
  exact ⟨hex,s2,r0,hw,h3,rfl⟩
def F0 (w:Wor) (m:uw) (j f:Nat) (R:Exit->S->Prop) (hf:∀ v0 v1 v2,vu [(0,v0,0),(1,v1,1),(2,v2,2)] m.pc=some j) (hc:[C.agg MJ,.agg MK,.agg ML][j]?= some (.agg [.fn f [] []]))
  (hn:qW prog 0 (behind 2 ((f111.body).getD .skip)) ⟨(.za::.za::.ref 0 [] 8 0 0::.ref 1 [] 44 0 0::.ref 2 [] 8 0 0::.ref 3 [] 44 0 0::.ref 4 [] 23 0 0::.ref 5 [] 1 0 0::.v (.bool true)::tZ (tZ (tZ ([.za,.za,.za,.za,.za,.za,.za])))),[⟨1,37,8,[zJ w],0⟩,⟨1,69,44,[zD (m)],0⟩,⟨1,37,8,[fI],0⟩,⟨1,69,44,[fH],0⟩,⟨1,48,23,[zR qA],0⟩,⟨1,238,1,[[.fn f [] []]],0⟩]⟩ R):qW prog 0 ((f111.body).getD .skip) ⟨entry f111 [Cw w,Cm m],[]⟩ R:=by
 refine iC (uH ?_);refine .inl ⟨rfl,_,_,.refl _,iC (uH ?_)⟩;refine .inr ⟨⟨[2],[1],false⟩,au,fun h=>absurd h ar,fun t H=>qW prog 0 (behind 2 ((f111.body).getD .skip)) ⟨t,H⟩ R,uH ?_,fun t2 H2 h=>.inl ⟨rfl,_,_,.refl _,h⟩⟩;(repeat' (first | (exact trivial) | (refine ⟨fun _=>uH ?_,fun h=>absurd h ar⟩) | (refine ⟨fun h=>absurd h ar,fun _=>uH ?_⟩) | (refine ⟨(rfl:(_:zl)=_),uH ?_⟩) | (refine ⟨(rfl:(_:Option Ob)=_),uH ?_⟩) | ((refine Jp [] O7 (fun r H' ⟨b,v0,v1,v2,h1,h2⟩=>h2 ▸ rfl) rfl rfl rfl rfl rfl ?_;rintro _ _ ⟨b,v0,v1,v2,rfl,rfl⟩;(refine dd ?_))) | (refine ⟨_,_,u6.BX (id:=5) _ _ _ _ rfl rfl rfl rfl rfl rfl rfl rfl rfl (hf _ _ _) hc,?_⟩;(refine dd ?_)) | (refine ⟨_,_,u6.BX (id:=6) _ _ _ _ rfl rfl rfl rfl rfl rfl rfl rfl rfl (hf _ _ _) hc,?_⟩;(refine dd ?_)) | (refine And.intro ?_ ?_ <;> (conv=>whnf))))
 all_goals (first | exact ⟨_,_,(zo.forget 5).trans ((zo.u5 [0,1,2,3,4,6] [2,3,4,5,6,7,8] _ _ rfl rfl rfl rfl).trans (cC)),hn⟩ | exact ⟨_,_,(zo.forget 6).trans ((zo.u5 [0,1,2,3,4,5] [2,3,4,5,6,7,8] _ _ rfl rfl rfl rfl).trans (cC)),hn⟩)
abbrev nM (m:uw) (e:uz):uz:={ e with zf:=m.zf,version:= -1 }
def Qr (w:Wor) (m:uw) (sw:qX w) (ok:fe w) (hl:i64 m.listen) (hpc:m.pc=0) (hs:zY w m=true):
  tn 111 [] [Cw w,Cm m] (.u1 [Cw w,Cm { m with zn:=w.zn,pc:=1 },Ce (nM m (nP w.zn))]) []:=by
 refine zb.o9 func111 rfl (F0 w m 0 174 _ (fun _ _ _=>by rw [hpc];rfl) rfl ?_);(refine jy (K:=fun ex t H=>(ex=.ret∨ex=.normal)∧∃ s2,zo 0 ⟨t,H⟩ s2∧(kH prog f111 s2).map (yq 0 9)=some (.u1 [Cw w,Cm { m with zn:=w.zn,pc:=1 },Ce (nM m (nP w.zn))])) (uH ?_))
 refine tc ?_
 refine ah (zO w m ok hl) ?_;refine ⟨fun _=>dd ?_,fun h=>absurd ((hs).symm.trans h:true=false) ar⟩;refine tc ?_
 refine ah (qw w sw) ?_;refine af [0,1] (S1 w m) ?_;refine .inl ⟨⟨false,[1,2],[1,6],[]⟩,au,uH ?_⟩;refine hZ ?_
 exact uI
def Qt (w:Wor) (m:uw) (sw:qX w) (ok:fe w) (hl:i64 m.listen) (hpc:m.pc=2) (hs:zY w m=true):
  tn 111 [] [Cw w,Cm m] (.u1 [Cw w,Cm { m with zn:=w.zn,pc:=if w.zn=m.zn then 3 else 1 },Ce (nM m (nP w.zn))]) []:=by
 refine zb.o9 func111 rfl (F0 w m 2 177 _ (fun _ _ _=>by rw [hpc];rfl) rfl ?_);(refine jy (K:=fun ex t H=>(ex=.ret∨ex=.normal)∧∃ s2,zo 0 ⟨t,H⟩ s2∧(kH prog f111 s2).map (yq 0 9)=some (.u1 [Cw w,Cm { m with zn:=w.zn,pc:=if w.zn=m.zn then 3 else 1 },Ce (nM m (nP w.zn))])) (uH ?_))
 refine tc ?_
 refine ah (zO w m ok hl) ?_;refine ⟨fun _=>dd ?_,fun h=>absurd ((hs).symm.trans h:true=false) ar⟩;refine tc ?_
 refine ah (qw w sw) ?_;refine af [0,1] (S3 w m) ?_;refine .inl ⟨⟨false,[1,2],[1,6],[]⟩,au,uH ?_⟩;refine hZ ?_
 exact uI
abbrev nn (w:Wor) (t:Nat) (n:Int):Wor:={ w with pins:=w.pins.set t n }
def Qs (w:Wor) (m:uw) (sw:qX w) (ok:fe w) (hl:i64 m.listen) (hpc:m.pc=1) (hs:zY w m=true):
  tn 111 [] [Cw w,Cm m] (.u1 [Cw (nn w m.zf.toNat (IntKind.i64.wrap (m.zn+1))),Cm { m with pc:=2 },Ce (nM m ⟨0,0,2,2,0,false,IntKind.i64.wrap (m.zn+1),false,false,false,wR⟩)]) []:=by
 obtain ⟨v,g,e,su⟩:=y3 hs
 obtain ⟨x,l,hx⟩:∃ x l,w.pins=x::l:=by
  cases h:w.pins with
  | nil=>have:=su.zf;rw [h] at this;exact cP
  | cons x l=>exact ⟨x,l,rfl⟩
 refine zb.o9 func111 rfl (F0 w m 1 176 _ (fun _ _ _=>by rw [hpc];rfl) rfl ?_);(refine jy (K:=fun ex t H=>(ex=.ret∨ex=.normal)∧∃ s2,zo 0 ⟨t,H⟩ s2∧(kH prog f111 s2).map (yq 0 9)=some (.u1 [Cw (nn w m.zf.toNat (IntKind.i64.wrap (m.zn+1))),Cm { m with pc:=2 },Ce (nM m ⟨0,0,2,2,0,false,IntKind.i64.wrap (m.zn+1),false,false,false,wR⟩)])) (uH ?_))
 refine tc ?_
 refine ah (zO w m ok hl) ?_;refine ⟨fun _=>dd ?_,fun h=>absurd ((hs).symm.trans h:true=false) ar⟩;refine tc ?_
 refine af [] (Is w sw x l hx) ?_;refine af [0,1,6] (S2 w m su.zf.1 su.zf.2) ?_;refine .inl ⟨⟨false,[1,2],[1,7],[]⟩,au,uH ?_⟩;refine hZ ?_
 exact ⟨.inl rfl,_,zo.zV 2 0 3 rfl rfl rfl rfl (.inr rfl) aj aj (shut_map (enc:=encI) (fun _=>rfl) _) (z5 rfl),rfl⟩
abbrev CS (m:uw):uz:=nM m ⟨0,0,2,2,0,false,0,false,false,false,wR⟩
def RZ (w:Wor) (m:uw) (sw:qX w) (ok:fe w) (hl:i64 m.listen) (hs:zY w m=true):
  tn 187 [] [Cw w,Cm m] (.u1 [Cw (nn w m.zf.toNat 0),Ce (CS m)]) []:=by
 obtain ⟨v,g,e,su⟩:=y3 hs
 obtain ⟨x,l,hx⟩:∃ x l,w.pins=x::l:=by
  cases h:w.pins with
  | nil=>have:=su.zf;rw [h] at this;exact cP
  | cons x l=>exact ⟨x,l,rfl⟩
 have e1:0+m.zf.toNat=m.zf.toNat:=gp _;have h0:=su.zf.1;have h1:=su.zf.2;have hst:(w.pins.map encI).set m.zf.toNat [I 0]=(w.pins.set m.zf.toNat 0).map encI:=bR
 have hg:(w.pins.map encI)[m.zf.toNat]?= some (encI (w.pins[m.zf.toNat]'aw)):=by rw [dP,dM aw];rfl
 refine ab func187 ?_;refine ah (zO w m ok hl) ?_;refine ⟨fun _=>dd ?_,fun h=>absurd ((hs).symm.trans h:true=false) ar⟩;refine tc ?_
 refine af [] (Is w sw x l hx) ?_;refine ⟨h0,aw,dd ?_⟩;rw [e1];refine ⟨_,hg,rfl,dd ?_⟩;rw [hst];refine .inl ⟨⟨false,[2],[1],[]⟩,au,uH ?_⟩;refine hZ ?_
 exact ⟨.inl rfl,_,zo.zV 2 0 3 rfl rfl rfl rfl (.inr rfl) aj aj (shut_map (enc:=encI) (fun _=>rfl) _) (z5 rfl),rfl⟩
def kA (x:mi) (k n:Int):mi:=
 if k=0 then { x with c0:=IntKind.u64.wrap (x.c0+n) } else if k=1 then { x with c1:=IntKind.u64.wrap (x.c1+n) } else if k=2 then { x with c2:=IntKind.u64.wrap (x.c2+n) }
 else if k=3 then { x with c3:=IntKind.u64.wrap (x.c3+n) } else if k=4 then { x with c4:=IntKind.u64.wrap (x.c4+n) } else { x with c5:=IntKind.u64.wrap (x.c5+n) }
def Jc (x:mi) (k n:Int) (h0:0<=k) (h6:k < 6):tn 134 [] [.agg (Ar x),I k,U n] (.agg (Ar (kA x k n))) []:=by
 obtain ⟨a,b,c,d,e,f⟩:=x;obtain rfl | rfl | rfl | rfl | rfl | rfl:k=0∨k=1∨k=2∨k=3∨k=4∨k=5:=aw
 all_goals
  refine ab func134 ?_;(refine ⟨ar,ar,dd ?_⟩);(refine ⟨ar,ar,dd ?_⟩);exact uI
def jg (w:Wor) (m:uw) (n:Int):uw:=
 let m1:uw:={ m with counts:=kA m.counts m.k n,k:=m.k+1 }
 let m2:uw:=if m.k+1=6 then { m1 with i:=m.i+1,k:=0 } else m1
 if m2.i=w.counts.length then { m2 with done:=true,answer:=⟨13,0,0,0,0,0,0,m2.counts⟩ } else m2
def Bi (w:Wor) (m:uw) (n:Int):uz:={ qA with zf:=m.zf,access:=1,cell:=10,version:= -1,value:=m.k,done:=(jg w m n).done,answer:=if (jg w m n).done then (jg w m n).answer else wR }
structure MF (w:Wor) (m:uw) (r:List Int) (n:Int):Prop where
 i0:0<=m.i
 at_:w.counts[m.i.toNat]?= some r
 k0:0<=m.k
 k6:m.k < 6
 row:r[m.k.toNat]?= some n
abbrev Wu (m:uw) (n:Int):uw:={ m with counts:=kA m.counts m.k n,k:=m.k+1 }
abbrev Wv (m:uw) (n:Int):uw:={ m with counts:=kA m.counts m.k n,k:=0,i:=m.i+1 }
abbrev Ww (m:uw) (n:Int):uw:={ m with counts:=kA m.counts m.k n,k:=0,i:=m.i+1,done:=true,answer:=⟨13,0,0,0,0,0,0,kA m.counts m.k n⟩ }
def Gs {w:Wor} {m:uw} {n:Int} (h:m.k+1≠6) (hi:m.i≠w.counts.length):jg w m n=Wu m n:=by
 unfold jg;dsimp only;rw [dN h];exact dN hi
def Gt {w:Wor} {m:uw} {n:Int} (h:m.k+1=6) (hi:m.i+1≠w.counts.length):jg w m n=Wv m n:=by
 unfold jg;dsimp only;rw [dQ h];exact dN hi
def Gu {w:Wor} {m:uw} {n:Int} (h:m.k+1=6) (hi:m.i+1=w.counts.length):jg w m n=Ww m n:=by
 unfold jg;dsimp only;rw [dQ h];exact dQ hi
abbrev L3 (m:uw):uz:={ qA with zf:=m.zf,access:=1,cell:=10,version:= -1,value:=m.k }
def KZ {w:Wor} {m:uw} {n:Int} (h:(jg w m n).done=false):Bi w m n=L3 m:=by
 unfold Bi;rw [h]
 rfl
def S4 {w:Wor} {m:uw} {n:Int} (h:(jg w m n).done=true):Bi w m n={ L3 m with done:=true,answer:=(jg w m n).answer }:=by
 unfold Bi;rw [h]
 rfl
def OY (w:Wor) (m:uw) (r:List Int) (n:Int) (sw:qX w) (ok:fe w) (hl:i64 m.listen) (hpc:m.pc=0) (hs:zY w m=true) (hd:m.done=false) (hc:MF w m r n) (ha:m.answer=wR):
  tn 101 [] [Cw w,Cm m] (.u1 [Cw w,Cm (jg w m n),Ce (Bi w m n)]) []:=by
 have i0:=hc.i0;have k0:=hc.k0;have hi:m.i.toNat < w.counts.length:=(dL.1 hc.at_).1;have ml:(w.counts.map zN).length=w.counts.length:=dR ..;have cr:(w.counts.map zN)[m.i.toNat]?= some (zN r):=by rw [dP,hc.at_];rfl
 have cn:(r.map jH)[m.k.toNat]?= some (jH n):=by rw [dP,hc.row];rfl
 refine ab func101 ?_;refine ⟨fun h=>absurd h (by simp [hpc]),fun _=>dd ?_⟩;refine ⟨fun h=>absurd h (by have:=hc.k6;simp;omega),fun _=>dd ?_⟩;rw [ml];refine ⟨fun h=>absurd h aA,fun _=>dd ?_⟩;refine ah (zO w m ok hl) ?_;refine ⟨fun _=>dd ?_,fun h=>absurd ((hs).symm.trans h:true=false) ar⟩;refine tc ?_
 refine .inl ⟨⟨true,[],[],[14]⟩,au,uH ?_⟩;(refine ⟨i0,_,cr,dd ?_⟩)
 (refine ⟨k0,_,cn,dd ?_⟩)
 refine ah (Jc m.counts m.k n k0 hc.k6) ?_;refine hZ ?_
 rw [show IntKind.i64.wrap (m.k+1)=m.k+1 from q9 aw (by have:=hc.k6;omega)];refine ⟨fun h6=>?_,fun h6=>?_⟩
 ·have g6:m.k+1=6:=by simpa using h6
  refine dd ?_;rw [show IntKind.i64.wrap (m.i+1)=m.i+1 from q9 aw (by have:=sw.counts.1;omega)];rw [ml];refine ⟨fun h7=>?_,fun h7=>?_⟩
  ·have g7:m.i+1=w.counts.length:=by simpa using h7
   rw [S4 (by rw [Gu g6 g7]),Gu g6 g7];refine dd ?_;refine .inl ⟨⟨false,[1],[1],[]⟩,au,uH ?_⟩;refine hZ ?_
   exact dB
  ·have g7:m.i+1≠w.counts.length:=by simpa using h7
   rw [KZ (by rw [Gt g6 g7];exact hd),Gt g6 g7];refine dd ?_;exact dB
 ·have g6:m.k+1≠6:=by simpa using h6
  have g7:m.i≠w.counts.length:=aw
  rw [KZ (by rw [Gs g6 g7];exact hd),Gs g6 g7];refine dd ?_;rw [ml];refine ⟨fun h=>absurd h (aq g7),fun _=>dd ?_⟩;exact dB
end Go.Wor
