import Derived.Test.YtdbcjcnfaajpjaaGreatRU
set_option linter.unusedVariables false
set_option linter.unusedSimpArgs false
set_option linter.unusedSectionVars false
set_option maxRecDepth 100000
set_option maxHeartbeats 4000000
namespace Go.Wor
open Go.Ab Go.Proofs Go.Hy Go.Gat Go.Nam Go.Hos Go.Con Go.Sna
abbrev Cm (m:Mac):C:=.agg (zE m)
def z5 (w:Wor) (m:Mac):Bool:=jJ w && inV m.zq w.pins.length && !m.done && inV m.version w.zd.length && (match w.zd[m.version.toNat]? with
 | none=>false
 | some v=>inV m.zg v.zf.length && (match v.zf[m.zg.toNat]? with
  | none=>false
  | some g=>inV m.end_ g.ends.length && inV m.other g.ends.length && (match g.ends[m.end_.toNat]? with
   | none=>false
   | some e=>inV m.slot e.next.length) && (inV (m.listen+1) (w.ze.length+1) && decide (0<=m.i) && decide (0<=m.k))))
theorem x2 {i n:Int}:inV i n=true↔0<=i∧i < n:=by unfold inV;simp
structure qI (w:Wor) (m:Mac) (v:Ver) (g:Gr) (e:En):Prop where
 world:jJ w=true
 zq:0<=m.zq∧m.zq < w.pins.length
 done:m.done=false
 version:0<=m.version∧m.version < w.zd.length
 atv:w.zd[m.version.toNat]?= some v
 zg:0<=m.zg∧m.zg < v.zf.length
 atg:v.zf[m.zg.toNat]?= some g
 end_ : 0 <= m.end_ ∧ m.end_ < g.ends.length
 ate:g.ends[m.end_.toNat]?= some e
 other:0<=m.other∧m.other < g.ends.length
 slot:0<=m.slot∧m.slot < e.next.length
 listen: -1<=m.listen∧m.listen < w.ze.length
 i:0<=m.i
 k:0<=m.k
theorem y9 {w:Wor} {m:Mac} (h:z5 w m=true):∃ v g e,qI w m v g e:=by
 unfold z5 at h
 simp only [Bool.and_eq_true,Bool.not_eq_true',x2] at h
 obtain ⟨⟨⟨⟨h1,h2⟩,h3⟩,h4⟩,h5⟩:=h
 split at h5
 ·cases h5
 rename_i v hv
 simp only [Bool.and_eq_true,x2] at h5
 obtain ⟨h5,h6⟩:=h5
 split at h6
 ·cases h6
 rename_i g hg
 simp only [Bool.and_eq_true,x2,decide_eq_true_eq] at h6
 obtain ⟨⟨⟨h6,h7⟩,h8⟩,⟨h9,h10⟩,h11⟩:=h6
 split at h8
 ·cases h8
 rename_i e he
 simp only [x2] at h8
 exact ⟨v,g,e,h1,h2,h3,h4,hv,h5,hg,h6,he,h7,h8,by omega,h10,h11⟩
theorem zM (w:Wor) (m:Mac) (hw:OkW w) (hm:i64 m.listen):zb Tryz.prog 16 [] [Cw w,Cm m] (Bo (z5 w m)) []:=by
 have m1:(w.pins.map encI).length=w.pins.length:=List.length_map ..
 have m2:(w.zd.map zx).length=w.zd.length:=List.length_map ..
 have m3:(w.ze.map ql).length=w.ze.length:=List.length_map ..
 have b3:=hw.ze.1
 have el:IntKind.i64.wrap ((w.ze.length:Int)+1)=(w.ze.length:Int)+1:=jw (by omega) (by omega)
 have el2:inV (IntKind.i64.wrap (m.listen+1)) ((w.ze.length:Int)+1)=inV (m.listen+1) ((w.ze.length:Int)+1):=by
  by_cases hh:m.listen<=9223372036854775806
  ·rw [jw (by have:=hm.1;omega) (by omega)]
  ·have h9:m.listen=9223372036854775807:=by have:=hm.2;omega
   rw [h9]
   have h10:IntKind.i64.wrap (9223372036854775807+1)= -9223372036854775808:=by decide
   rw [h10]
   unfold inV
   rw [show decide ((0:Int)<= -9223372036854775808)=false from rfl,show decide ((9223372036854775807:Int)+1 < (w.ze.length:Int)+1)=false from by simp;omega]
   simp
 refine zb.zp (fn:=Tryz.f16) Tryz.func16 rfl ?_
 conv=>whnf
 refine ⟨_,_,(zan w hw).frame rfl _,?_⟩;refine dd ?_
 refine ⟨fun h1=>?_,fun h1=>?_⟩
 rotate_left
 ·(have e:z5 w m=false:=by (unfold z5;(rw [h1]);simp));rw [e];refine dd ?_;(repeat ((first | apply ya | apply yb);refine dd ?_));exact ⟨.inl rfl,_,.refl _,rfl⟩
 refine dd ?_
 rw [m1]
 refine ⟨_,_,(vi m.zq w.pins.length).frame rfl _,?_⟩;refine dd ?_
 refine ⟨fun h2=>?_,fun h2=>?_⟩
 rotate_left
 ·(have e:z5 w m=false:=by (unfold z5;(rw [h2]);simp));rw [e];refine dd ?_;(repeat ((first | apply ya | apply yb);refine dd ?_));exact ⟨.inl rfl,_,.refl _,rfl⟩
 refine dd ?_
 refine ⟨fun h3=>?_,fun h3=>?_⟩
 ·(have e:z5 w m=false:=by (unfold z5;(rw [h3]);simp));rw [e];refine dd ?_;(repeat ((first | apply ya | apply yb);refine dd ?_));exact ⟨.inl rfl,_,.refl _,rfl⟩
 refine dd ?_
 rw [m2]
 refine ⟨_,_,(vi m.version w.zd.length).frame rfl _,?_⟩;refine dd ?_
 refine ⟨fun h4=>?_,fun h4=>?_⟩
 rotate_left
 ·(have e:z5 w m=false:=by (unfold z5;(rw [h4]);simp));rw [e];refine dd ?_;(repeat ((first | apply ya | apply yb);refine dd ?_));exact ⟨.inl rfl,_,.refl _,rfl⟩
 obtain ⟨c0,c1⟩:=x2.1 h4
 have hv:w.zd[m.version.toNat]?= some (w.zd[m.version.toNat]'(by omega)):=List.getElem?_eq_getElem _
 generalize w.zd[m.version.toNat]'(by omega)=v at hv
 have gv:(w.zd.map zx)[m.version.toNat]?= some (zx v):=by rw [List.getElem?_map,hv];rfl
 have m4:(v.zf.map zw).length=v.zf.length:=List.length_map ..
 have g0:z5 w m=(inV m.zg v.zf.length && (match v.zf[m.zg.toNat]? with
  | none=>false
  | some g=>inV m.end_ g.ends.length && inV m.other g.ends.length && (match g.ends[m.end_.toNat]? with
   | none=>false
   | some e=>inV m.slot e.next.length) && (inV (m.listen+1) (w.ze.length+1) && decide (0<=m.i) && decide (0<=m.k)))):=by
  unfold z5
  rw [h1,h2,h3,h4,hv]
  rfl
 rw [g0]
 refine dd ?_
 (repeat ((first | apply ya | apply yb);refine dd ?_))
 refine ⟨c0,_,gv,?_⟩
 refine dd ?_
 rw [m4]
 refine ⟨_,_,(vi m.zg v.zf.length).frame rfl _,?_⟩;refine dd ?_
 refine ⟨fun h5=>?_,fun h5=>?_⟩
 rotate_left
 ·rw [h5]
  refine dd ?_
  (repeat ((first | apply ya | apply yb);refine dd ?_))
  exact ⟨.inl rfl,_,.refl _,rfl⟩
 obtain ⟨c2,c3⟩:=x2.1 h5
 have hg:v.zf[m.zg.toNat]?= some (v.zf[m.zg.toNat]'(by omega)):=List.getElem?_eq_getElem _
 generalize v.zf[m.zg.toNat]'(by omega)=g at hg
 have gg:(v.zf.map zw)[m.zg.toNat]?= some (zw g):=by rw [List.getElem?_map,hg];rfl
 have m5:(g.ends.map zo).length=g.ends.length:=List.length_map ..
 rw [h5,hg]
 dsimp only
 refine dd ?_
 (repeat ((first | apply ya | apply yb);refine dd ?_))
 refine ⟨c2,_,gg,?_⟩
 refine dd ?_
 refine .inl ⟨⟨false,[],[],[]⟩,by kernel_rfl,?_⟩;(conv=>whnf)
 rw [m5]
 refine ⟨_,_,(vi m.end_ g.ends.length).frame rfl _,?_⟩;refine dd ?_
 refine ⟨fun h6=>?_,fun h6=>?_⟩
 rotate_left
 ·rw [h6]
  refine dd ?_
  (repeat ((first | apply ya | apply yb);refine dd ?_))
  exact ⟨.inl rfl,_,.refl _,rfl⟩
 obtain ⟨c4,c5⟩:=x2.1 h6
 have he:g.ends[m.end_.toNat]?= some (g.ends[m.end_.toNat]'(by omega)):=List.getElem?_eq_getElem _
 generalize g.ends[m.end_.toNat]'(by omega)=e at he
 have ge:(g.ends.map zo)[m.end_.toNat]?= some (zo e):=by rw [List.getElem?_map,he];rfl
 have m6:(e.next.map encI).length=e.next.length:=List.length_map ..
 rw [h6,he]
 dsimp only
 refine dd ?_
 rw [m5]
 refine ⟨_,_,(vi m.other g.ends.length).frame rfl _,?_⟩;refine dd ?_
 refine ⟨fun h7=>?_,fun h7=>?_⟩
 rotate_left
 ·rw [h7]
  refine dd ?_
  (repeat ((first | apply ya | apply yb);refine dd ?_))
  exact ⟨.inl rfl,_,.refl _,rfl⟩
 rw [h7]
 refine dd ?_
 refine ⟨c4,_,ge,?_⟩
 refine dd ?_
 rw [m6]
 refine ⟨_,_,(vi m.slot e.next.length).frame rfl _,?_⟩;refine dd ?_
 refine ⟨fun h8=>?_,fun h8=>?_⟩
 rotate_left
 ·rw [h8]
  refine dd ?_
  (repeat ((first | apply ya | apply yb);refine dd ?_))
  exact ⟨.inl rfl,_,.refl _,rfl⟩
 rw [h8]
 refine dd ?_
 (repeat ((first | apply ya | apply yb);refine dd ?_))
 rw [m3,el]
 have hin:=vi (IntKind.i64.wrap (m.listen+1)) ((w.ze.length:Int)+1)
 rw [el2] at hin
 refine ⟨_,_,(hin).frame rfl _,?_⟩;refine dd ?_
 refine ⟨fun h9=>?_,fun h9=>?_⟩
 rotate_left
 ·rw [h9]
  refine dd ?_
  (repeat ((first | apply ya | apply yb);refine dd ?_))
  exact ⟨.inl rfl,_,.refl _,rfl⟩
 rw [h9]
 refine dd ?_
 refine ⟨fun h10=>?_,fun h10=>?_⟩
 rotate_left
 ·refine dd ?_
  (repeat ((first | apply ya | apply yb);refine dd ?_))
  (exact ⟨.inl rfl,_,.refl _,congrArg (fun b=>some (C.v (Value.bool b))) (by symm;simp at h10 ⊢;omega)⟩)
 refine dd ?_
 refine ⟨fun h11=>?_,fun h11=>?_⟩
 ·refine dd ?_
  (repeat ((first | apply ya | apply yb);refine dd ?_))
  (exact ⟨.inl rfl,_,.refl _,congrArg (fun b=>some (C.v (Value.bool b))) (by symm;simp at h10 h11 ⊢;omega)⟩)
 ·refine dd ?_
  (repeat ((first | apply ya | apply yb);refine dd ?_))
  (exact ⟨.inl rfl,_,.refl _,congrArg (fun b=>some (C.v (Value.bool b))) (by symm;simp at h10 h11 ⊢;omega)⟩)
end Go.Wor
namespace Go.Ab
theorem yk {H:zl} {id i:Nat} {ob:Ob} (h:(jZ H id)[i]?= some ob) (hk:ob.kind=4):H[i]?= some ob:=by
 rw [xV] at h
 cases hx:H[i]? with
 | none=>rw [hx] at h;cases h
 | some o=>
  rw [hx] at h
  simp only [Option.map_some,Option.some.injEq] at h
  split at h
  ·subst h;cases hk
  ·rw [h]
theorem zt.forget {B:Nat} {s:S} (id:Nat):zt B s ⟨s.tmps,jZ s.H id⟩:=fun m w E a hs=>by
 have hg:∀ {i b},qt E (jZ s.H id) i b->qt E s.H i b:=fun ⟨ob,cap,h1,h2,h3,h4⟩=>⟨ob,cap,yk h1 h2,h2,h3,h4⟩
 have hr:∀ {i b},qW (jZ s.H id) i b->qW s.H i b:=fun ⟨ob,o,t,h1,h2,h3,h4⟩=>⟨ob,o,t,yk h1 h2,h2,h3,h4⟩
 have h0:∀ {b},qJ E (jZ s.H id) b->qJ E s.H b:=fun ⟨i,p,x,h1,h2⟩=>⟨i,p,x,(xK h1).2,h2⟩
 refine ⟨E,⟨⟨hs.heap.base.kill id,?_⟩,hs.tmps,hs.defers,by have:=hs.base;simp [jZ];omega⟩,⟨Env.leB.refl B E,rfl,rfl,rfl,Nat.le_refl _,fun _ _ _=>rfl,fun _ _ _ h=>.inl h,?_⟩⟩
 ·exact {
   val:=fun i ob h1 h2=>hs.heap.gro.val i ob (yk h1 h2) h2
   blk:=fun i b ob h1 h2=>hs.heap.gro.blk i b ob (hg h1) (by obtain ⟨ob2,_,h3,h4,_⟩:=h1;rw [h2] at h3;cases h3;exact yk h2 h4)
   sep:=fun i b h1 h2=>hs.heap.gro.sep i b (hg h1) (h0 h2)
   inj:=fun i j b h1 h2=>hs.heap.gro.inj i j b (hg h1) (hg h2)
   st:=fun i b ob o u h1 h2 h3=>hs.heap.gro.st i b ob o u (hg h1) (by obtain ⟨ob2,_,h4,h5,_⟩:=h1;rw [h2] at h4;cases h4;exact yk h2 h5) h3
   top:=fun i ob k u h1 h2 h3=>hs.heap.gro.top i ob k u (yk h1 h2) h2 h3
   lop:=fun i ob o t h1 h2 h3=>hs.heap.gro.lop i ob o t (yk h1 h2) h2 h3
   vy:=fun i j b h1 h2=>hs.heap.gro.vy i j b (hr h1) (hr h2) }
 ·rintro b (hb | ⟨i,hb | hb⟩)
  ·exact .inr (.inl (h0 hb))
  ·exact .inr (.inr ⟨i,.inl (hg hb)⟩)
  ·exact .inr (.inr ⟨i,.inr (hr hb)⟩)
end Go.Ab
namespace Go.Wor
open Go.Ab Go.Proofs Go.Hy Go.Gat Go.Nam Go.Hos Go.Con Go.Sna
abbrev Ce (e:Eve):C:=.agg (qj e)
abbrev ki:Ans:=⟨0,0,0,0,0,0,0,⟨0,0,0,0,0,0⟩⟩
abbrev qo:Eve:=⟨0,0,0,0,0,false,0,false,false,false,ki⟩
abbrev ldE (n:Int):Eve:=⟨0,0,1,1,0,false,n,false,false,false,ki⟩
def zol (r:C) (H':zl):Prop:=∃ (b:Nat) (v0 v1 v2:Value),r=.v (.map (some b))∧H'=[obC b [(0,v0,0),(1,v1,1),(2,v2,2)] 3 [.agg [.fn 148 [] []],.agg [.fn 150 [] []],.agg [.fn 151 [] []]]]
theorem zhX:qq Tryz.prog 111 [] [] zol:=by
 refine qq.zZ (fn:=Tryz.f111) Tryz.func111 rfl ?_
 conv=>whnf
 intro b
 refine dd ?_
 refine q0.qc (id:=0) _ _ _ _ (.inr rfl) Tryz.underlying185 Tryz.underlying3 rfl rfl rfl rfl rfl ?_;intro v0;refine dd ?_
 refine q0.qc (id:=0) _ _ _ _ (.inr rfl) Tryz.underlying185 Tryz.underlying3 rfl rfl rfl rfl rfl ?_;intro v1;refine dd ?_
 refine q0.qc (id:=0) _ _ _ _ (.inr rfl) Tryz.underlying185 Tryz.underlying3 rfl rfl rfl rfl rfl ?_;intro v2;refine dd ?_
 exact ⟨.inl rfl,_,_,.refl _,rfl,b,v0,v1,v2,rfl,rfl⟩
theorem qb {P:Program} {f:FuncId} {fn:Func} {c:Code} {H H2:zl} {args:List C} {r:C} (hf:P.funcs[f]?= some fn) (hb:fn.body=some c) (hle:H.length<=H2.length)
  (h:wpA P H.length c (entry fn args) H fun ex t1 H1=>(ex=.ret∨ex=.normal)∧∃ s2 r1,zt H.length ⟨t1,H1⟩ s2∧yU P fn s2=some r1∧zt H.length ⟨[r1],s2.H⟩ ⟨[r],H2⟩):zb P f H args r H2:=fun w E vs hh hl0=>by
 have h1:qq P f H args fun r1 H1=>zt H.length ⟨[r1],H1⟩ ⟨[r],H2⟩:=qq.zZ hf hb h
 refine (h1 w E vs hh hl0).mono ?_
 rintro e w' ⟨r1,H1,v,E',hw,h0,h2,h3,g⟩
 have hHH:H.length<=H1.length:=by rw [<- hh.n,<- h2.n];exact g.le.n
 obtain ⟨E2,hs,g2⟩:=hw 0 w' E' ⟨#[v],[]⟩ ⟨h2,LL.one h3,Nat.zero_le _,hHH⟩
 have hn2:=hs.heap.n
 refine ⟨v,E2,h0,hs.heap,hs.tmps.cons_inv.1,⟨⟨by rw [hh.n,hn2];exact hle,fun id hops hi=>?_,fun id hops hi=>?_,fun b o u hu=>g2.le.St _ _ _ (g.le.St _ _ _ hu),fun id k u hi hu=>?_⟩,g2.os.trans g.os,g2.tape.trans g.tape,g2.output.trans g.output,Nat.le_trans g.size g2.size,?_,?_,?_⟩⟩
 ·rw [hh.n] at hi;exact (g2.le.β id hops hi).trans (g.le.β id hops (by rw [hh.n];exact hi))
 ·rw [hh.n] at hi;exact (g2.le.κ id hops hi).trans (g.le.κ id hops (by rw [hh.n];exact hi))
 ·rw [hh.n] at hi;exact g2.le.G id k u hi (g.le.G id k u (by rw [hh.n];exact hi) hu)
 ·intro k hk ho
  exact (g2.frame k (Nat.lt_of_lt_of_le hk g.size) fun hc=>(g.own k hc).elim (fun h=>by omega) ho).trans (g.frame k hk ho)
 ·intro b o u hu
  rcases g2.jc b o u hu with h1 | h1 | h1
  ·exact g.jc b o u h1
  ·exact .inr (.inl (Nat.le_trans g.size h1))
  ·rcases g.own b h1 with h4 | h4
   ·exact .inr (.inl h4)
   ·exact .inr (.inr h4)
 ·intro b hb
  rcases g2.own b hb with h1 | h1
  ·exact .inl (Nat.le_trans g.size h1)
  ·exact g.own b h1
theorem zaB (w:Wor) (m:Mac):zb Tryz.prog 149 [⟨1,48,8,[zQ w],0⟩,⟨1,37,44,[zE (m)],0⟩] [.ref 0 [] 8 0 0] (Ce (ldE w.zn)) [⟨1,48,8,[zQ w],0⟩,⟨1,37,44,[zE (m)],0⟩]:=by
 refine qb (fn:=Tryz.f149) Tryz.func149 rfl (Nat.le_refl _) ?_;conv=>whnf
 exact ⟨.inl rfl,_,_,.refl _,rfl,cE 2⟩
theorem zlt (w:Wor) (m:Mac):zb Tryz.prog 148 [⟨1,48,8,[zQ w],0⟩,⟨1,37,44,[zE (m)],0⟩] [.ref 0 [] 8 0 0,.ref 1 [] 44 0 0] (Ce (ldE w.zn)) [⟨1,48,8,[zQ w],0⟩,⟨1,37,44,[zE ({ m with zn:=w.zn,pc:=1 })],0⟩]:=by
 refine qb (fn:=Tryz.f148) Tryz.func148 rfl (Nat.le_refl _) ?_;conv=>whnf
 refine zr [0,1] (zaB w { m with zn:=w.zn,pc:=1 }) rfl rfl rfl rfl rfl rfl ?_;refine dd ?_
 exact ⟨.inl rfl,_,_,.refl _,rfl,cE 2⟩
theorem zlu (w:Wor) (m:Mac) (h0:0<=m.zq) (h1:m.zq < w.pins.length):zb Tryz.prog 150 [⟨1,48,8,[[I w.zn,I w.current,I w.lock,.sl 2 [] 1 0 w.pins.length false,lV w.zd,lL w.ze,lCo w.counts,lR w.zm]],0⟩,⟨1,37,44,[zE (m)],0⟩,⟨2,3,1,(w.pins).map encI,0⟩] [.ref 0 [] 8 0 0,.ref 1 [] 44 0 0] (Ce ⟨0,0,2,2,0,false,IntKind.i64.wrap (m.zn+1),false,false,false,ki⟩) [⟨1,48,8,[[I w.zn,I w.current,I w.lock,.sl 2 [] 1 0 w.pins.length false,lV w.zd,lL w.ze,lCo w.counts,lR w.zm]],0⟩,⟨1,37,44,[zE ({ m with pc:=2 })],0⟩,⟨2,3,1,(w.pins.set m.zq.toNat (IntKind.i64.wrap (m.zn+1))).map encI,0⟩]:=by
 have hs:(w.pins.map encI).set m.zq.toNat [I (IntKind.i64.wrap (m.zn+1))]=(w.pins.set m.zq.toNat (IntKind.i64.wrap (m.zn+1))).map encI:=by rw [List.map_set];rfl
 rw [<- hs]
 have e1:0+m.zq.toNat=m.zq.toNat:=Nat.zero_add _
 have hg:(w.pins.map encI)[m.zq.toNat]?= some (encI (w.pins[m.zq.toNat]'(by omega))):=by rw [List.getElem?_map,List.getElem?_eq_getElem (by omega)];rfl
 refine qb (fn:=Tryz.f150) Tryz.func150 rfl (Nat.le_refl _) ?_
 conv=>whnf
 refine .inl ⟨⟨false,[],[],[]⟩,by kernel_rfl,?_⟩;(conv=>whnf)
 refine ⟨h0,by omega,?_⟩
 refine dd ?_
 rw [e1]
 refine ⟨_,hg,rfl,?_⟩
 refine dd ?_
 exact ⟨.inl rfl,_,_,.refl _,rfl,cE 3⟩
theorem zlv (w:Wor) (m:Mac):zb Tryz.prog 151 [⟨1,48,8,[zQ w],0⟩,⟨1,37,44,[zE (m)],0⟩] [.ref 0 [] 8 0 0,.ref 1 [] 44 0 0] (Ce (ldE w.zn)) [⟨1,48,8,[zQ w],0⟩,⟨1,37,44,[zE ({ m with zn:=w.zn,pc:=if w.zn=m.zn then 3 else 1 })],0⟩]:=by
 refine qb (fn:=Tryz.f151) Tryz.func151 rfl (Nat.le_refl _) ?_
 conv=>whnf
 refine .inl ⟨⟨false,[],[],[]⟩,by kernel_rfl,?_⟩;(conv=>whnf)
 refine ⟨fun h=>?_,fun h=>?_⟩
 ·conv=>whnf
  rw [if_pos (of_decide_eq_true h)]
  refine zr [0,1] (zaB w { m with zn:=w.zn,pc:=3 }) rfl rfl rfl rfl rfl rfl ?_;refine dd ?_
  exact ⟨.inl rfl,_,_,.refl _,rfl,cE 2⟩
 ·conv=>whnf
  rw [if_neg (of_decide_eq_false h)]
  refine zr [0,1] (zaB w { m with zn:=w.zn,pc:=1 }) rfl rfl rfl rfl rfl rfl ?_;refine dd ?_
  exact ⟨.inl rfl,_,_,.refl _,rfl,cE 2⟩
abbrev cF1:List C:=[.fn 148 [] []]
abbrev cF2:List C:=[.fn 150 [] []]
abbrev cF3:List C:=[.fn 151 [] []]
abbrev zeW:List C:=[I 0,I 0,I 0,.lst 1 0 [],.lst 1 0 [],.lst 1 0 [],.lst 1 0 [],.lst 1 0 []]
abbrev zeP:List C:=[I 0,Tx [],Tx [],Tx [],I 0,I 0,I 0,.lst 1 0 [],.lst 1 0 [],.lst 1 0 []]
abbrev zeM:List C:=zeP++[I 0,I 0,I 0,I 0,I 0,I 0,I 0,I 0,I 0,U 0,I 0,I 0,I 0,I 0,Bo false]++qT ki++zkz ⟨0,0,0,0,0,0⟩
theorem zdl {P:Program} {f:FuncId} (sel:List Nat) {K H0:zl} {args args0:List C} {R:C->zl->Prop} (h:qq P f H0 args0 R) (hR:∀ r H',R r H'->qA H'=true)
  (hH:jM sel K=H0) (ha:args.map (xg sel 9)=args0) (z7:sel.all (fun id=>Nat.blt id K.length)=true) (hnd:xf sel=true) (hfl:qA K=true) {k:C->zl->Prop}
  (hk:∀ r H',R r H'->zat (vq sel K H') fun X=>qy (x4 (qP sel K.length) 9 r) fun c=>k c X):∃ R',qq P f K args R'∧∀ r H2,R' r H2->k r H2:=
 ⟨_,h.part sel hR hH ha z7 hnd hfl,fun r H2 ⟨r0,H',h1,h2,h3⟩=>by subst h2 h3;exact zN (yC (k:=fun X=>qy (x4 (qP sel K.length) 9 r0) fun c=>k c X) (hk r0 H' h1))⟩
theorem zb.kI {P:Program} {f:FuncId} {fn:Func} {c:Code} {args:List C} {r:C} (hf:P.funcs[f]?= some fn) (hb:fn.body=some c)
  (h:qF P 0 c ⟨entry fn args,[]⟩ fun ex s=>(ex=.ret∨ex=.normal)∧∃ s2,zt 0 s s2∧(yU P fn s2).map (xh 0 9)=some r):zb P f [] args r []:=by
 refine qq.ziv (qq.vo (H:=[]) hf hb (h.mono fun ex s1 ⟨hex,s2,hw,h2⟩=>?_))
 cases h3:yU P fn s2 with
 | none=>rw [h3] at h2;cases h2
 | some r0=>
  rw [h3] at h2
  cases h2
  exact ⟨hex,s2,r0,hw,h3,rfl⟩
end Go.Wor
namespace Go.Wor
open Go.Ab Go.Proofs Go.Hy Go.Gat Go.Nam Go.Hos Go.Con Go.Sna
theorem zeu (w:Wor) (m:Mac) (j f:Nat) (R:Exit->S->Prop) (hf:∀ v0 v1 v2,x9 [(0,v0,0),(1,v1,1),(2,v2,2)] m.pc=some j) (hc:[C.agg cF1,.agg cF2,.agg cF3][j]?= some (.agg [.fn f [] []]))
  (hn:qF Tryz.prog 0 (behind 2 ((Tryz.f81.body).getD .skip)) ⟨[.za,.za,.ref 0 [] 8 0 0,.ref 1 [] 44 0 0,.ref 2 [] 8 0 0,.ref 3 [] 44 0 0,.ref 4 [] 23 0 0,.ref 5 [] 1 0 0,.v (.bool true),.za,.za,.za,.za,.za,.za,.za,.za,.za,.za,.za,.za,.za,.za,.za,.za,.za,.za,.za,.za,.za,.za,.za,.za,.za,.za,.za,.za,.za,.za,.za],[⟨1,48,8,[zQ w],0⟩,⟨1,37,44,[zE (m)],0⟩,⟨1,48,8,[zeW],0⟩,⟨1,37,44,[zeM],0⟩,⟨1,87,23,[qj qo],0⟩,⟨1,183,1,[[.fn f [] []]],0⟩]⟩ R):qF Tryz.prog 0 ((Tryz.f81.body).getD .skip) ⟨entry Tryz.f81 [Cw w,Cm m],[]⟩ R:=by
 refine wi ?_
 conv=>whnf
 refine .inl ⟨rfl,_,_,.refl _,wi ?_⟩
 conv=>whnf
 refine .inr ⟨⟨[2],[1],false⟩,by kernel_rfl,fun h=>absurd h (by decide),fun t H=>qF Tryz.prog 0 (behind 2 ((Tryz.f81.body).getD .skip)) ⟨t,H⟩ R,?_,fun t2 H2 h=>.inl ⟨rfl,_,_,.refl _,h⟩⟩
 conv=>whnf
 (repeat' (first | (exact trivial) | (refine ⟨fun _=>?_,fun h=>absurd h (by decide)⟩;(conv=>whnf)) | (refine ⟨fun h=>absurd h (by decide),fun _=>?_⟩;(conv=>whnf)) | (refine ⟨(rfl:(_:zl)=_),?_⟩;(conv=>whnf)) | (refine ⟨(rfl:(_:Option Ob)=_),?_⟩;(conv=>whnf)) | ((refine zdl [] zhX (fun r H' ⟨b,v0,v1,v2,h1,h2⟩=>h2 ▸ rfl) rfl rfl rfl rfl rfl ?_;rintro _ _ ⟨b,v0,v1,v2,rfl,rfl⟩;(refine dd ?_))) | (refine ⟨_,_,OpV.wE (id:=5) _ _ _ _ rfl rfl rfl rfl rfl rfl rfl rfl rfl (hf _ _ _) hc,?_⟩;(refine dd ?_)) | (refine ⟨_,_,OpV.wE (id:=6) _ _ _ _ rfl rfl rfl rfl rfl rfl rfl rfl rfl (hf _ _ _) hc,?_⟩;(refine dd ?_)) | (refine And.intro ?_ ?_ <;> (conv=>whnf))))
 all_goals (first | exact ⟨_,_,(zt.forget 5).trans ((zt.ren [0,1,2,3,4,6] [2,3,4,5,6,7,8] _ _ rfl rfl rfl rfl).trans (cC)),hn⟩ | exact ⟨_,_,(zt.forget 6).trans ((zt.ren [0,1,2,3,4,5] [2,3,4,5,6,7,8] _ _ rfl rfl rfl rfl).trans (cC)),hn⟩)
end Go.Wor
namespace Go.Wor
open Go.Ab Go.Proofs Go.Hy Go.Gat Go.Nam Go.Hos Go.Con Go.Sna
abbrev zeN (m:Mac) (e:Eve):Eve:={ e with zq:=m.zq,version:= -1 }
theorem zaG (w:Wor) (m:Mac) (sw:qC w) (ok:OkW w) (hl:i64 m.listen) (hpc:m.pc=0) (hs:z5 w m=true):
  zb Tryz.prog 81 [] [Cw w,Cm m] (.tup [Cw w,Cm { m with zn:=w.zn,pc:=1 },Ce (zeN m (ldE w.zn))]) []:=by
 refine zb.kI Tryz.func81 rfl (zeu w m 0 148 _ (fun _ _ _=>by rw [hpc];rfl) rfl ?_)
 (refine qV (K:=fun ex t H=>(ex=.ret∨ex=.normal)∧∃ s2,zt 0 ⟨t,H⟩ s2∧(yU Tryz.prog Tryz.f81 s2).map (xh 0 9)=some (.tup [Cw w,Cm { m with zn:=w.zn,pc:=1 },Ce (zeN m (ldE w.zn))])) ?_;conv=>whnf)
 (repeat ((first | apply ya | apply yb);refine dd ?_))
 refine ⟨_,_,(zM w m ok hl).frame rfl _,?_⟩;refine dd ?_
 refine ⟨fun _=>?_,fun h=>absurd ((hs).symm.trans h:true=false) (by decide)⟩;refine dd ?_
 (repeat ((first | apply ya | apply yb);refine dd ?_))
 refine ⟨_,_,(qi w sw).frame rfl _,?_⟩;refine dd ?_
 refine zr [0,1] (zlt w m) rfl rfl rfl rfl rfl rfl ?_;refine dd ?_
 refine .inl ⟨⟨false,[1,2],[1,6],[]⟩,by kernel_rfl,?_⟩;(conv=>whnf)
 repeat (refine ⟨rfl,?_⟩;conv=>whnf)
 exact ⟨.inl rfl,_,.refl _,rfl⟩
theorem zaI (w:Wor) (m:Mac) (sw:qC w) (ok:OkW w) (hl:i64 m.listen) (hpc:m.pc=2) (hs:z5 w m=true):
  zb Tryz.prog 81 [] [Cw w,Cm m] (.tup [Cw w,Cm { m with zn:=w.zn,pc:=if w.zn=m.zn then 3 else 1 },Ce (zeN m (ldE w.zn))]) []:=by
 refine zb.kI Tryz.func81 rfl (zeu w m 2 151 _ (fun _ _ _=>by rw [hpc];rfl) rfl ?_)
 (refine qV (K:=fun ex t H=>(ex=.ret∨ex=.normal)∧∃ s2,zt 0 ⟨t,H⟩ s2∧(yU Tryz.prog Tryz.f81 s2).map (xh 0 9)=some (.tup [Cw w,Cm { m with zn:=w.zn,pc:=if w.zn=m.zn then 3 else 1 },Ce (zeN m (ldE w.zn))])) ?_;conv=>whnf)
 (repeat ((first | apply ya | apply yb);refine dd ?_))
 refine ⟨_,_,(zM w m ok hl).frame rfl _,?_⟩;refine dd ?_
 refine ⟨fun _=>?_,fun h=>absurd ((hs).symm.trans h:true=false) (by decide)⟩;refine dd ?_
 (repeat ((first | apply ya | apply yb);refine dd ?_))
 refine ⟨_,_,(qi w sw).frame rfl _,?_⟩;refine dd ?_
 refine zr [0,1] (zlv w m) rfl rfl rfl rfl rfl rfl ?_;refine dd ?_
 refine .inl ⟨⟨false,[1,2],[1,6],[]⟩,by kernel_rfl,?_⟩;(conv=>whnf)
 repeat (refine ⟨rfl,?_⟩;conv=>whnf)
 exact ⟨.inl rfl,_,.refl _,rfl⟩
abbrev zd9 (w:Wor) (t:Nat) (n:Int):Wor:={ w with pins:=w.pins.set t n }
theorem zaH (w:Wor) (m:Mac) (sw:qC w) (ok:OkW w) (hl:i64 m.listen) (hpc:m.pc=1) (hs:z5 w m=true):
  zb Tryz.prog 81 [] [Cw w,Cm m] (.tup [Cw (zd9 w m.zq.toNat (IntKind.i64.wrap (m.zn+1))),Cm { m with pc:=2 },Ce (zeN m ⟨0,0,2,2,0,false,IntKind.i64.wrap (m.zn+1),false,false,false,ki⟩)]) []:=by
 obtain ⟨v,g,e,su⟩:=y9 hs
 obtain ⟨x,l,hx⟩:∃ x l,w.pins=x::l:=by
  cases h:w.pins with
  | nil=>have:=su.zq;rw [h] at this;simp at this;omega
  | cons x l=>exact ⟨x,l,rfl⟩
 refine zb.kI Tryz.func81 rfl (zeu w m 1 150 _ (fun _ _ _=>by rw [hpc];rfl) rfl ?_)
 (refine qV (K:=fun ex t H=>(ex=.ret∨ex=.normal)∧∃ s2,zt 0 ⟨t,H⟩ s2∧(yU Tryz.prog Tryz.f81 s2).map (xh 0 9)=some (.tup [Cw (zd9 w m.zq.toNat (IntKind.i64.wrap (m.zn+1))),Cm { m with pc:=2 },Ce (zeN m ⟨0,0,2,2,0,false,IntKind.i64.wrap (m.zn+1),false,false,false,ki⟩)])) ?_;conv=>whnf)
 (repeat ((first | apply ya | apply yb);refine dd ?_))
 refine ⟨_,_,(zM w m ok hl).frame rfl _,?_⟩;refine dd ?_
 refine ⟨fun _=>?_,fun h=>absurd ((hs).symm.trans h:true=false) (by decide)⟩;refine dd ?_
 (repeat ((first | apply ya | apply yb);refine dd ?_))
 refine zr [] (za2 w sw x l hx) rfl rfl rfl rfl rfl rfl ?_;refine dd ?_
 refine zr [0,1,6] (zlu w m su.zq.1 su.zq.2) rfl rfl rfl rfl rfl rfl ?_;refine dd ?_
 refine .inl ⟨⟨false,[1,2],[1,7],[]⟩,by kernel_rfl,?_⟩;(conv=>whnf)
 repeat (refine ⟨rfl,?_⟩;conv=>whnf)
 exact ⟨.inl rfl,_,zt.zS 2 0 3 rfl rfl rfl rfl (.inr rfl) (by simp) (by simp) (shut_map (enc:=encI) (fun _=>rfl) _) (zY rfl),rfl⟩
abbrev zmv (m:Mac):Eve:=zeN m ⟨0,0,2,2,0,false,0,false,false,false,ki⟩
theorem zk4 (w:Wor) (m:Mac) (sw:qC w) (ok:OkW w) (hl:i64 m.listen) (hs:z5 w m=true):
  zb Tryz.prog 161 [] [Cw w,Cm m] (.tup [Cw (zd9 w m.zq.toNat 0),Ce (zmv m)]) []:=by
 obtain ⟨v,g,e,su⟩:=y9 hs
 obtain ⟨x,l,hx⟩:∃ x l,w.pins=x::l:=by
  cases h:w.pins with
  | nil=>have:=su.zq;rw [h] at this;simp at this;omega
  | cons x l=>exact ⟨x,l,rfl⟩
 have e1:0+m.zq.toNat=m.zq.toNat:=Nat.zero_add _
 have h0:=su.zq.1
 have h1:=su.zq.2
 have hst:(w.pins.map encI).set m.zq.toNat [I 0]=(w.pins.set m.zq.toNat 0).map encI:=by rw [List.map_set];rfl
 have hg:(w.pins.map encI)[m.zq.toNat]?= some (encI (w.pins[m.zq.toNat]'(by omega))):=by rw [List.getElem?_map,List.getElem?_eq_getElem (by omega)];rfl
 refine zb.zp (fn:=Tryz.f161) Tryz.func161 rfl ?_
 conv=>whnf
 refine ⟨_,_,(zM w m ok hl).frame rfl _,?_⟩;refine dd ?_
 refine ⟨fun _=>?_,fun h=>absurd ((hs).symm.trans h:true=false) (by decide)⟩;refine dd ?_
 (repeat ((first | apply ya | apply yb);refine dd ?_))
 refine zr [] (za2 w sw x l hx) rfl rfl rfl rfl rfl rfl ?_;refine dd ?_
 refine ⟨h0,by omega,?_⟩
 refine dd ?_
 rw [e1]
 refine ⟨_,hg,rfl,?_⟩
 refine dd ?_
 rw [hst]
 refine .inl ⟨⟨false,[2],[1],[]⟩,by kernel_rfl,?_⟩;(conv=>whnf)
 repeat (refine ⟨rfl,?_⟩;conv=>whnf)
 exact ⟨.inl rfl,_,zt.zS 2 0 3 rfl rfl rfl rfl (.inr rfl) (by simp) (by simp) (shut_map (enc:=encI) (fun _=>rfl) _) (zY rfl),rfl⟩
end Go.Wor
namespace Go.Wor
open Go.Ab Go.Proofs Go.Hy Go.Gat Go.Nam Go.Hos Go.Con Go.Sna
def zfu (x:Six) (k n:Int):Six:=
 if k=0 then { x with c0:=IntKind.u64.wrap (x.c0+n) } else if k=1 then { x with c1:=IntKind.u64.wrap (x.c1+n) } else if k=2 then { x with c2:=IntKind.u64.wrap (x.c2+n) }
 else if k=3 then { x with c3:=IntKind.u64.wrap (x.c3+n) } else if k=4 then { x with c4:=IntKind.u64.wrap (x.c4+n) } else { x with c5:=IntKind.u64.wrap (x.c5+n) }
theorem zjg (x:Six) (k n:Int) (h0:0<=k) (h6:k < 6):zb Tryz.prog 103 [] [.agg (zkz x),I k,U n] (.agg (zkz (zfu x k n))) []:=by
 obtain ⟨a,b,c,d,e,f⟩:=x
 obtain rfl | rfl | rfl | rfl | rfl | rfl:k=0∨k=1∨k=2∨k=3∨k=4∨k=5:=by omega
 all_goals
  refine zb.zp (fn:=Tryz.f103) Tryz.func103 rfl ?_;(conv=>whnf);(refine ⟨by decide,by decide,?_⟩);refine dd ?_;(refine ⟨by decide,by decide,?_⟩);refine dd ?_;exact ⟨.inl rfl,_,.refl _,rfl⟩
def jK (w:Wor) (m:Mac) (n:Int):Mac:=
 let m1:Mac:={ m with counts:=zfu m.counts m.k n,k:=m.k+1 }
 let m2:Mac:=if m.k+1=6 then { m1 with i:=m.i+1,k:=0 } else m1
 if m2.i=w.counts.length then { m2 with done:=true,answer:=⟨13,0,0,0,0,0,0,m2.counts⟩ } else m2
def zfG (w:Wor) (m:Mac) (n:Int):Eve:={ qo with zq:=m.zq,access:=1,cell:=10,version:= -1,value:=m.k,done:=(jK w m n).done,answer:=if (jK w m n).done then (jK w m n).answer else ki }
structure AtC (w:Wor) (m:Mac) (r:List Int) (n:Int):Prop where
 i0:0<=m.i
 at_:w.counts[m.i.toNat]?= some r
 k0:0<=m.k
 k6:m.k < 6
 row:r[m.k.toNat]?= some n
abbrev zo5 (m:Mac) (n:Int):Mac:={ m with counts:=zfu m.counts m.k n,k:=m.k+1 }
abbrev zo6 (m:Mac) (n:Int):Mac:={ m with counts:=zfu m.counts m.k n,k:=0,i:=m.i+1 }
abbrev zo7 (m:Mac) (n:Int):Mac:={ m with counts:=zfu m.counts m.k n,k:=0,i:=m.i+1,done:=true,answer:=⟨13,0,0,0,0,0,0,zfu m.counts m.k n⟩ }
theorem zgJ {w:Wor} {m:Mac} {n:Int} (h:m.k+1≠6) (hi:m.i≠w.counts.length):jK w m n=zo5 m n:=by
 unfold jK
 dsimp only
 rw [if_neg h]
 exact if_neg hi
theorem zgK {w:Wor} {m:Mac} {n:Int} (h:m.k+1=6) (hi:m.i+1≠w.counts.length):jK w m n=zo6 m n:=by
 unfold jK
 dsimp only
 rw [if_pos h]
 exact if_neg hi
theorem zby {w:Wor} {m:Mac} {n:Int} (h:m.k+1=6) (hi:m.i+1=w.counts.length):jK w m n=zo7 m n:=by
 unfold jK
 dsimp only
 rw [if_pos h]
 exact if_pos hi
abbrev zmQ (m:Mac):Eve:={ qo with zq:=m.zq,access:=1,cell:=10,version:= -1,value:=m.k }
theorem zhS {w:Wor} {m:Mac} {n:Int} (h:(jK w m n).done=false):zfG w m n=zmQ m:=by
 unfold zfG
 rw [h]
 rfl
theorem zlw {w:Wor} {m:Mac} {n:Int} (h:(jK w m n).done=true):zfG w m n={ zmQ m with done:=true,answer:=(jK w m n).answer }:=by
 unfold zfG
 rw [h]
 rfl
theorem xp (w:Wor) (m:Mac) (r:List Int) (n:Int) (sw:qC w) (ok:OkW w) (hl:i64 m.listen) (hpc:m.pc=0) (hs:z5 w m=true) (hd:m.done=false) (hc:AtC w m r n) (ha:m.answer=ki):
  zb Tryz.prog 67 [] [Cw w,Cm m] (.tup [Cw w,Cm (jK w m n),Ce (zfG w m n)]) []:=by
 have i0:=hc.i0
 have k0:=hc.k0
 have hi:m.i.toNat < w.counts.length:=(List.getElem?_eq_some_iff.1 hc.at_).1
 have ml:(w.counts.map zJ).length=w.counts.length:=List.length_map ..
 have cr:(w.counts.map zJ)[m.i.toNat]?= some (zJ r):=by rw [List.getElem?_map,hc.at_];rfl
 have cn:(r.map qY)[m.k.toNat]?= some (qY n):=by rw [List.getElem?_map,hc.row];rfl
 refine zb.zp (fn:=Tryz.f67) Tryz.func67 rfl ?_
 conv=>whnf
 refine ⟨fun h=>absurd h (by simp [hpc]),fun _=>?_⟩
 refine dd ?_
 refine ⟨fun h=>absurd h (by have:=hc.k6;simp;omega),fun _=>?_⟩
 refine dd ?_
 rw [ml]
 refine ⟨fun h=>absurd h (by simp;omega),fun _=>?_⟩
 refine dd ?_
 refine ⟨_,_,(zM w m ok hl).frame rfl _,?_⟩;refine dd ?_
 refine ⟨fun _=>?_,fun h=>absurd ((hs).symm.trans h:true=false) (by decide)⟩;refine dd ?_
 (repeat ((first | apply ya | apply yb);refine dd ?_))
 refine .inl ⟨⟨true,[],[],[14]⟩,by kernel_rfl,?_⟩;(conv=>whnf)
 (refine ⟨i0,_,cr,?_⟩);refine dd ?_
 (refine ⟨k0,_,cn,?_⟩);refine dd ?_
 refine ⟨_,_,(zjg m.counts m.k n k0 hc.k6).frame rfl _,?_⟩;refine dd ?_
 repeat (refine ⟨rfl,?_⟩;conv=>whnf)
 rw [show IntKind.i64.wrap (m.k+1)=m.k+1 from jw (by omega) (by have:=hc.k6;omega)]
 refine ⟨fun h6=>?_,fun h6=>?_⟩
 ·have g6:m.k+1=6:=by simpa using h6
  refine dd ?_
  rw [show IntKind.i64.wrap (m.i+1)=m.i+1 from jw (by omega) (by have:=sw.counts.1;omega)]
  rw [ml]
  refine ⟨fun h7=>?_,fun h7=>?_⟩
  ·have g7:m.i+1=w.counts.length:=by simpa using h7
   rw [zlw (by rw [zby g6 g7]),zby g6 g7]
   refine dd ?_
   refine .inl ⟨⟨false,[1],[1],[]⟩,by kernel_rfl,?_⟩;(conv=>whnf)
   repeat (refine ⟨rfl,?_⟩;conv=>whnf)
   refine .inl ⟨⟨true,[0,2,3],[0,1,5],[1]⟩,by kernel_rfl,?_⟩;(conv=>whnf);refine ⟨_,_,(qi w sw).frame rfl _,?_⟩;refine dd ?_;(repeat (refine ⟨rfl,?_⟩;conv=>whnf));exact ⟨.inl rfl,_,.refl _,rfl⟩
  ·have g7:m.i+1≠w.counts.length:=by simpa using h7
   rw [zhS (by rw [zgK g6 g7];exact hd),zgK g6 g7]
   refine dd ?_
   refine .inl ⟨⟨true,[0,2,3],[0,1,5],[1]⟩,by kernel_rfl,?_⟩;(conv=>whnf);refine ⟨_,_,(qi w sw).frame rfl _,?_⟩;refine dd ?_;(repeat (refine ⟨rfl,?_⟩;conv=>whnf));exact ⟨.inl rfl,_,.refl _,rfl⟩
 ·have g6:m.k+1≠6:=by simpa using h6
  have g7:m.i≠w.counts.length:=by omega
  rw [zhS (by rw [zgJ g6 g7];exact hd),zgJ g6 g7]
  refine dd ?_
  rw [ml]
  refine ⟨fun h=>absurd h (by simpa using g7),fun _=>?_⟩
  refine dd ?_
  refine .inl ⟨⟨true,[0,2,3],[0,1,5],[1]⟩,by kernel_rfl,?_⟩;(conv=>whnf);refine ⟨_,_,(qi w sw).frame rfl _,?_⟩;refine dd ?_;(repeat (refine ⟨rfl,?_⟩;conv=>whnf));exact ⟨.inl rfl,_,.refl _,rfl⟩
end Go.Wor
