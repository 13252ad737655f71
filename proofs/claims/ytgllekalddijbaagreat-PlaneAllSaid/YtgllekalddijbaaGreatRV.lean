import Derived.Test.YtgllekalddijbaaGreatRU
set_option linter.unusedVariables false
set_option linter.unusedSimpArgs false
set_option linter.unusedSectionVars false
set_option maxRecDepth 100000
set_option maxHeartbeats 4000000
namespace Go.Wor
open Go.Ab Go.Proofs Go.Hy Go.Gat Go.Nam Go.Hos Go.Con Go.Sna
abbrev Cm (m:Mac):C:=.agg (zP m)
def qc (w:Wor) (m:Mac):Bool:=jN w && inV m.zo w.pins.length && !m.done && inV m.version w.zd.length && (match w.zd[m.version.toNat]? with
 | none=>false
 | some v=>inV m.zg v.zf.length && (match v.zf[m.zg.toNat]? with
  | none=>false
  | some g=>inV m.end_ g.ends.length && inV m.other g.ends.length && (match g.ends[m.end_.toNat]? with
   | none=>false
   | some e=>inV m.slot e.next.length) && (inV (m.listen+1) (w.ze.length+1) && decide (0<=m.i) && decide (0<=m.k))))
theorem xL {i n:Int}:inV i n=true↔0<=i∧i < n:=by unfold inV;simp
structure qP (w:Wor) (m:Mac) (v:Ver) (g:Gr) (e:En):Prop where
 world:jN w=true
 zo:0<=m.zo∧m.zo < w.pins.length
 done:m.done=false
 version:0<=m.version∧m.version < w.zd.length
 atv:w.zd[m.version.toNat]?= some v
 zg:0<=m.zg∧m.zg < v.zf.length
 atg:v.zf[m.zg.toNat]?= some g
 end_ : 0 <= m.end_ ∧ m.end_ < g.ends.length
 ate:g.ends[m.end_.toNat]?= some e
 other:0<=m.other∧m.other < g.ends.length
 slot:0<=m.slot∧m.slot < e.next.length
 listen: -1<=m.listen∧m.listen < w.ze.length
 i:0<=m.i
 k:0<=m.k
theorem vT {w:Wor} {m:Mac} (h:qc w m=true):∃ v g e,qP w m v g e:=by
 unfold qc at h
 simp only [Bool.and_eq_true,Bool.not_eq_true',xL] at h
 obtain ⟨⟨⟨⟨h1,h2⟩,h3⟩,h4⟩,h5⟩:=h
 split at h5
 ·cases h5
 rename_i v hv
 simp only [Bool.and_eq_true,xL] at h5
 obtain ⟨h5,h6⟩:=h5
 split at h6
 ·cases h6
 rename_i g hg
 simp only [Bool.and_eq_true,xL,decide_eq_true_eq] at h6
 obtain ⟨⟨⟨h6,h7⟩,h8⟩,⟨h9,h10⟩,h11⟩:=h6
 split at h8
 ·cases h8
 rename_i e he
 simp only [xL] at h8
 exact ⟨v,g,e,h1,h2,h3,h4,hv,h5,hg,h6,he,h7,h8,by omega,h10,h11⟩
theorem zU (w:Wor) (m:Mac) (hw:OkW w) (hm:i64 m.listen):zc Tryz.prog 17 [] [Cw w,Cm m] (Bo (qc w m)) []:=by
 have m1:(w.pins.map encI).length=w.pins.length:=List.length_map ..
 have m2:(w.zd.map zw).length=w.zd.length:=List.length_map ..
 have m3:(w.ze.map jc).length=w.ze.length:=List.length_map ..
 have b3:=hw.ze.1
 have el:IntKind.i64.wrap ((w.ze.length:Int)+1)=(w.ze.length:Int)+1:=jz (by omega) (by omega)
 have el2:inV (IntKind.i64.wrap (m.listen+1)) ((w.ze.length:Int)+1)=inV (m.listen+1) ((w.ze.length:Int)+1):=by
  by_cases hh:m.listen<=9223372036854775806
  ·rw [jz (by have:=hm.1;omega) (by omega)]
  ·have h9:m.listen=9223372036854775807:=by have:=hm.2;omega
   rw [h9]
   have h10:IntKind.i64.wrap (9223372036854775807+1)= -9223372036854775808:=by decide
   rw [h10]
   unfold inV
   rw [show decide ((0:Int)<= -9223372036854775808)=false from rfl,show decide ((9223372036854775807:Int)+1 < (w.ze.length:Int)+1)=false from by simp;omega]
   simp
 refine zc.zr (fn:=Tryz.f17) Tryz.func17 rfl ?_
 conv=>whnf
 refine ⟨_,_,(wY w hw).frame rfl _,?_⟩;refine dd ?_
 refine ⟨fun h1=>?_,fun h1=>?_⟩
 rotate_left
 ·(have e:qc w m=false:=by (unfold qc;(rw [h1]);simp));rw [e];refine dd ?_;(repeat ((first | apply ya | apply yb);refine dd ?_));exact ⟨.inl rfl,_,.refl _,rfl⟩
 refine dd ?_
 rw [m1]
 refine ⟨_,_,(yW m.zo w.pins.length).frame rfl _,?_⟩;refine dd ?_
 refine ⟨fun h2=>?_,fun h2=>?_⟩
 rotate_left
 ·(have e:qc w m=false:=by (unfold qc;(rw [h2]);simp));rw [e];refine dd ?_;(repeat ((first | apply ya | apply yb);refine dd ?_));exact ⟨.inl rfl,_,.refl _,rfl⟩
 refine dd ?_
 refine ⟨fun h3=>?_,fun h3=>?_⟩
 ·(have e:qc w m=false:=by (unfold qc;(rw [h3]);simp));rw [e];refine dd ?_;(repeat ((first | apply ya | apply yb);refine dd ?_));exact ⟨.inl rfl,_,.refl _,rfl⟩
 refine dd ?_
 rw [m2]
 refine ⟨_,_,(yW m.version w.zd.length).frame rfl _,?_⟩;refine dd ?_
 refine ⟨fun h4=>?_,fun h4=>?_⟩
 rotate_left
 ·(have e:qc w m=false:=by (unfold qc;(rw [h4]);simp));rw [e];refine dd ?_;(repeat ((first | apply ya | apply yb);refine dd ?_));exact ⟨.inl rfl,_,.refl _,rfl⟩
 obtain ⟨c0,c1⟩:=xL.1 h4
 have hv:w.zd[m.version.toNat]?= some (w.zd[m.version.toNat]'(by omega)):=List.getElem?_eq_getElem _
 generalize w.zd[m.version.toNat]'(by omega)=v at hv
 have gv:(w.zd.map zw)[m.version.toNat]?= some (zw v):=by rw [List.getElem?_map,hv];rfl
 have m4:(v.zf.map zp).length=v.zf.length:=List.length_map ..
 have g0:qc w m=(inV m.zg v.zf.length && (match v.zf[m.zg.toNat]? with
  | none=>false
  | some g=>inV m.end_ g.ends.length && inV m.other g.ends.length && (match g.ends[m.end_.toNat]? with
   | none=>false
   | some e=>inV m.slot e.next.length) && (inV (m.listen+1) (w.ze.length+1) && decide (0<=m.i) && decide (0<=m.k)))):=by
  unfold qc
  rw [h1,h2,h3,h4,hv]
  rfl
 rw [g0]
 refine dd ?_
 (repeat ((first | apply ya | apply yb);refine dd ?_))
 refine ⟨c0,_,gv,?_⟩
 refine dd ?_
 rw [m4]
 refine ⟨_,_,(yW m.zg v.zf.length).frame rfl _,?_⟩;refine dd ?_
 refine ⟨fun h5=>?_,fun h5=>?_⟩
 rotate_left
 ·rw [h5]
  refine dd ?_
  (repeat ((first | apply ya | apply yb);refine dd ?_))
  exact ⟨.inl rfl,_,.refl _,rfl⟩
 obtain ⟨c2,c3⟩:=xL.1 h5
 have hg:v.zf[m.zg.toNat]?= some (v.zf[m.zg.toNat]'(by omega)):=List.getElem?_eq_getElem _
 generalize v.zf[m.zg.toNat]'(by omega)=g at hg
 have gg:(v.zf.map zp)[m.zg.toNat]?= some (zp g):=by rw [List.getElem?_map,hg];rfl
 have m5:(g.ends.map zn).length=g.ends.length:=List.length_map ..
 rw [h5,hg]
 dsimp only
 refine dd ?_
 (repeat ((first | apply ya | apply yb);refine dd ?_))
 refine ⟨c2,_,gg,?_⟩
 refine dd ?_
 refine .inl ⟨⟨false,[],[],[]⟩,by kernel_rfl,?_⟩;(conv=>whnf)
 rw [m5]
 refine ⟨_,_,(yW m.end_ g.ends.length).frame rfl _,?_⟩;refine dd ?_
 refine ⟨fun h6=>?_,fun h6=>?_⟩
 rotate_left
 ·rw [h6]
  refine dd ?_
  (repeat ((first | apply ya | apply yb);refine dd ?_))
  exact ⟨.inl rfl,_,.refl _,rfl⟩
 obtain ⟨c4,c5⟩:=xL.1 h6
 have he:g.ends[m.end_.toNat]?= some (g.ends[m.end_.toNat]'(by omega)):=List.getElem?_eq_getElem _
 generalize g.ends[m.end_.toNat]'(by omega)=e at he
 have ge:(g.ends.map zn)[m.end_.toNat]?= some (zn e):=by rw [List.getElem?_map,he];rfl
 have m6:(e.next.map encI).length=e.next.length:=List.length_map ..
 rw [h6,he]
 dsimp only
 refine dd ?_
 rw [m5]
 refine ⟨_,_,(yW m.other g.ends.length).frame rfl _,?_⟩;refine dd ?_
 refine ⟨fun h7=>?_,fun h7=>?_⟩
 rotate_left
 ·rw [h7]
  refine dd ?_
  (repeat ((first | apply ya | apply yb);refine dd ?_))
  exact ⟨.inl rfl,_,.refl _,rfl⟩
 rw [h7]
 refine dd ?_
 refine ⟨c4,_,ge,?_⟩
 refine dd ?_
 rw [m6]
 refine ⟨_,_,(yW m.slot e.next.length).frame rfl _,?_⟩;refine dd ?_
 refine ⟨fun h8=>?_,fun h8=>?_⟩
 rotate_left
 ·rw [h8]
  refine dd ?_
  (repeat ((first | apply ya | apply yb);refine dd ?_))
  exact ⟨.inl rfl,_,.refl _,rfl⟩
 rw [h8]
 refine dd ?_
 (repeat ((first | apply ya | apply yb);refine dd ?_))
 rw [m3,el]
 have hin:=yW (IntKind.i64.wrap (m.listen+1)) ((w.ze.length:Int)+1)
 rw [el2] at hin
 refine ⟨_,_,(hin).frame rfl _,?_⟩;refine dd ?_
 refine ⟨fun h9=>?_,fun h9=>?_⟩
 rotate_left
 ·rw [h9]
  refine dd ?_
  (repeat ((first | apply ya | apply yb);refine dd ?_))
  exact ⟨.inl rfl,_,.refl _,rfl⟩
 rw [h9]
 refine dd ?_
 refine ⟨fun h10=>?_,fun h10=>?_⟩
 rotate_left
 ·refine dd ?_
  (repeat ((first | apply ya | apply yb);refine dd ?_))
  (exact ⟨.inl rfl,_,.refl _,congrArg (fun b=>some (C.v (Value.bool b))) (by symm;simp at h10 ⊢;omega)⟩)
 refine dd ?_
 refine ⟨fun h11=>?_,fun h11=>?_⟩
 ·refine dd ?_
  (repeat ((first | apply ya | apply yb);refine dd ?_))
  (exact ⟨.inl rfl,_,.refl _,congrArg (fun b=>some (C.v (Value.bool b))) (by symm;simp at h10 h11 ⊢;omega)⟩)
 ·refine dd ?_
  (repeat ((first | apply ya | apply yb);refine dd ?_))
  (exact ⟨.inl rfl,_,.refl _,congrArg (fun b=>some (C.v (Value.bool b))) (by symm;simp at h10 h11 ⊢;omega)⟩)
end Go.Wor
namespace Go.Ab
theorem x4 {H:zk} {id i:Nat} {ob:Ob} (h:(jQ H id)[i]?= some ob) (hk:ob.kind=4):H[i]?= some ob:=by
 rw [xH] at h
 cases hx:H[i]? with
 | none=>rw [hx] at h;cases h
 | some o=>
  rw [hx] at h
  simp only [Option.map_some,Option.some.injEq] at h
  split at h
  ·subst h;cases hk
  ·rw [h]
theorem zq.forget {B:Nat} {s:S} (id:Nat):zq B s ⟨s.tmps,jQ s.H id⟩:=fun m w E a hs=>by
 have hg:∀ {i b},qe E (jQ s.H id) i b->qe E s.H i b:=fun ⟨ob,cap,h1,h2,h3,h4⟩=>⟨ob,cap,x4 h1 h2,h2,h3,h4⟩
 have hr:∀ {i b},qT (jQ s.H id) i b->qT s.H i b:=fun ⟨ob,o,t,h1,h2,h3,h4⟩=>⟨ob,o,t,x4 h1 h2,h2,h3,h4⟩
 have h0:∀ {b},qz E (jQ s.H id) b->qz E s.H b:=fun ⟨i,p,x,h1,h2⟩=>⟨i,p,x,(xA h1).2,h2⟩
 refine ⟨E,⟨⟨hs.heap.base.kill id,?_⟩,hs.tmps,hs.defers,by have:=hs.base;simp [jQ];omega⟩,⟨Env.leB.refl B E,rfl,rfl,rfl,Nat.le_refl _,fun _ _ _=>rfl,fun _ _ _ h=>.inl h,?_⟩⟩
 ·exact {
   val:=fun i ob h1 h2=>hs.heap.gro.val i ob (x4 h1 h2) h2
   blk:=fun i b ob h1 h2=>hs.heap.gro.blk i b ob (hg h1) (by obtain ⟨ob2,_,h3,h4,_⟩:=h1;rw [h2] at h3;cases h3;exact x4 h2 h4)
   sep:=fun i b h1 h2=>hs.heap.gro.sep i b (hg h1) (h0 h2)
   inj:=fun i j b h1 h2=>hs.heap.gro.inj i j b (hg h1) (hg h2)
   st:=fun i b ob o u h1 h2 h3=>hs.heap.gro.st i b ob o u (hg h1) (by obtain ⟨ob2,_,h4,h5,_⟩:=h1;rw [h2] at h4;cases h4;exact x4 h2 h5) h3
   top:=fun i ob k u h1 h2 h3=>hs.heap.gro.top i ob k u (x4 h1 h2) h2 h3
   lop:=fun i ob o t h1 h2 h3=>hs.heap.gro.lop i ob o t (x4 h1 h2) h2 h3
   ve:=fun i j b h1 h2=>hs.heap.gro.ve i j b (hr h1) (hr h2) }
 ·rintro b (hb | ⟨i,hb | hb⟩)
  ·exact .inr (.inl (h0 hb))
  ·exact .inr (.inr ⟨i,.inl (hg hb)⟩)
  ·exact .inr (.inr ⟨i,.inr (hr hb)⟩)
end Go.Ab
namespace Go.Wor
open Go.Ab Go.Proofs Go.Hy Go.Gat Go.Nam Go.Hos Go.Con Go.Sna
abbrev Ce (e:Eve):C:=.agg (qB e)
abbrev vL:Ans:=⟨0,0,0,0,0,0,0,⟨0,0,0,0,0,0⟩⟩
abbrev qC:Eve:=⟨0,0,0,0,0,false,0,false,false,false,vL⟩
abbrev ldE (n:Int):Eve:=⟨0,0,1,1,0,false,n,false,false,false,vL⟩
def zm4 (r:C) (H':zk):Prop:=∃ (b:Nat) (v0 v1 v2:Value),r=.v (.map (some b))∧H'=[obC b [(0,v0,0),(1,v1,1),(2,v2,2)] 3 [.agg [.fn 300 [] []],.agg [.fn 302 [] []],.agg [.fn 303 [] []]]]
theorem zgQ:qt Tryz.prog 260 [] [] zm4:=by
 refine qt.zW (fn:=Tryz.f260) Tryz.func260 rfl ?_
 conv=>whnf
 intro b
 refine dd ?_
 refine xK.zd2 (id:=0) _ _ _ _ (.inr rfl) Tryz.underlying279 Tryz.underlying3 rfl rfl rfl rfl rfl ?_;intro v0;refine dd ?_
 refine xK.zd2 (id:=0) _ _ _ _ (.inr rfl) Tryz.underlying279 Tryz.underlying3 rfl rfl rfl rfl rfl ?_;intro v1;refine dd ?_
 refine xK.zd2 (id:=0) _ _ _ _ (.inr rfl) Tryz.underlying279 Tryz.underlying3 rfl rfl rfl rfl rfl ?_;intro v2;refine dd ?_
 exact ⟨.inl rfl,_,_,.refl _,rfl,b,v0,v1,v2,rfl,rfl⟩
theorem qy {P:Program} {f:FuncId} {fn:Func} {c:Code} {H H2:zk} {args:List C} {r:C} (hf:P.funcs[f]?= some fn) (hb:fn.body=some c) (hle:H.length<=H2.length)
  (h:wpA P H.length c (entry fn args) H fun ex t1 H1=>(ex=.ret∨ex=.normal)∧∃ s2 r1,zq H.length ⟨t1,H1⟩ s2∧vw P fn s2=some r1∧zq H.length ⟨[r1],s2.H⟩ ⟨[r],H2⟩):zc P f H args r H2:=fun w E vs hh hl0=>by
 have h1:qt P f H args fun r1 H1=>zq H.length ⟨[r1],H1⟩ ⟨[r],H2⟩:=qt.zW hf hb h
 refine (h1 w E vs hh hl0).mono ?_
 rintro e w' ⟨r1,H1,v,E',hw,h0,h2,h3,g⟩
 have hHH:H.length<=H1.length:=by rw [<- hh.n,<- h2.n];exact g.le.n
 obtain ⟨E2,hs,g2⟩:=hw 0 w' E' ⟨#[v],[]⟩ ⟨h2,LL.one h3,Nat.zero_le _,hHH⟩
 have hn2:=hs.heap.n
 refine ⟨v,E2,h0,hs.heap,hs.tmps.cons_inv.1,⟨⟨by rw [hh.n,hn2];exact hle,fun id hops hi=>?_,fun id hops hi=>?_,fun b o u hu=>g2.le.St _ _ _ (g.le.St _ _ _ hu),fun id k u hi hu=>?_⟩,g2.os.trans g.os,g2.tape.trans g.tape,g2.output.trans g.output,Nat.le_trans g.size g2.size,?_,?_,?_⟩⟩
 ·rw [hh.n] at hi;exact (g2.le.β id hops hi).trans (g.le.β id hops (by rw [hh.n];exact hi))
 ·rw [hh.n] at hi;exact (g2.le.κ id hops hi).trans (g.le.κ id hops (by rw [hh.n];exact hi))
 ·rw [hh.n] at hi;exact g2.le.G id k u hi (g.le.G id k u (by rw [hh.n];exact hi) hu)
 ·intro k hk ho
  exact (g2.frame k (Nat.lt_of_lt_of_le hk g.size) fun hc=>(g.own k hc).elim (fun h=>by omega) ho).trans (g.frame k hk ho)
 ·intro b o u hu
  rcases g2.q8 b o u hu with h1 | h1 | h1
  ·exact g.q8 b o u h1
  ·exact .inr (.inl (Nat.le_trans g.size h1))
  ·rcases g.own b h1 with h4 | h4
   ·exact .inr (.inl h4)
   ·exact .inr (.inr h4)
 ·intro b hb
  rcases g2.own b hb with h1 | h1
  ·exact .inl (Nat.le_trans g.size h1)
  ·exact g.own b h1
theorem zad (w:Wor) (m:Mac):zc Tryz.prog 301 [⟨1,28,8,[z5 w],0⟩,⟨1,43,44,[zP (m)],0⟩] [.ref 0 [] 8 0 0] (Ce (ldE w.zu)) [⟨1,28,8,[z5 w],0⟩,⟨1,43,44,[zP (m)],0⟩]:=by
 refine qy (fn:=Tryz.f301) Tryz.func301 rfl (Nat.le_refl _) ?_;conv=>whnf
 exact ⟨.inl rfl,_,_,.refl _,rfl,cE 2⟩
theorem zkk (w:Wor) (m:Mac):zc Tryz.prog 300 [⟨1,28,8,[z5 w],0⟩,⟨1,43,44,[zP (m)],0⟩] [.ref 0 [] 8 0 0,.ref 1 [] 44 0 0] (Ce (ldE w.zu)) [⟨1,28,8,[z5 w],0⟩,⟨1,43,44,[zP ({ m with zu:=w.zu,pc:=1 })],0⟩]:=by
 refine qy (fn:=Tryz.f300) Tryz.func300 rfl (Nat.le_refl _) ?_;conv=>whnf
 refine zG [0,1] (zad w { m with zu:=w.zu,pc:=1 }) rfl rfl rfl rfl rfl rfl ?_;refine dd ?_
 exact ⟨.inl rfl,_,_,.refl _,rfl,cE 2⟩
theorem zkl (w:Wor) (m:Mac) (h0:0<=m.zo) (h1:m.zo < w.pins.length):zc Tryz.prog 302 [⟨1,28,8,[[I w.zu,I w.current,I w.lock,.sl 2 [] 1 0 w.pins.length false,lV w.zd,lL w.ze,lCo w.counts,lR w.zt]],0⟩,⟨1,43,44,[zP (m)],0⟩,⟨2,3,1,(w.pins).map encI,0⟩] [.ref 0 [] 8 0 0,.ref 1 [] 44 0 0] (Ce ⟨0,0,2,2,0,false,IntKind.i64.wrap (m.zu+1),false,false,false,vL⟩) [⟨1,28,8,[[I w.zu,I w.current,I w.lock,.sl 2 [] 1 0 w.pins.length false,lV w.zd,lL w.ze,lCo w.counts,lR w.zt]],0⟩,⟨1,43,44,[zP ({ m with pc:=2 })],0⟩,⟨2,3,1,(w.pins.set m.zo.toNat (IntKind.i64.wrap (m.zu+1))).map encI,0⟩]:=by
 have hs:(w.pins.map encI).set m.zo.toNat [I (IntKind.i64.wrap (m.zu+1))]=(w.pins.set m.zo.toNat (IntKind.i64.wrap (m.zu+1))).map encI:=by rw [List.map_set];rfl
 rw [<- hs]
 have e1:0+m.zo.toNat=m.zo.toNat:=Nat.zero_add _
 have hg:(w.pins.map encI)[m.zo.toNat]?= some (encI (w.pins[m.zo.toNat]'(by omega))):=by rw [List.getElem?_map,List.getElem?_eq_getElem (by omega)];rfl
 refine qy (fn:=Tryz.f302) Tryz.func302 rfl (Nat.le_refl _) ?_
 conv=>whnf
 refine .inl ⟨⟨false,[],[],[]⟩,by kernel_rfl,?_⟩;(conv=>whnf)
 refine ⟨h0,by omega,?_⟩
 refine dd ?_
 rw [e1]
 refine ⟨_,hg,rfl,?_⟩
 refine dd ?_
 exact ⟨.inl rfl,_,_,.refl _,rfl,cE 3⟩
theorem zkm (w:Wor) (m:Mac):zc Tryz.prog 303 [⟨1,28,8,[z5 w],0⟩,⟨1,43,44,[zP (m)],0⟩] [.ref 0 [] 8 0 0,.ref 1 [] 44 0 0] (Ce (ldE w.zu)) [⟨1,28,8,[z5 w],0⟩,⟨1,43,44,[zP ({ m with zu:=w.zu,pc:=if w.zu=m.zu then 3 else 1 })],0⟩]:=by
 refine qy (fn:=Tryz.f303) Tryz.func303 rfl (Nat.le_refl _) ?_
 conv=>whnf
 refine .inl ⟨⟨false,[],[],[]⟩,by kernel_rfl,?_⟩;(conv=>whnf)
 refine ⟨fun h=>?_,fun h=>?_⟩
 ·conv=>whnf
  rw [if_pos (of_decide_eq_true h)]
  refine zG [0,1] (zad w { m with zu:=w.zu,pc:=3 }) rfl rfl rfl rfl rfl rfl ?_;refine dd ?_
  exact ⟨.inl rfl,_,_,.refl _,rfl,cE 2⟩
 ·conv=>whnf
  rw [if_neg (of_decide_eq_false h)]
  refine zG [0,1] (zad w { m with zu:=w.zu,pc:=1 }) rfl rfl rfl rfl rfl rfl ?_;refine dd ?_
  exact ⟨.inl rfl,_,_,.refl _,rfl,cE 2⟩
abbrev cF1:List C:=[.fn 300 [] []]
abbrev cF2:List C:=[.fn 302 [] []]
abbrev cF3:List C:=[.fn 303 [] []]
abbrev zeW:List C:=[I 0,I 0,I 0,.lst 1 0 [],.lst 1 0 [],.lst 1 0 [],.lst 1 0 [],.lst 1 0 []]
abbrev zeP:List C:=[I 0,Tx [],Tx [],Tx [],I 0,I 0,I 0,.lst 1 0 [],.lst 1 0 [],.lst 1 0 []]
abbrev zeM:List C:=zeP++[I 0,I 0,I 0,I 0,I 0,I 0,I 0,I 0,I 0,U 0,I 0,I 0,I 0,I 0,Bo false]++qq vL++zjt ⟨0,0,0,0,0,0⟩
theorem zcR {P:Program} {f:FuncId} (sel:List Nat) {K H0:zk} {args args0:List C} {R:C->zk->Prop} (h:qt P f H0 args0 R) (hR:∀ r H',R r H'->qo H'=true)
  (hH:jC sel K=H0) (ha:args.map (j7 sel 9)=args0) (zX:sel.all (fun id=>Nat.blt id K.length)=true) (hnd:j6 sel=true) (hfl:qo K=true) {k:C->zk->Prop}
  (hk:∀ r H',R r H'->w9 (y5 sel K H') fun X=>ql (xO (qI sel K.length) 9 r) fun c=>k c X):∃ R',qt P f K args R'∧∀ r H2,R' r H2->k r H2:=
 ⟨_,h.part sel hR hH ha zX hnd hfl,fun r H2 ⟨r0,H',h1,h2,h3⟩=>by subst h2 h3;exact zK (yl (k:=fun X=>ql (xO (qI sel K.length) 9 r0) fun c=>k c X) (hk r0 H' h1))⟩
theorem zc.zcF {P:Program} {f:FuncId} {fn:Func} {c:Code} {args:List C} {r:C} (hf:P.funcs[f]?= some fn) (hb:fn.body=some c)
  (h:qN P 0 c ⟨entry fn args,[]⟩ fun ex s=>(ex=.ret∨ex=.normal)∧∃ s2,zq 0 s s2∧(vw P fn s2).map (xv 0 9)=some r):zc P f [] args r []:=by
 refine qt.zhj (qt.y1 (H:=[]) hf hb (h.mono fun ex s1 ⟨hex,s2,hw,h2⟩=>?_))
 cases h3:vw P fn s2 with
 | none=>rw [h3] at h2;cases h2
 | some r0=>
  rw [h3] at h2
  cases h2
  exact ⟨hex,s2,r0,hw,h3,rfl⟩
end Go.Wor
namespace Go.Wor
open Go.Ab Go.Proofs Go.Hy Go.Gat Go.Nam Go.Hos Go.Con Go.Sna
theorem zdX (w:Wor) (m:Mac) (j f:Nat) (R:Exit->S->Prop) (hf:∀ v0 v1 v2,ko [(0,v0,0),(1,v1,1),(2,v2,2)] m.pc=some j) (hc:[C.agg cF1,.agg cF2,.agg cF3][j]?= some (.agg [.fn f [] []]))
  (hn:qN Tryz.prog 0 (behind 2 ((Tryz.f213.body).getD .skip)) ⟨[.za,.za,.ref 0 [] 8 0 0,.ref 1 [] 44 0 0,.ref 2 [] 8 0 0,.ref 3 [] 44 0 0,.ref 4 [] 23 0 0,.ref 5 [] 1 0 0,.v (.bool true),.za,.za,.za,.za,.za,.za,.za,.za,.za,.za,.za,.za,.za,.za,.za,.za,.za,.za,.za,.za,.za,.za,.za,.za,.za,.za,.za,.za,.za,.za,.za],[⟨1,28,8,[z5 w],0⟩,⟨1,43,44,[zP (m)],0⟩,⟨1,28,8,[zeW],0⟩,⟨1,43,44,[zeM],0⟩,⟨1,81,23,[qB qC],0⟩,⟨1,277,1,[[.fn f [] []]],0⟩]⟩ R):qN Tryz.prog 0 ((Tryz.f213.body).getD .skip) ⟨entry Tryz.f213 [Cw w,Cm m],[]⟩ R:=by
 refine znY ?_
 conv=>whnf
 refine .inl ⟨rfl,_,_,.refl _,znY ?_⟩
 conv=>whnf
 refine .inr ⟨⟨[2],[1],false⟩,by kernel_rfl,fun h=>absurd h (by decide),fun t H=>qN Tryz.prog 0 (behind 2 ((Tryz.f213.body).getD .skip)) ⟨t,H⟩ R,?_,fun t2 H2 h=>.inl ⟨rfl,_,_,.refl _,h⟩⟩
 conv=>whnf
 (repeat' (first | (exact trivial) | (refine ⟨fun _=>?_,fun h=>absurd h (by decide)⟩;(conv=>whnf)) | (refine ⟨fun h=>absurd h (by decide),fun _=>?_⟩;(conv=>whnf)) | (refine ⟨(rfl:(_:zk)=_),?_⟩;(conv=>whnf)) | (refine ⟨(rfl:(_:Option Ob)=_),?_⟩;(conv=>whnf)) | ((refine zcR [] zgQ (fun r H' ⟨b,v0,v1,v2,h1,h2⟩=>h2 ▸ rfl) rfl rfl rfl rfl rfl ?_;rintro _ _ ⟨b,v0,v1,v2,rfl,rfl⟩;(refine dd ?_))) | (refine ⟨_,_,OpV.zgs (id:=5) _ _ _ _ rfl rfl rfl rfl rfl rfl rfl rfl rfl (hf _ _ _) hc,?_⟩;(refine dd ?_)) | (refine ⟨_,_,OpV.zgs (id:=6) _ _ _ _ rfl rfl rfl rfl rfl rfl rfl rfl rfl (hf _ _ _) hc,?_⟩;(refine dd ?_)) | (refine And.intro ?_ ?_ <;> (conv=>whnf))))
 all_goals (first | exact ⟨_,_,(zq.forget 5).trans ((zq.ren [0,1,2,3,4,6] [2,3,4,5,6,7,8] _ _ rfl rfl rfl rfl).trans (cC)),hn⟩ | exact ⟨_,_,(zq.forget 6).trans ((zq.ren [0,1,2,3,4,5] [2,3,4,5,6,7,8] _ _ rfl rfl rfl rfl).trans (cC)),hn⟩)
end Go.Wor
namespace Go.Wor
open Go.Ab Go.Proofs Go.Hy Go.Gat Go.Nam Go.Hos Go.Con Go.Sna
abbrev zed (m:Mac) (e:Eve):Eve:={ e with zo:=m.zo,version:= -1 }
theorem zaj (w:Wor) (m:Mac) (sw:ja w) (ok:OkW w) (hl:i64 m.listen) (hpc:m.pc=0) (hs:qc w m=true):
  zc Tryz.prog 213 [] [Cw w,Cm m] (.tup [Cw w,Cm { m with zu:=w.zu,pc:=1 },Ce (zed m (ldE w.zu))]) []:=by
 refine zc.zcF Tryz.func213 rfl (zdX w m 0 300 _ (fun _ _ _=>by rw [hpc];rfl) rfl ?_)
 (refine ji (K:=fun ex t H=>(ex=.ret∨ex=.normal)∧∃ s2,zq 0 ⟨t,H⟩ s2∧(vw Tryz.prog Tryz.f213 s2).map (xv 0 9)=some (.tup [Cw w,Cm { m with zu:=w.zu,pc:=1 },Ce (zed m (ldE w.zu))])) ?_;conv=>whnf)
 (repeat ((first | apply ya | apply yb);refine dd ?_))
 refine ⟨_,_,(zU w m ok hl).frame rfl _,?_⟩;refine dd ?_
 refine ⟨fun _=>?_,fun h=>absurd ((hs).symm.trans h:true=false) (by decide)⟩;refine dd ?_
 (repeat ((first | apply ya | apply yb);refine dd ?_))
 refine ⟨_,_,(qs w sw).frame rfl _,?_⟩;refine dd ?_
 refine zG [0,1] (zkk w m) rfl rfl rfl rfl rfl rfl ?_;refine dd ?_
 refine .inl ⟨⟨false,[1,2],[1,6],[]⟩,by kernel_rfl,?_⟩;(conv=>whnf)
 repeat (refine ⟨rfl,?_⟩;conv=>whnf)
 exact ⟨.inl rfl,_,.refl _,rfl⟩
theorem zal (w:Wor) (m:Mac) (sw:ja w) (ok:OkW w) (hl:i64 m.listen) (hpc:m.pc=2) (hs:qc w m=true):
  zc Tryz.prog 213 [] [Cw w,Cm m] (.tup [Cw w,Cm { m with zu:=w.zu,pc:=if w.zu=m.zu then 3 else 1 },Ce (zed m (ldE w.zu))]) []:=by
 refine zc.zcF Tryz.func213 rfl (zdX w m 2 303 _ (fun _ _ _=>by rw [hpc];rfl) rfl ?_)
 (refine ji (K:=fun ex t H=>(ex=.ret∨ex=.normal)∧∃ s2,zq 0 ⟨t,H⟩ s2∧(vw Tryz.prog Tryz.f213 s2).map (xv 0 9)=some (.tup [Cw w,Cm { m with zu:=w.zu,pc:=if w.zu=m.zu then 3 else 1 },Ce (zed m (ldE w.zu))])) ?_;conv=>whnf)
 (repeat ((first | apply ya | apply yb);refine dd ?_))
 refine ⟨_,_,(zU w m ok hl).frame rfl _,?_⟩;refine dd ?_
 refine ⟨fun _=>?_,fun h=>absurd ((hs).symm.trans h:true=false) (by decide)⟩;refine dd ?_
 (repeat ((first | apply ya | apply yb);refine dd ?_))
 refine ⟨_,_,(qs w sw).frame rfl _,?_⟩;refine dd ?_
 refine zG [0,1] (zkm w m) rfl rfl rfl rfl rfl rfl ?_;refine dd ?_
 refine .inl ⟨⟨false,[1,2],[1,6],[]⟩,by kernel_rfl,?_⟩;(conv=>whnf)
 repeat (refine ⟨rfl,?_⟩;conv=>whnf)
 exact ⟨.inl rfl,_,.refl _,rfl⟩
abbrev zdG (w:Wor) (t:Nat) (n:Int):Wor:={ w with pins:=w.pins.set t n }
theorem zak (w:Wor) (m:Mac) (sw:ja w) (ok:OkW w) (hl:i64 m.listen) (hpc:m.pc=1) (hs:qc w m=true):
  zc Tryz.prog 213 [] [Cw w,Cm m] (.tup [Cw (zdG w m.zo.toNat (IntKind.i64.wrap (m.zu+1))),Cm { m with pc:=2 },Ce (zed m ⟨0,0,2,2,0,false,IntKind.i64.wrap (m.zu+1),false,false,false,vL⟩)]) []:=by
 obtain ⟨v,g,e,su⟩:=vT hs
 obtain ⟨x,l,hx⟩:∃ x l,w.pins=x::l:=by
  cases h:w.pins with
  | nil=>have:=su.zo;rw [h] at this;simp at this;omega
  | cons x l=>exact ⟨x,l,rfl⟩
 refine zc.zcF Tryz.func213 rfl (zdX w m 1 302 _ (fun _ _ _=>by rw [hpc];rfl) rfl ?_)
 (refine ji (K:=fun ex t H=>(ex=.ret∨ex=.normal)∧∃ s2,zq 0 ⟨t,H⟩ s2∧(vw Tryz.prog Tryz.f213 s2).map (xv 0 9)=some (.tup [Cw (zdG w m.zo.toNat (IntKind.i64.wrap (m.zu+1))),Cm { m with pc:=2 },Ce (zed m ⟨0,0,2,2,0,false,IntKind.i64.wrap (m.zu+1),false,false,false,vL⟩)])) ?_;conv=>whnf)
 (repeat ((first | apply ya | apply yb);refine dd ?_))
 refine ⟨_,_,(zU w m ok hl).frame rfl _,?_⟩;refine dd ?_
 refine ⟨fun _=>?_,fun h=>absurd ((hs).symm.trans h:true=false) (by decide)⟩;refine dd ?_
 (repeat ((first | apply ya | apply yb);refine dd ?_))
 refine zG [] (zaF w sw x l hx) rfl rfl rfl rfl rfl rfl ?_;refine dd ?_
 refine zG [0,1,6] (zkl w m su.zo.1 su.zo.2) rfl rfl rfl rfl rfl rfl ?_;refine dd ?_
 refine .inl ⟨⟨false,[1,2],[1,7],[]⟩,by kernel_rfl,?_⟩;(conv=>whnf)
 repeat (refine ⟨rfl,?_⟩;conv=>whnf)
 exact ⟨.inl rfl,_,zq.zZ 2 0 3 rfl rfl rfl rfl (.inr rfl) (by simp) (by simp) (shut_map (enc:=encI) (fun _=>rfl) _) (qm rfl),rfl⟩
abbrev zlk (m:Mac):Eve:=zed m ⟨0,0,2,2,0,false,0,false,false,false,vL⟩
theorem zjU (w:Wor) (m:Mac) (sw:ja w) (ok:OkW w) (hl:i64 m.listen) (hs:qc w m=true):
  zc Tryz.prog 313 [] [Cw w,Cm m] (.tup [Cw (zdG w m.zo.toNat 0),Ce (zlk m)]) []:=by
 obtain ⟨v,g,e,su⟩:=vT hs
 obtain ⟨x,l,hx⟩:∃ x l,w.pins=x::l:=by
  cases h:w.pins with
  | nil=>have:=su.zo;rw [h] at this;simp at this;omega
  | cons x l=>exact ⟨x,l,rfl⟩
 have e1:0+m.zo.toNat=m.zo.toNat:=Nat.zero_add _
 have h0:=su.zo.1
 have h1:=su.zo.2
 have hst:(w.pins.map encI).set m.zo.toNat [I 0]=(w.pins.set m.zo.toNat 0).map encI:=by rw [List.map_set];rfl
 have hg:(w.pins.map encI)[m.zo.toNat]?= some (encI (w.pins[m.zo.toNat]'(by omega))):=by rw [List.getElem?_map,List.getElem?_eq_getElem (by omega)];rfl
 refine zc.zr (fn:=Tryz.f313) Tryz.func313 rfl ?_
 conv=>whnf
 refine ⟨_,_,(zU w m ok hl).frame rfl _,?_⟩;refine dd ?_
 refine ⟨fun _=>?_,fun h=>absurd ((hs).symm.trans h:true=false) (by decide)⟩;refine dd ?_
 (repeat ((first | apply ya | apply yb);refine dd ?_))
 refine zG [] (zaF w sw x l hx) rfl rfl rfl rfl rfl rfl ?_;refine dd ?_
 refine ⟨h0,by omega,?_⟩
 refine dd ?_
 rw [e1]
 refine ⟨_,hg,rfl,?_⟩
 refine dd ?_
 rw [hst]
 refine .inl ⟨⟨false,[2],[1],[]⟩,by kernel_rfl,?_⟩;(conv=>whnf)
 repeat (refine ⟨rfl,?_⟩;conv=>whnf)
 exact ⟨.inl rfl,_,zq.zZ 2 0 3 rfl rfl rfl rfl (.inr rfl) (by simp) (by simp) (shut_map (enc:=encI) (fun _=>rfl) _) (qm rfl),rfl⟩
end Go.Wor
namespace Go.Wor
open Go.Ab Go.Proofs Go.Hy Go.Gat Go.Nam Go.Hos Go.Con Go.Sna
def zeO (x:Six) (k n:Int):Six:=
 if k=0 then { x with c0:=IntKind.u64.wrap (x.c0+n) } else if k=1 then { x with c1:=IntKind.u64.wrap (x.c1+n) } else if k=2 then { x with c2:=IntKind.u64.wrap (x.c2+n) }
 else if k=3 then { x with c3:=IntKind.u64.wrap (x.c3+n) } else if k=4 then { x with c4:=IntKind.u64.wrap (x.c4+n) } else { x with c5:=IntKind.u64.wrap (x.c5+n) }
theorem zh3 (x:Six) (k n:Int) (h0:0<=k) (h6:k < 6):zc Tryz.prog 235 [] [.agg (zjt x),I k,U n] (.agg (zjt (zeO x k n))) []:=by
 obtain ⟨a,b,c,d,e,f⟩:=x
 obtain rfl | rfl | rfl | rfl | rfl | rfl:k=0∨k=1∨k=2∨k=3∨k=4∨k=5:=by omega
 all_goals
  refine zc.zr (fn:=Tryz.f235) Tryz.func235 rfl ?_;(conv=>whnf);(refine ⟨by decide,by decide,?_⟩);refine dd ?_;(refine ⟨by decide,by decide,?_⟩);refine dd ?_;exact ⟨.inl rfl,_,.refl _,rfl⟩
def vS (w:Wor) (m:Mac) (n:Int):Mac:=
 let m1:Mac:={ m with counts:=zeO m.counts m.k n,k:=m.k+1 }
 let m2:Mac:=if m.k+1=6 then { m1 with i:=m.i+1,k:=0 } else m1
 if m2.i=w.counts.length then { m2 with done:=true,answer:=⟨13,0,0,0,0,0,0,m2.counts⟩ } else m2
def zgO (w:Wor) (m:Mac) (n:Int):Eve:={ qC with zo:=m.zo,access:=1,cell:=10,version:= -1,value:=m.k,done:=(vS w m n).done,answer:=if (vS w m n).done then (vS w m n).answer else vL }
structure AtC (w:Wor) (m:Mac) (r:List Int) (n:Int):Prop where
 i0:0<=m.i
 at_:w.counts[m.i.toNat]?= some r
 k0:0<=m.k
 k6:m.k < 6
 row:r[m.k.toNat]?= some n
abbrev znJ (m:Mac) (n:Int):Mac:={ m with counts:=zeO m.counts m.k n,k:=m.k+1 }
abbrev znK (m:Mac) (n:Int):Mac:={ m with counts:=zeO m.counts m.k n,k:=0,i:=m.i+1 }
abbrev znL (m:Mac) (n:Int):Mac:={ m with counts:=zeO m.counts m.k n,k:=0,i:=m.i+1,done:=true,answer:=⟨13,0,0,0,0,0,0,zeO m.counts m.k n⟩ }
theorem zi4 {w:Wor} {m:Mac} {n:Int} (h:m.k+1≠6) (hi:m.i≠w.counts.length):vS w m n=znJ m n:=by
 unfold vS
 dsimp only
 rw [if_neg h]
 exact if_neg hi
theorem zi5 {w:Wor} {m:Mac} {n:Int} (h:m.k+1=6) (hi:m.i+1≠w.counts.length):vS w m n=znK m n:=by
 unfold vS
 dsimp only
 rw [if_pos h]
 exact if_neg hi
theorem zi6 {w:Wor} {m:Mac} {n:Int} (h:m.k+1=6) (hi:m.i+1=w.counts.length):vS w m n=znL m n:=by
 unfold vS
 dsimp only
 rw [if_pos h]
 exact if_pos hi
abbrev zlI (m:Mac):Eve:={ qC with zo:=m.zo,access:=1,cell:=10,version:= -1,value:=m.k }
theorem zgP {w:Wor} {m:Mac} {n:Int} (h:(vS w m n).done=false):zgO w m n=zlI m:=by
 unfold zgO
 rw [h]
 rfl
theorem zkn {w:Wor} {m:Mac} {n:Int} (h:(vS w m n).done=true):zgO w m n={ zlI m with done:=true,answer:=(vS w m n).answer }:=by
 unfold zgO
 rw [h]
 rfl
theorem xI (w:Wor) (m:Mac) (r:List Int) (n:Int) (sw:ja w) (ok:OkW w) (hl:i64 m.listen) (hpc:m.pc=0) (hs:qc w m=true) (hd:m.done=false) (hc:AtC w m r n) (ha:m.answer=vL):
  zc Tryz.prog 157 [] [Cw w,Cm m] (.tup [Cw w,Cm (vS w m n),Ce (zgO w m n)]) []:=by
 have i0:=hc.i0
 have k0:=hc.k0
 have hi:m.i.toNat < w.counts.length:=(List.getElem?_eq_some_iff.1 hc.at_).1
 have ml:(w.counts.map zL).length=w.counts.length:=List.length_map ..
 have cr:(w.counts.map zL)[m.i.toNat]?= some (zL r):=by rw [List.getElem?_map,hc.at_];rfl
 have cn:(r.map qY)[m.k.toNat]?= some (qY n):=by rw [List.getElem?_map,hc.row];rfl
 refine zc.zr (fn:=Tryz.f157) Tryz.func157 rfl ?_
 conv=>whnf
 refine ⟨fun h=>absurd h (by simp [hpc]),fun _=>?_⟩
 refine dd ?_
 refine ⟨fun h=>absurd h (by have:=hc.k6;simp;omega),fun _=>?_⟩
 refine dd ?_
 rw [ml]
 refine ⟨fun h=>absurd h (by simp;omega),fun _=>?_⟩
 refine dd ?_
 refine ⟨_,_,(zU w m ok hl).frame rfl _,?_⟩;refine dd ?_
 refine ⟨fun _=>?_,fun h=>absurd ((hs).symm.trans h:true=false) (by decide)⟩;refine dd ?_
 (repeat ((first | apply ya | apply yb);refine dd ?_))
 refine .inl ⟨⟨true,[],[],[14]⟩,by kernel_rfl,?_⟩;(conv=>whnf)
 (refine ⟨i0,_,cr,?_⟩);refine dd ?_
 (refine ⟨k0,_,cn,?_⟩);refine dd ?_
 refine ⟨_,_,(zh3 m.counts m.k n k0 hc.k6).frame rfl _,?_⟩;refine dd ?_
 repeat (refine ⟨rfl,?_⟩;conv=>whnf)
 rw [show IntKind.i64.wrap (m.k+1)=m.k+1 from jz (by omega) (by have:=hc.k6;omega)]
 refine ⟨fun h6=>?_,fun h6=>?_⟩
 ·have g6:m.k+1=6:=by simpa using h6
  refine dd ?_
  rw [show IntKind.i64.wrap (m.i+1)=m.i+1 from jz (by omega) (by have:=sw.counts.1;omega)]
  rw [ml]
  refine ⟨fun h7=>?_,fun h7=>?_⟩
  ·have g7:m.i+1=w.counts.length:=by simpa using h7
   rw [zkn (by rw [zi6 g6 g7]),zi6 g6 g7]
   refine dd ?_
   refine .inl ⟨⟨false,[1],[1],[]⟩,by kernel_rfl,?_⟩;(conv=>whnf)
   repeat (refine ⟨rfl,?_⟩;conv=>whnf)
   refine .inl ⟨⟨true,[0,2,3],[0,1,5],[1]⟩,by kernel_rfl,?_⟩;(conv=>whnf);refine ⟨_,_,(qs w sw).frame rfl _,?_⟩;refine dd ?_;(repeat (refine ⟨rfl,?_⟩;conv=>whnf));exact ⟨.inl rfl,_,.refl _,rfl⟩
  ·have g7:m.i+1≠w.counts.length:=by simpa using h7
   rw [zgP (by rw [zi5 g6 g7];exact hd),zi5 g6 g7]
   refine dd ?_
   refine .inl ⟨⟨true,[0,2,3],[0,1,5],[1]⟩,by kernel_rfl,?_⟩;(conv=>whnf);refine ⟨_,_,(qs w sw).frame rfl _,?_⟩;refine dd ?_;(repeat (refine ⟨rfl,?_⟩;conv=>whnf));exact ⟨.inl rfl,_,.refl _,rfl⟩
 ·have g6:m.k+1≠6:=by simpa using h6
  have g7:m.i≠w.counts.length:=by omega
  rw [zgP (by rw [zi4 g6 g7];exact hd),zi4 g6 g7]
  refine dd ?_
  rw [ml]
  refine ⟨fun h=>absurd h (by simpa using g7),fun _=>?_⟩
  refine dd ?_
  refine .inl ⟨⟨true,[0,2,3],[0,1,5],[1]⟩,by kernel_rfl,?_⟩;(conv=>whnf);refine ⟨_,_,(qs w sw).frame rfl _,?_⟩;refine dd ?_;(repeat (refine ⟨rfl,?_⟩;conv=>whnf));exact ⟨.inl rfl,_,.refl _,rfl⟩
end Go.Wor
