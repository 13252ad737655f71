import Derived.Test.YtgllekalddijbaaGreatUU
set_option linter.unusedVariables false
set_option linter.unusedSimpArgs false
set_option linter.unusedSectionVars false
set_option maxRecDepth 100000
set_option maxHeartbeats 4000000
namespace Go.Wor
open Go.Ab Go.Proofs Go.Hy Go.Gat Go.Nam Go.Hos Go.Con Go.Sna
abbrev Cm (m:Mac):C:=.agg (zW m)
def jx (w:Wor) (m:Mac):Bool:=qa w && inV m.zC w.pins.length && !m.done && inV m.version w.zd.length && (match w.zd[m.version.toNat]? with
 | none=>false
 | some v=>inV m.zn v.zk.length && (match v.zk[m.zn.toNat]? with
  | none=>false
  | some g=>inV m.end_ g.ends.length && inV m.other g.ends.length && (match g.ends[m.end_.toNat]? with
   | none=>false
   | some e=>inV m.slot e.next.length) && (inV (m.listen+1) (w.zc.length+1) && decide (0<=m.i) && decide (0<=m.k))))
theorem yW {i n:Int}:inV i n=true↔0<=i∧i < n:=by unfold inV;simp
structure yi (w:Wor) (m:Mac) (v:Ver) (g:Gr) (e:En):Prop where
 world:qa w=true
 zC:0<=m.zC∧m.zC < w.pins.length
 done:m.done=false
 version:0<=m.version∧m.version < w.zd.length
 atv:w.zd[m.version.toNat]?= some v
 zn:0<=m.zn∧m.zn < v.zk.length
 atg:v.zk[m.zn.toNat]?= some g
 end_ : 0 <= m.end_ ∧ m.end_ < g.ends.length
 ate:g.ends[m.end_.toNat]?= some e
 other:0<=m.other∧m.other < g.ends.length
 slot:0<=m.slot∧m.slot < e.next.length
 listen: -1<=m.listen∧m.listen < w.zc.length
 i:0<=m.i
 k:0<=m.k
theorem vF (w:Wor) (m:Mac) (hw:OkW w) (hm:i64 m.listen):zb Tryz.prog 17 [] [Cw w,Cm m] (Bo (jx w m)) []:=by
 have m1:(w.pins.map encI).length=w.pins.length:=List.length_map ..
 have m2:(w.zd.map qu).length=w.zd.length:=List.length_map ..
 have m3:(w.zc.map qL).length=w.zc.length:=List.length_map ..
 have b3:=hw.zc.1
 have el:IntKind.i64.wrap ((w.zc.length:Int)+1)=(w.zc.length:Int)+1:=qf (by omega) (by omega)
 have el2:inV (IntKind.i64.wrap (m.listen+1)) ((w.zc.length:Int)+1)=inV (m.listen+1) ((w.zc.length:Int)+1):=by
  by_cases hh:m.listen<=9223372036854775806
  ·rw [qf (by have:=hm.1;omega) (by omega)]
  ·have h9:m.listen=9223372036854775807:=by have:=hm.2;omega
   rw [h9]
   have h10:IntKind.i64.wrap (9223372036854775807+1)= -9223372036854775808:=by decide
   rw [h10]
   unfold inV
   rw [show decide ((0:Int)<= -9223372036854775808)=false from rfl,show decide ((9223372036854775807:Int)+1 < (w.zc.length:Int)+1)=false from by simp;omega]
   simp
 refine zb.zm (fn:=Tryz.f17) Tryz.func17 rfl ?_
 conv=>whnf
 refine ⟨_,_,(jK w hw).frame rfl _,?_⟩;refine dd ?_
 refine ⟨fun h1=>?_,fun h1=>?_⟩
 rotate_left
 ·(have e:jx w m=false:=by (unfold jx;(rw [h1]);simp));rw [e];refine dd ?_;(repeat ((first | apply ya | apply yb);refine dd ?_));exact ⟨.inl rfl,_,.refl _,rfl⟩
 refine dd ?_
 rw [m1]
 refine ⟨_,_,(xZ m.zC w.pins.length).frame rfl _,?_⟩;refine dd ?_
 refine ⟨fun h2=>?_,fun h2=>?_⟩
 rotate_left
 ·(have e:jx w m=false:=by (unfold jx;(rw [h2]);simp));rw [e];refine dd ?_;(repeat ((first | apply ya | apply yb);refine dd ?_));exact ⟨.inl rfl,_,.refl _,rfl⟩
 refine dd ?_
 refine ⟨fun h3=>?_,fun h3=>?_⟩
 ·(have e:jx w m=false:=by (unfold jx;(rw [h3]);simp));rw [e];refine dd ?_;(repeat ((first | apply ya | apply yb);refine dd ?_));exact ⟨.inl rfl,_,.refl _,rfl⟩
 refine dd ?_
 rw [m2]
 refine ⟨_,_,(xZ m.version w.zd.length).frame rfl _,?_⟩;refine dd ?_
 refine ⟨fun h4=>?_,fun h4=>?_⟩
 rotate_left
 ·(have e:jx w m=false:=by (unfold jx;(rw [h4]);simp));rw [e];refine dd ?_;(repeat ((first | apply ya | apply yb);refine dd ?_));exact ⟨.inl rfl,_,.refl _,rfl⟩
 obtain ⟨c0,c1⟩:=yW.1 h4
 have hv:w.zd[m.version.toNat]?= some (w.zd[m.version.toNat]'(by omega)):=List.getElem?_eq_getElem _
 generalize w.zd[m.version.toNat]'(by omega)=v at hv
 have gv:(w.zd.map qu)[m.version.toNat]?= some (qu v):=by rw [List.getElem?_map,hv];rfl
 have m4:(v.zk.map q7).length=v.zk.length:=List.length_map ..
 have g0:jx w m=(inV m.zn v.zk.length && (match v.zk[m.zn.toNat]? with
  | none=>false
  | some g=>inV m.end_ g.ends.length && inV m.other g.ends.length && (match g.ends[m.end_.toNat]? with
   | none=>false
   | some e=>inV m.slot e.next.length) && (inV (m.listen+1) (w.zc.length+1) && decide (0<=m.i) && decide (0<=m.k)))):=by
  unfold jx
  rw [h1,h2,h3,h4,hv]
  rfl
 rw [g0]
 refine dd ?_
 (repeat ((first | apply ya | apply yb);refine dd ?_))
 refine ⟨c0,_,gv,?_⟩
 refine dd ?_
 rw [m4]
 refine ⟨_,_,(xZ m.zn v.zk.length).frame rfl _,?_⟩;refine dd ?_
 refine ⟨fun h5=>?_,fun h5=>?_⟩
 rotate_left
 ·rw [h5]
  refine dd ?_
  (repeat ((first | apply ya | apply yb);refine dd ?_))
  exact ⟨.inl rfl,_,.refl _,rfl⟩
 obtain ⟨c2,c3⟩:=yW.1 h5
 have hg:v.zk[m.zn.toNat]?= some (v.zk[m.zn.toNat]'(by omega)):=List.getElem?_eq_getElem _
 generalize v.zk[m.zn.toNat]'(by omega)=g at hg
 have gg:(v.zk.map q7)[m.zn.toNat]?= some (q7 g):=by rw [List.getElem?_map,hg];rfl
 have m5:(g.ends.map zX).length=g.ends.length:=List.length_map ..
 rw [h5,hg]
 dsimp only
 refine dd ?_
 (repeat ((first | apply ya | apply yb);refine dd ?_))
 refine ⟨c2,_,gg,?_⟩
 refine dd ?_
 refine .inl ⟨⟨false,[],[],[]⟩,by kernel_rfl,?_⟩;(conv=>whnf)
 rw [m5]
 refine ⟨_,_,(xZ m.end_ g.ends.length).frame rfl _,?_⟩;refine dd ?_
 refine ⟨fun h6=>?_,fun h6=>?_⟩
 rotate_left
 ·rw [h6]
  refine dd ?_
  (repeat ((first | apply ya | apply yb);refine dd ?_))
  exact ⟨.inl rfl,_,.refl _,rfl⟩
 obtain ⟨c4,c5⟩:=yW.1 h6
 have he:g.ends[m.end_.toNat]?= some (g.ends[m.end_.toNat]'(by omega)):=List.getElem?_eq_getElem _
 generalize g.ends[m.end_.toNat]'(by omega)=e at he
 have ge:(g.ends.map zX)[m.end_.toNat]?= some (zX e):=by rw [List.getElem?_map,he];rfl
 have m6:(e.next.map encI).length=e.next.length:=List.length_map ..
 rw [h6,he]
 dsimp only
 refine dd ?_
 rw [m5]
 refine ⟨_,_,(xZ m.other g.ends.length).frame rfl _,?_⟩;refine dd ?_
 refine ⟨fun h7=>?_,fun h7=>?_⟩
 rotate_left
 ·rw [h7]
  refine dd ?_
  (repeat ((first | apply ya | apply yb);refine dd ?_))
  exact ⟨.inl rfl,_,.refl _,rfl⟩
 rw [h7]
 refine dd ?_
 refine ⟨c4,_,ge,?_⟩
 refine dd ?_
 rw [m6]
 refine ⟨_,_,(xZ m.slot e.next.length).frame rfl _,?_⟩;refine dd ?_
 refine ⟨fun h8=>?_,fun h8=>?_⟩
 rotate_left
 ·rw [h8]
  refine dd ?_
  (repeat ((first | apply ya | apply yb);refine dd ?_))
  exact ⟨.inl rfl,_,.refl _,rfl⟩
 rw [h8]
 refine dd ?_
 (repeat ((first | apply ya | apply yb);refine dd ?_))
 rw [m3,el]
 have hin:=xZ (IntKind.i64.wrap (m.listen+1)) ((w.zc.length:Int)+1)
 rw [el2] at hin
 refine ⟨_,_,(hin).frame rfl _,?_⟩;refine dd ?_
 refine ⟨fun h9=>?_,fun h9=>?_⟩
 rotate_left
 ·rw [h9]
  refine dd ?_
  (repeat ((first | apply ya | apply yb);refine dd ?_))
  exact ⟨.inl rfl,_,.refl _,rfl⟩
 rw [h9]
 refine dd ?_
 refine ⟨fun h10=>?_,fun h10=>?_⟩
 rotate_left
 ·refine dd ?_
  (repeat ((first | apply ya | apply yb);refine dd ?_))
  (exact ⟨.inl rfl,_,.refl _,congrArg (fun b=>some (C.v (Value.bool b))) (by symm;simp at h10 ⊢;omega)⟩)
 refine dd ?_
 refine ⟨fun h11=>?_,fun h11=>?_⟩
 ·refine dd ?_
  (repeat ((first | apply ya | apply yb);refine dd ?_))
  (exact ⟨.inl rfl,_,.refl _,congrArg (fun b=>some (C.v (Value.bool b))) (by symm;simp at h10 h11 ⊢;omega)⟩)
 ·refine dd ?_
  (repeat ((first | apply ya | apply yb);refine dd ?_))
  (exact ⟨.inl rfl,_,.refl _,congrArg (fun b=>some (C.v (Value.bool b))) (by symm;simp at h10 h11 ⊢;omega)⟩)
end Go.Wor
namespace Go.Ab
theorem xd {H:ze} {id i:Nat} {ob:Ob} (h:(q4 H id)[i]?= some ob) (hk:ob.kind=4):H[i]?= some ob:=by
 rw [jV] at h
 cases hx:H[i]? with
 | none=>rw [hx] at h;cases h
 | some o=>
  rw [hx] at h
  simp only [Option.map_some,Option.some.injEq] at h
  split at h
  ·subst h;cases hk
  ·rw [h]
theorem zl.forget {B:Nat} {s:S} (id:Nat):zl B s ⟨s.tmps,q4 s.H id⟩:=fun m w E a hs=>by
 have hg:∀ {i b},zO E (q4 s.H id) i b->zO E s.H i b:=fun ⟨ob,cap,h1,h2,h3,h4⟩=>⟨ob,cap,xd h1 h2,h2,h3,h4⟩
 have hr:∀ {i b},qh (q4 s.H id) i b->qh s.H i b:=fun ⟨ob,o,t,h1,h2,h3,h4⟩=>⟨ob,o,t,xd h1 h2,h2,h3,h4⟩
 have h0:∀ {b},z5 E (q4 s.H id) b->z5 E s.H b:=fun ⟨i,p,x,h1,h2⟩=>⟨i,p,x,(jO h1).2,h2⟩
 refine ⟨E,⟨⟨hs.heap.base.kill id,?_⟩,hs.tmps,hs.defers,by have:=hs.base;simp [q4];omega⟩,⟨Env.leB.refl B E,rfl,rfl,rfl,Nat.le_refl _,fun _ _ _=>rfl,fun _ _ _ h=>.inl h,?_⟩⟩
 ·exact {
   val:=fun i ob h1 h2=>hs.heap.gro.val i ob (xd h1 h2) h2
   blk:=fun i b ob h1 h2=>hs.heap.gro.blk i b ob (hg h1) (by obtain ⟨ob2,_,h3,h4,_⟩:=h1;rw [h2] at h3;cases h3;exact xd h2 h4)
   sep:=fun i b h1 h2=>hs.heap.gro.sep i b (hg h1) (h0 h2)
   inj:=fun i j b h1 h2=>hs.heap.gro.inj i j b (hg h1) (hg h2)
   st:=fun i b ob o u h1 h2 h3=>hs.heap.gro.st i b ob o u (hg h1) (by obtain ⟨ob2,_,h4,h5,_⟩:=h1;rw [h2] at h4;cases h4;exact xd h2 h5) h3
   top:=fun i ob k u h1 h2 h3=>hs.heap.gro.top i ob k u (xd h1 h2) h2 h3
   lop:=fun i ob o t h1 h2 h3=>hs.heap.gro.lop i ob o t (xd h1 h2) h2 h3
   yg:=fun i j b h1 h2=>hs.heap.gro.yg i j b (hr h1) (hr h2) }
 ·rintro b (hb | ⟨i,hb | hb⟩)
  ·exact .inr (.inl (h0 hb))
  ·exact .inr (.inr ⟨i,.inl (hg hb)⟩)
  ·exact .inr (.inr ⟨i,.inr (hr hb)⟩)
end Go.Ab
namespace Go.Wor
open Go.Ab Go.Proofs Go.Hy Go.Gat Go.Nam Go.Hos Go.Con Go.Sna
abbrev Ce (e:Eve):C:=.agg (yk e)
abbrev zaT:Ans:=⟨0,0,0,0,0,0,0,⟨0,0,0,0,0,0⟩⟩
abbrev xF:Eve:=⟨0,0,0,0,0,false,0,false,false,false,zaT⟩
abbrev ldE (n:Int):Eve:=⟨0,0,1,1,0,false,n,false,false,false,zaT⟩
theorem jo {P:Program} {f:FuncId} {fn:Func} {c:Code} {H H2:ze} {args:List C} {r:C} (hf:P.funcs[f]?= some fn) (hb:fn.body=some c) (hle:H.length<=H2.length)
  (h:wpA P H.length c (entry fn args) H fun ex t1 H1=>(ex=.ret∨ex=.normal)∧∃ s2 r1,zl H.length ⟨t1,H1⟩ s2∧yx P fn s2=some r1∧zl H.length ⟨[r1],s2.H⟩ ⟨[r],H2⟩):zb P f H args r H2:=fun w E vs hh hl0=>by
 have h1:qe P f H args fun r1 H1=>zl H.length ⟨[r1],H1⟩ ⟨[r],H2⟩:=qe.zF hf hb h
 refine (h1 w E vs hh hl0).mono ?_
 rintro e w' ⟨r1,H1,v,E',hw,h0,h2,h3,g⟩
 have hHH:H.length<=H1.length:=by rw [<- hh.n,<- h2.n];exact g.le.n
 obtain ⟨E2,hs,g2⟩:=hw 0 w' E' ⟨#[v],[]⟩ ⟨h2,LL.one h3,Nat.zero_le _,hHH⟩
 have hn2:=hs.heap.n
 refine ⟨v,E2,h0,hs.heap,hs.tmps.cons_inv.1,⟨⟨by rw [hh.n,hn2];exact hle,fun id hops hi=>?_,fun id hops hi=>?_,fun b o u hu=>g2.le.St _ _ _ (g.le.St _ _ _ hu),fun id k u hi hu=>?_⟩,g2.os.trans g.os,g2.tape.trans g.tape,g2.output.trans g.output,Nat.le_trans g.size g2.size,?_,?_,?_⟩⟩
 ·rw [hh.n] at hi;exact (g2.le.β id hops hi).trans (g.le.β id hops (by rw [hh.n];exact hi))
 ·rw [hh.n] at hi;exact (g2.le.κ id hops hi).trans (g.le.κ id hops (by rw [hh.n];exact hi))
 ·rw [hh.n] at hi;exact g2.le.G id k u hi (g.le.G id k u (by rw [hh.n];exact hi) hu)
 ·intro k hk ho
  exact (g2.frame k (Nat.lt_of_lt_of_le hk g.size) fun hc=>(g.own k hc).elim (fun h=>by omega) ho).trans (g.frame k hk ho)
 ·intro b o u hu
  rcases g2.qs b o u hu with h1 | h1 | h1
  ·exact g.qs b o u h1
  ·exact .inr (.inl (Nat.le_trans g.size h1))
  ·rcases g.own b h1 with h4 | h4
   ·exact .inr (.inl h4)
   ·exact .inr (.inr h4)
 ·intro b hb
  rcases g2.own b hb with h1 | h1
  ·exact .inl (Nat.le_trans g.size h1)
  ·exact g.own b h1
abbrev zeW:List C:=[I 0,I 0,I 0,.lst 1 0 [],.lst 1 0 [],.lst 1 0 [],.lst 1 0 [],.lst 1 0 []]
abbrev zeP:List C:=[I 0,Tx [],Tx [],Tx [],I 0,I 0,I 0,.lst 1 0 [],.lst 1 0 [],.lst 1 0 []]
abbrev zeM:List C:=zeP++[I 0,I 0,I 0,I 0,I 0,I 0,I 0,I 0,I 0,U 0,I 0,I 0,I 0,I 0,Bo false]++xq zaT++zkn ⟨0,0,0,0,0,0⟩
theorem zb.zbm {P:Program} {f:FuncId} {fn:Func} {c:Code} {args:List C} {r:C} (hf:P.funcs[f]?= some fn) (hb:fn.body=some c)
  (h:z1 P 0 c ⟨entry fn args,[]⟩ fun ex s=>(ex=.ret∨ex=.normal)∧∃ s2,zl 0 s s2∧(yx P fn s2).map (jG 0 9)=some r):zb P f [] args r []:=by
 refine qe.zfW (qe.x4 (H:=[]) hf hb (h.mono fun ex s1 ⟨hex,s2,hw,h2⟩=>?_))
 cases h3:yx P fn s2 with
 | none=>rw [h3] at h2;cases h2
 | some r0=>
  rw [h3] at h2
  cases h2
  exact ⟨hex,s2,r0,hw,h3,rfl⟩
end Go.Wor
namespace Go.Wor
open Go.Ab Go.Proofs Go.Hy Go.Gat Go.Nam Go.Hos Go.Con Go.Sna
end Go.Wor
namespace Go.Wor
open Go.Ab Go.Proofs Go.Hy Go.Gat Go.Nam Go.Hos Go.Con Go.Sna
abbrev zkp (m:Mac) (e:Eve):Eve:={ e with zC:=m.zC,version:= -1 }
abbrev zkF (w:Wor) (t:Nat) (n:Int):Wor:={ w with pins:=w.pins.set t n }
abbrev zmW (m:Mac):Eve:=zkp m ⟨0,0,2,2,0,false,0,false,false,false,zaT⟩
end Go.Wor
namespace Go.Wor
open Go.Ab Go.Proofs Go.Hy Go.Gat Go.Nam Go.Hos Go.Con Go.Sna
structure AtC (w:Wor) (m:Mac) (r:List Int) (n:Int):Prop where
 i0:0<=m.i
 at_:w.counts[m.i.toNat]?= some r
 k0:0<=m.k
 k6:m.k < 6
 row:r[m.k.toNat]?= some n
end Go.Wor
