import Derived.Test.YtgmkpdmnlhoffaaGreatRU
set_option linter.all false
set_option maxRecDepth 100000
set_option maxHeartbeats 4000000
namespace Go.Wor
open Go.Ab Go.Proofs Go.Hy Go.Gat Go.Nam Go.Hos Go.Con Go.Sna
abbrev Cm (m:Mac):C:=.agg (zD m)
def zW (w:Wor) (m:Mac):Bool:=xw w && inV m.zj w.pins.length && !m.done && inV m.version w.ze.length && (match w.ze[m.version.toNat]? with
 | none=>false
 | some v=>inV m.zf v.zm.length && (match v.zm[m.zf.toNat]? with
  | none=>false
  | some g=>inV m.end_ g.ends.length && inV m.other g.ends.length && (match g.ends[m.end_.toNat]? with
   | none=>false
   | some e=>inV m.slot e.next.length) && (inV (m.listen+1) (w.zd.length+1) && decide (0<=m.i) && decide (0<=m.k))))
theorem yP {i n:Int}:inV i n=true↔0<=i∧i < n:=by unfold inV;simp
structure qC (w:Wor) (m:Mac) (v:Ver) (g:Gr) (e:En):Prop where
 world:xw w=true
 zj:0<=m.zj∧m.zj < w.pins.length
 done:m.done=false
 version:0<=m.version∧m.version < w.ze.length
 atv:w.ze[m.version.toNat]?= some v
 zf:0<=m.zf∧m.zf < v.zm.length
 atg:v.zm[m.zf.toNat]?= some g
 end_ : 0 <= m.end_ ∧ m.end_ < g.ends.length
 ate:g.ends[m.end_.toNat]?= some e
 other:0<=m.other∧m.other < g.ends.length
 slot:0<=m.slot∧m.slot < e.next.length
 listen: -1<=m.listen∧m.listen < w.zd.length
 i:0<=m.i
 k:0<=m.k
theorem wP {w:Wor} {m:Mac} (h:zW w m=true):∃ v g e,qC w m v g e:=by
 unfold zW at h;simp only [Bool.and_eq_true,Bool.not_eq_true',yP] at h;obtain ⟨⟨⟨⟨h1,h2⟩,h3⟩,h4⟩,h5⟩:=h;split at h5
 ·cases h5
 rename_i v hv;simp only [Bool.and_eq_true,yP] at h5;obtain ⟨h5,h6⟩:=h5;split at h6
 ·cases h6
 rename_i g hg;simp only [Bool.and_eq_true,yP,decide_eq_true_eq] at h6;obtain ⟨⟨⟨h6,h7⟩,h8⟩,⟨h9,h10⟩,h11⟩:=h6;split at h8
 ·cases h8
 rename_i e he;simp only [yP] at h8;exact ⟨v,g,e,h1,h2,h3,h4,hv,h5,hg,h6,he,h7,h8,by omega,h10,h11⟩
theorem zM (w:Wor) (m:Mac) (hw:OkW w) (hm:i64 m.listen):zb Tryz.prog 222 [] [Cw w,Cm m] (Bo (zW w m)) []:=by
 have m1:(w.pins.map encI).length=w.pins.length:=List.length_map ..;have m2:(w.ze.map zI).length=w.ze.length:=List.length_map ..;have m3:(w.zd.map qG).length=w.zd.length:=List.length_map ..;have b3:=hw.zd.1;have el:IntKind.i64.wrap ((w.zd.length:Int)+1)=(w.zd.length:Int)+1:=q0 (by omega) (by omega)
 have el2:inV (IntKind.i64.wrap (m.listen+1)) ((w.zd.length:Int)+1)=inV (m.listen+1) ((w.zd.length:Int)+1):=by
  by_cases hh:m.listen<=9223372036854775806
  ·rw [q0 (by have:=hm.1;omega) (by omega)]
  ·have h9:m.listen=9223372036854775807:=by have:=hm.2;omega
   rw [h9];have h10:IntKind.i64.wrap (9223372036854775807+1)= -9223372036854775808:=by decide
   rw [h10];unfold inV;rw [show decide ((0:Int)<= -9223372036854775808)=false from rfl,show decide ((9223372036854775807:Int)+1 < (w.zd.length:Int)+1)=false from by simp;omega];simp
 refine zb.zp (fn:=Tryz.f222) Tryz.func222 rfl (uH ?_);refine ⟨_,_,(zb0 w hw).frame rfl _,dd ?_⟩;refine ⟨fun h1=>?_,fun h1=>?_⟩
 rotate_left
 ·(have e:zW w m=false:=by (unfold zW;(rw [h1]);simp));rw [e];refine dd ?_;(repeat refine uC ?_);exact uI
 refine dd ?_;rw [m1];refine ⟨_,_,(kE m.zj w.pins.length).frame rfl _,dd ?_⟩;refine ⟨fun h2=>?_,fun h2=>?_⟩
 rotate_left
 ·(have e:zW w m=false:=by (unfold zW;(rw [h2]);simp));rw [e];refine dd ?_;(repeat refine uC ?_);exact uI
 refine dd ?_;refine ⟨fun h3=>?_,fun h3=>?_⟩
 ·(have e:zW w m=false:=by (unfold zW;(rw [h3]);simp));rw [e];refine dd ?_;(repeat refine uC ?_);exact uI
 refine dd ?_;rw [m2];refine ⟨_,_,(kE m.version w.ze.length).frame rfl _,dd ?_⟩;refine ⟨fun h4=>?_,fun h4=>?_⟩
 rotate_left
 ·(have e:zW w m=false:=by (unfold zW;(rw [h4]);simp));rw [e];refine dd ?_;(repeat refine uC ?_);exact uI
 obtain ⟨c0,c1⟩:=yP.1 h4;have hv:w.ze[m.version.toNat]?= some (w.ze[m.version.toNat]'(by omega)):=List.getElem?_eq_getElem _;generalize w.ze[m.version.toNat]'(by omega)=v at hv;have gv:(w.ze.map zI)[m.version.toNat]?= some (zI v):=by rw [List.getElem?_map,hv];rfl
 have m4:(v.zm.map zE).length=v.zm.length:=List.length_map ..
 have g0:zW w m=(inV m.zf v.zm.length && (match v.zm[m.zf.toNat]? with
  | none=>false
  | some g=>inV m.end_ g.ends.length && inV m.other g.ends.length && (match g.ends[m.end_.toNat]? with
   | none=>false
   | some e=>inV m.slot e.next.length) && (inV (m.listen+1) (w.zd.length+1) && decide (0<=m.i) && decide (0<=m.k)))):=by
  unfold zW;rw [h1,h2,h3,h4,hv]
  rfl
 rw [g0];refine dd ?_;(repeat refine uC ?_)
 refine ⟨c0,_,gv,dd ?_⟩;rw [m4];refine ⟨_,_,(kE m.zf v.zm.length).frame rfl _,dd ?_⟩;refine ⟨fun h5=>?_,fun h5=>?_⟩
 rotate_left
 ·rw [h5];refine dd ?_;(repeat refine uC ?_)
  exact uI
 obtain ⟨c2,c3⟩:=yP.1 h5;have hg:v.zm[m.zf.toNat]?= some (v.zm[m.zf.toNat]'(by omega)):=List.getElem?_eq_getElem _;generalize v.zm[m.zf.toNat]'(by omega)=g at hg;have gg:(v.zm.map zE)[m.zf.toNat]?= some (zE g):=by rw [List.getElem?_map,hg];rfl
 have m5:(g.ends.map zu).length=g.ends.length:=List.length_map ..;rw [h5,hg];dsimp only;refine dd ?_;(repeat refine uC ?_)
 refine ⟨c2,_,gg,dd ?_⟩;refine uE ?_;rw [m5];refine ⟨_,_,(kE m.end_ g.ends.length).frame rfl _,dd ?_⟩;refine ⟨fun h6=>?_,fun h6=>?_⟩
 rotate_left
 ·rw [h6];refine dd ?_;(repeat refine uC ?_)
  exact uI
 obtain ⟨c4,c5⟩:=yP.1 h6;have he:g.ends[m.end_.toNat]?= some (g.ends[m.end_.toNat]'(by omega)):=List.getElem?_eq_getElem _;generalize g.ends[m.end_.toNat]'(by omega)=e at he;have ge:(g.ends.map zu)[m.end_.toNat]?= some (zu e):=by rw [List.getElem?_map,he];rfl
 have m6:(e.next.map encI).length=e.next.length:=List.length_map ..;rw [h6,he];dsimp only;refine dd ?_;rw [m5];refine ⟨_,_,(kE m.other g.ends.length).frame rfl _,dd ?_⟩;refine ⟨fun h7=>?_,fun h7=>?_⟩
 rotate_left
 ·rw [h7];refine dd ?_;(repeat refine uC ?_)
  exact uI
 rw [h7];refine dd ?_;refine ⟨c4,_,ge,dd ?_⟩;rw [m6];refine ⟨_,_,(kE m.slot e.next.length).frame rfl _,dd ?_⟩;refine ⟨fun h8=>?_,fun h8=>?_⟩
 rotate_left
 ·rw [h8];refine dd ?_;(repeat refine uC ?_)
  exact uI
 rw [h8];refine dd ?_;(repeat refine uC ?_)
 rw [m3,el];have hin:=kE (IntKind.i64.wrap (m.listen+1)) ((w.zd.length:Int)+1);rw [el2] at hin;refine ⟨_,_,(hin).frame rfl _,dd ?_⟩;refine ⟨fun h9=>?_,fun h9=>?_⟩
 rotate_left
 ·rw [h9];refine dd ?_;(repeat refine uC ?_)
  exact uI
 rw [h9];refine dd ?_;refine ⟨fun h10=>?_,fun h10=>?_⟩
 rotate_left
 ·refine dd ?_;(repeat refine uC ?_)
  (exact ⟨.inl rfl,_,.refl _,uN (by symm;simp at h10 ⊢;omega)⟩)
 refine dd ?_;refine ⟨fun h11=>?_,fun h11=>?_⟩
 ·refine dd ?_;(repeat refine uC ?_)
  (exact ⟨.inl rfl,_,.refl _,uN (by symm;simp at h10 h11 ⊢;omega)⟩)
 ·refine dd ?_;(repeat refine uC ?_)
  (exact ⟨.inl rfl,_,.refl _,uN (by symm;simp at h10 h11 ⊢;omega)⟩)
end Go.Wor
namespace Go.Ab
theorem va {H:zk} {id i:Nat} {ob:Ob} (h:(xy H id)[i]?= some ob) (hk:ob.kind=4):H[i]?= some ob:=by
 rw [yI] at h;cases hx:H[i]? with
 | none=>rw [hx] at h;cases h
 | some o=>
  rw [hx] at h;simp only [Option.map_some,Option.some.injEq] at h;split at h
  ·subst h;cases hk
  ·rw [h]
theorem zo.forget {B:Nat} {s:S} (id:Nat):zo B s ⟨s.tmps,xy s.H id⟩:=fun m w E a hs=>by
 have hg:∀ {i b},qz E (xy s.H id) i b->qz E s.H i b:=fun ⟨ob,cap,h1,h2,h3,h4⟩=>⟨ob,cap,va h1 h2,h2,h3,h4⟩
 have hr:∀ {i b},jm (xy s.H id) i b->jm s.H i b:=fun ⟨ob,o,t,h1,h2,h3,h4⟩=>⟨ob,o,t,va h1 h2,h2,h3,h4⟩
 have h0:∀ {b},qX E (xy s.H id) b->qX E s.H b:=fun ⟨i,p,x,h1,h2⟩=>⟨i,p,x,(yv h1).2,h2⟩
 refine ⟨E,⟨⟨hs.heap.base.kill id,?_⟩,hs.tmps,hs.defers,by have:=hs.base;simp [xy];omega⟩,⟨Env.leB.refl B E,rfl,rfl,rfl,Nat.le_refl _,fun _ _ _=>rfl,fun _ _ _ h=>.inl h,?_⟩⟩
 ·exact {
   val:=fun i ob h1 h2=>hs.heap.gro.val i ob (va h1 h2) h2
   blk:=fun i b ob h1 h2=>hs.heap.gro.blk i b ob (hg h1) (by obtain ⟨ob2,_,h3,h4,_⟩:=h1;rw [h2] at h3;cases h3;exact va h2 h4)
   sep:=fun i b h1 h2=>hs.heap.gro.sep i b (hg h1) (h0 h2)
   inj:=fun i j b h1 h2=>hs.heap.gro.inj i j b (hg h1) (hg h2)
   st:=fun i b ob o u h1 h2 h3=>hs.heap.gro.st i b ob o u (hg h1) (by obtain ⟨ob2,_,h4,h5,_⟩:=h1;rw [h2] at h4;cases h4;exact va h2 h5) h3
   top:=fun i ob k u h1 h2 h3=>hs.heap.gro.top i ob k u (va h1 h2) h2 h3
   lop:=fun i ob o t h1 h2 h3=>hs.heap.gro.lop i ob o t (va h1 h2) h2 h3
   kQ:=fun i j b h1 h2=>hs.heap.gro.kQ i j b (hr h1) (hr h2) }
 ·rintro b (hb | ⟨i,hb | hb⟩)
  ·exact .inr (.inl (h0 hb))
  ·exact .inr (.inr ⟨i,.inl (hg hb)⟩)
  ·exact .inr (.inr ⟨i,.inr (hr hb)⟩)
end Go.Ab
namespace Go.Wor
open Go.Ab Go.Proofs Go.Hy Go.Gat Go.Nam Go.Hos Go.Con Go.Sna
abbrev Ce (e:Eve):C:=.agg (zQ e)
abbrev wL:Ans:=⟨0,0,0,0,0,0,0,⟨0,0,0,0,0,0⟩⟩
abbrev qu:Eve:=⟨0,0,0,0,0,false,0,false,false,false,wL⟩
abbrev ldE (n:Int):Eve:=⟨0,0,1,1,0,false,n,false,false,false,wL⟩
def zsH (r:C) (H':zk):Prop:=∃ (b:Nat) (v0 v1 v2:Value),r=.v (.map (some b))∧H'=[obC b [(0,v0,0),(1,v1,1),(2,v2,2)] 3 [.agg [.fn 293 [] []],.agg [.fn 295 [] []],.agg [.fn 296 [] []]]]
theorem zkq:qw Tryz.prog 256 [] [] zsH:=by
 refine qw.zS (fn:=Tryz.f256) Tryz.func256 rfl (uH ?_);intro b;refine dd ?_;refine jt.qk (id:=0) _ _ _ _ (.inr rfl) Tryz.underlying284 Tryz.underlying3 rfl rfl rfl rfl rfl ?_;intro v0;refine dd ?_;refine jt.qk (id:=0) _ _ _ _ (.inr rfl) Tryz.underlying284 Tryz.underlying3 rfl rfl rfl rfl rfl ?_;intro v1;refine dd ?_;refine jt.qk (id:=0) _ _ _ _ (.inr rfl) Tryz.underlying284 Tryz.underlying3 rfl rfl rfl rfl rfl ?_;intro v2;refine dd ?_;exact ⟨.inl rfl,_,_,.refl _,rfl,b,v0,v1,v2,rfl,rfl⟩
theorem z6 {P:Program} {f:FuncId} {fn:Func} {c:Code} {H H2:zk} {args:List C} {r:C} (hf:P.funcs[f]?= some fn) (hb:fn.body=some c) (hle:H.length<=H2.length)
  (h:wpA P H.length c (entry fn args) H fun ex t1 H1=>(ex=.ret∨ex=.normal)∧∃ s2 r1,zo H.length ⟨t1,H1⟩ s2∧vT P fn s2=some r1∧zo H.length ⟨[r1],s2.H⟩ ⟨[r],H2⟩):zb P f H args r H2:=fun w E vs hh hl0=>by
 have h1:qw P f H args fun r1 H1=>zo H.length ⟨[r1],H1⟩ ⟨[r],H2⟩:=qw.zS hf hb h
 refine (h1 w E vs hh hl0).mono ?_;rintro e w' ⟨r1,H1,v,E',hw,h0,h2,h3,g⟩;have hHH:H.length<=H1.length:=by rw [<- hh.n,<- h2.n];exact g.le.n
 obtain ⟨E2,hs,g2⟩:=hw 0 w' E' ⟨#[v],[]⟩ ⟨h2,LL.one h3,Nat.zero_le _,hHH⟩;have hn2:=hs.heap.n;refine ⟨v,E2,h0,hs.heap,hs.tmps.cons_inv.1,⟨⟨by rw [hh.n,hn2];exact hle,fun id hops hi=>?_,fun id hops hi=>?_,fun b o u hu=>g2.le.St _ _ _ (g.le.St _ _ _ hu),fun id k u hi hu=>?_⟩,g2.os.trans g.os,g2.tape.trans g.tape,g2.output.trans g.output,Nat.le_trans g.size g2.size,?_,?_,?_⟩⟩
 ·rw [hh.n] at hi;exact (g2.le.β id hops hi).trans (g.le.β id hops tO)
 ·rw [hh.n] at hi;exact (g2.le.κ id hops hi).trans (g.le.κ id hops tO)
 ·rw [hh.n] at hi;exact g2.le.G id k u hi (g.le.G id k u tO hu)
 ·intro k hk ho;exact (g2.frame k (Nat.lt_of_lt_of_le hk g.size) fun hc=>(g.own k hc).elim (fun h=>by omega) ho).trans (g.frame k hk ho)
 ·intro b o u hu;rcases g2.jy b o u hu with h1 | h1 | h1
  ·exact g.jy b o u h1
  ·exact .inr (.inl (Nat.le_trans g.size h1))
  ·rcases g.own b h1 with h4 | h4
   ·exact .inr (.inl h4)
   ·exact .inr (.inr h4)
 ·intro b hb;rcases g2.own b hb with h1 | h1
  ·exact .inl (Nat.le_trans g.size h1)
  ·exact g.own b h1
theorem zcj (w:Wor) (m:Mac):zb Tryz.prog 294 [⟨1,28,8,[zJ w],0⟩,⟨1,97,44,[zD (m)],0⟩] [.ref 0 [] 8 0 0] (Ce (ldE w.zn)) [⟨1,28,8,[zJ w],0⟩,⟨1,97,44,[zD (m)],0⟩]:=by
 refine z6 (fn:=Tryz.f294) Tryz.func294 rfl (Nat.le_refl _) (uH ?_);exact ⟨.inl rfl,_,_,.refl _,rfl,cE 2⟩
theorem zoW (w:Wor) (m:Mac):zb Tryz.prog 293 [⟨1,28,8,[zJ w],0⟩,⟨1,97,44,[zD (m)],0⟩] [.ref 0 [] 8 0 0,.ref 1 [] 44 0 0] (Ce (ldE w.zn)) [⟨1,28,8,[zJ w],0⟩,⟨1,97,44,[zD ({ m with zn:=w.zn,pc:=1 })],0⟩]:=by
 refine z6 (fn:=Tryz.f293) Tryz.func293 rfl (Nat.le_refl _) (uH ?_);refine zq [0,1] (zcj w { m with zn:=w.zn,pc:=1 }) rfl rfl rfl rfl rfl rfl (dd ?_);exact ⟨.inl rfl,_,_,.refl _,rfl,cE 2⟩
theorem zoX (w:Wor) (m:Mac) (h0:0<=m.zj) (h1:m.zj < w.pins.length):zb Tryz.prog 295 [⟨1,28,8,[[I w.zn,I w.current,I w.lock,.sl 2 [] 1 0 w.pins.length false,lV w.ze,lL w.zd,lCo w.counts,lR w.zt]],0⟩,⟨1,97,44,[zD (m)],0⟩,⟨2,3,1,(w.pins).map encI,0⟩] [.ref 0 [] 8 0 0,.ref 1 [] 44 0 0] (Ce ⟨0,0,2,2,0,false,IntKind.i64.wrap (m.zn+1),false,false,false,wL⟩) [⟨1,28,8,[[I w.zn,I w.current,I w.lock,.sl 2 [] 1 0 w.pins.length false,lV w.ze,lL w.zd,lCo w.counts,lR w.zt]],0⟩,⟨1,97,44,[zD ({ m with pc:=2 })],0⟩,⟨2,3,1,(w.pins.set m.zj.toNat (IntKind.i64.wrap (m.zn+1))).map encI,0⟩]:=by
 have hs:(w.pins.map encI).set m.zj.toNat [I (IntKind.i64.wrap (m.zn+1))]=(w.pins.set m.zj.toNat (IntKind.i64.wrap (m.zn+1))).map encI:=by rw [List.map_set];rfl
 rw [<- hs];have e1:0+m.zj.toNat=m.zj.toNat:=Nat.zero_add _;have hg:(w.pins.map encI)[m.zj.toNat]?= some (encI (w.pins[m.zj.toNat]'(by omega))):=by rw [List.getElem?_map,List.getElem?_eq_getElem (by omega)];rfl
 refine z6 (fn:=Tryz.f295) Tryz.func295 rfl (Nat.le_refl _) (uH ?_);refine uE ?_;refine ⟨h0,by omega,dd ?_⟩;rw [e1];refine ⟨_,hg,rfl,dd ?_⟩;exact ⟨.inl rfl,_,_,.refl _,rfl,cE 3⟩
theorem zoY (w:Wor) (m:Mac):zb Tryz.prog 296 [⟨1,28,8,[zJ w],0⟩,⟨1,97,44,[zD (m)],0⟩] [.ref 0 [] 8 0 0,.ref 1 [] 44 0 0] (Ce (ldE w.zn)) [⟨1,28,8,[zJ w],0⟩,⟨1,97,44,[zD ({ m with zn:=w.zn,pc:=if w.zn=m.zn then 3 else 1 })],0⟩]:=by
 refine z6 (fn:=Tryz.f296) Tryz.func296 rfl (Nat.le_refl _) (uH ?_);refine uE ?_;refine ⟨fun h=>?_,fun h=>?_⟩
 ·conv=>whnf
  rw [if_pos (of_decide_eq_true h)];refine zq [0,1] (zcj w { m with zn:=w.zn,pc:=3 }) rfl rfl rfl rfl rfl rfl (dd ?_);exact ⟨.inl rfl,_,_,.refl _,rfl,cE 2⟩
 ·conv=>whnf
  rw [if_neg (of_decide_eq_false h)];refine zq [0,1] (zcj w { m with zn:=w.zn,pc:=1 }) rfl rfl rfl rfl rfl rfl (dd ?_);exact ⟨.inl rfl,_,_,.refl _,rfl,cE 2⟩
abbrev cF1:List C:=[.fn 293 [] []]
abbrev cF2:List C:=[.fn 295 [] []]
abbrev cF3:List C:=[.fn 296 [] []]
abbrev zeW:List C:=[I 0,I 0,I 0,.lst 1 0 [],.lst 1 0 [],.lst 1 0 [],.lst 1 0 [],.lst 1 0 []]
abbrev zeP:List C:=[I 0,Tx [],Tx [],Tx [],I 0,I 0,I 0,.lst 1 0 [],.lst 1 0 [],.lst 1 0 []]
abbrev zeM:List C:=zeP++[I 0,I 0,I 0,I 0,I 0,I 0,I 0,I 0,I 0,U 0,I 0,I 0,I 0,I 0,Bo false]++j6 wL++zk8 ⟨0,0,0,0,0,0⟩
theorem zfq {P:Program} {f:FuncId} (sel:List Nat) {K H0:zk} {args args0:List C} {R:C->zk->Prop} (h:qw P f H0 args0 R) (hR:∀ r H',R r H'->qK H'=true)
  (hH:xe sel K=H0) (ha:args.map (xH sel 9)=args0) (z5:sel.all (fun id=>Nat.blt id K.length)=true) (hnd:xS sel=true) (hfl:qK K=true) {k:C->zk->Prop}
  (hk:∀ r H',R r H'->zcd (kJ sel K H') fun X=>qE (yx (qT sel K.length) 9 r) fun c=>k c X):∃ R',qw P f K args R'∧∀ r H2,R' r H2->k r H2:=
 ⟨_,h.part sel hR hH ha z5 hnd hfl,fun r H2 ⟨r0,H',h1,h2,h3⟩=>by subst h2 h3;exact zO (vv (k:=fun X=>qE (yx (qT sel K.length) 9 r0) fun c=>k c X) (hk r0 H' h1))⟩
theorem zb.zal {P:Program} {f:FuncId} {fn:Func} {c:Code} {args:List C} {r:C} (hf:P.funcs[f]?= some fn) (hb:fn.body=some c)
  (h:qQ P 0 c ⟨entry fn args,[]⟩ fun ex s=>(ex=.ret∨ex=.normal)∧∃ s2,zo 0 s s2∧(vT P fn s2).map (xW 0 9)=some r):zb P f [] args r []:=by
 refine qw.zk0 (qw.kH (H:=[]) hf hb (h.mono fun ex s1 ⟨hex,s2,hw,h2⟩=>?_));cases h3:vT P fn s2 with
 | none=>rw [h3] at h2;cases h2
 | some r0=>
  rw [h3] at h2;cases h2
  exact ⟨hex,s2,r0,hw,h3,rfl⟩
theorem zgz (w:Wor) (m:Mac) (j f:Nat) (R:Exit->S->Prop) (hf:∀ v0 v1 v2,yY [(0,v0,0),(1,v1,1),(2,v2,2)] m.pc=some j) (hc:[C.agg cF1,.agg cF2,.agg cF3][j]?= some (.agg [.fn f [] []]))
  (hn:qQ Tryz.prog 0 (behind 2 ((Tryz.f221.body).getD .skip)) ⟨(.za::.za::.ref 0 [] 8 0 0::.ref 1 [] 44 0 0::.ref 2 [] 8 0 0::.ref 3 [] 44 0 0::.ref 4 [] 23 0 0::.ref 5 [] 1 0 0::.v (.bool true)::tY (tY (tY ([.za,.za,.za,.za,.za,.za,.za])))),[⟨1,28,8,[zJ w],0⟩,⟨1,97,44,[zD (m)],0⟩,⟨1,28,8,[zeW],0⟩,⟨1,97,44,[zeM],0⟩,⟨1,62,23,[zQ qu],0⟩,⟨1,282,1,[[.fn f [] []]],0⟩]⟩ R):qQ Tryz.prog 0 ((Tryz.f221.body).getD .skip) ⟨entry Tryz.f221 [Cw w,Cm m],[]⟩ R:=by
 refine zaO (uH ?_);refine .inl ⟨rfl,_,_,.refl _,zaO (uH ?_)⟩;refine .inr ⟨⟨[2],[1],false⟩,by kernel_rfl,fun h=>absurd h (by decide),fun t H=>qQ Tryz.prog 0 (behind 2 ((Tryz.f221.body).getD .skip)) ⟨t,H⟩ R,uH ?_,fun t2 H2 h=>.inl ⟨rfl,_,_,.refl _,h⟩⟩;(repeat' (first | (exact trivial) | (refine ⟨fun _=>uH ?_,fun h=>absurd h (by decide)⟩) | (refine ⟨fun h=>absurd h (by decide),fun _=>uH ?_⟩) | (refine ⟨(rfl:(_:zk)=_),uH ?_⟩) | (refine ⟨(rfl:(_:Option Ob)=_),uH ?_⟩) | ((refine zfq [] zkq (fun r H' ⟨b,v0,v1,v2,h1,h2⟩=>h2 ▸ rfl) rfl rfl rfl rfl rfl ?_;rintro _ _ ⟨b,v0,v1,v2,rfl,rfl⟩;(refine dd ?_))) | (refine ⟨_,_,OpV.za2 (id:=5) _ _ _ _ rfl rfl rfl rfl rfl rfl rfl rfl rfl (hf _ _ _) hc,?_⟩;(refine dd ?_)) | (refine ⟨_,_,OpV.za2 (id:=6) _ _ _ _ rfl rfl rfl rfl rfl rfl rfl rfl rfl (hf _ _ _) hc,?_⟩;(refine dd ?_)) | (refine And.intro ?_ ?_ <;> (conv=>whnf))))
 all_goals (first | exact ⟨_,_,(zo.forget 5).trans ((zo.ren [0,1,2,3,4,6] [2,3,4,5,6,7,8] _ _ rfl rfl rfl rfl).trans (cC)),hn⟩ | exact ⟨_,_,(zo.forget 6).trans ((zo.ren [0,1,2,3,4,5] [2,3,4,5,6,7,8] _ _ rfl rfl rfl rfl).trans (cC)),hn⟩)
abbrev zgQ (m:Mac) (e:Eve):Eve:={ e with zj:=m.zj,version:= -1 }
theorem zl9 (w:Wor) (m:Mac) (sw:qR w) (ok:OkW w) (hl:i64 m.listen) (hpc:m.pc=0) (hs:zW w m=true):
  zb Tryz.prog 221 [] [Cw w,Cm m] (.tup [Cw w,Cm { m with zn:=w.zn,pc:=1 },Ce (zgQ m (ldE w.zn))]) []:=by
 refine zb.zal Tryz.func221 rfl (zgz w m 0 293 _ (fun _ _ _=>by rw [hpc];rfl) rfl ?_);(refine jl (K:=fun ex t H=>(ex=.ret∨ex=.normal)∧∃ s2,zo 0 ⟨t,H⟩ s2∧(vT Tryz.prog Tryz.f221 s2).map (xW 0 9)=some (.tup [Cw w,Cm { m with zn:=w.zn,pc:=1 },Ce (zgQ m (ldE w.zn))])) (uH ?_))
 (repeat refine uC ?_)
 refine ⟨_,_,(zM w m ok hl).frame rfl _,dd ?_⟩;refine ⟨fun _=>dd ?_,fun h=>absurd ((hs).symm.trans h:true=false) (by decide)⟩;(repeat refine uC ?_)
 refine ⟨_,_,(qs w sw).frame rfl _,dd ?_⟩;refine zq [0,1] (zoW w m) rfl rfl rfl rfl rfl rfl (dd ?_);refine .inl ⟨⟨false,[1,2],[1,6],[]⟩,by kernel_rfl,uH ?_⟩;repeat (refine ⟨rfl,uH ?_⟩)
 exact uI
theorem zmb (w:Wor) (m:Mac) (sw:qR w) (ok:OkW w) (hl:i64 m.listen) (hpc:m.pc=2) (hs:zW w m=true):
  zb Tryz.prog 221 [] [Cw w,Cm m] (.tup [Cw w,Cm { m with zn:=w.zn,pc:=if w.zn=m.zn then 3 else 1 },Ce (zgQ m (ldE w.zn))]) []:=by
 refine zb.zal Tryz.func221 rfl (zgz w m 2 296 _ (fun _ _ _=>by rw [hpc];rfl) rfl ?_);(refine jl (K:=fun ex t H=>(ex=.ret∨ex=.normal)∧∃ s2,zo 0 ⟨t,H⟩ s2∧(vT Tryz.prog Tryz.f221 s2).map (xW 0 9)=some (.tup [Cw w,Cm { m with zn:=w.zn,pc:=if w.zn=m.zn then 3 else 1 },Ce (zgQ m (ldE w.zn))])) (uH ?_))
 (repeat refine uC ?_)
 refine ⟨_,_,(zM w m ok hl).frame rfl _,dd ?_⟩;refine ⟨fun _=>dd ?_,fun h=>absurd ((hs).symm.trans h:true=false) (by decide)⟩;(repeat refine uC ?_)
 refine ⟨_,_,(qs w sw).frame rfl _,dd ?_⟩;refine zq [0,1] (zoY w m) rfl rfl rfl rfl rfl rfl (dd ?_);refine .inl ⟨⟨false,[1,2],[1,6],[]⟩,by kernel_rfl,uH ?_⟩;repeat (refine ⟨rfl,uH ?_⟩)
 exact uI
abbrev zgg (w:Wor) (t:Nat) (n:Int):Wor:={ w with pins:=w.pins.set t n }
theorem zma (w:Wor) (m:Mac) (sw:qR w) (ok:OkW w) (hl:i64 m.listen) (hpc:m.pc=1) (hs:zW w m=true):
  zb Tryz.prog 221 [] [Cw w,Cm m] (.tup [Cw (zgg w m.zj.toNat (IntKind.i64.wrap (m.zn+1))),Cm { m with pc:=2 },Ce (zgQ m ⟨0,0,2,2,0,false,IntKind.i64.wrap (m.zn+1),false,false,false,wL⟩)]) []:=by
 obtain ⟨v,g,e,su⟩:=wP hs
 obtain ⟨x,l,hx⟩:∃ x l,w.pins=x::l:=by
  cases h:w.pins with
  | nil=>have:=su.zj;rw [h] at this;simp at this;omega
  | cons x l=>exact ⟨x,l,rfl⟩
 refine zb.zal Tryz.func221 rfl (zgz w m 1 295 _ (fun _ _ _=>by rw [hpc];rfl) rfl ?_);(refine jl (K:=fun ex t H=>(ex=.ret∨ex=.normal)∧∃ s2,zo 0 ⟨t,H⟩ s2∧(vT Tryz.prog Tryz.f221 s2).map (xW 0 9)=some (.tup [Cw (zgg w m.zj.toNat (IntKind.i64.wrap (m.zn+1))),Cm { m with pc:=2 },Ce (zgQ m ⟨0,0,2,2,0,false,IntKind.i64.wrap (m.zn+1),false,false,false,wL⟩)])) (uH ?_))
 (repeat refine uC ?_)
 refine ⟨_,_,(zM w m ok hl).frame rfl _,dd ?_⟩;refine ⟨fun _=>dd ?_,fun h=>absurd ((hs).symm.trans h:true=false) (by decide)⟩;(repeat refine uC ?_)
 refine zq [] (zcP w sw x l hx) rfl rfl rfl rfl rfl rfl (dd ?_);refine zq [0,1,6] (zoX w m su.zj.1 su.zj.2) rfl rfl rfl rfl rfl rfl (dd ?_);refine .inl ⟨⟨false,[1,2],[1,7],[]⟩,by kernel_rfl,uH ?_⟩;repeat (refine ⟨rfl,uH ?_⟩)
 exact ⟨.inl rfl,_,zo.zT 2 0 3 rfl rfl rfl rfl (.inr rfl) (by simp) (by simp) (shut_map (enc:=encI) (fun _=>rfl) _) (zX rfl),rfl⟩
abbrev zqg (m:Mac):Eve:=zgQ m ⟨0,0,2,2,0,false,0,false,false,false,wL⟩
theorem zow (w:Wor) (m:Mac) (sw:qR w) (ok:OkW w) (hl:i64 m.listen) (hs:zW w m=true):
  zb Tryz.prog 306 [] [Cw w,Cm m] (.tup [Cw (zgg w m.zj.toNat 0),Ce (zqg m)]) []:=by
 obtain ⟨v,g,e,su⟩:=wP hs
 obtain ⟨x,l,hx⟩:∃ x l,w.pins=x::l:=by
  cases h:w.pins with
  | nil=>have:=su.zj;rw [h] at this;simp at this;omega
  | cons x l=>exact ⟨x,l,rfl⟩
 have e1:0+m.zj.toNat=m.zj.toNat:=Nat.zero_add _;have h0:=su.zj.1;have h1:=su.zj.2;have hst:(w.pins.map encI).set m.zj.toNat [I 0]=(w.pins.set m.zj.toNat 0).map encI:=by rw [List.map_set];rfl
 have hg:(w.pins.map encI)[m.zj.toNat]?= some (encI (w.pins[m.zj.toNat]'(by omega))):=by rw [List.getElem?_map,List.getElem?_eq_getElem (by omega)];rfl
 refine zb.zp (fn:=Tryz.f306) Tryz.func306 rfl (uH ?_);refine ⟨_,_,(zM w m ok hl).frame rfl _,dd ?_⟩;refine ⟨fun _=>dd ?_,fun h=>absurd ((hs).symm.trans h:true=false) (by decide)⟩;(repeat refine uC ?_)
 refine zq [] (zcP w sw x l hx) rfl rfl rfl rfl rfl rfl (dd ?_);refine ⟨h0,by omega,dd ?_⟩;rw [e1];refine ⟨_,hg,rfl,dd ?_⟩;rw [hst];refine .inl ⟨⟨false,[2],[1],[]⟩,by kernel_rfl,uH ?_⟩;repeat (refine ⟨rfl,uH ?_⟩)
 exact ⟨.inl rfl,_,zo.zT 2 0 3 rfl rfl rfl rfl (.inr rfl) (by simp) (by simp) (shut_map (enc:=encI) (fun _=>rfl) _) (zX rfl),rfl⟩
def zhC (x:Six) (k n:Int):Six:=
 if k=0 then { x with c0:=IntKind.u64.wrap (x.c0+n) } else if k=1 then { x with c1:=IntKind.u64.wrap (x.c1+n) } else if k=2 then { x with c2:=IntKind.u64.wrap (x.c2+n) }
 else if k=3 then { x with c3:=IntKind.u64.wrap (x.c3+n) } else if k=4 then { x with c4:=IntKind.u64.wrap (x.c4+n) } else { x with c5:=IntKind.u64.wrap (x.c5+n) }
theorem zlW (x:Six) (k n:Int) (h0:0<=k) (h6:k < 6):zb Tryz.prog 244 [] [.agg (zk8 x),I k,U n] (.agg (zk8 (zhC x k n))) []:=by
 obtain ⟨a,b,c,d,e,f⟩:=x;obtain rfl | rfl | rfl | rfl | rfl | rfl:k=0∨k=1∨k=2∨k=3∨k=4∨k=5:=by omega
 all_goals
  refine zb.zp (fn:=Tryz.f244) Tryz.func244 rfl (uH ?_);(refine ⟨by decide,by decide,dd ?_⟩);(refine ⟨by decide,by decide,dd ?_⟩);exact uI
def jQ (w:Wor) (m:Mac) (n:Int):Mac:=
 let m1:Mac:={ m with counts:=zhC m.counts m.k n,k:=m.k+1 }
 let m2:Mac:=if m.k+1=6 then { m1 with i:=m.i+1,k:=0 } else m1
 if m2.i=w.counts.length then { m2 with done:=true,answer:=⟨13,0,0,0,0,0,0,m2.counts⟩ } else m2
def zhQ (w:Wor) (m:Mac) (n:Int):Eve:={ qu with zj:=m.zj,access:=1,cell:=10,version:= -1,value:=m.k,done:=(jQ w m n).done,answer:=if (jQ w m n).done then (jQ w m n).answer else wL }
structure AtC (w:Wor) (m:Mac) (r:List Int) (n:Int):Prop where
 i0:0<=m.i
 at_:w.counts[m.i.toNat]?= some r
 k0:0<=m.k
 k6:m.k < 6
 row:r[m.k.toNat]?= some n
abbrev ztt (m:Mac) (n:Int):Mac:={ m with counts:=zhC m.counts m.k n,k:=m.k+1 }
abbrev ztu (m:Mac) (n:Int):Mac:={ m with counts:=zhC m.counts m.k n,k:=0,i:=m.i+1 }
abbrev ztv (m:Mac) (n:Int):Mac:={ m with counts:=zhC m.counts m.k n,k:=0,i:=m.i+1,done:=true,answer:=⟨13,0,0,0,0,0,0,zhC m.counts m.k n⟩ }
theorem ziZ {w:Wor} {m:Mac} {n:Int} (h:m.k+1≠6) (hi:m.i≠w.counts.length):jQ w m n=ztt m n:=by
 unfold jQ;dsimp only;rw [if_neg h];exact if_neg hi
theorem zi0 {w:Wor} {m:Mac} {n:Int} (h:m.k+1=6) (hi:m.i+1≠w.counts.length):jQ w m n=ztu m n:=by
 unfold jQ;dsimp only;rw [if_pos h];exact if_neg hi
theorem zi1 {w:Wor} {m:Mac} {n:Int} (h:m.k+1=6) (hi:m.i+1=w.counts.length):jQ w m n=ztv m n:=by
 unfold jQ;dsimp only;rw [if_pos h];exact if_pos hi
abbrev zqG (m:Mac):Eve:={ qu with zj:=m.zj,access:=1,cell:=10,version:= -1,value:=m.k }
theorem zkj {w:Wor} {m:Mac} {n:Int} (h:(jQ w m n).done=false):zhQ w m n=zqG m:=by
 unfold zhQ;rw [h]
 rfl
theorem zoZ {w:Wor} {m:Mac} {n:Int} (h:(jQ w m n).done=true):zhQ w m n={ zqG m with done:=true,answer:=(jQ w m n).answer }:=by
 unfold zhQ;rw [h]
 rfl
theorem zkk (w:Wor) (m:Mac) (r:List Int) (n:Int) (sw:qR w) (ok:OkW w) (hl:i64 m.listen) (hpc:m.pc=0) (hs:zW w m=true) (hd:m.done=false) (hc:AtC w m r n) (ha:m.answer=wL):
  zb Tryz.prog 188 [] [Cw w,Cm m] (.tup [Cw w,Cm (jQ w m n),Ce (zhQ w m n)]) []:=by
 have i0:=hc.i0;have k0:=hc.k0;have hi:m.i.toNat < w.counts.length:=(List.getElem?_eq_some_iff.1 hc.at_).1;have ml:(w.counts.map zN).length=w.counts.length:=List.length_map ..;have cr:(w.counts.map zN)[m.i.toNat]?= some (zN r):=by rw [List.getElem?_map,hc.at_];rfl
 have cn:(r.map jB)[m.k.toNat]?= some (jB n):=by rw [List.getElem?_map,hc.row];rfl
 refine zb.zp (fn:=Tryz.f188) Tryz.func188 rfl (uH ?_);refine ⟨fun h=>absurd h (by simp [hpc]),fun _=>dd ?_⟩;refine ⟨fun h=>absurd h (by have:=hc.k6;simp;omega),fun _=>dd ?_⟩;rw [ml];refine ⟨fun h=>absurd h (by simp;omega),fun _=>dd ?_⟩;refine ⟨_,_,(zM w m ok hl).frame rfl _,dd ?_⟩;refine ⟨fun _=>dd ?_,fun h=>absurd ((hs).symm.trans h:true=false) (by decide)⟩;(repeat refine uC ?_)
 refine .inl ⟨⟨true,[],[],[14]⟩,by kernel_rfl,uH ?_⟩;(refine ⟨i0,_,cr,dd ?_⟩)
 (refine ⟨k0,_,cn,dd ?_⟩)
 refine ⟨_,_,(zlW m.counts m.k n k0 hc.k6).frame rfl _,dd ?_⟩;repeat (refine ⟨rfl,uH ?_⟩)
 rw [show IntKind.i64.wrap (m.k+1)=m.k+1 from q0 (by omega) (by have:=hc.k6;omega)];refine ⟨fun h6=>?_,fun h6=>?_⟩
 ·have g6:m.k+1=6:=by simpa using h6
  refine dd ?_;rw [show IntKind.i64.wrap (m.i+1)=m.i+1 from q0 (by omega) (by have:=sw.counts.1;omega)];rw [ml];refine ⟨fun h7=>?_,fun h7=>?_⟩
  ·have g7:m.i+1=w.counts.length:=by simpa using h7
   rw [zoZ (by rw [zi1 g6 g7]),zi1 g6 g7];refine dd ?_;refine .inl ⟨⟨false,[1],[1],[]⟩,by kernel_rfl,uH ?_⟩;repeat (refine ⟨rfl,uH ?_⟩)
   refine .inl ⟨⟨true,[0,2,3],[0,1,5],[1]⟩,by kernel_rfl,uH ?_⟩;refine ⟨_,_,(qs w sw).frame rfl _,dd ?_⟩;(repeat (refine ⟨rfl,uH ?_⟩));exact uI
  ·have g7:m.i+1≠w.counts.length:=by simpa using h7
   rw [zkj (by rw [zi0 g6 g7];exact hd),zi0 g6 g7];refine dd ?_;refine .inl ⟨⟨true,[0,2,3],[0,1,5],[1]⟩,by kernel_rfl,uH ?_⟩;refine ⟨_,_,(qs w sw).frame rfl _,dd ?_⟩;(repeat (refine ⟨rfl,uH ?_⟩));exact uI
 ·have g6:m.k+1≠6:=by simpa using h6
  have g7:m.i≠w.counts.length:=by omega
  rw [zkj (by rw [ziZ g6 g7];exact hd),ziZ g6 g7];refine dd ?_;rw [ml];refine ⟨fun h=>absurd h (by simpa using g7),fun _=>dd ?_⟩;refine .inl ⟨⟨true,[0,2,3],[0,1,5],[1]⟩,by kernel_rfl,uH ?_⟩;refine ⟨_,_,(qs w sw).frame rfl _,dd ?_⟩;(repeat (refine ⟨rfl,uH ?_⟩));exact uI
end Go.Wor
