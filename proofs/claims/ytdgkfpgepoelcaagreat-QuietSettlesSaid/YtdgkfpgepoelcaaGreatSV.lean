import Derived.Test.YtdgkfpgepoelcaaGreatSU
set_option linter.all false
set_option maxRecDepth 100000
set_option maxHeartbeats 4000000
namespace Go.Wor
open Go.Ab Go.Proofs Tryz Go.Hy Go.Gat Go.Nam Go.Hos Go.Con Go.Sna
abbrev Cm(m:rH):C:=.agg (fO m)
def qe(w:Wor)(m:rH):Bool:=qf w && r5 m.zO w.pins.length && !m.done && r5 m.version w.zd.length && (match w.zd[m.version.toNat]? with
 |none=>false
 |some v=>r5 m.zn v.zg.length && (match v.zg[m.zn.toNat]? with
  |none=>false
  |some g=>r5 m.end_ g.ends.length && r5 m.other g.ends.length && (match g.ends[m.end_.toNat]? with
   |none=>false
   |some e=>r5 m.slot e.next.length) && (r5 (m.listen+1) (w.zc.length+1) && decide (0<=m.i) && decide (0<=m.k))))
def xw{i n:Int}:r5 i n=true↔0<=i/\i<n:=by unfold r5;simp
structure x5(w:Wor)(m:rH)(v:rL)(g:Gr)(e:En):Prop where
 world:qf w=true
 zO:0<=m.zO/\m.zO<w.pins.length
 done:m.done=false
 version:0<=m.version/\m.version<w.zd.length
 sC:w.zd[m.version.toNat]?=some v
 zn:0<=m.zn/\m.zn<v.zg.length
 sG:v.zg[m.zn.toNat]?=some g
 end_ : 0 <= m.end_ /\ m.end_<g.ends.length
 sJ:g.ends[m.end_.toNat]?=some e
 other:0<=m.other/\m.other<g.ends.length
 slot:0<=m.slot/\m.slot<e.next.length
 listen: -1<=m.listen/\m.listen<w.zc.length
 i:0<=m.i
 k:0<=m.k
def vY(w:Wor)(m:rH)(hw:so w)(hm:i64 m.listen):tc 216 [] [Cw w,Cm m] (Bo (qe w m)) []:=by
 have m1:(w.pins.map encI).length=w.pins.length:=cY ..;have m2:(w.zd.map zw).length=w.zd.length:=cY ..;have m3:(w.zc.map z1).length=w.zc.length:=cY ..;have b3:=hw.zc.1;have el:IntKind.i64.wrap ((w.zc.length:Int)+1)=(w.zc.length:Int)+1:=z7 ah ah
 have el2:r5 (IntKind.i64.wrap (m.listen+1)) ((w.zc.length:Int)+1)=r5 (m.listen+1) ((w.zc.length:Int)+1):=by
  by_cases hh:m.listen<=9223372036854775806
  .rw[z7 (by have:=hm.1;omega) ah]
  .have h9:m.listen=9223372036854775807:=by have:=hm.2;omega
   rw[h9];have h10:IntKind.i64.wrap (9223372036854775807+1)= -9223372036854775808:=aq
   rw[h10];unfold r5;rw[show decide ((0:Int)<= -9223372036854775808)=false from V,show decide ((9223372036854775807:Int)+1<(w.zc.length:Int)+1)=false from aw];simp
 refine ab func216 ?_;refine af (kK w hw) ?_;refine⟨λh1=>?_,λh1=>?_⟩
 rotate_left
 ·(have e:qe w m=false:=by (unfold qe;(rw[h1]);simp));exact bW
 refine dd ?_;rw[m1];refine af (x9 m.zO w.pins.length) ?_;refine⟨λh2=>?_,λh2=>?_⟩
 rotate_left
 ·(have e:qe w m=false:=by (unfold qe;(rw[h2]);simp));exact bW
 refine dd ?_;refine⟨λh3=>?_,λh3=>?_⟩
 ·(have e:qe w m=false:=by (unfold qe;(rw[h3]);simp));exact bW
 refine dd ?_;rw[m2];refine af (x9 m.version w.zd.length) ?_;refine⟨λh4=>?_,λh4=>?_⟩
 rotate_left
 ·(have e:qe w m=false:=by (unfold qe;(rw[h4]);simp));exact bW
 obtain⟨c0,c1⟩:=xw.1 h4;have hv:w.zd[m.version.toNat]?=some (w.zd[m.version.toNat]'ah):=cV _;generalize w.zd[m.version.toNat]'ah=v at hv;have gv:(w.zd.map zw)[m.version.toNat]?=some (zw v):=by rw[cX,hv];rfl
 have m4:(v.zg.map zM).length=v.zg.length:=cY ..
 have g0:qe w m=(r5 m.zn v.zg.length && (match v.zg[m.zn.toNat]? with
  |none=>false
  |some g=>r5 m.end_ g.ends.length && r5 m.other g.ends.length && (match g.ends[m.end_.toNat]? with
   |none=>false
   |some e=>r5 m.slot e.next.length) && (r5 (m.listen+1) (w.zc.length+1) && decide (0<=m.i) && decide (0<=m.k)))):=by
  unfold qe;rw[h1,h2,h3,h4,hv]
  rfl
 rw[g0];refine zab ?_
 refine⟨c0,_,gv,dd ?_⟩;rw[m4];refine af (x9 m.zn v.zg.length) ?_;refine⟨λh5=>?_,λh5=>?_⟩
 rotate_left
 .rw[h5];refine zab ?_
  exact uI
 obtain⟨c2,c3⟩:=xw.1 h5;have hg:v.zg[m.zn.toNat]?=some (v.zg[m.zn.toNat]'ah):=cV _;generalize v.zg[m.zn.toNat]'ah=g at hg;have gg:(v.zg.map zM)[m.zn.toNat]?=some (zM g):=by rw[cX,hg];rfl
 have m5:(g.ends.map zP).length=g.ends.length:=cY ..;rw[h5,hg];dsimp only;refine zab ?_
 refine⟨c2,_,gg,dd ?_⟩;refine uE ?_;rw[m5];refine af (x9 m.end_ g.ends.length) ?_;refine⟨λh6=>?_,λh6=>?_⟩
 rotate_left
 .rw[h6];refine zab ?_
  exact uI
 obtain⟨c4,c5⟩:=xw.1 h6;have he:g.ends[m.end_.toNat]?=some (g.ends[m.end_.toNat]'ah):=cV _;generalize g.ends[m.end_.toNat]'ah=e at he;have ge:(g.ends.map zP)[m.end_.toNat]?=some (zP e):=by rw[cX,he];rfl
 have m6:(e.next.map encI).length=e.next.length:=cY ..;rw[h6,he];dsimp only;refine dd ?_;rw[m5];refine af (x9 m.other g.ends.length) ?_;refine⟨λh7=>?_,λh7=>?_⟩
 rotate_left
 .rw[h7];refine zab ?_
  exact uI
 rw[h7];refine dd ?_;refine⟨c4,_,ge,dd ?_⟩;rw[m6];refine af (x9 m.slot e.next.length) ?_;refine⟨λh8=>?_,λh8=>?_⟩
 rotate_left
 .rw[h8];refine zab ?_
  exact uI
 rw[h8];refine zab ?_
 rw[m3,el];have hin:=x9 (IntKind.i64.wrap (m.listen+1)) ((w.zc.length:Int)+1);rw[el2]at hin;refine af hin ?_;refine⟨λh9=>?_,λh9=>?_⟩
 rotate_left
 .rw[h9];refine zab ?_
  exact uI
 rw[h9];refine dd ?_;refine⟨λh10=>?_,λh10=>?_⟩
 rotate_left
 .refine zab ?_
  (exact⟨.inl V,_,.refl _,uN (by symm;simp at h10|-;omega)⟩)
 refine dd ?_;refine⟨λh11=>?_,λh11=>?_⟩
 .refine zab ?_
  (exact⟨.inl V,_,.refl _,uN (by symm;simp at h10 h11|-;omega)⟩)
 .refine zab ?_
  (exact⟨.inl V,_,.refl _,uN (by symm;simp at h10 h11|-;omega)⟩)
end Go.Wor
namespace Go.Ab
def xj{H:zf}{id i:Nat}{ob:Ob}(h:(jg H id)[i]?=some ob)(hk:ob.kind=4):H[i]?=some ob:=by
 rw[jZ]at h;cases hx:H[i]? with
 |none=>rw[hx]at h;cases h
 |some o=>
  rw[hx]at h;simp only[dc,dj]at h;split at h
  .subst h;cases hk
  .rw[h]
def zm.forget{B:Nat}{s:S}(id:Nat):zm B s ⟨s.tmps,jg s.H id⟩:=λm w E a hs=>by
 have hg:∀{i b},zT E (jg s.H id) i b->zT E s.H i b:=λ⟨ob,cap,h1,h2,h3,h4⟩=>⟨ob,cap,xj h1 h2,h2,h3,h4⟩
 have hr:∀{i b},qo (jg s.H id) i b->qo s.H i b:=λ⟨ob,o,t,h1,h2,h3,h4⟩=>⟨ob,o,t,xj h1 h2,h2,h3,h4⟩
 have h0:∀{b},qc E (jg s.H id) b->qc E s.H b:=λ⟨i,p,x,h1,h2⟩=>⟨i,p,x,(jR h1).2,h2⟩
 refine⟨E,⟨⟨hs.heap.base.kill id,?_⟩,hs.tmps,hs.defers,by have:=hs.base;simp[jg];omega⟩,⟨Env.tt.refl B E,rfl,rfl,rfl,de _,λ_ _ _=>V,λ_ _ _ h=>.inl h,?_⟩⟩
 .exact {
   val:=λi ob h1 h2=>hs.heap.rI.val i ob (xj h1 h2) h2
   rM:=λi b ob h1 h2=>hs.heap.rI.rM i b ob (hg h1) (by obtain⟨ob2,_,h3,h4,_⟩:=h1;rw[h2]at h3;cases h3;exact xj h2 h4)
   sep:=λi b h1 h2=>hs.heap.rI.sep i b (hg h1) (h0 h2)
   inj:=λi j b h1 h2=>hs.heap.rI.inj i j b (hg h1) (hg h2)
   st:=λi b ob o u h1 h2 h3=>hs.heap.rI.st i b ob o u (hg h1) (by obtain⟨ob2,_,h4,h5,_⟩:=h1;rw[h2]at h4;cases h4;exact xj h2 h5) h3
   top:=λi ob k u h1 h2 h3=>hs.heap.rI.top i ob k u (xj h1 h2) h2 h3
   sa:=λi ob o t h1 h2 h3=>hs.heap.rI.sa i ob o t (xj h1 h2) h2 h3
   yq:=λi j b h1 h2=>hs.heap.rI.yq i j b (hr h1) (hr h2)}
 .rintro b (hb|⟨i,hb|hb⟩)
  .exact .inr (.inl (h0 hb))
  .exact .inr (.inr ⟨i,.inl (hg hb)⟩)
  .exact .inr (.inr ⟨i,.inr (hr hb)⟩)
end Go.Ab
namespace Go.Wor
open Go.Ab Go.Proofs Tryz Go.Hy Go.Gat Go.Nam Go.Hos Go.Con Go.Sna
variable{P:Program}{f:FuncId}{fn:Func}{c:Code}{args:List C}{r:C}
abbrev Ce(e:rV):C:=.agg (nD e)
abbrev wN:r3:=⟨0,0,0,0,0,0,0,⟨0,0,0,0,0,0⟩⟩
abbrev yA:rV:=⟨0,0,0,0,0,false,0,false,false,false,wN⟩
abbrev JK(n:Int):rV:=⟨0,0,1,1,0,false,n,false,false,false,wN⟩
def q8{H H2:zf}(hf:P.funcs[f]?=some fn)(hb:fn.body=some c)(hle:H.length<=H2.length)
 (h:wpA P H.length c (entry fn args) H λex t1 H1=>(ex=.ret\/ex=.normal)/\∃s2 r1,zm H.length ⟨t1,H1⟩ s2/\yJ P fn s2=some r1/\zm H.length ⟨[r1],s2.H⟩ ⟨[r],H2⟩):zb P f H args r H2:=λw E vs hh hl0=>by
 have h1:ql P f H args λr1 H1=>zm H.length ⟨[r1],H1⟩ ⟨[r],H2⟩:=ql.zJ hf hb h
 refine(h1 w E vs hh hl0).mono ?_;rintro e w' ⟨r1,H1,v,E',hw,h0,h2,h3,g⟩;have hHH:H.length<=H1.length:=by rw[<-hh.n,<-h2.n];exact g.le.n
 obtain⟨E2,hs,g2⟩:=hw 0 w' E' ⟨#[v],[]⟩ ⟨h2,LL.one h3,dA _,hHH⟩;have hn2:=hs.heap.n;refine⟨v,E2,h0,hs.heap,hs.tmps.cons_inv.1,⟨⟨by rw[hh.n,hn2];exact hle,λid hops hi=>?_,λid hops hi=>?_,λb o u hu=>g2.le.St _ _ _ (g.le.St _ _ _ hu),λid k u hi hu=>?_⟩,g2.os.trans g.os,g2.tape.trans g.tape,g2.output.trans g.output,dK g.size g2.size,?_,?_,?_⟩⟩
 .rw[hh.n]at hi;exact(g2.le.β id hops hi).trans (g.le.β id hops bN)
 .rw[hh.n]at hi;exact(g2.le.κ id hops hi).trans (g.le.κ id hops bN)
 .rw[hh.n]at hi;exact g2.le.G id k u hi (g.le.G id k u bN hu)
 .intro k hk ho;exact cH
 .intro b o u hu;rcases g2.qB b o u hu with h1|h1|h1
  .exact g.qB b o u h1
  .exact .inr (.inl (dK g.size h1))
  .rcases g.own b h1 with h4|h4
   .exact .inr (.inl h4)
   .exact .inr (.inr h4)
 .intro b hb;rcases g2.own b hb with h1|h1
  .exact .inl (dK g.size h1)
  .exact g.own b h1
def aa{H H2:zf}{zQ:Prop}(hf:P.funcs[f]?=some fn)(z0:zQ)(hb:fn.body=some c:=by exact V)(hle:H.length<=H2.length:=by exact de _)(ze:zQ->wpA P H.length c (entry fn args) H λex t1 H1=>(ex=.ret\/ex=.normal)/\∃s2 r1,zm H.length ⟨t1,H1⟩ s2/\yJ P fn s2=some r1/\zm H.length ⟨[r1],s2.H⟩ ⟨[r],H2⟩:=by intro zh;(conv=>whnf);exact zh):zb P f H args r H2:=q8 hf hb hle (ze z0)
abbrev ti:List C:=sF
abbrev DZ:List C:=[I 0,Tx [],Tx [],Tx [],I 0,I 0,I 0,.rG 1 0 [],.rG 1 0 [],.rG 1 0 []]
abbrev th:List C:=DZ++[I 0,I 0,I 0,I 0,I 0,I 0,I 0,I 0,I 0,U 0,I 0,I 0,I 0,I 0,Bo false]++xy wN++iS ⟨0,0,0,0,0,0⟩
def zb.ig(hf:P.funcs[f]?=some fn)(hb:fn.body=some c)
 (h:qb P 0 c ⟨entry fn args,[]⟩ λex s=>(ex=.ret\/ex=.normal)/\∃s2,zm 0 s s2/\(yJ P fn s2).map (jL 0 9)=some r):zb P f [] args r []:=by
 refine ql.na (ql.ye (H:=[]) hf hb (h.mono λex s1 ⟨hex,s2,hw,h2⟩=>?_));cases h3:yJ P fn s2 with
 |none=>rw[h3]at h2;cases h2
 |some r0=>
  rw[h3]at h2;cases h2
  exact⟨hex,s2,r0,hw,h3,rfl⟩
abbrev I0(m:rH)(e:rV):rV:={e with zO:=m.zO,version:= -1}
abbrev Ch(w:Wor)(t:Nat)(n:Int):Wor:={w with pins:=w.pins.set t n}
abbrev J5(m:rH):rV:=I0 m ⟨0,0,2,2,0,false,0,false,false,false,wN⟩
structure JE(w:Wor)(m:rH)(r:List Int)(n:Int):Prop where
 i0:0<=m.i
 at_:w.counts[m.i.toNat]?=some r
 k0:0<=m.k
 k6:m.k<6
 row:r[m.k.toNat]?=some n
end Go.Wor
