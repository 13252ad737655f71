import Derived.Test.YtamgiodaflkbhaaGreatTU
set_option linter.all false
set_option maxRecDepth 100000
set_option maxHeartbeats 4000000
namespace Go.Wor
open Go.Ab Go.Proofs Tryz Go.Hy Go.Gat Go.Nam Go.Hos Go.Con Go.Sna
abbrev Cm(m:eQ):C:=.agg (lp m)
def zE(w:Wor)(m:eQ):Bool:=jW w && fS m.zl w.pins.length && !m.done && fS m.version w.zd.length && (match w.zd[m.version.toNat]? with
 |none=>false
 |some v=>fS m.zp v.zg.length && (match v.zg[m.zp.toNat]? with
  |none=>false
  |some g=>fS m.end_ g.ends.length && fS m.other g.ends.length && (match g.ends[m.end_.toNat]? with
   |none=>false
   |some e=>fS m.slot e.next.length) && (fS (m.listen+1) (w.zc.length+1) && decide (0<=m.i) && decide (0<=m.k))))
def ym{i n:Int}:fS i n=true↔0<=i/\i<n:=by unfold fS;simp
structure jN(w:Wor)(m:eQ)(v:eX)(g:Gr)(e:En):Prop where
 world:jW w=true
 zl:0<=m.zl/\m.zl<w.pins.length
 done:m.done=false
 version:0<=m.version/\m.version<w.zd.length
 fR:w.zd[m.version.toNat]?=some v
 zp:0<=m.zp/\m.zp<v.zg.length
 fV:v.zg[m.zp.toNat]?=some g
 end_ : 0 <= m.end_ /\ m.end_<g.ends.length
 ig:g.ends[m.end_.toNat]?=some e
 other:0<=m.other/\m.other<g.ends.length
 slot:0<=m.slot/\m.slot<e.next.length
 listen: -1<=m.listen/\m.listen<w.zc.length
 i:0<=m.i
 k:0<=m.k
def vU{w:Wor}{m:eQ}(h:zE w m=true):∃v g e,jN w m v g e:=by
 unfold zE at h;simp only[gY,pS,ym]at h;obtain⟨⟨⟨⟨h1,h2⟩,h3⟩,h4⟩,h5⟩:=h;split at h5
 .cases h5
 rename_i v hv;simp only[gY,ym]at h5;obtain⟨h5,h6⟩:=h5;split at h6
 .cases h6
 rename_i g hg;simp only[gY,ym,pE]at h6;obtain⟨⟨⟨h6,h7⟩,h8⟩,⟨h9,h10⟩,h11⟩:=h6;split at h8
 .cases h8
 rename_i e he;simp only[ym]at h8;exact⟨v,g,e,h1,h2,h3,h4,hv,h5,hg,h6,he,h7,h8,an,h10,h11⟩
def zP(w:Wor)(m:eQ)(hw:fa w)(hm:i64 m.listen):th 171 [] [Cw w,Cm m] (Bo (zE w m)) []:=by
 have m1:(w.pins.map encI).length=w.pins.length:=gO ..;have m2:(w.zd.map zt).length=w.zd.length:=gO ..;have m3:(w.zc.map zU).length=w.zc.length:=gO ..;have b3:=hw.zc.1;have el:IntKind.i64.wrap ((w.zc.length:Int)+1)=(w.zc.length:Int)+1:=jB an an
 have el2:fS (IntKind.i64.wrap (m.listen+1)) ((w.zc.length:Int)+1)=fS (m.listen+1) ((w.zc.length:Int)+1):=by
  by_cases hh:m.listen<=9223372036854775806
  .rw[jB (by have:=hm.1;omega) an]
  .have h9:m.listen=9223372036854775807:=by have:=hm.2;omega
   rw[h9];have h10:IntKind.i64.wrap (9223372036854775807+1)= -9223372036854775808:=aj
   rw[h10];unfold fS;rw[show decide ((0:Int)<= -9223372036854775808)=false from V,show decide ((9223372036854775807:Int)+1<(w.zc.length:Int)+1)=false from ar];simp
 refine ab func171 ?_;refine af (OQ w hw) ?_;refine⟨λh1=>?_,λh1=>?_⟩
 rotate_left
 ·(have e:zE w m=false:=by (unfold zE;(rw[h1]);simp));exact dc
 refine dd ?_;rw[m1];refine af (wu m.zl w.pins.length) ?_;refine⟨λh2=>?_,λh2=>?_⟩
 rotate_left
 ·(have e:zE w m=false:=by (unfold zE;(rw[h2]);simp));exact dc
 refine dd ?_;refine⟨λh3=>?_,λh3=>?_⟩
 ·(have e:zE w m=false:=by (unfold zE;(rw[h3]);simp));exact dc
 refine dd ?_;rw[m2];refine af (wu m.version w.zd.length) ?_;refine⟨λh4=>?_,λh4=>?_⟩
 rotate_left
 ·(have e:zE w m=false:=by (unfold zE;(rw[h4]);simp));exact dc
 obtain⟨c0,c1⟩:=ym.1 h4;have hv:w.zd[m.version.toNat]?=some (w.zd[m.version.toNat]'an):=gL _;generalize w.zd[m.version.toNat]'an=v at hv;have gv:(w.zd.map zt)[m.version.toNat]?=some (zt v):=by rw[gM,hv];rfl
 have m4:(v.zg.map zy).length=v.zg.length:=gO ..
 have g0:zE w m=(fS m.zp v.zg.length && (match v.zg[m.zp.toNat]? with
  |none=>false
  |some g=>fS m.end_ g.ends.length && fS m.other g.ends.length && (match g.ends[m.end_.toNat]? with
   |none=>false
   |some e=>fS m.slot e.next.length) && (fS (m.listen+1) (w.zc.length+1) && decide (0<=m.i) && decide (0<=m.k)))):=by
  unfold zE;rw[h1,h2,h3,h4,hv]
  rfl
 rw[g0];refine zac ?_
 refine⟨c0,_,gv,dd ?_⟩;rw[m4];refine af (wu m.zp v.zg.length) ?_;refine⟨λh5=>?_,λh5=>?_⟩
 rotate_left
 .rw[h5];refine zac ?_
  exact uI
 obtain⟨c2,c3⟩:=ym.1 h5;have hg:v.zg[m.zp.toNat]?=some (v.zg[m.zp.toNat]'an):=gL _;generalize v.zg[m.zp.toNat]'an=g at hg;have gg:(v.zg.map zy)[m.zp.toNat]?=some (zy g):=by rw[gM,hg];rfl
 have m5:(g.ends.map zu).length=g.ends.length:=gO ..;rw[h5,hg];dsimp only;refine zac ?_
 refine⟨c2,_,gg,dd ?_⟩;refine uE ?_;rw[m5];refine af (wu m.end_ g.ends.length) ?_;refine⟨λh6=>?_,λh6=>?_⟩
 rotate_left
 .rw[h6];refine zac ?_
  exact uI
 obtain⟨c4,c5⟩:=ym.1 h6;have he:g.ends[m.end_.toNat]?=some (g.ends[m.end_.toNat]'an):=gL _;generalize g.ends[m.end_.toNat]'an=e at he;have ge:(g.ends.map zu)[m.end_.toNat]?=some (zu e):=by rw[gM,he];rfl
 have m6:(e.next.map encI).length=e.next.length:=gO ..;rw[h6,he];dsimp only;refine dd ?_;rw[m5];refine af (wu m.other g.ends.length) ?_;refine⟨λh7=>?_,λh7=>?_⟩
 rotate_left
 .rw[h7];refine zac ?_
  exact uI
 rw[h7];refine dd ?_;refine⟨c4,_,ge,dd ?_⟩;rw[m6];refine af (wu m.slot e.next.length) ?_;refine⟨λh8=>?_,λh8=>?_⟩
 rotate_left
 .rw[h8];refine zac ?_
  exact uI
 rw[h8];refine zac ?_
 rw[m3,el];have hin:=wu (IntKind.i64.wrap (m.listen+1)) ((w.zc.length:Int)+1);rw[el2]at hin;refine af hin ?_;refine⟨λh9=>?_,λh9=>?_⟩
 rotate_left
 .rw[h9];refine zac ?_
  exact uI
 rw[h9];refine dd ?_;refine⟨λh10=>?_,λh10=>?_⟩
 rotate_left
 .refine zac ?_
  (exact⟨.inl V,_,.refl _,uN (by symm;simp at h10|-;omega)⟩)
 refine dd ?_;refine⟨λh11=>?_,λh11=>?_⟩
 .refine zac ?_
  (exact⟨.inl V,_,.refl _,uN (by symm;simp at h10 h11|-;omega)⟩)
 .refine zac ?_
  (exact⟨.inl V,_,.refl _,uN (by symm;simp at h10 h11|-;omega)⟩)
end Go.Wor
namespace Go.Ab
def vL{H:zq}{id i:Nat}{ob:Ob}(h:(jS H id)[i]?=some ob)(hk:ob.kind=4):H[i]?=some ob:=by
 rw[yC]at h;cases hx:H[i]? with
 |none=>rw[hx]at h;cases h
 |some o=>
  rw[hx]at h;simp only[g9,pG]at h;split at h
  .subst h;cases hk
  .rw[h]
def zk.forget{B:Nat}{s:S}(id:Nat):zk B s ⟨s.tmps,jS s.H id⟩:=λm w E a hs=>by
 have hg:∀{i b},qD E (jS s.H id) i b->qD E s.H i b:=λ⟨ob,cap,h1,h2,h3,h4⟩=>⟨ob,cap,vL h1 h2,h2,h3,h4⟩
 have hr:∀{i b},ju (jS s.H id) i b->ju s.H i b:=λ⟨ob,o,t,h1,h2,h3,h4⟩=>⟨ob,o,t,vL h1 h2,h2,h3,h4⟩
 have h0:∀{b},qY E (jS s.H id) b->qY E s.H b:=λ⟨i,p,x,h1,h2⟩=>⟨i,p,x,(yT h1).2,h2⟩
 refine⟨E,⟨⟨hs.heap.base.kill id,?_⟩,hs.tmps,hs.defers,by have:=hs.base;simp[jS];omega⟩,⟨Env.nA.refl B E,rfl,rfl,rfl,pj _,λ_ _ _=>V,λ_ _ _ h=>.inl h,?_⟩⟩
 .exact {
   val:=λi ob h1 h2=>hs.heap.eS.val i ob (vL h1 h2) h2
   fb:=λi b ob h1 h2=>hs.heap.eS.fb i b ob (hg h1) (by obtain⟨ob2,_,h3,h4,_⟩:=h1;rw[h2]at h3;cases h3;exact vL h2 h4)
   sep:=λi b h1 h2=>hs.heap.eS.sep i b (hg h1) (h0 h2)
   inj:=λi j b h1 h2=>hs.heap.eS.inj i j b (hg h1) (hg h2)
   st:=λi b ob o u h1 h2 h3=>hs.heap.eS.st i b ob o u (hg h1) (by obtain⟨ob2,_,h4,h5,_⟩:=h1;rw[h2]at h4;cases h4;exact vL h2 h5) h3
   top:=λi ob k u h1 h2 h3=>hs.heap.eS.top i ob k u (vL h1 h2) h2 h3
   ic:=λi ob o t h1 h2 h3=>hs.heap.eS.ic i ob o t (vL h1 h2) h2 h3
   wJ:=λi j b h1 h2=>hs.heap.eS.wJ i j b (hr h1) (hr h2)}
 .rintro b (hb|⟨i,hb|hb⟩)
  .exact .inr (.inl (h0 hb))
  .exact .inr (.inr ⟨i,.inl (hg hb)⟩)
  .exact .inr (.inr ⟨i,.inr (hr hb)⟩)
end Go.Ab
namespace Go.Wor
open Go.Ab Go.Proofs Tryz Go.Hy Go.Gat Go.Nam Go.Hos Go.Con Go.Sna
variable{P:Program}{f:FuncId}{fn:Func}{c:Code}{args:List C}{r:C}{w:Wor}{m:eQ}
abbrev Ce(e:e7):C:=.agg (jY e)
abbrev kk:fe:=⟨0,0,0,0,0,0,0,⟨0,0,0,0,0,0⟩⟩
abbrev zY:e7:=⟨0,0,0,0,0,false,0,false,false,false,kk⟩
abbrev nz(n:Int):e7:=⟨0,0,1,1,0,false,n,false,false,false,kk⟩
def W0(r:C)(H':zq):Prop:=∃(b:Nat) (v0 v1 v2:Value),r=.v (.map (some b))/\H'=[Bc b [(0,v0,0),(1,v1,1),(2,v2,2)] 3 [.agg [.fn 250 [] []],.agg [.fn 252 [] []],.agg [.fn 253 [] []]]]
def Qz:qz prog 206 [] [] W0:=by
 refine qz.zZ (fn:=f206) func206 V (uH ?_);intro b;refine zcf ?_;intro v0;refine zcf ?_;intro v1;refine zcf ?_;intro v2;refine dd ?_;exact⟨.inl V,_,_,.refl _,rfl,b,v0,v1,v2,rfl,rfl⟩
def qa{H H2:zq}(hf:P.funcs[f]?=some fn)(hb:fn.body=some c)(hle:H.length<=H2.length)
 (h:wpA P H.length c (entry fn args) H λex t1 H1=>(ex=.ret\/ex=.normal)/\∃s2 r1,zk H.length ⟨t1,H1⟩ s2/\vP P fn s2=some r1/\zk H.length ⟨[r1],s2.H⟩ ⟨[r],H2⟩):zb P f H args r H2:=λw E vs hh hl0=>by
 have h1:qz P f H args λr1 H1=>zk H.length ⟨[r1],H1⟩ ⟨[r],H2⟩:=qz.zZ hf hb h
 refine(h1 w E vs hh hl0).mono ?_;rintro e w' ⟨r1,H1,v,E',hw,h0,h2,h3,g⟩;have hHH:H.length<=H1.length:=bH
 obtain⟨E2,hs,g2⟩:=hw 0 w' E' ⟨#[v],[]⟩ ⟨h2,LL.one h3,pC _,hHH⟩;have hn2:=hs.heap.n;refine⟨v,E2,h0,hs.heap,hs.tmps.cons_inv.1,⟨⟨by rw[hh.n,hn2];exact hle,λid hops hi=>?_,λid hops hi=>?_,λb o u hu=>g2.le.St _ _ _ (g.le.St _ _ _ hu),λid k u hi hu=>?_⟩,g2.os.trans g.os,g2.tape.trans g.tape,g2.output.trans g.output,ru g.size g2.size,?_,?_,?_⟩⟩
 .rw[hh.n]at hi;exact(g2.le.β id hops hi).trans (g.le.β id hops hZ)
 .rw[hh.n]at hi;exact(g2.le.κ id hops hi).trans (g.le.κ id hops hZ)
 .rw[hh.n]at hi;exact g2.le.G id k u hi (g.le.G id k u hZ hu)
 .intro k hk ho;exact di
 .intro b o u hu;rcases g2.jx b o u hu with h1|h1|h1
  .exact g.jx b o u h1
  .exact gD
  .rcases g.own b h1 with h4|h4
   .exact .inr (.inl h4)
   .exact .inr (.inr h4)
 .intro b hb;rcases g2.own b hb with h1|h1
  .exact gJ
  .exact g.own b h1
def aa{H H2:zq}{zQ:Prop}(hf:P.funcs[f]?=some fn)(z0:zQ)(hb:fn.body=some c:=by exact V)(hle:H.length<=H2.length:=by exact pj _)(ze:zQ->wpA P H.length c (entry fn args) H λex t1 H1=>(ex=.ret\/ex=.normal)/\∃s2 r1,zk H.length ⟨t1,H1⟩ s2/\vP P fn s2=some r1/\zk H.length ⟨[r1],s2.H⟩ ⟨[r],H2⟩:=by intro zh;(conv=>whnf);exact zh):zb P f H args r H2:=qa hf hb hle (ze z0)
def Fp(w:Wor)(m:eQ):th 251 [oW w,oM m] [.ref 0 [] 8 0 0] (Ce (nz w.zr)) [oW w,oM m]:=by
 refine aa func251 ?_;exact cX
def UF(w:Wor)(m:eQ):th 250 [oW w,oM m] tg (Ce (nz w.zr)) [oW w,oM ({m with zr:=w.zr,pc:=1})]:=by
 refine aa func250 ?_;refine ae [0,1] (Fp w {m with zr:=w.zr,pc:=1}) ?_;exact cX
def UG(w:Wor)(m:eQ)(h0:0<=m.zl)(h1:m.zl<w.pins.length):th 252 [⟨1,38,8,[[I w.zr,I w.current,I w.lock,.sl 2 [] 1 0 w.pins.length false,lV w.zd,lL w.zc,ff w.counts,lR w.zn]],0⟩,oM m,⟨2,3,1,(w.pins).map encI,0⟩] tg (Ce ⟨0,0,2,2,0,false,IntKind.i64.wrap (m.zr+1),false,false,false,kk⟩) [⟨1,38,8,[[I w.zr,I w.current,I w.lock,.sl 2 [] 1 0 w.pins.length false,lV w.zd,lL w.zc,ff w.counts,lR w.zn]],0⟩,oM ({m with pc:=2}),⟨2,3,1,(w.pins.set m.zl.toNat (IntKind.i64.wrap (m.zr+1))).map encI,0⟩]:=by
 have hs:(w.pins.map encI).set m.zl.toNat [I (IntKind.i64.wrap (m.zr+1))]=(w.pins.set m.zl.toNat (IntKind.i64.wrap (m.zr+1))).map encI:=bE
 rw[<-hs];have e1:0+m.zl.toNat=m.zl.toNat:=gZ _;have hg:(w.pins.map encI)[m.zl.toNat]?=some (encI (w.pins[m.zl.toNat]'an)):=by rw[gM,gL an];rfl
 refine aa func252 ?_;refine uE ?_;refine⟨h0,an,dd ?_⟩;rw[e1];refine⟨_,hg,rfl,dd ?_⟩;exact⟨.inl V,_,_,.refl _,rfl,cE 3⟩
def UH(w:Wor)(m:eQ):th 253 [oW w,oM m] tg (Ce (nz w.zr)) [oW w,oM ({m with zr:=w.zr,pc:=if w.zr=m.zr then 3 else 1})]:=by
 refine aa func253 ?_;refine uE ?_;refine⟨λh=>?_,λh=>?_⟩
 .conv=>whnf
  rw[gS (gQ h)];refine ae [0,1] (Fp w {m with zr:=w.zr,pc:=3}) ?_;exact cX
 .conv=>whnf
  rw[gP (gR h)];refine ae [0,1] (Fp w {m with zr:=w.zr,pc:=1}) ?_;exact cX
abbrev MU:List C:=[.fn 250 [] []]
abbrev MV:List C:=[.fn 252 [] []]
abbrev MW:List C:=[.fn 253 [] []]
abbrev fX:List C:=fB
abbrev Nr:List C:=[I 0,Tx [],Tx [],Tx [],I 0,I 0,I 0,.eM 1 0 [],.eM 1 0 [],.eM 1 0 []]
abbrev fW:List C:=Nr++[I 0,I 0,I 0,I 0,I 0,I 0,I 0,I 0,I 0,U 0,I 0,I 0,I 0,I 0,Bo false]++jr kk++oX ⟨0,0,0,0,0,0⟩
def JE(sel:List Nat){K H0:zq}{args0:List C}{R:C->zq->Prop}(h:qz P f H0 args0 R)(hR:∀r H',R r H'->qQ H'=true)
 (hH:xv sel K=H0)(ha:args.map (jK sel 9)=args0)(qc:sel.all (λid=>Nat.blt id K.length)=true)(fN:yk sel=true)(fI:qQ K=true){k:C->zq->Prop}
 (hk:∀r H',R r H'->Ai (wz sel K H') λX=>qK (yG (q6 sel K.length) 9 r) λc=>k c X):∃R',qz P f K args R'/\∀r H2,R' r H2->k r H2:=
 ⟨_,h.part sel hR hH ha qc fN fI,λr H2 ⟨r0,H',h1,h2,h3⟩=>by subst h2 h3;exact zX (kh (k:=λX=>qK (yG (q6 sel K.length) 9 r0) λc=>k c X) (hk r0 H' h1))⟩
def zb.vZ(hf:P.funcs[f]?=some fn)(hb:fn.body=some c)
 (h:qW P 0 c ⟨entry fn args,[]⟩ λex s=>(ex=.ret\/ex=.normal)/\∃s2,zk 0 s s2/\(vP P fn s2).map (xG 0 9)=some r):zb P f [] args r []:=by
 refine qz.GC (qz.kz (H:=[]) hf hb (h.mono λex s1 ⟨hex,s2,hw,h2⟩=>?_));cases h3:vP P fn s2 with
 |none=>rw[h3]at h2;cases h2
 |some r0=>
  rw[h3]at h2;cases h2
  exact⟨hex,s2,r0,hw,h3,rfl⟩
def Bn(w:Wor)(m:eQ)(j f:Nat)(R:Exit->S->Prop)(hf:∀v0 v1 v2,vA [(0,v0,0),(1,v1,1),(2,v2,2)] m.pc=some j)(hc:[C.agg MU,.agg MV,.agg MW][j]?=some (.agg [.fn f [] []]))
 (hn:qW prog 0 (behind 2 ((f170.body).getD .skip)) ⟨(.za::.za::.ref 0 [] 8 0 0::.ref 1 [] 44 0 0::.ref 2 [] 8 0 0::.ref 3 [] 44 0 0::.ref 4 [] 23 0 0::.ref 5 [] 1 0 0::.v (.bool true)::mK (mK (mK ([.za,.za,.za,.za,.za,.za,.za])))),[oW w,oM m,⟨1,38,8,[fX],0⟩,⟨1,64,44,[fW],0⟩,oE zY,⟨1,255,1,[[.fn f [] []]],0⟩]⟩ R):qW prog 0 ((f170.body).getD .skip) ⟨entry f170 [Cw w,Cm m],[]⟩ R:=by
 refine iR (uH ?_);refine zbk ?_;refine .inr ⟨⟨[2],[1],false⟩,ak,λh=>absurd h aj,λt H=>qW prog 0 (behind 2 ((f170.body).getD .skip)) ⟨t,H⟩ R,uH ?_,λt2 H2 h=>.inl ⟨rfl,_,_,.refl _,h⟩⟩;(repeat' (first|(exact trivial)|(refine⟨λ_=>uH ?_,λh=>absurd h aj⟩)|(refine⟨λh=>absurd h aj,λ_=>uH ?_⟩)|(refine⟨(rfl:(_:zq)=_),uH ?_⟩)|(refine⟨(rfl:(_:Option Ob)=_),uH ?_⟩)|((refine JE [] Qz (λr H' ⟨b,v0,v1,v2,h1,h2⟩=>h2 ▸ rfl) V V V V V ?_;rintro _ _ ⟨b,v0,v1,v2,rfl,rfl⟩;(refine dd ?_)))|(refine⟨_,_,e6.Cy (id:=5) _ _ _ _ V V V V V V V V V (hf _ _ _) hc,?_⟩;(refine dd ?_))|(refine⟨_,_,e6.Cy (id:=6) _ _ _ _ V V V V V V V V V (hf _ _ _) hc,?_⟩;(refine dd ?_))|(refine And.intro ?_ ?_ <;> (conv=>whnf))))
 all_goals (first|exact⟨_,_,(zk.forget 5).trans ((zk.eZ [0,1,2,3,4,6] [2,3,4,5,6,7,8] _ _ V V V V).trans (cC)),hn⟩|exact⟨_,_,(zk.forget 6).trans ((zk.eZ [0,1,2,3,4,5] [2,3,4,5,6,7,8] _ _ V V V V).trans (cC)),hn⟩)
abbrev mN(m:eQ)(e:e7):e7:={e with zl:=m.zl,version:= -1}
def SK(w:Wor)(m:eQ)(sw:z6 w)(ok:fa w)(hl:i64 m.listen)(hpc:m.pc=0)(hs:zE w m=true):
  th 170 [] [Cw w,Cm m] (.eR [Cw w,Cm {m with zr:=w.zr,pc:=1},Ce (mN m (nz w.zr))]) []:=by
 refine zb.vZ func170 V (Bn w m 0 250 _ (λ_ _ _=>by rw[hpc];rfl) V ?_);(refine jd (K:=λex t H=>(ex=.ret\/ex=.normal)/\∃s2,zk 0 ⟨t,H⟩ s2/\(vP prog f170 s2).map (xG 0 9)=some (.eR [Cw w,Cm {m with zr:=w.zr,pc:=1},Ce (mN m (nz w.zr))])) (uH ?_))
 refine td ?_
 refine zbd ?_
 refine af (qx w sw) ?_;refine ae [0,1] (UF w m) ?_;refine .inl ⟨⟨false,[1,2],[1,6],[]⟩,ak,uH ?_⟩;refine tc ?_
 exact uI
def SM(w:Wor)(m:eQ)(sw:z6 w)(ok:fa w)(hl:i64 m.listen)(hpc:m.pc=2)(hs:zE w m=true):
  th 170 [] [Cw w,Cm m] (.eR [Cw w,Cm {m with zr:=w.zr,pc:=if w.zr=m.zr then 3 else 1},Ce (mN m (nz w.zr))]) []:=by
 refine zb.vZ func170 V (Bn w m 2 253 _ (λ_ _ _=>by rw[hpc];rfl) V ?_);(refine jd (K:=λex t H=>(ex=.ret\/ex=.normal)/\∃s2,zk 0 ⟨t,H⟩ s2/\(vP prog f170 s2).map (xG 0 9)=some (.eR [Cw w,Cm {m with zr:=w.zr,pc:=if w.zr=m.zr then 3 else 1},Ce (mN m (nz w.zr))])) (uH ?_))
 refine td ?_
 refine zbd ?_
 refine af (qx w sw) ?_;refine ae [0,1] (UH w m) ?_;refine .inl ⟨⟨false,[1,2],[1,6],[]⟩,ak,uH ?_⟩;refine tc ?_
 exact uI
def PQ(w:Wor)(m:eQ)(ok:fa w)(hl:i64 m.listen)(h0:0<=m.pc)(h3:m.pc<3)(hs:zE w m=false):
  th 170 [] [Cw w,Cm m] (.eR [Cw w,Cm m,Ce zY]) []:=by
 have tail:∀f,qW prog 0 (behind 2 ((f170.body).getD .skip)) ⟨(.za::.za::.ref 0 [] 8 0 0::.ref 1 [] 44 0 0::.ref 2 [] 8 0 0::.ref 3 [] 44 0 0::.ref 4 [] 23 0 0::.ref 5 [] 1 0 0::.v (.bool true)::mK (mK (mK ([.za,.za,.za,.za,.za,.za,.za])))),[oW w,oM m,⟨1,38,8,[fX],0⟩,⟨1,64,44,[fW],0⟩,oE zY,⟨1,255,1,[[.fn f [] []]],0⟩]⟩ (λex s=>(ex=.ret\/ex=.normal)/\∃s2,zk 0 s s2/\(vP prog f170 s2).map (xG 0 9)=some (.eR [Cw w,Cm m,Ce zY])):=λf=>by
  (refine jd (K:=λex t H=>(ex=.ret\/ex=.normal)/\∃s2,zk 0 ⟨t,H⟩ s2/\(vP prog f170 s2).map (xG 0 9)=some (.eR [Cw w,Cm m,Ce zY])) (uH ?_))
  refine td ?_
  refine af (zP w m ok hl) ?_;refine⟨λh=>absurd ((hs).symm.trans h:false=true) aj,λ_=>dd ?_⟩;refine td ?_
  refine zbN ?_
  exact uI
 rcases(by omega:m.pc=0\/m.pc=1\/m.pc=2) with hpc|hpc|hpc
 .exact zb.vZ func170 V (Bn w m 0 250 _ (λ_ _ _=>by rw[hpc];rfl) V (tail _))
 .exact zb.vZ func170 V (Bn w m 1 252 _ (λ_ _ _=>by rw[hpc];rfl) V (tail _))
 .exact zb.vZ func170 V (Bn w m 2 253 _ (λ_ _ _=>by rw[hpc];rfl) V (tail _))
abbrev lN(w:Wor)(t:Nat)(n:Int):Wor:={w with pins:=w.pins.set t n}
def SL(w:Wor)(m:eQ)(sw:z6 w)(ok:fa w)(hl:i64 m.listen)(hpc:m.pc=1)(hs:zE w m=true):
  th 170 [] [Cw w,Cm m] (.eR [Cw (lN w m.zl.toNat (IntKind.i64.wrap (m.zr+1))),Cm {m with pc:=2},Ce (mN m ⟨0,0,2,2,0,false,IntKind.i64.wrap (m.zr+1),false,false,false,kk⟩)]) []:=by
 obtain⟨v,g,e,su⟩:=vU hs
 obtain⟨x,l,hx⟩:∃x l,w.pins=x::l:=by
  cases h:w.pins with
  |nil=>have:=su.zl;rw[h]at this;exact dt
  |cons x l=>exact⟨x,l,rfl⟩
 refine zb.vZ func170 V (Bn w m 1 252 _ (λ_ _ _=>by rw[hpc];rfl) V ?_);(refine jd (K:=λex t H=>(ex=.ret\/ex=.normal)/\∃s2,zk 0 ⟨t,H⟩ s2/\(vP prog f170 s2).map (xG 0 9)=some (.eR [Cw (lN w m.zl.toNat (IntKind.i64.wrap (m.zr+1))),Cm {m with pc:=2},Ce (mN m ⟨0,0,2,2,0,false,IntKind.i64.wrap (m.zr+1),false,false,false,kk⟩)])) (uH ?_))
 refine td ?_
 refine zbd ?_
 refine ae [] (Iw w sw x l hx) ?_;refine ae [0,1,6] (UG w m su.zl.1 su.zl.2) ?_;refine .inl ⟨⟨false,[1,2],[1,7],[]⟩,ak,uH ?_⟩;refine tc ?_
 exact⟨.inl V,_,zk.zN 2 0 3 V V V V (.inr V) ah ah (shut_map (enc:=encI) (λ_=>V) _) (zB V),rfl⟩
abbrev AX(m:eQ):e7:=mN m ⟨0,0,2,2,0,false,0,false,false,false,kk⟩
def TG(w:Wor)(m:eQ)(sw:z6 w)(ok:fa w)(hl:i64 m.listen)(hs:zE w m=true):
  th 267 [] [Cw w,Cm m] (.eR [Cw (lN w m.zl.toNat 0),Ce (AX m)]) []:=by
 obtain⟨v,g,e,su⟩:=vU hs
 obtain⟨x,l,hx⟩:∃x l,w.pins=x::l:=by
  cases h:w.pins with
  |nil=>have:=su.zl;rw[h]at this;exact dt
  |cons x l=>exact⟨x,l,rfl⟩
 have e1:0+m.zl.toNat=m.zl.toNat:=gZ _;have h0:=su.zl.1;have h1:=su.zl.2;have hst:(w.pins.map encI).set m.zl.toNat [I 0]=(w.pins.set m.zl.toNat 0).map encI:=bE
 have hg:(w.pins.map encI)[m.zl.toNat]?=some (encI (w.pins[m.zl.toNat]'an)):=by rw[gM,gL an];rfl
 refine ab func267 ?_;refine zbd ?_
 refine ae [] (Iw w sw x l hx) ?_;refine⟨h0,an,dd ?_⟩;rw[e1];refine⟨_,hg,rfl,dd ?_⟩;rw[hst];refine .inl ⟨⟨false,[2],[1],[]⟩,ak,uH ?_⟩;refine tc ?_
 exact⟨.inl V,_,zk.zN 2 0 3 V V V V (.inr V) ah ah (shut_map (enc:=encI) (λ_=>V) _) (zB V),rfl⟩
def Aq(x:nT)(k n:Int):nT:=
 if k=0 then {x with c0:=IntKind.u64.wrap (x.c0+n)} else if k=1 then {x with c1:=IntKind.u64.wrap (x.c1+n)} else if k=2 then {x with c2:=IntKind.u64.wrap (x.c2+n)}
 else if k=3 then {x with c3:=IntKind.u64.wrap (x.c3+n)} else if k=4 then {x with c4:=IntKind.u64.wrap (x.c4+n)} else {x with c5:=IntKind.u64.wrap (x.c5+n)}
def SA(x:nT)(k n:Int)(h0:0<=k)(h6:k<6):th 193 [] [.agg (oX x),I k,U n] (.agg (oX (Aq x k n))) []:=by
 obtain⟨a,b,c,d,e,f⟩:=x;obtain rfl|rfl|rfl|rfl|rfl|rfl:k=0\/k=1\/k=2\/k=3\/k=4\/k=5:=an
 all_goals
  refine ab func193 ?_;(refine⟨aj,aj,dd ?_⟩);(refine⟨aj,aj,dd ?_⟩);exact uI
def vr(w:Wor)(m:eQ)(n:Int):eQ:=
 let m1:eQ:={m with counts:=Aq m.counts m.k n,k:=m.k+1}
 let m2:eQ:=if m.k+1=6 then {m1 with i:=m.i+1,k:=0} else m1
 if m2.i=w.counts.length then {m2 with done:=true,answer:=⟨13,0,0,0,0,0,0,m2.counts⟩} else m2
def AP(w:Wor)(m:eQ)(n:Int):e7:={zY with zl:=m.zl,access:=1,cell:=10,version:= -1,value:=m.k,done:=(vr w m n).done,answer:=if (vr w m n).done then (vr w m n).answer else kk}
structure HE(w:Wor)(m:eQ)(r:List Int)(n:Int):Prop where
 i0:0<=m.i
 at_:w.counts[m.i.toNat]?=some r
 k0:0<=m.k
 k6:m.k<6
 row:r[m.k.toNat]?=some n
abbrev Mb(m:eQ)(n:Int):eQ:={m with counts:=Aq m.counts m.k n,k:=m.k+1}
abbrev Mc(m:eQ)(n:Int):eQ:={m with counts:=Aq m.counts m.k n,k:=0,i:=m.i+1}
abbrev Md(m:eQ)(n:Int):eQ:={m with counts:=Aq m.counts m.k n,k:=0,i:=m.i+1,done:=true,answer:=⟨13,0,0,0,0,0,0,Aq m.counts m.k n⟩}
def BA{n:Int}(h:m.k+1≠6)(hi:m.i≠w.counts.length):vr w m n=Mb m n:=by
 unfold vr;dsimp only;rw[gP h];exact gP hi
def BB{n:Int}(h:m.k+1=6)(hi:m.i+1≠w.counts.length):vr w m n=Mc m n:=by
 unfold vr;dsimp only;rw[gS h];exact gP hi
def BC{n:Int}(h:m.k+1=6)(hi:m.i+1=w.counts.length):vr w m n=Md m n:=by
 unfold vr;dsimp only;rw[gS h];exact gS hi
abbrev CO(m:eQ):e7:={zY with zl:=m.zl,access:=1,cell:=10,version:= -1,value:=m.k}
def DM{n:Int}(h:(vr w m n).done=false):AP w m n=CO m:=by
 unfold AP;rw[h]
 rfl
def Ky{n:Int}(h:(vr w m n).done=true):AP w m n={CO m with done:=true,answer:=(vr w m n).answer}:=by
 unfold AP;rw[h]
 rfl
def Qy(w:Wor)(m:eQ)(r:List Int)(n:Int)(sw:z6 w)(ok:fa w)(hl:i64 m.listen)(hpc:m.pc=0)(hs:zE w m=true)(hd:m.done=false)(hc:HE w m r n)(ha:m.answer=kk):
  th 142 [] [Cw w,Cm m] (.eR [Cw w,Cm (vr w m n),Ce (AP w m n)]) []:=by
 have i0:=hc.i0;have k0:=hc.k0;have hi:m.i.toNat<w.counts.length:=(gN.1 hc.at_).1;have ml:(w.counts.map zA).length=w.counts.length:=gO ..;have cr:(w.counts.map zA)[m.i.toNat]?=some (zA r):=by rw[gM,hc.at_];rfl
 have cn:(r.map qB)[m.k.toNat]?=some (qB n):=by rw[gM,hc.row];rfl
 refine ab func142 ?_;refine⟨λh=>absurd h (by simp[hpc]),λ_=>dd ?_⟩;refine⟨λh=>absurd h (by have:=hc.k6;simp;omega),λ_=>dd ?_⟩;rw[ml];refine zbv ?_;refine zbd ?_
 refine .inl ⟨⟨true,[],[],[14]⟩,ak,uH ?_⟩;(refine⟨i0,_,cr,dd ?_⟩)
 (refine⟨k0,_,cn,dd ?_⟩)
 refine af (SA m.counts m.k n k0 hc.k6) ?_;refine tc ?_
 rw[show IntKind.i64.wrap (m.k+1)=m.k+1 from jB an (by have:=hc.k6;omega)];refine⟨λh6=>?_,λh6=>?_⟩
 .have g6:m.k+1=6:=by simpa using h6
  refine dd ?_;rw[show IntKind.i64.wrap (m.i+1)=m.i+1 from jB an (by have:=sw.counts.1;omega)];rw[ml];refine⟨λh7=>?_,λh7=>?_⟩
  .have g7:m.i+1=w.counts.length:=by simpa using h7
   rw[Ky (by rw[BC g6 g7]),BC g6 g7];refine dd ?_;refine zbN ?_
   exact gG
  .have g7:m.i+1≠w.counts.length:=by simpa using h7
   rw[DM (by rw[BB g6 g7];exact hd),BB g6 g7];refine dd ?_;exact gG
 .have g6:m.k+1≠6:=by simpa using h6
  have g7:m.i≠w.counts.length:=an
  rw[DM (by rw[BA g6 g7];exact hd),BA g6 g7];refine dd ?_;rw[ml];refine⟨λh=>absurd h (ai g7),λ_=>dd ?_⟩;exact gG
end Go.Wor
