import Derived.Test.YtamgiodaflkbhaaGreatVU
set_option linter.all false
set_option maxRecDepth 100000
set_option maxHeartbeats 4000000
namespace Go.Wor
open Go.Ab Go.Proofs Tryz Go.Hy Go.Gat Go.Nam Go.Hos Go.Con Go.Sna
abbrev Cm(m:fx):C:=.agg (vX m)
def zG(w:Wor)(m:fx):Bool:=j7 w && iA m.zm w.pins.length && !m.done && iA m.version w.zd.length && (match w.zd[m.version.toNat]? with
 |none=>false
 |some v=>iA m.zp v.zg.length && (match v.zg[m.zp.toNat]? with
  |none=>false
  |some g=>iA m.end_ g.ends.length && iA m.other g.ends.length && (match g.ends[m.end_.toNat]? with
   |none=>false
   |some e=>iA m.slot e.next.length) && (iA (m.listen+1) (w.zc.length+1) && decide (0<=m.i) && decide (0<=m.k))))
def yv{i n:Int}:iA i n=true↔0<=i/\i<n:=by unfold iA;simp
structure jW(w:Wor)(m:fx)(v:fC)(g:Gr)(e:En):Prop where
 world:j7 w=true
 zm:0<=m.zm/\m.zm<w.pins.length
 done:m.done=false
 version:0<=m.version/\m.version<w.zd.length
 iz:w.zd[m.version.toNat]?=some v
 zp:0<=m.zp/\m.zp<v.zg.length
 iC:v.zg[m.zp.toNat]?=some g
 end_ : 0 <= m.end_ /\ m.end_<g.ends.length
 iM:g.ends[m.end_.toNat]?=some e
 other:0<=m.other/\m.other<g.ends.length
 slot:0<=m.slot/\m.slot<e.next.length
 listen: -1<=m.listen/\m.listen<w.zc.length
 i:0<=m.i
 k:0<=m.k
def kl{w:Wor}{m:fx}(h:zG w m=true):∃v g e,jW w m v g e:=by
 unfold zG at h;simp only[pJ,rE,yv]at h;obtain⟨⟨⟨⟨h1,h2⟩,h3⟩,h4⟩,h5⟩:=h;split at h5
 .cases h5
 rename_i v hv;simp only[pJ,yv]at h5;obtain⟨h5,h6⟩:=h5;split at h6
 .cases h6
 rename_i g hg;simp only[pJ,yv,pY]at h6;obtain⟨⟨⟨h6,h7⟩,h8⟩,⟨h9,h10⟩,h11⟩:=h6;split at h8
 .cases h8
 rename_i e he;simp only[yv]at h8;exact⟨v,g,e,h1,h2,h3,h4,hv,h5,hg,h6,he,h7,h8,an,h10,h11⟩
def zO(w:Wor)(m:fx)(hw:fG w)(hm:i64 m.listen):th 171 [] [Cw w,Cm m] (Bo (zG w m)) []:=by
 have m1:(w.pins.map encI).length=w.pins.length:=pz ..;have m2:(w.zd.map zt).length=w.zd.length:=pz ..;have m3:(w.zc.map zT).length=w.zc.length:=pz ..;have b3:=hw.zc.1;have el:IntKind.i64.wrap ((w.zc.length:Int)+1)=(w.zc.length:Int)+1:=jF an an
 have el2:iA (IntKind.i64.wrap (m.listen+1)) ((w.zc.length:Int)+1)=iA (m.listen+1) ((w.zc.length:Int)+1):=by
  by_cases hh:m.listen<=9223372036854775806
  .rw[jF (by have:=hm.1;omega) an]
  .have h9:m.listen=9223372036854775807:=by have:=hm.2;omega
   rw[h9];have h10:IntKind.i64.wrap (9223372036854775807+1)= -9223372036854775808:=aj
   rw[h10];unfold iA;rw[show decide ((0:Int)<= -9223372036854775808)=false from V,show decide ((9223372036854775807:Int)+1<(w.zc.length:Int)+1)=false from ar];simp
 refine ab func171 ?_;refine af (Pc w hw) ?_;refine⟨λh1=>?_,λh1=>?_⟩
 rotate_left
 ·(have e:zG w m=false:=by (unfold zG;(rw[h1]);simp));exact gM
 refine dd ?_;rw[m1];refine af (wL m.zm w.pins.length) ?_;refine⟨λh2=>?_,λh2=>?_⟩
 rotate_left
 ·(have e:zG w m=false:=by (unfold zG;(rw[h2]);simp));exact gM
 refine dd ?_;refine⟨λh3=>?_,λh3=>?_⟩
 ·(have e:zG w m=false:=by (unfold zG;(rw[h3]);simp));exact gM
 refine dd ?_;rw[m2];refine af (wL m.version w.zd.length) ?_;refine⟨λh4=>?_,λh4=>?_⟩
 rotate_left
 ·(have e:zG w m=false:=by (unfold zG;(rw[h4]);simp));exact gM
 obtain⟨c0,c1⟩:=yv.1 h4;have hv:w.zd[m.version.toNat]?=some (w.zd[m.version.toNat]'an):=pq _;generalize w.zd[m.version.toNat]'an=v at hv;have gv:(w.zd.map zt)[m.version.toNat]?=some (zt v):=by rw[pw,hv];rfl
 have m4:(v.zg.map zy).length=v.zg.length:=pz ..
 have g0:zG w m=(iA m.zp v.zg.length && (match v.zg[m.zp.toNat]? with
  |none=>false
  |some g=>iA m.end_ g.ends.length && iA m.other g.ends.length && (match g.ends[m.end_.toNat]? with
   |none=>false
   |some e=>iA m.slot e.next.length) && (iA (m.listen+1) (w.zc.length+1) && decide (0<=m.i) && decide (0<=m.k)))):=by
  unfold zG;rw[h1,h2,h3,h4,hv]
  rfl
 rw[g0];refine zac ?_
 refine⟨c0,_,gv,dd ?_⟩;rw[m4];refine af (wL m.zp v.zg.length) ?_;refine⟨λh5=>?_,λh5=>?_⟩
 rotate_left
 .rw[h5];refine zac ?_
  exact uI
 obtain⟨c2,c3⟩:=yv.1 h5;have hg:v.zg[m.zp.toNat]?=some (v.zg[m.zp.toNat]'an):=pq _;generalize v.zg[m.zp.toNat]'an=g at hg;have gg:(v.zg.map zy)[m.zp.toNat]?=some (zy g):=by rw[pw,hg];rfl
 have m5:(g.ends.map zx).length=g.ends.length:=pz ..;rw[h5,hg];dsimp only;refine zac ?_
 refine⟨c2,_,gg,dd ?_⟩;refine uE ?_;rw[m5];refine af (wL m.end_ g.ends.length) ?_;refine⟨λh6=>?_,λh6=>?_⟩
 rotate_left
 .rw[h6];refine zac ?_
  exact uI
 obtain⟨c4,c5⟩:=yv.1 h6;have he:g.ends[m.end_.toNat]?=some (g.ends[m.end_.toNat]'an):=pq _;generalize g.ends[m.end_.toNat]'an=e at he;have ge:(g.ends.map zx)[m.end_.toNat]?=some (zx e):=by rw[pw,he];rfl
 have m6:(e.next.map encI).length=e.next.length:=pz ..;rw[h6,he];dsimp only;refine dd ?_;rw[m5];refine af (wL m.other g.ends.length) ?_;refine⟨λh7=>?_,λh7=>?_⟩
 rotate_left
 .rw[h7];refine zac ?_
  exact uI
 rw[h7];refine dd ?_;refine⟨c4,_,ge,dd ?_⟩;rw[m6];refine af (wL m.slot e.next.length) ?_;refine⟨λh8=>?_,λh8=>?_⟩
 rotate_left
 .rw[h8];refine zac ?_
  exact uI
 rw[h8];refine zac ?_
 rw[m3,el];have hin:=wL (IntKind.i64.wrap (m.listen+1)) ((w.zc.length:Int)+1);rw[el2]at hin;refine af hin ?_;refine⟨λh9=>?_,λh9=>?_⟩
 rotate_left
 .rw[h9];refine zac ?_
  exact uI
 rw[h9];refine dd ?_;refine⟨λh10=>?_,λh10=>?_⟩
 rotate_left
 .refine zac ?_
  (exact⟨.inl V,_,.refl _,uN (by symm;simp at h10|-;omega)⟩)
 refine dd ?_;refine⟨λh11=>?_,λh11=>?_⟩
 .refine zac ?_
  (exact⟨.inl V,_,.refl _,uN (by symm;simp at h10 h11|-;omega)⟩)
 .refine zac ?_
  (exact⟨.inl V,_,.refl _,uN (by symm;simp at h10 h11|-;omega)⟩)
end Go.Wor
namespace Go.Ab
def kc{H:zq}{id i:Nat}{ob:Ob}(h:(jY H id)[i]?=some ob)(hk:ob.kind=4):H[i]?=some ob:=by
 rw[yL]at h;cases hx:H[i]? with
 |none=>rw[hx]at h;cases h
 |some o=>
  rw[hx]at h;simp only[pL,rh]at h;split at h
  .subst h;cases hk
  .rw[h]
def zl.forget{B:Nat}{s:S}(id:Nat):zl B s ⟨s.tmps,jY s.H id⟩:=λm w E a hs=>by
 have hg:∀{i b},qG E (jY s.H id) i b->qG E s.H i b:=λ⟨ob,cap,h1,h2,h3,h4⟩=>⟨ob,cap,kc h1 h2,h2,h3,h4⟩
 have hr:∀{i b},jz (jY s.H id) i b->jz s.H i b:=λ⟨ob,o,t,h1,h2,h3,h4⟩=>⟨ob,o,t,kc h1 h2,h2,h3,h4⟩
 have h0:∀{b},q6 E (jY s.H id) b->q6 E s.H b:=λ⟨i,p,x,h1,h2⟩=>⟨i,p,x,(y9 h1).2,h2⟩
 refine⟨E,⟨⟨hs.heap.base.kill id,?_⟩,hs.tmps,hs.defers,by have:=hs.base;simp[jY];omega⟩,⟨Env.ou.refl B E,rfl,rfl,rfl,pN _,λ_ _ _=>V,λ_ _ _ h=>.inl h,?_⟩⟩
 .exact {
   val:=λi ob h1 h2=>hs.heap.fA.val i ob (kc h1 h2) h2
   fH:=λi b ob h1 h2=>hs.heap.fA.fH i b ob (hg h1) (by obtain⟨ob2,_,h3,h4,_⟩:=h1;rw[h2]at h3;cases h3;exact kc h2 h4)
   sep:=λi b h1 h2=>hs.heap.fA.sep i b (hg h1) (h0 h2)
   inj:=λi j b h1 h2=>hs.heap.fA.inj i j b (hg h1) (hg h2)
   st:=λi b ob o u h1 h2 h3=>hs.heap.fA.st i b ob o u (hg h1) (by obtain⟨ob2,_,h4,h5,_⟩:=h1;rw[h2]at h4;cases h4;exact kc h2 h5) h3
   top:=λi ob k u h1 h2 h3=>hs.heap.fA.top i ob k u (kc h1 h2) h2 h3
   iK:=λi ob o t h1 h2 h3=>hs.heap.fA.iK i ob o t (kc h1 h2) h2 h3
   wZ:=λi j b h1 h2=>hs.heap.fA.wZ i j b (hr h1) (hr h2)}
 .rintro b (hb|⟨i,hb|hb⟩)
  .exact .inr (.inl (h0 hb))
  .exact .inr (.inr ⟨i,.inl (hg hb)⟩)
  .exact .inr (.inr ⟨i,.inr (hr hb)⟩)
end Go.Ab
namespace Go.Wor
open Go.Ab Go.Proofs Tryz Go.Hy Go.Gat Go.Nam Go.Hos Go.Con Go.Sna
variable{P:Program}{f:FuncId}{fn:Func}{c:Code}{args:List C}{r:C}{w:Wor}{m:fx}
abbrev Ce(e:fF):C:=.agg (jb e)
abbrev kG:fM:=⟨0,0,0,0,0,0,0,⟨0,0,0,0,0,0⟩⟩
abbrev zW:fF:=⟨0,0,0,0,0,false,0,false,false,false,kG⟩
abbrev ot(n:Int):fF:=⟨0,0,1,1,0,false,n,false,false,false,kG⟩
def XI(r:C)(H':zq):Prop:=∃(b:Nat) (v0 v1 v2:Value),r=.v (.map (some b))/\H'=[BQ b [(0,v0,0),(1,v1,1),(2,v2,2)] 3 [.agg [.fn 250 [] []],.agg [.fn 252 [] []],.agg [.fn 253 [] []]]]
def QU:qC prog 206 [] [] XI:=by
 refine qC.zX (fn:=f206) func206 V (uH ?_);intro b;refine zcu ?_;intro v0;refine zcu ?_;intro v1;refine zcu ?_;intro v2;refine dd ?_;exact⟨.inl V,_,_,.refl _,rfl,b,v0,v1,v2,rfl,rfl⟩
def z8{H H2:zq}(hf:P.funcs[f]?=some fn)(hb:fn.body=some c)(hle:H.length<=H2.length)
 (h:wpA P H.length c (entry fn args) H λex t1 H1=>(ex=.ret\/ex=.normal)/\∃s2 r1,zl H.length ⟨t1,H1⟩ s2/\kg P fn s2=some r1/\zl H.length ⟨[r1],s2.H⟩ ⟨[r],H2⟩):zb P f H args r H2:=λw E vs hh hl0=>by
 have h1:qC P f H args λr1 H1=>zl H.length ⟨[r1],H1⟩ ⟨[r],H2⟩:=qC.zX hf hb h
 refine(h1 w E vs hh hl0).mono ?_;rintro e w' ⟨r1,H1,v,E',hw,h0,h2,h3,g⟩;have hHH:H.length<=H1.length:=bR
 obtain⟨E2,hs,g2⟩:=hw 0 w' E' ⟨#[v],[]⟩ ⟨h2,LL.one h3,pW _,hHH⟩;have hn2:=hs.heap.n;refine⟨v,E2,h0,hs.heap,hs.tmps.cons_inv.1,⟨⟨by rw[hh.n,hn2];exact hle,λid hops hi=>?_,λid hops hi=>?_,λb o u hu=>g2.le.St _ _ _ (g.le.St _ _ _ hu),λid k u hi hu=>?_⟩,g2.os.trans g.os,g2.tape.trans g.tape,g2.output.trans g.output,rR g.size g2.size,?_,?_,?_⟩⟩
 .rw[hh.n]at hi;exact(g2.le.β id hops hi).trans (g.le.β id hops mC)
 .rw[hh.n]at hi;exact(g2.le.κ id hops hi).trans (g.le.κ id hops mC)
 .rw[hh.n]at hi;exact g2.le.G id k u hi (g.le.G id k u mC hu)
 .intro k hk ho;exact dE
 .intro b o u hu;rcases g2.jB b o u hu with h1|h1|h1
  .exact g.jB b o u h1
  .exact gV
  .rcases g.own b h1 with h4|h4
   .exact .inr (.inl h4)
   .exact .inr (.inr h4)
 .intro b hb;rcases g2.own b hb with h1|h1
  .exact pj
  .exact g.own b h1
def aa{H H2:zq}{zQ:Prop}(hf:P.funcs[f]?=some fn)(z0:zQ)(hb:fn.body=some c:=by exact V)(hle:H.length<=H2.length:=by exact pN _)(ze:zQ->wpA P H.length c (entry fn args) H λex t1 H1=>(ex=.ret\/ex=.normal)/\∃s2 r1,zl H.length ⟨t1,H1⟩ s2/\kg P fn s2=some r1/\zl H.length ⟨[r1],s2.H⟩ ⟨[r],H2⟩:=by intro zh;(conv=>whnf);exact zh):zb P f H args r H2:=z8 hf hb hle (ze z0)
def Ga(w:Wor)(m:fx):th 251 [oW w,oM m] [.ref 0 [] 8 0 0] (Ce (ot w.zr)) [oW w,oM m]:=by
 refine aa func251 ?_;exact dk
def UL(w:Wor)(m:fx):th 250 [oW w,oM m] tg (Ce (ot w.zr)) [oW w,oM ({m with zr:=w.zr,pc:=1})]:=by
 refine aa func250 ?_;refine ae [0,1] (Ga w {m with zr:=w.zr,pc:=1}) ?_;exact dk
def UM(w:Wor)(m:fx)(h0:0<=m.zm)(h1:m.zm<w.pins.length):th 252 [⟨1,38,8,[[I w.zr,I w.current,I w.lock,.sl 2 [] 1 0 w.pins.length false,lV w.zd,lL w.zc,fJ w.counts,lR w.zn]],0⟩,oM m,⟨2,3,1,(w.pins).map encI,0⟩] tg (Ce ⟨0,0,2,2,0,false,IntKind.i64.wrap (m.zr+1),false,false,false,kG⟩) [⟨1,38,8,[[I w.zr,I w.current,I w.lock,.sl 2 [] 1 0 w.pins.length false,lV w.zd,lL w.zc,fJ w.counts,lR w.zn]],0⟩,oM ({m with pc:=2}),⟨2,3,1,(w.pins.set m.zm.toNat (IntKind.i64.wrap (m.zr+1))).map encI,0⟩]:=by
 have hs:(w.pins.map encI).set m.zm.toNat [I (IntKind.i64.wrap (m.zr+1))]=(w.pins.set m.zm.toNat (IntKind.i64.wrap (m.zr+1))).map encI:=bO
 rw[<-hs];have e1:0+m.zm.toNat=m.zm.toNat:=pK _;have hg:(w.pins.map encI)[m.zm.toNat]?=some (encI (w.pins[m.zm.toNat]'an)):=by rw[pw,pq an];rfl
 refine aa func252 ?_;refine uE ?_;refine⟨h0,an,dd ?_⟩;rw[e1];refine⟨_,hg,rfl,dd ?_⟩;exact⟨.inl V,_,_,.refl _,rfl,cE 3⟩
def UN(w:Wor)(m:fx):th 253 [oW w,oM m] tg (Ce (ot w.zr)) [oW w,oM ({m with zr:=w.zr,pc:=if w.zr=m.zr then 3 else 1})]:=by
 refine aa func253 ?_;refine uE ?_;refine⟨λh=>?_,λh=>?_⟩
 .conv=>whnf
  rw[pD (pC h)];refine ae [0,1] (Ga w {m with zr:=w.zr,pc:=3}) ?_;exact dk
 .conv=>whnf
  rw[pA (pB h)];refine ae [0,1] (Ga w {m with zr:=w.zr,pc:=1}) ?_;exact dk
abbrev NC:List C:=[.fn 250 [] []]
abbrev ND:List C:=[.fn 252 [] []]
abbrev NF:List C:=[.fn 253 [] []]
abbrev iE:List C:=fW
abbrev N4:List C:=[I 0,Tx [],Tx [],Tx [],I 0,I 0,I 0,.fq 1 0 [],.fq 1 0 [],.fq 1 0 []]
abbrev iD:List C:=N4++[I 0,I 0,I 0,I 0,I 0,I 0,I 0,I 0,I 0,U 0,I 0,I 0,I 0,I 0,Bo false]++qY kG++BF ⟨0,0,0,0,0,0⟩
def Kg(sel:List Nat){K H0:zq}{args0:List C}{R:C->zq->Prop}(h:qC P f H0 args0 R)(hR:∀r H',R r H'->qL H'=true)
 (hH:xC sel K=H0)(ha:args.map (jQ sel 9)=args0)(qd:sel.all (λid=>Nat.blt id K.length)=true)(iv:yt sel=true)(ik:qL K=true){k:C->zq->Prop}
 (hk:∀r H',R r H'->AX (wP sel K H') λX=>qM (yT (q8 sel K.length) 9 r) λc=>k c X):∃R',qC P f K args R'/\∀r H2,R' r H2->k r H2:=
 ⟨_,h.part sel hR hH ha qd iv ik,λr H2 ⟨r0,H',h1,h2,h3⟩=>by subst h2 h3;exact zV (kD (k:=λX=>qM (yT (q8 sel K.length) 9 r0) λc=>k c X) (hk r0 H' h1))⟩
def zb.kq(hf:P.funcs[f]?=some fn)(hb:fn.body=some c)
 (h:qX P 0 c ⟨entry fn args,[]⟩ λex s=>(ex=.ret\/ex=.normal)/\∃s2,zl 0 s s2/\(kg P fn s2).map (xN 0 9)=some r):zb P f [] args r []:=by
 refine qC.Ho (qC.kQ (H:=[]) hf hb (h.mono λex s1 ⟨hex,s2,hw,h2⟩=>?_));cases h3:kg P fn s2 with
 |none=>rw[h3]at h2;cases h2
 |some r0=>
  rw[h3]at h2;cases h2
  exact⟨hex,s2,r0,hw,h3,rfl⟩
def BV(w:Wor)(m:fx)(j f:Nat)(R:Exit->S->Prop)(hf:∀v0 v1 v2,vS [(0,v0,0),(1,v1,1),(2,v2,2)] m.pc=some j)(hc:[C.agg NC,.agg ND,.agg NF][j]?=some (.agg [.fn f [] []]))
 (hn:qX prog 0 (behind 2 ((f170.body).getD .skip)) ⟨(.za::.za::.ref 0 [] 8 0 0::.ref 1 [] 44 0 0::.ref 2 [] 8 0 0::.ref 3 [] 44 0 0::.ref 4 [] 23 0 0::.ref 5 [] 1 0 0::.v (.bool true)::mL (mL (mL ([.za,.za,.za,.za,.za,.za,.za])))),[oW w,oM m,⟨1,38,8,[iE],0⟩,⟨1,64,44,[iD],0⟩,oE zW,⟨1,255,1,[[.fn f [] []]],0⟩]⟩ R):qX prog 0 ((f170.body).getD .skip) ⟨entry f170 [Cw w,Cm m],[]⟩ R:=by
 refine lM (uH ?_);refine zbx ?_;refine .inr ⟨⟨[2],[1],false⟩,ak,λh=>absurd h aj,λt H=>qX prog 0 (behind 2 ((f170.body).getD .skip)) ⟨t,H⟩ R,uH ?_,λt2 H2 h=>.inl ⟨rfl,_,_,.refl _,h⟩⟩;(repeat' (first|(exact trivial)|(refine⟨λ_=>uH ?_,λh=>absurd h aj⟩)|(refine⟨λh=>absurd h aj,λ_=>uH ?_⟩)|(refine⟨(rfl:(_:zq)=_),uH ?_⟩)|(refine⟨(rfl:(_:Option Ob)=_),uH ?_⟩)|((refine Kg [] QU (λr H' ⟨b,v0,v1,v2,h1,h2⟩=>h2 ▸ rfl) V V V V V ?_;rintro _ _ ⟨b,v0,v1,v2,rfl,rfl⟩;(refine dd ?_)))|(refine⟨_,_,fE.C6 (id:=5) _ _ _ _ V V V V V V V V V (hf _ _ _) hc,?_⟩;(refine dd ?_))|(refine⟨_,_,fE.C6 (id:=6) _ _ _ _ V V V V V V V V V (hf _ _ _) hc,?_⟩;(refine dd ?_))|(refine And.intro ?_ ?_ <;> (conv=>whnf))))
 all_goals (first|exact⟨_,_,(zl.forget 5).trans ((zl.fD [0,1,2,3,4,6] [2,3,4,5,6,7,8] _ _ V V V V).trans (cC)),hn⟩|exact⟨_,_,(zl.forget 6).trans ((zl.fD [0,1,2,3,4,5] [2,3,4,5,6,7,8] _ _ V V V V).trans (cC)),hn⟩)
abbrev nH(m:fx)(e:fF):fF:={e with zm:=m.zm,version:= -1}
def SO(w:Wor)(m:fx)(sw:z6 w)(ok:fG w)(hl:i64 m.listen)(hpc:m.pc=0)(hs:zG w m=true):
  th 170 [] [Cw w,Cm m] (.fy [Cw w,Cm {m with zr:=w.zr,pc:=1},Ce (nH m (ot w.zr))]) []:=by
 refine zb.kq func170 V (BV w m 0 250 _ (λ_ _ _=>by rw[hpc];rfl) V ?_);(refine jh (K:=λex t H=>(ex=.ret\/ex=.normal)/\∃s2,zl 0 ⟨t,H⟩ s2/\(kg prog f170 s2).map (xN 0 9)=some (.fy [Cw w,Cm {m with zr:=w.zr,pc:=1},Ce (nH m (ot w.zr))])) (uH ?_))
 refine td ?_
 refine zbq ?_
 refine af (qz w sw) ?_;refine ae [0,1] (UL w m) ?_;refine .inl ⟨⟨false,[1,2],[1,6],[]⟩,ak,uH ?_⟩;refine tc ?_
 exact uI
def SQ(w:Wor)(m:fx)(sw:z6 w)(ok:fG w)(hl:i64 m.listen)(hpc:m.pc=2)(hs:zG w m=true):
  th 170 [] [Cw w,Cm m] (.fy [Cw w,Cm {m with zr:=w.zr,pc:=if w.zr=m.zr then 3 else 1},Ce (nH m (ot w.zr))]) []:=by
 refine zb.kq func170 V (BV w m 2 253 _ (λ_ _ _=>by rw[hpc];rfl) V ?_);(refine jh (K:=λex t H=>(ex=.ret\/ex=.normal)/\∃s2,zl 0 ⟨t,H⟩ s2/\(kg prog f170 s2).map (xN 0 9)=some (.fy [Cw w,Cm {m with zr:=w.zr,pc:=if w.zr=m.zr then 3 else 1},Ce (nH m (ot w.zr))])) (uH ?_))
 refine td ?_
 refine zbq ?_
 refine af (qz w sw) ?_;refine ae [0,1] (UN w m) ?_;refine .inl ⟨⟨false,[1,2],[1,6],[]⟩,ak,uH ?_⟩;refine tc ?_
 exact uI
def Rr(w:Wor)(m:fx)(ok:fG w)(hl:i64 m.listen)(h0:0<=m.pc)(h3:m.pc<3)(hs:zG w m=false):
  th 170 [] [Cw w,Cm m] (.fy [Cw w,Cm m,Ce zW]) []:=by
 have tail:∀f,qX prog 0 (behind 2 ((f170.body).getD .skip)) ⟨(.za::.za::.ref 0 [] 8 0 0::.ref 1 [] 44 0 0::.ref 2 [] 8 0 0::.ref 3 [] 44 0 0::.ref 4 [] 23 0 0::.ref 5 [] 1 0 0::.v (.bool true)::mL (mL (mL ([.za,.za,.za,.za,.za,.za,.za])))),[oW w,oM m,⟨1,38,8,[iE],0⟩,⟨1,64,44,[iD],0⟩,oE zW,⟨1,255,1,[[.fn f [] []]],0⟩]⟩ (λex s=>(ex=.ret\/ex=.normal)/\∃s2,zl 0 s s2/\(kg prog f170 s2).map (xN 0 9)=some (.fy [Cw w,Cm m,Ce zW])):=λf=>by
  (refine jh (K:=λex t H=>(ex=.ret\/ex=.normal)/\∃s2,zl 0 ⟨t,H⟩ s2/\(kg prog f170 s2).map (xN 0 9)=some (.fy [Cw w,Cm m,Ce zW])) (uH ?_))
  refine td ?_
  refine af (zO w m ok hl) ?_;refine⟨λh=>absurd ((hs).symm.trans h:false=true) aj,λ_=>dd ?_⟩;refine td ?_
  refine zb2 ?_
  exact uI
 rcases(by omega:m.pc=0\/m.pc=1\/m.pc=2) with hpc|hpc|hpc
 .exact zb.kq func170 V (BV w m 0 250 _ (λ_ _ _=>by rw[hpc];rfl) V (tail _))
 .exact zb.kq func170 V (BV w m 1 252 _ (λ_ _ _=>by rw[hpc];rfl) V (tail _))
 .exact zb.kq func170 V (BV w m 2 253 _ (λ_ _ _=>by rw[hpc];rfl) V (tail _))
abbrev mJ(w:Wor)(t:Nat)(n:Int):Wor:={w with pins:=w.pins.set t n}
def SP(w:Wor)(m:fx)(sw:z6 w)(ok:fG w)(hl:i64 m.listen)(hpc:m.pc=1)(hs:zG w m=true):
  th 170 [] [Cw w,Cm m] (.fy [Cw (mJ w m.zm.toNat (IntKind.i64.wrap (m.zr+1))),Cm {m with pc:=2},Ce (nH m ⟨0,0,2,2,0,false,IntKind.i64.wrap (m.zr+1),false,false,false,kG⟩)]) []:=by
 obtain⟨v,g,e,su⟩:=kl hs
 obtain⟨x,l,hx⟩:∃x l,w.pins=x::l:=by
  cases h:w.pins with
  |nil=>have:=su.zm;rw[h]at this;exact dL
  |cons x l=>exact⟨x,l,rfl⟩
 refine zb.kq func170 V (BV w m 1 252 _ (λ_ _ _=>by rw[hpc];rfl) V ?_);(refine jh (K:=λex t H=>(ex=.ret\/ex=.normal)/\∃s2,zl 0 ⟨t,H⟩ s2/\(kg prog f170 s2).map (xN 0 9)=some (.fy [Cw (mJ w m.zm.toNat (IntKind.i64.wrap (m.zr+1))),Cm {m with pc:=2},Ce (nH m ⟨0,0,2,2,0,false,IntKind.i64.wrap (m.zr+1),false,false,false,kG⟩)])) (uH ?_))
 refine td ?_
 refine zbq ?_
 refine ae [] (Jb w sw x l hx) ?_;refine ae [0,1,6] (UM w m su.zm.1 su.zm.2) ?_;refine .inl ⟨⟨false,[1,2],[1,7],[]⟩,ak,uH ?_⟩;refine tc ?_
 exact⟨.inl V,_,zl.zN 2 0 3 V V V V (.inr V) ah ah (shut_map (enc:=encI) (λ_=>V) _) (zB V),rfl⟩
abbrev BL(m:fx):fF:=nH m ⟨0,0,2,2,0,false,0,false,false,false,kG⟩
def U5(w:Wor)(m:fx)(sw:z6 w)(ok:fG w)(hl:i64 m.listen)(hs:zG w m=true):
  th 267 [] [Cw w,Cm m] (.fy [Cw (mJ w m.zm.toNat 0),Ce (BL m)]) []:=by
 obtain⟨v,g,e,su⟩:=kl hs
 obtain⟨x,l,hx⟩:∃x l,w.pins=x::l:=by
  cases h:w.pins with
  |nil=>have:=su.zm;rw[h]at this;exact dL
  |cons x l=>exact⟨x,l,rfl⟩
 have e1:0+m.zm.toNat=m.zm.toNat:=pK _;have h0:=su.zm.1;have h1:=su.zm.2;have hst:(w.pins.map encI).set m.zm.toNat [I 0]=(w.pins.set m.zm.toNat 0).map encI:=bO
 have hg:(w.pins.map encI)[m.zm.toNat]?=some (encI (w.pins[m.zm.toNat]'an)):=by rw[pw,pq an];rfl
 refine ab func267 ?_;refine zbq ?_
 refine ae [] (Jb w sw x l hx) ?_;refine⟨h0,an,dd ?_⟩;rw[e1];refine⟨_,hg,rfl,dd ?_⟩;rw[hst];refine .inl ⟨⟨false,[2],[1],[]⟩,ak,uH ?_⟩;refine tc ?_
 exact⟨.inl V,_,zl.zN 2 0 3 V V V V (.inr V) ah ah (shut_map (enc:=encI) (λ_=>V) _) (zB V),rfl⟩
def Bb(x:oU)(k n:Int):oU:=
 if k=0 then {x with c0:=IntKind.u64.wrap (x.c0+n)} else if k=1 then {x with c1:=IntKind.u64.wrap (x.c1+n)} else if k=2 then {x with c2:=IntKind.u64.wrap (x.c2+n)}
 else if k=3 then {x with c3:=IntKind.u64.wrap (x.c3+n)} else if k=4 then {x with c4:=IntKind.u64.wrap (x.c4+n)} else {x with c5:=IntKind.u64.wrap (x.c5+n)}
def Tk(x:oU)(k n:Int)(h0:0<=k)(h6:k<6):th 193 [] [.agg (BF x),I k,U n] (.agg (BF (Bb x k n))) []:=by
 obtain⟨a,b,c,d,e,f⟩:=x;obtain rfl|rfl|rfl|rfl|rfl|rfl:k=0\/k=1\/k=2\/k=3\/k=4\/k=5:=an
 all_goals
  refine ab func193 ?_;(refine⟨aj,aj,dd ?_⟩);(refine⟨aj,aj,dd ?_⟩);exact uI
def vL(w:Wor)(m:fx)(n:Int):fx:=
 let m1:fx:={m with counts:=Bb m.counts m.k n,k:=m.k+1}
 let m2:fx:=if m.k+1=6 then {m1 with i:=m.i+1,k:=0} else m1
 if m2.i=w.counts.length then {m2 with done:=true,answer:=⟨13,0,0,0,0,0,0,m2.counts⟩} else m2
def BB(w:Wor)(m:fx)(n:Int):fF:={zW with zm:=m.zm,access:=1,cell:=10,version:= -1,value:=m.k,done:=(vL w m n).done,answer:=if (vL w m n).done then (vL w m n).answer else kG}
structure Ir(w:Wor)(m:fx)(r:List Int)(n:Int):Prop where
 i0:0<=m.i
 at_:w.counts[m.i.toNat]?=some r
 k0:0<=m.k
 k6:m.k<6
 row:r[m.k.toNat]?=some n
abbrev MP(m:fx)(n:Int):fx:={m with counts:=Bb m.counts m.k n,k:=m.k+1}
abbrev MQ(m:fx)(n:Int):fx:={m with counts:=Bb m.counts m.k n,k:=0,i:=m.i+1}
abbrev MR(m:fx)(n:Int):fx:={m with counts:=Bb m.counts m.k n,k:=0,i:=m.i+1,done:=true,answer:=⟨13,0,0,0,0,0,0,Bb m.counts m.k n⟩}
def Cd{n:Int}(h:m.k+1≠6)(hi:m.i≠w.counts.length):vL w m n=MP m n:=by
 unfold vL;dsimp only;rw[pA h];exact pA hi
def Cg{n:Int}(h:m.k+1=6)(hi:m.i+1≠w.counts.length):vL w m n=MQ m n:=by
 unfold vL;dsimp only;rw[pD h];exact pA hi
def Ch{n:Int}(h:m.k+1=6)(hi:m.i+1=w.counts.length):vL w m n=MR m n:=by
 unfold vL;dsimp only;rw[pD h];exact pD hi
abbrev Dp(m:fx):fF:={zW with zm:=m.zm,access:=1,cell:=10,version:= -1,value:=m.k}
def Ek{n:Int}(h:(vL w m n).done=false):BB w m n=Dp m:=by
 unfold BB;rw[h]
 rfl
def Lc{n:Int}(h:(vL w m n).done=true):BB w m n={Dp m with done:=true,answer:=(vL w m n).answer}:=by
 unfold BB;rw[h]
 rfl
def QT(w:Wor)(m:fx)(r:List Int)(n:Int)(sw:z6 w)(ok:fG w)(hl:i64 m.listen)(hpc:m.pc=0)(hs:zG w m=true)(hd:m.done=false)(hc:Ir w m r n)(ha:m.answer=kG):
  th 142 [] [Cw w,Cm m] (.fy [Cw w,Cm (vL w m n),Ce (BB w m n)]) []:=by
 have i0:=hc.i0;have k0:=hc.k0;have hi:m.i.toNat<w.counts.length:=(px.1 hc.at_).1;have ml:(w.counts.map zA).length=w.counts.length:=pz ..;have cr:(w.counts.map zA)[m.i.toNat]?=some (zA r):=by rw[pw,hc.at_];rfl
 have cn:(r.map qD)[m.k.toNat]?=some (qD n):=by rw[pw,hc.row];rfl
 refine ab func142 ?_;refine⟨λh=>absurd h (by simp[hpc]),λ_=>dd ?_⟩;refine⟨λh=>absurd h (by have:=hc.k6;simp;omega),λ_=>dd ?_⟩;rw[ml];refine za9 ?_;refine zbq ?_
 refine .inl ⟨⟨true,[],[],[14]⟩,ak,uH ?_⟩;(refine⟨i0,_,cr,dd ?_⟩)
 (refine⟨k0,_,cn,dd ?_⟩)
 refine af (Tk m.counts m.k n k0 hc.k6) ?_;refine tc ?_
 rw[show IntKind.i64.wrap (m.k+1)=m.k+1 from jF an (by have:=hc.k6;omega)];refine⟨λh6=>?_,λh6=>?_⟩
 .have g6:m.k+1=6:=by simpa using h6
  refine dd ?_;rw[show IntKind.i64.wrap (m.i+1)=m.i+1 from jF an (by have:=sw.counts.1;omega)];rw[ml];refine⟨λh7=>?_,λh7=>?_⟩
  .have g7:m.i+1=w.counts.length:=by simpa using h7
   rw[Lc (by rw[Ch g6 g7]),Ch g6 g7];refine dd ?_;refine zb2 ?_
   exact gY
  .have g7:m.i+1≠w.counts.length:=by simpa using h7
   rw[Ek (by rw[Cg g6 g7];exact hd),Cg g6 g7];refine dd ?_;exact gY
 .have g6:m.k+1≠6:=by simpa using h6
  have g7:m.i≠w.counts.length:=an
  rw[Ek (by rw[Cd g6 g7];exact hd),Cd g6 g7];refine dd ?_;rw[ml];refine⟨λh=>absurd h (ai g7),λ_=>dd ?_⟩;exact gY
end Go.Wor
