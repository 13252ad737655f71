import Derived.Test.YtoeaoedlpmohoaaGreatRU
set_option linter.all false
set_option maxRecDepth 100000
set_option maxHeartbeats 4000000
namespace Go.Wor
open Go.Ab Go.Proofs Tryz Go.Hy Go.Gat Go.Nam Go.Hos Go.Con Go.Sna
abbrev Cm(m:fq):C:=.agg (zE m)
def z7(w:Wor)(m:fq):Bool:=xS w && i4 m.zf w.pins.length && !m.done && i4 m.version w.ze.length && (match w.ze[m.version.toNat]? with
 |none=>false
 |some v=>i4 m.zg v.zm.length && (match v.zm[m.zg.toNat]? with
  |none=>false
  |some g=>i4 m.end_ g.ends.length && i4 m.other g.ends.length && (match g.ends[m.end_.toNat]? with
   |none=>false
   |some e=>i4 m.slot e.next.length) && (i4 (m.listen+1) (w.zd.length+1) && decide (0<=m.i) && decide (0<=m.k))))
def vx{i n:Int}:i4 i n=true↔0<=i/\i<n:=by unfold i4;simp
structure qP(w:Wor)(m:fq)(v:fB)(g:Gr)(e:En):Prop where
 world:xS w=true
 zf:0<=m.zf/\m.zf<w.pins.length
 done:m.done=false
 version:0<=m.version/\m.version<w.ze.length
 ij:w.ze[m.version.toNat]?=some v
 zg:0<=m.zg/\m.zg<v.zm.length
 fR:v.zm[m.zg.toNat]?=some g
 end_ : 0 <= m.end_ /\ m.end_<g.ends.length
 ia:g.ends[m.end_.toNat]?=some e
 other:0<=m.other/\m.other<g.ends.length
 slot:0<=m.slot/\m.slot<e.next.length
 listen: -1<=m.listen/\m.listen<w.zd.length
 i:0<=m.i
 k:0<=m.k
def yL{w:Wor}{m:fq}(h:z7 w m=true):∃v g e,qP w m v g e:=by
 unfold z7 at h;simp only[gH,pO,vx]at h;obtain⟨⟨⟨⟨h1,h2⟩,h3⟩,h4⟩,h5⟩:=h;split at h5
 ·cases h5
 rename_i v hv;simp only[gH,vx]at h5;obtain⟨h5,h6⟩:=h5;split at h6
 ·cases h6
 rename_i g hg;simp only[gH,vx,gQ]at h6;obtain⟨⟨⟨h6,h7⟩,h8⟩,⟨h9,h10⟩,h11⟩:=h6;split at h8
 ·cases h8
 rename_i e he;simp only[vx]at h8;exact⟨v,g,e,h1,h2,h3,h4,hv,h5,hg,h6,he,h7,h8,aw,h10,h11⟩
def zR(w:Wor)(m:fq)(hw:iC w)(hm:i64 m.listen):tn 150 [] [Cw w,Cm m] (Bo (z7 w m)) []:=by
 have m1:(w.pins.map encI).length=w.pins.length:=gE ..;have m2:(w.ze.map zK).length=w.ze.length:=gE ..;have m3:(w.zd.map qW).length=w.zd.length:=gE ..;have b3:=hw.zd.1;have el:IntKind.i64.wrap ((w.zd.length:Int)+1)=(w.zd.length:Int)+1:=qd aw aw
 have el2:i4 (IntKind.i64.wrap (m.listen+1)) ((w.zd.length:Int)+1)=i4 (m.listen+1) ((w.zd.length:Int)+1):=by
  by_cases hh:m.listen<=9223372036854775806
  ·rw[qd (by have:=hm.1;omega) aw]
  ·have h9:m.listen=9223372036854775807:=by have:=hm.2;omega
   rw[h9];have h10:IntKind.i64.wrap (9223372036854775807+1)= -9223372036854775808:=ar
   rw[h10];unfold i4;rw[show decide ((0:Int)<= -9223372036854775808)=false from rfl,show decide ((9223372036854775807:Int)+1<(w.zd.length:Int)+1)=false from aA];simp
 refine ab func150 ?_;refine ah (Rb w hw) ?_;refine⟨λh1=>?_,λh1=>?_⟩
 rotate_left
 ·(have e:z7 w m=false:=by (unfold z7;(rw[h1]);simp));exact gf
 refine dd ?_;rw[m1];refine ah (wO m.zf w.pins.length) ?_;refine⟨λh2=>?_,λh2=>?_⟩
 rotate_left
 ·(have e:z7 w m=false:=by (unfold z7;(rw[h2]);simp));exact gf
 refine dd ?_;refine⟨λh3=>?_,λh3=>?_⟩
 ·(have e:z7 w m=false:=by (unfold z7;(rw[h3]);simp));exact gf
 refine dd ?_;rw[m2];refine ah (wO m.version w.ze.length) ?_;refine⟨λh4=>?_,λh4=>?_⟩
 rotate_left
 ·(have e:z7 w m=false:=by (unfold z7;(rw[h4]);simp));exact gf
 obtain⟨c0,c1⟩:=vx.1 h4;have hv:w.ze[m.version.toNat]?=some (w.ze[m.version.toNat]'aw):=gp _;generalize w.ze[m.version.toNat]'aw=v at hv;have gv:(w.ze.map zK)[m.version.toNat]?=some (zK v):=by rw[gz,hv];rfl
 have m4:(v.zm.map zF).length=v.zm.length:=gE ..
 have g0:z7 w m=(i4 m.zg v.zm.length && (match v.zm[m.zg.toNat]? with
  |none=>false
  |some g=>i4 m.end_ g.ends.length && i4 m.other g.ends.length && (match g.ends[m.end_.toNat]? with
   |none=>false
   |some e=>i4 m.slot e.next.length) && (i4 (m.listen+1) (w.zd.length+1) && decide (0<=m.i) && decide (0<=m.k)))):=by
  unfold z7;rw[h1,h2,h3,h4,hv]
  rfl
 rw[g0];refine dd ?_;refine tc ?_
 refine⟨c0,_,gv,dd ?_⟩;rw[m4];refine ah (wO m.zg v.zm.length) ?_;refine⟨λh5=>?_,λh5=>?_⟩
 rotate_left
 ·rw[h5];refine dd ?_;refine tc ?_
  exact uI
 obtain⟨c2,c3⟩:=vx.1 h5;have hg:v.zm[m.zg.toNat]?=some (v.zm[m.zg.toNat]'aw):=gp _;generalize v.zm[m.zg.toNat]'aw=g at hg;have gg:(v.zm.map zF)[m.zg.toNat]?=some (zF g):=by rw[gz,hg];rfl
 have m5:(g.ends.map zx).length=g.ends.length:=gE ..;rw[h5,hg];dsimp only;refine dd ?_;refine tc ?_
 refine⟨c2,_,gg,dd ?_⟩;refine uE ?_;rw[m5];refine ah (wO m.end_ g.ends.length) ?_;refine⟨λh6=>?_,λh6=>?_⟩
 rotate_left
 ·rw[h6];refine dd ?_;refine tc ?_
  exact uI
 obtain⟨c4,c5⟩:=vx.1 h6;have he:g.ends[m.end_.toNat]?=some (g.ends[m.end_.toNat]'aw):=gp _;generalize g.ends[m.end_.toNat]'aw=e at he;have ge:(g.ends.map zx)[m.end_.toNat]?=some (zx e):=by rw[gz,he];rfl
 have m6:(e.next.map encI).length=e.next.length:=gE ..;rw[h6,he];dsimp only;refine dd ?_;rw[m5];refine ah (wO m.other g.ends.length) ?_;refine⟨λh7=>?_,λh7=>?_⟩
 rotate_left
 ·rw[h7];refine dd ?_;refine tc ?_
  exact uI
 rw[h7];refine dd ?_;refine⟨c4,_,ge,dd ?_⟩;rw[m6];refine ah (wO m.slot e.next.length) ?_;refine⟨λh8=>?_,λh8=>?_⟩
 rotate_left
 ·rw[h8];refine dd ?_;refine tc ?_
  exact uI
 rw[h8];refine dd ?_;refine tc ?_
 rw[m3,el];have hin:=wO (IntKind.i64.wrap (m.listen+1)) ((w.zd.length:Int)+1);rw[el2]at hin;refine ah hin ?_;refine⟨λh9=>?_,λh9=>?_⟩
 rotate_left
 ·rw[h9];refine dd ?_;refine tc ?_
  exact uI
 rw[h9];refine dd ?_;refine⟨λh10=>?_,λh10=>?_⟩
 rotate_left
 ·refine dd ?_;refine tc ?_
  (exact⟨.inl rfl,_,.refl _,uN (by symm;simp at h10 ⊢;omega)⟩)
 refine dd ?_;refine⟨λh11=>?_,λh11=>?_⟩
 ·refine dd ?_;refine tc ?_
  (exact⟨.inl rfl,_,.refl _,uN (by symm;simp at h10 h11 ⊢;omega)⟩)
 ·refine dd ?_;refine tc ?_
  (exact⟨.inl rfl,_,.refl _,uN (by symm;simp at h10 h11 ⊢;omega)⟩)
end Go.Wor
namespace Go.Ab
def vV{H:zl}{id i:Nat}{ob:Ob}(h:(xX H id)[i]?=some ob)(hk:ob.kind=4):H[i]?=some ob:=by
 rw[vh]at h;cases hx:H[i]? with
 |none=>rw[hx]at h;cases h
 |some o=>
  rw[hx]at h;simp only[gL,gV]at h;split at h
  ·subst h;cases hk
  ·rw[h]
def zp.forget{B:Nat}{s:S}(id:Nat):zp B s ⟨s.tmps,xX s.H id⟩:=λm w E a hs=>by
 have hg:∀{i b},qL E (xX s.H id) i b->qL E s.H i b:=λ⟨ob,cap,h1,h2,h3,h4⟩=>⟨ob,cap,vV h1 h2,h2,h3,h4⟩
 have hr:∀{i b},jJ (xX s.H id) i b->jJ s.H i b:=λ⟨ob,o,t,h1,h2,h3,h4⟩=>⟨ob,o,t,vV h1 h2,h2,h3,h4⟩
 have h0:∀{b},jm E (xX s.H id) b->jm E s.H b:=λ⟨i,p,x,h1,h2⟩=>⟨i,p,x,(y5 h1).2,h2⟩
 refine⟨E,⟨⟨hs.heap.base.kill id,?_⟩,hs.tmps,hs.defers,by have:=hs.base;simp[xX];omega⟩,⟨Env.oE.refl B E,rfl,rfl,rfl,gJ _,λ_ _ _=>rfl,λ_ _ _ h=>.inl h,?_⟩⟩
 ·exact {
   val:=λi ob h1 h2=>hs.heap.fy.val i ob (vV h1 h2) h2
   fJ:=λi b ob h1 h2=>hs.heap.fy.fJ i b ob (hg h1) (by obtain⟨ob2,_,h3,h4,_⟩:=h1;rw[h2]at h3;cases h3;exact vV h2 h4)
   sep:=λi b h1 h2=>hs.heap.fy.sep i b (hg h1) (h0 h2)
   inj:=λi j b h1 h2=>hs.heap.fy.inj i j b (hg h1) (hg h2)
   st:=λi b ob o u h1 h2 h3=>hs.heap.fy.st i b ob o u (hg h1) (by obtain⟨ob2,_,h4,h5,_⟩:=h1;rw[h2]at h4;cases h4;exact vV h2 h5) h3
   top:=λi ob k u h1 h2 h3=>hs.heap.fy.top i ob k u (vV h1 h2) h2 h3
   iL:=λi ob o t h1 h2 h3=>hs.heap.fy.iL i ob o t (vV h1 h2) h2 h3
   w6:=λi j b h1 h2=>hs.heap.fy.w6 i j b (hr h1) (hr h2) }
 ·rintro b (hb|⟨i,hb|hb⟩)
  ·exact .inr (.inl (h0 hb))
  ·exact .inr (.inr ⟨i,.inl (hg hb)⟩)
  ·exact .inr (.inr ⟨i,.inr (hr hb)⟩)
end Go.Ab
namespace Go.Wor
open Go.Ab Go.Proofs Tryz Go.Hy Go.Gat Go.Nam Go.Hos Go.Con Go.Sna
abbrev Ce(e:fx):C:=.agg (zS e)
abbrev m8:fF:=⟨0,0,0,0,0,0,0,⟨0,0,0,0,0,0⟩⟩
abbrev qH:fx:=⟨0,0,0,0,0,false,0,false,false,false,m8⟩
abbrev At(n:Int):fx:=⟨0,0,1,1,0,false,n,false,false,false,m8⟩
def ZU(r:C)(H':zl):Prop:=∃(b:Nat) (v0 v1 v2:Value),r=.v (.map (some b))/\H'=[Ch b [(0,v0,0),(1,v1,1),(2,v2,2)] 3 [.agg [.fn 222 [] []],.agg [.fn 224 [] []],.agg [.fn 225 [] []]]]
def SL:qs prog 181 [] [] ZU:=by
 refine qs.zI (fn:=f181) func181 rfl (uH ?_);intro b;refine dd ?_;refine jN.qu (id:=0) _ _ _ _ (.inr rfl) underlying280 underlying3 rfl rfl rfl rfl rfl ?_;intro v0;refine dd ?_;refine jN.qu (id:=0) _ _ _ _ (.inr rfl) underlying280 underlying3 rfl rfl rfl rfl rfl ?_;intro v1;refine dd ?_;refine jN.qu (id:=0) _ _ _ _ (.inr rfl) underlying280 underlying3 rfl rfl rfl rfl rfl ?_;intro v2;refine dd ?_;exact⟨.inl rfl,_,_,.refl _,rfl,b,v0,v1,v2,rfl,rfl⟩
def qe{P:Program}{f:FuncId}{fn:Func}{c:Code}{H H2:zl}{args:List C}{r:C}(hf:P.funcs[f]?=some fn)(hb:fn.body=some c)(hle:H.length<=H2.length)
 (h:wpA P H.length c (entry fn args) H λex t1 H1=>(ex=.ret\/ex=.normal)/\∃s2 r1,zp H.length ⟨t1,H1⟩ s2/\vJ P fn s2=some r1/\zp H.length ⟨[r1],s2.H⟩ ⟨[r],H2⟩):zb P f H args r H2:=λw E vs hh hl0=>by
 have h1:qs P f H args λr1 H1=>zp H.length ⟨[r1],H1⟩ ⟨[r],H2⟩:=qs.zI hf hb h
 refine(h1 w E vs hh hl0).mono ?_;rintro e w' ⟨r1,H1,v,E',hw,h0,h2,h3,g⟩;have hHH:H.length<=H1.length:=bT
 obtain⟨E2,hs,g2⟩:=hw 0 w' E' ⟨#[v],[]⟩ ⟨h2,LL.one h3,pb _,hHH⟩;have hn2:=hs.heap.n;refine⟨v,E2,h0,hs.heap,hs.tmps.cons_inv.1,⟨⟨by rw[hh.n,hn2];exact hle,λid hops hi=>?_,λid hops hi=>?_,λb o u hu=>g2.le.St _ _ _ (g.le.St _ _ _ hu),λid k u hi hu=>?_⟩,g2.os.trans g.os,g2.tape.trans g.tape,g2.output.trans g.output,pM g.size g2.size,?_,?_,?_⟩⟩
 ·rw[hh.n]at hi;exact(g2.le.β id hops hi).trans (g.le.β id hops tU)
 ·rw[hh.n]at hi;exact(g2.le.κ id hops hi).trans (g.le.κ id hops tU)
 ·rw[hh.n]at hi;exact g2.le.G id k u hi (g.le.G id k u tU hu)
 ·intro k hk ho;exact dj
 ·intro b o u hu;rcases g2.jS b o u hu with h1|h1|h1
  ·exact g.jS b o u h1
  ·exact .inr (.inl (pM g.size h1))
  ·rcases g.own b h1 with h4|h4
   ·exact .inr (.inl h4)
   ·exact .inr (.inr h4)
 ·intro b hb;rcases g2.own b hb with h1|h1
  ·exact .inl (pM g.size h1)
  ·exact g.own b h1
def aa{P:Program}{f:FuncId}{fn:Func}{c:Code}{H H2:zl}{args:List C}{r:C}{zQ:Prop}(hf:P.funcs[f]?=some fn)(z0:zQ)(hb:fn.body=some c:=by exact rfl)(hle:H.length<=H2.length:=by exact gJ _)(ze:zQ->wpA P H.length c (entry fn args) H λex t1 H1=>(ex=.ret\/ex=.normal)/\∃s2 r1,zp H.length ⟨t1,H1⟩ s2/\vJ P fn s2=some r1/\zp H.length ⟨[r1],s2.H⟩ ⟨[r],H2⟩:=by intro zh;(conv=>whnf);exact zh):zb P f H args r H2:=qe hf hb hle (ze z0)
def Hu(w:Wor)(m:fq):tn 223 [⟨1,38,8,[zU w],0⟩,⟨1,95,44,[zE (m)],0⟩] [.ref 0 [] 8 0 0] (Ce (At w.zr)) [⟨1,38,8,[zU w],0⟩,⟨1,95,44,[zE (m)],0⟩]:=by
 refine aa func223 ?_;exact cW
def Wb(w:Wor)(m:fq):tn 222 [⟨1,38,8,[zU w],0⟩,⟨1,95,44,[zE (m)],0⟩] tj (Ce (At w.zr)) [⟨1,38,8,[zU w],0⟩,⟨1,95,44,[zE ({ m with zr:=w.zr,pc:=1 })],0⟩]:=by
 refine aa func222 ?_;refine af [0,1] (Hu w { m with zr:=w.zr,pc:=1 }) ?_;exact cW
def Wc(w:Wor)(m:fq)(h0:0<=m.zf)(h1:m.zf<w.pins.length):tn 224 [⟨1,38,8,[[I w.zr,I w.current,I w.lock,.sl 2 [] 1 0 w.pins.length false,lV w.ze,lL w.zd,ig w.counts,lR w.zu]],0⟩,⟨1,95,44,[zE (m)],0⟩,⟨2,3,1,(w.pins).map encI,0⟩] tj (Ce ⟨0,0,2,2,0,false,IntKind.i64.wrap (m.zr+1),false,false,false,m8⟩) [⟨1,38,8,[[I w.zr,I w.current,I w.lock,.sl 2 [] 1 0 w.pins.length false,lV w.ze,lL w.zd,ig w.counts,lR w.zu]],0⟩,⟨1,95,44,[zE ({ m with pc:=2 })],0⟩,⟨2,3,1,(w.pins.set m.zf.toNat (IntKind.i64.wrap (m.zr+1))).map encI,0⟩]:=by
 have hs:(w.pins.map encI).set m.zf.toNat [I (IntKind.i64.wrap (m.zr+1))]=(w.pins.set m.zf.toNat (IntKind.i64.wrap (m.zr+1))).map encI:=bR
 rw[<-hs];have e1:0+m.zf.toNat=m.zf.toNat:=gN _;have hg:(w.pins.map encI)[m.zf.toNat]?=some (encI (w.pins[m.zf.toNat]'aw)):=by rw[gz,gp aw];rfl
 refine aa func224 ?_;refine uE ?_;refine⟨h0,aw,dd ?_⟩;rw[e1];refine⟨_,hg,rfl,dd ?_⟩;exact⟨.inl rfl,_,_,.refl _,rfl,cE 3⟩
def Wd(w:Wor)(m:fq):tn 225 [⟨1,38,8,[zU w],0⟩,⟨1,95,44,[zE (m)],0⟩] tj (Ce (At w.zr)) [⟨1,38,8,[zU w],0⟩,⟨1,95,44,[zE ({ m with zr:=w.zr,pc:=if w.zr=m.zr then 3 else 1 })],0⟩]:=by
 refine aa func225 ?_;refine uE ?_;refine⟨λh=>?_,λh=>?_⟩
 ·conv=>whnf
  rw[gC (pA h)];refine af [0,1] (Hu w { m with zr:=w.zr,pc:=3 }) ?_;exact cW
 ·conv=>whnf
  rw[gu (rD h)];refine af [0,1] (Hu w { m with zr:=w.zr,pc:=1 }) ?_;exact cW
abbrev PH:List C:=[.fn 222 [] []]
abbrev PI:List C:=[.fn 224 [] []]
abbrev PJ:List C:=[.fn 225 [] []]
abbrev iT:List C:=[I 0,I 0,I 0,.fp 1 0 [],.fp 1 0 [],.fp 1 0 [],.fp 1 0 [],.fp 1 0 []]
abbrev Qm:List C:=[I 0,Tx [],Tx [],Tx [],I 0,I 0,I 0,.fp 1 0 [],.fp 1 0 [],.fp 1 0 []]
abbrev iS:List C:=Qm++[I 0,I 0,I 0,I 0,I 0,I 0,I 0,I 0,I 0,U 0,I 0,I 0,I 0,I 0,Bo false]++yG m8++B1 ⟨0,0,0,0,0,0⟩
def Lk{P:Program}{f:FuncId}(sel:List Nat){K H0:zl}{args args0:List C}{R:C->zl->Prop}(h:qs P f H0 args0 R)(hR:∀r H',R r H'->qY H'=true)
 (hH:xA sel K=H0)(ha:args.map (xW sel 9)=args0)(qc:sel.all (λid=>Nat.blt id K.length)=true)(iv:yd sel=true)(ir:qY K=true){k:C->zl->Prop}
 (hk:∀r H',R r H'->AA (wc sel K H') λX=>qT (yP (jc sel K.length) 9 r) λc=>k c X):∃R',qs P f K args R'/\∀r H2,R' r H2->k r H2:=
 ⟨_,h.part sel hR hH ha qc iv ir,λr H2 ⟨r0,H',h1,h2,h3⟩=>by subst h2 h3;exact zQ (ve (k:=λX=>qT (yP (jc sel K.length) 9 r0) λc=>k c X) (hk r0 H' h1))⟩
def zb.BM{P:Program}{f:FuncId}{fn:Func}{c:Code}{args:List C}{r:C}(hf:P.funcs[f]?=some fn)(hb:fn.body=some c)
 (h:qX P 0 c ⟨entry fn args,[]⟩ λex s=>(ex=.ret\/ex=.normal)/\∃s2,zp 0 s s2/\(vJ P fn s2).map (yw 0 9)=some r):zb P f [] args r []:=by
 refine qs.I7 (qs.kQ (H:=[]) hf hb (h.mono λex s1 ⟨hex,s2,hw,h2⟩=>?_));cases h3:vJ P fn s2 with
 |none=>rw[h3]at h2;cases h2
 |some r0=>
  rw[h3]at h2;cases h2
  exact⟨hex,s2,r0,hw,h3,rfl⟩
def Iw(w:Wor)(m:fq)(j f:Nat)(R:Exit->S->Prop)(hf:∀v0 v1 v2,vL [(0,v0,0),(1,v1,1),(2,v2,2)] m.pc=some j)(hc:[C.agg PH,.agg PI,.agg PJ][j]?=some (.agg [.fn f [] []]))
 (hn:qX prog 0 (behind 2 ((f149.body).getD .skip)) ⟨(.za::.za::.ref 0 [] 8 0 0::.ref 1 [] 44 0 0::.ref 2 [] 8 0 0::.ref 3 [] 44 0 0::.ref 4 [] 23 0 0::.ref 5 [] 1 0 0::.v (.bool true)::mC (mC (mC ([.za,.za,.za,.za,.za,.za,.za])))),[⟨1,38,8,[zU w],0⟩,⟨1,95,44,[zE (m)],0⟩,⟨1,38,8,[iT],0⟩,⟨1,95,44,[iS],0⟩,⟨1,55,23,[zS qH],0⟩,⟨1,278,1,[[.fn f [] []]],0⟩]⟩ R):qX prog 0 ((f149.body).getD .skip) ⟨entry f149 [Cw w,Cm m],[]⟩ R:=by
 refine vH (uH ?_);refine .inl ⟨rfl,_,_,.refl _,vH (uH ?_)⟩;refine .inr ⟨⟨[2],[1],false⟩,au,λh=>absurd h ar,λt H=>qX prog 0 (behind 2 ((f149.body).getD .skip)) ⟨t,H⟩ R,uH ?_,λt2 H2 h=>.inl ⟨rfl,_,_,.refl _,h⟩⟩;(repeat' (first|(exact trivial)|(refine⟨λ_=>uH ?_,λh=>absurd h ar⟩)|(refine⟨λh=>absurd h ar,λ_=>uH ?_⟩)|(refine⟨(rfl:(_:zl)=_),uH ?_⟩)|(refine⟨(rfl:(_:Option Ob)=_),uH ?_⟩)|((refine Lk [] SL (λr H' ⟨b,v0,v1,v2,h1,h2⟩=>h2 ▸ rfl) rfl rfl rfl rfl rfl ?_;rintro _ _ ⟨b,v0,v1,v2,rfl,rfl⟩;(refine dd ?_)))|(refine⟨_,_,fE.DH (id:=5) _ _ _ _ rfl rfl rfl rfl rfl rfl rfl rfl rfl (hf _ _ _) hc,?_⟩;(refine dd ?_))|(refine⟨_,_,fE.DH (id:=6) _ _ _ _ rfl rfl rfl rfl rfl rfl rfl rfl rfl (hf _ _ _) hc,?_⟩;(refine dd ?_))|(refine And.intro ?_ ?_ <;> (conv=>whnf))))
 all_goals (first|exact⟨_,_,(zp.forget 5).trans ((zp.fD [0,1,2,3,4,6] [2,3,4,5,6,7,8] _ _ rfl rfl rfl rfl).trans (cC)),hn⟩|exact⟨_,_,(zp.forget 6).trans ((zp.fD [0,1,2,3,4,5] [2,3,4,5,6,7,8] _ _ rfl rfl rfl rfl).trans (cC)),hn⟩)
abbrev Ai(m:fq)(e:fx):fx:={ e with zf:=m.zf,version:= -1 }
def Ua(w:Wor)(m:fq)(sw:jf w)(ok:iC w)(hl:i64 m.listen)(hpc:m.pc=0)(hs:z7 w m=true):
  tn 149 [] [Cw w,Cm m] (.fC [Cw w,Cm { m with zr:=w.zr,pc:=1 },Ce (Ai m (At w.zr))]) []:=by
 refine zb.BM func149 rfl (Iw w m 0 222 _ (λ_ _ _=>by rw[hpc];rfl) rfl ?_);(refine jD (K:=λex t H=>(ex=.ret\/ex=.normal)/\∃s2,zp 0 ⟨t,H⟩ s2/\(vJ prog f149 s2).map (yw 0 9)=some (.fC [Cw w,Cm { m with zr:=w.zr,pc:=1 },Ce (Ai m (At w.zr))])) (uH ?_))
 refine tc ?_
 refine ah (zR w m ok hl) ?_;refine⟨λ_=>dd ?_,λh=>absurd ((hs).symm.trans h:true=false) ar⟩;refine tc ?_
 refine ah (qE w sw) ?_;refine af [0,1] (Wb w m) ?_;refine .inl ⟨⟨false,[1,2],[1,6],[]⟩,au,uH ?_⟩;refine hZ ?_
 exact uI
def Uc(w:Wor)(m:fq)(sw:jf w)(ok:iC w)(hl:i64 m.listen)(hpc:m.pc=2)(hs:z7 w m=true):
  tn 149 [] [Cw w,Cm m] (.fC [Cw w,Cm { m with zr:=w.zr,pc:=if w.zr=m.zr then 3 else 1 },Ce (Ai m (At w.zr))]) []:=by
 refine zb.BM func149 rfl (Iw w m 2 225 _ (λ_ _ _=>by rw[hpc];rfl) rfl ?_);(refine jD (K:=λex t H=>(ex=.ret\/ex=.normal)/\∃s2,zp 0 ⟨t,H⟩ s2/\(vJ prog f149 s2).map (yw 0 9)=some (.fC [Cw w,Cm { m with zr:=w.zr,pc:=if w.zr=m.zr then 3 else 1 },Ce (Ai m (At w.zr))])) (uH ?_))
 refine tc ?_
 refine ah (zR w m ok hl) ?_;refine⟨λ_=>dd ?_,λh=>absurd ((hs).symm.trans h:true=false) ar⟩;refine tc ?_
 refine ah (qE w sw) ?_;refine af [0,1] (Wd w m) ?_;refine .inl ⟨⟨false,[1,2],[1,6],[]⟩,au,uH ?_⟩;refine hZ ?_
 exact uI
abbrev oU(w:Wor)(t:Nat)(n:Int):Wor:={ w with pins:=w.pins.set t n }
def Ub(w:Wor)(m:fq)(sw:jf w)(ok:iC w)(hl:i64 m.listen)(hpc:m.pc=1)(hs:z7 w m=true):
  tn 149 [] [Cw w,Cm m] (.fC [Cw (oU w m.zf.toNat (IntKind.i64.wrap (m.zr+1))),Cm { m with pc:=2 },Ce (Ai m ⟨0,0,2,2,0,false,IntKind.i64.wrap (m.zr+1),false,false,false,m8⟩)]) []:=by
 obtain⟨v,g,e,su⟩:=yL hs
 obtain⟨x,l,hx⟩:∃x l,w.pins=x::l:=by
  cases h:w.pins with
  |nil=>have:=su.zf;rw[h]at this;exact de
  |cons x l=>exact⟨x,l,rfl⟩
 refine zb.BM func149 rfl (Iw w m 1 224 _ (λ_ _ _=>by rw[hpc];rfl) rfl ?_);(refine jD (K:=λex t H=>(ex=.ret\/ex=.normal)/\∃s2,zp 0 ⟨t,H⟩ s2/\(vJ prog f149 s2).map (yw 0 9)=some (.fC [Cw (oU w m.zf.toNat (IntKind.i64.wrap (m.zr+1))),Cm { m with pc:=2 },Ce (Ai m ⟨0,0,2,2,0,false,IntKind.i64.wrap (m.zr+1),false,false,false,m8⟩)])) (uH ?_))
 refine tc ?_
 refine ah (zR w m ok hl) ?_;refine⟨λ_=>dd ?_,λh=>absurd ((hs).symm.trans h:true=false) ar⟩;refine tc ?_
 refine af [] (KQ w sw x l hx) ?_;refine af [0,1,6] (Wc w m su.zf.1 su.zf.2) ?_;refine .inl ⟨⟨false,[1,2],[1,7],[]⟩,au,uH ?_⟩;refine hZ ?_
 exact⟨.inl rfl,_,zp.zV 2 0 3 rfl rfl rfl rfl (.inr rfl) aj aj (shut_map (enc:=encI) (λ_=>rfl) _) (z6 rfl),rfl⟩
abbrev EH(m:fq):fx:=Ai m ⟨0,0,2,2,0,false,0,false,false,false,m8⟩
def Wy(w:Wor)(m:fq)(sw:jf w)(ok:iC w)(hl:i64 m.listen)(hs:z7 w m=true):
  tn 238 [] [Cw w,Cm m] (.fC [Cw (oU w m.zf.toNat 0),Ce (EH m)]) []:=by
 obtain⟨v,g,e,su⟩:=yL hs
 obtain⟨x,l,hx⟩:∃x l,w.pins=x::l:=by
  cases h:w.pins with
  |nil=>have:=su.zf;rw[h]at this;exact de
  |cons x l=>exact⟨x,l,rfl⟩
 have e1:0+m.zf.toNat=m.zf.toNat:=gN _;have h0:=su.zf.1;have h1:=su.zf.2;have hst:(w.pins.map encI).set m.zf.toNat [I 0]=(w.pins.set m.zf.toNat 0).map encI:=bR
 have hg:(w.pins.map encI)[m.zf.toNat]?=some (encI (w.pins[m.zf.toNat]'aw)):=by rw[gz,gp aw];rfl
 refine ab func238 ?_;refine ah (zR w m ok hl) ?_;refine⟨λ_=>dd ?_,λh=>absurd ((hs).symm.trans h:true=false) ar⟩;refine tc ?_
 refine af [] (KQ w sw x l hx) ?_;refine⟨h0,aw,dd ?_⟩;rw[e1];refine⟨_,hg,rfl,dd ?_⟩;rw[hst];refine .inl ⟨⟨false,[2],[1],[]⟩,au,uH ?_⟩;refine hZ ?_
 exact⟨.inl rfl,_,zp.zV 2 0 3 rfl rfl rfl rfl (.inr rfl) aj aj (shut_map (enc:=encI) (λ_=>rfl) _) (z6 rfl),rfl⟩
def kX(x:nv)(k n:Int):nv:=
 if k=0 then { x with c0:=IntKind.u64.wrap (x.c0+n) } else if k=1 then { x with c1:=IntKind.u64.wrap (x.c1+n) } else if k=2 then { x with c2:=IntKind.u64.wrap (x.c2+n) }
 else if k=3 then { x with c3:=IntKind.u64.wrap (x.c3+n) } else if k=4 then { x with c4:=IntKind.u64.wrap (x.c4+n) } else { x with c5:=IntKind.u64.wrap (x.c5+n) }
def TZ(x:nv)(k n:Int)(h0:0<=k)(h6:k<6):tn 172 [] [.agg (B1 x),I k,U n] (.agg (B1 (kX x k n))) []:=by
 obtain⟨a,b,c,d,e,f⟩:=x;obtain rfl|rfl|rfl|rfl|rfl|rfl:k=0\/k=1\/k=2\/k=3\/k=4\/k=5:=aw
 all_goals
  refine ab func172 ?_;(refine⟨ar,ar,dd ?_⟩);(refine⟨ar,ar,dd ?_⟩);exact uI
def jv(w:Wor)(m:fq)(n:Int):fq:=
 let m1:fq:={ m with counts:=kX m.counts m.k n,k:=m.k+1 }
 let m2:fq:=if m.k+1=6 then { m1 with i:=m.i+1,k:=0 } else m1
 if m2.i=w.counts.length then { m2 with done:=true,answer:=⟨13,0,0,0,0,0,0,m2.counts⟩ } else m2
def CU(w:Wor)(m:fq)(n:Int):fx:={ qH with zf:=m.zf,access:=1,cell:=10,version:= -1,value:=m.k,done:=(jv w m n).done,answer:=if (jv w m n).done then (jv w m n).answer else m8 }
structure PC(w:Wor)(m:fq)(r:List Int)(n:Int):Prop where
 i0:0<=m.i
 at_:w.counts[m.i.toNat]?=some r
 k0:0<=m.k
 k6:m.k<6
 row:r[m.k.toNat]?=some n
abbrev zxa(m:fq)(n:Int):fq:={ m with counts:=kX m.counts m.k n,k:=m.k+1 }
abbrev zxb(m:fq)(n:Int):fq:={ m with counts:=kX m.counts m.k n,k:=0,i:=m.i+1 }
abbrev zxc(m:fq)(n:Int):fq:={ m with counts:=kX m.counts m.k n,k:=0,i:=m.i+1,done:=true,answer:=⟨13,0,0,0,0,0,0,kX m.counts m.k n⟩ }
def IE{w:Wor}{m:fq}{n:Int}(h:m.k+1≠6)(hi:m.i≠w.counts.length):jv w m n=zxa m n:=by
 unfold jv;dsimp only;rw[gu h];exact gu hi
def IF{w:Wor}{m:fq}{n:Int}(h:m.k+1=6)(hi:m.i+1≠w.counts.length):jv w m n=zxb m n:=by
 unfold jv;dsimp only;rw[gC h];exact gu hi
def IG{w:Wor}{m:fq}{n:Int}(h:m.k+1=6)(hi:m.i+1=w.counts.length):jv w m n=zxc m n:=by
 unfold jv;dsimp only;rw[gC h];exact gC hi
abbrev OJ(m:fq):fx:={ qH with zf:=m.zf,access:=1,cell:=10,version:= -1,value:=m.k }
def Nz{w:Wor}{m:fq}{n:Int}(h:(jv w m n).done=false):CU w m n=OJ m:=by
 unfold CU;rw[h]
 rfl
def VF{w:Wor}{m:fq}{n:Int}(h:(jv w m n).done=true):CU w m n={ OJ m with done:=true,answer:=(jv w m n).answer }:=by
 unfold CU;rw[h]
 rfl
def SD(w:Wor)(m:fq)(r:List Int)(n:Int)(sw:jf w)(ok:iC w)(hl:i64 m.listen)(hpc:m.pc=0)(hs:z7 w m=true)(hd:m.done=false)(hc:PC w m r n)(ha:m.answer=m8):
  tn 131 [] [Cw w,Cm m] (.fC [Cw w,Cm (jv w m n),Ce (CU w m n)]) []:=by
 have i0:=hc.i0;have k0:=hc.k0;have hi:m.i.toNat<w.counts.length:=(gm.1 hc.at_).1;have ml:(w.counts.map zP).length=w.counts.length:=gE ..;have cr:(w.counts.map zP)[m.i.toNat]?=some (zP r):=by rw[gz,hc.at_];rfl
 have cn:(r.map jW)[m.k.toNat]?=some (jW n):=by rw[gz,hc.row];rfl
 refine ab func131 ?_;refine⟨λh=>absurd h (by simp[hpc]),λ_=>dd ?_⟩;refine⟨λh=>absurd h (by have:=hc.k6;simp;omega),λ_=>dd ?_⟩;rw[ml];refine⟨λh=>absurd h aA,λ_=>dd ?_⟩;refine ah (zR w m ok hl) ?_;refine⟨λ_=>dd ?_,λh=>absurd ((hs).symm.trans h:true=false) ar⟩;refine tc ?_
 refine .inl ⟨⟨true,[],[],[14]⟩,au,uH ?_⟩;(refine⟨i0,_,cr,dd ?_⟩)
 (refine⟨k0,_,cn,dd ?_⟩)
 refine ah (TZ m.counts m.k n k0 hc.k6) ?_;refine hZ ?_
 rw[show IntKind.i64.wrap (m.k+1)=m.k+1 from qd aw (by have:=hc.k6;omega)];refine⟨λh6=>?_,λh6=>?_⟩
 ·have g6:m.k+1=6:=by simpa using h6
  refine dd ?_;rw[show IntKind.i64.wrap (m.i+1)=m.i+1 from qd aw (by have:=sw.counts.1;omega)];rw[ml];refine⟨λh7=>?_,λh7=>?_⟩
  ·have g7:m.i+1=w.counts.length:=by simpa using h7
   rw[VF (by rw[IG g6 g7]),IG g6 g7];refine dd ?_;refine .inl ⟨⟨false,[1],[1],[]⟩,au,uH ?_⟩;refine hZ ?_
   exact dU
  ·have g7:m.i+1≠w.counts.length:=by simpa using h7
   rw[Nz (by rw[IF g6 g7];exact hd),IF g6 g7];refine dd ?_;exact dU
 ·have g6:m.k+1≠6:=by simpa using h6
  have g7:m.i≠w.counts.length:=aw
  rw[Nz (by rw[IE g6 g7];exact hd),IE g6 g7];refine dd ?_;rw[ml];refine⟨λh=>absurd h (aq g7),λ_=>dd ?_⟩;exact dU
end Go.Wor
