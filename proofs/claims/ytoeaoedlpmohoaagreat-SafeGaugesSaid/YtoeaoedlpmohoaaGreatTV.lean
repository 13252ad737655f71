import Derived.Test.YtoeaoedlpmohoaaGreatTU
set_option linter.all false
set_option maxRecDepth 100000
set_option maxHeartbeats 4000000
namespace Go.Wor
open Go.Ab Go.Proofs Tryz Go.Hy Go.Gat Go.Nam Go.Hos Go.Con Go.Sna
abbrev Cm(m:fi):C:=.agg (mC m)
def qd(w:Wor)(m:fi):Bool:=x6 w && lf m.zf w.pins.length && !m.done && lf m.version w.zd.length && (match w.zd[m.version.toNat]? with
 |none=>false
 |some v=>lf m.zg v.zo.length && (match v.zo[m.zg.toNat]? with
  |none=>false
  |some g=>lf m.end_ g.ends.length && lf m.other g.ends.length && (match g.ends[m.end_.toNat]? with
   |none=>false
   |some e=>lf m.slot e.next.length) && (lf (m.listen+1) (w.ze.length+1) && decide (0<=m.i) && decide (0<=m.k))))
def vN{i n:Int}:lf i n=true↔0<=i/\i<n:=by unfold lf;simp
structure qS(w:Wor)(m:fi)(v:fp)(g:Gr)(e:En):Prop where
 world:x6 w=true
 zf:0<=m.zf/\m.zf<w.pins.length
 done:m.done=false
 version:0<=m.version/\m.version<w.zd.length
 fN:w.zd[m.version.toNat]?=some v
 zg:0<=m.zg/\m.zg<v.zo.length
 fG:v.zo[m.zg.toNat]?=some g
 end_ : 0 <= m.end_ /\ m.end_<g.ends.length
 fP:g.ends[m.end_.toNat]?=some e
 other:0<=m.other/\m.other<g.ends.length
 slot:0<=m.slot/\m.slot<e.next.length
 listen: -1<=m.listen/\m.listen<w.ze.length
 i:0<=m.i
 k:0<=m.k
def x5{w:Wor}{m:fi}(h:qd w m=true):∃v g e,qS w m v g e:=by
 unfold qd at h;simp only[gA,pJ,vN]at h;obtain⟨⟨⟨⟨h1,h2⟩,h3⟩,h4⟩,h5⟩:=h;split at h5
 ·cases h5
 rename_i v hv;simp only[gA,vN]at h5;obtain⟨h5,h6⟩:=h5;split at h6
 ·cases h6
 rename_i g hg;simp only[gA,vN,gH]at h6;obtain⟨⟨⟨h6,h7⟩,h8⟩,⟨h9,h10⟩,h11⟩:=h6;split at h8
 ·cases h8
 rename_i e he;simp only[vN]at h8;exact⟨v,g,e,h1,h2,h3,h4,hv,h5,hg,h6,he,h7,h8,aw,h10,h11⟩
def zP(w:Wor)(m:fi)(hw:ir w)(hm:i64 m.listen):tj 150 [] [Cw w,Cm m] (Bo (qd w m)) []:=by
 have m1:(w.pins.map encI).length=w.pins.length:=gu ..;have m2:(w.zd.map zH).length=w.zd.length:=gu ..;have m3:(w.ze.map qP).length=w.ze.length:=gu ..;have b3:=hw.ze.1;have el:IntKind.i64.wrap ((w.ze.length:Int)+1)=(w.ze.length:Int)+1:=jx aw aw
 have el2:lf (IntKind.i64.wrap (m.listen+1)) ((w.ze.length:Int)+1)=lf (m.listen+1) ((w.ze.length:Int)+1):=by
  by_cases hh:m.listen<=9223372036854775806
  ·rw[jx (by have:=hm.1;omega) aw]
  ·have h9:m.listen=9223372036854775807:=by have:=hm.2;omega
   rw[h9];have h10:IntKind.i64.wrap (9223372036854775807+1)= -9223372036854775808:=ar
   rw[h10];unfold lf;rw[show decide ((0:Int)<= -9223372036854775808)=false from J,show decide ((9223372036854775807:Int)+1<(w.ze.length:Int)+1)=false from aA];simp
 refine ab func150 ?_;refine ah (RH w hw) ?_;refine⟨λh1=>?_,λh1=>?_⟩
 rotate_left
 ·(have e:qd w m=false:=by (unfold qd;(rw[h1]);simp));exact dT
 refine dd ?_;rw[m1];refine ah (BZ m.zf w.pins.length) ?_;refine⟨λh2=>?_,λh2=>?_⟩
 rotate_left
 ·(have e:qd w m=false:=by (unfold qd;(rw[h2]);simp));exact dT
 refine dd ?_;refine⟨λh3=>?_,λh3=>?_⟩
 ·(have e:qd w m=false:=by (unfold qd;(rw[h3]);simp));exact dT
 refine dd ?_;rw[m2];refine ah (BZ m.version w.zd.length) ?_;refine⟨λh4=>?_,λh4=>?_⟩
 rotate_left
 ·(have e:qd w m=false:=by (unfold qd;(rw[h4]);simp));exact dT
 obtain⟨c0,c1⟩:=vN.1 h4;have hv:w.zd[m.version.toNat]?=some (w.zd[m.version.toNat]'aw):=dX _;generalize w.zd[m.version.toNat]'aw=v at hv;have gv:(w.zd.map zH)[m.version.toNat]?=some (zH v):=by rw[gf,hv];rfl
 have m4:(v.zo.map zE).length=v.zo.length:=gu ..
 have g0:qd w m=(lf m.zg v.zo.length && (match v.zo[m.zg.toNat]? with
  |none=>false
  |some g=>lf m.end_ g.ends.length && lf m.other g.ends.length && (match g.ends[m.end_.toNat]? with
   |none=>false
   |some e=>lf m.slot e.next.length) && (lf (m.listen+1) (w.ze.length+1) && decide (0<=m.i) && decide (0<=m.k)))):=by
  unfold qd;rw[h1,h2,h3,h4,hv]
  rfl
 rw[g0];refine dd ?_;refine hZ ?_
 refine⟨c0,_,gv,dd ?_⟩;rw[m4];refine ah (BZ m.zg v.zo.length) ?_;refine⟨λh5=>?_,λh5=>?_⟩
 rotate_left
 ·rw[h5];refine dd ?_;refine hZ ?_
  exact uI
 obtain⟨c2,c3⟩:=vN.1 h5;have hg:v.zo[m.zg.toNat]?=some (v.zo[m.zg.toNat]'aw):=dX _;generalize v.zo[m.zg.toNat]'aw=g at hg;have gg:(v.zo.map zE)[m.zg.toNat]?=some (zE g):=by rw[gf,hg];rfl
 have m5:(g.ends.map zA).length=g.ends.length:=gu ..;rw[h5,hg];dsimp only;refine dd ?_;refine hZ ?_
 refine⟨c2,_,gg,dd ?_⟩;refine uE ?_;rw[m5];refine ah (BZ m.end_ g.ends.length) ?_;refine⟨λh6=>?_,λh6=>?_⟩
 rotate_left
 ·rw[h6];refine dd ?_;refine hZ ?_
  exact uI
 obtain⟨c4,c5⟩:=vN.1 h6;have he:g.ends[m.end_.toNat]?=some (g.ends[m.end_.toNat]'aw):=dX _;generalize g.ends[m.end_.toNat]'aw=e at he;have ge:(g.ends.map zA)[m.end_.toNat]?=some (zA e):=by rw[gf,he];rfl
 have m6:(e.next.map encI).length=e.next.length:=gu ..;rw[h6,he];dsimp only;refine dd ?_;rw[m5];refine ah (BZ m.other g.ends.length) ?_;refine⟨λh7=>?_,λh7=>?_⟩
 rotate_left
 ·rw[h7];refine dd ?_;refine hZ ?_
  exact uI
 rw[h7];refine dd ?_;refine⟨c4,_,ge,dd ?_⟩;rw[m6];refine ah (BZ m.slot e.next.length) ?_;refine⟨λh8=>?_,λh8=>?_⟩
 rotate_left
 ·rw[h8];refine dd ?_;refine hZ ?_
  exact uI
 rw[h8];refine dd ?_;refine hZ ?_
 rw[m3,el];have hin:=BZ (IntKind.i64.wrap (m.listen+1)) ((w.ze.length:Int)+1);rw[el2]at hin;refine ah hin ?_;refine⟨λh9=>?_,λh9=>?_⟩
 rotate_left
 ·rw[h9];refine dd ?_;refine hZ ?_
  exact uI
 rw[h9];refine dd ?_;refine⟨λh10=>?_,λh10=>?_⟩
 rotate_left
 ·refine dd ?_;refine hZ ?_
  (exact⟨.inl J,_,.refl _,uN (by symm;simp at h10 ⊢;omega)⟩)
 refine dd ?_;refine⟨λh11=>?_,λh11=>?_⟩
 ·refine dd ?_;refine hZ ?_
  (exact⟨.inl J,_,.refl _,uN (by symm;simp at h10 h11 ⊢;omega)⟩)
 ·refine dd ?_;refine hZ ?_
  (exact⟨.inl J,_,.refl _,uN (by symm;simp at h10 h11 ⊢;omega)⟩)
end Go.Wor
namespace Go.Ab
def kq{H:zm}{id i:Nat}{ob:Ob}(h:(jP H id)[i]?=some ob)(hk:ob.kind=4):H[i]?=some ob:=by
 rw[yA]at h;cases hx:H[i]? with
 |none=>rw[hx]at h;cases h
 |some o=>
  rw[hx]at h;simp only[gF,gQ]at h;split at h
  ·subst h;cases hk
  ·rw[h]
def zq.forget{B:Nat}{s:S}(id:Nat):zq B s ⟨s.tmps,jP s.H id⟩:=λm w E a hs=>by
 have hg:∀{i b},qL E (jP s.H id) i b->qL E s.H i b:=λ⟨ob,cap,h1,h2,h3,h4⟩=>⟨ob,cap,kq h1 h2,h2,h3,h4⟩
 have hr:∀{i b},jM (jP s.H id) i b->jM s.H i b:=λ⟨ob,o,t,h1,h2,h3,h4⟩=>⟨ob,o,t,kq h1 h2,h2,h3,h4⟩
 have h0:∀{b},jk E (jP s.H id) b->jk E s.H b:=λ⟨i,p,x,h1,h2⟩=>⟨i,p,x,(vh h1).2,h2⟩
 refine⟨E,⟨⟨hs.heap.base.kill id,?_⟩,hs.tmps,hs.defers,by have:=hs.base;simp[jP];omega⟩,⟨Env.oX.refl B E,rfl,rfl,rfl,gC _,λ_ _ _=>J,λ_ _ _ h=>.inl h,?_⟩⟩
 ·exact {
   val:=λi ob h1 h2=>hs.heap.fm.val i ob (kq h1 h2) h2
   fD:=λi b ob h1 h2=>hs.heap.fm.fD i b ob (hg h1) (by obtain⟨ob2,_,h3,h4,_⟩:=h1;rw[h2]at h3;cases h3;exact kq h2 h4)
   sep:=λi b h1 h2=>hs.heap.fm.sep i b (hg h1) (h0 h2)
   inj:=λi j b h1 h2=>hs.heap.fm.inj i j b (hg h1) (hg h2)
   st:=λi b ob o u h1 h2 h3=>hs.heap.fm.st i b ob o u (hg h1) (by obtain⟨ob2,_,h4,h5,_⟩:=h1;rw[h2]at h4;cases h4;exact kq h2 h5) h3
   top:=λi ob k u h1 h2 h3=>hs.heap.fm.top i ob k u (kq h1 h2) h2 h3
   iD:=λi ob o t h1 h2 h3=>hs.heap.fm.iD i ob o t (kq h1 h2) h2 h3
   lb:=λi j b h1 h2=>hs.heap.fm.lb i j b (hr h1) (hr h2)}
 ·rintro b (hb|⟨i,hb|hb⟩)
  ·exact .inr (.inl (h0 hb))
  ·exact .inr (.inr ⟨i,.inl (hg hb)⟩)
  ·exact .inr (.inr ⟨i,.inr (hr hb)⟩)
end Go.Ab
namespace Go.Wor
open Go.Ab Go.Proofs Tryz Go.Hy Go.Gat Go.Nam Go.Hos Go.Con Go.Sna
abbrev Ce(e:fk):C:=.agg (jO e)
abbrev nh:fA:=⟨0,0,0,0,0,0,0,⟨0,0,0,0,0,0⟩⟩
abbrev qG:fk:=⟨0,0,0,0,0,false,0,false,false,false,nh⟩
abbrev AV(n:Int):fk:=⟨0,0,1,1,0,false,n,false,false,false,nh⟩
def zxy(r:C)(H':zm):Prop:=∃(b:Nat) (v0 v1 v2:Value),r=.v (.map (some b))/\H'=[iF b [(0,v0,0),(1,v1,1),(2,v2,2)] 3 [.agg [.fn 222 [] []],.agg [.fn 224 [] []],.agg [.fn 225 [] []]]]
def Tq:qI prog 181 [] [] zxy:=by
 refine qI.zL (fn:=f181) func181 J (uH ?_);intro b;refine dd ?_;refine qT.qo (id:=0) _ _ _ _ (.inr J) underlying280 underlying3 J J J J J ?_;intro v0;refine dd ?_;refine qT.qo (id:=0) _ _ _ _ (.inr J) underlying280 underlying3 J J J J J ?_;intro v1;refine dd ?_;refine qT.qo (id:=0) _ _ _ _ (.inr J) underlying280 underlying3 J J J J J ?_;intro v2;refine dd ?_;exact⟨.inl J,_,_,.refl _,rfl,b,v0,v1,v2,rfl,rfl⟩
def qk{P:Program}{f:FuncId}{fn:Func}{c:Code}{H H2:zm}{args:List C}{r:C}(hf:P.funcs[f]?=some fn)(hb:fn.body=some c)(hle:H.length<=H2.length)
 (h:wpA P H.length c (entry fn args) H λex t1 H1=>(ex=.ret\/ex=.normal)/\∃s2 r1,zq H.length ⟨t1,H1⟩ s2/\kB P fn s2=some r1/\zq H.length ⟨[r1],s2.H⟩ ⟨[r],H2⟩):zb P f H args r H2:=λw E vs hh hl0=>by
 have h1:qI P f H args λr1 H1=>zq H.length ⟨[r1],H1⟩ ⟨[r],H2⟩:=qI.zL hf hb h
 refine(h1 w E vs hh hl0).mono ?_;rintro e w' ⟨r1,H1,v,E',hw,h0,h2,h3,g⟩;have hHH:H.length<=H1.length:=bT
 obtain⟨E2,hs,g2⟩:=hw 0 w' E' ⟨#[v],[]⟩ ⟨h2,LL.one h3,gV _,hHH⟩;have hn2:=hs.heap.n;refine⟨v,E2,h0,hs.heap,hs.tmps.cons_inv.1,⟨⟨by rw[hh.n,hn2];exact hle,λid hops hi=>?_,λid hops hi=>?_,λb o u hu=>g2.le.St _ _ _ (g.le.St _ _ _ hu),λid k u hi hu=>?_⟩,g2.os.trans g.os,g2.tape.trans g.tape,g2.output.trans g.output,pA g.size g2.size,?_,?_,?_⟩⟩
 ·rw[hh.n]at hi;exact(g2.le.β id hops hi).trans (g.le.β id hops tO)
 ·rw[hh.n]at hi;exact(g2.le.κ id hops hi).trans (g.le.κ id hops tO)
 ·rw[hh.n]at hi;exact g2.le.G id k u hi (g.le.G id k u tO hu)
 ·intro k hk ho;exact da
 ·intro b o u hu;rcases g2.jX b o u hu with h1|h1|h1
  ·exact g.jX b o u h1
  ·exact .inr (.inl (pA g.size h1))
  ·rcases g.own b h1 with h4|h4
   ·exact .inr (.inl h4)
   ·exact .inr (.inr h4)
 ·intro b hb;rcases g2.own b hb with h1|h1
  ·exact .inl (pA g.size h1)
  ·exact g.own b h1
def aa{P:Program}{f:FuncId}{fn:Func}{c:Code}{H H2:zm}{args:List C}{r:C}{zQ:Prop}(hf:P.funcs[f]?=some fn)(z0:zQ)(hb:fn.body=some c:=by exact J)(hle:H.length<=H2.length:=by exact gC _)(ze:zQ->wpA P H.length c (entry fn args) H λex t1 H1=>(ex=.ret\/ex=.normal)/\∃s2 r1,zq H.length ⟨t1,H1⟩ s2/\kB P fn s2=some r1/\zq H.length ⟨[r1],s2.H⟩ ⟨[r],H2⟩:=by intro zh;(conv=>whnf);exact zh):zb P f H args r H2:=qk hf hb hle (ze z0)
def HW(w:Wor)(m:fi):tj 223 [oW w,oM m] [.ref 0 [] 8 0 0] (Ce (AV w.zl)) [oW w,oM m]:=by
 refine aa func223 ?_;exact cN
def Wt(w:Wor)(m:fi):tj 222 [oW w,oM m] tf (Ce (AV w.zl)) [oW w,oM ({m with zl:=w.zl,pc:=1})]:=by
 refine aa func222 ?_;refine af [0,1] (HW w {m with zl:=w.zl,pc:=1}) ?_;exact cN
def Wu(w:Wor)(m:fi)(h0:0<=m.zf)(h1:m.zf<w.pins.length):tj 224 [⟨1,38,8,[[I w.zl,I w.current,I w.lock,.sl 2 [] 1 0 w.pins.length false,lV w.zd,lL w.ze,fU w.counts,lR w.zp]],0⟩,oM m,⟨2,3,1,(w.pins).map encI,0⟩] tf (Ce ⟨0,0,2,2,0,false,IntKind.i64.wrap (m.zl+1),false,false,false,nh⟩) [⟨1,38,8,[[I w.zl,I w.current,I w.lock,.sl 2 [] 1 0 w.pins.length false,lV w.zd,lL w.ze,fU w.counts,lR w.zp]],0⟩,oM ({m with pc:=2}),⟨2,3,1,(w.pins.set m.zf.toNat (IntKind.i64.wrap (m.zl+1))).map encI,0⟩]:=by
 have hs:(w.pins.map encI).set m.zf.toNat [I (IntKind.i64.wrap (m.zl+1))]=(w.pins.set m.zf.toNat (IntKind.i64.wrap (m.zl+1))).map encI:=bR
 rw[<-hs];have e1:0+m.zf.toNat=m.zf.toNat:=gP _;have hg:(w.pins.map encI)[m.zf.toNat]?=some (encI (w.pins[m.zf.toNat]'aw)):=by rw[gf,dX aw];rfl
 refine aa func224 ?_;refine uE ?_;refine⟨h0,aw,dd ?_⟩;rw[e1];refine⟨_,hg,rfl,dd ?_⟩;exact⟨.inl J,_,_,.refl _,rfl,cE 3⟩
def Wv(w:Wor)(m:fi):tj 225 [oW w,oM m] tf (Ce (AV w.zl)) [oW w,oM ({m with zl:=w.zl,pc:=if w.zl=m.zl then 3 else 1})]:=by
 refine aa func225 ?_;refine uE ?_;refine⟨λh=>?_,λh=>?_⟩
 ·conv=>whnf
  rw[gh (gJ h)];refine af [0,1] (HW w {m with zl:=w.zl,pc:=3}) ?_;exact cN
 ·conv=>whnf
  rw[dZ (ru h)];refine af [0,1] (HW w {m with zl:=w.zl,pc:=1}) ?_;exact cN
abbrev Qo:List C:=[.fn 222 [] []]
abbrev Qp:List C:=[.fn 224 [] []]
abbrev Qq:List C:=[.fn 225 [] []]
abbrev iQ:List C:=[I 0,I 0,I 0,.fh 1 0 [],.fh 1 0 [],.fh 1 0 [],.fh 1 0 [],.fh 1 0 []]
abbrev QM:List C:=[I 0,Tx [],Tx [],Tx [],I 0,I 0,I 0,.fh 1 0 [],.fh 1 0 [],.fh 1 0 []]
abbrev iP:List C:=QM++[I 0,I 0,I 0,I 0,I 0,I 0,I 0,I 0,I 0,U 0,I 0,I 0,I 0,I 0,Bo false]++xk nh++BW ⟨0,0,0,0,0,0⟩
def L4{P:Program}{f:FuncId}(sel:List Nat){K H0:zm}{args args0:List C}{R:C->zm->Prop}(h:qI P f H0 args0 R)(hR:∀r H',R r H'->qt H'=true)
 (hH:xC sel K=H0)(ha:args.map (xO sel 9)=args0)(z8:sel.all (λid=>Nat.blt id K.length)=true)(iw:yl sel=true)(fW:qt K=true){k:C->zm->Prop}
 (hk:∀r H',R r H'->BM (wC sel K H') λX=>qR (vn (jf sel K.length) 9 r) λc=>k c X):∃R',qI P f K args R'/\∀r H2,R' r H2->k r H2:=
 ⟨_,h.part sel hR hH ha z8 iw fW,λr H2 ⟨r0,H',h1,h2,h3⟩=>by subst h2 h3;exact zO (kU (k:=λX=>qR (vn (jf sel K.length) 9 r0) λc=>k c X) (hk r0 H' h1))⟩
def zb.BH{P:Program}{f:FuncId}{fn:Func}{c:Code}{args:List C}{r:C}(hf:P.funcs[f]?=some fn)(hb:fn.body=some c)
 (h:qU P 0 c ⟨entry fn args,[]⟩ λex s=>(ex=.ret\/ex=.normal)/\∃s2,zq 0 s s2/\(kB P fn s2).map (xz 0 9)=some r):zb P f [] args r []:=by
 refine qI.JH (qI.o7 (H:=[]) hf hb (h.mono λex s1 ⟨hex,s2,hw,h2⟩=>?_));cases h3:kB P fn s2 with
 |none=>rw[h3]at h2;cases h2
 |some r0=>
  rw[h3]at h2;cases h2
  exact⟨hex,s2,r0,hw,h3,rfl⟩
def II(w:Wor)(m:fi)(j f:Nat)(R:Exit->S->Prop)(hf:∀v0 v1 v2,xt [(0,v0,0),(1,v1,1),(2,v2,2)] m.pc=some j)(hc:[C.agg Qo,.agg Qp,.agg Qq][j]?=some (.agg [.fn f [] []]))
 (hn:qU prog 0 (behind 2 ((f149.body).getD .skip)) ⟨(.za::.za::.ref 0 [] 8 0 0::.ref 1 [] 44 0 0::.ref 2 [] 8 0 0::.ref 3 [] 44 0 0::.ref 4 [] 23 0 0::.ref 5 [] 1 0 0::.v (.bool true)::tZ (tZ (tZ ([.za,.za,.za,.za,.za,.za,.za])))),[oW w,oM m,⟨1,38,8,[iQ],0⟩,⟨1,95,44,[iP],0⟩,oE qG,⟨1,278,1,[[.fn f [] []]],0⟩]⟩ R):qU prog 0 ((f149.body).getD .skip) ⟨entry f149 [Cw w,Cm m],[]⟩ R:=by
 refine kP (uH ?_);refine .inl ⟨rfl,_,_,.refl _,kP (uH ?_)⟩;refine .inr ⟨⟨[2],[1],false⟩,au,λh=>absurd h ar,λt H=>qU prog 0 (behind 2 ((f149.body).getD .skip)) ⟨t,H⟩ R,uH ?_,λt2 H2 h=>.inl ⟨rfl,_,_,.refl _,h⟩⟩;(repeat' (first|(exact trivial)|(refine⟨λ_=>uH ?_,λh=>absurd h ar⟩)|(refine⟨λh=>absurd h ar,λ_=>uH ?_⟩)|(refine⟨(rfl:(_:zm)=_),uH ?_⟩)|(refine⟨(rfl:(_:Option Ob)=_),uH ?_⟩)|((refine L4 [] Tq (λr H' ⟨b,v0,v1,v2,h1,h2⟩=>h2 ▸ rfl) J J J J J ?_;rintro _ _ ⟨b,v0,v1,v2,rfl,rfl⟩;(refine dd ?_)))|(refine⟨_,_,fy.vR (id:=5) _ _ _ _ J J J J J J J J J (hf _ _ _) hc,?_⟩;(refine dd ?_))|(refine⟨_,_,fy.vR (id:=6) _ _ _ _ J J J J J J J J J (hf _ _ _) hc,?_⟩;(refine dd ?_))|(refine And.intro ?_ ?_ <;> (conv=>whnf))))
 all_goals (first|exact⟨_,_,(zq.forget 5).trans ((zq.fx [0,1,2,3,4,6] [2,3,4,5,6,7,8] _ _ J J J J).trans (cC)),hn⟩|exact⟨_,_,(zq.forget 6).trans ((zq.fx [0,1,2,3,4,5] [2,3,4,5,6,7,8] _ _ J J J J).trans (cC)),hn⟩)
abbrev AN(m:fi)(e:fk):fk:={e with zf:=m.zf,version:= -1}
def U2(w:Wor)(m:fi)(sw:jd w)(ok:ir w)(hl:i64 m.listen)(hpc:m.pc=0)(hs:qd w m=true):
  tj 149 [] [Cw w,Cm m] (.fq [Cw w,Cm {m with zl:=w.zl,pc:=1},Ce (AN m (AV w.zl))]) []:=by
 refine zb.BH func149 J (II w m 0 222 _ (λ_ _ _=>by rw[hpc];rfl) J ?_);(refine jG (K:=λex t H=>(ex=.ret\/ex=.normal)/\∃s2,zq 0 ⟨t,H⟩ s2/\(kB prog f149 s2).map (xz 0 9)=some (.fq [Cw w,Cm {m with zl:=w.zl,pc:=1},Ce (AN m (AV w.zl))])) (uH ?_))
 refine hZ ?_
 refine ah (zP w m ok hl) ?_;refine⟨λ_=>dd ?_,λh=>absurd ((hs).symm.trans h:true=false) ar⟩;refine hZ ?_
 refine ah (qC w sw) ?_;refine af [0,1] (Wt w m) ?_;refine .inl ⟨⟨false,[1,2],[1,6],[]⟩,au,uH ?_⟩;refine hU ?_
 exact uI
def U4(w:Wor)(m:fi)(sw:jd w)(ok:ir w)(hl:i64 m.listen)(hpc:m.pc=2)(hs:qd w m=true):
  tj 149 [] [Cw w,Cm m] (.fq [Cw w,Cm {m with zl:=w.zl,pc:=if w.zl=m.zl then 3 else 1},Ce (AN m (AV w.zl))]) []:=by
 refine zb.BH func149 J (II w m 2 225 _ (λ_ _ _=>by rw[hpc];rfl) J ?_);(refine jG (K:=λex t H=>(ex=.ret\/ex=.normal)/\∃s2,zq 0 ⟨t,H⟩ s2/\(kB prog f149 s2).map (xz 0 9)=some (.fq [Cw w,Cm {m with zl:=w.zl,pc:=if w.zl=m.zl then 3 else 1},Ce (AN m (AV w.zl))])) (uH ?_))
 refine hZ ?_
 refine ah (zP w m ok hl) ?_;refine⟨λ_=>dd ?_,λh=>absurd ((hs).symm.trans h:true=false) ar⟩;refine hZ ?_
 refine ah (qC w sw) ?_;refine af [0,1] (Wv w m) ?_;refine .inl ⟨⟨false,[1,2],[1,6],[]⟩,au,uH ?_⟩;refine hU ?_
 exact uI
abbrev nD(w:Wor)(t:Nat)(n:Int):Wor:={w with pins:=w.pins.set t n}
def U3(w:Wor)(m:fi)(sw:jd w)(ok:ir w)(hl:i64 m.listen)(hpc:m.pc=1)(hs:qd w m=true):
  tj 149 [] [Cw w,Cm m] (.fq [Cw (nD w m.zf.toNat (IntKind.i64.wrap (m.zl+1))),Cm {m with pc:=2},Ce (AN m ⟨0,0,2,2,0,false,IntKind.i64.wrap (m.zl+1),false,false,false,nh⟩)]) []:=by
 obtain⟨v,g,e,su⟩:=x5 hs
 obtain⟨x,l,hx⟩:∃x l,w.pins=x::l:=by
  cases h:w.pins with
  |nil=>have:=su.zf;rw[h]at this;exact cW
  |cons x l=>exact⟨x,l,rfl⟩
 refine zb.BH func149 J (II w m 1 224 _ (λ_ _ _=>by rw[hpc];rfl) J ?_);(refine jG (K:=λex t H=>(ex=.ret\/ex=.normal)/\∃s2,zq 0 ⟨t,H⟩ s2/\(kB prog f149 s2).map (xz 0 9)=some (.fq [Cw (nD w m.zf.toNat (IntKind.i64.wrap (m.zl+1))),Cm {m with pc:=2},Ce (AN m ⟨0,0,2,2,0,false,IntKind.i64.wrap (m.zl+1),false,false,false,nh⟩)])) (uH ?_))
 refine hZ ?_
 refine ah (zP w m ok hl) ?_;refine⟨λ_=>dd ?_,λh=>absurd ((hs).symm.trans h:true=false) ar⟩;refine hZ ?_
 refine af [] (K8 w sw x l hx) ?_;refine af [0,1,6] (Wu w m su.zf.1 su.zf.2) ?_;refine .inl ⟨⟨false,[1,2],[1,7],[]⟩,au,uH ?_⟩;refine hU ?_
 exact⟨.inl J,_,zq.zV 2 0 3 J J J J (.inr J) aj aj (shut_map (enc:=encI) (λ_=>J) _) (qa J),rfl⟩
abbrev ES(m:fi):fk:=AN m ⟨0,0,2,2,0,false,0,false,false,false,nh⟩
def WJ(w:Wor)(m:fi)(sw:jd w)(ok:ir w)(hl:i64 m.listen)(hs:qd w m=true):
  tj 238 [] [Cw w,Cm m] (.fq [Cw (nD w m.zf.toNat 0),Ce (ES m)]) []:=by
 obtain⟨v,g,e,su⟩:=x5 hs
 obtain⟨x,l,hx⟩:∃x l,w.pins=x::l:=by
  cases h:w.pins with
  |nil=>have:=su.zf;rw[h]at this;exact cW
  |cons x l=>exact⟨x,l,rfl⟩
 have e1:0+m.zf.toNat=m.zf.toNat:=gP _;have h0:=su.zf.1;have h1:=su.zf.2;have hst:(w.pins.map encI).set m.zf.toNat [I 0]=(w.pins.set m.zf.toNat 0).map encI:=bR
 have hg:(w.pins.map encI)[m.zf.toNat]?=some (encI (w.pins[m.zf.toNat]'aw)):=by rw[gf,dX aw];rfl
 refine ab func238 ?_;refine ah (zP w m ok hl) ?_;refine⟨λ_=>dd ?_,λh=>absurd ((hs).symm.trans h:true=false) ar⟩;refine hZ ?_
 refine af [] (K8 w sw x l hx) ?_;refine⟨h0,aw,dd ?_⟩;rw[e1];refine⟨_,hg,rfl,dd ?_⟩;rw[hst];refine .inl ⟨⟨false,[2],[1],[]⟩,au,uH ?_⟩;refine hU ?_
 exact⟨.inl J,_,zq.zV 2 0 3 J J J J (.inr J) aj aj (shut_map (enc:=encI) (λ_=>J) _) (qa J),rfl⟩
def wv(x:oa)(k n:Int):oa:=
 if k=0 then {x with c0:=IntKind.u64.wrap (x.c0+n)} else if k=1 then {x with c1:=IntKind.u64.wrap (x.c1+n)} else if k=2 then {x with c2:=IntKind.u64.wrap (x.c2+n)}
 else if k=3 then {x with c3:=IntKind.u64.wrap (x.c3+n)} else if k=4 then {x with c4:=IntKind.u64.wrap (x.c4+n)} else {x with c5:=IntKind.u64.wrap (x.c5+n)}
def US(x:oa)(k n:Int)(h0:0<=k)(h6:k<6):tj 172 [] [.agg (BW x),I k,U n] (.agg (BW (wv x k n))) []:=by
 obtain⟨a,b,c,d,e,f⟩:=x;obtain rfl|rfl|rfl|rfl|rfl|rfl:k=0\/k=1\/k=2\/k=3\/k=4\/k=5:=aw
 all_goals
  refine ab func172 ?_;(refine⟨ar,ar,dd ?_⟩);(refine⟨ar,ar,dd ?_⟩);exact uI
def ju(w:Wor)(m:fi)(n:Int):fi:=
 let m1:fi:={m with counts:=wv m.counts m.k n,k:=m.k+1}
 let m2:fi:=if m.k+1=6 then {m1 with i:=m.i+1,k:=0} else m1
 if m2.i=w.counts.length then {m2 with done:=true,answer:=⟨13,0,0,0,0,0,0,m2.counts⟩} else m2
def Dk(w:Wor)(m:fi)(n:Int):fk:={qG with zf:=m.zf,access:=1,cell:=10,version:= -1,value:=m.k,done:=(ju w m n).done,answer:=if (ju w m n).done then (ju w m n).answer else nh}
structure Qi(w:Wor)(m:fi)(r:List Int)(n:Int):Prop where
 i0:0<=m.i
 at_:w.counts[m.i.toNat]?=some r
 k0:0<=m.k
 k6:m.k<6
 row:r[m.k.toNat]?=some n
abbrev zyl(m:fi)(n:Int):fi:={m with counts:=wv m.counts m.k n,k:=m.k+1}
abbrev zym(m:fi)(n:Int):fi:={m with counts:=wv m.counts m.k n,k:=0,i:=m.i+1}
abbrev zyn(m:fi)(n:Int):fi:={m with counts:=wv m.counts m.k n,k:=0,i:=m.i+1,done:=true,answer:=⟨13,0,0,0,0,0,0,wv m.counts m.k n⟩}
def Ja{w:Wor}{m:fi}{n:Int}(h:m.k+1≠6)(hi:m.i≠w.counts.length):ju w m n=zyl m n:=by
 unfold ju;dsimp only;rw[dZ h];exact dZ hi
def Jb{w:Wor}{m:fi}{n:Int}(h:m.k+1=6)(hi:m.i+1≠w.counts.length):ju w m n=zym m n:=by
 unfold ju;dsimp only;rw[gh h];exact dZ hi
def Jc{w:Wor}{m:fi}{n:Int}(h:m.k+1=6)(hi:m.i+1=w.counts.length):ju w m n=zyn m n:=by
 unfold ju;dsimp only;rw[gh h];exact gh hi
abbrev Pe(m:fi):fk:={qG with zf:=m.zf,access:=1,cell:=10,version:= -1,value:=m.k}
def Ot{w:Wor}{m:fi}{n:Int}(h:(ju w m n).done=false):Dk w m n=Pe m:=by
 unfold Dk;rw[h]
 rfl
def Ww{w:Wor}{m:fi}{n:Int}(h:(ju w m n).done=true):Dk w m n={Pe m with done:=true,answer:=(ju w m n).answer}:=by
 unfold Dk;rw[h]
 rfl
def Tj(w:Wor)(m:fi)(r:List Int)(n:Int)(sw:jd w)(ok:ir w)(hl:i64 m.listen)(hpc:m.pc=0)(hs:qd w m=true)(hd:m.done=false)(hc:Qi w m r n)(ha:m.answer=nh):
  tj 131 [] [Cw w,Cm m] (.fq [Cw w,Cm (ju w m n),Ce (Dk w m n)]) []:=by
 have i0:=hc.i0;have k0:=hc.k0;have hi:m.i.toNat<w.counts.length:=(dW.1 hc.at_).1;have ml:(w.counts.map zN).length=w.counts.length:=gu ..;have cr:(w.counts.map zN)[m.i.toNat]?=some (zN r):=by rw[gf,hc.at_];rfl
 have cn:(r.map jZ)[m.k.toNat]?=some (jZ n):=by rw[gf,hc.row];rfl
 refine ab func131 ?_;refine⟨λh=>absurd h (by simp[hpc]),λ_=>dd ?_⟩;refine⟨λh=>absurd h (by have:=hc.k6;simp;omega),λ_=>dd ?_⟩;rw[ml];refine⟨λh=>absurd h aA,λ_=>dd ?_⟩;refine ah (zP w m ok hl) ?_;refine⟨λ_=>dd ?_,λh=>absurd ((hs).symm.trans h:true=false) ar⟩;refine hZ ?_
 refine .inl ⟨⟨true,[],[],[14]⟩,au,uH ?_⟩;(refine⟨i0,_,cr,dd ?_⟩)
 (refine⟨k0,_,cn,dd ?_⟩)
 refine ah (US m.counts m.k n k0 hc.k6) ?_;refine hU ?_
 rw[show IntKind.i64.wrap (m.k+1)=m.k+1 from jx aw (by have:=hc.k6;omega)];refine⟨λh6=>?_,λh6=>?_⟩
 ·have g6:m.k+1=6:=by simpa using h6
  refine dd ?_;rw[show IntKind.i64.wrap (m.i+1)=m.i+1 from jx aw (by have:=sw.counts.1;omega)];rw[ml];refine⟨λh7=>?_,λh7=>?_⟩
  ·have g7:m.i+1=w.counts.length:=by simpa using h7
   rw[Ww (by rw[Jc g6 g7]),Jc g6 g7];refine dd ?_;refine .inl ⟨⟨false,[1],[1],[]⟩,au,uH ?_⟩;refine hU ?_
   exact dN
  ·have g7:m.i+1≠w.counts.length:=by simpa using h7
   rw[Ot (by rw[Jb g6 g7];exact hd),Jb g6 g7];refine dd ?_;exact dN
 ·have g6:m.k+1≠6:=by simpa using h6
  have g7:m.i≠w.counts.length:=aw
  rw[Ot (by rw[Ja g6 g7];exact hd),Ja g6 g7];refine dd ?_;rw[ml];refine⟨λh=>absurd h (aq g7),λ_=>dd ?_⟩;exact dN
end Go.Wor
