import Derived.Test.YtoeaoedlpmohoaaGreatSU
set_option linter.all false
set_option maxRecDepth 100000
set_option maxHeartbeats 4000000
namespace Go.Wor
open Go.Ab Go.Proofs Tryz Go.Hy Go.Gat Go.Nam Go.Hos Go.Con Go.Sna
abbrev Cm(m:lh):C:=.agg (AT m)
def ql(w:Wor)(m:lh):Bool:=yQ w && oK m.zg w.pins.length && !m.done && oK m.version w.zd.length && (match w.zd[m.version.toNat]? with
 |none=>false
 |some v=>oK m.zi v.zp.length && (match v.zp[m.zi.toNat]? with
  |none=>false
  |some g=>oK m.end_ g.ends.length && oK m.other g.ends.length && (match g.ends[m.end_.toNat]? with
   |none=>false
   |some e=>oK m.slot e.next.length) && (oK (m.listen+1) (w.zf.length+1) && decide (0<=m.i) && decide (0<=m.k))))
def wg{i n:Int}:oK i n=true↔0<=i/\i<n:=by unfold oK;simp
structure ja(w:Wor)(m:lh)(v:lJ)(g:Gr)(e:En):Prop where
 world:yQ w=true
 zg:0<=m.zg/\m.zg<w.pins.length
 done:m.done=false
 version:0<=m.version/\m.version<w.zd.length
 mu:w.zd[m.version.toNat]?=some v
 zi:0<=m.zi/\m.zi<v.zp.length
 mn:v.zp[m.zi.toNat]?=some g
 end_ : 0 <= m.end_ /\ m.end_<g.ends.length
 mM:g.ends[m.end_.toNat]?=some e
 other:0<=m.other/\m.other<g.ends.length
 slot:0<=m.slot/\m.slot<e.next.length
 listen: -1<=m.listen/\m.listen<w.zf.length
 i:0<=m.i
 k:0<=m.k
def yh{w:Wor}{m:lh}(h:ql w m=true):∃v g e,ja w m v g e:=by
 unfold ql at h;simp only[pG,rZ,wg]at h;obtain⟨⟨⟨⟨h1,h2⟩,h3⟩,h4⟩,h5⟩:=h;split at h5
 ·cases h5
 rename_i v hv;simp only[pG,wg]at h5;obtain⟨h5,h6⟩:=h5;split at h6
 ·cases h6
 rename_i g hg;simp only[pG,wg,pQ]at h6;obtain⟨⟨⟨h6,h7⟩,h8⟩,⟨h9,h10⟩,h11⟩:=h6;split at h8
 ·cases h8
 rename_i e he;simp only[wg]at h8;exact⟨v,g,e,h1,h2,h3,h4,hv,h5,hg,h6,he,h7,h8,aw,h10,h11⟩
def zV(w:Wor)(m:lh)(hw:nk w)(hm:i64 m.listen):tp 150 [] [Cw w,Cm m] (Bo (ql w m)) []:=by
 have m1:(w.pins.map encI).length=w.pins.length:=pB ..;have m2:(w.zd.map zJ).length=w.zd.length:=pB ..;have m3:(w.zf.map ji).length=w.zf.length:=pB ..;have b3:=hw.zf.1;have el:IntKind.i64.wrap ((w.zf.length:Int)+1)=(w.zf.length:Int)+1:=qi aw aw
 have el2:oK (IntKind.i64.wrap (m.listen+1)) ((w.zf.length:Int)+1)=oK (m.listen+1) ((w.zf.length:Int)+1):=by
  by_cases hh:m.listen<=9223372036854775806
  ·rw[qi (by have:=hm.1;omega) aw]
  ·have h9:m.listen=9223372036854775807:=by have:=hm.2;omega
   rw[h9];have h10:IntKind.i64.wrap (9223372036854775807+1)= -9223372036854775808:=ar
   rw[h10];unfold oK;rw[show decide ((0:Int)<= -9223372036854775808)=false from O,show decide ((9223372036854775807:Int)+1<(w.zf.length:Int)+1)=false from aA];simp
 refine ab func150 ?_;refine ah (zlA w hw) ?_;refine⟨λh1=>?_,λh1=>?_⟩
 rotate_left
 ·(have e:ql w m=false:=by (unfold ql;(rw[h1]);simp));exact gU
 refine dd ?_;rw[m1];refine ah (Fk m.zg w.pins.length) ?_;refine⟨λh2=>?_,λh2=>?_⟩
 rotate_left
 ·(have e:ql w m=false:=by (unfold ql;(rw[h2]);simp));exact gU
 refine dd ?_;refine⟨λh3=>?_,λh3=>?_⟩
 ·(have e:ql w m=false:=by (unfold ql;(rw[h3]);simp));exact gU
 refine dd ?_;rw[m2];refine ah (Fk m.version w.zd.length) ?_;refine⟨λh4=>?_,λh4=>?_⟩
 rotate_left
 ·(have e:ql w m=false:=by (unfold ql;(rw[h4]);simp));exact gU
 obtain⟨c0,c1⟩:=wg.1 h4;have hv:w.zd[m.version.toNat]?=some (w.zd[m.version.toNat]'aw):=pa _;generalize w.zd[m.version.toNat]'aw=v at hv;have gv:(w.zd.map zJ)[m.version.toNat]?=some (zJ v):=by rw[pj,hv];rfl
 have m4:(v.zp.map zI).length=v.zp.length:=pB ..
 have g0:ql w m=(oK m.zi v.zp.length && (match v.zp[m.zi.toNat]? with
  |none=>false
  |some g=>oK m.end_ g.ends.length && oK m.other g.ends.length && (match g.ends[m.end_.toNat]? with
   |none=>false
   |some e=>oK m.slot e.next.length) && (oK (m.listen+1) (w.zf.length+1) && decide (0<=m.i) && decide (0<=m.k)))):=by
  unfold ql;rw[h1,h2,h3,h4,hv]
  rfl
 rw[g0];refine dd ?_;refine tf ?_
 refine⟨c0,_,gv,dd ?_⟩;rw[m4];refine ah (Fk m.zi v.zp.length) ?_;refine⟨λh5=>?_,λh5=>?_⟩
 rotate_left
 ·rw[h5];refine dd ?_;refine tf ?_
  exact uI
 obtain⟨c2,c3⟩:=wg.1 h5;have hg:v.zp[m.zi.toNat]?=some (v.zp[m.zi.toNat]'aw):=pa _;generalize v.zp[m.zi.toNat]'aw=g at hg;have gg:(v.zp.map zI)[m.zi.toNat]?=some (zI g):=by rw[pj,hg];rfl
 have m5:(g.ends.map zF).length=g.ends.length:=pB ..;rw[h5,hg];dsimp only;refine dd ?_;refine tf ?_
 refine⟨c2,_,gg,dd ?_⟩;refine uE ?_;rw[m5];refine ah (Fk m.end_ g.ends.length) ?_;refine⟨λh6=>?_,λh6=>?_⟩
 rotate_left
 ·rw[h6];refine dd ?_;refine tf ?_
  exact uI
 obtain⟨c4,c5⟩:=wg.1 h6;have he:g.ends[m.end_.toNat]?=some (g.ends[m.end_.toNat]'aw):=pa _;generalize g.ends[m.end_.toNat]'aw=e at he;have ge:(g.ends.map zF)[m.end_.toNat]?=some (zF e):=by rw[pj,he];rfl
 have m6:(e.next.map encI).length=e.next.length:=pB ..;rw[h6,he];dsimp only;refine dd ?_;rw[m5];refine ah (Fk m.other g.ends.length) ?_;refine⟨λh7=>?_,λh7=>?_⟩
 rotate_left
 ·rw[h7];refine dd ?_;refine tf ?_
  exact uI
 rw[h7];refine dd ?_;refine⟨c4,_,ge,dd ?_⟩;rw[m6];refine ah (Fk m.slot e.next.length) ?_;refine⟨λh8=>?_,λh8=>?_⟩
 rotate_left
 ·rw[h8];refine dd ?_;refine tf ?_
  exact uI
 rw[h8];refine dd ?_;refine tf ?_
 rw[m3,el];have hin:=Fk (IntKind.i64.wrap (m.listen+1)) ((w.zf.length:Int)+1);rw[el2]at hin;refine ah hin ?_;refine⟨λh9=>?_,λh9=>?_⟩
 rotate_left
 ·rw[h9];refine dd ?_;refine tf ?_
  exact uI
 rw[h9];refine dd ?_;refine⟨λh10=>?_,λh10=>?_⟩
 rotate_left
 ·refine dd ?_;refine tf ?_
  (exact⟨.inl O,_,.refl _,uN (by symm;simp at h10 ⊢;omega)⟩)
 refine dd ?_;refine⟨λh11=>?_,λh11=>?_⟩
 ·refine dd ?_;refine tf ?_
  (exact⟨.inl O,_,.refl _,uN (by symm;simp at h10 h11 ⊢;omega)⟩)
 ·refine dd ?_;refine tf ?_
  (exact⟨.inl O,_,.refl _,uN (by symm;simp at h10 h11 ⊢;omega)⟩)
end Go.Wor
namespace Go.Ab
def wR{H:zo}{id i:Nat}{ob:Ob}(h:(xm H id)[i]?=some ob)(hk:ob.kind=4):H[i]?=some ob:=by
 rw[vt]at h;cases hx:H[i]? with
 |none=>rw[hx]at h;cases h
 |some o=>
  rw[hx]at h;simp only[pM,p9]at h;split at h
  ·subst h;cases hk
  ·rw[h]
def zt.forget{B:Nat}{s:S}(id:Nat):zt B s ⟨s.tmps,xm s.H id⟩:=λm w E a hs=>by
 have hg:∀{i b},jc E (xm s.H id) i b->jc E s.H i b:=λ⟨ob,cap,h1,h2,h3,h4⟩=>⟨ob,cap,wR h1 h2,h2,h3,h4⟩
 have hr:∀{i b},xj (xm s.H id) i b->xj s.H i b:=λ⟨ob,o,t,h1,h2,h3,h4⟩=>⟨ob,o,t,wR h1 h2,h2,h3,h4⟩
 have h0:∀{b},jM E (xm s.H id) b->jM E s.H b:=λ⟨i,p,x,h1,h2⟩=>⟨i,p,x,(kE h1).2,h2⟩
 refine⟨E,⟨⟨hs.heap.base.kill id,?_⟩,hs.tmps,hs.defers,by have:=hs.base;simp[xm];omega⟩,⟨Env.CV.refl B E,rfl,rfl,rfl,pI _,λ_ _ _=>O,λ_ _ _ h=>.inl h,?_⟩⟩
 ·exact {
   val:=λi ob h1 h2=>hs.heap.lF.val i ob (wR h1 h2) h2
   lZ:=λi b ob h1 h2=>hs.heap.lF.lZ i b ob (hg h1) (by obtain⟨ob2,_,h3,h4,_⟩:=h1;rw[h2]at h3;cases h3;exact wR h2 h4)
   sep:=λi b h1 h2=>hs.heap.lF.sep i b (hg h1) (h0 h2)
   inj:=λi j b h1 h2=>hs.heap.lF.inj i j b (hg h1) (hg h2)
   st:=λi b ob o u h1 h2 h3=>hs.heap.lF.st i b ob o u (hg h1) (by obtain⟨ob2,_,h4,h5,_⟩:=h1;rw[h2]at h4;cases h4;exact wR h2 h5) h3
   top:=λi ob k u h1 h2 h3=>hs.heap.lF.top i ob k u (wR h1 h2) h2 h3
   nA:=λi ob o t h1 h2 h3=>hs.heap.lF.nA i ob o t (wR h1 h2) h2 h3
   oJ:=λi j b h1 h2=>hs.heap.lF.oJ i j b (hr h1) (hr h2)}
 ·rintro b (hb|⟨i,hb|hb⟩)
  ·exact .inr (.inl (h0 hb))
  ·exact .inr (.inr ⟨i,.inl (hg hb)⟩)
  ·exact .inr (.inr ⟨i,.inr (hr hb)⟩)
end Go.Ab
namespace Go.Wor
open Go.Ab Go.Proofs Tryz Go.Hy Go.Gat Go.Nam Go.Hos Go.Con Go.Sna
abbrev Ce(e:lD):C:=.agg (jd e)
abbrev BC:lM:=⟨0,0,0,0,0,0,0,⟨0,0,0,0,0,0⟩⟩
abbrev qV:lD:=⟨0,0,0,0,0,false,0,false,false,false,BC⟩
abbrev DU(n:Int):lD:=⟨0,0,1,1,0,false,n,false,false,false,BC⟩
def Zu(r:C)(H':zo):Prop:=∃(b:Nat) (v0 v1 v2:Value),r=.v (.map (some b))/\H'=[nC b [(0,v0,0),(1,v1,1),(2,v2,2)] 3 [.agg [.fn 222 [] []],.agg [.fn 224 [] []],.agg [.fn 225 [] []]]]
def zqp:qF prog 181 [] [] Zu:=by
 refine qF.zM (fn:=f181) func181 O (uH ?_);intro b;refine dd ?_;refine jq.qB (id:=0) _ _ _ _ (.inr O) underlying280 underlying3 O O O O O ?_;intro v0;refine dd ?_;refine jq.qB (id:=0) _ _ _ _ (.inr O) underlying280 underlying3 O O O O O ?_;intro v1;refine dd ?_;refine jq.qB (id:=0) _ _ _ _ (.inr O) underlying280 underlying3 O O O O O ?_;intro v2;refine dd ?_;exact⟨.inl O,_,_,.refl _,rfl,b,v0,v1,v2,rfl,rfl⟩
def qt{P:Program}{f:FuncId}{fn:Func}{c:Code}{H H2:zo}{args:List C}{r:C}(hf:P.funcs[f]?=some fn)(hb:fn.body=some c)(hle:H.length<=H2.length)
 (h:wpA P H.length c (entry fn args) H λex t1 H1=>(ex=.ret\/ex=.normal)/\∃s2 r1,zt H.length ⟨t1,H1⟩ s2/\kJ P fn s2=some r1/\zt H.length ⟨[r1],s2.H⟩ ⟨[r],H2⟩):zc P f H args r H2:=λw E vs hh hl0=>by
 have h1:qF P f H args λr1 H1=>zt H.length ⟨[r1],H1⟩ ⟨[r],H2⟩:=qF.zM hf hb h
 refine(h1 w E vs hh hl0).mono ?_;rintro e w' ⟨r1,H1,v,E',hw,h0,h2,h3,g⟩;have hHH:H.length<=H1.length:=bW
 obtain⟨E2,hs,g2⟩:=hw 0 w' E' ⟨#[v],[]⟩ ⟨h2,LL.one h3,rk _,hHH⟩;have hn2:=hs.heap.n;refine⟨v,E2,h0,hs.heap,hs.tmps.cons_inv.1,⟨⟨by rw[hh.n,hn2];exact hle,λid hops hi=>?_,λid hops hi=>?_,λb o u hu=>g2.le.St _ _ _ (g.le.St _ _ _ hu),λid k u hi hu=>?_⟩,g2.os.trans g.os,g2.tape.trans g.tape,g2.output.trans g.output,rB g.size g2.size,?_,?_,?_⟩⟩
 ·rw[hh.n]at hi;exact(g2.le.β id hops hi).trans (g.le.β id hops tY)
 ·rw[hh.n]at hi;exact(g2.le.κ id hops hi).trans (g.le.κ id hops tY)
 ·rw[hh.n]at hi;exact g2.le.G id k u hi (g.le.G id k u tY hu)
 ·intro k hk ho;exact dI
 ·intro b o u hu;rcases g2.xv b o u hu with h1|h1|h1
  ·exact g.xv b o u h1
  ·exact .inr (.inl (rB g.size h1))
  ·rcases g.own b h1 with h4|h4
   ·exact .inr (.inl h4)
   ·exact .inr (.inr h4)
 ·intro b hb;rcases g2.own b hb with h1|h1
  ·exact .inl (rB g.size h1)
  ·exact g.own b h1
def aa{P:Program}{f:FuncId}{fn:Func}{c:Code}{H H2:zo}{args:List C}{r:C}{zQ:Prop}(hf:P.funcs[f]?=some fn)(z0:zQ)(hb:fn.body=some c:=by exact O)(hle:H.length<=H2.length:=by exact pI _)(ze:zQ->wpA P H.length c (entry fn args) H λex t1 H1=>(ex=.ret\/ex=.normal)/\∃s2 r1,zt H.length ⟨t1,H1⟩ s2/\kJ P fn s2=some r1/\zt H.length ⟨[r1],s2.H⟩ ⟨[r],H2⟩:=by intro zh;(conv=>whnf);exact zh):zc P f H args r H2:=qt hf hb hle (ze z0)
def M5(w:Wor)(m:lh):tp 223 [oW w,oM m] [.ref 0 [] 8 0 0] (Ce (DU w.zn)) [oW w,oM m]:=by
 refine aa func223 ?_;exact di
def zwi(w:Wor)(m:lh):tp 222 [oW w,oM m] to (Ce (DU w.zn)) [oW w,oM ({m with zn:=w.zn,pc:=1})]:=by
 refine aa func222 ?_;refine af [0,1] (M5 w {m with zn:=w.zn,pc:=1}) ?_;exact di
def zwj(w:Wor)(m:lh)(h0:0<=m.zg)(h1:m.zg<w.pins.length):tp 224 [⟨1,38,8,[[I w.zn,I w.current,I w.lock,.sl 2 [] 1 0 w.pins.length false,lV w.zd,lL w.zf,mQ w.counts,lR w.zr]],0⟩,oM m,⟨2,3,1,(w.pins).map encI,0⟩] to (Ce ⟨0,0,2,2,0,false,IntKind.i64.wrap (m.zn+1),false,false,false,BC⟩) [⟨1,38,8,[[I w.zn,I w.current,I w.lock,.sl 2 [] 1 0 w.pins.length false,lV w.zd,lL w.zf,mQ w.counts,lR w.zr]],0⟩,oM ({m with pc:=2}),⟨2,3,1,(w.pins.set m.zg.toNat (IntKind.i64.wrap (m.zn+1))).map encI,0⟩]:=by
 have hs:(w.pins.map encI).set m.zg.toNat [I (IntKind.i64.wrap (m.zn+1))]=(w.pins.set m.zg.toNat (IntKind.i64.wrap (m.zn+1))).map encI:=bU
 rw[<-hs];have e1:0+m.zg.toNat=m.zg.toNat:=pR _;have hg:(w.pins.map encI)[m.zg.toNat]?=some (encI (w.pins[m.zg.toNat]'aw)):=by rw[pj,pa aw];rfl
 refine aa func224 ?_;refine uE ?_;refine⟨h0,aw,dd ?_⟩;rw[e1];refine⟨_,hg,rfl,dd ?_⟩;exact⟨.inl O,_,_,.refl _,rfl,cE 3⟩
def zwk(w:Wor)(m:lh):tp 225 [oW w,oM m] to (Ce (DU w.zn)) [oW w,oM ({m with zn:=w.zn,pc:=if w.zn=m.zn then 3 else 1})]:=by
 refine aa func225 ?_;refine uE ?_;refine⟨λh=>?_,λh=>?_⟩
 ·conv=>whnf
  rw[pA (pF h)];refine af [0,1] (M5 w {m with zn:=w.zn,pc:=3}) ?_;exact di
 ·conv=>whnf
  rw[pw (sK h)];refine af [0,1] (M5 w {m with zn:=w.zn,pc:=1}) ?_;exact di
abbrev W5:List C:=[.fn 222 [] []]
abbrev W6:List C:=[.fn 224 [] []]
abbrev W7:List C:=[.fn 225 [] []]
abbrev nU:List C:=[I 0,I 0,I 0,.lq 1 0 [],.lq 1 0 [],.lq 1 0 [],.lq 1 0 [],.lq 1 0 []]
abbrev zeP:List C:=[I 0,Tx [],Tx [],Tx [],I 0,I 0,I 0,.lq 1 0 [],.lq 1 0 [],.lq 1 0 []]
abbrev nT:List C:=zeP++[I 0,I 0,I 0,I 0,I 0,I 0,I 0,I 0,I 0,U 0,I 0,I 0,I 0,I 0,Bo false]++xK BC++E5 ⟨0,0,0,0,0,0⟩
def SY{P:Program}{f:FuncId}(sel:List Nat){K H0:zo}{args args0:List C}{R:C->zo->Prop}(h:qF P f H0 args0 R)(hR:∀r H',R r H'->qC H'=true)
 (hH:x7 sel K=H0)(ha:args.map (yq sel 9)=args0)(qj:sel.all (λid=>Nat.blt id K.length)=true)(m8:yI sel=true)(mU:qC K=true){k:C->zo->Prop}
 (hk:∀r H',R r H'->D4 (nR sel K H') λX=>jk (kb (jz sel K.length) 9 r) λc=>k c X):∃R',qF P f K args R'/\∀r H2,R' r H2->k r H2:=
 ⟨_,h.part sel hR hH ha qj m8 mU,λr H2 ⟨r0,H',h1,h2,h3⟩=>by subst h2 h3;exact zU (kR (k:=λX=>jk (kb (jz sel K.length) 9 r0) λc=>k c X) (hk r0 H' h1))⟩
def zc.EL{P:Program}{f:FuncId}{fn:Func}{c:Code}{args:List C}{r:C}(hf:P.funcs[f]?=some fn)(hb:fn.body=some c)
 (h:jh P 0 c ⟨entry fn args,[]⟩ λex s=>(ex=.ret\/ex=.normal)/\∃s2,zt 0 s s2/\(kJ P fn s2).map (yc 0 9)=some r):zc P f [] args r []:=by
 refine qF.Pw (qF.Ci (H:=[]) hf hb (h.mono λex s1 ⟨hex,s2,hw,h2⟩=>?_));cases h3:kJ P fn s2 with
 |none=>rw[h3]at h2;cases h2
 |some r0=>
  rw[h3]at h2;cases h2
  exact⟨hex,s2,r0,hw,h3,rfl⟩
def Oc(w:Wor)(m:lh)(j f:Nat)(R:Exit->S->Prop)(hf:∀v0 v1 v2,xV [(0,v0,0),(1,v1,1),(2,v2,2)] m.pc=some j)(hc:[C.agg W5,.agg W6,.agg W7][j]?=some (.agg [.fn f [] []]))
 (hn:jh prog 0 (behind 2 ((f149.body).getD .skip)) ⟨(.za::.za::.ref 0 [] 8 0 0::.ref 1 [] 44 0 0::.ref 2 [] 8 0 0::.ref 3 [] 44 0 0::.ref 4 [] 23 0 0::.ref 5 [] 1 0 0::.v (.bool true)::mF (mF (mF ([.za,.za,.za,.za,.za,.za,.za])))),[oW w,oM m,⟨1,38,8,[nU],0⟩,⟨1,95,44,[nT],0⟩,oE qV,⟨1,278,1,[[.fn f [] []]],0⟩]⟩ R):jh prog 0 ((f149.body).getD .skip) ⟨entry f149 [Cw w,Cm m],[]⟩ R:=by
 refine vy (uH ?_);refine .inl ⟨rfl,_,_,.refl _,vy (uH ?_)⟩;refine .inr ⟨⟨[2],[1],false⟩,au,λh=>absurd h ar,λt H=>jh prog 0 (behind 2 ((f149.body).getD .skip)) ⟨t,H⟩ R,uH ?_,λt2 H2 h=>.inl ⟨rfl,_,_,.refl _,h⟩⟩;(repeat' (first|(exact trivial)|(refine⟨λ_=>uH ?_,λh=>absurd h ar⟩)|(refine⟨λh=>absurd h ar,λ_=>uH ?_⟩)|(refine⟨(rfl:(_:zo)=_),uH ?_⟩)|(refine⟨(rfl:(_:Option Ob)=_),uH ?_⟩)|((refine SY [] zqp (λr H' ⟨b,v0,v1,v2,h1,h2⟩=>h2 ▸ rfl) O O O O O ?_;rintro _ _ ⟨b,v0,v1,v2,rfl,rfl⟩;(refine dd ?_)))|(refine⟨_,_,lS.wm (id:=5) _ _ _ _ O O O O O O O O O (hf _ _ _) hc,?_⟩;(refine dd ?_))|(refine⟨_,_,lS.wm (id:=6) _ _ _ _ O O O O O O O O O (hf _ _ _) hc,?_⟩;(refine dd ?_))|(refine And.intro ?_ ?_ <;> (conv=>whnf))))
 all_goals (first|exact⟨_,_,(zt.forget 5).trans ((zt.lQ [0,1,2,3,4,6] [2,3,4,5,6,7,8] _ _ O O O O).trans (cC)),hn⟩|exact⟨_,_,(zt.forget 6).trans ((zt.lQ [0,1,2,3,4,5] [2,3,4,5,6,7,8] _ _ O O O O).trans (cC)),hn⟩)
abbrev DM(m:lh)(e:lD):lD:={e with zg:=m.zg,version:= -1}
def zsA(w:Wor)(m:lh)(sw:jF w)(ok:nk w)(hl:i64 m.listen)(hpc:m.pc=0)(hs:ql w m=true):
  tp 149 [] [Cw w,Cm m] (.lK [Cw w,Cm {m with zn:=w.zn,pc:=1},Ce (DM m (DU w.zn))]) []:=by
 refine zc.EL func149 O (Oc w m 0 222 _ (λ_ _ _=>by rw[hpc];rfl) O ?_);(refine jU (K:=λex t H=>(ex=.ret\/ex=.normal)/\∃s2,zt 0 ⟨t,H⟩ s2/\(kJ prog f149 s2).map (yc 0 9)=some (.lK [Cw w,Cm {m with zn:=w.zn,pc:=1},Ce (DM m (DU w.zn))])) (uH ?_))
 refine tf ?_
 refine ah (zV w m ok hl) ?_;refine⟨λ_=>dd ?_,λh=>absurd ((hs).symm.trans h:true=false) ar⟩;refine tf ?_
 refine ah (qP w sw) ?_;refine af [0,1] (zwi w m) ?_;refine .inl ⟨⟨false,[1,2],[1,6],[]⟩,au,uH ?_⟩;refine td ?_
 exact uI
def zsC(w:Wor)(m:lh)(sw:jF w)(ok:nk w)(hl:i64 m.listen)(hpc:m.pc=2)(hs:ql w m=true):
  tp 149 [] [Cw w,Cm m] (.lK [Cw w,Cm {m with zn:=w.zn,pc:=if w.zn=m.zn then 3 else 1},Ce (DM m (DU w.zn))]) []:=by
 refine zc.EL func149 O (Oc w m 2 225 _ (λ_ _ _=>by rw[hpc];rfl) O ?_);(refine jU (K:=λex t H=>(ex=.ret\/ex=.normal)/\∃s2,zt 0 ⟨t,H⟩ s2/\(kJ prog f149 s2).map (yc 0 9)=some (.lK [Cw w,Cm {m with zn:=w.zn,pc:=if w.zn=m.zn then 3 else 1},Ce (DM m (DU w.zn))])) (uH ?_))
 refine tf ?_
 refine ah (zV w m ok hl) ?_;refine⟨λ_=>dd ?_,λh=>absurd ((hs).symm.trans h:true=false) ar⟩;refine tf ?_
 refine ah (qP w sw) ?_;refine af [0,1] (zwk w m) ?_;refine .inl ⟨⟨false,[1,2],[1,6],[]⟩,au,uH ?_⟩;refine td ?_
 exact uI
abbrev BK(w:Wor)(t:Nat)(n:Int):Wor:={w with pins:=w.pins.set t n}
def zsB(w:Wor)(m:lh)(sw:jF w)(ok:nk w)(hl:i64 m.listen)(hpc:m.pc=1)(hs:ql w m=true):
  tp 149 [] [Cw w,Cm m] (.lK [Cw (BK w m.zg.toNat (IntKind.i64.wrap (m.zn+1))),Cm {m with pc:=2},Ce (DM m ⟨0,0,2,2,0,false,IntKind.i64.wrap (m.zn+1),false,false,false,BC⟩)]) []:=by
 obtain⟨v,g,e,su⟩:=yh hs
 obtain⟨x,l,hx⟩:∃x l,w.pins=x::l:=by
  cases h:w.pins with
  |nil=>have:=su.zg;rw[h]at this;exact dB
  |cons x l=>exact⟨x,l,rfl⟩
 refine zc.EL func149 O (Oc w m 1 224 _ (λ_ _ _=>by rw[hpc];rfl) O ?_);(refine jU (K:=λex t H=>(ex=.ret\/ex=.normal)/\∃s2,zt 0 ⟨t,H⟩ s2/\(kJ prog f149 s2).map (yc 0 9)=some (.lK [Cw (BK w m.zg.toNat (IntKind.i64.wrap (m.zn+1))),Cm {m with pc:=2},Ce (DM m ⟨0,0,2,2,0,false,IntKind.i64.wrap (m.zn+1),false,false,false,BC⟩)])) (uH ?_))
 refine tf ?_
 refine ah (zV w m ok hl) ?_;refine⟨λ_=>dd ?_,λh=>absurd ((hs).symm.trans h:true=false) ar⟩;refine tf ?_
 refine af [] (RV w sw x l hx) ?_;refine af [0,1,6] (zwj w m su.zg.1 su.zg.2) ?_;refine .inl ⟨⟨false,[1,2],[1,7],[]⟩,au,uH ?_⟩;refine td ?_
 exact⟨.inl O,_,zt.qa 2 0 3 O O O O (.inr O) aj aj (shut_map (enc:=encI) (λ_=>O) _) (qk O),rfl⟩
abbrev Jm(m:lh):lD:=DM m ⟨0,0,2,2,0,false,0,false,false,false,BC⟩
def zvJ(w:Wor)(m:lh)(sw:jF w)(ok:nk w)(hl:i64 m.listen)(hs:ql w m=true):
  tp 238 [] [Cw w,Cm m] (.lK [Cw (BK w m.zg.toNat 0),Ce (Jm m)]) []:=by
 obtain⟨v,g,e,su⟩:=yh hs
 obtain⟨x,l,hx⟩:∃x l,w.pins=x::l:=by
  cases h:w.pins with
  |nil=>have:=su.zg;rw[h]at this;exact dB
  |cons x l=>exact⟨x,l,rfl⟩
 have e1:0+m.zg.toNat=m.zg.toNat:=pR _;have h0:=su.zg.1;have h1:=su.zg.2;have hst:(w.pins.map encI).set m.zg.toNat [I 0]=(w.pins.set m.zg.toNat 0).map encI:=bU
 have hg:(w.pins.map encI)[m.zg.toNat]?=some (encI (w.pins[m.zg.toNat]'aw)):=by rw[pj,pa aw];rfl
 refine ab func238 ?_;refine ah (zV w m ok hl) ?_;refine⟨λ_=>dd ?_,λh=>absurd ((hs).symm.trans h:true=false) ar⟩;refine tf ?_
 refine af [] (RV w sw x l hx) ?_;refine⟨h0,aw,dd ?_⟩;rw[e1];refine⟨_,hg,rfl,dd ?_⟩;rw[hst];refine .inl ⟨⟨false,[2],[1],[]⟩,au,uH ?_⟩;refine td ?_
 exact⟨.inl O,_,zt.qa 2 0 3 O O O O (.inr O) aj aj (shut_map (enc:=encI) (λ_=>O) _) (qk O),rfl⟩
def AL(x:BR)(k n:Int):BR:=
 if k=0 then {x with c0:=IntKind.u64.wrap (x.c0+n)} else if k=1 then {x with c1:=IntKind.u64.wrap (x.c1+n)} else if k=2 then {x with c2:=IntKind.u64.wrap (x.c2+n)}
 else if k=3 then {x with c3:=IntKind.u64.wrap (x.c3+n)} else if k=4 then {x with c4:=IntKind.u64.wrap (x.c4+n)} else {x with c5:=IntKind.u64.wrap (x.c5+n)}
def zsi(x:BR)(k n:Int)(h0:0<=k)(h6:k<6):tp 172 [] [.agg (E5 x),I k,U n] (.agg (E5 (AL x k n))) []:=by
 obtain⟨a,b,c,d,e,f⟩:=x;obtain rfl|rfl|rfl|rfl|rfl|rfl:k=0\/k=1\/k=2\/k=3\/k=4\/k=5:=aw
 all_goals
  refine ab func172 ?_;(refine⟨ar,ar,dd ?_⟩);(refine⟨ar,ar,dd ?_⟩);exact uI
def jT(w:Wor)(m:lh)(n:Int):lh:=
 let m1:lh:={m with counts:=AL m.counts m.k n,k:=m.k+1}
 let m2:lh:=if m.k+1=6 then {m1 with i:=m.i+1,k:=0} else m1
 if m2.i=w.counts.length then {m2 with done:=true,answer:=⟨13,0,0,0,0,0,0,m2.counts⟩} else m2
def G5(w:Wor)(m:lh)(n:Int):lD:={qV with zg:=m.zg,access:=1,cell:=10,version:= -1,value:=m.k,done:=(jT w m n).done,answer:=if (jT w m n).done then (jT w m n).answer else BC}
structure WX(w:Wor)(m:lh)(r:List Int)(n:Int):Prop where
 i0:0<=m.i
 at_:w.counts[m.i.toNat]?=some r
 k0:0<=m.k
 k6:m.k<6
 row:r[m.k.toNat]?=some n
abbrev zDd(m:lh)(n:Int):lh:={m with counts:=AL m.counts m.k n,k:=m.k+1}
abbrev zDe(m:lh)(n:Int):lh:={m with counts:=AL m.counts m.k n,k:=0,i:=m.i+1}
abbrev zDf(m:lh)(n:Int):lh:={m with counts:=AL m.counts m.k n,k:=0,i:=m.i+1,done:=true,answer:=⟨13,0,0,0,0,0,0,AL m.counts m.k n⟩}
def O5{w:Wor}{m:lh}{n:Int}(h:m.k+1≠6)(hi:m.i≠w.counts.length):jT w m n=zDd m n:=by
 unfold jT;dsimp only;rw[pw h];exact pw hi
def O6{w:Wor}{m:lh}{n:Int}(h:m.k+1=6)(hi:m.i+1≠w.counts.length):jT w m n=zDe m n:=by
 unfold jT;dsimp only;rw[pA h];exact pw hi
def O7{w:Wor}{m:lh}{n:Int}(h:m.k+1=6)(hi:m.i+1=w.counts.length):jT w m n=zDf m n:=by
 unfold jT;dsimp only;rw[pA h];exact pA hi
abbrev Wy(m:lh):lD:={qV with zg:=m.zg,access:=1,cell:=10,version:= -1,value:=m.k}
def Vx{w:Wor}{m:lh}{n:Int}(h:(jT w m n).done=false):G5 w m n=Wy m:=by
 unfold G5;rw[h]
 rfl
def zwl{w:Wor}{m:lh}{n:Int}(h:(jT w m n).done=true):G5 w m n={Wy m with done:=true,answer:=(jT w m n).answer}:=by
 unfold G5;rw[h]
 rfl
def zqi(w:Wor)(m:lh)(r:List Int)(n:Int)(sw:jF w)(ok:nk w)(hl:i64 m.listen)(hpc:m.pc=0)(hs:ql w m=true)(hd:m.done=false)(hc:WX w m r n)(ha:m.answer=BC):
  tp 131 [] [Cw w,Cm m] (.lK [Cw w,Cm (jT w m n),Ce (G5 w m n)]) []:=by
 have i0:=hc.i0;have k0:=hc.k0;have hi:m.i.toNat<w.counts.length:=(gZ.1 hc.at_).1;have ml:(w.counts.map zT).length=w.counts.length:=pB ..;have cr:(w.counts.map zT)[m.i.toNat]?=some (zT r):=by rw[pj,hc.at_];rfl
 have cn:(r.map xy)[m.k.toNat]?=some (xy n):=by rw[pj,hc.row];rfl
 refine ab func131 ?_;refine⟨λh=>absurd h (by simp[hpc]),λ_=>dd ?_⟩;refine⟨λh=>absurd h (by have:=hc.k6;simp;omega),λ_=>dd ?_⟩;rw[ml];refine⟨λh=>absurd h aA,λ_=>dd ?_⟩;refine ah (zV w m ok hl) ?_;refine⟨λ_=>dd ?_,λh=>absurd ((hs).symm.trans h:true=false) ar⟩;refine tf ?_
 refine .inl ⟨⟨true,[],[],[14]⟩,au,uH ?_⟩;(refine⟨i0,_,cr,dd ?_⟩)
 (refine⟨k0,_,cn,dd ?_⟩)
 refine ah (zsi m.counts m.k n k0 hc.k6) ?_;refine td ?_
 rw[show IntKind.i64.wrap (m.k+1)=m.k+1 from qi aw (by have:=hc.k6;omega)];refine⟨λh6=>?_,λh6=>?_⟩
 ·have g6:m.k+1=6:=by simpa using h6
  refine dd ?_;rw[show IntKind.i64.wrap (m.i+1)=m.i+1 from qi aw (by have:=sw.counts.1;omega)];rw[ml];refine⟨λh7=>?_,λh7=>?_⟩
  ·have g7:m.i+1=w.counts.length:=by simpa using h7
   rw[zwl (by rw[O7 g6 g7]),O7 g6 g7];refine dd ?_;refine .inl ⟨⟨false,[1],[1],[]⟩,au,uH ?_⟩;refine td ?_
   exact gM
  ·have g7:m.i+1≠w.counts.length:=by simpa using h7
   rw[Vx (by rw[O6 g6 g7];exact hd),O6 g6 g7];refine dd ?_;exact gM
 ·have g6:m.k+1≠6:=by simpa using h6
  have g7:m.i≠w.counts.length:=aw
  rw[Vx (by rw[O5 g6 g7];exact hd),O5 g6 g7];refine dd ?_;rw[ml];refine⟨λh=>absurd h (aq g7),λ_=>dd ?_⟩;exact gM
end Go.Wor
