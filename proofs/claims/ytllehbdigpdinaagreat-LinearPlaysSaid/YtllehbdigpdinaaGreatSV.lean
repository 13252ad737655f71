import Derived.Test.YtllehbdigpdinaaGreatSU
set_option linter.all false
set_option maxRecDepth 100000
set_option maxHeartbeats 4000000
namespace Go.Wor
open Go.Ab Go.Proofs Tryz Go.Hy Go.Gat Go.Nam Go.Hos Go.Con Go.Sna
abbrev Cm(m:eR):C:=.agg (lJ m)
def zY(w:Wor)(m:eR):Bool:=xQ w && iQ m.zf w.pins.length && !m.done && iQ m.version w.ze.length && (match w.ze[m.version.toNat]? with
 |none=>false
 |some v=>iQ m.zj v.zq.length && (match v.zq[m.zj.toNat]? with
  |none=>false
  |some g=>iQ m.end_ g.ends.length && iQ m.other g.ends.length && (match g.ends[m.end_.toNat]? with
   |none=>false
   |some e=>iQ m.slot e.next.length) && (iQ (m.listen+1) (w.zd.length+1) && decide (0<=m.i) && decide (0<=m.k))))
def vC{i n:Int}:iQ i n=true↔0<=i/\i<n:=by unfold iQ;simp
structure qF(w:Wor)(m:eR)(v:fc)(g:Gr)(e:En):Prop where
 world:xQ w=true
 zf:0<=m.zf/\m.zf<w.pins.length
 done:m.done=false
 version:0<=m.version/\m.version<w.ze.length
 fH:w.ze[m.version.toNat]?=some v
 zj:0<=m.zj/\m.zj<v.zq.length
 fE:v.zq[m.zj.toNat]?=some g
 end_ : 0 <= m.end_ /\ m.end_<g.ends.length
 fL:g.ends[m.end_.toNat]?=some e
 other:0<=m.other/\m.other<g.ends.length
 slot:0<=m.slot/\m.slot<e.next.length
 listen: -1<=m.listen/\m.listen<w.zd.length
 i:0<=m.i
 k:0<=m.k
def ku{w:Wor}{m:eR}(h:zY w m=true):∃v g e,qF w m v g e:=by
 unfold zY at h;simp only[gC,pJ,vC]at h;obtain⟨⟨⟨⟨h1,h2⟩,h3⟩,h4⟩,h5⟩:=h;split at h5
 ·cases h5
 rename_i v hv;simp only[gC,vC]at h5;obtain⟨h5,h6⟩:=h5;split at h6
 ·cases h6
 rename_i g hg;simp only[gC,vC,gM]at h6;obtain⟨⟨⟨h6,h7⟩,h8⟩,⟨h9,h10⟩,h11⟩:=h6;split at h8
 ·cases h8
 rename_i e he;simp only[vC]at h8;exact⟨v,g,e,h1,h2,h3,h4,hv,h5,hg,h6,he,h7,h8,aw,h10,h11⟩
def zO(w:Wor)(m:eR)(hw:fY w)(hm:i64 m.listen):tn 160 [] [Cw w,Cm m] (Bo (zY w m)) []:=by
 have m1:(w.pins.map encI).length=w.pins.length:=gp ..;have m2:(w.ze.map zN).length=w.ze.length:=gp ..;have m3:(w.zd.map qN).length=w.zd.length:=gp ..;have b3:=hw.zd.1;have el:IntKind.i64.wrap ((w.zd.length:Int)+1)=(w.zd.length:Int)+1:=qb aw aw
 have el2:iQ (IntKind.i64.wrap (m.listen+1)) ((w.zd.length:Int)+1)=iQ (m.listen+1) ((w.zd.length:Int)+1):=by
  by_cases hh:m.listen<=9223372036854775806
  ·rw[qb (by have:=hm.1;omega) aw]
  ·have h9:m.listen=9223372036854775807:=by have:=hm.2;omega
   rw[h9];have h10:IntKind.i64.wrap (9223372036854775807+1)= -9223372036854775808:=ar
   rw[h10];unfold iQ;rw[show decide ((0:Int)<= -9223372036854775808)=false from O,show decide ((9223372036854775807:Int)+1<(w.zd.length:Int)+1)=false from aA];simp
 refine ab func160 ?_;refine ah (RS w hw) ?_;refine⟨λh1=>?_,λh1=>?_⟩
 rotate_left
 ·(have e:zY w m=false:=by (unfold zY;(rw[h1]);simp));exact dU
 refine dd ?_;rw[m1];refine ah (wV m.zf w.pins.length) ?_;refine⟨λh2=>?_,λh2=>?_⟩
 rotate_left
 ·(have e:zY w m=false:=by (unfold zY;(rw[h2]);simp));exact dU
 refine dd ?_;refine⟨λh3=>?_,λh3=>?_⟩
 ·(have e:zY w m=false:=by (unfold zY;(rw[h3]);simp));exact dU
 refine dd ?_;rw[m2];refine ah (wV m.version w.ze.length) ?_;refine⟨λh4=>?_,λh4=>?_⟩
 rotate_left
 ·(have e:zY w m=false:=by (unfold zY;(rw[h4]);simp));exact dU
 obtain⟨c0,c1⟩:=vC.1 h4;have hv:w.ze[m.version.toNat]?=some (w.ze[m.version.toNat]'aw):=dZ _;generalize w.ze[m.version.toNat]'aw=v at hv;have gv:(w.ze.map zN)[m.version.toNat]?=some (zN v):=by rw[gj,hv];rfl
 have m4:(v.zq.map zK).length=v.zq.length:=gp ..
 have g0:zY w m=(iQ m.zj v.zq.length && (match v.zq[m.zj.toNat]? with
  |none=>false
  |some g=>iQ m.end_ g.ends.length && iQ m.other g.ends.length && (match g.ends[m.end_.toNat]? with
   |none=>false
   |some e=>iQ m.slot e.next.length) && (iQ (m.listen+1) (w.zd.length+1) && decide (0<=m.i) && decide (0<=m.k)))):=by
  unfold zY;rw[h1,h2,h3,h4,hv]
  rfl
 rw[g0];refine dd ?_;refine tc ?_
 refine⟨c0,_,gv,dd ?_⟩;rw[m4];refine ah (wV m.zj v.zq.length) ?_;refine⟨λh5=>?_,λh5=>?_⟩
 rotate_left
 ·rw[h5];refine dd ?_;refine tc ?_
  exact uI
 obtain⟨c2,c3⟩:=vC.1 h5;have hg:v.zq[m.zj.toNat]?=some (v.zq[m.zj.toNat]'aw):=dZ _;generalize v.zq[m.zj.toNat]'aw=g at hg;have gg:(v.zq.map zK)[m.zj.toNat]?=some (zK g):=by rw[gj,hg];rfl
 have m5:(g.ends.map zD).length=g.ends.length:=gp ..;rw[h5,hg];dsimp only;refine dd ?_;refine tc ?_
 refine⟨c2,_,gg,dd ?_⟩;refine uE ?_;rw[m5];refine ah (wV m.end_ g.ends.length) ?_;refine⟨λh6=>?_,λh6=>?_⟩
 rotate_left
 ·rw[h6];refine dd ?_;refine tc ?_
  exact uI
 obtain⟨c4,c5⟩:=vC.1 h6;have he:g.ends[m.end_.toNat]?=some (g.ends[m.end_.toNat]'aw):=dZ _;generalize g.ends[m.end_.toNat]'aw=e at he;have ge:(g.ends.map zD)[m.end_.toNat]?=some (zD e):=by rw[gj,he];rfl
 have m6:(e.next.map encI).length=e.next.length:=gp ..;rw[h6,he];dsimp only;refine dd ?_;rw[m5];refine ah (wV m.other g.ends.length) ?_;refine⟨λh7=>?_,λh7=>?_⟩
 rotate_left
 ·rw[h7];refine dd ?_;refine tc ?_
  exact uI
 rw[h7];refine dd ?_;refine⟨c4,_,ge,dd ?_⟩;rw[m6];refine ah (wV m.slot e.next.length) ?_;refine⟨λh8=>?_,λh8=>?_⟩
 rotate_left
 ·rw[h8];refine dd ?_;refine tc ?_
  exact uI
 rw[h8];refine dd ?_;refine tc ?_
 rw[m3,el];have hin:=wV (IntKind.i64.wrap (m.listen+1)) ((w.zd.length:Int)+1);rw[el2]at hin;refine ah hin ?_;refine⟨λh9=>?_,λh9=>?_⟩
 rotate_left
 ·rw[h9];refine dd ?_;refine tc ?_
  exact uI
 rw[h9];refine dd ?_;refine⟨λh10=>?_,λh10=>?_⟩
 rotate_left
 ·refine dd ?_;refine tc ?_
  (exact⟨.inl O,_,.refl _,uN (by symm;simp at h10 ⊢;omega)⟩)
 refine dd ?_;refine⟨λh11=>?_,λh11=>?_⟩
 ·refine dd ?_;refine tc ?_
  (exact⟨.inl O,_,.refl _,uN (by symm;simp at h10 h11 ⊢;omega)⟩)
 ·refine dd ?_;refine tc ?_
  (exact⟨.inl O,_,.refl _,uN (by symm;simp at h10 h11 ⊢;omega)⟩)
end Go.Wor
namespace Go.Ab
def ka{H:zl}{id i:Nat}{ob:Ob}(h:(xV H id)[i]?=some ob)(hk:ob.kind=4):H[i]?=some ob:=by
 rw[vo]at h;cases hx:H[i]? with
 |none=>rw[hx]at h;cases h
 |some o=>
  rw[hx]at h;simp only[gF,gS]at h;split at h
  ·subst h;cases hk
  ·rw[h]
def zn.forget{B:Nat}{s:S}(id:Nat):zn B s ⟨s.tmps,xV s.H id⟩:=λm w E a hs=>by
 have hg:∀{i b},qH E (xV s.H id) i b->qH E s.H i b:=λ⟨ob,cap,h1,h2,h3,h4⟩=>⟨ob,cap,ka h1 h2,h2,h3,h4⟩
 have hr:∀{i b},jE (xV s.H id) i b->jE s.H i b:=λ⟨ob,o,t,h1,h2,h3,h4⟩=>⟨ob,o,t,ka h1 h2,h2,h3,h4⟩
 have h0:∀{b},jh E (xV s.H id) b->jh E s.H b:=λ⟨i,p,x,h1,h2⟩=>⟨i,p,x,(y9 h1).2,h2⟩
 refine⟨E,⟨⟨hs.heap.base.kill id,?_⟩,hs.tmps,hs.defers,by have:=hs.base;simp[xV];omega⟩,⟨Env.oz.refl B E,rfl,rfl,rfl,gD _,λ_ _ _=>O,λ_ _ _ h=>.inl h,?_⟩⟩
 ·exact {
   val:=λi ob h1 h2=>hs.heap.eX.val i ob (ka h1 h2) h2
   fj:=λi b ob h1 h2=>hs.heap.eX.fj i b ob (hg h1) (by obtain⟨ob2,_,h3,h4,_⟩:=h1;rw[h2]at h3;cases h3;exact ka h2 h4)
   sep:=λi b h1 h2=>hs.heap.eX.sep i b (hg h1) (h0 h2)
   inj:=λi j b h1 h2=>hs.heap.eX.inj i j b (hg h1) (hg h2)
   st:=λi b ob o u h1 h2 h3=>hs.heap.eX.st i b ob o u (hg h1) (by obtain⟨ob2,_,h4,h5,_⟩:=h1;rw[h2]at h4;cases h4;exact ka h2 h5) h3
   top:=λi ob k u h1 h2 h3=>hs.heap.eX.top i ob k u (ka h1 h2) h2 h3
   iw:=λi ob o t h1 h2 h3=>hs.heap.eX.iw i ob o t (ka h1 h2) h2 h3
   iO:=λi j b h1 h2=>hs.heap.eX.iO i j b (hr h1) (hr h2)}
 ·rintro b (hb|⟨i,hb|hb⟩)
  ·exact .inr (.inl (h0 hb))
  ·exact .inr (.inr ⟨i,.inl (hg hb)⟩)
  ·exact .inr (.inr ⟨i,.inr (hr hb)⟩)
end Go.Ab
namespace Go.Wor
open Go.Ab Go.Proofs Tryz Go.Hy Go.Gat Go.Nam Go.Hos Go.Con Go.Sna
abbrev Ce(e:eV):C:=.agg (j3 e)
abbrev mS:ff:=⟨0,0,0,0,0,0,0,⟨0,0,0,0,0,0⟩⟩
abbrev qz:eV:=⟨0,0,0,0,0,false,0,false,false,false,mS⟩
abbrev Ax(n:Int):eV:=⟨0,0,1,1,0,false,n,false,false,false,mS⟩
def ZO(r:C)(H':zl):Prop:=∃(b:Nat) (v0 v1 v2:Value),r=.v (.map (some b))/\H'=[Cr b [(0,v0,0),(1,v1,1),(2,v2,2)] 3 [.agg [.fn 232 [] []],.agg [.fn 234 [] []],.agg [.fn 235 [] []]]]
def TT:ql prog 194 [] [] ZO:=by
 refine ql.zG (fn:=f194) func194 O (uH ?_);intro b;refine dd ?_;refine jJ.qm (id:=0) _ _ _ _ (.inr O) underlying294 underlying3 O O O O O ?_;intro v0;refine dd ?_;refine jJ.qm (id:=0) _ _ _ _ (.inr O) underlying294 underlying3 O O O O O ?_;intro v1;refine dd ?_;refine jJ.qm (id:=0) _ _ _ _ (.inr O) underlying294 underlying3 O O O O O ?_;intro v2;refine dd ?_;exact⟨.inl O,_,_,.refl _,rfl,b,v0,v1,v2,rfl,rfl⟩
def qc{P:Program}{f:FuncId}{fn:Func}{c:Code}{H H2:zl}{args:List C}{r:C}(hf:P.funcs[f]?=some fn)(hb:fn.body=some c)(hle:H.length<=H2.length)
 (h:wpA P H.length c (entry fn args) H λex t1 H1=>(ex=.ret\/ex=.normal)/\∃s2 r1,zn H.length ⟨t1,H1⟩ s2/\vL P fn s2=some r1/\zn H.length ⟨[r1],s2.H⟩ ⟨[r],H2⟩):zb P f H args r H2:=λw E vs hh hl0=>by
 have h1:ql P f H args λr1 H1=>zn H.length ⟨[r1],H1⟩ ⟨[r],H2⟩:=ql.zG hf hb h
 refine(h1 w E vs hh hl0).mono ?_;rintro e w' ⟨r1,H1,v,E',hw,h0,h2,h3,g⟩;have hHH:H.length<=H1.length:=bV
 obtain⟨E2,hs,g2⟩:=hw 0 w' E' ⟨#[v],[]⟩ ⟨h2,LL.one h3,gY _,hHH⟩;have hn2:=hs.heap.n;refine⟨v,E2,h0,hs.heap,hs.tmps.cons_inv.1,⟨⟨by rw[hh.n,hn2];exact hle,λid hops hi=>?_,λid hops hi=>?_,λb o u hu=>g2.le.St _ _ _ (g.le.St _ _ _ hu),λid k u hi hu=>?_⟩,g2.os.trans g.os,g2.tape.trans g.tape,g2.output.trans g.output,pB g.size g2.size,?_,?_,?_⟩⟩
 ·rw[hh.n]at hi;exact(g2.le.β id hops hi).trans (g.le.β id hops tS)
 ·rw[hh.n]at hi;exact(g2.le.κ id hops hi).trans (g.le.κ id hops tS)
 ·rw[hh.n]at hi;exact g2.le.G id k u hi (g.le.G id k u tS hu)
 ·intro k hk ho;exact di
 ·intro b o u hu;rcases g2.jO b o u hu with h1|h1|h1
  ·exact g.jO b o u h1
  ·exact .inr (.inl (pB g.size h1))
  ·rcases g.own b h1 with h4|h4
   ·exact .inr (.inl h4)
   ·exact .inr (.inr h4)
 ·intro b hb;rcases g2.own b hb with h1|h1
  ·exact .inl (pB g.size h1)
  ·exact g.own b h1
def aa{P:Program}{f:FuncId}{fn:Func}{c:Code}{H H2:zl}{args:List C}{r:C}{zQ:Prop}(hf:P.funcs[f]?=some fn)(z0:zQ)(hb:fn.body=some c:=by exact O)(hle:H.length<=H2.length:=by exact gD _)(ze:zQ->wpA P H.length c (entry fn args) H λex t1 H1=>(ex=.ret\/ex=.normal)/\∃s2 r1,zn H.length ⟨t1,H1⟩ s2/\vL P fn s2=some r1/\zn H.length ⟨[r1],s2.H⟩ ⟨[r],H2⟩:=by intro zh;(conv=>whnf);exact zh):zb P f H args r H2:=qc hf hb hle (ze z0)
def Hz(w:Wor)(m:eR):tn 233 [oW w,oM m] [.ref 0 [] 8 0 0] (Ce (Ax w.zo)) [oW w,oM m]:=by
 refine aa func233 ?_;exact cW
def WT(w:Wor)(m:eR):tn 232 [oW w,oM m] tj (Ce (Ax w.zo)) [oW w,oM ({m with zo:=w.zo,pc:=1})]:=by
 refine aa func232 ?_;refine af [0,1] (Hz w {m with zo:=w.zo,pc:=1}) ?_;exact cW
def WU(w:Wor)(m:eR)(h0:0<=m.zf)(h1:m.zf<w.pins.length):tn 234 [⟨1,38,8,[[I w.zo,I w.current,I w.lock,.sl 2 [] 1 0 w.pins.length false,lV w.ze,lL w.zd,fK w.counts,lR w.zr]],0⟩,oM m,⟨2,3,1,(w.pins).map encI,0⟩] tj (Ce ⟨0,0,2,2,0,false,IntKind.i64.wrap (m.zo+1),false,false,false,mS⟩) [⟨1,38,8,[[I w.zo,I w.current,I w.lock,.sl 2 [] 1 0 w.pins.length false,lV w.ze,lL w.zd,fK w.counts,lR w.zr]],0⟩,oM ({m with pc:=2}),⟨2,3,1,(w.pins.set m.zf.toNat (IntKind.i64.wrap (m.zo+1))).map encI,0⟩]:=by
 have hs:(w.pins.map encI).set m.zf.toNat [I (IntKind.i64.wrap (m.zo+1))]=(w.pins.set m.zf.toNat (IntKind.i64.wrap (m.zo+1))).map encI:=bT
 rw[<-hs];have e1:0+m.zf.toNat=m.zf.toNat:=gI _;have hg:(w.pins.map encI)[m.zf.toNat]?=some (encI (w.pins[m.zf.toNat]'aw)):=by rw[gj,dZ aw];rfl
 refine aa func234 ?_;refine uE ?_;refine⟨h0,aw,dd ?_⟩;rw[e1];refine⟨_,hg,rfl,dd ?_⟩;exact⟨.inl O,_,_,.refl _,rfl,cE 3⟩
def WV(w:Wor)(m:eR):tn 235 [oW w,oM m] tj (Ce (Ax w.zo)) [oW w,oM ({m with zo:=w.zo,pc:=if w.zo=m.zo then 3 else 1})]:=by
 refine aa func235 ?_;refine uE ?_;refine⟨λh=>?_,λh=>?_⟩
 ·conv=>whnf
  rw[gk (gH h)];refine af [0,1] (Hz w {m with zo:=w.zo,pc:=3}) ?_;exact cW
 ·conv=>whnf
  rw[gf (rk h)];refine af [0,1] (Hz w {m with zo:=w.zo,pc:=1}) ?_;exact cW
abbrev Qi:List C:=[.fn 232 [] []]
abbrev Qj:List C:=[.fn 234 [] []]
abbrev Qk:List C:=[.fn 235 [] []]
abbrev iG:List C:=[I 0,I 0,I 0,.eS 1 0 [],.eS 1 0 [],.eS 1 0 [],.eS 1 0 [],.eS 1 0 []]
abbrev QS:List C:=[I 0,Tx [],Tx [],Tx [],I 0,I 0,I 0,.eS 1 0 [],.eS 1 0 [],.eS 1 0 []]
abbrev iF:List C:=QS++[I 0,I 0,I 0,I 0,I 0,I 0,I 0,I 0,I 0,U 0,I 0,I 0,I 0,I 0,Bo false]++x3 mS++Cd ⟨0,0,0,0,0,0⟩
def L5{P:Program}{f:FuncId}(sel:List Nat){K H0:zl}{args args0:List C}{R:C->zl->Prop}(h:ql P f H0 args0 R)(hR:∀r H',R r H'->qP H'=true)
 (hH:xy sel K=H0)(ha:args.map (xU sel 9)=args0)(z8:sel.all (λid=>Nat.blt id K.length)=true)(fV:yc sel=true)(fP:qP K=true){k:C->zl->Prop}
 (hk:∀r H',R r H'->AI (wm sel K H') λX=>qL (yV (q9 sel K.length) 9 r) λc=>k c X):∃R',ql P f K args R'/\∀r H2,R' r H2->k r H2:=
 ⟨_,h.part sel hR hH ha z8 fV fP,λr H2 ⟨r0,H',h1,h2,h3⟩=>by subst h2 h3;exact zR (vm (k:=λX=>qL (yV (q9 sel K.length) 9 r0) λc=>k c X) (hk r0 H' h1))⟩
def zb.BR{P:Program}{f:FuncId}{fn:Func}{c:Code}{args:List C}{r:C}(hf:P.funcs[f]?=some fn)(hb:fn.body=some c)
 (h:qO P 0 c ⟨entry fn args,[]⟩ λex s=>(ex=.ret\/ex=.normal)/\∃s2,zn 0 s s2/\(vL P fn s2).map (yx 0 9)=some r):zb P f [] args r []:=by
 refine ql.Jj (ql.kY (H:=[]) hf hb (h.mono λex s1 ⟨hex,s2,hw,h2⟩=>?_));cases h3:vL P fn s2 with
 |none=>rw[h3]at h2;cases h2
 |some r0=>
  rw[h3]at h2;cases h2
  exact⟨hex,s2,r0,hw,h3,rfl⟩
def ID(w:Wor)(m:eR)(j f:Nat)(R:Exit->S->Prop)(hf:∀v0 v1 v2,vP [(0,v0,0),(1,v1,1),(2,v2,2)] m.pc=some j)(hc:[C.agg Qi,.agg Qj,.agg Qk][j]?=some (.agg [.fn f [] []]))
 (hn:qO prog 0 (behind 2 ((f159.body).getD .skip)) ⟨(.za::.za::.ref 0 [] 8 0 0::.ref 1 [] 44 0 0::.ref 2 [] 8 0 0::.ref 3 [] 44 0 0::.ref 4 [] 23 0 0::.ref 5 [] 1 0 0::.v (.bool true)::hU (hU (hU ([.za,.za,.za,.za,.za,.za,.za])))),[oW w,oM m,⟨1,38,8,[iG],0⟩,⟨1,68,44,[iF],0⟩,oE qz,⟨1,292,1,[[.fn f [] []]],0⟩]⟩ R):qO prog 0 ((f159.body).getD .skip) ⟨entry f159 [Cw w,Cm m],[]⟩ R:=by
 refine vK (uH ?_);refine .inl ⟨rfl,_,_,.refl _,vK (uH ?_)⟩;refine .inr ⟨⟨[2],[1],false⟩,au,λh=>absurd h ar,λt H=>qO prog 0 (behind 2 ((f159.body).getD .skip)) ⟨t,H⟩ R,uH ?_,λt2 H2 h=>.inl ⟨rfl,_,_,.refl _,h⟩⟩;(repeat' (first|(exact trivial)|(refine⟨λ_=>uH ?_,λh=>absurd h ar⟩)|(refine⟨λh=>absurd h ar,λ_=>uH ?_⟩)|(refine⟨(rfl:(_:zl)=_),uH ?_⟩)|(refine⟨(rfl:(_:Option Ob)=_),uH ?_⟩)|((refine L5 [] TT (λr H' ⟨b,v0,v1,v2,h1,h2⟩=>h2 ▸ rfl) O O O O O ?_;rintro _ _ ⟨b,v0,v1,v2,rfl,rfl⟩;(refine dd ?_)))|(refine⟨_,_,fg.DW (id:=5) _ _ _ _ O O O O O O O O O (hf _ _ _) hc,?_⟩;(refine dd ?_))|(refine⟨_,_,fg.DW (id:=6) _ _ _ _ O O O O O O O O O (hf _ _ _) hc,?_⟩;(refine dd ?_))|(refine And.intro ?_ ?_ <;> (conv=>whnf))))
 all_goals (first|exact⟨_,_,(zn.forget 5).trans ((zn.fe [0,1,2,3,4,6] [2,3,4,5,6,7,8] _ _ O O O O).trans (cC)),hn⟩|exact⟨_,_,(zn.forget 6).trans ((zn.fe [0,1,2,3,4,5] [2,3,4,5,6,7,8] _ _ O O O O).trans (cC)),hn⟩)
abbrev As(m:eR)(e:eV):eV:={e with zf:=m.zf,version:= -1}
def Vf(w:Wor)(m:eR)(sw:q8 w)(ok:fY w)(hl:i64 m.listen)(hpc:m.pc=0)(hs:zY w m=true):
  tn 159 [] [Cw w,Cm m] (.fb [Cw w,Cm {m with zo:=w.zo,pc:=1},Ce (As m (Ax w.zo))]) []:=by
 refine zb.BR func159 O (ID w m 0 232 _ (λ_ _ _=>by rw[hpc];rfl) O ?_);(refine jy (K:=λex t H=>(ex=.ret\/ex=.normal)/\∃s2,zn 0 ⟨t,H⟩ s2/\(vL prog f159 s2).map (yx 0 9)=some (.fb [Cw w,Cm {m with zo:=w.zo,pc:=1},Ce (As m (Ax w.zo))])) (uH ?_))
 refine tc ?_
 refine ah (zO w m ok hl) ?_;refine⟨λ_=>dd ?_,λh=>absurd ((hs).symm.trans h:true=false) ar⟩;refine tc ?_
 refine ah (qw w sw) ?_;refine af [0,1] (WT w m) ?_;refine .inl ⟨⟨false,[1,2],[1,6],[]⟩,au,uH ?_⟩;refine hZ ?_
 exact uI
def Vh(w:Wor)(m:eR)(sw:q8 w)(ok:fY w)(hl:i64 m.listen)(hpc:m.pc=2)(hs:zY w m=true):
  tn 159 [] [Cw w,Cm m] (.fb [Cw w,Cm {m with zo:=w.zo,pc:=if w.zo=m.zo then 3 else 1},Ce (As m (Ax w.zo))]) []:=by
 refine zb.BR func159 O (ID w m 2 235 _ (λ_ _ _=>by rw[hpc];rfl) O ?_);(refine jy (K:=λex t H=>(ex=.ret\/ex=.normal)/\∃s2,zn 0 ⟨t,H⟩ s2/\(vL prog f159 s2).map (yx 0 9)=some (.fb [Cw w,Cm {m with zo:=w.zo,pc:=if w.zo=m.zo then 3 else 1},Ce (As m (Ax w.zo))])) (uH ?_))
 refine tc ?_
 refine ah (zO w m ok hl) ?_;refine⟨λ_=>dd ?_,λh=>absurd ((hs).symm.trans h:true=false) ar⟩;refine tc ?_
 refine ah (qw w sw) ?_;refine af [0,1] (WV w m) ?_;refine .inl ⟨⟨false,[1,2],[1,6],[]⟩,au,uH ?_⟩;refine hZ ?_
 exact uI
abbrev oV(w:Wor)(t:Nat)(n:Int):Wor:={w with pins:=w.pins.set t n}
def Vg(w:Wor)(m:eR)(sw:q8 w)(ok:fY w)(hl:i64 m.listen)(hpc:m.pc=1)(hs:zY w m=true):
  tn 159 [] [Cw w,Cm m] (.fb [Cw (oV w m.zf.toNat (IntKind.i64.wrap (m.zo+1))),Cm {m with pc:=2},Ce (As m ⟨0,0,2,2,0,false,IntKind.i64.wrap (m.zo+1),false,false,false,mS⟩)]) []:=by
 obtain⟨v,g,e,su⟩:=ku hs
 obtain⟨x,l,hx⟩:∃x l,w.pins=x::l:=by
  cases h:w.pins with
  |nil=>have:=su.zf;rw[h]at this;exact de
  |cons x l=>exact⟨x,l,rfl⟩
 refine zb.BR func159 O (ID w m 1 234 _ (λ_ _ _=>by rw[hpc];rfl) O ?_);(refine jy (K:=λex t H=>(ex=.ret\/ex=.normal)/\∃s2,zn 0 ⟨t,H⟩ s2/\(vL prog f159 s2).map (yx 0 9)=some (.fb [Cw (oV w m.zf.toNat (IntKind.i64.wrap (m.zo+1))),Cm {m with pc:=2},Ce (As m ⟨0,0,2,2,0,false,IntKind.i64.wrap (m.zo+1),false,false,false,mS⟩)])) (uH ?_))
 refine tc ?_
 refine ah (zO w m ok hl) ?_;refine⟨λ_=>dd ?_,λh=>absurd ((hs).symm.trans h:true=false) ar⟩;refine tc ?_
 refine af [] (K6 w sw x l hx) ?_;refine af [0,1,6] (WU w m su.zf.1 su.zf.2) ?_;refine .inl ⟨⟨false,[1,2],[1,7],[]⟩,au,uH ?_⟩;refine hZ ?_
 exact⟨.inl O,_,zn.zS 2 0 3 O O O O (.inr O) aj aj (shut_map (enc:=encI) (λ_=>O) _) (z5 O),rfl⟩
abbrev EJ(m:eR):eV:=As m ⟨0,0,2,2,0,false,0,false,false,false,mS⟩
def VU(w:Wor)(m:eR)(sw:q8 w)(ok:fY w)(hl:i64 m.listen)(hs:zY w m=true):
  tn 245 [] [Cw w,Cm m] (.fb [Cw (oV w m.zf.toNat 0),Ce (EJ m)]) []:=by
 obtain⟨v,g,e,su⟩:=ku hs
 obtain⟨x,l,hx⟩:∃x l,w.pins=x::l:=by
  cases h:w.pins with
  |nil=>have:=su.zf;rw[h]at this;exact de
  |cons x l=>exact⟨x,l,rfl⟩
 have e1:0+m.zf.toNat=m.zf.toNat:=gI _;have h0:=su.zf.1;have h1:=su.zf.2;have hst:(w.pins.map encI).set m.zf.toNat [I 0]=(w.pins.set m.zf.toNat 0).map encI:=bT
 have hg:(w.pins.map encI)[m.zf.toNat]?=some (encI (w.pins[m.zf.toNat]'aw)):=by rw[gj,dZ aw];rfl
 refine ab func245 ?_;refine ah (zO w m ok hl) ?_;refine⟨λ_=>dd ?_,λh=>absurd ((hs).symm.trans h:true=false) ar⟩;refine tc ?_
 refine af [] (K6 w sw x l hx) ?_;refine⟨h0,aw,dd ?_⟩;rw[e1];refine⟨_,hg,rfl,dd ?_⟩;rw[hst];refine .inl ⟨⟨false,[2],[1],[]⟩,au,uH ?_⟩;refine hZ ?_
 exact⟨.inl O,_,zn.zS 2 0 3 O O O O (.inr O) aj aj (shut_map (enc:=encI) (λ_=>O) _) (z5 O),rfl⟩
def wc(x:na)(k n:Int):na:=
 if k=0 then {x with c0:=IntKind.u64.wrap (x.c0+n)} else if k=1 then {x with c1:=IntKind.u64.wrap (x.c1+n)} else if k=2 then {x with c2:=IntKind.u64.wrap (x.c2+n)}
 else if k=3 then {x with c3:=IntKind.u64.wrap (x.c3+n)} else if k=4 then {x with c4:=IntKind.u64.wrap (x.c4+n)} else {x with c5:=IntKind.u64.wrap (x.c5+n)}
def T5(x:na)(k n:Int)(h0:0<=k)(h6:k<6):tn 183 [] [.agg (Cd x),I k,U n] (.agg (Cd (wc x k n))) []:=by
 obtain⟨a,b,c,d,e,f⟩:=x;obtain rfl|rfl|rfl|rfl|rfl|rfl:k=0\/k=1\/k=2\/k=3\/k=4\/k=5:=aw
 all_goals
  refine ab func183 ?_;(refine⟨ar,ar,dd ?_⟩);(refine⟨ar,ar,dd ?_⟩);exact uI
def jo(w:Wor)(m:eR)(n:Int):eR:=
 let m1:eR:={m with counts:=wc m.counts m.k n,k:=m.k+1}
 let m2:eR:=if m.k+1=6 then {m1 with i:=m.i+1,k:=0} else m1
 if m2.i=w.counts.length then {m2 with done:=true,answer:=⟨13,0,0,0,0,0,0,m2.counts⟩} else m2
def C7(w:Wor)(m:eR)(n:Int):eV:={qz with zf:=m.zf,access:=1,cell:=10,version:= -1,value:=m.k,done:=(jo w m n).done,answer:=if (jo w m n).done then (jo w m n).answer else mS}
structure Qd(w:Wor)(m:eR)(r:List Int)(n:Int):Prop where
 i0:0<=m.i
 at_:w.counts[m.i.toNat]?=some r
 k0:0<=m.k
 k6:m.k<6
 row:r[m.k.toNat]?=some n
abbrev zxV(m:eR)(n:Int):eR:={m with counts:=wc m.counts m.k n,k:=m.k+1}
abbrev zxW(m:eR)(n:Int):eR:={m with counts:=wc m.counts m.k n,k:=0,i:=m.i+1}
abbrev zxX(m:eR)(n:Int):eR:={m with counts:=wc m.counts m.k n,k:=0,i:=m.i+1,done:=true,answer:=⟨13,0,0,0,0,0,0,wc m.counts m.k n⟩}
def I8{w:Wor}{m:eR}{n:Int}(h:m.k+1≠6)(hi:m.i≠w.counts.length):jo w m n=zxV m n:=by
 unfold jo;dsimp only;rw[gf h];exact gf hi
def I9{w:Wor}{m:eR}{n:Int}(h:m.k+1=6)(hi:m.i+1≠w.counts.length):jo w m n=zxW m n:=by
 unfold jo;dsimp only;rw[gk h];exact gf hi
def Ja{w:Wor}{m:eR}{n:Int}(h:m.k+1=6)(hi:m.i+1=w.counts.length):jo w m n=zxX m n:=by
 unfold jo;dsimp only;rw[gk h];exact gk hi
abbrev Pe(m:eR):eV:={qz with zf:=m.zf,access:=1,cell:=10,version:= -1,value:=m.k}
def NK{w:Wor}{m:eR}{n:Int}(h:(jo w m n).done=false):C7 w m n=Pe m:=by
 unfold C7;rw[h]
 rfl
def WW{w:Wor}{m:eR}{n:Int}(h:(jo w m n).done=true):C7 w m n={Pe m with done:=true,answer:=(jo w m n).answer}:=by
 unfold C7;rw[h]
 rfl
def SX(w:Wor)(m:eR)(r:List Int)(n:Int)(sw:q8 w)(ok:fY w)(hl:i64 m.listen)(hpc:m.pc=0)(hs:zY w m=true)(hd:m.done=false)(hc:Qd w m r n)(ha:m.answer=mS):
  tn 138 [] [Cw w,Cm m] (.fb [Cw w,Cm (jo w m n),Ce (C7 w m n)]) []:=by
 have i0:=hc.i0;have k0:=hc.k0;have hi:m.i.toNat<w.counts.length:=(dY.1 hc.at_).1;have ml:(w.counts.map zP).length=w.counts.length:=gp ..;have cr:(w.counts.map zP)[m.i.toNat]?=some (zP r):=by rw[gj,hc.at_];rfl
 have cn:(r.map jS)[m.k.toNat]?=some (jS n):=by rw[gj,hc.row];rfl
 refine ab func138 ?_;refine⟨λh=>absurd h (by simp[hpc]),λ_=>dd ?_⟩;refine⟨λh=>absurd h (by have:=hc.k6;simp;omega),λ_=>dd ?_⟩;rw[ml];refine⟨λh=>absurd h aA,λ_=>dd ?_⟩;refine ah (zO w m ok hl) ?_;refine⟨λ_=>dd ?_,λh=>absurd ((hs).symm.trans h:true=false) ar⟩;refine tc ?_
 refine .inl ⟨⟨true,[],[],[14]⟩,au,uH ?_⟩;(refine⟨i0,_,cr,dd ?_⟩)
 (refine⟨k0,_,cn,dd ?_⟩)
 refine ah (T5 m.counts m.k n k0 hc.k6) ?_;refine hZ ?_
 rw[show IntKind.i64.wrap (m.k+1)=m.k+1 from qb aw (by have:=hc.k6;omega)];refine⟨λh6=>?_,λh6=>?_⟩
 ·have g6:m.k+1=6:=by simpa using h6
  refine dd ?_;rw[show IntKind.i64.wrap (m.i+1)=m.i+1 from qb aw (by have:=sw.counts.1;omega)];rw[ml];refine⟨λh7=>?_,λh7=>?_⟩
  ·have g7:m.i+1=w.counts.length:=by simpa using h7
   rw[WW (by rw[Ja g6 g7]),Ja g6 g7];refine dd ?_;refine .inl ⟨⟨false,[1],[1],[]⟩,au,uH ?_⟩;refine hZ ?_
   exact dO
  ·have g7:m.i+1≠w.counts.length:=by simpa using h7
   rw[NK (by rw[I9 g6 g7];exact hd),I9 g6 g7];refine dd ?_;exact dO
 ·have g6:m.k+1≠6:=by simpa using h6
  have g7:m.i≠w.counts.length:=aw
  rw[NK (by rw[I8 g6 g7];exact hd),I8 g6 g7];refine dd ?_;rw[ml];refine⟨λh=>absurd h (aq g7),λ_=>dd ?_⟩;exact dO
end Go.Wor
