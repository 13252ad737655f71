import Derived.Test.YtllehbdigpdinaaGreatTU
set_option linter.all false
set_option maxRecDepth 100000
set_option maxHeartbeats 4000000
namespace Go.Wor
open Go.Ab Go.Proofs Tryz Go.Hy Go.Gat Go.Nam Go.Hos Go.Con Go.Sna
abbrev Cm(m:fD):C:=.agg (mJ m)
def z8(w:Wor)(m:fD):Bool:=xa w && mi m.zf w.pins.length && !m.done && mi m.version w.ze.length && (match w.ze[m.version.toNat]? with
 |none=>false
 |some v=>mi m.zg v.zq.length && (match v.zq[m.zg.toNat]? with
  |none=>false
  |some g=>mi m.end_ g.ends.length && mi m.other g.ends.length && (match g.ends[m.end_.toNat]? with
   |none=>false
   |some e=>mi m.slot e.next.length) && (mi (m.listen+1) (w.zc.length+1) && decide (0<=m.i) && decide (0<=m.k))))
def ko{i n:Int}:mi i n=true↔0<=i/\i<n:=by unfold mi;simp
structure qt(w:Wor)(m:fD)(v:fI)(g:Gr)(e:En):Prop where
 world:xa w=true
 zf:0<=m.zf/\m.zf<w.pins.length
 done:m.done=false
 version:0<=m.version/\m.version<w.ze.length
 fZ:w.ze[m.version.toNat]?=some v
 zg:0<=m.zg/\m.zg<v.zq.length
 fY:v.zq[m.zg.toNat]?=some g
 end_ : 0 <= m.end_ /\ m.end_<g.ends.length
 ib:g.ends[m.end_.toNat]?=some e
 other:0<=m.other/\m.other<g.ends.length
 slot:0<=m.slot/\m.slot<e.next.length
 listen: -1<=m.listen/\m.listen<w.zc.length
 i:0<=m.i
 k:0<=m.k
def xN{w:Wor}{m:fD}(h:z8 w m=true):∃v g e,qt w m v g e:=by
 unfold z8 at h;simp only[gH,pK,ko]at h;obtain⟨⟨⟨⟨h1,h2⟩,h3⟩,h4⟩,h5⟩:=h;split at h5
 .cases h5
 rename_i v hv;simp only[gH,ko]at h5;obtain⟨h5,h6⟩:=h5;split at h6
 .cases h6
 rename_i g hg;simp only[gH,ko,gR]at h6;obtain⟨⟨⟨h6,h7⟩,h8⟩,⟨h9,h10⟩,h11⟩:=h6;split at h8
 .cases h8
 rename_i e he;simp only[ko]at h8;exact⟨v,g,e,h1,h2,h3,h4,hv,h5,hg,h6,he,h7,h8,aw,h10,h11⟩
def zP(w:Wor)(m:fD)(hw:iw w)(hm:i64 m.listen):tj 160 [] [Cw w,Cm m] (Bo (z8 w m)) []:=by
 have m1:(w.pins.map encI).length=w.pins.length:=gC ..;have m2:(w.ze.map zM).length=w.ze.length:=gC ..;have m3:(w.zc.map qO).length=w.zc.length:=gC ..;have b3:=hw.zc.1;have el:IntKind.i64.wrap ((w.zc.length:Int)+1)=(w.zc.length:Int)+1:=z7 aw aw
 have el2:mi (IntKind.i64.wrap (m.listen+1)) ((w.zc.length:Int)+1)=mi (m.listen+1) ((w.zc.length:Int)+1):=by
  by_cases hh:m.listen<=9223372036854775806
  .rw[z7 (by have:=hm.1;omega) aw]
  .have h9:m.listen=9223372036854775807:=by have:=hm.2;omega
   rw[h9];have h10:IntKind.i64.wrap (9223372036854775807+1)= -9223372036854775808:=ar
   rw[h10];unfold mi;rw[show decide ((0:Int)<= -9223372036854775808)=false from V,show decide ((9223372036854775807:Int)+1<(w.zc.length:Int)+1)=false from aA];simp
 refine ab func160 ?_;refine ah (Oh w hw) ?_;refine⟨λh1=>?_,λh1=>?_⟩
 rotate_left
 ·(have e:z8 w m=false:=by (unfold z8;(rw[h1]);simp));exact dW
 refine dd ?_;rw[m1];refine ah (Dc m.zf w.pins.length) ?_;refine⟨λh2=>?_,λh2=>?_⟩
 rotate_left
 ·(have e:z8 w m=false:=by (unfold z8;(rw[h2]);simp));exact dW
 refine dd ?_;refine⟨λh3=>?_,λh3=>?_⟩
 ·(have e:z8 w m=false:=by (unfold z8;(rw[h3]);simp));exact dW
 refine dd ?_;rw[m2];refine ah (Dc m.version w.ze.length) ?_;refine⟨λh4=>?_,λh4=>?_⟩
 rotate_left
 ·(have e:z8 w m=false:=by (unfold z8;(rw[h4]);simp));exact dW
 obtain⟨c0,c1⟩:=ko.1 h4;have hv:w.ze[m.version.toNat]?=some (w.ze[m.version.toNat]'aw):=gk _;generalize w.ze[m.version.toNat]'aw=v at hv;have gv:(w.ze.map zM)[m.version.toNat]?=some (zM v):=by rw[gy,hv];rfl
 have m4:(v.zq.map zK).length=v.zq.length:=gC ..
 have g0:z8 w m=(mi m.zg v.zq.length && (match v.zq[m.zg.toNat]? with
  |none=>false
  |some g=>mi m.end_ g.ends.length && mi m.other g.ends.length && (match g.ends[m.end_.toNat]? with
   |none=>false
   |some e=>mi m.slot e.next.length) && (mi (m.listen+1) (w.zc.length+1) && decide (0<=m.i) && decide (0<=m.k)))):=by
  unfold z8;rw[h1,h2,h3,h4,hv]
  rfl
 rw[g0];refine zad ?_
 refine⟨c0,_,gv,dd ?_⟩;rw[m4];refine ah (Dc m.zg v.zq.length) ?_;refine⟨λh5=>?_,λh5=>?_⟩
 rotate_left
 .rw[h5];refine zad ?_
  exact uI
 obtain⟨c2,c3⟩:=ko.1 h5;have hg:v.zq[m.zg.toNat]?=some (v.zq[m.zg.toNat]'aw):=gk _;generalize v.zq[m.zg.toNat]'aw=g at hg;have gg:(v.zq.map zK)[m.zg.toNat]?=some (zK g):=by rw[gy,hg];rfl
 have m5:(g.ends.map zE).length=g.ends.length:=gC ..;rw[h5,hg];dsimp only;refine zad ?_
 refine⟨c2,_,gg,dd ?_⟩;refine uE ?_;rw[m5];refine ah (Dc m.end_ g.ends.length) ?_;refine⟨λh6=>?_,λh6=>?_⟩
 rotate_left
 .rw[h6];refine zad ?_
  exact uI
 obtain⟨c4,c5⟩:=ko.1 h6;have he:g.ends[m.end_.toNat]?=some (g.ends[m.end_.toNat]'aw):=gk _;generalize g.ends[m.end_.toNat]'aw=e at he;have ge:(g.ends.map zE)[m.end_.toNat]?=some (zE e):=by rw[gy,he];rfl
 have m6:(e.next.map encI).length=e.next.length:=gC ..;rw[h6,he];dsimp only;refine dd ?_;rw[m5];refine ah (Dc m.other g.ends.length) ?_;refine⟨λh7=>?_,λh7=>?_⟩
 rotate_left
 .rw[h7];refine zad ?_
  exact uI
 rw[h7];refine dd ?_;refine⟨c4,_,ge,dd ?_⟩;rw[m6];refine ah (Dc m.slot e.next.length) ?_;refine⟨λh8=>?_,λh8=>?_⟩
 rotate_left
 .rw[h8];refine zad ?_
  exact uI
 rw[h8];refine zad ?_
 rw[m3,el];have hin:=Dc (IntKind.i64.wrap (m.listen+1)) ((w.zc.length:Int)+1);rw[el2]at hin;refine ah hin ?_;refine⟨λh9=>?_,λh9=>?_⟩
 rotate_left
 .rw[h9];refine zad ?_
  exact uI
 rw[h9];refine dd ?_;refine⟨λh10=>?_,λh10=>?_⟩
 rotate_left
 .refine zad ?_
  (exact⟨.inl V,_,.refl _,uN (by symm;simp at h10|-;omega)⟩)
 refine dd ?_;refine⟨λh11=>?_,λh11=>?_⟩
 .refine zad ?_
  (exact⟨.inl V,_,.refl _,uN (by symm;simp at h10 h11|-;omega)⟩)
 .refine zad ?_
  (exact⟨.inl V,_,.refl _,uN (by symm;simp at h10 h11|-;omega)⟩)
end Go.Wor
namespace Go.Ab
def kV{H:zn}{id i:Nat}{ob:Ob}(h:(jT H id)[i]?=some ob)(hk:ob.kind=4):H[i]?=some ob:=by
 rw[yH]at h;cases hx:H[i]? with
 |none=>rw[hx]at h;cases h
 |some o=>
  rw[hx]at h;simp only[gK,gX]at h;split at h
  .subst h;cases hk
  .rw[h]
def zp.forget{B:Nat}{s:S}(id:Nat):zp B s ⟨s.tmps,jT s.H id⟩:=λm w E a hs=>by
 have hg:∀{i b},qP E (jT s.H id) i b->qP E s.H i b:=λ⟨ob,cap,h1,h2,h3,h4⟩=>⟨ob,cap,kV h1 h2,h2,h3,h4⟩
 have hr:∀{i b},jQ (jT s.H id) i b->jQ s.H i b:=λ⟨ob,o,t,h1,h2,h3,h4⟩=>⟨ob,o,t,kV h1 h2,h2,h3,h4⟩
 have h0:∀{b},jr E (jT s.H id) b->jr E s.H b:=λ⟨i,p,x,h1,h2⟩=>⟨i,p,x,(vF h1).2,h2⟩
 refine⟨E,⟨⟨hs.heap.base.kill id,?_⟩,hs.tmps,hs.defers,by have:=hs.base;simp[jT];omega⟩,⟨Env.AK.refl B E,rfl,rfl,rfl,gG _,λ_ _ _=>V,λ_ _ _ h=>.inl h,?_⟩⟩
 .exact {
   val:=λi ob h1 h2=>hs.heap.fH.val i ob (kV h1 h2) h2
   fR:=λi b ob h1 h2=>hs.heap.fH.fR i b ob (hg h1) (by obtain⟨ob2,_,h3,h4,_⟩:=h1;rw[h2]at h3;cases h3;exact kV h2 h4)
   sep:=λi b h1 h2=>hs.heap.fH.sep i b (hg h1) (h0 h2)
   inj:=λi j b h1 h2=>hs.heap.fH.inj i j b (hg h1) (hg h2)
   st:=λi b ob o u h1 h2 h3=>hs.heap.fH.st i b ob o u (hg h1) (by obtain⟨ob2,_,h4,h5,_⟩:=h1;rw[h2]at h4;cases h4;exact kV h2 h5) h3
   top:=λi ob k u h1 h2 h3=>hs.heap.fH.top i ob k u (kV h1 h2) h2 h3
   iW:=λi ob o t h1 h2 h3=>hs.heap.fH.iW i ob o t (kV h1 h2) h2 h3
   mb:=λi j b h1 h2=>hs.heap.fH.mb i j b (hr h1) (hr h2)}
 .rintro b (hb|⟨i,hb|hb⟩)
  .exact .inr (.inl (h0 hb))
  .exact .inr (.inr ⟨i,.inl (hg hb)⟩)
  .exact .inr (.inr ⟨i,.inr (hr hb)⟩)
end Go.Ab
namespace Go.Wor
open Go.Ab Go.Proofs Tryz Go.Hy Go.Gat Go.Nam Go.Hos Go.Con Go.Sna
variable{P:Program}{f:FuncId}{fn:Func}{c:Code}{args:List C}{r:C}{w:Wor}{m:fD}
abbrev Ce(e:fG):C:=.agg (xv e)
abbrev oq:fN:=⟨0,0,0,0,0,0,0,⟨0,0,0,0,0,0⟩⟩
abbrev qJ:fG:=⟨0,0,0,0,0,false,0,false,false,false,oq⟩
abbrev BU(n:Int):fG:=⟨0,0,1,1,0,false,n,false,false,false,oq⟩
def zzK(r:C)(H':zn):Prop:=∃(b:Nat) (v0 v1 v2:Value),r=.v (.map (some b))/\H'=[iU b [(0,v0,0),(1,v1,1),(2,v2,2)] 3 [.agg [.fn 232 [] []],.agg [.fn 234 [] []],.agg [.fn 235 [] []]]]
def XU:qM prog 194 [] [] zzK:=by
 refine qM.zN (fn:=f194) func194 V (uH ?_);intro b;refine zbj ?_;intro v0;refine zbj ?_;intro v1;refine zbj ?_;intro v2;refine dd ?_;exact⟨.inl V,_,_,.refl _,rfl,b,v0,v1,v2,rfl,rfl⟩
def qi{H H2:zn}(hf:P.funcs[f]?=some fn)(hb:fn.body=some c)(hle:H.length<=H2.length)
 (h:wpA P H.length c (entry fn args) H λex t1 H1=>(ex=.ret\/ex=.normal)/\∃s2 r1,zp H.length ⟨t1,H1⟩ s2/\wa P fn s2=some r1/\zp H.length ⟨[r1],s2.H⟩ ⟨[r],H2⟩):zb P f H args r H2:=λw E vs hh hl0=>by
 have h1:qM P f H args λr1 H1=>zp H.length ⟨[r1],H1⟩ ⟨[r],H2⟩:=qM.zN hf hb h
 refine(h1 w E vs hh hl0).mono ?_;rintro e w' ⟨r1,H1,v,E',hw,h0,h2,h3,g⟩;have hHH:H.length<=H1.length:=cb
 obtain⟨E2,hs,g2⟩:=hw 0 w' E' ⟨#[v],[]⟩ ⟨h2,LL.one h3,pa _,hHH⟩;have hn2:=hs.heap.n;refine⟨v,E2,h0,hs.heap,hs.tmps.cons_inv.1,⟨⟨by rw[hh.n,hn2];exact hle,λid hops hi=>?_,λid hops hi=>?_,λb o u hu=>g2.le.St _ _ _ (g.le.St _ _ _ hu),λid k u hi hu=>?_⟩,g2.os.trans g.os,g2.tape.trans g.tape,g2.output.trans g.output,pH g.size g2.size,?_,?_,?_⟩⟩
 .rw[hh.n]at hi;exact(g2.le.β id hops hi).trans (g.le.β id hops tN)
 .rw[hh.n]at hi;exact(g2.le.κ id hops hi).trans (g.le.κ id hops tN)
 .rw[hh.n]at hi;exact g2.le.G id k u hi (g.le.G id k u tN hu)
 .intro k hk ho;exact dj
 .intro b o u hu;rcases g2.jZ b o u hu with h1|h1|h1
  .exact g.jZ b o u h1
  .exact .inr (.inl (pH g.size h1))
  .rcases g.own b h1 with h4|h4
   .exact .inr (.inl h4)
   .exact .inr (.inr h4)
 .intro b hb;rcases g2.own b hb with h1|h1
  .exact .inl (pH g.size h1)
  .exact g.own b h1
def aa{H H2:zn}{zQ:Prop}(hf:P.funcs[f]?=some fn)(z0:zQ)(hb:fn.body=some c:=by exact V)(hle:H.length<=H2.length:=by exact gG _)(ze:zQ->wpA P H.length c (entry fn args) H λex t1 H1=>(ex=.ret\/ex=.normal)/\∃s2 r1,zp H.length ⟨t1,H1⟩ s2/\wa P fn s2=some r1/\zp H.length ⟨[r1],s2.H⟩ ⟨[r],H2⟩:=by intro zh;(conv=>whnf);exact zh):zb P f H args r H2:=qi hf hb hle (ze z0)
def Kf(w:Wor)(m:fD):tj 233 [oW w,oM m] [.ref 0 [] 8 0 0] (Ce (BU w.zl)) [oW w,oM m]:=by
 refine aa func233 ?_;exact cW
def zuk(w:Wor)(m:fD):tj 232 [oW w,oM m] tf (Ce (BU w.zl)) [oW w,oM ({m with zl:=w.zl,pc:=1})]:=by
 refine aa func232 ?_;refine af [0,1] (Kf w {m with zl:=w.zl,pc:=1}) ?_;exact cW
def zul(w:Wor)(m:fD)(h0:0<=m.zf)(h1:m.zf<w.pins.length):tj 234 [⟨1,38,8,[[I w.zl,I w.current,I w.lock,.sl 2 [] 1 0 w.pins.length false,lV w.ze,lL w.zc,iG w.counts,lR w.zm]],0⟩,oM m,⟨2,3,1,(w.pins).map encI,0⟩] tf (Ce ⟨0,0,2,2,0,false,IntKind.i64.wrap (m.zl+1),false,false,false,oq⟩) [⟨1,38,8,[[I w.zl,I w.current,I w.lock,.sl 2 [] 1 0 w.pins.length false,lV w.ze,lL w.zc,iG w.counts,lR w.zm]],0⟩,oM ({m with pc:=2}),⟨2,3,1,(w.pins.set m.zf.toNat (IntKind.i64.wrap (m.zl+1))).map encI,0⟩]:=by
 have hs:(w.pins.map encI).set m.zf.toNat [I (IntKind.i64.wrap (m.zl+1))]=(w.pins.set m.zf.toNat (IntKind.i64.wrap (m.zl+1))).map encI:=bZ
 rw[<-hs];have e1:0+m.zf.toNat=m.zf.toNat:=gU _;have hg:(w.pins.map encI)[m.zf.toNat]?=some (encI (w.pins[m.zf.toNat]'aw)):=by rw[gy,gk aw];rfl
 refine aa func234 ?_;refine uE ?_;refine⟨h0,aw,dd ?_⟩;rw[e1];refine⟨_,hg,rfl,dd ?_⟩;exact⟨.inl V,_,_,.refl _,rfl,cE 3⟩
def zum(w:Wor)(m:fD):tj 235 [oW w,oM m] tf (Ce (BU w.zl)) [oW w,oM ({m with zl:=w.zl,pc:=if w.zl=m.zl then 3 else 1})]:=by
 refine aa func235 ?_;refine uE ?_;refine⟨λh=>?_,λh=>?_⟩
 .conv=>whnf
  rw[gz (gL h)];refine af [0,1] (Kf w {m with zl:=w.zl,pc:=3}) ?_;exact cW
 .conv=>whnf
  rw[gp (rE h)];refine af [0,1] (Kf w {m with zl:=w.zl,pc:=1}) ?_;exact cW
abbrev TK:List C:=[.fn 232 [] []]
abbrev TL:List C:=[.fn 234 [] []]
abbrev TM:List C:=[.fn 235 [] []]
abbrev lu:List C:=oP
abbrev VB:List C:=[I 0,Tx [],Tx [],Tx [],I 0,I 0,I 0,.fF 1 0 [],.fF 1 0 [],.fF 1 0 []]
abbrev lq:List C:=VB++[I 0,I 0,I 0,I 0,I 0,I 0,I 0,I 0,I 0,U 0,I 0,I 0,I 0,I 0,Bo false]++xx oq++CZ ⟨0,0,0,0,0,0⟩
def Pt(sel:List Nat){K H0:zn}{args0:List C}{R:C->zn->Prop}(h:qM P f H0 args0 R)(hR:∀r H',R r H'->qw H'=true)
 (hH:xJ sel K=H0)(ha:args.map (xX sel 9)=args0)(qb:sel.all (λid=>Nat.blt id K.length)=true)(iL:yw sel=true)(iu:qw K=true){k:C->zn->Prop}
 (hk:∀r H',R r H'->CO (lD sel K H') λX=>qW (vH (jm sel K.length) 9 r) λc=>k c X):∃R',qM P f K args R'/\∀r H2,R' r H2->k r H2:=
 ⟨_,h.part sel hR hH ha qb iL iu,λr H2 ⟨r0,H',h1,h2,h3⟩=>by subst h2 h3;exact zR (wJ (k:=λX=>qW (vH (jm sel K.length) 9 r0) λc=>k c X) (hk r0 H' h1))⟩
def zb.CC(hf:P.funcs[f]?=some fn)(hb:fn.body=some c)
 (h:jb P 0 c ⟨entry fn args,[]⟩ λex s=>(ex=.ret\/ex=.normal)/\∃s2,zp 0 s s2/\(wa P fn s2).map (xH 0 9)=some r):zb P f [] args r []:=by
 refine qM.Ma (qM.AP (H:=[]) hf hb (h.mono λex s1 ⟨hex,s2,hw,h2⟩=>?_));cases h3:wa P fn s2 with
 |none=>rw[h3]at h2;cases h2
 |some r0=>
  rw[h3]at h2;cases h2
  exact⟨hex,s2,r0,hw,h3,rfl⟩
def K6(w:Wor)(m:fD)(j f:Nat)(R:Exit->S->Prop)(hf:∀v0 v1 v2,y6 [(0,v0,0),(1,v1,1),(2,v2,2)] m.pc=some j)(hc:[C.agg TK,.agg TL,.agg TM][j]?=some (.agg [.fn f [] []]))
 (hn:jb prog 0 (behind 2 ((f159.body).getD .skip)) ⟨(.za::.za::.ref 0 [] 8 0 0::.ref 1 [] 44 0 0::.ref 2 [] 8 0 0::.ref 3 [] 44 0 0::.ref 4 [] 23 0 0::.ref 5 [] 1 0 0::.v (.bool true)::tY (tY (tY ([.za,.za,.za,.za,.za,.za,.za])))),[oW w,oM m,⟨1,38,8,[lu],0⟩,⟨1,68,44,[lq],0⟩,oE qJ,⟨1,292,1,[[.fn f [] []]],0⟩]⟩ R):jb prog 0 ((f159.body).getD .skip) ⟨entry f159 [Cw w,Cm m],[]⟩ R:=by
 refine wC (uH ?_);refine zaC ?_;refine .inr ⟨⟨[2],[1],false⟩,au,λh=>absurd h ar,λt H=>jb prog 0 (behind 2 ((f159.body).getD .skip)) ⟨t,H⟩ R,uH ?_,λt2 H2 h=>.inl ⟨rfl,_,_,.refl _,h⟩⟩;(repeat' (first|(exact trivial)|(refine⟨λ_=>uH ?_,λh=>absurd h ar⟩)|(refine⟨λh=>absurd h ar,λ_=>uH ?_⟩)|(refine⟨(rfl:(_:zn)=_),uH ?_⟩)|(refine⟨(rfl:(_:Option Ob)=_),uH ?_⟩)|((refine Pt [] XU (λr H' ⟨b,v0,v1,v2,h1,h2⟩=>h2 ▸ rfl) V V V V V ?_;rintro _ _ ⟨b,v0,v1,v2,rfl,rfl⟩;(refine dd ?_)))|(refine⟨_,_,fO.ks (id:=5) _ _ _ _ V V V V V V V V V (hf _ _ _) hc,?_⟩;(refine dd ?_))|(refine⟨_,_,fO.ks (id:=6) _ _ _ _ V V V V V V V V V (hf _ _ _) hc,?_⟩;(refine dd ?_))|(refine And.intro ?_ ?_ <;> (conv=>whnf))))
 all_goals (first|exact⟨_,_,(zp.forget 5).trans ((zp.fL [0,1,2,3,4,6] [2,3,4,5,6,7,8] _ _ V V V V).trans (cC)),hn⟩|exact⟨_,_,(zp.forget 6).trans ((zp.fL [0,1,2,3,4,5] [2,3,4,5,6,7,8] _ _ V V V V).trans (cC)),hn⟩)
abbrev BK(m:fD)(e:fG):fG:={e with zf:=m.zf,version:= -1}
def Za(w:Wor)(m:fD)(sw:jg w)(ok:iw w)(hl:i64 m.listen)(hpc:m.pc=0)(hs:z8 w m=true):
  tj 159 [] [Cw w,Cm m] (.fJ [Cw w,Cm {m with zl:=w.zl,pc:=1},Ce (BK m (BU w.zl))]) []:=by
 refine zb.CC func159 V (K6 w m 0 232 _ (λ_ _ _=>by rw[hpc];rfl) V ?_);(refine jJ (K:=λex t H=>(ex=.ret\/ex=.normal)/\∃s2,zp 0 ⟨t,H⟩ s2/\(wa prog f159 s2).map (xH 0 9)=some (.fJ [Cw w,Cm {m with zl:=w.zl,pc:=1},Ce (BK m (BU w.zl))])) (uH ?_))
 refine hZ ?_
 refine zaO ?_
 refine ah (qE w sw) ?_;refine af [0,1] (zuk w m) ?_;refine .inl ⟨⟨false,[1,2],[1,6],[]⟩,au,uH ?_⟩;refine hU ?_
 exact uI
def Zc(w:Wor)(m:fD)(sw:jg w)(ok:iw w)(hl:i64 m.listen)(hpc:m.pc=2)(hs:z8 w m=true):
  tj 159 [] [Cw w,Cm m] (.fJ [Cw w,Cm {m with zl:=w.zl,pc:=if w.zl=m.zl then 3 else 1},Ce (BK m (BU w.zl))]) []:=by
 refine zb.CC func159 V (K6 w m 2 235 _ (λ_ _ _=>by rw[hpc];rfl) V ?_);(refine jJ (K:=λex t H=>(ex=.ret\/ex=.normal)/\∃s2,zp 0 ⟨t,H⟩ s2/\(wa prog f159 s2).map (xH 0 9)=some (.fJ [Cw w,Cm {m with zl:=w.zl,pc:=if w.zl=m.zl then 3 else 1},Ce (BK m (BU w.zl))])) (uH ?_))
 refine hZ ?_
 refine zaO ?_
 refine ah (qE w sw) ?_;refine af [0,1] (zum w m) ?_;refine .inl ⟨⟨false,[1,2],[1,6],[]⟩,au,uH ?_⟩;refine hU ?_
 exact uI
abbrev nT(w:Wor)(t:Nat)(n:Int):Wor:={w with pins:=w.pins.set t n}
def Zb(w:Wor)(m:fD)(sw:jg w)(ok:iw w)(hl:i64 m.listen)(hpc:m.pc=1)(hs:z8 w m=true):
  tj 159 [] [Cw w,Cm m] (.fJ [Cw (nT w m.zf.toNat (IntKind.i64.wrap (m.zl+1))),Cm {m with pc:=2},Ce (BK m ⟨0,0,2,2,0,false,IntKind.i64.wrap (m.zl+1),false,false,false,oq⟩)]) []:=by
 obtain⟨v,g,e,su⟩:=xN hs
 obtain⟨x,l,hx⟩:∃x l,w.pins=x::l:=by
  cases h:w.pins with
  |nil=>have:=su.zf;rw[h]at this;exact dc
  |cons x l=>exact⟨x,l,rfl⟩
 refine zb.CC func159 V (K6 w m 1 234 _ (λ_ _ _=>by rw[hpc];rfl) V ?_);(refine jJ (K:=λex t H=>(ex=.ret\/ex=.normal)/\∃s2,zp 0 ⟨t,H⟩ s2/\(wa prog f159 s2).map (xH 0 9)=some (.fJ [Cw (nT w m.zf.toNat (IntKind.i64.wrap (m.zl+1))),Cm {m with pc:=2},Ce (BK m ⟨0,0,2,2,0,false,IntKind.i64.wrap (m.zl+1),false,false,false,oq⟩)])) (uH ?_))
 refine hZ ?_
 refine zaO ?_
 refine af [] (Ot w sw x l hx) ?_;refine af [0,1,6] (zul w m su.zf.1 su.zf.2) ?_;refine .inl ⟨⟨false,[1,2],[1,7],[]⟩,au,uH ?_⟩;refine hU ?_
 exact⟨.inl V,_,zp.zV 2 0 3 V V V V (.inr V) aj aj (shut_map (enc:=encI) (λ_=>V) _) (qa V),rfl⟩
abbrev GB(m:fD):fG:=BK m ⟨0,0,2,2,0,false,0,false,false,false,oq⟩
def ztK(w:Wor)(m:fD)(sw:jg w)(ok:iw w)(hl:i64 m.listen)(hs:z8 w m=true):
  tj 245 [] [Cw w,Cm m] (.fJ [Cw (nT w m.zf.toNat 0),Ce (GB m)]) []:=by
 obtain⟨v,g,e,su⟩:=xN hs
 obtain⟨x,l,hx⟩:∃x l,w.pins=x::l:=by
  cases h:w.pins with
  |nil=>have:=su.zf;rw[h]at this;exact dc
  |cons x l=>exact⟨x,l,rfl⟩
 have e1:0+m.zf.toNat=m.zf.toNat:=gU _;have h0:=su.zf.1;have h1:=su.zf.2;have hst:(w.pins.map encI).set m.zf.toNat [I 0]=(w.pins.set m.zf.toNat 0).map encI:=bZ
 have hg:(w.pins.map encI)[m.zf.toNat]?=some (encI (w.pins[m.zf.toNat]'aw)):=by rw[gy,gk aw];rfl
 refine ab func245 ?_;refine zaO ?_
 refine af [] (Ot w sw x l hx) ?_;refine⟨h0,aw,dd ?_⟩;rw[e1];refine⟨_,hg,rfl,dd ?_⟩;rw[hst];refine .inl ⟨⟨false,[2],[1],[]⟩,au,uH ?_⟩;refine hU ?_
 exact⟨.inl V,_,zp.zV 2 0 3 V V V V (.inr V) aj aj (shut_map (enc:=encI) (λ_=>V) _) (qa V),rfl⟩
def m7(x:Ah)(k n:Int):Ah:=
 if k=0 then {x with c0:=IntKind.u64.wrap (x.c0+n)} else if k=1 then {x with c1:=IntKind.u64.wrap (x.c1+n)} else if k=2 then {x with c2:=IntKind.u64.wrap (x.c2+n)}
 else if k=3 then {x with c3:=IntKind.u64.wrap (x.c3+n)} else if k=4 then {x with c4:=IntKind.u64.wrap (x.c4+n)} else {x with c5:=IntKind.u64.wrap (x.c5+n)}
def ZD(x:Ah)(k n:Int)(h0:0<=k)(h6:k<6):tj 183 [] [.agg (CZ x),I k,U n] (.agg (CZ (m7 x k n))) []:=by
 obtain⟨a,b,c,d,e,f⟩:=x;obtain rfl|rfl|rfl|rfl|rfl|rfl:k=0\/k=1\/k=2\/k=3\/k=4\/k=5:=aw
 all_goals
  refine ab func183 ?_;(refine⟨ar,ar,dd ?_⟩);(refine⟨ar,ar,dd ?_⟩);exact uI
def jo(w:Wor)(m:fD)(n:Int):fD:=
 let m1:fD:={m with counts:=m7 m.counts m.k n,k:=m.k+1}
 let m2:fD:=if m.k+1=6 then {m1 with i:=m.i+1,k:=0} else m1
 if m2.i=w.counts.length then {m2 with done:=true,answer:=⟨13,0,0,0,0,0,0,m2.counts⟩} else m2
def EP(w:Wor)(m:fD)(n:Int):fG:={qJ with zf:=m.zf,access:=1,cell:=10,version:= -1,value:=m.k,done:=(jo w m n).done,answer:=if (jo w m n).done then (jo w m n).answer else oq}
structure TC(w:Wor)(m:fD)(r:List Int)(n:Int):Prop where
 i0:0<=m.i
 at_:w.counts[m.i.toNat]?=some r
 k0:0<=m.k
 k6:m.k<6
 row:r[m.k.toNat]?=some n
abbrev Ua(m:fD)(n:Int):fD:={m with counts:=m7 m.counts m.k n,k:=m.k+1}
abbrev Ub(m:fD)(n:Int):fD:={m with counts:=m7 m.counts m.k n,k:=0,i:=m.i+1}
abbrev Uc(m:fD)(n:Int):fD:={m with counts:=m7 m.counts m.k n,k:=0,i:=m.i+1,done:=true,answer:=⟨13,0,0,0,0,0,0,m7 m.counts m.k n⟩}
def LC{n:Int}(h:m.k+1≠6)(hi:m.i≠w.counts.length):jo w m n=Ua m n:=by
 unfold jo;dsimp only;rw[gp h];exact gp hi
def LD{n:Int}(h:m.k+1=6)(hi:m.i+1≠w.counts.length):jo w m n=Ub m n:=by
 unfold jo;dsimp only;rw[gz h];exact gp hi
def LF{n:Int}(h:m.k+1=6)(hi:m.i+1=w.counts.length):jo w m n=Uc m n:=by
 unfold jo;dsimp only;rw[gz h];exact gz hi
abbrev SV(m:fD):fG:={qJ with zf:=m.zf,access:=1,cell:=10,version:= -1,value:=m.k}
def RF{n:Int}(h:(jo w m n).done=false):EP w m n=SV m:=by
 unfold EP;rw[h]
 rfl
def zun{n:Int}(h:(jo w m n).done=true):EP w m n={SV m with done:=true,answer:=(jo w m n).answer}:=by
 unfold EP;rw[h]
 rfl
def Yg(w:Wor)(m:fD)(r:List Int)(n:Int)(sw:jg w)(ok:iw w)(hl:i64 m.listen)(hpc:m.pc=0)(hs:z8 w m=true)(hd:m.done=false)(hc:TC w m r n)(ha:m.answer=oq):
  tj 138 [] [Cw w,Cm m] (.fJ [Cw w,Cm (jo w m n),Ce (EP w m n)]) []:=by
 have i0:=hc.i0;have k0:=hc.k0;have hi:m.i.toNat<w.counts.length:=(gh.1 hc.at_).1;have ml:(w.counts.map zQ).length=w.counts.length:=gC ..;have cr:(w.counts.map zQ)[m.i.toNat]?=some (zQ r):=by rw[gy,hc.at_];rfl
 have cn:(r.map j4)[m.k.toNat]?=some (j4 n):=by rw[gy,hc.row];rfl
 refine ab func138 ?_;refine⟨λh=>absurd h (by simp[hpc]),λ_=>dd ?_⟩;refine⟨λh=>absurd h (by have:=hc.k6;simp;omega),λ_=>dd ?_⟩;rw[ml];refine zbd ?_;refine zaO ?_
 refine .inl ⟨⟨true,[],[],[14]⟩,au,uH ?_⟩;(refine⟨i0,_,cr,dd ?_⟩)
 (refine⟨k0,_,cn,dd ?_⟩)
 refine ah (ZD m.counts m.k n k0 hc.k6) ?_;refine hU ?_
 rw[show IntKind.i64.wrap (m.k+1)=m.k+1 from z7 aw (by have:=hc.k6;omega)];refine⟨λh6=>?_,λh6=>?_⟩
 .have g6:m.k+1=6:=by simpa using h6
  refine dd ?_;rw[show IntKind.i64.wrap (m.i+1)=m.i+1 from z7 aw (by have:=sw.counts.1;omega)];rw[ml];refine⟨λh7=>?_,λh7=>?_⟩
  .have g7:m.i+1=w.counts.length:=by simpa using h7
   rw[zun (by rw[LF g6 g7]),LF g6 g7];refine dd ?_;refine za1 ?_
   exact dQ
  .have g7:m.i+1≠w.counts.length:=by simpa using h7
   rw[RF (by rw[LD g6 g7];exact hd),LD g6 g7];refine dd ?_;exact dQ
 .have g6:m.k+1≠6:=by simpa using h6
  have g7:m.i≠w.counts.length:=aw
  rw[RF (by rw[LC g6 g7];exact hd),LC g6 g7];refine dd ?_;rw[ml];refine⟨λh=>absurd h (aq g7),λ_=>dd ?_⟩;exact dQ
end Go.Wor
