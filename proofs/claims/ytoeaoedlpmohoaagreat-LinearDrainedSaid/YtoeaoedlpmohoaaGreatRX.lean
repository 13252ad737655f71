import Derived.Test.YtoeaoedlpmohoaaGreatRW
import Derived.Test.YtoeaoedlpmohoaaGreatRV
set_option linter.all false
set_option maxRecDepth 100000
set_option maxHeartbeats 4000000
namespace Go.Wor
open Go.Ab Go.Proofs Tryz Go.Hy Go.Gat Go.Nam Go.Hos Go.Con Go.Sna
abbrev Cg(w:Wor)(m:fq):fq:={ m with version:=w.current,zg:=0,end_:=0,other:=0,slot:=0,listen:=zM w.zd m.op.listen,pc:=4 }
abbrev Kk(e:fx):fx:={ e with z5:=true }
def Qo(w:Wor)(m:fq)(hl:w.zd.length<4611686018427387904):
  tn 184 [⟨1,38,8,[zU w],0⟩,⟨1,95,44,[zE (m)],0⟩] [.agg tj] (Ce (Kk (fV m 1 3 w.current))) [⟨1,38,8,[zU w],0⟩,⟨1,95,44,[zE (if zM w.zd m.op.listen<0 then nD (Cg w m) 2 else Cg w m)],0⟩]:=by
 refine aa func184 ?_;refine .inr ⟨⟨[0,2,5,6],[0,1,2],true⟩,au,λ_=>rfl,_,uH ?_,λt2 H2 h=>h⟩;refine⟨_,ai [1] (jx m 1 3 w.current),uH ?_⟩;(refine⟨uH ?_,trivial⟩);refine hZ ?_
 (refine⟨uH ?_,trivial⟩);refine hZ ?_
 (refine⟨_,_,.refl _,uH ?_⟩)
 refine .inl ⟨⟨true,[],[],[12]⟩,au,uH ?_⟩;refine ah (EU w.zd m.op.listen hl) ?_;refine hZ ?_
 refine⟨λh1=>?_,λh1=>?_⟩
 ·have e1:zM w.zd m.op.listen<0:=by simpa using h1
  rw[gC e1];refine dd ?_;refine af [1] (vR (Cg w m) 2) ?_;exact cW
 ·have e1:¬zM w.zd m.op.listen<0:=by simpa using h1
  rw[gu e1];refine dd ?_;exact cW
def Sy(w:Wor)(m:fq)(sw:jf w)(ok:iC w)(hl:i64 m.listen)(hs:z7 w m=true):
  tn 197 [⟨1,38,8,[zU (w)],0⟩,⟨1,95,44,[zE (m)],0⟩] [.agg tj] (Ce { EH m with done:=true,answer:=m.answer }) [⟨1,38,8,[zU (oU w m.zf.toNat 0)],0⟩,⟨1,95,44,[zE ({ m with done:=true })],0⟩]:=by
 refine aa func197 ?_;refine .inr ⟨⟨[1,3,5,7,8],[0,1,2],true⟩,au,λ_=>rfl,λt H=>t=(.za::.ref 2 [] 2 0 0::.ref 3 [] 23 0 0::.ref 4 [] 8 0 0::.ref 5 [] 23 0 0::mC (mC (mC ([.za,.za,.za,.za]))))/\H=[⟨1,38,8,[zU (w)],0⟩,⟨1,95,44,[zE (m)],0⟩,⟨1,245,2,[tj],0⟩,⟨1,55,23,[zS (qH)],0⟩,⟨1,38,8,[zU (oU w m.zf.toNat 0)],0⟩,⟨1,55,23,[zS (EH m)],0⟩],?_,?_⟩
 ·conv=>whnf
  refine⟨_,ai [] (Wy w m sw ok hl hs),uH ?_⟩;repeat' (first|(exact trivial)|(refine⟨rfl,uH ?_⟩)|(exact⟨_,_,zp.fD [0,1,2,3,4,5] [1,2,3,4] _ _ rfl rfl rfl rfl,rfl,rfl⟩)|(exact⟨_,_,zp.fD [0,1,2,3,5,4] [1,2,3,4] _ _ rfl rfl rfl rfl,rfl,rfl⟩)|(refine And.intro ?_ ?_ <;> (conv=>whnf)))
 rintro _ _ ⟨rfl,rfl⟩;conv=>whnf
 refine .inr ⟨⟨[1,3],[2],true⟩,au,λ_=>rfl,λt H=>t=(.za::.ref 2 [] 2 0 0::.ref 3 [] 23 0 0::.za::.ref 5 [] 23 0 0::mC (mC (mC ([.za,.za,.za,.za]))))/\H=[⟨1,38,8,[zU (oU w m.zf.toNat 0)],0⟩,⟨1,95,44,[zE ({ m with done:=true })],0⟩,⟨1,245,2,[tj],0⟩,⟨1,55,23,[zS (qH)],0⟩,⟨1,38,8,[zU (oU w m.zf.toNat 0)],0⟩,⟨1,55,23,[zS ({ EH m with done:=true,answer:=m.answer })],0⟩],?_,?_⟩
 ·conv=>whnf
  repeat' (first|(exact trivial)|(refine⟨rfl,uH ?_⟩)|(exact⟨_,_,zp.mask [1,2,4] _ _,rfl,rfl⟩)|(refine And.intro ?_ ?_ <;> (conv=>whnf)))
 rintro _ _ ⟨rfl,rfl⟩;conv=>whnf
 exact cW
def ym(c:ic)(d:Int):Int:=((ft c)[(d%(ft c).length).toNat]?).getD 0
def xG(c:ic)(d0 d1:Int):Int×Int×Int:=if (ft c).length=0 then (0,0,5) else (ym c d0,ym c d1,0)
def Wi{d:Int}{n:Nat}(hd:i64 d)(hn:0<n)(hm:n<1000000000000):IntKind.i64.wrap (d.tmod n+n)=d.tmod n+n/\(d.tmod n+n).tmod n=d%n:=by
 have h1:=Int.tmod_lt_of_pos d (show(0:Int)<n by omega);have h2:=Int.lt_tmod_of_pos d (show(0:Int)<n by omega);refine⟨qd aw aw,?_⟩;rw[sI aw,Int.add_emod_right];rw[Int.tmod_def,Int.sub_mul_emod_self_left]
def NN{c:ic}{d:Int}(hd:i64 d)(hn:0<(ft c).length)(hm:(ft c).length<1000000000000){n:Nat}(e:n=(ft c).length):
  0<=(IntKind.i64.wrap (d.tmod n+n)).tmod n/\((ft c).map encI)[((IntKind.i64.wrap (d.tmod n+n)).tmod n).toNat]?=some [I (ym c d)]:=by
 subst e;obtain⟨e1,e2⟩:=Wi hd hn hm;rw[e1,e2];have h0:(0:Int)<(ft c).length:=aw
 have h1:=sR d (show((ft c).length:Int)≠0 by omega);have h2:=sS d h0;refine⟨h1,?_⟩;have hi:(ft c)[(d%((ft c).length:Int)).toNat]?=some ((ft c)[(d%((ft c).length:Int)).toNat]'aw):=gp _;unfold ym;rw[gz,hi]
 rfl
def Tj(c:ic)(d0 d1:Int)(h0:i64 d0)(h1:i64 d1)(hl:c.zL.length<1000000000000)(hh:(ft c).length<=c.zL.length):tn 23 [] [Cc c,I d0,I d1] (.fC [I (xG c d0 d1).1,I (xG c d0 d1).2.1,I (xG c d0 d1).2.2]) []:=by
 have ml:((ft c).map encI).length=(ft c).length:=gE ..;refine ab func23 ?_;refine ah (vU c hl) ?_;rw[ml];refine⟨λhz=>?_,λhz=>?_⟩
 ·unfold xG;have hz:=pA hz;rw[gC aw];exact dA
 ·unfold xG;have hz:=rD hz;rw[gu aw];refine dd ?_;have hw:(((ft c).length:Nat):Int)≠0:=by omega
  refine Bq.BG 3 (LoopN.step ?_);conv=>whnf
  refine tc ?_
  (refine⟨ar,ar,dd ?_⟩)
  split;(rotate_left;(rename_i hno;exact(hno _ (yi rfl rfl rfl hw)).elim));(rename_i v e;cases e.symm.trans (yi rfl rfl rfl hw));refine dd ?_
  split;(rotate_left;(rename_i hno;exact(hno _ (yi rfl rfl rfl hw)).elim));(rename_i v e;cases e.symm.trans (yi rfl rfl rfl hw));refine dd ?_
  obtain⟨p0,p1⟩:=NN h0 (c:=c) aw aw rfl;refine⟨p0,_,p1,dd ?_⟩;(refine⟨ar,ar,dd ?_⟩)
  refine .inl ⟨rfl,LoopN.step (uH ?_)⟩;refine tc ?_
  (refine⟨ar,ar,dd ?_⟩)
  split;(rotate_left;(rename_i hno;exact(hno _ (yi rfl rfl rfl hw)).elim));(rename_i v e;cases e.symm.trans (yi rfl rfl rfl hw));refine dd ?_
  split;(rotate_left;(rename_i hno;exact(hno _ (yi rfl rfl rfl hw)).elim));(rename_i v e;cases e.symm.trans (yi rfl rfl rfl hw));refine dd ?_
  obtain⟨p2,p3⟩:=NN h1 (c:=c) aw aw rfl;refine⟨p2,_,p3,dd ?_⟩;(refine⟨ar,ar,dd ?_⟩)
  refine .inl ⟨rfl,LoopN.step (uH ?_)⟩;refine tc ?_
  refine .inr ⟨aj,uH ?_⟩;refine uE ?_;(refine⟨ar,ar,dd ?_⟩)
  (refine⟨ar,ar,dd ?_⟩)
  exact uI
abbrev xw(m:fq)(v:fB):Int×Int:=xg v.snap m.op.listen m.op.host m.op.path
def xi(m:fq)(v:fB):fq:=if (xw m v).2≠0 then nD m 2 else match v.snap.zk[(xw m v).1.toNat]? with
 |none=>m
 |some c=>if (xG c m.op.d0 m.op.d1).2.2≠0 then nD { m with zg:=(xw m v).1 } 3
  else if c.xb=1 then { m with zg:=(xw m v).1,pc:=6 }
  else { m with zg:=(xw m v).1,end_:=(xG c m.op.d0 m.op.d1).1,other:=(xG c m.op.d0 m.op.d1).2.1,pc:=7 }
structure GQ(m:fq)(v:fB):Prop where
 small:Jd v.snap
 host:m.op.host.length<1000000000000000
 path:m.op.path.length<1000000000000000
 d0:i64 m.op.d0
 d1:i64 m.op.d1
 J5:(xw m v).2=0->0<=(xw m v).1/\∃c,v.snap.zk[(xw m v).1.toNat]?=some c/\c.zL.length<1000000000000
def On(c:ic):(ft c).length<=c.zL.length:=DD c.zL c.zL.length
def Mp{m:fq}{v:fB}(h:(xw m v).2≠0):xi m v=nD m 2:=gC h
def Lr{m:fq}{v:fB}{c:ic}(h:(xw m v).2=0)(hc:v.snap.zk[(xw m v).1.toNat]?=some c)(hd:(xG c m.op.d0 m.op.d1).2.2≠0):xi m v=nD { m with zg:=(xw m v).1 } 3:=by
 unfold xi;rw[gu aw,hc];exact gC hd
def LF{m:fq}{v:fB}{c:ic}(h:(xw m v).2=0)(hc:v.snap.zk[(xw m v).1.toNat]?=some c)(hd:(xG c m.op.d0 m.op.d1).2.2=0)(hp:c.xb=1):xi m v={ m with zg:=(xw m v).1,pc:=6 }:=by
 unfold xi;rw[gu aw,hc];exact(gu aw).trans (gC hp)
def LG{m:fq}{v:fB}{c:ic}(h:(xw m v).2=0)(hc:v.snap.zk[(xw m v).1.toNat]?=some c)(hd:(xG c m.op.d0 m.op.d1).2.2=0)(hp:c.xb≠1):
  xi m v={ m with zg:=(xw m v).1,end_:=(xG c m.op.d0 m.op.d1).1,other:=(xG c m.op.d0 m.op.d1).2.1,pc:=7 }:=by
 unfold xi;rw[gu aw,hc];exact(gu aw).trans (gu hp)
def S0(w:Wor)(m:fq)(v:fB)(hv:oA w m v)(h:GQ m v):tn 232 [⟨1,38,8,[zU w],0⟩,⟨1,95,44,[zE (m)],0⟩] [.agg tj] (.fC []) [⟨1,38,8,[zU w],0⟩,⟨1,95,44,[zE (xi m v)],0⟩]:=by
 have h0:=hv.v0;have hr:=hv.row;refine aa func232 ?_;refine uE ?_;(refine⟨h0,_,hr,dd ?_⟩)
 refine ah (L5 v.snap m.op.listen m.op.host m.op.path h.small h.host h.path) ?_;refine⟨λh1=>?_,λh1=>?_⟩
 ·have h2:(xw m v).2≠0:=by simpa using h1
  rw[Mp h2];refine dd ?_;refine af [1] (vR m 2) ?_;exact cW
 ·have h2:(xw m v).2=0:=by simpa using h1
  obtain⟨g0,c,hc,hcl⟩:=h.J5 h2;refine dd ?_;refine .inr ⟨⟨[0,1,6,11,12],[0,1,2],true⟩,au,λ_=>rfl,_,uH ?_,λt2 H2 h=>h⟩;refine⟨_,ai [0,1] (ki w { m with zg:=(xw m v).1 } v c ⟨hv.v0,hv.at_⟩ g0 hc),uH ?_⟩;refine⟨_,ai [] (Tj c m.op.d0 m.op.d1 h.d0 h.d1 hcl (On c)),uH ?_⟩;(refine⟨_,_,.refl _,uH ?_⟩)
  refine⟨λh3=>?_,λh3=>?_⟩
  ·have h4:(xG c m.op.d0 m.op.d1).2.2≠0:=by simpa using h3
   rw[Lr h2 hc h4];refine dd ?_;refine af [1] (vR { m with zg:=(xw m v).1 } 3) ?_;exact⟨.inr rfl,_,_,.refl _,rfl,cE 2⟩
  ·have h4:(xG c m.op.d0 m.op.d1).2.2=0:=by simpa using h3
   refine dd ?_;refine af [0,1] (ki w { m with zg:=(xw m v).1 } v c ⟨hv.v0,hv.at_⟩ g0 hc) ?_;refine⟨λh5=>?_,λh5=>?_⟩
   ·have h6:c.xb=1:=by simpa using h5
    rw[LF h2 hc h4 h6];refine dd ?_;exact⟨.inr rfl,_,_,.refl _,rfl,cE 2⟩
   ·have h6:c.xb≠1:=by simpa using h5
    rw[LG h2 hc h4 h6];refine dd ?_;exact⟨.inr rfl,_,_,.refl _,rfl,cE 2⟩
def QD(w:Wor)(m:fq)(v:fB)(hv:oA w m v)(h:GQ m v){l:fQ}(l0:0<=m.listen)(hl:w.zd[m.listen.toNat]?=some l):
  tn 186 [⟨1,38,8,[zU w],0⟩,⟨1,95,44,[zE (m)],0⟩] [.agg tj] (Ce (if l.drain then { fV m 1 4 1 with z5:=true } else fV m 1 4 0)) [⟨1,38,8,[zU w],0⟩,⟨1,95,44,[zE (if l.drain then nD m 5 else xi m v)],0⟩]:=by
 have lr:(w.zd.map qW)[m.listen.toNat]?=some (qW l):=by rw[gz,hl];rfl
 obtain⟨ln,ld,la,lc⟩:=l;cases ld
 all_goals
  refine aa func186 ?_;refine uE ?_;(refine⟨l0,_,lr,dd ?_⟩)
 ·(refine yb (dd ?_))
  refine af [0,1] (S0 w m v hv h) ?_
  have et:(xi m v).zf=m.zf:=by
   unfold xi;split
   ·rfl
   ·split
    ·rfl
    ·split
     ·rfl
     ·split <;> rfl
  have ee:fV m 1 4 0=fV (xi m v) 1 4 0:=by unfold fV;rw[et]
  have eg:(if ({ name:=ln,drain:=false,zi:=la,closed:=lc }:fQ).drain then { fV m 1 4 1 with z5:=true } else fV m 1 4 0)=fV (xi m v) 1 4 0:=ee;rw[eg];refine af [1] (jx (xi m v) 1 4 0) ?_;exact cW
 ·(refine ya (dd ?_))
  refine af [1] (jx m 1 4 1) ?_;refine af [1] (vR m 5) ?_;exact cW
def QL(w:Wor)(m:fq)(v0:fB)(g0:Gr)(e0:En)(c:ic)(hv:ns w m v0 g0)(hc:v0.snap.zk[m.zg.toNat]?=some c):tn 235 [⟨1,38,8,[(il w 2)],0⟩,⟨1,95,44,[zE (m)],0⟩,⟨1,0,5,fM w m v0 3,0⟩,⟨1,0,2,fK m v0 g0 g0.zt 4,0⟩,⟨1,0,3,fH m g0 e0 e0.head 5 e0.zi,0⟩,⟨2,3,1,e0.next.map encI,0⟩] [.agg tj] (Cc c) [⟨1,38,8,[(il w 2)],0⟩,⟨1,95,44,[zE (m)],0⟩,⟨1,0,5,fM w m v0 3,0⟩,⟨1,0,2,fK m v0 g0 g0.zt 4,0⟩,⟨1,0,3,fH m g0 e0 e0.head 5 e0.zi,0⟩,⟨2,3,1,e0.next.map encI,0⟩]:=by
 have h0:=hv.pv;have g0':=hv.pg;have lv:m.version.toNat<w.ze.length:=hv.lv;have cr:(v0.snap.zk.map xc)[m.zg.toNat]?=some (xc c):=by rw[gz,hc];rfl
 have lowV:∀r∈fM w m v0 3,∀c∈r,jg 6 9 c=true:=zB (enc:=zK) (λ_=>rfl) rfl _ _;have lowG:∀r∈fK m v0 g0 g0.zt 4,∀c∈r,jg 6 9 c=true:=zB (enc:=zF) (λ_=>rfl) rfl _ _;have lowE:∀r∈fH m g0 e0 e0.head 5 e0.zi,∀c∈r,jg 6 9 c=true:=zB (enc:=zx) (λ_=>rfl) rfl _ _;have e1:0+m.version.toNat=m.version.toNat:=gN _;have gv:(fM w m v0 3)[m.version.toNat]?=some ((ql v0.snap++[C.sl 3 [] 2 0 v0.zm.length false,Bo v0.qt])):=gD tY;refine aa func235 ?_;refine uE ?_;refine⟨h0,lv,dd ?_⟩;rw[e1];refine⟨_,gv,(by show 2+1<=5;decide),dd ?_⟩;refine⟨g0',_,cr,dd ?_⟩;exact cX
def Hx(w:Wor)(m:fq)(v0:fB)(g0:Gr)(e0:En)(hv:ns w m v0 g0)(x p a b c:Int):tn 236 [⟨1,38,8,[(il w 2)],0⟩,⟨1,95,44,[zE ({ m with end_:=x,pc:=p })],0⟩,⟨1,0,5,fM w m v0 3,0⟩,⟨1,0,2,fK m v0 g0 g0.zt 4,0⟩,⟨1,0,3,fH m g0 e0 e0.head 5 e0.zi,0⟩,⟨2,3,1,e0.next.map encI,0⟩] [.agg tj,I a,I b,I c] (Ce (iF m v0 a b c)) [⟨1,38,8,[(il w 2)],0⟩,⟨1,95,44,[zE ({ m with end_:=x,pc:=p })],0⟩,⟨1,0,5,fM w m v0 3,0⟩,⟨1,0,2,fK m v0 g0 g0.zt 4,0⟩,⟨1,0,3,fH m g0 e0 e0.head 5 e0.zi,0⟩,⟨2,3,1,e0.next.map encI,0⟩]:=by
 have h0:=hv.pv;have lv:m.version.toNat<w.ze.length:=hv.lv;have e1:0+m.version.toNat=m.version.toNat:=gN _
 clear hv
 obtain⟨sn,gs,fr⟩:=v0;cases fr
 all_goals
  have ownV:∀b,∀r∈(w.ze.map zK).set m.version.toNat (ql sn++[C.sl 3 [] 2 0 gs.length false,Bo b]),∀c∈r,zy c=true:=λb=>zB (enc:=zK) (λ_=>rfl) rfl _ _
  have ownG:∀r∈(gs.map zF).set m.zg.toNat ([U g0.zt,C.sl 4 [] 3 0 g0.ends.length false]),∀c∈r,zy c=true:=zB (enc:=zF) (λ_=>rfl) rfl _ _;have ownE:∀r∈fH m g0 e0 e0.head 5 e0.zi,∀c∈r,zy c=true:=zB (enc:=zx) (λ_=>rfl) rfl _ _;have lowV:∀b,∀r∈(w.ze.map zK).set m.version.toNat (ql sn++[C.sl 3 [] 2 0 gs.length false,Bo b]),∀c∈r,jg 6 9 c=true:=λb=>zB (enc:=zK) (λ_=>rfl) rfl _ _
  have gv:∀b,((w.ze.map zK).set m.version.toNat (ql sn++[C.sl 3 [] 2 0 gs.length false,Bo b]))[m.version.toNat]?=some (ql sn++[C.sl 3 [] 2 0 gs.length false,Bo b]):=λb=>gD tY
  have lowG:∀r∈(gs.map zF).set m.zg.toNat ([U g0.zt,C.sl 4 [] 3 0 g0.ends.length false]),∀c∈r,jg 6 9 c=true:=zB (enc:=zF) (λ_=>rfl) rfl _ _;have lowE:∀r∈fH m g0 e0 e0.head 5 e0.zi,∀c∈r,jg 6 9 c=true:=zB (enc:=zx) (λ_=>rfl) rfl _ _;refine aa func236 ?_;refine zY [1] [⟨1,38,8,[(il w 2)],0⟩,⟨1,95,44,[zE ({ m with end_:=x,pc:=p })],0⟩,⟨1,0,5,(w.ze.map zK).set m.version.toNat (ql sn++[C.sl 3 [] 2 0 gs.length false,Bo _]),0⟩,⟨1,0,2,(gs.map zF).set m.zg.toNat ([U g0.zt,C.sl 4 [] 3 0 g0.ends.length false]),0⟩,⟨1,0,3,fH m g0 e0 e0.head 5 e0.zi,0⟩,⟨2,3,1,e0.next.map encI,0⟩,⟨1,245,2,[tj],0⟩,⟨1,55,23,[zS qH],0⟩] (rx:=Ce (fV m a b c)) (jx { m with end_:=x,pc:=p } a b c) rfl rfl rfl rfl rfl (zc rfl (zc rfl (zc (zj (ownV _)) (zc (zj ownG) (zc (zj ownE) rfl))))) rfl rfl (dd ?_);refine .inl ⟨⟨false,[6,9,11,14,17],[0,1,2,6],[]⟩,au,uH ?_⟩;refine⟨h0,lv,dd ?_⟩;rw[e1];refine⟨_,gv _,(by show 4+1<=5;decide),dd ?_⟩
  first|((refine ya (dd ?_)))|((refine yb (dd ?_)))
  refine hZ ?_
  exact⟨.inl rfl,_,_,.refl _,rfl,zp.xy 6 hU rfl rfl rfl (zJ rfl (zJ rfl (zJ (qk (lowV _)) (zJ (qk lowG) (zJ (qk lowE) rfl))))) rfl⟩
abbrev F2(m:fq)(c:ic)(t:Int):fq:={ m with end_:=(nB c t).1,pc:=9 }
abbrev JG(g:Gr):Gr:={ g with zt:=IntKind.u64.wrap (g.zt+1) }
def Sl(w:Wor)(m:fq)(v0:fB)(g0:Gr)(e0:En)(c:ic)(hv:ns w m v0 g0)(hc:v0.snap.zk[m.zg.toNat]?=some c)(ht:u64 g0.zt)(hl:c.zL.length<1000000000000):
  tn 187 [⟨1,38,8,[(il w 2)],0⟩,⟨1,95,44,[zE (m)],0⟩,⟨1,0,5,fM w m v0 3,0⟩,⟨1,0,2,fK m v0 g0 g0.zt 4,0⟩,⟨1,0,3,fH m g0 e0 e0.head 5 e0.zi,0⟩,⟨2,3,1,e0.next.map encI,0⟩] [.agg tj] (Ce (iF m v0 3 6 (IntKind.i64.wrap g0.zt))) [⟨1,38,8,[(il w 2)],0⟩,⟨1,95,44,[zE (F2 m c g0.zt)],0⟩,⟨1,0,5,fM w m v0 3,0⟩,⟨1,0,2,fK m v0 g0 (IntKind.u64.wrap (g0.zt+1)) 4,0⟩,⟨1,0,3,fH m g0 e0 e0.head 5 e0.zi,0⟩,⟨2,3,1,e0.next.map encI,0⟩]:=by
 have lg:=hv.lg;have ownV:∀r∈fM w m v0 3,∀c∈r,zy c=true:=zB (enc:=zK) (λ_=>rfl) rfl _ _;have ownG:∀r∈fK m v0 g0 g0.zt 4,∀c∈r,zy c=true:=zB (enc:=zF) (λ_=>rfl) rfl _ _;have ownE:∀r∈fH m g0 e0 e0.head 5 e0.zi,∀c∈r,zy c=true:=zB (enc:=zx) (λ_=>rfl) rfl _ _;have gg:(fK m v0 g0 g0.zt 4)[m.zg.toNat]?=some ([U g0.zt,C.sl 4 [] 3 0 g0.ends.length false]):=gD tS;refine aa func187 ?_;refine Fw [0,1,2,3,4,5] [⟨1,38,8,[(il w 2)],0⟩,⟨1,95,44,[zE (m)],0⟩,⟨1,0,5,fM w m v0 3,0⟩,⟨1,0,2,fK m v0 g0 g0.zt 4,0⟩,⟨1,0,3,fH m g0 e0 e0.head 5 e0.zi,0⟩,⟨2,3,1,e0.next.map encI,0⟩,⟨1,245,2,[tj],0⟩,⟨1,55,23,[zS qH],0⟩] (rx:=.ref 3 [] 2 m.zg.toNat 0) (Hl w m v0 g0 e0 hv) (zc rfl (zc rfl (zc (zj ownV) (zc (zj ownG) (zc (zj ownE) rfl))))) uT rfl rfl rfl (zc rfl (zc rfl (zc (zj ownV) (zc (zj ownG) (zc (zj ownE) rfl))))) uU rfl (dd ?_);refine⟨_,gg,(by show 0+1<=2;decide),dd ?_⟩;refine Fw [0,1,2,3,4,5] [⟨1,38,8,[(il w 2)],0⟩,⟨1,95,44,[zE (m)],0⟩,⟨1,0,5,fM w m v0 3,0⟩,⟨1,0,2,fK m v0 g0 g0.zt 4,0⟩,⟨1,0,3,fH m g0 e0 e0.head 5 e0.zi,0⟩,⟨2,3,1,e0.next.map encI,0⟩,⟨1,245,2,[tj],0⟩,⟨1,55,23,[zS qH],0⟩] (rx:=.ref 3 [] 2 m.zg.toNat 0) (Hl w m v0 g0 e0 hv) (zc rfl (zc rfl (zc (zj ownV) (zc (zj ownG) (zc (zj ownE) rfl))))) uT rfl rfl rfl (zc rfl (zc rfl (zc (zj ownV) (zc (zj ownG) (zc (zj ownE) rfl))))) uU rfl (dd ?_);refine⟨_,gg,(by show 0+1<=2;decide),dd ?_⟩;refine⟨_,gg,rfl,dd ?_⟩;rw[pw];have ownG2:∀r∈fK m v0 g0 (IntKind.u64.wrap (g0.zt+1)) 4,∀c∈r,zy c=true:=zB (enc:=zF) (λ_=>rfl) rfl _ _;have lowV:∀r∈fM w m v0 3,∀c∈r,jg 6 9 c=true:=zB (enc:=zK) (λ_=>rfl) rfl _ _;have lowG:∀r∈fK m v0 g0 (IntKind.u64.wrap (g0.zt+1)) 4,∀c∈r,jg 6 9 c=true:=zB (enc:=zF) (λ_=>rfl) rfl _ _;have lowE:∀r∈fH m g0 e0 e0.head 5 e0.zi,∀c∈r,jg 6 9 c=true:=zB (enc:=zx) (λ_=>rfl) rfl _ _;have hv2:ns w m v0 (JG g0):=⟨hv.pv,hv.lv,hv.pg,hv.lg,hv.pe,hv.le⟩;refine .inl ⟨⟨true,[],[],[3,5]⟩,au,uH ?_⟩;refine zY [0,1,2,3,4,5] [⟨1,38,8,[(il w 2)],0⟩,⟨1,95,44,[zE (m)],0⟩,⟨1,0,5,fM w m v0 3,0⟩,⟨1,0,2,fK m v0 g0 (IntKind.u64.wrap (g0.zt+1)) 4,0⟩,⟨1,0,3,fH m g0 e0 e0.head 5 e0.zi,0⟩,⟨2,3,1,e0.next.map encI,0⟩,⟨1,245,2,[tj],0⟩,⟨1,55,23,[zS qH],0⟩] (rx:=Cc c) (QL w m v0 (JG g0) e0 c hv2 hc) (zc rfl (zc rfl (zc (zj ownV) (zc (zj ownG2) (zc (zj ownE) rfl))))) uT rfl rfl rfl (zc rfl (zc rfl (zc (zj ownV) (zc (zj ownG2) (zc (zj ownE) rfl))))) uU rfl (dd ?_);refine zY [] [⟨1,38,8,[(il w 2)],0⟩,⟨1,95,44,[zE (m)],0⟩,⟨1,0,5,fM w m v0 3,0⟩,⟨1,0,2,fK m v0 g0 (IntKind.u64.wrap (g0.zt+1)) 4,0⟩,⟨1,0,3,fH m g0 e0 e0.head 5 e0.zi,0⟩,⟨2,3,1,e0.next.map encI,0⟩,⟨1,245,2,[tj],0⟩,⟨1,55,23,[zS qH],0⟩] (rx:=.fC [I (nB c g0.zt).1,I (nB c g0.zt).2]) (UJ c g0.zt ht hl (On c)) rfl rfl rfl rfl rfl (zc rfl (zc rfl (zc (zj ownV) (zc (zj ownG2) (zc (zj ownE) rfl))))) rfl rfl (dd ?_);refine zY [0,1,2,3,4,5] [⟨1,38,8,[(il w 2)],0⟩,⟨1,95,44,[zE (F2 m c g0.zt)],0⟩,⟨1,0,5,fM w m v0 3,0⟩,⟨1,0,2,fK m v0 g0 (IntKind.u64.wrap (g0.zt+1)) 4,0⟩,⟨1,0,3,fH m g0 e0 e0.head 5 e0.zi,0⟩,⟨2,3,1,e0.next.map encI,0⟩,⟨1,245,2,[tj],0⟩,⟨1,55,23,[zS qH],0⟩] (rx:=Ce (iF m v0 3 6 (IntKind.i64.wrap g0.zt))) (Hx w m v0 (JG g0) e0 hv2 (nB c g0.zt).1 9 3 6 (IntKind.i64.wrap g0.zt)) (zc rfl (zc rfl (zc (zj ownV) (zc (zj ownG2) (zc (zj ownE) rfl))))) uT rfl rfl rfl (zc rfl (zc rfl (zc (zj ownV) (zc (zj ownG2) (zc (zj ownE) rfl))))) uU rfl (dd ?_);exact cX
def QG(w:Wor)(m:fq)(v0:fB)(g0:Gr)(e0:En)(hv:ns w m v0 g0)(hw:u64 m.word)(l0: -1<=m.link)(l1:m.link<=2147483646)(hh:u64 e0.head)(hne:e0.head≠m.word):
  tn 192 [⟨1,38,8,[(il w 2)],0⟩,⟨1,95,44,[zE (m)],0⟩,⟨1,0,5,fM w m v0 3,0⟩,⟨1,0,2,fK m v0 g0 g0.zt 4,0⟩,⟨1,0,3,fH m g0 e0 e0.head 5 e0.zi,0⟩,⟨2,3,1,e0.next.map encI,0⟩] [.agg tj] (Ce (iF m v0 5 8 (e0.head%4294967296-1))) [⟨1,38,8,[(il w 2)],0⟩,⟨1,95,44,[zE ({ m with pc:=9 })],0⟩,⟨1,0,5,fM w m v0 3,0⟩,⟨1,0,2,fK m v0 g0 g0.zt 4,0⟩,⟨1,0,3,fH m g0 e0 e0.head 5 e0.zi,0⟩,⟨2,3,1,e0.next.map encI,0⟩]:=by
 (have le:=hv.le);(have ownV:∀r∈fM w m v0 3,∀c∈r,zy c=true:=zB (enc:=zK) (λ_=>rfl) rfl _ _);(have ownG:∀r∈fK m v0 g0 g0.zt 4,∀c∈r,zy c=true:=zB (enc:=zF) (λ_=>rfl) rfl _ _);(have ownE:∀r∈fH m g0 e0 e0.head 5 e0.zi,∀c∈r,zy c=true:=zB (enc:=zx) (λ_=>rfl) rfl _ _);(have lowV:∀r∈fM w m v0 3,∀c∈r,jg 6 9 c=true:=zB (enc:=zK) (λ_=>rfl) rfl _ _);(have lowG:∀r∈fK m v0 g0 g0.zt 4,∀c∈r,jg 6 9 c=true:=zB (enc:=zF) (λ_=>rfl) rfl _ _)
 have lowE:∀r∈fH m g0 e0 e0.head 5 e0.zi,∀c∈r,jg 6 9 c=true:=zB (enc:=zx) (λ_=>rfl) rfl _ _;have ge:(fH m g0 e0 e0.head 5 e0.zi)[m.end_.toNat]?=some ([U e0.head,C.sl 5 [] 1 0 e0.next.length false,I e0.zi]):=gD tN;have hv2:ns w { m with pc:=9 } v0 g0:=⟨hv.pv,hv.lv,hv.pg,hv.lg,hv.pe,hv.le⟩;refine aa func192 ?_;refine .inl ⟨⟨true,[],[],[8]⟩,au,uH ?_⟩;refine zY [] [⟨1,38,8,[(il w 2)],0⟩,⟨1,95,44,[zE (m)],0⟩,⟨1,0,5,fM w m v0 3,0⟩,⟨1,0,2,fK m v0 g0 g0.zt 4,0⟩,⟨1,0,3,fH m g0 e0 e0.head 5 e0.zi,0⟩,⟨2,3,1,e0.next.map encI,0⟩,⟨1,245,2,[tj],0⟩,⟨1,55,23,[zS qH],0⟩] (rx:=.fC [U (Slp.je m.word m.link),I 0]) (Slp.Hw m.word m.link hw l0 l1) rfl rfl rfl rfl rfl (zc rfl (zc rfl (zc (zj ownV) (zc (zj ownG) (zc (zj ownE) rfl))))) rfl rfl (dd ?_);refine .inl ⟨⟨true,[],[],[1]⟩,au,uH ?_⟩;refine zY [0,1,2,3,4,5] [⟨1,38,8,[(il w 2)],0⟩,⟨1,95,44,[zE (m)],0⟩,⟨1,0,5,fM w m v0 3,0⟩,⟨1,0,2,fK m v0 g0 g0.zt 4,0⟩,⟨1,0,3,fH m g0 e0 e0.head 5 e0.zi,0⟩,⟨2,3,1,e0.next.map encI,0⟩,⟨1,245,2,[tj],0⟩,⟨1,55,23,[zS qH],0⟩] (rx:=.ref 4 [] 3 m.end_.toNat 0) (vP w m v0 g0 e0 hv) (zc rfl (zc rfl (zc (zj ownV) (zc (zj ownG) (zc (zj ownE) rfl))))) uT rfl rfl rfl (zc rfl (zc rfl (zc (zj ownV) (zc (zj ownG) (zc (zj ownE) rfl))))) uU rfl (dd ?_);refine⟨_,ge,cQ,dd ?_⟩;refine⟨λ_=>dd ?_,λh=>absurd h (aq hne)⟩;refine .inl ⟨⟨true,[],[],[2,6,7]⟩,au,uH ?_⟩;refine zY [0,1,2,3,4,5] [⟨1,38,8,[(il w 2)],0⟩,⟨1,95,44,[zE ({ m with pc:=9 })],0⟩,⟨1,0,5,fM w m v0 3,0⟩,⟨1,0,2,fK m v0 g0 g0.zt 4,0⟩,⟨1,0,3,fH m g0 e0 e0.head 5 e0.zi,0⟩,⟨2,3,1,e0.next.map encI,0⟩,⟨1,245,2,[tj],0⟩,⟨1,55,23,[zS qH],0⟩] (rx:=.ref 4 [] 3 m.end_.toNat 0) (vP w _ v0 g0 e0 hv2) (zc rfl (zc rfl (zc (zj ownV) (zc (zj ownG) (zc (zj ownE) rfl))))) uT rfl rfl rfl (zc rfl (zc rfl (zc (zj ownV) (zc (zj ownG) (zc (zj ownE) rfl))))) uU rfl (dd ?_);refine⟨_,ge,cQ,dd ?_⟩;refine zY [] [⟨1,38,8,[(il w 2)],0⟩,⟨1,95,44,[zE ({ m with pc:=9 })],0⟩,⟨1,0,5,fM w m v0 3,0⟩,⟨1,0,2,fK m v0 g0 g0.zt 4,0⟩,⟨1,0,3,fH m g0 e0 e0.head 5 e0.zi,0⟩,⟨2,3,1,e0.next.map encI,0⟩,⟨1,245,2,[tj],0⟩,⟨1,55,23,[zS qH],0⟩] (rx:=I (e0.head%4294967296-1)) (Slp.qQ e0.head hh) rfl rfl rfl rfl rfl (zc rfl (zc rfl (zc (zj ownV) (zc (zj ownG) (zc (zj ownE) rfl))))) rfl rfl (dd ?_);refine zY [0,1,2,3,4,5] [⟨1,38,8,[(il w 2)],0⟩,⟨1,95,44,[zE ({ m with pc:=9 })],0⟩,⟨1,0,5,fM w m v0 3,0⟩,⟨1,0,2,fK m v0 g0 g0.zt 4,0⟩,⟨1,0,3,fH m g0 e0 e0.head 5 e0.zi,0⟩,⟨2,3,1,e0.next.map encI,0⟩,⟨1,245,2,[tj],0⟩,⟨1,55,23,[zS qH],0⟩] (rx:=Ce (iF m v0 5 8 (e0.head%4294967296-1))) (Hx w m v0 g0 e0 hv m.end_ 9 5 8 (e0.head%4294967296-1)) (zc rfl (zc rfl (zc (zj ownV) (zc (zj ownG) (zc (zj ownE) rfl))))) uT rfl rfl rfl (zc rfl (zc rfl (zc (zj ownV) (zc (zj ownG) (zc (zj ownE) rfl))))) uU rfl (dd ?_);exact cX
def Qs(w:Wor)(m:fq)(v0:fB)(g0:Gr)(e0:En)(hv:ns w m v0 g0)(hw:u64 m.word)(l0: -1<=m.link)(l1:m.link<=2147483646)(hne:e0.head=m.word):
  tn 192 [⟨1,38,8,[(il w 2)],0⟩,⟨1,95,44,[zE (m)],0⟩,⟨1,0,5,fM w m v0 3,0⟩,⟨1,0,2,fK m v0 g0 g0.zt 4,0⟩,⟨1,0,3,fH m g0 e0 e0.head 5 e0.zi,0⟩,⟨2,3,1,e0.next.map encI,0⟩] [.agg tj] (Ce (iF m v0 4 8 m.slot)) [⟨1,38,8,[(il w 2)],0⟩,⟨1,95,44,[zE ({ m with pc:=12 })],0⟩,⟨1,0,5,fM w m v0 3,0⟩,⟨1,0,2,fK m v0 g0 g0.zt 4,0⟩,⟨1,0,3,fH m g0 e0 (Slp.je m.word m.link) 5 e0.zi,0⟩,⟨2,3,1,e0.next.map encI,0⟩]:=by
 (have le:=hv.le);(have ownV:∀r∈fM w m v0 3,∀c∈r,zy c=true:=zB (enc:=zK) (λ_=>rfl) rfl _ _);(have ownG:∀r∈fK m v0 g0 g0.zt 4,∀c∈r,zy c=true:=zB (enc:=zF) (λ_=>rfl) rfl _ _);(have ownE:∀r∈fH m g0 e0 e0.head 5 e0.zi,∀c∈r,zy c=true:=zB (enc:=zx) (λ_=>rfl) rfl _ _);(have lowV:∀r∈fM w m v0 3,∀c∈r,jg 6 9 c=true:=zB (enc:=zK) (λ_=>rfl) rfl _ _);(have lowG:∀r∈fK m v0 g0 g0.zt 4,∀c∈r,jg 6 9 c=true:=zB (enc:=zF) (λ_=>rfl) rfl _ _)
 have lowE:∀r∈fH m g0 e0 (Slp.je m.word m.link) 5 e0.zi,∀c∈r,jg 6 9 c=true:=zB (enc:=zx) (λ_=>rfl) rfl _ _;have ownE2:∀r∈fH m g0 e0 (Slp.je m.word m.link) 5 e0.zi,∀c∈r,zy c=true:=zB (enc:=zx) (λ_=>rfl) rfl _ _;have ge:(fH m g0 e0 e0.head 5 e0.zi)[m.end_.toNat]?=some ([U e0.head,C.sl 5 [] 1 0 e0.next.length false,I e0.zi]):=gD tN;refine aa func192 ?_;refine .inl ⟨⟨true,[],[],[8]⟩,au,uH ?_⟩;refine zY [] [⟨1,38,8,[(il w 2)],0⟩,⟨1,95,44,[zE (m)],0⟩,⟨1,0,5,fM w m v0 3,0⟩,⟨1,0,2,fK m v0 g0 g0.zt 4,0⟩,⟨1,0,3,fH m g0 e0 e0.head 5 e0.zi,0⟩,⟨2,3,1,e0.next.map encI,0⟩,⟨1,245,2,[tj],0⟩,⟨1,55,23,[zS qH],0⟩] (rx:=.fC [U (Slp.je m.word m.link),I 0]) (Slp.Hw m.word m.link hw l0 l1) rfl rfl rfl rfl rfl (zc rfl (zc rfl (zc (zj ownV) (zc (zj ownG) (zc (zj ownE) rfl))))) rfl rfl (dd ?_);refine .inl ⟨⟨true,[],[],[1]⟩,au,uH ?_⟩;refine zY [0,1,2,3,4,5] [⟨1,38,8,[(il w 2)],0⟩,⟨1,95,44,[zE (m)],0⟩,⟨1,0,5,fM w m v0 3,0⟩,⟨1,0,2,fK m v0 g0 g0.zt 4,0⟩,⟨1,0,3,fH m g0 e0 e0.head 5 e0.zi,0⟩,⟨2,3,1,e0.next.map encI,0⟩,⟨1,245,2,[tj],0⟩,⟨1,55,23,[zS qH],0⟩] (rx:=.ref 4 [] 3 m.end_.toNat 0) (vP w m v0 g0 e0 hv) (zc rfl (zc rfl (zc (zj ownV) (zc (zj ownG) (zc (zj ownE) rfl))))) uT rfl rfl rfl (zc rfl (zc rfl (zc (zj ownV) (zc (zj ownG) (zc (zj ownE) rfl))))) uU rfl (dd ?_);refine⟨_,ge,cQ,dd ?_⟩;refine⟨λh=>absurd h (by simp[hne]),λ_=>dd ?_⟩;refine tc ?_
 refine Fw [0,1,2,3,4,5] [⟨1,38,8,[(il w 2)],0⟩,⟨1,95,44,[zE (m)],0⟩,⟨1,0,5,fM w m v0 3,0⟩,⟨1,0,2,fK m v0 g0 g0.zt 4,0⟩,⟨1,0,3,fH m g0 e0 e0.head 5 e0.zi,0⟩,⟨2,3,1,e0.next.map encI,0⟩,⟨1,245,2,[tj],0⟩,⟨1,55,23,[zS qH],0⟩] (rx:=.ref 4 [] 3 m.end_.toNat 0) (vP w m v0 g0 e0 hv) (zc rfl (zc rfl (zc (zj ownV) (zc (zj ownG) (zc (zj ownE) rfl))))) uT rfl rfl rfl (zc rfl (zc rfl (zc (zj ownV) (zc (zj ownG) (zc (zj ownE) rfl))))) uU rfl (dd ?_);refine⟨_,ge,rfl,dd ?_⟩;rw[pw];refine dd ?_;refine .inl ⟨⟨true,[],[],[5]⟩,au,uH ?_⟩;refine zY [0,1,2,3,4,5] [⟨1,38,8,[(il w 2)],0⟩,⟨1,95,44,[zE ({ m with pc:=12 })],0⟩,⟨1,0,5,fM w m v0 3,0⟩,⟨1,0,2,fK m v0 g0 g0.zt 4,0⟩,⟨1,0,3,fH m g0 e0 (Slp.je m.word m.link) 5 e0.zi,0⟩,⟨2,3,1,e0.next.map encI,0⟩,⟨1,245,2,[tj],0⟩,⟨1,55,23,[zS qH],0⟩] (rx:=Ce (iF m v0 4 8 m.slot)) (Hx w m v0 g0 { e0 with head:=Slp.je m.word m.link } hv m.end_ 12 4 8 m.slot) (zc rfl (zc rfl (zc (zj ownV) (zc (zj ownG) (zc (zj ownE2) rfl))))) uT rfl rfl rfl (zc rfl (zc rfl (zc (zj ownV) (zc (zj ownG) (zc (zj ownE2) rfl))))) uU rfl (dd ?_);exact cX
end Go.Wor
namespace Go.Wor
open Go.Ab Go.Proofs Tryz Go.Hy
abbrev nf:C:=.v .nilFunc
abbrev pf(f:FuncId):C:=.fn f [] []
abbrev zyn:List C:=[nf,nf,nf,pf 184,pf 185,pf 186,pf 187,pf 188,pf 189,pf 190,pf 191,pf 192,pf 193,nf,nf,nf,nf,nf,nf,nf,pf 194,pf 195,pf 196,pf 197]
def jA:tn 151 [] [] (.agg zyn) []:=by
 refine ab func151 ?_;exact uI
end Go.Wor
namespace Go.Wor
open Go.Ab Go.Proofs Tryz Go.Hy Go.Gat Go.Nam Go.Hos Go.Con Go.Sna
def W4{w w':Wor}{m m':fq}{e:fx}(sw:jf w)(ok:iC w)(hl:i64 m.listen)(hpc:m.pc=3)(hs:z7 w m=true)(h:tn 184 [⟨1,38,8,[zU w],0⟩,⟨1,95,44,[zE m],0⟩] [.agg tj] (Ce e) [⟨1,38,8,[zU w'],0⟩,⟨1,95,44,[zE m'],0⟩]):tn 126 [] [Cw w,Cm m] (.fC [Cw w',Cm m',Ce e]) []:=by
 by_cases hn:m.listen<0
 all_goals
  refine ab func126 ?_;(repeat (first|refine uA ?_|refine uB ?_))
  refine ah (zR w m ok hl) ?_;refine⟨λ_=>dd ?_,λh=>absurd ((hs).symm.trans h:true=false) ar⟩;refine tc ?_
  (repeat (first|refine uA ?_|refine uB ?_))
  refine .inl ⟨⟨true,[2],[1],[0]⟩,au,uH ?_⟩;refine ah jA ?_;refine hZ ?_
  (refine⟨aw,aw,pf 184,cR,dd ?_⟩)
  refine tc ?_
  refine ah (qE w sw) ?_;refine af [5,6] (h) ?_;refine .inl ⟨⟨false,[0,1,2],[5,6,7],[]⟩,au,uH ?_⟩;refine hZ ?_
  exact uI
def W6{w w':Wor}{m m':fq}{e:fx}(sw:jf w)(ok:iC w)(hl:i64 m.listen)(hpc:m.pc=5)(hs:z7 w m=true)(hli:0<=m.listen)(h:tn 186 [⟨1,38,8,[zU w],0⟩,⟨1,95,44,[zE m],0⟩] [.agg tj] (Ce e) [⟨1,38,8,[zU w'],0⟩,⟨1,95,44,[zE m'],0⟩]):tn 126 [] [Cw w,Cm m] (.fC [Cw w',Cm m',Ce e]) []:=by
 have hn:¬m.listen<0:=aw
 all_goals
  refine ab func126 ?_;(repeat (first|refine uA ?_|refine uB ?_))
  refine ah (zR w m ok hl) ?_;refine⟨λ_=>dd ?_,λh=>absurd ((hs).symm.trans h:true=false) ar⟩;refine tc ?_
  (repeat (first|refine uA ?_|refine uB ?_))
  refine .inl ⟨⟨true,[2],[1],[0]⟩,au,uH ?_⟩;refine ah jA ?_;refine hZ ?_
  (refine⟨aw,aw,pf 186,cR,dd ?_⟩)
  refine tc ?_
  refine ah (qE w sw) ?_;refine af [5,6] (h) ?_;refine .inl ⟨⟨false,[0,1,2],[5,6,7],[]⟩,au,uH ?_⟩;refine hZ ?_
  exact uI
def WB{w w':Wor}{m m':fq}{e:fx}(sw:jf w)(ok:iC w)(hl:i64 m.listen)(hpc:m.pc=7)(hs:z7 w m=true)(h:tn 188 [⟨1,38,8,[zU w],0⟩,⟨1,95,44,[zE m],0⟩] [.agg tj] (Ce e) [⟨1,38,8,[zU w'],0⟩,⟨1,95,44,[zE m'],0⟩]):tn 126 [] [Cw w,Cm m] (.fC [Cw w',Cm m',Ce e]) []:=by
 by_cases hn:m.listen<0
 all_goals
  refine ab func126 ?_;(repeat (first|refine uA ?_|refine uB ?_))
  refine ah (zR w m ok hl) ?_;refine⟨λ_=>dd ?_,λh=>absurd ((hs).symm.trans h:true=false) ar⟩;refine tc ?_
  (repeat (first|refine uA ?_|refine uB ?_))
  refine .inl ⟨⟨true,[2],[1],[0]⟩,au,uH ?_⟩;refine ah jA ?_;refine hZ ?_
  (refine⟨aw,aw,pf 188,cR,dd ?_⟩)
  refine tc ?_
  refine ah (qE w sw) ?_;refine af [5,6] (h) ?_;refine .inl ⟨⟨false,[0,1,2],[5,6,7],[]⟩,au,uH ?_⟩;refine hZ ?_
  exact uI
def WD{w w':Wor}{m m':fq}{e:fx}(sw:jf w)(ok:iC w)(hl:i64 m.listen)(hpc:m.pc=8)(hs:z7 w m=true)(h:tn 189 [⟨1,38,8,[zU w],0⟩,⟨1,95,44,[zE m],0⟩] [.agg tj] (Ce e) [⟨1,38,8,[zU w'],0⟩,⟨1,95,44,[zE m'],0⟩]):tn 126 [] [Cw w,Cm m] (.fC [Cw w',Cm m',Ce e]) []:=by
 by_cases hn:m.listen<0
 all_goals
  refine ab func126 ?_;(repeat (first|refine uA ?_|refine uB ?_))
  refine ah (zR w m ok hl) ?_;refine⟨λ_=>dd ?_,λh=>absurd ((hs).symm.trans h:true=false) ar⟩;refine tc ?_
  (repeat (first|refine uA ?_|refine uB ?_))
  refine .inl ⟨⟨true,[2],[1],[0]⟩,au,uH ?_⟩;refine ah jA ?_;refine hZ ?_
  (refine⟨aw,aw,pf 189,cR,dd ?_⟩)
  refine tc ?_
  refine ah (qE w sw) ?_;refine af [5,6] (h) ?_;refine .inl ⟨⟨false,[0,1,2],[5,6,7],[]⟩,au,uH ?_⟩;refine hZ ?_
  exact uI
def MZ{w w':Wor}{m m':fq}{e:fx}(sw:jf w)(ok:iC w)(hl:i64 m.listen)(hpc:m.pc=9)(hs:z7 w m=true)(h:tn 190 [⟨1,38,8,[zU w],0⟩,⟨1,95,44,[zE m],0⟩] [.agg tj] (Ce e) [⟨1,38,8,[zU w'],0⟩,⟨1,95,44,[zE m'],0⟩]):tn 126 [] [Cw w,Cm m] (.fC [Cw w',Cm m',Ce e]) []:=by
 by_cases hn:m.listen<0
 all_goals
  refine ab func126 ?_;(repeat (first|refine uA ?_|refine uB ?_))
  refine ah (zR w m ok hl) ?_;refine⟨λ_=>dd ?_,λh=>absurd ((hs).symm.trans h:true=false) ar⟩;refine tc ?_
  (repeat (first|refine uA ?_|refine uB ?_))
  refine .inl ⟨⟨true,[2],[1],[0]⟩,au,uH ?_⟩;refine ah jA ?_;refine hZ ?_
  (refine⟨aw,aw,pf 190,cR,dd ?_⟩)
  refine tc ?_
  refine ah (qE w sw) ?_;refine af [5,6] (h) ?_;refine .inl ⟨⟨false,[0,1,2],[5,6,7],[]⟩,au,uH ?_⟩;refine hZ ?_
  exact uI
def Vh{w w':Wor}{m m':fq}{e:fx}(sw:jf w)(ok:iC w)(hl:i64 m.listen)(hpc:m.pc=10)(hs:z7 w m=true)(h:tn 191 [⟨1,38,8,[zU w],0⟩,⟨1,95,44,[zE m],0⟩] [.agg tj] (Ce e) [⟨1,38,8,[zU w'],0⟩,⟨1,95,44,[zE m'],0⟩]):tn 126 [] [Cw w,Cm m] (.fC [Cw w',Cm m',Ce e]) []:=by
 by_cases hn:m.listen<0
 all_goals
  refine ab func126 ?_;(repeat (first|refine uA ?_|refine uB ?_))
  refine ah (zR w m ok hl) ?_;refine⟨λ_=>dd ?_,λh=>absurd ((hs).symm.trans h:true=false) ar⟩;refine tc ?_
  (repeat (first|refine uA ?_|refine uB ?_))
  refine .inl ⟨⟨true,[2],[1],[0]⟩,au,uH ?_⟩;refine ah jA ?_;refine hZ ?_
  (refine⟨aw,aw,pf 191,cR,dd ?_⟩)
  refine tc ?_
  refine ah (qE w sw) ?_;refine af [5,6] (h) ?_;refine .inl ⟨⟨false,[0,1,2],[5,6,7],[]⟩,au,uH ?_⟩;refine hZ ?_
  exact uI
def Vm{w w':Wor}{m m':fq}{e:fx}(sw:jf w)(ok:iC w)(hl:i64 m.listen)(hpc:m.pc=23)(hs:z7 w m=true)(h:tn 197 [⟨1,38,8,[zU w],0⟩,⟨1,95,44,[zE m],0⟩] [.agg tj] (Ce e) [⟨1,38,8,[zU w'],0⟩,⟨1,95,44,[zE m'],0⟩]):tn 126 [] [Cw w,Cm m] (.fC [Cw w',Cm m',Ce e]) []:=by
 by_cases hn:m.listen<0
 all_goals
  refine ab func126 ?_;(repeat (first|refine uA ?_|refine uB ?_))
  refine ah (zR w m ok hl) ?_;refine⟨λ_=>dd ?_,λh=>absurd ((hs).symm.trans h:true=false) ar⟩;refine tc ?_
  (repeat (first|refine uA ?_|refine uB ?_))
  refine .inl ⟨⟨true,[2],[1],[0]⟩,au,uH ?_⟩;refine ah jA ?_;refine hZ ?_
  (refine⟨aw,aw,pf 197,cR,dd ?_⟩)
  refine tc ?_
  refine ah (qE w sw) ?_;refine af [5,6] (h) ?_;refine .inl ⟨⟨false,[0,1,2],[5,6,7],[]⟩,au,uH ?_⟩;refine hZ ?_
  exact uI
def HN{w w':Wor}{m m':fq}{e:fx}(h0:0<=m.pc)(h3:m.pc<3)(h:tn 149 [] [Cw w,Cm m] (.fC [Cw w',Cm m',Ce e]) []):tn 126 [] [Cw w,Cm m] (.fC [Cw w',Cm m',Ce e]) []:=by
 refine ab func126 ?_;refine⟨λ_=>dd ?_,λh=>absurd h aA⟩;refine⟨λ_=>dd ?_,λh=>absurd h aA⟩;refine ah h ?_;exact uI
def W5{w:Wor}{m m':fq}{e:fx}{ls:List fQ}(sw:jf w)(ok:iC w)(hl:i64 m.listen)(hpc:m.pc=4)(hs:z7 w m=true)(hli:0<=m.listen)(hll:ls.length=w.zd.length)(h:tn 185 [⟨1,38,8,[[I w.zr,I w.current,I w.lock,lI w.pins,lV w.ze,.sl 2 [] 4 0 w.zd.length false,ig w.counts,lR w.zu]],0⟩,⟨1,95,44,[zE m],0⟩,⟨2,76,4,(w.zd).map qW,0⟩] [.agg tj] (Ce e) [⟨1,38,8,[[I w.zr,I w.current,I w.lock,lI w.pins,lV w.ze,.sl 2 [] 4 0 w.zd.length false,ig w.counts,lR w.zu]],0⟩,⟨1,95,44,[zE m'],0⟩,⟨2,76,4,(ls).map qW,0⟩]):tn 126 [] [Cw w,Cm m] (.fC [Cw { w with zd:=ls },Cm m',Ce e]) []:=by
 have hn:¬m.listen<0:=aw
 obtain⟨x,l,hx⟩:∃x l,w.zd=x::l:=by
  obtain⟨v,g,e,su⟩:=yL hs;cases h:w.zd with
  |nil=>have:=su.listen;rw[h]at this;exact de
  |cons x l=>exact⟨x,l,rfl⟩
 refine ab func126 ?_;(repeat (first|refine uA ?_|refine uB ?_))
 refine ah (zR w m ok hl) ?_;refine⟨λ_=>dd ?_,λh=>absurd ((hs).symm.trans h:true=false) ar⟩;refine tc ?_
 (repeat (first|refine uA ?_|refine uB ?_))
 refine .inl ⟨⟨true,[2],[1],[0]⟩,au,uH ?_⟩;refine ah jA ?_;refine hZ ?_
 (refine⟨aw,aw,pf 185,cR,dd ?_⟩)
 refine tc ?_
 refine af [] (vu w sw x l hx) ?_;refine af [6,7,5] (h) ?_;refine .inl ⟨⟨false,[0,1,2],[6,7,8],[]⟩,au,uH ?_⟩;refine hZ ?_
 exact dP
def Vl{w:Wor}{m m':fq}{e:fx}{ls:List fQ}(sw:jf w)(ok:iC w)(hl:i64 m.listen)(hpc:m.pc=22)(hs:z7 w m=true)(hli:0<=m.listen)(hll:ls.length=w.zd.length)(h:tn 196 [⟨1,38,8,[[I w.zr,I w.current,I w.lock,lI w.pins,lV w.ze,.sl 2 [] 4 0 w.zd.length false,ig w.counts,lR w.zu]],0⟩,⟨1,95,44,[zE m],0⟩,⟨2,76,4,(w.zd).map qW,0⟩] [.agg tj] (Ce e) [⟨1,38,8,[[I w.zr,I w.current,I w.lock,lI w.pins,lV w.ze,.sl 2 [] 4 0 w.zd.length false,ig w.counts,lR w.zu]],0⟩,⟨1,95,44,[zE m'],0⟩,⟨2,76,4,(ls).map qW,0⟩]):tn 126 [] [Cw w,Cm m] (.fC [Cw { w with zd:=ls },Cm m',Ce e]) []:=by
 have hn:¬m.listen<0:=aw
 obtain⟨x,l,hx⟩:∃x l,w.zd=x::l:=by
  obtain⟨v,g,e,su⟩:=yL hs;cases h:w.zd with
  |nil=>have:=su.listen;rw[h]at this;exact de
  |cons x l=>exact⟨x,l,rfl⟩
 refine ab func126 ?_;(repeat (first|refine uA ?_|refine uB ?_))
 refine ah (zR w m ok hl) ?_;refine⟨λ_=>dd ?_,λh=>absurd ((hs).symm.trans h:true=false) ar⟩;refine tc ?_
 (repeat (first|refine uA ?_|refine uB ?_))
 refine .inl ⟨⟨true,[2],[1],[0]⟩,au,uH ?_⟩;refine ah jA ?_;refine hZ ?_
 (refine⟨aw,aw,pf 196,cR,dd ?_⟩)
 refine tc ?_
 refine af [] (vu w sw x l hx) ?_;refine af [6,7,5] (h) ?_;refine .inl ⟨⟨false,[0,1,2],[6,7,8],[]⟩,au,uH ?_⟩;refine hZ ?_
 exact dP
def Vj{w:Wor}{m m':fq}{e:fx}{r0 r1:List Int}(sw:jf w)(ok:iC w)(hl:i64 m.listen)(hpc:m.pc=20)(hs:z7 w m=true)(t0:0<=m.zf)(hr:w.counts[m.zf.toNat]?=some r0)(hne:r0≠[])(hll:r1.length=r0.length)
 (h:tn 194 [⟨1,38,8,[[I w.zr,I w.current,I w.lock,lI w.pins,lV w.ze,lL w.zd,.sl 2 [] 1 0 w.counts.length false,lR w.zu]],0⟩,⟨1,95,44,[zE m],0⟩,⟨1,0,1,(w.counts.map zP).set m.zf.toNat [C.sl (3) [] 1 0 r0.length false],0⟩,⟨2,48,1,(r0).map jW,0⟩] [.agg tj] (Ce e) [⟨1,38,8,[[I w.zr,I w.current,I w.lock,lI w.pins,lV w.ze,lL w.zd,.sl 2 [] 1 0 w.counts.length false,lR w.zu]],0⟩,⟨1,95,44,[zE m'],0⟩,⟨1,0,1,(w.counts.map zP).set m.zf.toNat [C.sl (3) [] 1 0 r0.length false],0⟩,⟨2,48,1,(r1).map jW,0⟩]):tn 126 [] [Cw w,Cm m] (.fC [Cw { w with counts:=w.counts.set m.zf.toNat r1 },Cm m',Ce e]) []:=by
 have ml:((w.counts.map zP)).length=w.counts.length:=gE ..;have ml1:(r1.map jW).length=r1.length:=gE ..;have ft:m.zf.toNat<w.counts.length:=(gm.1 hr).1;have own:∀i,∀r∈(w.counts.map zP).set m.zf.toNat ([C.sl i [] 1 0 r0.length false]),∀c∈r,zy c=true:=λi=>zB (enc:=zP) (λ_=>rfl) rfl _ _
 have gt:((w.counts.map zP).set m.zf.toNat ([C.sl 6 [] 1 0 r0.length false]))[m.zf.toNat]?=some ([C.sl 6 [] 1 0 r0.length false]):=gD (aq ft);have est:(((w.counts.map zP).set m.zf.toNat ([C.sl 6 [] 1 0 r0.length false])).set m.zf.toNat [.fp 0 1 (r1.map jW)])=(w.counts.set m.zf.toNat r1).map zP:=by rw[pw,rH];rfl
 have esh:∀r∈(((w.counts.map zP).set m.zf.toNat ([C.sl 6 [] 1 0 r0.length false])).set m.zf.toNat [.fp 0 1 (r1.map jW)]),∀c∈r,ju c=true/\zy c=true:=by
  rw[est];exact shut_map (enc:=zP) (λ_=>rfl) _
 have hp:Gl w.counts m.zf.toNat r0:=⟨sw.counts,hr,hne⟩;by_cases hn:m.listen<0
 all_goals
  refine ab func126 ?_;(repeat (first|refine uA ?_|refine uB ?_))
  refine ah (zR w m ok hl) ?_;refine⟨λ_=>dd ?_,λh=>absurd ((hs).symm.trans h:true=false) ar⟩;refine tc ?_
  (repeat (first|refine uA ?_|refine uB ?_))
  refine .inl ⟨⟨true,[2],[1],[0]⟩,au,uH ?_⟩;refine ah jA ?_;refine hZ ?_
  (refine⟨aw,aw,pf 194,cR,dd ?_⟩)
  refine tc ?_
  refine zY [] [⟨1,38,8,[zU w],0⟩,⟨1,95,44,[zE m],0⟩,⟨1,38,8,[iT],0⟩,⟨1,95,44,[iS],0⟩,⟨1,55,23,[zS qH],0⟩,⟨1,0,1,(w.counts.map zP).set m.zf.toNat [C.sl (6) [] 1 0 r0.length false],0⟩,⟨2,48,1,(r0).map jW,0⟩] (rx:=.agg [I w.zr,I w.current,I w.lock,lI w.pins,lV w.ze,lL w.zd,.sl 5 [] 1 0 w.counts.length false,lR w.zu]) (KE w sw w.counts rfl hp) (zc (zj (own 1)) rfl) rfl rfl rfl rfl rfl tL rfl (dd ?_);refine zY [7,8,5,6] [⟨1,38,8,[zU w],0⟩,⟨1,95,44,[zE m],0⟩,⟨1,38,8,[iT],0⟩,⟨1,95,44,[iS],0⟩,⟨1,55,23,[zS qH],0⟩,⟨1,0,1,(w.counts.map zP).set m.zf.toNat [C.sl (6) [] 1 0 r0.length false],0⟩,⟨2,48,1,(r1).map jW,0⟩,⟨1,38,8,[[I w.zr,I w.current,I w.lock,lI w.pins,lV w.ze,lL w.zd,.sl 5 [] 1 0 w.counts.length false,lR w.zu]],0⟩,⟨1,95,44,[zE m'],0⟩] (rx:=Ce e) h (zc rfl (zc rfl (zc (zj (own 3)) rfl))) cS rfl rfl rfl (zc rfl (zc rfl (zc rfl (zc rfl (zc rfl (zc (zj (own 6)) rfl)))))) tL rfl (dd ?_);refine .inl ⟨⟨false,[0,1,2],[7,8,9],[]⟩,au,uH ?_⟩;refine hZ ?_
  refine⟨.inl rfl,_,(zp.zV 5 m.zf.toNat 0 rfl gt rfl rfl (.inr rfl) aj (by rw[ml1,hll]) (shut_map (enc:=jW) (λ_=>rfl) _) (own 6)).trans (zp.zV 2 0 6 rfl rfl rfl rfl (.inl rfl) aj aj esh (z6 rfl)),?_⟩;show _=some (C.fC [C.agg [I w.zr,I w.current,I w.lock,lI w.pins,lV w.ze,lL w.zd,C.fp 0 1 ((w.counts.set m.zf.toNat r1).map zP),lR w.zu],Cm m',Ce e]);rw[<-est]
  rfl
def Vk{w:Wor}{m m':fq}{e:fx}{r0 r1:List Int}(sw:jf w)(ok:iC w)(hl:i64 m.listen)(hpc:m.pc=21)(hs:z7 w m=true)(t0:0<=m.zf)(hr:w.counts[m.zf.toNat]?=some r0)(hne:r0≠[])(hll:r1.length=r0.length)
 (h:tn 195 [⟨1,38,8,[[I w.zr,I w.current,I w.lock,lI w.pins,lV w.ze,lL w.zd,.sl 2 [] 1 0 w.counts.length false,lR w.zu]],0⟩,⟨1,95,44,[zE m],0⟩,⟨1,0,1,(w.counts.map zP).set m.zf.toNat [C.sl (3) [] 1 0 r0.length false],0⟩,⟨2,48,1,(r0).map jW,0⟩] [.agg tj] (Ce e) [⟨1,38,8,[[I w.zr,I w.current,I w.lock,lI w.pins,lV w.ze,lL w.zd,.sl 2 [] 1 0 w.counts.length false,lR w.zu]],0⟩,⟨1,95,44,[zE m'],0⟩,⟨1,0,1,(w.counts.map zP).set m.zf.toNat [C.sl (3) [] 1 0 r0.length false],0⟩,⟨2,48,1,(r1).map jW,0⟩]):tn 126 [] [Cw w,Cm m] (.fC [Cw { w with counts:=w.counts.set m.zf.toNat r1 },Cm m',Ce e]) []:=by
 have ml:((w.counts.map zP)).length=w.counts.length:=gE ..;have ml1:(r1.map jW).length=r1.length:=gE ..;have ft:m.zf.toNat<w.counts.length:=(gm.1 hr).1;have own:∀i,∀r∈(w.counts.map zP).set m.zf.toNat ([C.sl i [] 1 0 r0.length false]),∀c∈r,zy c=true:=λi=>zB (enc:=zP) (λ_=>rfl) rfl _ _
 have gt:((w.counts.map zP).set m.zf.toNat ([C.sl 6 [] 1 0 r0.length false]))[m.zf.toNat]?=some ([C.sl 6 [] 1 0 r0.length false]):=gD (aq ft);have est:(((w.counts.map zP).set m.zf.toNat ([C.sl 6 [] 1 0 r0.length false])).set m.zf.toNat [.fp 0 1 (r1.map jW)])=(w.counts.set m.zf.toNat r1).map zP:=by rw[pw,rH];rfl
 have esh:∀r∈(((w.counts.map zP).set m.zf.toNat ([C.sl 6 [] 1 0 r0.length false])).set m.zf.toNat [.fp 0 1 (r1.map jW)]),∀c∈r,ju c=true/\zy c=true:=by
  rw[est];exact shut_map (enc:=zP) (λ_=>rfl) _
 have hp:Gl w.counts m.zf.toNat r0:=⟨sw.counts,hr,hne⟩;by_cases hn:m.listen<0
 all_goals
  refine ab func126 ?_;(repeat (first|refine uA ?_|refine uB ?_))
  refine ah (zR w m ok hl) ?_;refine⟨λ_=>dd ?_,λh=>absurd ((hs).symm.trans h:true=false) ar⟩;refine tc ?_
  (repeat (first|refine uA ?_|refine uB ?_))
  refine .inl ⟨⟨true,[2],[1],[0]⟩,au,uH ?_⟩;refine ah jA ?_;refine hZ ?_
  (refine⟨aw,aw,pf 195,cR,dd ?_⟩)
  refine tc ?_
  refine zY [] [⟨1,38,8,[zU w],0⟩,⟨1,95,44,[zE m],0⟩,⟨1,38,8,[iT],0⟩,⟨1,95,44,[iS],0⟩,⟨1,55,23,[zS qH],0⟩,⟨1,0,1,(w.counts.map zP).set m.zf.toNat [C.sl (6) [] 1 0 r0.length false],0⟩,⟨2,48,1,(r0).map jW,0⟩] (rx:=.agg [I w.zr,I w.current,I w.lock,lI w.pins,lV w.ze,lL w.zd,.sl 5 [] 1 0 w.counts.length false,lR w.zu]) (KE w sw w.counts rfl hp) (zc (zj (own 1)) rfl) rfl rfl rfl rfl rfl tL rfl (dd ?_);refine zY [7,8,5,6] [⟨1,38,8,[zU w],0⟩,⟨1,95,44,[zE m],0⟩,⟨1,38,8,[iT],0⟩,⟨1,95,44,[iS],0⟩,⟨1,55,23,[zS qH],0⟩,⟨1,0,1,(w.counts.map zP).set m.zf.toNat [C.sl (6) [] 1 0 r0.length false],0⟩,⟨2,48,1,(r1).map jW,0⟩,⟨1,38,8,[[I w.zr,I w.current,I w.lock,lI w.pins,lV w.ze,lL w.zd,.sl 5 [] 1 0 w.counts.length false,lR w.zu]],0⟩,⟨1,95,44,[zE m'],0⟩] (rx:=Ce e) h (zc rfl (zc rfl (zc (zj (own 3)) rfl))) cS rfl rfl rfl (zc rfl (zc rfl (zc rfl (zc rfl (zc rfl (zc (zj (own 6)) rfl)))))) tL rfl (dd ?_);refine .inl ⟨⟨false,[0,1,2],[7,8,9],[]⟩,au,uH ?_⟩;refine hZ ?_
  refine⟨.inl rfl,_,(zp.zV 5 m.zf.toNat 0 rfl gt rfl rfl (.inr rfl) aj (by rw[ml1,hll]) (shut_map (enc:=jW) (λ_=>rfl) _) (own 6)).trans (zp.zV 2 0 6 rfl rfl rfl rfl (.inl rfl) aj aj esh (z6 rfl)),?_⟩;show _=some (C.fC [C.agg [I w.zr,I w.current,I w.lock,lI w.pins,lV w.ze,lL w.zd,C.fp 0 1 ((w.counts.set m.zf.toNat r1).map zP),lR w.zu],Cm m',Ce e]);rw[<-est]
  rfl
def jC{α β:Type}(f:α->β)(l:List α)(i:Nat)(a:α)(r:β)(h:f a=r):(l.map f).set i r=(l.set i a).map f:=by rw[rH,h]
abbrev qA(e0:En)(hd ac:Int):En:={ e0 with head:=hd,zi:=ac }
abbrev yD(m:fq)(g0:Gr)(e0:En)(tk hd ac:Int):Gr:={ g0 with zt:=tk,ends:=g0.ends.set m.end_.toNat (qA e0 hd ac) }
abbrev xq(m:fq)(v0:fB)(g0:Gr)(e0:En)(tk hd ac:Int):fB:={ v0 with zm:=v0.zm.set m.zg.toNat (yD m g0 e0 tk hd ac) }
abbrev na(w:Wor)(m:fq)(v0:fB)(g0:Gr)(e0:En)(tk hd ac:Int):Wor:={ w with ze:=w.ze.set m.version.toNat (xq m v0 g0 e0 tk hd ac) }
def W7{w:Wor}{m m':fq}{e:fx}{v0:fB}{g0:Gr}{e0:En}{tk hd ac:Int}(sw:jf w)(ok:iC w)(hl:i64 m.listen)(hpc:m.pc=6)(hs:z7 w m=true)(hat:iz w m v0 g0 e0)(hne:e0.next≠[])
 (h:tn 187 [⟨1,38,8,[(il w 2)],0⟩,⟨1,95,44,[zE m],0⟩,⟨1,0,5,fM w m v0 (3),0⟩,⟨1,0,2,fK m v0 g0 (g0.zt) (4),0⟩,⟨1,0,3,fH m g0 e0 (e0.head) (5) (e0.zi),0⟩,⟨2,3,1,e0.next.map encI,0⟩] [.agg tj] (Ce e) [⟨1,38,8,[(il w 2)],0⟩,⟨1,95,44,[zE m'],0⟩,⟨1,0,5,fM w m v0 (3),0⟩,⟨1,0,2,fK m v0 g0 (tk) (4),0⟩,⟨1,0,3,fH m g0 e0 (hd) (5) (ac),0⟩,⟨2,3,1,e0.next.map encI,0⟩]):tn 126 [] [Cw w,Cm m] (.fC [Cw (na w m v0 g0 e0 tk hd ac),Cm m',Ce e]) []:=by
 have lv:=hat.ln.lv;have lg:=hat.ln.lg;have le:=hat.ln.le;have lq:=sw.ze.2 v0 (gA hat.at_);have hp:Br w.ze m.version.toNat v0 m.zg.toNat g0 m.end_.toNat e0:=⟨⟨⟨lq.2 g0 (gA hat.fR),hat.ia,hne⟩,lq,hat.fR⟩,sw.ze,hat.at_⟩;have ownV:∀i,∀r∈fM w m v0 (i),∀c∈r,zy c=true:=λi=>zB (enc:=zK) (λ_=>rfl) rfl _ _
 have ownG:∀i t,∀r∈fK m v0 g0 (t) (i),∀c∈r,zy c=true:=λi t=>zB (enc:=zF) (λ_=>rfl) rfl _ _
 have ownE:∀i a b,∀r∈fH m g0 e0 (a) (i) (b),∀c∈r,zy c=true:=λi a b=>zB (enc:=zx) (λ_=>rfl) rfl _ _
 have gv:(fM w m v0 (6))[m.version.toNat]?=some ((ql v0.snap++[C.sl (6) [] 2 0 v0.zm.length false,Bo v0.qt])):=gD tY;have gg:(fK m v0 g0 (tk) (7))[m.zg.toNat]?=some ([U (tk),C.sl (7) [] 3 0 g0.ends.length false]):=gD tS;have ge:(fH m g0 e0 (hd) (8) (ac))[m.end_.toNat]?=some ([U (hd),C.sl (8) [] 1 0 e0.next.length false,I (ac)]):=gD tN;have estE:((fH m g0 e0 (hd) (8) (ac)).set m.end_.toNat [U hd,C.fp 0 1 (e0.next.map encI),I ac])=(g0.ends.set m.end_.toNat (qA e0 hd ac)).map zx:=cT
 have estG:((fK m v0 g0 (tk) (7)).set m.zg.toNat [U tk,C.fp 0 3 (((g0.ends.set m.end_.toNat (qA e0 hd ac)).map zx))])=(v0.zm.set m.zg.toNat (yD m g0 e0 tk hd ac)).map zF:=cU
 have estV:((fM w m v0 (6)).set m.version.toNat (ql v0.snap++[C.fp 0 2 (((v0.zm.set m.zg.toNat (yD m g0 e0 tk hd ac)).map zF)),Bo v0.qt]))=(w.ze.set m.version.toNat (xq m v0 g0 e0 tk hd ac)).map zK:=cV
 have eshE:∀r∈((fH m g0 e0 (hd) (8) (ac)).set m.end_.toNat [U hd,C.fp 0 1 (e0.next.map encI),I ac]),∀c∈r,ju c=true/\zy c=true:=by
  exact dx
 have eshG:∀r∈((fK m v0 g0 (tk) (7)).set m.zg.toNat [U tk,C.fp 0 3 ((fH m g0 e0 (hd) (8) (ac)).set m.end_.toNat [U hd,C.fp 0 1 (e0.next.map encI),I ac])]),∀c∈r,ju c=true/\zy c=true:=by
  exact dq
 have eshV:∀r∈((fM w m v0 (6)).set m.version.toNat (ql v0.snap++[C.fp 0 2 ((fK m v0 g0 (tk) (7)).set m.zg.toNat [U tk,C.fp 0 3 ((fH m g0 e0 (hd) (8) (ac)).set m.end_.toNat [U hd,C.fp 0 1 (e0.next.map encI),I ac])]),Bo v0.qt])),∀c∈r,ju c=true/\zy c=true:=by
  exact dp
 by_cases hn:m.listen<0
 all_goals
  refine ab func126 ?_;(repeat (first|refine uA ?_|refine uB ?_))
  refine ah (zR w m ok hl) ?_;refine⟨λ_=>dd ?_,λh=>absurd ((hs).symm.trans h:true=false) ar⟩;refine tc ?_
  (repeat (first|refine uA ?_|refine uB ?_))
  refine .inl ⟨⟨true,[2],[1],[0]⟩,au,uH ?_⟩;refine ah jA ?_;refine hZ ?_
  (refine⟨aw,aw,pf 187,cR,dd ?_⟩)
  refine tc ?_
  refine zY [] [⟨1,38,8,[zU w],0⟩,⟨1,95,44,[zE m],0⟩,⟨1,38,8,[iT],0⟩,⟨1,95,44,[iS],0⟩,⟨1,55,23,[zS qH],0⟩,⟨1,0,5,fM w m v0 (6),0⟩,⟨1,0,2,fK m v0 g0 (g0.zt) (7),0⟩,⟨1,0,3,fH m g0 e0 (e0.head) (8) (e0.zi),0⟩,⟨2,3,1,e0.next.map encI,0⟩] (rx:=.agg (il w 5)) (yF w sw w.ze rfl hp) (zc (zj (ownV 1)) (zc (zj (ownG 2 _)) (zc (zj (ownE 3 _ _)) rfl))) rfl rfl rfl rfl rfl uV rfl (dd ?_);refine zY [9,10,5,6,7,8] [⟨1,38,8,[zU w],0⟩,⟨1,95,44,[zE m],0⟩,⟨1,38,8,[iT],0⟩,⟨1,95,44,[iS],0⟩,⟨1,55,23,[zS qH],0⟩,⟨1,0,5,fM w m v0 (6),0⟩,⟨1,0,2,fK m v0 g0 (tk) (7),0⟩,⟨1,0,3,fH m g0 e0 (hd) (8) (ac),0⟩,⟨2,3,1,e0.next.map encI,0⟩,⟨1,38,8,[(il w 5)],0⟩,⟨1,95,44,[zE m'],0⟩] (rx:=Ce e) h (zc rfl (zc rfl (zc (zj (ownV 3)) (zc (zj (ownG 4 _)) (zc (zj (ownE 5 _ _)) rfl))))) tE rfl rfl rfl (zc rfl (zc rfl (zc rfl (zc rfl (zc rfl (zc (zj (ownV 6)) (zc (zj (ownG 7 _)) (zc (zj (ownE 8 _ _)) rfl)))))))) uV rfl (dd ?_);refine .inl ⟨⟨false,[0,1,2],[9,10,11],[]⟩,au,uH ?_⟩;refine hZ ?_
  refine⟨.inl rfl,_,(((zp.zV 7 m.end_.toNat 1 rfl ge rfl rfl (.inr rfl) aj aj (shut_map (enc:=encI) (λ_=>rfl) _) (ownE 8 _ _)).trans (zp.zV 6 m.zg.toNat 1 rfl gg rfl rfl (.inl rfl) aj aj eshE (ownG 7 _))).trans (zp.zV 5 m.version.toNat 3 rfl gv rfl rfl (.inl rfl) aj aj eshG (ownV 6))).trans (zp.zV 2 0 4 rfl rfl rfl rfl (.inl rfl) aj aj eshV (z6 rfl)),?_⟩;show _=some (C.fC [C.agg [I w.zr,I w.current,I w.lock,lI w.pins,C.fp 0 5 ((w.ze.set m.version.toNat (xq m v0 g0 e0 tk hd ac)).map zK),lL w.zd,ig w.counts,lR w.zu],Cm m',Ce e]);rw[<-estV,<-estG,<-estE]
  rfl
def MO{w:Wor}{m m':fq}{e:fx}{v0:fB}{g0:Gr}{e0:En}{tk hd ac:Int}(sw:jf w)(ok:iC w)(hl:i64 m.listen)(hpc:m.pc=11)(hs:z7 w m=true)(hat:iz w m v0 g0 e0)(hne:e0.next≠[])
 (h:tn 192 [⟨1,38,8,[(il w 2)],0⟩,⟨1,95,44,[zE m],0⟩,⟨1,0,5,fM w m v0 (3),0⟩,⟨1,0,2,fK m v0 g0 (g0.zt) (4),0⟩,⟨1,0,3,fH m g0 e0 (e0.head) (5) (e0.zi),0⟩,⟨2,3,1,e0.next.map encI,0⟩] [.agg tj] (Ce e) [⟨1,38,8,[(il w 2)],0⟩,⟨1,95,44,[zE m'],0⟩,⟨1,0,5,fM w m v0 (3),0⟩,⟨1,0,2,fK m v0 g0 (tk) (4),0⟩,⟨1,0,3,fH m g0 e0 (hd) (5) (ac),0⟩,⟨2,3,1,e0.next.map encI,0⟩]):tn 126 [] [Cw w,Cm m] (.fC [Cw (na w m v0 g0 e0 tk hd ac),Cm m',Ce e]) []:=by
 have lv:=hat.ln.lv;have lg:=hat.ln.lg;have le:=hat.ln.le;have lq:=sw.ze.2 v0 (gA hat.at_);have hp:Br w.ze m.version.toNat v0 m.zg.toNat g0 m.end_.toNat e0:=⟨⟨⟨lq.2 g0 (gA hat.fR),hat.ia,hne⟩,lq,hat.fR⟩,sw.ze,hat.at_⟩;have ownV:∀i,∀r∈fM w m v0 (i),∀c∈r,zy c=true:=λi=>zB (enc:=zK) (λ_=>rfl) rfl _ _
 have ownG:∀i t,∀r∈fK m v0 g0 (t) (i),∀c∈r,zy c=true:=λi t=>zB (enc:=zF) (λ_=>rfl) rfl _ _
 have ownE:∀i a b,∀r∈fH m g0 e0 (a) (i) (b),∀c∈r,zy c=true:=λi a b=>zB (enc:=zx) (λ_=>rfl) rfl _ _
 have gv:(fM w m v0 (6))[m.version.toNat]?=some ((ql v0.snap++[C.sl (6) [] 2 0 v0.zm.length false,Bo v0.qt])):=gD tY;have gg:(fK m v0 g0 (tk) (7))[m.zg.toNat]?=some ([U (tk),C.sl (7) [] 3 0 g0.ends.length false]):=gD tS;have ge:(fH m g0 e0 (hd) (8) (ac))[m.end_.toNat]?=some ([U (hd),C.sl (8) [] 1 0 e0.next.length false,I (ac)]):=gD tN;have estE:((fH m g0 e0 (hd) (8) (ac)).set m.end_.toNat [U hd,C.fp 0 1 (e0.next.map encI),I ac])=(g0.ends.set m.end_.toNat (qA e0 hd ac)).map zx:=cT
 have estG:((fK m v0 g0 (tk) (7)).set m.zg.toNat [U tk,C.fp 0 3 (((g0.ends.set m.end_.toNat (qA e0 hd ac)).map zx))])=(v0.zm.set m.zg.toNat (yD m g0 e0 tk hd ac)).map zF:=cU
 have estV:((fM w m v0 (6)).set m.version.toNat (ql v0.snap++[C.fp 0 2 (((v0.zm.set m.zg.toNat (yD m g0 e0 tk hd ac)).map zF)),Bo v0.qt]))=(w.ze.set m.version.toNat (xq m v0 g0 e0 tk hd ac)).map zK:=cV
 have eshE:∀r∈((fH m g0 e0 (hd) (8) (ac)).set m.end_.toNat [U hd,C.fp 0 1 (e0.next.map encI),I ac]),∀c∈r,ju c=true/\zy c=true:=by
  exact dx
 have eshG:∀r∈((fK m v0 g0 (tk) (7)).set m.zg.toNat [U tk,C.fp 0 3 ((fH m g0 e0 (hd) (8) (ac)).set m.end_.toNat [U hd,C.fp 0 1 (e0.next.map encI),I ac])]),∀c∈r,ju c=true/\zy c=true:=by
  exact dq
 have eshV:∀r∈((fM w m v0 (6)).set m.version.toNat (ql v0.snap++[C.fp 0 2 ((fK m v0 g0 (tk) (7)).set m.zg.toNat [U tk,C.fp 0 3 ((fH m g0 e0 (hd) (8) (ac)).set m.end_.toNat [U hd,C.fp 0 1 (e0.next.map encI),I ac])]),Bo v0.qt])),∀c∈r,ju c=true/\zy c=true:=by
  exact dp
 by_cases hn:m.listen<0
 all_goals
  refine ab func126 ?_;(repeat (first|refine uA ?_|refine uB ?_))
  refine ah (zR w m ok hl) ?_;refine⟨λ_=>dd ?_,λh=>absurd ((hs).symm.trans h:true=false) ar⟩;refine tc ?_
  (repeat (first|refine uA ?_|refine uB ?_))
  refine .inl ⟨⟨true,[2],[1],[0]⟩,au,uH ?_⟩;refine ah jA ?_;refine hZ ?_
  (refine⟨aw,aw,pf 192,cR,dd ?_⟩)
  refine tc ?_
  refine zY [] [⟨1,38,8,[zU w],0⟩,⟨1,95,44,[zE m],0⟩,⟨1,38,8,[iT],0⟩,⟨1,95,44,[iS],0⟩,⟨1,55,23,[zS qH],0⟩,⟨1,0,5,fM w m v0 (6),0⟩,⟨1,0,2,fK m v0 g0 (g0.zt) (7),0⟩,⟨1,0,3,fH m g0 e0 (e0.head) (8) (e0.zi),0⟩,⟨2,3,1,e0.next.map encI,0⟩] (rx:=.agg (il w 5)) (yF w sw w.ze rfl hp) (zc (zj (ownV 1)) (zc (zj (ownG 2 _)) (zc (zj (ownE 3 _ _)) rfl))) rfl rfl rfl rfl rfl uV rfl (dd ?_);refine zY [9,10,5,6,7,8] [⟨1,38,8,[zU w],0⟩,⟨1,95,44,[zE m],0⟩,⟨1,38,8,[iT],0⟩,⟨1,95,44,[iS],0⟩,⟨1,55,23,[zS qH],0⟩,⟨1,0,5,fM w m v0 (6),0⟩,⟨1,0,2,fK m v0 g0 (tk) (7),0⟩,⟨1,0,3,fH m g0 e0 (hd) (8) (ac),0⟩,⟨2,3,1,e0.next.map encI,0⟩,⟨1,38,8,[(il w 5)],0⟩,⟨1,95,44,[zE m'],0⟩] (rx:=Ce e) h (zc rfl (zc rfl (zc (zj (ownV 3)) (zc (zj (ownG 4 _)) (zc (zj (ownE 5 _ _)) rfl))))) tE rfl rfl rfl (zc rfl (zc rfl (zc rfl (zc rfl (zc rfl (zc (zj (ownV 6)) (zc (zj (ownG 7 _)) (zc (zj (ownE 8 _ _)) rfl)))))))) uV rfl (dd ?_);refine .inl ⟨⟨false,[0,1,2],[9,10,11],[]⟩,au,uH ?_⟩;refine hZ ?_
  refine⟨.inl rfl,_,(((zp.zV 7 m.end_.toNat 1 rfl ge rfl rfl (.inr rfl) aj aj (shut_map (enc:=encI) (λ_=>rfl) _) (ownE 8 _ _)).trans (zp.zV 6 m.zg.toNat 1 rfl gg rfl rfl (.inl rfl) aj aj eshE (ownG 7 _))).trans (zp.zV 5 m.version.toNat 3 rfl gv rfl rfl (.inl rfl) aj aj eshG (ownV 6))).trans (zp.zV 2 0 4 rfl rfl rfl rfl (.inl rfl) aj aj eshV (z6 rfl)),?_⟩;show _=some (C.fC [C.agg [I w.zr,I w.current,I w.lock,lI w.pins,C.fp 0 5 ((w.ze.set m.version.toNat (xq m v0 g0 e0 tk hd ac)).map zK),lL w.zd,ig w.counts,lR w.zu],Cm m',Ce e]);rw[<-estV,<-estG,<-estE]
  rfl
def Vi{w:Wor}{m m':fq}{e:fx}{v0:fB}{g0:Gr}{e0:En}{tk hd ac:Int}(sw:jf w)(ok:iC w)(hl:i64 m.listen)(hpc:m.pc=12)(hs:z7 w m=true)(hat:iz w m v0 g0 e0)(hne:e0.next≠[])
 (h:tn 193 [⟨1,38,8,[(il w 2)],0⟩,⟨1,95,44,[zE m],0⟩,⟨1,0,5,fM w m v0 (3),0⟩,⟨1,0,2,fK m v0 g0 (g0.zt) (4),0⟩,⟨1,0,3,fH m g0 e0 (e0.head) (5) (e0.zi),0⟩,⟨2,3,1,e0.next.map encI,0⟩] [.agg tj] (Ce e) [⟨1,38,8,[(il w 2)],0⟩,⟨1,95,44,[zE m'],0⟩,⟨1,0,5,fM w m v0 (3),0⟩,⟨1,0,2,fK m v0 g0 (tk) (4),0⟩,⟨1,0,3,fH m g0 e0 (hd) (5) (ac),0⟩,⟨2,3,1,e0.next.map encI,0⟩]):tn 126 [] [Cw w,Cm m] (.fC [Cw (na w m v0 g0 e0 tk hd ac),Cm m',Ce e]) []:=by
 have lv:=hat.ln.lv;have lg:=hat.ln.lg;have le:=hat.ln.le;have lq:=sw.ze.2 v0 (gA hat.at_);have hp:Br w.ze m.version.toNat v0 m.zg.toNat g0 m.end_.toNat e0:=⟨⟨⟨lq.2 g0 (gA hat.fR),hat.ia,hne⟩,lq,hat.fR⟩,sw.ze,hat.at_⟩;have ownV:∀i,∀r∈fM w m v0 (i),∀c∈r,zy c=true:=λi=>zB (enc:=zK) (λ_=>rfl) rfl _ _
 have ownG:∀i t,∀r∈fK m v0 g0 (t) (i),∀c∈r,zy c=true:=λi t=>zB (enc:=zF) (λ_=>rfl) rfl _ _
 have ownE:∀i a b,∀r∈fH m g0 e0 (a) (i) (b),∀c∈r,zy c=true:=λi a b=>zB (enc:=zx) (λ_=>rfl) rfl _ _
 have gv:(fM w m v0 (6))[m.version.toNat]?=some ((ql v0.snap++[C.sl (6) [] 2 0 v0.zm.length false,Bo v0.qt])):=gD tY;have gg:(fK m v0 g0 (tk) (7))[m.zg.toNat]?=some ([U (tk),C.sl (7) [] 3 0 g0.ends.length false]):=gD tS;have ge:(fH m g0 e0 (hd) (8) (ac))[m.end_.toNat]?=some ([U (hd),C.sl (8) [] 1 0 e0.next.length false,I (ac)]):=gD tN;have estE:((fH m g0 e0 (hd) (8) (ac)).set m.end_.toNat [U hd,C.fp 0 1 (e0.next.map encI),I ac])=(g0.ends.set m.end_.toNat (qA e0 hd ac)).map zx:=cT
 have estG:((fK m v0 g0 (tk) (7)).set m.zg.toNat [U tk,C.fp 0 3 (((g0.ends.set m.end_.toNat (qA e0 hd ac)).map zx))])=(v0.zm.set m.zg.toNat (yD m g0 e0 tk hd ac)).map zF:=cU
 have estV:((fM w m v0 (6)).set m.version.toNat (ql v0.snap++[C.fp 0 2 (((v0.zm.set m.zg.toNat (yD m g0 e0 tk hd ac)).map zF)),Bo v0.qt]))=(w.ze.set m.version.toNat (xq m v0 g0 e0 tk hd ac)).map zK:=cV
 have eshE:∀r∈((fH m g0 e0 (hd) (8) (ac)).set m.end_.toNat [U hd,C.fp 0 1 (e0.next.map encI),I ac]),∀c∈r,ju c=true/\zy c=true:=by
  exact dx
 have eshG:∀r∈((fK m v0 g0 (tk) (7)).set m.zg.toNat [U tk,C.fp 0 3 ((fH m g0 e0 (hd) (8) (ac)).set m.end_.toNat [U hd,C.fp 0 1 (e0.next.map encI),I ac])]),∀c∈r,ju c=true/\zy c=true:=by
  exact dq
 have eshV:∀r∈((fM w m v0 (6)).set m.version.toNat (ql v0.snap++[C.fp 0 2 ((fK m v0 g0 (tk) (7)).set m.zg.toNat [U tk,C.fp 0 3 ((fH m g0 e0 (hd) (8) (ac)).set m.end_.toNat [U hd,C.fp 0 1 (e0.next.map encI),I ac])]),Bo v0.qt])),∀c∈r,ju c=true/\zy c=true:=by
  exact dp
 by_cases hn:m.listen<0
 all_goals
  refine ab func126 ?_;(repeat (first|refine uA ?_|refine uB ?_))
  refine ah (zR w m ok hl) ?_;refine⟨λ_=>dd ?_,λh=>absurd ((hs).symm.trans h:true=false) ar⟩;refine tc ?_
  (repeat (first|refine uA ?_|refine uB ?_))
  refine .inl ⟨⟨true,[2],[1],[0]⟩,au,uH ?_⟩;refine ah jA ?_;refine hZ ?_
  (refine⟨aw,aw,pf 193,cR,dd ?_⟩)
  refine tc ?_
  refine zY [] [⟨1,38,8,[zU w],0⟩,⟨1,95,44,[zE m],0⟩,⟨1,38,8,[iT],0⟩,⟨1,95,44,[iS],0⟩,⟨1,55,23,[zS qH],0⟩,⟨1,0,5,fM w m v0 (6),0⟩,⟨1,0,2,fK m v0 g0 (g0.zt) (7),0⟩,⟨1,0,3,fH m g0 e0 (e0.head) (8) (e0.zi),0⟩,⟨2,3,1,e0.next.map encI,0⟩] (rx:=.agg (il w 5)) (yF w sw w.ze rfl hp) (zc (zj (ownV 1)) (zc (zj (ownG 2 _)) (zc (zj (ownE 3 _ _)) rfl))) rfl rfl rfl rfl rfl uV rfl (dd ?_);refine zY [9,10,5,6,7,8] [⟨1,38,8,[zU w],0⟩,⟨1,95,44,[zE m],0⟩,⟨1,38,8,[iT],0⟩,⟨1,95,44,[iS],0⟩,⟨1,55,23,[zS qH],0⟩,⟨1,0,5,fM w m v0 (6),0⟩,⟨1,0,2,fK m v0 g0 (tk) (7),0⟩,⟨1,0,3,fH m g0 e0 (hd) (8) (ac),0⟩,⟨2,3,1,e0.next.map encI,0⟩,⟨1,38,8,[(il w 5)],0⟩,⟨1,95,44,[zE m'],0⟩] (rx:=Ce e) h (zc rfl (zc rfl (zc (zj (ownV 3)) (zc (zj (ownG 4 _)) (zc (zj (ownE 5 _ _)) rfl))))) tE rfl rfl rfl (zc rfl (zc rfl (zc rfl (zc rfl (zc rfl (zc (zj (ownV 6)) (zc (zj (ownG 7 _)) (zc (zj (ownE 8 _ _)) rfl)))))))) uV rfl (dd ?_);refine .inl ⟨⟨false,[0,1,2],[9,10,11],[]⟩,au,uH ?_⟩;refine hZ ?_
  refine⟨.inl rfl,_,(((zp.zV 7 m.end_.toNat 1 rfl ge rfl rfl (.inr rfl) aj aj (shut_map (enc:=encI) (λ_=>rfl) _) (ownE 8 _ _)).trans (zp.zV 6 m.zg.toNat 1 rfl gg rfl rfl (.inl rfl) aj aj eshE (ownG 7 _))).trans (zp.zV 5 m.version.toNat 3 rfl gv rfl rfl (.inl rfl) aj aj eshG (ownV 6))).trans (zp.zV 2 0 4 rfl rfl rfl rfl (.inl rfl) aj aj eshV (z6 rfl)),?_⟩;show _=some (C.fC [C.agg [I w.zr,I w.current,I w.lock,lI w.pins,C.fp 0 5 ((w.ze.set m.version.toNat (xq m v0 g0 e0 tk hd ac)).map zK),lL w.zd,ig w.counts,lR w.zu],Cm m',Ce e]);rw[<-estV,<-estG,<-estE]
  rfl
end Go.Wor
