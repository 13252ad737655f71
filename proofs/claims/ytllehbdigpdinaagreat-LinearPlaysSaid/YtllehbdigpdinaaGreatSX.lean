import Derived.Test.YtllehbdigpdinaaGreatSW
import Derived.Test.YtllehbdigpdinaaGreatSV
set_option linter.all false
set_option maxRecDepth 100000
set_option maxHeartbeats 4000000
namespace Go.Wor
open Go.Ab Go.Proofs Tryz Go.Hy Go.Gat Go.Nam Go.Hos Go.Con Go.Sna
abbrev Cq(w:Wor)(m:eR):eR:={m with version:=w.current,zj:=0,end_:=0,other:=0,slot:=0,listen:=zx w.zd m.op.listen,pc:=4}
abbrev KA(e:eV):eV:={e with zI:=true}
def QQ(w:Wor)(m:eR)(hl:w.zd.length<4611686018427387904):
  tn 196 [oW w,oM m] [.agg tj] (Ce (KA (fx m 1 3 w.current))) [oW w,oM (if zx w.zd m.op.listen<0 then ny (Cq w m) 2 else Cq w m)]:=by
 refine aa func196 ?_;refine .inr ⟨⟨[0,2,5,6],[0,1,2],true⟩,au,λ_=>O,_,uH ?_,λt2 H2 h=>h⟩;refine⟨_,ai [1] (jt m 1 3 w.current),uH ?_⟩;(refine⟨uH ?_,trivial⟩);refine hZ ?_
 (refine⟨uH ?_,trivial⟩);refine hZ ?_
 (refine⟨_,_,.refl _,uH ?_⟩)
 refine .inl ⟨⟨true,[],[],[12]⟩,au,uH ?_⟩;refine ah (E4 w.zd m.op.listen hl) ?_;refine hZ ?_
 refine⟨λh1=>?_,λh1=>?_⟩
 ·have e1:zx w.zd m.op.listen<0:=by simpa using h1
  rw[gk e1];refine dd ?_;refine af [1] (vX (Cq w m) 2) ?_;exact cW
 ·have e1:¬zx w.zd m.op.listen<0:=by simpa using h1
  rw[gf e1];refine dd ?_;exact cW
def T0(w:Wor)(m:eR)(sw:q8 w)(ok:fY w)(hl:i64 m.listen)(hs:zY w m=true):
  tn 209 [oW w,oM m] [.agg tj] (Ce {EJ m with done:=true,answer:=m.answer}) [oW (oV w m.zf.toNat 0),oM ({m with done:=true})]:=by
 refine aa func209 ?_;refine .inr ⟨⟨[1,3,5,7,8],[0,1,2],true⟩,au,λ_=>O,λt H=>t=(.za::.ref 2 [] 2 0 0::.ref 3 [] 23 0 0::.ref 4 [] 8 0 0::.ref 5 [] 23 0 0::hU (hU (hU ([.za,.za,.za,.za]))))/\H=[oW w,oM m,⟨1,260,2,[tj],0⟩,oE qz,oW (oV w m.zf.toNat 0),oE (EJ m)],?_,?_⟩
 ·conv=>whnf
  refine⟨_,ai [] (VU w m sw ok hl hs),uH ?_⟩;repeat' (first|(exact trivial)|(refine⟨rfl,uH ?_⟩)|(exact⟨_,_,zn.fe [0,1,2,3,4,5] [1,2,3,4] _ _ O O O O,rfl,rfl⟩)|(exact⟨_,_,zn.fe [0,1,2,3,5,4] [1,2,3,4] _ _ O O O O,rfl,rfl⟩)|(refine And.intro ?_ ?_ <;> (conv=>whnf)))
 rintro _ _ ⟨rfl,rfl⟩;conv=>whnf
 refine .inr ⟨⟨[1,3],[2],true⟩,au,λ_=>O,λt H=>t=(.za::.ref 2 [] 2 0 0::.ref 3 [] 23 0 0::.za::.ref 5 [] 23 0 0::hU (hU (hU ([.za,.za,.za,.za]))))/\H=[oW (oV w m.zf.toNat 0),oM ({m with done:=true}),⟨1,260,2,[tj],0⟩,oE qz,oW (oV w m.zf.toNat 0),oE ({EJ m with done:=true,answer:=m.answer})],?_,?_⟩
 ·conv=>whnf
  repeat' (first|(exact trivial)|(refine⟨rfl,uH ?_⟩)|(exact⟨_,_,zn.mask [1,2,4] _ _,rfl,rfl⟩)|(refine And.intro ?_ ?_ <;> (conv=>whnf)))
 rintro _ _ ⟨rfl,rfl⟩;conv=>whnf
 exact cW
def yj(c:fF)(d:Int):Int:=((eU c)[(d%(eU c).length).toNat]?).getD 0
def xE(c:fF)(d0 d1:Int):Int×Int×Int:=if (eU c).length=0 then (0,0,5) else (yj c d0,yj c d1,0)
def Wd{d:Int}{n:Nat}(hd:i64 d)(hn:0<n)(hm:n<1000000000000):IntKind.i64.wrap (d.tmod n+n)=d.tmod n+n/\(d.tmod n+n).tmod n=d%n:=by
 have h1:=Int.tmod_lt_of_pos d (show(0:Int)<n by omega);have h2:=Int.lt_tmod_of_pos d (show(0:Int)<n by omega);refine⟨qb aw aw,?_⟩;rw[sD aw,Int.add_emod_right];rw[Int.tmod_def,Int.sub_mul_emod_self_left]
def NQ{c:fF}{d:Int}(hd:i64 d)(hn:0<(eU c).length)(hm:(eU c).length<1000000000000){n:Nat}(e:n=(eU c).length):
  0<=(IntKind.i64.wrap (d.tmod n+n)).tmod n/\((eU c).map encI)[((IntKind.i64.wrap (d.tmod n+n)).tmod n).toNat]?=some [I (yj c d)]:=by
 subst e;obtain⟨e1,e2⟩:=Wd hd hn hm;rw[e1,e2];have h0:(0:Int)<(eU c).length:=aw
 have h1:=sA d (show((eU c).length:Int)≠0 by omega);have h2:=sr d h0;refine⟨h1,?_⟩;have hi:(eU c)[(d%((eU c).length:Int)).toNat]?=some ((eU c)[(d%((eU c).length:Int)).toNat]'aw):=dZ _;unfold yj;rw[gj,hi]
 rfl
def Tq(c:fF)(d0 d1:Int)(h0:i64 d0)(h1:i64 d1)(hl:c.zJ.length<1000000000000)(hh:(eU c).length<=c.zJ.length):tn 254 [] [Cc c,I d0,I d1] (.fb [I (xE c d0 d1).1,I (xE c d0 d1).2.1,I (xE c d0 d1).2.2]) []:=by
 have ml:((eU c).map encI).length=(eU c).length:=gp ..;refine ab func254 ?_;refine ah (v7 c hl) ?_;rw[ml];refine⟨λhz=>?_,λhz=>?_⟩
 ·unfold xE;have hz:=gH hz;rw[gk aw];exact du
 ·unfold xE;have hz:=rk hz;rw[gf aw];refine dd ?_;have hw:(((eU c).length:Nat):Int)≠0:=by omega
  refine AK.Bc 3 (LoopN.step ?_);conv=>whnf
  refine tc ?_
  (refine⟨ar,ar,dd ?_⟩)
  split;(rotate_left;(rename_i hno;exact(hno _ (yg O O O hw)).elim));(rename_i v e;cases e.symm.trans (yg rfl rfl rfl hw));refine dd ?_
  split;(rotate_left;(rename_i hno;exact(hno _ (yg O O O hw)).elim));(rename_i v e;cases e.symm.trans (yg rfl rfl rfl hw));refine dd ?_
  obtain⟨p0,p1⟩:=NQ h0 (c:=c) aw aw O;refine⟨p0,_,p1,dd ?_⟩;(refine⟨ar,ar,dd ?_⟩)
  refine .inl ⟨rfl,LoopN.step (uH ?_)⟩;refine tc ?_
  (refine⟨ar,ar,dd ?_⟩)
  split;(rotate_left;(rename_i hno;exact(hno _ (yg O O O hw)).elim));(rename_i v e;cases e.symm.trans (yg rfl rfl rfl hw));refine dd ?_
  split;(rotate_left;(rename_i hno;exact(hno _ (yg O O O hw)).elim));(rename_i v e;cases e.symm.trans (yg rfl rfl rfl hw));refine dd ?_
  obtain⟨p2,p3⟩:=NQ h1 (c:=c) aw aw O;refine⟨p2,_,p3,dd ?_⟩;(refine⟨ar,ar,dd ?_⟩)
  refine .inl ⟨rfl,LoopN.step (uH ?_)⟩;refine tc ?_
  refine .inr ⟨aj,uH ?_⟩;refine uE ?_;(refine⟨ar,ar,dd ?_⟩)
  (refine⟨ar,ar,dd ?_⟩)
  exact uI
abbrev xk(m:eR)(v:fc):Int×Int:=jr v.snap m.op.listen m.op.host m.op.path
def xe(m:eR)(v:fc):eR:=if (xk m v).2≠0 then ny m 2 else match v.snap.zk[(xk m v).1.toNat]? with
 |none=>m
 |some c=>if (xE c m.op.d0 m.op.d1).2.2≠0 then ny {m with zj:=(xk m v).1} 3
  else if c.xL=1 then {m with zj:=(xk m v).1,pc:=6}
  else {m with zj:=(xk m v).1,end_:=(xE c m.op.d0 m.op.d1).1,other:=(xE c m.op.d0 m.op.d1).2.1,pc:=7}
structure GO(m:eR)(v:fc):Prop where
 small:Jd v.snap
 host:m.op.host.length<1000000000000000
 path:m.op.path.length<1000000000000000
 d0:i64 m.op.d0
 d1:i64 m.op.d1
 Ke:(xk m v).2=0->0<=(xk m v).1/\∃c,v.snap.zk[(xk m v).1.toNat]?=some c/\c.zJ.length<1000000000000
def O5(c:fF):(eU c).length<=c.zJ.length:=DS c.zJ c.zJ.length
def MR{m:eR}{v:fc}(h:(xk m v).2≠0):xe m v=ny m 2:=gk h
def LC{m:eR}{v:fc}{c:fF}(h:(xk m v).2=0)(hc:v.snap.zk[(xk m v).1.toNat]?=some c)(hd:(xE c m.op.d0 m.op.d1).2.2≠0):xe m v=ny {m with zj:=(xk m v).1} 3:=by
 unfold xe;rw[gf aw,hc];exact gk hd
def Mj{m:eR}{v:fc}{c:fF}(h:(xk m v).2=0)(hc:v.snap.zk[(xk m v).1.toNat]?=some c)(hd:(xE c m.op.d0 m.op.d1).2.2=0)(hp:c.xL=1):xe m v={m with zj:=(xk m v).1,pc:=6}:=by
 unfold xe;rw[gf aw,hc];exact(gf aw).trans (gk hp)
def Mk{m:eR}{v:fc}{c:fF}(h:(xk m v).2=0)(hc:v.snap.zk[(xk m v).1.toNat]?=some c)(hd:(xE c m.op.d0 m.op.d1).2.2=0)(hp:c.xL≠1):
  xe m v={m with zj:=(xk m v).1,end_:=(xE c m.op.d0 m.op.d1).1,other:=(xE c m.op.d0 m.op.d1).2.1,pc:=7}:=by
 unfold xe;rw[gf aw,hc];exact(gf aw).trans (gf hp)
def S6(w:Wor)(m:eR)(v:fc)(hv:oq w m v)(h:GO m v):tn 238 [oW w,oM m] [.agg tj] (.fb []) [oW w,oM (xe m v)]:=by
 have h0:=hv.v0;have hr:=hv.row;refine aa func238 ?_;refine uE ?_;(refine⟨h0,_,hr,dd ?_⟩)
 refine ah (Mf v.snap m.op.listen m.op.host m.op.path h.small h.host h.path) ?_;refine⟨λh1=>?_,λh1=>?_⟩
 ·have h2:(xk m v).2≠0:=by simpa using h1
  rw[MR h2];refine dd ?_;refine af [1] (vX m 2) ?_;exact cW
 ·have h2:(xk m v).2=0:=by simpa using h1
  obtain⟨g0,c,hc,hcl⟩:=h.Ke h2;refine dd ?_;refine .inr ⟨⟨[0,1,6,11,12],[0,1,2],true⟩,au,λ_=>O,_,uH ?_,λt2 H2 h=>h⟩;refine⟨_,ai [0,1] (kB w {m with zj:=(xk m v).1} v c ⟨hv.v0,hv.at_⟩ g0 hc),uH ?_⟩;refine⟨_,ai [] (Tq c m.op.d0 m.op.d1 h.d0 h.d1 hcl (O5 c)),uH ?_⟩;(refine⟨_,_,.refl _,uH ?_⟩)
  refine⟨λh3=>?_,λh3=>?_⟩
  ·have h4:(xE c m.op.d0 m.op.d1).2.2≠0:=by simpa using h3
   rw[LC h2 hc h4];refine dd ?_;refine af [1] (vX {m with zj:=(xk m v).1} 3) ?_;exact⟨.inr O,_,_,.refl _,rfl,cE 2⟩
  ·have h4:(xE c m.op.d0 m.op.d1).2.2=0:=by simpa using h3
   refine dd ?_;refine af [0,1] (kB w {m with zj:=(xk m v).1} v c ⟨hv.v0,hv.at_⟩ g0 hc) ?_;refine⟨λh5=>?_,λh5=>?_⟩
   ·have h6:c.xL=1:=by simpa using h5
    rw[Mj h2 hc h4 h6];refine dd ?_;exact⟨.inr O,_,_,.refl _,rfl,cE 2⟩
   ·have h6:c.xL≠1:=by simpa using h5
    rw[Mk h2 hc h4 h6];refine dd ?_;exact⟨.inr O,_,_,.refl _,rfl,cE 2⟩
def Rd(w:Wor)(m:eR)(v:fc)(hv:oq w m v)(h:GO m v){l:fq}(l0:0<=m.listen)(hl:w.zd[m.listen.toNat]?=some l):
  tn 198 [oW w,oM m] [.agg tj] (Ce (if l.drain then {fx m 1 4 1 with zI:=true} else fx m 1 4 0)) [oW w,oM (if l.drain then ny m 5 else xe m v)]:=by
 have lr:(w.zd.map qN)[m.listen.toNat]?=some (qN l):=by rw[gj,hl];rfl
 obtain⟨ln,ld,la,lc⟩:=l;cases ld
 all_goals
  refine aa func198 ?_;refine uE ?_;(refine⟨l0,_,lr,dd ?_⟩)
 ·(refine yb (dd ?_))
  refine af [0,1] (S6 w m v hv h) ?_
  have et:(xe m v).zf=m.zf:=by
   unfold xe;split
   ·rfl
   ·split
    ·rfl
    ·split
     ·rfl
     ·split <;> rfl
  have ee:fx m 1 4 0=fx (xe m v) 1 4 0:=by unfold fx;rw[et]
  have eg:(if ({name:=ln,drain:=false,zi:=la,closed:=lc}:fq).drain then {fx m 1 4 1 with zI:=true} else fx m 1 4 0)=fx (xe m v) 1 4 0:=ee;rw[eg];refine af [1] (jt (xe m v) 1 4 0) ?_;exact cW
 ·(refine ya (dd ?_))
  refine af [1] (jt m 1 4 1) ?_;refine af [1] (vX m 5) ?_;exact cW
def Rl(w:Wor)(m:eR)(v0:fc)(g0:Gr)(e0:En)(c:fF)(hv:m8 w m v0 g0)(hc:v0.snap.zk[m.zj.toNat]?=some c):tn 241 (hE w m m v0 g0 e0 g0.zt e0.head e0.zi []) [.agg tj] (Cc c) (hE w m m v0 g0 e0 g0.zt e0.head e0.zi []):=by
 have h0:=hv.pv;have g0':=hv.pg;have lv:m.version.toNat<w.ze.length:=hv.lv;have cr:(v0.snap.zk.map yE)[m.zj.toNat]?=some (yE c):=by rw[gj,hc];rfl
 have lowV:∀r∈ia w m v0 3,∀c∈r,jc 6 9 c=true:=zC (enc:=zN) (λ_=>O) O _ _;have lowG:∀r∈fX m v0 g0 g0.zt 4,∀c∈r,jc 6 9 c=true:=zC (enc:=zK) (λ_=>O) O _ _;have lowE:∀r∈fQ m g0 e0 e0.head 5 e0.zi,∀c∈r,jc 6 9 c=true:=zC (enc:=zD) (λ_=>O) O _ _;have e1:0+m.version.toNat=m.version.toNat:=gI _;have gv:(ia w m v0 3)[m.version.toNat]?=some ((qv v0.snap++[C.sl 3 [] 2 0 v0.zq.length false,Bo v0.qQ])):=gu (aq lv);refine aa func241 ?_;refine uE ?_;refine⟨h0,lv,dd ?_⟩;rw[e1];refine⟨_,gv,(by show 2+1<=5;decide),dd ?_⟩;refine⟨g0',_,cr,dd ?_⟩;exact cX
def HD(w:Wor)(m:eR)(v0:fc)(g0:Gr)(e0:En)(hv:m8 w m v0 g0)(x p a b c:Int):tn 242 (hE w ({m with end_:=x,pc:=p}) m v0 g0 e0 g0.zt e0.head e0.zi []) [.agg tj,I a,I b,I c] (Ce (ib m v0 a b c)) (hE w ({m with end_:=x,pc:=p}) m v0 g0 e0 g0.zt e0.head e0.zi []):=by
 have h0:=hv.pv;have lv:m.version.toNat<w.ze.length:=hv.lv;have e1:0+m.version.toNat=m.version.toNat:=gI _
 clear hv
 obtain⟨sn,gs,fr⟩:=v0;cases fr
 all_goals
  have ownV:∀b,∀r∈(w.ze.map zN).set m.version.toNat (qv sn++[C.sl 3 [] 2 0 gs.length false,Bo b]),∀c∈r,zB c=true:=λb=>zC (enc:=zN) (λ_=>O) O _ _
  have ownG:∀r∈(gs.map zK).set m.zj.toNat ([U g0.zt,C.sl 4 [] 3 0 g0.ends.length false]),∀c∈r,zB c=true:=zC (enc:=zK) (λ_=>O) O _ _;have ownE:∀r∈fQ m g0 e0 e0.head 5 e0.zi,∀c∈r,zB c=true:=zC (enc:=zD) (λ_=>O) O _ _;have lowV:∀b,∀r∈(w.ze.map zN).set m.version.toNat (qv sn++[C.sl 3 [] 2 0 gs.length false,Bo b]),∀c∈r,jc 6 9 c=true:=λb=>zC (enc:=zN) (λ_=>O) O _ _
  have gv:∀b,((w.ze.map zN).set m.version.toNat (qv sn++[C.sl 3 [] 2 0 gs.length false,Bo b]))[m.version.toNat]?=some (qv sn++[C.sl 3 [] 2 0 gs.length false,Bo b]):=λb=>gu (aq lv)
  have lowG:∀r∈(gs.map zK).set m.zj.toNat ([U g0.zt,C.sl 4 [] 3 0 g0.ends.length false]),∀c∈r,jc 6 9 c=true:=zC (enc:=zK) (λ_=>O) O _ _;have lowE:∀r∈fQ m g0 e0 e0.head 5 e0.zi,∀c∈r,jc 6 9 c=true:=zC (enc:=zD) (λ_=>O) O _ _;refine aa func242 ?_;refine zX [1] [⟨1,38,8,[(iL w 2)],0⟩,oM ({m with end_:=x,pc:=p}),⟨1,0,5,(w.ze.map zN).set m.version.toNat (qv sn++[C.sl 3 [] 2 0 gs.length false,Bo _]),0⟩,⟨1,0,2,(gs.map zK).set m.zj.toNat ([U g0.zt,C.sl 4 [] 3 0 g0.ends.length false]),0⟩,⟨1,0,3,fQ m g0 e0 e0.head 5 e0.zi,0⟩,⟨2,3,1,e0.next.map encI,0⟩,⟨1,260,2,[tj],0⟩,oE qz] (rx:=Ce (fx m a b c)) (jt {m with end_:=x,pc:=p} a b c) O O O O O (zc O (zc O (zc (zg (ownV _)) (zc (zg ownG) (zc (zg ownE) O))))) O O (dd ?_);refine .inl ⟨⟨false,[6,9,11,14,17],[0,1,2,6],[]⟩,au,uH ?_⟩;refine⟨h0,lv,dd ?_⟩;rw[e1];refine⟨_,gv _,(by show 4+1<=5;decide),dd ?_⟩
  first|((refine ya (dd ?_)))|((refine yb (dd ?_)))
  refine hZ ?_
  exact⟨.inl O,_,_,.refl _,rfl,zn.xw 6 hC O O O (zH O (zH O (zH (qh (lowV _)) (zH (qh lowG) (zH (qh lowE) O))))) O⟩
abbrev FM(m:eR)(c:fF)(t:Int):eR:={m with end_:=(w9 c t).1,pc:=9}
abbrev JY(g:Gr):Gr:={g with zt:=IntKind.u64.wrap (g.zt+1)}
def SB(w:Wor)(m:eR)(v0:fc)(g0:Gr)(e0:En)(c:fF)(hv:m8 w m v0 g0)(hc:v0.snap.zk[m.zj.toNat]?=some c)(ht:u64 g0.zt)(hl:c.zJ.length<1000000000000):
  tn 199 (hE w m m v0 g0 e0 g0.zt e0.head e0.zi []) [.agg tj] (Ce (ib m v0 3 6 (IntKind.i64.wrap g0.zt))) (hE w (FM m c g0.zt) m v0 g0 e0 (IntKind.u64.wrap (g0.zt+1)) e0.head e0.zi []):=by
 have lg:=hv.lg;have ownV:∀r∈ia w m v0 3,∀c∈r,zB c=true:=zC (enc:=zN) (λ_=>O) O _ _;have ownG:∀r∈fX m v0 g0 g0.zt 4,∀c∈r,zB c=true:=zC (enc:=zK) (λ_=>O) O _ _;have ownE:∀r∈fQ m g0 e0 e0.head 5 e0.zi,∀c∈r,zB c=true:=zC (enc:=zD) (λ_=>O) O _ _;have gg:(fX m v0 g0 g0.zt 4)[m.zj.toNat]?=some ([U g0.zt,C.sl 4 [] 3 0 g0.ends.length false]):=gu (aq lg);refine aa func199 ?_;refine FE [0,1,2,3,4,5] (hE w m m v0 g0 e0 g0.zt e0.head e0.zi [⟨1,260,2,[tj],0⟩,oE qz]) (rx:=.ref 3 [] 2 m.zj.toNat 0) (Hk w m v0 g0 e0 hv) (zc O (zc O (zc (zg ownV) (zc (zg ownG) (zc (zg ownE) O))))) uT O O O (zc O (zc O (zc (zg ownV) (zc (zg ownG) (zc (zg ownE) O))))) uU O (dd ?_);refine⟨_,gg,(by show 0+1<=2;decide),dd ?_⟩;refine FE [0,1,2,3,4,5] (hE w m m v0 g0 e0 g0.zt e0.head e0.zi [⟨1,260,2,[tj],0⟩,oE qz]) (rx:=.ref 3 [] 2 m.zj.toNat 0) (Hk w m v0 g0 e0 hv) (zc O (zc O (zc (zg ownV) (zc (zg ownG) (zc (zg ownE) O))))) uT O O O (zc O (zc O (zc (zg ownV) (zc (zg ownG) (zc (zg ownE) O))))) uU O (dd ?_);refine⟨_,gg,(by show 0+1<=2;decide),dd ?_⟩;refine⟨_,gg,rfl,dd ?_⟩;rw[g8];have ownG2:∀r∈fX m v0 g0 (IntKind.u64.wrap (g0.zt+1)) 4,∀c∈r,zB c=true:=zC (enc:=zK) (λ_=>O) O _ _;have lowV:∀r∈ia w m v0 3,∀c∈r,jc 6 9 c=true:=zC (enc:=zN) (λ_=>O) O _ _;have lowG:∀r∈fX m v0 g0 (IntKind.u64.wrap (g0.zt+1)) 4,∀c∈r,jc 6 9 c=true:=zC (enc:=zK) (λ_=>O) O _ _;have lowE:∀r∈fQ m g0 e0 e0.head 5 e0.zi,∀c∈r,jc 6 9 c=true:=zC (enc:=zD) (λ_=>O) O _ _;have hv2:m8 w m v0 (JY g0):=⟨hv.pv,hv.lv,hv.pg,hv.lg,hv.pe,hv.le⟩;refine .inl ⟨⟨true,[],[],[3,5]⟩,au,uH ?_⟩;refine zX [0,1,2,3,4,5] (hE w m m v0 g0 e0 (IntKind.u64.wrap (g0.zt+1)) e0.head e0.zi [⟨1,260,2,[tj],0⟩,oE qz]) (rx:=Cc c) (Rl w m v0 (JY g0) e0 c hv2 hc) (zc O (zc O (zc (zg ownV) (zc (zg ownG2) (zc (zg ownE) O))))) uT O O O (zc O (zc O (zc (zg ownV) (zc (zg ownG2) (zc (zg ownE) O))))) uU O (dd ?_);refine zX [] (hE w m m v0 g0 e0 (IntKind.u64.wrap (g0.zt+1)) e0.head e0.zi [⟨1,260,2,[tj],0⟩,oE qz]) (rx:=.fb [I (w9 c g0.zt).1,I (w9 c g0.zt).2]) (UZ c g0.zt ht hl (O5 c)) O O O O O (zc O (zc O (zc (zg ownV) (zc (zg ownG2) (zc (zg ownE) O))))) O O (dd ?_);refine zX [0,1,2,3,4,5] (hE w (FM m c g0.zt) m v0 g0 e0 (IntKind.u64.wrap (g0.zt+1)) e0.head e0.zi [⟨1,260,2,[tj],0⟩,oE qz]) (rx:=Ce (ib m v0 3 6 (IntKind.i64.wrap g0.zt))) (HD w m v0 (JY g0) e0 hv2 (w9 c g0.zt).1 9 3 6 (IntKind.i64.wrap g0.zt)) (zc O (zc O (zc (zg ownV) (zc (zg ownG2) (zc (zg ownE) O))))) uT O O O (zc O (zc O (zc (zg ownV) (zc (zg ownG2) (zc (zg ownE) O))))) uU O (dd ?_);exact cX
def Ra(w:Wor)(m:eR)(v0:fc)(g0:Gr)(e0:En)(hv:m8 w m v0 g0)(hw:u64 m.word)(l0: -1<=m.link)(l1:m.link<=2147483646)(hh:u64 e0.head)(hne:e0.head≠m.word):
  tn 204 (hE w m m v0 g0 e0 g0.zt e0.head e0.zi []) [.agg tj] (Ce (ib m v0 5 8 (e0.head%4294967296-1))) (hE w ({m with pc:=9}) m v0 g0 e0 g0.zt e0.head e0.zi []):=by
 (have le:=hv.le);(have ownV:∀r∈ia w m v0 3,∀c∈r,zB c=true:=zC (enc:=zN) (λ_=>O) O _ _);(have ownG:∀r∈fX m v0 g0 g0.zt 4,∀c∈r,zB c=true:=zC (enc:=zK) (λ_=>O) O _ _);(have ownE:∀r∈fQ m g0 e0 e0.head 5 e0.zi,∀c∈r,zB c=true:=zC (enc:=zD) (λ_=>O) O _ _);(have lowV:∀r∈ia w m v0 3,∀c∈r,jc 6 9 c=true:=zC (enc:=zN) (λ_=>O) O _ _);(have lowG:∀r∈fX m v0 g0 g0.zt 4,∀c∈r,jc 6 9 c=true:=zC (enc:=zK) (λ_=>O) O _ _)
 have lowE:∀r∈fQ m g0 e0 e0.head 5 e0.zi,∀c∈r,jc 6 9 c=true:=zC (enc:=zD) (λ_=>O) O _ _;have ge:(fQ m g0 e0 e0.head 5 e0.zi)[m.end_.toNat]?=some ([U e0.head,C.sl 5 [] 1 0 e0.next.length false,I e0.zi]):=gu (aq le);have hv2:m8 w {m with pc:=9} v0 g0:=⟨hv.pv,hv.lv,hv.pg,hv.lg,hv.pe,hv.le⟩;refine aa func204 ?_;refine .inl ⟨⟨true,[],[],[8]⟩,au,uH ?_⟩;refine zX [] (hE w m m v0 g0 e0 g0.zt e0.head e0.zi [⟨1,260,2,[tj],0⟩,oE qz]) (rx:=.fb [U (Slp.jb m.word m.link),I 0]) (Slp.HB m.word m.link hw l0 l1) O O O O O (zc O (zc O (zc (zg ownV) (zc (zg ownG) (zc (zg ownE) O))))) O O (dd ?_);refine .inl ⟨⟨true,[],[],[1]⟩,au,uH ?_⟩;refine zX [0,1,2,3,4,5] (hE w m m v0 g0 e0 g0.zt e0.head e0.zi [⟨1,260,2,[tj],0⟩,oE qz]) (rx:=.ref 4 [] 3 m.end_.toNat 0) (vV w m v0 g0 e0 hv) (zc O (zc O (zc (zg ownV) (zc (zg ownG) (zc (zg ownE) O))))) uT O O O (zc O (zc O (zc (zg ownV) (zc (zg ownG) (zc (zg ownE) O))))) uU O (dd ?_);refine⟨_,ge,cT,dd ?_⟩;refine⟨λ_=>dd ?_,λh=>absurd h (aq hne)⟩;refine .inl ⟨⟨true,[],[],[2,6,7]⟩,au,uH ?_⟩;refine zX [0,1,2,3,4,5] (hE w ({m with pc:=9}) m v0 g0 e0 g0.zt e0.head e0.zi [⟨1,260,2,[tj],0⟩,oE qz]) (rx:=.ref 4 [] 3 m.end_.toNat 0) (vV w _ v0 g0 e0 hv2) (zc O (zc O (zc (zg ownV) (zc (zg ownG) (zc (zg ownE) O))))) uT O O O (zc O (zc O (zc (zg ownV) (zc (zg ownG) (zc (zg ownE) O))))) uU O (dd ?_);refine⟨_,ge,cT,dd ?_⟩;refine zX [] (hE w ({m with pc:=9}) m v0 g0 e0 g0.zt e0.head e0.zi [⟨1,260,2,[tj],0⟩,oE qz]) (rx:=I (e0.head%4294967296-1)) (Slp.qI e0.head hh) O O O O O (zc O (zc O (zc (zg ownV) (zc (zg ownG) (zc (zg ownE) O))))) O O (dd ?_);refine zX [0,1,2,3,4,5] (hE w ({m with pc:=9}) m v0 g0 e0 g0.zt e0.head e0.zi [⟨1,260,2,[tj],0⟩,oE qz]) (rx:=Ce (ib m v0 5 8 (e0.head%4294967296-1))) (HD w m v0 g0 e0 hv m.end_ 9 5 8 (e0.head%4294967296-1)) (zc O (zc O (zc (zg ownV) (zc (zg ownG) (zc (zg ownE) O))))) uT O O O (zc O (zc O (zc (zg ownV) (zc (zg ownG) (zc (zg ownE) O))))) uU O (dd ?_);exact cX
def QY(w:Wor)(m:eR)(v0:fc)(g0:Gr)(e0:En)(hv:m8 w m v0 g0)(hw:u64 m.word)(l0: -1<=m.link)(l1:m.link<=2147483646)(hne:e0.head=m.word):
  tn 204 (hE w m m v0 g0 e0 g0.zt e0.head e0.zi []) [.agg tj] (Ce (ib m v0 4 8 m.slot)) (hE w ({m with pc:=12}) m v0 g0 e0 g0.zt (Slp.jb m.word m.link) e0.zi []):=by
 (have le:=hv.le);(have ownV:∀r∈ia w m v0 3,∀c∈r,zB c=true:=zC (enc:=zN) (λ_=>O) O _ _);(have ownG:∀r∈fX m v0 g0 g0.zt 4,∀c∈r,zB c=true:=zC (enc:=zK) (λ_=>O) O _ _);(have ownE:∀r∈fQ m g0 e0 e0.head 5 e0.zi,∀c∈r,zB c=true:=zC (enc:=zD) (λ_=>O) O _ _);(have lowV:∀r∈ia w m v0 3,∀c∈r,jc 6 9 c=true:=zC (enc:=zN) (λ_=>O) O _ _);(have lowG:∀r∈fX m v0 g0 g0.zt 4,∀c∈r,jc 6 9 c=true:=zC (enc:=zK) (λ_=>O) O _ _)
 have lowE:∀r∈fQ m g0 e0 (Slp.jb m.word m.link) 5 e0.zi,∀c∈r,jc 6 9 c=true:=zC (enc:=zD) (λ_=>O) O _ _;have ownE2:∀r∈fQ m g0 e0 (Slp.jb m.word m.link) 5 e0.zi,∀c∈r,zB c=true:=zC (enc:=zD) (λ_=>O) O _ _;have ge:(fQ m g0 e0 e0.head 5 e0.zi)[m.end_.toNat]?=some ([U e0.head,C.sl 5 [] 1 0 e0.next.length false,I e0.zi]):=gu (aq le);refine aa func204 ?_;refine .inl ⟨⟨true,[],[],[8]⟩,au,uH ?_⟩;refine zX [] (hE w m m v0 g0 e0 g0.zt e0.head e0.zi [⟨1,260,2,[tj],0⟩,oE qz]) (rx:=.fb [U (Slp.jb m.word m.link),I 0]) (Slp.HB m.word m.link hw l0 l1) O O O O O (zc O (zc O (zc (zg ownV) (zc (zg ownG) (zc (zg ownE) O))))) O O (dd ?_);refine .inl ⟨⟨true,[],[],[1]⟩,au,uH ?_⟩;refine zX [0,1,2,3,4,5] (hE w m m v0 g0 e0 g0.zt e0.head e0.zi [⟨1,260,2,[tj],0⟩,oE qz]) (rx:=.ref 4 [] 3 m.end_.toNat 0) (vV w m v0 g0 e0 hv) (zc O (zc O (zc (zg ownV) (zc (zg ownG) (zc (zg ownE) O))))) uT O O O (zc O (zc O (zc (zg ownV) (zc (zg ownG) (zc (zg ownE) O))))) uU O (dd ?_);refine⟨_,ge,cT,dd ?_⟩;refine⟨λh=>absurd h (by simp[hne]),λ_=>dd ?_⟩;refine tc ?_
 refine FE [0,1,2,3,4,5] (hE w m m v0 g0 e0 g0.zt e0.head e0.zi [⟨1,260,2,[tj],0⟩,oE qz]) (rx:=.ref 4 [] 3 m.end_.toNat 0) (vV w m v0 g0 e0 hv) (zc O (zc O (zc (zg ownV) (zc (zg ownG) (zc (zg ownE) O))))) uT O O O (zc O (zc O (zc (zg ownV) (zc (zg ownG) (zc (zg ownE) O))))) uU O (dd ?_);refine⟨_,ge,rfl,dd ?_⟩;rw[g8];refine dd ?_;refine .inl ⟨⟨true,[],[],[5]⟩,au,uH ?_⟩;refine zX [0,1,2,3,4,5] (hE w ({m with pc:=12}) m v0 g0 e0 g0.zt (Slp.jb m.word m.link) e0.zi [⟨1,260,2,[tj],0⟩,oE qz]) (rx:=Ce (ib m v0 4 8 m.slot)) (HD w m v0 g0 {e0 with head:=Slp.jb m.word m.link} hv m.end_ 12 4 8 m.slot) (zc O (zc O (zc (zg ownV) (zc (zg ownG) (zc (zg ownE2) O))))) uT O O O (zc O (zc O (zc (zg ownV) (zc (zg ownG) (zc (zg ownE2) O))))) uU O (dd ?_);exact cX
end Go.Wor
namespace Go.Wor
open Go.Ab Go.Proofs Tryz Go.Hy
abbrev nf:C:=.v .nilFunc
abbrev pf(f:FuncId):C:=.fn f [] []
abbrev zza:List C:=[nf,nf,nf,pf 196,pf 197,pf 198,pf 199,pf 200,pf 201,pf 202,pf 203,pf 204,pf 205,nf,nf,nf,nf,nf,nf,nf,pf 206,pf 207,pf 208,pf 209]
def jw:tn 161 [] [] (.agg zza) []:=by
 refine ab func161 ?_;exact uI
end Go.Wor
namespace Go.Wor
open Go.Ab Go.Proofs Tryz Go.Hy Go.Gat Go.Nam Go.Hos Go.Con Go.Sna
def Yf{w w':Wor}{m m':eR}{e:eV}(sw:q8 w)(ok:fY w)(hl:i64 m.listen)(hpc:m.pc=3)(hs:zY w m=true)(h:tn 196 [oW w,oM m] [.agg tj] (Ce e) [oW w',oM m']):tn 133 [] [Cw w,Cm m] (.fb [Cw w',Cm m',Ce e]) []:=by
 by_cases hn:m.listen<0
 all_goals
  refine ab func133 ?_;(repeat (first|refine uA ?_|refine uB ?_))
  refine ah (zO w m ok hl) ?_;refine⟨λ_=>dd ?_,λh=>absurd ((hs).symm.trans h:true=false) ar⟩;refine tc ?_
  (repeat (first|refine uA ?_|refine uB ?_))
  refine .inl ⟨⟨true,[2],[1],[0]⟩,au,uH ?_⟩;refine ah jw ?_;refine hZ ?_
  (refine⟨aw,aw,pf 196,cU,dd ?_⟩)
  refine tc ?_
  refine ah (qw w sw) ?_;refine af [5,6] (h) ?_;refine .inl ⟨⟨false,[0,1,2],[5,6,7],[]⟩,au,uH ?_⟩;refine hZ ?_
  exact uI
def XD{w w':Wor}{m m':eR}{e:eV}(sw:q8 w)(ok:fY w)(hl:i64 m.listen)(hpc:m.pc=5)(hs:zY w m=true)(hli:0<=m.listen)(h:tn 198 [oW w,oM m] [.agg tj] (Ce e) [oW w',oM m']):tn 133 [] [Cw w,Cm m] (.fb [Cw w',Cm m',Ce e]) []:=by
 have hn:¬m.listen<0:=aw
 all_goals
  refine ab func133 ?_;(repeat (first|refine uA ?_|refine uB ?_))
  refine ah (zO w m ok hl) ?_;refine⟨λ_=>dd ?_,λh=>absurd ((hs).symm.trans h:true=false) ar⟩;refine tc ?_
  (repeat (first|refine uA ?_|refine uB ?_))
  refine .inl ⟨⟨true,[2],[1],[0]⟩,au,uH ?_⟩;refine ah jw ?_;refine hZ ?_
  (refine⟨aw,aw,pf 198,cU,dd ?_⟩)
  refine tc ?_
  refine ah (qw w sw) ?_;refine af [5,6] (h) ?_;refine .inl ⟨⟨false,[0,1,2],[5,6,7],[]⟩,au,uH ?_⟩;refine hZ ?_
  exact uI
def XF{w w':Wor}{m m':eR}{e:eV}(sw:q8 w)(ok:fY w)(hl:i64 m.listen)(hpc:m.pc=7)(hs:zY w m=true)(h:tn 200 [oW w,oM m] [.agg tj] (Ce e) [oW w',oM m']):tn 133 [] [Cw w,Cm m] (.fb [Cw w',Cm m',Ce e]) []:=by
 by_cases hn:m.listen<0
 all_goals
  refine ab func133 ?_;(repeat (first|refine uA ?_|refine uB ?_))
  refine ah (zO w m ok hl) ?_;refine⟨λ_=>dd ?_,λh=>absurd ((hs).symm.trans h:true=false) ar⟩;refine tc ?_
  (repeat (first|refine uA ?_|refine uB ?_))
  refine .inl ⟨⟨true,[2],[1],[0]⟩,au,uH ?_⟩;refine ah jw ?_;refine hZ ?_
  (refine⟨aw,aw,pf 200,cU,dd ?_⟩)
  refine tc ?_
  refine ah (qw w sw) ?_;refine af [5,6] (h) ?_;refine .inl ⟨⟨false,[0,1,2],[5,6,7],[]⟩,au,uH ?_⟩;refine hZ ?_
  exact uI
def XG{w w':Wor}{m m':eR}{e:eV}(sw:q8 w)(ok:fY w)(hl:i64 m.listen)(hpc:m.pc=8)(hs:zY w m=true)(h:tn 201 [oW w,oM m] [.agg tj] (Ce e) [oW w',oM m']):tn 133 [] [Cw w,Cm m] (.fb [Cw w',Cm m',Ce e]) []:=by
 by_cases hn:m.listen<0
 all_goals
  refine ab func133 ?_;(repeat (first|refine uA ?_|refine uB ?_))
  refine ah (zO w m ok hl) ?_;refine⟨λ_=>dd ?_,λh=>absurd ((hs).symm.trans h:true=false) ar⟩;refine tc ?_
  (repeat (first|refine uA ?_|refine uB ?_))
  refine .inl ⟨⟨true,[2],[1],[0]⟩,au,uH ?_⟩;refine ah jw ?_;refine hZ ?_
  (refine⟨aw,aw,pf 201,cU,dd ?_⟩)
  refine tc ?_
  refine ah (qw w sw) ?_;refine af [5,6] (h) ?_;refine .inl ⟨⟨false,[0,1,2],[5,6,7],[]⟩,au,uH ?_⟩;refine hZ ?_
  exact uI
def N1{w w':Wor}{m m':eR}{e:eV}(sw:q8 w)(ok:fY w)(hl:i64 m.listen)(hpc:m.pc=9)(hs:zY w m=true)(h:tn 202 [oW w,oM m] [.agg tj] (Ce e) [oW w',oM m']):tn 133 [] [Cw w,Cm m] (.fb [Cw w',Cm m',Ce e]) []:=by
 by_cases hn:m.listen<0
 all_goals
  refine ab func133 ?_;(repeat (first|refine uA ?_|refine uB ?_))
  refine ah (zO w m ok hl) ?_;refine⟨λ_=>dd ?_,λh=>absurd ((hs).symm.trans h:true=false) ar⟩;refine tc ?_
  (repeat (first|refine uA ?_|refine uB ?_))
  refine .inl ⟨⟨true,[2],[1],[0]⟩,au,uH ?_⟩;refine ah jw ?_;refine hZ ?_
  (refine⟨aw,aw,pf 202,cU,dd ?_⟩)
  refine tc ?_
  refine ah (qw w sw) ?_;refine af [5,6] (h) ?_;refine .inl ⟨⟨false,[0,1,2],[5,6,7],[]⟩,au,uH ?_⟩;refine hZ ?_
  exact uI
def WD{w w':Wor}{m m':eR}{e:eV}(sw:q8 w)(ok:fY w)(hl:i64 m.listen)(hpc:m.pc=10)(hs:zY w m=true)(h:tn 203 [oW w,oM m] [.agg tj] (Ce e) [oW w',oM m']):tn 133 [] [Cw w,Cm m] (.fb [Cw w',Cm m',Ce e]) []:=by
 by_cases hn:m.listen<0
 all_goals
  refine ab func133 ?_;(repeat (first|refine uA ?_|refine uB ?_))
  refine ah (zO w m ok hl) ?_;refine⟨λ_=>dd ?_,λh=>absurd ((hs).symm.trans h:true=false) ar⟩;refine tc ?_
  (repeat (first|refine uA ?_|refine uB ?_))
  refine .inl ⟨⟨true,[2],[1],[0]⟩,au,uH ?_⟩;refine ah jw ?_;refine hZ ?_
  (refine⟨aw,aw,pf 203,cU,dd ?_⟩)
  refine tc ?_
  refine ah (qw w sw) ?_;refine af [5,6] (h) ?_;refine .inl ⟨⟨false,[0,1,2],[5,6,7],[]⟩,au,uH ?_⟩;refine hZ ?_
  exact uI
def WJ{w w':Wor}{m m':eR}{e:eV}(sw:q8 w)(ok:fY w)(hl:i64 m.listen)(hpc:m.pc=23)(hs:zY w m=true)(h:tn 209 [oW w,oM m] [.agg tj] (Ce e) [oW w',oM m']):tn 133 [] [Cw w,Cm m] (.fb [Cw w',Cm m',Ce e]) []:=by
 by_cases hn:m.listen<0
 all_goals
  refine ab func133 ?_;(repeat (first|refine uA ?_|refine uB ?_))
  refine ah (zO w m ok hl) ?_;refine⟨λ_=>dd ?_,λh=>absurd ((hs).symm.trans h:true=false) ar⟩;refine tc ?_
  (repeat (first|refine uA ?_|refine uB ?_))
  refine .inl ⟨⟨true,[2],[1],[0]⟩,au,uH ?_⟩;refine ah jw ?_;refine hZ ?_
  (refine⟨aw,aw,pf 209,cU,dd ?_⟩)
  refine tc ?_
  refine ah (qw w sw) ?_;refine af [5,6] (h) ?_;refine .inl ⟨⟨false,[0,1,2],[5,6,7],[]⟩,au,uH ?_⟩;refine hZ ?_
  exact uI
def Hw{w w':Wor}{m m':eR}{e:eV}(h0:0<=m.pc)(h3:m.pc<3)(h:tn 159 [] [Cw w,Cm m] (.fb [Cw w',Cm m',Ce e]) []):tn 133 [] [Cw w,Cm m] (.fb [Cw w',Cm m',Ce e]) []:=by
 refine ab func133 ?_;refine⟨λ_=>dd ?_,λh=>absurd h aA⟩;refine⟨λ_=>dd ?_,λh=>absurd h aA⟩;refine ah h ?_;exact uI
def XB{w:Wor}{m m':eR}{e:eV}{ls:List fq}(sw:q8 w)(ok:fY w)(hl:i64 m.listen)(hpc:m.pc=4)(hs:zY w m=true)(hli:0<=m.listen)(hll:ls.length=w.zd.length)(h:tn 197 [⟨1,38,8,[[I w.zo,I w.current,I w.lock,lI w.pins,lV w.ze,.sl 2 [] 4 0 w.zd.length false,fK w.counts,lR w.zr]],0⟩,oM m,⟨2,144,4,(w.zd).map qN,0⟩] [.agg tj] (Ce e) [⟨1,38,8,[[I w.zo,I w.current,I w.lock,lI w.pins,lV w.ze,.sl 2 [] 4 0 w.zd.length false,fK w.counts,lR w.zr]],0⟩,oM m',⟨2,144,4,(ls).map qN,0⟩]):tn 133 [] [Cw w,Cm m] (.fb [Cw {w with zd:=ls},Cm m',Ce e]) []:=by
 have hn:¬m.listen<0:=aw
 obtain⟨x,l,hx⟩:∃x l,w.zd=x::l:=by
  obtain⟨v,g,e,su⟩:=ku hs;cases h:w.zd with
  |nil=>have:=su.listen;rw[h]at this;exact de
  |cons x l=>exact⟨x,l,rfl⟩
 refine ab func133 ?_;(repeat (first|refine uA ?_|refine uB ?_))
 refine ah (zO w m ok hl) ?_;refine⟨λ_=>dd ?_,λh=>absurd ((hs).symm.trans h:true=false) ar⟩;refine tc ?_
 (repeat (first|refine uA ?_|refine uB ?_))
 refine .inl ⟨⟨true,[2],[1],[0]⟩,au,uH ?_⟩;refine ah jw ?_;refine hZ ?_
 (refine⟨aw,aw,pf 197,cU,dd ?_⟩)
 refine tc ?_
 refine af [] (vx w sw x l hx) ?_;refine af [6,7,5] (h) ?_;refine .inl ⟨⟨false,[0,1,2],[6,7,8],[]⟩,au,uH ?_⟩;refine hZ ?_
 exact dJ
def WI{w:Wor}{m m':eR}{e:eV}{ls:List fq}(sw:q8 w)(ok:fY w)(hl:i64 m.listen)(hpc:m.pc=22)(hs:zY w m=true)(hli:0<=m.listen)(hll:ls.length=w.zd.length)(h:tn 208 [⟨1,38,8,[[I w.zo,I w.current,I w.lock,lI w.pins,lV w.ze,.sl 2 [] 4 0 w.zd.length false,fK w.counts,lR w.zr]],0⟩,oM m,⟨2,144,4,(w.zd).map qN,0⟩] [.agg tj] (Ce e) [⟨1,38,8,[[I w.zo,I w.current,I w.lock,lI w.pins,lV w.ze,.sl 2 [] 4 0 w.zd.length false,fK w.counts,lR w.zr]],0⟩,oM m',⟨2,144,4,(ls).map qN,0⟩]):tn 133 [] [Cw w,Cm m] (.fb [Cw {w with zd:=ls},Cm m',Ce e]) []:=by
 have hn:¬m.listen<0:=aw
 obtain⟨x,l,hx⟩:∃x l,w.zd=x::l:=by
  obtain⟨v,g,e,su⟩:=ku hs;cases h:w.zd with
  |nil=>have:=su.listen;rw[h]at this;exact de
  |cons x l=>exact⟨x,l,rfl⟩
 refine ab func133 ?_;(repeat (first|refine uA ?_|refine uB ?_))
 refine ah (zO w m ok hl) ?_;refine⟨λ_=>dd ?_,λh=>absurd ((hs).symm.trans h:true=false) ar⟩;refine tc ?_
 (repeat (first|refine uA ?_|refine uB ?_))
 refine .inl ⟨⟨true,[2],[1],[0]⟩,au,uH ?_⟩;refine ah jw ?_;refine hZ ?_
 (refine⟨aw,aw,pf 208,cU,dd ?_⟩)
 refine tc ?_
 refine af [] (vx w sw x l hx) ?_;refine af [6,7,5] (h) ?_;refine .inl ⟨⟨false,[0,1,2],[6,7,8],[]⟩,au,uH ?_⟩;refine hZ ?_
 exact dJ
def WG{w:Wor}{m m':eR}{e:eV}{r0 r1:List Int}(sw:q8 w)(ok:fY w)(hl:i64 m.listen)(hpc:m.pc=20)(hs:zY w m=true)(t0:0<=m.zf)(hr:w.counts[m.zf.toNat]?=some r0)(hne:r0≠[])(hll:r1.length=r0.length)
 (h:tn 206 [⟨1,38,8,[[I w.zo,I w.current,I w.lock,lI w.pins,lV w.ze,lL w.zd,.sl 2 [] 1 0 w.counts.length false,lR w.zr]],0⟩,oM m,⟨1,0,1,(w.counts.map zP).set m.zf.toNat [C.sl (3) [] 1 0 r0.length false],0⟩,⟨2,63,1,(r0).map jS,0⟩] [.agg tj] (Ce e) [⟨1,38,8,[[I w.zo,I w.current,I w.lock,lI w.pins,lV w.ze,lL w.zd,.sl 2 [] 1 0 w.counts.length false,lR w.zr]],0⟩,oM m',⟨1,0,1,(w.counts.map zP).set m.zf.toNat [C.sl (3) [] 1 0 r0.length false],0⟩,⟨2,63,1,(r1).map jS,0⟩]):tn 133 [] [Cw w,Cm m] (.fb [Cw {w with counts:=w.counts.set m.zf.toNat r1},Cm m',Ce e]) []:=by
 have ml:((w.counts.map zP)).length=w.counts.length:=gp ..;have ml1:(r1.map jS).length=r1.length:=gp ..;have eU:m.zf.toNat<w.counts.length:=(dY.1 hr).1;have own:∀i,∀r∈(w.counts.map zP).set m.zf.toNat ([C.sl i [] 1 0 r0.length false]),∀c∈r,zB c=true:=λi=>zC (enc:=zP) (λ_=>O) O _ _
 have gt:((w.counts.map zP).set m.zf.toNat ([C.sl 6 [] 1 0 r0.length false]))[m.zf.toNat]?=some ([C.sl 6 [] 1 0 r0.length false]):=gu (aq eU);have est:(((w.counts.map zP).set m.zf.toNat ([C.sl 6 [] 1 0 r0.length false])).set m.zf.toNat [.eS 0 1 (r1.map jS)])=(w.counts.set m.zf.toNat r1).map zP:=by rw[g8,p9];rfl
 have esh:∀r∈(((w.counts.map zP).set m.zf.toNat ([C.sl 6 [] 1 0 r0.length false])).set m.zf.toNat [.eS 0 1 (r1.map jS)]),∀c∈r,xm c=true/\zB c=true:=by
  rw[est];exact shut_map (enc:=zP) (λ_=>O) _
 have hp:Gh w.counts m.zf.toNat r0:=⟨sw.counts,hr,hne⟩;by_cases hn:m.listen<0
 all_goals
  refine ab func133 ?_;(repeat (first|refine uA ?_|refine uB ?_))
  refine ah (zO w m ok hl) ?_;refine⟨λ_=>dd ?_,λh=>absurd ((hs).symm.trans h:true=false) ar⟩;refine tc ?_
  (repeat (first|refine uA ?_|refine uB ?_))
  refine .inl ⟨⟨true,[2],[1],[0]⟩,au,uH ?_⟩;refine ah jw ?_;refine hZ ?_
  (refine⟨aw,aw,pf 206,cU,dd ?_⟩)
  refine tc ?_
  refine zX [] [oW w,oM m,⟨1,38,8,[iG],0⟩,⟨1,68,44,[iF],0⟩,oE qz,⟨1,0,1,(w.counts.map zP).set m.zf.toNat [C.sl (6) [] 1 0 r0.length false],0⟩,⟨2,63,1,(r0).map jS,0⟩] (rx:=.agg [I w.zo,I w.current,I w.lock,lI w.pins,lV w.ze,lL w.zd,.sl 5 [] 1 0 w.counts.length false,lR w.zr]) (K5 w sw w.counts O hp) (zc (zg (own 1)) O) O O O O O tL O (dd ?_);refine zX [7,8,5,6] [oW w,oM m,⟨1,38,8,[iG],0⟩,⟨1,68,44,[iF],0⟩,oE qz,⟨1,0,1,(w.counts.map zP).set m.zf.toNat [C.sl (6) [] 1 0 r0.length false],0⟩,⟨2,63,1,(r1).map jS,0⟩,⟨1,38,8,[[I w.zo,I w.current,I w.lock,lI w.pins,lV w.ze,lL w.zd,.sl 5 [] 1 0 w.counts.length false,lR w.zr]],0⟩,oM m'] (rx:=Ce e) h (zc O (zc O (zc (zg (own 3)) O))) cV O O O (zc O (zc O (zc O (zc O (zc O (zc (zg (own 6)) O)))))) tL O (dd ?_);refine .inl ⟨⟨false,[0,1,2],[7,8,9],[]⟩,au,uH ?_⟩;refine hZ ?_
  refine⟨.inl O,_,(zn.zS 5 m.zf.toNat 0 O gt O O (.inr O) aj (by rw[ml1,hll]) (shut_map (enc:=jS) (λ_=>O) _) (own 6)).trans (zn.zS 2 0 6 O O O O (.inl O) aj aj esh (z5 O)),?_⟩;show _=some (C.fb [C.agg [I w.zo,I w.current,I w.lock,lI w.pins,lV w.ze,lL w.zd,C.eS 0 1 ((w.counts.set m.zf.toNat r1).map zP),lR w.zr],Cm m',Ce e]);rw[<-est]
  rfl
def WH{w:Wor}{m m':eR}{e:eV}{r0 r1:List Int}(sw:q8 w)(ok:fY w)(hl:i64 m.listen)(hpc:m.pc=21)(hs:zY w m=true)(t0:0<=m.zf)(hr:w.counts[m.zf.toNat]?=some r0)(hne:r0≠[])(hll:r1.length=r0.length)
 (h:tn 207 [⟨1,38,8,[[I w.zo,I w.current,I w.lock,lI w.pins,lV w.ze,lL w.zd,.sl 2 [] 1 0 w.counts.length false,lR w.zr]],0⟩,oM m,⟨1,0,1,(w.counts.map zP).set m.zf.toNat [C.sl (3) [] 1 0 r0.length false],0⟩,⟨2,63,1,(r0).map jS,0⟩] [.agg tj] (Ce e) [⟨1,38,8,[[I w.zo,I w.current,I w.lock,lI w.pins,lV w.ze,lL w.zd,.sl 2 [] 1 0 w.counts.length false,lR w.zr]],0⟩,oM m',⟨1,0,1,(w.counts.map zP).set m.zf.toNat [C.sl (3) [] 1 0 r0.length false],0⟩,⟨2,63,1,(r1).map jS,0⟩]):tn 133 [] [Cw w,Cm m] (.fb [Cw {w with counts:=w.counts.set m.zf.toNat r1},Cm m',Ce e]) []:=by
 have ml:((w.counts.map zP)).length=w.counts.length:=gp ..;have ml1:(r1.map jS).length=r1.length:=gp ..;have eU:m.zf.toNat<w.counts.length:=(dY.1 hr).1;have own:∀i,∀r∈(w.counts.map zP).set m.zf.toNat ([C.sl i [] 1 0 r0.length false]),∀c∈r,zB c=true:=λi=>zC (enc:=zP) (λ_=>O) O _ _
 have gt:((w.counts.map zP).set m.zf.toNat ([C.sl 6 [] 1 0 r0.length false]))[m.zf.toNat]?=some ([C.sl 6 [] 1 0 r0.length false]):=gu (aq eU);have est:(((w.counts.map zP).set m.zf.toNat ([C.sl 6 [] 1 0 r0.length false])).set m.zf.toNat [.eS 0 1 (r1.map jS)])=(w.counts.set m.zf.toNat r1).map zP:=by rw[g8,p9];rfl
 have esh:∀r∈(((w.counts.map zP).set m.zf.toNat ([C.sl 6 [] 1 0 r0.length false])).set m.zf.toNat [.eS 0 1 (r1.map jS)]),∀c∈r,xm c=true/\zB c=true:=by
  rw[est];exact shut_map (enc:=zP) (λ_=>O) _
 have hp:Gh w.counts m.zf.toNat r0:=⟨sw.counts,hr,hne⟩;by_cases hn:m.listen<0
 all_goals
  refine ab func133 ?_;(repeat (first|refine uA ?_|refine uB ?_))
  refine ah (zO w m ok hl) ?_;refine⟨λ_=>dd ?_,λh=>absurd ((hs).symm.trans h:true=false) ar⟩;refine tc ?_
  (repeat (first|refine uA ?_|refine uB ?_))
  refine .inl ⟨⟨true,[2],[1],[0]⟩,au,uH ?_⟩;refine ah jw ?_;refine hZ ?_
  (refine⟨aw,aw,pf 207,cU,dd ?_⟩)
  refine tc ?_
  refine zX [] [oW w,oM m,⟨1,38,8,[iG],0⟩,⟨1,68,44,[iF],0⟩,oE qz,⟨1,0,1,(w.counts.map zP).set m.zf.toNat [C.sl (6) [] 1 0 r0.length false],0⟩,⟨2,63,1,(r0).map jS,0⟩] (rx:=.agg [I w.zo,I w.current,I w.lock,lI w.pins,lV w.ze,lL w.zd,.sl 5 [] 1 0 w.counts.length false,lR w.zr]) (K5 w sw w.counts O hp) (zc (zg (own 1)) O) O O O O O tL O (dd ?_);refine zX [7,8,5,6] [oW w,oM m,⟨1,38,8,[iG],0⟩,⟨1,68,44,[iF],0⟩,oE qz,⟨1,0,1,(w.counts.map zP).set m.zf.toNat [C.sl (6) [] 1 0 r0.length false],0⟩,⟨2,63,1,(r1).map jS,0⟩,⟨1,38,8,[[I w.zo,I w.current,I w.lock,lI w.pins,lV w.ze,lL w.zd,.sl 5 [] 1 0 w.counts.length false,lR w.zr]],0⟩,oM m'] (rx:=Ce e) h (zc O (zc O (zc (zg (own 3)) O))) cV O O O (zc O (zc O (zc O (zc O (zc O (zc (zg (own 6)) O)))))) tL O (dd ?_);refine .inl ⟨⟨false,[0,1,2],[7,8,9],[]⟩,au,uH ?_⟩;refine hZ ?_
  refine⟨.inl O,_,(zn.zS 5 m.zf.toNat 0 O gt O O (.inr O) aj (by rw[ml1,hll]) (shut_map (enc:=jS) (λ_=>O) _) (own 6)).trans (zn.zS 2 0 6 O O O O (.inl O) aj aj esh (z5 O)),?_⟩;show _=some (C.fb [C.agg [I w.zo,I w.current,I w.lock,lI w.pins,lV w.ze,lL w.zd,C.eS 0 1 ((w.counts.set m.zf.toNat r1).map zP),lR w.zr],Cm m',Ce e]);rw[<-est]
  rfl
def CB{α β:Type}(f:α->β)(l:List α)(i:Nat)(a:α)(r:β)(h:f a=r):(l.map f).set i r=(l.set i a).map f:=by rw[p9,h]
abbrev qV(e0:En)(hd ac:Int):En:={e0 with head:=hd,zi:=ac}
abbrev Ak(m:eR)(g0:Gr)(e0:En)(tk hd ac:Int):Gr:={g0 with zt:=tk,ends:=g0.ends.set m.end_.toNat (qV e0 hd ac)}
abbrev kA(m:eR)(v0:fc)(g0:Gr)(e0:En)(tk hd ac:Int):fc:={v0 with zq:=v0.zq.set m.zj.toNat (Ak m g0 e0 tk hd ac)}
abbrev mE(w:Wor)(m:eR)(v0:fc)(g0:Gr)(e0:En)(tk hd ac:Int):Wor:={w with ze:=w.ze.set m.version.toNat (kA m v0 g0 e0 tk hd ac)}
def C0{w:Wor}{m:eR}{v0:fc}{g0:Gr}{e0:En}(tk hd ac:Int)(sw:q8 w)(hat:fS w m v0 g0 e0)(hne:e0.next≠[]):
  JN w.ze m.version.toNat v0 m.zj.toNat g0 m.end_.toNat e0/\(∀i,∀r∈ia w m v0 (i),∀c∈r,zB c=true)/\(∀i t,∀r∈fX m v0 g0 (t) (i),∀c∈r,zB c=true)/\
  (∀i a b,∀r∈fQ m g0 e0 (a) (i) (b),∀c∈r,zB c=true)/\(ia w m v0 (6))[m.version.toNat]?=some ((qv v0.snap++[C.sl (6) [] 2 0 v0.zq.length false,Bo v0.qQ]))/\(∀t,(fX m v0 g0 (t) (7))[m.zj.toNat]?=some ([U (t),C.sl (7) [] 3 0 g0.ends.length false]))/\
  (∀a b,(fQ m g0 e0 (a) (8) (b))[m.end_.toNat]?=some ([U (a),C.sl (8) [] 1 0 e0.next.length false,I (b)]))/\((fQ m g0 e0 (hd) (8) (ac)).set m.end_.toNat [U hd,C.eS 0 1 (e0.next.map encI),I ac])=(g0.ends.set m.end_.toNat (qV e0 hd ac)).map zD/\((fX m v0 g0 (tk) (7)).set m.zj.toNat [U tk,C.eS 0 3 (((g0.ends.set m.end_.toNat (qV e0 hd ac)).map zD))])=(v0.zq.set m.zj.toNat (Ak m g0 e0 tk hd ac)).map zK/\
  ((ia w m v0 (6)).set m.version.toNat (qv v0.snap++[C.eS 0 2 (((v0.zq.set m.zj.toNat (Ak m g0 e0 tk hd ac)).map zK)),Bo v0.qQ]))=(w.ze.set m.version.toNat (kA m v0 g0 e0 tk hd ac)).map zN/\(∀r∈((fQ m g0 e0 (hd) (8) (ac)).set m.end_.toNat [U hd,C.eS 0 1 (e0.next.map encI),I ac]),∀c∈r,xm c=true/\zB c=true)/\(∀r∈((fX m v0 g0 (tk) (7)).set m.zj.toNat [U tk,C.eS 0 3 ((fQ m g0 e0 (hd) (8) (ac)).set m.end_.toNat [U hd,C.eS 0 1 (e0.next.map encI),I ac])]),∀c∈r,xm c=true/\zB c=true)/\(∀r∈((ia w m v0 (6)).set m.version.toNat (qv v0.snap++[C.eS 0 2 ((fX m v0 g0 (tk) (7)).set m.zj.toNat [U tk,C.eS 0 3 ((fQ m g0 e0 (hd) (8) (ac)).set m.end_.toNat [U hd,C.eS 0 1 (e0.next.map encI),I ac])]),Bo v0.qQ])),∀c∈r,xm c=true/\zB c=true):=by
 have lv:=hat.ln.lv;have lg:=hat.ln.lg;have le:=hat.ln.le;have Dx:=sw.ze.2 v0 (gh hat.at_);have estE:((fQ m g0 e0 (hd) (8) (ac)).set m.end_.toNat [U hd,C.eS 0 1 (e0.next.map encI),I ac])=(g0.ends.set m.end_.toNat (qV e0 hd ac)).map zD:=by rw[g8];exact CB zD _ _ (qV e0 hd ac) _ O
 have estG:((fX m v0 g0 (tk) (7)).set m.zj.toNat [U tk,C.eS 0 3 (((g0.ends.set m.end_.toNat (qV e0 hd ac)).map zD))])=(v0.zq.set m.zj.toNat (Ak m g0 e0 tk hd ac)).map zK:=by rw[g8];exact CB zK _ _ (Ak m g0 e0 tk hd ac) _ O
 have estV:((ia w m v0 (6)).set m.version.toNat (qv v0.snap++[C.eS 0 2 (((v0.zq.set m.zj.toNat (Ak m g0 e0 tk hd ac)).map zK)),Bo v0.qQ]))=(w.ze.set m.version.toNat (kA m v0 g0 e0 tk hd ac)).map zN:=by rw[g8];exact CB zN _ _ (kA m v0 g0 e0 tk hd ac) _ O
 refine⟨⟨⟨⟨Dx.2 g0 (gh hat.fE),hat.fL,hne⟩,Dx,hat.fE⟩,sw.ze,hat.at_⟩,λi=>zC (enc:=zN) (λ_=>O) O _ _,λi t=>zC (enc:=zK) (λ_=>O) O _ _,λi a b=>zC (enc:=zD) (λ_=>O) O _ _,gu (aq lv),λt=>gu (aq lg),λa b=>gu (aq le),estE,estG,estV,?_,?_,?_⟩
 ·rw[estE];exact shut_map (enc:=zD) (λ_=>O) _
 ·rw[estE,estG];exact shut_map (enc:=zK) (λ_=>O) _
 ·rw[estE,estG,estV];exact shut_map (enc:=zN) (λ_=>O) _
def XE{w:Wor}{m m':eR}{e:eV}{v0:fc}{g0:Gr}{e0:En}{tk hd ac:Int}(sw:q8 w)(ok:fY w)(hl:i64 m.listen)(hpc:m.pc=6)(hs:zY w m=true)(hat:fS w m v0 g0 e0)(hne:e0.next≠[])
 (h:tn 199 [⟨1,38,8,[(iL w 2)],0⟩,oM m,⟨1,0,5,ia w m v0 (3),0⟩,⟨1,0,2,fX m v0 g0 (g0.zt) (4),0⟩,⟨1,0,3,fQ m g0 e0 (e0.head) (5) (e0.zi),0⟩,⟨2,3,1,e0.next.map encI,0⟩] [.agg tj] (Ce e) [⟨1,38,8,[(iL w 2)],0⟩,oM m',⟨1,0,5,ia w m v0 (3),0⟩,⟨1,0,2,fX m v0 g0 (tk) (4),0⟩,⟨1,0,3,fQ m g0 e0 (hd) (5) (ac),0⟩,⟨2,3,1,e0.next.map encI,0⟩]):tn 133 [] [Cw w,Cm m] (.fb [Cw (mE w m v0 g0 e0 tk hd ac),Cm m',Ce e]) []:=by
 obtain⟨hp,ownV,ownG,ownE,gv,gg,ge,estE,estG,estV,eshE,eshG,eshV⟩:=C0 tk hd ac sw hat hne;by_cases hn:m.listen<0
 all_goals
  refine ab func133 ?_;(repeat (first|refine uA ?_|refine uB ?_))
  refine ah (zO w m ok hl) ?_;refine⟨λ_=>dd ?_,λh=>absurd ((hs).symm.trans h:true=false) ar⟩;refine tc ?_
  (repeat (first|refine uA ?_|refine uB ?_))
  refine .inl ⟨⟨true,[2],[1],[0]⟩,au,uH ?_⟩;refine ah jw ?_;refine hZ ?_
  (refine⟨aw,aw,pf 199,cU,dd ?_⟩)
  refine tc ?_
  refine zX [] [oW w,oM m,⟨1,38,8,[iG],0⟩,⟨1,68,44,[iF],0⟩,oE qz,⟨1,0,5,ia w m v0 (6),0⟩,⟨1,0,2,fX m v0 g0 (g0.zt) (7),0⟩,⟨1,0,3,fQ m g0 e0 (e0.head) (8) (e0.zi),0⟩,⟨2,3,1,e0.next.map encI,0⟩] (rx:=.agg (iL w 5)) (yM w sw w.ze O hp) (zc (zg (ownV 1)) (zc (zg (ownG 2 _)) (zc (zg (ownE 3 _ _)) O))) O O O O O uV O (dd ?_);refine zX [9,10,5,6,7,8] [oW w,oM m,⟨1,38,8,[iG],0⟩,⟨1,68,44,[iF],0⟩,oE qz,⟨1,0,5,ia w m v0 (6),0⟩,⟨1,0,2,fX m v0 g0 (tk) (7),0⟩,⟨1,0,3,fQ m g0 e0 (hd) (8) (ac),0⟩,⟨2,3,1,e0.next.map encI,0⟩,⟨1,38,8,[(iL w 5)],0⟩,oM m'] (rx:=Ce e) h (zc O (zc O (zc (zg (ownV 3)) (zc (zg (ownG 4 _)) (zc (zg (ownE 5 _ _)) O))))) tE O O O (zc O (zc O (zc O (zc O (zc O (zc (zg (ownV 6)) (zc (zg (ownG 7 _)) (zc (zg (ownE 8 _ _)) O)))))))) uV O (dd ?_);refine .inl ⟨⟨false,[0,1,2],[9,10,11],[]⟩,au,uH ?_⟩;refine hZ ?_
  refine⟨.inl O,_,(((zn.zS 7 m.end_.toNat 1 O (ge _ _) O O (.inr O) aj aj (shut_map (enc:=encI) (λ_=>O) _) (ownE 8 _ _)).trans (zn.zS 6 m.zj.toNat 1 O (gg _) O O (.inl O) aj aj eshE (ownG 7 _))).trans (zn.zS 5 m.version.toNat 3 O gv O O (.inl O) aj aj eshG (ownV 6))).trans (zn.zS 2 0 4 O O O O (.inl O) aj aj eshV (z5 O)),?_⟩;show _=some (C.fb [C.agg [I w.zo,I w.current,I w.lock,lI w.pins,C.eS 0 5 ((w.ze.set m.version.toNat (kA m v0 g0 e0 tk hd ac)).map zN),lL w.zd,fK w.counts,lR w.zr],Cm m',Ce e]);rw[<-estV,<-estG,<-estE]
  rfl
def MB{w:Wor}{m m':eR}{e:eV}{v0:fc}{g0:Gr}{e0:En}{tk hd ac:Int}(sw:q8 w)(ok:fY w)(hl:i64 m.listen)(hpc:m.pc=11)(hs:zY w m=true)(hat:fS w m v0 g0 e0)(hne:e0.next≠[])
 (h:tn 204 [⟨1,38,8,[(iL w 2)],0⟩,oM m,⟨1,0,5,ia w m v0 (3),0⟩,⟨1,0,2,fX m v0 g0 (g0.zt) (4),0⟩,⟨1,0,3,fQ m g0 e0 (e0.head) (5) (e0.zi),0⟩,⟨2,3,1,e0.next.map encI,0⟩] [.agg tj] (Ce e) [⟨1,38,8,[(iL w 2)],0⟩,oM m',⟨1,0,5,ia w m v0 (3),0⟩,⟨1,0,2,fX m v0 g0 (tk) (4),0⟩,⟨1,0,3,fQ m g0 e0 (hd) (5) (ac),0⟩,⟨2,3,1,e0.next.map encI,0⟩]):tn 133 [] [Cw w,Cm m] (.fb [Cw (mE w m v0 g0 e0 tk hd ac),Cm m',Ce e]) []:=by
 obtain⟨hp,ownV,ownG,ownE,gv,gg,ge,estE,estG,estV,eshE,eshG,eshV⟩:=C0 tk hd ac sw hat hne;by_cases hn:m.listen<0
 all_goals
  refine ab func133 ?_;(repeat (first|refine uA ?_|refine uB ?_))
  refine ah (zO w m ok hl) ?_;refine⟨λ_=>dd ?_,λh=>absurd ((hs).symm.trans h:true=false) ar⟩;refine tc ?_
  (repeat (first|refine uA ?_|refine uB ?_))
  refine .inl ⟨⟨true,[2],[1],[0]⟩,au,uH ?_⟩;refine ah jw ?_;refine hZ ?_
  (refine⟨aw,aw,pf 204,cU,dd ?_⟩)
  refine tc ?_
  refine zX [] [oW w,oM m,⟨1,38,8,[iG],0⟩,⟨1,68,44,[iF],0⟩,oE qz,⟨1,0,5,ia w m v0 (6),0⟩,⟨1,0,2,fX m v0 g0 (g0.zt) (7),0⟩,⟨1,0,3,fQ m g0 e0 (e0.head) (8) (e0.zi),0⟩,⟨2,3,1,e0.next.map encI,0⟩] (rx:=.agg (iL w 5)) (yM w sw w.ze O hp) (zc (zg (ownV 1)) (zc (zg (ownG 2 _)) (zc (zg (ownE 3 _ _)) O))) O O O O O uV O (dd ?_);refine zX [9,10,5,6,7,8] [oW w,oM m,⟨1,38,8,[iG],0⟩,⟨1,68,44,[iF],0⟩,oE qz,⟨1,0,5,ia w m v0 (6),0⟩,⟨1,0,2,fX m v0 g0 (tk) (7),0⟩,⟨1,0,3,fQ m g0 e0 (hd) (8) (ac),0⟩,⟨2,3,1,e0.next.map encI,0⟩,⟨1,38,8,[(iL w 5)],0⟩,oM m'] (rx:=Ce e) h (zc O (zc O (zc (zg (ownV 3)) (zc (zg (ownG 4 _)) (zc (zg (ownE 5 _ _)) O))))) tE O O O (zc O (zc O (zc O (zc O (zc O (zc (zg (ownV 6)) (zc (zg (ownG 7 _)) (zc (zg (ownE 8 _ _)) O)))))))) uV O (dd ?_);refine .inl ⟨⟨false,[0,1,2],[9,10,11],[]⟩,au,uH ?_⟩;refine hZ ?_
  refine⟨.inl O,_,(((zn.zS 7 m.end_.toNat 1 O (ge _ _) O O (.inr O) aj aj (shut_map (enc:=encI) (λ_=>O) _) (ownE 8 _ _)).trans (zn.zS 6 m.zj.toNat 1 O (gg _) O O (.inl O) aj aj eshE (ownG 7 _))).trans (zn.zS 5 m.version.toNat 3 O gv O O (.inl O) aj aj eshG (ownV 6))).trans (zn.zS 2 0 4 O O O O (.inl O) aj aj eshV (z5 O)),?_⟩;show _=some (C.fb [C.agg [I w.zo,I w.current,I w.lock,lI w.pins,C.eS 0 5 ((w.ze.set m.version.toNat (kA m v0 g0 e0 tk hd ac)).map zN),lL w.zd,fK w.counts,lR w.zr],Cm m',Ce e]);rw[<-estV,<-estG,<-estE]
  rfl
def WE{w:Wor}{m m':eR}{e:eV}{v0:fc}{g0:Gr}{e0:En}{tk hd ac:Int}(sw:q8 w)(ok:fY w)(hl:i64 m.listen)(hpc:m.pc=12)(hs:zY w m=true)(hat:fS w m v0 g0 e0)(hne:e0.next≠[])
 (h:tn 205 [⟨1,38,8,[(iL w 2)],0⟩,oM m,⟨1,0,5,ia w m v0 (3),0⟩,⟨1,0,2,fX m v0 g0 (g0.zt) (4),0⟩,⟨1,0,3,fQ m g0 e0 (e0.head) (5) (e0.zi),0⟩,⟨2,3,1,e0.next.map encI,0⟩] [.agg tj] (Ce e) [⟨1,38,8,[(iL w 2)],0⟩,oM m',⟨1,0,5,ia w m v0 (3),0⟩,⟨1,0,2,fX m v0 g0 (tk) (4),0⟩,⟨1,0,3,fQ m g0 e0 (hd) (5) (ac),0⟩,⟨2,3,1,e0.next.map encI,0⟩]):tn 133 [] [Cw w,Cm m] (.fb [Cw (mE w m v0 g0 e0 tk hd ac),Cm m',Ce e]) []:=by
 obtain⟨hp,ownV,ownG,ownE,gv,gg,ge,estE,estG,estV,eshE,eshG,eshV⟩:=C0 tk hd ac sw hat hne;by_cases hn:m.listen<0
 all_goals
  refine ab func133 ?_;(repeat (first|refine uA ?_|refine uB ?_))
  refine ah (zO w m ok hl) ?_;refine⟨λ_=>dd ?_,λh=>absurd ((hs).symm.trans h:true=false) ar⟩;refine tc ?_
  (repeat (first|refine uA ?_|refine uB ?_))
  refine .inl ⟨⟨true,[2],[1],[0]⟩,au,uH ?_⟩;refine ah jw ?_;refine hZ ?_
  (refine⟨aw,aw,pf 205,cU,dd ?_⟩)
  refine tc ?_
  refine zX [] [oW w,oM m,⟨1,38,8,[iG],0⟩,⟨1,68,44,[iF],0⟩,oE qz,⟨1,0,5,ia w m v0 (6),0⟩,⟨1,0,2,fX m v0 g0 (g0.zt) (7),0⟩,⟨1,0,3,fQ m g0 e0 (e0.head) (8) (e0.zi),0⟩,⟨2,3,1,e0.next.map encI,0⟩] (rx:=.agg (iL w 5)) (yM w sw w.ze O hp) (zc (zg (ownV 1)) (zc (zg (ownG 2 _)) (zc (zg (ownE 3 _ _)) O))) O O O O O uV O (dd ?_);refine zX [9,10,5,6,7,8] [oW w,oM m,⟨1,38,8,[iG],0⟩,⟨1,68,44,[iF],0⟩,oE qz,⟨1,0,5,ia w m v0 (6),0⟩,⟨1,0,2,fX m v0 g0 (tk) (7),0⟩,⟨1,0,3,fQ m g0 e0 (hd) (8) (ac),0⟩,⟨2,3,1,e0.next.map encI,0⟩,⟨1,38,8,[(iL w 5)],0⟩,oM m'] (rx:=Ce e) h (zc O (zc O (zc (zg (ownV 3)) (zc (zg (ownG 4 _)) (zc (zg (ownE 5 _ _)) O))))) tE O O O (zc O (zc O (zc O (zc O (zc O (zc (zg (ownV 6)) (zc (zg (ownG 7 _)) (zc (zg (ownE 8 _ _)) O)))))))) uV O (dd ?_);refine .inl ⟨⟨false,[0,1,2],[9,10,11],[]⟩,au,uH ?_⟩;refine hZ ?_
  refine⟨.inl O,_,(((zn.zS 7 m.end_.toNat 1 O (ge _ _) O O (.inr O) aj aj (shut_map (enc:=encI) (λ_=>O) _) (ownE 8 _ _)).trans (zn.zS 6 m.zj.toNat 1 O (gg _) O O (.inl O) aj aj eshE (ownG 7 _))).trans (zn.zS 5 m.version.toNat 3 O gv O O (.inl O) aj aj eshG (ownV 6))).trans (zn.zS 2 0 4 O O O O (.inl O) aj aj eshV (z5 O)),?_⟩;show _=some (C.fb [C.agg [I w.zo,I w.current,I w.lock,lI w.pins,C.eS 0 5 ((w.ze.set m.version.toNat (kA m v0 g0 e0 tk hd ac)).map zN),lL w.zd,fK w.counts,lR w.zr],Cm m',Ce e]);rw[<-estV,<-estG,<-estE]
  rfl
end Go.Wor
