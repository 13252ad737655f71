import Derived.Test.YtoeaoedlpmohoaaGreatTW
import Derived.Test.YtoeaoedlpmohoaaGreatTV
set_option linter.all false
set_option maxRecDepth 100000
set_option maxHeartbeats 4000000
namespace Go.Wor
open Go.Ab Go.Proofs Tryz Go.Hy Go.Gat Go.Nam Go.Hos Go.Con Go.Sna
abbrev CD(w:Wor)(m:fi):fi:={m with version:=w.current,zg:=0,end_:=0,other:=0,slot:=0,listen:=zU w.ze m.op.listen,pc:=4}
abbrev KJ(e:fk):fk:={e with qY:=true}
def QN(w:Wor)(m:fi)(hl:w.ze.length<4611686018427387904):
  tj 184 [oW w,oM m] [.agg tf] (Ce (KJ (fK m 1 3 w.current))) [oW w,oM (if zU w.ze m.op.listen<0 then nO (CD w m) 2 else CD w m)]:=by
 refine aa func184 ?_;refine .inr ⟨⟨[0,2,5,6],[0,1,2],true⟩,au,λ_=>J,_,uH ?_,λt2 H2 h=>h⟩;refine⟨_,ai [1] (jz m 1 3 w.current),uH ?_⟩;(refine⟨uH ?_,trivial⟩);refine hU ?_
 (refine⟨uH ?_,trivial⟩);refine hU ?_
 (refine⟨_,_,.refl _,uH ?_⟩)
 refine .inl ⟨⟨true,[],[],[12]⟩,au,uH ?_⟩;refine ah (E6 w.ze m.op.listen hl) ?_;refine hU ?_
 refine⟨λh1=>?_,λh1=>?_⟩
 ·have e1:zU w.ze m.op.listen<0:=by simpa using h1
  rw[gh e1];refine dd ?_;refine af [1] (km (CD w m) 2) ?_;exact cN
 ·have e1:¬zU w.ze m.op.listen<0:=by simpa using h1
  rw[dZ e1];refine dd ?_;exact cN
def S8(w:Wor)(m:fi)(sw:jd w)(ok:ir w)(hl:i64 m.listen)(hs:qd w m=true):
  tj 197 [oW w,oM m] [.agg tf] (Ce {ES m with done:=true,answer:=m.answer}) [oW (nD w m.zf.toNat 0),oM ({m with done:=true})]:=by
 refine aa func197 ?_;refine .inr ⟨⟨[1,3,5,7,8],[0,1,2],true⟩,au,λ_=>J,λt H=>t=(.za::.ref 2 [] 2 0 0::.ref 3 [] 23 0 0::.ref 4 [] 8 0 0::.ref 5 [] 23 0 0::tZ (tZ (tZ ([.za,.za,.za,.za]))))/\H=[oW w,oM m,⟨1,245,2,[tf],0⟩,oE qG,oW (nD w m.zf.toNat 0),oE (ES m)],?_,?_⟩
 ·conv=>whnf
  refine⟨_,ai [] (WJ w m sw ok hl hs),uH ?_⟩;repeat' (first|(exact trivial)|(refine⟨rfl,uH ?_⟩)|(exact⟨_,_,zq.fx [0,1,2,3,4,5] [1,2,3,4] _ _ J J J J,rfl,rfl⟩)|(exact⟨_,_,zq.fx [0,1,2,3,5,4] [1,2,3,4] _ _ J J J J,rfl,rfl⟩)|(refine And.intro ?_ ?_ <;> (conv=>whnf)))
 rintro _ _ ⟨rfl,rfl⟩;conv=>whnf
 refine .inr ⟨⟨[1,3],[2],true⟩,au,λ_=>J,λt H=>t=(.za::.ref 2 [] 2 0 0::.ref 3 [] 23 0 0::.za::.ref 5 [] 23 0 0::tZ (tZ (tZ ([.za,.za,.za,.za]))))/\H=[oW (nD w m.zf.toNat 0),oM ({m with done:=true}),⟨1,245,2,[tf],0⟩,oE qG,oW (nD w m.zf.toNat 0),oE ({ES m with done:=true,answer:=m.answer})],?_,?_⟩
 ·conv=>whnf
  repeat' (first|(exact trivial)|(refine⟨rfl,uH ?_⟩)|(exact⟨_,_,zq.mask [1,2,4] _ _,rfl,rfl⟩)|(refine And.intro ?_ ?_ <;> (conv=>whnf)))
 rintro _ _ ⟨rfl,rfl⟩;conv=>whnf
 exact cN
def yx(c:fV)(d:Int):Int:=((fj c)[(d%(fj c).length).toNat]?).getD 0
def va(c:fV)(d0 d1:Int):Int×Int×Int:=if (fj c).length=0 then (0,0,5) else (yx c d0,yx c d1,0)
def VO{d:Int}{n:Nat}(hd:i64 d)(hn:0<n)(hm:n<1000000000000):IntKind.i64.wrap (d.tmod n+n)=d.tmod n+n/\(d.tmod n+n).tmod n=d%n:=by
 have h1:=Int.tmod_lt_of_pos d (show(0:Int)<n by omega);have h2:=Int.lt_tmod_of_pos d (show(0:Int)<n by omega);refine⟨jx aw aw,?_⟩;rw[sg aw,Int.add_emod_right];rw[Int.tmod_def,Int.sub_mul_emod_self_left]
def Oh{c:fV}{d:Int}(hd:i64 d)(hn:0<(fj c).length)(hm:(fj c).length<1000000000000){n:Nat}(e:n=(fj c).length):
  0<=(IntKind.i64.wrap (d.tmod n+n)).tmod n/\((fj c).map encI)[((IntKind.i64.wrap (d.tmod n+n)).tmod n).toNat]?=some [I (yx c d)]:=by
 subst e;obtain⟨e1,e2⟩:=VO hd hn hm;rw[e1,e2];have h0:(0:Int)<(fj c).length:=aw
 have h1:=sG d (show((fj c).length:Int)≠0 by omega);have h2:=sH d h0;refine⟨h1,?_⟩;have hi:(fj c)[(d%((fj c).length:Int)).toNat]?=some ((fj c)[(d%((fj c).length:Int)).toNat]'aw):=dX _;unfold yx;rw[gf,hi]
 rfl
def T9(c:fV)(d0 d1:Int)(h0:i64 d0)(h1:i64 d1)(hl:c.zR.length<1000000000000)(hh:(fj c).length<=c.zR.length):tj 23 [] [Cc c,I d0,I d1] (.fq [I (va c d0 d1).1,I (va c d0 d1).2.1,I (va c d0 d1).2.2]) []:=by
 have ml:((fj c).map encI).length=(fj c).length:=gu ..;refine ab func23 ?_;refine ah (KN c hl) ?_;rw[ml];refine⟨λhz=>?_,λhz=>?_⟩
 ·unfold va;have hz:=gJ hz;rw[gh aw];exact dk
 ·unfold va;have hz:=ru hz;rw[dZ aw];refine dd ?_;have hw:(((fj c).length:Nat):Int)≠0:=by omega
  refine Bh.CG 3 (LoopN.step ?_);conv=>whnf
  refine hZ ?_
  (refine⟨ar,ar,dd ?_⟩)
  split;(rotate_left;(rename_i hno;exact(hno _ (yq J J J hw)).elim));(rename_i v e;cases e.symm.trans (yq rfl rfl rfl hw));refine dd ?_
  split;(rotate_left;(rename_i hno;exact(hno _ (yq J J J hw)).elim));(rename_i v e;cases e.symm.trans (yq rfl rfl rfl hw));refine dd ?_
  obtain⟨p0,p1⟩:=Oh h0 (c:=c) aw aw J;refine⟨p0,_,p1,dd ?_⟩;(refine⟨ar,ar,dd ?_⟩)
  refine .inl ⟨rfl,LoopN.step (uH ?_)⟩;refine hZ ?_
  (refine⟨ar,ar,dd ?_⟩)
  split;(rotate_left;(rename_i hno;exact(hno _ (yq J J J hw)).elim));(rename_i v e;cases e.symm.trans (yq rfl rfl rfl hw));refine dd ?_
  split;(rotate_left;(rename_i hno;exact(hno _ (yq J J J hw)).elim));(rename_i v e;cases e.symm.trans (yq rfl rfl rfl hw));refine dd ?_
  obtain⟨p2,p3⟩:=Oh h1 (c:=c) aw aw J;refine⟨p2,_,p3,dd ?_⟩;(refine⟨ar,ar,dd ?_⟩)
  refine .inl ⟨rfl,LoopN.step (uH ?_)⟩;refine hZ ?_
  refine .inr ⟨aj,uH ?_⟩;refine uE ?_;(refine⟨ar,ar,dd ?_⟩)
  (refine⟨ar,ar,dd ?_⟩)
  exact uI
abbrev xH(m:fi)(v:fp):Int×Int:=AY v.snap m.op.listen m.op.host m.op.path
def xd(m:fi)(v:fp):fi:=if (xH m v).2≠0 then nO m 2 else match v.snap.zn[(xH m v).1.toNat]? with
 |none=>m
 |some c=>if (va c m.op.d0 m.op.d1).2.2≠0 then nO {m with zg:=(xH m v).1} 3
  else if c.xY=1 then {m with zg:=(xH m v).1,pc:=6}
  else {m with zg:=(xH m v).1,end_:=(va c m.op.d0 m.op.d1).1,other:=(va c m.op.d0 m.op.d1).2.1,pc:=7}
structure G7(m:fi)(v:fp):Prop where
 small:O7 v.snap
 host:m.op.host.length<1000000000000000
 path:m.op.path.length<1000000000000000
 d0:i64 m.op.d0
 d1:i64 m.op.d1
 Kh:(xH m v).2=0->0<=(xH m v).1/\∃c,v.snap.zn[(xH m v).1.toNat]?=some c/\c.zR.length<1000000000000
def O8(c:fV):(fj c).length<=c.zR.length:=FK c.zR c.zR.length
def Nk{m:fi}{v:fp}(h:(xH m v).2≠0):xd m v=nO m 2:=gh h
def Lo{m:fi}{v:fp}{c:fV}(h:(xH m v).2=0)(hc:v.snap.zn[(xH m v).1.toNat]?=some c)(hd:(va c m.op.d0 m.op.d1).2.2≠0):xd m v=nO {m with zg:=(xH m v).1} 3:=by
 unfold xd;rw[dZ aw,hc];exact gh hd
def Mi{m:fi}{v:fp}{c:fV}(h:(xH m v).2=0)(hc:v.snap.zn[(xH m v).1.toNat]?=some c)(hd:(va c m.op.d0 m.op.d1).2.2=0)(hp:c.xY=1):xd m v={m with zg:=(xH m v).1,pc:=6}:=by
 unfold xd;rw[dZ aw,hc];exact(dZ aw).trans (gh hp)
def Mj{m:fi}{v:fp}{c:fV}(h:(xH m v).2=0)(hc:v.snap.zn[(xH m v).1.toNat]?=some c)(hd:(va c m.op.d0 m.op.d1).2.2=0)(hp:c.xY≠1):
  xd m v={m with zg:=(xH m v).1,end_:=(va c m.op.d0 m.op.d1).1,other:=(va c m.op.d0 m.op.d1).2.1,pc:=7}:=by
 unfold xd;rw[dZ aw,hc];exact(dZ aw).trans (dZ hp)
def Tf(w:Wor)(m:fi)(v:fp)(hv:oT w m v)(h:G7 m v):tj 232 [oW w,oM m] [.agg tf] (.fq []) [oW w,oM (xd m v)]:=by
 have h0:=hv.v0;have hr:=hv.row;refine aa func232 ?_;refine uE ?_;(refine⟨h0,_,hr,dd ?_⟩)
 refine ah (TE v.snap m.op.listen m.op.host m.op.path h.small h.host h.path) ?_;refine⟨λh1=>?_,λh1=>?_⟩
 ·have h2:(xH m v).2≠0:=by simpa using h1
  rw[Nk h2];refine dd ?_;refine af [1] (km m 2) ?_;exact cN
 ·have h2:(xH m v).2=0:=by simpa using h1
  obtain⟨g0,c,hc,hcl⟩:=h.Kh h2;refine dd ?_;refine .inr ⟨⟨[0,1,6,11,12],[0,1,2],true⟩,au,λ_=>J,_,uH ?_,λt2 H2 h=>h⟩;refine⟨_,ai [0,1] (kG w {m with zg:=(xH m v).1} v c ⟨hv.v0,hv.at_⟩ g0 hc),uH ?_⟩;refine⟨_,ai [] (T9 c m.op.d0 m.op.d1 h.d0 h.d1 hcl (O8 c)),uH ?_⟩;(refine⟨_,_,.refl _,uH ?_⟩)
  refine⟨λh3=>?_,λh3=>?_⟩
  ·have h4:(va c m.op.d0 m.op.d1).2.2≠0:=by simpa using h3
   rw[Lo h2 hc h4];refine dd ?_;refine af [1] (km {m with zg:=(xH m v).1} 3) ?_;exact⟨.inr J,_,_,.refl _,rfl,cE 2⟩
  ·have h4:(va c m.op.d0 m.op.d1).2.2=0:=by simpa using h3
   refine dd ?_;refine af [0,1] (kG w {m with zg:=(xH m v).1} v c ⟨hv.v0,hv.at_⟩ g0 hc) ?_;refine⟨λh5=>?_,λh5=>?_⟩
   ·have h6:c.xY=1:=by simpa using h5
    rw[Mi h2 hc h4 h6];refine dd ?_;exact⟨.inr J,_,_,.refl _,rfl,cE 2⟩
   ·have h6:c.xY≠1:=by simpa using h5
    rw[Mj h2 hc h4 h6];refine dd ?_;exact⟨.inr J,_,_,.refl _,rfl,cE 2⟩
def Q3(w:Wor)(m:fi)(v:fp)(hv:oT w m v)(h:G7 m v){l:fI}(l0:0<=m.listen)(hl:w.ze[m.listen.toNat]?=some l):
  tj 186 [oW w,oM m] [.agg tf] (Ce (if l.drain then {fK m 1 4 1 with qY:=true} else fK m 1 4 0)) [oW w,oM (if l.drain then nO m 5 else xd m v)]:=by
 have lr:(w.ze.map qP)[m.listen.toNat]?=some (qP l):=by rw[gf,hl];rfl
 obtain⟨ln,ld,la,lc⟩:=l;cases ld
 all_goals
  refine aa func186 ?_;refine uE ?_;(refine⟨l0,_,lr,dd ?_⟩)
 ·(refine yb (dd ?_))
  refine af [0,1] (Tf w m v hv h) ?_
  have et:(xd m v).zf=m.zf:=by
   unfold xd;split
   ·rfl
   ·split
    ·rfl
    ·split
     ·rfl
     ·split <;> rfl
  have ee:fK m 1 4 0=fK (xd m v) 1 4 0:=by unfold fK;rw[et]
  have eg:(if ({name:=ln,drain:=false,zi:=la,closed:=lc}:fI).drain then {fK m 1 4 1 with qY:=true} else fK m 1 4 0)=fK (xd m v) 1 4 0:=ee;rw[eg];refine af [1] (jz (xd m v) 1 4 0) ?_;exact cN
 ·(refine ya (dd ?_))
  refine af [1] (jz m 1 4 1) ?_;refine af [1] (km m 5) ?_;exact cN
def Q9(w:Wor)(m:fi)(v0:fp)(g0:Gr)(e0:En)(c:fV)(hv:nI w m v0 g0)(hc:v0.snap.zn[m.zg.toNat]?=some c):tj 235 (hE w m m v0 g0 e0 g0.zu e0.head e0.zi []) [.agg tf] (Cc c) (hE w m m v0 g0 e0 g0.zu e0.head e0.zi []):=by
 have h0:=hv.pv;have g0':=hv.pg;have lv:m.version.toNat<w.zd.length:=hv.lv;have cr:(v0.snap.zn.map yY)[m.zg.toNat]?=some (yY c):=by rw[gf,hc];rfl
 have lowV:∀r∈fS w m v0 3,∀c∈r,qX 6 9 c=true:=zy (enc:=zH) (λ_=>J) J _ _;have lowG:∀r∈fL m v0 g0 g0.zu 4,∀c∈r,qX 6 9 c=true:=zy (enc:=zE) (λ_=>J) J _ _;have lowE:∀r∈fF m g0 e0 e0.head 5 e0.zi,∀c∈r,qX 6 9 c=true:=zy (enc:=zA) (λ_=>J) J _ _;have e1:0+m.version.toNat=m.version.toNat:=gP _;have gv:(fS w m v0 3)[m.version.toNat]?=some ((encS v0.snap++[C.sl 3 [] 2 0 v0.zo.length false,Bo v0.zW])):=gk tP;refine aa func235 ?_;refine uE ?_;refine⟨h0,lv,dd ?_⟩;rw[e1];refine⟨_,gv,(by show 2+1<=5;decide),dd ?_⟩;refine⟨g0',_,cr,dd ?_⟩;exact cQ
def HH(w:Wor)(m:fi)(v0:fp)(g0:Gr)(e0:En)(hv:nI w m v0 g0)(x p a b c:Int):tj 236 (hE w ({m with end_:=x,pc:=p}) m v0 g0 e0 g0.zu e0.head e0.zi []) [.agg tf,I a,I b,I c] (Ce (iz m v0 a b c)) (hE w ({m with end_:=x,pc:=p}) m v0 g0 e0 g0.zu e0.head e0.zi []):=by
 have h0:=hv.pv;have lv:m.version.toNat<w.zd.length:=hv.lv;have e1:0+m.version.toNat=m.version.toNat:=gP _
 clear hv
 obtain⟨sn,gs,fr⟩:=v0;cases fr
 all_goals
  have ownV:∀b,∀r∈(w.zd.map zH).set m.version.toNat (encS sn++[C.sl 3 [] 2 0 gs.length false,Bo b]),∀c∈r,zx c=true:=λb=>zy (enc:=zH) (λ_=>J) J _ _
  have ownG:∀r∈(gs.map zE).set m.zg.toNat ([U g0.zu,C.sl 4 [] 3 0 g0.ends.length false]),∀c∈r,zx c=true:=zy (enc:=zE) (λ_=>J) J _ _;have ownE:∀r∈fF m g0 e0 e0.head 5 e0.zi,∀c∈r,zx c=true:=zy (enc:=zA) (λ_=>J) J _ _;have lowV:∀b,∀r∈(w.zd.map zH).set m.version.toNat (encS sn++[C.sl 3 [] 2 0 gs.length false,Bo b]),∀c∈r,qX 6 9 c=true:=λb=>zy (enc:=zH) (λ_=>J) J _ _
  have gv:∀b,((w.zd.map zH).set m.version.toNat (encS sn++[C.sl 3 [] 2 0 gs.length false,Bo b]))[m.version.toNat]?=some (encS sn++[C.sl 3 [] 2 0 gs.length false,Bo b]):=λb=>gk tP
  have lowG:∀r∈(gs.map zE).set m.zg.toNat ([U g0.zu,C.sl 4 [] 3 0 g0.ends.length false]),∀c∈r,qX 6 9 c=true:=zy (enc:=zE) (λ_=>J) J _ _;have lowE:∀r∈fF m g0 e0 e0.head 5 e0.zi,∀c∈r,qX 6 9 c=true:=zy (enc:=zA) (λ_=>J) J _ _;refine aa func236 ?_;refine zZ [1] [⟨1,38,8,[(iZ w 2)],0⟩,oM ({m with end_:=x,pc:=p}),⟨1,0,5,(w.zd.map zH).set m.version.toNat (encS sn++[C.sl 3 [] 2 0 gs.length false,Bo _]),0⟩,⟨1,0,2,(gs.map zE).set m.zg.toNat ([U g0.zu,C.sl 4 [] 3 0 g0.ends.length false]),0⟩,⟨1,0,3,fF m g0 e0 e0.head 5 e0.zi,0⟩,⟨2,3,1,e0.next.map encI,0⟩,⟨1,245,2,[tf],0⟩,oE qG] (rx:=Ce (fK m a b c)) (jz {m with end_:=x,pc:=p} a b c) J J J J J (zc J (zc J (zc (zj (ownV _)) (zc (zj ownG) (zc (zj ownE) J))))) J J (dd ?_);refine .inl ⟨⟨false,[6,9,11,14,17],[0,1,2,6],[]⟩,au,uH ?_⟩;refine⟨h0,lv,dd ?_⟩;rw[e1];refine⟨_,gv _,(by show 4+1<=5;decide),dd ?_⟩
  first|((refine ya (dd ?_)))|((refine yb (dd ?_)))
  refine hU ?_
  exact⟨.inl J,_,_,.refl _,rfl,zq.xG 6 hC J J J (zJ J (zJ J (zJ (qm (lowV _)) (zJ (qm lowG) (zJ (qm lowE) J))))) J⟩
abbrev Gb(m:fi)(c:fV)(t:Int):fi:={m with end_:=(nX c t).1,pc:=9}
abbrev Kd(g:Gr):Gr:={g with zu:=IntKind.u64.wrap (g.zu+1)}
def Sf(w:Wor)(m:fi)(v0:fp)(g0:Gr)(e0:En)(c:fV)(hv:nI w m v0 g0)(hc:v0.snap.zn[m.zg.toNat]?=some c)(ht:u64 g0.zu)(hl:c.zR.length<1000000000000):
  tj 187 (hE w m m v0 g0 e0 g0.zu e0.head e0.zi []) [.agg tf] (Ce (iz m v0 3 6 (IntKind.i64.wrap g0.zu))) (hE w (Gb m c g0.zu) m v0 g0 e0 (IntKind.u64.wrap (g0.zu+1)) e0.head e0.zi []):=by
 have lg:=hv.lg;have ownV:∀r∈fS w m v0 3,∀c∈r,zx c=true:=zy (enc:=zH) (λ_=>J) J _ _;have ownG:∀r∈fL m v0 g0 g0.zu 4,∀c∈r,zx c=true:=zy (enc:=zE) (λ_=>J) J _ _;have ownE:∀r∈fF m g0 e0 e0.head 5 e0.zi,∀c∈r,zx c=true:=zy (enc:=zA) (λ_=>J) J _ _;have gg:(fL m v0 g0 g0.zu 4)[m.zg.toNat]?=some ([U g0.zu,C.sl 4 [] 3 0 g0.ends.length false]):=gk tM;refine aa func187 ?_;refine FQ [0,1,2,3,4,5] (hE w m m v0 g0 e0 g0.zu e0.head e0.zi [⟨1,245,2,[tf],0⟩,oE qG]) (rx:=.ref 3 [] 2 m.zg.toNat 0) (Hw w m v0 g0 e0 hv) (zc J (zc J (zc (zj ownV) (zc (zj ownG) (zc (zj ownE) J))))) uT J J J (zc J (zc J (zc (zj ownV) (zc (zj ownG) (zc (zj ownE) J))))) uU J (dd ?_);refine⟨_,gg,(by show 0+1<=2;decide),dd ?_⟩;refine FQ [0,1,2,3,4,5] (hE w m m v0 g0 e0 g0.zu e0.head e0.zi [⟨1,245,2,[tf],0⟩,oE qG]) (rx:=.ref 3 [] 2 m.zg.toNat 0) (Hw w m v0 g0 e0 hv) (zc J (zc J (zc (zj ownV) (zc (zj ownG) (zc (zj ownE) J))))) uT J J J (zc J (zc J (zc (zj ownV) (zc (zj ownG) (zc (zj ownE) J))))) uU J (dd ?_);refine⟨_,gg,(by show 0+1<=2;decide),dd ?_⟩;refine⟨_,gg,rfl,dd ?_⟩;rw[pb];have ownG2:∀r∈fL m v0 g0 (IntKind.u64.wrap (g0.zu+1)) 4,∀c∈r,zx c=true:=zy (enc:=zE) (λ_=>J) J _ _;have lowV:∀r∈fS w m v0 3,∀c∈r,qX 6 9 c=true:=zy (enc:=zH) (λ_=>J) J _ _;have lowG:∀r∈fL m v0 g0 (IntKind.u64.wrap (g0.zu+1)) 4,∀c∈r,qX 6 9 c=true:=zy (enc:=zE) (λ_=>J) J _ _;have lowE:∀r∈fF m g0 e0 e0.head 5 e0.zi,∀c∈r,qX 6 9 c=true:=zy (enc:=zA) (λ_=>J) J _ _;have hv2:nI w m v0 (Kd g0):=⟨hv.pv,hv.lv,hv.pg,hv.lg,hv.pe,hv.le⟩;refine .inl ⟨⟨true,[],[],[3,5]⟩,au,uH ?_⟩;refine zZ [0,1,2,3,4,5] (hE w m m v0 g0 e0 (IntKind.u64.wrap (g0.zu+1)) e0.head e0.zi [⟨1,245,2,[tf],0⟩,oE qG]) (rx:=Cc c) (Q9 w m v0 (Kd g0) e0 c hv2 hc) (zc J (zc J (zc (zj ownV) (zc (zj ownG2) (zc (zj ownE) J))))) uT J J J (zc J (zc J (zc (zj ownV) (zc (zj ownG2) (zc (zj ownE) J))))) uU J (dd ?_);refine zZ [] (hE w m m v0 g0 e0 (IntKind.u64.wrap (g0.zu+1)) e0.head e0.zi [⟨1,245,2,[tf],0⟩,oE qG]) (rx:=.fq [I (nX c g0.zu).1,I (nX c g0.zu).2]) (UM c g0.zu ht hl (O8 c)) J J J J J (zc J (zc J (zc (zj ownV) (zc (zj ownG2) (zc (zj ownE) J))))) J J (dd ?_);refine zZ [0,1,2,3,4,5] (hE w (Gb m c g0.zu) m v0 g0 e0 (IntKind.u64.wrap (g0.zu+1)) e0.head e0.zi [⟨1,245,2,[tf],0⟩,oE qG]) (rx:=Ce (iz m v0 3 6 (IntKind.i64.wrap g0.zu))) (HH w m v0 (Kd g0) e0 hv2 (nX c g0.zu).1 9 3 6 (IntKind.i64.wrap g0.zu)) (zc J (zc J (zc (zj ownV) (zc (zj ownG2) (zc (zj ownE) J))))) uT J J J (zc J (zc J (zc (zj ownV) (zc (zj ownG2) (zc (zj ownE) J))))) uU J (dd ?_);exact cQ
def Q6(w:Wor)(m:fi)(v0:fp)(g0:Gr)(e0:En)(hv:nI w m v0 g0)(hw:u64 m.word)(l0: -1<=m.link)(l1:m.link<=2147483646)(hh:u64 e0.head)(hne:e0.head≠m.word):
  tj 192 (hE w m m v0 g0 e0 g0.zu e0.head e0.zi []) [.agg tf] (Ce (iz m v0 5 8 (e0.head%4294967296-1))) (hE w ({m with pc:=9}) m v0 g0 e0 g0.zu e0.head e0.zi []):=by
 (have le:=hv.le);(have ownV:∀r∈fS w m v0 3,∀c∈r,zx c=true:=zy (enc:=zH) (λ_=>J) J _ _);(have ownG:∀r∈fL m v0 g0 g0.zu 4,∀c∈r,zx c=true:=zy (enc:=zE) (λ_=>J) J _ _);(have ownE:∀r∈fF m g0 e0 e0.head 5 e0.zi,∀c∈r,zx c=true:=zy (enc:=zA) (λ_=>J) J _ _);(have lowV:∀r∈fS w m v0 3,∀c∈r,qX 6 9 c=true:=zy (enc:=zH) (λ_=>J) J _ _);(have lowG:∀r∈fL m v0 g0 g0.zu 4,∀c∈r,qX 6 9 c=true:=zy (enc:=zE) (λ_=>J) J _ _)
 have lowE:∀r∈fF m g0 e0 e0.head 5 e0.zi,∀c∈r,qX 6 9 c=true:=zy (enc:=zA) (λ_=>J) J _ _;have ge:(fF m g0 e0 e0.head 5 e0.zi)[m.end_.toNat]?=some ([U e0.head,C.sl 5 [] 1 0 e0.next.length false,I e0.zi]):=gk tJ;have hv2:nI w {m with pc:=9} v0 g0:=⟨hv.pv,hv.lv,hv.pg,hv.lg,hv.pe,hv.le⟩;refine aa func192 ?_;refine .inl ⟨⟨true,[],[],[8]⟩,au,uH ?_⟩;refine zZ [] (hE w m m v0 g0 e0 g0.zu e0.head e0.zi [⟨1,245,2,[tf],0⟩,oE qG]) (rx:=.fq [U (Slp.ja m.word m.link),I 0]) (Slp.HY m.word m.link hw l0 l1) J J J J J (zc J (zc J (zc (zj ownV) (zc (zj ownG) (zc (zj ownE) J))))) J J (dd ?_);refine .inl ⟨⟨true,[],[],[1]⟩,au,uH ?_⟩;refine zZ [0,1,2,3,4,5] (hE w m m v0 g0 e0 g0.zu e0.head e0.zi [⟨1,245,2,[tf],0⟩,oE qG]) (rx:=.ref 4 [] 3 m.end_.toNat 0) (ki w m v0 g0 e0 hv) (zc J (zc J (zc (zj ownV) (zc (zj ownG) (zc (zj ownE) J))))) uT J J J (zc J (zc J (zc (zj ownV) (zc (zj ownG) (zc (zj ownE) J))))) uU J (dd ?_);refine⟨_,ge,cH,dd ?_⟩;refine⟨λ_=>dd ?_,λh=>absurd h (aq hne)⟩;refine .inl ⟨⟨true,[],[],[2,6,7]⟩,au,uH ?_⟩;refine zZ [0,1,2,3,4,5] (hE w ({m with pc:=9}) m v0 g0 e0 g0.zu e0.head e0.zi [⟨1,245,2,[tf],0⟩,oE qG]) (rx:=.ref 4 [] 3 m.end_.toNat 0) (ki w _ v0 g0 e0 hv2) (zc J (zc J (zc (zj ownV) (zc (zj ownG) (zc (zj ownE) J))))) uT J J J (zc J (zc J (zc (zj ownV) (zc (zj ownG) (zc (zj ownE) J))))) uU J (dd ?_);refine⟨_,ge,cH,dd ?_⟩;refine zZ [] (hE w ({m with pc:=9}) m v0 g0 e0 g0.zu e0.head e0.zi [⟨1,245,2,[tf],0⟩,oE qG]) (rx:=I (e0.head%4294967296-1)) (Slp.qN e0.head hh) J J J J J (zc J (zc J (zc (zj ownV) (zc (zj ownG) (zc (zj ownE) J))))) J J (dd ?_);refine zZ [0,1,2,3,4,5] (hE w ({m with pc:=9}) m v0 g0 e0 g0.zu e0.head e0.zi [⟨1,245,2,[tf],0⟩,oE qG]) (rx:=Ce (iz m v0 5 8 (e0.head%4294967296-1))) (HH w m v0 g0 e0 hv m.end_ 9 5 8 (e0.head%4294967296-1)) (zc J (zc J (zc (zj ownV) (zc (zj ownG) (zc (zj ownE) J))))) uT J J J (zc J (zc J (zc (zj ownV) (zc (zj ownG) (zc (zj ownE) J))))) uU J (dd ?_);exact cQ
def QQ(w:Wor)(m:fi)(v0:fp)(g0:Gr)(e0:En)(hv:nI w m v0 g0)(hw:u64 m.word)(l0: -1<=m.link)(l1:m.link<=2147483646)(hne:e0.head=m.word):
  tj 192 (hE w m m v0 g0 e0 g0.zu e0.head e0.zi []) [.agg tf] (Ce (iz m v0 4 8 m.slot)) (hE w ({m with pc:=12}) m v0 g0 e0 g0.zu (Slp.ja m.word m.link) e0.zi []):=by
 (have le:=hv.le);(have ownV:∀r∈fS w m v0 3,∀c∈r,zx c=true:=zy (enc:=zH) (λ_=>J) J _ _);(have ownG:∀r∈fL m v0 g0 g0.zu 4,∀c∈r,zx c=true:=zy (enc:=zE) (λ_=>J) J _ _);(have ownE:∀r∈fF m g0 e0 e0.head 5 e0.zi,∀c∈r,zx c=true:=zy (enc:=zA) (λ_=>J) J _ _);(have lowV:∀r∈fS w m v0 3,∀c∈r,qX 6 9 c=true:=zy (enc:=zH) (λ_=>J) J _ _);(have lowG:∀r∈fL m v0 g0 g0.zu 4,∀c∈r,qX 6 9 c=true:=zy (enc:=zE) (λ_=>J) J _ _)
 have lowE:∀r∈fF m g0 e0 (Slp.ja m.word m.link) 5 e0.zi,∀c∈r,qX 6 9 c=true:=zy (enc:=zA) (λ_=>J) J _ _;have ownE2:∀r∈fF m g0 e0 (Slp.ja m.word m.link) 5 e0.zi,∀c∈r,zx c=true:=zy (enc:=zA) (λ_=>J) J _ _;have ge:(fF m g0 e0 e0.head 5 e0.zi)[m.end_.toNat]?=some ([U e0.head,C.sl 5 [] 1 0 e0.next.length false,I e0.zi]):=gk tJ;refine aa func192 ?_;refine .inl ⟨⟨true,[],[],[8]⟩,au,uH ?_⟩;refine zZ [] (hE w m m v0 g0 e0 g0.zu e0.head e0.zi [⟨1,245,2,[tf],0⟩,oE qG]) (rx:=.fq [U (Slp.ja m.word m.link),I 0]) (Slp.HY m.word m.link hw l0 l1) J J J J J (zc J (zc J (zc (zj ownV) (zc (zj ownG) (zc (zj ownE) J))))) J J (dd ?_);refine .inl ⟨⟨true,[],[],[1]⟩,au,uH ?_⟩;refine zZ [0,1,2,3,4,5] (hE w m m v0 g0 e0 g0.zu e0.head e0.zi [⟨1,245,2,[tf],0⟩,oE qG]) (rx:=.ref 4 [] 3 m.end_.toNat 0) (ki w m v0 g0 e0 hv) (zc J (zc J (zc (zj ownV) (zc (zj ownG) (zc (zj ownE) J))))) uT J J J (zc J (zc J (zc (zj ownV) (zc (zj ownG) (zc (zj ownE) J))))) uU J (dd ?_);refine⟨_,ge,cH,dd ?_⟩;refine⟨λh=>absurd h (by simp[hne]),λ_=>dd ?_⟩;refine hZ ?_
 refine FQ [0,1,2,3,4,5] (hE w m m v0 g0 e0 g0.zu e0.head e0.zi [⟨1,245,2,[tf],0⟩,oE qG]) (rx:=.ref 4 [] 3 m.end_.toNat 0) (ki w m v0 g0 e0 hv) (zc J (zc J (zc (zj ownV) (zc (zj ownG) (zc (zj ownE) J))))) uT J J J (zc J (zc J (zc (zj ownV) (zc (zj ownG) (zc (zj ownE) J))))) uU J (dd ?_);refine⟨_,ge,rfl,dd ?_⟩;rw[pb];refine dd ?_;refine .inl ⟨⟨true,[],[],[5]⟩,au,uH ?_⟩;refine zZ [0,1,2,3,4,5] (hE w ({m with pc:=12}) m v0 g0 e0 g0.zu (Slp.ja m.word m.link) e0.zi [⟨1,245,2,[tf],0⟩,oE qG]) (rx:=Ce (iz m v0 4 8 m.slot)) (HH w m v0 g0 {e0 with head:=Slp.ja m.word m.link} hv m.end_ 12 4 8 m.slot) (zc J (zc J (zc (zj ownV) (zc (zj ownG) (zc (zj ownE2) J))))) uT J J J (zc J (zc J (zc (zj ownV) (zc (zj ownG) (zc (zj ownE2) J))))) uU J (dd ?_);exact cQ
end Go.Wor
namespace Go.Wor
open Go.Ab Go.Proofs Tryz Go.Hy
abbrev nf:C:=.v .nilFunc
abbrev pf(f:FuncId):C:=.fn f [] []
abbrev zzx:List C:=[nf,nf,nf,pf 184,pf 185,pf 186,pf 187,pf 188,pf 189,pf 190,pf 191,pf 192,pf 193,nf,nf,nf,nf,nf,nf,nf,pf 194,pf 195,pf 196,pf 197]
def jC:tj 151 [] [] (.agg zzx) []:=by
 refine ab func151 ?_;exact uI
end Go.Wor
namespace Go.Wor
open Go.Ab Go.Proofs Tryz Go.Hy Go.Gat Go.Nam Go.Hos Go.Con Go.Sna
def Xt{w w':Wor}{m m':fi}{e:fk}(sw:jd w)(ok:ir w)(hl:i64 m.listen)(hpc:m.pc=3)(hs:qd w m=true)(h:tj 184 [oW w,oM m] [.agg tf] (Ce e) [oW w',oM m']):tj 126 [] [Cw w,Cm m] (.fq [Cw w',Cm m',Ce e]) []:=by
 by_cases hn:m.listen<0
 all_goals
  refine ab func126 ?_;(repeat (first|refine uA ?_|refine uB ?_))
  refine ah (zP w m ok hl) ?_;refine⟨λ_=>dd ?_,λh=>absurd ((hs).symm.trans h:true=false) ar⟩;refine hZ ?_
  (repeat (first|refine uA ?_|refine uB ?_))
  refine .inl ⟨⟨true,[2],[1],[0]⟩,au,uH ?_⟩;refine ah jC ?_;refine hU ?_
  (refine⟨aw,aw,pf 184,cI,dd ?_⟩)
  refine hZ ?_
  refine ah (qC w sw) ?_;refine af [5,6] (h) ?_;refine .inl ⟨⟨false,[0,1,2],[5,6,7],[]⟩,au,uH ?_⟩;refine hU ?_
  exact uI
def Xv{w w':Wor}{m m':fi}{e:fk}(sw:jd w)(ok:ir w)(hl:i64 m.listen)(hpc:m.pc=5)(hs:qd w m=true)(hli:0<=m.listen)(h:tj 186 [oW w,oM m] [.agg tf] (Ce e) [oW w',oM m']):tj 126 [] [Cw w,Cm m] (.fq [Cw w',Cm m',Ce e]) []:=by
 have hn:¬m.listen<0:=aw
 all_goals
  refine ab func126 ?_;(repeat (first|refine uA ?_|refine uB ?_))
  refine ah (zP w m ok hl) ?_;refine⟨λ_=>dd ?_,λh=>absurd ((hs).symm.trans h:true=false) ar⟩;refine hZ ?_
  (repeat (first|refine uA ?_|refine uB ?_))
  refine .inl ⟨⟨true,[2],[1],[0]⟩,au,uH ?_⟩;refine ah jC ?_;refine hU ?_
  (refine⟨aw,aw,pf 186,cI,dd ?_⟩)
  refine hZ ?_
  refine ah (qC w sw) ?_;refine af [5,6] (h) ?_;refine .inl ⟨⟨false,[0,1,2],[5,6,7],[]⟩,au,uH ?_⟩;refine hU ?_
  exact uI
def Xx{w w':Wor}{m m':fi}{e:fk}(sw:jd w)(ok:ir w)(hl:i64 m.listen)(hpc:m.pc=7)(hs:qd w m=true)(h:tj 188 [oW w,oM m] [.agg tf] (Ce e) [oW w',oM m']):tj 126 [] [Cw w,Cm m] (.fq [Cw w',Cm m',Ce e]) []:=by
 by_cases hn:m.listen<0
 all_goals
  refine ab func126 ?_;(repeat (first|refine uA ?_|refine uB ?_))
  refine ah (zP w m ok hl) ?_;refine⟨λ_=>dd ?_,λh=>absurd ((hs).symm.trans h:true=false) ar⟩;refine hZ ?_
  (repeat (first|refine uA ?_|refine uB ?_))
  refine .inl ⟨⟨true,[2],[1],[0]⟩,au,uH ?_⟩;refine ah jC ?_;refine hU ?_
  (refine⟨aw,aw,pf 188,cI,dd ?_⟩)
  refine hZ ?_
  refine ah (qC w sw) ?_;refine af [5,6] (h) ?_;refine .inl ⟨⟨false,[0,1,2],[5,6,7],[]⟩,au,uH ?_⟩;refine hU ?_
  exact uI
def Xy{w w':Wor}{m m':fi}{e:fk}(sw:jd w)(ok:ir w)(hl:i64 m.listen)(hpc:m.pc=8)(hs:qd w m=true)(h:tj 189 [oW w,oM m] [.agg tf] (Ce e) [oW w',oM m']):tj 126 [] [Cw w,Cm m] (.fq [Cw w',Cm m',Ce e]) []:=by
 by_cases hn:m.listen<0
 all_goals
  refine ab func126 ?_;(repeat (first|refine uA ?_|refine uB ?_))
  refine ah (zP w m ok hl) ?_;refine⟨λ_=>dd ?_,λh=>absurd ((hs).symm.trans h:true=false) ar⟩;refine hZ ?_
  (repeat (first|refine uA ?_|refine uB ?_))
  refine .inl ⟨⟨true,[2],[1],[0]⟩,au,uH ?_⟩;refine ah jC ?_;refine hU ?_
  (refine⟨aw,aw,pf 189,cI,dd ?_⟩)
  refine hZ ?_
  refine ah (qC w sw) ?_;refine af [5,6] (h) ?_;refine .inl ⟨⟨false,[0,1,2],[5,6,7],[]⟩,au,uH ?_⟩;refine hU ?_
  exact uI
def NL{w w':Wor}{m m':fi}{e:fk}(sw:jd w)(ok:ir w)(hl:i64 m.listen)(hpc:m.pc=9)(hs:qd w m=true)(h:tj 190 [oW w,oM m] [.agg tf] (Ce e) [oW w',oM m']):tj 126 [] [Cw w,Cm m] (.fq [Cw w',Cm m',Ce e]) []:=by
 by_cases hn:m.listen<0
 all_goals
  refine ab func126 ?_;(repeat (first|refine uA ?_|refine uB ?_))
  refine ah (zP w m ok hl) ?_;refine⟨λ_=>dd ?_,λh=>absurd ((hs).symm.trans h:true=false) ar⟩;refine hZ ?_
  (repeat (first|refine uA ?_|refine uB ?_))
  refine .inl ⟨⟨true,[2],[1],[0]⟩,au,uH ?_⟩;refine ah jC ?_;refine hU ?_
  (refine⟨aw,aw,pf 190,cI,dd ?_⟩)
  refine hZ ?_
  refine ah (qC w sw) ?_;refine af [5,6] (h) ?_;refine .inl ⟨⟨false,[0,1,2],[5,6,7],[]⟩,au,uH ?_⟩;refine hU ?_
  exact uI
def Wg{w w':Wor}{m m':fi}{e:fk}(sw:jd w)(ok:ir w)(hl:i64 m.listen)(hpc:m.pc=10)(hs:qd w m=true)(h:tj 191 [oW w,oM m] [.agg tf] (Ce e) [oW w',oM m']):tj 126 [] [Cw w,Cm m] (.fq [Cw w',Cm m',Ce e]) []:=by
 by_cases hn:m.listen<0
 all_goals
  refine ab func126 ?_;(repeat (first|refine uA ?_|refine uB ?_))
  refine ah (zP w m ok hl) ?_;refine⟨λ_=>dd ?_,λh=>absurd ((hs).symm.trans h:true=false) ar⟩;refine hZ ?_
  (repeat (first|refine uA ?_|refine uB ?_))
  refine .inl ⟨⟨true,[2],[1],[0]⟩,au,uH ?_⟩;refine ah jC ?_;refine hU ?_
  (refine⟨aw,aw,pf 191,cI,dd ?_⟩)
  refine hZ ?_
  refine ah (qC w sw) ?_;refine af [5,6] (h) ?_;refine .inl ⟨⟨false,[0,1,2],[5,6,7],[]⟩,au,uH ?_⟩;refine hU ?_
  exact uI
def Vx{w w':Wor}{m m':fi}{e:fk}(sw:jd w)(ok:ir w)(hl:i64 m.listen)(hpc:m.pc=23)(hs:qd w m=true)(h:tj 197 [oW w,oM m] [.agg tf] (Ce e) [oW w',oM m']):tj 126 [] [Cw w,Cm m] (.fq [Cw w',Cm m',Ce e]) []:=by
 by_cases hn:m.listen<0
 all_goals
  refine ab func126 ?_;(repeat (first|refine uA ?_|refine uB ?_))
  refine ah (zP w m ok hl) ?_;refine⟨λ_=>dd ?_,λh=>absurd ((hs).symm.trans h:true=false) ar⟩;refine hZ ?_
  (repeat (first|refine uA ?_|refine uB ?_))
  refine .inl ⟨⟨true,[2],[1],[0]⟩,au,uH ?_⟩;refine ah jC ?_;refine hU ?_
  (refine⟨aw,aw,pf 197,cI,dd ?_⟩)
  refine hZ ?_
  refine ah (qC w sw) ?_;refine af [5,6] (h) ?_;refine .inl ⟨⟨false,[0,1,2],[5,6,7],[]⟩,au,uH ?_⟩;refine hU ?_
  exact uI
def HV{w w':Wor}{m m':fi}{e:fk}(h0:0<=m.pc)(h3:m.pc<3)(h:tj 149 [] [Cw w,Cm m] (.fq [Cw w',Cm m',Ce e]) []):tj 126 [] [Cw w,Cm m] (.fq [Cw w',Cm m',Ce e]) []:=by
 refine ab func126 ?_;refine⟨λ_=>dd ?_,λh=>absurd h aA⟩;refine⟨λ_=>dd ?_,λh=>absurd h aA⟩;refine ah h ?_;exact uI
def Xu{w:Wor}{m m':fi}{e:fk}{ls:List fI}(sw:jd w)(ok:ir w)(hl:i64 m.listen)(hpc:m.pc=4)(hs:qd w m=true)(hli:0<=m.listen)(hll:ls.length=w.ze.length)(h:tj 185 [⟨1,38,8,[[I w.zl,I w.current,I w.lock,lI w.pins,lV w.zd,.sl 2 [] 4 0 w.ze.length false,fU w.counts,lR w.zp]],0⟩,oM m,⟨2,76,4,(w.ze).map qP,0⟩] [.agg tf] (Ce e) [⟨1,38,8,[[I w.zl,I w.current,I w.lock,lI w.pins,lV w.zd,.sl 2 [] 4 0 w.ze.length false,fU w.counts,lR w.zp]],0⟩,oM m',⟨2,76,4,(ls).map qP,0⟩]):tj 126 [] [Cw w,Cm m] (.fq [Cw {w with ze:=ls},Cm m',Ce e]) []:=by
 have hn:¬m.listen<0:=aw
 obtain⟨x,l,hx⟩:∃x l,w.ze=x::l:=by
  obtain⟨v,g,e,su⟩:=x5 hs;cases h:w.ze with
  |nil=>have:=su.listen;rw[h]at this;exact cW
  |cons x l=>exact⟨x,l,rfl⟩
 refine ab func126 ?_;(repeat (first|refine uA ?_|refine uB ?_))
 refine ah (zP w m ok hl) ?_;refine⟨λ_=>dd ?_,λh=>absurd ((hs).symm.trans h:true=false) ar⟩;refine hZ ?_
 (repeat (first|refine uA ?_|refine uB ?_))
 refine .inl ⟨⟨true,[2],[1],[0]⟩,au,uH ?_⟩;refine ah jC ?_;refine hU ?_
 (refine⟨aw,aw,pf 185,cI,dd ?_⟩)
 refine hZ ?_
 refine af [] (vG w sw x l hx) ?_;refine af [6,7,5] (h) ?_;refine .inl ⟨⟨false,[0,1,2],[6,7,8],[]⟩,au,uH ?_⟩;refine hU ?_
 exact dH
def Vw{w:Wor}{m m':fi}{e:fk}{ls:List fI}(sw:jd w)(ok:ir w)(hl:i64 m.listen)(hpc:m.pc=22)(hs:qd w m=true)(hli:0<=m.listen)(hll:ls.length=w.ze.length)(h:tj 196 [⟨1,38,8,[[I w.zl,I w.current,I w.lock,lI w.pins,lV w.zd,.sl 2 [] 4 0 w.ze.length false,fU w.counts,lR w.zp]],0⟩,oM m,⟨2,76,4,(w.ze).map qP,0⟩] [.agg tf] (Ce e) [⟨1,38,8,[[I w.zl,I w.current,I w.lock,lI w.pins,lV w.zd,.sl 2 [] 4 0 w.ze.length false,fU w.counts,lR w.zp]],0⟩,oM m',⟨2,76,4,(ls).map qP,0⟩]):tj 126 [] [Cw w,Cm m] (.fq [Cw {w with ze:=ls},Cm m',Ce e]) []:=by
 have hn:¬m.listen<0:=aw
 obtain⟨x,l,hx⟩:∃x l,w.ze=x::l:=by
  obtain⟨v,g,e,su⟩:=x5 hs;cases h:w.ze with
  |nil=>have:=su.listen;rw[h]at this;exact cW
  |cons x l=>exact⟨x,l,rfl⟩
 refine ab func126 ?_;(repeat (first|refine uA ?_|refine uB ?_))
 refine ah (zP w m ok hl) ?_;refine⟨λ_=>dd ?_,λh=>absurd ((hs).symm.trans h:true=false) ar⟩;refine hZ ?_
 (repeat (first|refine uA ?_|refine uB ?_))
 refine .inl ⟨⟨true,[2],[1],[0]⟩,au,uH ?_⟩;refine ah jC ?_;refine hU ?_
 (refine⟨aw,aw,pf 196,cI,dd ?_⟩)
 refine hZ ?_
 refine af [] (vG w sw x l hx) ?_;refine af [6,7,5] (h) ?_;refine .inl ⟨⟨false,[0,1,2],[6,7,8],[]⟩,au,uH ?_⟩;refine hU ?_
 exact dH
def Wi{w:Wor}{m m':fi}{e:fk}{r0 r1:List Int}(sw:jd w)(ok:ir w)(hl:i64 m.listen)(hpc:m.pc=20)(hs:qd w m=true)(t0:0<=m.zf)(hr:w.counts[m.zf.toNat]?=some r0)(hne:r0≠[])(hll:r1.length=r0.length)
 (h:tj 194 [⟨1,38,8,[[I w.zl,I w.current,I w.lock,lI w.pins,lV w.zd,lL w.ze,.sl 2 [] 1 0 w.counts.length false,lR w.zp]],0⟩,oM m,⟨1,0,1,(w.counts.map zN).set m.zf.toNat [C.sl (3) [] 1 0 r0.length false],0⟩,⟨2,48,1,(r0).map jZ,0⟩] [.agg tf] (Ce e) [⟨1,38,8,[[I w.zl,I w.current,I w.lock,lI w.pins,lV w.zd,lL w.ze,.sl 2 [] 1 0 w.counts.length false,lR w.zp]],0⟩,oM m',⟨1,0,1,(w.counts.map zN).set m.zf.toNat [C.sl (3) [] 1 0 r0.length false],0⟩,⟨2,48,1,(r1).map jZ,0⟩]):tj 126 [] [Cw w,Cm m] (.fq [Cw {w with counts:=w.counts.set m.zf.toNat r1},Cm m',Ce e]) []:=by
 have ml:((w.counts.map zN)).length=w.counts.length:=gu ..;have ml1:(r1.map jZ).length=r1.length:=gu ..;have fj:m.zf.toNat<w.counts.length:=(dW.1 hr).1;have own:∀i,∀r∈(w.counts.map zN).set m.zf.toNat ([C.sl i [] 1 0 r0.length false]),∀c∈r,zx c=true:=λi=>zy (enc:=zN) (λ_=>J) J _ _
 have gt:((w.counts.map zN).set m.zf.toNat ([C.sl 6 [] 1 0 r0.length false]))[m.zf.toNat]?=some ([C.sl 6 [] 1 0 r0.length false]):=gk tS;have est:(((w.counts.map zN).set m.zf.toNat ([C.sl 6 [] 1 0 r0.length false])).set m.zf.toNat [.fh 0 1 (r1.map jZ)])=(w.counts.set m.zf.toNat r1).map zN:=by rw[pb,rj];rfl
 have esh:∀r∈(((w.counts.map zN).set m.zf.toNat ([C.sl 6 [] 1 0 r0.length false])).set m.zf.toNat [.fh 0 1 (r1.map jZ)]),∀c∈r,jc c=true/\zx c=true:=by
  rw[est];exact shut_map (enc:=zN) (λ_=>J) _
 have hp:GA w.counts m.zf.toNat r0:=⟨sw.counts,hr,hne⟩;by_cases hn:m.listen<0
 all_goals
  refine ab func126 ?_;(repeat (first|refine uA ?_|refine uB ?_))
  refine ah (zP w m ok hl) ?_;refine⟨λ_=>dd ?_,λh=>absurd ((hs).symm.trans h:true=false) ar⟩;refine hZ ?_
  (repeat (first|refine uA ?_|refine uB ?_))
  refine .inl ⟨⟨true,[2],[1],[0]⟩,au,uH ?_⟩;refine ah jC ?_;refine hU ?_
  (refine⟨aw,aw,pf 194,cI,dd ?_⟩)
  refine hZ ?_
  refine zZ [] [oW w,oM m,⟨1,38,8,[iQ],0⟩,⟨1,95,44,[iP],0⟩,oE qG,⟨1,0,1,(w.counts.map zN).set m.zf.toNat [C.sl (6) [] 1 0 r0.length false],0⟩,⟨2,48,1,(r0).map jZ,0⟩] (rx:=.agg [I w.zl,I w.current,I w.lock,lI w.pins,lV w.zd,lL w.ze,.sl 5 [] 1 0 w.counts.length false,lR w.zp]) (K7 w sw w.counts J hp) (zc (zj (own 1)) J) J J J J J tH J (dd ?_);refine zZ [7,8,5,6] [oW w,oM m,⟨1,38,8,[iQ],0⟩,⟨1,95,44,[iP],0⟩,oE qG,⟨1,0,1,(w.counts.map zN).set m.zf.toNat [C.sl (6) [] 1 0 r0.length false],0⟩,⟨2,48,1,(r1).map jZ,0⟩,⟨1,38,8,[[I w.zl,I w.current,I w.lock,lI w.pins,lV w.zd,lL w.ze,.sl 5 [] 1 0 w.counts.length false,lR w.zp]],0⟩,oM m'] (rx:=Ce e) h (zc J (zc J (zc (zj (own 3)) J))) cJ J J J (zc J (zc J (zc J (zc J (zc J (zc (zj (own 6)) J)))))) tH J (dd ?_);refine .inl ⟨⟨false,[0,1,2],[7,8,9],[]⟩,au,uH ?_⟩;refine hU ?_
  refine⟨.inl J,_,(zq.zV 5 m.zf.toNat 0 J gt J J (.inr J) aj (by rw[ml1,hll]) (shut_map (enc:=jZ) (λ_=>J) _) (own 6)).trans (zq.zV 2 0 6 J J J J (.inl J) aj aj esh (qa J)),?_⟩;show _=some (C.fq [C.agg [I w.zl,I w.current,I w.lock,lI w.pins,lV w.zd,lL w.ze,C.fh 0 1 ((w.counts.set m.zf.toNat r1).map zN),lR w.zp],Cm m',Ce e]);rw[<-est]
  rfl
def Vv{w:Wor}{m m':fi}{e:fk}{r0 r1:List Int}(sw:jd w)(ok:ir w)(hl:i64 m.listen)(hpc:m.pc=21)(hs:qd w m=true)(t0:0<=m.zf)(hr:w.counts[m.zf.toNat]?=some r0)(hne:r0≠[])(hll:r1.length=r0.length)
 (h:tj 195 [⟨1,38,8,[[I w.zl,I w.current,I w.lock,lI w.pins,lV w.zd,lL w.ze,.sl 2 [] 1 0 w.counts.length false,lR w.zp]],0⟩,oM m,⟨1,0,1,(w.counts.map zN).set m.zf.toNat [C.sl (3) [] 1 0 r0.length false],0⟩,⟨2,48,1,(r0).map jZ,0⟩] [.agg tf] (Ce e) [⟨1,38,8,[[I w.zl,I w.current,I w.lock,lI w.pins,lV w.zd,lL w.ze,.sl 2 [] 1 0 w.counts.length false,lR w.zp]],0⟩,oM m',⟨1,0,1,(w.counts.map zN).set m.zf.toNat [C.sl (3) [] 1 0 r0.length false],0⟩,⟨2,48,1,(r1).map jZ,0⟩]):tj 126 [] [Cw w,Cm m] (.fq [Cw {w with counts:=w.counts.set m.zf.toNat r1},Cm m',Ce e]) []:=by
 have ml:((w.counts.map zN)).length=w.counts.length:=gu ..;have ml1:(r1.map jZ).length=r1.length:=gu ..;have fj:m.zf.toNat<w.counts.length:=(dW.1 hr).1;have own:∀i,∀r∈(w.counts.map zN).set m.zf.toNat ([C.sl i [] 1 0 r0.length false]),∀c∈r,zx c=true:=λi=>zy (enc:=zN) (λ_=>J) J _ _
 have gt:((w.counts.map zN).set m.zf.toNat ([C.sl 6 [] 1 0 r0.length false]))[m.zf.toNat]?=some ([C.sl 6 [] 1 0 r0.length false]):=gk tS;have est:(((w.counts.map zN).set m.zf.toNat ([C.sl 6 [] 1 0 r0.length false])).set m.zf.toNat [.fh 0 1 (r1.map jZ)])=(w.counts.set m.zf.toNat r1).map zN:=by rw[pb,rj];rfl
 have esh:∀r∈(((w.counts.map zN).set m.zf.toNat ([C.sl 6 [] 1 0 r0.length false])).set m.zf.toNat [.fh 0 1 (r1.map jZ)]),∀c∈r,jc c=true/\zx c=true:=by
  rw[est];exact shut_map (enc:=zN) (λ_=>J) _
 have hp:GA w.counts m.zf.toNat r0:=⟨sw.counts,hr,hne⟩;by_cases hn:m.listen<0
 all_goals
  refine ab func126 ?_;(repeat (first|refine uA ?_|refine uB ?_))
  refine ah (zP w m ok hl) ?_;refine⟨λ_=>dd ?_,λh=>absurd ((hs).symm.trans h:true=false) ar⟩;refine hZ ?_
  (repeat (first|refine uA ?_|refine uB ?_))
  refine .inl ⟨⟨true,[2],[1],[0]⟩,au,uH ?_⟩;refine ah jC ?_;refine hU ?_
  (refine⟨aw,aw,pf 195,cI,dd ?_⟩)
  refine hZ ?_
  refine zZ [] [oW w,oM m,⟨1,38,8,[iQ],0⟩,⟨1,95,44,[iP],0⟩,oE qG,⟨1,0,1,(w.counts.map zN).set m.zf.toNat [C.sl (6) [] 1 0 r0.length false],0⟩,⟨2,48,1,(r0).map jZ,0⟩] (rx:=.agg [I w.zl,I w.current,I w.lock,lI w.pins,lV w.zd,lL w.ze,.sl 5 [] 1 0 w.counts.length false,lR w.zp]) (K7 w sw w.counts J hp) (zc (zj (own 1)) J) J J J J J tH J (dd ?_);refine zZ [7,8,5,6] [oW w,oM m,⟨1,38,8,[iQ],0⟩,⟨1,95,44,[iP],0⟩,oE qG,⟨1,0,1,(w.counts.map zN).set m.zf.toNat [C.sl (6) [] 1 0 r0.length false],0⟩,⟨2,48,1,(r1).map jZ,0⟩,⟨1,38,8,[[I w.zl,I w.current,I w.lock,lI w.pins,lV w.zd,lL w.ze,.sl 5 [] 1 0 w.counts.length false,lR w.zp]],0⟩,oM m'] (rx:=Ce e) h (zc J (zc J (zc (zj (own 3)) J))) cJ J J J (zc J (zc J (zc J (zc J (zc J (zc (zj (own 6)) J)))))) tH J (dd ?_);refine .inl ⟨⟨false,[0,1,2],[7,8,9],[]⟩,au,uH ?_⟩;refine hU ?_
  refine⟨.inl J,_,(zq.zV 5 m.zf.toNat 0 J gt J J (.inr J) aj (by rw[ml1,hll]) (shut_map (enc:=jZ) (λ_=>J) _) (own 6)).trans (zq.zV 2 0 6 J J J J (.inl J) aj aj esh (qa J)),?_⟩;show _=some (C.fq [C.agg [I w.zl,I w.current,I w.lock,lI w.pins,lV w.zd,lL w.ze,C.fh 0 1 ((w.counts.set m.zf.toNat r1).map zN),lR w.zp],Cm m',Ce e]);rw[<-est]
  rfl
def jF{α β:Type}(f:α->β)(l:List α)(i:Nat)(a:α)(r:β)(h:f a=r):(l.map f).set i r=(l.set i a).map f:=by rw[rj,h]
abbrev qs(e0:En)(hd ac:Int):En:={e0 with head:=hd,zi:=ac}
abbrev yT(m:fi)(g0:Gr)(e0:En)(tk hd ac:Int):Gr:={g0 with zu:=tk,ends:=g0.ends.set m.end_.toNat (qs e0 hd ac)}
abbrev xq(m:fi)(v0:fp)(g0:Gr)(e0:En)(tk hd ac:Int):fp:={v0 with zo:=v0.zo.set m.zg.toNat (yT m g0 e0 tk hd ac)}
abbrev mU(w:Wor)(m:fi)(v0:fp)(g0:Gr)(e0:En)(tk hd ac:Int):Wor:={w with zd:=w.zd.set m.version.toNat (xq m v0 g0 e0 tk hd ac)}
def Xw{w:Wor}{m m':fi}{e:fk}{v0:fp}{g0:Gr}{e0:En}{tk hd ac:Int}(sw:jd w)(ok:ir w)(hl:i64 m.listen)(hpc:m.pc=6)(hs:qd w m=true)(hat:ic w m v0 g0 e0)(hne:e0.next≠[])
 (h:tj 187 [⟨1,38,8,[(iZ w 2)],0⟩,oM m,⟨1,0,5,fS w m v0 (3),0⟩,⟨1,0,2,fL m v0 g0 (g0.zu) (4),0⟩,⟨1,0,3,fF m g0 e0 (e0.head) (5) (e0.zi),0⟩,⟨2,3,1,e0.next.map encI,0⟩] [.agg tf] (Ce e) [⟨1,38,8,[(iZ w 2)],0⟩,oM m',⟨1,0,5,fS w m v0 (3),0⟩,⟨1,0,2,fL m v0 g0 (tk) (4),0⟩,⟨1,0,3,fF m g0 e0 (hd) (5) (ac),0⟩,⟨2,3,1,e0.next.map encI,0⟩]):tj 126 [] [Cw w,Cm m] (.fq [Cw (mU w m v0 g0 e0 tk hd ac),Cm m',Ce e]) []:=by
 have lv:=hat.ln.lv;have lg:=hat.ln.lg;have le:=hat.ln.le;have lF:=sw.zd.2 v0 (dY hat.at_);have hp:BO w.zd m.version.toNat v0 m.zg.toNat g0 m.end_.toNat e0:=⟨⟨⟨lF.2 g0 (dY hat.fG),hat.fP,hne⟩,lF,hat.fG⟩,sw.zd,hat.at_⟩;have ownV:∀i,∀r∈fS w m v0 (i),∀c∈r,zx c=true:=λi=>zy (enc:=zH) (λ_=>J) J _ _
 have ownG:∀i t,∀r∈fL m v0 g0 (t) (i),∀c∈r,zx c=true:=λi t=>zy (enc:=zE) (λ_=>J) J _ _
 have ownE:∀i a b,∀r∈fF m g0 e0 (a) (i) (b),∀c∈r,zx c=true:=λi a b=>zy (enc:=zA) (λ_=>J) J _ _
 have gv:(fS w m v0 (6))[m.version.toNat]?=some ((encS v0.snap++[C.sl (6) [] 2 0 v0.zo.length false,Bo v0.zW])):=gk tP;have gg:(fL m v0 g0 (tk) (7))[m.zg.toNat]?=some ([U (tk),C.sl (7) [] 3 0 g0.ends.length false]):=gk tM;have ge:(fF m g0 e0 (hd) (8) (ac))[m.end_.toNat]?=some ([U (hd),C.sl (8) [] 1 0 e0.next.length false,I (ac)]):=gk tJ;have estE:((fF m g0 e0 (hd) (8) (ac)).set m.end_.toNat [U hd,C.fh 0 1 (e0.next.map encI),I ac])=(g0.ends.set m.end_.toNat (qs e0 hd ac)).map zA:=cK
 have estG:((fL m v0 g0 (tk) (7)).set m.zg.toNat [U tk,C.fh 0 3 (((g0.ends.set m.end_.toNat (qs e0 hd ac)).map zA))])=(v0.zo.set m.zg.toNat (yT m g0 e0 tk hd ac)).map zE:=cL
 have estV:((fS w m v0 (6)).set m.version.toNat (encS v0.snap++[C.fh 0 2 (((v0.zo.set m.zg.toNat (yT m g0 e0 tk hd ac)).map zE)),Bo v0.zW]))=(w.zd.set m.version.toNat (xq m v0 g0 e0 tk hd ac)).map zH:=cM
 have eshE:∀r∈((fF m g0 e0 (hd) (8) (ac)).set m.end_.toNat [U hd,C.fh 0 1 (e0.next.map encI),I ac]),∀c∈r,jc c=true/\zx c=true:=by
  exact dg
 have eshG:∀r∈((fL m v0 g0 (tk) (7)).set m.zg.toNat [U tk,C.fh 0 3 ((fF m g0 e0 (hd) (8) (ac)).set m.end_.toNat [U hd,C.fh 0 1 (e0.next.map encI),I ac])]),∀c∈r,jc c=true/\zx c=true:=by
  exact de
 have eshV:∀r∈((fS w m v0 (6)).set m.version.toNat (encS v0.snap++[C.fh 0 2 ((fL m v0 g0 (tk) (7)).set m.zg.toNat [U tk,C.fh 0 3 ((fF m g0 e0 (hd) (8) (ac)).set m.end_.toNat [U hd,C.fh 0 1 (e0.next.map encI),I ac])]),Bo v0.zW])),∀c∈r,jc c=true/\zx c=true:=by
  exact dc
 by_cases hn:m.listen<0
 all_goals
  refine ab func126 ?_;(repeat (first|refine uA ?_|refine uB ?_))
  refine ah (zP w m ok hl) ?_;refine⟨λ_=>dd ?_,λh=>absurd ((hs).symm.trans h:true=false) ar⟩;refine hZ ?_
  (repeat (first|refine uA ?_|refine uB ?_))
  refine .inl ⟨⟨true,[2],[1],[0]⟩,au,uH ?_⟩;refine ah jC ?_;refine hU ?_
  (refine⟨aw,aw,pf 187,cI,dd ?_⟩)
  refine hZ ?_
  refine zZ [] [oW w,oM m,⟨1,38,8,[iQ],0⟩,⟨1,95,44,[iP],0⟩,oE qG,⟨1,0,5,fS w m v0 (6),0⟩,⟨1,0,2,fL m v0 g0 (g0.zu) (7),0⟩,⟨1,0,3,fF m g0 e0 (e0.head) (8) (e0.zi),0⟩,⟨2,3,1,e0.next.map encI,0⟩] (rx:=.agg (iZ w 5)) (yU w sw w.zd J hp) (zc (zj (ownV 1)) (zc (zj (ownG 2 _)) (zc (zj (ownE 3 _ _)) J))) J J J J J uV J (dd ?_);refine zZ [9,10,5,6,7,8] [oW w,oM m,⟨1,38,8,[iQ],0⟩,⟨1,95,44,[iP],0⟩,oE qG,⟨1,0,5,fS w m v0 (6),0⟩,⟨1,0,2,fL m v0 g0 (tk) (7),0⟩,⟨1,0,3,fF m g0 e0 (hd) (8) (ac),0⟩,⟨2,3,1,e0.next.map encI,0⟩,⟨1,38,8,[(iZ w 5)],0⟩,oM m'] (rx:=Ce e) h (zc J (zc J (zc (zj (ownV 3)) (zc (zj (ownG 4 _)) (zc (zj (ownE 5 _ _)) J))))) tB J J J (zc J (zc J (zc J (zc J (zc J (zc (zj (ownV 6)) (zc (zj (ownG 7 _)) (zc (zj (ownE 8 _ _)) J)))))))) uV J (dd ?_);refine .inl ⟨⟨false,[0,1,2],[9,10,11],[]⟩,au,uH ?_⟩;refine hU ?_
  refine⟨.inl J,_,(((zq.zV 7 m.end_.toNat 1 J ge J J (.inr J) aj aj (shut_map (enc:=encI) (λ_=>J) _) (ownE 8 _ _)).trans (zq.zV 6 m.zg.toNat 1 J gg J J (.inl J) aj aj eshE (ownG 7 _))).trans (zq.zV 5 m.version.toNat 3 J gv J J (.inl J) aj aj eshG (ownV 6))).trans (zq.zV 2 0 4 J J J J (.inl J) aj aj eshV (qa J)),?_⟩;show _=some (C.fq [C.agg [I w.zl,I w.current,I w.lock,lI w.pins,C.fh 0 5 ((w.zd.set m.version.toNat (xq m v0 g0 e0 tk hd ac)).map zH),lL w.ze,fU w.counts,lR w.zp],Cm m',Ce e]);rw[<-estV,<-estG,<-estE]
  rfl
def M5{w:Wor}{m m':fi}{e:fk}{v0:fp}{g0:Gr}{e0:En}{tk hd ac:Int}(sw:jd w)(ok:ir w)(hl:i64 m.listen)(hpc:m.pc=11)(hs:qd w m=true)(hat:ic w m v0 g0 e0)(hne:e0.next≠[])
 (h:tj 192 [⟨1,38,8,[(iZ w 2)],0⟩,oM m,⟨1,0,5,fS w m v0 (3),0⟩,⟨1,0,2,fL m v0 g0 (g0.zu) (4),0⟩,⟨1,0,3,fF m g0 e0 (e0.head) (5) (e0.zi),0⟩,⟨2,3,1,e0.next.map encI,0⟩] [.agg tf] (Ce e) [⟨1,38,8,[(iZ w 2)],0⟩,oM m',⟨1,0,5,fS w m v0 (3),0⟩,⟨1,0,2,fL m v0 g0 (tk) (4),0⟩,⟨1,0,3,fF m g0 e0 (hd) (5) (ac),0⟩,⟨2,3,1,e0.next.map encI,0⟩]):tj 126 [] [Cw w,Cm m] (.fq [Cw (mU w m v0 g0 e0 tk hd ac),Cm m',Ce e]) []:=by
 have lv:=hat.ln.lv;have lg:=hat.ln.lg;have le:=hat.ln.le;have lF:=sw.zd.2 v0 (dY hat.at_);have hp:BO w.zd m.version.toNat v0 m.zg.toNat g0 m.end_.toNat e0:=⟨⟨⟨lF.2 g0 (dY hat.fG),hat.fP,hne⟩,lF,hat.fG⟩,sw.zd,hat.at_⟩;have ownV:∀i,∀r∈fS w m v0 (i),∀c∈r,zx c=true:=λi=>zy (enc:=zH) (λ_=>J) J _ _
 have ownG:∀i t,∀r∈fL m v0 g0 (t) (i),∀c∈r,zx c=true:=λi t=>zy (enc:=zE) (λ_=>J) J _ _
 have ownE:∀i a b,∀r∈fF m g0 e0 (a) (i) (b),∀c∈r,zx c=true:=λi a b=>zy (enc:=zA) (λ_=>J) J _ _
 have gv:(fS w m v0 (6))[m.version.toNat]?=some ((encS v0.snap++[C.sl (6) [] 2 0 v0.zo.length false,Bo v0.zW])):=gk tP;have gg:(fL m v0 g0 (tk) (7))[m.zg.toNat]?=some ([U (tk),C.sl (7) [] 3 0 g0.ends.length false]):=gk tM;have ge:(fF m g0 e0 (hd) (8) (ac))[m.end_.toNat]?=some ([U (hd),C.sl (8) [] 1 0 e0.next.length false,I (ac)]):=gk tJ;have estE:((fF m g0 e0 (hd) (8) (ac)).set m.end_.toNat [U hd,C.fh 0 1 (e0.next.map encI),I ac])=(g0.ends.set m.end_.toNat (qs e0 hd ac)).map zA:=cK
 have estG:((fL m v0 g0 (tk) (7)).set m.zg.toNat [U tk,C.fh 0 3 (((g0.ends.set m.end_.toNat (qs e0 hd ac)).map zA))])=(v0.zo.set m.zg.toNat (yT m g0 e0 tk hd ac)).map zE:=cL
 have estV:((fS w m v0 (6)).set m.version.toNat (encS v0.snap++[C.fh 0 2 (((v0.zo.set m.zg.toNat (yT m g0 e0 tk hd ac)).map zE)),Bo v0.zW]))=(w.zd.set m.version.toNat (xq m v0 g0 e0 tk hd ac)).map zH:=cM
 have eshE:∀r∈((fF m g0 e0 (hd) (8) (ac)).set m.end_.toNat [U hd,C.fh 0 1 (e0.next.map encI),I ac]),∀c∈r,jc c=true/\zx c=true:=by
  exact dg
 have eshG:∀r∈((fL m v0 g0 (tk) (7)).set m.zg.toNat [U tk,C.fh 0 3 ((fF m g0 e0 (hd) (8) (ac)).set m.end_.toNat [U hd,C.fh 0 1 (e0.next.map encI),I ac])]),∀c∈r,jc c=true/\zx c=true:=by
  exact de
 have eshV:∀r∈((fS w m v0 (6)).set m.version.toNat (encS v0.snap++[C.fh 0 2 ((fL m v0 g0 (tk) (7)).set m.zg.toNat [U tk,C.fh 0 3 ((fF m g0 e0 (hd) (8) (ac)).set m.end_.toNat [U hd,C.fh 0 1 (e0.next.map encI),I ac])]),Bo v0.zW])),∀c∈r,jc c=true/\zx c=true:=by
  exact dc
 by_cases hn:m.listen<0
 all_goals
  refine ab func126 ?_;(repeat (first|refine uA ?_|refine uB ?_))
  refine ah (zP w m ok hl) ?_;refine⟨λ_=>dd ?_,λh=>absurd ((hs).symm.trans h:true=false) ar⟩;refine hZ ?_
  (repeat (first|refine uA ?_|refine uB ?_))
  refine .inl ⟨⟨true,[2],[1],[0]⟩,au,uH ?_⟩;refine ah jC ?_;refine hU ?_
  (refine⟨aw,aw,pf 192,cI,dd ?_⟩)
  refine hZ ?_
  refine zZ [] [oW w,oM m,⟨1,38,8,[iQ],0⟩,⟨1,95,44,[iP],0⟩,oE qG,⟨1,0,5,fS w m v0 (6),0⟩,⟨1,0,2,fL m v0 g0 (g0.zu) (7),0⟩,⟨1,0,3,fF m g0 e0 (e0.head) (8) (e0.zi),0⟩,⟨2,3,1,e0.next.map encI,0⟩] (rx:=.agg (iZ w 5)) (yU w sw w.zd J hp) (zc (zj (ownV 1)) (zc (zj (ownG 2 _)) (zc (zj (ownE 3 _ _)) J))) J J J J J uV J (dd ?_);refine zZ [9,10,5,6,7,8] [oW w,oM m,⟨1,38,8,[iQ],0⟩,⟨1,95,44,[iP],0⟩,oE qG,⟨1,0,5,fS w m v0 (6),0⟩,⟨1,0,2,fL m v0 g0 (tk) (7),0⟩,⟨1,0,3,fF m g0 e0 (hd) (8) (ac),0⟩,⟨2,3,1,e0.next.map encI,0⟩,⟨1,38,8,[(iZ w 5)],0⟩,oM m'] (rx:=Ce e) h (zc J (zc J (zc (zj (ownV 3)) (zc (zj (ownG 4 _)) (zc (zj (ownE 5 _ _)) J))))) tB J J J (zc J (zc J (zc J (zc J (zc J (zc (zj (ownV 6)) (zc (zj (ownG 7 _)) (zc (zj (ownE 8 _ _)) J)))))))) uV J (dd ?_);refine .inl ⟨⟨false,[0,1,2],[9,10,11],[]⟩,au,uH ?_⟩;refine hU ?_
  refine⟨.inl J,_,(((zq.zV 7 m.end_.toNat 1 J ge J J (.inr J) aj aj (shut_map (enc:=encI) (λ_=>J) _) (ownE 8 _ _)).trans (zq.zV 6 m.zg.toNat 1 J gg J J (.inl J) aj aj eshE (ownG 7 _))).trans (zq.zV 5 m.version.toNat 3 J gv J J (.inl J) aj aj eshG (ownV 6))).trans (zq.zV 2 0 4 J J J J (.inl J) aj aj eshV (qa J)),?_⟩;show _=some (C.fq [C.agg [I w.zl,I w.current,I w.lock,lI w.pins,C.fh 0 5 ((w.zd.set m.version.toNat (xq m v0 g0 e0 tk hd ac)).map zH),lL w.ze,fU w.counts,lR w.zp],Cm m',Ce e]);rw[<-estV,<-estG,<-estE]
  rfl
def Wh{w:Wor}{m m':fi}{e:fk}{v0:fp}{g0:Gr}{e0:En}{tk hd ac:Int}(sw:jd w)(ok:ir w)(hl:i64 m.listen)(hpc:m.pc=12)(hs:qd w m=true)(hat:ic w m v0 g0 e0)(hne:e0.next≠[])
 (h:tj 193 [⟨1,38,8,[(iZ w 2)],0⟩,oM m,⟨1,0,5,fS w m v0 (3),0⟩,⟨1,0,2,fL m v0 g0 (g0.zu) (4),0⟩,⟨1,0,3,fF m g0 e0 (e0.head) (5) (e0.zi),0⟩,⟨2,3,1,e0.next.map encI,0⟩] [.agg tf] (Ce e) [⟨1,38,8,[(iZ w 2)],0⟩,oM m',⟨1,0,5,fS w m v0 (3),0⟩,⟨1,0,2,fL m v0 g0 (tk) (4),0⟩,⟨1,0,3,fF m g0 e0 (hd) (5) (ac),0⟩,⟨2,3,1,e0.next.map encI,0⟩]):tj 126 [] [Cw w,Cm m] (.fq [Cw (mU w m v0 g0 e0 tk hd ac),Cm m',Ce e]) []:=by
 have lv:=hat.ln.lv;have lg:=hat.ln.lg;have le:=hat.ln.le;have lF:=sw.zd.2 v0 (dY hat.at_);have hp:BO w.zd m.version.toNat v0 m.zg.toNat g0 m.end_.toNat e0:=⟨⟨⟨lF.2 g0 (dY hat.fG),hat.fP,hne⟩,lF,hat.fG⟩,sw.zd,hat.at_⟩;have ownV:∀i,∀r∈fS w m v0 (i),∀c∈r,zx c=true:=λi=>zy (enc:=zH) (λ_=>J) J _ _
 have ownG:∀i t,∀r∈fL m v0 g0 (t) (i),∀c∈r,zx c=true:=λi t=>zy (enc:=zE) (λ_=>J) J _ _
 have ownE:∀i a b,∀r∈fF m g0 e0 (a) (i) (b),∀c∈r,zx c=true:=λi a b=>zy (enc:=zA) (λ_=>J) J _ _
 have gv:(fS w m v0 (6))[m.version.toNat]?=some ((encS v0.snap++[C.sl (6) [] 2 0 v0.zo.length false,Bo v0.zW])):=gk tP;have gg:(fL m v0 g0 (tk) (7))[m.zg.toNat]?=some ([U (tk),C.sl (7) [] 3 0 g0.ends.length false]):=gk tM;have ge:(fF m g0 e0 (hd) (8) (ac))[m.end_.toNat]?=some ([U (hd),C.sl (8) [] 1 0 e0.next.length false,I (ac)]):=gk tJ;have estE:((fF m g0 e0 (hd) (8) (ac)).set m.end_.toNat [U hd,C.fh 0 1 (e0.next.map encI),I ac])=(g0.ends.set m.end_.toNat (qs e0 hd ac)).map zA:=cK
 have estG:((fL m v0 g0 (tk) (7)).set m.zg.toNat [U tk,C.fh 0 3 (((g0.ends.set m.end_.toNat (qs e0 hd ac)).map zA))])=(v0.zo.set m.zg.toNat (yT m g0 e0 tk hd ac)).map zE:=cL
 have estV:((fS w m v0 (6)).set m.version.toNat (encS v0.snap++[C.fh 0 2 (((v0.zo.set m.zg.toNat (yT m g0 e0 tk hd ac)).map zE)),Bo v0.zW]))=(w.zd.set m.version.toNat (xq m v0 g0 e0 tk hd ac)).map zH:=cM
 have eshE:∀r∈((fF m g0 e0 (hd) (8) (ac)).set m.end_.toNat [U hd,C.fh 0 1 (e0.next.map encI),I ac]),∀c∈r,jc c=true/\zx c=true:=by
  exact dg
 have eshG:∀r∈((fL m v0 g0 (tk) (7)).set m.zg.toNat [U tk,C.fh 0 3 ((fF m g0 e0 (hd) (8) (ac)).set m.end_.toNat [U hd,C.fh 0 1 (e0.next.map encI),I ac])]),∀c∈r,jc c=true/\zx c=true:=by
  exact de
 have eshV:∀r∈((fS w m v0 (6)).set m.version.toNat (encS v0.snap++[C.fh 0 2 ((fL m v0 g0 (tk) (7)).set m.zg.toNat [U tk,C.fh 0 3 ((fF m g0 e0 (hd) (8) (ac)).set m.end_.toNat [U hd,C.fh 0 1 (e0.next.map encI),I ac])]),Bo v0.zW])),∀c∈r,jc c=true/\zx c=true:=by
  exact dc
 by_cases hn:m.listen<0
 all_goals
  refine ab func126 ?_;(repeat (first|refine uA ?_|refine uB ?_))
  refine ah (zP w m ok hl) ?_;refine⟨λ_=>dd ?_,λh=>absurd ((hs).symm.trans h:true=false) ar⟩;refine hZ ?_
  (repeat (first|refine uA ?_|refine uB ?_))
  refine .inl ⟨⟨true,[2],[1],[0]⟩,au,uH ?_⟩;refine ah jC ?_;refine hU ?_
  (refine⟨aw,aw,pf 193,cI,dd ?_⟩)
  refine hZ ?_
  refine zZ [] [oW w,oM m,⟨1,38,8,[iQ],0⟩,⟨1,95,44,[iP],0⟩,oE qG,⟨1,0,5,fS w m v0 (6),0⟩,⟨1,0,2,fL m v0 g0 (g0.zu) (7),0⟩,⟨1,0,3,fF m g0 e0 (e0.head) (8) (e0.zi),0⟩,⟨2,3,1,e0.next.map encI,0⟩] (rx:=.agg (iZ w 5)) (yU w sw w.zd J hp) (zc (zj (ownV 1)) (zc (zj (ownG 2 _)) (zc (zj (ownE 3 _ _)) J))) J J J J J uV J (dd ?_);refine zZ [9,10,5,6,7,8] [oW w,oM m,⟨1,38,8,[iQ],0⟩,⟨1,95,44,[iP],0⟩,oE qG,⟨1,0,5,fS w m v0 (6),0⟩,⟨1,0,2,fL m v0 g0 (tk) (7),0⟩,⟨1,0,3,fF m g0 e0 (hd) (8) (ac),0⟩,⟨2,3,1,e0.next.map encI,0⟩,⟨1,38,8,[(iZ w 5)],0⟩,oM m'] (rx:=Ce e) h (zc J (zc J (zc (zj (ownV 3)) (zc (zj (ownG 4 _)) (zc (zj (ownE 5 _ _)) J))))) tB J J J (zc J (zc J (zc J (zc J (zc J (zc (zj (ownV 6)) (zc (zj (ownG 7 _)) (zc (zj (ownE 8 _ _)) J)))))))) uV J (dd ?_);refine .inl ⟨⟨false,[0,1,2],[9,10,11],[]⟩,au,uH ?_⟩;refine hU ?_
  refine⟨.inl J,_,(((zq.zV 7 m.end_.toNat 1 J ge J J (.inr J) aj aj (shut_map (enc:=encI) (λ_=>J) _) (ownE 8 _ _)).trans (zq.zV 6 m.zg.toNat 1 J gg J J (.inl J) aj aj eshE (ownG 7 _))).trans (zq.zV 5 m.version.toNat 3 J gv J J (.inl J) aj aj eshG (ownV 6))).trans (zq.zV 2 0 4 J J J J (.inl J) aj aj eshV (qa J)),?_⟩;show _=some (C.fq [C.agg [I w.zl,I w.current,I w.lock,lI w.pins,C.fh 0 5 ((w.zd.set m.version.toNat (xq m v0 g0 e0 tk hd ac)).map zH),lL w.ze,fU w.counts,lR w.zp],Cm m',Ce e]);rw[<-estV,<-estG,<-estE]
  rfl
end Go.Wor
