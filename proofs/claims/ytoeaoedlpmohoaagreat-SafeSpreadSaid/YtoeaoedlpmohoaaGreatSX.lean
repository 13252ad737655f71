import Derived.Test.YtoeaoedlpmohoaaGreatSW
import Derived.Test.YtoeaoedlpmohoaaGreatSV
set_option linter.all false
set_option maxRecDepth 100000
set_option maxHeartbeats 4000000
namespace Go.Wor
open Go.Ab Go.Proofs Tryz Go.Hy Go.Gat Go.Nam Go.Hos Go.Con Go.Sna
abbrev FY(w:Wor)(m:lh):lh:={m with version:=w.current,zi:=0,end_:=0,other:=0,slot:=0,listen:=zD w.zf m.op.listen,pc:=4}
abbrev Qr(e:lD):lD:={e with zQ:=true}
def zgD(w:Wor)(m:lh)(hl:w.zf.length<4611686018427387904):
  tp 184 [oW w,oM m] [.agg to] (Ce (Qr (mD m 1 3 w.current))) [oW w,oM (if zD w.zf m.op.listen<0 then BB (FY w m) 2 else FY w m)]:=by
 refine aa func184 ?_;refine .inr ⟨⟨[0,2,5,6],[0,1,2],true⟩,au,λ_=>O,_,uH ?_,λt2 H2 h=>h⟩;refine⟨_,ai [1] (jY m 1 3 w.current),uH ?_⟩;(refine⟨uH ?_,trivial⟩);refine td ?_
 (refine⟨uH ?_,trivial⟩);refine td ?_
 (refine⟨_,_,.refl _,uH ?_⟩)
 refine .inl ⟨⟨true,[],[],[12]⟩,au,uH ?_⟩;refine ah (JP w.zf m.op.listen hl) ?_;refine td ?_
 refine⟨λh1=>?_,λh1=>?_⟩
 ·have e1:zD w.zf m.op.listen<0:=by simpa using h1
  rw[pA e1];refine dd ?_;refine af [1] (wO (FY w m) 2) ?_;exact di
 ·have e1:¬zD w.zf m.op.listen<0:=by simpa using h1
  rw[pw e1];refine dd ?_;exact di
def zqG(w:Wor)(m:lh)(sw:jF w)(ok:nk w)(hl:i64 m.listen)(hs:ql w m=true):
  tp 197 [oW w,oM m] [.agg to] (Ce {Jm m with done:=true,answer:=m.answer}) [oW (BK w m.zg.toNat 0),oM ({m with done:=true})]:=by
 refine aa func197 ?_;refine .inr ⟨⟨[1,3,5,7,8],[0,1,2],true⟩,au,λ_=>O,λt H=>t=(.za::.ref 2 [] 2 0 0::.ref 3 [] 23 0 0::.ref 4 [] 8 0 0::.ref 5 [] 23 0 0::mF (mF (mF ([.za,.za,.za,.za]))))/\H=[oW w,oM m,⟨1,245,2,[to],0⟩,oE qV,oW (BK w m.zg.toNat 0),oE (Jm m)],?_,?_⟩
 ·conv=>whnf
  refine⟨_,ai [] (zvJ w m sw ok hl hs),uH ?_⟩;repeat' (first|(exact trivial)|(refine⟨rfl,uH ?_⟩)|(exact⟨_,_,zt.lQ [0,1,2,3,4,5] [1,2,3,4] _ _ O O O O,rfl,rfl⟩)|(exact⟨_,_,zt.lQ [0,1,2,3,5,4] [1,2,3,4] _ _ O O O O,rfl,rfl⟩)|(refine And.intro ?_ ?_ <;> (conv=>whnf)))
 rintro _ _ ⟨rfl,rfl⟩;conv=>whnf
 refine .inr ⟨⟨[1,3],[2],true⟩,au,λ_=>O,λt H=>t=(.za::.ref 2 [] 2 0 0::.ref 3 [] 23 0 0::.za::.ref 5 [] 23 0 0::mF (mF (mF ([.za,.za,.za,.za]))))/\H=[oW (BK w m.zg.toNat 0),oM ({m with done:=true}),⟨1,245,2,[to],0⟩,oE qV,oW (BK w m.zg.toNat 0),oE ({Jm m with done:=true,answer:=m.answer})],?_,?_⟩
 ·conv=>whnf
  repeat' (first|(exact trivial)|(refine⟨rfl,uH ?_⟩)|(exact⟨_,_,zt.mask [1,2,4] _ _,rfl,rfl⟩)|(refine And.intro ?_ ?_ <;> (conv=>whnf)))
 rintro _ _ ⟨rfl,rfl⟩;conv=>whnf
 exact di
def vp(c:mG)(d:Int):Int:=((lu c)[(d%(lu c).length).toNat]?).getD 0
def xu(c:mG)(d0 d1:Int):Int×Int×Int:=if (lu c).length=0 then (0,0,5) else (vp c d0,vp c d1,0)
def zvr{d:Int}{n:Nat}(hd:i64 d)(hn:0<n)(hm:n<1000000000000):IntKind.i64.wrap (d.tmod n+n)=d.tmod n+n/\(d.tmod n+n).tmod n=d%n:=by
 have h1:=Int.tmod_lt_of_pos d (show(0:Int)<n by omega);have h2:=Int.lt_tmod_of_pos d (show(0:Int)<n by omega);refine⟨qi aw aw,?_⟩;rw[uo aw,Int.add_emod_right];rw[Int.tmod_def,Int.sub_mul_emod_self_left]
def U4{c:mG}{d:Int}(hd:i64 d)(hn:0<(lu c).length)(hm:(lu c).length<1000000000000){n:Nat}(e:n=(lu c).length):
  0<=(IntKind.i64.wrap (d.tmod n+n)).tmod n/\((lu c).map encI)[((IntKind.i64.wrap (d.tmod n+n)).tmod n).toNat]?=some [I (vp c d)]:=by
 subst e;obtain⟨e1,e2⟩:=zvr hd hn hm;rw[e1,e2];have h0:(0:Int)<(lu c).length:=aw
 have h1:=eF d (show((lu c).length:Int)≠0 by omega);have h2:=eu d h0;refine⟨h1,?_⟩;have hi:(lu c)[(d%((lu c).length:Int)).toNat]?=some ((lu c)[(d%((lu c).length:Int)).toNat]'aw):=pa _;unfold vp;rw[pj,hi]
 rfl
def S7(c:mG)(d0 d1:Int)(h0:i64 d0)(h1:i64 d1)(hl:c.zE.length<1000000000000)(hh:(lu c).length<=c.zE.length):tp 23 [] [Cc c,I d0,I d1] (.lK [I (xu c d0 d1).1,I (xu c d0 d1).2.1,I (xu c d0 d1).2.2]) []:=by
 have ml:((lu c).map encI).length=(lu c).length:=pB ..;refine ab func23 ?_;refine ah (xW c hl) ?_;rw[ml];refine⟨λhz=>?_,λhz=>?_⟩
 ·unfold xu;have hz:=pF hz;rw[pA aw];exact dT
 ·unfold xu;have hz:=sK hz;rw[pw aw];refine dd ?_;have hw:(((lu c).length:Nat):Int)≠0:=by omega
  refine Ea.Fi 3 (LoopN.step ?_);conv=>whnf
  refine tf ?_
  (refine⟨ar,ar,dd ?_⟩)
  split;(rotate_left;(rename_i hno;exact(hno _ (yn O O O hw)).elim));(rename_i v e;cases e.symm.trans (yn rfl rfl rfl hw));refine dd ?_
  split;(rotate_left;(rename_i hno;exact(hno _ (yn O O O hw)).elim));(rename_i v e;cases e.symm.trans (yn rfl rfl rfl hw));refine dd ?_
  obtain⟨p0,p1⟩:=U4 h0 (c:=c) aw aw O;refine⟨p0,_,p1,dd ?_⟩;(refine⟨ar,ar,dd ?_⟩)
  refine .inl ⟨rfl,LoopN.step (uH ?_)⟩;refine tf ?_
  (refine⟨ar,ar,dd ?_⟩)
  split;(rotate_left;(rename_i hno;exact(hno _ (yn O O O hw)).elim));(rename_i v e;cases e.symm.trans (yn rfl rfl rfl hw));refine dd ?_
  split;(rotate_left;(rename_i hno;exact(hno _ (yn O O O hw)).elim));(rename_i v e;cases e.symm.trans (yn rfl rfl rfl hw));refine dd ?_
  obtain⟨p2,p3⟩:=U4 h1 (c:=c) aw aw O;refine⟨p2,_,p3,dd ?_⟩;(refine⟨ar,ar,dd ?_⟩)
  refine .inl ⟨rfl,LoopN.step (uH ?_)⟩;refine tf ?_
  refine .inr ⟨aj,uH ?_⟩;refine uE ?_;(refine⟨ar,ar,dd ?_⟩)
  (refine⟨ar,ar,dd ?_⟩)
  exact uI
abbrev x9(m:lh)(v:lJ):Int×Int:=jW v.snap m.op.listen m.op.host m.op.path
def xe(m:lh)(v:lJ):lh:=if (x9 m v).2≠0 then BB m 2 else match v.snap.zm[(x9 m v).1.toNat]? with
 |none=>m
 |some c=>if (xu c m.op.d0 m.op.d1).2.2≠0 then BB {m with zi:=(x9 m v).1} 3
  else if c.xq=1 then {m with zi:=(x9 m v).1,pc:=6}
  else {m with zi:=(x9 m v).1,end_:=(xu c m.op.d0 m.op.d1).1,other:=(xu c m.op.d0 m.op.d1).2.1,pc:=7}
structure L7(m:lh)(v:lJ):Prop where
 small:Pf v.snap
 host:m.op.host.length<1000000000000000
 path:m.op.path.length<1000000000000000
 d0:i64 m.op.d0
 d1:i64 m.op.d1
 MF:(x9 m v).2=0->0<=(x9 m v).1/\∃c,v.snap.zm[(x9 m v).1.toNat]?=some c/\c.zE.length<1000000000000
def Lq(c:mG):(lu c).length<=c.zE.length:=Ig c.zE c.zE.length
def Un{m:lh}{v:lJ}(h:(x9 m v).2≠0):xe m v=BB m 2:=pA h
def SQ{m:lh}{v:lJ}{c:mG}(h:(x9 m v).2=0)(hc:v.snap.zm[(x9 m v).1.toNat]?=some c)(hd:(xu c m.op.d0 m.op.d1).2.2≠0):xe m v=BB {m with zi:=(x9 m v).1} 3:=by
 unfold xe;rw[pw aw,hc];exact pA hd
def Ti{m:lh}{v:lJ}{c:mG}(h:(x9 m v).2=0)(hc:v.snap.zm[(x9 m v).1.toNat]?=some c)(hd:(xu c m.op.d0 m.op.d1).2.2=0)(hp:c.xq=1):xe m v={m with zi:=(x9 m v).1,pc:=6}:=by
 unfold xe;rw[pw aw,hc];exact(pw aw).trans (pA hp)
def Tj{m:lh}{v:lJ}{c:mG}(h:(x9 m v).2=0)(hc:v.snap.zm[(x9 m v).1.toNat]?=some c)(hd:(xu c m.op.d0 m.op.d1).2.2=0)(hp:c.xq≠1):
  xe m v={m with zi:=(x9 m v).1,end_:=(xu c m.op.d0 m.op.d1).1,other:=(xu c m.op.d0 m.op.d1).2.1,pc:=7}:=by
 unfold xe;rw[pw aw,hc];exact(pw aw).trans (pw hp)
def zp3(w:Wor)(m:lh)(v:lJ)(hv:CT w m v)(h:L7 m v):tp 232 [oW w,oM m] [.agg to] (.lK []) [oW w,oM (xe m v)]:=by
 have h0:=hv.v0;have hr:=hv.row;refine aa func232 ?_;refine uE ?_;(refine⟨h0,_,hr,dd ?_⟩)
 refine ah (SW v.snap m.op.listen m.op.host m.op.path h.small h.host h.path) ?_;refine⟨λh1=>?_,λh1=>?_⟩
 ·have h2:(x9 m v).2≠0:=by simpa using h1
  rw[Un h2];refine dd ?_;refine af [1] (wO m 2) ?_;exact di
 ·have h2:(x9 m v).2=0:=by simpa using h1
  obtain⟨g0,c,hc,hcl⟩:=h.MF h2;refine dd ?_;refine .inr ⟨⟨[0,1,6,11,12],[0,1,2],true⟩,au,λ_=>O,_,uH ?_,λt2 H2 h=>h⟩;refine⟨_,ai [0,1] (JM w {m with zi:=(x9 m v).1} v c ⟨hv.v0,hv.at_⟩ g0 hc),uH ?_⟩;refine⟨_,ai [] (S7 c m.op.d0 m.op.d1 h.d0 h.d1 hcl (Lq c)),uH ?_⟩;(refine⟨_,_,.refl _,uH ?_⟩)
  refine⟨λh3=>?_,λh3=>?_⟩
  ·have h4:(xu c m.op.d0 m.op.d1).2.2≠0:=by simpa using h3
   rw[SQ h2 hc h4];refine dd ?_;refine af [1] (wO {m with zi:=(x9 m v).1} 3) ?_;exact⟨.inr O,_,_,.refl _,rfl,cE 2⟩
  ·have h4:(xu c m.op.d0 m.op.d1).2.2=0:=by simpa using h3
   refine dd ?_;refine af [0,1] (JM w {m with zi:=(x9 m v).1} v c ⟨hv.v0,hv.at_⟩ g0 hc) ?_;refine⟨λh5=>?_,λh5=>?_⟩
   ·have h6:c.xq=1:=by simpa using h5
    rw[Ti h2 hc h4 h6];refine dd ?_;exact⟨.inr O,_,_,.refl _,rfl,cE 2⟩
   ·have h6:c.xq≠1:=by simpa using h5
    rw[Tj h2 hc h4 h6];refine dd ?_;exact⟨.inr O,_,_,.refl _,rfl,cE 2⟩
def ziU(w:Wor)(m:lh)(v:lJ)(hv:CT w m v)(h:L7 m v){l:mj}(l0:0<=m.listen)(hl:w.zf[m.listen.toNat]?=some l):
  tp 186 [oW w,oM m] [.agg to] (Ce (if l.drain then {mD m 1 4 1 with zQ:=true} else mD m 1 4 0)) [oW w,oM (if l.drain then BB m 5 else xe m v)]:=by
 have lr:(w.zf.map ji)[m.listen.toNat]?=some (ji l):=by rw[pj,hl];rfl
 obtain⟨ln,ld,la,lc⟩:=l;cases ld
 all_goals
  refine aa func186 ?_;refine uE ?_;(refine⟨l0,_,lr,dd ?_⟩)
 ·(refine yb (dd ?_))
  refine af [0,1] (zp3 w m v hv h) ?_
  have et:(xe m v).zg=m.zg:=by
   unfold xe;split
   ·rfl
   ·split
    ·rfl
    ·split
     ·rfl
     ·split <;> rfl
  have ee:mD m 1 4 0=mD (xe m v) 1 4 0:=by unfold mD;rw[et]
  have eg:(if ({name:=ln,drain:=false,zj:=la,closed:=lc}:mj).drain then {mD m 1 4 1 with zQ:=true} else mD m 1 4 0)=mD (xe m v) 1 4 0:=ee;rw[eg];refine af [1] (jY (xe m v) 1 4 0) ?_;exact di
 ·(refine ya (dd ?_))
  refine af [1] (jY m 1 4 1) ?_;refine af [1] (wO m 5) ?_;exact di
def zjK(w:Wor)(m:lh)(v0:lJ)(g0:Gr)(e0:En)(c:mG)(hv:BP w m v0 g0)(hc:v0.snap.zm[m.zi.toNat]?=some c):tp 235 (hE w m m v0 g0 e0 g0.zx e0.head e0.zj []) [.agg to] (Cc c) (hE w m m v0 g0 e0 g0.zx e0.head e0.zj []):=by
 have h0:=hv.pv;have g0':=hv.pg;have lv:m.version.toNat<w.zd.length:=hv.lv;have cr:(v0.snap.zm.map y6)[m.zi.toNat]?=some (y6 c):=by rw[pj,hc];rfl
 have lowV:∀r∈mN w m v0 3,∀c∈r,jv 6 9 c=true:=zC (enc:=zJ) (λ_=>O) O _ _;have lowG:∀r∈mE m v0 g0 g0.zx 4,∀c∈r,jv 6 9 c=true:=zC (enc:=zI) (λ_=>O) O _ _;have lowE:∀r∈mr m g0 e0 e0.head 5 e0.zj,∀c∈r,jv 6 9 c=true:=zC (enc:=zF) (λ_=>O) O _ _;have e1:0+m.version.toNat=m.version.toNat:=pR _;have gv:(mN w m v0 3)[m.version.toNat]?=some ((encS v0.snap++[C.sl 3 [] 2 0 v0.zp.length false,Bo v0.qd])):=pC hU;refine aa func235 ?_;refine uE ?_;refine⟨h0,lv,dd ?_⟩;rw[e1];refine⟨_,gv,(by show 2+1<=5;decide),dd ?_⟩;refine⟨g0',_,cr,dd ?_⟩;exact dp
def M8(w:Wor)(m:lh)(v0:lJ)(g0:Gr)(e0:En)(hv:BP w m v0 g0)(x p a b c:Int):tp 236 (hE w ({m with end_:=x,pc:=p}) m v0 g0 e0 g0.zx e0.head e0.zj []) [.agg to,I a,I b,I c] (Ce (nr m v0 a b c)) (hE w ({m with end_:=x,pc:=p}) m v0 g0 e0 g0.zx e0.head e0.zj []):=by
 have h0:=hv.pv;have lv:m.version.toNat<w.zd.length:=hv.lv;have e1:0+m.version.toNat=m.version.toNat:=pR _
 clear hv
 obtain⟨sn,gs,fr⟩:=v0;cases fr
 all_goals
  have ownV:∀b,∀r∈(w.zd.map zJ).set m.version.toNat (encS sn++[C.sl 3 [] 2 0 gs.length false,Bo b]),∀c∈r,zB c=true:=λb=>zC (enc:=zJ) (λ_=>O) O _ _
  have ownG:∀r∈(gs.map zI).set m.zi.toNat ([U g0.zx,C.sl 4 [] 3 0 g0.ends.length false]),∀c∈r,zB c=true:=zC (enc:=zI) (λ_=>O) O _ _;have ownE:∀r∈mr m g0 e0 e0.head 5 e0.zj,∀c∈r,zB c=true:=zC (enc:=zF) (λ_=>O) O _ _;have lowV:∀b,∀r∈(w.zd.map zJ).set m.version.toNat (encS sn++[C.sl 3 [] 2 0 gs.length false,Bo b]),∀c∈r,jv 6 9 c=true:=λb=>zC (enc:=zJ) (λ_=>O) O _ _
  have gv:∀b,((w.zd.map zJ).set m.version.toNat (encS sn++[C.sl 3 [] 2 0 gs.length false,Bo b]))[m.version.toNat]?=some (encS sn++[C.sl 3 [] 2 0 gs.length false,Bo b]):=λb=>pC hU
  have lowG:∀r∈(gs.map zI).set m.zi.toNat ([U g0.zx,C.sl 4 [] 3 0 g0.ends.length false]),∀c∈r,jv 6 9 c=true:=zC (enc:=zI) (λ_=>O) O _ _;have lowE:∀r∈mr m g0 e0 e0.head 5 e0.zj,∀c∈r,jv 6 9 c=true:=zC (enc:=zF) (λ_=>O) O _ _;refine aa func236 ?_;refine qg [1] [⟨1,38,8,[(oF w 2)],0⟩,oM ({m with end_:=x,pc:=p}),⟨1,0,5,(w.zd.map zJ).set m.version.toNat (encS sn++[C.sl 3 [] 2 0 gs.length false,Bo _]),0⟩,⟨1,0,2,(gs.map zI).set m.zi.toNat ([U g0.zx,C.sl 4 [] 3 0 g0.ends.length false]),0⟩,⟨1,0,3,mr m g0 e0 e0.head 5 e0.zj,0⟩,⟨2,3,1,e0.next.map encI,0⟩,⟨1,245,2,[to],0⟩,oE qV] (rx:=Ce (mD m a b c)) (jY {m with end_:=x,pc:=p} a b c) O O O O O (ze O (ze O (ze (zl (ownV _)) (ze (zl ownG) (ze (zl ownE) O))))) O O (dd ?_);refine .inl ⟨⟨false,[6,9,11,14,17],[0,1,2,6],[]⟩,au,uH ?_⟩;refine⟨h0,lv,dd ?_⟩;rw[e1];refine⟨_,gv _,(by show 4+1<=5;decide),dd ?_⟩
  first|((refine ya (dd ?_)))|((refine yb (dd ?_)))
  refine td ?_
  exact⟨.inl O,_,_,.refl _,rfl,zt.yi 6 tc O O O (zO O (zO O (zO (qx (lowV _)) (zO (qx lowG) (zO (qx lowE) O))))) O⟩
abbrev K4(m:lh)(c:mG)(t:Int):lh:={m with end_:=(Be c t).1,pc:=9}
abbrev Qa(g:Gr):Gr:={g with zx:=IntKind.u64.wrap (g.zx+1)}
def zop(w:Wor)(m:lh)(v0:lJ)(g0:Gr)(e0:En)(c:mG)(hv:BP w m v0 g0)(hc:v0.snap.zm[m.zi.toNat]?=some c)(ht:u64 g0.zx)(hl:c.zE.length<1000000000000):
  tp 187 (hE w m m v0 g0 e0 g0.zx e0.head e0.zj []) [.agg to] (Ce (nr m v0 3 6 (IntKind.i64.wrap g0.zx))) (hE w (K4 m c g0.zx) m v0 g0 e0 (IntKind.u64.wrap (g0.zx+1)) e0.head e0.zj []):=by
 have lg:=hv.lg;have ownV:∀r∈mN w m v0 3,∀c∈r,zB c=true:=zC (enc:=zJ) (λ_=>O) O _ _;have ownG:∀r∈mE m v0 g0 g0.zx 4,∀c∈r,zB c=true:=zC (enc:=zI) (λ_=>O) O _ _;have ownE:∀r∈mr m g0 e0 e0.head 5 e0.zj,∀c∈r,zB c=true:=zC (enc:=zF) (λ_=>O) O _ _;have gg:(mE m v0 g0 g0.zx 4)[m.zi.toNat]?=some ([U g0.zx,C.sl 4 [] 3 0 g0.ends.length false]):=pC tT;refine aa func187 ?_;refine Kp [0,1,2,3,4,5] (hE w m m v0 g0 e0 g0.zx e0.head e0.zj [⟨1,245,2,[to],0⟩,oE qV]) (rx:=.ref 3 [] 2 m.zi.toNat 0) (MN w m v0 g0 e0 hv) (ze O (ze O (ze (zl ownV) (ze (zl ownG) (ze (zl ownE) O))))) uT O O O (ze O (ze O (ze (zl ownV) (ze (zl ownG) (ze (zl ownE) O))))) uU O (dd ?_);refine⟨_,gg,(by show 0+1<=2;decide),dd ?_⟩;refine Kp [0,1,2,3,4,5] (hE w m m v0 g0 e0 g0.zx e0.head e0.zj [⟨1,245,2,[to],0⟩,oE qV]) (rx:=.ref 3 [] 2 m.zi.toNat 0) (MN w m v0 g0 e0 hv) (ze O (ze O (ze (zl ownV) (ze (zl ownG) (ze (zl ownE) O))))) uT O O O (ze O (ze O (ze (zl ownV) (ze (zl ownG) (ze (zl ownE) O))))) uU O (dd ?_);refine⟨_,gg,(by show 0+1<=2;decide),dd ?_⟩;refine⟨_,gg,rfl,dd ?_⟩;rw[rz];have ownG2:∀r∈mE m v0 g0 (IntKind.u64.wrap (g0.zx+1)) 4,∀c∈r,zB c=true:=zC (enc:=zI) (λ_=>O) O _ _;have lowV:∀r∈mN w m v0 3,∀c∈r,jv 6 9 c=true:=zC (enc:=zJ) (λ_=>O) O _ _;have lowG:∀r∈mE m v0 g0 (IntKind.u64.wrap (g0.zx+1)) 4,∀c∈r,jv 6 9 c=true:=zC (enc:=zI) (λ_=>O) O _ _;have lowE:∀r∈mr m g0 e0 e0.head 5 e0.zj,∀c∈r,jv 6 9 c=true:=zC (enc:=zF) (λ_=>O) O _ _;have hv2:BP w m v0 (Qa g0):=⟨hv.pv,hv.lv,hv.pg,hv.lg,hv.pe,hv.le⟩;refine .inl ⟨⟨true,[],[],[3,5]⟩,au,uH ?_⟩;refine qg [0,1,2,3,4,5] (hE w m m v0 g0 e0 (IntKind.u64.wrap (g0.zx+1)) e0.head e0.zj [⟨1,245,2,[to],0⟩,oE qV]) (rx:=Cc c) (zjK w m v0 (Qa g0) e0 c hv2 hc) (ze O (ze O (ze (zl ownV) (ze (zl ownG2) (ze (zl ownE) O))))) uT O O O (ze O (ze O (ze (zl ownV) (ze (zl ownG2) (ze (zl ownE) O))))) uU O (dd ?_);refine qg [] (hE w m m v0 g0 e0 (IntKind.u64.wrap (g0.zx+1)) e0.head e0.zj [⟨1,245,2,[to],0⟩,oE qV]) (rx:=.lK [I (Be c g0.zx).1,I (Be c g0.zx).2]) (zs9 c g0.zx ht hl (Lq c)) O O O O O (ze O (ze O (ze (zl ownV) (ze (zl ownG2) (ze (zl ownE) O))))) O O (dd ?_);refine qg [0,1,2,3,4,5] (hE w (K4 m c g0.zx) m v0 g0 e0 (IntKind.u64.wrap (g0.zx+1)) e0.head e0.zj [⟨1,245,2,[to],0⟩,oE qV]) (rx:=Ce (nr m v0 3 6 (IntKind.i64.wrap g0.zx))) (M8 w m v0 (Qa g0) e0 hv2 (Be c g0.zx).1 9 3 6 (IntKind.i64.wrap g0.zx)) (ze O (ze O (ze (zl ownV) (ze (zl ownG2) (ze (zl ownE) O))))) uT O O O (ze O (ze O (ze (zl ownV) (ze (zl ownG2) (ze (zl ownE) O))))) uU O (dd ?_);exact dp
def ziO(w:Wor)(m:lh)(v0:lJ)(g0:Gr)(e0:En)(hv:BP w m v0 g0)(hw:u64 m.word)(l0: -1<=m.link)(l1:m.link<=2147483646)(hh:u64 e0.head)(hne:e0.head≠m.word):
  tp 192 (hE w m m v0 g0 e0 g0.zx e0.head e0.zj []) [.agg to] (Ce (nr m v0 5 8 (e0.head%4294967296-1))) (hE w ({m with pc:=9}) m v0 g0 e0 g0.zx e0.head e0.zj []):=by
 (have le:=hv.le);(have ownV:∀r∈mN w m v0 3,∀c∈r,zB c=true:=zC (enc:=zJ) (λ_=>O) O _ _);(have ownG:∀r∈mE m v0 g0 g0.zx 4,∀c∈r,zB c=true:=zC (enc:=zI) (λ_=>O) O _ _);(have ownE:∀r∈mr m g0 e0 e0.head 5 e0.zj,∀c∈r,zB c=true:=zC (enc:=zF) (λ_=>O) O _ _);(have lowV:∀r∈mN w m v0 3,∀c∈r,jv 6 9 c=true:=zC (enc:=zJ) (λ_=>O) O _ _);(have lowG:∀r∈mE m v0 g0 g0.zx 4,∀c∈r,jv 6 9 c=true:=zC (enc:=zI) (λ_=>O) O _ _)
 have lowE:∀r∈mr m g0 e0 e0.head 5 e0.zj,∀c∈r,jv 6 9 c=true:=zC (enc:=zF) (λ_=>O) O _ _;have ge:(mr m g0 e0 e0.head 5 e0.zj)[m.end_.toNat]?=some ([U e0.head,C.sl 5 [] 1 0 e0.next.length false,I e0.zj]):=pC tO;have hv2:BP w {m with pc:=9} v0 g0:=⟨hv.pv,hv.lv,hv.pg,hv.lg,hv.pe,hv.le⟩;refine aa func192 ?_;refine .inl ⟨⟨true,[],[],[8]⟩,au,uH ?_⟩;refine qg [] (hE w m m v0 g0 e0 g0.zx e0.head e0.zj [⟨1,245,2,[to],0⟩,oE qV]) (rx:=.lK [U (Slp.jC m.word m.link),I 0]) (Slp.M7 m.word m.link hw l0 l1) O O O O O (ze O (ze O (ze (zl ownV) (ze (zl ownG) (ze (zl ownE) O))))) O O (dd ?_);refine .inl ⟨⟨true,[],[],[1]⟩,au,uH ?_⟩;refine qg [0,1,2,3,4,5] (hE w m m v0 g0 e0 g0.zx e0.head e0.zj [⟨1,245,2,[to],0⟩,oE qV]) (rx:=.ref 4 [] 3 m.end_.toNat 0) (wM w m v0 g0 e0 hv) (ze O (ze O (ze (zl ownV) (ze (zl ownG) (ze (zl ownE) O))))) uT O O O (ze O (ze O (ze (zl ownV) (ze (zl ownG) (ze (zl ownE) O))))) uU O (dd ?_);refine⟨_,ge,db,dd ?_⟩;refine⟨λ_=>dd ?_,λh=>absurd h (aq hne)⟩;refine .inl ⟨⟨true,[],[],[2,6,7]⟩,au,uH ?_⟩;refine qg [0,1,2,3,4,5] (hE w ({m with pc:=9}) m v0 g0 e0 g0.zx e0.head e0.zj [⟨1,245,2,[to],0⟩,oE qV]) (rx:=.ref 4 [] 3 m.end_.toNat 0) (wM w _ v0 g0 e0 hv2) (ze O (ze O (ze (zl ownV) (ze (zl ownG) (ze (zl ownE) O))))) uT O O O (ze O (ze O (ze (zl ownV) (ze (zl ownG) (ze (zl ownE) O))))) uU O (dd ?_);refine⟨_,ge,db,dd ?_⟩;refine qg [] (hE w ({m with pc:=9}) m v0 g0 e0 g0.zx e0.head e0.zj [⟨1,245,2,[to],0⟩,oE qV]) (rx:=I (e0.head%4294967296-1)) (Slp.je e0.head hh) O O O O O (ze O (ze O (ze (zl ownV) (ze (zl ownG) (ze (zl ownE) O))))) O O (dd ?_);refine qg [0,1,2,3,4,5] (hE w ({m with pc:=9}) m v0 g0 e0 g0.zx e0.head e0.zj [⟨1,245,2,[to],0⟩,oE qV]) (rx:=Ce (nr m v0 5 8 (e0.head%4294967296-1))) (M8 w m v0 g0 e0 hv m.end_ 9 5 8 (e0.head%4294967296-1)) (ze O (ze O (ze (zl ownV) (ze (zl ownG) (ze (zl ownE) O))))) uT O O O (ze O (ze O (ze (zl ownV) (ze (zl ownG) (ze (zl ownE) O))))) uU O (dd ?_);exact dp
def zhk(w:Wor)(m:lh)(v0:lJ)(g0:Gr)(e0:En)(hv:BP w m v0 g0)(hw:u64 m.word)(l0: -1<=m.link)(l1:m.link<=2147483646)(hne:e0.head=m.word):
  tp 192 (hE w m m v0 g0 e0 g0.zx e0.head e0.zj []) [.agg to] (Ce (nr m v0 4 8 m.slot)) (hE w ({m with pc:=12}) m v0 g0 e0 g0.zx (Slp.jC m.word m.link) e0.zj []):=by
 (have le:=hv.le);(have ownV:∀r∈mN w m v0 3,∀c∈r,zB c=true:=zC (enc:=zJ) (λ_=>O) O _ _);(have ownG:∀r∈mE m v0 g0 g0.zx 4,∀c∈r,zB c=true:=zC (enc:=zI) (λ_=>O) O _ _);(have ownE:∀r∈mr m g0 e0 e0.head 5 e0.zj,∀c∈r,zB c=true:=zC (enc:=zF) (λ_=>O) O _ _);(have lowV:∀r∈mN w m v0 3,∀c∈r,jv 6 9 c=true:=zC (enc:=zJ) (λ_=>O) O _ _);(have lowG:∀r∈mE m v0 g0 g0.zx 4,∀c∈r,jv 6 9 c=true:=zC (enc:=zI) (λ_=>O) O _ _)
 have lowE:∀r∈mr m g0 e0 (Slp.jC m.word m.link) 5 e0.zj,∀c∈r,jv 6 9 c=true:=zC (enc:=zF) (λ_=>O) O _ _;have ownE2:∀r∈mr m g0 e0 (Slp.jC m.word m.link) 5 e0.zj,∀c∈r,zB c=true:=zC (enc:=zF) (λ_=>O) O _ _;have ge:(mr m g0 e0 e0.head 5 e0.zj)[m.end_.toNat]?=some ([U e0.head,C.sl 5 [] 1 0 e0.next.length false,I e0.zj]):=pC tO;refine aa func192 ?_;refine .inl ⟨⟨true,[],[],[8]⟩,au,uH ?_⟩;refine qg [] (hE w m m v0 g0 e0 g0.zx e0.head e0.zj [⟨1,245,2,[to],0⟩,oE qV]) (rx:=.lK [U (Slp.jC m.word m.link),I 0]) (Slp.M7 m.word m.link hw l0 l1) O O O O O (ze O (ze O (ze (zl ownV) (ze (zl ownG) (ze (zl ownE) O))))) O O (dd ?_);refine .inl ⟨⟨true,[],[],[1]⟩,au,uH ?_⟩;refine qg [0,1,2,3,4,5] (hE w m m v0 g0 e0 g0.zx e0.head e0.zj [⟨1,245,2,[to],0⟩,oE qV]) (rx:=.ref 4 [] 3 m.end_.toNat 0) (wM w m v0 g0 e0 hv) (ze O (ze O (ze (zl ownV) (ze (zl ownG) (ze (zl ownE) O))))) uT O O O (ze O (ze O (ze (zl ownV) (ze (zl ownG) (ze (zl ownE) O))))) uU O (dd ?_);refine⟨_,ge,db,dd ?_⟩;refine⟨λh=>absurd h (by simp[hne]),λ_=>dd ?_⟩;refine tf ?_
 refine Kp [0,1,2,3,4,5] (hE w m m v0 g0 e0 g0.zx e0.head e0.zj [⟨1,245,2,[to],0⟩,oE qV]) (rx:=.ref 4 [] 3 m.end_.toNat 0) (wM w m v0 g0 e0 hv) (ze O (ze O (ze (zl ownV) (ze (zl ownG) (ze (zl ownE) O))))) uT O O O (ze O (ze O (ze (zl ownV) (ze (zl ownG) (ze (zl ownE) O))))) uU O (dd ?_);refine⟨_,ge,rfl,dd ?_⟩;rw[rz];refine dd ?_;refine .inl ⟨⟨true,[],[],[5]⟩,au,uH ?_⟩;refine qg [0,1,2,3,4,5] (hE w ({m with pc:=12}) m v0 g0 e0 g0.zx (Slp.jC m.word m.link) e0.zj [⟨1,245,2,[to],0⟩,oE qV]) (rx:=Ce (nr m v0 4 8 m.slot)) (M8 w m v0 g0 {e0 with head:=Slp.jC m.word m.link} hv m.end_ 12 4 8 m.slot) (ze O (ze O (ze (zl ownV) (ze (zl ownG) (ze (zl ownE2) O))))) uT O O O (ze O (ze O (ze (zl ownV) (ze (zl ownG) (ze (zl ownE2) O))))) uU O (dd ?_);exact dp
end Go.Wor
namespace Go.Wor
open Go.Ab Go.Proofs Tryz Go.Hy
abbrev nf:C:=.v .nilFunc
abbrev pf(f:FuncId):C:=.fn f [] []
abbrev zEz:List C:=[nf,nf,nf,pf 184,pf 185,pf 186,pf 187,pf 188,pf 189,pf 190,pf 191,pf 192,pf 193,nf,nf,nf,nf,nf,nf,nf,pf 194,pf 195,pf 196,pf 197]
def j4:tp 151 [] [] (.agg zEz) []:=by
 refine ab func151 ?_;exact uI
end Go.Wor
namespace Go.Wor
open Go.Ab Go.Proofs Tryz Go.Hy Go.Gat Go.Nam Go.Hos Go.Con Go.Sna
def zxy{w w':Wor}{m m':lh}{e:lD}(sw:jF w)(ok:nk w)(hl:i64 m.listen)(hpc:m.pc=3)(hs:ql w m=true)(h:tp 184 [oW w,oM m] [.agg to] (Ce e) [oW w',oM m']):tp 126 [] [Cw w,Cm m] (.lK [Cw w',Cm m',Ce e]) []:=by
 by_cases hn:m.listen<0
 all_goals
  refine ab func126 ?_;(repeat (first|refine uA ?_|refine uB ?_))
  refine ah (zV w m ok hl) ?_;refine⟨λ_=>dd ?_,λh=>absurd ((hs).symm.trans h:true=false) ar⟩;refine tf ?_
  (repeat (first|refine uA ?_|refine uB ?_))
  refine .inl ⟨⟨true,[2],[1],[0]⟩,au,uH ?_⟩;refine ah j4 ?_;refine td ?_
  (refine⟨aw,aw,pf 184,dc,dd ?_⟩)
  refine tf ?_
  refine ah (qP w sw) ?_;refine af [5,6] (h) ?_;refine .inl ⟨⟨false,[0,1,2],[5,6,7],[]⟩,au,uH ?_⟩;refine td ?_
  exact uI
def zxA{w w':Wor}{m m':lh}{e:lD}(sw:jF w)(ok:nk w)(hl:i64 m.listen)(hpc:m.pc=5)(hs:ql w m=true)(hli:0<=m.listen)(h:tp 186 [oW w,oM m] [.agg to] (Ce e) [oW w',oM m']):tp 126 [] [Cw w,Cm m] (.lK [Cw w',Cm m',Ce e]) []:=by
 have hn:¬m.listen<0:=aw
 all_goals
  refine ab func126 ?_;(repeat (first|refine uA ?_|refine uB ?_))
  refine ah (zV w m ok hl) ?_;refine⟨λ_=>dd ?_,λh=>absurd ((hs).symm.trans h:true=false) ar⟩;refine tf ?_
  (repeat (first|refine uA ?_|refine uB ?_))
  refine .inl ⟨⟨true,[2],[1],[0]⟩,au,uH ?_⟩;refine ah j4 ?_;refine td ?_
  (refine⟨aw,aw,pf 186,dc,dd ?_⟩)
  refine tf ?_
  refine ah (qP w sw) ?_;refine af [5,6] (h) ?_;refine .inl ⟨⟨false,[0,1,2],[5,6,7],[]⟩,au,uH ?_⟩;refine td ?_
  exact uI
def zxC{w w':Wor}{m m':lh}{e:lD}(sw:jF w)(ok:nk w)(hl:i64 m.listen)(hpc:m.pc=7)(hs:ql w m=true)(h:tp 188 [oW w,oM m] [.agg to] (Ce e) [oW w',oM m']):tp 126 [] [Cw w,Cm m] (.lK [Cw w',Cm m',Ce e]) []:=by
 by_cases hn:m.listen<0
 all_goals
  refine ab func126 ?_;(repeat (first|refine uA ?_|refine uB ?_))
  refine ah (zV w m ok hl) ?_;refine⟨λ_=>dd ?_,λh=>absurd ((hs).symm.trans h:true=false) ar⟩;refine tf ?_
  (repeat (first|refine uA ?_|refine uB ?_))
  refine .inl ⟨⟨true,[2],[1],[0]⟩,au,uH ?_⟩;refine ah j4 ?_;refine td ?_
  (refine⟨aw,aw,pf 188,dc,dd ?_⟩)
  refine tf ?_
  refine ah (qP w sw) ?_;refine af [5,6] (h) ?_;refine .inl ⟨⟨false,[0,1,2],[5,6,7],[]⟩,au,uH ?_⟩;refine td ?_
  exact uI
def zxD{w w':Wor}{m m':lh}{e:lD}(sw:jF w)(ok:nk w)(hl:i64 m.listen)(hpc:m.pc=8)(hs:ql w m=true)(h:tp 189 [oW w,oM m] [.agg to] (Ce e) [oW w',oM m']):tp 126 [] [Cw w,Cm m] (.lK [Cw w',Cm m',Ce e]) []:=by
 by_cases hn:m.listen<0
 all_goals
  refine ab func126 ?_;(repeat (first|refine uA ?_|refine uB ?_))
  refine ah (zV w m ok hl) ?_;refine⟨λ_=>dd ?_,λh=>absurd ((hs).symm.trans h:true=false) ar⟩;refine tf ?_
  (repeat (first|refine uA ?_|refine uB ?_))
  refine .inl ⟨⟨true,[2],[1],[0]⟩,au,uH ?_⟩;refine ah j4 ?_;refine td ?_
  (refine⟨aw,aw,pf 189,dc,dd ?_⟩)
  refine tf ?_
  refine ah (qP w sw) ?_;refine af [5,6] (h) ?_;refine .inl ⟨⟨false,[0,1,2],[5,6,7],[]⟩,au,uH ?_⟩;refine td ?_
  exact uI
def Vf{w w':Wor}{m m':lh}{e:lD}(sw:jF w)(ok:nk w)(hl:i64 m.listen)(hpc:m.pc=9)(hs:ql w m=true)(h:tp 190 [oW w,oM m] [.agg to] (Ce e) [oW w',oM m']):tp 126 [] [Cw w,Cm m] (.lK [Cw w',Cm m',Ce e]) []:=by
 by_cases hn:m.listen<0
 all_goals
  refine ab func126 ?_;(repeat (first|refine uA ?_|refine uB ?_))
  refine ah (zV w m ok hl) ?_;refine⟨λ_=>dd ?_,λh=>absurd ((hs).symm.trans h:true=false) ar⟩;refine tf ?_
  (repeat (first|refine uA ?_|refine uB ?_))
  refine .inl ⟨⟨true,[2],[1],[0]⟩,au,uH ?_⟩;refine ah j4 ?_;refine td ?_
  (refine⟨aw,aw,pf 190,dc,dd ?_⟩)
  refine tf ?_
  refine ah (qP w sw) ?_;refine af [5,6] (h) ?_;refine .inl ⟨⟨false,[0,1,2],[5,6,7],[]⟩,au,uH ?_⟩;refine td ?_
  exact uI
def zuZ{w w':Wor}{m m':lh}{e:lD}(sw:jF w)(ok:nk w)(hl:i64 m.listen)(hpc:m.pc=10)(hs:ql w m=true)(h:tp 191 [oW w,oM m] [.agg to] (Ce e) [oW w',oM m']):tp 126 [] [Cw w,Cm m] (.lK [Cw w',Cm m',Ce e]) []:=by
 by_cases hn:m.listen<0
 all_goals
  refine ab func126 ?_;(repeat (first|refine uA ?_|refine uB ?_))
  refine ah (zV w m ok hl) ?_;refine⟨λ_=>dd ?_,λh=>absurd ((hs).symm.trans h:true=false) ar⟩;refine tf ?_
  (repeat (first|refine uA ?_|refine uB ?_))
  refine .inl ⟨⟨true,[2],[1],[0]⟩,au,uH ?_⟩;refine ah j4 ?_;refine td ?_
  (refine⟨aw,aw,pf 191,dc,dd ?_⟩)
  refine tf ?_
  refine ah (qP w sw) ?_;refine af [5,6] (h) ?_;refine .inl ⟨⟨false,[0,1,2],[5,6,7],[]⟩,au,uH ?_⟩;refine td ?_
  exact uI
def zu4{w w':Wor}{m m':lh}{e:lD}(sw:jF w)(ok:nk w)(hl:i64 m.listen)(hpc:m.pc=23)(hs:ql w m=true)(h:tp 197 [oW w,oM m] [.agg to] (Ce e) [oW w',oM m']):tp 126 [] [Cw w,Cm m] (.lK [Cw w',Cm m',Ce e]) []:=by
 by_cases hn:m.listen<0
 all_goals
  refine ab func126 ?_;(repeat (first|refine uA ?_|refine uB ?_))
  refine ah (zV w m ok hl) ?_;refine⟨λ_=>dd ?_,λh=>absurd ((hs).symm.trans h:true=false) ar⟩;refine tf ?_
  (repeat (first|refine uA ?_|refine uB ?_))
  refine .inl ⟨⟨true,[2],[1],[0]⟩,au,uH ?_⟩;refine ah j4 ?_;refine td ?_
  (refine⟨aw,aw,pf 197,dc,dd ?_⟩)
  refine tf ?_
  refine ah (qP w sw) ?_;refine af [5,6] (h) ?_;refine .inl ⟨⟨false,[0,1,2],[5,6,7],[]⟩,au,uH ?_⟩;refine td ?_
  exact uI
def Ns{w w':Wor}{m m':lh}{e:lD}(h0:0<=m.pc)(h3:m.pc<3)(h:tp 149 [] [Cw w,Cm m] (.lK [Cw w',Cm m',Ce e]) []):tp 126 [] [Cw w,Cm m] (.lK [Cw w',Cm m',Ce e]) []:=by
 refine ab func126 ?_;refine⟨λ_=>dd ?_,λh=>absurd h aA⟩;refine⟨λ_=>dd ?_,λh=>absurd h aA⟩;refine ah h ?_;exact uI
def zxz{w:Wor}{m m':lh}{e:lD}{ls:List mj}(sw:jF w)(ok:nk w)(hl:i64 m.listen)(hpc:m.pc=4)(hs:ql w m=true)(hli:0<=m.listen)(hll:ls.length=w.zf.length)(h:tp 185 [⟨1,38,8,[[I w.zn,I w.current,I w.lock,lI w.pins,lV w.zd,.sl 2 [] 4 0 w.zf.length false,mQ w.counts,lR w.zr]],0⟩,oM m,⟨2,76,4,(w.zf).map ji,0⟩] [.agg to] (Ce e) [⟨1,38,8,[[I w.zn,I w.current,I w.lock,lI w.pins,lV w.zd,.sl 2 [] 4 0 w.zf.length false,mQ w.counts,lR w.zr]],0⟩,oM m',⟨2,76,4,(ls).map ji,0⟩]):tp 126 [] [Cw w,Cm m] (.lK [Cw {w with zf:=ls},Cm m',Ce e]) []:=by
 have hn:¬m.listen<0:=aw
 obtain⟨x,l,hx⟩:∃x l,w.zf=x::l:=by
  obtain⟨v,g,e,su⟩:=yh hs;cases h:w.zf with
  |nil=>have:=su.listen;rw[h]at this;exact dB
  |cons x l=>exact⟨x,l,rfl⟩
 refine ab func126 ?_;(repeat (first|refine uA ?_|refine uB ?_))
 refine ah (zV w m ok hl) ?_;refine⟨λ_=>dd ?_,λh=>absurd ((hs).symm.trans h:true=false) ar⟩;refine tf ?_
 (repeat (first|refine uA ?_|refine uB ?_))
 refine .inl ⟨⟨true,[2],[1],[0]⟩,au,uH ?_⟩;refine ah j4 ?_;refine td ?_
 (refine⟨aw,aw,pf 185,dc,dd ?_⟩)
 refine tf ?_
 refine af [] (k9 w sw x l hx) ?_;refine af [6,7,5] (h) ?_;refine .inl ⟨⟨false,[0,1,2],[6,7,8],[]⟩,au,uH ?_⟩;refine td ?_
 exact gG
def zu3{w:Wor}{m m':lh}{e:lD}{ls:List mj}(sw:jF w)(ok:nk w)(hl:i64 m.listen)(hpc:m.pc=22)(hs:ql w m=true)(hli:0<=m.listen)(hll:ls.length=w.zf.length)(h:tp 196 [⟨1,38,8,[[I w.zn,I w.current,I w.lock,lI w.pins,lV w.zd,.sl 2 [] 4 0 w.zf.length false,mQ w.counts,lR w.zr]],0⟩,oM m,⟨2,76,4,(w.zf).map ji,0⟩] [.agg to] (Ce e) [⟨1,38,8,[[I w.zn,I w.current,I w.lock,lI w.pins,lV w.zd,.sl 2 [] 4 0 w.zf.length false,mQ w.counts,lR w.zr]],0⟩,oM m',⟨2,76,4,(ls).map ji,0⟩]):tp 126 [] [Cw w,Cm m] (.lK [Cw {w with zf:=ls},Cm m',Ce e]) []:=by
 have hn:¬m.listen<0:=aw
 obtain⟨x,l,hx⟩:∃x l,w.zf=x::l:=by
  obtain⟨v,g,e,su⟩:=yh hs;cases h:w.zf with
  |nil=>have:=su.listen;rw[h]at this;exact dB
  |cons x l=>exact⟨x,l,rfl⟩
 refine ab func126 ?_;(repeat (first|refine uA ?_|refine uB ?_))
 refine ah (zV w m ok hl) ?_;refine⟨λ_=>dd ?_,λh=>absurd ((hs).symm.trans h:true=false) ar⟩;refine tf ?_
 (repeat (first|refine uA ?_|refine uB ?_))
 refine .inl ⟨⟨true,[2],[1],[0]⟩,au,uH ?_⟩;refine ah j4 ?_;refine td ?_
 (refine⟨aw,aw,pf 196,dc,dd ?_⟩)
 refine tf ?_
 refine af [] (k9 w sw x l hx) ?_;refine af [6,7,5] (h) ?_;refine .inl ⟨⟨false,[0,1,2],[6,7,8],[]⟩,au,uH ?_⟩;refine td ?_
 exact gG
def zu1{w:Wor}{m m':lh}{e:lD}{r0 r1:List Int}(sw:jF w)(ok:nk w)(hl:i64 m.listen)(hpc:m.pc=20)(hs:ql w m=true)(t0:0<=m.zg)(hr:w.counts[m.zg.toNat]?=some r0)(hne:r0≠[])(hll:r1.length=r0.length)
 (h:tp 194 [⟨1,38,8,[[I w.zn,I w.current,I w.lock,lI w.pins,lV w.zd,lL w.zf,.sl 2 [] 1 0 w.counts.length false,lR w.zr]],0⟩,oM m,⟨1,0,1,(w.counts.map zT).set m.zg.toNat [C.sl (3) [] 1 0 r0.length false],0⟩,⟨2,48,1,(r0).map xy,0⟩] [.agg to] (Ce e) [⟨1,38,8,[[I w.zn,I w.current,I w.lock,lI w.pins,lV w.zd,lL w.zf,.sl 2 [] 1 0 w.counts.length false,lR w.zr]],0⟩,oM m',⟨1,0,1,(w.counts.map zT).set m.zg.toNat [C.sl (3) [] 1 0 r0.length false],0⟩,⟨2,48,1,(r1).map xy,0⟩]):tp 126 [] [Cw w,Cm m] (.lK [Cw {w with counts:=w.counts.set m.zg.toNat r1},Cm m',Ce e]) []:=by
 have ml:((w.counts.map zT)).length=w.counts.length:=pB ..;have ml1:(r1.map xy).length=r1.length:=pB ..;have lu:m.zg.toNat<w.counts.length:=(gZ.1 hr).1;have own:∀i,∀r∈(w.counts.map zT).set m.zg.toNat ([C.sl i [] 1 0 r0.length false]),∀c∈r,zB c=true:=λi=>zC (enc:=zT) (λ_=>O) O _ _
 have gt:((w.counts.map zT).set m.zg.toNat ([C.sl 6 [] 1 0 r0.length false]))[m.zg.toNat]?=some ([C.sl 6 [] 1 0 r0.length false]):=pC mB;have est:(((w.counts.map zT).set m.zg.toNat ([C.sl 6 [] 1 0 r0.length false])).set m.zg.toNat [.lq 0 1 (r1.map xy)])=(w.counts.set m.zg.toNat r1).map zT:=by rw[rz,r6];rfl
 have esh:∀r∈(((w.counts.map zT).set m.zg.toNat ([C.sl 6 [] 1 0 r0.length false])).set m.zg.toNat [.lq 0 1 (r1.map xy)]),∀c∈r,jE c=true/\zB c=true:=by
  rw[est];exact shut_map (enc:=zT) (λ_=>O) _
 have hp:LM w.counts m.zg.toNat r0:=⟨sw.counts,hr,hne⟩;by_cases hn:m.listen<0
 all_goals
  refine ab func126 ?_;(repeat (first|refine uA ?_|refine uB ?_))
  refine ah (zV w m ok hl) ?_;refine⟨λ_=>dd ?_,λh=>absurd ((hs).symm.trans h:true=false) ar⟩;refine tf ?_
  (repeat (first|refine uA ?_|refine uB ?_))
  refine .inl ⟨⟨true,[2],[1],[0]⟩,au,uH ?_⟩;refine ah j4 ?_;refine td ?_
  (refine⟨aw,aw,pf 194,dc,dd ?_⟩)
  refine tf ?_
  refine qg [] [oW w,oM m,⟨1,38,8,[nU],0⟩,⟨1,95,44,[nT],0⟩,oE qV,⟨1,0,1,(w.counts.map zT).set m.zg.toNat [C.sl (6) [] 1 0 r0.length false],0⟩,⟨2,48,1,(r0).map xy,0⟩] (rx:=.agg [I w.zn,I w.current,I w.lock,lI w.pins,lV w.zd,lL w.zf,.sl 5 [] 1 0 w.counts.length false,lR w.zr]) (RU w sw w.counts O hp) (ze (zl (own 1)) O) O O O O O tL O (dd ?_);refine qg [7,8,5,6] [oW w,oM m,⟨1,38,8,[nU],0⟩,⟨1,95,44,[nT],0⟩,oE qV,⟨1,0,1,(w.counts.map zT).set m.zg.toNat [C.sl (6) [] 1 0 r0.length false],0⟩,⟨2,48,1,(r1).map xy,0⟩,⟨1,38,8,[[I w.zn,I w.current,I w.lock,lI w.pins,lV w.zd,lL w.zf,.sl 5 [] 1 0 w.counts.length false,lR w.zr]],0⟩,oM m'] (rx:=Ce e) h (ze O (ze O (ze (zl (own 3)) O))) de O O O (ze O (ze O (ze O (ze O (ze O (ze (zl (own 6)) O)))))) tL O (dd ?_);refine .inl ⟨⟨false,[0,1,2],[7,8,9],[]⟩,au,uH ?_⟩;refine td ?_
  refine⟨.inl O,_,(zt.qa 5 m.zg.toNat 0 O gt O O (.inr O) aj (by rw[ml1,hll]) (shut_map (enc:=xy) (λ_=>O) _) (own 6)).trans (zt.qa 2 0 6 O O O O (.inl O) aj aj esh (qk O)),?_⟩;show _=some (C.lK [C.agg [I w.zn,I w.current,I w.lock,lI w.pins,lV w.zd,lL w.zf,C.lq 0 1 ((w.counts.set m.zg.toNat r1).map zT),lR w.zr],Cm m',Ce e]);rw[<-est]
  rfl
def zu2{w:Wor}{m m':lh}{e:lD}{r0 r1:List Int}(sw:jF w)(ok:nk w)(hl:i64 m.listen)(hpc:m.pc=21)(hs:ql w m=true)(t0:0<=m.zg)(hr:w.counts[m.zg.toNat]?=some r0)(hne:r0≠[])(hll:r1.length=r0.length)
 (h:tp 195 [⟨1,38,8,[[I w.zn,I w.current,I w.lock,lI w.pins,lV w.zd,lL w.zf,.sl 2 [] 1 0 w.counts.length false,lR w.zr]],0⟩,oM m,⟨1,0,1,(w.counts.map zT).set m.zg.toNat [C.sl (3) [] 1 0 r0.length false],0⟩,⟨2,48,1,(r0).map xy,0⟩] [.agg to] (Ce e) [⟨1,38,8,[[I w.zn,I w.current,I w.lock,lI w.pins,lV w.zd,lL w.zf,.sl 2 [] 1 0 w.counts.length false,lR w.zr]],0⟩,oM m',⟨1,0,1,(w.counts.map zT).set m.zg.toNat [C.sl (3) [] 1 0 r0.length false],0⟩,⟨2,48,1,(r1).map xy,0⟩]):tp 126 [] [Cw w,Cm m] (.lK [Cw {w with counts:=w.counts.set m.zg.toNat r1},Cm m',Ce e]) []:=by
 have ml:((w.counts.map zT)).length=w.counts.length:=pB ..;have ml1:(r1.map xy).length=r1.length:=pB ..;have lu:m.zg.toNat<w.counts.length:=(gZ.1 hr).1;have own:∀i,∀r∈(w.counts.map zT).set m.zg.toNat ([C.sl i [] 1 0 r0.length false]),∀c∈r,zB c=true:=λi=>zC (enc:=zT) (λ_=>O) O _ _
 have gt:((w.counts.map zT).set m.zg.toNat ([C.sl 6 [] 1 0 r0.length false]))[m.zg.toNat]?=some ([C.sl 6 [] 1 0 r0.length false]):=pC mB;have est:(((w.counts.map zT).set m.zg.toNat ([C.sl 6 [] 1 0 r0.length false])).set m.zg.toNat [.lq 0 1 (r1.map xy)])=(w.counts.set m.zg.toNat r1).map zT:=by rw[rz,r6];rfl
 have esh:∀r∈(((w.counts.map zT).set m.zg.toNat ([C.sl 6 [] 1 0 r0.length false])).set m.zg.toNat [.lq 0 1 (r1.map xy)]),∀c∈r,jE c=true/\zB c=true:=by
  rw[est];exact shut_map (enc:=zT) (λ_=>O) _
 have hp:LM w.counts m.zg.toNat r0:=⟨sw.counts,hr,hne⟩;by_cases hn:m.listen<0
 all_goals
  refine ab func126 ?_;(repeat (first|refine uA ?_|refine uB ?_))
  refine ah (zV w m ok hl) ?_;refine⟨λ_=>dd ?_,λh=>absurd ((hs).symm.trans h:true=false) ar⟩;refine tf ?_
  (repeat (first|refine uA ?_|refine uB ?_))
  refine .inl ⟨⟨true,[2],[1],[0]⟩,au,uH ?_⟩;refine ah j4 ?_;refine td ?_
  (refine⟨aw,aw,pf 195,dc,dd ?_⟩)
  refine tf ?_
  refine qg [] [oW w,oM m,⟨1,38,8,[nU],0⟩,⟨1,95,44,[nT],0⟩,oE qV,⟨1,0,1,(w.counts.map zT).set m.zg.toNat [C.sl (6) [] 1 0 r0.length false],0⟩,⟨2,48,1,(r0).map xy,0⟩] (rx:=.agg [I w.zn,I w.current,I w.lock,lI w.pins,lV w.zd,lL w.zf,.sl 5 [] 1 0 w.counts.length false,lR w.zr]) (RU w sw w.counts O hp) (ze (zl (own 1)) O) O O O O O tL O (dd ?_);refine qg [7,8,5,6] [oW w,oM m,⟨1,38,8,[nU],0⟩,⟨1,95,44,[nT],0⟩,oE qV,⟨1,0,1,(w.counts.map zT).set m.zg.toNat [C.sl (6) [] 1 0 r0.length false],0⟩,⟨2,48,1,(r1).map xy,0⟩,⟨1,38,8,[[I w.zn,I w.current,I w.lock,lI w.pins,lV w.zd,lL w.zf,.sl 5 [] 1 0 w.counts.length false,lR w.zr]],0⟩,oM m'] (rx:=Ce e) h (ze O (ze O (ze (zl (own 3)) O))) de O O O (ze O (ze O (ze O (ze O (ze O (ze (zl (own 6)) O)))))) tL O (dd ?_);refine .inl ⟨⟨false,[0,1,2],[7,8,9],[]⟩,au,uH ?_⟩;refine td ?_
  refine⟨.inl O,_,(zt.qa 5 m.zg.toNat 0 O gt O O (.inr O) aj (by rw[ml1,hll]) (shut_map (enc:=xy) (λ_=>O) _) (own 6)).trans (zt.qa 2 0 6 O O O O (.inl O) aj aj esh (qk O)),?_⟩;show _=some (C.lK [C.agg [I w.zn,I w.current,I w.lock,lI w.pins,lV w.zd,lL w.zf,C.lq 0 1 ((w.counts.set m.zg.toNat r1).map zT),lR w.zr],Cm m',Ce e]);rw[<-est]
  rfl
def j8{α β:Type}(f:α->β)(l:List α)(i:Nat)(a:α)(r:β)(h:f a=r):(l.map f).set i r=(l.set i a).map f:=by rw[r6,h]
abbrev qE(e0:En)(hd ac:Int):En:={e0 with head:=hd,zj:=ac}
abbrev vC(m:lh)(g0:Gr)(e0:En)(tk hd ac:Int):Gr:={g0 with zx:=tk,ends:=g0.ends.set m.end_.toNat (qE e0 hd ac)}
abbrev xN(m:lh)(v0:lJ)(g0:Gr)(e0:En)(tk hd ac:Int):lJ:={v0 with zp:=v0.zp.set m.zi.toNat (vC m g0 e0 tk hd ac)}
abbrev Aw(w:Wor)(m:lh)(v0:lJ)(g0:Gr)(e0:En)(tk hd ac:Int):Wor:={w with zd:=w.zd.set m.version.toNat (xN m v0 g0 e0 tk hd ac)}
def zxB{w:Wor}{m m':lh}{e:lD}{v0:lJ}{g0:Gr}{e0:En}{tk hd ac:Int}(sw:jF w)(ok:nk w)(hl:i64 m.listen)(hpc:m.pc=6)(hs:ql w m=true)(hat:m7 w m v0 g0 e0)(hne:e0.next≠[])
 (h:tp 187 [⟨1,38,8,[(oF w 2)],0⟩,oM m,⟨1,0,5,mN w m v0 (3),0⟩,⟨1,0,2,mE m v0 g0 (g0.zx) (4),0⟩,⟨1,0,3,mr m g0 e0 (e0.head) (5) (e0.zj),0⟩,⟨2,3,1,e0.next.map encI,0⟩] [.agg to] (Ce e) [⟨1,38,8,[(oF w 2)],0⟩,oM m',⟨1,0,5,mN w m v0 (3),0⟩,⟨1,0,2,mE m v0 g0 (tk) (4),0⟩,⟨1,0,3,mr m g0 e0 (hd) (5) (ac),0⟩,⟨2,3,1,e0.next.map encI,0⟩]):tp 126 [] [Cw w,Cm m] (.lK [Cw (Aw w m v0 g0 e0 tk hd ac),Cm m',Ce e]) []:=by
 have lv:=hat.ln.lv;have lg:=hat.ln.lg;have le:=hat.ln.le;have oX:=sw.zd.2 v0 (pq hat.at_);have hp:EW w.zd m.version.toNat v0 m.zi.toNat g0 m.end_.toNat e0:=⟨⟨⟨oX.2 g0 (pq hat.mn),hat.mM,hne⟩,oX,hat.mn⟩,sw.zd,hat.at_⟩;have ownV:∀i,∀r∈mN w m v0 (i),∀c∈r,zB c=true:=λi=>zC (enc:=zJ) (λ_=>O) O _ _
 have ownG:∀i t,∀r∈mE m v0 g0 (t) (i),∀c∈r,zB c=true:=λi t=>zC (enc:=zI) (λ_=>O) O _ _
 have ownE:∀i a b,∀r∈mr m g0 e0 (a) (i) (b),∀c∈r,zB c=true:=λi a b=>zC (enc:=zF) (λ_=>O) O _ _
 have gv:(mN w m v0 (6))[m.version.toNat]?=some ((encS v0.snap++[C.sl (6) [] 2 0 v0.zp.length false,Bo v0.qd])):=pC hU;have gg:(mE m v0 g0 (tk) (7))[m.zi.toNat]?=some ([U (tk),C.sl (7) [] 3 0 g0.ends.length false]):=pC tT;have ge:(mr m g0 e0 (hd) (8) (ac))[m.end_.toNat]?=some ([U (hd),C.sl (8) [] 1 0 e0.next.length false,I (ac)]):=pC tO;have estE:((mr m g0 e0 (hd) (8) (ac)).set m.end_.toNat [U hd,C.lq 0 1 (e0.next.map encI),I ac])=(g0.ends.set m.end_.toNat (qE e0 hd ac)).map zF:=df
 have estG:((mE m v0 g0 (tk) (7)).set m.zi.toNat [U tk,C.lq 0 3 (((g0.ends.set m.end_.toNat (qE e0 hd ac)).map zF))])=(v0.zp.set m.zi.toNat (vC m g0 e0 tk hd ac)).map zI:=dg
 have estV:((mN w m v0 (6)).set m.version.toNat (encS v0.snap++[C.lq 0 2 (((v0.zp.set m.zi.toNat (vC m g0 e0 tk hd ac)).map zI)),Bo v0.qd]))=(w.zd.set m.version.toNat (xN m v0 g0 e0 tk hd ac)).map zJ:=dh
 have eshE:∀r∈((mr m g0 e0 (hd) (8) (ac)).set m.end_.toNat [U hd,C.lq 0 1 (e0.next.map encI),I ac]),∀c∈r,jE c=true/\zB c=true:=by
  exact dQ
 have eshG:∀r∈((mE m v0 g0 (tk) (7)).set m.zi.toNat [U tk,C.lq 0 3 ((mr m g0 e0 (hd) (8) (ac)).set m.end_.toNat [U hd,C.lq 0 1 (e0.next.map encI),I ac])]),∀c∈r,jE c=true/\zB c=true:=by
  exact dM
 have eshV:∀r∈((mN w m v0 (6)).set m.version.toNat (encS v0.snap++[C.lq 0 2 ((mE m v0 g0 (tk) (7)).set m.zi.toNat [U tk,C.lq 0 3 ((mr m g0 e0 (hd) (8) (ac)).set m.end_.toNat [U hd,C.lq 0 1 (e0.next.map encI),I ac])]),Bo v0.qd])),∀c∈r,jE c=true/\zB c=true:=by
  exact dL
 by_cases hn:m.listen<0
 all_goals
  refine ab func126 ?_;(repeat (first|refine uA ?_|refine uB ?_))
  refine ah (zV w m ok hl) ?_;refine⟨λ_=>dd ?_,λh=>absurd ((hs).symm.trans h:true=false) ar⟩;refine tf ?_
  (repeat (first|refine uA ?_|refine uB ?_))
  refine .inl ⟨⟨true,[2],[1],[0]⟩,au,uH ?_⟩;refine ah j4 ?_;refine td ?_
  (refine⟨aw,aw,pf 187,dc,dd ?_⟩)
  refine tf ?_
  refine qg [] [oW w,oM m,⟨1,38,8,[nU],0⟩,⟨1,95,44,[nT],0⟩,oE qV,⟨1,0,5,mN w m v0 (6),0⟩,⟨1,0,2,mE m v0 g0 (g0.zx) (7),0⟩,⟨1,0,3,mr m g0 e0 (e0.head) (8) (e0.zj),0⟩,⟨2,3,1,e0.next.map encI,0⟩] (rx:=.agg (oF w 5)) (vU w sw w.zd O hp) (ze (zl (ownV 1)) (ze (zl (ownG 2 _)) (ze (zl (ownE 3 _ _)) O))) O O O O O uV O (dd ?_);refine qg [9,10,5,6,7,8] [oW w,oM m,⟨1,38,8,[nU],0⟩,⟨1,95,44,[nT],0⟩,oE qV,⟨1,0,5,mN w m v0 (6),0⟩,⟨1,0,2,mE m v0 g0 (tk) (7),0⟩,⟨1,0,3,mr m g0 e0 (hd) (8) (ac),0⟩,⟨2,3,1,e0.next.map encI,0⟩,⟨1,38,8,[(oF w 5)],0⟩,oM m'] (rx:=Ce e) h (ze O (ze O (ze (zl (ownV 3)) (ze (zl (ownG 4 _)) (ze (zl (ownE 5 _ _)) O))))) tG O O O (ze O (ze O (ze O (ze O (ze O (ze (zl (ownV 6)) (ze (zl (ownG 7 _)) (ze (zl (ownE 8 _ _)) O)))))))) uV O (dd ?_);refine .inl ⟨⟨false,[0,1,2],[9,10,11],[]⟩,au,uH ?_⟩;refine td ?_
  refine⟨.inl O,_,(((zt.qa 7 m.end_.toNat 1 O ge O O (.inr O) aj aj (shut_map (enc:=encI) (λ_=>O) _) (ownE 8 _ _)).trans (zt.qa 6 m.zi.toNat 1 O gg O O (.inl O) aj aj eshE (ownG 7 _))).trans (zt.qa 5 m.version.toNat 3 O gv O O (.inl O) aj aj eshG (ownV 6))).trans (zt.qa 2 0 4 O O O O (.inl O) aj aj eshV (qk O)),?_⟩;show _=some (C.lK [C.agg [I w.zn,I w.current,I w.lock,lI w.pins,C.lq 0 5 ((w.zd.set m.version.toNat (xN m v0 g0 e0 tk hd ac)).map zJ),lL w.zf,mQ w.counts,lR w.zr],Cm m',Ce e]);rw[<-estV,<-estG,<-estE]
  rfl
def TF{w:Wor}{m m':lh}{e:lD}{v0:lJ}{g0:Gr}{e0:En}{tk hd ac:Int}(sw:jF w)(ok:nk w)(hl:i64 m.listen)(hpc:m.pc=11)(hs:ql w m=true)(hat:m7 w m v0 g0 e0)(hne:e0.next≠[])
 (h:tp 192 [⟨1,38,8,[(oF w 2)],0⟩,oM m,⟨1,0,5,mN w m v0 (3),0⟩,⟨1,0,2,mE m v0 g0 (g0.zx) (4),0⟩,⟨1,0,3,mr m g0 e0 (e0.head) (5) (e0.zj),0⟩,⟨2,3,1,e0.next.map encI,0⟩] [.agg to] (Ce e) [⟨1,38,8,[(oF w 2)],0⟩,oM m',⟨1,0,5,mN w m v0 (3),0⟩,⟨1,0,2,mE m v0 g0 (tk) (4),0⟩,⟨1,0,3,mr m g0 e0 (hd) (5) (ac),0⟩,⟨2,3,1,e0.next.map encI,0⟩]):tp 126 [] [Cw w,Cm m] (.lK [Cw (Aw w m v0 g0 e0 tk hd ac),Cm m',Ce e]) []:=by
 have lv:=hat.ln.lv;have lg:=hat.ln.lg;have le:=hat.ln.le;have oX:=sw.zd.2 v0 (pq hat.at_);have hp:EW w.zd m.version.toNat v0 m.zi.toNat g0 m.end_.toNat e0:=⟨⟨⟨oX.2 g0 (pq hat.mn),hat.mM,hne⟩,oX,hat.mn⟩,sw.zd,hat.at_⟩;have ownV:∀i,∀r∈mN w m v0 (i),∀c∈r,zB c=true:=λi=>zC (enc:=zJ) (λ_=>O) O _ _
 have ownG:∀i t,∀r∈mE m v0 g0 (t) (i),∀c∈r,zB c=true:=λi t=>zC (enc:=zI) (λ_=>O) O _ _
 have ownE:∀i a b,∀r∈mr m g0 e0 (a) (i) (b),∀c∈r,zB c=true:=λi a b=>zC (enc:=zF) (λ_=>O) O _ _
 have gv:(mN w m v0 (6))[m.version.toNat]?=some ((encS v0.snap++[C.sl (6) [] 2 0 v0.zp.length false,Bo v0.qd])):=pC hU;have gg:(mE m v0 g0 (tk) (7))[m.zi.toNat]?=some ([U (tk),C.sl (7) [] 3 0 g0.ends.length false]):=pC tT;have ge:(mr m g0 e0 (hd) (8) (ac))[m.end_.toNat]?=some ([U (hd),C.sl (8) [] 1 0 e0.next.length false,I (ac)]):=pC tO;have estE:((mr m g0 e0 (hd) (8) (ac)).set m.end_.toNat [U hd,C.lq 0 1 (e0.next.map encI),I ac])=(g0.ends.set m.end_.toNat (qE e0 hd ac)).map zF:=df
 have estG:((mE m v0 g0 (tk) (7)).set m.zi.toNat [U tk,C.lq 0 3 (((g0.ends.set m.end_.toNat (qE e0 hd ac)).map zF))])=(v0.zp.set m.zi.toNat (vC m g0 e0 tk hd ac)).map zI:=dg
 have estV:((mN w m v0 (6)).set m.version.toNat (encS v0.snap++[C.lq 0 2 (((v0.zp.set m.zi.toNat (vC m g0 e0 tk hd ac)).map zI)),Bo v0.qd]))=(w.zd.set m.version.toNat (xN m v0 g0 e0 tk hd ac)).map zJ:=dh
 have eshE:∀r∈((mr m g0 e0 (hd) (8) (ac)).set m.end_.toNat [U hd,C.lq 0 1 (e0.next.map encI),I ac]),∀c∈r,jE c=true/\zB c=true:=by
  exact dQ
 have eshG:∀r∈((mE m v0 g0 (tk) (7)).set m.zi.toNat [U tk,C.lq 0 3 ((mr m g0 e0 (hd) (8) (ac)).set m.end_.toNat [U hd,C.lq 0 1 (e0.next.map encI),I ac])]),∀c∈r,jE c=true/\zB c=true:=by
  exact dM
 have eshV:∀r∈((mN w m v0 (6)).set m.version.toNat (encS v0.snap++[C.lq 0 2 ((mE m v0 g0 (tk) (7)).set m.zi.toNat [U tk,C.lq 0 3 ((mr m g0 e0 (hd) (8) (ac)).set m.end_.toNat [U hd,C.lq 0 1 (e0.next.map encI),I ac])]),Bo v0.qd])),∀c∈r,jE c=true/\zB c=true:=by
  exact dL
 by_cases hn:m.listen<0
 all_goals
  refine ab func126 ?_;(repeat (first|refine uA ?_|refine uB ?_))
  refine ah (zV w m ok hl) ?_;refine⟨λ_=>dd ?_,λh=>absurd ((hs).symm.trans h:true=false) ar⟩;refine tf ?_
  (repeat (first|refine uA ?_|refine uB ?_))
  refine .inl ⟨⟨true,[2],[1],[0]⟩,au,uH ?_⟩;refine ah j4 ?_;refine td ?_
  (refine⟨aw,aw,pf 192,dc,dd ?_⟩)
  refine tf ?_
  refine qg [] [oW w,oM m,⟨1,38,8,[nU],0⟩,⟨1,95,44,[nT],0⟩,oE qV,⟨1,0,5,mN w m v0 (6),0⟩,⟨1,0,2,mE m v0 g0 (g0.zx) (7),0⟩,⟨1,0,3,mr m g0 e0 (e0.head) (8) (e0.zj),0⟩,⟨2,3,1,e0.next.map encI,0⟩] (rx:=.agg (oF w 5)) (vU w sw w.zd O hp) (ze (zl (ownV 1)) (ze (zl (ownG 2 _)) (ze (zl (ownE 3 _ _)) O))) O O O O O uV O (dd ?_);refine qg [9,10,5,6,7,8] [oW w,oM m,⟨1,38,8,[nU],0⟩,⟨1,95,44,[nT],0⟩,oE qV,⟨1,0,5,mN w m v0 (6),0⟩,⟨1,0,2,mE m v0 g0 (tk) (7),0⟩,⟨1,0,3,mr m g0 e0 (hd) (8) (ac),0⟩,⟨2,3,1,e0.next.map encI,0⟩,⟨1,38,8,[(oF w 5)],0⟩,oM m'] (rx:=Ce e) h (ze O (ze O (ze (zl (ownV 3)) (ze (zl (ownG 4 _)) (ze (zl (ownE 5 _ _)) O))))) tG O O O (ze O (ze O (ze O (ze O (ze O (ze (zl (ownV 6)) (ze (zl (ownG 7 _)) (ze (zl (ownE 8 _ _)) O)))))))) uV O (dd ?_);refine .inl ⟨⟨false,[0,1,2],[9,10,11],[]⟩,au,uH ?_⟩;refine td ?_
  refine⟨.inl O,_,(((zt.qa 7 m.end_.toNat 1 O ge O O (.inr O) aj aj (shut_map (enc:=encI) (λ_=>O) _) (ownE 8 _ _)).trans (zt.qa 6 m.zi.toNat 1 O gg O O (.inl O) aj aj eshE (ownG 7 _))).trans (zt.qa 5 m.version.toNat 3 O gv O O (.inl O) aj aj eshG (ownV 6))).trans (zt.qa 2 0 4 O O O O (.inl O) aj aj eshV (qk O)),?_⟩;show _=some (C.lK [C.agg [I w.zn,I w.current,I w.lock,lI w.pins,C.lq 0 5 ((w.zd.set m.version.toNat (xN m v0 g0 e0 tk hd ac)).map zJ),lL w.zf,mQ w.counts,lR w.zr],Cm m',Ce e]);rw[<-estV,<-estG,<-estE]
  rfl
def zu0{w:Wor}{m m':lh}{e:lD}{v0:lJ}{g0:Gr}{e0:En}{tk hd ac:Int}(sw:jF w)(ok:nk w)(hl:i64 m.listen)(hpc:m.pc=12)(hs:ql w m=true)(hat:m7 w m v0 g0 e0)(hne:e0.next≠[])
 (h:tp 193 [⟨1,38,8,[(oF w 2)],0⟩,oM m,⟨1,0,5,mN w m v0 (3),0⟩,⟨1,0,2,mE m v0 g0 (g0.zx) (4),0⟩,⟨1,0,3,mr m g0 e0 (e0.head) (5) (e0.zj),0⟩,⟨2,3,1,e0.next.map encI,0⟩] [.agg to] (Ce e) [⟨1,38,8,[(oF w 2)],0⟩,oM m',⟨1,0,5,mN w m v0 (3),0⟩,⟨1,0,2,mE m v0 g0 (tk) (4),0⟩,⟨1,0,3,mr m g0 e0 (hd) (5) (ac),0⟩,⟨2,3,1,e0.next.map encI,0⟩]):tp 126 [] [Cw w,Cm m] (.lK [Cw (Aw w m v0 g0 e0 tk hd ac),Cm m',Ce e]) []:=by
 have lv:=hat.ln.lv;have lg:=hat.ln.lg;have le:=hat.ln.le;have oX:=sw.zd.2 v0 (pq hat.at_);have hp:EW w.zd m.version.toNat v0 m.zi.toNat g0 m.end_.toNat e0:=⟨⟨⟨oX.2 g0 (pq hat.mn),hat.mM,hne⟩,oX,hat.mn⟩,sw.zd,hat.at_⟩;have ownV:∀i,∀r∈mN w m v0 (i),∀c∈r,zB c=true:=λi=>zC (enc:=zJ) (λ_=>O) O _ _
 have ownG:∀i t,∀r∈mE m v0 g0 (t) (i),∀c∈r,zB c=true:=λi t=>zC (enc:=zI) (λ_=>O) O _ _
 have ownE:∀i a b,∀r∈mr m g0 e0 (a) (i) (b),∀c∈r,zB c=true:=λi a b=>zC (enc:=zF) (λ_=>O) O _ _
 have gv:(mN w m v0 (6))[m.version.toNat]?=some ((encS v0.snap++[C.sl (6) [] 2 0 v0.zp.length false,Bo v0.qd])):=pC hU;have gg:(mE m v0 g0 (tk) (7))[m.zi.toNat]?=some ([U (tk),C.sl (7) [] 3 0 g0.ends.length false]):=pC tT;have ge:(mr m g0 e0 (hd) (8) (ac))[m.end_.toNat]?=some ([U (hd),C.sl (8) [] 1 0 e0.next.length false,I (ac)]):=pC tO;have estE:((mr m g0 e0 (hd) (8) (ac)).set m.end_.toNat [U hd,C.lq 0 1 (e0.next.map encI),I ac])=(g0.ends.set m.end_.toNat (qE e0 hd ac)).map zF:=df
 have estG:((mE m v0 g0 (tk) (7)).set m.zi.toNat [U tk,C.lq 0 3 (((g0.ends.set m.end_.toNat (qE e0 hd ac)).map zF))])=(v0.zp.set m.zi.toNat (vC m g0 e0 tk hd ac)).map zI:=dg
 have estV:((mN w m v0 (6)).set m.version.toNat (encS v0.snap++[C.lq 0 2 (((v0.zp.set m.zi.toNat (vC m g0 e0 tk hd ac)).map zI)),Bo v0.qd]))=(w.zd.set m.version.toNat (xN m v0 g0 e0 tk hd ac)).map zJ:=dh
 have eshE:∀r∈((mr m g0 e0 (hd) (8) (ac)).set m.end_.toNat [U hd,C.lq 0 1 (e0.next.map encI),I ac]),∀c∈r,jE c=true/\zB c=true:=by
  exact dQ
 have eshG:∀r∈((mE m v0 g0 (tk) (7)).set m.zi.toNat [U tk,C.lq 0 3 ((mr m g0 e0 (hd) (8) (ac)).set m.end_.toNat [U hd,C.lq 0 1 (e0.next.map encI),I ac])]),∀c∈r,jE c=true/\zB c=true:=by
  exact dM
 have eshV:∀r∈((mN w m v0 (6)).set m.version.toNat (encS v0.snap++[C.lq 0 2 ((mE m v0 g0 (tk) (7)).set m.zi.toNat [U tk,C.lq 0 3 ((mr m g0 e0 (hd) (8) (ac)).set m.end_.toNat [U hd,C.lq 0 1 (e0.next.map encI),I ac])]),Bo v0.qd])),∀c∈r,jE c=true/\zB c=true:=by
  exact dL
 by_cases hn:m.listen<0
 all_goals
  refine ab func126 ?_;(repeat (first|refine uA ?_|refine uB ?_))
  refine ah (zV w m ok hl) ?_;refine⟨λ_=>dd ?_,λh=>absurd ((hs).symm.trans h:true=false) ar⟩;refine tf ?_
  (repeat (first|refine uA ?_|refine uB ?_))
  refine .inl ⟨⟨true,[2],[1],[0]⟩,au,uH ?_⟩;refine ah j4 ?_;refine td ?_
  (refine⟨aw,aw,pf 193,dc,dd ?_⟩)
  refine tf ?_
  refine qg [] [oW w,oM m,⟨1,38,8,[nU],0⟩,⟨1,95,44,[nT],0⟩,oE qV,⟨1,0,5,mN w m v0 (6),0⟩,⟨1,0,2,mE m v0 g0 (g0.zx) (7),0⟩,⟨1,0,3,mr m g0 e0 (e0.head) (8) (e0.zj),0⟩,⟨2,3,1,e0.next.map encI,0⟩] (rx:=.agg (oF w 5)) (vU w sw w.zd O hp) (ze (zl (ownV 1)) (ze (zl (ownG 2 _)) (ze (zl (ownE 3 _ _)) O))) O O O O O uV O (dd ?_);refine qg [9,10,5,6,7,8] [oW w,oM m,⟨1,38,8,[nU],0⟩,⟨1,95,44,[nT],0⟩,oE qV,⟨1,0,5,mN w m v0 (6),0⟩,⟨1,0,2,mE m v0 g0 (tk) (7),0⟩,⟨1,0,3,mr m g0 e0 (hd) (8) (ac),0⟩,⟨2,3,1,e0.next.map encI,0⟩,⟨1,38,8,[(oF w 5)],0⟩,oM m'] (rx:=Ce e) h (ze O (ze O (ze (zl (ownV 3)) (ze (zl (ownG 4 _)) (ze (zl (ownE 5 _ _)) O))))) tG O O O (ze O (ze O (ze O (ze O (ze O (ze (zl (ownV 6)) (ze (zl (ownG 7 _)) (ze (zl (ownE 8 _ _)) O)))))))) uV O (dd ?_);refine .inl ⟨⟨false,[0,1,2],[9,10,11],[]⟩,au,uH ?_⟩;refine td ?_
  refine⟨.inl O,_,(((zt.qa 7 m.end_.toNat 1 O ge O O (.inr O) aj aj (shut_map (enc:=encI) (λ_=>O) _) (ownE 8 _ _)).trans (zt.qa 6 m.zi.toNat 1 O gg O O (.inl O) aj aj eshE (ownG 7 _))).trans (zt.qa 5 m.version.toNat 3 O gv O O (.inl O) aj aj eshG (ownV 6))).trans (zt.qa 2 0 4 O O O O (.inl O) aj aj eshV (qk O)),?_⟩;show _=some (C.lK [C.agg [I w.zn,I w.current,I w.lock,lI w.pins,C.lq 0 5 ((w.zd.set m.version.toNat (xN m v0 g0 e0 tk hd ac)).map zJ),lL w.zf,mQ w.counts,lR w.zr],Cm m',Ce e]);rw[<-estV,<-estG,<-estE]
  rfl
end Go.Wor
